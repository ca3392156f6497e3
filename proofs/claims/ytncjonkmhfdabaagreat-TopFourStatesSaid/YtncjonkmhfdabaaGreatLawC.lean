/- The contracts of the functions that the law reaches, one after the other, and at the end the law's card. -/
import Derived.Test.YtncjonkmhfdabaaGreatLawB
import Derived.LaidEql
namespace Go.Proofs
open Go Go.Sh Go.RowKit
/- Collect; Intersect; compatible; pair -/
section
variable {R : Ending → World → Prop} {S S2 : Nat → Prop} {w : World} {a a2 : Option Addr} {n c n2 c2 : Nat}
set_option maxRecDepth 20000 in
theorem AppendSeqI_spec {gf : FuncId} {cap : List Value} {xs : List Int} {Rd : Nat → Prop} (hok : okFn Tryz.prog gf = true) (hit : ∀ v1, Ext w v1 → IterO Tryz.prog gf cap xs intE Rd v1) (hRd : ∀ k, Rd k → k < w.heap.size) (hl : xs.length ≤ 1000000)
    (h : ∀ oa on oc w', OwnL Sh.encI w' w.heap.size 3 oa on oc xs → Ext w w' → R (.returned (.slice oa on oc)) w') :
    Calls Tryz.prog F_slices_AppendSeq_of_int_int ⟨[.slice none 0 0, .func (.func gf) ⟨[]⟩ ⟨cap⟩]⟩ w R := by
  apply c_slices_AppendSeq_of_int_int
  refine al_intro fun b3 w4 hb3 B3 e4 s4 base => ?_
  have l3 := B3.lt
  have z4 := e4.size
  rw [cd_slices_AppendSeq_of_int_int_1]
  refine RFw_lawO anA_slices_AppendSeq_of_int_int_1 anB_slices_AppendSeq_of_int_int_1 (gf := gf) rfl hok (xs := xs) (E := intE) (Rd := Rd)
    (fun v1 he => hit v1 (ext_trans e4 he)) (fun y vs hE => by rw [show vs = _ from hE]; rfl) (by decide) (fun k hk => by have := hRd k hk; omega) (fun k => k = b3) (fun k hk => ⟨by omega, fun hr => by have := hRd k hr; omega⟩)
    (fun pre S1 W => ∃ (oa : Option Addr) (on oc : Nat), Blk W b3 [.slice oa on oc] 30 ∧ OwnL Sh.encI W w4.heap.size 3 oa on oc pre ∧ (∀ k, S1 k ↔ k = b3 ∨ bk oa k) ∧ Ext w W) (fun _ _ => False) (fun _ _ => False)
    ?_ (fun _ _ _ h => h.elim) (fun _ _ _ h => h.elim) ⟨none, 0, 0, B3, Owns.nil _ _ _ _, fun k => by simp [bk], e4⟩ ?_ ?_ (fun _ _ _ _ _ _ _ h => h.elim) (fun _ _ _ _ _ _ _ h => h.elim)
  · rintro pre S1 W W' ⟨oa, on, oc, g1, g3, g5, g6⟩ hc
    exact ⟨oa, on, oc, hc.blk g1 (fun hh => hh.2 ((g5 _).2 (.inl rfl))), Owns.chg g3 hc fun k hk hh => hh.2 ((g5 k).2 (.inr hk)), g5, ext_chgS g6 hc fun k hk => by omega⟩
  · rintro pre x vs S1 W l hE hpre hl1 hl2 hl3 hS1 ⟨oa, on, oc, g1, g3, g5, g6⟩
    obtain rfl : vs = [.int .i64 x] := hE
    refine Eq.mpr (er_slices_AppendSeq_of_int_int_1 base _ _ _ _ _ _ _ _ _ _ _ _ _) ?_
    refine ⟨Below.refl _ _, fun W2 hU => ?_⟩
    have zU := hU.size
    have hpl : pre.length + 1 ≤ xs.length := by have := hpre.length_le; simpa using this
    have hUc : Chg (fun k => k = l) W W2 := ⟨hU.os, hU.tape, hU.output, by omega, fun k _ hk => hU.block k hk⟩
    have nl : ¬ bk oa l := fun hh => hl3 ((g5 l).2 (.inr hh))
    have nb : b3 ≠ l := fun hh => hl3 ((g5 l).2 (.inl hh.symm))
    have h1 := hUc.blk g1 (fun hh => nb hh)
    have h2 : OwnL Sh.encI W2 w4.heap.size 3 oa on oc pre := Owns.chg g3 hUc fun k hk hh => nl (hh ▸ hk)
    have E2 : Ext w W2 := ext_chgS g6 hUc fun k hk => by omega
    have hon : pre.length = on := OwnL.length g3
    have n3 : ¬ bk oa b3 := fun hh => by have := (Owns.bk g3 hh).1; omega
    refine dr_ok ⟨oa, on, oc, b0_cell h1, ?_⟩
    refine OwnL.push (E := Sh.encI) slT_int h2 (by have := E2.size; have := g1.lt; omega) x (by omega) (by omega) fun a' c' w23 ho hc hn => ?_
    have zc := hc.size
    have h1' := hc.blk h1 n3
    refine dr_ok (stL_one h1' rfl fun w24 B24 c24 s24 => ?_)
    have n3' : ¬ bk a' b3 := fun hh => by
      rcases hn _ hh with q | q
      · exact n3 q
      · have := h1.lt; omega
    have sub4 : ∀ j, bk a' j → (S1 j ∨ W.heap.size ≤ j) := fun j hj => (hn j hj).elim (fun h => .inl ((g5 j).2 (.inr h))) (fun h => .inr (by omega))
    have ho' : OwnL Sh.encI w24 w4.heap.size 3 a' (on + 1) c' (pre ++ [x]) := Owns.chg ho c24 fun k hk e => n3' (e ▸ hk)
    refine ⟨(hc.mono fun j _ hj => .inl ((g5 j).2 (.inr hj))).trans (c24.mono fun j _ hj => .inl ((g5 j).2 (.inl hj))), fun j => j = b3 ∨ bk a' j, fun j hj => ⟨hj.elim (fun h => .inl ((g5 j).2 (.inl h))) (sub4 j), hj.elim (fun h => by subst h; exact B24.lt) (fun h => (Owns.bk ho' h).2)⟩, a', on + 1, c', B24, ho', fun j => Iff.rfl, ?_⟩
    exact ext_chgS (ext_chgS E2 hc fun j hj => by have := (Owns.bk h2 hj).1; omega) c24 fun j hj => by omega
  · rintro D S1 W hD1 hD2 hD3 hD4 ⟨oa, on, oc, g1, g3, g5, g6⟩
    have hDb : ¬ bk oa D := fun hh => hD3 ((g5 D).2 (.inr hh))
    refine ⟨oa, on, oc, b0_cell g1, retD_one hD4 ?_⟩
    have hcp : Chg (fun k => k = D) W (W.putObj D (.deferred none)) := Chg.put W D _ rfl
    have ho := Owns.chg g3 hcp fun k hk hh => hDb (hh ▸ hk)
    refine h oa on oc _ ⟨ho.1, ho.2.imp id ?_⟩ (ext_put g6 (by omega) _)
    rintro ⟨g, cap, cur, p1, p2, p3⟩
    exact ⟨g, cap, cur, p1, by omega, p3⟩
theorem Collect_spec {gf : FuncId} {cap : List Value} {xs : List Int} {Rd : Nat → Prop} (hok : okFn Tryz.prog gf = true) (hit : ∀ v1, Ext w v1 → IterO Tryz.prog gf cap xs intE Rd v1) (hRd : ∀ k, Rd k → k < w.heap.size) (hl : xs.length ≤ 1000000)
    (h : ∀ oa oc w', Ext w w' → R (.returned (.slice oa xs.length oc)) w') : Calls Tryz.prog F_slices_Collect_of_int ⟨[.func (.func gf) ⟨[]⟩ ⟨cap⟩]⟩ w R := by
  apply c_slices_Collect_of_int
  refine AppendSeqI_spec hok hit hRd hl fun oa on oc w' ho e' => ⟨_, _, _, rfl, ?_⟩
  have := OwnL.length ho
  subst this
  exact h oa oc w' e'
variable {A B : List Int}
theorem set_strict {A : List Int} (h : SetI A) : strictI A := by
  unfold strictI
  rw [List.pairwise_iff_getElem]
  intro i j hi hj hij
  have := h.2.lt hij hj
  rw [gZ_at hi, gZ_at hj] at this
  omega
theorem has_spec {h' : HasAt w 0 S A → True} (h1 : RowV vI S w a n A) (hl : A.length ≤ 1000000) (hA : SetI A) (h : ∀ hb w', hb = w.heap.size → HasAt w' hb S A → Ext w w' → w'.heap.size = hb + 1 → R (.returned (hasF hb)) w') : Calls Tryz.prog F_intset_has ⟨[.slice a n c]⟩ w R := by
  apply c_intset_has
  exact al_intro fun b w3 hb B e s => h b w3 hb ⟨⟨a, n, c, B, h1.ext e⟩, hl, set_strict hA⟩ e s
set_option maxRecDepth 20000 in
theorem Intersect_spec (h1 : RowV vI S w a n A) (h2 : RowV vI S2 w a2 n2 B) (hA : SetI A) (hB : SetI B) (hl1 : A.length ≤ 1000000) (hl2 : B.length ≤ 1000000)
    (h : ∀ oa oc w', Ext w w' → R (.returned (.tuple ⟨[.slice oa (bothZ A B 64).length oc, .int .i64 0]⟩)) w') : Calls Tryz.prog F_intset_Intersect ⟨[.slice a n c, .slice a2 n2 c2]⟩ w R := by
  apply c_intset_Intersect
  apply c_intset_combine
  have hn := h1.1
  have hn2 := h2.1
  refine al_intro fun b4 w5 hb4 B4 e5 s5 => ?_
  intro K6 hK6
  have k6 : K6 w5 := by
    refine hK6 w5 fun _ => ?_
    have h1 := (h1.imp (S' := fun k => S k ∧ k < w.heap.size) fun k hk hl => ⟨hk, hl⟩).ext e5
    have h2 := (h2.imp (S' := fun k => S2 k ∧ k < w.heap.size) fun k hk hl => ⟨hk, hl⟩).ext e5
    refine has_spec (h' := fun _ => trivial) h1 hl1 hA fun ba w9 hba HA e9 s9 => ⟨_, _, _, rfl, ?_⟩
    refine has_spec (h' := fun _ => trivial) (h2.ext e9) hl2 hB fun bb w12 hbb HB e12 s12 => ⟨_, _, _, rfl, ?_⟩
    refine al_intro fun b14 w15 hb14 B14 e15 s15 => al_intro fun b16 w17 hb16 B16 e17 s17 => ?_
    have z5 := e5.size
    have z9 := e9.size
    have z12 := e12.size
    have z15 := e15.size
    refine stL_one (B14.ext e17) rfl fun w18 C14 c18 s18 => ?_
    refine stL_one (c18.blk B16 (by omega)) rfl fun w19 C16 c19 s19 => ?_
    have hc : Chg (fun k => k = b14 ∨ k = b16) w17 w19 := (c18.mono fun k _ hk => .inl hk).trans (c19.mono fun k _ hk => .inr hk)
    have e519 : Ext w w19 := ext_chgS (ext_trans e5 (ext_trans e9 (ext_trans e12 (ext_trans e15 e17)))) hc fun k hk => by omega
    have eAll := ext_trans e12 (ext_trans e15 e17)
    have C : CmbAt w19 b4 b14 b16 ba bb (fun k => S k ∧ k < w.heap.size) (fun k => S2 k ∧ k < w.heap.size) A B :=
      ⟨hc.blk ((B4.ext e9).ext eAll) (by omega), c19.blk C14 (by omega), C16, (HA.ext eAll).chg hc (by omega) fun k hk _ => by have := hk.2; omega, (HB.ext (ext_trans e15 e17)).chg hc (by omega) fun k hk _ => by have := hk.2; omega⟩
    apply c_intset_members
    refine al_intro fun b3 w20 hb3 B3 e20 s20 => al_intro fun b5 w21 hb5 B5 e21 s21 => ⟨_, _, _, rfl, ?_⟩
    have z19 := e519.size
    have e1921 := ext_trans e20 e21
    have zz : w19.heap.size + 2 = w21.heap.size := by omega
    refine Collect_spec (gf := F_intset_members_1) (xs := bothZ A B 64) (by kernel_rfl) (Rd := fun k => k < w21.heap.size) (fun v1 ev => ?_) (fun k hk => hk) (by have := bothZ_len A B 64; omega) fun oa oc w24 e24 => ⟨_, _, _, rfl, _, _, _, _, rfl, h oa oc w24 (ext_trans e519 (ext_trans e1921 e24))⟩
    have zv := ev.size
    have C2 := (C.ext e1921).ext ev
    refine members_iterO ((B3.ext e21).ext ev) (B5.ext ev) C2 (fun k hk => by omega) fun k hk q => ?_
    have l4 := C.f4.lt
    obtain ⟨_, _, _, qA, _⟩ := C.hA.at_
    obtain ⟨_, _, _, qB, _⟩ := C.hB.at_
    have lA := qA.lt
    have lB := qB.lt
    rcases q with rfl | rfl | rfl | rfl | rfl | rfl | rfl | q | q
    · omega
    · omega
    · omega
    · omega
    · omega
    · omega
    · omega
    · have := q.2; omega
    · have := q.2; omega
  refine setCheck_spec (h1.ext e5) (by omega) fun e he _ => ⟨_, rfl, br_split (fun g => absurd (he.2 hA) g) (fun _ => ?_)⟩
  exact setCheck_spec (h2.ext e5) (by omega) fun e he _ => ⟨_, rfl, br_split (fun g => absurd (he.2 hB) g) (fun _ => k6)⟩
end
end Go.Proofs
namespace Go.Proofs
open Go Go.Sh Go.RowKit
/- split.compatible, split.pair -/
def zN (l : List Nat) : List Int := l.map fun x : Nat => (x : Int)
theorem zN_len (l : List Nat) : (zN l).length = l.length := by unfold zN; rw [List.length_map]
theorem zN_mem {l : List Nat} {x : Nat} : (x : Int) ∈ zN l ↔ x ∈ l := by
  unfold zN
  rw [List.mem_map]
  constructor
  · rintro ⟨y, hy, h⟩
    have : y = x := by omega
    subst this; exact hy
  · exact fun h => ⟨x, h, rfl⟩
theorem zN_get {l : List Nat} {i : Nat} (h : i < l.length) : gZ (zN l) i = (l[i] : Int) := by
  rw [gZ_at (by rw [zN_len]; exact h)]
  unfold zN
  rw [List.getElem_map]
theorem zN_inj : ∀ {a b : List Nat}, zN a = zN b → a = b
  | [], [], _ => rfl
  | [], _ :: _, h => by cases h
  | _ :: _, [], h => by cases h
  | x :: a, y :: b, h => by
    have h : (x : Int) :: zN a = (y : Int) :: zN b := h
    rw [List.cons.injEq] at h
    rw [zN_inj h.2]
    congr 1; omega
theorem nodup_le {α : Type} [DecidableEq α] : ∀ {l1 l2 : List α}, l1.Nodup → (∀ x ∈ l1, x ∈ l2) → l1.length ≤ l2.length
  | [], l2, _, _ => Nat.zero_le _
  | y :: t, l2, hn, hs => by
    rw [List.nodup_cons] at hn
    have hy := hs y List.mem_cons_self
    have := nodup_le (l1 := t) (l2 := l2.erase y) hn.2 fun z hz => by
      have hzy : z ≠ y := fun q => hn.1 (q ▸ hz)
      exact (List.mem_erase_of_ne hzy).2 (hs z (List.mem_cons_of_mem _ hz))
    rw [List.length_erase_of_mem hy] at this
    have := List.length_pos_of_mem hy
    rw [List.length_cons]; omega
theorem nodup_len {α : Type} [DecidableEq α] {l1 l2 : List α} (h1 : l1.Nodup) (h2 : l2.Nodup) (h : ∀ x, x ∈ l1 ↔ x ∈ l2) : l1.length = l2.length :=
  Nat.le_antisymm (nodup_le h1 fun x hx => (h x).1 hx) (nodup_le h2 fun x hx => (h x).2 hx)
theorem bothZ_zN (a b : List Nat) : ∀ m, bothZ (zN a) (zN b) m = zN ((List.range m).filter fun k => decide (k ∈ a) && decide (k ∈ b))
  | 0 => rfl
  | m + 1 => by
    rw [bothZ, bothZ_zN a b m, List.range_succ, List.filter_append]
    unfold zN
    rw [List.map_append]
    congr 1
    have e1 : decide ((m : Int) ∈ List.map (fun x : Nat => (x : Int)) a) = decide (m ∈ a) := decide_eq_decide.2 zN_mem
    have e2 : decide ((m : Int) ∈ List.map (fun x : Nat => (x : Int)) b) = decide (m ∈ b) := decide_eq_decide.2 zN_mem
    rw [e1, e2]
    by_cases h : (decide (m ∈ a) && decide (m ∈ b)) = true
    · rw [if_pos h, List.filter_cons, if_pos h]; rfl
    · rw [if_neg h, List.filter_cons, if_neg h]; rfl
structure SetN (a : List Nat) : Prop where
  asc : a.Pairwise (· < ·)
  lt : ∀ x ∈ a, x ≤ 63
theorem SetN.nd {a : List Nat} (h : SetN a) : a.Nodup := h.asc.imp fun h e => by omega
theorem SetN.len {a : List Nat} (h : SetN a) : a.length ≤ 64 := by
  have := nodup_le (l2 := List.range 64) h.nd fun x hx => List.mem_range.2 (by have := h.lt x hx; omega)
  rwa [List.length_range] at this
theorem setI_zN {a : List Nat} : SetI (zN a) ↔ SetN a := by
  constructor
  · rintro ⟨h1, h2⟩
    refine ⟨?_, fun x hx => ?_⟩
    · rw [List.pairwise_iff_getElem]
      intro i j hi hj hij
      have := h2.lt hij (by rw [zN_len]; exact hj)
      rw [zN_get hi, zN_get hj] at this
      omega
    · obtain ⟨i, hi, rfl⟩ := List.mem_iff_getElem.1 hx
      have := (h1 i (by rw [zN_len]; exact hi)).2
      rw [zN_get hi] at this
      omega
  · rintro ⟨h1, h2⟩
    refine ⟨fun i hi => ?_, fun i hi => ?_⟩
    · rw [zN_len] at hi
      rw [zN_get hi]
      have := h2 _ (List.getElem_mem hi)
      omega
    · rw [zN_len] at hi
      rw [zN_get (i := i) (by omega), zN_get (i := i + 1) hi]
      have := List.pairwise_iff_getElem.1 h1 i (i + 1) (by omega) hi (by omega)
      omega
theorem both_len {a b : List Nat} (ha : SetN a) (hb : SetN b) : (bothZ (zN a) (zN b) 64).length = (bothF a b).length := by
  rw [bothZ_zN, zN_len]
  refine nodup_len (List.nodup_range.sublist List.filter_sublist) (ha.nd.sublist List.filter_sublist) fun x => ?_
  unfold bothF
  rw [List.mem_filter, List.mem_filter, List.mem_range]
  constructor
  · rintro ⟨_, h⟩
    rw [Bool.and_eq_true] at h
    exact ⟨of_decide_eq_true h.1, h.2⟩
  · rintro ⟨h1, h2⟩
    exact ⟨by have := ha.lt x h1; omega, by rw [Bool.and_eq_true]; exact ⟨decide_eq_true h1, h2⟩⟩
def allC (L : List (List Nat)) : Prop := ∀ i k, i < k → k < L.length → compF (gS L i) (gS L k) = true
theorem gS_at {L : List (List Nat)} {i : Nat} (h : i < L.length) : gS L i = L[i] := by
  unfold gS
  rw [List.getD_eq_getElem?_getD, List.getElem?_eq_getElem h]; rfl
section
variable {R : Ending → World → Prop} {S S2 : Nat → Prop} {w : World} {a a2 : Option Addr} {n c n2 c2 : Nat}
theorem compatible_spec {A B : List Nat} (h1 : RowV vI S w a n (zN A)) (h2 : RowV vI S2 w a2 n2 (zN B)) (hA : SetN A) (hB : SetN B)
    (h : ∀ w', Ext w w' → R (.returned (.bool (compF A B))) w') : Calls Tryz.prog F_split_compatible ⟨[.slice a n c, .slice a2 n2 c2]⟩ w R := by
  apply c_split_compatible
  have hn := h1.1
  have hn2 := h2.1
  have lA := hA.len
  have lB := hB.len
  rw [zN_len] at hn hn2
  refine Intersect_spec h1 h2 (setI_zN.2 hA) (setI_zN.2 hB) (by rw [zN_len]; omega) (by rw [zN_len]; omega) fun oa oc w4 e4 => ⟨_, _, _, _, rfl, ?_⟩
  rw [both_len hA hB]
  have := h w4 e4
  unfold compF at this
  refine br_split (fun g => ?_) (fun g => br_split (fun g2 => ?_) (fun g2 => ?_))
  · rw [decide_eq_true (by omega), Bool.true_or] at this; exact this
  · rw [decide_eq_true (p := (bothF A B).length = A.length) (by omega), Bool.true_or, Bool.or_true] at this; exact this
  · rw [decide_eq_false (p := (bothF A B).length = 0) (by omega), decide_eq_false (p := (bothF A B).length = A.length) (by omega), Bool.false_or, Bool.false_or, decide_eq_decide.2 (show (bothF A B).length = B.length ↔ (((bothF A B).length : Nat) : Int) = (n2 : Int) by omega)] at this
    exact this
theorem rowL_get {L : List (List Nat)} (h : RowV vIs S w a n (L.map zN)) {i : Nat} (hi : i < L.length) :
    ∃ p a' c', (∀ K : Addr → Prop, K p → idx a n (i : Int) 1 K) ∧ w.cell? p = some (.slice a' (gS L i).length c') ∧ (gS L i).length ≤ c' ∧ RowV vI S w a' (gS L i).length (zN (gS L i)) := by
  have hi' : (L.map zN)[i]? = some (zN (gS L i)) := by rw [List.getElem?_map, List.getElem?_eq_getElem hi, gS_at hi]; rfl
  obtain ⟨b, o, a', c', h1, _, _, h2, h3, h4⟩ := h.getS hi'
  rw [zN_len] at h2 h3 h4
  exact ⟨_, a', c', h1, h2, h3, h4⟩
theorem pair_spec {L : List (List Nat)} (h1 : RowV vIs S w a n (L.map zN)) (hs : n ≤ 1000000) (hL : ∀ s ∈ L, SetN s) (h : ∀ (i k : Int) (v : Bool) w', Ext w w' → (v = true ↔ allC L) → R (.returned (.tuple ⟨[.int .i64 i, .int .i64 k, .bool v]⟩)) w') :
    Calls Tryz.prog F_split_pair ⟨[.slice a n c]⟩ w R := by
  apply c_split_pair
  have hn := h1.1
  rw [List.length_map] at hn
  refine ⟨fun i W m => ∃ q : Nat, i = q ∧ q ≤ n ∧ m = n - q ∧ Ext w W ∧ (∀ i k, i < q → i < k → k < L.length → compF (gS L i) (gS L k) = true), ⟨_, 0, rfl, Nat.zero_le _, rfl, Below.refl _ _, fun i k hi => by omega⟩, ?_⟩
  rintro _ W m ⟨q, rfl, hq, rfl, eW, hall⟩ _
  refine br_split (fun hlt => ?_) (fun hge => h _ _ true W eW ⟨fun _ i k h1 h2 => hall i k (by omega) h1 h2, fun _ => rfl⟩)
  refine ⟨fun i V m => ∃ k : Nat, i = k ∧ q + 1 ≤ k ∧ k ≤ n ∧ m = n - k ∧ Ext w V ∧ (∀ j, q < j → j < k → compF (gS L q) (gS L j) = true), ⟨_, q + 1, by rw [wrap_nat (by omega)], Nat.le_refl _, by omega, rfl, eW, fun j h1 h2 => by omega⟩, ?_⟩
  rintro _ V m' ⟨k, rfl, hk1, hk2, rfl, eV, hin⟩ _
  refine br_split (fun hlt2 => ?_) (fun hge2 => ⟨n - (q + 1), by omega, q + 1, by rw [wrap_nat (by omega)], by omega, rfl, eV, fun i k' hi h1 h2 => ?_⟩)
  · unfold drw
    have ed := ext_drew V
    have eD := ext_trans eV ed
    generalize V.drew = w12 at *
    obtain ⟨p1, x1, y1, i1, d1, _, r1⟩ := rowL_get (h1.ext eD) (i := q) (by omega)
    obtain ⟨p2, x2, y2, i2, d2, _, r2⟩ := rowL_get (h1.ext eD) (i := k) (by omega)
    refine i1 _ ⟨_, _, _, d1, i2 _ ⟨_, _, _, d2, ?_, trivial⟩⟩
    refine compatible_spec r1 r2 (hL _ (gS_mem (by omega))) (hL _ (gS_mem (by omega))) fun w18 e18 => ⟨_, rfl, ?_⟩
    have e018 := ext_trans eD e18
    refine br_cases (fun g => h _ _ false w18 e018 ⟨fun x => absurd x (by decide), fun x => ?_⟩) (fun g => ?_)
    · have := x q k (by omega) (by omega)
      rw [this] at g; cases g
    · refine ⟨n - (k + 1), by omega, k + 1, by rw [wrap_nat (by omega)], by omega, by omega, rfl, e018, fun j h1 h2 => ?_⟩
      by_cases e : j = k
      · subst e
        cases hc : compF (gS L q) (gS L j) with
        | true => rfl
        | false => rw [hc] at g; cases g
      · exact hin j h1 (by omega)
  · by_cases e : i = q
    · subst e; exact hin k' h1 (by omega)
    · exact hall i k' (by omega) h1 h2
end
end Go.Proofs
namespace Go.Proofs
open Go Go.Sh Go.RowKit
/- lists of lists of numbers: cloned, sorted by their lengths -/
theorem slT_ints : SlT Tryz.prog 29 30 1 24 (.slice none 0 0) := ⟨by kernel_rfl, by kernel_rfl, rfl, by decide⟩
theorem mem_swp {α : Type} {M : List α} {i j : Nat} (hi : i < M.length) (hj : j < M.length) (hne : i ≠ j) (x : α) : x ∈ (M.set j M[i]).set i M[j] ↔ x ∈ M := by
  rw [List.mem_iff_getElem?, List.mem_iff_getElem?]
  constructor
  · rintro ⟨k, hk⟩
    rw [List.getElem?_set] at hk
    by_cases e : i = k
    · rw [if_pos e, if_pos (by simp; omega)] at hk
      exact ⟨j, by rw [List.getElem?_eq_getElem hj]; exact hk⟩
    · rw [if_neg e, List.getElem?_set] at hk
      by_cases e2 : j = k
      · rw [if_pos e2, if_pos hj] at hk
        exact ⟨i, by rw [List.getElem?_eq_getElem hi]; exact hk⟩
      · rw [if_neg e2] at hk; exact ⟨k, hk⟩
  · rintro ⟨k, hk⟩
    by_cases e : k = j
    · refine ⟨i, ?_⟩
      rw [List.getElem?_set, if_pos rfl, if_pos (by simp; omega)]
      rw [e, List.getElem?_eq_getElem hj] at hk; exact hk
    · by_cases e2 : k = i
      · refine ⟨j, ?_⟩
        rw [List.getElem?_set, if_neg hne, List.getElem?_set, if_pos rfl, if_pos hj]
        rw [e2, List.getElem?_eq_getElem hi] at hk; exact hk
      · refine ⟨k, ?_⟩
        rw [List.getElem?_set, if_neg (fun q => e2 q.symm), List.getElem?_set, if_neg (fun q => e q.symm)]; exact hk
/- how long the elements are -/
def lnA (M : List (List Int)) (i : Nat) : Nat := (M.getD i []).length
theorem lnA_at {M : List (List Int)} {i : Nat} (h : i < M.length) : lnA M i = M[i].length := by unfold lnA; rw [getD_at h]
theorem lnA_swp {M : List (List Int)} {i j : Nat} (hi : i < M.length) (hj : j < M.length) (k : Nat) : lnA ((M.set j M[i]).set i M[j]) k = if k = i then lnA M j else if k = j then lnA M i else lnA M k := by
  unfold lnA
  rw [List.getD_eq_getElem?_getD, List.getElem?_set]
  by_cases e : i = k
  · subst e
    rw [if_pos rfl, if_pos (by simp; omega), if_pos rfl, getD_at hj]; rfl
  · rw [if_neg e, if_neg fun q => e q.symm, List.getElem?_set]
    by_cases e2 : j = k
    · subst e2
      rw [if_pos rfl, if_pos hj, if_pos rfl, getD_at hi]; rfl
    · rw [if_neg e2, if_neg fun q => e2 q.symm, List.getD_eq_getElem?_getD]
def desc (M : List (List Int)) (k : Nat) : Prop := ∀ p q, p < q → q < k → lnA M q ≤ lnA M p
def descX (M : List (List Int)) (k j : Nat) : Prop := ∀ p q, p < q → q < k → q ≠ j → lnA M q ≤ lnA M p
theorem descX.swp {M : List (List Int)} {k j : Nat} (h : descX M k j) (hj0 : 0 < j) (hj : j < M.length) (hjk : j < k) (hle : lnA M (j - 1) ≤ lnA M j) : descX ((M.set j (M[j - 1]'(by omega))).set (j - 1) M[j]) k (j - 1) := by
  intro p q hpq hqk hqj
  rw [lnA_swp (by omega) hj, lnA_swp (by omega) hj]
  have h1 := h p q hpq hqk
  by_cases e1 : q = j
  · subst e1
    rw [if_neg hqj, if_pos rfl]
    by_cases e2 : p = q - 1
    · subst e2; rw [if_pos rfl]; exact hle
    · rw [if_neg e2, if_neg (by omega)]
      exact h p (q - 1) (by omega) (by omega) (by omega)
  · rw [if_neg hqj, if_neg e1]
    by_cases e2 : p = j - 1
    · subst e2
      rw [if_pos rfl]
      exact h j q (by omega) hqk e1
    · rw [if_neg e2]
      by_cases e3 : p = j
      · subst e3
        rw [if_pos rfl]
        exact h (p - 1) q (by omega) hqk e1
      · rw [if_neg e3]
        exact h1 e1
theorem descX.done {M : List (List Int)} {k j : Nat} (h : descX M k j) (hjk : j < k) (hle : 0 < j → lnA M j ≤ lnA M (j - 1)) : desc M k := by
  intro p q hpq hqk
  by_cases e : q = j
  · subst e
    have := hle (by omega)
    by_cases e2 : p = q - 1
    · subst e2; exact this
    · have := h p (q - 1) (by omega) (by omega) (by omega)
      omega
  · exact h p q hpq hqk e
section
variable {R : Ending → World → Prop} {S S2 : Nat → Prop} {w : World} {a : Option Addr} {n c : Nat}
theorem CloneL_spec {L : List (List Int)} (h1 : RowV vIs S w a n L) (hs : n ≤ 1000000000)
    (h : ∀ a' c' w', OwnV vIs (fun k => S k ∧ k < w.heap.size) 30 w.heap.size w' a' n c' L → Ext w w' → R (.returned (.slice a' n c')) w') : Calls Tryz.prog F_slices_Clone_of_int_int ⟨[.slice a n c]⟩ w R := by
  apply c_slices_Clone_of_int_int
  have hn := h1.1
  refine br_cases (fun hz => ?_) (fun hz => ?_)
  · obtain rfl : a = none := by cases a <;> simp_all
    obtain rfl : L = [] := h1.isNone
    have hn0 : n = 0 := hn
    subst hn0
    exact h none 0 w (OwnV.nil w) (Below.refl _ _)
  · refine al_intro fun b w1 hb B1 e1 s1 => ?_
    have z1 := e1.size
    have hO : OwnV vIs (fun k => S k ∧ k < w.heap.size) 30 w.heap.size w1 (some ⟨b, 0, none⟩) 0 0 [] := ⟨rfl, [], Owns.made B1 (by omega), rfl⟩
    have h2 := (h1.imp (S' := fun k => S k ∧ k < w.heap.size) fun k hk hl => ⟨hk, hl⟩).ext e1
    refine hO.pushAll slT_ints (by omega) h2 (fun us hu => hu.keep (fun k hk _ => ⟨⟨hk, fun hh => ?_⟩, rfl⟩) (Nat.le_refl _)) (by omega) (by omega) fun a' c' w' ho hc hn' => ?_
    · rw [Nat.zero_add] at ho ⊢
      exact h a' c' w' ho (ext_own e1 hc fun k hk => by simp [bk] at hk; omega)
    · have : b = k := by simpa [bk] using hh
      omega
theorem ownL_get {S : Nat → Prop} {B : Nat} {L : List (List Int)} (h : OwnV vIs S 30 B w a n c L) {j : Nat} (hj : j < L.length) :
    ∃ (g : Nat) (a' : Option Addr) (c' : Nat), a = some ⟨g, 0, none⟩ ∧ w.cell? ⟨g, j, none⟩ = some (.slice a' L[j].length c') ∧ L[j].length ≤ c' ∧ vIs.C (fun k => S k ∧ ¬ bk a k) w L[j] [.slice a' L[j].length c'] ∧ RowV vI (fun k => S k ∧ ¬ bk a k) w a' L[j].length L[j] := by
  obtain ⟨hn, xs, ho, hA⟩ := h
  obtain ⟨g, rfl, _, hc⟩ := ho.cell (by omega)
  obtain ⟨us, hC, hg⟩ := hA.get (List.getElem?_eq_getElem hj)
  obtain ⟨a', c', rfl, hcl, hr⟩ := hC
  refine ⟨g, a', c', rfl, ?_, hcl, ⟨a', c', rfl, hcl, hr⟩, hr⟩
  have := hc _ _ (hg 0 _ rfl)
  rw [show j * vIs.size + 0 = j by simp [View.sl]] at this
  exact this
theorem cmpCompare_spec (x y : Int) (h : ∀ v : Int, (v < 0 ↔ x < y) → (v = 0 ↔ x = y) → R (.returned (.int .i64 v)) w) : Calls Tryz.prog F_cmp_Compare_of_int ⟨[.int .i64 x, .int .i64 y]⟩ w R := by
  apply c_cmp_Compare_of_int
  apply c_cmp_isNaN_of_int
  refine ⟨_, rfl, ?_⟩
  apply c_cmp_isNaN_of_int
  refine ⟨_, rfl, ?_⟩
  refine br_neg (by simp) (br_neg (by simp) ?_)
  exact br_split (fun g => h _ (by omega) (by omega)) (fun g => br_split (fun g2 => h _ (by omega) (by omega)) (fun g2 => h _ (by omega) (by omega)))
theorem CompareL_spec {b : Option Addr} {m d : Nat} {L M : List Int} (h1 : RowV vI S w a n L) (h2 : RowV vI S2 w b m M) (hs : n ≤ 4611686018427387904) (h : ∀ (v : Int) w', Ext w w' → R (.returned (.int .i64 v)) w') :
    Calls Tryz.prog F_slices_Compare_of_int_int ⟨[.slice a n c, .slice b m d]⟩ w R := by
  apply c_slices_Compare_of_int_int
  have hn := h1.1
  have hm := h2.1
  refine ⟨fun i W m' => ∃ k : Nat, i = k ∧ k ≤ n ∧ m' = n - k ∧ W = w, ⟨_, 0, rfl, by omega, rfl, rfl⟩, ?_⟩
  rintro _ W m' ⟨k, rfl, hk, rfl, rfl⟩ _
  refine br_split (fun hlt => ?_) (fun hge => br_split (fun _ => h _ _ (Below.refl _ _)) (fun _ => h _ _ (Below.refl _ _)))
  obtain ⟨p, hp, d1⟩ := h1.int (k := k) (by omega)
  refine hp _ ⟨_, d1, br_split (fun _ => h _ _ (Below.refl _ _)) (fun g => ?_)⟩
  obtain ⟨q, hq, d2⟩ := h2.int (k := k) (by omega)
  refine hq _ ⟨_, d2, cmpCompare_spec _ _ fun v _ _ => ⟨_, rfl, br_split (fun _ => h _ _ (Below.refl _ _)) (fun _ => ⟨n - (k + 1), by omega, k + 1, by rw [wrap_nat (by omega)], by omega, rfl, rfl⟩)⟩⟩
theorem Or2_spec {b : Nat} {x y : Int} {T : TypeId} (B : Blk w b [.int .i64 x, .int .i64 y] T) (h : R (.returned (.int .i64 (if x ≠ 0 then x else y))) w) : Calls Tryz.prog F_cmp_Or_of_int ⟨[.slice (some ⟨b, 0, none⟩) 2 2]⟩ w R := by
  apply c_cmp_Or_of_int
  refine ⟨fun i W m => ∃ k : Nat, i = k ∧ k ≤ 2 ∧ m = 2 - k ∧ W = w ∧ (0 < k → x = 0) ∧ (1 < k → y = 0), ⟨_, 0, rfl, by omega, rfl, rfl, fun q => by omega, fun q => by omega⟩, ?_⟩
  rintro _ W m ⟨k, rfl, hk, rfl, rfl, h0, h1⟩ _
  refine br_split (fun hlt => ?_) (fun hge => ?_)
  · have hk2 : k < 2 := by omega
    refine idx_b1 (by omega) ?_
    rcases (by omega : k = 0 ∨ k = 1) with rfl | rfl
    · refine ⟨_, by rw [B.cell]; rfl, br_split (fun g => ?_) (fun g => ⟨1, by omega, 1, by rw [wrap_nat (by omega)], by omega, rfl, rfl, fun _ => Decidable.not_not.1 g, fun q => by omega⟩)⟩
      rw [if_pos g] at h; exact h
    · refine ⟨_, by rw [B.cell]; rfl, br_split (fun g => ?_) (fun g => ⟨0, by omega, 2, by rw [wrap_nat (by omega)], by omega, rfl, rfl, fun _ => h0 (by omega), fun _ => Decidable.not_not.1 g⟩)⟩
      rw [if_neg fun q => q (h0 (by omega))] at h; exact h
  · have := h0 (by omega)
    have := h1 (by omega)
    subst x y
    exact h
theorem cmpL_call {b : Option Addr} {m d : Nat} {L M : List Int} (h1 : RowV vI S w a n L) (h2 : RowV vI S2 w b m M) (hs : n ≤ 1000000) (hs2 : m ≤ 1000000) {K : Ending → World → Prop}
    (h : ∀ (v : Int) w', Ext w w' → (v < 0 → M.length ≤ L.length) → (¬ v < 0 → L.length ≤ M.length) → K (.returned (.int .i64 v)) w') : CallV Tryz.prog (.func (.func 25) #[] #[]) [.slice a n c, .slice b m d] w K := by
  refine ⟨by kernel_rfl, ?_⟩
  apply c_split_Build_2
  have hn := h1.1
  have hm := h2.1
  refine cmpCompare_spec _ _ fun v q1 q2 => ⟨_, rfl, ?_⟩
  refine CompareL_spec h1 h2 (by omega) fun v2 w7 e7 => ⟨_, rfl, ?_⟩
  refine al_intro fun b9 w10 hb9 B9 e10 s10 => ?_
  refine Or2_spec B9 ⟨_, rfl, ?_⟩
  refine h _ w10 (ext_trans e7 e10) (fun q => ?_) (fun q => ?_)
  · by_cases g : v = 0
    · omega
    · rw [if_pos g] at q; omega
  · by_cases g : v = 0
    · omega
    · rw [if_pos g] at q; omega
end
end Go.Proofs
namespace Go.Proofs
open Go Go.Sh Go.RowKit
/- lists of lists of numbers: sorted by their lengths, compacted -/
section
variable {R : Ending → World → Prop} {S S2 : Nat → Prop} {w : World} {a : Option Addr} {n c : Nat}
set_option maxRecDepth 20000 in
theorem Len_small (n : Nat) (hn : n < 256) (h : ∀ v : Int, R (.returned (.int .i64 v)) w) : Calls Tryz.prog F_math_bits_Len ⟨[.int .u64 (n : Int)]⟩ w R := by
  apply c_math_bits_Len
  apply c_math_bits_Len64
  intro K2 hK2
  have k2 : K2 (n : Int) 0 w := by
    refine hK2 _ _ _ fun _ => ?_
    intro K6 hK6
    have k6 : K6 (n : Int) 0 w := by
      refine hK6 _ _ _ fun _ => ?_
      intro K10 hK10
      have k10 : K10 (n : Int) 0 w := by
        refine hK10 _ _ _ fun _ => ?_
        have e : IntKind.u8.wrap (n : Int) = (n : Int) := by simp [IntKind.wrap, IntKind.bits, IntKind.signed]; omega
        rw [e]
        exact sidx_nat (show n < 256 from hn) ⟨_, rfl, h _⟩
      exact br_neg (by omega) k10
    exact br_neg (by omega) k6
  exact br_neg (by omega) k2
set_option maxRecDepth 20000 in
theorem SortL_spec {B : Nat} {L : List (List Int)} (hO : OwnV vIs S 30 B w a n c L) (hn : n ≤ 12) (hL : ∀ l ∈ L, l.length ≤ 1000000)
    (h : ∀ M w', OwnV vIs S 30 B w' a n c M → (∀ x, x ∈ M ↔ x ∈ L) → desc M n → Chg (bk a) w w' → R (.returned (.tuple ⟨[]⟩)) w') :
    Calls Tryz.prog F_slices_SortFunc_of_int_int ⟨[.slice a n c, .func (.func 25) #[] #[]]⟩ w R := by
  apply c_slices_SortFunc_of_int_int
  have e : IntKind.u64.wrap (n : Int) = (n : Int) := by simp [IntKind.wrap, IntKind.bits, IntKind.signed]; omega
  unfold sh_slices_SortFunc_of_int_int
  rw [e]
  refine Len_small n (by omega) fun v => ⟨_, rfl, ?_⟩
  apply c_slices_pdqsortCmpFunc_of_int
  refine ⟨fun a' b' l' x y W m => a' = 0 ∧ b' = (n : Int) ∧ W = w, ⟨0, rfl, rfl, rfl⟩, ?_⟩
  rintro _ _ l' x y W m ⟨rfl, rfl, rfl⟩ _
  refine br_split (fun g => ?_) (fun g => absurd (show IntKind.i64.wrap ((n : Int) - 0) ≤ 12 by rw [wrap_id (by omega)]; omega) g)
  apply c_slices_insertionSortCmpFunc_of_int
  refine ⟨fun i V m => ∃ k : Nat, ∃ M, i = k ∧ 1 ≤ k ∧ k ≤ n + 1 ∧ m = n + 1 - k ∧ OwnV vIs S 30 B V a n c M ∧ (∀ x, x ∈ M ↔ x ∈ L) ∧ Chg (bk a) W V ∧ desc M (min k n), ⟨_, 1, L, by decide, by omega, by omega, rfl, hO, fun x => Iff.rfl, Chg.refl _ _, fun p q h1 h2 => by omega⟩, ?_⟩
  rintro _ V m ⟨k, M, rfl, hk1, hk2, rfl, hM, hm, hc, hd⟩ _
  refine br_split (fun hlt => ?_) (fun hge => ⟨rfl, rfl, h M V hM hm (by rw [Nat.min_eq_right (by omega)] at hd; exact hd) hc⟩)
  have hkn : k < n := by omega
  rw [Nat.min_eq_left (by omega)] at hd
  refine ⟨fun j V m' => ∃ jj : Nat, ∃ N, j = jj ∧ jj ≤ k ∧ m' = jj + 0 ∧ OwnV vIs S 30 B V a n c N ∧ (∀ x, x ∈ N ↔ x ∈ L) ∧ Chg (bk a) W V ∧ descX N (k + 1) jj, ⟨_, k, M, rfl, by omega, rfl, hM, hm, hc, fun p q h1 h2 h3 => hd p q h1 (by omega)⟩, ?_⟩
  rintro _ V2 m' ⟨j, N, rfl, hj, hm', hN, hmN, hcV, hdX⟩ _
  have hln := hN.len
  have ela : ∀ {V : World} {N : List (List Int)}, OwnV vIs S 30 B V a n c N → ∀ {j : Nat} (hj : j < N.length), ∃ (q : Addr) (a' : Option Addr) (c' : Nat), (∀ K : Addr → Prop, K q → idx a n (j : Int) 1 K) ∧ V.cell? q = some (.slice a' N[j].length c') ∧ vIs.C (fun k => S k ∧ ¬ bk a k) V N[j] [.slice a' N[j].length c'] ∧ RowV vI (fun k => S k ∧ ¬ bk a k) V a' N[j].length N[j] := by
    intro V N hN j hj
    have := hN.len
    obtain ⟨g, a', c', ha, h1, h2, h3, h4⟩ := ownL_get hN hj
    exact ⟨⟨g, j, none⟩, a', c', fun K hK => by rw [ha]; exact idx_b1 (by omega) hK, h1, h3, h4⟩
  intro K15 hK15
  have out : ∀ v, Ext V2 v → (0 < j → lnA N j ≤ lnA N (j - 1)) → ∃ m34 : Nat, m34 < n + 1 - k ∧ ∃ k' : Nat, ∃ M, IntKind.i64.wrap ((k : Int) + 1) = k' ∧ 1 ≤ k' ∧ k' ≤ n + 1 ∧ m34 = n + 1 - k' ∧ OwnV vIs S 30 B v a n c M ∧ (∀ x, x ∈ M ↔ x ∈ L) ∧ Chg (bk a) W v ∧ desc M (min k' n) := fun v ev hle =>
    ⟨n + 1 - (k + 1), by omega, k + 1, N, by rw [wrap_nat (by omega)], by omega, by omega, rfl, hN.ext ev, hmN, hcV.trans (.of_ext ev), by rw [Nat.min_eq_left (by omega)]; exact hdX.done (by omega) hle⟩
  have k15 : ∀ v, Ext V2 v → (hj0 : 0 < j) → lnA N (j - 1) ≤ lnA N j → K15 v := by
    intro v ev hj0 hle
    refine hK15 _ fun _ => ?_
    unfold drw
    have ed := ext_drew v
    have e17 := ext_trans ev ed
    generalize v.drew = w17 at *
    have hN17 := hN.ext e17
    have hjl : j < N.length := by omega
    have hjl1 : j - 1 < N.length := by omega
    obtain ⟨q1, x1, y1, hq1, d1, C1, _⟩ := ela hN17 hjl1
    obtain ⟨q2, x2, y2, hq2, d2, C2, _⟩ := ela hN17 hjl
    rw [wrap_id (by omega), show (j : Int) - 1 = ((j - 1 : Nat) : Int) by omega]
    refine hq1 _ ⟨_, _, _, d1, hq2 _ ⟨_, _, _, d2, ?_⟩⟩
    obtain ⟨g, hg, hi1, hst⟩ := hN17.store (i := j) (by omega) C1
    refine hi1 _ ⟨hst _ fun w23 h23 c23 s23 => ?_, trivial⟩
    have C2' : vIs.C (fun k => S k ∧ ¬ bk a k) w23 N[j] [.slice x2 N[j].length y2] := vIs.keep C2 (fun k hk hl => ⟨hk, c23.block k hl hk.2⟩) c23.size
    obtain ⟨g', hg', hi2, hst2⟩ := h23.store (i := j - 1) (by omega) C2'
    refine hi2 _ ⟨hst2 _ fun w25 h25 c25 s25 => ?_, trivial⟩
    exact ⟨j - 1, by omega, j - 1, _, rfl, by omega, rfl, h25, fun x => (mem_swp hjl1 hjl (by omega) x).trans (hmN x), hcV.trans ((Chg.of_ext e17).trans (c23.trans c25)), hdX.swp hj0 hjl (by omega) hle⟩
  unfold drw
  have ed := ext_drew V2
  have hNd := hN.ext ed
  generalize V2.drew = w27 at *
  refine br_split (fun hj0 => ?_) (fun hj0 => ⟨out w27 ed fun q => by omega, trivial⟩)
  have hjl : j < N.length := by omega
  have hjl1 : j - 1 < N.length := by omega
  obtain ⟨q1, x1, y1, hq1, d1, C1, r1⟩ := ela hNd hjl1
  obtain ⟨q2, x2, y2, hq2, d2, C2, r2⟩ := ela hNd hjl
  refine hq2 _ ⟨_, _, _, d2, ?_⟩
  rw [wrap_id (by omega), show (j : Int) - 1 = ((j - 1 : Nat) : Int) by omega]
  refine hq1 _ ⟨_, _, _, d1, ?_, trivial⟩
  have b1 := hL _ ((hmN _).1 (List.getElem_mem hjl1))
  have b2 := hL _ ((hmN _).1 (List.getElem_mem hjl))
  refine cmpL_call r2 r1 (by omega) (by omega) fun v w' e' g1 g2 => ⟨_, rfl, br_split (fun gv => k15 w' (ext_trans ed e') (by omega) ?_) (fun gv => out w' (ext_trans ed e') fun _ => ?_)⟩
  · rw [lnA_at hjl, lnA_at hjl1]; exact g1 gv
  · rw [lnA_at hjl, lnA_at hjl1]; exact g2 gv
theorem eqL_call {b : Option Addr} {m d : Nat} {L M : List Int} (h1 : RowV vI S w a n L) (h2 : RowV vI S2 w b m M) (hs : n ≤ 4611686018427387904) {K : Ending → World → Prop}
    (h : ∀ w', Ext w w' → K (.returned (.bool (decide (L = M)))) w') : CallV Tryz.prog (.func (.func 30) #[] #[]) [.slice a n c, .slice b m d] w K :=
  ⟨by kernel_rfl, EqualI_spec h1 h2 hs h⟩
/- cutting off a cleared end, whatever the elements of one cell are -/
def encOne : Enc {v : Value // v.oneCell' = true} := ⟨fun x => [x.1], 1, fun _ => rfl, by decide, fun x v hv => by rw [List.mem_singleton] at hv; rw [hv]; exact x.2⟩
theorem one_row : ∀ {xs : List Value}, (∀ v ∈ xs, v.oneCell' = true) → ∃ l : List {v : Value // v.oneCell' = true}, encOne.row l = xs
  | [], _ => ⟨[], rfl⟩
  | v :: xs, h => by
    obtain ⟨l, hl⟩ := one_row (xs := xs) fun u hu => h u (List.mem_cons_of_mem _ hu)
    exact ⟨⟨v, h v List.mem_cons_self⟩ :: l, by rw [row_cons, hl]; rfl⟩
theorem row_take (l : List {v : Value // v.oneCell' = true}) : ∀ i, encOne.row (l.take i) = (encOne.row l).take i := by
  induction l with
  | nil => intro i; cases i <;> rfl
  | cons x l ih =>
    intro i
    cases i with
    | zero => rfl
    | succ i => rw [List.take_succ_cons, row_cons, row_cons, ih]; rfl
theorem allV_take {α : Type} {V : View α} (hV : V.size = 1) {S : Nat → Prop} {w : World} : ∀ {l : List α} {vs : List Value} (i : Nat), AllV V S w l vs → AllV V S w (l.take i) (vs.take i)
  | [], vs, i, h => by
    have h : vs = [] := h
    subst h
    rw [List.take_nil, List.take_nil]; rfl
  | x :: l, vs, 0, h => rfl
  | x :: l, vs, i + 1, h => by
    obtain ⟨us, vs', rfl, h1, h2⟩ := h
    have hl := V.len h1
    rw [hV] at hl
    obtain ⟨u, rfl⟩ : ∃ u, us = [u] := by
      match us, hl with
      | [u], _ => exact ⟨u, rfl⟩
    exact ⟨[u], vs'.take i, rfl, h1, allV_take hV i h2⟩
theorem OwnV_cutClear {α : Type} {V : View α} (hV : V.size = 1) {t ty e : TypeId} {z : Value} (ht : Tryz.prog.underlying t = some (.slice e)) (hz : ∀ w, (zeroValue e).run Tryz.prog w = .ok z w) (hzc : z.cells = #[z]) (h1 : z.oneCell' = true) {B : Nat} {l : List α}
    (h : OwnV V S e B w a n c l) {i : Nat} (hi : i ≤ n) {K : Option Addr → Nat → Nat → World → Prop} (hk : ∀ w', OwnV V S e B w' a i c (l.take i) → Chg (bk a) w w' → w'.heap.size = w.heap.size → K a i c w') :
    sls a c (i : Int) (n : Int) 1 fun a' n' c' => clr Tryz.prog [t] ty [.slice a' n' c'] w fun w' => sls a c 0 (i : Int) 1 fun a'' n'' c'' => K a'' n'' c'' w' := by
  obtain ⟨hn, xs, ho, hA⟩ := h
  obtain ⟨l', rfl⟩ := one_row hA.one
  rw [hV] at ho
  have ho' : OwnL encOne w B e a n c l' := ho
  refine OwnL.cutClear ht hz hzc h1 rfl ho' hi fun w' h2 hc hsz => hk w' ⟨?_, encOne.row (l'.take i), ?_, ?_⟩ hc hsz
  · rw [List.length_take]; omega
  · rw [hV]; exact h2
  · rw [row_take]
    exact (allV_take hV i hA).keep (fun k hk hl => ⟨hk, hc.block k hl hk.2⟩) hc.size
end
end Go.Proofs
namespace Go.Proofs
open Go Go.Sh Go.RowKit
/- slices.CompactFunc of lists of numbers, by slices.Equal -/
def gA (M : List (List Int)) (i : Nat) : List Int := M.getD i []
theorem gA_at {M : List (List Int)} {i : Nat} (h : i < M.length) : gA M i = M[i] := getD_at h []
theorem gA_set {M : List (List Int)} {i k : Nat} (h : i < M.length) (x : List Int) : gA (M.set i x) k = if k = i then x else gA M k := by
  unfold gA
  rw [List.getD_eq_getElem?_getD, List.getElem?_set]
  by_cases e : i = k
  · subst e; rw [if_pos rfl, if_pos h, if_pos rfl]; rfl
  · rw [if_neg e, if_neg fun q => e q.symm, List.getD_eq_getElem?_getD]
theorem take_sL {α : Type} {l : List α} {k : Nat} (h : k < l.length) : l.take (k + 1) = l.take k ++ [l[k]] := List.take_succ_eq_append_getElem h
section
variable {R : Ending → World → Prop} {S : Nat → Prop} {w : World} {a : Option Addr} {n c : Nat}
theorem zr30 (w : World) : (zeroValue 30).run Tryz.prog w = .ok (.slice none 0 0) w := zeroRun (by kernel_rfl) w
set_option maxRecDepth 20000 in
set_option maxHeartbeats 1000000 in
theorem CompactL_spec {B : Nat} {L : List (List Int)} (hO : OwnV vIs S 30 B w a n c L) (hn : n ≤ 1000000) (hL : ∀ l ∈ L, l.length ≤ 1000000)
    (h : ∀ n' M w', n' ≤ n → OwnV vIs S 30 B w' a n' c M → M.Sublist L → (∀ x, x ∈ L → x ∈ M) → Chg (bk a) w w' → R (.returned (.slice a n' c)) w') :
    Calls Tryz.prog F_slices_CompactFunc_of_int_int ⟨[.slice a n c, .func (.func 30) #[] #[]]⟩ w R := by
  apply c_slices_CompactFunc_of_int_int
  have hl := hO.len
  have hcap := hO.cap
  refine br_split (fun g => h n L w (Nat.le_refl _) hO (List.Sublist.refl _) (fun _ h => h) (Chg.refl _ _)) (fun g => ?_)
  refine ⟨fun i W m => ∃ k : Nat, i = k ∧ 1 ≤ k ∧ k ≤ n ∧ m = n - k ∧ Ext w W, ⟨_, 1, rfl, by omega, by omega, rfl, Below.refl _ _⟩, ?_⟩
  rintro _ W m ⟨k, rfl, hk1, hk2, rfl, eW⟩ _
  refine br_split (fun hlt => ?_) (fun hge => h n L W (Nat.le_refl _) (hO.ext eW) (List.Sublist.refl _) (fun _ h => h) (.of_ext eW))
  unfold drw
  have ed := ext_trans eW (ext_drew W)
  generalize W.drew = W7 at *
  have hO7 := hO.ext ed
  have hkl : k < L.length := by omega
  have hkl1 : k - 1 < L.length := by omega
  obtain ⟨g0, x1, y1, ha, d1, _, _, r1⟩ := ownL_get hO7 hkl
  subst ha
  obtain ⟨g1, x2, y2, e1, d2, _, _, r2⟩ := ownL_get hO7 hkl1
  obtain rfl : g0 = g1 := by simpa using e1
  rw [wrap_id (by omega), show (k : Int) - 1 = ((k - 1 : Nat) : Int) by omega]
  refine idx_b1 (by omega) ⟨_, _, _, d1, idx_b1 (by omega) ⟨_, _, _, d2, ?_, trivial⟩⟩
  have hk1L := hL _ (List.getElem_mem hkl)
  refine eqL_call r1 r2 (by omega) fun w14 e14 => ⟨_, rfl, br_split (fun geq => ?_) (fun _ => ⟨n - (k + 1), by omega, k + 1, by rw [wrap_nat (by omega)], by omega, by omega, rfl, ext_trans ed e14⟩)⟩
  have e014 := ext_trans ed e14
  refine ⟨by omega, by omega, by omega, ?_⟩
  rw [Int.toNat_natCast, Int.toNat_natCast]
  have hsl : slA (some (⟨g0, 0, none⟩ : Addr)) c k 1 = some ⟨g0, k, none⟩ := by
    unfold slA
    rw [if_neg (by omega)]
    simp [add_none]
  rw [hsl]
  refine ⟨fun i j V m => ∃ (i' k2 : Nat) (N : List (List Int)), i = i' ∧ j = k2 ∧ 1 ≤ k2 ∧ k2 ≤ n - k ∧ m = n - k2 ∧ i' < k + k2 ∧ k ≤ i' ∧ OwnV vIs S 30 B V (some ⟨g0, 0, none⟩) n c N ∧ (N.take i').Sublist (L.take (k + k2)) ∧ (∀ x, x ∈ L.take (k + k2) → x ∈ N.take i') ∧
      (∀ t, k + k2 - 1 ≤ t → gA N t = gA L t) ∧ Chg (bk (some (⟨g0, 0, none⟩ : Addr))) w V,
    ⟨_, k, 1, L, rfl, rfl, by omega, by omega, rfl, by omega, Nat.le_refl _, hO.ext e014, by rw [take_sL hkl]; exact List.sublist_append_left _ _, fun x hx => ?_, fun _ _ => rfl, .of_ext e014⟩, ?_⟩
  · rw [take_sL hkl, List.mem_append, List.mem_singleton] at hx
    rcases hx with hx | hx
    · exact hx
    · rw [hx, geq, List.mem_take_iff_getElem]
      exact ⟨k - 1, by omega, rfl⟩
  rintro _ _ V m ⟨i', k2, N, rfl, rfl, h1, h2, rfl, h3, h4, hN, hsub, hmem, hkeep, hcV⟩ _
  have hNl := hN.len
  refine br_split (fun hlt2 => ?_) (fun hge2 => ?_)
  · try unfold drw
    have ed2 := ext_drew V
    have hN' := hN.ext ed2
    have hcV' := hcV.trans (.of_ext ed2)
    generalize V.drew = V9 at *
    have hj1 : k + k2 < N.length := by omega
    have hj2 : k + (k2 - 1) < N.length := by omega
    obtain ⟨g1, u1, t1, e1, d1, _, C1, r1⟩ := ownL_get hN' hj1
    obtain rfl : g0 = g1 := by simpa using e1
    obtain ⟨g1, u2, t2, e1, d2, _, _, r2⟩ := ownL_get hN' hj2
    obtain rfl : g0 = g1 := by simpa using e1
    have q1 : ∀ K : Addr → Prop, K ⟨g0, k + k2, none⟩ → idx (some (⟨g0, k, none⟩ : Addr)) (n - k) (k2 : Int) 1 K := fun K hK => by
      refine ⟨by omega, by omega, ?_⟩
      show K _
      rw [add_none, Int.toNat_natCast, Nat.mul_one]; exact hK
    have q2 : ∀ K : Addr → Prop, K ⟨g0, k + (k2 - 1), none⟩ → idx (some (⟨g0, k, none⟩ : Addr)) (n - k) (IntKind.i64.wrap ((k2 : Int) - 1)) 1 K := fun K hK => by
      rw [wrap_id (by omega), show (k2 : Int) - 1 = ((k2 - 1 : Nat) : Int) by omega]
      refine ⟨by omega, by omega, ?_⟩
      show K _
      rw [add_none, Int.toNat_natCast, Nat.mul_one]; exact hK
    have v1 : N[k + k2] = gA L (k + k2) := by rw [← hkeep _ (by omega), gA_at hj1]
    have v2 : N[k + (k2 - 1)] = gA L (k + (k2 - 1)) := by rw [← hkeep _ (by omega), gA_at hj2]
    have hL1 : k + k2 < L.length := by omega
    have vL : gA L (k + k2) = L[k + k2] := gA_at hL1
    have hlen1 : N[k + k2].length ≤ 1000000 := by rw [v1, vL]; exact hL _ (List.getElem_mem hL1)
    refine q1 _ ⟨_, _, _, d1, q2 _ ⟨_, _, _, d2, ?_, trivial⟩⟩
    refine eqL_call r1 r2 (by omega) fun w29 e29 => ⟨_, rfl, ?_⟩
    have hN29 := hN'.ext e29
    obtain ⟨g1, u3, t3, e1, d3, _, C3, _⟩ := ownL_get hN29 hj1
    obtain rfl : g0 = g1 := by simpa using e1
    have hcV29 := hcV'.trans (.of_ext e29)
    have same : (k2 + 1 : Nat) = k2 + 1 := rfl
    refine br_cases (fun gn => ?_) (fun gn => ?_)
    · refine q1 _ ⟨_, _, _, d3, ?_⟩
      obtain ⟨gg, hgg, hi1, hst⟩ := hN29.store (i := i') (by omega) C3
      obtain rfl : g0 = gg := by simpa using hgg
      refine hi1 _ (hst _ fun V27 h27 c27 s27 => ?_)
      have hl2 : i' < (N.set i' N[k + k2]).length := by simp; omega
      refine ⟨n - (k2 + 1), by omega, i' + 1, k2 + 1, N.set i' N[k + k2], by rw [wrap_nat (by omega)], by rw [wrap_nat (by omega)], by omega, by omega, rfl, by omega, by omega, h27, ?_, fun x hx => ?_, fun t ht => ?_, hcV29.trans c27⟩
      · rw [take_sL hl2, List.take_set_of_le (Nat.le_refl _), ← Nat.add_assoc, take_sL hL1]
        refine hsub.append ?_
        simp only [List.getElem_set_self, v1, vL]
        exact List.Sublist.refl _
      · rw [← Nat.add_assoc, take_sL hL1, List.mem_append, List.mem_singleton] at hx
        rw [take_sL hl2, List.take_set_of_le (Nat.le_refl _), List.mem_append, List.mem_singleton]
        rcases hx with hx | hx
        · exact .inl (hmem x hx)
        · right
          simp only [List.getElem_set_self, v1, vL]
          exact hx
      · rw [gA_set (by omega), if_neg (by omega)]
        exact hkeep t (by omega)
    · have geq2 : N[k + k2] = N[k + (k2 - 1)] := of_decide_eq_true (by simpa using gn)
      refine ⟨n - (k2 + 1), by omega, i', k2 + 1, N, rfl, by rw [wrap_nat (by omega)], by omega, by omega, rfl, by omega, by omega, hN29, ?_, fun x hx => ?_, fun t ht => hkeep t (by omega), hcV29⟩
      · rw [← Nat.add_assoc, take_sL hL1]
        exact hsub.trans (List.sublist_append_left _ _)
      · rw [← Nat.add_assoc, take_sL hL1, List.mem_append, List.mem_singleton] at hx
        rcases hx with hx | hx
        · exact hmem x hx
        · refine hmem x ?_
          rw [hx, ← vL, ← v1, geq2, v2, gA_at (by omega), List.mem_take_iff_getElem]
          exact ⟨k + (k2 - 1), by omega, rfl⟩
  · have hk2n : k + k2 = n := by omega
    rw [hk2n, List.take_of_length_le (l := L) (by omega)] at hsub hmem
    exact OwnV_cutClear (V := vIs) rfl (z := .slice none 0 0) Tryz.underlying29 zr30 rfl rfl hN (i := i') (by omega) fun w' h2' hc' hs' => h i' _ w' (by omega) h2' hsub hmem (hcV.trans hc')
end
end Go.Proofs
namespace Go.Proofs
open Go Go.Sh Go.RowKit
/- the tree under way; split.Build's functions add and least -/
theorem own_blk {w : World} {B : Nat} {e : TypeId} {size : Nat} {a : Option Addr} {n c : Nat} {xs : List Value} (h : Owns w B e size a n c xs) {k : Nat} (hk : bk a k) : ∃ cs, Blk w k cs e := by
  rcases h.2 with h1 | ⟨g, cap, cur, e1, e2, e3, _⟩
  · obtain ⟨rfl, _⟩ : a = none ∧ n = 0 ∧ c = 0 := by simpa using h1.1
    simp [bk] at hk
  · obtain ⟨rfl, _⟩ : a = some ⟨g, 0, none⟩ ∧ c = cap := by simpa using e1
    have hk : g = k := by simpa [bk] using hk
    subst hk
    exact ⟨cur.toList, e3⟩
theorem blk_ty {w : World} {b : Nat} {cs cs' : List Value} {T T' : TypeId} (h : Blk w b cs T) (h' : Blk w b cs' T') : T = T' := by
  unfold Blk at h h'
  rw [h] at h'
  simp only [Option.some.injEq, Obj.cells.injEq] at h'
  exact h'.2.1
theorem blk_ne {w : World} {b b' : Nat} {cs cs' : List Value} {T T' : TypeId} (h : Blk w b cs T) (h' : Blk w b' cs' T') (hT : T ≠ T') : b ≠ b' := fun e => hT (blk_ty h (e ▸ h'))
theorem slT_str : SlT Tryz.prog 22 9 1 16 (.string ⟨⟨[]⟩⟩) := ⟨by kernel_rfl, by kernel_rfl, rfl, by decide⟩
abbrev sv (s : Slv) : Value := .slice s.1 s.2.1 s.2.2
abbrev ownP (W : World) (B : Nat) (s : Slv) (P : List Int) : Prop := OwnL Sh.encI W B 3 s.1 s.2.1 s.2.2 P
abbrev ownN (W : World) (B : Nat) (s : Slv) (N : List Nm) : Prop := OwnL Sh.encStr W B 9 s.1 s.2.1 s.2.2 N
structure TrSt (W : World) (b B : Nat) (T : Nat → Prop) (P : List Int) (N : List Nm) : Prop where
  at_ : ∃ p q : Slv, Blk W b [sv p, sv q] 37 ∧ ownP W B p P ∧ ownN W B q N ∧ (∀ k, T k ↔ bk p.1 k ∨ bk q.1 k)
  lt : b < B
theorem TrSt.bk {W : World} {b B : Nat} {T : Nat → Prop} {P : List Int} {N : List Nm} (h : TrSt W b B T P N) {k : Nat} (hk : T k) : B ≤ k ∧ k < W.heap.size := by
  obtain ⟨p, q, _, h2, h3, h4⟩ := h.at_
  rcases (h4 k).1 hk with g | g
  · exact Owns.bk h2 g
  · exact Owns.bk h3 g
theorem TrSt.chg {W W' : World} {b B : Nat} {T C : Nat → Prop} {P : List Int} {N : List Nm} (h : TrSt W b B T P N) (hc : Chg C W W') (hb : ¬ C b) (hT : ∀ k, T k → ¬ C k) : TrSt W' b B T P N := by
  obtain ⟨p, q, h1, h2, h3, h4⟩ := h.at_
  exact ⟨⟨p, q, hc.blk h1 hb, Owns.chg h2 hc fun k hk => hT k ((h4 k).2 (.inl hk)), Owns.chg h3 hc fun k hk => hT k ((h4 k).2 (.inr hk)), h4⟩, h.lt⟩
theorem TrSt.ext {W W' : World} {b B : Nat} {T : Nat → Prop} {P : List Int} {N : List Nm} (h : TrSt W b B T P N) (he : Ext W W') : TrSt W' b B T P N := h.chg (C := fun _ => False) (.of_ext he) (fun q => q) (fun _ _ q => q)
section
variable {R : Ending → World → Prop} {S : Nat → Prop} {w : World}
structure AddS (b B : Nat) (w0 : World) (p q : Slv) (P : List Int) (N : List Nm) (par : Int) (nm : Nm) (V : World) (k1 k2 : Option Nat) (pd nd : Option Slv) : Prop where
  bB : b < B
  z0 : B ≤ w0.heap.size
  zV : w0.heap.size ≤ V.heap.size
  lP : P.length ≤ 1000
  lN : N.length ≤ 1000
  pL : ∀ k, bk p.1 k → B ≤ k ∧ k < w0.heap.size
  qL : ∀ k, bk q.1 k → B ≤ k ∧ k < w0.heap.size
  dis : ∀ k, bk p.1 k → ¬ bk q.1 k
  chg : Chg (fun k => bk p.1 k ∨ bk q.1 k) w0 V
  cell : Blk V b [sv p, sv q] 37
  one : ∀ k, k1 = some k → Blk V k [.int .i64 par] 3 ∧ w0.heap.size ≤ k
  two : ∀ k, k2 = some k → Blk V k [.string ⟨⟨nm⟩⟩] 9 ∧ w0.heap.size ≤ k
  pr0 : pd = none → ownP V B p P
  pr1 : ∀ x, pd = some x → ownP V B x (P ++ [par]) ∧ ∀ k, bk x.1 k → bk p.1 k ∨ w0.heap.size ≤ k
  nr0 : nd = none → ownN V B q N
  nr1 : ∀ x, nd = some x → ownN V B x (N ++ [nm]) ∧ ∀ k, bk x.1 k → bk q.1 k ∨ w0.heap.size ≤ k
variable {b B : Nat} {w0 V : World} {p q : Slv} {P : List Int} {N : List Nm} {par : Int} {nm : Nm} {k1 k2 : Option Nat} {pd nd : Option Slv}
theorem AddS.ext (h : AddS b B w0 p q P N par nm V k1 k2 pd nd) {V' : World} (e : Ext V V') : AddS b B w0 p q P N par nm V' k1 k2 pd nd :=
  { h with
    zV := by have := h.zV; have := e.size; omega
    chg := h.chg.trans (.of_ext e)
    cell := h.cell.ext e
    one := fun k hk => ⟨(h.one k hk).1.ext e, (h.one k hk).2⟩
    two := fun k hk => ⟨(h.two k hk).1.ext e, (h.two k hk).2⟩
    pr0 := fun g => Owns.ext (h.pr0 g) e
    pr1 := fun x g => ⟨Owns.ext (h.pr1 x g).1 e, (h.pr1 x g).2⟩
    nr0 := fun g => Owns.ext (h.nr0 g) e
    nr1 := fun x g => ⟨Owns.ext (h.nr1 x g).1 e, (h.nr1 x g).2⟩ }
theorem st_dr {K : Addr → Prop} {x : Addr} (h : K x) : dr (some x) K := dr_ok h
theorem st_rd0 (h : AddS b B w0 p q P N par nm V k1 k2 pd nd) {K : Option Addr → Nat → Nat → Prop} (hk : K p.1 p.2.1 p.2.2) : ∃ x n c, V.cell? ((⟨b, 0, none⟩ : Addr).add 0) = some (.slice x n c) ∧ K x n c := ⟨_, _, _, bat h.cell rfl, hk⟩
theorem st_rd1 (h : AddS b B w0 p q P N par nm V k1 k2 pd nd) {K : Option Addr → Nat → Nat → Prop} (hk : K q.1 q.2.1 q.2.2) : ∃ x n c, V.cell? ((⟨b, 0, none⟩ : Addr).add 1) = some (.slice x n c) ∧ K x n c := ⟨_, _, _, bat h.cell rfl, hk⟩
theorem st_al1 (h : AddS b B w0 p q P N par nm V none k2 pd nd) {K : Addr → World → Prop} (hk : ∀ k V', AddS b B w0 p q P N par nm V' (some k) k2 pd nd → K ⟨k, 0, none⟩ V') : al V 3 [.int .i64 par] K :=
  al_intro fun k V' hb B' e s => hk k V' { h.ext e with one := fun j hj => by cases hj; exact ⟨B', by have := h.zV; omega⟩ }
theorem st_al2 (h : AddS b B w0 p q P N par nm V k1 none pd nd) {K : Addr → World → Prop} (hk : ∀ k V', AddS b B w0 p q P N par nm V' k1 (some k) pd nd → K ⟨k, 0, none⟩ V') : al V 9 [.string ⟨⟨nm⟩⟩] K :=
  al_intro fun k V' hb B' e s => hk k V' { h.ext e with two := fun j hj => by cases hj; exact ⟨B', by have := h.zV; omega⟩ }
theorem rowAt_one {α : Type} {E : Enc α} {w : World} {b : Nat} {x : α} {T : TypeId} (h : Blk w b (E.enc x) T) : RowAt E (fun _ => True) w (some ⟨b, 0, none⟩) 1 [x] := by
  have h' : Blk w b (E.row [x]) T := by
    have : E.row [x] = E.enc x := by rw [row_cons]; show E.enc x ++ [] = _; rw [List.append_nil]
    rw [this]; exact h
  exact (rowAt_b (E := E) h').imp fun _ _ _ => trivial
theorem st_app1 {k : Nat} (h : AddS b B w0 p q P N par nm V (some k) k2 none nd) {K : Option Addr → Nat → Nat → World → Prop} (hk : ∀ x : Slv, ∀ V', AddS b B w0 p q P N par nm V' (some k) k2 (some x) nd → K x.1 x.2.1 x.2.2 V') :
    app Tryz.prog [30, 30] 30 (.slice p.1 p.2.1 p.2.2) (.slice (some ⟨k, 0, none⟩) 1 1) V K := by
  have hP := h.pr0 rfl
  have hl : P.length = p.2.1 := OwnL.length hP
  have := h.lP
  have := h.zV
  have := h.z0
  have hbB := h.bB
  refine OwnL.pushAll (E := Sh.encI) slT_int hP (by omega) (rowAt_one (E := Sh.encI) (x := par) (h.one k rfl).1) (by omega) (by omega) fun a' c' V' ho hc hn => ?_
  have zc := hc.size
  refine hk (a', p.2.1 + 1, c') V' { h with
    zV := by omega
    chg := h.chg.trans (hc.mono fun j _ hj => .inl hj)
    cell := hc.blk h.cell fun hh => by have := (h.pL _ hh).1; omega
    one := fun j hj => ⟨hc.blk (h.one j hj).1 fun hh => by have := (h.pL _ hh).2; have := (h.one j hj).2; omega, (h.one j hj).2⟩
    two := fun j hj => ⟨hc.blk (h.two j hj).1 fun hh => by have := (h.pL _ hh).2; have := (h.two j hj).2; omega, (h.two j hj).2⟩
    pr0 := fun g => by cases g
    pr1 := fun x g => by cases g; exact ⟨ho, fun j hj => (hn j hj).imp id fun g => by omega⟩
    nr0 := fun g => Owns.chg (h.nr0 g) hc fun j hj hh => h.dis j hh hj
    nr1 := fun x g => ⟨Owns.chg (h.nr1 x g).1 hc fun j hj hh => ?_, (h.nr1 x g).2⟩ }
  rcases (h.nr1 x g).2 j hj with g2 | g2
  · exact h.dis j hh g2
  · have := (h.pL _ hh).2; omega
theorem st_app2 {k : Nat} (h : AddS b B w0 p q P N par nm V k1 (some k) pd none) {K : Option Addr → Nat → Nat → World → Prop} (hk : ∀ x : Slv, ∀ V', AddS b B w0 p q P N par nm V' k1 (some k) pd (some x) → K x.1 x.2.1 x.2.2 V') :
    app Tryz.prog [22, 22] 22 (.slice q.1 q.2.1 q.2.2) (.slice (some ⟨k, 0, none⟩) 1 1) V K := by
  have hP := h.nr0 rfl
  have hl : N.length = q.2.1 := OwnL.length hP
  have := h.lN
  have := h.zV
  have := h.z0
  have hbB := h.bB
  refine OwnL.pushAll (E := Sh.encStr) slT_str hP (by omega) (rowAt_one (E := Sh.encStr) (x := nm) (h.two k rfl).1) (by omega) (by omega) fun a' c' V' ho hc hn => ?_
  have zc := hc.size
  refine hk (a', q.2.1 + 1, c') V' { h with
    zV := by omega
    chg := h.chg.trans (hc.mono fun j _ hj => .inr hj)
    cell := hc.blk h.cell fun hh => by have := (h.qL _ hh).1; omega
    one := fun j hj => ⟨hc.blk (h.one j hj).1 fun hh => by have := (h.qL _ hh).2; have := (h.one j hj).2; omega, (h.one j hj).2⟩
    two := fun j hj => ⟨hc.blk (h.two j hj).1 fun hh => by have := (h.qL _ hh).2; have := (h.two j hj).2; omega, (h.two j hj).2⟩
    nr0 := fun g => by cases g
    nr1 := fun x g => by cases g; exact ⟨ho, fun j hj => (hn j hj).imp id fun g => by omega⟩
    pr0 := fun g => Owns.chg (h.pr0 g) hc fun j hj hh => h.dis j hj hh
    pr1 := fun x g => ⟨Owns.chg (h.pr1 x g).1 hc fun j hj hh => ?_, (h.pr1 x g).2⟩ }
  rcases (h.pr1 x g).2 j hj with g2 | g2
  · exact h.dis j g2 hh
  · have := (h.qL _ hh).2; omega
theorem st_fin {j1 j2 : Nat} {x y : Slv} (h : AddS b B w0 p q P N par nm V (some j1) (some j2) (some x) (some y)) {K : World → Prop} (hk : ∀ V' T', TrSt V' b B T' (P ++ [par]) (N ++ [nm]) → (∀ k, T' k → (bk p.1 k ∨ bk q.1 k) ∨ w0.heap.size ≤ k) → Chg (fun k => k = b ∨ (bk p.1 k ∨ bk q.1 k)) w0 V' → K V') :
    stL V ((⟨b, 0, none⟩ : Addr).add 0) 0 [sv x] fun w1 => dr (some ⟨b, 0, none⟩) fun p2 => (stL w1 (p2.add 1) 0 [sv y] K) ∧ True := by
  have hbB := h.bB
  have e0 : (⟨b, 0, none⟩ : Addr).add 0 = ⟨b, 0, none⟩ := by rw [add_none]
  rw [e0]
  refine stL_blk h.cell (by simp) (by intro v hv; rw [List.mem_singleton] at hv; subst hv; rfl) fun V1 B1 f1 s1 o1 t1 u1 => ?_
  have c1 : Chg (fun k => k = b) V V1 := ⟨o1, t1, u1, by omega, fun k _ hk => f1 k hk⟩
  refine dr_ok ⟨?_, trivial⟩
  have e1 : (⟨b, 0, none⟩ : Addr).add 1 = ⟨b, 1, none⟩ := by rw [add_none]
  rw [e1]
  refine stL_blk B1 (by simp [putAt]) (by intro v hv; rw [List.mem_singleton] at hv; subst hv; rfl) fun V2 B2 f2 s2 o2 t2 u2 => ?_
  have c2 : Chg (fun k => k = b) V1 V2 := ⟨o2, t2, u2, by omega, fun k _ hk => f2 k hk⟩
  have c12 : Chg (fun k => k = b) V V2 := c1.trans c2
  have B2 : Blk V2 b [sv x, sv y] 37 := B2
  obtain ⟨hx, hx2⟩ := h.pr1 x rfl
  obtain ⟨hy, hy2⟩ := h.nr1 y rfl
  refine hk V2 (fun k => bk x.1 k ∨ bk y.1 k) ⟨⟨x, y, B2, Owns.chg hx c12 fun k hk hh => ?_, Owns.chg hy c12 fun k hk hh => ?_, fun k => Iff.rfl⟩, hbB⟩ (fun k hk => ?_) ?_
  · have := (Owns.bk hx hk).1; omega
  · have := (Owns.bk hy hk).1; omega
  · rcases hk with hk | hk
    · exact (hx2 k hk).imp .inl id
    · exact (hy2 k hk).imp .inr id
  · exact (h.chg.mono fun k _ hk => .inr hk).trans (c12.mono fun k _ hk => .inl hk)
abbrev addF (b : Nat) : Value := .func (.func 21) ⟨[]⟩ ⟨[.pointer (some ⟨b, 0, none⟩)]⟩
set_option maxRecDepth 20000 in
set_option maxHeartbeats 1000000 in
theorem add_call {T : Nat → Prop} (h : TrSt w b B T P N) (hB : B ≤ w.heap.size) (hP : P.length ≤ 1000) (hN : N.length ≤ 1000) (par : Int) (nm : Nm) {K : Ending → World → Prop}
    (hk : ∀ V' T', TrSt V' b B T' (P ++ [par]) (N ++ [nm]) → (∀ k, T' k → T k ∨ w.heap.size ≤ k) → Chg (fun k => k = b ∨ T k) w V' → K (.returned (.int .i64 (P.length : Int))) V') :
    CallV Tryz.prog (addF b) [.int .i64 par, .string ⟨⟨nm⟩⟩] w K := by
  refine ⟨by kernel_rfl, ?_⟩
  apply c_split_Build_1
  unfold sh_split_Build_1
  obtain ⟨p, q, B1, hp, hq, hT⟩ := h.at_
  intro K4 hK4
  have ed := ext_drew w
  have k4 : ∀ V' T', TrSt V' b B T' (P ++ [par]) (N ++ [nm]) → (∀ k, T' k → (bk p.1 k ∨ bk q.1 k) ∨ w.drew.heap.size ≤ k) → Chg (fun k => k = b ∨ (bk p.1 k ∨ bk q.1 k)) w.drew V' → K4 V' := by
    intro V' T' h1 h2 h3
    refine hK4 V' fun _ => ?_
    obtain ⟨p', q', C1, hp', _, _⟩ := h1.at_
    have hl : (P ++ [par]).length = p'.2.1 := OwnL.length hp'
    rw [List.length_append, List.length_singleton] at hl
    refine dr_ok ⟨_, _, _, bat C1 rfl, ?_⟩
    rw [wrap_id (by omega), show (p'.2.1 : Int) - 1 = (P.length : Int) by omega]
    refine hk V' T' h1 (fun k hk' => (h2 k hk').imp (hT k).2 id) ((Chg.of_ext ed).trans (h3.mono fun k _ hk' => hk'.imp id (hT k).2))
  have hS : AddS b B w.drew p q P N par nm w.drew none none none none :=
    { bB := h.lt, z0 := hB, zV := Nat.le_refl _, lP := hP, lN := hN, pL := fun k hk' => Owns.bk hp hk', qL := fun k hk' => Owns.bk hq hk',
      dis := fun k h1 h2 => by
        obtain ⟨_, c1⟩ := own_blk hp h1
        obtain ⟨_, c2⟩ := own_blk hq h2
        exact blk_ne c1 c2 (by decide) rfl
      chg := Chg.refl _ _, cell := B1.ext ed, one := fun k g => (by cases g), two := fun k g => (by cases g), pr0 := fun _ => Owns.ext hp ed, pr1 := fun x g => (by cases g), nr0 := fun _ => Owns.ext hq ed, nr1 := fun x g => (by cases g) }
  unfold drw
  generalize w.drew = w0 at *
  clear hK4 hk hT h
  repeat' first
    | exact trivial
    | with_reducible exact st_fin (by assumption) k4
    | with_reducible refine And.intro ?_ ?_
    | with_reducible refine st_dr ?_
    | with_reducible refine st_rd0 (by assumption) ?_
    | with_reducible refine st_rd1 (by assumption) ?_
    | with_reducible refine st_al1 (by assumption) fun k V' hS' => ?_
    | with_reducible refine st_al2 (by assumption) fun k V' hS' => ?_
    | with_reducible refine st_app1 (by assumption) fun x V' hS' => ?_
    | with_reducible refine st_app2 (by assumption) fun x V' hS' => ?_
end
end Go.Proofs
namespace Go.Proofs
open Go Go.Sh Go.RowKit
/- split.Build's function least -/
section
variable {R : Ending → World → Prop} {S S2 : Nat → Prop} {w : World}
abbrev leastFn (b1 b2 b3 : Nat) : Value := .func (.func 31) ⟨[]⟩ ⟨[.pointer (some ⟨b1, 0, none⟩), .pointer (some ⟨b2, 0, none⟩), .pointer (some ⟨b3, 0, none⟩)]⟩
theorem last_step {own : List (List Nat)} {leaf : Nat} {k : Nat} : upS own leaf (k + 1) = if leaf ∈ gS own k then 3 + k else upS own leaf k := by
  unfold upS
  rw [lastS']
  split
  · rename_i h
    split at h
    · rename_i g; rw [if_pos g]; cases h; rfl
    · rename_i g; rw [if_neg g, h]
  · rename_i h
    split at h
    · cases h
    · rename_i g; rw [if_neg g, h]
theorem least_call {b1 b2 b3 : Nat} {o nd : Slv} {own : List (List Nat)} {m leaf before : Nat} (B1 : Blk w b1 [sv o] 29) (B2 : Blk w b2 [sv nd] 30) (B3 : Blk w b3 [.int .i64 2] 3) (hO : RowV vIs S w o.1 o.2.1 (own.map zN)) (hM : RowV vI S2 w nd.1 nd.2.1 ((List.range m).map fun j : Nat => ((3 + j : Nat) : Int)))
    (hb : before ≤ m) (hb2 : before ≤ own.length) (hl : own.length ≤ 1000000) (hs : ∀ s ∈ own, s.length ≤ 1000000) {K : Ending → World → Prop} (h : ∀ w', Ext w w' → K (.returned (.int .i64 (upS own leaf before : Nat))) w') :
    CallV Tryz.prog (leastFn b1 b2 b3) [.int .i64 (leaf : Int), .int .i64 (before : Int)] w K := by
  refine ⟨by kernel_rfl, ?_⟩
  apply c_split_Build_3
  have hon := hO.1
  rw [List.length_map] at hon
  have hmn := hM.1
  rw [List.length_map, List.length_range] at hmn
  refine ⟨fun i W m' => ∃ k : Nat, i = (k : Int) - 1 ∧ k ≤ before ∧ m' = k ∧ Ext w W ∧ upS own leaf before = upS own leaf k, ⟨before, before, wrap_id (by omega), Nat.le_refl _, rfl, Below.refl _ _, rfl⟩, ?_⟩
  rintro _ W m' ⟨k, rfl, hk, hm', eW, hu⟩ _
  refine br_split (fun hge => ?_) (fun hlt => ?_)
  · obtain ⟨j, rfl⟩ : ∃ j, k = j + 1 := ⟨k - 1, by omega⟩
    rw [show ((j + 1 : Nat) : Int) - 1 = (j : Int) by omega]
    obtain ⟨pp, a', c', ip, dp, _, rp⟩ := rowL_get (hO.ext eW) (i := j) (by omega)
    refine dr_ok ⟨_, _, _, b0_cell (B1.ext eW), ip _ ⟨_, _, _, dp, ?_⟩⟩
    have hlen := hs _ (gS_mem (own := own) (k := j) (by omega))
    refine ContainsI_spec (leaf : Int) rp (by omega) ⟨_, rfl, ?_⟩
    rw [decide_eq_decide.2 (zN_mem (l := gS own j) (x := leaf))]
    refine br_split (fun g => ?_) (fun g => ?_)
    · obtain ⟨p2, i2, d2⟩ := rowI_get (hM.ext eW) (i := j) (by rw [List.length_map, List.length_range]; omega)
      refine dr_ok ⟨_, _, _, b0_cell (B2.ext eW), i2 _ ⟨_, d2, ?_⟩⟩
      have e1 : gZ ((List.range m).map fun j : Nat => ((3 + j : Nat) : Int)) j = ((3 + j : Nat) : Int) := by
        rw [gZ_at (by rw [List.length_map, List.length_range]; omega), List.getElem_map, List.getElem_range]
      rw [e1]
      have := h W eW
      rw [hu, last_step, if_pos g] at this
      exact this
    · refine ⟨j, by omega, j, wrap_id (by omega), by omega, rfl, eW, ?_⟩
      rw [hu, last_step, if_neg g]
  · obtain rfl : k = 0 := by omega
    refine dr_ok ⟨_, b0_cell (B3.ext eW), ?_⟩
    have := h W eW
    rw [hu] at this
    exact this
end
end Go.Proofs
namespace Go.Proofs
open Go Go.Sh Go.RowKit
/- phylotree.Check, Leaves -/
def namedF (s : Nm) : Bool := if Lib.hasSuffix s [42] = true then decide (s.length ≤ 16) && isNameF (Lib.trimSuffix s [42]) else isNameF s
theorem named_ne {s : Nm} (h : namedF s = true) : s ≠ [] := by
  rintro rfl
  revert h; decide
def gM (N : List Nm) (i : Nat) : Nm := N.getD i []
theorem gM_at {N : List Nm} {i : Nat} (h : i < N.length) : gM N i = N[i] := getD_at h []
def innP (P : List Int) (k i : Nat) : Prop := ∃ j, 0 < j ∧ j < k ∧ gZ P j = i
instance (P : List Int) (k i : Nat) : Decidable (innP P k i) := decidable_of_iff (∃ j, j < k ∧ (0 < j ∧ gZ P j = i)) ⟨fun ⟨j, h1, h2, h3⟩ => ⟨j, h2, h1, h3⟩, fun ⟨j, h1, h2, h3⟩ => ⟨j, h2, h1, h3⟩⟩
theorem innP_succ {P : List Int} {k i : Nat} : innP P (k + 1) i ↔ innP P k i ∨ (0 < k ∧ gZ P k = i) := by
  constructor
  · rintro ⟨j, h1, h2, h3⟩
    by_cases e : j = k
    · subst e; exact .inr ⟨h1, h3⟩
    · exact .inl ⟨j, h1, by omega, h3⟩
  · rintro (⟨j, h1, h2, h3⟩ | ⟨h1, h2⟩)
    · exact ⟨j, h1, by omega, h3⟩
    · exact ⟨k, h1, by omega, h2⟩
structure TreeOk (P : List Int) (N : List Nm) : Prop where
  pos : 0 < P.length
  le : P.length ≤ 64
  len : N.length = P.length
  root : gZ P 0 = -1
  par : ∀ i, 0 < i → i < P.length → 0 ≤ gZ P i ∧ gZ P i < i
  nm : ∀ i, i < N.length → (innP P P.length i ∧ gM N i = []) ∨ (¬ innP P P.length i ∧ namedF (gM N i) = true ∧ gM N i ∉ N.take i)
section
variable {R : Ending → World → Prop} {S S2 : Nat → Prop} {w : World} {p q : Slv} {P : List Int} {N : List Nm}
theorem named_spec (s : Nm) (hs : s.length ≤ 1000000) (h : R (.returned (.bool (namedF s))) w) : Calls Tryz.prog F_phylotree_named ⟨[.string ⟨⟨s⟩⟩]⟩ w R := by
  apply c_phylotree_named
  refine (Tryz.strings_CutSuffix ⟨⟨s⟩⟩ ⟨⟨[42]⟩⟩ w (by show s.length ≤ _; omega)).mono ?_
  rintro e w' ⟨rfl, rfl⟩
  unfold namedF at h
  refine ⟨_, _, rfl, br_cases (fun g => ?_) (fun g => ?_)⟩
  · have g : Lib.hasSuffix s [42] = true := g
    rw [if_pos g] at h
    refine br_split (fun g2 => ?_) (fun g2 => ?_)
    · rw [decide_eq_true (by omega), Bool.true_and] at h
      exact IsName_spec _ ⟨_, rfl, h⟩
    · rw [decide_eq_false (by omega), Bool.false_and] at h
      exact h
  · have g : Lib.hasSuffix s [42] = false := g
    rw [if_neg (by rw [g]; decide)] at h
    exact IsName_spec _ ⟨_, rfl, h⟩
theorem rowS_get {a : Option Addr} {n : Nat} (h1 : RowV vS S w a n N) {i : Nat} (hi : i < N.length) : ∃ p : Addr, (∀ K : Addr → Prop, K p → idx a n (i : Int) 1 K) ∧ w.cell? p = some (.string ⟨⟨gM N i⟩⟩) := by
  obtain ⟨p, hp, d⟩ := h1.str hi
  exact ⟨p, hp, by rw [gM_at hi]; exact d⟩
set_option maxRecDepth 20000 in
theorem tCheck_spec (hP : RowV vI S w p.1 p.2.1 P) (hN : RowV vS S2 w q.1 q.2.1 N) (hcN : q.2.1 ≤ q.2.2) (hn1 : p.2.1 ≤ 4611686018427387904) (hn2 : q.2.1 ≤ 4611686018427387904) (hb : ∀ s ∈ N, s.length ≤ 1000000)
    (h : ∀ (e : Int) w', Ext w w' → (e = 0 ↔ TreeOk P N) → e ≠ 17 → R (.returned (.int .i64 e)) w') : Calls Tryz.prog F_phylotree_Check ⟨[.agg ⟨[sv p, sv q]⟩]⟩ w R := by
  apply c_phylotree_Check
  have hp := hP.1
  have hq := hN.1
  refine al_intro fun b3 w4 hb3 B3 e4 s4 => ?_
  have no : ∀ (e : Int) V, Ext w V → e ≠ 0 → e ≠ 17 → ¬ TreeOk P N → R (.returned (.int .i64 e)) V := fun e V eV h0 h1 hn => h e V eV ⟨fun g => absurd g h0, fun g => absurd g hn⟩ h1
  refine ⟨_, _, _, bat B3 rfl, br_split (fun g => no _ _ e4 (by decide) (by decide) fun t => by have := t.pos; omega) (fun g1 => ?_)⟩
  refine ⟨_, _, _, bat B3 rfl, br_split (fun g => no _ _ e4 (by decide) (by decide) fun t => by have := t.le; omega) (fun g2 => ?_)⟩
  refine ⟨_, _, _, bat B3 rfl, _, _, _, bat B3 rfl, br_split (fun g => no _ _ e4 (by decide) (by decide) fun t => by have := t.len; omega) (fun g3 => ?_)⟩
  refine ⟨_, _, _, bat B3 rfl, mks_intro (Nat.le_refl _) (by omega) fun b10 w11 hb10 B10 e11 s11 => ⟨_, _, _, bat (B3.ext e11) rfl, ?_⟩⟩
  rw [fC_rep] at B10
  have e011 := ext_trans e4 e11
  have z4 := e4.size
  have z11 := e11.size
  refine ⟨fun i W m => ∃ k : Nat, i = k ∧ k ≤ p.2.1 ∧ m = p.2.1 - k ∧ Blk W b10 (fC p.2.1 fun j => .bool (decide (innP P k j))) 4 ∧ Chg (fun k => k = b10) w11 W ∧ (0 < k → gZ P 0 = -1) ∧ (∀ i, 0 < i → i < k → 0 ≤ gZ P i ∧ gZ P i < i),
    ⟨_, 0, rfl, Nat.zero_le _, rfl, ?_, Chg.refl _ _, fun q => by omega, fun i _ hi => by omega⟩, ?_⟩
  · have : (fC p.2.1 fun _ => Value.bool false) = fC p.2.1 fun j => .bool (decide (innP P 0 j)) := fC_congr fun j _ => by rw [decide_eq_false]; rintro ⟨x, h1, h2, _⟩; omega
    rw [← this]; exact B10
  rintro _ W m ⟨k, rfl, hk, rfl, C10, cW, hroot, hpar⟩ _
  have eW : Ext w W := ext_chgS e011 cW fun j hj => by omega
  have B3W := cW.blk (B3.ext e11) (by have := B3.lt; omega)
  refine br_split (fun hlt => ?_) (fun hge => ?_)
  · have hkP : k < P.length := by omega
    obtain ⟨pp, ip, dp⟩ := rowI_get (hP.ext eW) hkP
    refine ip _ ⟨_, dp, ?_⟩
    intro K20 hK20
    have k20 : (k = 0 → gZ P 0 = -1) → (0 < k → 0 ≤ gZ P k ∧ gZ P k < k) → K20 W := by
      intro h0 h1
      have hroot' : 0 < k + 1 → gZ P 0 = -1 := fun _ => by
        by_cases e : k = 0
        · exact h0 e
        · exact hroot (by omega)
      have hpar' : ∀ i, 0 < i → i < k + 1 → 0 ≤ gZ P i ∧ gZ P i < i := fun i hi1 hi2 => by
        by_cases e : i = k
        · subst e; exact h1 hi1
        · exact hpar i hi1 (by omega)
      refine hK20 W fun _ => br_split (fun g => ?_) (fun g => ?_)
      · obtain ⟨h2, h3⟩ := h1 (by omega)
        obtain ⟨x, hx⟩ : ∃ x : Nat, gZ P k = x := ⟨(gZ P k).toNat, by omega⟩
        rw [hx, Int.toNat_natCast]
        refine idx_b1 (by omega) ?_
        refine stL_fC C10 (j := x) (by omega) rfl fun w23 C23 c23 s23 => ?_
        refine ⟨p.2.1 - (k + 1), by omega, k + 1, by rw [wrap_nat (by omega)], by omega, rfl, ?_, cW.trans c23, hroot', hpar'⟩
        have : (fC p.2.1 fun i => if i = x then Value.bool true else .bool (decide (innP P k i))) = fC p.2.1 fun j => .bool (decide (innP P (k + 1) j)) := fC_congr fun j _ => by
          by_cases e : j = x
          · rw [if_pos e, decide_eq_true (innP_succ.2 (.inr ⟨by omega, by rw [hx, e]⟩))]
          · rw [if_neg e]
            congr 1
            rw [decide_eq_decide, innP_succ]
            exact ⟨.inl, fun t => t.elim id fun t => absurd t.2 (by rw [hx]; omega)⟩
        rw [← this]; exact C23
      · have hk0 : k = 0 := by omega
        subst hk0
        refine ⟨p.2.1 - 1, by omega, 1, by rw [wrap_nat (by omega)], by omega, rfl, ?_, cW, hroot', hpar'⟩
        have : (fC p.2.1 fun j => Value.bool (decide (innP P 0 j))) = fC p.2.1 fun j => .bool (decide (innP P 1 j)) := fC_congr fun j _ => congrArg Value.bool (decide_eq_decide.2 (by rw [innP_succ (k := 0)]; exact ⟨.inl, fun t => t.elim id fun t => absurd t.1 (by omega)⟩))
        rw [← this]; exact C10
    have nor : ¬ TreeOk P N → R (.returned (.int .i64 2)) W := no _ _ eW (by decide) (by decide)
    refine br_split (fun gk0 => ?_) (fun gk0 => ?_)
    · refine br_split (fun g => nor fun t => ?_) (fun g => br_neg (by omega) (k20 (fun e => ?_) fun q => by omega))
      · have := t.root
        have hk0 : k = 0 := by omega
        subst hk0; omega
      · subst e; omega
    · refine br_pos (by omega) (br_split (fun g => nor fun t => ?_) (fun g => br_split (fun g2 => nor fun t => ?_) (fun g2 => k20 (fun e => by omega) fun _ => ⟨by omega, by omega⟩)))
      · have := (t.par k (by omega) hkP).1; omega
      · have := (t.par k (by omega) hkP).2; omega
  · have hkn : k = P.length := by omega
    subst hkn
    refine ⟨_, _, _, bat B3W rfl, ?_⟩
    refine ⟨fun i V m => ∃ j : Nat, i = j ∧ j ≤ q.2.1 ∧ m = q.2.1 - j ∧ Ext W V ∧ (∀ i, i < j → (innP P P.length i ∧ gM N i = []) ∨ (¬ innP P P.length i ∧ namedF (gM N i) = true ∧ gM N i ∉ N.take i)), ⟨_, 0, rfl, Nat.zero_le _, rfl, Below.refl _ _, fun i hi => by omega⟩, ?_⟩
    rintro _ V m ⟨j, rfl, hj, rfl, eV, hnm⟩ _
    have e0V := ext_trans eW eV
    have C10V := C10.ext eV
    refine br_split (fun hlt => ?_) (fun hge2 => ?_)
    · have hjN : j < N.length := by omega
      obtain ⟨pp, ip, dp⟩ := rowS_get (hN.ext e0V) hjN
      have hbj : (gM N j).length ≤ 1000000 := by rw [gM_at hjN]; exact hb _ (List.getElem_mem hjN)
      refine ip _ ⟨_, dp, ?_⟩
      have nx : ∀ U, Ext V U → ((innP P P.length j ∧ gM N j = []) ∨ (¬ innP P P.length j ∧ namedF (gM N j) = true ∧ gM N j ∉ N.take j)) → ∃ m46 : Nat, m46 < q.2.1 - j ∧ ∃ j' : Nat, IntKind.i64.wrap ((j : Int) + 1) = j' ∧ j' ≤ q.2.1 ∧ m46 = q.2.1 - j' ∧ Ext W U ∧ (∀ i, i < j' → (innP P P.length i ∧ gM N i = []) ∨ (¬ innP P P.length i ∧ namedF (gM N i) = true ∧ gM N i ∉ N.take i)) := fun U eU hh =>
        ⟨q.2.1 - (j + 1), by omega, j + 1, by rw [wrap_nat (by omega)], by omega, rfl, ext_trans eV eU, fun i hi => by
          by_cases e : i = j
          · subst e; exact hh
          · exact hnm i (by omega)⟩
      intro K34 hK34
      have hin : V.cell? ⟨b10, j, none⟩ = some (.bool (decide (innP P P.length j))) := by rw [C10V.cell, fC_get (by omega)]
      have k34 : ∀ b : Bool, (b = true ↔ (innP P P.length j ∧ gM N j = [])) → K34 b V := by
        intro b hb1
        refine hK34 b V fun _ => br_cases (fun gb => nx V (Below.refl _ _) (.inl (hb1.1 gb))) (fun gb => ?_)
        have hnb : ¬ (innP P P.length j ∧ gM N j = []) := fun t => by rw [hb1.2 t] at gb; cases gb
        intro K38 hK38
        have k38 : ∀ c : Bool, (c = true ↔ ¬ (¬ innP P P.length j ∧ namedF (gM N j) = true)) → K38 c V := by
          intro c hc1
          refine hK38 c V fun _ => br_cases (fun gc => no _ _ e0V (by decide) (by decide) fun t => ?_) (fun gc => ?_)
          · have := hc1.1 gc
            rcases t.nm j hjN with t | t
            · exact hnb t
            · exact this ⟨t.1, t.2.1⟩
          · have hok : ¬ innP P P.length j ∧ namedF (gM N j) = true := Decidable.not_not.1 fun t => by rw [hc1.2 t] at gc; cases gc
            refine ⟨_, _, _, bat (B3W.ext eV) rfl, ?_⟩
            refine RowV.cut (i := 0) (j := j) (hN.ext e0V) hcN (by omega) (by omega) fun a25 h25 => ?_
            rw [List.drop_zero] at h25
            refine ContainsS_spec (gM N j) h25 (by omega) ⟨_, rfl, br_split (fun g => no _ _ e0V (by decide) (by decide) fun t => ?_) (fun g => nx V (Below.refl _ _) (.inr ⟨hok.1, hok.2, g⟩))⟩
            rcases t.nm j hjN with t | t
            · exact hnb t
            · exact t.2.2 g
        refine idx_b1 (by omega) ⟨_, hin, br_split (fun g => k38 true ⟨fun _ t => t.1 g, fun _ => rfl⟩) (fun g => ?_)⟩
        refine named_spec _ hbj ⟨_, rfl, k38 _ ?_⟩
        constructor
        · intro t t2
          rw [t2.2] at t; cases t
        · intro t
          cases hc : namedF (gM N j) with
          | false => rfl
          | true => exact absurd ⟨g, hc⟩ t
      refine idx_b1 (by omega) ⟨_, hin, br_split (fun g => k34 _ ?_) (fun g => k34 _ ⟨fun t => (by cases t), fun t => absurd t.1 g⟩)⟩
      rw [decide_eq_true_iff]
      exact ⟨fun t => ⟨g, t⟩, fun t => t.2⟩
    · have hjn : j = N.length := by omega
      subst hjn
      exact h 0 V e0V ⟨fun _ => ⟨by omega, by omega, by omega, hroot (by omega), hpar, hnm⟩, fun _ => rfl⟩ (by decide)
end
end Go.Proofs
namespace Go.Proofs
/- depth first: each node once, behind its parent -/
def dfsP (Kd : Nat → List Nat) : Nat → Nat → Option Nat → List (Nat × Option Nat)
  | 0, _, _ => []
  | f + 1, i, q => (i, q) :: (Kd i).flatMap fun c => dfsP Kd f c (some i)
structure KidsOk (n : Nat) (P : Nat → Nat) (Kd : Nat → List Nat) : Prop where
  par : ∀ c, 0 < c → c < n → P c < c
  mem : ∀ i, i < n → ∀ c, c ∈ Kd i ↔ (0 < c ∧ c < n ∧ P c = i)
  nd : ∀ i, i < n → (Kd i).Nodup
section
variable {n : Nat} {P : Nat → Nat} {Kd : Nat → List Nat}
theorem KidsOk.kid (h : KidsOk n P Kd) {i c : Nat} (hi : i < n) (hc : c ∈ Kd i) : i < c ∧ c < n ∧ P c = i ∧ 0 < c := by
  obtain ⟨h1, h2, h3⟩ := (h.mem i hi c).1 hc
  have := h.par c h1 h2
  omega
def upN (P : Nat → Nat) : Nat → Nat → Nat
  | 0, x => x
  | k + 1, x => upN P k (P x)
theorem upN_add (P : Nat → Nat) : ∀ (a b x : Nat), upN P (a + b) x = upN P b (upN P a x)
  | 0, b, x => by rw [Nat.zero_add]; rfl
  | a + 1, b, x => by
    rw [show a + 1 + b = (a + b) + 1 by omega]
    show upN P (a + b) (P x) = upN P b (upN P a (P x))
    rw [upN_add P a b (P x)]
/- what is met lies below: a climb over nodes greater than the start -/
theorem dfs_below (h : KidsOk n P Kd) : ∀ (f i : Nat) (q : Option Nat), i < n → ∀ y ∈ dfsP Kd f i q, y.1 < n ∧ i ≤ y.1 ∧ ∃ k, upN P k y.1 = i ∧ ∀ j, j < k → i < upN P j y.1 ∧ upN P j y.1 < n
  | 0, i, q, _, y, hy => by cases hy
  | f + 1, i, q, hi, y, hy => by
    rw [dfsP] at hy
    rcases List.mem_cons.1 hy with rfl | hy
    · exact ⟨hi, Nat.le_refl _, 0, rfl, fun j hj => by omega⟩
    · obtain ⟨c, hc, hyc⟩ := List.mem_flatMap.1 hy
      obtain ⟨k1, k2, k3, k4⟩ := h.kid hi hc
      obtain ⟨g1, g2, k, g3, g4⟩ := dfs_below h f c (some i) k2 y hyc
      refine ⟨g1, by omega, k + 1, ?_, fun j hj => ?_⟩
      · rw [upN_add, g3]; exact k3
      · by_cases e : j = k
        · subst e; rw [g3]; exact ⟨k1, k2⟩
        · have := g4 j (by omega); omega
theorem kid_of_below (h : KidsOk n P Kd) {i x c1 c2 k1 k2 : Nat} (hi : i < n) (h1 : c1 ∈ Kd i) (h2 : c2 ∈ Kd i) (u1 : upN P k1 x = c1) (u2 : upN P k2 x = c2) (a1 : ∀ j, j < k1 → c1 < upN P j x ∧ upN P j x < n) (a2 : ∀ j, j < k2 → c2 < upN P j x ∧ upN P j x < n) : c1 = c2 := by
  obtain ⟨q1, q2, q3, q4⟩ := h.kid hi h1
  obtain ⟨r1, r2, r3, r4⟩ := h.kid hi h2
  rcases Nat.lt_trichotomy k1 k2 with hlt | he | hlt
  · exfalso
    have e : k2 = k1 + (k2 - k1) := by omega
    by_cases e1 : k2 = k1 + 1
    · rw [e1, upN_add, u1] at u2
      have : P c1 = c2 := u2
      omega
    · have := (a2 (k1 + 1) (by omega)).1
      rw [upN_add, u1] at this
      have : c2 < P c1 := this
      omega
  · subst he; exact u1.symm.trans u2
  · exfalso
    by_cases e1 : k1 = k2 + 1
    · rw [e1, upN_add, u2] at u1
      have : P c2 = c1 := u1
      omega
    · have := (a1 (k2 + 1) (by omega)).1
      rw [upN_add, u2] at this
      have : c1 < P c2 := this
      omega
theorem dfs_nodup (h : KidsOk n P Kd) : ∀ (f i : Nat) (q : Option Nat), i < n → ((dfsP Kd f i q).map (·.1)).Nodup
  | 0, _, _, _ => List.nodup_nil
  | f + 1, i, q, hi => by
    rw [dfsP, List.map_cons, List.nodup_cons]
    refine ⟨fun hm => ?_, ?_⟩
    · obtain ⟨y, hy, he⟩ := List.mem_map.1 hm
      obtain ⟨c, hc, hyc⟩ := List.mem_flatMap.1 hy
      obtain ⟨k1, k2, _⟩ := h.kid hi hc
      have := (dfs_below h f c (some i) k2 y hyc).2.1
      have he : y.1 = i := he
      omega
    · have : ∀ l : List Nat, l.Nodup → (∀ c ∈ l, c ∈ Kd i) → ((l.flatMap fun c => dfsP Kd f c (some i)).map (·.1)).Nodup := by
        intro l
        induction l with
        | nil => intro _ _; exact List.nodup_nil
        | cons c l ih =>
          intro hn hl
          rw [List.nodup_cons] at hn
          have hc := hl c List.mem_cons_self
          have hck := h.kid hi hc
          rw [List.flatMap_cons, List.map_append, List.nodup_append]
          refine ⟨dfs_nodup h f c (some i) hck.2.1, ih hn.2 fun x hx => hl x (List.mem_cons_of_mem _ hx), fun x hx y hy hxy => ?_⟩
          subst hxy
          obtain ⟨y1, hy1, rfl⟩ := List.mem_map.1 hx
          obtain ⟨y2, hy2, he2⟩ := List.mem_map.1 hy
          obtain ⟨c2, hc2, hyc2⟩ := List.mem_flatMap.1 hy2
          have hc2k := hl c2 (List.mem_cons_of_mem _ hc2)
          obtain ⟨_, _, ka, ua, aa⟩ := dfs_below h f c (some i) hck.2.1 y1 hy1
          obtain ⟨_, _, kb, ub, ab⟩ := dfs_below h f c2 (some i) (h.kid hi hc2k).2.1 y2 hyc2
          have he2 : y2.1 = y1.1 := he2
          rw [he2] at ub ab
          exact hn.1 (kid_of_below h hi hc hc2k ua ub aa ab ▸ hc2)
      exact this _ (h.nd i hi) fun c hc => hc
theorem dfs_kids (h : KidsOk n P Kd) : ∀ (f i : Nat) (q : Option Nat), i < n → n ≤ i + f → ∀ y ∈ dfsP Kd f i q, ∀ c ∈ Kd y.1, (c, some y.1) ∈ dfsP Kd f i q
  | 0, i, q, hi, hf, _, hy, _, _ => by cases hy
  | f + 1, i, q, hi, hf, y, hy, c, hc => by
    rw [dfsP] at hy ⊢
    refine List.mem_cons_of_mem _ (List.mem_flatMap.2 ?_)
    rcases List.mem_cons.1 hy with rfl | hy
    · have hk := h.kid hi hc
      refine ⟨c, hc, ?_⟩
      obtain ⟨f', rfl⟩ : ∃ f', f = f' + 1 := ⟨f - 1, by omega⟩
      rw [dfsP]; exact List.mem_cons_self
    · obtain ⟨c0, hc0, hyc⟩ := List.mem_flatMap.1 hy
      have hk := h.kid hi hc0
      exact ⟨c0, hc0, dfs_kids h f c0 (some i) hk.2.1 (by omega) y hyc c hc⟩
theorem dfs_all (h : KidsOk n P Kd) (hn : 0 < n) : ∀ x, x < n → x ∈ (dfsP Kd n 0 none).map (·.1) := by
  intro x
  induction x using Nat.strongRecOn with
  | ind x ih =>
    intro hx
    by_cases h0 : x = 0
    · subst h0
      obtain ⟨m, rfl⟩ : ∃ m, n = m + 1 := ⟨n - 1, by omega⟩
      rw [dfsP]; exact List.mem_cons_self
    · have hp := h.par x (by omega) hx
      obtain ⟨y, hy, he⟩ := List.mem_map.1 (ih (P x) hp (by omega))
      have he : y.1 = P x := he
      exact List.mem_map.2 ⟨_, dfs_kids h n 0 none hn (by omega) y hy x (by rw [he]; exact (h.mem (P x) (by omega) x).2 ⟨by omega, hx, rfl⟩), rfl⟩
theorem dfs_perm (h : KidsOk n P Kd) (hn : 0 < n) : ((dfsP Kd n 0 none).map (·.1)).Perm (List.range n) := by
  refine (List.perm_ext_iff_of_nodup (dfs_nodup h n 0 none hn) List.nodup_range).2 fun x => ?_
  rw [List.mem_range]
  constructor
  · intro hx
    obtain ⟨y, hy, rfl⟩ := List.mem_map.1 hx
    exact (dfs_below h n 0 none hn y hy).1
  · exact dfs_all h hn x
/- parents stand before their children -/
def okSeq : List Nat → List (Nat × Option Nat) → Prop
  | _, [] => True
  | seen, y :: l => (∀ p, y.2 = some p → p ∈ seen ∧ 0 < y.1 ∧ y.1 < n ∧ P y.1 = p) ∧ okSeq (seen ++ [y.1]) l
theorem okSeq_app : ∀ {l l' : List (Nat × Option Nat)} {s : List Nat}, okSeq (n := n) (P := P) s l → (∀ s', (∀ x ∈ s, x ∈ s') → okSeq (n := n) (P := P) s' l') → okSeq (n := n) (P := P) s (l ++ l')
  | [], l', s, _, h => h s fun _ hx => hx
  | y :: l, l', s, ⟨h1, h2⟩, h => ⟨h1, okSeq_app h2 fun s' hs => h s' fun x hx => hs x (List.mem_append_left _ hx)⟩
theorem dfs_ok (h : KidsOk n P Kd) : ∀ (f i : Nat) (q : Option Nat) (s : List Nat), i < n → (∀ p, q = some p → p ∈ s ∧ 0 < i ∧ i < n ∧ P i = p) → okSeq (n := n) (P := P) s (dfsP Kd f i q)
  | 0, _, _, _, _, _ => trivial
  | f + 1, i, q, s, hi, hq => by
    rw [dfsP]
    refine ⟨hq, ?_⟩
    have : ∀ (l : List Nat) (s' : List Nat), (∀ c ∈ l, c ∈ Kd i) → i ∈ s' → okSeq (n := n) (P := P) s' (l.flatMap fun c => dfsP Kd f c (some i)) := by
      intro l
      induction l with
      | nil => intro _ _ _; exact trivial
      | cons c l ih =>
        intro s' hl hm
        rw [List.flatMap_cons]
        have hk := h.kid hi (hl c List.mem_cons_self)
        exact okSeq_app (dfs_ok h f c (some i) s' hk.2.1 fun p hp => by cases hp; exact ⟨hm, hk.2.2.2, hk.2.1, hk.2.2.1⟩) fun s2 hs2 => ih s2 (fun x hx => hl x (List.mem_cons_of_mem _ hx)) (hs2 _ hm)
    exact this _ _ (fun c hc => hc) (by simp)
theorem okSeq_at : ∀ {pre l : List (Nat × Option Nat)} {y : Nat × Option Nat} {s : List Nat}, okSeq (n := n) (P := P) s l → pre ++ [y] <+: l → ∀ p, y.2 = some p → (p ∈ s ∨ p ∈ pre.map (·.1)) ∧ 0 < y.1 ∧ y.1 < n ∧ P y.1 = p
  | [], l, y, s, h, hp, p, hy => by
    obtain ⟨t, rfl⟩ := hp
    have := h.1 p hy
    exact ⟨.inl this.1, this.2⟩
  | x :: pre, l, y, s, h, hp, p, hy => by
    obtain ⟨t, rfl⟩ := hp
    have := okSeq_at (pre := pre) (l := pre ++ [y] ++ t) h.2 ⟨t, rfl⟩ p hy
    refine ⟨?_, this.2⟩
    rcases this.1 with g | g
    · rcases List.mem_append.1 g with g | g
      · exact .inl g
      · right
        rw [List.mem_singleton] at g
        subst g; exact List.mem_cons_self
    · exact .inr (List.mem_cons_of_mem _ g)
end
end Go.Proofs
namespace Go.Sh
open Go Go.RowKit
/- maps whose keys are pointers to blocks -/
def pk (x : Option Nat) : Value := .pointer (x.map fun b => ⟨b, 0, none⟩)
def liveK (w : World) (x : Option Nat) : Prop := ∀ b, x = some b → ∃ cs T, w.heap[b]? = some (.cells cs T (0, 0))
theorem liveK.none (w : World) : liveK w none := fun b h => by cases h
theorem liveK.ext {w w' : World} {x : Option Nat} (h : liveK w x) (he : Ext w w') : liveK w' x := fun b hb => by
  obtain ⟨cs, T, hc⟩ := h b hb
  exact ⟨cs, T, by rw [he.block b (Array.getElem?_eq_some_iff.1 hc).1]; exact hc⟩
theorem liveK.chg {S : Nat → Prop} {w w' : World} {x : Option Nat} (h : liveK w x) (hc : Chg S w w') (hs : ∀ b, x = some b → ¬ S b) : liveK w' x := fun b hb => by
  obtain ⟨cs, T, hcl⟩ := h b hb
  exact ⟨cs, T, by rw [hc.block b (Array.getElem?_eq_some_iff.1 hcl).1 (hs b hb)]; exact hcl⟩
section
variable {P : Program} {k t e el : TypeId} {w w' : World} {b : Nat} {ks : List (Option Nat)} {f : Option Nat → Value}
theorem run_eqP {i : TypeInfo} (hk : P.underlying k = some (.pointer el)) (hi : P.info? el = some i) (hz : i.size ≠ 0) {x y : Option Nat} (hx : liveK w x) (hy : liveK w y) : (Op.equal k (pk x) (pk y)).run P w = .ok (decide (x = y)) w := by
  have h : ∀ d : Nat, (Op.equalIn (d + 1) k (pk x) (pk y)).run P w = .ok (decide (x = y)) w := by
    intro d
    cases x with
    | none =>
      cases y with
      | none => simp [Op.equalIn, run_underlying hk, pk]
      | some b => simp [Op.equalIn, run_underlying hk, pk]
    | some a =>
      cases y with
      | none => simp [Op.equalIn, run_underlying hk, pk]
      | some b =>
        by_cases hab : a = b
        · subst hab
          simp [Op.equalIn, run_underlying hk, pk, sizeOf, typeInfo, hi, hz, run_sameAddr_same]
        · obtain ⟨ca, ta, ha⟩ := hx a rfl
          obtain ⟨cb, tb, hb⟩ := hy b rfl
          have := run_sameAddr_other (P := P) w (a := ⟨a, 0, none⟩) (b := ⟨b, 0, none⟩) (by simp) ha hb
          simp [Op.equalIn, run_underlying hk, pk, sizeOf, typeInfo, hi, hz, this, hab]
  exact h 9999
def MapP (w : World) (b : Nat) (ks : List (Option Nat)) (f : Option Nat → Value) : Prop :=
  ∃ es clock, w.heap[b]? = some (.map es clock) ∧ es.toList.map (fun e => (e.key, e.val)) = ks.map (fun x => (pk x, f x))
theorem MapP.made {w' : World} {b : Nat} (h : ∃ clock, w'.heap[b]? = some (.map #[] clock)) (f : Option Nat → Value) : MapP w' b [] f := by
  obtain ⟨c, h⟩ := h
  exact ⟨#[], c, h, rfl⟩
theorem MapP.lt (h : MapP w b ks f) : b < w.heap.size := by
  obtain ⟨es, clock, hb, _⟩ := h
  exact (Array.getElem?_eq_some_iff.1 hb).1
theorem MapP.keep (h : MapP w b ks f) (hw : w'.heap[b]? = w.heap[b]?) : MapP w' b ks f := by
  obtain ⟨es, clock, hb, h⟩ := h
  exact ⟨es, clock, hw.trans hb, h⟩
theorem MapP.ext (h : MapP w b ks f) (hw : Ext w w') : MapP w' b ks f := h.keep (hw.block b h.lt)
theorem MapP.chg {S : Nat → Prop} (h : MapP w b ks f) (hw : Chg S w w') (hs : ¬ S b) : MapP w' b ks f := h.keep (hw.block b h.lt hs)
theorem findAsking_run {i : TypeInfo} (hk : P.underlying k = some (.pointer el)) (hi : P.info? el = some i) (hz : i.size ≠ 0) {x : Option Nat} (hx : liveK w x) : ∀ {es : List MapEntry} {ks : List (Option Nat)} {n : Nat}, es.map (fun e => (e.key, e.val)) = ks.map (fun x => (pk x, f x)) → (∀ y ∈ ks, liveK w y) →
    ∃ r, (Instr.findAsking k (pk x) es n).run P w = .ok r w ∧ (x ∈ ks → ∃ j, r = some (j, f x)) ∧ (x ∉ ks → r = none)
  | [], [], n, _, _ => ⟨none, by simp [Instr.findAsking], fun h => (by cases h), fun _ => rfl⟩
  | [], _ :: _, n, h, _ => by simp at h
  | _ :: _, [], n, h, _ => by simp at h
  | en :: es, y :: ks, n, h, hl => by
    simp only [List.map_cons, List.cons.injEq, Prod.mk.injEq] at h
    obtain ⟨⟨h1, h2⟩, h3⟩ := h
    have he := run_eqP (P := P) (w := w) hk hi hz hx (hl y List.mem_cons_self)
    by_cases hxy : x = y
    · subst hxy
      refine ⟨some (n, en.val), ?_, fun _ => ⟨n, by rw [h2]⟩, fun q => absurd List.mem_cons_self q⟩
      simp [Instr.findAsking, h1, he]
    · obtain ⟨r, g1, g2, g3⟩ := findAsking_run (n := n + 1) hk hi hz hx h3 fun z hz' => hl z (List.mem_cons_of_mem _ hz')
      refine ⟨r, ?_, fun q => g2 ((List.mem_cons.1 q).resolve_left hxy), fun q => g3 fun q2 => q (List.mem_cons_of_mem _ q2)⟩
      simp [Instr.findAsking, h1, he, hxy, g1]
theorem findKey_run {i : TypeInfo} (hk : P.underlying k = some (.pointer el)) (hi : P.info? el = some i) (hz : i.size ≠ 0) {x : Option Nat} (hx : liveK w x) {es : List MapEntry} {ks : List (Option Nat)} (h : es.map (fun e => (e.key, e.val)) = ks.map (fun x => (pk x, f x))) (hl : ∀ y ∈ ks, liveK w y) :
    ∃ r, (Instr.findKey k (pk x) es).run P w = .ok r w ∧ (x ∈ ks → ∃ j, r = some (j, f x)) ∧ (x ∉ ks → r = none) := by
  cases es with
  | nil =>
    cases ks with
    | nil => exact ⟨none, by simp [Instr.findKey, run_underlying hk, Instr.findNow], fun h => (by cases h), fun _ => rfl⟩
    | cons y ks => simp at h
  | cons en es =>
    obtain ⟨r, g1, g2, g3⟩ := findAsking_run (n := 0) hk hi hz hx h hl
    refine ⟨r, ?_, g2, g3⟩
    have hs : Instr.sameNow (.pointer el) (pk x) en.key = none := by unfold Instr.sameNow; rfl
    simp [Instr.findKey, run_underlying hk, Instr.findNow, hs, g1]
theorem checkKey_run (hk : P.underlying k = some (.pointer el)) (em : Bool) (x : Option Nat) : (Instr.checkKey em 10000 k (pk x)).run P w = .ok () w := by
  have h : ∀ d : Nat, (Instr.checkKey em (d + 1) k (pk x)).run P w = .ok () w := fun d => by simp [Instr.checkKey, run_underlying hk, pk]
  exact h 9999
theorem MapP.look (h : MapP w b ks f) {i : TypeInfo} (hk : P.underlying k = some (.pointer el)) (hi : P.info? el = some i) (hz : i.size ≠ 0) (ht : P.underlying t = some (.map k e)) {x : Option Nat} (hx : liveK w x) (hl : ∀ y ∈ ks, liveK w y) (hm : x ∈ ks) :
    lkAt P t (.map (some b)) (pk x) w (f x) := by
  obtain ⟨es, clock, hb, hes⟩ := h
  obtain ⟨r, g1, g2, _⟩ := findKey_run (P := P) (w := w) hk hi hz hx hes hl
  obtain ⟨j, rfl⟩ := g2 hm
  have hg : (getObj b).run P w = .ok (.map es clock) w := by simp [getObj, Sem.run, hb]
  unfold lkAt
  simp [Instr.lookup, run_underlying ht, hg, checkKey_run hk, g1]
theorem MapP.push (h : MapP w b ks f) {i : TypeInfo} (hk : P.underlying k = some (.pointer el)) (hi : P.info? el = some i) (hz : i.size ≠ 0) (ht : P.underlying t = some (.map k e)) {x : Option Nat} (hx : liveK w x) (hl : ∀ y ∈ ks, liveK w y) (hm : x ∉ ks) (v : Value) {Q : World → Prop}
    (hq : ∀ w', MapP w' b (ks ++ [x]) (fun y => if y = x then v else f y) → Chg (fun j => j = b) w w' → w'.heap.size = w.heap.size → Q w') : mupd P t (.map (some b)) (pk x) v w Q := by
  obtain ⟨es, clock, hb, hes⟩ := h
  obtain ⟨r, g1, _, g3⟩ := findKey_run (P := P) (w := w) hk hi hz hx hes hl
  obtain rfl := g3 hm
  have hg : (getObj b).run P w = .ok (.map es clock) w := by simp [getObj, Sem.run, hb]
  refine ⟨ChangeMaps.setBlock w b (.map (es.push ⟨pk x, v, clock⟩) (clock + 1)), ?_, hq _ ⟨_, _, ChangeMaps.heap_setBlock_same hb _, ?_⟩ ⟨rfl, rfl, rfl, by simp [ChangeMaps.setBlock], fun i _ hi => ChangeMaps.heap_setBlock_other hb _ hi⟩ (by simp [ChangeMaps.setBlock])⟩
  · simp [Instr.mapUpdate, run_underlying ht, MapKept.run_getObj_map hb, checkKey_run hk, g1, MapKept.run_setObj_map _ hb, Result.andThen, ChangeMaps.setBlock]
  · rw [Array.toList_push, List.map_append, List.map_append, hes]
    congr 1
    · refine List.map_congr_left fun y hy => ?_
      have hne : y ≠ x := fun q => hm (q ▸ hy)
      simp [hne]
    · simp
end
theorem mkmP_intro {w : World} {K : Nat → World → Prop}
    (h : ∀ b w', b = w.heap.size → (∀ f, MapP w' b [] f) → Ext w w' → w'.heap.size = b + 1 → K b w') : mkm w K :=
  h _ _ rfl (fun f => MapP.made ⟨0, (MapKept.heap_alloc w _).1⟩ f) ((Below.refl _ w).alloc (Nat.le_refl _) _) (by simp)
end Go.Sh
namespace Go.Proofs
open Go Go.Sh Go.RowKit
/- phylotree.nodes: the nodes of a tree in memory -/
def encP : Enc Nat := ⟨fun b => [.pointer (some ⟨b, 0, none⟩)], 1, fun _ => rfl, by decide, by intro x v hv; rw [List.mem_singleton] at hv; subst hv; rfl⟩
theorem slT_np : SlT Tryz.prog 89 88 1 8 (.pointer none) := ⟨by kernel_rfl, by kernel_rfl, rfl, by decide⟩
abbrev ptr (b : Nat) : Value := .pointer (some ⟨b, 0, none⟩)
def kidF (P : List Int) (k i : Nat) : List Nat := (List.range k).filter fun c => decide (0 < c ∧ gZ P c = i)
theorem kidF_succ (P : List Int) (k i : Nat) : kidF P (k + 1) i = kidF P k i ++ (if 0 < k ∧ gZ P k = i then [k] else []) := by
  unfold kidF
  rw [List.range_succ, List.filter_append]
  congr 1
  by_cases h : 0 < k ∧ gZ P k = i
  · rw [if_pos h, List.filter_cons, if_pos (by simpa using h)]; rfl
  · rw [if_neg h, List.filter_cons, if_neg (by simpa using h)]; rfl
theorem kidF_len (P : List Int) (k i : Nat) : (kidF P k i).length ≤ k := by
  unfold kidF
  exact Nat.le_trans (List.length_filter_le ..) (by simp)
theorem al_mono {w : World} {T : TypeId} {cs : List Value} {A B : Addr → World → Prop} (h : al w T cs A) (k : ∀ p V, A p V → B p V) : al w T cs B := k _ _ h
theorem app_mono {P : Program} {ts : List TypeId} {ty : TypeId} {s x : Value} {w : World} {A B : Option Addr → Nat → Nat → World → Prop} (h : app P ts ty s x w A) (k : ∀ a n c V, A a n c V → B a n c V) : app P ts ty s x w B := by
  obtain ⟨a, n, c, V, h1, h2⟩ := h
  exact ⟨a, n, c, V, h1, k _ _ _ _ h2⟩
structure NodesAt (W : World) (nb : Nat → Nat) (n B : Nat) (N : List Nm) (r : Nat → Slv) (Kd : Nat → List Nat) : Prop where
  blk : ∀ i, i < n → Blk W (nb i) [.string ⟨⟨gM N i⟩⟩, sv (r i), .int .i64 (i : Int)] 113
  lo : ∀ i, i < n → B ≤ nb i
  inj : ∀ i j, i < n → j < n → nb i = nb j → i = j
  rows : RowsG encP 88 B W n r fun i => (Kd i).map nb
section
variable {R : Ending → World → Prop} {S S2 : Nat → Prop} {w : World} {p q : Slv} {P : List Int} {N : List Nm} {nb : Nat → Nat} {n B : Nat} {r : Nat → Slv} {Kd : Nat → List Nat}
theorem NodesAt.ext (h : NodesAt w nb n B N r Kd) {w' : World} (e : Ext w w') : NodesAt w' nb n B N r Kd := ⟨fun i hi => (h.blk i hi).ext e, h.lo, h.inj, h.rows.ext e⟩
theorem NodesAt.ne (h : NodesAt w nb n B N r Kd) {i j k : Nat} (hi : i < n) (hj : j < n) (hk : bk (r j).1 k) : k ≠ nb i := by
  obtain ⟨cs, hc⟩ := own_blk (h.rows.own j hj) hk
  exact blk_ne hc (h.blk i hi) (by decide)
theorem NodesAt.chg (h : NodesAt w nb n B N r Kd) {C : Nat → Prop} {w' : World} (hc : Chg C w w') (hC : ∀ k, B ≤ k → k < w.heap.size → ¬ C k) : NodesAt w' nb n B N r Kd :=
  ⟨fun i hi => hc.blk (h.blk i hi) (hC _ (h.lo i hi) (h.blk i hi).lt), h.lo, h.inj, h.rows.chg hc fun j hj k hk => hC k (h.rows.bk hj hk).1 (h.rows.bk hj hk).2⟩
set_option maxRecDepth 20000 in
set_option maxHeartbeats 1000000 in
theorem nodes_spec (hP : RowV vI S w p.1 p.2.1 P) (hN : RowV vS S2 w q.1 q.2.1 N) (hT : TreeOk P N)
    (h : ∀ (nb : Nat → Nat) (r : Nat → Slv) (bo : Nat) w', Ext w w' → NodesAt w' nb P.length w.heap.size N r (kidF P P.length) → Blk w' bo (fC P.length fun j => ptr (nb j)) 88 → R (.returned (.slice (some ⟨bo, 0, none⟩) P.length P.length)) w') :
    Calls Tryz.prog F_phylotree_nodes ⟨[.agg ⟨[sv p, sv q]⟩]⟩ w R := by
  apply c_phylotree_nodes
  obtain ⟨pa, pn, pc⟩ := p
  obtain rfl : pn = P.length := hP.1
  have hq := hN.1
  have hle := hT.le
  have hlen := hT.len
  refine al_intro fun b3 w4 hb3 B3 e4 s4 => ⟨pa, P.length, pc, bat B3 rfl, ?_⟩
  refine mks_intro (Nat.le_refl _) (by omega) fun b6 w7 hb6 B6 e7 s7 => ⟨pa, P.length, pc, bat (B3.ext e7) rfl, ?_⟩
  rw [fC_rep] at B6
  have e07 := ext_trans e4 e7
  have z4 := e4.size
  have z7 := e7.size
  refine ⟨fun i W m => ∃ (k : Nat) (nb : Nat → Nat) (r : Nat → Slv), i = k ∧ k ≤ P.length ∧ m = P.length - k ∧ Ext w W ∧ b6 < W.heap.size ∧ Blk W b3 [sv (pa, P.length, pc), sv q] 37 ∧ Blk W b6 (fC P.length fun j => if j < k then ptr (nb j) else .pointer none) 88 ∧ NodesAt W nb k (b6 + 1) N r (kidF P k),
    ⟨_, 0, fun _ => 0, fun _ => (none, 0, 0), rfl, Nat.zero_le _, rfl, e07, by omega, B3.ext e7, ?_, ⟨fun i hi => by omega, fun i hi => by omega, fun i j hi => by omega, RowsG.nil _ _⟩⟩, ?_⟩
  · have : (fC P.length fun _ => Value.pointer none) = fC P.length fun j => if j < 0 then ptr 0 else .pointer none := fC_congr fun j _ => by rw [if_neg (by omega)]
    rw [← this]; exact B6
  rintro _ W m ⟨k, nb, r, rfl, hk, rfl, eW, hbW, C3, C6, hNo⟩ _
  have zW := eW.size
  refine br_split (fun hlt => ?_) (fun hge => ?_)
  · have hkP : k < P.length := by omega
    obtain ⟨pp, ip, dp⟩ := rowI_get (hP.ext eW) hkP
    obtain ⟨pq, iq, dq⟩ := rowS_get (hN.ext eW) (i := k) (by omega)
    refine ip _ ⟨_, dp, _, _, _, bat C3 rfl, iq _ ⟨_, dq, ?_⟩⟩
    refine al_intro fun bn w20 hbn Bn e20 s20 => ?_
    have C3' := C3.ext e20
    have C6' := C6.ext e20
    have hNo' := hNo.ext e20
    have e020 := ext_trans eW e20
    rw [Int.toNat_natCast]
    refine idx_b1 (by omega) (stL_fC C6' (j := k) (by omega) rfl fun w22 C22 c22 s22 => ?_)
    have e022 : Ext w w22 := ext_chgS e020 c22 fun j hj => by omega
    have D3 := c22.blk C3' (by have := B3.lt; omega)
    have Dn := c22.blk Bn (by omega)
    have hNo2 := hNo'.chg c22 fun j hj hl hh => by omega
    let nb' : Nat → Nat := fun i => if i = k then bn else nb i
    have nbk : nb' k = bn := if_pos rfl
    have nbo : ∀ i, i < k → nb' i = nb i := fun i hi => if_neg (by omega)
    have C22' : Blk w22 b6 (fC P.length fun j => if j < k + 1 then ptr (nb' j) else .pointer none) 88 := by
      have : (fC P.length fun i => if i = k then Value.pointer (some ⟨bn, 0, none⟩) else if i < k then ptr (nb i) else .pointer none) = fC P.length fun j => if j < k + 1 then ptr (nb' j) else .pointer none := fC_congr fun j _ => by
        by_cases e : j = k
        · subst e; rw [if_pos rfl, if_pos (by omega), nbk]
        · rw [if_neg e]
          by_cases e2 : j < k
          · rw [if_pos e2, if_pos (by omega), nbo j e2]
          · rw [if_neg e2, if_neg (by omega)]
      rw [← this]; exact C22
    let r' : Nat → Slv := fun i => if i = k then (none, 0, 0) else r i
    have rk : r' k = (none, 0, 0) := if_pos rfl
    have ro : ∀ i, i < k → r' i = r i := fun i hi => if_neg (by omega)
    have kf : ∀ i, i < k → ((kidF P k i).map nb' = (kidF P k i).map nb) := fun i _ => List.map_congr_left fun c hc => nbo c (by
      have := (List.mem_filter.1 hc).1
      exact List.mem_range.1 this)
    -- the nodes with the new one, that has no children
    have hkk : kidF P k k = [] := by
      unfold kidF
      rw [List.filter_eq_nil_iff]
      intro c hc
      rw [List.mem_range] at hc
      simp only [decide_eq_true_eq, not_and]
      intro h0
      have := (hT.par c h0 (by omega)).2
      omega
    have base : NodesAt w22 nb' (k + 1) (b6 + 1) N r' (kidF P k) := by
      refine ⟨fun i hi => ?_, fun i hi => ?_, fun i j hi hj hij => ?_, ⟨fun j hj => ?_, fun i j hi hj hne x hx hx2 => ?_⟩⟩
      · by_cases e : i = k
        · subst e; rw [nbk, rk]; exact Dn
        · rw [nbo i (by omega), ro i (by omega)]; exact hNo2.blk i (by omega)
      · by_cases e : i = k
        · subst e; rw [nbk]; omega
        · rw [nbo i (by omega)]; exact hNo2.lo i (by omega)
      · by_cases e : i = k
        · by_cases e2 : j = k
          · omega
          · exfalso
            subst e
            rw [nbk, nbo j (by omega)] at hij
            have := (hNo.blk j (by omega)).lt
            omega
        · by_cases e2 : j = k
          · exfalso
            subst e2
            rw [nbk, nbo i (by omega)] at hij
            have := (hNo.blk i (by omega)).lt
            omega
          · rw [nbo i (by omega), nbo j (by omega)] at hij
            exact hNo2.inj i j (by omega) (by omega) hij
      · by_cases e : j = k
        · subst e
          rw [rk]
          show OwnL encP w22 (b6 + 1) 88 none 0 0 ((kidF P j j).map nb')
          rw [hkk]; exact Owns.nil _ _ _ _
        · rw [ro j (by omega)]
          show OwnL encP w22 (b6 + 1) 88 _ _ _ ((kidF P k j).map nb')
          rw [kf j (by omega)]
          exact hNo2.rows.own j (by omega)
      · by_cases e : i = k
        · subst e; rw [rk] at hx; simp [bk] at hx
        · by_cases e2 : j = k
          · subst e2; rw [rk] at hx2; simp [bk] at hx2
          · rw [ro i (by omega)] at hx
            rw [ro j (by omega)] at hx2
            exact hNo2.rows.dj i j (by omega) (by omega) hne x hx hx2
    have nx : ∀ (V : World) (r2 : Nat → Slv), Ext w V → b6 < V.heap.size → Blk V b3 [sv (pa, P.length, pc), sv q] 37 → Blk V b6 (fC P.length fun j => if j < k + 1 then ptr (nb' j) else .pointer none) 88 → NodesAt V nb' (k + 1) (b6 + 1) N r2 (kidF P (k + 1)) →
        ∃ m38 : Nat, m38 < P.length - k ∧ ∃ (k' : Nat) (nb : Nat → Nat) (r : Nat → Slv), IntKind.i64.wrap ((k : Int) + 1) = k' ∧ k' ≤ P.length ∧ m38 = P.length - k' ∧ Ext w V ∧ b6 < V.heap.size ∧ Blk V b3 [sv (pa, P.length, pc), sv q] 37 ∧ Blk V b6 (fC P.length fun j => if j < k' then ptr (nb j) else .pointer none) 88 ∧ NodesAt V nb k' (b6 + 1) N r (kidF P k') :=
      fun V r2 h1 h2 h3 h4 h5 => ⟨P.length - (k + 1), by omega, k + 1, nb', r2, by rw [wrap_nat (by omega)], by omega, rfl, h1, h2, h3, h4, h5⟩
    refine br_split (fun gx => ?_) (fun gx => ?_)
    · have hk0 : 0 < k := by
        apply Classical.byContradiction
        intro q0
        have hk0 : k = 0 := by omega
        subst hk0
        have := hT.root; omega
      obtain ⟨_, hpk2⟩ := hT.par k hk0 hkP
      obtain ⟨x, hx⟩ : ∃ x : Nat, gZ P k = x := ⟨(gZ P k).toNat, by omega⟩
      have hxk : x < k := by omega
      rw [hx]
      unfold drw
      have ed := ext_drew w22
      have base := base.ext ed
      have C22' := C22'.ext ed
      have D3 := D3.ext ed
      have e023 := ext_trans e022 ed
      generalize w22.drew = w23 at *
      have cx : w23.cell? ⟨b6, x, none⟩ = some (ptr (nb' x)) := by rw [C22'.cell, fC_get (by omega), if_pos (by omega)]
      have ck : w23.cell? ⟨b6, k, none⟩ = some (ptr (nb' k)) := by rw [C22'.cell, fC_get (by omega), if_pos (by omega)]
      have hnx := base.blk x (by omega)
      have z23 := e023.size
      have hb6 := C22'.lt
      have hrl := base.rows.len (j := x) (by omega)
      have hkl : ((kidF P k x).map nb').length ≤ 64 := by rw [List.length_map]; have := kidF_len P k x; omega
      have push : al w23 88 [ptr (nb' k)] fun p32 w33 => app Tryz.prog [89, 89] 89 (.slice (r' x).1 (r' x).2.1 (r' x).2.2) (.slice (some p32) 1 1) w33 fun a34 a34n a34c w35 =>
          w35.cell? ⟨b6, x, none⟩ = some (ptr (nb' x)) ∧ stL w35 ((⟨nb' x, 0, none⟩ : Addr).add 1) 0 [.slice a34 a34n a34c] fun w37 => ∃ m38 : Nat, m38 < P.length - k ∧ ∃ (k' : Nat) (nb : Nat → Nat) (r : Nat → Slv), IntKind.i64.wrap ((k : Int) + 1) = k' ∧ k' ≤ P.length ∧ m38 = P.length - k' ∧ Ext w w37 ∧ b6 < w37.heap.size ∧ Blk w37 b3 [sv (pa, P.length, pc), sv q] 37 ∧ Blk w37 b6 (fC P.length fun j => if j < k' then ptr (nb j) else .pointer none) 88 ∧ NodesAt w37 nb k' (b6 + 1) N r (kidF P k') := by
        refine OwnL.push (E := encP) slT_np (base.rows.own x (by omega)) (by omega) (nb' k) (by omega) (by omega) fun a' c' w35 ho hc hn => ?_
        have zc := hc.size
        have n6 : ¬ bk (r' x).1 b6 := fun hh => by have := (base.rows.bk (j := x) (by omega) hh).1; omega
        have n3 : ¬ bk (r' x).1 b3 := fun hh => by have := (base.rows.bk (j := x) (by omega) hh).1; omega
        have C35 := hc.blk C22' n6
        have D35 := hc.blk D3 n3
        have nn : ∀ i, i < k + 1 → ¬ bk (r' x).1 (nb' i) := fun i hi hh => base.ne hi (by omega) hh rfl
        have hx35 := hc.blk hnx (nn x (by omega))
        refine ⟨by rw [C35.cell, fC_get (by omega), if_pos (by omega)], ?_⟩
        have e1 : (⟨nb' x, 0, none⟩ : Addr).add 1 = ⟨nb' x, 1, none⟩ := by rw [add_none]
        rw [e1]
        refine stL_blk hx35 (by simp) (by intro v hv; rw [List.mem_singleton] at hv; subst hv; rfl) fun w37 B37 f37 s37 o37 t37 u37 => ?_
        have B37 : Blk w37 (nb' x) [.string ⟨⟨gM N x⟩⟩, sv (a', (r' x).2.1 + 1, c'), .int .i64 (x : Int)] 113 := B37
        have c37 : Chg (fun j => j = nb' x) w35 w37 := ⟨o37, t37, u37, by omega, fun j _ hj => f37 j hj⟩
        have hcc : Chg (fun j => bk (r' x).1 j ∨ j = nb' x) w23 w37 := (hc.mono fun j _ hj => .inl hj).trans (c37.mono fun j _ hj => .inr hj)
        have hnbx := base.lo x (by omega)
        have put := base.rows.put (j := x) (by omega) ho hc hn
        have xr : ∀ j, bk a' j → j ≠ nb' x := fun j hj e => by
          obtain ⟨cs, hcs⟩ := own_blk ho hj
          exact blk_ne hcs hx35 (by decide) e
        refine nx w37 (fun i => if i = x then (a', (r' x).2.1 + 1, c') else r' i) ?_ (by omega) (c37.blk D35 (by omega)) (c37.blk C35 (by omega)) ⟨fun i hi => ?_, base.lo, base.inj, ?_⟩
        · refine ext_chgS e023 hcc fun j hj => ?_
          rcases hj with hj | hj
          · have := (base.rows.bk (j := x) (by omega) hj).1; omega
          · omega
        · by_cases e : i = x
          · subst e; try dsimp only
            rw [if_pos rfl]; exact B37
          · try dsimp only
            rw [if_neg e]
            exact c37.blk (hc.blk (base.blk i hi) (nn i hi)) fun hh => e (base.inj i x hi (by omega) hh)
        · have put2 := put.chg (T := fun j => j = nb' x) c37 fun j hj t ht hh => by
            try dsimp only at ht
            by_cases e : j = x
            · rw [if_pos e] at ht; exact xr t ht hh
            · rw [if_neg e] at ht
              exact base.ne (i := x) (j := j) (by omega) hj ht hh
          refine ⟨fun j hj => ?_, put2.dj⟩
          have := put2.own j hj
          try dsimp only at this
          have ek : (kidF P (k + 1) j).map nb' = if j = x then (kidF P k x).map nb' ++ [nb' k] else (kidF P k j).map nb' := by
            rw [kidF_succ, List.map_append]
            by_cases e : j = x
            · subst e; rw [if_pos rfl, if_pos ⟨hk0, hx⟩]; rfl
            · rw [if_neg e, if_neg fun t => e (by have := t.2; omega)]
              show _ ++ [] = _
              rw [List.append_nil]
          rw [ek]; exact this
      refine idx_b1 (by omega) (idx_b1 (by omega) ⟨_, cx, dr_ok ⟨_, _, _, bat hnx rfl, idx_b1 (by omega) ⟨_, ck, ⟨_, cx, ?_, trivial⟩, ?_, trivial⟩⟩⟩)
      · refine al_mono push fun pp V hh => ⟨app_mono hh fun a1 n1 c1 V2 hh2 => dr_ok ⟨hh2.2, trivial⟩, trivial⟩
      · refine al_mono push fun pp V hh => ⟨app_mono hh fun a1 n1 c1 V2 hh2 => ⟨_, hh2.1, dr_ok ⟨hh2.2, trivial⟩⟩, trivial⟩
    · have hk0 : k = 0 := by
        apply Classical.byContradiction
        intro q0
        have := (hT.par k (by omega) hkP).1
        omega
      refine nx w22 r' e022 (by omega) D3 C22' ?_
      have ek : kidF P (k + 1) = kidF P k := by
        funext i
        rw [kidF_succ, if_neg (by omega), List.append_nil]
      rw [ek]; exact base
  · have hkn : k = P.length := by omega
    subst hkn
    rw [Int.toNat_natCast]
    refine h nb r b6 W eW ⟨hNo.blk, fun i hi => by have := hNo.lo i hi; omega, hNo.inj, ⟨fun j hj => ?_, hNo.rows.dj⟩⟩ ?_
    · have := hNo.rows.own j hj
      refine ⟨this.1, this.2.imp id ?_⟩
      rintro ⟨g, cap, cur, p1, p2, p3⟩
      exact ⟨g, cap, cur, p1, by omega, p3⟩
    · have : (fC P.length fun j => if j < P.length then ptr (nb j) else .pointer none) = fC P.length fun j => ptr (nb j) := fC_congr fun j hj => if_pos hj
      rw [← this]; exact C6
end
end Go.Proofs
