/- The contracts of the functions that the law reaches, one after the other, and at the end the law's card. -/
import Derived.Test.YtncjonkmhfdabaaGreatLawE
import Derived.DeepKeys4
import Derived.Carry
import Derived.ChangeSame
import Derived.RowKit
import Derived.OpenShut
import Derived.Deep.Slices
import Derived.Deep.DeepHandedRow
import Derived.Lib.SmallJoins
import Derived.SizedLaws
import Derived.Test.YtncjonkmhfdabaaGreatRows
import Derived.Lib.LaidTab
import Derived.WalkKit
import Derived.ProofKit
import Derived.ChangeMaps5
namespace Go.Proofs
open Go Go.Sh Go.RowKit
/- top36Awake: its tree -/
theorem dfs_cong {Kd Ks : Nat → List Nat} : ∀ (f i : Nat) (q : Option Nat), (∀ j, ReachK Ks i j → Kd j = Ks j) → dfsP Kd f i q = dfsP Ks f i q
  | 0, _, _, _ => rfl
  | f + 1, i, q, h => by
    rw [dfsP, dfsP, h i (.refl i)]
    congr 1
    have : ∀ l : List Nat, (∀ c ∈ l, c ∈ Ks i) → (l.flatMap fun c => dfsP Kd f c (some i)) = l.flatMap fun c => dfsP Ks f c (some i) := by
      intro l
      induction l with
      | nil => intro _; rfl
      | cons c l ih =>
        intro hl
        rw [List.flatMap_cons, List.flatMap_cons, ih fun d hd => hl d (List.mem_cons_of_mem _ hd), dfs_cong f c (some i) fun j hj => h j (.step (hl c (List.mem_cons_self ..)) hj)]
    exact this _ fun c hc => hc
def aNM : List Nm := [[65], [66], [67], [68]]
def aL : List (List Nat) := [[2, 3]]
def aP : List Int := [-1, 0, 0, 2, 2, 3, 3]
def aN : List Nm := [[], [65], [], [], [66], [67], [68]]
def aKs (i : Nat) : List Nat := if i = 0 then [1, 2] else if i = 2 then [4, 3] else if i = 3 then [5, 6] else []
def aLst (i : Nat) : Nm := if i < 2 then [65] else if i = 2 ∨ i = 4 then [66] else if i = 6 then [68] else [67]
def aP' : List Int := [-1, 0, 0, 2, 2, 4, 4]
def aN' : List Nm := [[], [65], [], [66], [], [67], [68]]
theorem lt7 {p : Nat → Prop} (h0 : p 0) (h1 : p 1) (h2 : p 2) (h3 : p 3) (h4 : p 4) (h5 : p 5) (h6 : p 6) : ∀ i, i < 7 → p i := fun i hi => by
  rcases (by omega : i = 0 ∨ i = 1 ∨ i = 2 ∨ i = 3 ∨ i = 4 ∨ i = 5 ∨ i = 6) with rfl | rfl | rfl | rfl | rfl | rfl | rfl <;> assumption
theorem a_built {P0 : List Int} {N0 : List Nm} (h : Built 4 aNM aL P0 N0) : P0 = aP ∧ N0 = aN := by
  cases h with
  | one h1 => cases h1
  | two h1 => cases h1
  | more own h1 h2 h3 h4 h5 h6 =>
    have ho : own = [[2, 3]] := by
      have h4 : own.length ≤ 1 := h4
      have hm : [2, 3] ∈ own := (h3 _).2 (by decide)
      match own, h4, hm with
      | [x], _, hm =>
        rw [List.mem_singleton] at hm
        rw [hm]
    subst ho
    subst h5 h6
    exact ⟨by decide, by decide⟩
theorem a_ok : TreeOk aP aN :=
  ⟨by decide, by decide, rfl, rfl, fun i h0 hi => by
      have hi : i < 7 := hi
      revert h0
      refine lt7 (p := fun i => 0 < i → 0 ≤ gZ aP i ∧ gZ aP i < i) ?_ ?_ ?_ ?_ ?_ ?_ ?_ i hi <;> decide, fun i hi => by
      have hi : i < 7 := hi
      refine lt7 (p := fun i => (innP aP aP.length i ∧ gM aN i = []) ∨ (¬ innP aP aP.length i ∧ namedF (gM aN i) = true ∧ gM aN i ∉ aN.take i)) ?_ ?_ ?_ ?_ ?_ ?_ ?_ i hi
      · exact .inl ⟨by decide, rfl⟩
      · exact .inr ⟨by decide, by decide, by decide⟩
      · exact .inl ⟨by decide, rfl⟩
      · exact .inl ⟨by decide, rfl⟩
      · exact .inr ⟨by decide, by decide, by decide⟩
      · exact .inr ⟨by decide, by decide, by decide⟩
      · exact .inr ⟨by decide, by decide, by decide⟩⟩
theorem a_lst : LstOk 7 aKs aN aLst := by
  refine lt7 ?_ ?_ ?_ ?_ ?_ ?_ ?_
  · exact .inr ⟨1, 2, rfl, by decide, by decide, rfl⟩
  · exact .inl ⟨rfl, rfl⟩
  · exact .inr ⟨4, 3, rfl, by decide, by decide, rfl⟩
  · exact .inr ⟨5, 6, rfl, by decide, by decide, rfl⟩
  · exact .inl ⟨rfl, rfl⟩
  · exact .inl ⟨rfl, rfl⟩
  · exact .inl ⟨rfl, rfl⟩
theorem a_perm : ∀ j, j < 7 → (kidF aP 7 j).Perm (aKs j) := by
  refine lt7 ?_ ?_ ?_ ?_ ?_ ?_ ?_
  · exact List.Perm.refl _
  · exact List.Perm.refl _
  · exact List.Perm.swap 4 3 []
  · exact List.Perm.refl _
  · exact List.Perm.refl _
  · exact List.Perm.refl _
  · exact List.Perm.refl _
theorem a_srt {P' : List Int} {N' : List Nm} (h : Srt aKs aLst aP aN P' N') : P' = aP' ∧ N' = aN' := by
  obtain ⟨Kd, h1, h2, h3⟩ := h
  have hd := dfs_cong 7 0 none (h3 a_lst a_perm)
  have hd : dfsP Kd aP.length 0 none = dfsP aKs 7 0 none := hd
  rw [hd] at h1 h2
  exact ⟨h1.trans (by decide), h2.trans (by decide)⟩
theorem a_chg (a : Nat → Nat) : chgA 7 (parN aP') a = uC (a 0) (a 1) + uC (a 0) (a 2) + uC (a 2) (a 3) + uC (a 2) (a 4) + uC (a 4) (a 5) + uC (a 4) (a 6) := by
  show ((((((0 + 0) + uC (a 0) (a 1)) + uC (a 0) (a 2)) + uC (a 2) (a 3)) + uC (a 2) (a 4)) + uC (a 4) (a 5)) + uC (a 4) (a 6) = _
  omega
theorem uC_tri (a b c : Nat) : uC a b ≤ uC c a + uC c b := by
  unfold uC
  by_cases h1 : c = a
  · by_cases h2 : c = b
    · rw [if_pos h1, if_pos h2, if_pos (by omega)]; omega
    · rw [if_pos h1, if_neg h2]; split <;> omega
  · rw [if_neg h1]
    split <;> split <;> omega
theorem uC_sym (a b : Nat) : uC a b = uC b a := by
  unfold uC
  by_cases h : a = b
  · rw [if_pos h, if_pos h.symm]
  · rw [if_neg h, if_neg fun q => h q.symm]
theorem a_one : LeastC 7 16 (parN aP') (stT [0, 0, 1, 1] [1, 3, 5, 6]) 1 := by
  refine ⟨⟨fun i => if 4 ≤ i then 1 else 0, ?_, by decide⟩, fun a ha => ?_⟩
  · refine lt7 ?_ ?_ ?_ ?_ ?_ ?_ ?_ <;> exact ⟨by decide, fun x hx => by revert hx; decide +revert⟩
  · rw [a_chg]
    have h1 := (ha 1 (by decide)).2 0 (by decide)
    have h3 := (ha 3 (by decide)).2 0 (by decide)
    have h5 := (ha 5 (by decide)).2 1 (by decide)
    have h6 := (ha 6 (by decide)).2 1 (by decide)
    rw [h1, h3, h5, h6]
    have t1 := uC_tri 0 (a 4) (a 2)
    have t2 := uC_tri 0 1 (a 4)
    have n1 := uC_nn (a 0) 0
    have n2 := uC_nn (a 0) (a 2)
    have n3 := uC_nn (a 4) 1
    have s1 := uC_sym (a 4) 0
    have e : uC 0 1 = 1 := rfl
    omega
theorem a_two : LeastC 7 16 (parN aP') (stT [0, 1, 0, 1] [1, 3, 5, 6]) 2 := by
  refine ⟨⟨fun i => if i = 1 ∨ i = 5 ∨ i = 0 then 0 else 1, ?_, by decide⟩, fun a ha => ?_⟩
  · refine lt7 ?_ ?_ ?_ ?_ ?_ ?_ ?_ <;> exact ⟨by decide, fun x hx => by revert hx; decide +revert⟩
  · rw [a_chg]
    have h1 := (ha 1 (by decide)).2 0 (by decide)
    have h3 := (ha 3 (by decide)).2 1 (by decide)
    have h5 := (ha 5 (by decide)).2 0 (by decide)
    have h6 := (ha 6 (by decide)).2 1 (by decide)
    rw [h1, h3, h5, h6]
    have t1 := uC_tri 0 (a 2) (a 0)
    have t2 := uC_tri 0 1 (a 2)
    have t3 := uC_tri 0 1 (a 4)
    have n1 := uC_nn (a 2) (a 4)
    have s1 := uC_sym (a 2) 0
    have e : uC 0 1 = 1 := rfl
    omega
end Go.Proofs
namespace Go.Proofs
open Go Go.Sh Go.RowKit
/- top36Awake -/
section
variable {R : Ending → World → Prop} {w : World}
theorem rowI_blk {b : Nat} {l : List Int} (B : Blk w b (Sh.encI.row l) 3) {n : Nat} (hn : n = l.length) : RowV vI (fun k => k = b) w (some ⟨b, 0, none⟩) n l := by
  subst hn
  exact rowV_enc.2 (rowAt_b (E := Sh.encI) (l := l) B)
set_option maxRecDepth 20000 in
set_option maxHeartbeats 1000000 in
theorem awake_spec (h : ∀ w', Ext w w' → R (.returned (.bool true)) w') : Calls Tryz.prog F_apographtop_top36Awake ⟨[]⟩ w R := by
  apply c_apographtop_top36Awake
  refine al_intro fun b1 w2 hb1 B1 e2 s2 => al_intro fun b3 w4 hb3 B3 e4 s4 => al_intro fun b5 w6 hb5 B5 e6 s6 => ?_
  have z2 := e2.size
  have z4 := e4.size
  have z6 := e6.size
  have e06 := ext_trans e2 (ext_trans e4 e6)
  have hN : RowV vS (fun k => k = b1) w6 (some ⟨b1, 0, none⟩) 4 aNM := rowV_enc.2 (rowAt_b (E := Sh.encStr) (l := aNM) ((B1.ext e4).ext e6))
  have hI : RowV vI (fun k => k = b3 ∨ k = b5) w6 (some ⟨b3, 0, none⟩) 2 [2, 3] := (rowI_blk (l := [2, 3]) (B3.ext e6) rfl).imp fun k hk _ => .inl hk
  have hl : RowV vIs (fun k => k = b3 ∨ k = b5) w6 (some ⟨b5, 0, none⟩) 1 (aL.map zN) := by
    refine ⟨rfl, [.slice (some ⟨b3, 0, none⟩) 2 2], .inr ⟨b5, 0, rfl, .inr rfl, B5.lt, fun j v hj => ?_⟩, ?_⟩
    · rw [Nat.zero_add, B5.cell]; exact hj
    · exact AllV.single ⟨some ⟨b3, 0, none⟩, 2, rfl, by decide, hI⟩
  refine Build_spec aKs aLst (NM := aNM) (L := aL) hN (by decide) hl (by decide) (by decide) ?_ ?_ fun e p' q' w8 e8 _ h0 hok => ⟨_, _, _, _, _, _, _, rfl, ?_⟩
  · intro s hs
    obtain rfl : s = [2, 3] := by simpa [aL] using hs
    exact ⟨by decide, by decide, by decide, by decide⟩
  · intro s hs
    have hs : s ∈ ([[65], [66], [67], [68]] : List Nm) := hs
    simp only [List.mem_cons, List.not_mem_nil, or_false] at hs
    rcases hs with rfl | rfl | rfl | rfl <;> decide
  have he : e = 0 := by
    refine hok (by decide) ?_ ?_ fun P0 N0 hB => ?_
    · intro i k h1 h2
      have h2 : k < 1 := h2
      omega
    · intro i hi
      have hi : i < 4 := hi
      rcases (by omega : i = 0 ∨ i = 1 ∨ i = 2 ∨ i = 3) with rfl | rfl | rfl | rfl <;> exact ⟨by decide, by decide⟩
    · obtain ⟨rfl, rfl⟩ := a_built hB
      exact a_ok
  obtain ⟨_, hB⟩ := h0 he
  subst he
  obtain ⟨P0, N0, P', N', ord, g1, g2, g3, g4, g5, g6, g7⟩ := hB.out
  obtain ⟨rfl, rfl⟩ := a_built g1
  obtain ⟨rfl, rfl⟩ := a_srt (g4 (by decide))
  have hT' := g3.ok g2
  have e08 := ext_trans e06 e8
  refine al_intro fun b12 w13 hb12 B12 e13 s13 => ?_
  refine stL_blk B12 (by simp) (by intro v hv; simp only [List.mem_cons, List.not_mem_nil, or_false] at hv; rcases hv with rfl | rfl <;> rfl) fun w14 B14 f14 s14 o14 t14 u14 => ?_
  have B14 : Blk w14 b12 [sv p', sv q'] 37 := B14
  have c14 : Chg (fun j => j = b12) w13 w14 := ⟨o14, t14, u14, by omega, fun j _ hj => f14 j hj⟩
  have e814 : Ext w8 w14 := ext_chgS e13 c14 fun j hj => by omega
  refine ⟨_, _, _, bat B14 rfl, _, _, _, bat B14 rfl, ?_⟩
  refine al_intro fun b17 w18 hb17 B17 e18 s18 => ?_
  have e818 := ext_trans e814 e18
  have hsm : ∀ s ∈ aN', s.length ≤ 1000000 := fun s hs => by
    have hs : s ∈ ([[], [65], [], [66], [], [67], [68]] : List Nm) := hs
    simp only [List.mem_cons, List.not_mem_nil, or_false] at hs
    rcases hs with rfl | rfl | rfl | rfl | rfl | rfl | rfl <;> decide
  refine Fitch_spec (p := p') (q := q') (sS := (some ⟨b17, 0, none⟩, 4, 4)) (sts := [0, 0, 1, 1]) (g6.ext e818) (g7.ext e818) g5 hsm hT' (by decide) (rowI_blk (l := [0, 0, 1, 1]) B17 rfl) (by decide) (by decide) fun v w20 e20 hv => ⟨_, _, rfl, ?_⟩
  have hv1 : v = 1 := hv.uniq a_one
  have B1420 := (B14.ext e18).ext e20
  refine ⟨_, _, _, bat B1420 rfl, _, _, _, bat B1420 rfl, ?_⟩
  refine al_intro fun b25 w26 hb25 B25 e26 s26 => ?_
  have e826 := ext_trans (ext_trans e818 e20) e26
  refine Fitch_spec (p := p') (q := q') (sS := (some ⟨b25, 0, none⟩, 4, 4)) (sts := [0, 1, 0, 1]) (g6.ext e826) (g7.ext e826) g5 hsm hT' (by decide) (rowI_blk (l := [0, 1, 0, 1]) B25 rfl) (by decide) (by decide) fun v2 w28 e28 hv2 => ⟨_, _, rfl, ?_⟩
  have hv21 : v2 = 2 := hv2.uniq a_two
  subst hv1 hv21
  refine br_pos (by decide) (br_pos rfl ?_)
  exact h w28 (ext_trans e08 (ext_trans e826 e28))
end
end Go.Proofs
namespace Go.Proofs
open Go Go.Sh Go.RowKit
/- rows of two states; pairs of states as keys of a map -/
abbrev Bp := Bool × Bool
abbrev eBp (p : Bp) : Value := .agg ⟨[.bool p.1, .bool p.2]⟩
theorem laidOutK : laidOutB Tryz.prog = true := by kernel_rfl
theorem kdBp : Maps.Keyed Tryz.prog 35 :=
  Maps.Keyed.of_law (deep_law_laid laidOutK (m := 3) (by omega) (of_decide_eq_true (by kernel_rfl)) (by kernel_rfl) (by kernel_rfl))
theorem keyBp (p : Bp) : ∃ kl, keyOf Tryz.prog 35 (eBp p) = some kl := by
  have h : (keyOf Tryz.prog 35 (eBp p)).isSome = true := by
    obtain ⟨x, y⟩ := p
    cases x <;> cases y <;> kernel_rfl
  cases hk : keyOf Tryz.prog 35 (eBp p) with
  | none => rw [hk] at h; cases h
  | some kl => exact ⟨kl, rfl⟩
def stI (r : List Bool) : List Int := r.map fun b => if b then 1 else 0
theorem stI_len (r : List Bool) : (stI r).length = r.length := by unfold stI; rw [List.length_map]
theorem stI_at {r : List Bool} {i : Nat} (h : i < r.length) : gZ (stI r) i = if rB r i then 1 else 0 := by
  rw [gZ_at (by rw [stI_len]; exact h)]
  unfold stI rB
  rw [List.getElem_map, List.getD_eq_getElem?_getD, List.getElem?_eq_getElem h]; rfl
theorem stI_01 {r : List Bool} : ∀ x ∈ stI r, x = 0 ∨ x = 1 := fun x hx => by
  unfold stI at hx
  obtain ⟨b, _, rfl⟩ := List.mem_map.1 hx
  cases b
  · exact .inl rfl
  · exact .inr rfl
theorem own_stI (r : List Bool) : ownI (stI r) (stI r).length = zN (ownR r) := by
  unfold ownI ownR zN
  rw [stI_len]
  congr 1
  refine List.filter_congr fun i hi => ?_
  have hi := List.mem_range.1 hi
  rw [stI_at hi, stI_at (by omega)]
  cases rB r i <;> cases rB r 0 <;> rfl
theorem isSp_stI (r : List Bool) : isSp (stI r) = bigR r := by
  unfold isSp bigR
  rw [own_stI, zN_len, stI_len]
/- the rows' four combinations -/
theorem four_symm {r o : List Bool} (hl : o.length = r.length) (h : fourP r o) : fourP o r := fun x y => by
  obtain ⟨s, h1, h2, h3⟩ := h y x
  exact ⟨s, by omega, h3, h2⟩
def splL (RW : List (List Bool)) : List (List Nat) := (RW.filter bigR).map ownR
theorem allC_pw (L : List (List Nat)) : allC L ↔ L.Pairwise fun a b => compF a b = true := by
  rw [List.pairwise_iff_getElem]
  constructor
  · intro h i j hi hj hlt
    have := h i j hlt hj
    rw [gS_at hi, gS_at hj] at this
    exact this
  · intro h i k hlt hk
    rw [gS_at (show i < L.length by omega), gS_at hk]
    exact h i k (by omega) hk hlt
theorem allC_rows {RW : List (List Bool)} {n : Nat} (hn : ∀ r ∈ RW, r.length = n) : allC (splL RW) ↔ RW.Pairwise fun o r => ¬ fourP r o := by
  rw [allC_pw]
  unfold splL
  rw [List.pairwise_map, List.pairwise_filter]
  constructor
  · intro h
    refine List.Pairwise.imp_of_mem (fun {o r} ho hr q hf => ?_) h
    have hl : o.length = r.length := by rw [hn o ho, hn r hr]
    obtain ⟨h1, h2, h3⟩ := four_comp hl.symm (four_symm hl hf)
    have := q h1 h2
    rw [h3] at this; cases this
  · intro h
    refine List.Pairwise.imp_of_mem (fun {o r} ho hr q _ _ => ?_) h
    have hl : o.length = r.length := by rw [hn o ho, hn r hr]
    cases hc : compF (ownR o) (ownR r) with
    | true => rfl
    | false => exact absurd (four_symm hl.symm (comp_four hl.symm hc)) q
theorem splL_spl {RW : List (List Bool)} {n : Nat} (hn : ∀ r ∈ RW, r.length = n) : ∀ s ∈ splL RW, SplN n s := by
  intro s hs
  unfold splL at hs
  obtain ⟨r, hr, rfl⟩ := List.mem_map.1 hs
  rw [List.mem_filter] at hr
  have hl := hn r hr.1
  have hb := hr.2
  unfold bigR at hb
  rw [Bool.and_eq_true, decide_eq_true_iff, decide_eq_true_iff] at hb
  refine ⟨?_, fun x hx => ?_, hb.1, by omega⟩
  · unfold ownR
    exact List.Pairwise.sublist List.filter_sublist List.pairwise_lt_range
  · obtain ⟨h1, h2⟩ := mem_own.1 hx
    refine ⟨?_, by omega⟩
    apply Classical.byContradiction
    intro q
    exact h2 (by rw [show x = 0 by omega])
/- a row's states on the leaves -/
def sR (r : List Bool) (l : Nat) : Nat := if rB r l then 1 else 0
theorem row2_sR (r : List Bool) (n : Nat) : Row2 n (sR r) 16 := by
  refine ⟨fun l _ => by unfold sR; split <;> omega, fun l k _ _ h1 h2 => ?_⟩
  unfold sR at *
  revert h1 h2
  generalize rB r l = x
  generalize rB r k = y
  generalize rB r 0 = z
  cases x <;> cases y <;> cases z <;> decide
theorem sR_ne {r : List Bool} {l : Nat} : sR r l ≠ sR r 0 ↔ rB r l ≠ rB r 0 := by
  unfold sR
  cases rB r l <;> cases rB r 0 <;> simp
theorem all_sR {RW : List (List Bool)} {r : List Bool} {n : Nat} (hr : r ∈ RW) (hl : r.length = n) (A : List Nat) (hA : ∀ l, l ∈ A ↔ l < n ∧ sR r l ≠ sR r 0) (hnd : A.Nodup) (h2 : 2 ≤ A.length) (h3 : A.length + 2 ≤ n) : ∃ t ∈ splL RW, ∀ l, l < n → (l ∈ t ↔ sR r l ≠ sR r 0) := by
  have hm : ∀ l, l ∈ A ↔ l ∈ ownR r := fun l => by rw [hA, mem_own, sR_ne, hl]
  have hlen : A.length = (ownR r).length := by
    have h1 := nodup_le (l2 := ownR r) hnd fun x hx => (hm x).1 hx
    have h2 := nodup_le (l2 := A) (own_nd r) fun x hx => (hm x).2 hx
    omega
  refine ⟨ownR r, ?_, fun l hlt => ?_⟩
  · unfold splL
    refine List.mem_map.2 ⟨r, List.mem_filter.2 ⟨hr, ?_⟩, rfl⟩
    unfold bigR
    rw [Bool.and_eq_true, decide_eq_true_iff, decide_eq_true_iff]
    omega
  · rw [mem_own, sR_ne, hl]
    exact ⟨fun q => q.2, fun q => ⟨hlt, q⟩⟩
theorem want_sR {r : List Bool} {n : Nat} (hl : r.length = n) : (∃ l, l < n ∧ sR r l ≠ sR r 0) ↔ (true ∈ r ∧ false ∈ r) := by
  have hat : ∀ i (h : i < r.length), rB r i = r[i] := fun i h => by
    unfold rB
    rw [List.getD_eq_getElem?_getD, List.getElem?_eq_getElem h]; rfl
  constructor
  · rintro ⟨l, h1, h2⟩
    rw [sR_ne] at h2
    have m1 : rB r l ∈ r := by rw [hat l (by omega)]; exact List.getElem_mem _
    have m2 : rB r 0 ∈ r := by rw [hat 0 (by omega)]; exact List.getElem_mem _
    revert h2 m1 m2
    cases rB r l <;> cases rB r 0 <;> simp_all
  · rintro ⟨h1, h2⟩
    obtain ⟨i, hi, e1⟩ := List.mem_iff_getElem.1 h1
    obtain ⟨j, hj, e2⟩ := List.mem_iff_getElem.1 h2
    rw [← hat i hi] at e1
    rw [← hat j hj] at e2
    cases h0 : rB r 0 with
    | false => exact ⟨i, by omega, sR_ne.2 (by rw [e1, h0]; decide)⟩
    | true => exact ⟨j, by omega, sR_ne.2 (by rw [e2, h0]; decide)⟩
/- how many of the four keys a map has -/
def hasB (f : Bp → Option Unit) (x y : Bool) : Nat := if (f (x, y)).isSome then 1 else 0
def cnt4 (f : Bp → Option Unit) : Nat := hasB f false false + hasB f false true + hasB f true false + hasB f true true
theorem cnt4_put {f g : Bp → Option Unit} {p : Bp} (h1 : (g p).isSome = true) (h2 : ∀ y, y ≠ p → g y = f y) : cnt4 g = if (f p).isSome then cnt4 f else cnt4 f + 1 := by
  have hf : ∀ x y, (x, y) ≠ p → hasB g x y = hasB f x y := fun x y h => by unfold hasB; rw [h2 _ h]
  obtain ⟨a, b⟩ := p
  have hp : hasB g a b = 1 := by unfold hasB; rw [h1]; rfl
  have hq : hasB f a b = if (f (a, b)).isSome then 1 else 0 := rfl
  unfold cnt4
  cases a <;> cases b
  · rw [hp, hf false true (by decide), hf true false (by decide), hf true true (by decide), hq]; split <;> omega
  · rw [hp, hf false false (by decide), hf true false (by decide), hf true true (by decide), hq]; split <;> omega
  · rw [hp, hf false false (by decide), hf false true (by decide), hf true true (by decide), hq]; split <;> omega
  · rw [hp, hf false false (by decide), hf false true (by decide), hf true false (by decide), hq]; split <;> omega
theorem cnt4_four (f : Bp → Option Unit) : cnt4 f = 4 ↔ ∀ x y, (f (x, y)).isSome = true := by
  have h1 : ∀ x y, hasB f x y ≤ 1 ∧ (hasB f x y = 1 ↔ (f (x, y)).isSome = true) := fun x y => by
    unfold hasB
    cases (f (x, y)).isSome <;> simp
  have a1 := h1 false false
  have a2 := h1 false true
  have a3 := h1 true false
  have a4 := h1 true true
  unfold cnt4
  constructor
  · intro h x y
    cases x <;> cases y
    · exact a1.2.1 (by omega)
    · exact a2.2.1 (by omega)
    · exact a3.2.1 (by omega)
    · exact a4.2.1 (by omega)
  · intro h
    have := a1.2.2 (h _ _)
    have := a2.2.2 (h _ _)
    have := a3.2.2 (h _ _)
    have := a4.2.2 (h _ _)
    omega
end Go.Proofs
namespace Go.Proofs
open Go Go.Sh Go.RowKit
/- slices of truth values; names; the rows' lengths -/
def encBo : Enc Bool := ⟨fun b => [.bool b], 1, fun _ => rfl, by decide, by intro x v hv; simp only [List.mem_cons, List.not_mem_nil, or_false] at hv; subst hv; rfl⟩
abbrev vB : View Bool := View.enc encBo
abbrev vBs : View (List Bool) := View.sl vB
section
variable {R : Ending → World → Prop} {S S2 : Nat → Prop} {w : World} {a : Option Addr} {n c : Nat}
theorem rowB_get {L : List Bool} (h : RowV vB S w a n L) {i : Nat} (hi : i < L.length) : ∃ p : Addr, (∀ K : Addr → Prop, K p → idx a n (i : Int) 1 K) ∧ w.cell? p = some (.bool (rB L i)) := by
  obtain ⟨b, o, h1, _, _, h2⟩ := h.get1 (i := i) (x := L[i]) (List.getElem?_eq_getElem hi) (v := .bool L[i]) rfl
  refine ⟨_, h1, ?_⟩
  rw [h2]
  unfold rB
  rw [List.getD_eq_getElem?_getD, List.getElem?_eq_getElem hi]; rfl
def gB (RW : List (List Bool)) (i : Nat) : List Bool := RW.getD i []
theorem gB_at {RW : List (List Bool)} {i : Nat} (h : i < RW.length) : gB RW i = RW[i] := by
  unfold gB
  rw [List.getD_eq_getElem?_getD, List.getElem?_eq_getElem h]; rfl
theorem rowBs_get {RW : List (List Bool)} (h : RowV vBs S w a n RW) {i : Nat} (hi : i < RW.length) :
    ∃ p a' c', (∀ K : Addr → Prop, K p → idx a n (i : Int) 1 K) ∧ w.cell? p = some (.slice a' (gB RW i).length c') ∧ RowV vB S w a' (gB RW i).length (gB RW i) := by
  rw [gB_at hi]
  obtain ⟨b, o, a', c', h1, _, _, h2, _, h4⟩ := h.getS (List.getElem?_eq_getElem hi)
  exact ⟨_, a', c', h1, h2, h4⟩
theorem ContainsB_spec {L : List Bool} (v : Bool) (h1 : RowV vB S w a n L) (hs : n ≤ 1000000) (h : R (.returned (.bool (decide (v ∈ L)))) w) :
    Calls Tryz.prog F_slices_Contains_of_bool_bool ⟨[.slice a n c, .bool v]⟩ w R := by
  apply c_slices_Contains_of_bool_bool
  apply c_slices_Index_of_bool_bool
  have hn := h1.1
  refine ⟨fun i W m => ∃ k : Nat, i = k ∧ k ≤ n ∧ m = n - k ∧ W = w ∧ ∀ x ∈ L.take k, x ≠ v, ⟨n, 0, rfl, by omega, rfl, rfl, by simp⟩, ?_⟩
  rintro _ W m ⟨k, rfl, hk, rfl, rfl, hno⟩ _
  refine br_split (fun hlt => ?_) (fun hge => ?_)
  · have hkL : k < L.length := by omega
    obtain ⟨p, hp, d⟩ := rowB_get h1 hkL
    have e : rB L k = L[k] := by unfold rB; rw [List.getD_eq_getElem?_getD, List.getElem?_eq_getElem hkL]; rfl
    rw [e] at d
    refine hp _ ⟨_, d, br_split (fun g => ⟨_, rfl, ?_⟩) (fun g => ?_)⟩
    · rw [decide_eq_true (by omega)]
      rw [decide_eq_true (by rw [g]; exact List.getElem_mem hkL)] at h
      exact h
    · refine ⟨n - (k + 1), by omega, k + 1, by rw [wrap_nat (by omega)], by omega, rfl, rfl, fun x hx => ?_⟩
      rw [List.take_succ_eq_append_getElem hkL] at hx
      rcases List.mem_append.1 hx with hx | hx
      · exact hno x hx
      · rw [List.mem_singleton] at hx; subst hx
        exact fun q => g q.symm
  · rw [List.take_of_length_le (by omega)] at hno
    refine ⟨_, rfl, ?_⟩
    rw [decide_eq_false (by omega)]
    rw [decide_eq_false fun q => hno v q rfl] at h
    exact h
theorem IndexS_spec {L : List Nm} (v : Nm) (h1 : RowV vS S w a n L) (hs : n ≤ 1000000) (h : R (.returned (.int .i64 (ixF (fun x => decide (v = x)) L))) w) :
    Calls Tryz.prog F_slices_Index_of_string_string ⟨[.slice a n c, .string ⟨⟨v⟩⟩]⟩ w R := by
  apply c_slices_Index_of_string_string
  have hn := h1.1
  refine ⟨fun i W m => ∃ k : Nat, i = k ∧ k ≤ n ∧ m = n - k ∧ W = w ∧ ∀ x ∈ L.take k, decide (v = x) = false, ⟨n, 0, rfl, by omega, rfl, rfl, by simp⟩, ?_⟩
  rintro _ W m ⟨k, rfl, hk, rfl, rfl, hno⟩ _
  refine br_split (fun hlt => ?_) (fun hge => ?_)
  · have hkL : k < L.length := by omega
    obtain ⟨p, hp, d⟩ := rowS_get h1 hkL
    rw [gM_at hkL] at d
    refine hp _ ⟨_, d, br_split (fun g => ?_) (fun g => ?_)⟩
    · rw [ixF_at hkL (decide_eq_true g) hno] at h; exact h
    · exact ⟨n - (k + 1), by omega, k + 1, by rw [wrap_nat (by omega)], by omega, rfl, rfl, no_take hkL (decide_eq_false g) hno⟩
  · rw [List.take_of_length_le (by omega)] at hno
    rw [ixF_no hno] at h; exact h
theorem Great_spec {L : List Nm} (h1 : RowV vS S w a n L) (hs : n ≤ 4611686018427387904) (h : ∀ b : Bool, (b = false → ∀ s ∈ L, s.length ≤ 20) → R (.returned (.bool b)) w) :
    Calls Tryz.prog F_ref32_GreatNames ⟨[.slice a n c]⟩ w R := by
  apply c_ref32_GreatNames
  have hn := h1.1
  refine ⟨fun i W m => ∃ k : Nat, i = k ∧ k ≤ n ∧ m = n - k ∧ W = w ∧ ∀ x ∈ L.take k, x.length ≤ 20, ⟨n, 0, rfl, by omega, rfl, rfl, by simp⟩, ?_⟩
  rintro _ W m ⟨k, rfl, hk, rfl, rfl, hno⟩ _
  refine br_split (fun hlt => ?_) (fun hge => ?_)
  · have hkL : k < L.length := by omega
    obtain ⟨p, hp, d⟩ := rowS_get h1 hkL
    rw [gM_at hkL] at d
    have yes : R (.returned (.bool true)) W := h true fun q => by cases q
    refine hp _ ⟨_, d, br_split (fun g => yes) (fun g => ?_)⟩
    have next : ∃ m', m' < n - k ∧ ∃ k2 : Nat, IntKind.i64.wrap ((k : Int) + 1) = k2 ∧ k2 ≤ n ∧ m' = n - k2 ∧ W = W ∧ ∀ x ∈ L.take k2, x.length ≤ 20 := by
      refine ⟨n - (k + 1), by omega, k + 1, by rw [wrap_nat (by omega)], by omega, rfl, rfl, fun x hx => ?_⟩
      rw [List.take_succ_eq_append_getElem hkL] at hx
      rcases List.mem_append.1 hx with hx | hx
      · exact hno x hx
      · rw [List.mem_singleton] at hx; subst hx
        omega
    refine br_split (fun g2 => br_split (fun g3 => yes) (fun g3 => hp _ ⟨_, d, br_split (fun g4 => yes) (fun g4 => next)⟩)) (fun g2 => next)
  · rw [List.take_of_length_le (by omega)] at hno
    exact h _ fun _ => hno
theorem Bad_spec {RW : List (List Bool)} {p3 : Nat} {nmS : Slv} (h1 : RowV vBs S w a n RW) (hs : n ≤ 1000000) (B3 : Blk w p3 [sv nmS] 22) (h : ∀ b : Bool, (b = false → ∀ r ∈ RW, r.length = nmS.2.1) → R (.returned (.bool b)) w) :
    Calls Tryz.prog F_slices_ContainsFunc_of_bool_bool ⟨[.slice a n c, .func (.func 6) ⟨[]⟩ ⟨[.pointer (some ⟨p3, 0, none⟩)]⟩]⟩ w R := by
  apply c_slices_ContainsFunc_of_bool_bool
  apply c_slices_IndexFunc_of_bool_bool
  have hn := h1.1
  refine ⟨fun i W m => ∃ k : Nat, i = k ∧ k ≤ n ∧ m = n - k ∧ W = w ∧ ∀ x ∈ RW.take k, x.length = nmS.2.1, ⟨n, 0, rfl, by omega, rfl, rfl, by simp⟩, ?_⟩
  rintro _ W m ⟨k, rfl, hk, rfl, rfl, hno⟩ _
  refine br_split (fun hlt => ?_) (fun hge => ?_)
  · have hkL : k < RW.length := by omega
    obtain ⟨p, a', c', hp, d, _⟩ := rowBs_get h1 hkL
    refine hp _ ⟨_, _, _, d, ⟨by kernel_rfl, ?_⟩⟩
    apply c_apographtop_TopFourStates_1
    refine dr_ok ⟨_, _, _, b0_cell B3, _, rfl, br_split (fun g => ⟨_, rfl, ?_⟩) (fun g => ?_)⟩
    · rw [decide_eq_true (by omega)]
      exact h true fun q => by cases q
    · refine ⟨n - (k + 1), by omega, k + 1, by rw [wrap_nat (by omega)], by omega, rfl, rfl, fun x hx => ?_⟩
      rw [List.take_succ_eq_append_getElem hkL] at hx
      rcases List.mem_append.1 hx with hx | hx
      · exact hno x hx
      · rw [List.mem_singleton] at hx; subst hx
        rw [gB_at hkL] at g
        omega
  · rw [List.take_of_length_le (by omega)] at hno
    refine ⟨_, rfl, ?_⟩
    rw [decide_eq_false (by omega)]
    exact h false fun _ => hno
end
end Go.Proofs
namespace Go.Proofs
open Go Go.Sh Go.RowKit
/- TopFourStates: the rows' states, their splits, the pairs of rows -/
theorem row_fC (l : List Int) : Sh.encI.row l = fC l.length fun j => .int .i64 (gZ l j) := by
  have : ∀ l : List Int, Sh.encI.row l = l.map fun x => .int .i64 x := fun l => by
    induction l with
    | nil => rfl
    | cons x l ih => rw [row_cons, ih]; rfl
  rw [this]
  refine List.ext_getElem? fun j => ?_
  by_cases h : j < l.length
  · rw [fC_get h, List.getElem?_map, List.getElem?_eq_getElem h, gZ_at h]; rfl
  · rw [List.getElem?_eq_none (by rw [List.length_map]; omega), List.getElem?_eq_none (by rw [fC_len]; omega)]
structure LawS (RW : List (List Bool)) (z0 : Nat) (w0 W : World) (i : Nat) (a l : Slv) (E : Nat → Prop) : Prop where
  all : OwnV vIs E 30 z0 W a.1 a.2.1 a.2.2 ((RW.take i).map stI)
  spl : OwnV vIs E 30 z0 W l.1 l.2.1 l.2.2 ((splL (RW.take i)).map zN)
  el : ∀ k, E k → z0 ≤ k ∧ k < W.heap.size ∧ ¬ bk a.1 k ∧ ¬ bk l.1 k
  dj : ∀ k, bk a.1 k → ¬ bk l.1 k
  ext : Ext w0 W
  z : w0.heap.size ≤ z0 ∧ z0 ≤ W.heap.size
theorem LawS.step {RW : List (List Bool)} {z0 : Nat} {w0 W V : World} {i : Nat} {a l : Slv} {E : Nat → Prop} (h : LawS RW z0 w0 W i a l E) (e : Ext W V) : LawS RW z0 w0 V i a l E :=
  ⟨h.all.ext e, h.spl.ext e, fun k hk => by have := e.size; exact ⟨(h.el k hk).1, by have := (h.el k hk).2.1; omega, (h.el k hk).2.2⟩, h.dj, ext_trans h.ext e, by have := h.z; have := e.size; omega⟩
def fourU (RW : List (List Bool)) (i : Nat) : Prop := ¬ (RW.take i).Pairwise fun o r => ¬ fourP r o
theorem fourU_succ {RW : List (List Bool)} {i : Nat} (hi : i < RW.length) : fourU RW (i + 1) ↔ fourU RW i ∨ ∃ o ∈ RW.take i, fourP (gB RW i) o := by
  unfold fourU
  rw [List.take_succ_eq_append_getElem hi, List.pairwise_append, gB_at hi]
  constructor
  · intro h
    apply Classical.byContradiction
    intro q
    rw [not_or, Classical.not_not] at q
    refine h ⟨q.1, List.pairwise_singleton _ _, fun o ho r hr hf => ?_⟩
    rw [List.mem_singleton] at hr
    subst hr
    exact q.2 ⟨o, ho, hf⟩
  · rintro (h | ⟨o, ho, hf⟩) q
    · exact h q.1
    · exact q.2.2 o ho _ (List.mem_singleton.2 rfl) hf
theorem splL_succ {RW : List (List Bool)} {i : Nat} (hi : i < RW.length) : splL (RW.take (i + 1)) = splL (RW.take i) ++ (if bigR (gB RW i) = true then [ownR (gB RW i)] else []) := by
  unfold splL
  rw [List.take_succ_eq_append_getElem hi, List.filter_append, List.map_append, gB_at hi]
  congr 1
  by_cases h : bigR RW[i] = true
  · rw [if_pos h, List.filter_cons_of_pos h]; rfl
  · rw [if_neg h, List.filter_cons_of_neg h]; rfl
/- pairs of states that two rows have had -/
def seenF (r o : List Bool) (s : Nat) (f : Bp → Option Unit) : Prop := ∀ x y, (f (x, y)).isSome = true ↔ ∃ t, t < s ∧ rB r t = x ∧ rB o t = y
theorem seen_four {r o : List Bool} {f : Bp → Option Unit} (h : seenF r o r.length f) : cnt4 f = 4 ↔ fourP r o := by
  rw [cnt4_four]
  constructor
  · intro q x y
    obtain ⟨t, h1, h2, h3⟩ := (h x y).1 (q x y)
    exact ⟨t, h1, h2, h3⟩
  · intro q x y
    obtain ⟨t, h1, h2, h3⟩ := q x y
    exact (h x y).2 ⟨t, h1, h2, h3⟩
theorem cnt4_le (f : Bp → Option Unit) : cnt4 f ≤ 4 := by
  have h1 : ∀ x y, hasB f x y ≤ 1 := fun x y => by unfold hasB; split <;> omega
  have a1 := h1 false false
  have a2 := h1 false true
  have a3 := h1 true false
  have a4 := h1 true true
  unfold cnt4; omega
section
variable {R : Ending → World → Prop} {w : World}
theorem seen_put {r o : List Bool} {s b : Nat} {f : Bp → Option Unit} {V : World} (hM : MapN Tryz.prog 35 eBp (fun _ : Unit => .bool true) V b (cnt4 f) f) (hf : seenF r o s f) {Q : World → Prop}
    (hq : ∀ V' g, MapN Tryz.prog 35 eBp (fun _ : Unit => .bool true) V' b (cnt4 g) g → seenF r o (s + 1) g → Chg (fun j => j = b) V V' → Q V') : mupd Tryz.prog 34 (.map (some b)) (.agg ⟨[.bool (rB r s), .bool (rB o s)]⟩) (.bool true) V Q := by
  obtain ⟨kl, hkl⟩ := keyBp (rB r s, rB o s)
  refine MapN.update (t := 34) (e := 4) (eV := fun _ : Unit => .bool true) (x := (rB r s, rB o s)) (v := ()) hM kdBp Tryz.underlying34 (by have := cnt4_le f; simp only [maxLen]; omega) hkl (fun y hy => ?_) fun w' g hM' hc hg ho => hq w' g ?_ ?_ hc
  · obtain ⟨y1, y2⟩ := y
    simp only [Value.agg.injEq, Array.mk.injEq, List.cons.injEq, Value.bool.injEq, and_true] at hy
    rw [hy.1, hy.2]
  · rw [cnt4_put (f := f) (g := g) (p := (rB r s, rB o s)) (by rw [hg]; rfl) ho]; exact hM'
  · intro x y
    by_cases e : (x, y) = (rB r s, rB o s)
    · rw [e, hg]
      obtain ⟨e1, e2⟩ := Prod.mk.inj e
      exact ⟨fun _ => ⟨s, by omega, e1.symm, e2.symm⟩, fun _ => rfl⟩
    · rw [ho _ e, hf x y]
      constructor
      · rintro ⟨t, h1, h2, h3⟩; exact ⟨t, by omega, h2, h3⟩
      · rintro ⟨t, h1, h2, h3⟩
        by_cases e2 : t = s
        · subst e2; exact absurd (by rw [h2, h3]) e
        · exact ⟨t, by omega, h2, h3⟩
end
end Go.Proofs
namespace Go.Proofs
open Go Go.Sh Go.RowKit
/- TopFourStates: the walk -/
section
variable {R : Ending → World → Prop} {w : World} {S S2 : Nat → Prop} {na ra : Option Addr} {nn nc rn rc : Nat} {NM : List Nm} {RW : List (List Bool)}
theorem st_fill {r : List Bool} {s : Nat} {b : Bool} (hb : rB r s = b) : (fC r.length fun j => .int .i64 (if j < s + 1 then (if rB r j then 1 else 0) else 0)) = fC r.length fun i => if i = s then .int .i64 (if b then 1 else 0) else (.int .i64 (if i < s then (if rB r i then 1 else 0) else 0) : Value) := by
  refine fC_congr fun j _ => ?_
  by_cases e : j = s
  · subst e; rw [if_pos (by omega), if_pos rfl, hb]
  · rw [if_neg e]
    by_cases e2 : j < s
    · rw [if_pos (by omega), if_pos e2]
    · rw [if_neg (by omega), if_neg e2]
theorem st_same {r : List Bool} {s : Nat} (hb : rB r s = false) : (fC r.length fun j => .int .i64 (if j < s + 1 then (if rB r j then 1 else 0) else 0)) = fC r.length fun i => (.int .i64 (if i < s then (if rB r i then 1 else 0) else 0) : Value) := by
  refine fC_congr fun j _ => ?_
  by_cases e : j = s
  · subst e; rw [if_pos (show j < j + 1 by omega), if_neg (show ¬ j < j by omega), hb]; rfl
  · by_cases e2 : j < s
    · rw [if_pos (by omega), if_pos e2]
    · rw [if_neg (by omega), if_neg e2]
set_option maxRecDepth 20000 in
set_option maxHeartbeats 8000000 in
theorem Four_spec (hN : RowV vS S w na nn NM) (hcN : nn ≤ nc) (hNn : nn ≤ 4611686018427387904) (hR : RowV vBs S2 w ra rn RW) (hcR : rn ≤ rc) (h : ∀ w', Ext w w' → R (.returned (.bool true)) w') :
    Calls Tryz.prog F_apographtop_TopFourStates ⟨[.slice na nn nc, .slice ra rn rc]⟩ w R := by
  apply c_apographtop_TopFourStates
  obtain rfl : nn = NM.length := hN.1
  have hrn := hR.1
  have hR := hR.imp (S' := fun k => k < w.heap.size) fun k _ hl => hl
  refine al_intro fun p3 w4 hp3 B3 e4 s4 => ?_
  have B3 : Blk w4 p3 [sv (na, NM.length, nc)] 22 := B3
  have z4 := e4.size
  intro K5 hK5
  have awk : ∀ V, Ext w V → Calls Tryz.prog 7 ⟨[]⟩ V fun e w' => ∃ x : Bool, e = .returned (.bool x) ∧ R (.returned (.bool x)) w' := fun V eV => awake_spec fun w' e' => ⟨_, rfl, h w' (ext_trans eV e')⟩
  have k5 : NM.length ≤ 8 → RW.length ≤ 5 → (∀ s ∈ NM, s.length ≤ 20) → (∀ r ∈ RW, r.length = NM.length) → K5 w4 := by
    intro hn8 hr5 hs20 hrl
    refine hK5 w4 fun _ => ?_
    have hgl : ∀ i, i < RW.length → (gB RW i).length = NM.length := fun i hi => by rw [gB_at hi]; exact hrl _ (List.getElem_mem hi)
    refine ⟨fun four la ln lc aa an ac t W m => ∃ (i : Nat) (E : Nat → Prop), t = i ∧ i ≤ RW.length ∧ m = RW.length - i ∧ LawS RW w4.heap.size w4 W i (aa, an, ac) (la, ln, lc) E ∧ (four = true ↔ fourU RW i),
      ⟨_, 0, fun _ => False, rfl, Nat.zero_le _, rfl, ⟨OwnV.nil _, OwnV.nil _, fun k hk => hk.elim, fun k hk => by simp [bk] at hk, Below.refl _ _, Nat.le_refl _, Nat.le_refl _⟩, by simp [fourU]⟩, ?_⟩
    rintro four la ln lc aa an ac _ W m ⟨i, E, rfl, hi, rfl, hL, hf⟩ _
    have e0W := ext_trans e4 hL.ext
    refine br_split (fun hlt => ?_) (fun hge => ?_)
    · have hiR : i < RW.length := by omega
      have hln := hgl i hiR
      obtain ⟨pr, xa, xc, ip, dp, rp⟩ := rowBs_get (hR.ext e0W) hiR
      refine ip _ ⟨_, _, _, dp, ?_⟩
      generalize hrr : gB RW i = r at *
      refine mks_intro (Nat.le_refl _) (by omega) fun p17 w18 hp17 B17 e18 s18 => ?_
      rw [Int.toNat_natCast]
      rw [fC_rep] at B17
      refine ⟨fun t V m => ∃ s : Nat, t = s ∧ s ≤ r.length ∧ m = r.length - s ∧ Ext W V ∧ V.heap.size = w18.heap.size ∧ Blk V p17 (fC r.length fun j => .int .i64 (if j < s then (if rB r j then 1 else 0) else 0)) 3, ⟨_, 0, rfl, Nat.zero_le _, rfl, e18, rfl, B17⟩, ?_⟩
      rintro _ V m ⟨s, rfl, hs, rfl, eV, zV, BV⟩ _
      refine br_split (fun hlt2 => ?_) (fun hge2 => ?_)
      · have hsr : s < r.length := by omega
        obtain ⟨q, iq, dq⟩ := rowB_get (rp.ext eV) hsr
        refine iq _ ⟨_, dq, br_cases (fun g => ?_) (fun g => ?_)⟩
        · refine idx_b1 hsr (stL_fC BV hsr rfl fun w27 B27 c27 s27 => ?_)
          refine ⟨r.length - (s + 1), by omega, s + 1, by rw [wrap_nat (by omega)], by omega, rfl, ext_chgS eV c27 fun j hj => by omega, by omega, ?_⟩
          rw [st_fill g]; exact B27
        · refine ⟨r.length - (s + 1), by omega, s + 1, by rw [wrap_nat (by omega)], by omega, rfl, eV, zV, ?_⟩
          rw [st_same g]; exact BV
      · have hsr : s = r.length := by omega
        subst hsr
        have BV' : Blk V p17 (Sh.encI.row (stI r)) 3 := by
          rw [row_fC, stI_len]
          rw [show (fC r.length fun j => .int .i64 (gZ (stI r) j)) = fC r.length fun j => .int .i64 (if j < r.length then (if rB r j then 1 else 0) else 0) from fC_congr fun j hj => by rw [stI_at hj, if_pos hj]]
          exact BV
        have hLV := hL.step eV
        have zz := hL.z
        have hlt17 : ∀ k, E k ∨ bk aa k ∨ bk la k → k < p17 := fun k hk => by
          rcases hk with hk | hk | hk
          · have := (hL.el k hk).2.1; omega
          · have := (hL.all.bk hk).2; omega
          · have := (hL.spl.bk hk).2; omega
        have hst : RowV vI (fun k => k = p17) V (some ⟨p17, 0, none⟩) r.length (stI r) := rowI_blk BV' (stI_len r).symm
        have hall : OwnV vIs (fun k => E k ∨ k = p17) 30 w4.heap.size V aa an ac ((RW.take i).map stI) := hLV.all.imp fun k hk _ => .inl hk
        have hanl : an = i := by
          have : an = ((RW.take i).map stI).length := hLV.all.len
          rw [List.length_map, List.length_take] at this
          omega
        refine OwnV.push slT_ints hall (by have := hLV.z; omega) (x := stI r) (us := [.slice (some ⟨p17, 0, none⟩) r.length r.length]) ⟨some ⟨p17, 0, none⟩, r.length, by rw [stI_len], by rw [stI_len]; exact Nat.le_refl _, ?_⟩ (by omega) (by omega) fun a' c' w33 hA33 c33 n33 => ?_
        · rw [stI_len]
          exact hst.imp fun k hk _ => ⟨.inr hk, fun hb => by have := hlt17 k (.inr (.inl hb)); omega⟩
        have z33 := c33.size
        have zVV : p17 < V.heap.size := by have := BV'.lt; exact this
        have hst33 := hst.chg c33 fun k hk _ hh => by have := hlt17 k (.inr (.inl hh)); omega
        have hL33 : OwnV vIs E 30 w4.heap.size w33 la ln lc ((splL (RW.take i)).map zN) := hLV.spl.chg c33 fun k hk _ => ⟨fun hE => (hL.el k hE).2.2.1 hk, fun hb => hL.dj k hk hb⟩
        have e33 : Ext w4 w33 := ext_chgS hLV.ext c33 fun k hk => (hL.all.bk hk).1
        have hst5 : (stI r).length ≤ 32 := by rw [stI_len]; omega
        refine OfStates_spec (L := stI r) hst33 (by rw [stI_len] at hst5; exact hst5) stI_01 fun oa on oc w35 e35 ho => ⟨_, _, _, _, _, rfl, ?_⟩
        rw [isSp_stI, own_stI] at ho
        rw [isSp_stI]
        refine br_neg (by decide) ?_
        have z35 := e35.size
        have hA35 := hA33.ext e35
        have hL35 := hL33.ext e35
        have e435 := ext_trans e33 e35
        intro K39 hK39
        -- the state with this row
        have k39 : ∀ (la' : Option Addr) (ln' lc' : Nat) (V2 : World) (E' : Nat → Prop), W.heap.size ≤ V2.heap.size → LawS RW w4.heap.size w4 V2 (i + 1) (a', an + 1, c') (la', ln', lc') E' → K39 la' ln' lc' V2 := by
          intro la' ln' lc' V2 E' hz2 hL2
          refine hK39 la' ln' lc' V2 fun _ => ?_
          have eV2 := ext_trans e4 hL2.ext
          have rp2 : RowV vB (fun k => k < w.heap.size) V2 xa r.length r := rp.keep (fun k hk _ => ⟨hk, by rw [eV2.block k hk, e0W.block k hk]⟩) hz2
          refine RowV.cut (i := 0) (j := i) (hR.ext eV2) hcR (Nat.zero_le _) (by omega) fun a42 h42 => ?_
          rw [List.drop_zero] at h42
          have htl : (RW.take i).length = i := by rw [List.length_take]; omega
          refine ⟨fun f4 t V3 m => ∃ j : Nat, t = j ∧ j ≤ i ∧ m = i - j ∧ Ext V2 V3 ∧ (f4 = true ↔ fourU RW i ∨ ∃ o ∈ (RW.take i).take j, fourP r o), ⟨_, 0, rfl, Nat.zero_le _, rfl, Below.refl _ _, by simpa using hf⟩, ?_⟩
          rintro f4 _ V3 m3 ⟨j, rfl, hj, rfl, eV3, hf4⟩ _
          refine br_split (fun hlt3 => ?_) (fun hge3 => ?_)
          · have hji : j < (RW.take i).length := by omega
            obtain ⟨po, oa2, oc2, io, d2, ro⟩ := rowBs_get (h42.ext eV3) hji
            have hog : gB (RW.take i) j = (RW.take i)[j] := gB_at hji
            have hol : (gB (RW.take i) j).length = r.length := by rw [hog, hrl _ (List.mem_of_mem_take (List.getElem_mem hji)), hln]
            refine io _ ⟨_, _, _, d2, ?_⟩
            generalize hoo : gB (RW.take i) j = o at *
            refine mkm_intro fun b51 w52 hb51 hM e52 s52 => ?_
            have hM := MapN.of0 (hM Tryz.prog 35 eBp (fun _ : Unit => .bool true))
            have rpV := (rp2.ext eV3).ext e52
            have roV := ro.ext e52
            refine ⟨fun t V4 m => ∃ (s : Nat) (f : Bp → Option Unit), t = s ∧ s ≤ r.length ∧ m = r.length - s ∧ Ext V3 V4 ∧ b51 < V4.heap.size ∧ MapN Tryz.prog 35 eBp (fun _ : Unit => .bool true) V4 b51 (cnt4 f) f ∧ seenF r o s f,
              ⟨_, 0, fun _ => none, rfl, Nat.zero_le _, rfl, e52, by omega, hM, fun x y => ⟨fun q => (by cases q), fun ⟨t, ht, _⟩ => (by omega)⟩⟩, ?_⟩
            rintro _ V4 m4 ⟨s, f, rfl, hs4, rfl, eV4, hb4, hM4, hf⟩ _
            have z34 := eV4.size
            refine br_split (fun hlt4 => ?_) (fun hge4 => ?_)
            · have hsr : s < r.length := by omega
              unfold drw
              have ed := ext_drew V4
              have hM5 := hM4.ext ed
              have e35' := ext_trans eV4 ed
              have zd := ed.size
              generalize V4.drew = V5 at *
              obtain ⟨q1, i1, d1⟩ := rowB_get ((rp2.ext eV3).ext e35') hsr
              obtain ⟨q2, i2, d2'⟩ := rowB_get (ro.ext e35') (i := s) (by omega)
              refine i1 _ ⟨_, d1, ?_⟩
              rw [hol] at i2
              rw [hol]
              refine i2 _ ⟨_, d2', seen_put hM5 hf fun V6 g hM6 hg c6 => ?_, True.intro⟩
              have z6 := c6.size
              exact ⟨r.length - (s + 1), by omega, s + 1, g, by rw [wrap_nat (by omega)], by omega, rfl, ext_chgS e35' c6 fun k hk => by omega, by omega, hM6, hg⟩
            · have hsr : s = r.length := by omega
              subst hsr
              have hfo : fourU RW i ∨ (∃ o' ∈ (RW.take i).take (j + 1), fourP r o') ↔ (fourU RW i ∨ ∃ o' ∈ (RW.take i).take j, fourP r o') ∨ fourP r o := by
                rw [List.take_succ_eq_append_getElem hji, ← hog, or_assoc]
                constructor
                · rintro (q | ⟨o', ho', q⟩)
                  · exact .inl q
                  · rcases List.mem_append.1 ho' with ho' | ho'
                    · exact .inr (.inl ⟨o', ho', q⟩)
                    · rw [List.mem_singleton] at ho'
                      subst ho'; exact .inr (.inr q)
                · rintro (q | ⟨o', ho', q⟩ | q)
                  · exact .inl q
                  · exact .inr ⟨o', List.mem_append_left _ ho', q⟩
                  · exact .inr ⟨o, List.mem_append_right _ (List.mem_singleton.2 rfl), q⟩
              refine br_cases (fun g => ?_) (fun g => hM4.len ?_)
              · refine ⟨i - (j + 1), by omega, j + 1, by rw [wrap_nat (by omega)], by omega, rfl, ext_trans eV3 eV4, ?_⟩
                rw [hfo]
                exact ⟨fun _ => .inl (hf4.1 g), fun _ => rfl⟩
              · refine ⟨i - (j + 1), by omega, j + 1, by rw [wrap_nat (by omega)], by omega, rfl, ext_trans eV3 eV4, ?_⟩
                rw [hfo, decide_eq_true_iff]
                have := seen_four hf
                constructor
                · intro q; exact .inr (this.1 (by omega))
                · rintro (q | q)
                  · rw [hf4.2 q] at g; cases g
                  · have := this.2 q; omega
          · have hji : j = i := by omega
            subst hji
            rw [List.take_of_length_le (by omega)] at hf4
            refine ⟨RW.length - (j + 1), by omega, j + 1, E', by rw [wrap_nat (by omega)], by omega, rfl, hL2.step eV3, ?_⟩
            rw [fourU_succ hiR, hrr]; exact hf4
        have take_i : (RW.take (i + 1)).map stI = (RW.take i).map stI ++ [stI r] := by
          rw [List.take_succ_eq_append_getElem hiR, List.map_append, ← gB_at hiR, hrr]; rfl
        refine br_cases (fun g => ?_) (fun g => ?_)
        · obtain ⟨hcap, hro⟩ := ho g
          obtain rfl := hro.1
          have hE2 : OwnV vIs (fun k => (E k ∨ k = p17) ∨ (w33.heap.size ≤ k ∧ k < w35.heap.size)) 30 w4.heap.size w35 la ln lc ((splL (RW.take i)).map zN) := hL35.imp fun k hk _ => .inl (.inl hk)
          have hlnl : ln ≤ 5 := by
            have : ln = ((splL (RW.take i)).map zN).length := hLV.spl.len
            have h1 := List.length_filter_le bigR (RW.take i)
            unfold splL at this
            rw [List.length_map, List.length_map] at this
            rw [List.length_take] at h1
            omega
          refine OwnV.push slT_ints hE2 (by omega) (x := zN (ownR r)) (us := [.slice oa (zN (ownR r)).length oc]) ⟨oa, oc, rfl, hcap, hro.imp fun k hk hl => ⟨.inr ⟨hk, hl⟩, fun hb => by have := hlt17 k (.inr (.inr hb)); omega⟩⟩ (by omega) (by omega) fun l' lc' w72 hL72 c72 n72 => ?_
          have z72 := c72.size
          refine k39 l' (ln + 1) lc' w72 (fun k => (E k ∨ k = p17) ∨ (w33.heap.size ≤ k ∧ k < w35.heap.size)) (by have := eV.size; omega) ⟨?_, ?_, fun k hk => ?_, fun k hk => ?_, ext_chgS e435 c72 fun k hk => (hL.spl.bk hk).1, by have := hLV.z; omega⟩
          · rw [take_i]
            refine (hA35.imp (S' := fun k => (E k ∨ k = p17) ∨ (w33.heap.size ≤ k ∧ k < w35.heap.size)) fun k hk _ => .inl hk).chg c72 fun k hk _ => ⟨fun hE => ?_, fun hb => ?_⟩
            · have h17 := hlt17 k (.inr (.inr hk))
              rcases hE with (hE | hE) | hE
              · exact (hL.el k hE).2.2.2 hk
              · omega
              · omega
            · have h17 := hlt17 k (.inr (.inr hk))
              rcases n33 k hb with q | q
              · exact hL.dj k q hk
              · omega
          · rw [splL_succ hiR, hrr, if_pos g, List.map_append]
            exact hL72
          · have ha : bk a' k → k < w33.heap.size := fun hb => (hA33.bk hb).2
            have ha2 : bk a' k → bk aa k ∨ V.heap.size ≤ k := n33 k
            have hl2 : bk l' k → bk la k ∨ w35.heap.size ≤ k := n72 k
            rcases hk with (hk | rfl) | hk
            · have := hL.el k hk
              refine ⟨this.1, by omega, fun hb => ?_, fun hb => ?_⟩
              · rcases ha2 hb with q | q
                · exact this.2.2.1 q
                · omega
              · rcases hl2 hb with q | q
                · exact this.2.2.2 q
                · omega
            · refine ⟨by omega, by omega, fun hb => ?_, fun hb => ?_⟩
              · rcases ha2 hb with q | q
                · have := hlt17 _ (.inr (.inl q)); omega
                · omega
              · rcases hl2 hb with q | q
                · have := hlt17 _ (.inr (.inr q)); omega
                · omega
            · refine ⟨by have := hLV.z; omega, by omega, fun hb => by have := ha hb; omega, fun hb => ?_⟩
              rcases hl2 hb with q | q
              · have := hlt17 _ (.inr (.inr q)); omega
              · omega
          · intro hb
            have hk33 := (hA33.bk hk).2
            rcases n72 k hb with q | q
            · have := hlt17 k (.inr (.inr q))
              rcases n33 k hk with q2 | q2
              · exact hL.dj k q2 q
              · omega
            · omega
        · refine k39 la ln lc w35 (fun k => E k ∨ k = p17) (by have := eV.size; omega) ⟨by rw [take_i]; exact hA35, ?_, fun k hk => ?_, fun k hk => ?_, e435, ?_⟩
          · rw [splL_succ hiR, hrr, if_neg (by rw [g]; decide), List.append_nil]
            exact hL35.imp fun k hk _ => .inl hk
          · rcases hk with hk | rfl
            · have := hL.el k hk
              refine ⟨this.1, by omega, fun hb => ?_, this.2.2.2⟩
              rcases n33 k hb with q | q
              · exact this.2.2.1 q
              · omega
            · refine ⟨by omega, by omega, fun hb => ?_, fun hb => by have := hlt17 _ (.inr (.inr hb)); omega⟩
              rcases n33 _ hb with q | q
              · have := hlt17 _ (.inr (.inl q)); omega
              · omega
          · intro hb
            rcases n33 k hk with q | q
            · exact hL.dj k q hb
            · have := hlt17 k (.inr (.inr hb)); omega
          · have := hLV.z; omega
    · have hiR : i = RW.length := by omega
      subst hiR
      rw [fourU, List.take_length] at hf
      have hA := hL.all
      have hSp := hL.spl
      rw [List.take_length] at hA hSp
      have hfour : four = true ↔ ¬ allC (splL RW) := by
        rw [allC_rows hrl]; exact hf
      have B3W := B3.ext hL.ext
      refine ⟨_, _, _, b0_cell B3W, ?_⟩
      have hlnl : ln = (splL RW).length := by
        have : ln = ((splL RW).map zN).length := hSp.len
        rw [List.length_map] at this; exact this
      have hl5 : (splL RW).length ≤ 5 := by
        have h1 := List.length_filter_le bigR RW
        unfold splL
        rw [List.length_map]; omega
      refine Build_spec (fun _ => []) (fun _ => []) (NM := NM) (L := splL RW) (hN.ext e0W) hcN hSp.out hn8 hl5 (splL_spl hrl) (fun s hs => by have := hs20 s hs; omega) fun e p' q' w75 e75 h17 h0 _ => ⟨_, _, _, _, _, _, _, rfl, ?_⟩
      have e075 := ext_trans e0W e75
      refine al_intro fun b79 w80 hb79 B79 e80 s80 => ?_
      refine stL_blk B79 (by simp) (by intro v hv; simp only [List.mem_cons, List.not_mem_nil, or_false] at hv; rcases hv with rfl | rfl <;> rfl) fun w81 B81 f81 s81 o81 t81 u81 => ?_
      have B81 : Blk w81 b79 [sv p', sv q'] 37 := B81
      have c81 : Chg (fun j => j = b79) w80 w81 := ⟨o81, t81, u81, by omega, fun j _ hj => f81 j hj⟩
      have e7581 : Ext w75 w81 := ext_chgS e80 c81 fun j hj => by omega
      have e081 := ext_trans e075 e7581
      refine br_split (fun g1 => br_split (fun g2 => awk w81 e081) (fun g2 => ?_)) (fun g1 => ?_)
      · have h17 := h17 (by omega)
        rw [hfour.2 h17]
        exact br_cases (fun _ => awk w81 e081) (fun q => by cases q)
      have he : e = 0 := by omega
      obtain ⟨hall, hB⟩ := h0 he
      have hf0 : four = false := by
        cases four with
        | false => rfl
        | true => exact absurd hall (hfour.1 rfl)
      rw [hf0]
      refine br_cases (fun q => by cases q) (fun _ => ?_)
      obtain ⟨P0, N0, P', N', ord, g1', g2, g3, _, g5, g6, g7⟩ := hB.out
      have hnmok : NmOk NM := fun i hi => by
        have := hB.nm i hi
        refine ⟨named_ne (by rw [← leafB_named]; exact this.1), this.2⟩
      have hT' := g3.ok g2
      have hN'len : N'.length = P'.length := hT'.len
      have hP15 : P'.length ≤ 15 := by
        rw [g3.lenP]
        cases g1' with
        | one h1 h2 h3 => rw [h2]; decide
        | two h1 h2 h3 => rw [h2]; decide
        | more own h1 h2 h3 h4 h5 h6 => rw [h5, rowPI_len]; omega
      have hN'b : ∀ s ∈ N', s.length ≤ 1000000 := fun s hs => by
        obtain ⟨i, hi, rfl⟩ := List.mem_iff_getElem.1 hs
        have hiP : i < P0.length := by rw [← g3.lenN]; exact hi
        have e1 := g3.nm i hiP
        rw [gM_at hi] at e1
        rw [e1]
        rcases built_named g1' (gO ord i) with q | ⟨j, hj, q⟩
        · rw [q]; decide
        · rw [q, gM_at hj]
          have := hs20 _ (List.getElem_mem hj); omega
      refine ⟨_, _, _, bat B81 rfl, _, _, _, bat B81 rfl, ?_⟩
      refine Leaves_spec (p := p') (q := q') (g6.ext e7581) (g7.ext e7581) g5 hN'b hT' fun oa on oc w91 e91 hLv => ⟨_, _, _, _, rfl, ?_⟩
      have hlvl := leaves_len g1' hnmok g2 g3
      have hon := hLv.1
      rw [zN_len, hlvl] at hon
      subst hon
      have e091 := ext_trans e081 e91
      have e491 := ext_trans hL.ext (ext_trans e75 (ext_trans e7581 e91))
      intro K94 hK94
      refine br_neg (by decide) ⟨_, _, _, b0_cell (B3.ext e491), br_neg (by simp) ?_⟩
      refine hK94 w91 fun _ => ?_
      have B91 := B81.ext e91
      have e7591 := ext_trans e7581 e91
      have hAW := hA.out
      have hanl : an = RW.length := by
        have : an = (RW.map stI).length := hA.len
        rw [List.length_map] at this; exact this
      refine ⟨fun t V m => ∃ k : Nat, t = k ∧ k ≤ RW.length ∧ m = RW.length - k ∧ Ext w91 V, ⟨_, 0, rfl, Nat.zero_le _, rfl, Below.refl _ _⟩, ?_⟩
      rintro _ V m ⟨k, rfl, hk, rfl, eV⟩ _
      refine br_split (fun hlt => ?_) (fun hge2 => awk V (ext_trans e091 eV))
      have hkR : k < RW.length := by omega
      have hrk : (gB RW k).length = NM.length := hgl k hkR
      have hmem : gB RW k ∈ RW := by rw [gB_at hkR]; exact List.getElem_mem hkR
      have e75V := ext_trans e7591 eV
      have eWV := ext_trans e75 e75V
      have hAV := hAW.ext eWV
      have hgk : (RW.map stI)[k]? = some (stI (gB RW k)) := by rw [List.getElem?_map, List.getElem?_eq_getElem hkR, gB_at hkR]; rfl
      obtain ⟨bq, oq, xa, xc, ia, _, _, da, _, rst⟩ := hAV.getS hgk
      refine ia _ ⟨_, _, _, da, ?_⟩
      generalize hrr : gB RW k = r at *
      have hownl : (ownS (sR r) NM N').length = NM.length := by unfold ownS; rw [List.length_map, hlvl]
      refine ⟨fun oa on oc t V1 m => ∃ j : Nat, t = j ∧ j ≤ NM.length ∧ m = NM.length - j ∧ Ext V V1 ∧ OwnL Sh.encI V1 V.heap.size 3 oa on oc ((ownS (sR r) NM N').take j), ⟨_, 0, rfl, Nat.zero_le _, rfl, Below.refl _ _, Owns.nil _ _ _ _⟩, ?_⟩
      rintro oa2 on2 oc2 _ V1 m1 ⟨j, rfl, hj, rfl, eV1, hO⟩ _
      have zV1 := eV1.size
      have hol : ((ownS (sR r) NM N').take j).length = on2 := OwnL.length hO
      rw [List.length_take, hownl] at hol
      refine br_split (fun hlt2 => ?_) (fun hge2 => ?_)
      · have hjn : j < NM.length := by omega
        have hjl : j < (leavesF N' N'.length).length := by rw [hlvl]; exact hjn
        obtain ⟨q1, i1, d1⟩ := rowI_get ((hLv.ext eV).ext eV1) (i := j) (by rw [zN_len]; exact hjl)
        rw [zN_get hjl] at d1
        refine i1 _ ⟨_, d1, ?_⟩
        have hlm : (leavesF N' N'.length)[j] ∈ leavesF N' N'.length := List.getElem_mem hjl
        generalize hld : (leavesF N' N'.length)[j] = ld at *
        unfold drw
        have ed := ext_drew V1
        have hO := Owns.ext hO ed
        have eVd := ext_trans eV1 ed
        have zd := ed.size
        generalize V1.drew = V2 at *
        have e4V2 := ext_trans e491 (ext_trans eV eVd)
        have e75V2 := ext_trans e75V eVd
        have B79V := (B91.ext eV).ext eVd
        obtain ⟨hl1, hl2⟩ := leavesF_mem.1 hlm
        obtain ⟨q2, i2, d2⟩ := rowS_get (g7.ext e75V2) hl1
        refine ⟨_, _, _, b0_cell (B3.ext e4V2), _, _, _, bat B79V rfl, i2 _ ⟨_, d2, ?_, True.intro⟩⟩
        refine IndexS_spec (gM N' ld) (hN.ext (ext_trans e4 e4V2)) (by show NM.length ≤ 1000000; omega) ⟨_, rfl, ?_⟩
        obtain ⟨ix, hix, hgx, hixe⟩ := ixN_at g1' hnmok g2 g3 hlm
        rw [show ixF (fun x => decide (gM N' ld = x)) NM = (ix : Int) from hixe]
        refine br_neg (by omega) ?_
        obtain ⟨q3, i3, d3⟩ := rowI_get (rst.ext eVd) (i := ix) (by rw [stI_len]; omega)
        refine i3 _ ⟨_, d3, ?_⟩
        refine OwnL.push (E := Sh.encI) slT_int hO (by omega) (gZ (stI r) ix) (by omega) (by omega) fun a' c' w124 ho hc hnn => ?_
        have zc := hc.size
        refine ⟨NM.length - (j + 1), by omega, j + 1, by rw [wrap_nat (by omega)], by omega, rfl, ext_chgS eVd hc fun k hk => (Owns.bk hO hk).1, ?_⟩
        have ej : (ownS (sR r) NM N').take (j + 1) = (ownS (sR r) NM N').take j ++ [gZ (stI r) ix] := by
          rw [List.take_succ_eq_append_getElem (by omega)]
          congr 2
          unfold ownS
          rw [List.getElem_map, hld, hixe, stI_at (by omega)]
          unfold sR
          rw [Int.toNat_natCast]
          split <;> rfl
        rw [ej]; exact ho
      · have hjn : j = NM.length := by omega
        subst hjn
        rw [List.take_of_length_le (by omega)] at hO
        intro K126 hK126
        have k126 : ∀ (want : Int) V3, Ext V1 V3 → want = (if (∃ l, l < NM.length ∧ sR r l ≠ sR r 0) then 1 else 0) → K126 want V3 := by
          intro want V3 e3 hw
          refine hK126 want V3 fun _ => ?_
          have eV3 := ext_trans eV1 e3
          have B79V := (B91.ext eV).ext eV3
          have e75V3 := ext_trans e75V eV3
          refine ⟨_, _, _, bat B79V rfl, _, _, _, bat B79V rfl, ?_⟩
          have hown := (rowV_enc.2 (OwnL.out hO)).ext e3
          refine Fitch_spec (p := p') (q := q') (sS := (oa2, on2, oc2)) (sts := ownS (sR r) NM N') (g6.ext e75V3) (g7.ext e75V3) g5 hN'b hT' hP15 hown (by rw [hownl, hlvl]) (fun x hx => ?_) fun v w132 e132 hv => ⟨_, _, rfl, ?_⟩
          · unfold ownS at hx
            obtain ⟨i, _, rfl⟩ := List.mem_map.1 hx
            unfold sR
            split <;> omega
          have hvw : v = want := by
            rw [hw]
            exact hv.uniq (join_least g1' hnmok g2 g3 (row2_sR r _) fun A hA hnd h2 h3 => all_sR hmem hrk A hA hnd h2 h3)
          refine br_neg (by decide) (br_neg (by simpa using hvw) ?_)
          exact ⟨RW.length - (k + 1), by omega, k + 1, by rw [wrap_nat (by omega)], by omega, rfl, ext_trans eV (ext_trans eV3 e132)⟩
        have eR := ext_trans e091 (ext_trans eV eV1)
        obtain ⟨pr, xa2, xc2, ip, dp, rp⟩ := rowBs_get (hR.ext eR) hkR
        rw [hrr] at dp rp
        have hw := want_sR (r := r) hrk
        refine ip _ ⟨_, _, _, dp, ContainsB_spec true rp (by omega) ⟨_, rfl, br_split (fun g => ip _ ⟨_, _, _, dp, ContainsB_spec false rp (by omega) ⟨_, rfl, br_split (fun g2' => ?_) (fun g2' => ?_)⟩⟩) (fun g => ?_)⟩⟩
        · exact k126 1 V1 (Below.refl _ _) (by rw [if_pos (hw.2 ⟨g, g2'⟩)])
        · exact k126 0 V1 (Below.refl _ _) (by rw [if_neg fun q => g2' (hw.1 q).2])
        · exact k126 0 V1 (Below.refl _ _) (by rw [if_neg fun q => g (hw.1 q).1])
  refine ⟨_, _, _, b0_cell B3, Great_spec (hN.ext e4) hNn fun b hb => ⟨_, rfl, br_cases (fun _ => awk w4 e4) (fun g => ⟨_, _, _, b0_cell B3, br_split (fun _ => awk w4 e4) (fun g1 => br_split (fun _ => awk w4 e4) (fun g2 => Bad_spec (nmS := (na, NM.length, nc)) (hR.ext e4) (by omega) B3 fun b2 hb2 => ⟨_, rfl, br_cases (fun _ => awk w4 e4) (fun g3 => ?_)⟩))⟩)⟩⟩
  have g1 : ¬ (8 : Int) < (NM.length : Int) := g1
  exact k5 (by omega) (by omega) (hb g) (hb2 g3)
end
end Go.Proofs
namespace Go.Sh
open Go Go.RowKit Go.ChangeShapes
section
variable {H : Type} {enc : TypeId × Value → H} {P : Program} {W W' : World}
theorem trodAll_carry {sp : Nat → Bool} : ∀ {ts : List TypeId} {vs : List Value} {ds : List (DataW H)} {ps : List MemPlace}, DataW.TrodAll enc P W 0 sp true ts vs ds ps → (∀ p ∈ ps, W.sameAt W' p) → DataW.TrodAll enc P W' 0 sp true ts vs ds ps
  | [], [], [], _, h, _ => h
  | _ :: _, _ :: _, _ :: _, _, ⟨p, q, ⟨n, hn⟩, h2, e⟩, hs =>
    ⟨p, q, ⟨n, DataW.trod_carry n _ _ _ hn fun x hx => hs x (by rw [e]; exact List.mem_append_left _ hx)⟩, trodAll_carry h2 (fun x hx => hs x (by rw [e]; exact List.mem_append_right _ hx)), e⟩
  | [], [], _ :: _, _, h, _ => h.elim
  | [], _ :: _, _, _, h, _ => h.elim
  | _ :: _, [], _, _, h, _ => h.elim
  | _ :: _, _ :: _, [], _, h, _ => h.elim
theorem trodAll_below (hl : laidOutB P = true) : ∀ {ts : List TypeId} {vs : List Value} {ds : List (DataW H)} {ps : List MemPlace}, (∀ t ∈ ts, P.readableRec t = true ∧ t < P.types.size) → DataW.TrodAll enc P W 0 (fun _ => true) true ts vs ds ps → Below W.heap.size W W' → (∀ x ∈ ps, x.block < W.heap.size) →
    DataW.TrodAll enc P W' 0 (fun b => decide (b < W.heap.size)) true ts vs ds ps
  | [], [], [], _, _, h, _, _ => h
  | _ :: _, _ :: _, _ :: _, _, ht, ⟨p, q, h1, h2, e⟩, hb, hlt =>
    ⟨p, q, Below.trod hl (ht _ (by simp)).1 (ht _ (by simp)).2 h1 hb (fun x hx => hlt x (by rw [e]; exact List.mem_append_left _ hx)),
      trodAll_below hl (fun t h => ht t (List.mem_cons_of_mem _ h)) h2 hb (fun x hx => hlt x (by rw [e]; exact List.mem_append_right _ hx)), e⟩
  | [], [], _ :: _, _, _, h, _, _ => h.elim
  | [], _ :: _, _, _, _, h, _, _ => h.elim
  | _ :: _, [], _, _, _, h, _, _ => h.elim
  | _ :: _, _ :: _, [], _, _, h, _, _ => h.elim

/- a law's 'post' where it answers true and what was there stands -/
theorem post_ext {f : Func} {s : ChangeSpec} {apart fresh handsOn again : Bool} {args : Array Value} {ds gs : List (DataW H)} {before : List MemPlace} {tb : TypeId} (hl : laidOutB P = true) (hts : ∀ t ∈ f.params.toList, P.readableRec t = true ∧ t < P.types.size) (hres : f.resultTypes = #[tb]) (htb : P.underlying tb = some .bool) (hvars : s.vars = [])
    (hW : DataW.Whole enc P f.params.toList s.vars apart W args.toList ds gs before) (hfn : s.fn H (ds ++ gs) = { results := [.lit (.bool true)], args := ds }) (he : Ext W W') :
    s.post enc P f apart fresh handsOn again W args (.bool true) W' := by
  have hlt := hW.lt
  have hW0 := hW
  obtain ⟨p, q, h1, h2, hpq, hz, hn⟩ := hW0
  rw [hvars] at h2
  obtain ⟨hg, hq⟩ := trodVars_none h2
  subst hg hq
  simp only [List.append_nil] at hpq
  subst hpq
  have hbool : ∀ (b : Nat) (sp : Nat → Bool) (hd : Bool), DataW.TrodAll enc P W' b sp hd f.resultTypes.toList ((Value.bool true).resultList f.resultTypes.size) [.lit (.bool true)] [] := by
    intro b sp hd
    rw [hres]
    exact trodAll_mk1 (shut_bool htb true)
  refine ⟨ds, [], before, [], before, [], hW, ?_, ?_, ?_, he.frame _, fun _ => ⟨ok_one hres rfl (okWide_bool_mk htb true), [.lit (.bool true)] ++ ds, [], [] ++ before, ⟨[] ++ before, [], ?_, ?_, by simp, ?_, ?_⟩, ?_⟩⟩
  · rw [hfn]; exact hbool _ _ _
  · rw [hfn]; exact trodAll_below hl hts h1 he hlt
  · rw [hfn, hvars]; rfl
  · exact trodAll_append (trodAll_carry h1 fun x hx => he.same (hlt x hx)) (hbool _ _ _)
  · rw [hvars]; rfl
  · intro b off hp
    simp only [List.nil_append] at hp
    rw [he.frozen (hlt _ hp)]
    exact hz b off hp
  · intro ha; simpa using hn ha
  · intro x hx _; simpa using hx
end
end Go.Sh
namespace Go.Sh
open Go Go.RowKit Go.ChangeShapes
/- slices as arguments, of whatever elements: what a row says of them, as a view; with the bound on their lengths -/
section
variable {H : Type} {enc : TypeId × Value → H} {P : Program} {w : World} {base : Nat} {sp : Nat → Bool} {hd : Bool} {α : Type}
theorem weightsAll_memG {e : TypeId} : ∀ {ds : List (DataW H)} {d : DataW H} {m : Nat}, d ∈ ds → m ∈ d.weights P e → m ∈ DataW.weightsAll P e ds
  | d0 :: ds, d, m, hd, hm => by
    rw [DataW.weightsAll, List.mem_append]
    rcases List.mem_cons.1 hd with rfl | hd
    · exact .inl hm
    · exact .inr (weightsAll_memG hd hm)
theorem rowV_build {V : View α} {Q : α → Prop} {a : Addr} {len : Nat} (hel : ∀ i, i < len → ∃ (x : α) (us : List Value), Q x ∧ V.C (fun _ => True) w x us ∧ ∀ j v, us[j]? = some v → w.cell? ((a.add (i * V.size)).add j) = some v) :
    ∃ L : List α, RowV V (fun _ => True) w (some a) len L ∧ ∀ x ∈ L, Q x := by
  by_cases hl0 : len = 0
  · subst hl0; exact ⟨[], RowV.nil _, fun x hx => by cases hx⟩
  obtain ⟨b, o, rfl⟩ : ∃ b o, a = ⟨b, o, none⟩ := by
    obtain ⟨x, us, _, hC, hx⟩ := hel 0 (by omega)
    have hp := V.pos
    have hl := V.len hC
    have h0 := hx 0 _ (List.getElem?_eq_getElem (by omega))
    obtain ⟨b, o, spot⟩ := a
    have hspot : spot = none := by simpa [Addr.add] using World.cell?_spot h0
    subst hspot
    exact ⟨b, o, rfl⟩
  have build : ∀ k, k ≤ len → ∃ (L : List α) (us : List Value), L.length = k ∧ us.length = k * V.size ∧ AllV V (fun _ => True) w L us ∧ (∀ x ∈ L, Q x) ∧ ∀ j v, us[j]? = some v → w.cell? ((⟨b, o, none⟩ : Addr).add j) = some v := by
    intro k
    induction k with
    | zero => exact fun _ => ⟨[], [], rfl, by simp, rfl, fun x hx => (by cases hx), fun j v hj => (by simp at hj)⟩
    | succ k ihk =>
      intro hk
      obtain ⟨L, us, hL, hul, hC, hQ, hus⟩ := ihk (by omega)
      obtain ⟨x, vs, hq, hV, hx⟩ := hel k (by omega)
      refine ⟨L ++ [x], us ++ vs, by simp [hL], by rw [List.length_append, hul, V.len hV, Nat.succ_mul], hC.app (AllV.single hV), fun y hy => ?_, fun j v hj => ?_⟩
      · rw [List.mem_append, List.mem_singleton] at hy
        rcases hy with hy | rfl
        · exact hQ y hy
        · exact hq
      · by_cases hlt : j < us.length
        · rw [List.getElem?_append_left hlt] at hj; exact hus j v hj
        · rw [List.getElem?_append_right (by omega)] at hj
          have := hx _ _ hj
          rw [add_none, add_none] at this
          rw [add_none, ← this]
          congr 2; omega
  obtain ⟨L, us, hL, hul, hC, hQ, hus⟩ := build len (Nat.le_refl _)
  have hlt : b < w.heap.size := by
    obtain ⟨x, vs, _, hV, hx⟩ := hel 0 (by omega)
    have hp := V.pos
    have hl := V.len hV
    have h0 := hx 0 _ (List.getElem?_eq_getElem (by omega))
    have := World.block_lt_of_cell? w _ h0
    simpa [Addr.add] using this
  exact ⟨L, ⟨hL.symm, us, .inr ⟨b, o, rfl, trivial, hlt, fun j v hj => by have := hus j v hj; rwa [add_none] at this⟩, hC⟩, hQ⟩
theorem open_slV {V : View α} {Q : α → Prop} {t e : TypeId} (ht : P.underlying t = some (.slice e)) (hc : P.cellsOf e = V.size) (hb : 0 < P.bytesOf e)
    (hel : ∀ n cs y, (∀ m ∈ y.1.weights P e, m ≤ reachBytes) → cs.length = P.cellsOf e → DataW.trod enc P w base sp hd n e cs = some y → ∃ x, Q x ∧ V.C (fun _ => True) w x cs)
    (fuel : Nat) (cs : List Value) (x : DataW H × List MemPlace) (hz : ∀ m ∈ x.1.weights P t, m ≤ reachBytes) (h : DataW.trod enc P w base sp hd fuel t cs = some x) :
    ∃ (a : Option Addr) (n c : Nat) (L : List α), cs = [.slice a n c] ∧ n ≤ c ∧ RowV V (fun _ => True) w a n L ∧ L.length ≤ 140737488355328 ∧ ∀ x ∈ L, Q x := by
  rcases DataW.trod_slice ht h with ⟨rfl, _⟩ | ⟨a, len, cap, elems, rest, n, rfl, rfl, hx, hb', hl, hm, hel', hall, _⟩
  · exact ⟨none, 0, 0, [], rfl, Nat.le_refl _, RowV.nil _, by simp, fun x hx => by cases hx⟩
  have hr : reachBytes = 140737488351232 := rfl
  have hw : x.1.weights P t = (elems.length + rest.length) * P.bytesOf e :: (DataW.weightsAll P e (elems.map (·.1)) ++ DataW.weightsAll P e (rest.map (·.1))) := by
    rw [hx]
    simp only [DataW.weights, ht, List.length_map]
  rw [hw] at hz
  have hlen : len ≤ 140737488355328 := by
    have h1 := hz _ List.mem_cons_self
    have h2 : (elems.length + rest.length) * 1 ≤ (elems.length + rest.length) * P.bytesOf e := Nat.mul_le_mul (Nat.le_refl _) hb
    omega
  obtain ⟨L, hL, hq⟩ := rowV_build (V := V) (Q := Q) (w := w) (a := a) (len := len) fun i hi => by
    have hh := hall i hi
    have hei : elems[i]? = some (elems[i]'(by omega)) := List.getElem?_eq_getElem (by omega)
    rw [hei] at hh
    obtain ⟨cs', hc1, hc2⟩ := Option.bind_eq_some_iff.1 hh
    obtain ⟨_, hlen', hcell⟩ := World.cells?_some hc1
    have hwe : ∀ q ∈ (elems[i]'(by omega)).1.weights P e, q ≤ reachBytes := fun q hq => hz q (List.mem_cons_of_mem _ (List.mem_append_left _ (weightsAll_memG (List.mem_map_of_mem (List.getElem_mem (by omega))) hq)))
    obtain ⟨y, hy1, hy2⟩ := hel n cs' _ hwe hlen' hc2
    refine ⟨y, cs', hy1, hy2, fun j v hj => ?_⟩
    have hjl : j < cs'.length := (List.getElem?_eq_some_iff.1 hj).1
    rw [← hc, hcell j (by omega)]; exact hj
  exact ⟨some a, len, cap, L, rfl, hl, hL, by have := hL.1; omega, hq⟩
/- elements -/
theorem el_str {e : TypeId} (he : P.underlying e = some .string) : ∀ (n : Nat) (cs : List Value) (y : DataW H × List MemPlace), (∀ m ∈ y.1.weights P e, m ≤ reachBytes) → cs.length = P.cellsOf e → DataW.trod enc P w base sp hd n e cs = some y → ∃ x : List UInt8, x.length ≤ 140737488355328 ∧ vS.C (fun _ => True) w x cs := by
  intro n cs y hz _ h
  obtain ⟨t, e0, z0, _⟩ := DataW.trod_string he h
  have hr : reachBytes = 140737488351232 := rfl
  refine ⟨t.data.toList, ?_, e0⟩
  have := hz t.data.toList.length (by rw [z0]; simp [DataW.weights])
  omega
theorem el_sl {V : View α} {Q : α → Prop} {t e : TypeId} (ht : P.underlying t = some (.slice e)) (hc : P.cellsOf e = V.size) (hb : 0 < P.bytesOf e)
    (hel : ∀ n cs y, (∀ m ∈ y.1.weights P e, m ≤ reachBytes) → cs.length = P.cellsOf e → DataW.trod enc P w base sp hd n e cs = some y → ∃ x, Q x ∧ V.C (fun _ => True) w x cs) :
    ∀ (n : Nat) (cs : List Value) (y : DataW H × List MemPlace), (∀ m ∈ y.1.weights P t, m ≤ reachBytes) → cs.length = P.cellsOf t → DataW.trod enc P w base sp hd n t cs = some y → ∃ x : List α, (x.length ≤ 140737488355328 ∧ ∀ z ∈ x, Q z) ∧ (View.sl V).C (fun _ => True) w x cs := by
  intro n cs y hz _ h
  obtain ⟨a, m, c, L, e0, hmc, hL, hl, hq⟩ := open_slV ht hc hb hel n cs y hz h
  obtain rfl : m = L.length := hL.1
  exact ⟨L, ⟨hl, hq⟩, a, c, e0, hmc, hL⟩
end
end Go.Sh
namespace Go.Proofs.YtncjonkmhfdabaaGreat
open Go Go.Sh Go.RowKit Go.ChangeShapes Go.WideShapes Go.ChangeAt
/- what the row of this seat needs -/
theorem own : ownKnob Tryz.prog.godebug = none := by kernel_rfl
theorem laidOut : laidOutB Tryz.prog = true := by kernel_rfl
noncomputable def plainWorld (os : Os) : World := World.holding Tryz.prog os ⟨#[], #[], []⟩
theorem el_bool {H : Type} {enc : TypeId × Value → H} {P : Program} {w : World} {base : Nat} {sp : Nat → Bool} {hd : Bool} {e : TypeId} (he : P.underlying e = some .bool) : ∀ (n : Nat) (cs : List Value) (y : DataW H × List MemPlace), (∀ m ∈ y.1.weights P e, m ≤ reachBytes) → cs.length = P.cellsOf e → DataW.trod enc P w base sp hd n e cs = some y → ∃ x : Bool, True ∧ vB.C (fun _ => True) w x cs := by
  intro n cs y _ _ h
  obtain ⟨b, e0, _⟩ := DataW.trod_bool he h
  exact ⟨b, trivial, e0⟩
end Go.Proofs.YtncjonkmhfdabaaGreat
