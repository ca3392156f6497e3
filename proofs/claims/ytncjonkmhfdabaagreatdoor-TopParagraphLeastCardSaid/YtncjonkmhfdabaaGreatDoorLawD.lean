/- The contracts of the functions that the law reaches, one after the other, and at the end the law's card. -/
import Derived.Test.YtncjonkmhfdabaaGreatDoorLawC
import Derived.Lib.SliceRun
import Derived.Lib.ReplaceLaws
namespace Go.Proofs
open Go Go.Sh Go.RowKit
/- Verify -/
theorem row_ints (g : Nat → Int) : ∀ l : List Nat, (l.map fun j => Value.int .i64 (g j)) = Sh.encI.row (l.map g)
  | [] => rfl
  | x :: l => by
    rw [List.map_cons, List.map_cons, row_cons, ← row_ints g l]; rfl
theorem fC_encI (m : Nat) (g : Nat → Int) : (fC m fun j => Value.int .i64 (g j)) = Sh.encI.row ((List.range m).map g) := row_ints g _
section
variable {R : Ending → World → Prop} {S S2 : Nat → Prop} {w : World} {a a2 : Option Addr} {n c n2 c2 : Nat} {l : List It}
theorem MinI_spec {L : List Int} (h1 : RowV vI S w a n L) (hs : n ≤ 1000000000) (hne : 0 < n) (hall : ∀ x ∈ L, -1 ≤ x) (h : ∀ v : Int, -1 ≤ v → R (.returned (.int .i64 v)) w) : Calls Tryz.prog F_slices_Min_of_int_int ⟨[.slice a n c]⟩ w R := by
  apply c_slices_Min_of_int_int
  have hn := h1.1
  intro K2 hK2
  have k2 : K2 w := by
    refine hK2 w fun _ => ?_
    obtain ⟨p, hp, d⟩ := h1.int (k := 0) (by omega)
    refine hp _ ⟨_, d, ?_⟩
    refine ⟨fun v i W m => ∃ k : Nat, i = k ∧ k ≤ n ∧ m = n - k ∧ -1 ≤ v ∧ W = w, ⟨_, 1, rfl, by omega, rfl, hall _ (List.getElem_mem _), rfl⟩, ?_⟩
    rintro v _ W m ⟨k, rfl, hk, rfl, hv, rfl⟩ _
    refine br_split (fun hlt => ?_) (fun hge => h v hv)
    obtain ⟨p, hp, d⟩ := h1.int (k := k) (by omega)
    have := hall _ (List.getElem_mem (show k < L.length by omega))
    exact hp _ ⟨_, d, n - (k + 1), by omega, k + 1, by rw [wrap_nat (by omega)], by omega, rfl, by omega, rfl⟩
  exact br_split (fun g => by omega) (fun _ => k2)
theorem bestL_good {width : Int} (hI : Its l) (hp : 0 ≤ potL l width 0) : GoodB l width (bestL l width) ∧ costB l width 0 (bestL l width) = potL l width 0 ∧ brk l width 0 (bestL l width) (potL l width 0) := by
  have h := best_brk (l := l) (width := width) (l.length + 1) 0 (Nat.zero_le _) (by omega) hp
  obtain ⟨h1, h2, h3⟩ := brok_of h
  exact ⟨⟨h1, h2⟩, h3.symm, h⟩
set_option maxHeartbeats 1000000 in
set_option maxRecDepth 20000 in
theorem Verify_spec {width : Int} {bo cc : Nat} (h1 : RowV vIt S w a n l) (hcap : n ≤ c) (hT : txB l) (hW : chkW l width) (hp : 0 ≤ potL l width 0) (h2 : RowV vI S2 w a2 n2 (ofN (bestL l width))) (hs : n2 ≤ 1000000)
    (Bo : Blk w bo (fC (l.length + 1) fun j => .int .i64 (potL l width j)) 3) (h : ∀ w', Ext w w' → R (.returned (.int .i64 0)) w') :
    Calls Tryz.prog F_paragraph_Verify ⟨[.slice a n c, .int .i64 width, .slice a2 n2 c2, .slice (some ⟨bo, 0, none⟩) (l.length + 1) cc]⟩ w R := by
  apply c_paragraph_Verify
  have hn := h1.1
  subst hn
  have hI := hW.1
  have hlen := hI.len
  obtain ⟨hg, hcost, _⟩ := bestL_good hI hp
  have lo := Bo.lt
  refine al_intro fun b5 w6 hb5 B5 e5 s5 => al_intro fun b7 w8 hb7 B7 e7 s7 => ?_
  have e08 := ext_trans e5 e7
  refine Cost_spec (h1.ext e08) hcap hT (h2.ext e08) hs fun e v w10 e10 he hv => ⟨_, _, rfl, ?_⟩
  have he0 : e = 0 := he.2 ⟨hW, _, rfl, hg⟩
  subst he0
  have hv := hv _ rfl rfl
  have e010 := ext_trans e08 e10
  have B5 := (B5.ext e7).ext e10
  have B7 := B7.ext e10
  have Bo := Bo.ext e010
  have hmin : ∀ x ∈ (List.range (l.length + 1)).map (potL l width), -1 ≤ x := fun x hx => by
    obtain ⟨j, hj, rfl⟩ := List.mem_map.1 hx
    rw [List.mem_range] at hj
    exact (potL_bd hI width (by omega)).1
  have hrowP : RowV vI (fun _ => True) w10 (some ⟨bo, 0, none⟩) (l.length + 1) ((List.range (l.length + 1)).map (potL l width)) := by
    rw [fC_encI] at Bo
    exact rowI_b Bo (by simp)
  refine br_neg (by decide) ?_
  intro K15 hK15
  have k15 : K15 w10 := by
    refine hK15 w10 fun _ => ⟨_, _, _, b0_cell B5, ?_⟩
    refine ⟨fun i ds W m => ∃ (k : Nat) (Dl : List Nat), i = k ∧ k ≤ l.length + 1 ∧ m = l.length + 1 - k ∧ ds = marks Dl ∧ DefA w10 W Dl ∧ Ext w10 W, ⟨_, 0, [], rfl, by omega, rfl, rfl, ⟨List.nodup_nil, fun D hD => by cases hD⟩, Below.refl _ _⟩, ?_⟩
    rintro _ _ W m ⟨k, Dl, rfl, hk, rfl, rfl, hD, eW⟩ _
    have zW := eW.size
    have z10 := e010.size
    have l5 := B5.lt
    have l7 := B7.lt
    refine br_split (fun hlt => ?_) (fun hge => ?_)
    · have hkl : k ≤ l.length := by omega
      have BoW := Bo.ext eW
      refine idx_b1 (by omega) ⟨_, by rw [BoW.cell, fC_get (by omega)], ?_⟩
      refine al_stL rfl (by intro v hv; simp only [List.mem_singleton] at hv; subst hv; rfl) fun b26 w28 hb26 B26 e28 s28 => ?_
      apply c_paragraph_lines
      refine al_intro fun b4 wa hb4 B4 ea sa => al_intro fun b6 wb hb6 B6 eb sb => al_intro fun b8 w82 hb8 B8 ec sc => ⟨_, _, _, rfl, fun base => ?_⟩
      have eW82 := ext_trans e28 (ext_trans ea (ext_trans eb ec))
      have e1082 := ext_trans eW eW82
      have e082 := ext_trans e010 e1082
      have za := ea.size
      have zb := eb.size
      have zc := ec.size
      have z28 := e28.size
      have B26 := B26.ext (ext_trans ea (ext_trans eb ec))
      have B582 := B5.ext e1082
      have Bo82 := Bo.ext e1082
      have hD := hD.ext eW82
      rw [cd_paragraph_Verify_1]
      refine RFw_lawO anA_paragraph_Verify_1 anB_paragraph_Verify_1 (gf := F_paragraph_lines_1) rfl (by kernel_rfl) (xs := linesF l width k) (E := LnE) (Rd := fun k => k = b4 ∨ k = b6 ∨ k = b8 ∨ (S k ∧ k < w.heap.size))
        (fun w1 hw1 => ?_) (fun y vs hE => by rw [show vs = _ from hE]; rfl) (by decide) (fun k hk => by rcases hk with rfl | rfl | rfl | hk <;> omega)
        (fun _ => False) (fun k hk => hk.elim) (fun pre S1 V => (∀ k, ¬ S1 k) ∧ Ext w82 V) (fun _ _ => False) (fun _ _ => False) ?_ (fun _ _ _ h => h.elim) (fun _ _ _ h => h.elim) ⟨fun k hk => hk, Below.refl _ _⟩ ?_ ?_ (fun _ _ _ _ _ _ _ h => h.elim) (fun _ _ _ _ _ _ _ h => h.elim)
      · have eq : (fun k => k = b4 ∨ k = b6 ∨ k = b8 ∨ ((S k ∧ k < w.heap.size) ∧ k < w1.heap.size)) = (fun k => k = b4 ∨ k = b6 ∨ k = b8 ∨ (S k ∧ k < w.heap.size)) := by
          funext k
          have := hw1.size
          have := e082.size
          exact propext ⟨fun hh => hh.imp id (fun q => q.imp id (fun q => q.imp id (fun t => t.1))), fun hh => hh.imp id (fun q => q.imp id (fun q => q.imp id (fun t => ⟨t, by omega⟩)))⟩
        have := lines_iterO (w := w1) (S := fun k => S k ∧ k < w.heap.size) (((h1.imp (S' := fun k => S k ∧ k < w.heap.size) fun k hk hl => ⟨hk, hl⟩).ext e082).ext hw1) hI hW.2 hkl ((B4.ext (ext_trans eb ec)).ext hw1) (B8.ext hw1) ((B6.ext ec).ext hw1)
        rw [eq] at this; exact this
      · rintro pre S1 V V' ⟨i1, i2⟩ hc
        exact ⟨i1, ext_chgS i2 hc fun k hk => hk.1⟩
      · rintro pre x vs S1 V L hE hpre hl1 hl2 hl3 hS1 ⟨i1, i2⟩
        obtain rfl : vs = [.int .i64 x.1, .int .i64 x.2] := hE
        have hxm : x ∈ linesF l width k := mem_of_prefix hpre
        have hL := (linesF_iff l width hkl x).1 hxm
        have hnn := hL.nn (its_pen hI)
        refine Eq.mpr (er_paragraph_Verify_1 base _ _ _ _ _ _ _ _ _ _ _ _ _ _ _ _ _ _ _ _ _ _) ?_
        refine ⟨Below.refl _ _, fun V2 hU => ?_⟩
        have zU := hU.size
        have hUc : Chg (fun k => k = L) V V2 := ⟨hU.os, hU.tape, hU.output, by omega, fun k _ hk => hU.block k hk⟩
        have e2 : Ext w82 V2 := ext_chgS i2 hUc fun k hk => by omega
        have kn : Chg (fun k => S1 k ∨ V.heap.size ≤ k) V2 V2 ∧ ∃ S' : Nat → Prop, (∀ k, S' k → (S1 k ∨ V.heap.size ≤ k) ∧ k < V2.heap.size) ∧ ((∀ k, ¬ S' k) ∧ Ext w82 V2) :=
          ⟨Chg.refl _ _, S1, fun k hk => absurd hk (i1 k), i1, e2⟩
        refine dr_ok ⟨_, _, _, b0_cell (B582.ext e2), behind_spec (Bo82.ext e2) (by omega) hL.hi ⟨_, rfl, ?_⟩⟩
        have hbd := behF_bd hI width hL.hi
        have hbk := potL_bd hI width hkl
        refine br_split (fun g1 => ?_) (fun _ => kn)
        obtain ⟨q1, q2⟩ := potL_le (its_pen hI) hL g1
        refine dr_ok ⟨_, b0_cell (B26.ext e2), br_split (fun g2 => by omega) (fun _ => dr_ok ⟨_, b0_cell (B26.ext e2), ?_⟩)⟩
        rw [wrap_id (by omega)]
        exact br_split (fun g3 => by omega) (fun _ => kn)
      · rintro D S1 V hD1 hD2' hD3 hD4 ⟨i1, i2⟩
        have z2 := i2.size
        refine ⟨l.length + 1 - (k + 1), by omega, k + 1, D :: Dl, by rw [wrap_nat (by omega)], by omega, rfl, rfl, (hD.ext i2).cons ⟨by omega, by omega, hD4⟩ fun hm => ?_, ext_trans e1082 i2⟩
        have := (hD.at_ D hm).2.1
        omega
    · have B7W := B7.ext eW
      refine stL_one B7W rfl fun w41 B41 c41 s41 => ?_
      have hD41 := hD.chg B7W c41
      refine retD_marks Dl w41 hD41.nd (fun D hm => (hD41.at_ D hm).2.2) fun W' hc => ?_
      refine ⟨_, b0_cell (hc.blk B41 (hD41.ne B41)), ?_⟩
      have z7' := e5.size
      refine h W' (ext_chgS (ext_chgS (ext_trans e010 eW) c41 fun k hk => by omega) hc fun k hk => by have := (hD41.at_ k hk).1; omega)
  refine ⟨_, _, _, b0_cell B5, ?_⟩
  rw [wrap_nat (by omega)]
  refine br_neg (by simp) ⟨_, _, _, b0_cell B5, MinI_spec hrowP (by omega) (by omega) hmin fun v2 hv2 => ⟨_, rfl, br_neg (by omega) ⟨_, _, _, b0_cell B5, idx_b1 (j := 0) (by omega) ⟨_, by rw [Bo.cell, fC_get (by omega)], br_neg (by rw [hv, hcost]; simp) k15⟩⟩⟩⟩
end
end Go.Proofs
namespace Go.Proofs
open Go Go.Sh Go.RowKit
/- charset.Clusters -/
theorem slT_s : SlT Tryz.prog 23 9 1 16 (.string ⟨⟨[]⟩⟩) := ⟨by kernel_rfl, by kernel_rfl, rfl, by decide⟩
theorem clusters_iterO (s : List UInt8) (hs : s.length ≤ 9223372036854775805) (b : Nat) (w : World) (hb : Blk w b [.string ⟨⟨s⟩⟩] 9) :
    IterO Tryz.prog F_charset_clusters_1 [.pointer (some ⟨b, 0, none⟩)] (clustersF s) (fun p vs => vs = clEnc p) (· = b) w := by
  intro yf ya yb S0 J Jx R hS0 hJ hJx hbody h0 hend hstop
  have nS0 : ¬ S0 b := fun h => (hS0 b h).2 rfl
  have lb := hb.lt
  apply c_charset_clusters_1
  refine ⟨fun f i W m => ∃ (f' k : Nat) (S1 : Nat → Prop) (pre : List (Nat × List UInt8)), f = f' ∧ i = k ∧ 1 ≤ k ∧ k ≤ s.length + 1 ∧ f' < k ∧ m = s.length + 1 - k ∧ pre ++ clGo s m f' k = clustersF s ∧ J pre S1 W ∧
      Chg (fun k => S0 k ∨ w.heap.size ≤ k) w W ∧ (∀ k, S1 k → (S0 k ∨ w.heap.size ≤ k) ∧ k < W.heap.size), ⟨s.length, 0, 1, S0, [], rfl, rfl, by omega, by omega, by omega, by omega, rfl, h0, Chg.refl _ _, fun k hk => ⟨.inl hk, (hS0 k hk).1⟩⟩, ?_⟩
  rintro f i W m ⟨f, k, S1, pre, rfl, rfl, hk1, hk2, hfk, hm, hpre, hj, hc, hS1⟩ _
  have hsz := hc.size
  have hB : Blk W b [.string ⟨⟨s⟩⟩] 9 := hc.blk hb fun hh => hh.elim nS0 (fun q => by omega)
  refine dr_ok ⟨s, hB.cell 0, ?_⟩
  refine br_split (fun hle => ?_) (fun hgt => ?_)
  · have hle' : k ≤ s.length := by omega
    obtain ⟨m, rfl⟩ : ∃ m', m = m' + 1 := ⟨m - 1, by omega⟩
    have hff : s[f]? = some (s[f]'(by omega)) := by simp
    intro K hK
    have hcl : ¬ (k < s.length ∧ (s[k]?.map kd) = some 2 ∧ (s[f]?.map kd) = some 1) → K W := by
      intro hn
      refine hK W fun _ => ?_
      refine dr_ok ⟨s, hB.cell 0, ssl_nat (by omega) hle' ?_⟩
      rw [clGo, if_neg hn] at hpre
      refine (CallV_mono (hbody pre (f, (s.take k).drop f) _ S1 W rfl ⟨clGo s m k (k + 1), by rw [← hpre]; simp⟩ hsz (fun j hj' => ⟨(hS1 j hj').2, fun hh => ?_⟩) hj) ?_)
      · have hh : j = b := hh
        subst hh
        exact (hS1 _ hj').1.elim nS0 (fun q => by omega)
      · rintro e W' ⟨hcb, S', hS', hres⟩
        have zb := hcb.size
        have hc' : Chg (fun k => S0 k ∨ w.heap.size ≤ k) w W' := hc.trans (hcb.mono fun j _ hj' => (hS1 j hj').1)
        rcases hres with ⟨rfl, hj'⟩ | ⟨rfl, hx'⟩
        · refine ⟨true, rfl, ?_⟩
          rw [wrap_id (by omega)]
          refine ⟨m, by omega, k, k + 1, S', pre ++ [(f, (s.take k).drop f)], rfl, by simp, by omega, by omega, by omega, by omega, by rw [← hpre]; simp, hj', hc', fun j hj'' => ⟨?_, (hS' j hj'').2⟩⟩
          exact (hS' j hj'').1.elim (fun q => (hS1 j q).1) (fun q => .inr (by omega))
        · exact ⟨false, rfl, hstop S' W' (by omega) hx'⟩
    refine dr_ok ⟨s, hB.cell 0, br_split (fun hlt => ?_) (fun hge => ?_)⟩
    · have hlt' : k < s.length := by omega
      have hkk : s[k]? = some (s[k]'hlt') := by simp
      refine dr_ok ⟨s, hB.cell 0, sidx_nat hlt' (Kind_spec _ ⟨_, rfl, br_split (fun h2 => ?_) (fun h2 => ?_)⟩)⟩
      · refine dr_ok ⟨s, hB.cell 0, right_spec s f k (by omega) ⟨_, rfl, ?_⟩⟩
        refine br_split (fun h3 => ?_) (fun h3 => ?_)
        · rw [wrap_id (by omega)]
          rw [clGo, if_pos ⟨hlt', by rw [hkk]; simp [h2], by rw [hff]; simp [h3.1]⟩] at hpre
          exact ⟨m, by omega, f, k + 1, S1, pre, rfl, by simp, by omega, by omega, by omega, by omega, hpre, hj, hc, hS1⟩
        · refine hcl fun ⟨_, _, h4⟩ => h3 ⟨?_, hfk⟩
          rw [hff] at h4; simpa using h4
      · refine hcl fun ⟨_, h4, _⟩ => h2 ?_
        rw [hkk] at h4; simpa using h4
    · exact hcl fun ⟨h4, _⟩ => hge (by omega)
  · have : m = 0 := by omega
    subst this
    simp only [clGo, List.append_nil] at hpre
    subst hpre
    exact hend S1 W hsz hj
section
variable {R : Ending → World → Prop} {S : Nat → Prop} {w : World}
theorem clustersF_len (s : List UInt8) : (clustersF s).length ≤ s.length := by
  rw [show (clustersF s).length = ((clustersF s).map (·.2)).length by simp, clusters_clS]
  show clN s ≤ s.length
  rw [clN_cnt]
  have : ∀ (t : List UInt8) (b : Bool), cntB b t ≤ t.length := by
    intro t
    induction t with
    | nil => intro b; exact Nat.le_refl _
    | cons x t ih =>
      intro b
      rw [cntB, List.length_cons]
      split
      · have := ih b; omega
      · have := ih (decide (kd x = 1)); omega
  exact this s false
set_option maxRecDepth 20000 in
theorem Clusters_spec (s : List UInt8) (hs : s.length ≤ 1000000) (h : ∀ (oa : Option Addr) (on oc : Nat) w', Ext w w' → on ≤ oc → RowV vS (fun k => w.heap.size ≤ k) w' oa on (clS s) → R (.returned (.slice oa on oc)) w') : Calls Tryz.prog F_charset_Clusters ⟨[.string ⟨⟨s⟩⟩]⟩ w R := by
  apply c_charset_Clusters
  refine al_intro fun b2 w3 hb2 B2 e3 s3 => ?_
  refine clusters_spec s fun bs w5 hbs e5 hbe => ⟨_, _, _, rfl, fun base => ?_⟩
  have l2 := B2.lt
  have B25 := B2.ext e5
  have z5 := e5.size
  have ls := hbs.lt
  have hlen := clustersF_len s
  rw [cd_charset_Clusters_1]
  refine RFw_lawO anA_charset_Clusters_1 anB_charset_Clusters_1 (gf := F_charset_clusters_1) rfl (by kernel_rfl) (xs := clustersF s) (E := fun p vs => vs = clEnc p) (Rd := (· = bs))
    (fun w1 hw1 => clusters_iterO s (by omega) bs w1 (hbs.ext hw1)) (fun y vs hE => by rw [show vs = _ from hE]; rfl) (by decide) (fun k hk => by have hk : k = bs := hk; omega)
    (fun k => k = b2) (fun k hk => ⟨by omega, fun hh => by have hh : k = bs := hh; omega⟩)
    (fun pre S1 V => ∃ (oa : Option Addr) (oc : Nat), (∀ k, S1 k ↔ (k = b2 ∨ bk oa k)) ∧ Chg (fun k => k = b2) w5 V ∧ Blk V b2 [.slice oa pre.length oc] 23 ∧ OwnL Sh.encStr V w5.heap.size 9 oa pre.length oc (pre.map (·.2)))
    (fun _ _ => False) (fun _ _ => False) ?_ (fun _ _ _ h => h.elim) (fun _ _ _ h => h.elim) ⟨none, 0, fun k => ⟨.inl, fun q => q.elim id (fun q => by cases q)⟩, Chg.refl _ _, B25, Owns.nil _ _ 9 1⟩ ?_ ?_ (fun _ _ _ _ _ _ _ h => h.elim) (fun _ _ _ _ _ _ _ h => h.elim)
  · rintro pre S1 V V' ⟨oa, oc, i1, i2, i3, i4⟩ hc
    exact ⟨oa, oc, i1, chgT i2 hc fun k hk hh => by omega, hc.blk i3 fun hh => hh.2 ((i1 _).2 (.inl rfl)), Owns.chg i4 hc fun k hk hh => hh.2 ((i1 k).2 (.inr hk))⟩
  · rintro pre y vs S1 V L hE hpre hl1 hl2 hl3 hS1 ⟨oa, oc, i1, i2, i3, i4⟩
    obtain rfl : vs = clEnc y := hE
    obtain ⟨f, t⟩ := y
    refine Eq.mpr (er_charset_Clusters_1 base _ _ _ _ _ _ _ _ _ _ _ _ _ _) ?_
    refine ⟨Below.refl _ _, fun V2 hU => ?_⟩
    have zU := hU.size
    have zi := i2.size
    have hUc : Chg (fun k => k = L) V V2 := ⟨hU.os, hU.tape, hU.output, by omega, fun k _ hk => hU.block k hk⟩
    have hnL : ∀ k, S1 k → ¬ k = L := fun k hk e => hl3 (e ▸ hk)
    have c2 : Chg (fun k => k = b2) w5 V2 := chgT i2 hUc fun k hk hh => by omega
    have B2V := hUc.blk i3 (hnL _ ((i1 _).2 (.inl rfl)))
    have hOV := Owns.chg i4 hUc fun k hk => hnL _ ((i1 _).2 (.inr hk))
    have hpl : pre.length + 1 ≤ 1000000 := by
      have := hpre.length_le
      rw [List.length_append] at this
      have h1 : [((f, t) : Nat × List UInt8)].length = 1 := rfl
      omega
    refine dr_ok ⟨_, _, _, b0_cell B2V, ?_⟩
    refine OwnL.push (E := Sh.encStr) slT_s hOV (by omega) t (by omega) (by omega) fun a' c' w26 ho hcc hn' => dr_ok ?_
    have z26 := hcc.size
    have hbko : ∀ k, bk oa k → w5.heap.size ≤ k ∧ k < V2.heap.size := fun k hk => Owns.bk hOV hk
    have B226 := hcc.blk B2V fun hh => by have := hbko _ hh; omega
    refine stL_one B226 rfl fun w27 C27 c27 s27 => ?_
    have hbk' : ∀ k, bk a' k → w5.heap.size ≤ k ∧ k < w26.heap.size := fun k hk => Owns.bk ho hk
    have hc2 : Chg (fun k => S1 k ∨ V.heap.size ≤ k) V2 w27 := (hcc.mono fun k _ hk => .inl ((i1 k).2 (.inr hk))).trans (c27.mono fun k _ hk => .inl ((i1 k).2 (.inl hk)))
    refine ⟨hc2, fun k => k = b2 ∨ bk a' k, fun k hk => ?_, a', c', fun k => Iff.rfl, chgT (chgT c2 hcc fun k hk hh => by have := hbko _ hh; omega) c27 fun k _ hk => hk, ?_, ?_⟩
    · rcases hk with hk | hk
      · exact ⟨.inl ((i1 k).2 (.inl hk)), by omega⟩
      · have := (hbk' k hk).2
        exact ⟨(hn' k hk).imp (fun q => (i1 k).2 (.inr q)) (fun q => by omega), by omega⟩
    · rw [List.length_append]; exact C27
    · rw [List.length_append, List.map_append]
      exact Owns.chg ho c27 fun k hk hh => by have := (hbk' k hk).1; omega
  · rintro D S1 V hD1 hD2 hD3 hD4 ⟨oa, oc, i1, i2, i3, i4⟩
    refine ⟨_, _, _, b0_cell i3, ?_⟩
    have zi := i2.size
    refine retD_one hD4 ?_
    have hcap : (clustersF s).length ≤ oc := ((ownV_enc (S := fun _ => True)).2 i4).cap
    have hrow : RowV vS (fun k => bk oa k) V oa (clustersF s).length (clS s) := by
      have := rowV_enc.2 (OwnL.out i4)
      rw [clusters_clS] at this
      exact this
    have hput : Chg (fun k => k = D) V (V.putObj D (.deferred none)) := Chg.put V D _ rfl
    refine h oa _ oc _ (ext_put (ext_chgS (ext_trans e3 e5) i2 fun k hk => by omega) (by have := e3.size; omega) _) hcap ?_
    refine (hrow.chg hput fun k hk hl hh => ?_).imp fun k hk _ => by have := (Owns.bk i4 hk).1; have := e3.size; omega
    obtain ⟨cs, hcs⟩ := own_blk i4 hk
    have hh : k = D := hh
    subst hh
    rw [show V.heap[k]? = _ from hcs] at hD4; cases hD4
theorem units_spec (s : List UInt8) (hs : s.length ≤ 1000000) (h : ∀ (oa : Option Addr) (on oc : Nat) w', Ext w w' → on ≤ oc → RowV vS (fun k => w.heap.size ≤ k) w' oa on (clS s) → R (.returned (.slice oa on oc)) w') : Calls Tryz.prog F_hyphenation_units ⟨[.string ⟨⟨s⟩⟩]⟩ w R := by
  apply c_hyphenation_units
  exact Clusters_spec s hs fun oa on oc w' e' hc hr => ⟨_, _, _, rfl, h oa on oc w' e' hc hr⟩
end
end Go.Proofs
namespace Go.Proofs
open Go Go.Sh Go.RowKit

/- the bytes of a string, as the conversion lays them: unfrozen up to the row's end -/
def BBk (w : World) (b : Nat) (cs : List Value) : Prop := w.heap[b]? = some (.cells ⟨cs⟩ 5 (cs.length, cs.length + 1))
theorem BBk.cell {w : World} {b : Nat} {cs : List Value} (h : BBk w b cs) (i : Nat) : w.cell? ⟨b, i, none⟩ = cs[i]? := by
  simp [World.cell?, show w.heap[b]? = _ from h]
theorem BBk.lt {w : World} {b : Nat} {cs : List Value} (h : BBk w b cs) : b < w.heap.size := (Array.getElem?_eq_some_iff.1 h).1
theorem BBk.frozen {w : World} {b : Nat} {cs : List Value} (h : BBk w b cs) {i : Nat} (hi : i < cs.length) : w.frozen? ⟨b, i, none⟩ = false := by
  simp [World.frozen?, show w.heap[b]? = _ from h]
  omega
theorem BBk.set {w : World} {b : Nat} {cs : List Value} (h : BBk w b cs) (i : Nat) (v : Value) : BBk (w.setCell ⟨b, i, none⟩ v) b (cs.set i v) := by
  unfold BBk at *
  simp [World.setCell, Array.getElem?_modify, h]
theorem BBk.ext {w w' : World} {b : Nat} {cs : List Value} (h : BBk w b cs) (e : Ext w w') : BBk w' b cs := by
  have := e.block b h.lt
  unfold BBk at *
  rw [this]; exact h
theorem st_bbk {w : World} {b : Nat} {cs : List Value} {i : Nat} {v : Value} (h : BBk w b cs) (hi : i < cs.length) (ho : v.oneCell' = true) {K : World → Prop} (hk : ∀ w', BBk w' b (cs.set i v) → Chg (fun k => k = b) w w' → K w') : stL w ⟨b, i, none⟩ 0 [v] K := by
  refine ⟨?_, ?_, ho, ?_⟩
  · rw [add_none, Nat.add_zero, h.cell]; exact ⟨cs[i], by simp [hi]⟩
  · rw [add_none, Nat.add_zero]; exact h.frozen hi
  · rw [add_none, Nat.add_zero]
    refine hk _ (h.set i v) ⟨rfl, rfl, rfl, by simp, fun k _ hkb => ?_⟩
    simp only [World.setCell, Array.getElem?_modify]
    rw [if_neg (fun e => hkb e.symm)]
theorem s2b_row {w : World} {l : List UInt8} {K : Option Addr → Nat → Nat → World → Prop}
    (h : ∀ w' zs, BBk w' w.heap.size (Lib.byteCells l ++ zs) → Ext w w' → K (some ⟨w.heap.size, 0, none⟩) l.length (l.length + zs.length) w') : s2b Tryz.prog w 5 l K := by
  have hsh : ∀ c : Array Value, (w.drew.alloc (.cells c 5)).shape? w.heap.size = some (5, c.size) := by
    intro c
    simp [World.shape?, World.alloc, World.drew, -World.alloc_eq, -World.drew_eq]
  have hg := Lib.bytesWorld_at_new w 5 ⟨⟨l⟩⟩
  have hcs : Lib.bytesCells w 5 ⟨⟨l⟩⟩ = ⟨Lib.byteCells l ++ List.replicate (grownCap w l.length 0 5 - l.length) (.int .u8 0)⟩ := by
    unfold Lib.bytesCells Lib.byteCells
    simp [ByteArray.size]
  have hgc : l.length ≤ grownCap w l.length 0 5 := by
    exact grownCap_ge w _ _ _
  refine ⟨some ⟨w.heap.size, 0, none⟩, l.length, grownCap w l.length 0 5, Lib.bytesWorld w 5 ⟨⟨l⟩⟩, ?_, ?_⟩
  · have := hsh
    simp [Conv.stringToBytes, newRow, markStringish, Question.forced, Lib.bytesWorld, Lib.bytesCells, grownCap, hsh, Result.andThen, ByteArray.size]
  · have h2 := h (Lib.bytesWorld w 5 ⟨⟨l⟩⟩) (List.replicate (grownCap w l.length 0 5 - l.length) (.int .u8 0)) (by
      unfold BBk
      rw [hg, hcs]; rfl) ⟨rfl, rfl, rfl, by rw [Lib.bytesWorld_size]; omega, fun k hk => Lib.bytesWorld_at_old w 5 _ k hk⟩
    rw [List.length_replicate, show l.length + (grownCap w l.length 0 5 - l.length) = grownCap w l.length 0 5 by omega] at h2
    exact h2
theorem b2s_cells {w : World} {b c : Nat} {l : List UInt8} {K : List UInt8 → Prop} (h : ∀ j (hj : j < l.length), w.cell? ⟨b, j, none⟩ = some (.int .u8 (l[j].toNat : Int))) (hK : K l) : b2s Tryz.prog w (some ⟨b, 0, none⟩) l.length c K := by
  refine ⟨l, ?_, hK⟩
  have := run_convert_bytes_back (P := Tryz.prog) w 158 9 5 ⟨b, 0, none⟩ c l (by kernel_rfl) (by kernel_rfl) (by kernel_rfl) (fun j hj => by rw [add_none, Nat.zero_add]; exact h j hj)
  rw [run_convert_bytes_string w 158 9 5 _ _ _ (by kernel_rfl) (by kernel_rfl) (by kernel_rfl)] at this
  exact this
theorem byteR_set (A D : List UInt8) (c d : UInt8) (zs : List Value) : (Lib.byteCells (A ++ c :: D) ++ zs).set A.length (.int .u8 (d.toNat : Int)) = Lib.byteCells (A ++ d :: D) ++ zs := by
  simp [Lib.byteCells, List.set_append]
theorem byteR_at (A D : List UInt8) (c : UInt8) (zs : List Value) : (Lib.byteCells (A ++ c :: D) ++ zs)[A.length]? = some (.int .u8 (c.toNat : Int)) := by
  simp [Lib.byteCells]
theorem byte_row {w : World} {b : Nat} {l : List UInt8} {zs : List Value} (h : BBk w b (Lib.byteCells l ++ zs)) : ∀ j (hj : j < l.length), w.cell? ⟨b, j, none⟩ = some (.int .u8 (l[j].toNat : Int)) := by
  intro j hj
  rw [h.cell, List.getElem?_append_left (by simpa [Lib.byteCells] using hj)]
  simp [Lib.byteCells, hj]
theorem idx_row {b n k : Nat} (hk : k < n) {K : Addr → Prop} (h : K ⟨b, k, none⟩) : idx (some ⟨b, 0, none⟩) n (k : Int) 1 K := by
  refine ⟨by omega, by omega, ?_⟩
  show K _
  rw [add_none, Int.toNat_natCast, Nat.mul_one, Nat.zero_add]; exact h
/- lower case -/
def lowC (c : UInt8) : UInt8 := if 65 ≤ c.toNat ∧ c.toNat ≤ 90 then UInt8.ofNat (c.toNat + 32) else c
theorem low_wrap {c : UInt8} (h : 65 ≤ c.toNat ∧ c.toNat ≤ 90) : IntKind.u8.wrap (IntKind.u8.wrap ((c.toNat : Int) - 65) + 97) = ((lowC c).toNat : Int) := by
  have e : (lowC c).toNat = c.toNat + 32 := by
    unfold lowC
    rw [if_pos h, UInt8.toNat_ofNat']
    omega
  rw [e]
  have w1 : ∀ n : Int, 0 ≤ n → n < 256 → IntKind.u8.wrap n = n := fun n h0 h1 => by
    simp [IntKind.wrap, IntKind.signed, IntKind.bits]
    omega
  rw [w1 ((c.toNat : Int) - 65) (by omega) (by omega), w1 _ (by omega) (by omega)]
  omega
section
variable {R : Ending → World → Prop} {w : World}
set_option maxRecDepth 20000 in
theorem Fold_spec (s : List UInt8) (hs : s.length ≤ 1000000000) (h : ∀ w', Ext w w' → R (.returned (.string ⟨⟨s.map lowC⟩⟩)) w') : Calls Tryz.prog F_charset_Fold ⟨[.string ⟨⟨s⟩⟩]⟩ w R := by
  apply c_charset_Fold
  refine s2b_row fun w3 zs B3 e3 => ?_
  refine ⟨fun i W m => ∃ k : Nat, i = k ∧ k ≤ s.length ∧ m = s.length - k ∧ BBk W w.heap.size (Lib.byteCells ((s.take k).map lowC ++ s.drop k) ++ zs) ∧ Ext w W, ⟨_, 0, rfl, by omega, rfl, by simpa using B3, e3⟩, ?_⟩
  rintro _ W m ⟨k, rfl, hk, rfl, hB, eW⟩ _
  refine br_split (fun hlt => ?_) (fun hge => ?_)
  · have hkl : k < s.length := by omega
    have hA : ((s.take k).map lowC).length = k := by simp; omega
    have hd : s.drop k = s[k] :: s.drop (k + 1) := List.drop_eq_getElem_cons hkl
    have ht : (s.take (k + 1)).map lowC = (s.take k).map lowC ++ [lowC s[k]] := by rw [List.take_succ_eq_append_getElem hkl, List.map_append]; rfl
    rw [hd] at hB
    have hcell : W.cell? ⟨w.heap.size, k, none⟩ = some (.int .u8 (s[k].toNat : Int)) := by
      rw [hB.cell]
      have := byteR_at ((s.take k).map lowC) (s.drop (k + 1)) s[k] zs
      rw [hA] at this; exact this
    refine idx_row hkl ⟨_, hcell, ?_⟩
    intro K11 hK11
    have next : ∀ v, BBk v w.heap.size (Lib.byteCells ((s.take (k + 1)).map lowC ++ s.drop (k + 1)) ++ zs) → Ext w v → ∃ m', m' < s.length - k ∧ ∃ k' : Nat, IntKind.i64.wrap ((k : Int) + 1) = k' ∧ k' ≤ s.length ∧ m' = s.length - k' ∧ BBk v w.heap.size (Lib.byteCells ((s.take k').map lowC ++ s.drop k') ++ zs) ∧ Ext w v := fun v hb he =>
      ⟨s.length - (k + 1), by omega, k + 1, by rw [wrap_nat (by omega)], by omega, rfl, hb, he⟩
    have kt : (65 ≤ s[k].toNat ∧ s[k].toNat ≤ 90) → K11 true W := fun hc => by
      refine hK11 _ _ fun _ => ?_
      simp only [br_t]
      refine idx_row hkl ?_
      rw [low_wrap hc]
      refine st_bbk hB (by simp [Lib.byteCells]; omega) rfl fun v hv cv => next v ?_ (ext_chgS eW cv fun j hj => by omega)
      have := byteR_set ((s.take k).map lowC) (s.drop (k + 1)) s[k] (lowC s[k]) zs
      rw [hA] at this
      rw [this] at hv
      rw [ht, List.append_assoc]
      exact hv
    have kf : ¬ (65 ≤ s[k].toNat ∧ s[k].toNat ≤ 90) → K11 false W := fun hc => by
      refine hK11 _ _ fun _ => ?_
      simp only [br_f]
      refine next W ?_ eW
      have e : lowC s[k] = s[k] := by unfold lowC; rw [if_neg hc]
      rw [ht, e, List.append_assoc]
      exact hB
    refine br_split (fun g1 => ?_) (fun g1 => kf (by omega))
    by_cases g2 : s[k].toNat ≤ 90
    · rw [decide_eq_true (by omega)]; exact kt (by omega)
    · rw [decide_eq_false (by omega)]; exact kf (by omega)
  · have hkn : k = s.length := by omega
    subst hkn
    rw [List.take_length, List.drop_length, List.append_nil] at hB
    have hl : (s.map lowC).length = s.length := by simp
    rw [← hl]
    exact b2s_cells (byte_row hB) (h W eW)
end
theorem low_fin : ∀ n : Nat, n < 256 → (kd (lowC (UInt8.ofNat n)) = 1 ↔ kd (UInt8.ofNat n) = 1) ∧ (kd (lowC (UInt8.ofNat n)) = 2 ↔ kd (UInt8.ofNat n) = 2) := by decide +kernel
theorem low_kd (c : UInt8) : (kd (lowC c) = 1 ↔ kd c = 1) ∧ (kd (lowC c) = 2 ↔ kd c = 2) := by
  have := low_fin c.toNat c.toNat_lt
  rwa [UInt8.ofNat_toNat] at this
theorem low_clN (s : List UInt8) : clN (s.map lowC) = clN s := clN_map (fun c => (low_kd c).1) (fun c => (low_kd c).2) s
theorem folded_spec {R : Ending → World → Prop} {w : World} (s : List UInt8) (hs : s.length ≤ 1000000) (h : ∀ (oa : Option Addr) (on oc : Nat) w', Ext w w' → on ≤ oc → RowV vS (fun k => w.heap.size ≤ k) w' oa on (clS (s.map lowC)) → R (.returned (.slice oa on oc)) w') : Calls Tryz.prog F_hyphenation_folded ⟨[.string ⟨⟨s⟩⟩]⟩ w R := by
  apply c_hyphenation_folded
  refine Fold_spec s (by omega) fun w3 e3 => ⟨_, rfl, ?_⟩
  refine units_spec _ (by rw [List.length_map]; exact hs) fun oa on oc w' e' hc hr => ⟨_, _, _, rfl, h oa on oc w' (ext_trans e3 e') hc (hr.imp fun k hk _ => Nat.le_trans e3.size hk)⟩
end Go.Proofs
namespace Go.Proofs
open Go Go.Sh Go.RowKit
/- hyphenation: where a pattern occurs -/
section
variable {R : Ending → World → Prop} {S S2 : Nat → Prop} {w : World}
theorem EqualS_spec {a b : Option Addr} {n c m d : Nat} {L M : List (List UInt8)} (h1 : RowV vS S w a n L) (h2 : RowV vS S2 w b m M) (hs : n ≤ 4611686018427387904) (h : ∀ w', Ext w w' → R (.returned (.bool (decide (L = M)))) w') :
    Calls Tryz.prog F_slices_Equal_of_string_string ⟨[.slice a n c, .slice b m d]⟩ w R := by
  apply c_slices_Equal_of_string_string
  have hn := h1.1
  have hm := h2.1
  refine br_split (fun g => ?_) (fun g => ?_)
  · have := h w (Below.refl _ _)
    rw [decide_eq_false (fun hh => g (by rw [hh] at hn; omega))] at this; exact this
  refine ⟨fun i W m' => ∃ k : Nat, i = k ∧ k ≤ n ∧ m' = n - k ∧ L.take k = M.take k ∧ Ext w W, ⟨_, 0, rfl, by omega, rfl, rfl, Below.refl _ _⟩, ?_⟩
  rintro _ W m' ⟨k, rfl, hk, rfl, he, eW⟩ _
  refine br_split (fun hlt => ?_) (fun hge => ?_)
  · have hkL : k < L.length := by omega
    have hkM : k < M.length := by omega
    unfold drw
    have ed := ext_trans eW (ext_drew W)
    generalize W.drew = V at *
    obtain ⟨p, hp, d1⟩ := (h1.ext ed).str hkL
    obtain ⟨q, hq, d2⟩ := (h2.ext ed).str hkM
    refine hp _ ⟨_, d1, hq _ ⟨_, d2, br_split (fun g2 => ?_) (fun g2 => ?_)⟩⟩
    · have := h V ed
      rw [decide_eq_false (fun hh => g2 (by subst hh; rfl))] at this; exact this
    · refine ⟨n - (k + 1), by omega, k + 1, by rw [wrap_nat (by omega)], by omega, rfl, ?_, ed⟩
      rw [take_s hkL, take_s hkM, he, Decidable.not_not.1 g2]
  · rw [List.take_of_length_le (by omega), List.take_of_length_le (by omega)] at he
    have := h W eW
    rw [decide_eq_true he] at this; exact this
end
def posG (pat l : List (List UInt8)) : Nat → Nat → List Nat
  | 0, _ => []
  | n + 1, i => (if (l.drop i).take pat.length = pat then [i] else []) ++ posG pat l n (i + 1)
theorem posG_mem {pat l : List (List UInt8)} : ∀ {n s i : Nat}, i ∈ posG pat l n s → s ≤ i ∧ i < s + n
  | 0, _, _, h => by cases h
  | n + 1, s, i, h => by
    rw [posG, List.mem_append] at h
    rcases h with h | h
    · split at h
      · rw [List.mem_singleton] at h; omega
      · cases h
    · have := posG_mem h; omega
def PlE (i : Nat) (vs : List Value) : Prop := vs = [.int .i64 i]
set_option maxRecDepth 20000 in
theorem places_iterO {w : World} {S S2 : Nat → Prop} {a a2 : Option Addr} {n c n2 c2 : Nat} {pat l : List (List UInt8)} {b3 b5 : Nat} (hP : RowV vS S w a n pat) (hL : RowV vS S2 w a2 n2 l) (hcap : n2 ≤ c2) (hs : n ≤ 1000000) (hs2 : n2 ≤ 1000000)
    (B3 : Blk w b3 [.slice a n c] 23) (B5 : Blk w b5 [.slice a2 n2 c2] 23) :
    IterO Tryz.prog F_hyphenation_places_1 [.pointer (some ⟨b3, 0, none⟩), .pointer (some ⟨b5, 0, none⟩)] (posG pat l (l.length + 1 - pat.length) 0) PlE (fun k => k = b3 ∨ k = b5 ∨ (S k ∧ k < w.heap.size) ∨ (S2 k ∧ k < w.heap.size)) w := by
  intro yf ya yb S0 J Jx R hS0 hJ hJx hbody h0 hend hstop
  apply c_hyphenation_places_1
  have hn := hP.1
  have hn2 := hL.1
  have l3 := B3.lt
  have l5 := B5.lt
  have rd : ∀ {W : World}, Chg (fun k => S0 k ∨ w.heap.size ≤ k) w W → RowV vS S W a n pat ∧ RowV vS S2 W a2 n2 l ∧ Blk W b3 [.slice a n c] 23 ∧ Blk W b5 [.slice a2 n2 c2] 23 := by
    intro W hc
    refine ⟨((hP.imp (S' := fun k => S k ∧ k < w.heap.size) fun k hk hl => ⟨hk, hl⟩).chg hc fun k hk hl hh => ?_).imp fun k hk _ => hk.1, ((hL.imp (S' := fun k => S2 k ∧ k < w.heap.size) fun k hk hl => ⟨hk, hl⟩).chg hc fun k hk hl hh => ?_).imp fun k hk _ => hk.1, hc.blk B3 fun hh => ?_, hc.blk B5 fun hh => ?_⟩
    · rcases hh with hh | hh
      · exact (hS0 _ hh).2 (.inr (.inr (.inl hk)))
      · omega
    · rcases hh with hh | hh
      · exact (hS0 _ hh).2 (.inr (.inr (.inr hk)))
      · omega
    · rcases hh with hh | hh
      · exact (hS0 _ hh).2 (.inl rfl)
      · omega
    · rcases hh with hh | hh
      · exact (hS0 _ hh).2 (.inr (.inl rfl))
      · omega
  refine ⟨fun i W m => ∃ (t : Nat) (S1 : Nat → Prop) (pre : List Nat), i = t ∧ t ≤ l.length + 1 - pat.length ∧ m = l.length + 1 - pat.length - t ∧ J pre S1 W ∧ pre ++ posG pat l (l.length + 1 - pat.length - t) t = posG pat l (l.length + 1 - pat.length) 0 ∧
      Chg (fun k => S0 k ∨ w.heap.size ≤ k) w W ∧ (∀ k, S1 k → (S0 k ∨ w.heap.size ≤ k) ∧ k < W.heap.size),
    ⟨_, 0, S0, [], rfl, Nat.zero_le _, rfl, h0, rfl, Chg.refl _ _, fun k hk => ⟨.inl hk, (hS0 k hk).1⟩⟩, ?_⟩
  rintro _ W m ⟨t, S1, pre, rfl, ht, rfl, hj, hpre, hc, hS1⟩ _
  obtain ⟨hPW, hLW, B3W, B5W⟩ := rd hc
  have zW := hc.size
  refine dr_ok ⟨_, _, _, b0_cell B3W, dr_ok ⟨_, _, _, b0_cell B5W, ?_⟩⟩
  rw [wrap_id (by omega)]
  refine br_split (fun hle => ?_) (fun hgt => ?_)
  · rw [show l.length + 1 - pat.length - t = (l.length + 1 - pat.length - (t + 1)) + 1 by omega, posG] at hpre
    unfold drw
    have ed := ext_drew W
    have hcD := hc.trans (.of_ext ed)
    have hjD := hJ _ _ _ _ hj (.of_ext ed)
    have zD := ed.size
    have hS1D : ∀ k, S1 k → (S0 k ∨ w.heap.size ≤ k) ∧ k < W.drew.heap.size := fun k hk => ⟨(hS1 k hk).1, by have := (hS1 k hk).2; omega⟩
    generalize W.drew = V at *
    obtain ⟨hPV, hLV, B3V, B5V⟩ := rd hcD
    refine dr_ok ⟨_, _, _, b0_cell B5V, dr_ok ⟨_, _, _, b0_cell B3V, ?_⟩⟩
    rw [wrap_id (by omega), show (t : Int) + (n : Int) = ((t + n : Nat) : Int) by omega]
    refine rowAt_sls (E := Sh.encStr) (rowV_enc.1 hLV) hcap (Nat.le_add_right _ _) (by omega) fun a18 hsub => ?_
    have hsub : RowV vS S2 V a18 (t + n - t) ((l.drop t).take (t + n - t)) := rowV_enc.2 hsub
    have e1 : t + n - t = pat.length := by omega
    refine dr_ok ⟨_, _, _, b0_cell B3V, ⟨?_, trivial⟩⟩
    refine EqualS_spec hsub hPV (by omega) fun w22 e22 => ⟨_, rfl, ?_⟩
    rw [e1]
    have hc2 := hcD.trans (.of_ext e22)
    have hj2 := hJ _ _ _ _ hjD (.of_ext e22)
    have z22 := e22.size
    have hS2 : ∀ k, S1 k → (S0 k ∨ w.heap.size ≤ k) ∧ k < w22.heap.size := fun k hk => ⟨(hS1D k hk).1, by have := (hS1D k hk).2; omega⟩
    have zc2 := hc2.size
    refine br_split (fun g => ⟨?_, trivial⟩) (fun g => ⟨?_, trivial⟩)
    · rw [if_pos g, ← List.append_assoc] at hpre
      refine CallV_mono (hbody pre t _ S1 w22 rfl ⟨_, hpre⟩ zc2 (fun j hj' => ⟨(hS2 j hj').2, fun hh => ?_⟩) hj2) ?_
      · rcases (hS2 j hj').1 with h1 | h1
        · exact (hS0 _ h1).2 hh
        · rcases hh with hh | hh | hh | hh <;> omega
      · rintro e24 w25 ⟨hcb, S', hS', hres⟩
        have zb := hcb.size
        have hc4 : Chg (fun k => S0 k ∨ w.heap.size ≤ k) w w25 := hc2.trans (hcb.mono fun j _ hj' => (hS2 j hj').1)
        rcases hres with ⟨rfl, hjn⟩ | ⟨rfl, hjx⟩
        · refine ⟨_, rfl, br_cases (fun q => absurd q (by decide)) (fun _ => ?_)⟩
          refine ⟨l.length + 1 - pat.length - (t + 1), by omega, t + 1, S', _, by rw [wrap_nat (by omega)], by omega, rfl, hjn, hpre, hc4, fun j hj' => ⟨?_, (hS' j hj').2⟩⟩
          rcases (hS' j hj').1 with h1 | h1
          · exact (hS2 j h1).1
          · exact .inr (by omega)
        · exact ⟨_, rfl, br_cases (fun _ => hstop S' w25 (by omega) hjx) (fun q => absurd q (by decide))⟩
    · rw [if_neg g, List.nil_append] at hpre
      exact ⟨l.length + 1 - pat.length - (t + 1), by omega, t + 1, S1, pre, by rw [wrap_nat (by omega)], by omega, rfl, hj2, hpre, hc2, hS2⟩
  · rw [show l.length + 1 - pat.length - t = 0 by omega, posG, List.append_nil] at hpre
    subst hpre
    exact hend S1 W zW hj
end Go.Proofs
namespace Go.Proofs
open Go Go.Sh Go.RowKit
/- lists of strings put together -/
section
variable {R : Ending → World → Prop} {w : World}
theorem GrowS_spec (k : Nat) (hk : k ≤ 1000000000) (h : ∀ (a : Option Addr) (c : Nat) w', OwnL Sh.encStr w' w.heap.size 9 a 0 c [] → Ext w w' → R (.returned (.slice a 0 c)) w') : Calls Tryz.prog F_slices_Grow_of_string_string ⟨[.slice none 0 0, .int .i64 (k : Int)]⟩ w R := by
  apply c_slices_Grow_of_string_string
  intro K3 hK3
  have k3 : K3 w := by
    refine hK3 _ fun _ => ?_
    have hw1 : IntKind.i64.wrap (((0 : Nat) : Int) - ((0 : Nat) : Int)) = 0 := by decide
    rw [hw1, wrap_id (by omega)]
    refine br_split (fun g => ?_) (fun g => h none 0 w (Owns.nil _ _ 9 1) (Below.refl _ _))
    rw [show (k : Int) - 0 = (k : Int) by omega]
    refine ⟨by omega, by omega, by omega, ?_⟩
    refine grow_nilT (e := 9) (size := 1) (bytes := 16) (z := .string ⟨⟨[]⟩⟩) slT_s (by kernel_rfl) (Nat.le_refl _) k (by omega) (by omega) (by omega) fun c6 w7 ho7 e7 => ?_
    refine ⟨by omega, by omega, by omega, ?_⟩
    have : slA (some (⟨w.heap.size, 0, none⟩ : Addr)) c6 (Int.toNat 0) 1 = some ⟨w.heap.size, 0, none⟩ := by
      unfold slA
      split
      · rfl
      · simp [Addr.add]
    rw [this]
    exact h _ _ w7 ho7 e7
  exact br_split (fun g => by omega) (fun _ => k3)
abbrev SL := Slv × List (List UInt8)
def slv (s : Slv) : Value := .slice s.1 s.2.1 s.2.2
def lenL : List SL → Nat
  | [] => 0
  | x :: r => x.1.2.1 + lenL r
theorem lenL_app : ∀ (a b : List SL), lenL (a ++ b) = lenL a + lenL b
  | [], b => by show lenL b = 0 + lenL b; omega
  | x :: a, b => by
    show x.1.2.1 + lenL (a ++ b) = x.1.2.1 + lenL a + lenL b
    rw [lenL_app a b]; omega
theorem lenL_le {N : Nat} : ∀ {Ls : List SL}, (∀ x ∈ Ls, x.1.2.1 ≤ N) → lenL Ls ≤ N * Ls.length
  | [], _ => Nat.le_refl _
  | x :: r, h => by
    have := lenL_le (Ls := r) fun y hy => h y (List.mem_cons_of_mem _ hy)
    have := h x List.mem_cons_self
    rw [List.length_cons, Nat.mul_add]
    show x.1.2.1 + lenL r ≤ _
    omega
set_option maxRecDepth 20000 in
theorem ConcatS_spec {p cc : Nat} {T : TypeId} {Ls : List SL} (hp : Blk w p (Ls.map fun x => slv x.1) T) (hr : ∀ x ∈ Ls, RowV vS (fun _ => True) w x.1.1 x.1.2.1 x.2) (hs : ∀ x ∈ Ls, x.1.2.1 ≤ 1000000) (hl : Ls.length ≤ 100)
    (h : ∀ (a' : Option Addr) (n' c' : Nat) w', RowV vS (fun _ => True) w' a' n' (Ls.map (·.2)).flatten → n' = lenL Ls → n' ≤ c' → Ext w w' → R (.returned (.slice a' n' c')) w') : Calls Tryz.prog F_slices_Concat_of_string_string ⟨[.slice (some ⟨p, 0, none⟩) Ls.length cc]⟩ w R := by
  apply c_slices_Concat_of_string_string
  have hsum := fun k => lenL_le (N := 1000000) (Ls := Ls.take k) fun x hx => hs x (List.mem_of_mem_take hx)
  have hcell : ∀ {W : World}, Ext w W → ∀ k (hk : k < Ls.length), W.cell? ⟨p, k, none⟩ = some (.slice Ls[k].1.1 Ls[k].1.2.1 Ls[k].1.2.2) := fun eW k hk => by
    rw [(hp.ext eW).cell, List.getElem?_map, List.getElem?_eq_getElem hk]; rfl
  refine ⟨fun sz i W m => ∃ k : Nat, i = k ∧ k ≤ Ls.length ∧ m = Ls.length - k ∧ sz = (lenL (Ls.take k) : Int) ∧ W = w, ⟨_, 0, rfl, Nat.zero_le _, rfl, rfl, rfl⟩, ?_⟩
  rintro _ _ W m ⟨k, rfl, hk, rfl, rfl, rfl⟩ _
  have h1 := hsum k
  have h2 : 1000000 * (Ls.take k).length ≤ 100000000 := by rw [List.length_take]; omega
  refine br_split (fun hlt => ?_) (fun hge => ?_)
  · have hkl : k < Ls.length := by omega
    have hsk := hs _ (List.getElem_mem hkl)
    refine idx_b1 hkl ⟨_, _, _, hcell (Below.refl _ _) k hkl, ?_⟩
    rw [wrap_id (by omega)]
    refine br_split (fun g => by omega) (fun _ => ⟨Ls.length - (k + 1), by omega, k + 1, by rw [wrap_nat (by omega)], by omega, rfl, ?_, rfl⟩)
    rw [List.take_succ_eq_append_getElem hkl, lenL_app]
    show _ = ((lenL (Ls.take k) + (Ls[k].1.2.1 + 0) : Nat) : Int)
    omega
  · refine GrowS_spec _ (by omega) fun a13 c13 w12 ho e12 => ⟨_, _, _, rfl, ?_⟩
    refine ⟨fun oa on oc i V m => ∃ k : Nat, i = k ∧ k ≤ Ls.length ∧ m = Ls.length - k ∧ on = lenL (Ls.take k) ∧ OwnL Sh.encStr V W.heap.size 9 oa on oc ((Ls.take k).map (·.2)).flatten ∧ Ext W V, ⟨_, 0, rfl, Nat.zero_le _, rfl, rfl, ho, e12⟩, ?_⟩
    rintro oa on oc _ V m ⟨j, rfl, hj, rfl, hon, hO, eV⟩ _
    have h3 := hsum j
    have h4 : 1000000 * (Ls.take j).length ≤ 100000000 := by rw [List.length_take]; omega
    refine br_split (fun hlt2 => ?_) (fun hge2 => ?_)
    · have hjl : j < Ls.length := by omega
      have hsj := hs _ (List.getElem_mem hjl)
      refine idx_b1 hjl ⟨_, _, _, hcell eV j hjl, ?_⟩
      refine OwnL.pushAll (E := Sh.encStr) slT_s hO eV.size (rowV_enc.1 ((hr _ (List.getElem_mem hjl)).ext eV)) (by omega) (by omega) fun a' c' w' ho' hcc hn' => ?_
      refine ⟨Ls.length - (j + 1), by omega, j + 1, by rw [wrap_nat (by omega)], by omega, rfl, ?_, ?_, ext_own eV hcc fun q hq => (Owns.bk hO hq).1⟩
      · rw [List.take_succ_eq_append_getElem hjl, lenL_app, hon]; rfl
      · rw [List.take_succ_eq_append_getElem hjl, List.map_append, List.flatten_append]
        simpa using ho'
    · have hjl : j = Ls.length := by omega
      subst hjl
      rw [List.take_length] at hO hon
      exact h oa on oc V ((rowV_enc.2 (OwnL.out hO)).imp fun _ _ _ => trivial) hon (((ownV_enc (S := fun _ => True)).2 hO).cap) eV
/- raising a level -/
theorem raise_call {b6 bo m t : Nat} {g : Nat → Int} {v : Int} {T T' : TypeId} {cc : Nat} {K : Ending → World → Prop} (B6 : Blk w b6 [.slice (some ⟨bo, 0, none⟩) m cc] T) (Bo : Blk w bo (fC m fun j => .int .i64 (g j)) T') (ht : t < m)
    (h : ∀ w', Chg (fun k => k = bo) w w' → (∃ g' : Nat → Int, Blk w' bo (fC m fun j => .int .i64 (g' j)) T') → K (.returned (.tuple ⟨[]⟩)) w') :
    CallV Tryz.prog (.func (.func 232) ⟨[]⟩ ⟨[.pointer (some ⟨b6, 0, none⟩)]⟩) [.int .i64 (t : Int), .int .i64 v] w K := by
  refine ⟨by kernel_rfl, ?_⟩
  apply c_hyphenation_levels_1
  unfold sh_hyphenation_levels_1 drw
  have ed := ext_drew w
  have B6 := B6.ext ed
  have Bo := Bo.ext ed
  have c0 : Chg (fun k => k = bo) w w.drew := .of_ext ed
  generalize w.drew = w4 at *
  refine dr_ok ⟨_, _, _, b0_cell B6, dr_ok ⟨_, _, _, b0_cell B6, idx_b1 ht ⟨_, by rw [Bo.cell, fC_get ht], idx_b1 ht ⟨?_, trivial⟩⟩⟩⟩
  refine stL_fC Bo ht rfl fun w12 B12 c12 s12 => h w12 (c0.trans c12) ⟨fun i => if i = t then max (g t) v else g i, ?_⟩
  rw [fC_congr (g := fun i => if i = t then Value.int .i64 (max (g t) v) else .int .i64 (g i)) fun j hj => by
    show Value.int .i64 (if j = t then max (g t) v else g j) = _
    by_cases e : j = t
    · rw [if_pos e, if_pos e]
    · rw [if_neg e, if_neg e]]
  exact B12
end
end Go.Proofs
namespace Go.Proofs
open Go Go.Sh Go.RowKit
/- hyphenation: levels, points -/

section
variable {R : Ending → World → Prop} {S : Nat → Prop} {w : World} {a : Option Addr} {n c : Nat} {P : List (List UInt8 × List Int)}
theorem rowV_pat (h : RowV (View.pair vS (View.sl vI)) S w a n P) {i : Nat} (hi : i < P.length) : ∃ (p : Addr) (a' : Option Addr) (c' : Nat), (∀ K : Addr → Prop, K p → idx a n (i : Int) 2 K) ∧ w.cell? (p.add 0) = some (.string ⟨⟨P[i].1⟩⟩) ∧ w.cell? (p.add 1) = some (.slice a' P[i].2.length c') ∧ P[i].2.length ≤ c' ∧ RowV vI S w a' P[i].2.length P[i].2 := by
  obtain ⟨b, o, us, h1, _, _, h2, h3⟩ := h.get (List.getElem?_eq_getElem hi)
  obtain ⟨u1, u2, rfl, g1, a', c', rfl, g3, g4⟩ := h2
  have g1 : u1 = [.string ⟨⟨P[i].1⟩⟩] := g1
  subst g1
  exact ⟨⟨b, o, none⟩, a', c', h1, by rw [add_none]; exact h3 0 _ rfl, by rw [add_none]; exact h3 1 _ rfl, g3, g4⟩
structure PatOk (x : List UInt8 × List Int) : Prop where
  len : x.1.length ≤ 64
  lev : x.2.length = clN x.1 + 1
set_option maxHeartbeats 1000000 in
set_option maxRecDepth 20000 in
theorem levels_spec {wd : List UInt8} (hP : RowV (View.pair vS (View.sl vI)) S w a n P) (hn : n ≤ 1000000) (hok : ∀ x ∈ P, PatOk x) (hw : wd.length ≤ 1000) (hne : 1 ≤ clN wd)
    (h : ∀ (a' : Option Addr) (n' c' : Nat) (L : List Int) w', Ext w w' → L.length = clN wd - 1 → RowV vI (fun _ => True) w' a' n' L → (P = [] → ∀ x ∈ L, x = 0) → R (.returned (.slice a' n' c')) w') :
    Calls Tryz.prog F_hyphenation_levels ⟨[.slice a n c, .string ⟨⟨wd⟩⟩]⟩ w R := by
  apply c_hyphenation_levels
  have hpn := hP.1
  refine al_intro fun b3 w4 hb3 B3 e3 s3 => ?_
  refine folded_spec wd (by omega) fun a7 n7 c7 w6 e6 hc7 hr7 => ⟨_, _, _, rfl, ?_⟩
  have hn7 := hr7.1
  have hcl7 : (clS (wd.map lowC)).length = clN wd := low_clN wd
  refine al_intro fun b8 w9 hb8 B8 e8 s8 => al_intro fun b10 w11 hb10 B10 e10 s10 => ?_
  have hdot : ∀ {W : World} {b : Nat}, Blk W b [.string ⟨⟨[46]⟩⟩] 9 → RowV vS (fun _ => True) W (some ⟨b, 0, none⟩) 1 [[46]] := fun hb => (rowV_enc.2 (rowAt_b (E := Sh.encStr) (l := [[46]]) hb)).imp fun _ _ _ => trivial
  have hcw : clN wd ≤ 1000 := by
    have := clustersF_len wd
    rw [show (clustersF wd).length = ((clustersF wd).map (·.2)).length by simp, clusters_clS] at this
    have : clN wd ≤ wd.length := this
    omega
  refine ConcatS_spec (Ls := [((some ⟨b3, 0, none⟩, 1, 1), [[46]]), ((a7, n7, c7), clS (wd.map lowC)), ((some ⟨b8, 0, none⟩, 1, 1), [[46]])]) B10 (fun x hx => ?_) (fun x hx => ?_) (show 3 ≤ 100 by decide) fun a14 n14 c14 w13 hr14 hn14 hc14 e13 => ⟨_, _, _, rfl, ?_⟩
  · simp only [List.mem_cons, List.not_mem_nil, or_false] at hx
    rcases hx with rfl | rfl | rfl
    · exact hdot (B3.ext (ext_trans e6 (ext_trans e8 e10)))
    · exact (hr7.ext (ext_trans e8 e10)).imp fun _ _ _ => trivial
    · exact hdot (B8.ext e10)
  · simp only [List.mem_cons, List.not_mem_nil, or_false] at hx
    rcases hx with rfl | rfl | rfl
    · exact (by decide : (1 : Nat) ≤ 1000000)
    · show n7 ≤ 1000000
      omega
    · exact (by decide : (1 : Nat) ≤ 1000000)
  have hN : n14 = clN wd + 2 := by
    rw [hn14]
    show 1 + (n7 + (1 + 0)) = _
    omega
  have e013 := ext_trans e3 (ext_trans e6 (ext_trans e8 (ext_trans e10 e13)))
  clear hn14
  generalize hLL : (List.map (fun x : SL => x.2) [((some ⟨b3, 0, none⟩, 1, 1), [[46]]), ((a7, n7, c7), clS (wd.map lowC)), ((some ⟨b8, 0, none⟩, 1, 1), [[46]])]).flatten = LL at hr14
  have hln := hr14.1
  rw [wrap_nat (by omega), Int.toNat_natCast]
  refine mks_intro (l := n14 + 1) (c := n14 + 1) (Nat.le_refl _) (by omega) fun bo w16 hbo Bo e16 s16 => ?_
  rw [fC_rep] at Bo
  refine al_stL rfl (by intro v hv; simp only [List.mem_singleton] at hv; subst hv; rfl) fun b17 w19 hb17 B17 e17 s17 => ?_
  refine al_stL rfl (by intro v hv; simp only [List.mem_singleton] at hv; subst hv; rfl) fun b20 w22 hb20 B20 e20 s20 => ?_
  have e022 := ext_trans e013 (ext_trans e16 (ext_trans e17 e20))
  have z13 := e013.size
  have z16 := e16.size
  have z17 := e17.size
  have B17 := B17.ext e20
  have Bo := Bo.ext (ext_trans e17 e20)
  have hr14 := (hr14.imp (S' := fun k => k < bo) fun k _ hl => by omega).ext (ext_trans e16 (ext_trans e17 e20))
  refine ⟨fun i ds W m => ∃ (k : Nat) (Dl : List Nat), i = k ∧ k ≤ n ∧ m = n - k ∧ ds = marks Dl ∧ DefA w W Dl ∧ Ext w W ∧ Chg (fun k => k = bo) w22 W ∧ ∃ g : Nat → Int, Blk W bo (fC (n14 + 1) fun j => .int .i64 (g j)) 3 ∧ (k = 0 → ∀ j, g j = 0),
    ⟨_, 0, [], rfl, Nat.zero_le _, rfl, rfl, ⟨List.nodup_nil, fun D hD => by cases hD⟩, e022, Chg.refl _ _, fun _ => 0, Bo, fun _ _ => rfl⟩, ?_⟩
  rintro _ _ W m ⟨k, Dl, rfl, hk, rfl, rfl, hD, eW, cW, g0, CoW, hg0⟩ _
  have zW := cW.size
  have l17 := B17.lt
  have l20 := B20.lt
  have lo := Bo.lt
  have C17 := cW.blk B17 (by omega)
  have C20 := cW.blk B20 (by omega)
  refine br_split (fun hlt => ?_) (fun hge => ?_)
  · have hkP : k < P.length := by omega
    obtain ⟨p, la, lc, hp, d1, d2, hlc, hlev⟩ := rowV_pat ((hP.imp (S' := fun k => S k ∧ k < w.heap.size) fun k hk hl => ⟨hk, hl⟩).ext eW) hkP
    have hpk := hok _ (List.getElem_mem hkP)
    refine hp _ ⟨_, d1, _, _, _, d2, ?_⟩
    refine al_stL rfl (by intro v hv; simp only [List.mem_cons, List.not_mem_nil, or_false] at hv; rcases hv with rfl | rfl <;> rfl) fun b32 w34 hb32 B32 e32 s32 => ?_
    refine ⟨_, bat B32 rfl, folded_spec _ (by have := hpk.len; omega) fun a38 n38 c38 w37 e37 hc38 hr38 => ⟨_, _, _, rfl, ?_⟩⟩
    apply c_hyphenation_places
    refine al_intro fun bp wa hbp Bp ea sa => al_intro fun bl w82 hbl Bl eb sb => ⟨_, _, _, rfl, fun base => ?_⟩
    have hn38 := hr38.1
    have hpl : (clS (P[k].1.map lowC)).length = clN P[k].1 := low_clN _
    have eW82 := ext_trans e32 (ext_trans e37 (ext_trans ea eb))
    have e082 := ext_trans eW eW82
    have z32 := e32.size
    have z37 := e37.size
    have za := ea.size
    have zb := eb.size
    have B32 := B32.ext (ext_trans e37 (ext_trans ea eb))
    have C17 := C17.ext eW82
    have C20 := C20.ext eW82
    have Co82 := CoW.ext eW82
    have hD := hD.ext eW82
    have hlev82 := hlev.ext eW82
    have hrow14 : RowV vS (fun k => k < bo) w82 a14 n14 LL := (hr14.chg cW fun k hk hl hh => by omega).ext eW82
    have hr38' := (hr38.imp (S' := fun k => bo < k) fun k hk hl => by omega).ext (ext_trans ea eb)
    rw [cd_hyphenation_levels_1]
    refine RFw_lawO anA_hyphenation_levels_1 anB_hyphenation_levels_1 (gf := F_hyphenation_places_1) rfl (by kernel_rfl) (xs := posG (clS (P[k].1.map lowC)) LL (LL.length + 1 - (clS (P[k].1.map lowC)).length) 0) (E := PlE) (Rd := fun j => j = bp ∨ j = bl ∨ (bo < j ∧ j < w82.heap.size) ∨ (j < bo ∧ j < w82.heap.size))
      (fun w1 hw1 => ?_) (fun y vs hE => by rw [show vs = _ from hE]; rfl) (by decide) (fun j hj => by rcases hj with rfl | rfl | hj | hj <;> omega)
      (fun j => j = bo) (fun j hj => ⟨by omega, fun hh => by rcases hh with hh | hh | hh | hh <;> omega⟩)
      (fun pre S1 V => (∀ j, S1 j ↔ j = bo) ∧ Chg (fun j => j = bo) w82 V ∧ ∃ g : Nat → Int, Blk V bo (fC (n14 + 1) fun j => .int .i64 (g j)) 3)
      (fun _ _ => False) (fun _ _ => False) ?_ (fun _ _ _ h => h.elim) (fun _ _ _ h => h.elim) ⟨fun j => Iff.rfl, Chg.refl _ _, g0, Co82⟩ ?_ ?_ (fun _ _ _ _ _ _ _ h => h.elim) (fun _ _ _ _ _ _ _ h => h.elim)
    · have eq : (fun j => j = bp ∨ j = bl ∨ ((bo < j ∧ j < w82.heap.size) ∧ j < w1.heap.size) ∨ ((j < bo ∧ j < w82.heap.size) ∧ j < w1.heap.size)) = (fun j => j = bp ∨ j = bl ∨ (bo < j ∧ j < w82.heap.size) ∨ (j < bo ∧ j < w82.heap.size)) := by
        funext j
        have := hw1.size
        exact propext ⟨fun hh => hh.imp id (fun q => q.imp id (fun q => q.imp (fun t => t.1) (fun t => t.1))), fun hh => hh.imp id (fun q => q.imp id (fun q => q.imp (fun t => ⟨t, by omega⟩) (fun t => ⟨t, by omega⟩)))⟩
      have := places_iterO (w := w1) (S := fun j => bo < j ∧ j < w82.heap.size) (S2 := fun j => j < bo ∧ j < w82.heap.size) ((hr38'.imp (S' := fun j => bo < j ∧ j < w82.heap.size) fun j hj hl => ⟨hj, hl⟩).ext hw1) ((hrow14.imp (S' := fun j => j < bo ∧ j < w82.heap.size) fun j hj hl => ⟨hj, hl⟩).ext hw1) hc14 (by have := hpk.len; have := clustersF_len P[k].1; rw [show (clustersF P[k].1).length = ((clustersF P[k].1).map (·.2)).length by simp, clusters_clS] at this; have : clN P[k].1 ≤ P[k].1.length := this; omega) (by omega) ((Bp.ext eb).ext hw1) (Bl.ext hw1)
      rw [eq] at this; exact this
    · rintro pre S1 V V' ⟨i1, i2, g, i3⟩ hc
      exact ⟨i1, chgT i2 hc fun j hj hh => by omega, g, hc.blk i3 fun hh => hh.2 ((i1 _).2 rfl)⟩
    · rintro pre x vs S1 V L hE hpre hl1 hl2 hl3 hS1 ⟨i1, i2, g, i3⟩
      obtain rfl : vs = [.int .i64 x] := hE
      have hxm := posG_mem (mem_of_prefix hpre)
      refine Eq.mpr (er_hyphenation_levels_1 base _ _ _ _ _ _ _ _ _ _ _ _ _ _ _ _ _ _ _ _ _ _ _) ?_
      refine ⟨Below.refl _ _, fun V2 hU => ?_⟩
      have zU := hU.size
      have zi := i2.size
      have hUc : Chg (fun j => j = L) V V2 := ⟨hU.os, hU.tape, hU.output, by omega, fun j _ hj => hU.block j hj⟩
      have hLo : ¬ bo = L := fun e => hl3 ((i1 L).2 e.symm)
      have c2 : Chg (fun j => j = bo) w82 V2 := chgT i2 hUc fun j hj hh => by omega
      have Co2 := hUc.blk i3 hLo
      have B322 := c2.blk B32 (by omega)
      refine dr_ok ⟨_, _, _, bat B322 rfl, ?_⟩
      refine ⟨fun i U m => ∃ (q : Nat), i = q ∧ q ≤ P[k].2.length ∧ m = P[k].2.length - q ∧ Chg (fun j => j = bo) V2 U ∧ ∃ g : Nat → Int, Blk U bo (fC (n14 + 1) fun j => .int .i64 (g j)) 3, ⟨_, 0, rfl, Nat.zero_le _, rfl, Chg.refl _ _, g, Co2⟩, ?_⟩
      rintro _ U m ⟨q, rfl, hq, rfl, cU, g2, CoU⟩ _
      have cU2 := c2.trans cU
      refine br_split (fun hlt2 => ?_) (fun hge2 => ?_)
      · have hql : q < P[k].2.length := by omega
        obtain ⟨pp, hpp, dd⟩ := (hlev82.chg cU2 fun j hj hl hh => by
          have := hj.2
          omega).int hql
        refine hpp _ ⟨_, dd, dr_ok ⟨_, _, _, b0_cell (cU2.blk C20 (by omega)), ?_⟩⟩
        have hlv := hpk.lev
        rw [wrap_id (by omega), show (x : Int) + (q : Int) = ((x + q : Nat) : Int) by omega]
        refine raise_call (cU2.blk C17 (by omega)) CoU (by omega) fun w' hc hg => ⟨rfl, ?_⟩
        obtain ⟨g3, hg3⟩ := hg
        exact ⟨P[k].2.length - (q + 1), by omega, q + 1, by rw [wrap_nat (by omega)], by omega, rfl, cU.trans hc, g3, hg3⟩
      · have zc := cU.size
        exact ⟨cU.mono fun j _ hj => .inl ((i1 j).2 hj), S1, fun j hj => ⟨.inl hj, by have := (hS1 j hj).1; omega⟩, i1, cU2, g2, CoU⟩
    · rintro D S1 V hD1 hD2 hD3 hD4 ⟨i1, i2, g, i3⟩
      have zi := i2.size
      refine ⟨n - (k + 1), by omega, k + 1, D :: Dl, by rw [wrap_nat (by omega)], by omega, rfl, rfl, (hD.chg Co82 i2).cons ⟨by omega, by omega, hD4⟩ fun hm => ?_, ext_chgS e082 i2 fun j hj => by omega, chgT (cW.trans (.of_ext eW82)) i2 fun j _ hj => hj, g, i3, fun q => by omega⟩
      have := (hD.at_ D hm).2.1
      omega
  · refine ⟨_, _, _, b0_cell C17, ?_⟩
    have hrowO : RowV vI (fun j => j = bo) W (some ⟨bo, 0, none⟩) (n14 + 1) ((List.range (n14 + 1)).map g0) := by
      rw [fC_encI] at CoW
      have := rowV_enc.2 (rowAt_b (E := Sh.encI) CoW)
      rw [List.length_map, List.length_range] at this
      exact this
    rw [wrap_id (by omega), show (n14 : Int) - 1 = ((n14 - 1 : Nat) : Int) by omega]
    refine rowAt_sls (E := Sh.encI) (f := 2) (rowV_enc.1 hrowO) (Nat.le_refl _) (by omega) (by omega) fun a51 hsub => ?_
    refine retD_marks Dl W hD.nd (fun D hm => (hD.at_ D hm).2.2) fun W' hc => ?_
    refine h _ _ _ _ W' (ext_chgS eW hc fun j hj => (hD.at_ j hj).1) ?_ (((rowV_enc.2 hsub).chg hc fun j hj hl hm => ?_).imp fun _ _ _ => trivial) (fun hP0 x hx => ?_)
    · rw [List.length_take, List.length_drop, List.length_map, List.length_range]; omega
    · have hj : j = bo := hj
      subst hj
      exact hD.ne CoW hm
    · have hx := List.mem_of_mem_drop (List.mem_of_mem_take hx)
      obtain ⟨j, _, rfl⟩ := List.mem_map.1 hx
      exact hg0 (by subst hP0; simp at hpn; omega) j
end
end Go.Proofs
namespace Go.Proofs
open Go Go.Sh Go.RowKit
/- hyphenation: points -/
def chainP (m : Nat) : Nat → List Nat → Prop
  | _, [] => True
  | f, k :: r => f ≤ k ∧ k ≤ m ∧ chainP m k r
theorem chainP_snoc {m : Nat} : ∀ {O : List Nat} {f k : Nat}, chainP m f O → f ≤ k → (∀ x ∈ O, x ≤ k) → k ≤ m → chainP m f (O ++ [k])
  | [], f, k, _, h1, _, h3 => ⟨h1, h3, trivial⟩
  | x :: O, f, k, ⟨h1, h2, h4⟩, _, hx, h3 => ⟨h1, h2, chainP_snoc h4 (hx x List.mem_cons_self) (fun y hy => hx y (List.mem_cons_of_mem _ hy)) h3⟩
section
variable {R : Ending → World → Prop} {S : Nat → Prop} {w : World} {a : Option Addr} {n c : Nat} {P : List (List UInt8 × List Int)}
theorem clN_le (s : List UInt8) : clN s ≤ s.length := by
  have := clustersF_len s
  rw [show (clustersF s).length = ((clustersF s).map (·.2)).length by simp, clusters_clS] at this
  exact this
theorem flat_take (s : List UInt8) (k : Nat) : ((clS s).take k).flatten.length ≤ s.length := by
  have : (clS s).flatten = ((clS s).take k).flatten ++ ((clS s).drop k).flatten := by rw [← List.flatten_append, List.take_append_drop]
  have h2 := congrArg List.length this
  rw [clS_flat, List.length_append] at h2
  omega
set_option maxHeartbeats 1000000 in
set_option maxRecDepth 20000 in
theorem points_spec {wd : List UInt8} (hP : RowV (View.pair vS (View.sl vI)) S w a n P) (hn : n ≤ 1000000) (hok : ∀ x ∈ P, PatOk x) (hw : wd.length ≤ 1000) (hne : 1 ≤ clN wd)
    (h : ∀ (a1 : Option Addr) (n1 c1 : Nat) (a2 : Option Addr) (n2 c2 : Nat) (O : List Nat) w', Ext w w' → chainP wd.length 0 O → O.length ≤ 1000 → RowV vI (fun _ => True) w' a1 n1 (ofN O) → (P = [] → O = []) → R (.returned (.tuple ⟨[.slice a1 n1 c1, .slice a2 n2 c2]⟩)) w') :
    Calls Tryz.prog F_hyphenation_points ⟨[.slice a n c, .string ⟨⟨wd⟩⟩]⟩ w R := by
  apply c_hyphenation_points
  refine units_spec wd (by omega) fun a5 n5 c5 w4 e4 hc5 hr5 => ⟨_, _, _, rfl, ?_⟩
  refine levels_spec (hP.ext e4) hn hok hw hne fun a8 n8 c8 L w7 e7 hL hr8 hz => ⟨_, _, _, rfl, ?_⟩
  have hn5 := hr5.1
  have hn8 := hr8.1
  have hcl : (clS wd).length = clN wd := rfl
  have hcw := clN_le wd
  have e07 := ext_trans e4 e7
  have hr5 := (hr5.imp (S' := fun k => k < w7.heap.size) fun k _ hl => by have := e7.size; omega).ext e7
  have hr8 := hr8.imp (S' := fun k => k < w7.heap.size) fun k _ hl => hl
  refine ⟨fun oa on oc ha hn' hc off i W m => ∃ (k : Nat) (O : List Nat) (H : List Int), i = k ∧ k ≤ n8 ∧ m = n8 - k ∧ off = (((clS wd).take k).flatten.length : Int) ∧ O.length ≤ k ∧ chainP wd.length 0 O ∧ (∀ x ∈ O, x ≤ ((clS wd).take k).flatten.length) ∧ H.length ≤ k ∧
      OwnL Sh.encI W w7.heap.size 3 oa on oc (ofN O) ∧ OwnL Sh.encI W w7.heap.size 3 ha hn' hc H ∧ (∀ j, bk oa j → ¬ bk ha j) ∧ Ext w7 W ∧ (P = [] → O = []),
    ⟨_, 0, [], [], rfl, Nat.zero_le _, rfl, rfl, Nat.le_refl _, trivial, fun x hx => (by cases hx), Nat.le_refl _, Owns.nil _ _ 3 1, Owns.nil _ _ 3 1, fun j hj => (by cases hj), Below.refl _ _, fun _ => rfl⟩, ?_⟩
  rintro oa on oc ha hn' hc _ _ W m ⟨k, O, H, rfl, hk, rfl, rfl, hO, hch, hle, hH, hOo, hOh, hdis, eW, hP0⟩ _
  have zW := eW.size
  have hon : (ofN O).length = on := OwnL.length hOo
  rw [ofN_len] at hon
  have hhn : H.length = hn' := OwnL.length hOh
  refine br_split (fun hlt => ?_) (fun hge => ?_)
  · have hk5 : k < (clS wd).length := by omega
    obtain ⟨p, hp, d⟩ := (hr8.ext eW).int (k := k) (by omega)
    obtain ⟨p2, hp2, d2⟩ := (hr5.ext eW).str (k := k) hk5
    refine hp _ ⟨_, d, hp2 _ ⟨_, d2, ?_⟩⟩
    have hft := flat_take wd k
    have hft1 := flat_take wd (k + 1)
    have e1 : ((clS wd).take (k + 1)).flatten.length = ((clS wd).take k).flatten.length + (clS wd)[k].length := by
      rw [List.take_succ_eq_append_getElem hk5, List.flatten_append, List.length_append]; simp
    have hoff : IntKind.i64.wrap ((((clS wd).take k).flatten.length : Int) + ((clS wd)[k].length : Int)) = (((clS wd).take (k + 1)).flatten.length : Int) := by
      rw [wrap_id (by omega), e1]; omega
    rw [hoff]
    have hle1 : ∀ x ∈ O, x ≤ ((clS wd).take (k + 1)).flatten.length := fun x hx => Nat.le_trans (hle x hx) (by omega)
    intro K21 hK21
    have kt : ¬ P = [] → K21 true W := by
      intro hPne
      refine hK21 _ _ fun _ => br_cases (fun _ => ?_) (fun q => by cases q)
      refine OwnL.push (E := Sh.encI) slT_i hOo zW (((clS wd).take (k + 1)).flatten.length : Int) (by omega) (by omega) fun a26 c26 w27 ho hcc hnn => ?_
      have z27 := hcc.size
      have hOh27 := Owns.chg hOh hcc fun j hj hh => hdis j hh hj
      refine OwnL.push (E := Sh.encI) slT_i hOh27 (by omega) (L[k]'(by omega)) (by omega) (by omega) fun a30 c30 w31 ho2 hcc2 hnn2 => ?_
      have hd1 : ∀ j, bk a26 j → ¬ bk ha j := fun j hj hh => (hnn j hj).elim (fun q => hdis j q hh) (fun q => by have := (Owns.bk hOh hh).2; omega)
      have ho31 := Owns.chg ho hcc2 fun j hj hh => hd1 j hj hh
      refine ⟨n8 - (k + 1), by omega, k + 1, O ++ [((clS wd).take (k + 1)).flatten.length], _, by rw [wrap_nat (by omega)], by omega, rfl, rfl, by rw [List.length_append]; simp; omega, chainP_snoc hch (Nat.zero_le _) hle1 hft1, fun x hx => ?_, by rw [List.length_append]; simp; omega, ?_, ho2, fun j hj hh => ?_, ext_own (ext_own eW hcc fun j hj => (Owns.bk hOo hj).1) hcc2 fun j hj => (Owns.bk hOh hj).1, fun q => absurd q hPne⟩
      · rcases List.mem_append.1 hx with hx | hx
        · exact hle1 x hx
        · rw [List.mem_singleton] at hx; omega
      · rw [ofN_snoc]; exact ho31
      · exact (hnn2 j hh).elim (fun q => hd1 j hj q) (fun q => by have := (Owns.bk ho hj).2; omega)
    have kf : K21 false W := by
      refine hK21 _ _ fun _ => br_cases (fun q => by cases q) (fun _ => ?_)
      exact ⟨n8 - (k + 1), by omega, k + 1, O, H, by rw [wrap_nat (by omega)], by omega, rfl, rfl, by omega, hch, hle1, by omega, hOo, hOh, hdis, eW, hP0⟩
    refine st_idiv (by decide) (br_split (fun hodd => br_split (fun _ => ?_) (fun _ => kf)) (fun _ => kf))
    by_cases g : (2 : Int) ≤ IntKind.i64.wrap (IntKind.i64.wrap ((n5 : Int) - (k : Int)) - 1)
    · rw [decide_eq_true g]
      refine kt fun q => ?_
      rw [hz q _ (List.getElem_mem (show k < L.length by omega))] at hodd
      exact absurd hodd (by decide)
    · rw [decide_eq_false g]; exact kf
  · exact h oa on oc ha hn' hc O W (ext_trans e07 eW) hch (by omega) ((rowV_enc.2 (OwnL.out hOo)).imp fun _ _ _ => trivial) hP0
end
end Go.Proofs
namespace Go.Proofs
open Go Go.Sh Go.RowKit
/- hyphenation: Check, Points -/
theorem trimP_len (s p : List UInt8) : (Lib.trimPrefix s p).length ≤ s.length := by
  unfold Lib.trimPrefix
  split
  · rw [List.length_drop]; omega
  · exact Nat.le_refl _
theorem trimS_len (s p : List UInt8) : (Lib.trimSuffix s p).length ≤ s.length := by
  unfold Lib.trimSuffix
  split
  · rw [List.length_take]; omega
  · exact Nat.le_refl _
section
variable {R : Ending → World → Prop} {S : Nat → Prop} {w : World} {a : Option Addr} {n c : Nat} {P : List (List UInt8 × List Int)}
theorem TrimPrefix_spec (s p : List UInt8) (h : R (.returned (.string ⟨⟨Lib.trimPrefix s p⟩⟩)) w) : Calls Tryz.prog F_strings_TrimPrefix ⟨[.string ⟨⟨s⟩⟩, .string ⟨⟨p⟩⟩]⟩ w R := by
  refine (Tryz.strings_TrimPrefix ⟨⟨s⟩⟩ ⟨⟨p⟩⟩ w).mono ?_
  rintro e w' ⟨rfl, rfl⟩
  exact h
theorem TrimSuffix_spec (s p : List UInt8) (hs : s.length ≤ 1000000000) (h : R (.returned (.string ⟨⟨Lib.trimSuffix s p⟩⟩)) w) : Calls Tryz.prog F_strings_TrimSuffix ⟨[.string ⟨⟨s⟩⟩, .string ⟨⟨p⟩⟩]⟩ w R := by
  refine (Tryz.strings_TrimSuffix ⟨⟨s⟩⟩ ⟨⟨p⟩⟩ w (by show s.length ≤ _; omega)).mono ?_
  rintro e w' ⟨rfl, rfl⟩
  exact h
theorem HasPrefix_spec (s p : List UInt8) (h : ∀ b : Bool, R (.returned (.bool b)) w) : Calls Tryz.prog F_strings_HasPrefix ⟨[.string ⟨⟨s⟩⟩, .string ⟨⟨p⟩⟩]⟩ w R := by
  refine (Tryz.strings_HasPrefix ⟨⟨s⟩⟩ ⟨⟨p⟩⟩ w).mono ?_
  rintro e w' ⟨rfl, rfl⟩
  exact h _
theorem HasSuffix_spec (s p : List UInt8) (hs : s.length ≤ 1000000000) (h : ∀ b : Bool, R (.returned (.bool b)) w) : Calls Tryz.prog F_strings_HasSuffix ⟨[.string ⟨⟨s⟩⟩, .string ⟨⟨p⟩⟩]⟩ w R := by
  refine (Tryz.strings_HasSuffix ⟨⟨s⟩⟩ ⟨⟨p⟩⟩ w (by show s.length ≤ _; omega)).mono ?_
  rintro e w' ⟨rfl, rfl⟩
  exact h _
theorem only_call (b : UInt8) {K : Ending → World → Prop} (h : ∀ v : Bool, K (.returned (.bool v)) w) : CallV Tryz.prog (.func (.func 165) #[] #[]) [.int .u8 (b.toNat : Int)] w K := by
  refine ⟨by kernel_rfl, ?_⟩
  apply c_hyphenation_checkPattern_1
  exact Kind_spec b ⟨_, rfl, br_split (fun _ => h _) (fun _ => br_split (fun _ => h _) (fun _ => h _))⟩
def lvBad (v : Int) : Bool := if v < 0 then true else decide (9 < v)
set_option maxRecDepth 20000 in
theorem checkPattern_spec {x : List UInt8 × List Int} {la : Option Addr} {lc : Nat} (hr : RowV vI S w la x.2.length x.2) (h : ∀ (e : Int) w', Ext w w' → (e = 0 → PatOk x) → R (.returned (.int .i64 e)) w') :
    Calls Tryz.prog F_hyphenation_checkPattern ⟨[.agg ⟨[.string ⟨⟨x.1⟩⟩, .slice la x.2.length lc]⟩]⟩ w R := by
  apply c_hyphenation_checkPattern
  refine al_intro fun b3 w4 hb3 B3 e4 s4 => ?_
  refine ⟨_, bat B3 rfl, br_split (fun g => h _ _ e4 fun q => absurd q (by decide)) (fun g => ?_)⟩
  have hx64 : x.1.length ≤ 64 := by omega
  refine ⟨_, bat B3 rfl, TrimPrefix_spec _ _ ⟨_, rfl, TrimSuffix_spec _ _ (by have := trimP_len x.1 [46]; omega) ⟨_, rfl, ?_⟩⟩⟩
  have hown : (Lib.trimSuffix (Lib.trimPrefix x.1 [46]) [46]).length ≤ 64 := Nat.le_trans (trimS_len _ _) (Nat.le_trans (trimP_len _ _) hx64)
  generalize Lib.trimSuffix (Lib.trimPrefix x.1 [46]) [46] = own at *
  refine ⟨fun b i W m => ∃ k : Nat, i = k ∧ k ≤ own.length ∧ m = own.length - k ∧ W = w4, ⟨_, 0, rfl, Nat.zero_le _, rfl, rfl⟩, ?_⟩
  rintro some _ W m ⟨k, rfl, hk, rfl, rfl⟩ _
  refine br_split (fun hlt => ?_) (fun hge => ?_)
  · have hkl : k < own.length := by omega
    refine sidx_nat hkl (only_call _ fun v => ⟨_, rfl, br_cases (fun _ => h _ _ e4 fun q => absurd q (by decide)) (fun _ => ?_)⟩)
    have next : ∀ b : Bool, ∃ m23 : Nat, m23 < own.length - k ∧ ∃ k' : Nat, IntKind.i64.wrap ((k : Int) + 1) = k' ∧ k' ≤ own.length ∧ m23 = own.length - k' ∧ W = W := fun b =>
      ⟨own.length - (k + 1), by omega, k + 1, by rw [wrap_nat (by omega)], by omega, rfl, rfl⟩
    exact br_cases (fun _ => next true) (fun _ => sidx_nat hkl (Kind_spec _ ⟨_, rfl, next true⟩))
  · refine Check_spec own fun w30 e30 => ⟨_, rfl, ?_⟩
    have e030 := ext_trans e4 e30
    refine br_split (fun _ => h _ _ e030 fun q => absurd q (by decide)) (fun _ => br_cases (fun _ => h _ _ e030 fun q => absurd q (by decide)) (fun _ => ?_))
    intro K32 hK32
    have k32 : ∀ V, Ext w V → Blk V b3 [.string ⟨⟨x.1⟩⟩, .slice la x.2.length lc] 85 → x.2.length = clN x.1 + 1 → K32 V := by
      intro V eV BV hlv
      have ok : PatOk x := ⟨hx64, hlv⟩
      have hrV := hr.ext eV
      refine hK32 V fun _ => ⟨_, _, _, bat BV rfl, ?_⟩
      refine ContainsFuncI_spec (q := lvBad) (J := fun _ => True) hrV (by have := clN_le x.1; omega) (fun v _ U K _ hK => ⟨by kernel_rfl, ?_⟩) trivial (fun _ _ _ _ => trivial) fun w36 e36 => ⟨_, rfl, ?_⟩
      · apply c_hyphenation_checkPattern_2
        have := hK U (Below.refl _ _)
        unfold lvBad at this
        refine br_split (fun g => ?_) (fun g => ?_)
        · rw [if_pos g] at this; exact this
        · rw [if_neg g] at this; exact this
      have eV36 := ext_trans eV e36
      have BV := BV.ext e36
      have hrV := hrV.ext e36
      have ret : ∀ e : Int, R (.returned (.int .i64 e)) w36 := fun e => h e w36 eV36 fun _ => ok
      refine br_cases (fun _ => ret _) (fun _ => ⟨_, bat BV rfl, HasPrefix_spec _ _ fun v => ⟨_, rfl, ?_⟩⟩)
      have tail : ∀ {K : Prop}, (R (.returned (.int .i64 2)) w36 → R (.returned (.int .i64 0)) w36 → K) → K := fun q => q (ret 2) (ret 0)
      obtain ⟨p0, hp0, d0⟩ := hrV.int (k := 0) (by omega)
      obtain ⟨p1, hp1, d1⟩ := hrV.int (k := x.2.length - 1) (by omega)
      have hcl := clN_le x.1
      have hw1 : IntKind.i64.wrap ((x.2.length : Int) - 1) = ((x.2.length - 1 : Nat) : Int) := by rw [wrap_id (by omega)]; omega
      refine br_cases (fun _ => ?_) (fun _ => ?_)
      · refine ⟨_, _, _, bat BV rfl, hp0 _ ⟨_, d0, br_split (fun _ => ret _) (fun _ => ⟨_, bat BV rfl, HasSuffix_spec _ _ (by omega) fun v => ⟨_, rfl, br_cases (fun _ => ⟨_, _, _, bat BV rfl, _, _, _, bat BV rfl, ?_⟩) (fun _ => ret _)⟩⟩)⟩⟩
        rw [hw1]
        exact hp1 _ ⟨_, d1, br_split (fun _ => ret _) (fun _ => ret _)⟩
      · refine ⟨_, bat BV rfl, HasSuffix_spec _ _ (by omega) fun v => ⟨_, rfl, br_cases (fun _ => ⟨_, _, _, bat BV rfl, _, _, _, bat BV rfl, ?_⟩) (fun _ => ret _)⟩⟩
        rw [hw1]
        exact hp1 _ ⟨_, d1, br_split (fun _ => ret _) (fun _ => ret _)⟩
    unfold drw
    have ed := ext_drew w30
    have B61 := (B3.ext e30).ext ed
    have e061 := ext_trans e030 ed
    generalize w30.drew = w61 at *
    have un : ∀ {K : Ending → World → Prop}, (∀ (oa : Option Addr) (on oc : Nat) w', Ext w61 w' → on = clN x.1 → K (.returned (.slice oa on oc)) w') → Calls Tryz.prog 166 ⟨[.string ⟨⟨x.1⟩⟩]⟩ w61 K := fun hK =>
      units_spec x.1 (by omega) fun oa on oc w' e' _ hrow => hK oa on oc w' e' hrow.1
    have fin : ∀ (on : Nat) V, Ext w61 V → on = clN x.1 → br (decide ((x.2.length : Int) ≠ IntKind.i64.wrap ((on : Int) + 1))) (R (.returned (.int .i64 9)) V) (K32 V) := fun on V eV hon => by
      have := clN_le x.1
      rw [wrap_nat (by omega)]
      exact br_split (fun _ => h _ _ (ext_trans e061 eV) fun q => absurd q (by decide)) (fun g => k32 V (ext_trans e061 eV) (B61.ext eV) (by omega))
    have x5 := un (K := fun e w' => ∃ (oa : Option Addr) (on oc : Nat), e = .returned (.slice oa on oc) ∧ br (decide ((x.2.length : Int) ≠ IntKind.i64.wrap ((on : Int) + 1))) (R (.returned (.int .i64 9)) w') (K32 w')) fun oa on oc V eV hon => ⟨_, _, _, rfl, fin on V eV hon⟩
    exact ⟨⟨_, _, _, bat B61 rfl, _, bat B61 rfl, x5, trivial⟩, ⟨⟨_, _, _, bat B61 rfl, _, bat B61 rfl, x5, trivial⟩, ⟨_, bat B61 rfl, ⟨_, _, _, bat B61 rfl, x5, trivial⟩, un fun oa on oc V eV hon => ⟨_, _, _, rfl, _, _, _, bat (B61.ext eV) rfl, fin on V eV hon⟩, trivial⟩, trivial⟩, trivial⟩
theorem hCheck_spec (hP : RowV (View.pair vS (View.sl vI)) S w a n P) (h : ∀ (e : Int) w', Ext w w' → (e = 0 → n ≤ 4096 ∧ ∀ x ∈ P, PatOk x) → (P = [] → e = 0) → R (.returned (.int .i64 e)) w') : Calls Tryz.prog F_hyphenation_Check ⟨[.slice a n c]⟩ w R := by
  apply c_hyphenation_Check
  have hn := hP.1
  refine br_split (fun g => h _ _ (Below.refl _ _) (fun q => absurd q (by decide)) fun q => by subst q; simp at hn; omega) (fun g => ?_)
  refine ⟨fun i W m => ∃ k : Nat, i = k ∧ k ≤ n ∧ m = n - k ∧ (∀ x ∈ P.take k, PatOk x) ∧ Ext w W, ⟨_, 0, rfl, Nat.zero_le _, rfl, fun x hx => by simp at hx, Below.refl _ _⟩, ?_⟩
  rintro _ W m ⟨k, rfl, hk, rfl, hall, eW⟩ _
  refine br_split (fun hlt => ?_) (fun hge => ?_)
  · have hkP : k < P.length := by omega
    obtain ⟨p, la, lc, hp, d1, d2, hlc, hlev⟩ := rowV_pat (hP.ext eW) hkP
    refine hp _ ⟨_, d1, _, _, _, d2, ?_⟩
    refine al_stL rfl (by intro v hv; simp only [List.mem_cons, List.not_mem_nil, or_false] at hv; rcases hv with rfl | rfl <;> rfl) fun b10 w12 hb10 B10 e10 s10 => ?_
    refine ⟨_, bat B10 rfl, _, _, _, bat B10 rfl, checkPattern_spec (x := P[k]) (hlev.ext e10) fun e w16 e16 he => ⟨_, rfl, ?_⟩⟩
    have e016 := ext_trans eW (ext_trans e10 e16)
    refine br_split (fun g2 => h _ _ e016 (fun q => absurd q g2) fun q => by subst q; simp at hkP) (fun g2 => ⟨n - (k + 1), by omega, k + 1, by rw [wrap_nat (by omega)], by omega, rfl, fun x hx => ?_, e016⟩)
    rw [List.take_succ_eq_append_getElem hkP] at hx
    rcases List.mem_append.1 hx with hx | hx
    · exact hall x hx
    · rw [List.mem_singleton] at hx
      subst hx; exact he (Decidable.not_not.1 g2)
  · rw [List.take_of_length_le (by omega)] at hall
    exact h _ _ eW (fun _ => ⟨by omega, hall⟩) fun _ => rfl
theorem Points_spec {wd : List UInt8} (hP : RowV (View.pair vS (View.sl vI)) S w a n P) (hw : wd.length ≤ 1000)
    (h : ∀ (e : Int) (a1 : Option Addr) (n1 c1 : Nat) (O : List Nat) w', Ext w w' → (e = 0 → chainP wd.length 0 O ∧ O.length ≤ 1000 ∧ RowV vI (fun _ => True) w' a1 n1 (ofN O)) → (P = [] → isWordF wd = true → e = 0 ∧ O = []) → R (.returned (.tuple ⟨[.slice a1 n1 c1, .int .i64 e]⟩)) w') :
    Calls Tryz.prog F_hyphenation_Points ⟨[.slice a n c, .string ⟨⟨wd⟩⟩]⟩ w R := by
  apply c_hyphenation_Points
  apply c_hyphenation_check
  refine hCheck_spec hP fun e w4 e4 he he2 => ⟨_, rfl, br_split (fun g1 => ⟨_, rfl, br_pos (by decide) (h 1 none 0 0 [] w4 e4 (fun q => absurd q (by decide)) fun q _ => absurd (he2 q) g1)⟩) (fun g => ?_)⟩
  obtain ⟨hn, hok⟩ := he (Decidable.not_not.1 g)
  refine IsWord_spec wd fun w7 e7 => ⟨_, rfl, br_cases (fun g3 => ⟨_, rfl, br_pos (by decide) (h 11 none 0 0 [] w7 (ext_trans e4 e7) (fun q => absurd q (by decide)) fun _ q => by rw [q] at g3; cases g3)⟩) (fun g2 => ⟨_, rfl, br_neg (by decide) ?_⟩)⟩
  have e07 := ext_trans e4 e7
  have hne : 1 ≤ clN wd := by
    cases wd with
    | nil => exact absurd g2 (by decide)
    | cons x r =>
      unfold clN
      rw [clS, clA_len]; omega
  exact points_spec (hP.ext e07) (by omega) hok hw hne fun a1 n1 c1 a2 n2 c2 O w' e' hch hO hrow hnil => ⟨_, _, _, _, _, _, rfl, h 0 a1 n1 c1 O w' (ext_trans e07 e') (fun _ => ⟨hch, hO, hrow⟩) fun q _ => ⟨rfl, hnil q⟩⟩
end
end Go.Proofs
namespace Go.Proofs
open Go Go.Sh Go.RowKit
/- paragraph: the parts of a word -/
theorem chainP_at {m : Nat} : ∀ {O : List Nat} {f : Nat}, chainP m f O → ∀ k, k < O.length → chainP m (gN O k) (O.drop (k + 1)) ∧ gN O k ≤ m ∧ (k = 0 → f ≤ gN O k) ∧ (0 < k → gN O (k - 1) ≤ gN O k)
  | [], _, _, k, hk => by simp at hk
  | x :: O, f, ⟨h1, h2, h3⟩, 0, _ => ⟨h3, h2, fun _ => h1, fun q => by omega⟩
  | x :: O, f, ⟨h1, h2, h3⟩, k + 1, hk => by
    obtain ⟨g1, g2, g3, g4⟩ := chainP_at h3 k (by simpa using hk)
    refine ⟨g1, g2, fun q => by omega, fun _ => ?_⟩
    cases k with
    | zero => exact g3 rfl
    | succ k => exact g4 (by omega)
theorem chainP_mem {m : Nat} : ∀ {O : List Nat} {f : Nat}, chainP m f O → ∀ x ∈ O, x ≤ m
  | [], _, _, x, hx => by cases hx
  | y :: O, f, ⟨_, h2, h3⟩, x, hx => (List.mem_cons.1 hx).elim (fun e => e ▸ h2) (fun q => chainP_mem h3 x q)
section
variable {R : Ending → World → Prop} {S : Nat → Prop} {w : World} {a : Option Addr} {n c : Nat} {P : List (List UInt8 × List Int)}
set_option maxRecDepth 20000 in
theorem parts_spec {wd : List UInt8} (hP : RowV (View.pair vS (View.sl vI)) S w a n P) (hw : wd.length ≤ 1000)
    (h : ∀ (e : Int) (a1 : Option Addr) (n1 c1 : Nat) (L : List (List UInt8)) w', Ext w w' → (e = 0 → L.flatten = wd ∧ L.length ≤ 1001 ∧ RowV vS (fun k => w.heap.size ≤ k) w' a1 n1 L) → (P = [] → e = 0 ∧ L = [wd]) → R (.returned (.tuple ⟨[.slice a1 n1 c1, .int .i64 e]⟩)) w') :
    Calls Tryz.prog F_paragraph_parts ⟨[.slice a n c, .string ⟨⟨wd⟩⟩]⟩ w R := by
  apply c_paragraph_parts
  refine IsWord_spec wd fun w4 e4 => ⟨_, rfl, br_cases (fun _ => ?_) (fun gw => ?_)⟩
  · refine al_intro fun b6 w7 hb6 B6 e7 s7 => ?_
    refine h 0 _ 1 1 [wd] w7 (ext_trans e4 e7) (fun _ => ⟨by simp, (by decide : (1 : Nat) ≤ 1001), (rowV_enc.2 (rowAt_b (E := Sh.encStr) (l := [wd]) B6)).imp fun k hk _ => by have hk : k = b6 := hk; have := e4.size; omega⟩) fun _ => ⟨rfl, rfl⟩
  refine Points_spec (hP.ext e4) hw fun e a1 n1 c1 O w9 e9 he hnil => ⟨_, _, _, _, rfl, ?_⟩
  have e09 := ext_trans e4 e9
  have hwf : isWordF wd = true := by
    cases hx : isWordF wd with
    | true => rfl
    | false => rw [hx] at gw; cases gw
  refine br_split (fun g => h e none 0 0 [] w9 e09 (fun q => absurd q g) fun q => absurd (hnil q hwf).1 g) (fun g => ?_)
  obtain ⟨hch, hO, hrow⟩ := he (Decidable.not_not.1 g)
  have hn1 := hrow.1
  rw [ofN_len] at hn1
  refine CloneI_spec hrow (by omega) fun a14 c14 w13 ho e13 => ⟨_, _, _, rfl, ?_⟩
  have hoL := ownV_enc.1 ho
  have z13 := e13.size
  refine OwnL.push (E := Sh.encI) slT_i hoL z13 (wd.length : Int) (by omega) (by omega) fun a17 c17 w18 ho17 hcc hnn => ?_
  have e918 : Ext w9 w18 := ext_own e13 hcc fun j hj => (Owns.bk hoL hj).1
  have e018 := ext_trans e09 e918
  have hOO : chainP wd.length 0 (O ++ [wd.length]) := chainP_snoc hch (Nat.zero_le _) (chainP_mem hch) (Nat.le_refl _)
  rw [← ofN_snoc] at ho17
  have hlast : gN (O ++ [wd.length]) O.length = wd.length := by
    unfold gN
    rw [List.getD_eq_getElem?_getD, List.getElem?_append_right (Nat.le_refl _), Nat.sub_self]; rfl
  have hlen : (O ++ [wd.length]).length = O.length + 1 := by rw [List.length_append]; rfl
  generalize O ++ [wd.length] = OO at *
  have hrow17 : RowV vI (fun j => bk a17 j) w18 a17 (n1 + 1) (ofN OO) := rowV_enc.2 (OwnL.out ho17)
  have hrow17 := hrow17.imp (S' := fun _ => True) fun _ _ _ => trivial
  refine ⟨fun oa on oc at_ i W m => ∃ (k f : Nat) (L : List (List UInt8)), i = k ∧ at_ = f ∧ k ≤ OO.length ∧ m = OO.length - k ∧ L.length = k ∧ L.flatten = wd.take f ∧ (k = 0 → f = 0) ∧ (0 < k → f = gN OO (k - 1)) ∧ OwnL Sh.encStr W w18.heap.size 9 oa on oc L ∧ Ext w18 W,
    ⟨_, 0, 0, [], rfl, rfl, Nat.zero_le _, rfl, rfl, by simp, fun _ => rfl, fun q => by omega, Owns.nil _ _ 9 1, Below.refl _ _⟩, ?_⟩
  rintro oa on oc _ _ W m ⟨k, f, L, rfl, rfl, hk, rfl, hL, hfl, hf0, hf1, hOw, eW⟩ _
  have hon : L.length = on := OwnL.length hOw
  refine br_split (fun hlt => ?_) (fun hge => ?_)
  · have hkO : k < OO.length := by omega
    obtain ⟨_, g2, g3, g4⟩ := chainP_at hOO k hkO
    obtain ⟨p, hp, d⟩ := (hrow17.ext eW).int (k := k) (by rw [ofN_len]; exact hkO)
    rw [ofN_get hkO] at d
    have hfx : f ≤ gN OO k := by
      rcases Nat.eq_zero_or_pos k with hz | hz
      · rw [hf0 hz]; exact Nat.zero_le _
      · rw [hf1 hz]; exact g4 hz
    refine hp _ ⟨_, d, ssl_nat hfx g2 ?_⟩
    refine OwnL.push (E := Sh.encStr) slT_s hOw eW.size ((wd.take (gN OO k)).drop f) (by omega) (by omega) fun a31 c31 w32 ho31 hcc31 hnn31 => ?_
    refine ⟨OO.length - (k + 1), by omega, k + 1, gN OO k, _, by rw [wrap_nat (by omega)], rfl, by omega, rfl, by rw [List.length_append, hL]; rfl, ?_, fun q => by omega, fun _ => by rw [Nat.add_sub_cancel], ho31, ext_own eW hcc31 fun j hj => (Owns.bk hOw hj).1⟩
    rw [List.flatten_append, hfl]
    have : wd.take f = (wd.take (gN OO k)).take f := by rw [List.take_take, Nat.min_eq_left hfx]
    rw [this]
    simp
  · have hkO : k = O.length + 1 := by omega
    have hf := hf1 (by omega)
    rw [hkO, Nat.add_sub_cancel, hlast] at hf
    have hflw : L.flatten = wd := by rw [hfl, hf, List.take_length]
    refine h 0 oa on oc L W (ext_trans e018 eW) (fun _ => ⟨hflw, by omega, (rowV_enc.2 (OwnL.out hOw)).imp fun k hk _ => by have := (Owns.bk hOw hk).1; have := e018.size; omega⟩) fun q => ⟨rfl, ?_⟩
    have hO0 := (hnil q hwf).2
    rw [hO0] at hkO
    rw [hkO] at hL
    match L, hL, hflw with
    | [x], _, hx => simpa using hx
end
end Go.Proofs
namespace Go.Proofs
open Go Go.Sh Go.RowKit
/- paragraph.Items -/
structure Wd where
  t : List UInt8
  c : Int
  u : Int
  d : Int
  j : Bool
  v : Bool
  n : List UInt8
abbrev Wd.cs (x : Wd) : List Value := [.string ⟨⟨x.t⟩⟩, .int .i64 x.c, .int .i64 x.u, .int .i64 x.d, .bool x.j, .bool x.v, .string ⟨⟨x.n⟩⟩]
theorem one_wd (x : Wd) : ∀ v ∈ x.cs, v.oneCell' = true := by
  intro v hv
  simp only [List.mem_cons, List.not_mem_nil, or_false] at hv
  rcases hv with rfl | rfl | rfl | rfl | rfl | rfl | rfl <;> rfl
def encWd : Enc Wd := ⟨fun x => x.cs, 7, fun _ => rfl, by decide, one_wd⟩
abbrev vWd : View Wd := View.enc encWd
theorem slT_it : SlT Tryz.prog 31 146 6 56 (.agg ⟨[.int .i64 0, .int .i64 0, .int .i64 0, .int .i64 0, .int .i64 0, .string ⟨⟨[]⟩⟩]⟩) := ⟨by kernel_rfl, by kernel_rfl, rfl, by decide⟩
structure Sty where
  a0 : Int
  a1 : Int
  a2 : Int
  a3 : Int
  a4 : Int
  sp : Int
  st : Int
  sh : Int
  le : Int
  hy : Int
  ev : Int
  po : Slv
  la : Slv
abbrev Sty.cs (s : Sty) : List Value := [.int .i64 s.a0, .int .i64 s.a1, .int .i64 s.a2, .int .i64 s.a3, .int .i64 s.a4, .int .i64 s.sp, .int .i64 s.st, .int .i64 s.sh, .int .i64 s.le, .int .i64 s.hy, .int .i64 s.ev, .slice s.po.1 s.po.2.1 s.po.2.2, .slice s.la.1 s.la.2.1 s.la.2.2]
structure MadeN (s : Sty) (x : It) : Prop where
  ok : (x.k = 1 ∧ x.w = s.le * (clN x.tx : Int) ∧ x.sh = 0 ∧ x.st = 0 ∧ x.pen = 0) ∨ (x.k = 2 ∧ x.w = s.sp ∧ x.sh = s.sh ∧ x.pen = 0 ∧ x.tx = []) ∨ (x.k = 3 ∧ x.sh = 0 ∧ x.st = 0 ∧ ((x.w = s.le ∧ x.tx = [61]) ∨ (x.w = 0 ∧ x.tx = [])))
def textW (W : List Wd) : List UInt8 := (W.map (·.t)).flatten
structure ItmR (s : Sty) (W : List Wd) (l : List It) : Prop where
  made : ∀ x ∈ l, MadeN s x
  text : l.flatMap boxT = textW W
theorem made_snoc {s : Sty} {l : List It} {x : It} (h : ∀ y ∈ l, MadeN s y) (hx : MadeN s x) : ∀ y ∈ l ++ [x], MadeN s y := fun y hy => by
  rcases List.mem_append.1 hy with hy | hy
  · exact h y hy
  · rw [List.mem_singleton] at hy
    subst hy; exact hx
def badW (x : Wd) : Bool := decide (x.t.length = 0) || decide (64 < x.t.length)
section
variable {R : Ending → World → Prop} {S S2 : Nat → Prop} {w : World} {a a2 : Option Addr} {n c n2 c2 : Nat} {P : List (List UInt8 × List Int)} {W0 : List Wd}
theorem rowV_wd (h : RowV vWd S w a n W0) {i : Nat} (hi : i < W0.length) : ∃ p : Addr, (∀ K : Addr → Prop, K p → idx a n (i : Int) 7 K) ∧ ∀ (j : Nat) (v : Value), W0[i].cs[j]? = some v → w.cell? (p.add j) = some v := by
  obtain ⟨b, o, us, h1, _, _, h2, h3⟩ := h.get (List.getElem?_eq_getElem hi)
  have h2 : us = W0[i].cs := h2
  subst h2
  exact ⟨⟨b, o, none⟩, h1, fun j v hv => by rw [add_none]; exact h3 j v hv⟩
theorem ContainsW_spec {f : FuncId} {q : Wd → Bool} (h1 : RowV vWd S w a n W0) (hs : n ≤ 4611686018427387904) (hp : ∀ x ∈ W0, ∀ (V : World) (K : Ending → World → Prop), (∀ V', Ext V V' → K (.returned (.bool (q x))) V') → CallV Tryz.prog (.func (.func f) #[] #[]) [.agg ⟨x.cs⟩] V K)
    (h : ∀ w', Ext w w' → R (.returned (.bool (W0.any q))) w') : Calls Tryz.prog F_slices_ContainsFunc_of_api_Word_api_Word ⟨[.slice a n c, .func (.func f) #[] #[]]⟩ w R := by
  apply c_slices_ContainsFunc_of_api_Word_api_Word
  apply c_slices_IndexFunc_of_api_Word_api_Word
  have hn := h1.1
  refine ⟨fun i W m => ∃ k : Nat, i = k ∧ k ≤ n ∧ m = n - k ∧ (∀ x ∈ W0.take k, q x = false) ∧ Ext w W, ⟨_, 0, rfl, by omega, rfl, by simp, Below.refl _ _⟩, ?_⟩
  rintro _ W m ⟨k, rfl, hk, rfl, hno, he⟩ _
  refine br_split (fun hlt => ?_) (fun hge => ?_)
  · have hkL : k < W0.length := by omega
    obtain ⟨p, hp1, hd⟩ := rowV_wd (h1.ext he) hkL
    refine hp1 _ ⟨_, hd 0 _ rfl, _, hd 1 _ rfl, _, hd 2 _ rfl, _, hd 3 _ rfl, _, hd 4 _ rfl, _, hd 5 _ rfl, _, hd 6 _ rfl, hp _ (List.getElem_mem hkL) W _ fun W' e' => ⟨_, rfl, br_cases (fun g => ⟨_, rfl, ?_⟩) (fun g => ?_)⟩⟩
    · have := h W' (ext_trans he e')
      rw [← ixF_ge, ixF_at hkL g hno] at this; exact this
    · exact ⟨n - (k + 1), by omega, k + 1, by rw [wrap_nat (by omega)], by omega, rfl, no_take hkL g hno, ext_trans he e'⟩
  · rw [List.take_of_length_le (by omega)] at hno
    have := h W he
    rw [← ixF_ge, ixF_no hno] at this
    exact ⟨_, rfl, this⟩
theorem badW_call {x : Wd} {V : World} {K : Ending → World → Prop} (h : ∀ V', Ext V V' → K (.returned (.bool (badW x))) V') : CallV Tryz.prog (.func (.func 77) #[] #[]) [.agg ⟨x.cs⟩] V K := by
  refine ⟨by kernel_rfl, ?_⟩
  apply c_paragraph_Items_1
  refine al_intro fun b8 w9 hb8 B8 e8 s8 => ?_
  have := h w9 e8
  unfold badW at this
  refine ⟨_, bat B8 rfl, br_split (fun g => ?_) (fun g => ⟨_, bat B8 rfl, ?_⟩)⟩
  · rw [decide_eq_true (by rw [g]; rfl), Bool.true_or] at this; exact this
  · rw [decide_eq_false (fun q => g (List.eq_nil_of_length_eq_zero q)), Bool.false_or] at this
    rw [decide_eq_decide.2 (show (64 : Int) < (x.t.length : Int) ↔ 64 < x.t.length by omega)]
    exact this
end
end Go.Proofs
namespace Go.Proofs
open Go Go.Sh Go.RowKit
def sepF (s : Sty) (first : Bool) (x : Wd) : List It := if first then [] else if x.v then [⟨3, 0, 0, 0, -10000, []⟩] else if x.j then [] else [⟨2, s.sp, s.st, s.sh, 0, []⟩]
def wdF (s : Sty) (first : Bool) (x : Wd) : List It := sepF s first x ++ [⟨1, s.le * (clN x.t : Int), 0, 0, 0, x.t⟩]
def itemsF (s : Sty) : Bool → List Wd → List It
  | _, [] => []
  | b, x :: r => wdF s b x ++ itemsF s false r
theorem itemsF_app (s : Sty) : ∀ (a c : List Wd) (b : Bool), itemsF s b (a ++ c) = itemsF s b a ++ itemsF s (b && a.isEmpty) c
  | [], c, b => by simp [itemsF]
  | x :: a, c, b => by
    rw [List.cons_append, itemsF, itemsF, itemsF_app s a c false]
    simp
structure ZI (s : Sty) (P : List (List UInt8 × List Int)) (W0 : List Wd) : Prop where
  p : P = []
  le : okN s.le
  sp : okN s.sp
  st : okN s.st
  sh : okN s.sh
  hy : 0 ≤ s.hy ∧ s.hy ≤ 10000
  n : W0.length ≤ 4096
  bad : W0.any badW = false
  its : Its (itemsF s true W0)
section
variable {R : Ending → World → Prop} {S S2 : Nat → Prop} {w : World} {a a2 : Option Addr} {n c n2 c2 : Nat} {P : List (List UInt8 × List Int)} {W0 : List Wd}
theorem al_and {w : World} {T : TypeId} {cs : List Value} {A : Addr → World → Prop} (h : al w T cs A) : al w T cs fun p w1 => A p w1 ∧ True := ⟨h, trivial⟩
theorem flat_snoc (l : List It) (x : It) : (l ++ [x]).flatMap boxT = l.flatMap boxT ++ boxT x := by rw [List.flatMap_append]; simp
theorem row_push {a1 oa a' : Option Addr} {n1 : Nat} {L : List (List UInt8)} {U w' : World} (h : RowV vS (fun j => ¬ bk oa j) U a1 n1 L) (hc : Chg (bk oa) U w') (hn : ∀ j, bk a' j → bk oa j ∨ U.heap.size ≤ j) : RowV vS (fun j => ¬ bk a' j) w' a1 n1 L :=
  ((h.imp (S' := fun j => ¬ bk oa j ∧ j < U.heap.size) fun j hj hl => ⟨hj, hl⟩).chg hc fun j hj _ => hj.1).imp fun j hj _ hb => (hn j hb).elim hj.1 fun q => by have := hj.2; omega
set_option maxHeartbeats 2000000 in
set_option maxRecDepth 20000 in
theorem Items_spec {s : Sty} (hP : RowV (View.pair vS (View.sl vI)) S w a n P) (hW : RowV vWd S2 w a2 n2 W0) (hs2 : n2 ≤ 4611686018427387904)
    (h : ∀ (e : Int) (oa : Option Addr) (on oc : Nat) (l : List It) w', Ext w w' → (e = 0 → okN s.le ∧ okN s.sp ∧ okN s.st ∧ okN s.sh ∧ Its l ∧ ItmR s W0 l ∧ on ≤ oc ∧ RowV vIt (fun _ => True) w' oa on l) → (ZI s P W0 → e = 0 ∧ l = itemsF s true W0) → R (.returned (.tuple ⟨[.slice oa on oc, .int .i64 e]⟩)) w') :
    Calls Tryz.prog F_paragraph_Items ⟨[.agg ⟨s.cs⟩, .slice a n c, .slice a2 n2 c2]⟩ w R := by
  apply c_paragraph_Items
  have hn2 := hW.1
  refine al_intro fun b16 w17 hb16 B16 e17 s17 => ?_
  have no : ∀ (e : Int) V, Ext w17 V → e ≠ 0 → ¬ ZI s P W0 → R (.returned (.tuple ⟨[.slice none 0 0, .int .i64 e]⟩)) V := fun e V eV he hz => h e none 0 0 [] V (ext_trans e17 eV) (fun q => absurd q he) fun q => absurd q hz
  intro K18 hK18
  have k18 : okN s.le → okN s.sp → okN s.st → okN s.sh → K18 w17 := by
    intro o1 o2 o3 o4
    refine hK18 w17 fun _ => ?_
    intro K20 hK20
    have k20 : ∀ V, Ext w17 V → (∀ x ∈ W0, x.t.length ≤ 64) → K20 V := by
      intro V0 eV0 hw64
      refine hK20 V0 fun _ => br_split (fun g4 => no _ _ eV0 (by decide) fun z => by have := z.n; omega) (fun hn4 => ?_)
      refine ⟨fun oa on oc i W m => ∃ (k : Nat) (l : List It), i = k ∧ k ≤ n2 ∧ m = n2 - k ∧ (∀ x ∈ l, MadeN s x) ∧ l.flatMap boxT = textW (W0.take k) ∧ on ≤ 3000 * k ∧ OwnL encIt W w17.heap.size 146 oa on oc l ∧ Ext w17 W ∧ (P = [] → l = itemsF s true (W0.take k)),
        ⟨_, 0, [], rfl, Nat.zero_le _, rfl, fun x hx => (by cases hx), rfl, Nat.zero_le _, Owns.nil _ _ 146 6, eV0, fun _ => rfl⟩, ?_⟩
      rintro oa on oc _ W m ⟨k, l, rfl, hk, rfl, hmade, htx, hon, hO, eW, hZ⟩ _
      have e0W := ext_trans e17 eW
      refine br_split (fun hlt => ?_) (fun hge => ?_)
      · have hkW : k < W0.length := by omega
        obtain ⟨p, hp, hd⟩ := rowV_wd (hW.ext e0W) hkW
        have h64 := hw64 _ (List.getElem_mem hkW)
        refine hp _ ⟨_, hd 0 _ rfl, _, hd 1 _ rfl, _, hd 2 _ rfl, _, hd 3 _ rfl, _, hd 4 _ rfl, _, hd 5 _ rfl, _, hd 6 _ rfl, ?_⟩
        refine al_stL rfl (one_wd _) fun b36 w38 hb36 B36 e38 s38 => ?_
        have eW38 := ext_trans eW e38
        have B36 : Blk w38 b36 W0[k].cs 36 := B36
        have hO38 := Owns.ext hO e38
        have z38 := eW38.size
        have hnb36 : ¬ bk oa b36 := fun hh => by have := (Owns.bk hO hh).2; omega
        intro K39 hK39
        have k39 : ∀ (oa : Option Addr) (on oc : Nat) (V : World) (l : List It), (∀ x ∈ l, MadeN s x) → l.flatMap boxT = textW (W0.take k) → on ≤ 3000 * k + 1 → OwnL encIt V w17.heap.size 146 oa on oc l → Ext w17 V → Blk V b36 W0[k].cs 36 → (P = [] → l = itemsF s true (W0.take k) ++ sepF s (k == 0) W0[k]) → K39 oa on oc V := by
          intro oa on oc V l hmade htx hon hO eV B36 hZ
          refine hK39 _ _ _ _ fun _ => ?_
          refine ⟨_, bat B36 rfl, parts_spec (hP.ext (ext_trans e17 eV)) (by omega) fun e a1 n1 c1 L w44 e44 he hz => ⟨_, _, _, _, rfl, ?_⟩⟩
          have e1744 := ext_trans eV e44
          refine br_split (fun g => no _ _ e1744 g fun z => g (hz z.p).1) (fun g => ?_)
          obtain ⟨hfl, hLl, hrow⟩ := he (Decidable.not_not.1 g)
          have hn1 := hrow.1
          have hrow0 : RowV vS (fun j => ¬ bk oa j) w44 a1 n1 L := hrow.imp fun j hj _ hb => by have := (Owns.bk hO hb).2; omega
          refine ⟨fun oa on oc i U m => ∃ (q : Nat) (l : List It), i = q ∧ q ≤ n1 ∧ m = n1 - q ∧ (∀ x ∈ l, MadeN s x) ∧ l.flatMap boxT = textW (W0.take k) ++ (L.take q).flatten ∧ on ≤ 3000 * k + 1 + 2 * q ∧ OwnL encIt U w17.heap.size 146 oa on oc l ∧ Ext w17 U ∧ RowV vS (fun j => ¬ bk oa j) U a1 n1 L ∧ (P = [] → l = itemsF s true (W0.take k) ++ sepF s (k == 0) W0[k] ++ (if q = 0 then [] else [⟨1, s.le * (clN W0[k].t : Int), 0, 0, 0, W0[k].t⟩])),
            ⟨_, 0, l, rfl, Nat.zero_le _, rfl, hmade, by simp [htx], by omega, Owns.ext hO e44, e1744, hrow0, fun q => by rw [if_pos rfl, List.append_nil]; exact hZ q⟩, ?_⟩
          rintro oa on oc _ U m ⟨q, l, rfl, hq, rfl, hmade, htx, hon, hO, eU, hrU, hZq⟩ _
          have zU := eU.size
          have B16U := B16.ext eU
          refine br_split (fun hlt2 => ?_) (fun hge2 => ?_)
          · have hqL : q < L.length := by omega
            obtain ⟨pp, hpp, dd⟩ := hrU.str hqL
            refine hpp _ ⟨_, dd, ?_⟩
            have hl64 : (L[q]).length ≤ 64 := by
              have h1 : (L[q]).length ≤ (L.flatten).length := by
                have e1 : L.flatten = (L.take q).flatten ++ (L[q] ++ (L.drop (q + 1)).flatten) := by
                  conv => lhs; rw [← List.take_append_drop q L]
                  rw [List.flatten_append, List.drop_eq_getElem_cons hqL, List.flatten_cons]
                rw [e1, List.length_append, List.length_append]; omega
              rw [hfl] at h1
              omega
            have hcl64 : clN L[q] ≤ 64 := by
              have := clN_le L[q]
              omega
            have hb : 0 ≤ s.le * (clN L[q] : Int) ∧ s.le * (clN L[q] : Int) ≤ 1073741824 * 64 := ⟨Int.mul_nonneg o1.1 (by omega), Int.mul_le_mul o1.2 (by omega) (by omega) (by omega)⟩
            intro K55 hK55
            have k55 : ∀ (oa : Option Addr) (on oc : Nat) (V : World) (l : List It), (∀ x ∈ l, MadeN s x) → l.flatMap boxT = textW (W0.take k) ++ (L.take q).flatten → on ≤ 3000 * k + 1 + 2 * q + 1 → OwnL encIt V w17.heap.size 146 oa on oc l → Ext w17 V → RowV vS (fun j => ¬ bk oa j) V a1 n1 L → (P = [] → l = itemsF s true (W0.take k) ++ sepF s (k == 0) W0[k]) → K55 oa on oc V := by
              intro oa on oc V l hmade htx hon hO eV hrV hZ5
              refine hK55 _ _ _ _ fun _ => ?_
              unfold drw
              have ed := ext_drew V
              have hO := Owns.ext hO ed
              have hrV := hrV.ext ed
              have eV := ext_trans eV ed
              generalize V.drew = w58 at *
              have B1658 := B16.ext eV
              have done : ∀ (cn : Nat) (U2 : World), cn = clN L[q] → Ext w58 U2 → al U2 146 [.int .i64 1, .int .i64 (IntKind.i64.wrap (s.le * (cn : Int))), .int .i64 0, .int .i64 0, .int .i64 0, .string ⟨⟨L[q]⟩⟩] fun p63 w64 => app Tryz.prog [31, 31] 31 (.slice oa on oc) (.slice (some p63) 1 1) w64 fun a65 a65n a65c w66 =>
                  ∃ m67 : Nat, m67 < n1 - q ∧ ∃ (q' : Nat) (l : List It), IntKind.i64.wrap ((q : Int) + 1) = q' ∧ q' ≤ n1 ∧ m67 = n1 - q' ∧ (∀ x ∈ l, MadeN s x) ∧ l.flatMap boxT = textW (W0.take k) ++ (L.take q').flatten ∧ a65n ≤ 3000 * k + 1 + 2 * q' ∧ OwnL encIt w66 w17.heap.size 146 a65 a65n a65c l ∧ Ext w17 w66 ∧ RowV vS (fun j => ¬ bk a65 j) w66 a1 n1 L ∧ (P = [] → l = itemsF s true (W0.take k) ++ sepF s (k == 0) W0[k] ++ (if q' = 0 then [] else [⟨1, s.le * (clN W0[k].t : Int), 0, 0, 0, W0[k].t⟩])) := by
                intro cn U2 hcn eU2
                subst hcn
                rw [wrap_id (by omega)]
                have eU2' := ext_trans eV eU2
                have hO2 := Owns.ext hO eU2
                refine OwnL.push (E := encIt) slT_it hO2 eU2'.size ⟨1, s.le * (clN L[q] : Int), 0, 0, 0, L[q]⟩ (by omega) (by omega) fun a' c' w66 ho hcc hnn => ?_
                refine ⟨n1 - (q + 1), by omega, q + 1, _, by rw [wrap_nat (by omega)], by omega, rfl, made_snoc hmade ⟨.inl ⟨rfl, rfl, rfl, rfl, rfl⟩⟩, ?_, by omega, ho, ext_own eU2' hcc fun j hj => (Owns.bk hO2 hj).1, row_push (hrV.ext eU2) hcc hnn, fun z => ?_⟩
                rotate_left
                · have hLz := (hz z).2
                  rw [if_neg (by omega), hZ5 z]
                  congr 1
                  subst hLz
                  have hq0 : q = 0 := by simp at hqL; omega
                  subst hq0; rfl
                rw [flat_snoc, htx, List.take_succ_eq_append_getElem hqL, List.flatten_append, List.append_assoc]
                simp [boxT]
              refine ⟨⟨_, bat B1658 rfl, Clusters_spec _ (by omega) fun ca cn cc V2 e2 _ hr => ⟨_, _, _, rfl, al_and (done cn V2 hr.1 e2), trivial⟩, trivial⟩, Clusters_spec _ (by omega) fun ca cn cc V2 e2 _ hr => ⟨_, _, _, rfl, _, bat (B1658.ext e2) rfl, al_and (done cn V2 hr.1 e2), trivial⟩, trivial⟩
            refine br_split (fun gq0 => ?_) (fun gq => k55 oa on oc U l hmade htx (by omega) hO eU hrU fun z => by rw [hZq z, if_pos (by omega), List.append_nil])
            refine ⟨_, bat B16U rfl, _, bat B16U rfl, ?_⟩
            refine OwnL.push (E := encIt) slT_it hO zU ⟨3, s.le, 0, 0, s.hy, [61]⟩ (by omega) (by omega) fun a' c' w82 ho hcc hnn => ?_
            refine k55 a' _ c' w82 _ (made_snoc hmade ⟨.inr (.inr ⟨rfl, rfl, rfl, .inl ⟨rfl, rfl⟩⟩)⟩) ?_ (by omega) ho (ext_own eU hcc fun j hj => (Owns.bk hO hj).1) (row_push hrU hcc hnn) (fun z => ?_)
            · rw [flat_snoc, htx]; simp [boxT]
            · exfalso
              have hLz := (hz z).2
              rw [hLz] at hqL; simp at hqL; omega
          · have hqL : q = L.length := by omega
            subst hqL
            rw [List.take_length, hfl] at htx
            refine ⟨n2 - (k + 1), by omega, k + 1, l, by rw [wrap_nat (by omega)], by omega, rfl, hmade, ?_, by omega, hO, eU, fun z => ?_⟩
            rotate_left
            · have hLz := (hz z).2
              rw [hZq z, hLz, if_neg (by simp), List.take_succ_eq_append_getElem hkW, itemsF_app]
              have : (true && (W0.take k).isEmpty) = (k == 0) := by
                cases k with
                | zero => rfl
                | succ k => cases W0 with
                  | nil => simp at hkW
                  | cons x r => rfl
              rw [this]
              simp [itemsF, wdF]
            rw [htx, List.take_succ_eq_append_getElem hkW]
            unfold textW
            rw [List.map_append, List.flatten_append]; simp
        have push39 : ∀ (x : It), MadeN s x → boxT x = [] → sepF s (k == 0) W0[k] = [x] → al w38 146 (encIt.enc x) fun p w1 => app Tryz.prog [31, 31] 31 (.slice oa on oc) (.slice (some p) 1 1) w1 fun a87 a87n a87c w88 => K39 a87 a87n a87c w88 := fun x hx hbx hsx => by
          refine OwnL.push (E := encIt) slT_it hO38 z38 x (by omega) (by omega) fun a' c' w88 ho hcc hnn => ?_
          exact k39 a' _ c' w88 _ (made_snoc hmade hx) (by rw [flat_snoc, htx, hbx, List.append_nil]) (by omega) ho (ext_own eW38 hcc fun j hj => (Owns.bk hO hj).1) (hcc.blk B36 hnb36) (fun z => by rw [hZ z, hsx])
        have k0 : sepF s (k == 0) W0[k] = [] → K39 oa on oc w38 := fun hs => k39 oa on oc w38 l hmade htx (by omega) hO38 eW38 B36 fun z => by rw [hZ z, hs, List.append_nil]
        have sep1 : ¬ k = 0 → sepF s (k == 0) W0[k] = if W0[k].v then [⟨3, 0, 0, 0, -10000, []⟩] else if W0[k].j then [] else [⟨2, s.sp, s.st, s.sh, 0, []⟩] := fun hk0 => by
          unfold sepF
          rw [show (k == 0) = false by simpa using hk0]; rfl
        refine br_split (fun g0 => k0 (by have hk0 : k = 0 := by omega
                                          subst hk0; rfl)) (fun g0 => ⟨_, bat B36 rfl, br_cases (fun gv => push39 ⟨3, 0, 0, 0, -10000, []⟩ ⟨.inr (.inr ⟨rfl, rfl, rfl, .inr ⟨rfl, rfl⟩⟩)⟩ rfl (by rw [sep1 (by omega), if_pos gv])) (fun gv => ⟨_, bat B36 rfl, br_cases (fun gj => ?_) (fun gj => k0 (by rw [sep1 (by omega), if_neg (by rw [gv]; decide), if_pos (by simpa using gj)]))⟩)⟩)
        have B1638 := B16.ext eW38
        exact ⟨_, bat B1638 rfl, _, bat B1638 rfl, _, bat B1638 rfl, push39 ⟨2, s.sp, s.st, s.sh, 0, []⟩ ⟨.inr (.inl ⟨rfl, rfl, rfl, rfl, rfl⟩)⟩ rfl (by rw [sep1 (by omega), if_neg (by rw [gv]; decide), if_neg (by simpa using gj)])⟩
      · rw [List.take_of_length_le (by omega)] at htx hZ
        have hrow : RowV vIt (fun _ => True) W oa on l := (rowV_enc.2 (OwnL.out hO)).imp fun _ _ _ => trivial
        refine pCheck_spec hrow fun e w98 e98 he => ⟨_, rfl, br_split (fun g => no _ _ (ext_trans eW e98) (by decide) fun z => g (he.2 (by rw [hZ z.p]; exact z.its))) (fun g => ?_)⟩
        exact h 0 oa on oc l w98 (ext_trans e0W e98) (fun _ => ⟨o1, o2, o3, o4, he.1 (Decidable.not_not.1 g), ⟨hmade, htx⟩, ((ownV_enc (S := fun _ => True)).2 hO).cap, hrow.ext e98⟩) fun z => ⟨rfl, hZ z.p⟩
    refine hCheck_spec (hP.ext e17) fun e w101 e101 _ he2 => ⟨_, rfl, br_split (fun g => no _ _ e101 (by decide) fun z => g (he2 z.p)) (fun _ => ?_)⟩
    refine ContainsW_spec (q := badW) (hW.ext (ext_trans e17 e101)) hs2 (fun x _ V K hK => badW_call hK) fun w104 e104 => ⟨_, rfl, br_cases (fun gb => no _ _ (ext_trans e101 e104) (by decide) fun z => by rw [z.bad] at gb; cases gb) (fun g => k20 w104 (ext_trans e101 e104) fun x hx => ?_)⟩
    have := List.any_eq_false.1 g x hx
    unfold badW at this
    simp only [Bool.or_eq_true, decide_eq_true_eq, not_or] at this
    omega
  have ln : ∀ {v : Int} {A B : Prop}, (okN v → B) → (¬ okN v → A) → br (!decide (okN v)) A B := fun {v A B} hB hA => br_cases (fun g => hA fun q => by rw [decide_eq_true q] at g; cases g) (fun g => hB (Decidable.byContradiction fun q => by rw [decide_eq_false q] at g; cases g))
  have n0 := fun hz => no 2 w17 (Below.refl _ _) (by decide) hz
  refine ⟨_, bat B16 rfl, plength_spec _ ⟨_, rfl, ln (fun o1 => ⟨_, bat B16 rfl, plength_spec _ ⟨_, rfl, ln (fun o2 => ⟨_, bat B16 rfl, plength_spec _ ⟨_, rfl, ln (fun o3 => ⟨_, bat B16 rfl, plength_spec _ ⟨_, rfl, ln (fun o4 => ⟨_, bat B16 rfl, br_split (fun g => n0 fun z => by have := z.hy; omega) (fun _ => ⟨_, bat B16 rfl, br_split (fun g => n0 fun z => by have := z.hy; omega) (fun _ => k18 o1 o2 o3 o4)⟩)⟩) fun g => n0 fun z => g z.sh⟩⟩) fun g => n0 fun z => g z.st⟩⟩) fun g => n0 fun z => g z.sp⟩⟩) fun g => n0 fun z => g z.le⟩⟩
end
end Go.Proofs
namespace Go.Proofs
open Go Go.Sh Go.RowKit
/- the items of a setting, within the sizes of the theorems -/
section
variable {R : Ending → World → Prop} {S S2 : Nat → Prop} {w : World} {a a2 : Option Addr} {n c n2 c2 : Nat} {P : List (List UInt8 × List Int)} {W0 : List Wd} {l : List It}
theorem Great48_spec (h1 : RowV vIt S w a n l) (hs : n ≤ 4611686018427387904) (h : ∀ v : Bool, (v = false → l.length ≤ 14 ∧ ∀ x ∈ l, x.tx.length ≤ 20) → R (.returned (.bool v)) w) : Calls Tryz.prog F_ref48_Great ⟨[.slice a n c]⟩ w R := by
  apply c_ref48_Great
  have hn := h1.1
  refine ⟨fun i W m => ∃ k : Nat, i = k ∧ k ≤ n ∧ m = n - k ∧ W = w ∧ ∀ x ∈ l.take k, x.tx.length ≤ 20, ⟨_, 0, rfl, by omega, rfl, rfl, by simp⟩, ?_⟩
  rintro _ W m ⟨k, rfl, hk, rfl, rfl, hall⟩ _
  refine br_split (fun hlt => ?_) (fun hge => ?_)
  · have hkl : k < l.length := by omega
    obtain ⟨p, hp, hI⟩ := rowV_itm h1 hkl
    refine hp _ ⟨_, hI.tx, br_split (fun _ => h true fun q => by cases q) (fun g => ⟨n - (k + 1), by omega, k + 1, by rw [wrap_nat (by omega)], by omega, rfl, rfl, fun x hx => ?_⟩)⟩
    rw [List.take_succ_eq_append_getElem hkl] at hx
    rcases List.mem_append.1 hx with hx | hx
    · exact hall x hx
    · rw [List.mem_singleton] at hx
      subst hx
      rw [gIt_at hkl] at g; omega
  · rw [List.take_of_length_le (by omega)] at hall
    exact h _ fun g => ⟨by have := of_decide_eq_false g; omega, hall⟩
theorem longP_call {x : List UInt8 × List Int} {la : Option Addr} {lc : Nat} {V : World} {K : Ending → World → Prop} (h : ∀ (b : Bool) V', Ext V V' → K (.returned (.bool b)) V') : CallV Tryz.prog (.func (.func 34) #[] #[]) [.agg ⟨[.string ⟨⟨x.1⟩⟩, .slice la x.2.length lc]⟩] V K := by
  refine ⟨by kernel_rfl, ?_⟩
  apply c_apographtop_top48Items_2
  exact al_intro fun b3 w4 hb3 B3 e4 s4 => ⟨_, bat B3 rfl, h _ w4 e4⟩
theorem longW_call {x : Wd} {V : World} {K : Ending → World → Prop} (h : ∀ V', Ext V V' → K (.returned (.bool (decide (10 < x.t.length)))) V') : CallV Tryz.prog (.func (.func 32) #[] #[]) [.agg ⟨x.cs⟩] V K := by
  refine ⟨by kernel_rfl, ?_⟩
  apply c_apographtop_top48Items_1
  refine al_intro fun b3 w4 hb3 B3 e4 s4 => ⟨_, bat B3 rfl, ?_⟩
  have := h w4 e4
  rw [decide_eq_decide.2 (show (10 : Int) < (x.t.length : Int) ↔ 10 < x.t.length by omega)]
  exact this
theorem ContainsP_spec (h1 : RowV (View.pair vS (View.sl vI)) S w a n P) (hs : n ≤ 4611686018427387904) (h : ∀ (b : Bool) w', Ext w w' → R (.returned (.bool b)) w') :
    Calls Tryz.prog F_slices_ContainsFunc_of_api_Pattern_api_Pattern ⟨[.slice a n c, .func (.func 34) #[] #[]]⟩ w R := by
  apply c_slices_ContainsFunc_of_api_Pattern_api_Pattern
  apply c_slices_IndexFunc_of_api_Pattern_api_Pattern
  have hn := h1.1
  refine ⟨fun i W m => ∃ k : Nat, i = k ∧ k ≤ n ∧ m = n - k ∧ Ext w W, ⟨_, 0, rfl, by omega, rfl, Below.refl _ _⟩, ?_⟩
  rintro _ W m ⟨k, rfl, hk, rfl, he⟩ _
  refine br_split (fun hlt => ?_) (fun hge => ⟨_, rfl, h _ W he⟩)
  have hkP : k < P.length := by omega
  obtain ⟨p, la, lc, hp, d1, d2, hlc, hlev⟩ := rowV_pat (h1.ext he) hkP
  refine hp _ ⟨_, d1, _, _, _, d2, longP_call (x := P[k]) fun b V' e' => ⟨_, rfl, br_cases (fun _ => ⟨_, rfl, h _ V' (ext_trans he e')⟩) (fun _ => ⟨n - (k + 1), by omega, k + 1, by rw [wrap_nat (by omega)], by omega, rfl, ext_trans he e'⟩)⟩⟩
structure SetOk (s : Sty) (W0 : List Wd) (l : List It) : Prop where
  le : okN s.le
  sp : okN s.sp
  st : okN s.st
  sh : okN s.sh
  its : Its l
  itm : ItmR s W0 l
  len : l.length ≤ 14
  tx : ∀ x ∈ l, x.tx.length ≤ 20
abbrev setC (s : Sty) (p q : Slv) : List Value := s.cs ++ [slv p, slv q]
set_option maxRecDepth 20000 in
theorem top48Items_spec {s : Sty} {p q : Slv} (hP : RowV (View.pair vS (View.sl vI)) S w p.1 p.2.1 P) (hW : RowV vWd S2 w q.1 q.2.1 W0) (hs1 : p.2.1 ≤ 4611686018427387904) (hs2 : q.2.1 ≤ 4611686018427387904)
    (h : ∀ (ok : Bool) (oa : Option Addr) (on oc : Nat) (l : List It) w', Ext w w' → (ok = true → SetOk s W0 l ∧ on ≤ oc ∧ RowV vIt (fun _ => True) w' oa on l) → R (.returned (.tuple ⟨[.slice oa on oc, .bool ok]⟩)) w') :
    Calls Tryz.prog F_apographtop_top48Items ⟨[.agg ⟨setC s p q⟩]⟩ w R := by
  apply c_apographtop_top48Items
  refine al_intro fun b16 w17 hb16 B16 e17 s17 => ?_
  have no : ∀ (oa : Option Addr) (on oc : Nat) V, Ext w17 V → R (.returned (.tuple ⟨[.slice oa on oc, .bool false]⟩)) V := fun oa on oc V eV => h false oa on oc [] V (ext_trans e17 eV) fun q => by cases q
  intro K18 hK18
  have k18 : ∀ V, Ext w17 V → K18 V := by
    intro V eV
    have B := B16.ext eV
    have e0V := ext_trans e17 eV
    refine hK18 V fun _ => ⟨_, bat2 B rfl, _, bat2 B rfl, _, bat2 B rfl, _, bat2 B rfl, _, bat2 B rfl, _, bat2 B rfl, _, bat2 B rfl, _, bat2 B rfl, _, bat2 B rfl, _, bat2 B rfl, _, bat2 B rfl, _, _, _, bat2 B rfl, _, _, _, bat2 B rfl, _, _, _, bat B rfl, _, _, _, bat B rfl, ?_⟩
    refine Items_spec (s := s) (hP.ext e0V) (hW.ext e0V) hs2 fun e oa on oc l w36 e36 he _ => ⟨_, _, _, _, rfl, br_split (fun g => ?_) (fun _ => no _ _ _ _ (ext_trans eV e36))⟩
    obtain ⟨o1, o2, o3, o4, hI, hR, hcap, hrow⟩ := he g
    have hon := hrow.1
    refine Great48_spec hrow (by have := hI.len; omega) fun v hv => ⟨_, rfl, h (!v) oa on oc l w36 (ext_trans e0V e36) fun hvt => ?_⟩
    obtain ⟨g1, g2⟩ := hv (by cases v <;> simp_all)
    exact ⟨⟨o1, o2, o3, o4, hI, hR, g1, g2⟩, hcap, hrow⟩
  refine ⟨_, _, _, bat B16 rfl, br_split (fun _ => no _ _ _ _ (Below.refl _ _)) (fun _ => ⟨_, _, _, bat B16 rfl, br_split (fun _ => no _ _ _ _ (Below.refl _ _)) (fun _ => ⟨_, _, _, bat B16 rfl, ?_⟩)⟩)⟩
  refine ContainsW_spec (q := fun x => decide (10 < x.t.length)) (hW.ext e17) hs2 (fun x _ V K hK => longW_call hK) fun w46 e46 => ⟨_, rfl, br_cases (fun _ => no _ _ _ _ e46) (fun _ => ⟨_, _, _, bat (B16.ext e46) rfl, ?_⟩)⟩
  refine ContainsP_spec (hP.ext (ext_trans e17 e46)) hs1 fun b w50 e50 => ⟨_, rfl, br_cases (fun _ => no _ _ _ _ (ext_trans e46 e50)) (fun _ => k18 _ (ext_trans e46 e50))⟩
end
end Go.Proofs
namespace Go.Proofs
open Go Go.Sh Go.RowKit
/- what the law's strings come to -/
theorem made_of {s : Sty} {W0 : List Wd} {l : List It} (h : ItmR s W0 l) (hw : ∀ x ∈ W0, ∀ c ∈ x.t, c ≠ 32 ∧ c ≠ 61) : ∀ x ∈ l, MadeI clN s.le s.sp s.sh x := by
  intro x hx
  refine ⟨?_⟩
  rcases (h.made x hx).ok with ⟨h1, h2, h3, h4, h5⟩ | hg | hp
  · refine .inl ⟨h1, h2, h3, h4, h5, fun c hc => ?_⟩
    have hm : c ∈ l.flatMap boxT := List.mem_flatMap.2 ⟨x, hx, by unfold boxT; rw [if_pos h1]; exact hc⟩
    rw [h.text] at hm
    obtain ⟨t, ht, hct⟩ := List.mem_flatten.1 hm
    obtain ⟨y, hy, rfl⟩ := List.mem_map.1 ht
    exact hw y hy c hct
  · exact .inr (.inl hg)
  · exact .inr (.inr hp)
theorem count_eq (s : List UInt8) : Lib.countByte s 32 = cnt32 s := by
  unfold Lib.countByte cnt32
  rw [List.count_eq_length_filter]
theorem trim_eq (s : List UInt8) : Lib.trimSuffix s [61] = trimE s := by
  unfold Lib.trimSuffix trimE Lib.hasSuffix
  rcases List.eq_nil_or_concat s with rfl | ⟨r, x, rfl⟩
  · rfl
  · rw [List.concat_eq_append]
    by_cases hx : x = 61
    · subst hx
      rw [if_pos (List.isSuffixOf_iff_suffix.2 ⟨r, rfl⟩), if_pos (by simp)]
      simp
    · rw [if_neg (fun q => ?_), if_neg (by simp; exact hx)]
      obtain ⟨t, ht⟩ := List.isSuffixOf_iff_suffix.1 q
      have := List.append_inj_right' ht rfl
      simp at this
      exact hx this.symm
theorem contains_eq (s : List UInt8) (c : UInt8) : decide (0 ≤ Lib.indexByte s c) = decide (c ∈ s) := by
  rw [decide_eq_decide]
  induction s with
  | nil => simp [Lib.indexByte]
  | cons b s ih =>
    have hg := Lib.indexByte_ge s c
    rw [Lib.indexByte]
    by_cases hb : b = c
    · subst hb; simp
    · rw [if_neg (by simpa using hb), List.mem_cons]
      by_cases hm : Lib.indexByte s c = -1
      · rw [if_pos (by simp [hm])]
        rw [hm] at ih
        constructor
        · intro q; omega
        · rintro (q | q)
          · exact absurd q.symm hb
          · have := ih.2 q; omega
      · rw [if_neg (by simp [hm])]
        constructor
        · intro q; exact .inr (ih.1 (by omega))
        · rintro (q | q)
          · exact absurd q.symm hb
          · have := ih.2 q; omega
end Go.Proofs
