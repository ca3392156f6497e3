/- The contracts of the functions that the law reaches, one after the other, and at the end the law's card. -/
import Derived.Test.YtncjonkmhfdabaaGreatLawD
import Derived.Test.YtncjonkmhfdabaaGreatShelf
import Derived.Laws.CopyRow
namespace Go.Proofs
open Go Go.Sh Go.RowKit
/- split.Build -/
section
variable {R : Ending → World → Prop} {S S2 : Nat → Prop} {w : World} {a la : Option Addr} {nn nc ln lc : Nat} {NM : List Nm} {L : List (List Nat)}
structure BuildOut (Ks : Nat → List Nat) (lst : Nat → Nm) (NM : List Nm) (L : List (List Nat)) (z : Nat) (w' : World) (p' q' : Slv) : Prop where
  out : ∃ (P0 : List Int) (N0 : List Nm) (P' : List Int) (N' : List Nm) (ord : List Nat), Built NM.length NM L P0 N0 ∧ TreeOk P0 N0 ∧ IsoL P0 N0 P' N' ord ∧ (3 ≤ NM.length → Srt Ks lst P0 N0 P' N') ∧ q'.2.1 ≤ q'.2.2 ∧ RowV vI (fun k => z ≤ k) w' p'.1 p'.2.1 P' ∧ RowV vS (fun k => z ≤ k) w' q'.1 q'.2.1 N'
  nm : ∀ i, i < NM.length → leafB (gM NM i) = true ∧ gM NM i ∉ NM.take i
theorem iso_one {nm : Nm} : IsoL [-1] [nm] [-1] [nm] [0] :=
  ⟨⟨List.Perm.refl _, rfl, fun k h0 hk => by have hk : k < 1 := hk; omega⟩, rfl, rfl, fun k hk => by
    have hk : k < 1 := hk
    obtain rfl : k = 0 := by omega
    rfl, rfl, fun k h0 hk => by have hk : k < 1 := hk; omega⟩
theorem ok_one {nm : Nm} (h : namedF nm = true) : TreeOk [-1] [nm] :=
  ⟨by decide, by decide, rfl, rfl, fun i h0 hi => by have hi : i < 1 := hi; omega, fun i hi => by
    have hi : i < 1 := hi
    obtain rfl : i = 0 := by omega
    refine .inr ⟨?_, h, by simp⟩
    rintro ⟨j, h1, h2, _⟩
    have h2 : j < 1 := h2
    omega⟩
theorem headD_get {l : List Nat} (h : 0 < l.length) : l[0] = l.headD 0 := by
  cases l with
  | nil => cases h
  | cons x l => rfl
set_option maxRecDepth 20000 in
set_option maxHeartbeats 4000000 in
theorem Build_spec (Ks : Nat → List Nat) (lst : Nat → Nm) (hN : RowV vS S w a nn NM) (hcN : nn ≤ nc) (hl : RowV vIs S2 w la ln (L.map zN)) (hN8 : NM.length ≤ 8) (hL5 : L.length ≤ 5) (hL : ∀ s ∈ L, SplN NM.length s) (hbN : ∀ s ∈ NM, s.length ≤ 1000000)
    (h : ∀ (e : Int) (p' q' : Slv) w', Ext w w' → (e = 17 → ¬ allC L) → (e = 0 → allC L ∧ BuildOut Ks lst NM L w.heap.size w' p' q') → (0 < NM.length → allC L → (∀ i, i < NM.length → leafB (gM NM i) = true ∧ gM NM i ∉ NM.take i) → (∀ P0 N0, Built NM.length NM L P0 N0 → TreeOk P0 N0) → e = 0) → R (.returned (.tuple ⟨[.agg ⟨[sv p', sv q']⟩, .int .i64 e]⟩)) w') :
    Calls Tryz.prog F_split_Build ⟨[.slice a nn nc, .slice la ln lc]⟩ w R := by
  apply c_split_Build
  obtain rfl : nn = NM.length := hN.1
  obtain rfl : ln = L.length := by have := hl.1; rwa [List.length_map] at this
  refine al_intro fun b3 w4 hb3 B3 e4 s4 => ?_
  have z4 := e4.size
  -- an error's way out
  have no : ∀ (e : Int) V, Ext w4 V → e ≠ 0 → (e = 17 → ¬ allC L) → ¬ (0 < NM.length ∧ allC L ∧ (∀ i, i < NM.length → leafB (gM NM i) = true ∧ gM NM i ∉ NM.take i)) → stL V ⟨b3, 0, none⟩ 0 [.slice none 0 0, .slice none 0 0] fun w17 =>
      ∃ (x18 : Option Addr) (x18n : Nat) (x18c : Nat), World.cell? w17 ((⟨b3, 0, none⟩ : Addr).add 0) = some (.slice x18 x18n x18c) ∧ (∃ (x19 : Option Addr) (x19n : Nat) (x19c : Nat), World.cell? w17 ((⟨b3, 0, none⟩ : Addr).add 1) = some (.slice x19 x19n x19c) ∧ (R (.returned (.tuple ⟨[.agg ⟨[.slice x18 x18n x18c, .slice x19 x19n x19c]⟩, .int .i64 e]⟩)) w17)) := by
    intro e V eV he h17 hng
    refine stL_blk (B3.ext eV) (by simp) (by intro v hv; simp only [List.mem_cons, List.not_mem_nil, or_false] at hv; rcases hv with rfl | rfl <;> rfl) fun w12 B12 f12 s12 o12 t12 u12 => ?_
    have B12 : Blk w12 b3 [sv (none, 0, 0), sv (none, 0, 0)] 37 := B12
    have c12 : Chg (fun j => j = b3) V w12 := ⟨o12, t12, u12, by omega, fun j _ hj => f12 j hj⟩
    exact ⟨_, _, _, bat B12 rfl, _, _, _, bat B12 rfl, h e (none, 0, 0) (none, 0, 0) w12 (ext_chgS (ext_trans e4 eV) c12 fun j hj => by omega) h17 (fun q => absurd q he) fun g1 g2 g3 _ => absurd ⟨g1, g2, g3⟩ hng⟩
  intro K5 hK5
  have k5 : 0 < NM.length → K5 w4 := by
    intro hpos
    refine hK5 w4 fun _ => ?_
    refine ⟨fun i W m => ∃ k : Nat, i = k ∧ k ≤ NM.length ∧ m = NM.length - k ∧ Ext w4 W ∧ (∀ i, i < k → leafB (gM NM i) = true ∧ gM NM i ∉ NM.take i), ⟨_, 0, rfl, Nat.zero_le _, rfl, Below.refl _ _, fun i hi => by omega⟩, ?_⟩
    rintro _ W m ⟨k, rfl, hk, rfl, eW, hnm⟩ _
    refine br_split (fun hlt => ?_) (fun hge => ?_)
    · have hkN : k < NM.length := by omega
      obtain ⟨pq, iq, dq⟩ := rowS_get (hN.ext (ext_trans e4 eW)) hkN
      have hbk : (gM NM k).length ≤ 1000000 := by rw [gM_at hkN]; exact hbN _ (List.getElem_mem hkN)
      refine iq _ ⟨_, dq, leafName_spec _ (by omega) ⟨_, rfl, br_cases (fun g => ?_) (fun g => ?_)⟩⟩
      · exact no 14 W eW (by decide) (fun q => absurd q (by decide)) fun t => by rw [(t.2.2 k hkN).1] at g; cases g
      · refine RowV.cut (i := 0) (j := k) (hN.ext (ext_trans e4 eW)) hcN (by omega) (by omega) fun a25 h25 => ?_
        rw [List.drop_zero] at h25
        refine ContainsS_spec (gM NM k) h25 (by omega) ⟨_, rfl, br_split (fun g2 => no 7 W eW (by decide) (fun q => absurd q (by decide)) fun t => (t.2.2 k hkN).2 g2) (fun g2 => ?_)⟩
        refine ⟨NM.length - (k + 1), by omega, k + 1, by rw [wrap_nat (by omega)], by omega, rfl, eW, fun i hi => ?_⟩
        by_cases e : i = k
        · subst e
          refine ⟨?_, g2⟩
          cases hh : leafB (gM NM i) with
          | true => rfl
          | false => rw [hh] at g; cases g
        · exact hnm i (by omega)
    have hkn : k = NM.length := by omega
    subst hkn
    have e0W := ext_trans e4 eW
    refine ⟨fun i V m => ∃ k : Nat, i = k ∧ k ≤ L.length ∧ m = L.length - k ∧ Ext W V, ⟨_, 0, rfl, Nat.zero_le _, rfl, Below.refl _ _⟩, ?_⟩
    rintro _ V m ⟨k, rfl, hk2, rfl, eV⟩ _
    have e0V := ext_trans e0W eV
    refine br_split (fun hlt => ?_) (fun hge2 => ?_)
    · have hkL : k < L.length := by omega
      obtain ⟨pp, a', c', ip, dp, _, rp⟩ := rowL_get (hl.ext e0V) hkL
      have hs := hL _ (gS_mem hkL)
      refine ip _ ⟨_, _, _, dp, splCheck_spec rp (by have := hs.l3; omega) (by omega) fun e he _ => ⟨_, rfl, br_split (fun g => absurd (he.2 (hs.spl (by omega))) g) (fun _ => ⟨L.length - (k + 1), by omega, k + 1, by rw [wrap_nat (by omega)], by omega, rfl, eV⟩)⟩⟩
    refine pair_spec (hl.ext e0V) (by omega) (fun s hs => (hL s hs).set (by omega)) fun pi pk v w43 e43 hv => ⟨_, _, _, rfl, br_cases (fun g => ?_) (fun g => ?_)⟩
    · have hnc : ¬ allC L := fun t => by rw [hv.2 t] at g; cases g
      exact no 17 w43 (ext_trans eW (ext_trans eV e43)) (by decide) (fun _ => hnc) fun t => hnc t.2.1
    have hall : allC L := hv.1 (by cases hh : v with
      | true => rfl
      | false => rw [hh] at g; cases g)
    have e443 := ext_trans eW (ext_trans eV e43)
    have e043 := ext_trans e4 e443
    have hN43 := hN.ext e043
    have z443 := e443.size
    refine br_split (fun g1 => ?_) (fun g1 => ?_)
    · -- one leaf
      refine al_intro fun b50 w51 hb50 B50 e51 s51 => ?_
      obtain ⟨pq, iq, dq⟩ := rowS_get (hN43.ext e51) (i := 0) hpos
      refine iq _ ⟨_, dq, al_intro fun b54 w55 hb54 B54 e55 s55 => ?_⟩
      refine stL_blk (((B3.ext e443).ext e51).ext e55) (by simp) (by intro v hv; simp only [List.mem_cons, List.not_mem_nil, or_false] at hv; rcases hv with rfl | rfl <;> rfl) fun w12 B12 f12 s12 o12 t12 u12 => ?_
      have B12 : Blk w12 b3 [sv (some ⟨b50, 0, none⟩, 1, 1), sv (some ⟨b54, 0, none⟩, 1, 1)] 37 := B12
      have c12 : Chg (fun j => j = b3) w55 w12 := ⟨o12, t12, u12, by omega, fun j _ hj => f12 j hj⟩
      have e055 := ext_trans e043 (ext_trans e51 e55)
      have z51 := e51.size
      refine ⟨_, _, _, bat B12 rfl, _, _, _, bat B12 rfl, h 0 (some ⟨b50, 0, none⟩, 1, 1) (some ⟨b54, 0, none⟩, 1, 1) w12 (ext_chgS e055 c12 fun j hj => by omega) (fun q => absurd q (by decide)) (fun _ => ⟨hall, ⟨⟨[-1], [gM NM 0], [-1], [gM NM 0], [0], .one (by omega) rfl rfl, ok_one (by rw [← leafB_named]; exact (hnm 0 hpos).1), iso_one, fun q => (by omega), Nat.le_refl _, ?_, ?_⟩, hnm⟩⟩) (fun _ _ _ _ => rfl)⟩
      · exact rowV_enc.2 ((rowAt_b (E := Sh.encI) (l := [-1]) (c12.blk (B50.ext e55) (by omega))).imp fun k hk _ => by subst hk; omega)
      · exact rowV_enc.2 ((rowAt_b (E := Sh.encStr) (l := [gM NM 0]) (c12.blk B54 (by omega))).imp fun k hk _ => by subst hk; omega)
    · -- the tree under way
      refine al_intro fun b59 w60 hb59 B59 e60 s60 => ?_
      have e060 := ext_trans e043 e60
      have e460 := ext_trans e443 e60
      have z60 := e060.size
      have T0 : TrSt w60 b59 w60.heap.size (fun _ => False) [] [] := ⟨⟨(none, 0, 0), (none, 0, 0), B59, Owns.nil _ _ _ _, Owns.nil _ _ _ _, fun k => by simp [bk]⟩, by omega⟩
      refine add_call T0 (Nat.le_refl _) (by simp) (by simp) (-1) [] fun w62 T1 ht1 hT1 hc1 => ⟨_, rfl, ?_⟩
      have z62 := hc1.size
      have x62 : Ext w43 w62 := ext_chgS e60 hc1 fun j hj => by rcases hj with rfl | hj; omega; exact hj.elim
      obtain ⟨pq, iq, dq⟩ := rowS_get (hN43.ext x62) (i := 0) hpos
      refine iq _ ⟨_, dq, ?_⟩
      refine add_call ht1 (by omega) (by simp) (by simp) 0 (gM NM 0) fun w67 T2 ht2 hT2 hc2 => ⟨_, rfl, ?_⟩
      have z67 := hc2.size
      have x67 : Ext w43 w67 := ext_chgS x62 hc2 fun j hj => by
        rcases hj with rfl | hj
        · omega
        · have := (ht1.bk hj).1; omega
      have fin : ∀ (P0 : List Int) (N0 : List Nm) (T : Nat → Prop) (V : World), Ext w43 V → TrSt V b59 w60.heap.size T P0 N0 → Built NM.length NM L P0 N0 → P0.length ≤ 64 → N0.length ≤ 64 → (∀ i, i < P0.length → (kidF P0 P0.length i).length ≤ 12) → (∀ s ∈ N0, s.length ≤ 1000000) →
          ∃ (x177 : Option Addr) (x177n : Nat) (x177c : Nat), World.cell? V ((⟨b59, 0, none⟩ : Addr).add 0) = some (.slice x177 x177n x177c) ∧ (∃ (x178 : Option Addr) (x178n : Nat) (x178c : Nat), World.cell? V ((⟨b59, 0, none⟩ : Addr).add 1) = some (.slice x178 x178n x178c) ∧ (Calls Tryz.prog 22 ⟨[.agg ⟨[.slice x177 x177n x177c, .slice x178 x178n x178c]⟩]⟩ V fun (e179 : Ending) (w180 : World) =>
            ∃ (x181 : Option Addr) (x181n : Nat) (x181c : Nat) (x182 : Option Addr) (x182n : Nat) (x182c : Nat) (x183 : Int), e179 = .returned (.tuple ⟨[.agg ⟨[.slice x181 x181n x181c, .slice x182 x182n x182c]⟩, .int .i64 x183]⟩) ∧ (stL w180 ⟨b3, 0, none⟩ 0 [.slice x181 x181n x181c, .slice x182 x182n x182c] fun w184 =>
              ∃ (x185 : Option Addr) (x185n : Nat) (x185c : Nat), World.cell? w184 ((⟨b3, 0, none⟩ : Addr).add 0) = some (.slice x185 x185n x185c) ∧ (∃ (x186 : Option Addr) (x186n : Nat) (x186c : Nat), World.cell? w184 ((⟨b3, 0, none⟩ : Addr).add 1) = some (.slice x186 x186n x186c) ∧ (R (.returned (.tuple ⟨[.agg ⟨[.slice x185 x185n x185c, .slice x186 x186n x186c]⟩, .int .i64 x183]⟩)) w184))))) := by
        intro P0 N0 T V eV hTr hB0 h64 h64' hk12 hb0
        obtain ⟨p, q, D, hp, hq, _⟩ := hTr.at_
        refine ⟨_, _, _, bat D rfl, _, _, _, bat D rfl, ?_⟩
        have hpl : P0.length = p.2.1 := OwnL.length hp
        have hql : N0.length = q.2.1 := OwnL.length hq
        have e0V' := ext_trans e043 eV
        have zV := e0V'.size
        refine Canonical_spec Ks lst (p := p) (q := q) (rowV_enc.2 (OwnL.out hp)) (rowV_enc.2 (OwnL.out hq)) ((ownV_enc (S := fun _ => True)).2 hq).cap (by omega) (by omega) hb0 hk12 fun e p' q' w180 e180 h17 hok hres => ⟨_, _, _, _, _, _, _, rfl, ?_⟩
        refine stL_blk (((B3.ext e443).ext eV).ext e180) (by simp) (by intro v hv; simp only [List.mem_cons, List.not_mem_nil, or_false] at hv; rcases hv with rfl | rfl <;> rfl) fun w12 B12 f12 s12 o12 t12 u12 => ?_
        have B12 : Blk w12 b3 [sv p', sv q'] 37 := B12
        have c12 : Chg (fun j => j = b3) w180 w12 := ⟨o12, t12, u12, by omega, fun j _ hj => f12 j hj⟩
        have z443' := e043.size
        have zeV := eV.size
        refine ⟨_, _, _, bat B12 rfl, _, _, _, bat B12 rfl, h e p' q' w12 (ext_chgS (ext_trans e0V' e180) c12 fun j hj => by omega) (fun q => absurd q h17) (fun he => ?_) (fun _ _ _ hg => hok (hg P0 N0 hB0))⟩
        obtain ⟨hT, P', N', ord, hcq, hrp, hrq, hi, hsr⟩ := hres he
        exact ⟨hall, ⟨⟨P0, N0, P', N', ord, hB0, hT, hi, fun _ => hsr, hcq, (hrp.chg c12 fun k hk _ hh => by omega).imp fun k hk _ => by omega, (hrq.chg c12 fun k hk _ hh => by omega).imp fun k hk _ => by omega⟩, hnm⟩⟩
      have hbg : ∀ i, (gM NM i).length ≤ 1000000 := fun i => by
        by_cases hi : i < NM.length
        · rw [gM_at hi]; exact hbN _ (List.getElem_mem hi)
        · have : gM NM i = [] := by unfold gM; rw [List.getD_eq_getElem?_getD, List.getElem?_eq_none (by omega)]; rfl
          rw [this]; decide
      refine br_split (fun g2 => ?_) (fun g2 => ?_)
      · -- two leaves
        obtain ⟨pq, iq, dq⟩ := rowS_get (hN43.ext x67) (i := 1) (by omega)
        refine iq _ ⟨_, dq, ?_⟩
        refine add_call ht2 (by omega) (by simp) (by simp) 0 (gM NM 1) fun w72 T3 ht3 hT3 hc3 => ⟨_, rfl, ?_⟩
        have x72 : Ext w43 w72 := ext_chgS x67 hc3 fun j hj => by
          rcases hj with rfl | hj
          · omega
          · have := (ht2.bk hj).1; omega
        refine fin _ _ T3 w72 x72 ht3 (.two (by omega) rfl rfl) (by simp) (by simp) (fun i hi => ?_) fun s hs => ?_
        · exact Nat.le_trans (kidF_len _ _ _) (by simp)
        · have hs : s ∈ [[], gM NM 0, gM NM 1] := hs
          simp only [List.mem_cons, List.not_mem_nil, or_false] at hs
          rcases hs with rfl | rfl | rfl
          · decide
          · exact hbg 0
          · exact hbg 1
      · -- more leaves
        have hn3 : 3 ≤ NM.length := by omega
        refine add_call ht2 (by omega) (by simp) (by simp) 0 [] fun w85 T3 ht3 hT3 hc3 => ⟨_, rfl, ?_⟩
        have z85 := hc3.size
        have x85 : Ext w43 w85 := ext_chgS x67 hc3 fun j hj => by
          rcases hj with rfl | hj
          · omega
          · have := (ht2.bk hj).1; omega
        refine al_intro fun b87 w88 hb87 B87 e88 s88 => ?_
        refine stL_one B87 rfl fun w89 C87 c89 s89 => ?_
        have C87 : Blk w89 b87 [.int .i64 2] 3 := C87
        have x89 : Ext w43 w89 := ext_chgS (ext_trans x85 e88) c89 fun j hj => by have := x85.size; omega
        have t3l := fun j hj => (ht3.bk (k := j) hj).2
        have ht3 := (ht3.ext e88).chg c89 (by have := ht3.lt; have := z60; omega) fun j hj hh => by have := t3l j hj; omega
        have z43 := e043.size
        have hl0 := hl.imp (S' := fun k => S2 k ∧ k < w.heap.size) fun k hk hl => ⟨hk, hl⟩
        have z89 : w85.heap.size < w89.heap.size := by omega
        refine CloneL_spec (hl0.ext (ext_trans e043 x89)) (by omega) fun ao co w91 hO91 e91 => ⟨_, _, _, rfl, ?_⟩
        refine al_intro fun b93 w94 hb93 B93 e94 s94 => ?_
        refine stL_one B93 rfl fun w95 C93 c95 s95 => ⟨_, _, _, b0_cell C93, ?_⟩
        have hOb := fun j hj => OwnV.bk hO91 (k := j) hj
        have n93 : ∀ j, bk ao j → j ≠ b93 := fun j hj e => by have := (hOb j hj).2; omega
        have z91 := e91.size
        have hO95 := (hO91.ext e94).chg c95 fun j hj _ => ⟨fun hs => by have := hs.2; have hj : j = b93 := hj; omega, fun hh => n93 j hh hj⟩
        have x91 := ext_trans x89 e91
        have x95 : Ext w43 w95 := ext_chgS (ext_trans x91 e94) c95 fun j hj => by have := x91.size; omega
        refine SortL_spec hO95 (by omega) (fun x hx => ?_) fun M w98 hO98 hm98 hd98 hc98 => ⟨rfl, ?_⟩
        · obtain ⟨s, hs, rfl⟩ := List.mem_map.1 hx
          have := (hL s hs).l3
          rw [zN_len]; omega
        have C98 := hc98.blk C93 fun hh => n93 _ hh rfl
        refine ⟨_, _, _, b0_cell C98, ?_⟩
        refine CompactL_spec hO98 (by omega) (fun x hx => ?_) fun no' M2 w101 hno hO101 hsub hmem hc101 => ⟨_, _, _, rfl, ?_⟩
        · obtain ⟨s, hs, rfl⟩ := List.mem_map.1 ((hm98 x).1 hx)
          have := (hL s hs).l3
          rw [zN_len]; omega
        obtain ⟨own, rfl, hown⟩ := zN_lift (L := L) fun x hx => (hm98 x).1 (hsub.subset hx)
        have hmn : M.length = L.length := by have := hO98.len; omega
        have hdp : own.Pairwise fun a b => b.length ≤ a.length := by
          have h1 := (desc_pair (by rw [hmn]; exact hd98)).sublist hsub
          rw [List.pairwise_map] at h1
          exact h1.imp fun {a b} q => by rw [zN_len, zN_len] at q; exact q
        have hownL : ∀ s, s ∈ own ↔ s ∈ L := fun s => ⟨hown s, fun hs => by
          have h1 := hmem (zN s) ((hm98 _).2 (List.mem_map.2 ⟨s, hs, rfl⟩))
          obtain ⟨u, hu, he⟩ := List.mem_map.1 h1
          rw [← zN_inj he]; exact hu⟩
        have hspl := own_spl hL hall hown hdp
        have hol : own.length = no' := by have := hO101.len; rw [List.length_map] at this; omega
        have hc911 : Chg (bk ao) w95 w101 := hc98.trans hc101
        have z95 : w91.heap.size < w95.heap.size := by omega
        have x101 : Ext w43 w101 := ext_chgS x95 hc911 fun j hj => by have := (hOb j hj).1; have := x89.size; omega
        have C101 := hc101.blk C98 fun hh => n93 _ hh rfl
        refine stL_one C101 rfl fun w103 C103 c103 s103 => ?_
        have x103 : Ext w43 w103 := ext_chgS x101 c103 fun j hj => by have := x91.size; omega
        have hO103 := hO101.chg c103 fun j hj _ => ⟨fun hs => by have := hs.2; have hj : j = b93 := hj; omega, fun hh => n93 j hh hj⟩
        refine al_intro fun b104 w105 hb104 B104 e105 s105 => ⟨_, _, _, b0_cell (C103.ext e105), ?_⟩
        have x105 := ext_trans x103 e105
        have z101 := hc911.size
        have hcAll : Chg (fun j => bk ao j ∨ j = b93) w94 w105 := (((c95.mono fun j _ hj => .inr hj).trans (hc911.mono fun j _ hj => .inl hj)).trans (c103.mono fun j _ hj => .inr hj)).trans (.of_ext e105)
        have t3l' : ∀ j, T3 j → j < w89.heap.size := fun j hj => by have := t3l j hj; omega
        have nch : ∀ j, j < w89.heap.size → ¬ (bk ao j ∨ j = b93) := fun j hj hh => by
          rcases hh with hh | hh
          · have := (hOb j hh).1; omega
          · omega
        have ht105 := ((ht3.ext e91).ext e94).chg hcAll (nch _ (by have := ht3.lt; omega)) fun j hj => nch j (t3l' j hj)
        have C87' := hcAll.blk ((C87.ext e91).ext e94) (nch _ (by have := C87.lt; omega))
        have C93' : Blk w105 b93 [sv (ao, no', co)] 29 := C103.ext e105
        have hrow : RowV vIs (fun k => (S2 k ∧ k < w.heap.size) ∨ bk ao k) w105 ao no' (own.map zN) := ((hO103.ext e105).out).imp fun k hk _ => hk.imp (fun q => q.1) id
        have len3 : (rowPI own 3).length = 3 := rowPI_len own 3
        have eP3 : ((([] : List Int) ++ [-1]) ++ [0]) ++ [0] = rowPI own 3 := rfl
        have eN3 : ((([] : List Nm) ++ [[]]) ++ [gM NM 0]) ++ [[]] = rowNI own NM 3 := by
          have e0 : nmI own NM 0 = [] := by unfold nmI; rw [if_neg (by omega), if_neg (by omega)]
          have e1 : nmI own NM 1 = gM NM 0 := if_pos rfl
          have e2 : nmI own NM 2 = [] := by unfold nmI; rw [if_neg (by omega), if_neg (by omega)]
          show [[], gM NM 0, []] = [nmI own NM 0, nmI own NM 1, nmI own NM 2]
          rw [e0, e1, e2]
        rw [eP3, eN3] at ht105
        have hown5 : own.length ≤ 5 := by omega
        have hsl : ∀ s ∈ own, s.length ≤ 1000000 := fun s hs => by have := (hL s (hown s hs)).l3; omega
        have hS0 : LoopS own NM b59 b93 b104 b87 w60.heap.size w105.heap.size (fun k => (S2 k ∧ k < w.heap.size) ∨ bk ao k) (ao, no', co) w43 w105 3 0 T3 (none, 0, 0) :=
          { tr := ht105, B2 := B104, nds := Owns.nil _ _ _ _, dis := fun j hj => ⟨.inl (by have := t3l j hj; omega), fun q => by simp [bk] at q⟩, B1 := C93', B3 := C87', row := hrow
            sep := fun j hj => by
              rcases hj with hj | hj
              · have := hj.2; omega
              · have := hOb j hj; omega
            ord := by omega
            ext := x105, z := Nat.le_refl _, hown := ⟨by omega, hsl⟩ }
        refine ⟨fun i W m => ∃ (k : Nat) (T : Nat → Prop) (nd : Slv), i = k ∧ k ≤ own.length ∧ m = own.length - k ∧ LoopS own NM b59 b93 b104 b87 w60.heap.size w105.heap.size (fun k => (S2 k ∧ k < w.heap.size) ∨ bk ao k) (ao, no', co) w43 W (3 + k) k T nd,
          ⟨_, 0, T3, (none, 0, 0), rfl, Nat.zero_le _, rfl, hS0⟩, ?_⟩
        rintro _ W m ⟨k, T, nd, rfl, hk, rfl, hS⟩ _
        refine br_split (fun hlt => ?_) (fun hge => ?_)
        · -- a block
          have hko : k < own.length := by omega
          obtain ⟨pp, a', c', ip, dp, _, rp⟩ := rowL_get hS.row hko
          refine ip _ ⟨_, _, _, dp, ?_⟩
          unfold drw
          have hne : 0 < (gS own k).length := List.length_pos_iff.2 (hspl.ne _ (gS_mem hko))
          obtain ⟨p0, i0, d0⟩ := rowI_get (rp.ext (ext_drew W)) (i := 0) (by rw [zN_len]; exact hne)
          have hS := hS.step (ext_drew W)
          generalize W.drew = W1 at *
          have hhd : gZ (zN (gS own k)) 0 = (((gS own k).headD 0 : Nat) : Int) := by
            rw [zN_get hne, headD_get hne]
          rw [hhd] at d0
          have hpar : ((upS own ((gS own k).headD 0) k : Nat) : Int) = parI own (3 + k) := by
            unfold parI parS repS ixS
            rw [if_neg (by omega), if_neg (by omega), if_pos (by omega), if_pos (by omega)]
            rw [show 3 + k - 3 = k by omega]
          have hnm : ([] : Nm) = nmI own NM (3 + k) := by
            unfold nmI
            rw [if_neg (by omega), if_neg (by omega)]
          have fin2 : ∀ (V : World) (T' : Nat → Prop) (nd' : Slv), LoopS own NM b59 b93 b104 b87 w60.heap.size w105.heap.size (fun k => (S2 k ∧ k < w.heap.size) ∨ bk ao k) (ao, no', co) w43 V (3 + k + 1) (k + 1) T' nd' → ∃ m' : Nat, m' < own.length - k ∧ ∃ (k2 : Nat) (T : Nat → Prop) (nd : Slv), IntKind.i64.wrap ((k : Int) + 1) = k2 ∧ k2 ≤ own.length ∧ m' = own.length - k2 ∧ LoopS own NM b59 b93 b104 b87 w60.heap.size w105.heap.size (fun k => (S2 k ∧ k < w.heap.size) ∨ bk ao k) (ao, no', co) w43 V (3 + k2) k2 T nd := fun V T' nd' hV =>
            ⟨own.length - (k + 1), by omega, k + 1, T', nd', wrap_nat (by omega), by omega, rfl, hV⟩
          refine i0 _ ⟨_, d0, ⟨_, _, _, b0_cell hS.B2, hS.least (Nat.le_refl k) (by omega) fun V1 h1 _ => ⟨_, rfl, h1.add (by omega) hpar hnm fun V2 T2 h2 => ⟨_, rfl, ?_, True.intro⟩, True.intro⟩, True.intro⟩,
            hS.least (Nat.le_refl k) (by omega) fun V1 h1 _ => ⟨_, rfl, ⟨_, _, _, b0_cell h1.B2, h1.add (by omega) hpar hnm fun V2 T2 h2 => ⟨_, rfl, ?_, True.intro⟩, True.intro⟩, h1.add (by omega) hpar hnm fun V2 T2 h2 => ⟨_, rfl, _, _, _, b0_cell h2.B2, ?_, True.intro⟩, True.intro⟩, True.intro⟩
          · exact h2.push (by omega) rfl fun V3 nd3 h3 => fin2 V3 T2 nd3 h3
          · exact h2.push (by omega) rfl fun V3 nd3 h3 => fin2 V3 T2 nd3 h3
          · exact h2.push (by omega) rfl fun V3 nd3 h3 => fin2 V3 T2 nd3 h3
        have hko : k = own.length := by omega
        subst hko
        refine ⟨fun i V m => ∃ (k : Nat) (T : Nat → Prop) (nd : Slv), i = k ∧ 1 ≤ k ∧ k ≤ NM.length ∧ m = NM.length - k ∧ LoopS own NM b59 b93 b104 b87 w60.heap.size w105.heap.size (fun k => (S2 k ∧ k < w.heap.size) ∨ bk ao k) (ao, no', co) w43 V (3 + own.length + (k - 1)) own.length T nd,
          ⟨_, 1, T, nd, rfl, by omega, by omega, rfl, hS⟩, ?_⟩
        rintro _ V m ⟨k, T, nd, rfl, hk1, hk, rfl, hS⟩ _
        refine br_split (fun hlt => ?_) (fun hge2 => ?_)
        · have hkn : k < NM.length := by omega
          unfold drw
          have hS := hS.step (ext_drew V)
          generalize V.drew = V1 at *
          refine ⟨_, _, _, b0_cell hS.B1, ?_⟩
          obtain ⟨pq, iq, dq⟩ := rowS_get (hN43.ext hS.ext) (i := k) hkn
          have hpar : ((upS own k no' : Nat) : Int) = parI own (3 + own.length + (k - 1)) := by
            rw [← hol]
            unfold parI parS repS ixS
            rw [if_neg (by omega), if_neg (by omega), if_neg (by omega), if_neg (by omega)]
            rw [show 3 + own.length + (k - 1) - 3 - own.length + 1 = k by omega]
          have hnm : gM NM k = nmI own NM (3 + own.length + (k - 1)) := by
            unfold nmI
            rw [if_neg (by omega), if_pos (by omega)]
            rw [show 3 + own.length + (k - 1) - 3 - own.length + 1 = k by omega]
          have fin2 : ∀ (V : World) (T' : Nat → Prop), LoopS own NM b59 b93 b104 b87 w60.heap.size w105.heap.size (fun k => (S2 k ∧ k < w.heap.size) ∨ bk ao k) (ao, no', co) w43 V (3 + own.length + (k - 1) + 1) own.length T' nd → ∃ m' : Nat, m' < NM.length - k ∧ ∃ (k2 : Nat) (T : Nat → Prop) (nd : Slv), IntKind.i64.wrap ((k : Int) + 1) = k2 ∧ 1 ≤ k2 ∧ k2 ≤ NM.length ∧ m' = NM.length - k2 ∧ LoopS own NM b59 b93 b104 b87 w60.heap.size w105.heap.size (fun k => (S2 k ∧ k < w.heap.size) ∨ bk ao k) (ao, no', co) w43 V (3 + own.length + (k2 - 1)) own.length T nd := fun V T' hV =>
            ⟨NM.length - (k + 1), by omega, k + 1, T', nd, wrap_nat (by omega), by omega, by omega, rfl, by rw [show 3 + own.length + (k + 1 - 1) = 3 + own.length + (k - 1) + 1 by omega]; exact hV⟩
          refine iq _ ⟨?_, ⟨_, dq, ?_, True.intro⟩, True.intro⟩
          · exact hS.least (leaf := k) (before := no') (by omega) (by omega) fun V2 h2 e2 => ⟨_, rfl, _, cell_ext e2 dq, h2.add (by omega) hpar hnm fun V3 T3 h3 => ⟨_, rfl, fin2 V3 T3 h3⟩, True.intro⟩
          · exact hS.least (leaf := k) (before := no') (by omega) (by omega) fun V2 h2 e2 => ⟨_, rfl, h2.add (by omega) hpar hnm fun V3 T3 h3 => ⟨_, rfl, fin2 V3 T3 h3⟩, True.intro⟩
        have hkn : k = NM.length := by omega
        subst hkn
        have hl1 := rowPI_len own (3 + own.length + (NM.length - 1))
        have hl2 := rowNI_len own NM (3 + own.length + (NM.length - 1))
        refine fin _ _ T V hS.ext hS.tr (.more own hn3 hspl hownL (by omega) rfl rfl) (by omega) (by omega) (fun i hi => ?_) fun s hs => ?_
        · rw [hl1]; exact rowPI_kids (by omega)
        · unfold rowNI at hs
          obtain ⟨c, _, rfl⟩ := List.mem_map.1 hs
          unfold nmI
          split
          · exact hbg 0
          · split
            · exact hbg _
            · exact Nat.zero_le _
  refine br_split (fun g => no 5 w4 (Below.refl _ _) (by decide) (fun q => absurd q (by decide)) fun t => by omega) (fun g => br_split (fun g2 => by omega) (fun g2 => br_split (fun g3 => by omega) (fun _ => k5 (by omega))))
end
end Go.Proofs
namespace Go.Proofs
open Go Go.Sh Go.RowKit
/- the tree that split.Build builds: how often a character changes on it -/
theorem LeastC.cong {n m : Nat} {P P' : Nat → Nat} {st st' : Nat → Option Nat} {v : Int} (h : LeastC n m P st v) (hP : ∀ c, 0 < c → c < n → P' c = P c) (hst : ∀ i, i < n → st' i = st i) : LeastC n m P' st' v := by
  have e1 : ∀ a, chgA n P' a = chgA n P a := fun a => by
    unfold chgA
    refine sumR_congr fun c hc => ?_
    by_cases h0 : 0 < c
    · rw [if_pos h0, if_pos h0, hP c h0 hc]
    · rw [if_neg h0, if_neg h0]
  have e2 : ∀ a, okA' n m st' a ↔ okA' n m st a := fun a => by
    constructor
    · intro q i hi
      have := q i hi
      rw [hst i hi] at this
      exact this
    · intro q i hi
      have := q i hi
      rw [← hst i hi] at this
      exact this
  obtain ⟨a, h1, h2⟩ := h.at_
  exact ⟨⟨a, (e2 a).2 h1, by rw [e1]; exact h2⟩, fun a ha => by rw [e1]; exact h.le a ((e2 a).1 ha)⟩
def stM (s : Nat → Nat) (NM N : List Nm) (i : Nat) : Option Nat := if gM N i = [] then none else some (s (ixF (fun x => decide (gM N i = x)) NM).toNat)
def NmOk (NM : List Nm) : Prop := ∀ i, i < NM.length → gM NM i ≠ [] ∧ gM NM i ∉ NM.take i
section
variable {NM N0 : List Nm} {L : List (List Nat)} {P0 : List Int} {s : Nat → Nat}
theorem ix_nm (h : NmOk NM) {i : Nat} (hi : i < NM.length) : ixF (fun x => decide (gM NM i = x)) NM = i :=
  ixF_at hi (decide_eq_true (gM_at hi)) fun x hx => decide_eq_false fun e => (h i hi).2 (by rw [e]; exact hx)
theorem gM_none {N : List Nm} {i : Nat} (h : N.length ≤ i) : gM N i = [] := by
  unfold gM
  rw [List.getD_eq_getElem?_getD, List.getElem?_eq_none h]; rfl
theorem built_named (h : Built NM.length NM L P0 N0) (i : Nat) : gM N0 i = [] ∨ ∃ j, j < NM.length ∧ gM N0 i = gM NM j := by
  cases h with
  | one h1 h2 h3 =>
    subst h3
    by_cases hi : i = 0
    · subst hi; exact .inr ⟨0, by omega, rfl⟩
    · exact .inl (gM_none (by show 1 ≤ i; omega))
  | two h1 h2 h3 =>
    subst h3
    rcases (by omega : i = 0 ∨ i = 1 ∨ i = 2 ∨ 3 ≤ i) with rfl | rfl | rfl | hi
    · exact .inl rfl
    · exact .inr ⟨0, by omega, rfl⟩
    · exact .inr ⟨1, by omega, rfl⟩
    · exact .inl (gM_none hi)
  | more own h1 h2 h3 h4 h5 h6 =>
    subst h6
    by_cases hi : i < 3 + own.length + (NM.length - 1)
    · rw [rowNI_at hi]
      unfold nmI
      by_cases e1 : i = 1
      · rw [if_pos e1]; exact .inr ⟨0, by omega, rfl⟩
      · rw [if_neg e1]
        by_cases e2 : 3 + own.length ≤ i
        · rw [if_pos e2]; exact .inr ⟨i - 3 - own.length + 1, by omega, rfl⟩
        · rw [if_neg e2]; exact .inl rfl
    · exact .inl (gM_none (by rw [rowNI_len]; omega))
theorem built_has (h : Built NM.length NM L P0 N0) {j : Nat} (hj : j < NM.length) : ∃ i, i < P0.length ∧ gM N0 i = gM NM j := by
  cases h with
  | one h1 h2 h3 =>
    subst h2 h3
    obtain rfl : j = 0 := by omega
    exact ⟨0, by decide, rfl⟩
  | two h1 h2 h3 =>
    subst h2 h3
    rcases (by omega : j = 0 ∨ j = 1) with rfl | rfl
    · exact ⟨1, by decide, rfl⟩
    · exact ⟨2, by decide, rfl⟩
  | more own h1 h2 h3 h4 h5 h6 =>
    subst h5 h6
    by_cases e : j = 0
    · subst e
      refine ⟨1, by rw [rowPI_len]; omega, ?_⟩
      rw [rowNI_at (by omega)]
      exact if_pos rfl
    · refine ⟨3 + own.length + (j - 1), by rw [rowPI_len]; omega, ?_⟩
      rw [rowNI_at (by omega)]
      unfold nmI
      rw [if_neg (by omega), if_pos (by omega)]
      congr 1; omega
theorem built_least (h : Built NM.length NM L P0 N0) (hn : NmOk NM) (hr : Row2 NM.length s 16) (hall : ∀ A : List Nat, (∀ l, l ∈ A ↔ l < NM.length ∧ s l ≠ s 0) → A.Nodup → 2 ≤ A.length → A.length + 2 ≤ NM.length → ∃ t ∈ L, ∀ l, l < NM.length → (l ∈ t ↔ s l ≠ s 0)) :
    LeastC P0.length 16 (pfN P0) (stM s NM N0) (if (∃ l, l < NM.length ∧ s l ≠ s 0) then 1 else 0) := by
  cases h with
  | one h1 h2 h3 =>
    subst h2 h3
    rw [if_neg (fun ⟨l, q1, q2⟩ => q2 (by rw [show l = 0 by omega]))]
    have hst : stM s NM [gM NM 0] 0 = some (s 0) := by
      unfold stM
      rw [if_neg (show gM [gM NM 0] 0 ≠ [] from (hn 0 (by omega)).1)]
      rw [show gM [gM NM 0] 0 = gM NM 0 from rfl, ix_nm hn (by omega)]; rfl
    refine ⟨⟨fun _ => s 0, fun i hi => ⟨hr.lt 0 (by omega), fun x hx => ?_⟩, ?_⟩, fun a ha => ?_⟩
    · have hi : i < 1 := hi
      obtain rfl : i = 0 := by omega
      rw [hst] at hx; cases hx; rfl
    · rfl
    · exact Int.le_refl 0
  | two h1 h2 h3 =>
    subst h2 h3
    have hst : ∀ j, j < 2 → stM s NM [[], gM NM 0, gM NM 1] (j + 1) = some (s j) := fun j hj => by
      have e : gM [[], gM NM 0, gM NM 1] (j + 1) = gM NM j := by
        rcases (by omega : j = 0 ∨ j = 1) with rfl | rfl <;> rfl
      unfold stM
      rw [e, if_neg (hn j (by omega)).1, ix_nm hn (by omega)]; rfl
    have hst0 : stM s NM [[], gM NM 0, gM NM 1] 0 = none := if_pos rfl
    have hch : ∀ a : Nat → Nat, chgA 3 (pfN [-1, 0, 0]) a = uC (a 0) (a 1) + uC (a 0) (a 2) := fun a => by
      show ((0 + 0) + uC (a 0) (a 1)) + uC (a 0) (a 2) = _
      omega
    have hw : (if (∃ l, l < NM.length ∧ s l ≠ s 0) then (1 : Int) else 0) = uC (s 0) (s 1) := by
      unfold uC
      by_cases e : s 0 = s 1
      · rw [if_pos e, if_neg]
        rintro ⟨l, q1, q2⟩
        rcases (by omega : l = 0 ∨ l = 1) with rfl | rfl
        · exact q2 rfl
        · exact q2 e.symm
      · rw [if_neg e, if_pos ⟨1, by omega, fun q => e q.symm⟩]
    rw [hw]
    refine ⟨⟨fun i => if i = 2 then s 1 else s 0, fun i hi => ⟨?_, fun x hx => ?_⟩, ?_⟩, fun a ha => ?_⟩
    · show (if i = 2 then s 1 else s 0) < 16
      split
      · exact hr.lt 1 (by omega)
      · exact hr.lt 0 (by omega)
    · have hi : i < 3 := hi
      rcases (by omega : i = 0 ∨ i = 1 ∨ i = 2) with rfl | rfl | rfl
      · rw [hst0] at hx; cases hx
      · rw [hst 0 (by omega)] at hx; cases hx; rfl
      · rw [hst 1 (by omega)] at hx; cases hx; rfl
    · show chgA 3 _ _ = _
      rw [hch]
      show uC (s 0) (s 0) + uC (s 0) (s 1) = _
      rw [show uC (s 0) (s 0) = 0 from if_pos rfl, Int.zero_add]
    · show _ ≤ chgA 3 _ _
      rw [hch]
      have a1 := (ha 1 (by decide)).2 _ (hst 0 (by omega))
      have a2 := (ha 2 (by decide)).2 _ (hst 1 (by omega))
      rw [a1, a2]
      unfold uC
      by_cases e : s 0 = s 1
      · rw [if_pos e]; split <;> split <;> omega
      · rw [if_neg e]
        by_cases e1 : a 0 = s 0
        · rw [if_pos e1, if_neg (fun q => e (by omega))]; omega
        · rw [if_neg e1]; split <;> omega
  | more own h1 h2 h3 h4 h5 h6 =>
    subst h5 h6
    have hl := least_splits (m := 16) h2 h1 hr fun A hA hnd hA2 hA3 => by
      obtain ⟨t, ht, hk⟩ := hall A hA hnd hA2 hA3
      obtain ⟨k, hk2, rfl⟩ := List.mem_iff_getElem.1 ((h3 t).2 ht)
      refine ⟨k, hk2, fun l hlt => ?_⟩
      rw [gS_at hk2]; exact hk l hlt
    rw [rowPI_len]
    refine hl.cong (fun c h0 hc => ?_) fun i hi => ?_
    · unfold pfN
      rw [rowPI_at hc]
      unfold parI
      rw [if_neg (by omega)]; rfl
    · unfold stM stS
      rw [rowNI_at hi]
      unfold nmI
      by_cases e1 : i = 1
      · rw [if_pos e1, if_pos e1, if_neg (hn 0 (by omega)).1, ix_nm hn (by omega)]; rfl
      · rw [if_neg e1, if_neg e1]
        by_cases e2 : 3 + own.length ≤ i
        · rw [if_pos e2, if_pos e2, if_neg (hn _ (by omega)).1, ix_nm hn (by omega)]; rfl
        · rw [if_neg e2, if_neg e2, if_pos rfl]
end
end Go.Proofs
namespace Go.Proofs
open Go Go.Sh Go.RowKit
/- parsimony: copy, slices.Repeat, known, least, best, unit -/
theorem cpy_int {w : World} {g o dLen dCap sLen sCap : Nat} {ad : Addr} {cur cs : List Value} (hg : Blk w g cur 3) (hn : cs.length = Nat.min sLen dLen) (hsrc : ∀ j v, cs[j]? = some v → w.cell? (ad.add j) = some v) (hfit : o + cs.length ≤ cur.length) (h1 : ∀ v ∈ cs, v.oneCell' = true) {K : Int → World → Prop}
    (hk : ∀ w', Blk w' g (cur.take o ++ cs ++ cur.drop (o + cs.length)) 3 → Chg (fun k => k = g) w w' → w'.heap.size = w.heap.size → K (cs.length : Int) w') :
    cpy Tryz.prog [30, 30] 3 [.slice (some ⟨g, o, none⟩) dLen dCap, .slice (some ad) sLen sCap] w K := by
  have hg' : w.heap[g]? = some (.cells cur.toArray 3 (0, 0)) := hg
  have hr := run_copy_row (P := Tryz.prog) w 30 30 3 3 g o dLen dCap ad sLen sCap cur.toArray 3 cs (by kernel_rfl) (by kernel_rfl) hg' hn hsrc (by simpa using hfit) h1
  refine ⟨_, _, hr, hk _ ?_ ⟨rfl, rfl, rfl, by simp, fun k _ hk => setRow_other w g k _ hk⟩ (by simp)⟩
  have := setRow_heap w g cur.toArray (cur.take o ++ cs ++ cur.drop (o + cs.length)).toArray 3 (0, 0) hg'
  exact this
section
variable {R : Ending → World → Prop} {S S2 : Nat → Prop} {w : World}
def onesI (k : Nat) : List Value := (List.replicate k (.int .i64 1)) ++ List.replicate (16 - k) (.int .i64 0)
theorem onesI_step {k : Nat} (h1 : 1 ≤ k) (h2 : k < 16) : (onesI k).take k ++ List.replicate (Nat.min k (16 - k)) (.int .i64 1) ++ (onesI k).drop (k + Nat.min k (16 - k)) = onesI (k + Nat.min k (16 - k)) := by
  have : k = 1 ∨ k = 2 ∨ k = 3 ∨ k = 4 ∨ k = 5 ∨ k = 6 ∨ k = 7 ∨ k = 8 ∨ k = 9 ∨ k = 10 ∨ k = 11 ∨ k = 12 ∨ k = 13 ∨ k = 14 ∨ k = 15 := by omega
  rcases this with rfl | rfl | rfl | rfl | rfl | rfl | rfl | rfl | rfl | rfl | rfl | rfl | rfl | rfl | rfl <;> rfl
set_option maxRecDepth 20000 in
theorem RepeatI_spec {b : Nat} (B : Blk w b [.int .i64 1] 3) (h : ∀ p w', p = w.heap.size → Ext w w' → Blk w' p (List.replicate 16 (.int .i64 1)) 3 → R (.returned (.slice (some ⟨p, 0, none⟩) 16 16)) w') :
    Calls Tryz.prog F_slices_Repeat_of_int_int ⟨[.slice (some ⟨b, 0, none⟩) 1 1, .int .i64 16]⟩ w R := by
  apply c_slices_Repeat_of_int_int
  intro K3 hK3
  refine br_neg (by decide) (hK3 w fun _ => ?_)
  rw [show IntKind.u64.wrap ((1 : Nat) : Int) = ((1 : Nat) : Int) by decide, show IntKind.u64.wrap 16 = ((16 : Nat) : Int) by decide]
  refine (Tryz.bits_Mul 1 16 (by decide) (by decide) w).mono ?_
  rintro e5 w6 ⟨rfl, rfl⟩
  refine ⟨_, _, rfl, ?_⟩
  intro K9 hK9
  have q0 : (((1 * 16 / 18446744073709551616 : Nat)) : Int) = 0 := by decide
  have q1 : (((1 * 16 % 18446744073709551616 : Nat)) : Int) = 16 := by decide
  rw [q0, q1]
  refine br_neg (by decide) (br_neg (by decide) (hK9 w6 fun _ => ?_))
  rw [show IntKind.i64.wrap ((1 * 16 % 18446744073709551616 : Nat) : Int) = ((16 : Nat) : Int) by decide]
  refine mks_intro (Nat.le_refl _) (by decide) fun p w12 hp Bp e12 s12 => ?_
  rw [Int.toNat_natCast]
  have Bp : Blk w12 p (List.replicate 16 (.int .i64 0)) 3 := Bp
  have B' := B.ext e12
  refine cpy_int (cs := [.int .i64 1]) Bp rfl (fun j v hj => ?_) (by decide) (by intro v hv; simp only [List.mem_cons, List.not_mem_nil, or_false] at hv; rw [hv]; rfl) fun w13 B13 c13 s13 => ?_
  · have hj' : j < 1 := by have := (List.getElem?_eq_some_iff.1 hj).1; exact this
    obtain rfl : j = 0 := by omega
    exact bat B' hj
  refine ⟨fun i V m => ∃ k : Nat, i = k ∧ 1 ≤ k ∧ k ≤ 16 ∧ m = 16 - k ∧ Ext w6 V ∧ Blk V p (onesI k) 3, ⟨15, 1, rfl, by omega, by omega, rfl, ext_chgS e12 c13 fun j hj => by omega, B13⟩, ?_⟩
  rintro _ V m ⟨k, rfl, h1, h2, rfl, eV, BV⟩ _
  refine br_split (fun hlt => ?_) (fun hge => ?_)
  · have hk : k < 16 := by omega
    unfold drw
    have eV' := ext_trans eV (ext_drew V)
    have BV' := BV.ext (ext_drew V)
    generalize V.drew = V1 at *
    refine ⟨by omega, by omega, by omega, ?_⟩
    refine ⟨by omega, by omega, by omega, ?_⟩
    refine ⟨?_, True.intro⟩
    have ol : (onesI k).length = 16 := by unfold onesI; rw [List.length_append, List.length_replicate, List.length_replicate]; omega
    have hs1 : slA (some (⟨p, 0, none⟩ : Addr)) 16 (Int.toNat (k : Int)) 1 = some ⟨p, k, none⟩ := by
      unfold slA
      rw [if_neg (by omega)]
      simp only [Option.map, Addr.add, Int.toNat_natCast, Nat.mul_one, Nat.zero_add]
      rw [if_neg (by omega)]
    have hs2 : slA (some (⟨p, 0, none⟩ : Addr)) 16 (Int.toNat 0) 1 = some ⟨p, 0, none⟩ := by
      unfold slA
      rw [if_neg (by decide)]
      rfl
    rw [hs1, hs2]
    refine cpy_int (cs := List.replicate (Nat.min k (16 - k)) (.int .i64 1)) BV' ?_ (fun j v hj => ?_) (by rw [List.length_replicate, ol]; have : Nat.min k (16 - k) ≤ 16 - k := Nat.min_le_right _ _; omega) (by intro v hv; rw [List.eq_of_mem_replicate hv]; rfl) fun w13 B13 c13 s13 => ?_
    · rw [List.length_replicate]
      congr 1
    · have hjl := (List.getElem?_eq_some_iff.1 hj).1
      rw [List.length_replicate] at hjl
      have hjk : j < k := Nat.lt_of_lt_of_le hjl (Nat.min_le_left _ _)
      have hv := (List.getElem?_eq_some_iff.1 hj).2
      rw [List.getElem_replicate] at hv
      subst hv
      refine bat BV' ?_
      unfold onesI
      rw [List.getElem?_append_left (by rw [List.length_replicate]; exact hjk), List.getElem?_replicate, if_pos hjk]
    · rw [List.length_replicate] at B13 ⊢
      rw [onesI_step h1 hk] at B13
      have hmin : 1 ≤ Nat.min k (16 - k) ∧ Nat.min k (16 - k) ≤ 16 - k := ⟨by rw [Nat.le_min]; omega, Nat.min_le_right _ _⟩
      refine ⟨16 - (k + Nat.min k (16 - k)), by omega, k + Nat.min k (16 - k), ?_, by omega, by omega, rfl, ext_chgS eV' c13 fun j hj => by omega, B13⟩
      rw [← Int.natCast_add, wrap_id (by omega)]
  · obtain rfl : k = 16 := by omega
    exact h p V hp eV BV
theorem known1_call {b5 b7 : Nat} {V : World} {l m x : Int} (B5 : Blk V b5 [.int .i64 l] 3) (B7 : Blk V b7 [.int .i64 m] 3) {K : Ending → World → Prop} (h : K (.returned (.bool (decide (x < l ∨ m ≤ x)))) V) :
    CallV Tryz.prog (.func (.func 49) ⟨[]⟩ ⟨[.pointer (some ⟨b5, 0, none⟩), .pointer (some ⟨b7, 0, none⟩)]⟩) [.int .i64 x] V K := by
  refine ⟨by kernel_rfl, ?_⟩
  apply c_parsimony_known_1
  refine dr_ok ⟨_, b0_cell B5, br_split (fun g => ?_) (fun g => dr_ok ⟨_, b0_cell B7, ?_⟩)⟩
  · rw [decide_eq_true (.inl g)] at h; exact h
  · rw [show decide (x < l ∨ m ≤ x) = decide (m ≤ x) from decide_eq_decide.2 ⟨fun q => q.elim (fun r => absurd r g) id, .inr⟩] at h; exact h
theorem known_spec {a : Option Addr} {n c : Nat} {L : List Int} {l m : Int} (h1 : RowV vI S w a n L) (hn : n ≤ 1000000) (hL : ∀ x ∈ L, l ≤ x ∧ x < m) (h : ∀ w', Ext w w' → R (.returned (.int .i64 0)) w') :
    Calls Tryz.prog F_parsimony_known ⟨[.slice a n c, .int .i64 (n : Int), .int .i64 l, .int .i64 m]⟩ w R := by
  apply c_parsimony_known
  refine al_intro fun b5 w6 hb5 B5 e6 s6 => al_intro fun b7 w8 hb7 B7 e8 s8 => ?_
  refine br_neg (by omega) ?_
  have e08 := ext_trans e6 e8
  refine ContainsFuncI_spec (q := fun x => decide (x < l ∨ m ≤ x)) (J := fun V => Ext w8 V) (h1.ext e08) (by omega) ?_ (Below.refl _ _) (fun _ _ => ext_trans) fun w3 e3 => ⟨_, rfl, ?_⟩
  · intro x hx W K hJ hK
    exact known1_call ((B5.ext e8).ext hJ) (B7.ext hJ) (hK W (Below.refl _ _))
  rw [show (L.any fun x => decide (x < l ∨ m ≤ x)) = false from List.any_eq_false.2 fun x hx => by have := hL x hx; rw [decide_eq_true_iff]; omega]
  exact br_cases (fun q => (by cases q)) (fun _ => h w3 (ext_trans e08 e3))
end
end Go.Proofs
namespace Go.Proofs
open Go Go.Sh Go.RowKit
/- parsimony: least, best, unit, on rows of 16 cells -/
abbrev rw16 (F : Nat → Int) : List Value := fC 16 fun t => .int .i64 (F t)
abbrev sl16 (b : Nat) : Value := .slice (some ⟨b, 0, none⟩) 16 16
structure CosAt (W : World) (b : Nat) (ra : Nat → Nat) : Prop where
  top : Blk W b (fC 16 fun a => sl16 (ra a)) 30
  row : ∀ a, a < 16 → Blk W (ra a) (rw16 fun t => uC a t) 3
theorem CosAt.ext {W W' : World} {b : Nat} {ra : Nat → Nat} (h : CosAt W b ra) (e : Ext W W') : CosAt W' b ra := ⟨h.top.ext e, fun a ha => (h.row a ha).ext e⟩
theorem CosAt.chg {W W' : World} {b : Nat} {ra : Nat → Nat} {C : Nat → Prop} (h : CosAt W b ra) (hc : Chg C W W') (hb : ¬ C b) (hr : ∀ a, a < 16 → ¬ C (ra a)) : CosAt W' b ra := ⟨hc.blk h.top hb, fun a ha => hc.blk (h.row a ha) (hr a ha)⟩
section
variable {R : Ending → World → Prop} {S S2 : Nat → Prop} {w : World}
theorem blk_at {b j m : Nat} {f : Nat → Value} {T : TypeId} (h : Blk w b (fC m f) T) (hj : j < m) : w.cell? ⟨b, j, none⟩ = some (f j) := by rw [h.cell, fC_get hj]
def lsF (g : Nat → Int × Int) (k : Nat) : List (Int × Int) := ((List.range 16).map g).drop k
theorem lsF_step {g : Nat → Int × Int} {k : Nat} (h : k < 16) (m : Int) : leastP (lsF g k) m = leastP (lsF g (k + 1)) (if 0 ≤ (g k).2 ∧ (m < 0 ∨ (g k).1 + (g k).2 < m) then (g k).1 + (g k).2 else m) := by
  unfold lsF
  have hl : k < ((List.range 16).map g).length := by simp; omega
  rw [List.drop_eq_getElem_cons hl, leastP]
  simp
theorem lsF_end (g : Nat → Int × Int) (m : Int) : leastP (lsF g 16) m = m := rfl
theorem leastR_spec {b : Nat} {F : Nat → Int} (B : Blk w b (rw16 F) 3) (h : ∀ own : Int, R (.returned (.tuple ⟨[.int .i64 (rootV 16 fun _ => F), .int .i64 own]⟩)) w) :
    Calls Tryz.prog F_parsimony_least ⟨[sl16 b]⟩ w R := by
  apply c_parsimony_least
  refine ⟨fun n own i W m => ∃ k : Nat, i = k ∧ k ≤ 16 ∧ m = 16 - k ∧ W = w ∧ leastP (lsF (fun s => (0, F s)) k) n = rootV 16 fun _ => F, ⟨16, 0, rfl, by omega, rfl, rfl, rfl⟩, ?_⟩
  rintro n own _ W m ⟨k, rfl, hk, rfl, rfl, hv⟩ _
  refine br_split (fun hlt => ?_) (fun hge => ?_)
  · have hk : k < 16 := by omega
    refine idx_b1 hk ⟨_, blk_at B hk, ?_⟩
    intro K11 hK
    rw [lsF_step hk] at hv
    have hv : leastP (lsF (fun s => ((0 : Int), F s)) (k + 1)) (if 0 ≤ F k ∧ (n < 0 ∨ 0 + F k < n) then 0 + F k else n) = rootV 16 fun _ => F := hv
    rw [Int.zero_add] at hv
    have t1 : 0 ≤ F k → (n < 0 ∨ F k < n) → ∀ V, V = W → K11 true V := by
      rintro g1 g2 V rfl
      refine hK true V fun _ => br_cases (fun _ => ?_) (fun q => by cases q)
      rw [if_pos ⟨g1, g2⟩] at hv
      exact ⟨16 - (k + 1), by omega, k + 1, by rw [wrap_nat (by omega)], by omega, rfl, rfl, hv⟩
    have t2 : ¬ (0 ≤ F k ∧ (n < 0 ∨ F k < n)) → ∀ V, V = W → K11 false V := by
      rintro g1 V rfl
      refine hK false V fun _ => br_cases (fun q => by cases q) (fun _ => ?_)
      rw [if_neg g1] at hv
      exact ⟨16 - (k + 1), by omega, k + 1, by rw [wrap_nat (by omega)], by omega, rfl, rfl, hv⟩
    refine br_split (fun g1 => br_split (fun g2 => t1 g1 (.inl g2) W rfl) (fun g2 => ?_)) (fun g1 => t2 (fun q => g1 q.1) W rfl)
    by_cases g3 : F k < n
    · rw [decide_eq_true g3]; exact t1 g1 (.inr g3) W rfl
    · rw [decide_eq_false g3]; exact t2 (fun q => q.2.elim g2 g3) W rfl
  · obtain rfl : k = 16 := by omega
    rw [lsF_end] at hv
    rw [hv]; exact h own
theorem best_spec {b co s c : Nat} {ra : Nat → Nat} {F : Nat → Nat → Int} (hs : s < 16) (C : CosAt w co ra) (B : Blk w b (rw16 (F c)) 3) (hF : ∀ t, t < 16 → -4000000000000000000 ≤ F c t ∧ F c t ≤ 4000000000000000000) (h : ∀ own : Int, R (.returned (.tuple ⟨[.int .i64 (bstF 16 F c s), .int .i64 own]⟩)) w) :
    Calls Tryz.prog F_parsimony_best ⟨[sl16 co, .int .i64 (s : Int), sl16 b]⟩ w R := by
  apply c_parsimony_best
  refine ⟨fun n own i W m => ∃ k : Nat, i = k ∧ k ≤ 16 ∧ m = 16 - k ∧ W = w ∧ leastP (lsF (fun t => (uC s t, F c t)) k) n = bstF 16 F c s, ⟨16, 0, rfl, by omega, rfl, rfl, rfl⟩, ?_⟩
  rintro n own _ W m ⟨k, rfl, hk, rfl, rfl, hv⟩ _
  refine br_split (fun hlt => ?_) (fun hge => ?_)
  · have hk : k < 16 := by omega
    refine idx_b1 hk ⟨_, blk_at B hk, ?_⟩
    rw [lsF_step hk] at hv
    have hv : leastP (lsF (fun t => (uC s t, F c t)) (k + 1)) (if 0 ≤ F c k ∧ (n < 0 ∨ uC s k + F c k < n) then uC s k + F c k else n) = bstF 16 F c s := hv
    have t2 : ¬ (0 ≤ F c k ∧ (n < 0 ∨ uC s k + F c k < n)) → ∃ m', m' < 16 - k ∧ ∃ k2 : Nat, IntKind.i64.wrap ((k : Int) + 1) = k2 ∧ k2 ≤ 16 ∧ m' = 16 - k2 ∧ W = W ∧ leastP (lsF (fun t => (uC s t, F c t)) k2) n = bstF 16 F c s := by
      intro g1
      rw [if_neg g1] at hv
      exact ⟨16 - (k + 1), by omega, k + 1, by rw [wrap_nat (by omega)], by omega, rfl, rfl, hv⟩
    refine br_split (fun g1 => t2 fun q => by omega) (fun g1 => ?_)
    have hu := uC_nn s k
    have hb := hF k hk
    refine idx_b1 hs ⟨_, _, _, blk_at (f := fun a => sl16 (ra a)) C.top hs, idx_b1 hk ⟨_, blk_at (C.row s hs) hk, ?_⟩⟩
    rw [show IntKind.i64.wrap ((fun t => uC s t) k + F c k) = uC s k + F c k from wrap_id (by show -9223372036854775808 ≤ uC s k + F c k ∧ uC s k + F c k ≤ 9223372036854775807; omega)]
    intro K18 hK
    have t1 : (n < 0 ∨ uC s k + F c k < n) → ∀ V, V = W → K18 true V := by
      rintro g2 V rfl
      refine hK true V fun _ => br_cases (fun _ => ?_) (fun q => by cases q)
      rw [if_pos ⟨by omega, g2⟩] at hv
      exact ⟨16 - (k + 1), by omega, k + 1, by rw [wrap_nat (by omega)], by omega, rfl, rfl, hv⟩
    refine br_split (fun g2 => t1 (.inl g2) W rfl) (fun g2 => ?_)
    by_cases g3 : uC s k + F c k < n
    · rw [decide_eq_true g3]; exact t1 (.inr g3) W rfl
    · rw [decide_eq_false g3]
      exact hK false W fun _ => br_cases (fun q => by cases q) (fun _ => t2 fun q => q.2.elim g2 g3)
  · obtain rfl : k = 16 := by omega
    rw [lsF_end] at hv
    rw [hv]; exact h own
set_option maxRecDepth 20000 in
theorem unit_spec (h : ∀ (b : Nat) (ra : Nat → Nat) w', Ext w w' → CosAt w' b ra → w.heap.size ≤ b → (∀ a, a < 16 → w.heap.size ≤ ra a) → R (.returned (sl16 b)) w') : Calls Tryz.prog F_parsimony_unit ⟨[.int .i64 16]⟩ w R := by
  apply c_parsimony_unit
  refine mks_intro (l := 16) (c := 16) (Nat.le_refl _) (by decide) fun b w3 hb B e3 s3 => ?_
  rw [fC_rep] at B
  refine ⟨fun i W m => ∃ (k : Nat) (ra : Nat → Nat), i = k ∧ k ≤ 16 ∧ m = 16 - k ∧ Ext w W ∧ Blk W b (fC 16 fun a => if a < k then sl16 (ra a) else .slice none 0 0) 30 ∧ (∀ a, a < k → b < ra a ∧ Blk W (ra a) (rw16 fun t => uC a t) 3),
    ⟨16, 0, fun _ => 0, rfl, by omega, rfl, e3, B, fun a ha => by omega⟩, ?_⟩
  rintro _ W m ⟨k, ra, rfl, hk, rfl, eW, BW, hr⟩ _
  refine br_split (fun hlt => ?_) (fun hge => ?_)
  · have hk : k < 16 := by omega
    refine al_intro fun b9 w10 hb9 B9 e10 s10 => ?_
    refine RepeatI_spec B9 fun p w12 hp e12 Bp => ⟨_, _, _, rfl, ?_⟩
    have zW := BW.lt
    refine idx_b1 hk ?_
    refine stL_fC ((BW.ext e10).ext e12) hk rfl fun w15 B15 c15 s15 => ?_
    refine idx_b1 hk ⟨_, _, _, (blk_at B15 hk).trans (by rw [if_pos rfl]), ?_⟩
    have Bp' : Blk w15 p (fC 16 fun _ => .int .i64 1) 3 := c15.blk (show Blk w12 p (fC 16 fun _ => .int .i64 1) 3 from Bp) (by omega)
    refine idx_b1 hk ?_
    refine stL_fC Bp' hk rfl fun w19 B19 c19 s19 => ?_
    have e15 : Ext w w15 := ext_chgS (ext_trans eW (ext_trans e10 e12)) c15 fun j hj => by omega
    have e19 : Ext w w19 := ext_chgS e15 c19 fun j hj => by have := eW.size; have := e10.size; omega
    refine ⟨16 - (k + 1), by omega, k + 1, fun a => if a = k then p else ra a, by rw [wrap_nat (by omega)], by omega, rfl, e19, ?_, fun a ha => ?_⟩
    · have q := c19.blk B15 (by omega)
      rw [show (fC 16 fun a => if a < k + 1 then sl16 (if a = k then p else ra a) else .slice none 0 0) = fC 16 (fun i => if i = k then sl16 p else if i < k then sl16 (ra i) else .slice none 0 0) from fC_congr fun j hj => ?_]
      · exact q
      · by_cases e : j = k
        · subst e; rw [if_pos (by omega), if_pos rfl, if_pos rfl]
        · by_cases e2 : j < k
          · rw [if_pos (by omega), if_neg e, if_neg e, if_pos e2]
          · rw [if_neg (show ¬ j < k + 1 by omega), if_neg e2, if_neg e]
    · show b < (if a = k then p else ra a) ∧ Blk w19 (if a = k then p else ra a) _ 3
      by_cases e : a = k
      · subst e
        rw [if_pos rfl]
        refine ⟨by omega, ?_⟩
        rw [show (rw16 fun t => uC a t) = fC 16 (fun i => if i = a then .int .i64 0 else .int .i64 1) from fC_congr fun j hj => ?_]
        · exact B19
        · show Value.int .i64 (if a = j then 0 else 1) = _
          by_cases e2 : j = a
          · rw [if_pos e2.symm, if_pos e2]
          · rw [if_neg e2, if_neg (fun q : a = j => e2 q.symm)]
      · rw [if_neg e]
        obtain ⟨h1, h2⟩ := hr a (by omega)
        have h2l := h2.lt
        exact ⟨h1, c19.blk (c15.blk ((h2.ext e10).ext e12) (by omega)) (by omega)⟩
  · obtain rfl : k = 16 := by omega
    refine h b ra W eW ⟨?_, fun a ha => (hr a ha).2⟩ (by omega) fun a ha => by have := (hr a ha).1; omega
    rw [show (fC 16 fun a => sl16 (ra a)) = fC 16 fun a => if a < 16 then sl16 (ra a) else .slice none 0 0 from fC_congr fun j hj => by rw [if_pos hj]]
    exact BW
end
end Go.Proofs
namespace Go.Proofs
open Go Go.Sh Go.RowKit
/- parsimony.children -/
def kidG (P : List Int) (k i : Nat) : List Nat := (List.range k).filter fun c => decide (i < c ∧ gZ P c = i)
theorem kidG_succ (P : List Int) (k i : Nat) : kidG P (k + 1) i = kidG P k i ++ (if i < k ∧ gZ P k = i then [k] else []) := by
  unfold kidG
  rw [List.range_succ, List.filter_append]
  congr 1
  by_cases h : i < k ∧ gZ P k = i
  · rw [if_pos h, List.filter_cons_of_pos (by simpa using h)]; rfl
  · rw [if_neg h, List.filter_cons_of_neg (by simpa using h)]; rfl
theorem kidG_nil {P : List Int} {i : Nat} : ∀ {k : Nat}, k ≤ i + 1 → kidG P k i = []
  | 0, _ => rfl
  | k + 1, h => by rw [kidG_succ, kidG_nil (by omega), if_neg (fun q => by omega)]; rfl
theorem kidG_pre (P : List Int) (i : Nat) {k m : Nat} (h : k ≤ m) : kidG P k i <+: kidG P m i := by
  induction m with
  | zero => obtain rfl : k = 0 := by omega
            exact List.prefix_refl _
  | succ m ih =>
    by_cases e : k = m + 1
    · subst e; exact List.prefix_refl _
    · rw [kidG_succ]
      exact (ih (by omega)).trans (List.prefix_append _ _)
theorem kidG_mem {P : List Int} {k i c : Nat} : c ∈ kidG P k i ↔ c < k ∧ i < c ∧ gZ P c = i := by
  unfold kidG
  rw [List.mem_filter, List.mem_range, decide_eq_true_iff]
abbrev natE (x : Nat) (vs : List Value) : Prop := vs = [.int .i64 x]
section
variable {R : Ending → World → Prop} {S S2 : Nat → Prop} {w : World}
theorem kids_iterO {b4 b6 i : Nat} {p q : Slv} {P : List Int} (B4 : Blk w b4 [sv p, sv q] 37) (B6 : Blk w b6 [.int .i64 i] 3) (hP : RowV vI S w p.1 p.2.1 P) (hi : i < P.length) (hn : P.length ≤ 1000000) {Rd : Nat → Prop}
    (hRl : ∀ k, Rd k → k < w.heap.size) (hR : ∀ k, k < w.heap.size → (k = b4 ∨ k = b6 ∨ S k) → Rd k) :
    IterO Tryz.prog F_parsimony_children_1 [.pointer (some ⟨b6, 0, none⟩), .pointer (some ⟨b4, 0, none⟩)] (kidG P P.length i) natE Rd w := by
  intro yf ya yb S0 J Jx R hS0 hJ hJx hbody h0 hend hstop
  apply c_parsimony_children_1
  have hpn := hP.1
  have nS : ∀ k, k < w.heap.size → (k = b4 ∨ k = b6 ∨ S k) → ¬ (S0 k ∨ w.heap.size ≤ k) := fun k hk q hh => hh.elim (fun g => (hS0 k g).2 (hR k hk q)) (fun g => by omega)
  have rd : ∀ {W : World}, Chg (fun k => S0 k ∨ w.heap.size ≤ k) w W → Blk W b4 [sv p, sv q] 37 ∧ Blk W b6 [.int .i64 i] 3 ∧ RowV vI S W p.1 p.2.1 P := fun hc =>
    ⟨hc.blk B4 (nS _ B4.lt (.inl rfl)), hc.blk B6 (nS _ B6.lt (.inr (.inl rfl))), hP.chg hc fun k hk hl => nS k hl (.inr (.inr hk))⟩
  refine dr_ok ⟨_, b0_cell B6, ?_⟩
  refine ⟨fun j W m => ∃ (t : Nat) (S1 : Nat → Prop), j = t ∧ i + 1 ≤ t ∧ t ≤ P.length ∧ m = P.length - t ∧ J (kidG P t i) S1 W ∧ Chg (fun k => S0 k ∨ w.heap.size ≤ k) w W ∧ (∀ k, S1 k → (S0 k ∨ w.heap.size ≤ k) ∧ k < W.heap.size),
    ⟨_, i + 1, S0, wrap_nat (by omega), by omega, by omega, rfl, by rw [kidG_nil (Nat.le_refl _)]; exact h0, Chg.refl _ _, fun k hk => ⟨.inl hk, (hS0 k hk).1⟩⟩, ?_⟩
  rintro _ W m ⟨t, S1, rfl, ht0, ht, rfl, hj, hc, hS1⟩ _
  obtain ⟨B4W, B6W, PW⟩ := rd hc
  have zW := hc.size
  refine dr_ok ⟨_, _, _, bat B4W rfl, ?_⟩
  refine br_split (fun hlt => ?_) (fun hge => ?_)
  · have htn : t < P.length := by omega
    unfold drw
    have ed := ext_drew W
    have B4V := B4W.ext ed
    have B6V := B6W.ext ed
    have PV := PW.ext ed
    have hjV := hJ _ _ _ _ hj (.of_ext ed)
    have hcV := hc.trans (.of_ext ed)
    have zd := ed.size
    generalize W.drew = V at *
    obtain ⟨pp, ip, dp⟩ := rowI_get PV htn
    refine dr_ok ⟨_, _, _, bat B4V rfl, ip _ ⟨_, dp, dr_ok ⟨_, b0_cell B6V, ?_⟩⟩⟩
    refine br_split (fun g => ⟨?_, True.intro⟩) (fun g => ⟨?_, True.intro⟩)
    · have hb1 : kidG P (t + 1) i = kidG P t i ++ [t] := by rw [kidG_succ, if_pos ⟨by omega, g⟩]
      refine CallV_mono (hbody (kidG P t i) t [.int .i64 t] S1 V rfl (by rw [← hb1]; exact kidG_pre P i (by omega)) (by omega) (fun k hk => ⟨by have := (hS1 k hk).2; omega, fun hr => ?_⟩) hjV) ?_
      · rcases (hS1 k hk).1 with h1 | h1
        · exact (hS0 _ h1).2 hr
        · have := hRl k hr; omega
      · rintro e72 w73 ⟨hcb, S', hS', hres⟩
        have zb := hcb.size
        rcases hres with ⟨rfl, hjn⟩ | ⟨rfl, hjx⟩
        · refine ⟨_, rfl, br_cases (fun q => absurd q (by decide)) (fun _ => ?_)⟩
          refine ⟨P.length - (t + 1), by omega, t + 1, S', by rw [wrap_nat (by omega)], by omega, by omega, rfl, by rw [hb1]; exact hjn, hcV.trans (hcb.mono fun j _ hj' => (hS1 j hj').1), fun j hj' => ⟨?_, (hS' j hj').2⟩⟩
          rcases (hS' j hj').1 with h1 | h1
          · exact (hS1 j h1).1
          · exact .inr (by omega)
        · exact ⟨_, rfl, br_cases (fun _ => hstop S' w73 (by omega) hjx) (fun q => absurd q (by decide))⟩
    · have hb1 : kidG P (t + 1) i = kidG P t i := by rw [kidG_succ, if_neg (fun q => g q.2), List.append_nil]
      exact ⟨P.length - (t + 1), by omega, t + 1, S1, by rw [wrap_nat (by omega)], by omega, by omega, rfl, by rw [hb1]; exact hjV, hcV, fun k hk => ⟨(hS1 k hk).1, by have := (hS1 k hk).2; omega⟩⟩
  · have h64 : t = P.length := by omega
    subst h64
    exact hend S1 W zW hj
end
end Go.Proofs
namespace Go.Proofs
open Go Go.Sh Go.RowKit
/- parsimony.table: filling one row -/
def misI (sts : List Int) (lv : List Nat) (i s : Nat) : Int := if i ∈ lv ∧ 0 ≤ gZ sts (lv.idxOf i) ∧ gZ sts (lv.idxOf i) ≠ (s : Int) then -1 else 0
def dB : Nat → Int
  | 0 => 0
  | k + 1 => 16 + 15 * dB k
theorem dB_nn : ∀ k, 0 ≤ dB k
  | 0 => Int.le_refl _
  | k + 1 => by have := dB_nn k; rw [dB]; omega
theorem dB_succ (k : Nat) : dB k ≤ dB (k + 1) := by have := dB_nn k; rw [dB]; omega
theorem dB_mono {a b : Nat} (h : a ≤ b) : dB a ≤ dB b := by
  induction b with
  | zero => obtain rfl : a = 0 := by omega
            exact Int.le_refl _
  | succ b ih =>
    by_cases e : a = b + 1
    · subst e; exact Int.le_refl _
    · exact Int.le_trans (ih (by omega)) (dB_succ b)
theorem dB_15 : dB 15 ≤ 1000000000000000000 := by decide
theorem ix_zN (i : Nat) (lv : List Nat) : ixF (fun x => decide ((i : Int) = x)) (zN lv) = if i ∈ lv then (lv.idxOf i : Int) else -1 := by
  have h1 : (zN lv).any (fun x => decide ((i : Int) = x)) = decide (i ∈ lv) := by
    unfold zN
    rw [List.any_map]
    rw [Bool.eq_iff_iff, List.any_eq_true, decide_eq_true_iff]
    constructor
    · rintro ⟨x, hx, he⟩
      have he : decide ((i : Int) = (x : Int)) = true := he
      rw [decide_eq_true_iff] at he
      obtain rfl : i = x := by omega
      exact hx
    · intro hx
      exact ⟨i, hx, by show decide ((i : Int) = (i : Int)) = true; exact decide_eq_true rfl⟩
  unfold ixF
  rw [h1]
  by_cases h : i ∈ lv
  · rw [if_pos (decide_eq_true h), if_pos h]
    congr 1
    unfold zN List.idxOf
    rw [List.findIdx_map]
    congr 1
    funext x
    show decide ((i : Int) = (x : Int)) = (x == i)
    rw [Bool.eq_iff_iff, decide_eq_true_iff, beq_iff_eq]
    omega
  · rw [if_neg (by rw [decide_eq_false h]; decide), if_neg h]
theorem leastP_neg : ∀ {l : List (Int × Int)} {m : Int} {D : Int}, -1 ≤ m → m ≤ D → (∀ x ∈ l, 0 ≤ x.1 ∧ x.1 + x.2 ≤ D) → -1 ≤ leastP l m ∧ leastP l m ≤ D
  | [], m, D, h1, h2, _ => ⟨h1, h2⟩
  | x :: l, m, D, h1, h2, h => by
    rw [leastP]
    have hx := h x (List.mem_cons_self ..)
    refine leastP_neg ?_ ?_ fun y hy => h y (List.mem_cons_of_mem _ hy)
    · split
      · rename_i q; omega
      · exact h1
    · split
      · exact hx.2
      · exact h2
theorem bst_bd {F : Nat → Nat → Int} {c s : Nat} {D : Int} (hD : 0 ≤ D) (h : ∀ t, t < 16 → F c t ≤ D) : -1 ≤ bstF 16 F c s ∧ bstF 16 F c s ≤ 1 + D := by
  refine leastP_neg (Int.le_refl _) (by omega) fun x hx => ?_
  obtain ⟨t, ht, rfl⟩ := List.mem_map.1 hx
  have := uC_nn s t
  have := h t (List.mem_range.1 ht)
  exact ⟨by show 0 ≤ uC s t; omega, by show uC s t + F c t ≤ 1 + D; omega⟩
theorem sumL_bd {g : Nat → Int} {B : Int} (hB : 0 ≤ B) : ∀ {l : List Nat}, (∀ x ∈ l, -1 ≤ g x ∧ g x ≤ 1 + B) → l.length ≤ 15 → -15 ≤ sumL g l ∧ sumL g l ≤ 15 * (1 + B) := by
  have key : ∀ {l : List Nat}, (∀ x ∈ l, -1 ≤ g x ∧ g x ≤ 1 + B) → -(l.length : Int) ≤ sumL g l ∧ sumL g l ≤ (l.length : Int) * (1 + B) := by
    intro l
    induction l with
    | nil => intro _; exact ⟨by simp [sumL], by simp [sumL]⟩
    | cons x l ih =>
      intro h
      have h1 := h x (List.mem_cons_self ..)
      have h2 := ih fun y hy => h y (List.mem_cons_of_mem _ hy)
      rw [sumL, List.length_cons, Int.natCast_add, Int.add_mul]
      omega
  intro l h hl
  obtain ⟨h1, h2⟩ := key h
  refine ⟨by omega, Int.le_trans h2 (Int.mul_le_mul_of_nonneg_right (by omega) (by omega))⟩
theorem kidG_len {P : List Int} {k i : Nat} : (kidG P k i).length ≤ k := by
  unfold kidG
  have := List.length_filter_le (fun c => decide (i < c ∧ gZ P c = (i : Int))) (List.range k)
  rw [List.length_range] at this
  exact this
structure TabK where
  z0 : Nat
  z1 : Nat
  z2 : Nat
  b5 : Nat
  b7 : Nat
  b9 : Nat
  b12 : Nat
  b14 : Nat
  b23 : Nat
  co : Nat
  ra : Nat → Nat
  p : Slv
  q : Slv
  lvS : Slv
  stS : Slv
  P : List Int
  lv : List Nat
  sts : List Int
  w0 : World
def fullT (c : TabK) (G : Nat → Nat → Int) (i s : Nat) : Int := misI c.sts c.lv i s + sumL (fun d => bstF 16 G d s) (kidG c.P c.P.length i)
structure TabS (c : TabK) (W : World) (k : Nat) (r : Nat → Nat) (G : Nat → Nat → Int) : Prop where
  T5 : Blk W c.b5 [sv c.p, sv c.q] 37
  T7 : Blk W c.b7 [sv c.stS] 30
  T9 : Blk W c.b9 [sl16 c.co] 29
  T14 : Blk W c.b14 [.slice (some ⟨c.b12, 0, none⟩) c.P.length c.P.length] 29
  T23 : Blk W c.b23 [sv c.lvS] 30
  par : RowV vI (fun j => j < c.z0) W c.p.1 c.p.2.1 c.P
  sts : RowV vI (fun j => j < c.z0) W c.stS.1 c.stS.2.1 c.sts
  lvs : RowV vI (fun j => c.z1 ≤ j ∧ j < c.z2) W c.lvS.1 c.lvS.2.1 (zN c.lv)
  cos : CosAt W c.co c.ra
  cl : c.co < c.z0 ∧ ∀ a, a < 16 → c.ra a < c.z0
  out : Blk W c.b12 (fC c.P.length fun i => if i < k then .slice none 0 0 else sl16 (r i)) 30
  rows : ∀ i, k ≤ i → i < c.P.length → c.z2 ≤ r i ∧ Blk W (r i) (rw16 (G i)) 3
  ord : c.z0 ≤ c.b5 ∧ c.b5 < c.b7 ∧ c.b7 < c.b9 ∧ c.b9 < c.b12 ∧ c.b12 < c.b14 ∧ c.b14 < c.z1 ∧ c.z1 ≤ c.b23 ∧ c.b23 < c.z2 ∧ c.w0.heap.size ≤ c.z0
  ext : Ext c.w0 W
  z : c.z2 ≤ W.heap.size
  eqs : ∀ i s, k ≤ i → i < c.P.length → s < 16 → G i s = fullT c G i s
  bd : ∀ i s, k ≤ i → i < c.P.length → s < 16 → -16 ≤ G i s ∧ G i s ≤ dB (c.P.length - i)
  n15 : c.P.length ≤ 15
  len : c.sts.length = c.lv.length
  l64 : c.lv.length ≤ 64
section
variable {c : TabK} {W : World} {k : Nat} {r : Nat → Nat} {G : Nat → Nat → Int}
theorem TabS.step (h : TabS c W k r G) {V : World} (e : Ext W V) : TabS c V k r G :=
  { h with T5 := h.T5.ext e, T7 := h.T7.ext e, T9 := h.T9.ext e, T14 := h.T14.ext e, T23 := h.T23.ext e, par := h.par.ext e, sts := h.sts.ext e, lvs := h.lvs.ext e, cos := h.cos.ext e, out := h.out.ext e
           rows := fun i h1 h2 => ⟨(h.rows i h1 h2).1, (h.rows i h1 h2).2.ext e⟩, ext := ext_trans h.ext e, z := by have := e.size; have := h.z; omega }
abbrev fillFn (c : TabK) : Value := .func (.func 50) ⟨[]⟩ ⟨[.pointer (some ⟨c.b9, 0, none⟩), .pointer (some ⟨c.b23, 0, none⟩), .pointer (some ⟨c.b7, 0, none⟩), .pointer (some ⟨c.b5, 0, none⟩), .pointer (some ⟨c.b14, 0, none⟩)]⟩
theorem full_bd (h : TabS c W (k + 1) r G) (hk : k < c.P.length) {s : Nat} {pre : List Nat} (hp : pre <+: kidG c.P c.P.length k) : -16 ≤ misI c.sts c.lv k s + sumL (fun d => bstF 16 G d s) pre ∧ misI c.sts c.lv k s + sumL (fun d => bstF 16 G d s) pre ≤ dB (c.P.length - k) := by
  have h15 := h.n15
  have hd := dB_nn (c.P.length - (k + 1))
  have h1 := sumL_bd (g := fun d => bstF 16 G d s) hd (l := pre) (fun x hx => bst_bd hd fun t ht => by
    obtain ⟨h1, h2, _⟩ := kidG_mem.1 (hp.mem hx)
    exact Int.le_trans (h.bd x t (by omega) h1 ht).2 (dB_mono (by omega))) (Nat.le_trans hp.length_le (Nat.le_trans kidG_len h15))
  have h2 : -1 ≤ misI c.sts c.lv k s ∧ misI c.sts c.lv k s ≤ 0 := by unfold misI; split <;> omega
  have e : dB (c.P.length - k) = 16 + 15 * dB (c.P.length - (k + 1)) := by
    rw [show c.P.length - k = (c.P.length - (k + 1)) + 1 by omega, dB]
  omega
end
end Go.Proofs
namespace Go.Sh
open Go Go.RowKit

/- appending a row that stands in a block of its own to a slice variable; the new element and the variable are laid in either order -/
theorem app_cap2 {P : Program} {t ty e : TypeId} {size bytes : Nat} {z : Value} (hT : SlT P t e size bytes z) {B : Nat} {a : Option Addr} {n c : Nat} {xs : List Value} {w : World} {b bz : Nat} {Tv Tz : TypeId}
    (hown : Owns w B e size a n c xs) (hB : B ≤ w.heap.size) (hb : Blk w b [.slice a n c] Tv) (hnb : ¬ Sh.bk a b) (zc vs : List Value) (hbz : Blk w bz zc Tz) (hzc : zc.length = size) (hz1 : ∀ u ∈ zc, u.oneCell' = true) (hvs : vs.length = size) (hv1 : ∀ u ∈ vs, u.oneCell' = true)
    (hlen : n + 1 ≤ 4611686018427387904) (hbytes : (n + 1) * bytes ≤ 140737488355328) {K : World → Prop}
    (hk : ∀ a' c' w', Blk w' b [.slice a' (n + 1) c'] Tv → Owns w' B e size a' (n + 1) c' (xs ++ vs) → Chg (fun k => k = b ∨ Sh.bk a k) w w' → (∀ k, Sh.bk a' k → Sh.bk a k ∨ w.heap.size ≤ k) → K w') :
    app P [t, t] ty (.slice a n c) (.slice (some ⟨bz, 0, none⟩) 1 1) w fun a' n' c' w2 => idx a' n' (n : Int) size fun q =>
      (stL w2 q 0 vs fun w3 => (stL w3 ⟨b, 0, none⟩ 0 [.slice a' n' c'] fun w4 => K w4) ∧ True) ∧
      (stL w2 ⟨b, 0, none⟩ 0 [.slice a' n' c'] fun w3 => (stL w3 q 0 vs fun w4 => K w4) ∧ True) ∧ True := by
  refine app_own2 hT hown hB (S := fun _ => True) zc (by rw [hzc, Nat.one_mul]) (.inr ⟨bz, 0, rfl, trivial, hbz.lt, fun j v hj => by rw [Nat.zero_add, hbz.cell]; exact hj⟩) hz1 hlen hbytes fun a' c' w2 ho hc hn => ?_
  have l := hb.lt
  have hb2 : Blk w2 b [.slice a n c] Tv := hc.blk hb hnb
  have nb' : ¬ Sh.bk a' b := fun hh => (hn b hh).elim hnb (by omega)
  obtain ⟨g, ha, hidx, hst⟩ := ho.storeLast (vs := vs) hzc hvs hv1
  have sub : ∀ k, k < w.heap.size → Sh.bk a' k → Sh.bk a k := fun k hk hb' => (hn k hb').elim id (by omega)
  have tot : ∀ {S1 S2 : Nat → Prop} {w3 w4 : World}, Chg S1 w2 w3 → Chg S2 w3 w4 → (∀ k, S1 k → k = b ∨ Sh.bk a' k) → (∀ k, S2 k → k = b ∨ Sh.bk a' k) → Chg (fun k => k = b ∨ Sh.bk a k) w w4 := by
    intro S1 S2 w3 w4 c3 c4 h3 h4
    have z := hc.size
    have z3 := c3.size
    refine ⟨c4.os.trans (c3.os.trans hc.os), c4.tape.trans (c3.tape.trans hc.tape), c4.output.trans (c3.output.trans hc.output), Nat.le_trans z (Nat.le_trans z3 c4.size), fun k hk hn' => ?_⟩
    have no : ¬ (k = b ∨ Sh.bk a' k) := fun hh => hn' (hh.imp id (sub k hk))
    exact (c4.block k (by omega) fun hh => no (h4 k hh)).trans ((c3.block k (by omega) fun hh => no (h3 k hh)).trans (hc.block k hk fun hh => hn' (.inr hh)))
  refine hidx _ ⟨?_, ?_, trivial⟩
  · refine hst _ fun w3 ho3 hc3 z3 => ⟨?_, trivial⟩
    refine stL_blk (cs := [.slice a n c]) (T := Tv) (hc3.blk hb2 nb') (by simp) (by intro u hu; simp only [List.mem_singleton] at hu; subst hu; rfl) fun w4 b1 b2 b3 b4 b5 b6 => ?_
    have hc4 : Chg (fun k => k = b) w3 w4 := ⟨b4, b5, b6, by omega, fun k' _ hk => b2 k' hk⟩
    exact hk a' c' w4 b1 (ho3.chg hc4 fun k hk he => nb' (he ▸ hk)) (tot hc3 hc4 (fun k h => .inr h) fun k h => .inl h) hn
  · refine stL_blk (cs := [.slice a n c]) (T := Tv) hb2 (by simp) (by intro u hu; simp only [List.mem_singleton] at hu; subst hu; rfl) fun w3 b1 b2 b3 b4 b5 b6 => ⟨?_, trivial⟩
    have hc3 : Chg (fun k => k = b) w2 w3 := ⟨b4, b5, b6, by omega, fun k' _ hk => b2 k' hk⟩
    obtain ⟨g', ha', _, hst'⟩ := (ho.chg hc3 fun k hk he => nb' (he ▸ hk)).storeLast (vs := vs) hzc hvs hv1
    obtain rfl : g' = g := by rw [ha] at ha'; simpa using ha'.symm
    refine hst' _ fun w4 ho4 hc4 z4 => ?_
    exact hk a' c' w4 (hc4.blk b1 nb') ho4 (tot hc3 hc4 (fun k h => .inl h) fun k h => .inr h) hn

/- a list of nodes under way in a variable, its blocks named: S: what it may share, O: its own -/
def OwnG (e : TypeId) (S O : Nat → Prop) (B : Nat) (w : World) (a : Option Addr) (n c : Nat) (f : Fo) : Prop :=
  n = f.len ∧ (∀ k, bk a k → O k) ∧ (∀ k, O k → B ≤ k ∧ k < w.heap.size) ∧ ∃ xs, Owns w B e 4 a n c xs ∧ FoC (fun k => (S k ∨ O k) ∧ ¬ bk a k) w f xs
section
variable {S O : Nat → Prop} {w w' : World} {e : TypeId} {B : Nat} {a : Option Addr} {n c : Nat} {f : Fo}
theorem OwnG.nil (w : World) : OwnG e S (fun _ => False) B w none 0 0 .nil := ⟨rfl, fun k h => by simp [bk] at h, fun k h => h.elim, [], Owns.nil w B e 4, rfl⟩
theorem OwnG.len (h : OwnG e S O B w a n c f) : n = f.len := h.1
theorem OwnG.own (h : OwnG e S O B w a n c f) {k : Nat} (hk : O k) : B ≤ k ∧ k < w.heap.size := h.2.2.1 k hk
theorem OwnG.bk (h : OwnG e S O B w a n c f) {k : Nat} (hk : Sh.bk a k) : O k := h.2.1 k hk
theorem OwnG.chg {T : Nat → Prop} (h : OwnG e S O B w a n c f) (hc : Chg T w w') (hT : ∀ k, T k → k < w.heap.size → ¬ S k ∧ ¬ O k) : OwnG e S O B w' a n c f := by
  obtain ⟨h0, h1, h2, xs, h3, h4⟩ := h
  have z := hc.size
  refine ⟨h0, h1, fun k hk => ⟨(h2 k hk).1, by have := (h2 k hk).2; omega⟩, xs, ?_, h4.keep (fun k hk hl => ⟨hk, hc.block k hl fun ht => ?_⟩) z⟩
  · have h3' := Owns.chg (S := fun k => T k ∧ k < w.heap.size) h3 ⟨hc.os, hc.tape, hc.output, hc.size, fun k hk hn => hc.block k hk fun ht => hn ⟨ht, hk⟩⟩ fun k hk ht => (hT k ht.1 ht.2).2 (h1 k hk)
    exact h3'
  · rcases hk.1 with hh | hh
    · exact (hT k ht hl).1 hh
    · exact (hT k ht hl).2 hh
theorem OwnG.ext (h : OwnG e S O B w a n c f) (hc : Ext w w') : OwnG e S O B w' a n c f := h.chg (T := fun _ => False) (.of_ext hc) fun k h _ => h.elim
theorem OwnG.out (h : OwnG e S O B w a n c f) : SlF (fun k => S k ∨ O k) w a n f := by
  obtain ⟨h0, h1, h2, xs, h3, h4⟩ := h
  refine ⟨h0, xs, ?_, h4.keep (fun k hk _ => ⟨hk.1, rfl⟩) (Nat.le_refl _)⟩
  by_cases hn : 0 < n
  · obtain ⟨g, rfl, hg, hc⟩ := h3.cell hn
    exact .inr ⟨g, 0, rfl, .inr (h1 g (by simp [Sh.bk])), (h3.bk (by simp [Sh.bk])).2, fun j v hj => by rw [Nat.zero_add]; exact hc j v hj⟩
  · have hx : xs = [] := List.eq_nil_of_length_eq_zero (by rw [h3.len]; omega)
    exact .inl hx
/- one more node, out of a block that holds zeros -/
theorem OwnG.push {P : Program} {t ty : TypeId} {bytes : Nat} {z : Value} (hT : SlT P t e 4 bytes z) (h : OwnG e S O B w a n c f) (hB : B ≤ w.heap.size) {b bz : Nat} {Tv Tz : TypeId} {zc : List Value} (hb : Blk w b [.slice a n c] Tv) (hnb : ¬ O b)
    (hbz : Blk w bz zc Tz) (hzc : zc.length = 4) (hz1 : ∀ u ∈ zc, u.oneCell' = true) {k : Int} {s : List UInt8} {m : Int} {a' : Option Addr} {c' : Nat} {ps : Fo} {O2 : Nat → Prop}
    (hps : SlF (fun k => S k ∨ O2 k) w a' ps.len ps) (hO2 : ∀ k, O2 k → (B ≤ k ∧ k < w.heap.size) ∧ k ≠ b ∧ ¬ Sh.bk a k) (hSB : ∀ k, S k → k < B) (hlen : n + 1 ≤ 4611686018427387904) (hbytes : (n + 1) * bytes ≤ 140737488355328) (hBb : B ≤ b) {K : World → Prop}
    (hk : ∀ a'' n'' c'' w' (O' : Nat → Prop), Blk w' b [.slice a'' n'' c''] Tv → OwnG e S O' B w' a'' n'' c'' (f.app (.one k s m ps)) → Chg (fun j => j = b ∨ O j) w w' → (∀ j, O' j → O j ∨ O2 j ∨ (w.heap.size ≤ j ∧ j < w'.heap.size)) → K w') :
    app P [t, t] ty (.slice a n c) (.slice (some ⟨bz, 0, none⟩) 1 1) w fun a1 n1 c1 w2 => idx a1 n1 (n : Int) 4 fun q =>
      (stL w2 q 0 [.int .i64 k, .string ⟨⟨s⟩⟩, .int .i64 m, .slice a' ps.len c'] fun w3 => (stL w3 ⟨b, 0, none⟩ 0 [.slice a1 n1 c1] fun w4 => K w4) ∧ True) ∧
      (stL w2 ⟨b, 0, none⟩ 0 [.slice a1 n1 c1] fun w3 => (stL w3 q 0 [.int .i64 k, .string ⟨⟨s⟩⟩, .int .i64 m, .slice a' ps.len c'] fun w4 => K w4) ∧ True) ∧ True := by
  obtain ⟨h0, h1, h2, xs, h3, h4⟩ := h
  refine app_cap2 hT h3 hB hb (fun hh => hnb (h1 b hh)) zc [.int .i64 k, .string ⟨⟨s⟩⟩, .int .i64 m, .slice a' ps.len c'] hbz hzc hz1 rfl (by intro u hu; simp only [List.mem_cons, List.not_mem_nil, or_false] at hu; rcases hu with rfl | rfl | rfl | rfl <;> rfl) hlen hbytes
    fun a'' c'' w' hbl ho hc hn => hk a'' _ c'' w' (fun j => O j ∨ O2 j ∨ Sh.bk a'' j) hbl ⟨?_, fun j hj => .inr (.inr hj), fun j hj => ?_, _, ho, ?_⟩ (hc.mono fun j _ hj => hj.imp id (h1 j)) ?_
  · simp [Fo.one]; exact h0
  · have z := hc.size
    rcases hj with hj | hj | hj
    · exact ⟨(h2 j hj).1, by have := (h2 j hj).2; omega⟩
    · exact ⟨(hO2 j hj).1.1, by have := (hO2 j hj).1.2; omega⟩
    · exact ho.bk hj
  · obtain ⟨_, us, g3, g4⟩ := hps
    have na : ∀ j, j < w.heap.size → ¬ Sh.bk a j → ¬ Sh.bk a'' j := fun j hj hb' hh => (hn j hh).elim hb' (by omega)
    have hs : ∀ j, ((S j ∨ O j) ∧ ¬ Sh.bk a j) → j < w.heap.size → ((S j ∨ O j ∨ O2 j ∨ Sh.bk a'' j) ∧ ¬ Sh.bk a'' j) ∧ w'.heap[j]? = w.heap[j]? := fun j hj hl =>
      ⟨⟨hj.1.imp id fun h => .inl h, na j hl hj.2⟩, hc.block j hl fun hh => hh.elim (fun hb' => hj.1.elim (fun hs => by have := hSB j hs; omega) (fun ho => hnb (hb' ▸ ho))) hj.2⟩
    have hs2 : ∀ j, (S j ∨ O2 j) → j < w.heap.size → ((S j ∨ O j ∨ O2 j ∨ Sh.bk a'' j) ∧ ¬ Sh.bk a'' j) ∧ w'.heap[j]? = w.heap[j]? := fun j hj hl => by
      have nb : j ≠ b ∧ ¬ Sh.bk a j := hj.elim (fun h => ⟨by have := hSB j h; omega, fun hh => by have := (h2 j (h1 j hh)).1; have := hSB j h; omega⟩) (fun h => (hO2 j h).2)
      exact ⟨⟨hj.imp id fun h => .inr (.inl h), na j hl nb.2⟩, hc.block j hl fun hh => hh.elim nb.1 nb.2⟩
    exact (h4.keep hs hc.size).app ⟨a', c', us, [], rfl, g3.keep hs2 hc.size, g4.keep hs2 hc.size, rfl⟩
  · intro j hj
    rcases hj with hj | hj | hj
    · exact .inl hj
    · exact .inr (.inl hj)
    · rcases hn j hj with h' | h'
      · exact .inl (h1 j h')
      · exact .inr (.inr ⟨h', (ho.bk hj).2⟩)
end

/- the marks of ranges over functions, that a call lays down when it leaves -/
def marks (Dl : List Nat) : List Deferred := Dl.map fun D => { target := .collected D, args := #[] }
theorem retD_marks {K : World → Prop} : ∀ (Dl : List Nat) (W : World), Dl.Nodup → (∀ D ∈ Dl, W.heap[D]? = some (.deferred (some []))) → (∀ W', Chg (fun k => k ∈ Dl) W W' → K W') → retD (marks Dl) W K
  | [], W, _, _, h => h W (Chg.refl _ _)
  | D :: Dl, W, hn, hD, h => by
    rw [List.nodup_cons] at hn
    refine ⟨D, rfl, hD D (by simp), retD_marks Dl _ hn.2 (fun D' hD' => ?_) fun W' hc => h W' ?_⟩
    · rw [World.putObj_heap_other (fun e : D' = D => hn.1 (by rw [← e]; exact hD'))]; exact hD D' (by simp [hD'])
    · exact (Chg.put W D _ (by simp)).trans (hc.mono fun k _ hk => by simp [hk])
end Go.Sh
namespace Go.Proofs
open Go Go.Sh Go.RowKit
/- parsimony.table's function fill -/
section
variable {c : TabK} {W : World} {k : Nat} {r : Nat → Nat} {G : Nat → Nat → Int}
theorem sumL_cong {g g' : Nat → Int} : ∀ {l : List Nat}, (∀ x ∈ l, g x = g' x) → sumL g l = sumL g' l
  | [], _ => rfl
  | x :: l, h => by
    show g x + sumL g l = g' x + sumL g' l
    rw [h x (List.mem_cons_self ..), sumL_cong fun y hy => h y (List.mem_cons_of_mem _ hy)]
theorem bst_cong {F F' : Nat → Nat → Int} {c s : Nat} (h : F c = F' c) : bstF 16 F c s = bstF 16 F' c s := by unfold bstF; rw [h]
theorem def_ne {V : World} {D b : Nat} {cs : List Value} {T : TypeId} (h : V.heap[D]? = some (.deferred (some []))) (hb : Blk V b cs T) : D ≠ b := fun e => by
  unfold Blk at hb
  rw [← e, h] at hb
  cases hb
theorem rw_put {g : Nat → Int} {t : Nat} {x : Int} : (fC 16 fun i => if i = t then .int .i64 x else (fun j => .int .i64 (g j) : Nat → Value) i) = rw16 fun i => if i = t then x else g i := by
  refine fC_congr fun j _ => ?_
  show _ = Value.int .i64 (if j = t then x else g j)
  by_cases e : j = t
  · rw [if_pos e, if_pos e]
  · rw [if_neg e, if_neg e]
set_option maxRecDepth 20000 in
set_option maxHeartbeats 4000000 in
theorem fill_call (h : TabS c W (k + 1) r G) (hk : k < c.P.length) {K : Ending → World → Prop} (hK : ∀ V r' G', TabS c V k r' G' → K (.returned (.tuple ⟨[]⟩)) V) : CallV Tryz.prog (fillFn c) [.int .i64 (k : Int)] W K := by
  refine ⟨by kernel_rfl, ?_⟩
  apply c_parsimony_table_1
  have h15 := h.n15
  obtain ⟨o1, o2, o3, o4, o5, o6, o7, o8, o9⟩ := h.ord
  have hz := h.z
  refine dr_ok ⟨_, _, _, b0_cell h.T9, ?_⟩
  refine mks_intro (Nat.le_refl _) (by decide) fun pr w10 hpr Bp e10 s10 => ?_
  rw [Int.toNat_natCast]
  rw [fC_rep] at Bp
  refine al_intro fun p11 w12 hp11 B11 e12 s12 => stL_one B11 rfl fun w13 C11 c13 s13 => ?_
  have e13 : Ext W w13 := ext_chgS (ext_trans e10 e12) c13 fun j hj => by have := e10.size; omega
  have Bp13 : Blk w13 pr (rw16 fun _ => 0) 3 := c13.blk (Bp.ext e12) (by omega)
  refine dr_ok ⟨_, _, _, b0_cell (h.T23.ext e13), ?_⟩
  have h13 := h.step e13
  have hlvn := h13.lvs.1
  refine IndexI_spec (k : Int) h13.lvs (by rw [hlvn, zN_len]; have := h.l64; omega) ⟨_, rfl, _, _, _, b0_cell C11, ?_⟩
  rw [ix_zN]
  let fl : Nat → Int := fullT c G k
  refine ⟨fun i ds V m => ∃ (t : Nat) (Dl : List Nat), i = t ∧ ds = marks Dl ∧ t ≤ 16 ∧ m = 16 - t ∧ Dl.Nodup ∧ (∀ D ∈ Dl, W.heap.size ≤ D ∧ V.heap[D]? = some (.deferred (some []))) ∧ Ext W V ∧ Blk V pr (rw16 fun j => if j < t then fl j else 0) 3 ∧ Blk V p11 [sl16 pr] 30,
    ⟨16, 0, [], rfl, rfl, by omega, rfl, List.nodup_nil, fun D hD => (by cases hD), e13, Bp13, C11⟩, ?_⟩
  rintro _ _ V m ⟨t, Dl, rfl, rfl, ht, rfl, hnd, hDl, eV, BV, CV⟩ _
  refine br_split (fun hlt => ?_) (fun hge => ?_)
  · have ht16 : t < 16 := by omega
    refine al_intro fun p26 w27 hp26 B26 e27 s27 => stL_one B26 rfl fun w28 C26 c28 s28 => ?_
    have e28 : Ext W w28 := ext_chgS (ext_trans eV e27) c28 fun j hj => by have := eV.size; omega
    have zV := eV.size
    have z27 := e27.size
    have B28 : Blk w28 pr (rw16 fun j => if j < t then fl j else 0) 3 := c28.blk (BV.ext e27) (by have := BV.lt; omega)
    have C28 : Blk w28 p11 [sl16 pr] 30 := c28.blk (CV.ext e27) (by have := CV.lt; omega)
    have D28 : ∀ D ∈ Dl, W.heap.size ≤ D ∧ D < V.heap.size ∧ w28.heap[D]? = some (.deferred (some [])) := fun D hD => by
      obtain ⟨d1, d2⟩ := hDl D hD
      have d3 : D < V.heap.size := by
        apply Classical.byContradiction
        intro q
        rw [Array.getElem?_eq_none (by omega)] at d2
        cases d2
      refine ⟨d1, d3, ?_⟩
      rw [c28.block D (by omega) (by omega), e27.block D d3]; exact d2
    have S26 : Blk w28 p26 [.int .i64 t] 3 := C26
    have zCV := CV.lt
    have zp : pr < p11 ∧ p11 < p26 ∧ W.heap.size ≤ pr ∧ p26 < w28.heap.size := by have := S26.lt; have := C28.lt; have := e10.size; omega
    intro K29 hK29
    -- the cell for this state
    have k29 : ∀ V2, Ext W V2 → V.heap.size ≤ V2.heap.size → (∀ D ∈ Dl, W.heap.size ≤ D ∧ D < V.heap.size ∧ V2.heap[D]? = some (.deferred (some []))) → Blk V2 pr (rw16 fun j => if j = t then misI c.sts c.lv k t else if j < t then fl j else 0) 3 → Blk V2 p11 [sl16 pr] 30 → Blk V2 p26 [.int .i64 t] 3 → K29 V2 := by
      intro V2 e2 z2 D2 B2 C2 S2
      refine hK29 V2 fun _ => ?_
      have h2 := h.step e2
      refine dr_ok ⟨_, _, _, bat h2.T5 rfl, _, _, _, bat h2.T5 rfl, ?_⟩
      apply c_parsimony_children
      refine al_intro fun q4 w4 hq4 Q4 e4 s4 => al_intro fun q6 w6 hq6 Q6 e6 s6 => ⟨_, _, _, rfl, fun base => ?_⟩
      rw [cd_parsimony_table_1_1]
      have e46 := ext_trans e4 e6
      have h6 := h2.step e46
      have z4 := e4.size
      have z6 := e6.size
      have B6 := B2.ext e46
      have C6 := C2.ext e46
      have S6 := S2.ext e46
      have zB2 := B2.lt
      have zC2 := C2.lt
      have zS2 := S2.lt
      have D6 : ∀ D ∈ Dl, W.heap.size ≤ D ∧ D < V.heap.size ∧ w6.heap[D]? = some (.deferred (some [])) := fun D hD => ⟨(D2 D hD).1, (D2 D hD).2.1, by rw [e46.block D (by have := (D2 D hD).2.1; omega)]; exact (D2 D hD).2.2⟩
      have e6W := ext_trans e2 e46
      refine RFw_lawO anA_parsimony_table_1_1 anB_parsimony_table_1_1 (gf := F_parsimony_children_1) rfl (by kernel_rfl) (xs := kidG c.P c.P.length k) (E := natE) (Rd := fun j => j = q4 ∨ j = q6 ∨ j < c.z0)
        (fun v1 he => kids_iterO (S := fun j => j < c.z0) ((Q4.ext e6).ext he) (Q6.ext he) (h6.par.ext he) hk (by omega) (fun j hj => ?_) (fun j _ hj => hj)) (fun y vs hE => by rw [show vs = _ from hE]; rfl) (by decide) (fun j hj => ?_) (fun j => j = pr) (fun j hj => ⟨by omega, fun hr => by omega⟩)
        (fun pre S1 U => (∀ j, S1 j ↔ j = pr) ∧ Chg (fun j => j = pr ∨ w6.heap.size ≤ j) w6 U ∧ Blk U pr (rw16 fun j => if j = t then misI c.sts c.lv k t + sumL (fun d => bstF 16 G d t) pre else if j < t then fl j else 0) 3) (fun _ _ => False) (fun _ _ => False)
        ?_ (fun _ _ _ h => h.elim) (fun _ _ _ h => h.elim) ?_ ?_ ?_ (fun _ _ _ _ _ _ _ h => h.elim) (fun _ _ _ _ _ _ _ h => h.elim)
      · have := he.size
        rcases hj with rfl | rfl | hj
        · omega
        · omega
        · omega
      · rcases hj with rfl | rfl | hj
        · omega
        · omega
        · omega
      · rintro pre S1 U U' ⟨g1, g2, g3⟩ hc
        exact ⟨g1, g2.trans (hc.mono fun j _ hj => .inr hj.1), hc.blk g3 fun hh => hh.2 ((g1 _).2 rfl)⟩
      · refine ⟨fun j => Iff.rfl, Chg.refl _ _, ?_⟩
        rw [show sumL (fun d => bstF 16 G d t) [] = 0 from rfl, Int.add_zero]
        exact B6
      · rintro pre y vs S1 U l hE hpre hl1 hl2 hl3 hS1 ⟨g1, g2, g3⟩
        obtain rfl : vs = [.int .i64 y] := hE
        refine Eq.mpr (er_parsimony_table_1_1 base _ _ _ _ _ _ _ _ _ _ _ _ _ _ _ _ _ _ _) ?_
        refine ⟨Below.refl _ _, fun U2 hU => ?_⟩
        have zU := hU.size
        have hUc : Chg (fun k => k = l) U U2 := ⟨hU.os, hU.tape, hU.output, by omega, fun k _ hk => hU.block k hk⟩
        have lpr : pr ≠ l := fun e => hl3 ((g1 l).2 e.symm)
        unfold drw
        have eWU : Ext W U2.drew := ext_trans (ext_chgS (ext_chgS e6W g2 fun j hj => by omega) hUc fun j hj => by omega) (ext_drew U2)
        have h7 := h.step eWU
        have g3' := (hUc.blk g3 lpr).ext (ext_drew U2)
        have C7 : Blk U2.drew p11 [sl16 pr] 30 := (hUc.blk (g2.blk C6 (by omega)) (by omega)).ext (ext_drew U2)
        have S7 : Blk U2.drew p26 [.int .i64 t] 3 := (hUc.blk (g2.blk S6 (by omega)) (by omega)).ext (ext_drew U2)
        have ed := ext_drew U2
        have zd := ed.size
        have zg := g2.size
        generalize U2.drew = U3 at *
        obtain ⟨y1, y2, _⟩ := kidG_mem.1 (hpre.mem (List.mem_append_right _ (List.mem_singleton.2 rfl)))
        refine dr_ok ⟨_, _, _, b0_cell h7.T9, dr_ok ⟨_, b0_cell S7, dr_ok ⟨_, _, _, b0_cell h7.T14, idx_b1 y1 ⟨_, _, _, (blk_at h7.out y1).trans (by rw [if_neg (by omega)]), ?_⟩⟩⟩⟩
        have gt : U3.cell? ⟨pr, t, none⟩ = some (.int .i64 (misI c.sts c.lv k t + sumL (fun d => bstF 16 G d t) pre)) := by
          rw [blk_at g3' ht16]
          show some (Value.int .i64 (if t = t then _ else _)) = _
          rw [if_pos rfl]
        refine ⟨best_spec (F := G) (c := y) ht16 h7.cos (h7.rows y (by omega) y1).2 (fun u hu => ?_) fun own => ⟨_, _, rfl, dr_ok ⟨_, _, _, b0_cell C7, dr_ok ⟨_, b0_cell S7, idx_b1 ht16 ⟨_, gt, idx_b1 ht16 ?_⟩⟩⟩⟩, True.intro⟩
        · have q1 := h.bd y u (by omega) y1 hu
          have q2 := dB_mono (show c.P.length - y ≤ 15 by omega)
          have q3 := dB_15
          omega
        · have pre' : pre <+: kidG c.P c.P.length k := (List.prefix_append _ _).trans hpre
          have f1 := full_bd h hk (s := t) pre'
          have f2 := full_bd h hk (s := t) hpre
          have q2 := dB_mono (show c.P.length - k ≤ 15 by omega)
          have q3 := dB_15
          have es : sumL (fun d => bstF 16 G d t) (pre ++ [y]) = sumL (fun d => bstF 16 G d t) pre + bstF 16 G y t := by
            rw [sumL_app]
            show _ + (bstF 16 G y t + 0) = _
            rw [Int.add_zero]
          rw [es] at f2
          rw [show IntKind.i64.wrap (misI c.sts c.lv k t + sumL (fun d => bstF 16 G d t) pre + bstF 16 G y t) = misI c.sts c.lv k t + sumL (fun d => bstF 16 G d t) (pre ++ [y]) by rw [es, wrap_id (by omega), Int.add_assoc]]
          refine stL_fC g3' ht16 rfl fun w104 B104 c104 s104 => ?_
          have cU : Chg (fun j => j = pr) U2 w104 := (Chg.of_ext ed).trans c104
          refine ⟨cU.mono fun j _ hj => .inl ((g1 j).2 hj), fun j => j = pr, fun j hj => ⟨.inl ((g1 j).2 hj), by omega⟩, fun j => Iff.rfl, ?_, ?_⟩
          · refine (g2.trans (hUc.mono fun j _ hj => .inr (by omega))).trans (cU.mono fun j _ hj => .inl hj)
          · rw [rw_put] at B104
            have : (rw16 fun i => if i = t then misI c.sts c.lv k t + sumL (fun d => bstF 16 G d t) (pre ++ [y]) else if i = t then misI c.sts c.lv k t + sumL (fun d => bstF 16 G d t) pre else if i < t then fl i else 0) = rw16 fun j => if j = t then misI c.sts c.lv k t + sumL (fun d => bstF 16 G d t) (pre ++ [y]) else if j < t then fl j else 0 := fC_congr fun j hj => by
              show Value.int .i64 (if j = t then _ else if j = t then _ else _) = Value.int .i64 (if j = t then _ else _)
              by_cases e : j = t
              · rw [if_pos e, if_pos e]
              · rw [if_neg e, if_neg e, if_neg e]
            rw [← this]; exact B104
      · rintro D S1 U hD1 hD2 hD3 hD4 ⟨g1, g2, g3⟩
        have zg := g2.size
        refine ⟨16 - (t + 1), by omega, t + 1, D :: Dl, by rw [wrap_nat (by omega)], rfl, by omega, rfl, List.nodup_cons.2 ⟨fun hh => by have := (D6 D hh).2.1; omega, hnd⟩, fun D' hD' => ?_, ext_chgS e6W g2 fun j hj => by omega, ?_, g2.blk C6 (by omega)⟩
        · rcases List.mem_cons.1 hD' with rfl | hD'
          · exact ⟨by omega, hD4⟩
          · obtain ⟨d1, d2, d3⟩ := D6 D' hD'
            have := def_ne d3 B6
            exact ⟨d1, by rw [g2.block D' (by omega) (by omega)]; exact d3⟩
        · have : (rw16 fun j => if j = t then misI c.sts c.lv k t + sumL (fun d => bstF 16 G d t) (kidG c.P c.P.length k) else if j < t then fl j else 0) = rw16 fun j => if j < t + 1 then fl j else 0 := fC_congr fun j hj => by
            show Value.int .i64 (if j = t then fl t else if j < t then fl j else 0) = Value.int .i64 (if j < t + 1 then fl j else 0)
            by_cases e : j = t
            · subst e; rw [if_pos rfl, if_pos (by omega)]
            · rw [if_neg e]
              by_cases e2 : j < t
              · rw [if_pos e2, if_pos (by omega)]
              · rw [if_neg e2, if_neg (by omega)]
          rw [← this]; exact g3
    intro K48 hK48
    have k48 : ∀ (b : Bool) V2, Ext W V2 → V.heap.size ≤ V2.heap.size → (∀ D ∈ Dl, W.heap.size ≤ D ∧ D < V.heap.size ∧ V2.heap[D]? = some (.deferred (some []))) → Blk V2 pr (rw16 fun j => if j < t then fl j else 0) 3 → Blk V2 p11 [sl16 pr] 30 → Blk V2 p26 [.int .i64 t] 3 → (b = true ↔ (k ∈ c.lv ∧ 0 ≤ gZ c.sts (c.lv.idxOf k) ∧ gZ c.sts (c.lv.idxOf k) ≠ (t : Int))) → K48 b V2 := by
      intro b V2 e2 z2 D2 B2 C2 S2 hb
      refine hK48 b V2 fun _ => br_cases (fun g => ?_) (fun g => ?_)
      · refine ⟨_, _, _, b0_cell C2, _, b0_cell S2, idx_b1 ht16 ?_⟩
        refine stL_fC B2 ht16 rfl fun w54 B54 c54 s54 => ?_
        refine k29 w54 (ext_chgS e2 c54 fun j hj => by omega) (by omega) (fun D hD => ?_) ?_ (c54.blk C2 (by omega)) (c54.blk S2 (by omega))
        · obtain ⟨d1, d2, d3⟩ := D2 D hD
          refine ⟨d1, d2, ?_⟩
          rw [c54.block D (by omega) (def_ne d3 B2)]; exact d3
        · rw [rw_put] at B54
          unfold misI
          rw [if_pos (hb.1 g)]
          exact B54
      · refine k29 V2 e2 z2 D2 ?_ C2 S2
        have : (rw16 fun j => if j < t then fl j else 0) = rw16 fun j => if j = t then misI c.sts c.lv k t else if j < t then fl j else 0 := fC_congr fun j hj => by
          show Value.int .i64 (if j < t then fl j else 0) = Value.int .i64 (if j = t then misI c.sts c.lv k t else if j < t then fl j else 0)
          by_cases e : j = t
          · subst e
            unfold misI
            rw [if_pos rfl, if_neg (by omega), if_neg (fun q => by rw [hb.2 q] at g; cases g)]
          · rw [if_neg e]
        rw [← this]; exact B2
    unfold drw
    have ed := ext_drew w28
    have h2 := h.step (ext_trans e28 ed)
    have k48' : ∀ b, (b = true ↔ (k ∈ c.lv ∧ 0 ≤ gZ c.sts (c.lv.idxOf k) ∧ gZ c.sts (c.lv.idxOf k) ≠ (t : Int))) → K48 b w28.drew := fun b hb => k48 b _ (ext_trans e28 ed) (by have := ed.size; omega) (fun D hD => ⟨(D28 D hD).1, (D28 D hD).2.1, by rw [ed.block D (by have := (D28 D hD).2.1; omega)]; exact (D28 D hD).2.2⟩) (B28.ext ed) (C28.ext ed) (S26.ext ed) hb
    have S2 := S26.ext ed
    generalize w28.drew = V2 at *
    by_cases hin : k ∈ c.lv
    · rw [if_pos hin]
      have hix : c.lv.idxOf k < c.sts.length := by rw [h.len]; exact List.idxOf_lt_length_iff.2 hin
      obtain ⟨pp, ip, dp⟩ := rowI_get h2.sts hix
      refine br_pos (by omega) ?_
      refine dr_ok ⟨_, _, _, b0_cell h2.T7, ip _ ⟨_, dp, br_split (fun g1 => ?_) (fun g1 => ?_)⟩⟩
      · refine dr_ok ⟨_, _, _, b0_cell h2.T7, ip _ ⟨_, dp, _, b0_cell S2, k48' _ ?_⟩⟩
        rw [decide_eq_true_iff]
        exact ⟨fun q => ⟨hin, g1, q⟩, fun q => q.2.2⟩
      · exact k48' _ ⟨fun q => (by cases q), fun q => absurd q.2.1 g1⟩
    · rw [if_neg hin]
      exact br_neg (by omega) (k48' _ ⟨fun q => (by cases q), fun q => absurd q.1 hin⟩)
  · obtain rfl : t = 16 := by omega
    have h2 := h.step eV
    have zV := eV.size
    have zB := BV.lt
    refine dr_ok ⟨_, _, _, b0_cell h2.T14, _, _, _, b0_cell CV, idx_b1 hk ?_⟩
    refine stL_fC h2.out hk rfl fun w69 B69 c69 s69 => ?_
    have hD : ∀ D ∈ Dl, w69.heap[D]? = some (.deferred (some [])) := fun D hD => by
      obtain ⟨d1, d2⟩ := hDl D hD
      have d3 : D < V.heap.size := by
        apply Classical.byContradiction
        intro q
        rw [Array.getElem?_eq_none (by omega)] at d2
        cases d2
      rw [c69.block D d3 (by omega)]; exact d2
    refine retD_marks Dl w69 hnd hD fun U c70 => ?_
    have hc : Chg (fun j => j = c.b12 ∨ j ∈ Dl) V U := (c69.mono fun j _ hj => .inl hj).trans (c70.mono fun j _ hj => .inr hj)
    have zU := hc.size
    have nb : ∀ j, j < W.heap.size → j ≠ c.b12 → ¬ (j = c.b12 ∨ j ∈ Dl) := fun j h1 h2 hh => by
      rcases hh with hh | hh
      · exact h2 hh
      · have := (hDl j hh).1; omega
    have nD : ∀ {j : Nat} {cs : List Value} {T : TypeId}, Blk V j cs T → j ∉ Dl := fun hb hh => def_ne (hDl _ hh).2 hb rfl
    refine hK U (fun i => if i = k then pr else r i) (fun i s => if i = k then fl s else G i s) { h with
      T5 := hc.blk h2.T5 (nb _ (by omega) (by omega))
      T7 := hc.blk h2.T7 (nb _ (by omega) (by omega))
      T9 := hc.blk h2.T9 (nb _ (by omega) (by omega))
      T14 := hc.blk h2.T14 (nb _ (by omega) (by omega))
      T23 := hc.blk h2.T23 (nb _ (by omega) (by omega))
      par := h2.par.chg hc fun j hj _ => nb _ (by omega) (by omega)
      sts := h2.sts.chg hc fun j hj _ => nb _ (by omega) (by omega)
      lvs := h2.lvs.chg hc fun j hj _ => nb _ (by omega) (by omega)
      cos := h2.cos.chg hc (nb _ (by have := h.cl.1; omega) (by have := h.cl.1; omega)) fun a ha => nb _ (by have := h.cl.2 a ha; omega) (by have := h.cl.2 a ha; omega)
      out := ?_
      rows := fun i h1 h3 => ?_
      ext := ext_chgS h2.ext hc fun j hj => by
        rcases hj with hj | hj
        · omega
        · have := (hDl j hj).1; omega
      z := by omega
      eqs := fun i s h1 h3 hs => ?_
      bd := fun i s h1 h3 hs => ?_ }
    · have q := c70.blk B69 fun hh => def_ne (hD _ hh) B69 rfl
      have : (fC c.P.length fun i => if i = k then Value.slice (some ⟨pr, 0, none⟩) 16 16 else if i < k + 1 then .slice none 0 0 else sl16 (r i)) = fC c.P.length fun i => if i < k then .slice none 0 0 else sl16 (if i = k then pr else r i) := fC_congr fun j hj => by
        by_cases e : j = k
        · subst e; rw [if_pos rfl, if_neg (by omega), if_pos rfl]
        · rw [if_neg e, if_neg e]
          by_cases e2 : j < k
          · rw [if_pos e2, if_pos (by omega)]
          · rw [if_neg e2, if_neg (by omega)]
      rw [← this]; exact q
    · show c.z2 ≤ (if i = k then pr else r i) ∧ Blk U (if i = k then pr else r i) (rw16 fun s => if i = k then fl s else G i s) 3
      by_cases e : i = k
      · subst e
        rw [if_pos rfl]
        refine ⟨by omega, ?_⟩
        have : (rw16 fun j => if j < 16 then fl j else 0) = rw16 fun s => if i = i then fl s else G i s := fC_congr fun j hj => by
          show Value.int .i64 (if j < 16 then fl j else 0) = Value.int .i64 (if i = i then fl j else G i j)
          rw [if_pos hj, if_pos rfl]
        rw [← this]
        exact hc.blk BV fun hh => hh.elim (fun q => by omega) (nD BV)
      · rw [if_neg e]
        obtain ⟨r1, r2⟩ := h2.rows i (by omega) h3
        refine ⟨r1, ?_⟩
        have : (rw16 (G i)) = rw16 fun s => if i = k then fl s else G i s := fC_congr fun j hj => by
          show Value.int .i64 (G i j) = Value.int .i64 (if i = k then fl j else G i j)
          rw [if_neg e]
        rw [← this]
        exact hc.blk r2 fun hh => hh.elim (fun q => by omega) (nD r2)
    · have hcong : fullT c (fun i s => if i = k then fl s else G i s) i s = fullT c G i s := by
        unfold fullT
        congr 1
        refine sumL_cong fun d hd => bst_cong ?_
        have := (kidG_mem.1 hd).2.1
        funext u
        show (if d = k then fl u else G d u) = G d u
        rw [if_neg (by omega)]
      rw [hcong]
      show (if i = k then fl s else G i s) = _
      by_cases e : i = k
      · subst e; rw [if_pos rfl]
      · rw [if_neg e]; exact h.eqs i s (by omega) h3 hs
    · show -16 ≤ (if i = k then fl s else G i s) ∧ (if i = k then fl s else G i s) ≤ _
      by_cases e : i = k
      · subst e
        rw [if_pos rfl]
        exact full_bd h hk (s := s) (List.prefix_refl _)
      · rw [if_neg e]; exact h.bd i s (by omega) h3 hs
end
end Go.Proofs
namespace Go.Proofs
open Go Go.Sh Go.RowKit
/- parsimony.table, parsimony.Fitch -/
def parN (P : List Int) (i : Nat) : Nat := (gZ P i).toNat
def stT (sts : List Int) (lv : List Nat) (i : Nat) : Option Nat := if i ∈ lv then some (gZ sts (lv.idxOf i)).toNat else none
theorem sumL_filter (g : Nat → Int) (q : Nat → Prop) [DecidablePred q] : ∀ n : Nat, sumL g ((List.range n).filter fun c => decide (q c)) = sumR (fun c => if q c then g c else 0) n
  | 0 => rfl
  | n + 1 => by
    rw [List.range_succ, List.filter_append, sumL_app, sumL_filter g q n]
    show _ = sumR (fun c => if q c then g c else 0) n + (if q n then g n else 0)
    congr 1
    by_cases h : q n
    · rw [if_pos h, List.filter_cons_of_pos (by simpa using h)]
      show g n + 0 = g n
      omega
    · rw [if_neg h, List.filter_cons_of_neg (by simpa using h)]; rfl
theorem tab_of {P : List Int} {N : List Nm} {sts : List Int} {G : Nat → Nat → Int} (hT : TreeOk P N) (hl : sts.length = (leavesF N N.length).length) (hs : ∀ x ∈ sts, 0 ≤ x ∧ x < 16)
    (hG : ∀ i s, i < P.length → s < 16 → G i s = misI sts (leavesF N N.length) i s + sumL (fun d => bstF 16 G d s) (kidG P P.length i)) : Tab P.length 16 (parN P) (stT sts (leavesF N N.length)) G := by
  have hst : ∀ i, i ∈ leavesF N N.length → 0 ≤ gZ sts ((leavesF N N.length).idxOf i) ∧ gZ sts ((leavesF N N.length).idxOf i) < 16 := fun i hi => by
    have hx : (leavesF N N.length).idxOf i < sts.length := by rw [hl]; exact List.idxOf_lt_length_iff.2 hi
    rw [gZ_at hx]; exact hs _ (List.getElem_mem hx)
  refine ⟨hT.pos, by decide, fun c h0 hc => ?_, fun i x hi hx => ?_, fun i s hi hs' => ?_⟩
  · have := hT.par c h0 hc
    unfold parN; omega
  · unfold stT at hx
    by_cases hin : i ∈ leavesF N N.length
    · rw [if_pos hin] at hx
      cases hx
      have := hst i hin
      refine ⟨by omega, fun c hc1 hc2 he => ?_⟩
      obtain ⟨h1, h2⟩ := leavesF_mem.1 hin
      rcases hT.nm i h1 with q | q
      · exact h2 q.2
      · refine q.1 ⟨c, by omega, hc2, ?_⟩
        have := hT.par c (by omega) hc2
        unfold parN at he; omega
    · rw [if_neg hin] at hx; cases hx
  · rw [hG i s hi hs']
    congr 1
    · unfold misI misS stT
      by_cases hin : i ∈ leavesF N N.length
      · have := hst i hin
        rw [if_pos hin]
        by_cases e : (gZ sts ((leavesF N N.length).idxOf i)).toNat = s
        · rw [if_neg (fun q => q.2.2 (by omega)), if_neg (by simp [e])]
        · rw [if_pos ⟨hin, this.1, fun q => e (by omega)⟩, if_pos (by simp [e])]
      · rw [if_neg (fun q => hin q.1), if_neg hin, if_neg (fun q => by cases q)]
    · unfold kidG
      rw [sumL_filter (fun d => bstF 16 G d s) (fun c => i < c ∧ gZ P c = (i : Int))]
      refine sumR_congr fun c hc => ?_
      by_cases e : i < c
      · have h2 := hT.par c (by omega) hc
        have : gZ P c = (i : Int) ↔ parN P c = i := by unfold parN; omega
        by_cases e2 : gZ P c = (i : Int)
        · rw [if_pos ⟨e, e2⟩, if_pos ⟨e, this.1 e2⟩]
        · rw [if_neg (fun q => e2 q.2), if_neg (fun q => e2 (this.2 q.2))]
      · rw [if_neg (fun q => e q.1), if_neg (fun q => e q.1)]
section
variable {R : Ending → World → Prop} {S S2 S3 : Nat → Prop} {w : World} {p q sS : Slv} {P : List Int} {N : List Nm} {sts : List Int}
set_option maxRecDepth 20000 in
theorem table_spec {co : Nat} {ra : Nat → Nat} (hP : RowV vI S w p.1 p.2.1 P) (hN : RowV vS S2 w q.1 q.2.1 N) (hcN : q.2.1 ≤ q.2.2) (hb : ∀ s ∈ N, s.length ≤ 1000000) (hT : TreeOk P N) (h15 : P.length ≤ 15) (hS : RowV vI S3 w sS.1 sS.2.1 sts) (hl : sts.length = (leavesF N N.length).length) (C : CosAt w co ra)
    (h : ∀ (b : Nat) (r : Nat → Nat) (G : Nat → Nat → Int) w', Ext w w' → Blk w' b (fC P.length fun i => sl16 (r i)) 30 → (∀ i, i < P.length → Blk w' (r i) (rw16 (G i)) 3) → (∀ i s, i < P.length → s < 16 → G i s = misI sts (leavesF N N.length) i s + sumL (fun d => bstF 16 G d s) (kidG P P.length i)) →
      R (.returned (.slice (some ⟨b, 0, none⟩) P.length P.length)) w') :
    Calls Tryz.prog F_parsimony_table ⟨[.agg ⟨[sv p, sv q]⟩, sv sS, sl16 co]⟩ w R := by
  apply c_parsimony_table
  have hp := hP.1
  have hlen := hT.len
  have hll := leavesF_len N N.length
  refine al_intro fun b5 w6 hb5 B5 e6 s6 => al_intro fun b7 w8 hb7 B7 e8 s8 => al_intro fun b9 w10 hb9 B9 e10 s10 => ?_
  have z6 := e6.size
  have z8 := e8.size
  have z10 := e10.size
  refine ⟨_, _, _, bat ((B5.ext e8).ext e10) rfl, ?_⟩
  refine mks_intro (Nat.le_refl _) (by omega) fun b12 w13 hb12 B12 e13 s13 => ?_
  rw [fC_rep, hp] at B12
  rw [Int.toNat_natCast]
  refine al_intro fun b14 w15 hb14 B14 e15 s15 => stL_one B14 rfl fun w16 C14 c16 s16 => ?_
  have z13 := e13.size
  have z15 := e15.size
  have e013 := ext_trans e6 (ext_trans e8 (ext_trans e10 e13))
  have e016 : Ext w w16 := ext_chgS (ext_trans e013 e15) c16 fun j hj => by omega
  have B5' := c16.blk ((((B5.ext e8).ext e10).ext e13).ext e15) (by omega)
  have B7' := c16.blk (((B7.ext e10).ext e13).ext e15) (by omega)
  have B9' := c16.blk ((B9.ext e13).ext e15) (by omega)
  have B12' := c16.blk (B12.ext e15) (by omega)
  refine ⟨_, _, _, bat B5' rfl, _, _, _, bat B5' rfl, ?_⟩
  refine Leaves_spec (p := p) (q := q) (hP.ext e016) (hN.ext e016) hcN hb hT fun oa on oc w20 e20 hL => ⟨_, _, _, _, rfl, ?_⟩
  have z20 := e20.size
  refine al_intro fun b23 w24 hb23 B23 e24 s24 => stL_one B23 rfl fun w25 C23 c25 s25 => ?_
  have z24 := e24.size
  have e1625 : Ext w16 w25 := ext_chgS (ext_trans e20 e24) c25 fun j hj => by omega
  have e025 := ext_trans e016 e1625
  refine ⟨_, _, _, b0_cell (C14.ext e1625), ?_⟩
  let c : TabK := { z0 := w.heap.size, z1 := w16.heap.size, z2 := w25.heap.size, b5, b7, b9, b12, b14, b23, co, ra, p, q, lvS := (oa, on, oc), stS := sS, P, lv := leavesF N N.length, sts, w0 := w }
  have hS0 : TabS c w25 P.length (fun _ => 0) (fun _ _ => 0) :=
    { T5 := B5'.ext e1625, T7 := B7'.ext e1625, T9 := B9'.ext e1625, T14 := (show Blk w16 b14 [.slice (some ⟨b12, 0, none⟩) P.length P.length] 29 from hp ▸ C14).ext e1625, T23 := C23
      par := (hP.imp fun j hj hl => hl).ext e025
      sts := (hS.imp fun j hj hl => hl).ext e025
      lvs := (((hL.imp (S' := fun j => w16.heap.size ≤ j ∧ j < w20.heap.size) fun j hj hl => ⟨hj, hl⟩).ext e24).chg c25 fun j hj hl hh => by have := hj.2; have hh : j = b23 := hh; omega).imp fun j hj hl => ⟨hj.1, hl⟩
      cos := C.ext e025
      cl := ⟨C.top.lt, fun a ha => (C.row a ha).lt⟩
      out := by
        rw [show (fC P.length fun i => if i < P.length then Value.slice none 0 0 else sl16 0) = fC P.length fun _ => .slice none 0 0 from fC_congr fun j hj => by rw [if_pos hj]]
        exact B12'.ext e1625
      rows := fun i h1 h2 => absurd (show i < P.length from h2) (by omega)
      ord := by show w.heap.size ≤ b5 ∧ b5 < b7 ∧ b7 < b9 ∧ b9 < b12 ∧ b12 < b14 ∧ b14 < w16.heap.size ∧ w16.heap.size ≤ b23 ∧ b23 < w25.heap.size ∧ w.heap.size ≤ w.heap.size; omega
      ext := e025, z := Nat.le_refl _
      eqs := fun i s h1 h2 => absurd (show i < P.length from h2) (by omega)
      bd := fun i s h1 h2 => absurd (show i < P.length from h2) (by omega)
      n15 := h15, len := hl, l64 := by show (leavesF N N.length).length ≤ 64; omega }
  refine ⟨fun i V m => ∃ (k : Nat) (r : Nat → Nat) (G : Nat → Nat → Int), i = (k : Int) - 1 ∧ k ≤ P.length ∧ m = k ∧ TabS c V k r G, ⟨P.length, P.length, _, _, by rw [← hp]; exact wrap_id (by omega), Nat.le_refl _, rfl, hS0⟩, ?_⟩
  rintro _ V m ⟨k, r, G, rfl, hk, rfl, hV⟩ _
  refine br_split (fun hge => ?_) (fun hlt => ?_)
  · obtain ⟨j, rfl⟩ : ∃ j, m = j + 1 := ⟨m - 1, by omega⟩
    rw [show ((j + 1 : Nat) : Int) - 1 = (j : Int) by omega]
    refine fill_call (c := c) hV hk fun V' r' G' hV' => ⟨rfl, j, by omega, j, r', G', wrap_id (by omega), by omega, rfl, hV'⟩
  · obtain rfl : m = 0 := by omega
    refine ⟨_, _, _, b0_cell hV.T14, h b12 r G V hV.ext ?_ (fun i hi => (hV.rows i (Nat.zero_le _) hi).2) fun i s hi hs => hV.eqs i s (Nat.zero_le _) hi hs⟩
    have := hV.out
    rw [show (fC c.P.length fun i => if i < 0 then Value.slice none 0 0 else sl16 (r i)) = fC P.length fun i => sl16 (r i) from fC_congr fun j hj => by rw [if_neg (by omega)]] at this
    exact this
end
end Go.Proofs
namespace Go.Proofs
open Go Go.Sh Go.RowKit
/- parsimony.Fitch -/
section
variable {R : Ending → World → Prop} {S S2 S3 : Nat → Prop} {w : World} {p q sS : Slv} {P : List Int} {N : List Nm} {sts : List Int}
set_option maxRecDepth 20000 in
theorem Fitch_spec (hP : RowV vI S w p.1 p.2.1 P) (hN : RowV vS S2 w q.1 q.2.1 N) (hcN : q.2.1 ≤ q.2.2) (hb : ∀ s ∈ N, s.length ≤ 1000000) (hT : TreeOk P N) (h15 : P.length ≤ 15) (hS : RowV vI S3 w sS.1 sS.2.1 sts) (hl : sts.length = (leavesF N N.length).length) (hs : ∀ x ∈ sts, 0 ≤ x ∧ x < 16)
    (h : ∀ (v : Int) w', Ext w w' → LeastC P.length 16 (parN P) (stT sts (leavesF N N.length)) v → R (.returned (.tuple ⟨[.int .i64 v, .int .i64 0]⟩)) w') :
    Calls Tryz.prog F_parsimony_Fitch ⟨[.agg ⟨[sv p, sv q]⟩, sv sS]⟩ w R := by
  apply c_parsimony_Fitch
  have hll := leavesF_len N N.length
  have hlen := hT.len
  refine al_intro fun b4 w5 hb4 B4 e5 s5 => ⟨_, _, _, bat B4 rfl, _, _, _, bat B4 rfl, ?_⟩
  refine Leaves_spec (p := p) (q := q) (hP.ext e5) (hN.ext e5) hcN hb hT fun oa on oc w9 e9 hL => ⟨_, _, _, _, rfl, ?_⟩
  refine br_neg (by decide) ?_
  have hon := hL.1
  rw [zN_len] at hon
  have e09 := ext_trans e5 e9
  have hsn := hS.1
  rw [hon, ← hl, ← hsn]
  refine known_spec (hS.ext e09) (by omega) (fun x hx => by have := hs x hx; omega) fun w13 e13 => ⟨_, rfl, ?_⟩
  refine br_neg (by decide) ?_
  have e013 := ext_trans e09 e13
  have B13 := (B4.ext e9).ext e13
  unfold drw
  have ed := ext_drew w13
  have e0d := ext_trans e013 ed
  have Bd := B13.ext ed
  generalize w13.drew = w15 at *
  have tab : ∀ V co ra, Ext w15 V → CosAt V co ra → Calls Tryz.prog 37 ⟨[.agg ⟨[sv p, sv q]⟩, sv sS, sl16 co]⟩ V fun e22 w22 => ∃ (x : Option Addr) (xn : Nat) (xc : Nat), e22 = .returned (.slice x xn xc) ∧ idx x xn 0 1 fun p24 => ∃ (y : Option Addr) (yn : Nat) (yc : Nat), World.cell? w22 p24 = some (.slice y yn yc) ∧ ((Calls Tryz.prog 36 ⟨[.slice y yn yc]⟩ w22 fun e26 w27 => ∃ (x28 x29 : Int), e26 = .returned (.tuple ⟨[.int .i64 x28, .int .i64 x29]⟩) ∧ R (.returned (.tuple ⟨[.int .i64 x28, .int .i64 0]⟩)) w27) ∧ True) := by
    intro V co ra eV hC
    have e0V := ext_trans e0d eV
    refine table_spec (p := p) (q := q) (sS := sS) (hP.ext e0V) (hN.ext e0V) hcN hb hT h15 (hS.ext e0V) hl hC fun b r G U eU hB hR hG => ⟨_, _, _, rfl, ?_⟩
    refine idx_b1 (j := 0) hT.pos ⟨_, _, _, blk_at (f := fun i => sl16 (r i)) hB hT.pos, ⟨leastR_spec (hR 0 hT.pos) fun own => ⟨_, _, rfl, ?_⟩, True.intro⟩⟩
    exact h _ U (ext_trans e0V eU) ((tab_of hT hl hs hG).least)
  have uni : ∀ {K : Ending → World → Prop}, (∀ V co ra, Ext w15 V → CosAt V co ra → K (.returned (sl16 co)) V) → Calls Tryz.prog F_parsimony_unit ⟨[.int .i64 16]⟩ w15 K := fun hk => unit_spec fun b ra w' e' hC _ _ => hk w' b ra e' hC
  refine ⟨⟨_, _, _, bat Bd rfl, _, _, _, bat Bd rfl, uni fun V co ra eV hC => ⟨_, _, _, rfl, tab V co ra eV hC, True.intro⟩, True.intro⟩,
    ⟨⟨_, _, _, bat Bd rfl, _, _, _, bat Bd rfl, uni fun V co ra eV hC => ⟨_, _, _, rfl, tab V co ra eV hC, True.intro⟩, True.intro⟩,
      uni fun V co ra eV hC => ⟨_, _, _, rfl, _, _, _, bat (Bd.ext eV) rfl, _, _, _, bat (Bd.ext eV) rfl, tab V co ra eV hC, True.intro⟩, True.intro⟩,
    uni fun V co ra eV hC => ⟨_, _, _, rfl, _, _, _, bat (Bd.ext eV) rfl, _, _, _, bat (Bd.ext eV) rfl, tab V co ra eV hC, True.intro⟩, True.intro⟩
end
end Go.Proofs
namespace Go.Proofs
open Go Go.Sh Go.RowKit
/- the leaves of the tree that split.Build returns, and the least number of changes on it -/
section
variable {NM N0 N' : List Nm} {L : List (List Nat)} {P0 P' : List Int} {s : Nat → Nat} {ord : List Nat}
def ixN (NM N : List Nm) (i : Nat) : Int := ixF (fun x => decide (gM N i = x)) NM
def ownS (s : Nat → Nat) (NM N : List Nm) : List Int := (leavesF N N.length).map fun i => (s (ixN NM N i).toNat : Int)
theorem iso_named (h : Built NM.length NM L P0 N0) (hT : TreeOk P0 N0) (hi : IsoL P0 N0 P' N' ord) {i : Nat} (hl : i ∈ leavesF N' N'.length) : ∃ j, j < NM.length ∧ gM N' i = gM NM j := by
  obtain ⟨h1, h2⟩ := leavesF_mem.1 hl
  rw [hi.lenN] at h1
  have e := hi.nm i h1
  rcases built_named h (gO ord i) with q | ⟨j, hj, q⟩
  · rw [e] at h2; exact absurd q h2
  · exact ⟨j, hj, by rw [e]; exact q⟩
theorem ixN_at (h : Built NM.length NM L P0 N0) (hn : NmOk NM) (hT : TreeOk P0 N0) (hi : IsoL P0 N0 P' N' ord) {i : Nat} (hl : i ∈ leavesF N' N'.length) : ∃ j, j < NM.length ∧ gM N' i = gM NM j ∧ ixN NM N' i = j := by
  obtain ⟨j, hj, e⟩ := iso_named h hT hi hl
  refine ⟨j, hj, e, ?_⟩
  unfold ixN
  rw [e]; exact ix_nm hn hj
theorem leaves_len (h : Built NM.length NM L P0 N0) (hn : NmOk NM) (hT : TreeOk P0 N0) (hi : IsoL P0 N0 P' N' ord) : (leavesF N' N'.length).length = NM.length := by
  have hT' := hi.ok hT
  have hdis : ∀ i j, i ∈ leavesF N' N'.length → j ∈ leavesF N' N'.length → gM N' i = gM N' j → i = j := by
    have key : ∀ i j, i ∈ leavesF N' N'.length → j ∈ leavesF N' N'.length → gM N' i = gM N' j → ¬ i < j := by
      intro i j h1 h2 e hlt
      obtain ⟨j1, j2⟩ := leavesF_mem.1 h2
      rcases hT'.nm j j1 with q | q
      · exact j2 q.2
      · refine q.2.2 ?_
        rw [← e]
        rw [gM_at (show i < N'.length by omega)]
        exact List.mem_take_iff_getElem.2 ⟨i, by omega, rfl⟩
    intro i j h1 h2 e
    have := key i j h1 h2 e
    have := key j i h2 h1 e.symm
    omega
  have hnd1 : ((leavesF N' N'.length).map (gM N')).Nodup := by
    have := leavesF_nd N' N'.length
    refine List.Pairwise.map _ (R := fun i j => i ∈ leavesF N' N'.length ∧ j ∈ leavesF N' N'.length ∧ i ≠ j) (fun i j q e => q.2.2 (hdis i j q.1 q.2.1 e)) ?_
    exact List.Pairwise.imp_of_mem (fun {a b} ha hb q => ⟨ha, hb, q⟩) this
  have hnd2 : NM.Nodup := by
    rw [List.nodup_iff_pairwise_ne, List.pairwise_iff_getElem]
    intro i j h1 h2 hlt e
    refine (hn j h2).2 ?_
    rw [gM_at h2, ← e]
    exact List.mem_take_iff_getElem.2 ⟨i, by omega, rfl⟩
  have h1 := nodup_le (l2 := NM) hnd1 fun x hx => by
    obtain ⟨i, hi', rfl⟩ := List.mem_map.1 hx
    obtain ⟨j, hj, e⟩ := iso_named h hT hi hi'
    rw [e, gM_at hj]; exact List.getElem_mem hj
  have h2 := nodup_le (l2 := (leavesF N' N'.length).map (gM N')) hnd2 fun x hx => by
    obtain ⟨j, hj, rfl⟩ := List.mem_iff_getElem.1 hx
    obtain ⟨c, hc, e⟩ := built_has h hj
    obtain ⟨k, hk, rfl⟩ := hi.onto hc
    refine List.mem_map.2 ⟨k, leavesF_mem.2 ⟨by rw [hi.lenN]; exact hk, ?_⟩, ?_⟩
    · rw [hi.nm k hk, e]; exact (hn j hj).1
    · rw [hi.nm k hk, e, gM_at hj]
  rw [List.length_map] at h1 h2
  omega
theorem join_least (h : Built NM.length NM L P0 N0) (hn : NmOk NM) (hT : TreeOk P0 N0) (hi : IsoL P0 N0 P' N' ord) (hr : Row2 NM.length s 16) (hall : ∀ A : List Nat, (∀ l, l ∈ A ↔ l < NM.length ∧ s l ≠ s 0) → A.Nodup → 2 ≤ A.length → A.length + 2 ≤ NM.length → ∃ t ∈ L, ∀ l, l < NM.length → (l ∈ t ↔ s l ≠ s 0)) :
    LeastC P'.length 16 (parN P') (stT (ownS s NM N') (leavesF N' N'.length)) (if (∃ l, l < NM.length ∧ s l ≠ s 0) then 1 else 0) := by
  have h1 := built_least h hn hr hall
  have h2 := hi.iso.least hT.pos h1
  rw [hi.lenP]
  refine h2.cong (fun _ _ _ => rfl) fun i hiN => ?_
  unfold stT stM
  rw [← hi.nm i hiN]
  by_cases hin : i ∈ leavesF N' N'.length
  · rw [if_pos hin, if_neg (leavesF_mem.1 hin).2]
    unfold ownS
    have hx := List.idxOf_lt_length_iff.2 hin
    rw [gZ_at (by rw [List.length_map]; exact hx), List.getElem_map, List.getElem_idxOf]
    rfl
  · rw [if_neg hin]
    have : gM N' i = [] := by
      apply Classical.byContradiction
      intro q
      exact hin (leavesF_mem.2 ⟨by rw [hi.lenN]; exact hiN, q⟩)
    rw [if_pos this]
end
end Go.Proofs
