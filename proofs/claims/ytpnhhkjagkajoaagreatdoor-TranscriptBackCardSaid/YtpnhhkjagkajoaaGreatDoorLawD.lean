/- The contracts of the functions that the law reaches, one after the other, and at the end the law's card. -/
import Derived.Test.YtpnhhkjagkajoaaGreatDoorLawC
import Derived.Lib.AppendZerosOnto
namespace Go.Proofs
open Go Go.Sh Go.RowKit

set_option maxRecDepth 20000 in
theorem partsM_iterO (s : List UInt8) (hs : s.length ≤ 4611686018427387904) (b : Nat) (w : World) (hb : Blk w b [.string ⟨⟨s⟩⟩] 9) :
    IterO Tryz.prog F_markup_parts_1 [.pointer (some ⟨b, 0, none⟩)] (partsM s 0) (fun x vs => vs = [.int .i64 (x.1 : Int), .string ⟨⟨x.2⟩⟩]) (fun k => k = b) w := by
  intro yf ya yb S0 J Jx R hS hJ hJx hbody h0 hend hstop
  apply c_markup_parts_1
  have hbl := hb.lt
  refine ⟨fun i W m => ∃ (k : Nat) (pre : List (Nat × List UInt8)) (S : Nat → Prop), i = k ∧ k ≤ s.length ∧ m = s.length - k ∧ partsM s 0 = pre ++ partsM (s.drop k) k ∧ J pre S W ∧ Blk W b [.string ⟨⟨s⟩⟩] 9 ∧ w.heap.size ≤ W.heap.size ∧ (∀ j, S j → j < W.heap.size ∧ ¬ j = b), ⟨_, 0, [], S0, rfl, by omega, rfl, rfl, h0, hb, Nat.le_refl _, hS⟩, ?_⟩
  rintro _ W m ⟨k, pre, S, rfl, hk, rfl, heq, hj, hB, hW, hS⟩ _
  have cB : W.cell? ⟨b, 0, none⟩ = some (.string ⟨⟨s⟩⟩) := by rw [hB.cell]; rfl
  refine dr_ok ⟨_, cB, br_split (fun hlt => ?_) (fun hge => ?_)⟩
  · have hkl : k < s.length := by omega
    obtain ⟨c, r, hcr⟩ : ∃ c r, s.drop k = c :: r := ⟨s[k], s.drop (k + 1), List.drop_eq_getElem_cons hkl⟩
    have hck : s[k] = c := by have := List.drop_eq_getElem_cons hkl; rw [hcr] at this; exact (List.cons.inj this).1.symm
    obtain ⟨b1, b2⟩ := cutX_bd (c := c) (r := r)
    have hll : (c :: r).length = s.length - k := by rw [← hcr, List.length_drop]
    refine dr_ok ⟨_, cB, ?_⟩
    intro K12 hK12
    have k12 : K12 ((k + cutX (c :: r) : Nat) : Int) W := by
      refine hK12 _ _ fun _ => dr_ok ⟨_, cB, ?_⟩
      refine ssl_nat (by omega) (by omega) ?_
      have hsub : (s.take (k + cutX (c :: r))).drop k = (c :: r).take (cutX (c :: r)) := by rw [List.drop_take, hcr, Nat.add_sub_cancel_left]
      rw [hsub]
      have hp : partsM (s.drop k) k = (k, (c :: r).take (cutX (c :: r))) :: partsM (s.drop (k + cutX (c :: r))) (k + cutX (c :: r)) := by
        rw [hcr, partsM, ← hcr, List.drop_drop]
      refine CallV_mono (hbody pre (k, (c :: r).take (cutX (c :: r))) _ S W rfl (by rw [heq, hp]; exact ⟨partsM (s.drop (k + cutX (c :: r))) (k + cutX (c :: r)), by simp⟩) hW hS hj) ?_
      rintro e W3 ⟨hc3, S', hS', hh⟩
      have hS3 : ∀ j, S' j → j < W3.heap.size ∧ ¬ j = b := fun j hj => ⟨(hS' j hj).2, (hS' j hj).1.elim (fun h => (hS j h).2) (fun h => by have := hB.lt; omega)⟩
      have z3 := hc3.size
      have hB3 := hc3.blk hB (fun hh => (hS b hh).2 rfl)
      rcases hh with ⟨rfl, hj3⟩ | ⟨rfl, hj3⟩
      · refine ⟨true, rfl, ?_⟩
        simp only [Bool.not_true, br_f]
        exact ⟨s.length - (k + cutX (c :: r)), by omega, k + cutX (c :: r), pre ++ [(k, (c :: r).take (cutX (c :: r)))], S', rfl, by omega, rfl, by rw [heq, hp]; simp, hj3, hB3, by omega, hS3⟩
      · refine ⟨false, rfl, ?_⟩
        simp only [Bool.not_false, br_t]
        exact hstop S' W3 (by omega) hj3
    have hdd : (s.take s.length).drop k = c :: r := by rw [List.take_length, hcr]
    have lt : ∀ {x : UInt8}, 0 ≤ Lib.indexByte (c :: r) x → (Lib.indexByte (c :: r) x).toNat < (c :: r).length := fun {x} hx => by
      obtain ⟨h1, _⟩ := Lib.indexByte_some (l := c :: r) (c := x) (o := (Lib.indexByte (c :: r) x).toNat) (by omega)
      exact (List.getElem?_eq_some_iff.1 h1).1
    refine dr_ok ⟨_, cB, ?_⟩
    refine sidx_nat hkl ?_
    rw [hck]
    refine br_split (fun g => dr_ok ⟨_, cB, ?_⟩) (fun g => dr_ok ⟨_, cB, ?_⟩)
    · have hc60 : c = 60 := by
        have : c.toNat = 60 := by omega
        exact UInt8.toNat_inj.1 this
      refine ssl_nat (by omega) (Nat.le_refl _) ?_
      rw [hdd]
      refine (Tryz.strings_IndexByte ⟨⟨c :: r⟩⟩ 62 W).mono ?_
      rintro e w29 ⟨rfl, rfl⟩
      refine ⟨_, rfl, ?_⟩
      show br (decide (0 ≤ Lib.indexByte (c :: r) 62)) (K12 (IntKind.i64.wrap (IntKind.i64.wrap ((k : Int) + Lib.indexByte (c :: r) 62) + 1)) w29) (K12 (s.length : Int) w29)
      have hcx : cutX (c :: r) = if 0 ≤ Lib.indexByte (c :: r) 62 then (Lib.indexByte (c :: r) 62).toNat + 1 else (c :: r).length := by unfold cutX; rw [if_pos (by simp [hc60])]
      refine br_split (fun gi => ?_) (fun gi => ?_)
      · have := lt gi
        rw [if_pos gi] at hcx
        have e1 : IntKind.i64.wrap ((k : Int) + Lib.indexByte (c :: r) 62) = (k : Int) + Lib.indexByte (c :: r) 62 := wrap_id (by omega)
        rw [e1, wrap_id (by omega), show (k : Int) + Lib.indexByte (c :: r) 62 + 1 = ((k + cutX (c :: r) : Nat) : Int) by omega]
        exact k12
      · rw [if_neg gi] at hcx
        rw [show (s.length : Int) = ((k + cutX (c :: r) : Nat) : Int) by omega]
        exact k12
    · have hc60 : ¬ c = 60 := fun e => g (by rw [e]; rfl)
      refine ssl_nat (by omega) (Nat.le_refl _) ?_
      rw [hdd]
      refine (Tryz.strings_IndexByte ⟨⟨c :: r⟩⟩ 60 W).mono ?_
      rintro e w29 ⟨rfl, rfl⟩
      refine ⟨_, rfl, ?_⟩
      show br (decide (0 ≤ Lib.indexByte (c :: r) 60)) (K12 (IntKind.i64.wrap ((k : Int) + Lib.indexByte (c :: r) 60)) w29) (K12 (s.length : Int) w29)
      have hcx : cutX (c :: r) = if 0 ≤ Lib.indexByte (c :: r) 60 then (Lib.indexByte (c :: r) 60).toNat else (c :: r).length := by unfold cutX; rw [if_neg (by simp [hc60])]
      refine br_split (fun gi => ?_) (fun gi => ?_)
      · have := lt gi
        rw [if_pos gi] at hcx
        rw [wrap_id (by omega), show (k : Int) + Lib.indexByte (c :: r) 60 = ((k + cutX (c :: r) : Nat) : Int) by omega]
        exact k12
      · rw [if_neg gi] at hcx
        rw [show (s.length : Int) = ((k + cutX (c :: r) : Nat) : Int) by omega]
        exact k12
  · have hkk : k = s.length := by omega
    rw [hkk, List.drop_length, partsM, List.append_nil] at heq
    rw [heq] at hend
    exact hend S W hW hj
theorem parts_spec9 {R : Ending → World → Prop} {w : World} (s : List UInt8) (h : ∀ b w', b = w.heap.size → Blk w' b [.string ⟨⟨s⟩⟩] 9 → Ext w w' → w'.heap.size = b + 1 → R (.returned (.func (.func F_markup_parts_1) ⟨[]⟩ ⟨[.pointer (some ⟨b, 0, none⟩)]⟩)) w') :
    Calls Tryz.prog F_markup_parts ⟨[.string ⟨⟨s⟩⟩]⟩ w R := by
  apply c_markup_parts
  exact al_intro fun b w' hb B e sz => h b w' hb B e sz
theorem slT_lex : SlT Tryz.prog 43 48 4 48 (.agg #[.int .i64 0, .string ⟨#[]⟩, .string ⟨#[]⟩, .int .i64 0]) := ⟨Tryz.underlying43, by kernel_rfl, rfl, by decide⟩
theorem one1 {v : Value} (h : v.oneCell' = true) : ∀ u ∈ [v], u.oneCell' = true := fun u hu => by rw [List.mem_singleton.1 hu]; exact h
theorem partsM_len : ∀ (n : Nat) (t : List UInt8) (at_ : Nat), t.length ≤ n → (partsM t at_).length ≤ t.length
  | n, [], _, _ => by rw [partsM]; exact Nat.le_refl _
  | 0, _ :: _, _, h => absurd h (by simp)
  | n + 1, c :: r, at_, h => by
    obtain ⟨b1, b2⟩ := cutX_bd (c := c) (r := r)
    have hdl : ((c :: r).drop (cutX (c :: r))).length = (c :: r).length - cutX (c :: r) := List.length_drop
    have := partsM_len n ((c :: r).drop (cutX (c :: r))) (at_ + cutX (c :: r)) (by omega)
    rw [partsM, List.length_cons]; omega
theorem scanL_len : ∀ {l : List (Nat × List UInt8)} {out : List Lx}, scanL l = (out, 0) → out.length = l.length
  | [], out, h => by rw [← (Prod.mk.inj h).1]; rfl
  | p :: r, out, h => by
    obtain ⟨x, l', rfl, _, hr⟩ := scanL_cons h
    rw [List.length_cons, scanL_len hr]; rfl
/- a part that begins with < and ends with > has something between -/
theorem part_mid {part : List UInt8} (h1 : part.head? = some 60) (h2 : part.getLast? = some 62) : ∃ m, part = 60 :: (m ++ [62]) := by
  cases part with
  | nil => cases h1
  | cons a r =>
    obtain rfl : a = 60 := by simpa using h1
    cases hr : r with
    | nil => subst hr; simp at h2
    | cons b t =>
      have hne : (60 :: b :: t : List UInt8) ≠ [] := by simp
      have hl : (b :: t : List UInt8).getLast? = some 62 := by rw [← hr]; rw [hr] at h2 ⊢; rwa [List.getLast?_cons_cons] at h2
      obtain ⟨ys, hys⟩ := List.getLast?_eq_some_iff.1 hl
      exact ⟨ys, by rw [hys]⟩
theorem parts_mem : ∀ (n : Nat) (t : List UInt8) (at_ : Nat), t.length ≤ n → ∀ p ∈ partsM t at_, p.2.length ≤ t.length ∧ p.2 ≠ [] ∧ p.1 ≤ at_ + t.length
  | n, [], _, _, p, hp => by rw [partsM] at hp; cases hp
  | 0, _ :: _, _, h, _, _ => absurd h (by simp)
  | n + 1, c :: r, at_, h, p, hp => by
    obtain ⟨b1, b2⟩ := cutX_bd (c := c) (r := r)
    have hdl : ((c :: r).drop (cutX (c :: r))).length = (c :: r).length - cutX (c :: r) := List.length_drop
    rw [partsM] at hp
    rcases List.mem_cons.1 hp with rfl | hp
    · have hl : ((c :: r).take (cutX (c :: r))).length = cutX (c :: r) := by rw [List.length_take]; omega
      refine ⟨by show ((c :: r).take (cutX (c :: r))).length ≤ _; omega, fun e => ?_, by show at_ ≤ _; omega⟩
      rw [show (c :: r).take (cutX (c :: r)) = [] from e] at hl
      simp at hl; omega
    · obtain ⟨q1, q2, q3⟩ := parts_mem n _ _ (by omega) p hp
      exact ⟨by omega, q2, by omega⟩
set_option maxRecDepth 20000 in
theorem Scan_spec {R : Ending → World → Prop} {w : World} (s : List UInt8) (hM : Mk w)
    (h : ∀ a n c w', n = (scanF s).1.length → OwnL encX w' w.heap.size 48 a n c (scanF s).1 → Ext w w' → R (.returned (.tuple ⟨[.slice a n c, .int .i64 (scanF s).2]⟩)) w') : Calls Tryz.prog F_markup_Scan ⟨[.string ⟨⟨s⟩⟩]⟩ w R := by
  apply c_markup_Scan
  refine al_intro fun b2 w3 hb2 B2 e3 s3 => ?_
  refine al_intro fun b4 w5 hb4 B4 e5 s5 => ?_
  have B2a := B2.ext e5
  have E5 := ext_trans e3 e5
  refine br_split (fun g => ?_) (fun g => ?_)
  · have hf : scanF s = ([], 4) := by unfold scanF; rw [if_pos (by omega)]
    rw [hf] at h
    refine stL_one B2a rfl fun w6 B2b c6 s6 => ?_
    refine stL_one (c6.blk B4 (by omega)) rfl fun w7 B4b c7 s7 => ?_
    have B2c := c7.blk B2b (by omega)
    refine ⟨_, _, _, by rw [B2c.cell]; rfl, _, by rw [B4b.cell]; rfl, ?_⟩
    exact h none 0 0 w7 rfl (Owns.nil _ _ _ _) (ext_two (ext_two E5 c6 (by omega)) c7 (by omega))
  have hs : s.length ≤ 65536 := by omega
  have hf : scanF s = scanL (partsM s 0) := by unfold scanF; rw [if_neg (by omega)]
  rw [hf] at h
  refine al_intro fun b10 w11 hb10 B10 e11 s11 => ?_
  refine parts_spec9 s fun bs w13 hbs Bs e13 s13 => ⟨_, _, _, rfl, fun base => ?_⟩
  have E11 := ext_trans E5 e11
  have E13 := ext_trans E11 e13
  have B2b := (B2a.ext e11).ext e13
  have B4b := (B4.ext e11).ext e13
  have B10b := B10.ext e13
  have hpl := partsM_len s.length s 0 (Nat.le_refl _)
  rw [cd_markup_Scan_1]
  refine RFw_lawO anA_markup_Scan_1 anB_markup_Scan_1 (gf := F_markup_parts_1) rfl (by kernel_rfl) (xs := partsM s 0) (E := fun x vs => vs = [.int .i64 (x.1 : Int), .string ⟨⟨x.2⟩⟩]) (Rd := fun k => k = bs)
    (fun v1 he => partsM_iterO s (by omega) bs v1 (Bs.ext he)) (fun y vs hE => by rw [hE]; rfl) (by decide) (fun k hk => by omega) (fun k => k = b2 ∨ k = b4 ∨ k = b10) (fun k hk => by omega)
    (fun pre S1 W => ∃ (oa : Option Addr) (on oc : Nat) (out : List Lx), Blk W b10 [.slice oa on oc] 43 ∧ Blk W b2 [.slice none 0 0] 43 ∧ Blk W b4 [.int .i64 0] 25 ∧ scanL pre = (out, 0) ∧ OwnL encX W w13.heap.size 48 oa on oc out ∧ (∀ k, S1 k ↔ k = b2 ∨ k = b4 ∨ k = b10 ∨ bk oa k) ∧ Ext w W)
    (fun S1 W => ∃ e : Int, scanL (partsM s 0) = ([], e) ∧ Blk W b2 [.slice none 0 0] 43 ∧ Blk W b4 [.int .i64 e] 25 ∧ Ext w W) (fun _ _ => False)
    ?_ ?_ (fun _ _ _ h => h.elim) ⟨none, 0, 0, [], B10b, B2b, B4b, rfl, Owns.nil _ _ _ _, fun k => by simp [bk], E13⟩ ?_ ?_ ?_ (fun _ _ _ _ _ _ _ h => h.elim)
  · rintro pre S1 W W' ⟨oa, on, oc, out, g1, g2, g3, g4, g5, g6, g7⟩ hc
    exact ⟨oa, on, oc, out, hc.blk g1 (fun hh => by omega), hc.blk g2 (fun hh => by omega), hc.blk g3 (fun hh => by omega), g4, g5.chg hc fun k hk hh => hh.2 ((g6 k).2 (.inr (.inr (.inr hk)))), g6, ext_chgS g7 hc fun k hk => by omega⟩
  · rintro S1 W W' ⟨e, g1, g2, g3, g4⟩ hc
    exact ⟨e, g1, hc.blk g2 (fun hh => by omega), hc.blk g3 (fun hh => by omega), ext_chgS g4 hc fun k hk => by omega⟩
  · rintro pre ⟨at_, part⟩ vs S1 W l rfl hpre hl1 hl2 hl3 hS1 ⟨oa, on, oc, out, g1, g2, g3, g4, g5, g6, g7⟩
    refine Eq.mpr (er_markup_Scan_1 base _ _ _ _ _ _ _ _ _ _ _ _ _) ?_
    refine ⟨Below.refl _ _, fun W2 hU => ?_⟩
    have zU := hU.size
    have hUc : Chg (fun k => k = l) W W2 := ⟨hU.os, hU.tape, hU.output, by omega, fun k _ hk => hU.block k hk⟩
    have nl : ¬ bk oa l := fun hh => hl3 ((g6 l).2 (.inr (.inr (.inr hh))))
    have h1 := hUc.blk g1 (by omega)
    have h2 := hUc.blk g2 (by omega)
    have h3 := hUc.blk g3 (by omega)
    have h5 := g5.chg hUc fun k hk hh => nl (hh ▸ hk)
    have E2 : Ext w W2 := ext_chgS g7 hUc fun k hk => by have := E13.size; omega
    obtain ⟨rest, hrest⟩ := hpre
    have hrest : partsM s 0 = pre ++ (at_, part) :: rest := by rw [← hrest]; simp
    have hpt : part.length ≤ 65536 ∧ part ≠ [] ∧ at_ ≤ 65536 := by
      have : part.length ≤ s.length ∧ part ≠ [] ∧ at_ ≤ 0 + s.length := parts_mem s.length s 0 (Nat.le_refl _) (at_, part) (by rw [hrest]; simp)
      exact ⟨by have := this.1; omega, this.2.1, by have := this.2.2; omega⟩
    have hbad : ∀ e : Int, e ≠ 0 → (lexP at_ part).2 = e → scanL (partsM s 0) = ([], e) := fun e he hl => by rw [hrest]; exact scanL_bad g4 hl he
    refine al_stL rfl one4 fun b40 w42 hb40 B40 e42 s42 => ?_
    have z42 := e42.size
    have E42 := ext_trans E2 e42
    have kr : ∀ (e : Int) (v : World), e ≠ 0 → (lexP at_ part).2 = e → Ext w42 v → (stL v ⟨b2, 0, none⟩ 0 [.slice none 0 0] fun w62 => dr (some ⟨b4, 0, none⟩) fun p65 => stL w62 p65 0 [.int .i64 e] fun w64 => Chg (fun k => S1 k ∨ W.heap.size ≤ k) W2 w64 ∧ ∃ S' : Nat → Prop, (∀ k, S' k → (S1 k ∨ W.heap.size ≤ k) ∧ k < w64.heap.size) ∧
        ∃ e : Int, scanL (partsM s 0) = ([], e) ∧ Blk w64 b2 [.slice none 0 0] 43 ∧ Blk w64 b4 [.int .i64 e] 25 ∧ Ext w w64) := by
      intro e v he hl ev
      have ez := ev.size
      refine stL_one ((h2.ext e42).ext ev) rfl fun w62 Ba ca sa => dr_ok ?_
      refine stL_one (ca.blk ((h3.ext e42).ext ev) (by omega)) rfl fun w64 Bb cb sb => ?_
      have E1 : Ext w w64 := ext_two (ext_two (ext_trans E42 ev) ca (by omega)) cb (by omega)
      refine ⟨?_, S1, fun k hk => ⟨.inl hk, by have := (hS1 k hk).1; omega⟩, e, hbad e he hl, cb.blk Ba (by omega), Bb, E1⟩
      refine (Chg.of_ext (ext_trans e42 ev)).trans ((ca.mono fun k _ hk => .inl ((g6 k).2 (.inl hk))).trans (cb.mono fun k _ hk => .inl ((g6 k).2 (.inr (.inl hk)))))
    have kn : ∀ (x : Lx) (v : World), lexP at_ part = ({ x with pos := at_ }, 0) → Ext w42 v ∨ (∃ v', Ext w42 v' ∧ Chg (fun k => k = b40) v' v) → Blk v b40 (cellsX x) 48 → (stL v ((⟨b40, 0, none⟩ : Addr).add 3) 0 [.int .i64 (at_ : Int)] fun w45 =>
        dr (some ⟨b10, 0, none⟩) fun p46 =>
        ∃ (x47 : Option Addr) (x47n : Nat) (x47c : Nat), World.cell? w45 p46 = some (.slice x47 x47n x47c) ∧ (∃ (x48 : Int), World.cell? w45 ((⟨b40, 0, none⟩ : Addr).add 0) = some (.int .i64 x48) ∧ (∃ (x49 : List UInt8), World.cell? w45 ((⟨b40, 0, none⟩ : Addr).add 1) = some (.string ⟨⟨x49⟩⟩) ∧ (∃ (x50 : List UInt8), World.cell? w45 ((⟨b40, 0, none⟩ : Addr).add 2) = some (.string ⟨⟨x50⟩⟩) ∧ (∃ (x51 : Int), World.cell? w45 ((⟨b40, 0, none⟩ : Addr).add 3) = some (.int .i64 x51) ∧ (al w45 48 [.int .i64 x48, .string ⟨⟨x49⟩⟩, .string ⟨⟨x50⟩⟩, .int .i64 x51] fun p52 w53 =>
        app Tryz.prog [43, 43] 43 (.slice x47 x47n x47c) (.slice (some p52) 1 1) w53 fun a54 a54n a54c w55 =>
        dr (some ⟨b10, 0, none⟩) fun p57 =>
        stL w55 p57 0 [.slice a54 a54n a54c] fun w56 =>
        Chg (fun k => S1 k ∨ W.heap.size ≤ k) W2 w56 ∧ ∃ S' : Nat → Prop, (∀ k, S' k → (S1 k ∨ W.heap.size ≤ k) ∧ k < w56.heap.size) ∧
          ∃ (oa : Option Addr) (on oc : Nat) (out : List Lx), Blk w56 b10 [.slice oa on oc] 43 ∧ Blk w56 b2 [.slice none 0 0] 43 ∧ Blk w56 b4 [.int .i64 0] 25 ∧ scanL (pre ++ [(at_, part)]) = (out, 0) ∧ OwnL encX w56 w13.heap.size 48 oa on oc out ∧ (∀ k, S' k ↔ k = b2 ∨ k = b4 ∨ k = b10 ∨ bk oa k) ∧ Ext w w56)))))) := by
      intro x v hx hv Bv
      have cv : Chg (fun k => k = b40) w42 v := by
        rcases hv with hv | ⟨v', hv, hc⟩
        · exact Chg.of_ext hv
        · exact (Chg.of_ext hv).trans hc
      have zv := cv.size
      refine setX3 Bv fun w45 B45 c45 s45 => dr_ok ?_
      have cc : Chg (fun k => k = b40) w42 w45 := cv.trans c45
      obtain ⟨d0, d1, d2, d3⟩ := blk4x (x := { x with pos := at_ }) B45
      have n40 : ¬ bk oa b40 := fun hh => by have := (h5.bk hh).2; omega
      have q10 := cc.blk (h1.ext e42) (by omega)
      have q2 := cc.blk (h2.ext e42) (by omega)
      have q4 := cc.blk (h3.ext e42) (by omega)
      have q5 := (h5.ext e42).chg cc fun k hk hh => n40 (hh ▸ hk)
      refine ⟨oa, on, oc, by rw [q10.cell]; rfl, _, d0, _, d1, _, d2, _, d3, ?_⟩
      have hlen : out.length ≤ 65536 := by
        rw [scanL_len g4]
        have : pre.length ≤ (partsM s 0).length := by rw [hrest]; simp
        omega
      have hon := OwnL.length q5
      refine OwnL.push slT_lex q5 (by omega) { x with pos := at_ } (by omega) (by omega) fun a54 c54 w55 o1 o2 o3 => dr_ok ?_
      have n10 : ∀ k, bk oa k → w13.heap.size ≤ k := fun k hk => (q5.bk hk).1
      refine stL_one (o2.blk q10 (fun hh => by have := n10 _ hh; omega)) rfl fun w56 B56 c56 s56 => ?_
      have n5 : ∀ k, bk a54 k → w13.heap.size ≤ k := fun k hk => (o1.bk hk).1
      have sub4 : ∀ j, bk a54 j → (S1 j ∨ W.heap.size ≤ j) := fun j hj => (o3 j hj).elim (fun h => .inl ((g6 j).2 (.inr (.inr (.inr h))))) (fun h => .inr (by omega))
      have e13s := E13.size
      refine ⟨?_, fun j => j = b2 ∨ j = b4 ∨ j = b10 ∨ bk a54 j, ?_, a54, on + 1, c54, out ++ [{ x with pos := at_ }], B56, ?_, ?_, ?_, ?_, fun k => Iff.rfl, ?_⟩
      · refine (Chg.of_ext e42).trans ((cc.mono fun k _ hk => .inr (by omega)).trans ((o2.mono fun k _ hk => .inl ((g6 k).2 (.inr (.inr (.inr hk))))).trans (c56.mono fun k _ hk => .inl ((g6 k).2 (.inr (.inr (.inl hk)))))))
      · intro k hk
        have zz := o2.size
        rcases hk with rfl | rfl | rfl | hk
        · exact ⟨.inl ((g6 _).2 (.inl rfl)), by omega⟩
        · exact ⟨.inl ((g6 _).2 (.inr (.inl rfl))), by omega⟩
        · exact ⟨.inl ((g6 _).2 (.inr (.inr (.inl rfl)))), by omega⟩
        · exact ⟨sub4 k hk, by have := (o1.bk hk).2; omega⟩
      · exact c56.blk (o2.blk q2 (fun hh => by have := n10 _ hh; omega)) (by omega)
      · exact c56.blk (o2.blk q4 (fun hh => by have := n10 _ hh; omega)) (by omega)
      · rw [scanL_app g4, scanL_one hx]; rfl
      · exact o1.chg c56 fun k hk hh => by have := n5 k hk; omega
      · refine ext_two (ext_chgS (ext_two (ext_trans E2 e42) cc (by omega)) o2 fun k hk => by have := n10 k hk; omega) c56 (by omega)
    intro K43 hK43
    have hpos : part.length ≠ 0 := fun hh => hpt.2.1 (List.length_eq_zero_iff.1 hh)
    obtain ⟨c0, r0, hcr⟩ : ∃ c0 r0, part = c0 :: r0 := by
      cases part with
      | nil => exact absurd rfl hpt.2.1
      | cons c0 r0 => exact ⟨c0, r0, rfl⟩
    refine sidx_int (l := part) 0 rfl (by omega) ?_
    have hp0 : part[0]'(by omega) = c0 := by simp [hcr]
    rw [hp0]
    have hhd : part.head? = some c0 := by rw [hcr]; rfl
    refine br_split (fun g60 => ?_) (fun g60 => ?_)
    · have hne : part.head? ≠ some 60 := by
        rw [hhd]; intro hh
        have : c0 = 60 := Option.some.inj hh
        exact g60 (by rw [this]; rfl)
      refine Check_spec part fun w60 e60 => ⟨_, rfl, br_split (fun gc => dr_ok ?_) (fun gc => ?_)⟩
      · exact kr 11 w60 (by decide) (by unfold lexP; rw [if_pos hne, if_neg gc]) e60
      · refine hK43 _ fun _ => kn ⟨1, [], part, 0⟩ w60 ?_ (.inl e60) (B40.ext e60)
        unfold lexP; rw [if_pos hne, if_pos (by simpa using gc)]
    · have h60 : c0 = 60 := by
        have : c0.toNat = 60 := by omega
        exact UInt8.toNat_inj.1 this
      have hhd' : part.head? = some 60 := by rw [hhd, h60]
      have hlast : part.getLast? = some (part[part.length - 1]'(by omega)) := by rw [List.getLast?_eq_getElem?, List.getElem?_eq_getElem]
      rw [show (((at_, part) : Nat × List UInt8).2.length : Int) - 1 = ((part.length - 1 : Nat) : Int) by show ((part.length : Int) - 1) = _; omega, wrap_id (by omega)]
      refine sidx_nat (l := part) (by omega) ?_
      refine br_split (fun g62 => dr_ok ?_) (fun g62 => ?_)
      · refine kr 3 w42 (by decide) ?_ (Below.refl _ _)
        unfold lexP
        rw [if_neg (by simpa using hhd'), if_pos]
        rw [hlast]; intro hh
        exact g62 (by rw [Option.some.inj hh]; rfl)
      · have hl62 : part.getLast? = some 62 := by
          have : (part[part.length - 1]'(by omega)) = 62 := UInt8.toNat_inj.1 (by show _ = 62; omega)
          rw [hlast, this]
        obtain ⟨m, hm⟩ := part_mid hhd' hl62
        have hlx : lexP at_ part = if (readF part).2 = 0 then ({ (readF part).1 with pos := at_ }, 0) else (zeroX, (readF part).2) := by
          unfold lexP; rw [if_neg (by simpa using hhd'), if_neg (by simpa using hl62)]
        have hml : m.length ≤ 100000000 := by
          have := congrArg List.length hm
          simp at this; omega
        have hrs := fun K hk => read_spec (R := K) m hml (hM.ext E42) hk
        rw [← hm] at hrs
        refine hrs _ fun w72 e72 => ⟨_, _, _, _, _, rfl, ?_⟩
        refine al_stL rfl one4 fun b78 w80 hb78 B78 e80 s80 => ?_
        have e4280 := ext_trans e72 e80
        have z80 := e4280.size
        refine br_split (fun ge => dr_ok ?_) (fun ge => ?_)
        · exact kr (readF part).2 w80 ge (by rw [hlx, if_neg ge]) e4280
        · obtain ⟨y0, y1, y2, y3⟩ := blk4x B78
          refine ⟨_, y0, _, y1, _, y2, _, y3, ?_⟩
          refine stX (B40.ext e4280) rfl fun w89 B89 c89 s89 => hK43 _ fun _ => kn (readF part).1 w89 ?_ (.inr ⟨w80, e4280, c89⟩) B89
          rw [hlx, if_pos (by simpa using ge)]
  · rintro D S1 W hD1 hD2 hD3 hD4 ⟨oa, on, oc, out, g1, g2, g3, g4, g5, g6, g7⟩
    rw [g4] at h
    have hDb : ¬ bk oa D := fun hh => hD3 ((g6 D).2 (.inr (.inr (.inr hh))))
    have e13s := E13.size
    refine ⟨oa, on, oc, by rw [g1.cell]; rfl, ?_⟩
    refine stL_one g2 rfl fun w25 Ba ca sa => ?_
    refine stL_one (ca.blk g3 (by omega)) rfl fun w26 Bb cb sb => ?_
    have hD4' : w26.heap[D]? = some (.deferred (some [])) := by rw [cb.block D (by omega) (by omega), ca.block D (by omega) (by omega)]; exact hD4
    refine retD_one hD4' ?_
    have hcp : Chg (fun k => k = D) w26 (w26.putObj D (.deferred none)) := Chg.put w26 D _ rfl
    have n10 : ∀ k, bk oa k → w13.heap.size ≤ k := fun k hk => (g5.bk hk).1
    have o1 := ((g5.chg ca fun k hk hh => by have := n10 k hk; omega).chg cb fun k hk hh => by have := n10 k hk; omega).chg hcp fun k hk hh => hDb (hh ▸ hk)
    have E26 : Ext w w26 := ext_two (ext_two g7 ca (by omega)) cb (by omega)
    refine ⟨oa, on, oc, by rw [(hcp.blk (cb.blk Ba (by omega)) (by omega)).cell]; rfl, 0, by rw [(hcp.blk Bb (by omega)).cell]; rfl, ?_⟩
    refine h oa on oc _ (OwnL.length g5).symm ⟨o1.1, o1.2.imp id ?_⟩ (ext_put E26 (by omega) _)
    rintro ⟨g, cap, cur, p1, p2, p3⟩
    exact ⟨g, cap, cur, p1, by omega, p3⟩
  · rintro D S1 W hD1 hD2 hD3 hD4 ⟨e, g1, g2, g3, g4⟩
    rw [g1] at h
    have e13s := E13.size
    refine retD_one hD4 ?_
    have hcp : Chg (fun k => k = D) W (W.putObj D (.deferred none)) := Chg.put W D _ rfl
    refine ⟨none, 0, 0, by rw [(hcp.blk g2 (by omega)).cell]; rfl, e, by rw [(hcp.blk g3 (by omega)).cell]; rfl, ?_⟩
    exact h none 0 0 _ rfl (Owns.nil _ _ _ _) (ext_put g4 (by omega) _)
end Go.Proofs
namespace Go.Proofs
open Go Go.Sh Go.RowKit

variable {R : Ending → World → Prop} {w : World}
theorem get_lx {S : Nat → Prop} {a : Option Addr} {n : Nat} {L : List Lx} (h : RowAt encX S w a n L) {k : Nat} (hk : k < L.length) :
    ∃ q : Addr, (∀ K : Addr → Prop, K q → idx a n (k : Int) 4 K) ∧ w.cell? (q.add 0) = some (.int .i64 L[k].k) ∧ w.cell? (q.add 1) = some (.string ⟨⟨L[k].nm⟩⟩) ∧ w.cell? (q.add 2) = some (.string ⟨⟨L[k].vl⟩⟩) ∧ w.cell? (q.add 3) = some (.int .i64 L[k].pos) := by
  obtain ⟨bb, o, hq, _, _, hc⟩ := h.get (i := k) (x := L[k]) (List.getElem?_eq_getElem hk)
  exact ⟨⟨bb, o, none⟩, hq, by rw [add_none]; exact hc 0 _ rfl, by rw [add_none]; exact hc 1 _ rfl, by rw [add_none]; exact hc 2 _ rfl, by rw [add_none]; exact hc 3 _ rfl⟩
/- how much lexemes hold -/
def totX : List Lx → Nat
  | [] => 0
  | x :: r => x.nm.length + x.vl.length + 4 + totX r
theorem text_le (x : Lx) : (textF x).length ≤ x.nm.length + x.vl.length + 4 := by
  have hi : (innF x.nm x.vl).length ≤ x.nm.length + x.vl.length + 1 := by unfold innF; split <;> first | omega | (simp; omega)
  unfold textF
  repeat' split
  all_goals first | omega | (simp; omega)
theorem print_le : ∀ l : List Lx, (printX l).length ≤ totX l
  | [] => Nat.le_refl _
  | x :: r => by
    have := print_le r
    have := text_le x
    rw [print_cons, List.length_append, totX]; omega
theorem totX_get : ∀ {l : List Lx} {k : Nat} (h : k < l.length), l[k].nm.length + l[k].vl.length + 4 ≤ totX l
  | x :: r, 0, _ => by rw [totX]; simp
  | x :: r, k + 1, h => by
    have := totX_get (l := r) (k := k) (by simpa using h)
    rw [totX]
    simp only [List.getElem_cons_succ]; omega
theorem totX_len : ∀ l : List Lx, l.length ≤ totX l
  | [] => Nat.le_refl _
  | x :: r => by have := totX_len r; rw [totX, List.length_cons]; omega
theorem print_take (l : List Lx) (k : Nat) : (printX (l.take k)).length ≤ totX l := by
  have h := print_le l
  have : printX l = printX (l.take k) ++ printX (l.drop k) := by rw [← print_app, List.take_append_drop]
  rw [this, List.length_append] at h; omega
theorem print_succ {l : List Lx} {k : Nat} (h : k < l.length) : printX (l.take (k + 1)) = printX (l.take k) ++ textF l[k] := by
  rw [List.take_succ_eq_append_getElem h, print_app, print_cons]
  show _ ++ (_ ++ []) = _
  rw [List.append_nil]
theorem lastK_succ {l : List Lx} {k : Nat} (h : k < l.length) (pt : Bool) : lastK pt (l.take (k + 1)) = decide (l[k].k = 1) := by
  unfold lastK
  rw [List.take_succ_eq_append_getElem h, List.getLast?_concat]

set_option maxRecDepth 20000 in
theorem Check_spec9 {S : Nat → Prop} {a : Option Addr} {n c : Nat} (L : List Lx) (hL : RowAt encX S w a n L) (hT : totX L ≤ 1000000000) (hM : Mk w) (h : ∀ w', Ext w w' → R (.returned (.int .i64 (chkX L))) w') :
    Calls Tryz.prog F_markup_Check ⟨[.slice a n c]⟩ w R := by
  apply c_markup_Check
  have hn : n = L.length := hL.1
  have hln := totX_len L
  refine ⟨fun at_ t W m => ∃ k : Nat, t = k ∧ k ≤ n ∧ m = n - k ∧ at_ = ((printX (L.take k)).length : Int) ∧ chkX L = chkGo (L.drop k) (lastK false (L.take k)) (printX (L.take k)).length ∧ Ext w W, ⟨_, 0, rfl, by omega, rfl, rfl, rfl, Below.refl _ _⟩, ?_⟩
  rintro _ _ W m ⟨k, rfl, hk, rfl, rfl, heq, he⟩ _
  have hpk := print_take L k
  refine br_split (fun hlt => ?_) (fun hge => ?_)
  · have hkL : k < L.length := by omega
    obtain ⟨q, hq, c0, c1, c2, c3⟩ := get_lx (hL.ext he) hkL
    have hx := totX_get hkL
    refine hq _ ⟨_, c0, _, c1, _, c2, _, c3, ?_⟩
    refine al_stL rfl one4 fun bx w15 hbx Bx e15 s15 => ?_
    obtain ⟨d0, d1, d2, d3⟩ := blk4x (x := L[k]) Bx
    refine ⟨_, d0, _, d1, _, d2, _, d3, ?_⟩
    have E15 := ext_trans he e15
    rw [List.drop_eq_getElem_cons hkL, chkGo] at heq
    generalize hxk : L[k] = x at *
    refine single_spec9 x fun w21 e21 => ⟨_, rfl, br_split (fun g1 => ?_) (fun g1 => ?_)⟩
    · have : chkOne x (lastK false (L.take k)) ((printX (L.take k)).length : Int) = singleX x := by unfold chkOne; rw [if_pos g1]
      rw [this, if_pos g1] at heq
      rw [← heq]; exact h w21 (ext_trans E15 e21)
    intro K23 hK23
    have hsx : singleX x = 0 := Classical.not_not.1 g1
    have k23 : ∀ w24, Ext w15 w24 → ¬ (x.k = 1 ∧ lastK false (L.take k) = true) → K23 w24 := by
      intro w24 e24 g2
      refine hK23 _ fun _ => ?_
      intro K25 hK25
      have k25 : ∀ w26, Ext w15 w26 → (x.k ≠ 1 → rightX x = true) → K25 w26 := by
        intro w26 e26 g3
        refine hK25 _ fun _ => ?_
        refine ⟨_, cell_ext d3 e26, br_split (fun g4 => ?_) (fun g4 => ?_)⟩
        · have : chkOne x (lastK false (L.take k)) ((printX (L.take k)).length : Int) = 9 := by
            unfold chkOne
            rw [if_neg (by simpa using hsx), if_neg g2, if_neg (fun hh => by rw [g3 hh.1] at hh; cases hh.2), if_pos g4]
          rw [this, if_pos (by decide)] at heq
          rw [← heq]; exact h w26 (ext_trans E15 e26)
        · have h0 : chkOne x (lastK false (L.take k)) ((printX (L.take k)).length : Int) = 0 := chk_ok hsx g2 g3 (Classical.not_not.1 g4)
          rw [h0, if_neg (by decide)] at heq
          refine ⟨_, cell_ext d0 e26, _, cell_ext d1 e26, _, cell_ext d2 e26, _, cell_ext d3 e26, ?_⟩
          refine text_spec x (by omega) (by omega) fun w33 e33 => ⟨_, rfl, ?_⟩
          have htl := text_le x
          refine ⟨n - (k + 1), by omega, k + 1, by rw [wrap_nat (by omega)], by omega, rfl, ?_, ?_, ext_trans E15 (ext_trans e26 e33)⟩
          · rw [print_succ hkL, hxk, List.length_append, wrap_id (by omega)]; omega
          · rw [heq, print_succ hkL, lastK_succ hkL, hxk, List.length_append]
      refine ⟨_, cell_ext d0 e24, br_split (fun gk => ?_) (fun gk => k25 w24 e24 (fun hh => absurd hh gk))⟩
      refine ⟨_, cell_ext d0 e24, _, cell_ext d1 e24, _, cell_ext d2 e24, _, cell_ext d3 e24, ?_⟩
      have hkn : x.k = 3 ∨ knownB x.nm = true := by
        right
        unfold singleX at hsx
        rw [if_neg gk] at hsx
        split at hsx
        · split at hsx
          · rename_i hh; exact hh.1
          · cases hsx
        · cases hsx
      refine right_spec9 x hkn (by omega) (hM.ext (ext_trans E15 e24)) fun w42 e42 => ⟨_, rfl, ?_⟩
      refine br_cases (fun g3 => ?_) (fun g3 => k25 w42 (ext_trans e24 e42) fun _ => by simpa using g3)
      have g3 : rightX x = false := by simpa using g3
      have : chkOne x (lastK false (L.take k)) ((printX (L.take k)).length : Int) = 3 := by
        unfold chkOne
        rw [if_neg (by simpa using hsx), if_neg g2, if_pos ⟨gk, g3⟩]
      rw [this, if_pos (by decide)] at heq
      rw [← heq]; exact h w42 (ext_trans E15 (ext_trans e24 e42))
    refine ⟨_, cell_ext d0 e21, br_split (fun gk => ?_) (fun gk => k23 w21 e21 (fun hh => gk hh.1))⟩
    refine br_split (fun gt => ?_) (fun gt => ?_)
    · obtain ⟨j, rfl⟩ : ∃ j, k = j + 1 := ⟨k - 1, by omega⟩
      have hj : j < L.length := by omega
      obtain ⟨q', hq', c0', _⟩ := get_lx (hL.ext (ext_trans E15 e21)) hj
      rw [show ((j + 1 : Nat) : Int) - 1 = (j : Int) by omega, wrap_id (by omega)]
      refine hq' _ ⟨_, c0', br_split (fun gj => ?_) (fun gj => ?_)⟩
      · have : chkOne x (lastK false (L.take (j + 1))) ((printX (L.take (j + 1))).length : Int) = 10 := by
          unfold chkOne
          rw [if_neg (by simpa using hsx), if_pos ⟨gk, by rw [lastK_succ hj]; exact decide_eq_true gj⟩]
        rw [this, if_pos (by decide)] at heq
        rw [← heq]; exact h w21 (ext_trans E15 e21)
      · exact k23 w21 e21 fun hh => by rw [lastK_succ hj] at hh; exact gj (of_decide_eq_true hh.2)
    · refine k23 w21 e21 fun hh => ?_
      have : k = 0 := by omega
      subst this
      rw [List.take_zero] at hh
      cases hh.2
  · have hkn : k = L.length := by omega
    subst hkn
    rw [List.drop_length, List.take_length, chkGo] at heq
    rw [List.take_length]
    refine br_split (fun g => ?_) (fun g => ?_)
    · rw [if_pos (by omega)] at heq; rw [← heq]; exact h W he
    · rw [if_neg (by omega)] at heq; rw [← heq]; exact h W he

theorem bld_new {b : Nat} {T : TypeId} (h : Blk w b [.pointer none, .slice none 0 0] 70) : BldAt w b none [] := ⟨.pointer none, 0, h, .inl rfl, Owns.nil _ _ _ _⟩
/- what scanning yields holds no more than the string -/
theorem tot_scan : ∀ (l : List Lx) (pt : Bool) (at_ : Nat), chkGo l pt at_ = 0 → totX l ≤ 5 * (printX l).length + 4 * l.length
  | [], _, _, _ => Nat.zero_le _
  | x :: r, pt, at_, h => by
    have ih := tot_scan r _ _ (chkGo_cons.1 h).2
    have hx : x.nm.length + x.vl.length ≤ (textF x).length := by
      have hi : x.nm.length + x.vl.length ≤ (innF x.nm x.vl).length := by
        unfold innF; split
        · simp <;> omega
        · rename_i hv; have : x.vl = [] := by simpa using hv
          rw [this]; simp
      obtain ⟨a, _⟩ := chk_inv (chkGo_cons.1 h).1
      by_cases hk : x.k = 1
      · obtain ⟨e1, _, _, e4⟩ := text_form a hk
        rw [e4, e1]; simp
      · unfold singleX at a
        rw [if_neg hk] at a
        split at a
        · rename_i h3
          unfold textF
          rcases h3 with h3 | h3 | h3 <;> simp [h3] <;> omega
        · cases a
    rw [totX, print_cons, List.length_append, List.length_cons]; omega
theorem scan_small (s : List UInt8) : totX (scanF s).1 ≤ 1000000000 ∧ (scanF s).1.length ≤ 65536 := by
  by_cases h0 : (scanF s).2 = 0
  · have he : scanF s = ((scanF s).1, 0) := by rw [← h0]
    obtain ⟨h1, h2⟩ := scan_print he
    have h3 := tot_scan _ _ _ h1
    have hs : s.length ≤ 65536 := by
      unfold scanF at h0
      split at h0
      · cases h0
      · omega
    have h4 : (scanF s).1.length ≤ 65536 := by
      have e : scanL (partsM s 0) = ((scanF s).1, 0) := by
        have := he
        unfold scanF at this ⊢
        rw [if_neg (by omega)] at this ⊢
        exact this
      have := scanL_len e
      have := partsM_len s.length s 0 (Nat.le_refl _)
      omega
    rw [h2] at h3
    exact ⟨by omega, h4⟩
  · rw [scanF_err h0]; exact ⟨Nat.zero_le _, Nat.zero_le _⟩
set_option maxRecDepth 20000 in
theorem Strip_spec (s : List UInt8) (hM : Mk w) (h : ∀ w', Ext w w' → R (.returned (.tuple ⟨[.string ⟨⟨stripX (scanF s).1⟩⟩, .int .i64 (scanF s).2]⟩)) w') : Calls Tryz.prog F_markup_Strip ⟨[.string ⟨⟨s⟩⟩]⟩ w R := by
  apply c_markup_Strip
  obtain ⟨hT, hll⟩ := scan_small s
  refine Scan_spec s hM fun a n c w3 hn hO e3 => ⟨_, _, _, _, rfl, ?_⟩
  refine br_split (fun g => ?_) (fun g => ?_)
  · have := h w3 e3
    rw [scanF_err g] at this; exact this
  have hL : RowAt encX (bk a) w3 a n (scanF s).1 := OwnL.out hO
  generalize hl : (scanF s).1 = L at *
  have he0 : (scanF s).2 = 0 := Classical.not_not.1 g
  rw [he0] at h
  refine al_intro fun b5 w6 hb5 B5 e6 s6 => ?_
  have z3 := e3.size
  refine ⟨fun t W m => ∃ (k : Nat) (oa : Option Addr), t = k ∧ k ≤ n ∧ m = n - k ∧ BldAt W b5 oa (stripX (L.take k)) ∧ Ext w3 W, ⟨_, 0, none, rfl, by omega, rfl, bld_new (T := 70) B5, e6⟩, ?_⟩
  rintro _ W m ⟨k, oa, rfl, hk, rfl, hB, he⟩ _
  have hpk := print_take L k
  have hsk := strip_len (L.take k)
  refine br_split (fun hlt => ?_) (fun hge => ?_)
  · have hkL : k < L.length := by omega
    have hss : stripX (L.take (k + 1)) = stripX (L.take k) ++ (if L[k].k = 1 then L[k].vl else []) := by
      rw [List.take_succ_eq_append_getElem hkL, strip_app]
      unfold stripX
      rw [List.flatMap_cons, List.flatMap_nil, List.append_nil]
    obtain ⟨q, hq, c0, c1, c2, c3⟩ := get_lx (hL.ext he) hkL
    have hx := totX_get hkL
    refine hq _ ⟨_, c0, _, c1, _, c2, _, c3, ?_⟩
    refine al_stL rfl one4 fun bx w19 hbx Bx e19 s19 => ?_
    obtain ⟨d0, d1, d2, d3⟩ := blk4x (x := L[k]) Bx
    refine ⟨_, d0, br_split (fun g1 => ⟨_, d2, ?_⟩) (fun g1 => ?_)⟩
    · refine WriteString_spec (hB.ext e19) (by omega) fun oa' w28 hB' hb hc => ⟨_, _, rfl, ?_⟩
      rw [if_pos g1] at hss
      refine ⟨n - (k + 1), by omega, k + 1, oa', by rw [wrap_nat (by omega)], by omega, rfl, by rw [hss]; exact hB', ?_⟩
      refine ext_chgS (ext_trans he e19) hc fun j hj => ?_
      rcases hj with rfl | hj
      · omega
      · have := ((hB.ext e19).bk hj).1; omega
    · rw [if_neg g1, List.append_nil] at hss
      exact ⟨n - (k + 1), by omega, k + 1, oa, by rw [wrap_nat (by omega)], by omega, rfl, by rw [hss]; exact hB.ext e19, ext_trans he e19⟩
  · have hkn : k = L.length := by omega
    subst hkn
    rw [List.take_length] at hB
    refine String_spec hB fun w33 hb => ⟨_, rfl, h w33 ?_⟩
    exact (ext_trans e3 he).trans (hb.mono (by omega))
end Go.Proofs
namespace Go.Proofs
open Go Go.Sh Go.RowKit

variable {R : Ending → World → Prop} {w : World}
theorem slT_strM : SlT Tryz.prog 52 9 1 16 (.string ⟨#[]⟩) := ⟨Tryz.underlying52, by kernel_rfl, rfl, by decide⟩
/- cutting the end off -/
theorem owns_cut {B : Nat} {e : TypeId} {size : Nat} {a : Option Addr} {n c : Nat} {xs : List Value} (h : Owns w B e size a n c xs) {m : Nat} (hm : m ≤ n) : Owns w B e size a m c (xs.take (m * size)) := by
  obtain ⟨h1, h2⟩ := h
  have hmn : m * size ≤ n * size := Nat.mul_le_mul_right _ hm
  refine ⟨by rw [List.length_take, h1]; omega, ?_⟩
  rcases h2 with ⟨e1, e2⟩ | ⟨g, cap, cur, e1, e2, e3, e4, e5, e6, e7⟩
  · have hm0 : m = 0 := by omega
    obtain ⟨rfl, _, rfl⟩ : a = none ∧ n = 0 ∧ c = 0 := by simpa using e1
    subst hm0
    exact .inl ⟨rfl, rfl⟩
  · obtain ⟨rfl, rfl⟩ : a = some ⟨g, 0, none⟩ ∧ c = cap := by simpa using e1
    refine .inr ⟨g, c, cur, rfl, e2, e3, by omega, e5, e6, ?_⟩
    rw [← e7, List.take_take, Nat.min_eq_left hmn]
theorem ownL_cut {α : Type} {E : Enc α} {B : Nat} {e : TypeId} {a : Option Addr} {n c : Nat} {l : List α} (h : OwnL E w B e a n c l) {m : Nat} (hm : m ≤ n) : OwnL E w B e a m c (l.take m) := by
  have h2 := owns_cut h hm
  have hl := OwnL.length h
  have : (E.row l).take (m * E.size) = E.row (l.take m) := by
    have hr : E.row l = E.row (l.take m) ++ E.row (l.drop m) := by rw [← row_app, List.take_append_drop]
    have hlen : (E.row (l.take m)).length = m * E.size := by rw [row_len, List.length_take, Nat.min_eq_left (by omega)]
    rw [hr, List.take_left' hlen]
  rwa [this] at h2
theorem owns_le {B : Nat} {e : TypeId} {size : Nat} {a : Option Addr} {n c : Nat} {xs : List Value} (h : Owns w B e size a n c xs) : n ≤ c := by
  rcases h.2 with ⟨e1, e2⟩ | ⟨g, cap, cur, e1, _, _, e4, _⟩
  · obtain ⟨_, h, h'⟩ : a = none ∧ n = 0 ∧ c = 0 := by simpa using e1
    omega
  · obtain ⟨_, h⟩ : a = some ⟨g, 0, none⟩ ∧ c = cap := by simpa using e1
    omega
theorem sls_cut {a : Option Addr} {c sz : Nat} {m : Nat} (hm : m ≤ c) (ha : ∀ p, a = some p → p.add 0 = p) {K : Option Addr → Nat → Nat → Prop} (h : K a m c) : sls a c 0 (m : Int) sz K := by
  refine ⟨by omega, by omega, by omega, ?_⟩
  have e : slA a c (0 : Int).toNat sz = a := by
    unfold slA
    split
    · rfl
    · cases a with
      | none => rfl
      | some p => show some (p.add (0 * sz)) = some p; rw [Nat.zero_mul, ha p rfl]
  rw [e]
  simpa using h
theorem get_str {S : Nat → Prop} {a : Option Addr} {n : Nat} {L : List (List UInt8)} (h : RowAt Sh.encStr S w a n L) {k : Nat} (hk : k < L.length) :
    ∃ q : Addr, (∀ K : Addr → Prop, K q → idx a n (k : Int) 1 K) ∧ w.cell? q = some (.string ⟨⟨L[k]⟩⟩) := by
  obtain ⟨bb, o, hq, _, _, hc⟩ := h.get (i := k) (x := L[k]) (List.getElem?_eq_getElem hk)
  exact ⟨⟨bb, o, none⟩, hq, by have := hc 0 _ rfl; rwa [Nat.add_zero] at this⟩

set_option maxRecDepth 20000 in
theorem Nested_spec {S : Nat → Prop} {a : Option Addr} {n c : Nat} (L : List Lx) (hL : RowAt encX S w a n L) (hT : totX L ≤ 1000000000) (hM : Mk w) (h : ∀ w', Ext w w' → R (.returned (.int .i64 (nestX L))) w') :
    Calls Tryz.prog F_markup_Nested ⟨[.slice a n c]⟩ w R := by
  apply c_markup_Nested
  have hn : n = L.length := hL.1
  have hln := totX_len L
  refine Check_spec9 L hL hT hM fun w3 e3 => ⟨_, rfl, br_split (fun g => ?_) (fun g => ?_)⟩
  · have := h w3 e3; unfold nestX at this; rwa [if_pos g] at this
  unfold nestX at h
  rw [if_neg g] at h
  have z3 := e3.size
  refine ⟨fun oa on oc t W m => ∃ (k : Nat) (st : List (List UInt8)), t = k ∧ k ≤ n ∧ m = n - k ∧ st.length ≤ 16 ∧ on = st.length ∧ OwnL Sh.encStr W w3.heap.size 9 oa on oc st.reverse ∧ nestGo L [] = nestGo (L.drop k) st ∧ Ext w3 W, ⟨_, 0, [], rfl, by omega, rfl, by simp, rfl, Owns.nil _ _ _ _, rfl, Below.refl _ _⟩, ?_⟩
  rintro oa on oc _ W m ⟨k, st, rfl, hk, rfl, hst, rfl, hO, heq, he⟩ _
  refine br_split (fun hlt => ?_) (fun hge => ?_)
  · have hkL : k < L.length := by omega
    obtain ⟨q, hq, c0, c1, c2, c3⟩ := get_lx (hL.ext (ext_trans e3 he)) hkL
    refine hq _ ⟨_, c0, _, c1, _, c2, _, c3, ?_⟩
    refine al_stL rfl one4 fun bx w18 hbx Bx e18 s18 => ?_
    obtain ⟨d0, d1, d2, d3⟩ := blk4x (x := L[k]) Bx
    rw [List.drop_eq_getElem_cons hkL, nestGo] at heq
    generalize hxk : L[k] = x at *
    have z := he.size
    have E18 := ext_trans (ext_trans e3 he) e18
    refine ⟨_, d0, br_split (fun g2 => ⟨_, d1, ?_⟩) (fun g2 => br_split (fun g3 => ?_) (fun g3 => ?_))⟩
    · rw [if_pos g2] at heq
      refine OwnL.push slT_strM (hO.ext e18) (by omega) x.nm (by omega) (by omega) fun a' c' w24 o1 o2 o3 => ?_
      have E24 : Ext w3 w24 := ext_chgS (ext_trans he e18) o2 fun j hj => ((hO.ext e18).bk hj).1
      refine br_split (fun g16 => ?_) (fun g16 => ?_)
      · rw [if_pos (by omega)] at heq
        rw [← heq]; exact h w24 (ext_trans e3 E24)
      · rw [if_neg (by omega)] at heq
        refine ⟨n - (k + 1), by omega, k + 1, x.nm :: st, by rw [wrap_nat (by omega)], by omega, rfl, by rw [List.length_cons]; omega, by rw [List.length_cons], ?_, heq, E24⟩
        rw [List.reverse_cons]; exact o1
    · rw [if_neg g2, if_pos g3] at heq
      intro K26 hK26
      have hOd := (hO.ext e18).ext (ext_drew w18)
      have Ed := ext_trans (ext_trans he e18) (ext_drew w18)
      unfold drw
      refine br_split (fun g4 => ?_) (fun g4 => ?_)
      · have hs0 : st = [] := List.length_eq_zero_iff.1 (by omega)
        subst hs0
        have hp : popS x.nm [] = none := rfl
        rw [hp] at heq
        have := h _ (ext_trans e3 Ed)
        rwa [heq] at this
      · obtain ⟨t, st', rfl⟩ : ∃ t st', st = t :: st' := by
          cases st with
          | nil => exact absurd rfl g4
          | cons t st' => exact ⟨t, st', rfl⟩
        have hlr : (t :: st').reverse.length = st'.length + 1 := by simp
        rw [List.length_cons] at *
        rw [show ((st'.length + 1 : Nat) : Int) - 1 = (st'.length : Int) by omega, wrap_id (by omega)]
        obtain ⟨q', hq', cq⟩ := get_str (OwnL.out hOd) (k := st'.length) (by rw [hlr]; omega)
        have hlast : (t :: st').reverse[st'.length]'(by rw [hlr]; omega) = t := by simp
        rw [hlast] at cq
        refine hq' _ ⟨_, cq, _, cell_ext d1 (ext_drew w18), br_split (fun g5 => ?_) (fun g5 => ?_)⟩
        · have hp : popS x.nm (t :: st') = none := if_neg g5
          rw [hp] at heq
          have := h _ (ext_trans e3 Ed)
          rwa [heq] at this
        · have hp : popS x.nm (t :: st') = some st' := if_pos (Classical.not_not.1 g5)
          rw [hp] at heq
          refine hK26 _ fun _ => ?_
          rw [show ((st'.length + 1 : Nat) : Int) - 1 = (st'.length : Int) by omega, wrap_id (by omega)]
          have hcut := ownL_cut hOd (m := st'.length) (by omega)
          rw [List.reverse_cons, List.take_left' (by simp)] at hcut
          have hle := owns_le hOd
          refine sls_cut (by omega) ?_ ?_
          · intro p hp
            rcases hOd.2 with ⟨_, e2⟩ | ⟨gg, cap, cur, e1, _⟩
            · exact absurd e2 (by omega)
            · have e1 := (Value.slice.inj e1).1
              rw [e1] at hp; rw [← Option.some.inj hp]; rfl
          · exact ⟨n - (k + 1), by omega, k + 1, st', by rw [wrap_nat (by omega)], by omega, rfl, by omega, rfl, hcut, heq, Ed⟩
    · rw [if_neg g2, if_neg g3] at heq
      exact ⟨n - (k + 1), by omega, k + 1, st, by rw [wrap_nat (by omega)], by omega, rfl, hst, rfl, hO.ext e18, heq, ext_trans he e18⟩
  · have hkn : k = L.length := by omega
    subst hkn
    rw [List.drop_length, nestGo] at heq
    refine br_split (fun g5 => ?_) (fun g5 => ?_)
    · rw [if_neg (fun hh => by rw [hh] at g5; simp at g5)] at heq
      rw [← heq]; exact h W (ext_trans e3 he)
    · have hs0 : st = [] := List.length_eq_zero_iff.1 (by omega)
      rw [if_pos hs0] at heq
      rw [← heq]; exact h W (ext_trans e3 he)
end Go.Proofs
namespace Go.Proofs
open Go Go.Sh Go.RowKit

theorem desc_range (n : Nat) : ((List.range n).reverse).Pairwise (fun a b => b < a) := List.pairwise_reverse.2 List.pairwise_lt_range
theorem desc_succ (k : Nat) : (List.range (k + 1)).reverse = k :: (List.range k).reverse := by rw [List.range_succ, List.reverse_append]; rfl
theorem desc_pre {n k : Nat} {pre : List Nat} (h : pre ++ [k] <+: (List.range n).reverse) : k < n ∧ ∀ j, k < j → j < n → j ∈ pre := by
  obtain ⟨rest, hr⟩ := h
  have hp := desc_range n
  rw [← hr] at hp
  have h2 := (List.pairwise_append.1 hp).2.2
  refine ⟨?_, fun j hj hn => ?_⟩
  · have : k ∈ (List.range n).reverse := by rw [← hr]; simp
    simpa using this
  · have : j ∈ (List.range n).reverse := by simpa using hn
    rw [← hr] at this
    rcases List.mem_append.1 this with h | h
    · rcases List.mem_append.1 h with h | h
      · exact h
      · have : j = k := by simpa using h
        omega
    · have := h2 k (by simp) j h
      omega
end Go.Proofs
namespace Go.Proofs
open Go Go.Sh Go.RowKit

instance : DecidableEq Lx := fun a b => decidable_of_iff (a.k = b.k ∧ a.nm = b.nm ∧ a.vl = b.vl ∧ a.pos = b.pos) (by
  cases a; cases b; simp)
variable {R : Ending → World → Prop} {w : World}
/- lexemes that are more, or longer, than the statements examine -/
def lenX (x : Lx) : Nat := x.nm.length + x.vl.length
def gOne (n i : Nat) (x : Lx) : Bool := decide (80 < lenX x) && (decide (i + 1 < n) || (decide (lenX x < 65456) || decide (65536 < lenX x)))
def greatGo (n : Nat) : Nat → List Lx → Bool
  | _, [] => decide (24 < n)
  | i, x :: r => gOne n i x || greatGo n (i + 1) r
def greatX (L : List Lx) : Bool := greatGo L.length 0 L
theorem great_tot {n : Nat} : ∀ {l : List Lx} {i : Nat}, greatGo n i l = false → n ≤ 24 ∧ totX l ≤ l.length * 65540
  | [], i, h => by
    rw [greatGo, decide_eq_false_iff_not] at h
    exact ⟨by omega, Nat.zero_le _⟩
  | x :: r, i, h => by
    rw [greatGo, Bool.or_eq_false_iff] at h
    obtain ⟨h1, h2⟩ := great_tot h.2
    refine ⟨h1, ?_⟩
    have h3 := h.1
    have : lenX x ≤ 65536 := by
      apply Classical.byContradiction
      intro hh
      have : gOne n i x = true := by
        unfold gOne
        simp only [Bool.and_eq_true, Bool.or_eq_true, decide_eq_true_eq]
        exact ⟨by omega, .inr (.inr (by omega))⟩
      rw [this] at h3; cases h3
    unfold lenX at this
    rw [totX, List.length_cons, Nat.add_mul]; omega
theorem greatX_small {L : List Lx} (h : greatX L = false) : L.length ≤ 24 ∧ totX L ≤ 2000000 := by
  obtain ⟨h1, h2⟩ := great_tot h
  have : L.length * 65540 ≤ 24 * 65540 := Nat.mul_le_mul_right _ h1
  exact ⟨h1, by omega⟩
theorem gOne_iff (n i : Nat) (x : Lx) : gOne n i x = true ↔ (80 < lenX x ∧ (i + 1 < n ∨ lenX x < 65456 ∨ 65536 < lenX x)) := by
  unfold gOne
  simp only [Bool.and_eq_true, Bool.or_eq_true, decide_eq_true_eq]
theorem gOne_br {A B : Prop} (n i m : Nat) (a : (80 < m ∧ (i + 1 < n ∨ m < 65456 ∨ 65536 < m)) → A) (b : ¬ (80 < m ∧ (i + 1 < n ∨ m < 65456 ∨ 65536 < m)) → B) :
    br (decide (80 < (m : Int))) (br (decide (((i + 1 : Nat) : Int) < (n : Int))) A (br (decide ((m : Int) < 65456)) A (br (decide (65536 < (m : Int))) A B))) B := by
  rw [br_iff, br_iff, br_iff, br_iff]
  refine ⟨fun h1 => ⟨fun h2 => a ⟨by omega, by omega⟩, fun h2 => ⟨fun h3 => a ⟨by omega, by omega⟩, fun h3 => ⟨fun h4 => a ⟨by omega, by omega⟩, fun h4 => b (by omega)⟩⟩⟩, fun h1 => b (by omega)⟩
/- what lies in memory is not longer than memory -/
structure BigX (L : List Lx) : Prop where
  len : L.length ≤ 140737488355328
  str : ∀ x ∈ L, x.nm.length ≤ 140737488355328 ∧ x.vl.length ≤ 140737488355328
/- the example of the chapter -/
def wantX : List Lx := [⟨1, [], [100, 101], 0⟩, ⟨2, [97, 100, 100], [49], 2⟩, ⟨1, [], [117, 115], 9⟩, ⟨3, [97, 100, 100], [], 11⟩, ⟨4, [108, 98], [], 17⟩]
theorem want_chk : chkX wantX = 0 := by decide +kernel
theorem want_print : printX wantX = [100, 101, 60, 97, 100, 100, 32, 49, 62, 117, 115, 60, 47, 97, 100, 100, 62, 60, 108, 98, 47, 62] := by decide +kernel
theorem want_scan : scanF [100, 101, 60, 97, 100, 100, 32, 49, 62, 117, 115, 60, 47, 97, 100, 100, 62, 60, 108, 98, 47, 62] = (wantX, 0) := by
  rw [← want_print]; exact print_scan want_chk
end Go.Proofs
namespace Go.Proofs
open Go Go.Sh Go.RowKit

/- growing the nil slice: room is made, nothing is held -/
theorem grow_nilM {P : Program} {t tn ty e : TypeId} {size bytes : Nat} {z : Value} (hT : SlT P t e size bytes z) (htn : P.underlying tn = some (.int .i64)) {w : World} {B : Nat} (hB : B ≤ w.heap.size) (k : Nat) (h0 : 0 < k) (hb : k * bytes ≤ 140737488355328) (hk63 : k ≤ 4611686018427387904)
    {K : Option Addr → Nat → Nat → World → Prop} (hk : ∀ (c : Nat) w', Owns w' B e size (some ⟨w.heap.size, 0, none⟩) 0 c [] → Ext w w' → K (some ⟨w.heap.size, 0, none⟩) k c w') :
    app P [t, tn] ty (.slice none 0 0) (.int .i64 (k : Int)) w K := by
  obtain ⟨i, hi, hz, hs, hbb⟩ := hT.get
  have hpos := hT.pos
  have hr := Lib.run_append_grow_zeros (P := P) w t tn ty e i z .i64 .i64 hT.under htn hi hz none 0 0 [] (run_firstCells_none w.drew i.size 0 0 0) k h0 (by omega) (by omega) (by omega) (by rw [hbb]; omega) (by
    rw [hbb]; exact growslice_fits (by omega) (by rw [Nat.zero_add]; omega))
  rw [Nat.zero_add] at hr
  refine ⟨_, _, _, _, hr, hk _ _ ?_ (ext_trans (ext_drew w) ((Below.refl _ _).alloc (Nat.le_refl _) _))⟩
  refine ⟨by simp, .inr ⟨w.heap.size, _, #[] ++ Builtin.zeroCells z.cells k ++ Builtin.zeroCells z.cells (grownCap w k 0 e - k), rfl, hB, ?_, Nat.zero_le _, grownCap_le_maxLen w k 0 e (by simp only [maxLen]; omega), ?_, by simp⟩⟩
  · exact heap_alloc_new w.drew _
  · have hge := grownCap_ge w k 0 e
    have hzs : z.cells.size = i.size := by rw [hT.zs, hs]
    simp only [Builtin.zeroCells, Array.size_append, Array.size_map, Array.size_range, hzs, hs, List.size_toArray, List.length_nil, Nat.zero_add]
    rw [← Nat.add_mul]
    congr 1
    omega
theorem slA_zeroM (b c s : Nat) : slA (some ⟨b, 0, none⟩) c 0 s = some ⟨b, 0, none⟩ := by
  unfold slA; split <;> simp [Addr.add]
def encSlM : Enc (Option Addr × Nat × Nat) := ⟨fun x => [.slice x.1 x.2.1 x.2.2], 1, fun _ => rfl, by decide, by intro x v hv; simp only [List.mem_singleton] at hv; subst hv; rfl⟩
theorem flat_takeM {gs : List (List Lx)} {k : Nat} {g : List Lx} (h : gs[k]? = some g) : (gs.take (k + 1)).flatten = (gs.take k).flatten ++ g := by
  rw [List.take_add_one, h]; simp
theorem flat_lenM (gs : List (List Lx)) (k : Nat) : ((gs.take k).flatten).length ≤ gs.flatten.length := by
  have e : gs.flatten = (gs.take k).flatten ++ (gs.drop k).flatten := by rw [← List.flatten_append, List.take_append_drop]
  rw [e, List.length_append]; omega

variable {R : Ending → World → Prop} {w : World}
theorem at_nil {S : Nat → Prop} {n : Nat} {L : List Lx} (h : RowAt encX S w none n L) : L = [] := by
  rcases h.2 with h | ⟨b, o, h, _⟩
  · cases L with
    | nil => rfl
    | cons x r => rw [row_cons] at h; cases h
  · cases h
theorem set_same {cs : List Value} {i : Nat} {v : Value} (h : cs[i]? = some v) : cs.set i v = cs := by
  apply List.ext_getElem?
  intro j
  rw [List.getElem?_set]
  split
  · rename_i e; subst e
    obtain ⟨hl, _⟩ := List.getElem?_eq_some_iff.1 h
    rw [if_pos hl, h]
  · rfl
/- writing an offset -/
theorem storePos {B n c : Nat} {a : Option Addr} {L : List Lx} (h : OwnL encX w B 48 a n c L) {i : Nat} (hi : i < n) {x : Lx} (hx : L[i]? = some x) (v : Int) :
    ∃ g, a = some ⟨g, 0, none⟩ ∧ (∀ K : Addr → Prop, K ⟨g, i * 4, none⟩ → idx a n (i : Int) 4 K) ∧
      ∀ K : World → Prop, (∀ w', OwnL encX w' B 48 a n c (L.set i { x with pos := v }) → Chg (bk a) w w' → w'.heap.size = w.heap.size → K w') → stL w ((⟨g, i * 4, none⟩ : Addr).add 3) 0 [.int .i64 v] K := by
  have hl := OwnL.length h
  rcases h.2 with h1 | ⟨g, cap, cur, e1, e2, e3, e4, e5, e6, e7⟩
  · omega
  obtain ⟨rfl, _, rfl⟩ : a = some ⟨g, 0, none⟩ ∧ True ∧ c = cap := by simpa using e1
  have hB : Blk w g cur.toList 48 := e3
  have e6' : cur.size = c * 4 := e6
  have hcl : cur.toList.length = c * 4 := by simpa using e6'
  have e7' : List.take (n * 4) cur.toList = encX.row L := e7
  have hcur : cur.toList = encX.row L ++ cur.toList.drop (n * 4) := by rw [← e7', List.take_append_drop]
  refine ⟨g, rfl, fun K hK => ⟨by omega, by omega, ?_⟩, fun K hK => ?_⟩
  · show K _
    rw [add_none, Int.toNat_natCast, Nat.zero_add]; exact hK
  rw [add_none]
  refine stL_blk hB (by rw [hcl]; simp; omega) (by intro u hu; rw [List.mem_singleton.1 hu]; rfl) fun w' b1 b2 b3 b4 b5 b6 => ?_
  have hc : Chg (bk (some (⟨g, 0, none⟩ : Addr))) w w' := ⟨b4, b5, b6, by omega, fun k' _ hk => b2 k' fun e => hk (by simp [bk, e])⟩
  have hput : putAt cur.toList (i * 4 + 3 + 0) [.int .i64 v] = putAt cur.toList (i * 4) (encX.enc { x with pos := v }) := by
    have cell : ∀ (j : Nat) (u : Value), j < 4 → (encX.enc x)[j]? = some u → cur.toList[i * 4 + j]? = some u := by
      intro j u hj hu
      have : (encX.row L)[i * encX.size + j]? = (encX.enc x)[j]? := row_get hx hj
      rw [hcur, List.getElem?_append_left (by rw [row_len, hl]; show i * 4 + j < n * 4; omega)]
      rw [← hu]; exact this
    show cur.toList.set (i * 4 + 3) (.int .i64 v) = (((cur.toList.set (i * 4) (.int .i64 x.k)).set (i * 4 + 1) (.string ⟨⟨x.nm⟩⟩)).set (i * 4 + 1 + 1) (.string ⟨⟨x.vl⟩⟩)).set (i * 4 + 1 + 1 + 1) (.int .i64 v)
    have c00 : cur.toList[i * 4]? = some (.int .i64 x.k) := cell 0 _ (by omega) rfl
    rw [set_same c00, set_same (cell 1 _ (by omega) rfl), set_same (cell 2 _ (by omega) rfl)]
  rw [hput, hcur] at b1
  have hrp := row_put (E := encX) (x := { x with pos := v }) (rest := cur.toList.drop (n * 4)) (l := L) (i := i) (by omega)
  rw [show i * 4 = i * encX.size from rfl, hrp] at b1
  refine hK w' ⟨by rw [row_len, List.length_set, hl], .inr ⟨g, c, ⟨_⟩, rfl, e2, b1, e4, e5, ?_, ?_⟩⟩ hc b3
  · show (encX.row (L.set i { x with pos := v }) ++ cur.toList.drop (n * 4)).length = c * encX.size
    rw [List.length_append, List.length_drop, hcl, row_len, List.length_set, hl]
    have : n * 4 ≤ c * 4 := Nat.mul_le_mul_right _ e4
    show n * 4 + (c * 4 - n * 4) = c * 4
    omega
  · show List.take (n * encX.size) (encX.row (L.set i { x with pos := v }) ++ _) = _
    rw [List.take_append_of_le_length (by rw [row_len, List.length_set, hl]; exact Nat.le_refl _), List.take_of_length_le (by rw [row_len, List.length_set, hl]; exact Nat.le_refl _)]

/- lexemes with their right offsets -/
theorem atGo_app : ∀ (l m : List Lx) (n : Nat), atGo n (l ++ m) = atGo n l ++ atGo (n + (l.map atLen).sum) m
  | [], m, n => by simp [atGo]
  | x :: r, m, n => by
    rw [List.cons_append, atGo, atGo, atGo_app r m, List.cons_append, List.map_cons, List.sum_cons, Nat.add_assoc]
theorem atSum_le : ∀ l : List Lx, (l.map atLen).sum ≤ totX l
  | [] => Nat.le_refl _
  | x :: r => by
    have := atSum_le r
    rw [List.map_cons, List.sum_cons, totX]
    have : atLen x ≤ x.nm.length + x.vl.length + 4 := by
      unfold atLen
      repeat' split
      all_goals omega
    omega
theorem totX_app (l m : List Lx) : totX (l ++ m) = totX l + totX m := by
  induction l with
  | nil => simp [totX]
  | cons x r ih => rw [List.cons_append, totX, totX, ih]; omega
theorem totX_take (l : List Lx) (k : Nat) : totX (l.take k) ≤ totX l := by
  have h : totX l = totX (l.take k) + totX (l.drop k) := by rw [← totX_app, List.take_append_drop]
  omega
end Go.Proofs
namespace Go.Proofs
open Go Go.Sh Go.RowKit

variable {R : Ending → World → Prop} {w : World}
theorem TagsR_spec (h : ∀ b w', b = w.heap.size → RowAt Sh.encStr (fun k => k = b) w' (some ⟨b, 0, none⟩) 10 tagNames → Ext w w' → R (.returned (.slice (some ⟨b, 0, none⟩) 10 10)) w') : Calls Tryz.prog F_ref09_Tags ⟨[]⟩ w R := by
  apply c_ref09_Tags
  refine al_intro fun b w' hb B e sz => h b w' hb ⟨rfl, .inr ⟨b, 0, rfl, rfl, B.lt, fun j v hj => ?_⟩⟩ e
  rw [Nat.zero_add, B.cell]; exact hj
theorem tag_len : tagNames.length = 10 := rfl
theorem knownR_spec (nm : List UInt8) (h : ∀ w', Ext w w' → R (.returned (.bool (knownB nm))) w') : Calls Tryz.prog F_ref09_known ⟨[.string ⟨⟨nm⟩⟩]⟩ w R := by
  apply c_ref09_known
  refine TagsR_spec fun b w3 hb hT e3 => ⟨_, _, _, rfl, ?_⟩
  refine ⟨fun t W m => ∃ k : Nat, t = k ∧ k ≤ 10 ∧ m = 10 - k ∧ knownB nm = decide (nm ∈ tagNames.drop k) ∧ Ext w3 W, ⟨_, 0, rfl, by omega, rfl, rfl, Below.refl _ _⟩, ?_⟩
  rintro _ W m ⟨k, rfl, hk, rfl, heq, he⟩ _
  refine br_split (fun hlt => ?_) (fun hge => ?_)
  · have hkL : k < tagNames.length := by rw [tag_len]; omega
    obtain ⟨q, hq, cq⟩ := get_str (hT.ext he) hkL
    rw [List.drop_eq_getElem_cons hkL] at heq
    refine hq _ ⟨_, cq, br_split (fun g => ?_) (fun g => ?_)⟩
    · have : knownB nm = true := by rw [heq]; exact decide_eq_true (by rw [← g]; exact List.mem_cons_self)
      rw [← this]; exact h W (ext_trans e3 he)
    · refine ⟨10 - (k + 1), by omega, k + 1, by rw [wrap_nat (by omega)], by omega, rfl, ?_, he⟩
      rw [heq]
      refine decide_eq_decide.2 ⟨fun hh => ?_, fun hh => List.mem_cons_of_mem _ hh⟩
      rcases List.mem_cons.1 hh with hh | hh
      · exact absurd hh.symm g
      · exact hh
  · have hk10 : k = 10 := by omega
    subst hk10
    have : knownB nm = false := by rw [heq]; exact decide_eq_false (by rw [← tag_len, List.drop_length]; simp)
    rw [← this]; exact h W (ext_trans e3 he)
theorem emptyR_spec (nm : List UInt8) (h : R (.returned (.bool (emptyB nm))) w) : Calls Tryz.prog F_ref09_empty ⟨[.string ⟨⟨nm⟩⟩]⟩ w R := by
  apply c_ref09_empty
  have hm : emptyB nm = decide (nm = [108, 98] ∨ nm = [118] ∨ nm = [112, 98] ∨ nm = [115, 101, 99] ∨ nm = [103, 97, 112]) := by
    unfold emptyB; exact decide_eq_decide.2 (by simp only [List.mem_cons, List.not_mem_nil, or_false])
  have yes : (nm = [108, 98] ∨ nm = [118] ∨ nm = [112, 98] ∨ nm = [115, 101, 99] ∨ nm = [103, 97, 112]) → R (.returned (.bool true)) w := fun hh => by rw [hm, decide_eq_true hh] at h; exact h
  refine br_split (fun g => yes (.inl g)) (fun g1 => br_split (fun g => yes (.inr (.inl g))) (fun g2 => br_split (fun g => yes (.inr (.inr (.inl g)))) (fun g3 => br_split (fun g => yes (.inr (.inr (.inr (.inl g))))) (fun g4 => ?_))))
  have : decide (nm = [103, 97, 112]) = emptyB nm := by
    rw [hm]
    exact decide_eq_decide.2 ⟨fun g => .inr (.inr (.inr (.inr g))), fun g => by
      rcases g with g | g | g | g | g
      · exact absurd g g1
      · exact absurd g g2
      · exact absurd g g3
      · exact absurd g g4
      · exact g⟩
  rw [this]; exact h
theorem num_at {s : List UInt8} {most k : Nat} (hk : k < s.length) (hd : isDig s[k] = false) : refNum most s = false := by
  rw [Bool.eq_false_iff]
  intro hh
  simp only [refNum, Bool.and_eq_true, List.all_eq_true] at hh
  rw [hh.1.1.1.2 _ (List.getElem_mem hk)] at hd
  cases hd
theorem numberR_spec (s : List UInt8) (hs : s.length ≤ 1000000000000) (most : Nat) (h : R (.returned (.bool (refNum most s))) w) : Calls Tryz.prog F_ref09_number ⟨[.string ⟨⟨s⟩⟩, .int .i64 most]⟩ w R := by
  apply c_ref09_number
  refine ⟨fun n t W m => ∃ k : Nat, t = k ∧ k ≤ s.length ∧ m = s.length - k ∧ k ≤ 4 ∧ n = (valD (s.take k) : Int) ∧ (s.take k).all isDig = true ∧ (1 ≤ k → s.head? ≠ some 48) ∧ W = w, ⟨_, 0, rfl, by omega, rfl, by omega, rfl, rfl, fun hh => absurd hh (by omega), rfl⟩, ?_⟩
  rintro _ _ W m ⟨k, rfl, hk, rfl, hk4, rfl, hall, hhd, rfl⟩ _
  have bad : refNum most s = false → R (.returned (.bool false)) W := fun hh => by rw [hh] at h; exact h
  refine br_split (fun hlt => ?_) (fun hge => ?_)
  · have hkL : k < s.length := by omega
    intro K9 hK9
    have hvl := valD_lt (s.take k) (by rw [List.length_take]; omega)
    have hvl' : k ≤ 3 → valD (s.take k) ≤ 100000000 := fun _ => by omega
    have k9 : isDig s[k] = true → k ≤ 3 → s.head? ≠ some 48 → K9 W := by
      intro hd hk3 hh0
      refine hK9 _ fun _ => ?_
      refine sidx_nat hkL ?_
      have hd' := hd
      unfold isDig at hd'
      simp only [Bool.and_eq_true, decide_eq_true_eq] at hd'
      have hv := hvl' hk3
      have hu : IntKind.u8.wrap ((s[k].toNat : Int) - 48) = ((s[k].toNat - 48 : Nat) : Int) := by
        show ((s[k].toNat : Int) - 48) % 256 = _
        omega
      have e : IntKind.i64.wrap (IntKind.i64.wrap (10 * (valD (s.take k) : Int)) + IntKind.i64.wrap (IntKind.u8.wrap ((s[k].toNat : Int) - 48))) = (valD (s.take (k + 1)) : Int) := by
        rw [hu, List.take_succ_eq_append_getElem hkL, valD_snoc]
        rw [wrap_id (n := 10 * (valD (s.take k) : Int)) (by omega), wrap_id (n := ((s[k].toNat - 48 : Nat) : Int)) (by omega), wrap_id (by omega)]
        omega
      rw [e]
      refine ⟨s.length - (k + 1), by omega, k + 1, by rw [wrap_nat (by omega)], by omega, rfl, by omega, rfl, ?_, fun _ => hh0, rfl⟩
      rw [List.take_succ_eq_append_getElem hkL, List.all_append, hall, List.all_cons, List.all_nil, hd]; rfl
    refine sidx_nat hkL (br_split (fun g => ?_) (fun g => sidx_nat hkL (br_split (fun g2 => ?_) (fun g2 => ?_))))
    · exact bad (num_at hkL (by unfold isDig; rw [Bool.and_eq_false_iff]; exact .inl (decide_eq_false (by omega))))
    · exact bad (num_at hkL (by unfold isDig; rw [Bool.and_eq_false_iff]; exact .inr (decide_eq_false (by omega))))
    · have hd : isDig s[k] = true := by unfold isDig; rw [Bool.and_eq_true, decide_eq_true_eq, decide_eq_true_eq]; omega
      have long : (3 : Int) < (k : Int) → R (.returned (.bool false)) W := by
        intro hl
        refine bad ?_
        rw [Bool.eq_false_iff]
        intro hh
        simp only [refNum, Bool.and_eq_true, decide_eq_true_eq] at hh
        have := hh.1.1.1.1
        omega
      have hh0 : s.head? = some (s[0]'(by omega)) := by rw [List.head?_eq_getElem?, List.getElem?_eq_getElem (by omega)]
      refine br_split (fun g0 => ?_) (fun g0 => ?_)
      · obtain rfl : k = 0 := by omega
        refine sidx_nat hkL (br_split (fun g3 => ?_) (fun g3 => br_split long (fun g4 => k9 hd (by omega) ?_)))
        · refine bad ?_
          rw [Bool.eq_false_iff]
          intro hh
          simp only [refNum, Bool.and_eq_true, decide_eq_true_eq] at hh
          refine hh.1.1.2 ?_
          rw [hh0, Option.some.injEq, u8_eq]
          have : (s[0]).toNat = 48 := by omega
          rw [this]; rfl
        · rw [hh0]
          intro e
          rw [Option.some.injEq, u8_eq] at e
          apply g3
          rw [e]; rfl
      · exact br_split long (fun g4 => k9 hd (by omega) (hhd (by omega)))
  · have hkn : k = s.length := by omega
    subst hkn
    rw [List.take_length] at *
    refine br_split (fun g => ?_) (fun g => ?_)
    · have e : decide ((valD s : Int) ≤ (most : Int)) = refNum most s := by
        unfold refNum
        have h0 : s.head? ≠ some 48 := by
          cases hs0 : s with
          | nil => simp
          | cons a r => rw [← hs0]; exact hhd (by rw [hs0]; simp)
        rw [hall, decide_eq_true (by omega : s.length ≤ 4), decide_eq_true h0, decide_eq_true (by omega : 1 ≤ valD s)]
        simp only [Bool.true_and]
        exact decide_eq_decide.2 (by omega)
      rw [e]; exact h
    · refine bad ?_
      rw [Bool.eq_false_iff]
      intro hh
      simp only [refNum, Bool.and_eq_true, decide_eq_true_eq] at hh
      have := hh.1.2
      omega
theorem rightR_spec (nm vl : List UInt8) (hs : vl.length ≤ 1000000000000) (h : ∀ w', Ext w w' → R (.returned (.bool (valB nm vl))) w') : Calls Tryz.prog F_ref09_right ⟨[.string ⟨⟨nm⟩⟩, .string ⟨⟨vl⟩⟩]⟩ w R := by
  apply c_ref09_right
  intro K3 hK3
  have k3 : K3 (decide (nm = [108, 98] ∨ nm = [118] ∨ nm = [117, 110, 99, 108, 101, 97, 114])) w := by
    refine hK3 _ _ fun _ => ?_
    unfold valB at h
    refine br_split (fun g => ?_) (fun g => br_split (fun g2 => ?_) (fun g2 => ?_))
    · have := h w (Below.refl _ _); rwa [if_pos g] at this
    · refine numberR_spec vl hs 64 ⟨_, rfl, ?_⟩
      rw [refNum_eq (by omega)]
      have := h w (Below.refl _ _); rwa [if_neg g, if_pos g2] at this
    · intro K9 hK9
      have k9 : K9 (decide (nm = [97, 100, 100] ∨ nm = [100, 101, 108])) w := by
        refine hK9 _ _ fun _ => ?_
        refine br_split (fun g3 => ?_) (fun g3 => br_split (fun g4 => ?_) (fun g4 => ?_))
        · refine numberR_spec vl hs 8 ⟨_, rfl, ?_⟩
          rw [refNum_eq (by omega)]
          have := h w (Below.refl _ _); rwa [if_neg g, if_neg g2, if_pos g3] at this
        · refine IsWord_spec' vl fun w' he => ⟨_, rfl, ?_⟩
          have := h w' he; rwa [if_neg g, if_neg g2, if_neg g3, if_pos g4] at this
        · refine IsName_spec' vl fun w' he => ⟨_, rfl, ?_⟩
          have := h w' he; rwa [if_neg g, if_neg g2, if_neg g3, if_neg g4] at this
      refine br_split (fun g3 => ?_) (fun g3 => ?_)
      · have e : decide (nm = [97, 100, 100]) = decide (nm = [97, 100, 100] ∨ nm = [100, 101, 108]) := decide_eq_decide.2 ⟨.inl, fun _ => g3⟩
        rw [e]; exact k9
      · have e : decide (nm = [100, 101, 108]) = decide (nm = [97, 100, 100] ∨ nm = [100, 101, 108]) := decide_eq_decide.2 ⟨.inr, fun hh => hh.resolve_left g3⟩
        rw [e]; exact k9
  refine br_split (fun g => ?_) (fun g => br_split (fun g2 => ?_) (fun g2 => ?_))
  · have e : decide (nm = [108, 98]) = decide (nm = [108, 98] ∨ nm = [118] ∨ nm = [117, 110, 99, 108, 101, 97, 114]) := decide_eq_decide.2 ⟨.inl, fun _ => g⟩
    rw [e]; exact k3
  · have e : decide (nm = [118]) = decide (nm = [108, 98] ∨ nm = [118] ∨ nm = [117, 110, 99, 108, 101, 97, 114]) := decide_eq_decide.2 ⟨fun hh => .inr (.inl hh), fun _ => g2⟩
    rw [e]; exact k3
  · have e : decide (nm = [117, 110, 99, 108, 101, 97, 114]) = decide (nm = [108, 98] ∨ nm = [118] ∨ nm = [117, 110, 99, 108, 101, 97, 114]) := decide_eq_decide.2 ⟨fun hh => .inr (.inr hh), fun hh => (hh.resolve_left g).resolve_left g2⟩
    rw [e]; exact k3
/- the form of a lexeme: what closes has no value -/
def formF (x : Lx) : List UInt8 := if x.k = 3 then ([60, 47] ++ x.nm) ++ [62] else textF x
theorem form_text {x : Lx} (h : x.k = 3 → x.vl = []) : formF x = textF x := by
  unfold formF
  split
  · rename_i g
    unfold textF innF
    rw [if_neg (by omega), if_pos g, if_neg (by rw [h g]; simp)]
  · rfl
theorem form_le (x : Lx) : (formF x).length ≤ x.nm.length + x.vl.length + 4 := by
  have := text_le x
  unfold formF
  split
  · simp; omega
  · exact this
set_option maxRecDepth 20000 in
theorem form_spec (x : Lx) (h1 : x.nm.length ≤ 1000000000) (h2 : x.vl.length ≤ 1000000000) (h : ∀ w', Ext w w' → R (.returned (.string ⟨⟨formF x⟩⟩)) w') : Calls Tryz.prog F_ref09_form ⟨[aggX x]⟩ w R := by
  apply c_ref09_form
  refine al_intro fun b5 w6 hb5 B5 e6 s6 => ?_
  obtain ⟨c0, c1, c2, c3⟩ := blk4x B5
  have hr := h w6 e6
  unfold formF textF at hr
  refine ⟨_, c1, ?_⟩
  intro K8 hK8
  have k8 : ∀ inner, inner = innF x.nm x.vl → inner.length ≤ 3000000000 → K8 inner w6 := by
    rintro _ rfl hl
    refine hK8 _ _ fun _ => ⟨_, c0, br_split (fun g => ?_) (fun g2 => br_split (fun g => ⟨_, c1, ?_⟩) (fun g3 => br_split (fun g => ?_) (fun g4 => ⟨_, c2, ?_⟩)))⟩
    · rw [if_neg (by omega), if_pos g] at hr
      exact ⟨by simp; omega, by simp; omega, hr⟩
    · rw [if_pos g] at hr
      exact ⟨by simp; omega, by simp; omega, hr⟩
    · rw [if_neg g3, if_neg g2, if_neg g3, if_pos g] at hr
      exact ⟨by simp; omega, by simp; omega, hr⟩
    · rw [if_neg g3, if_neg g2, if_neg g3, if_neg g4] at hr
      exact hr
  refine ⟨_, c2, br_split (fun g => ⟨by simp; omega, _, c2, by simp; omega, k8 _ ?_ ?_⟩) (fun g => k8 _ ?_ ?_)⟩
  · unfold innF; rw [if_pos g]; simp
  · simp; omega
  · unfold innF; rw [if_neg g]
  · omega
end Go.Proofs
namespace Go.Proofs
open Go Go.Sh Go.RowKit

variable {R : Ending → World → Prop} {w : World}
theorem tw_step {p : UInt8 → Bool} {l : List UInt8} {k : Nat} (hk : k < l.length) (hp : p l[k] = true) (h : l.takeWhile p = l.take k ++ (l.drop k).takeWhile p) : l.takeWhile p = l.take (k + 1) ++ (l.drop (k + 1)).takeWhile p := by
  rw [List.drop_eq_getElem_cons hk, List.takeWhile_cons, if_pos hp] at h
  rw [h, List.take_succ_eq_append_getElem hk, List.append_assoc]; rfl
theorem tw_stop {p : UInt8 → Bool} {l : List UInt8} {k : Nat} (hk : k < l.length) (hp : p l[k] = false) (h : l.takeWhile p = l.take k ++ (l.drop k).takeWhile p) : l.takeWhile p = l.take k := by
  rw [List.drop_eq_getElem_cons hk, List.takeWhile_cons, if_neg (by rw [hp]; simp), List.append_nil] at h
  exact h
theorem tw_end {p : UInt8 → Bool} {l : List UInt8} {k : Nat} (hk : l.length ≤ k) (h : l.takeWhile p = l.take k ++ (l.drop k).takeWhile p) : l.takeWhile p = l.take k := by
  rw [List.drop_eq_nil_of_le hk, List.takeWhile_nil, List.append_nil] at h
  exact h
/- the rest of a tag, its slash taken off -/
def innR (m : List UInt8) : List UInt8 := if m.head? = some 47 then m.drop 1 else m
theorem read_innR (m : List UInt8) : readF (60 :: (m ++ [62])) = if knownB (nameF (innR m)) = false then (zeroX, 12) else if m.head? = some 47 then (if emptyB (nameF (innR m)) = false ∧ [60, 47] ++ nameF (innR m) ++ [62] = 60 :: (m ++ [62]) then (⟨3, nameF (innR m), [], 0⟩, 0) else (zeroX, 3))
    else accX (60 :: (m ++ [62])) (nameF (innR m)) (valueF (innR m) (nameF (innR m))) := by
  unfold readF innR
  rw [inner_two]
  by_cases hc : m.head? = some 47
  · simp only [hc, if_true]
  · simp only [hc, if_false]
theorem close_inn {m : List UInt8} (hc : m.head? = some 47) {nm : List UInt8} (hn : nm = nameF (innR m)) (h : [60, 47] ++ nm ++ [62] = 60 :: (m ++ [62])) : valueF (innR m) nm = [] := by
  cases m with
  | nil => cases hc
  | cons a r =>
    obtain rfl : a = 47 := by simpa using hc
    have hi : innR (47 :: r) = r := by unfold innR; rw [if_pos hc]; rfl
    have : nm = r := by
      have e : (60 : UInt8) :: 47 :: (nm ++ [62]) = 60 :: 47 :: (r ++ [62]) := by simpa using h
      exact List.append_cancel_right (List.cons.inj (List.cons.inj e).2).2
    rw [hi, this]
    unfold valueF
    rw [List.drop_length]; rfl
theorem take_name (l : List UInt8) : (l.take (nameF l).length).drop 0 = nameF l := by
  rw [List.drop_zero]
  exact (List.prefix_iff_eq_take.1 (List.takeWhile_prefix _)).symm
theorem name_iff {c : UInt8} : (!(c == 32 || c == 47)) = true ↔ (c.toNat : Int) ≠ 32 ∧ (c.toNat : Int) ≠ 47 := by
  have e1 : c = 32 ↔ (c.toNat : Int) = 32 := by rw [u8_eq]; show c.toNat = 32 ↔ _; omega
  have e2 : c = 47 ↔ (c.toNat : Int) = 47 := by rw [u8_eq]; show c.toNat = 47 ↔ _; omega
  simp [← e1, ← e2]
theorem slash_iff {c : UInt8} : (!(c == 47)) = true ↔ (c.toNat : Int) ≠ 47 := by
  have e2 : c = 47 ↔ (c.toNat : Int) = 47 := by rw [u8_eq]; show c.toNat = 47 ↔ _; omega
  simp [← e2]
theorem form_tag (nm vl : List UInt8) : formF (tagX nm vl) = textF (tagX nm vl) := form_text (by unfold tagX; simp only; split <;> intro h <;> cases h)
set_option maxRecDepth 20000 in
theorem tagR_spec (m : List UInt8) (hl : m.length ≤ 100000000)
    (h : ∀ w', Ext w w' → R (.returned (.tuple ⟨[aggX (readF (60 :: (m ++ [62]))).1, .int .i64 (readF (60 :: (m ++ [62]))).2]⟩)) w') : Calls Tryz.prog F_ref09_tag ⟨[.string ⟨⟨60 :: (m ++ [62])⟩⟩]⟩ w R := by
  apply c_ref09_tag
  refine al_intro fun b2 w3 hb2 B2 e3 s3 => ?_
  have hlen : (60 :: (m ++ [62]) : List UInt8).length = m.length + 2 := by simp
  rw [hlen, show ((m.length + 2 : Nat) : Int) - 1 = ((m.length + 1 : Nat) : Int) by omega, wrap_id (by omega)]
  refine ssl_nat (i := 1) (by omega) (by rw [hlen]; omega) ?_
  have hin : ((60 :: (m ++ [62]) : List UInt8).take (m.length + 1)).drop 1 = m := by
    have := inner_two m
    unfold innerF at this
    rw [hlen] at this
    exact this
  rw [hin]
  have hrd := read_innR m
  have hil : (innR m).length ≤ m.length := by
    unfold innR; split
    · rw [List.length_drop]; omega
    · exact Nat.le_refl _
  have hnl := name_le (innR m)
  intro K5 hK5
  have k5 : K5 (decide (m.head? = some 47)) w3 := by
    refine hK5 _ _ fun _ => ?_
    intro K8 hK8
    have k8 : K8 (innR m) w3 := by
      refine hK8 _ _ fun _ => ?_
      generalize hinn : innR m = inn at *
      intro K11 hK11
      have k11 : K11 ((nameF inn).length : Int) w3 := by
        refine hK11 _ _ fun _ => ?_
        refine ssl_nat (i := 0) (by omega) (by omega) ?_
        rw [take_name]
        generalize hnm : nameF inn = nm at *
        refine knownR_spec nm fun w16 e16 => ⟨_, rfl, br_cases (fun g => ?_) (fun g => ?_)⟩
        · rw [if_pos (by simpa using g)] at hrd
          refine putX_ok (B2.ext e16) rfl zeroX 12 fun w' hc' => ?_
          have := h w' (ext_two (ext_trans e3 e16) hc' (by omega))
          rwa [hrd] at this
        have hkn : knownB nm = true := by simpa using g
        rw [if_neg (by rw [hkn]; decide)] at hrd
        intro K23 hK23
        have hvlen : (valueF inn nm).length ≤ inn.length := by
          unfold valueF
          have : ∀ l : List UInt8, (tailF l).length ≤ l.length := by
            intro l
            cases l with
            | nil => exact Nat.le_refl _
            | cons c r =>
              rw [tailF]; split
              · have := (List.takeWhile_prefix (l := r) (fun c => !(c == 47))).length_le
                rw [List.length_cons]; omega
              · exact Nat.zero_le _
          have := this (inn.drop nm.length)
          rw [List.length_drop] at this; omega
        have k23 : K23 (valueF inn nm) w16 := by
          refine hK23 _ _ fun _ => ?_
          refine al_stL rfl one4 fun b26 w28 hb26 B26 e28 s28 => ?_
          have z16 := e16.size
          have z28 := e28.size
          generalize hvl : valueF inn nm = vl at *
          intro K29 hK29
          have k29 : ∀ w30 (k : Int), k = (if m.head? = some 47 then 3 else if emptyB nm = true then 4 else 2) → Ext w16 w30 → Blk w30 b26 [.int .i64 k, .string ⟨⟨nm⟩⟩, .string ⟨⟨vl⟩⟩, .int .i64 0] 48 → K29 w30 := by
            intro w30 k hk e30 B30
            refine hK29 _ fun _ => ?_
            have E30 := ext_trans (ext_trans e3 e16) e30
            have B2a := (B2.ext e16).ext e30
            obtain ⟨d0, d1, d2, d3⟩ := blk4x (x := ⟨k, nm, vl, 0⟩) B30
            refine ⟨_, d0, _, d1, _, d2, _, d3, ?_⟩
            refine form_spec ⟨k, nm, vl, 0⟩ (show nm.length ≤ _ by omega) (show vl.length ≤ _ by omega) fun w36 e36 => ⟨_, rfl, ?_⟩
            have B2b := B2a.ext e36
            have E36 := ext_trans E30 e36
            have z30 := e30.size
            have z36 := e36.size
            by_cases hc : m.head? = some 47
            · rw [if_pos hc] at hrd
              rw [if_pos hc] at hk
              subst hk
              have hf : formF ⟨3, nm, vl, 0⟩ = [60, 47] ++ nm ++ [62] := rfl
              rw [decide_eq_true hc, br_t, hf]
              simp only [Bool.not_true, br_f]
              refine br_split (fun g1 => ?_) (fun g1 => ?_)
              · rw [if_neg (fun hh => g1 hh.2)] at hrd
                refine putX_ok B2b rfl zeroX 3 fun w' hc' => ?_
                have := h w' (ext_two E36 hc' (by omega))
                rwa [hrd] at this
              · have g1 := Classical.not_not.1 g1
                have hv0 : vl = [] := by rw [← hvl, ← hinn]; exact close_inn hc (by rw [hinn, hnm]) g1
                refine emptyR_spec nm ⟨_, rfl, br_cases (fun g2 => ?_) (fun g2 => ?_)⟩
                · rw [if_neg (fun hh => by rw [g2] at hh; cases hh.1)] at hrd
                  refine putX_ok B2b rfl zeroX 3 fun w' hc' => ?_
                  have := h w' (ext_two E36 hc' (by omega))
                  rwa [hrd] at this
                · rw [if_pos ⟨g2, g1⟩] at hrd
                  refine br_split (fun g3 => absurd hv0 g3) (fun _ => ?_)
                  refine ⟨_, cell_ext d0 e36, _, cell_ext d1 e36, _, cell_ext d2 e36, _, cell_ext d3 e36, putX_ok B2b rfl ⟨3, nm, vl, 0⟩ 0 fun w' hc' => ?_⟩
                  have := h w' (ext_two E36 hc' (by omega))
                  rw [hrd] at this
                  rw [hv0]; exact this
            · rw [if_neg hc] at hrd
              rw [if_neg hc] at hk
              have hX : (⟨k, nm, vl, 0⟩ : Lx) = tagX nm vl := by rw [hk]; rfl
              rw [decide_eq_false hc, br_f, hX, form_tag]
              simp only [Bool.not_false, br_t]
              unfold accX at hrd
              refine br_split (fun g1 => ?_) (fun g1 => ?_)
              · rw [if_neg (fun hh => g1 hh.2)] at hrd
                refine putX_ok B2b rfl zeroX 3 fun w' hc' => ?_
                have := h w' (ext_two E36 hc' (by omega))
                rwa [hrd] at this
              · refine rightR_spec nm vl (by omega) fun w57 e57 => ⟨_, rfl, br_cases (fun g2 => ?_) (fun g2 => ?_)⟩
                · have g2 : valB nm vl = false := by simpa using g2
                  rw [if_neg (fun hh => by rw [g2] at hh; cases hh.1)] at hrd
                  refine putX_ok (B2b.ext e57) rfl zeroX 3 fun w' hc' => ?_
                  have := h w' (ext_two (ext_trans E36 e57) hc' (by omega))
                  rwa [hrd] at this
                · have g2 : valB nm vl = true := by simpa using g2
                  rw [if_pos ⟨g2, Classical.not_not.1 g1⟩] at hrd
                  refine ⟨_, cell_ext (cell_ext d0 e36) e57, _, cell_ext (cell_ext d1 e36) e57, _, cell_ext (cell_ext d2 e36) e57, _, cell_ext (cell_ext d3 e36) e57, putX_ok (B2b.ext e57) rfl ⟨k, nm, vl, 0⟩ 0 fun w' hc' => ?_⟩
                  have := h w' (ext_two (ext_trans E36 e57) hc' (by omega))
                  rw [hrd] at this
                  rw [hX]; exact this
          refine br_split (fun hc => ?_) (fun hc => ?_)
          · exact setX0 B26 fun w108 B108 c108 s108 => k29 w108 3 (by rw [if_pos hc]) (ext_two e28 c108 (by omega)) B108
          · refine emptyR_spec nm ⟨_, rfl, br_cases (fun g2 => ?_) (fun g2 => ?_)⟩
            · exact setX0 B26 fun w108 B108 c108 s108 => k29 w108 4 (by rw [if_neg hc, if_pos g2]) (ext_two e28 c108 (by omega)) B108
            · exact k29 w28 2 (by rw [if_neg hc, if_neg (by rw [g2]; decide)]) e28 B26
        intro K113 hK113
        by_cases hlt : nm.length < inn.length
        · have hdr : inn.drop nm.length = inn[nm.length] :: inn.drop (nm.length + 1) := List.drop_eq_getElem_cons hlt
          have hc32 : inn[nm.length] = 32 ↔ ((inn[nm.length].toNat : Nat) : Int) = 32 := by rw [u8_eq]; show inn[nm.length].toNat = 32 ↔ _; omega
          have hv : valueF inn nm = if inn[nm.length] = 32 then (inn.drop (nm.length + 1)).takeWhile (fun c => !(c == 47)) else [] := by unfold valueF; rw [hdr, tailF]
          have k113 : K113 (decide (((inn[nm.length].toNat : Nat) : Int) = 32)) w16 := by
            refine hK113 _ _ fun _ => ?_
            refine br_split (fun g1 => ?_) (fun g1 => ?_)
            · rw [if_pos (hc32.2 g1)] at hv
              intro K116 hK116
              have k116 : K116 ((nm.length + 1 + (valueF inn nm).length : Nat) : Int) w16 := by
                refine hK116 _ _ fun _ => ?_
                rw [wrap_nat (by omega)]
                have hp := List.prefix_iff_eq_take.1 (List.takeWhile_prefix (l := inn.drop (nm.length + 1)) (fun c => !(c == 47)))
                have hpl := (List.takeWhile_prefix (l := inn.drop (nm.length + 1)) (fun c => !(c == 47))).length_le
                rw [List.length_drop, ← hv] at hpl
                refine ssl_nat (by omega) (by omega) ?_
                rw [List.drop_take, Nat.add_sub_cancel_left]
                rw [← hv] at hp
                rw [← hp]; exact k23
              rw [wrap_nat (by omega)]
              refine ⟨fun t W mm => ∃ j : Nat, t = ((nm.length + 1 + j : Nat) : Int) ∧ nm.length + 1 + j ≤ inn.length ∧ mm = inn.length - j ∧ W = w16 ∧ (inn.drop (nm.length + 1)).takeWhile (fun c => !(c == 47)) = (inn.drop (nm.length + 1)).take j ++ ((inn.drop (nm.length + 1)).drop j).takeWhile (fun c => !(c == 47)), ⟨_, 0, rfl, by omega, rfl, rfl, by simp⟩, ?_⟩
              rintro _ W mm ⟨j, rfl, hj, rfl, rfl, heq⟩ _
              have hdl : (inn.drop (nm.length + 1)).length = inn.length - (nm.length + 1) := List.length_drop
              have fin : (inn.drop (nm.length + 1)).takeWhile (fun c => !(c == 47)) = (inn.drop (nm.length + 1)).take j → K116 ((nm.length + 1 + j : Nat) : Int) W := by
                intro he
                have : (valueF inn nm).length = j := by rw [hv, he, List.length_take]; omega
                rw [this] at k116; exact k116
              refine br_split (fun g2 => ?_) (fun g2 => fin (tw_end (by omega) heq))
              have hjl : j < (inn.drop (nm.length + 1)).length := by omega
              have hgj : (inn.drop (nm.length + 1))[j] = inn[nm.length + 1 + j]'(by omega) := by rw [List.getElem_drop]
              refine sidx_nat (by omega) (br_split (fun g3 => ?_) (fun g3 => ?_))
              · exact ⟨inn.length - (j + 1), by omega, j + 1, by rw [wrap_nat (by omega)]; rfl, by omega, rfl, rfl, tw_step hjl (by rw [hgj]; exact slash_iff.2 g3) heq⟩
              · refine fin (tw_stop hjl ?_ heq)
                rw [hgj, Bool.eq_false_iff]
                exact fun hh => g3 (slash_iff.1 hh)
            · rw [if_neg (fun hh => g1 (hc32.1 hh))] at hv
              rw [← hv]; exact k23
          rw [decide_eq_true (by omega : (nm.length : Int) < (inn.length : Int)), br_t]
          exact sidx_nat hlt k113
        · have hv : valueF inn nm = [] := by unfold valueF; rw [List.drop_eq_nil_of_le (by omega)]; rfl
          rw [decide_eq_false (by omega : ¬ (nm.length : Int) < (inn.length : Int)), br_f]
          refine hK113 _ _ fun _ => ?_
          rw [br_f, ← hv]; exact k23
      refine ⟨fun t W mm => ∃ k : Nat, t = k ∧ k ≤ inn.length ∧ mm = inn.length - k ∧ W = w3 ∧ nameF inn = inn.take k ++ nameF (inn.drop k), ⟨_, 0, rfl, by omega, rfl, rfl, by simp⟩, ?_⟩
      rintro _ W mm ⟨k, rfl, hk, rfl, rfl, heq⟩ _
      have fin : nameF inn = inn.take k → K11 (k : Int) W := by
        intro he
        have : (nameF inn).length = k := by rw [he, List.length_take]; omega
        rw [this] at k11; exact k11
      refine br_split (fun g => ?_) (fun g => fin (tw_end (by omega) heq))
      have hkl : k < inn.length := by omega
      have stop : ¬ ((inn[k].toNat : Int) ≠ 32 ∧ (inn[k].toNat : Int) ≠ 47) → K11 (k : Int) W := by
        intro hh
        refine fin (tw_stop hkl ?_ heq)
        rw [Bool.eq_false_iff]
        exact fun hx => hh (name_iff.1 hx)
      refine sidx_nat hkl (br_split (fun g1 => sidx_nat hkl (br_split (fun g2 => ?_) (fun g2 => stop (fun hh => g2 hh.2)))) (fun g1 => stop (fun hh => g1 hh.1)))
      exact ⟨inn.length - (k + 1), by omega, k + 1, by rw [wrap_nat (by omega)], by omega, rfl, rfl, tw_step hkl (name_iff.2 ⟨g1, g2⟩) heq⟩
    refine br_split (fun hc => ?_) (fun hc => ?_)
    · refine ssl_nat (i := 1) (j := m.length) ?_ (Nat.le_refl _) ?_
      · cases m with
        | nil => cases hc
        | cons a r => simp
      · rw [List.take_length]
        unfold innR at k8
        rw [if_pos hc] at k8; exact k8
    · unfold innR at k8
      rw [if_neg hc] at k8; exact k8
  cases hm : m with
  | nil => rw [hm] at k5; exact k5
  | cons a r =>
    rw [hm] at k5
    refine br_split (fun _ => ?_) (fun g => absurd (by simp) g)
    refine sidx_nat (k := 0) (by simp) ?_
    have e : decide ((((a :: r : List UInt8)[0]'(by simp)).toNat : Int) = 47) = decide ((a :: r : List UInt8).head? = some 47) := by
      refine decide_eq_decide.2 ?_
      rw [List.head?_cons, Option.some.injEq, u8_eq]
      show ((a.toNat : Nat) : Int) = 47 ↔ a.toNat = 47
      omega
    rw [e]; exact k5
end Go.Proofs
namespace Go.Proofs
open Go Go.Sh Go.RowKit

variable {R : Ending → World → Prop} {w : World}
/- the first of a byte, looked for one by one -/
theorem ix_at {l : List UInt8} {c : UInt8} {k : Nat} (hk : l[k]? = some c) (hb : ∀ j, j < k → l[j]? ≠ some c) : Lib.indexByte l c = (k : Int) := by
  have hg := Lib.indexByte_ge l c
  by_cases hm : Lib.indexByte l c = -1
  · exact absurd hk (Lib.indexByte_none hm k)
  · obtain ⟨h1, h2⟩ := Lib.indexByte_some (l := l) (c := c) (o := (Lib.indexByte l c).toNat) (by omega)
    rcases Nat.lt_trichotomy (Lib.indexByte l c).toNat k with h | h | h
    · exact absurd h1 (hb _ h)
    · omega
    · exact absurd hk (h2 k h)
theorem ix_no {l : List UInt8} {c : UInt8} (h : ∀ j, j < l.length → l[j]? ≠ some c) : Lib.indexByte l c = -1 := by
  have hg := Lib.indexByte_ge l c
  apply Classical.byContradiction
  intro hm
  obtain ⟨h1, _⟩ := Lib.indexByte_some (l := l) (c := c) (o := (Lib.indexByte l c).toNat) (by omega)
  exact h _ (List.getElem?_eq_some_iff.1 h1).1 h1
theorem cut_lt {t : List UInt8} (h : t.head? = some 60) {j : Nat} (hj : t[j]? = some 62) (hb : ∀ i, i < j → t[i]? ≠ some 62) : cutX t = j + 1 := by
  unfold cutX; rw [if_pos h, ix_at hj hb, if_pos (by omega), Int.toNat_natCast]
theorem cut_le {t : List UInt8} (h : t.head? = some 60) (hb : ∀ i, i < t.length → t[i]? ≠ some 62) : cutX t = t.length := by
  unfold cutX; rw [if_pos h, ix_no hb, if_neg (by omega)]
theorem cut_tx {t : List UInt8} (h : ¬ t.head? = some 60) {j : Nat} (hj : t[j]? = some 60) (hb : ∀ i, i < j → t[i]? ≠ some 60) : cutX t = j := by
  unfold cutX; rw [if_neg h, ix_at hj hb, if_pos (by omega), Int.toNat_natCast]
theorem cut_te {t : List UInt8} (h : ¬ t.head? = some 60) (hb : ∀ i, i < t.length → t[i]? ≠ some 60) : cutX t = t.length := by
  unfold cutX; rw [if_neg h, ix_no hb, if_neg (by omega)]
theorem u8_lit {c : UInt8} {n : Nat} (hn : n < 256) : c = UInt8.ofNat n ↔ (c.toNat : Int) = n := by rw [u8_eq, u8_of n hn]; omega
/- no > in it: not a tag -/
theorem lexP_open {at_ : Nat} {part : List UInt8} (h : part.head? = some 60) (hb : ∀ i, i < part.length → part[i]? ≠ some 62) : (lexP at_ part).2 = 3 := by
  unfold lexP
  rw [if_neg (by rw [h]; simp), if_pos]
  intro hl
  rw [List.getLast?_eq_getElem?] at hl
  have := (List.getElem?_eq_some_iff.1 hl).1
  exact hb _ this hl
set_option maxRecDepth 20000 in
theorem ScanR_spec (s : List UInt8)
    (h : ∀ a n c w', n = (scanF s).1.length → RowAt encX (bk a) w' a n (scanF s).1 → Ext w w' → R (.returned (.tuple ⟨[.slice a n c, .int .i64 (scanF s).2]⟩)) w') : Calls Tryz.prog F_ref09_Scan ⟨[.string ⟨⟨s⟩⟩]⟩ w R := by
  apply c_ref09_Scan
  refine br_split (fun g => ?_) (fun g => ?_)
  · have hf : scanF s = ([], 4) := by unfold scanF; rw [if_pos (by omega)]
    rw [hf] at h
    exact al_intro fun b2 w3 hb2 B2 e3 s3 => h _ 0 0 w3 rfl (RowAt.nil _) e3
  have hs : s.length ≤ 65536 := by omega
  have hf : scanF s = scanL (partsM s 0) := by unfold scanF; rw [if_neg (by omega)]
  rw [hf] at h
  have bad : ∀ (e : Int) (W : World), scanL (partsM s 0) = ([], e) → Ext w W → (al W 48 [] fun p45 w46 => R (.returned (.tuple ⟨[.slice (some p45) 0 0, .int .i64 e]⟩)) w46) := by
    intro e W he hW
    rw [he] at h
    exact al_intro fun b2 w3 hb2 B2 e3 s3 => h _ 0 0 w3 rfl (RowAt.nil _) (ext_trans hW e3)
  refine al_intro fun b4 w5 hb4 B4 e5 s5 => ?_
  refine ⟨fun oa on oc t W m => ∃ (k : Nat) (pre : List (Nat × List UInt8)) (out : List Lx), t = k ∧ k ≤ s.length ∧ m = s.length - k ∧ on = out.length ∧ partsM s 0 = pre ++ partsM (s.drop k) k ∧ scanL pre = (out, 0) ∧ out.length ≤ k ∧ OwnL encX W w.heap.size 48 oa on oc out ∧ Ext w W, ⟨_, 0, [], [], rfl, by omega, rfl, rfl, rfl, rfl, Nat.le_refl _, Owns.made B4 (by omega), e5⟩, ?_⟩
  rintro oa _ oc _ W m ⟨k, pre, out, rfl, hk, rfl, rfl, heq, hsc, hol, hO, he⟩ _
  refine br_split (fun hlt => ?_) (fun hge => ?_)
  · have hkl : k < s.length := by omega
    obtain ⟨c, r, hcr⟩ : ∃ c r, s.drop k = c :: r := ⟨s[k], s.drop (k + 1), List.drop_eq_getElem_cons hkl⟩
    have hck : s[k] = c := by have := List.drop_eq_getElem_cons hkl; rw [hcr] at this; exact (List.cons.inj this).1.symm
    obtain ⟨b1, b2⟩ := cutX_bd (c := c) (r := r)
    have hll : (c :: r).length = s.length - k := by rw [← hcr, List.length_drop]
    have hgt : ∀ j, (c :: r)[j]? = s[k + j]? := fun j => by rw [← hcr, List.getElem?_drop]
    have hp : partsM (s.drop k) k = (k, (c :: r).take (cutX (c :: r))) :: partsM (s.drop (k + cutX (c :: r))) (k + cutX (c :: r)) := by
      rw [hcr, partsM, ← hcr, List.drop_drop]
    have hsub : ∀ j, (s.take (k + j)).drop k = (c :: r).take j := fun j => by rw [List.drop_take, hcr, Nat.add_sub_cancel_left]
    rw [hp] at heq
    generalize hpart : (c :: r).take (cutX (c :: r)) = part at heq
    have hsw : (s.take (k + cutX (c :: r))).drop k = part := by rw [hsub, hpart]
    have hlp : part.length = cutX (c :: r) := by rw [← hpart, List.length_take]; omega
    have hhd : part.head? = some c := by rw [← hpart, List.head?_take, if_neg (by omega)]; rfl
    have hbad : ∀ e : Int, e ≠ 0 → (lexP k part).2 = e → scanL (partsM s 0) = ([], e) := fun e he hl => by rw [heq]; exact scanL_bad hsc hl he
    have zW := he.size
    refine al_stL rfl one4 fun b12 w14 hb12 B12 e14 s14 => ?_
    have E14 := ext_trans he e14
    have hO14 := hO.ext e14
    intro K15 hK15
    have k15 : ∀ (x : Lx) (w17 : World), lexP k part = ({ x with pos := (k : Int) }, 0) → Ext w w17 → Ext W w17 → Blk w17 b12 (cellsX x) 48 → K15 ((k + cutX (c :: r) : Nat) : Int) w17 := by
      intro x w17 hx E17 eW B17
      refine hK15 _ _ fun _ => ?_
      have z17 := eW.size
      have hO17 := hO.ext eW
      refine setX3 B17 fun w18 B18 c18 s18 => ?_
      have n12 : ¬ bk oa b12 := fun hh => by have := (hO.bk hh).2; omega
      have hO18 := hO17.chg c18 fun j hj hh => n12 (hh ▸ hj)
      obtain ⟨d0, d1, d2, d3⟩ := blk4x (x := { x with pos := (k : Int) }) B18
      refine ⟨_, d0, _, d1, _, d2, _, d3, ?_⟩
      have eW18 : Ext W w18 := ext_two eW c18 (by omega)
      have z18 := eW18.size
      refine OwnL.push slT_lex hO18 (by omega) { x with pos := (k : Int) } (by omega) (by omega) fun a25 c25 w26 o1 o2 o3 => ?_
      refine ⟨s.length - (k + cutX (c :: r)), by omega, k + cutX (c :: r), pre ++ [(k, part)], out ++ [{ x with pos := (k : Int) }], rfl, by omega, rfl, by simp, by rw [heq]; simp, ?_, by simp; omega, o1, ?_⟩
      · rw [scanL_app hsc, scanL_one hx]; rfl
      · exact ext_chgS (ext_trans he eW18) o2 fun j hj => (hO18.bk hj).1
    have lit : ∀ (b : UInt8), b = 60 ↔ (b.toNat : Int) = 60 := fun b => u8_lit (n := 60) (by omega)
    have lit2 : ∀ (b : UInt8), b = 62 ↔ (b.toNat : Int) = 62 := fun b => u8_lit (n := 62) (by omega)
    refine sidx_nat hkl ?_
    rw [hck]
    refine br_split (fun g60 => ?_) (fun g60 => ?_)
    · obtain rfl : c = 60 := (lit c).2 g60
      have hh0 : (60 :: r : List UInt8).head? = some 60 := rfl
      intro K29 hK29
      have k29e : cutX (60 :: r) = (60 :: r).length → (∀ i, i < (60 :: r : List UInt8).length → (60 :: r : List UInt8)[i]? ≠ some 62) → K29 (s.length : Int) w14 := by
        intro hc hno
        refine hK29 _ _ fun _ => ?_
        rw [decide_eq_true rfl, br_t]
        refine bad 3 w14 (hbad 3 (by decide) (lexP_open hhd fun i hi => ?_)) E14
        rw [← hpart, List.getElem?_take_of_lt (by omega)]
        exact hno i (by omega)
      have k29 : ∀ j, cutX (60 :: r) = j + 1 → (60 :: r : List UInt8)[j]? = some 62 → K29 ((k + j : Nat) : Int) w14 := by
        intro j hj h62
        refine hK29 _ _ fun _ => ?_
        rw [decide_eq_false (by omega), br_f, wrap_nat (by omega)]
        refine ssl_nat (by omega) (by omega) ?_
        rw [show k + j + 1 = k + cutX (60 :: r) by omega, hsw]
        have hlast : part.getLast? = some 62 := by
          rw [List.getLast?_eq_getElem?, hlp, ← hpart, List.getElem?_take_of_lt (by omega), show cutX (60 :: r) - 1 = j by omega]
          exact h62
        have hlx : lexP k part = if (readF part).2 = 0 then ({ (readF part).1 with pos := (k : Int) }, 0) else (zeroX, (readF part).2) := by
          unfold lexP; rw [if_neg (by rw [hhd]; simp), if_neg (by rw [hlast]; simp)]
        obtain ⟨mm, hmm⟩ := part_mid hhd hlast
        have hmml : mm.length ≤ 65536 := by
          have : part.length = mm.length + 2 := by rw [hmm]; simp
          omega
        rw [hmm]
        refine tagR_spec mm (by omega) fun w36 e36 => ⟨_, _, _, _, _, rfl, ?_⟩
        rw [← hmm]
        refine al_stL rfl one4 fun b42 w44 hb42 B42 e44 s44 => ?_
        have E44 := ext_trans (ext_trans E14 e36) e44
        refine br_split (fun ge => ?_) (fun ge => ?_)
        · rw [if_neg ge] at hlx
          exact bad _ w44 (hbad _ ge (by rw [hlx])) E44
        · rw [if_pos (Classical.not_not.1 ge)] at hlx
          obtain ⟨f0, f1, f2, f3⟩ := blk4x B42
          refine ⟨_, f0, _, f1, _, f2, _, f3, ?_⟩
          have z36 := e36.size
          have z44 := e44.size
          refine stX ((B12.ext e36).ext e44) rfl fun w51 B51 c51 s51 => ?_
          exact k15 (readF part).1 w51 hlx (ext_two E44 c51 (by omega)) (ext_two (ext_trans (ext_trans e14 e36) e44) c51 (by omega)) B51
      refine ⟨fun t W' mm => ∃ j : Nat, t = ((k + j : Nat) : Int) ∧ k + j ≤ s.length ∧ mm = s.length - j ∧ W' = w14 ∧ ∀ i, i < j → (60 :: r : List UInt8)[i]? ≠ some 62, ⟨_, 0, rfl, by omega, rfl, rfl, fun i hi => absurd hi (by omega)⟩, ?_⟩
      rintro _ W' mm ⟨j, rfl, hj, rfl, rfl, hno⟩ _
      refine br_split (fun g2 => ?_) (fun g2 => ?_)
      · have hjl : k + j < s.length := by omega
        have hget : (60 :: r : List UInt8)[j]? = some s[k + j] := by rw [hgt, List.getElem?_eq_getElem hjl]
        refine sidx_nat hjl (br_split (fun g3 => ?_) (fun g3 => ?_))
        · refine ⟨s.length - (j + 1), by omega, j + 1, by rw [wrap_nat (by omega)]; rfl, by omega, rfl, rfl, fun i hi => ?_⟩
          by_cases hij : i = j
          · rw [hij, hget]
            intro hh
            exact g3 ((lit2 _).1 (Option.some.inj hh))
          · exact hno i (by omega)
        · have h62 : (60 :: r : List UInt8)[j]? = some 62 := by rw [hget, (lit2 _).2 (Classical.not_not.1 g3)]
          exact k29 j (cut_lt hh0 h62 hno) h62
      · have : k + j = s.length := by omega
        rw [this]
        have hno' : ∀ i, i < (60 :: r : List UInt8).length → (60 :: r : List UInt8)[i]? ≠ some 62 := fun i hi => hno i (by omega)
        exact k29e (cut_le hh0 hno') hno'
    · have hc60 : ¬ c = 60 := fun hh => g60 ((lit c).1 hh)
      have hh0 : ¬ (c :: r : List UInt8).head? = some 60 := by simpa using hc60
      intro K59 hK59
      have k59 : K59 ((k + cutX (c :: r) : Nat) : Int) w14 := by
        refine hK59 _ _ fun _ => ?_
        refine ssl_nat (by omega) (by omega) ?_
        rw [hsw]
        have hlx : lexP k part = if checkC part = 0 then (⟨1, [], part, (k : Int)⟩, 0) else (zeroX, 11) := by
          unfold lexP; rw [if_pos (by rw [hhd]; simpa using hc60)]
        refine Check_spec' part fun w64 e64 => ⟨_, rfl, br_split (fun ge => ?_) (fun ge => ?_)⟩
        · rw [if_neg ge] at hlx
          exact bad 11 w64 (hbad 11 (by decide) (by rw [hlx])) (ext_trans E14 e64)
        · rw [if_pos (Classical.not_not.1 ge)] at hlx
          refine ssl_nat (by omega) (by omega) ?_
          rw [hsw]
          refine stX (B12.ext e64) rfl fun w69 B69 c69 s69 => ?_
          exact k15 ⟨1, [], part, 0⟩ w69 hlx (ext_two (ext_trans E14 e64) c69 (by omega)) (ext_two (ext_trans e14 e64) c69 (by omega)) B69
      refine ⟨fun t W' mm => ∃ j : Nat, t = ((k + j : Nat) : Int) ∧ k + j ≤ s.length ∧ mm = s.length - j ∧ W' = w14 ∧ ∀ i, i < j → (c :: r : List UInt8)[i]? ≠ some 60, ⟨_, 0, rfl, by omega, rfl, rfl, fun i hi => absurd hi (by omega)⟩, ?_⟩
      rintro _ W' mm ⟨j, rfl, hj, rfl, rfl, hno⟩ _
      refine br_split (fun g2 => ?_) (fun g2 => ?_)
      · have hjl : k + j < s.length := by omega
        have hget : (c :: r : List UInt8)[j]? = some s[k + j] := by rw [hgt, List.getElem?_eq_getElem hjl]
        refine sidx_nat hjl (br_split (fun g3 => ?_) (fun g3 => ?_))
        · refine ⟨s.length - (j + 1), by omega, j + 1, by rw [wrap_nat (by omega)]; rfl, by omega, rfl, rfl, fun i hi => ?_⟩
          by_cases hij : i = j
          · rw [hij, hget]
            intro hh
            exact g3 ((lit _).1 (Option.some.inj hh))
          · exact hno i (by omega)
        · have h62 : (c :: r : List UInt8)[j]? = some 60 := by rw [hget, (lit _).2 (Classical.not_not.1 g3)]
          rw [cut_tx hh0 h62 hno] at k59
          exact k59
      · have hno' : ∀ i, i < (c :: r : List UInt8).length → (c :: r : List UInt8)[i]? ≠ some 60 := fun i hi => hno i (by omega)
        rw [cut_te hh0 hno', show k + (c :: r).length = k + j by omega] at k59
        exact k59
  · have hkk : k = s.length := by omega
    subst hkk
    rw [List.drop_length, partsM, List.append_nil] at heq
    rw [heq, hsc] at h
    exact h oa _ oc W rfl (OwnL.out hO) he
/- taking out the tags -/
theorem strip_take {L : List Lx} {k : Nat} (hkL : k < L.length) : stripX (L.take (k + 1)) = stripX (L.take k) ++ (if L[k].k = 1 then L[k].vl else []) := by
  rw [List.take_succ_eq_append_getElem hkL, strip_app]
  unfold stripX
  rw [List.flatMap_cons, List.flatMap_nil, List.append_nil]
end Go.Proofs
namespace Go.Proofs
open Go Go.Sh Go.RowKit

variable {R : Ending → World → Prop} {w : World}
theorem GreatS_spec (s : List UInt8) (h : ∀ b, R (.returned (.bool b)) w) : Calls Tryz.prog F_ref09_Great ⟨[.string ⟨⟨s⟩⟩]⟩ w R := by
  apply c_ref09_Great
  exact br_split (fun _ => br_split (fun _ => h _) (fun _ => h _)) (fun _ => h _)
end Go.Proofs
