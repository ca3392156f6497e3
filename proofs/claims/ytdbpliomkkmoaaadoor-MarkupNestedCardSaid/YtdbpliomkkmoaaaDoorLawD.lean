/- The contracts of the functions that the law reaches, one after the other, and at the end the law's card. -/
import Derived.Test.YtdbpliomkkmoaaaDoorLawC
import Derived.Lib.AppendZerosOnto
namespace Go.Proofs
open Go Go.Sh Go.RowKit

set_option maxRecDepth 20000 in
theorem partsM_iterO (s : List UInt8) (hs : s.length ≤ 4611686018427387904) (b : Nat) (w : World) (hb : Blk w b [.string ⟨⟨s⟩⟩] 9) :
    IterO Tryd.prog F_markup_parts_1 [.pointer (some ⟨b, 0, none⟩)] (partsM s 0) (fun x vs => vs = [.int .i64 (x.1 : Int), .string ⟨⟨x.2⟩⟩]) (fun k => k = b) w := by
  intro yf ya yb S0 J Jx R hS hJ hJx hbody h0 hend hstop
  apply c_markup_parts_1
  have hbl := hb.lt
  refine ⟨fun i W m => ∃ (k : Nat) (pre : List (Nat × List UInt8)) (S : Nat → Prop), i = k ∧ k ≤ s.length ∧ m = s.length - k ∧ partsM s 0 = pre ++ partsM (s.drop k) k ∧ J pre S W ∧ Blk W b [.string ⟨⟨s⟩⟩] 9 ∧ w.heap.size ≤ W.heap.size ∧ (∀ j, S j → j < W.heap.size ∧ ¬ j = b), ⟨_, 0, [], S0, rfl, by omega, rfl, rfl, h0, hb, Nat.le_refl _, hS⟩, ?_⟩
  rintro _ W m ⟨k, pre, S, rfl, hk, rfl, heq, hj, hB, hW, hS⟩ _
  have cB : W.cell? ⟨b, 0, none⟩ = some (.string ⟨⟨s⟩⟩) := by rw [hB.cell]; rfl
  refine dr_ok ⟨_, cB, br_split (fun hlt => ?_) (fun hge => ?_)⟩
  · have hkl : k < s.length := by omega
    obtain ⟨c, r, hcr⟩ : ∃ c r, s.drop k = c :: r := ⟨s[k], s.drop (k + 1), List.drop_eq_getElem_cons hkl⟩
    have hck : s[k] = c := by have := List.drop_eq_getElem_cons hkl; rw [hcr] at this; exact (List.cons.inj this).1.symm
    obtain ⟨b1, b2⟩ := cutX_bd (c := c) (r := r)
    have hll : (c :: r).length = s.length - k := by rw [← hcr, List.length_drop]
    refine dr_ok ⟨_, cB, ?_⟩
    intro K12 hK12
    have k12 : K12 ((k + cutX (c :: r) : Nat) : Int) W := by
      refine hK12 _ _ fun _ => dr_ok ⟨_, cB, ?_⟩
      refine ssl_nat (by omega) (by omega) ?_
      have hsub : (s.take (k + cutX (c :: r))).drop k = (c :: r).take (cutX (c :: r)) := by rw [List.drop_take, hcr, Nat.add_sub_cancel_left]
      rw [hsub]
      have hp : partsM (s.drop k) k = (k, (c :: r).take (cutX (c :: r))) :: partsM (s.drop (k + cutX (c :: r))) (k + cutX (c :: r)) := by
        rw [hcr, partsM, ← hcr, List.drop_drop]
      refine CallV_mono (hbody pre (k, (c :: r).take (cutX (c :: r))) _ S W rfl (by rw [heq, hp]; exact ⟨partsM (s.drop (k + cutX (c :: r))) (k + cutX (c :: r)), by simp⟩) hW hS hj) ?_
      rintro e W3 ⟨hc3, S', hS', hh⟩
      have hS3 : ∀ j, S' j → j < W3.heap.size ∧ ¬ j = b := fun j hj => ⟨(hS' j hj).2, (hS' j hj).1.elim (fun h => (hS j h).2) (fun h => by have := hB.lt; omega)⟩
      have z3 := hc3.size
      have hB3 := hc3.blk hB (fun hh => (hS b hh).2 rfl)
      rcases hh with ⟨rfl, hj3⟩ | ⟨rfl, hj3⟩
      · refine ⟨true, rfl, ?_⟩
        simp only [Bool.not_true, br_f]
        exact ⟨s.length - (k + cutX (c :: r)), by omega, k + cutX (c :: r), pre ++ [(k, (c :: r).take (cutX (c :: r)))], S', rfl, by omega, rfl, by rw [heq, hp]; simp, hj3, hB3, by omega, hS3⟩
      · refine ⟨false, rfl, ?_⟩
        simp only [Bool.not_false, br_t]
        exact hstop S' W3 (by omega) hj3
    have hdd : (s.take s.length).drop k = c :: r := by rw [List.take_length, hcr]
    have lt : ∀ {x : UInt8}, 0 ≤ Lib.indexByte (c :: r) x → (Lib.indexByte (c :: r) x).toNat < (c :: r).length := fun {x} hx => by
      obtain ⟨h1, _⟩ := Lib.indexByte_some (l := c :: r) (c := x) (o := (Lib.indexByte (c :: r) x).toNat) (by omega)
      exact (List.getElem?_eq_some_iff.1 h1).1
    refine dr_ok ⟨_, cB, ?_⟩
    refine sidx_nat hkl ?_
    rw [hck]
    refine br_split (fun g => dr_ok ⟨_, cB, ?_⟩) (fun g => dr_ok ⟨_, cB, ?_⟩)
    · have hc60 : c = 60 := by
        have : c.toNat = 60 := by omega
        exact UInt8.toNat_inj.1 this
      refine ssl_nat (by omega) (Nat.le_refl _) ?_
      rw [hdd]
      refine (Tryd.strings_IndexByte ⟨⟨c :: r⟩⟩ 62 W).mono ?_
      rintro e w29 ⟨rfl, rfl⟩
      refine ⟨_, rfl, ?_⟩
      show br (decide (0 ≤ Lib.indexByte (c :: r) 62)) (K12 (IntKind.i64.wrap (IntKind.i64.wrap ((k : Int) + Lib.indexByte (c :: r) 62) + 1)) w29) (K12 (s.length : Int) w29)
      have hcx : cutX (c :: r) = if 0 ≤ Lib.indexByte (c :: r) 62 then (Lib.indexByte (c :: r) 62).toNat + 1 else (c :: r).length := by unfold cutX; rw [if_pos (by simp [hc60])]
      refine br_split (fun gi => ?_) (fun gi => ?_)
      · have := lt gi
        rw [if_pos gi] at hcx
        have e1 : IntKind.i64.wrap ((k : Int) + Lib.indexByte (c :: r) 62) = (k : Int) + Lib.indexByte (c :: r) 62 := wrap_id (by omega)
        rw [e1, wrap_id (by omega), show (k : Int) + Lib.indexByte (c :: r) 62 + 1 = ((k + cutX (c :: r) : Nat) : Int) by omega]
        exact k12
      · rw [if_neg gi] at hcx
        rw [show (s.length : Int) = ((k + cutX (c :: r) : Nat) : Int) by omega]
        exact k12
    · have hc60 : ¬ c = 60 := fun e => g (by rw [e]; rfl)
      refine ssl_nat (by omega) (Nat.le_refl _) ?_
      rw [hdd]
      refine (Tryd.strings_IndexByte ⟨⟨c :: r⟩⟩ 60 W).mono ?_
      rintro e w29 ⟨rfl, rfl⟩
      refine ⟨_, rfl, ?_⟩
      show br (decide (0 ≤ Lib.indexByte (c :: r) 60)) (K12 (IntKind.i64.wrap ((k : Int) + Lib.indexByte (c :: r) 60)) w29) (K12 (s.length : Int) w29)
      have hcx : cutX (c :: r) = if 0 ≤ Lib.indexByte (c :: r) 60 then (Lib.indexByte (c :: r) 60).toNat else (c :: r).length := by unfold cutX; rw [if_neg (by simp [hc60])]
      refine br_split (fun gi => ?_) (fun gi => ?_)
      · have := lt gi
        rw [if_pos gi] at hcx
        rw [wrap_id (by omega), show (k : Int) + Lib.indexByte (c :: r) 60 = ((k + cutX (c :: r) : Nat) : Int) by omega]
        exact k12
      · rw [if_neg gi] at hcx
        rw [show (s.length : Int) = ((k + cutX (c :: r) : Nat) : Int) by omega]
        exact k12
  · have hkk : k = s.length := by omega
    rw [hkk, List.drop_length, partsM, List.append_nil] at heq
    rw [heq] at hend
    exact hend S W hW hj
theorem parts_spec9 {R : Ending → World → Prop} {w : World} (s : List UInt8) (h : ∀ b w', b = w.heap.size → Blk w' b [.string ⟨⟨s⟩⟩] 9 → Ext w w' → w'.heap.size = b + 1 → R (.returned (.func (.func F_markup_parts_1) ⟨[]⟩ ⟨[.pointer (some ⟨b, 0, none⟩)]⟩)) w') :
    Calls Tryd.prog F_markup_parts ⟨[.string ⟨⟨s⟩⟩]⟩ w R := by
  apply c_markup_parts
  exact al_intro fun b w' hb B e sz => h b w' hb B e sz
theorem slT_lex : SlT Tryd.prog 22 44 4 48 (.agg #[.int .i64 0, .string ⟨#[]⟩, .string ⟨#[]⟩, .int .i64 0]) := ⟨Tryd.underlying22, by kernel_rfl, rfl, by decide⟩
theorem one1 {v : Value} (h : v.oneCell' = true) : ∀ u ∈ [v], u.oneCell' = true := fun u hu => by rw [List.mem_singleton.1 hu]; exact h
theorem partsM_len : ∀ (n : Nat) (t : List UInt8) (at_ : Nat), t.length ≤ n → (partsM t at_).length ≤ t.length
  | n, [], _, _ => by rw [partsM]; exact Nat.le_refl _
  | 0, _ :: _, _, h => absurd h (by simp)
  | n + 1, c :: r, at_, h => by
    obtain ⟨b1, b2⟩ := cutX_bd (c := c) (r := r)
    have hdl : ((c :: r).drop (cutX (c :: r))).length = (c :: r).length - cutX (c :: r) := List.length_drop
    have := partsM_len n ((c :: r).drop (cutX (c :: r))) (at_ + cutX (c :: r)) (by omega)
    rw [partsM, List.length_cons]; omega
theorem scanL_len : ∀ {l : List (Nat × List UInt8)} {out : List Lx}, scanL l = (out, 0) → out.length = l.length
  | [], out, h => by rw [← (Prod.mk.inj h).1]; rfl
  | p :: r, out, h => by
    obtain ⟨x, l', rfl, _, hr⟩ := scanL_cons h
    rw [List.length_cons, scanL_len hr]; rfl
/- a part that begins with < and ends with > has something between -/
theorem part_mid {part : List UInt8} (h1 : part.head? = some 60) (h2 : part.getLast? = some 62) : ∃ m, part = 60 :: (m ++ [62]) := by
  cases part with
  | nil => cases h1
  | cons a r =>
    obtain rfl : a = 60 := by simpa using h1
    cases hr : r with
    | nil => subst hr; simp at h2
    | cons b t =>
      have hne : (60 :: b :: t : List UInt8) ≠ [] := by simp
      have hl : (b :: t : List UInt8).getLast? = some 62 := by rw [← hr]; rw [hr] at h2 ⊢; rwa [List.getLast?_cons_cons] at h2
      obtain ⟨ys, hys⟩ := List.getLast?_eq_some_iff.1 hl
      exact ⟨ys, by rw [hys]⟩
theorem parts_mem : ∀ (n : Nat) (t : List UInt8) (at_ : Nat), t.length ≤ n → ∀ p ∈ partsM t at_, p.2.length ≤ t.length ∧ p.2 ≠ [] ∧ p.1 ≤ at_ + t.length
  | n, [], _, _, p, hp => by rw [partsM] at hp; cases hp
  | 0, _ :: _, _, h, _, _ => absurd h (by simp)
  | n + 1, c :: r, at_, h, p, hp => by
    obtain ⟨b1, b2⟩ := cutX_bd (c := c) (r := r)
    have hdl : ((c :: r).drop (cutX (c :: r))).length = (c :: r).length - cutX (c :: r) := List.length_drop
    rw [partsM] at hp
    rcases List.mem_cons.1 hp with rfl | hp
    · have hl : ((c :: r).take (cutX (c :: r))).length = cutX (c :: r) := by rw [List.length_take]; omega
      refine ⟨by show ((c :: r).take (cutX (c :: r))).length ≤ _; omega, fun e => ?_, by show at_ ≤ _; omega⟩
      rw [show (c :: r).take (cutX (c :: r)) = [] from e] at hl
      simp at hl; omega
    · obtain ⟨q1, q2, q3⟩ := parts_mem n _ _ (by omega) p hp
      exact ⟨by omega, q2, by omega⟩
set_option maxRecDepth 20000 in
theorem Scan_spec {R : Ending → World → Prop} {w : World} (s : List UInt8) (hM : Mk w)
    (h : ∀ a n c w', n = (scanF s).1.length → OwnL encX w' w.heap.size 44 a n c (scanF s).1 → Ext w w' → R (.returned (.tuple ⟨[.slice a n c, .int .i64 (scanF s).2]⟩)) w') : Calls Tryd.prog F_markup_Scan ⟨[.string ⟨⟨s⟩⟩]⟩ w R := by
  apply c_markup_Scan
  refine al_intro fun b2 w3 hb2 B2 e3 s3 => ?_
  refine al_intro fun b4 w5 hb4 B4 e5 s5 => ?_
  have B2a := B2.ext e5
  have E5 := ext_trans e3 e5
  refine br_split (fun g => ?_) (fun g => ?_)
  · have hf : scanF s = ([], 4) := by unfold scanF; rw [if_pos (by omega)]
    rw [hf] at h
    refine stL_one B2a rfl fun w6 B2b c6 s6 => ?_
    refine stL_one (c6.blk B4 (by omega)) rfl fun w7 B4b c7 s7 => ?_
    have B2c := c7.blk B2b (by omega)
    refine ⟨_, _, _, by rw [B2c.cell]; rfl, _, by rw [B4b.cell]; rfl, ?_⟩
    exact h none 0 0 w7 rfl (Owns.nil _ _ _ _) (ext_two (ext_two E5 c6 (by omega)) c7 (by omega))
  have hs : s.length ≤ 65536 := by omega
  have hf : scanF s = scanL (partsM s 0) := by unfold scanF; rw [if_neg (by omega)]
  rw [hf] at h
  refine al_intro fun b10 w11 hb10 B10 e11 s11 => ?_
  refine parts_spec9 s fun bs w13 hbs Bs e13 s13 => ⟨_, _, _, rfl, fun base => ?_⟩
  have E11 := ext_trans E5 e11
  have E13 := ext_trans E11 e13
  have B2b := (B2a.ext e11).ext e13
  have B4b := (B4.ext e11).ext e13
  have B10b := B10.ext e13
  have hpl := partsM_len s.length s 0 (Nat.le_refl _)
  rw [cd_markup_Scan_1]
  refine RFw_lawO anA_markup_Scan_1 anB_markup_Scan_1 (gf := F_markup_parts_1) rfl (by kernel_rfl) (xs := partsM s 0) (E := fun x vs => vs = [.int .i64 (x.1 : Int), .string ⟨⟨x.2⟩⟩]) (Rd := fun k => k = bs)
    (fun v1 he => partsM_iterO s (by omega) bs v1 (Bs.ext he)) (fun y vs hE => by rw [hE]; rfl) (by decide) (fun k hk => by omega) (fun k => k = b2 ∨ k = b4 ∨ k = b10) (fun k hk => by omega)
    (fun pre S1 W => ∃ (oa : Option Addr) (on oc : Nat) (out : List Lx), Blk W b10 [.slice oa on oc] 22 ∧ Blk W b2 [.slice none 0 0] 22 ∧ Blk W b4 [.int .i64 0] 25 ∧ scanL pre = (out, 0) ∧ OwnL encX W w13.heap.size 44 oa on oc out ∧ (∀ k, S1 k ↔ k = b2 ∨ k = b4 ∨ k = b10 ∨ bk oa k) ∧ Ext w W)
    (fun S1 W => ∃ e : Int, scanL (partsM s 0) = ([], e) ∧ Blk W b2 [.slice none 0 0] 22 ∧ Blk W b4 [.int .i64 e] 25 ∧ Ext w W) (fun _ _ => False)
    ?_ ?_ (fun _ _ _ h => h.elim) ⟨none, 0, 0, [], B10b, B2b, B4b, rfl, Owns.nil _ _ _ _, fun k => by simp [bk], E13⟩ ?_ ?_ ?_ (fun _ _ _ _ _ _ _ h => h.elim)
  · rintro pre S1 W W' ⟨oa, on, oc, out, g1, g2, g3, g4, g5, g6, g7⟩ hc
    exact ⟨oa, on, oc, out, hc.blk g1 (fun hh => by omega), hc.blk g2 (fun hh => by omega), hc.blk g3 (fun hh => by omega), g4, g5.chg hc fun k hk hh => hh.2 ((g6 k).2 (.inr (.inr (.inr hk)))), g6, ext_chgS g7 hc fun k hk => by omega⟩
  · rintro S1 W W' ⟨e, g1, g2, g3, g4⟩ hc
    exact ⟨e, g1, hc.blk g2 (fun hh => by omega), hc.blk g3 (fun hh => by omega), ext_chgS g4 hc fun k hk => by omega⟩
  · rintro pre ⟨at_, part⟩ vs S1 W l rfl hpre hl1 hl2 hl3 hS1 ⟨oa, on, oc, out, g1, g2, g3, g4, g5, g6, g7⟩
    refine Eq.mpr (er_markup_Scan_1 base _ _ _ _ _ _ _ _ _ _ _ _ _) ?_
    refine ⟨Below.refl _ _, fun W2 hU => ?_⟩
    have zU := hU.size
    have hUc : Chg (fun k => k = l) W W2 := ⟨hU.os, hU.tape, hU.output, by omega, fun k _ hk => hU.block k hk⟩
    have nl : ¬ bk oa l := fun hh => hl3 ((g6 l).2 (.inr (.inr (.inr hh))))
    have h1 := hUc.blk g1 (by omega)
    have h2 := hUc.blk g2 (by omega)
    have h3 := hUc.blk g3 (by omega)
    have h5 := g5.chg hUc fun k hk hh => nl (hh ▸ hk)
    have E2 : Ext w W2 := ext_chgS g7 hUc fun k hk => by have := E13.size; omega
    obtain ⟨rest, hrest⟩ := hpre
    have hrest : partsM s 0 = pre ++ (at_, part) :: rest := by rw [← hrest]; simp
    have hpt : part.length ≤ 65536 ∧ part ≠ [] ∧ at_ ≤ 65536 := by
      have : part.length ≤ s.length ∧ part ≠ [] ∧ at_ ≤ 0 + s.length := parts_mem s.length s 0 (Nat.le_refl _) (at_, part) (by rw [hrest]; simp)
      exact ⟨by have := this.1; omega, this.2.1, by have := this.2.2; omega⟩
    have hbad : ∀ e : Int, e ≠ 0 → (lexP at_ part).2 = e → scanL (partsM s 0) = ([], e) := fun e he hl => by rw [hrest]; exact scanL_bad g4 hl he
    refine al_stL rfl one4 fun b40 w42 hb40 B40 e42 s42 => ?_
    have z42 := e42.size
    have E42 := ext_trans E2 e42
    have kr : ∀ (e : Int) (v : World), e ≠ 0 → (lexP at_ part).2 = e → Ext w42 v → (stL v ⟨b2, 0, none⟩ 0 [.slice none 0 0] fun w62 => dr (some ⟨b4, 0, none⟩) fun p65 => stL w62 p65 0 [.int .i64 e] fun w64 => Chg (fun k => S1 k ∨ W.heap.size ≤ k) W2 w64 ∧ ∃ S' : Nat → Prop, (∀ k, S' k → (S1 k ∨ W.heap.size ≤ k) ∧ k < w64.heap.size) ∧
        ∃ e : Int, scanL (partsM s 0) = ([], e) ∧ Blk w64 b2 [.slice none 0 0] 22 ∧ Blk w64 b4 [.int .i64 e] 25 ∧ Ext w w64) := by
      intro e v he hl ev
      have ez := ev.size
      refine stL_one ((h2.ext e42).ext ev) rfl fun w62 Ba ca sa => dr_ok ?_
      refine stL_one (ca.blk ((h3.ext e42).ext ev) (by omega)) rfl fun w64 Bb cb sb => ?_
      have E1 : Ext w w64 := ext_two (ext_two (ext_trans E42 ev) ca (by omega)) cb (by omega)
      refine ⟨?_, S1, fun k hk => ⟨.inl hk, by have := (hS1 k hk).1; omega⟩, e, hbad e he hl, cb.blk Ba (by omega), Bb, E1⟩
      refine (Chg.of_ext (ext_trans e42 ev)).trans ((ca.mono fun k _ hk => .inl ((g6 k).2 (.inl hk))).trans (cb.mono fun k _ hk => .inl ((g6 k).2 (.inr (.inl hk)))))
    have kn : ∀ (x : Lx) (v : World), lexP at_ part = ({ x with pos := at_ }, 0) → Ext w42 v ∨ (∃ v', Ext w42 v' ∧ Chg (fun k => k = b40) v' v) → Blk v b40 (cellsX x) 44 → (stL v ((⟨b40, 0, none⟩ : Addr).add 3) 0 [.int .i64 (at_ : Int)] fun w45 =>
        dr (some ⟨b10, 0, none⟩) fun p46 =>
        ∃ (x47 : Option Addr) (x47n : Nat) (x47c : Nat), World.cell? w45 p46 = some (.slice x47 x47n x47c) ∧ (∃ (x48 : Int), World.cell? w45 ((⟨b40, 0, none⟩ : Addr).add 0) = some (.int .i64 x48) ∧ (∃ (x49 : List UInt8), World.cell? w45 ((⟨b40, 0, none⟩ : Addr).add 1) = some (.string ⟨⟨x49⟩⟩) ∧ (∃ (x50 : List UInt8), World.cell? w45 ((⟨b40, 0, none⟩ : Addr).add 2) = some (.string ⟨⟨x50⟩⟩) ∧ (∃ (x51 : Int), World.cell? w45 ((⟨b40, 0, none⟩ : Addr).add 3) = some (.int .i64 x51) ∧ (al w45 44 [.int .i64 x48, .string ⟨⟨x49⟩⟩, .string ⟨⟨x50⟩⟩, .int .i64 x51] fun p52 w53 =>
        app Tryd.prog [22, 22] 22 (.slice x47 x47n x47c) (.slice (some p52) 1 1) w53 fun a54 a54n a54c w55 =>
        dr (some ⟨b10, 0, none⟩) fun p57 =>
        stL w55 p57 0 [.slice a54 a54n a54c] fun w56 =>
        Chg (fun k => S1 k ∨ W.heap.size ≤ k) W2 w56 ∧ ∃ S' : Nat → Prop, (∀ k, S' k → (S1 k ∨ W.heap.size ≤ k) ∧ k < w56.heap.size) ∧
          ∃ (oa : Option Addr) (on oc : Nat) (out : List Lx), Blk w56 b10 [.slice oa on oc] 22 ∧ Blk w56 b2 [.slice none 0 0] 22 ∧ Blk w56 b4 [.int .i64 0] 25 ∧ scanL (pre ++ [(at_, part)]) = (out, 0) ∧ OwnL encX w56 w13.heap.size 44 oa on oc out ∧ (∀ k, S' k ↔ k = b2 ∨ k = b4 ∨ k = b10 ∨ bk oa k) ∧ Ext w w56)))))) := by
      intro x v hx hv Bv
      have cv : Chg (fun k => k = b40) w42 v := by
        rcases hv with hv | ⟨v', hv, hc⟩
        · exact Chg.of_ext hv
        · exact (Chg.of_ext hv).trans hc
      have zv := cv.size
      refine setX3 Bv fun w45 B45 c45 s45 => dr_ok ?_
      have cc : Chg (fun k => k = b40) w42 w45 := cv.trans c45
      obtain ⟨d0, d1, d2, d3⟩ := blk4x (x := { x with pos := at_ }) B45
      have n40 : ¬ bk oa b40 := fun hh => by have := (h5.bk hh).2; omega
      have q10 := cc.blk (h1.ext e42) (by omega)
      have q2 := cc.blk (h2.ext e42) (by omega)
      have q4 := cc.blk (h3.ext e42) (by omega)
      have q5 := (h5.ext e42).chg cc fun k hk hh => n40 (hh ▸ hk)
      refine ⟨oa, on, oc, by rw [q10.cell]; rfl, _, d0, _, d1, _, d2, _, d3, ?_⟩
      have hlen : out.length ≤ 65536 := by
        rw [scanL_len g4]
        have : pre.length ≤ (partsM s 0).length := by rw [hrest]; simp
        omega
      have hon := OwnL.length q5
      refine OwnL.push slT_lex q5 (by omega) { x with pos := at_ } (by omega) (by omega) fun a54 c54 w55 o1 o2 o3 => dr_ok ?_
      have n10 : ∀ k, bk oa k → w13.heap.size ≤ k := fun k hk => (q5.bk hk).1
      refine stL_one (o2.blk q10 (fun hh => by have := n10 _ hh; omega)) rfl fun w56 B56 c56 s56 => ?_
      have n5 : ∀ k, bk a54 k → w13.heap.size ≤ k := fun k hk => (o1.bk hk).1
      have sub4 : ∀ j, bk a54 j → (S1 j ∨ W.heap.size ≤ j) := fun j hj => (o3 j hj).elim (fun h => .inl ((g6 j).2 (.inr (.inr (.inr h))))) (fun h => .inr (by omega))
      have e13s := E13.size
      refine ⟨?_, fun j => j = b2 ∨ j = b4 ∨ j = b10 ∨ bk a54 j, ?_, a54, on + 1, c54, out ++ [{ x with pos := at_ }], B56, ?_, ?_, ?_, ?_, fun k => Iff.rfl, ?_⟩
      · refine (Chg.of_ext e42).trans ((cc.mono fun k _ hk => .inr (by omega)).trans ((o2.mono fun k _ hk => .inl ((g6 k).2 (.inr (.inr (.inr hk))))).trans (c56.mono fun k _ hk => .inl ((g6 k).2 (.inr (.inr (.inl hk)))))))
      · intro k hk
        have zz := o2.size
        rcases hk with rfl | rfl | rfl | hk
        · exact ⟨.inl ((g6 _).2 (.inl rfl)), by omega⟩
        · exact ⟨.inl ((g6 _).2 (.inr (.inl rfl))), by omega⟩
        · exact ⟨.inl ((g6 _).2 (.inr (.inr (.inl rfl)))), by omega⟩
        · exact ⟨sub4 k hk, by have := (o1.bk hk).2; omega⟩
      · exact c56.blk (o2.blk q2 (fun hh => by have := n10 _ hh; omega)) (by omega)
      · exact c56.blk (o2.blk q4 (fun hh => by have := n10 _ hh; omega)) (by omega)
      · rw [scanL_app g4, scanL_one hx]; rfl
      · exact o1.chg c56 fun k hk hh => by have := n5 k hk; omega
      · refine ext_two (ext_chgS (ext_two (ext_trans E2 e42) cc (by omega)) o2 fun k hk => by have := n10 k hk; omega) c56 (by omega)
    intro K43 hK43
    have hpos : part.length ≠ 0 := fun hh => hpt.2.1 (List.length_eq_zero_iff.1 hh)
    obtain ⟨c0, r0, hcr⟩ : ∃ c0 r0, part = c0 :: r0 := by
      cases part with
      | nil => exact absurd rfl hpt.2.1
      | cons c0 r0 => exact ⟨c0, r0, rfl⟩
    refine sidx_int (l := part) 0 rfl (by omega) ?_
    have hp0 : part[0]'(by omega) = c0 := by simp [hcr]
    rw [hp0]
    have hhd : part.head? = some c0 := by rw [hcr]; rfl
    refine br_split (fun g60 => ?_) (fun g60 => ?_)
    · have hne : part.head? ≠ some 60 := by
        rw [hhd]; intro hh
        have : c0 = 60 := Option.some.inj hh
        exact g60 (by rw [this]; rfl)
      refine Check_spec part fun w60 e60 => ⟨_, rfl, br_split (fun gc => dr_ok ?_) (fun gc => ?_)⟩
      · exact kr 11 w60 (by decide) (by unfold lexP; rw [if_pos hne, if_neg gc]) e60
      · refine hK43 _ fun _ => kn ⟨1, [], part, 0⟩ w60 ?_ (.inl e60) (B40.ext e60)
        unfold lexP; rw [if_pos hne, if_pos (by simpa using gc)]
    · have h60 : c0 = 60 := by
        have : c0.toNat = 60 := by omega
        exact UInt8.toNat_inj.1 this
      have hhd' : part.head? = some 60 := by rw [hhd, h60]
      have hlast : part.getLast? = some (part[part.length - 1]'(by omega)) := by rw [List.getLast?_eq_getElem?, List.getElem?_eq_getElem]
      rw [show (((at_, part) : Nat × List UInt8).2.length : Int) - 1 = ((part.length - 1 : Nat) : Int) by show ((part.length : Int) - 1) = _; omega, wrap_id (by omega)]
      refine sidx_nat (l := part) (by omega) ?_
      refine br_split (fun g62 => dr_ok ?_) (fun g62 => ?_)
      · refine kr 3 w42 (by decide) ?_ (Below.refl _ _)
        unfold lexP
        rw [if_neg (by simpa using hhd'), if_pos]
        rw [hlast]; intro hh
        exact g62 (by rw [Option.some.inj hh]; rfl)
      · have hl62 : part.getLast? = some 62 := by
          have : (part[part.length - 1]'(by omega)) = 62 := UInt8.toNat_inj.1 (by show _ = 62; omega)
          rw [hlast, this]
        obtain ⟨m, hm⟩ := part_mid hhd' hl62
        have hlx : lexP at_ part = if (readF part).2 = 0 then ({ (readF part).1 with pos := at_ }, 0) else (zeroX, (readF part).2) := by
          unfold lexP; rw [if_neg (by simpa using hhd'), if_neg (by simpa using hl62)]
        have hml : m.length ≤ 100000000 := by
          have := congrArg List.length hm
          simp at this; omega
        have hrs := fun K hk => read_spec (R := K) m hml (hM.ext E42) hk
        rw [← hm] at hrs
        refine hrs _ fun w72 e72 => ⟨_, _, _, _, _, rfl, ?_⟩
        refine al_stL rfl one4 fun b78 w80 hb78 B78 e80 s80 => ?_
        have e4280 := ext_trans e72 e80
        have z80 := e4280.size
        refine br_split (fun ge => dr_ok ?_) (fun ge => ?_)
        · exact kr (readF part).2 w80 ge (by rw [hlx, if_neg ge]) e4280
        · obtain ⟨y0, y1, y2, y3⟩ := blk4x B78
          refine ⟨_, y0, _, y1, _, y2, _, y3, ?_⟩
          refine stX (B40.ext e4280) rfl fun w89 B89 c89 s89 => hK43 _ fun _ => kn (readF part).1 w89 ?_ (.inr ⟨w80, e4280, c89⟩) B89
          rw [hlx, if_pos (by simpa using ge)]
  · rintro D S1 W hD1 hD2 hD3 hD4 ⟨oa, on, oc, out, g1, g2, g3, g4, g5, g6, g7⟩
    rw [g4] at h
    have hDb : ¬ bk oa D := fun hh => hD3 ((g6 D).2 (.inr (.inr (.inr hh))))
    have e13s := E13.size
    refine ⟨oa, on, oc, by rw [g1.cell]; rfl, ?_⟩
    refine stL_one g2 rfl fun w25 Ba ca sa => ?_
    refine stL_one (ca.blk g3 (by omega)) rfl fun w26 Bb cb sb => ?_
    have hD4' : w26.heap[D]? = some (.deferred (some [])) := by rw [cb.block D (by omega) (by omega), ca.block D (by omega) (by omega)]; exact hD4
    refine retD_one hD4' ?_
    have hcp : Chg (fun k => k = D) w26 (w26.putObj D (.deferred none)) := Chg.put w26 D _ rfl
    have n10 : ∀ k, bk oa k → w13.heap.size ≤ k := fun k hk => (g5.bk hk).1
    have o1 := ((g5.chg ca fun k hk hh => by have := n10 k hk; omega).chg cb fun k hk hh => by have := n10 k hk; omega).chg hcp fun k hk hh => hDb (hh ▸ hk)
    have E26 : Ext w w26 := ext_two (ext_two g7 ca (by omega)) cb (by omega)
    refine ⟨oa, on, oc, by rw [(hcp.blk (cb.blk Ba (by omega)) (by omega)).cell]; rfl, 0, by rw [(hcp.blk Bb (by omega)).cell]; rfl, ?_⟩
    refine h oa on oc _ (OwnL.length g5).symm ⟨o1.1, o1.2.imp id ?_⟩ (ext_put E26 (by omega) _)
    rintro ⟨g, cap, cur, p1, p2, p3⟩
    exact ⟨g, cap, cur, p1, by omega, p3⟩
  · rintro D S1 W hD1 hD2 hD3 hD4 ⟨e, g1, g2, g3, g4⟩
    rw [g1] at h
    have e13s := E13.size
    refine retD_one hD4 ?_
    have hcp : Chg (fun k => k = D) W (W.putObj D (.deferred none)) := Chg.put W D _ rfl
    refine ⟨none, 0, 0, by rw [(hcp.blk g2 (by omega)).cell]; rfl, e, by rw [(hcp.blk g3 (by omega)).cell]; rfl, ?_⟩
    exact h none 0 0 _ rfl (Owns.nil _ _ _ _) (ext_put g4 (by omega) _)
end Go.Proofs
namespace Go.Proofs
open Go Go.Sh Go.RowKit

variable {R : Ending → World → Prop} {w : World}
theorem get_lx {S : Nat → Prop} {a : Option Addr} {n : Nat} {L : List Lx} (h : RowAt encX S w a n L) {k : Nat} (hk : k < L.length) :
    ∃ q : Addr, (∀ K : Addr → Prop, K q → idx a n (k : Int) 4 K) ∧ w.cell? (q.add 0) = some (.int .i64 L[k].k) ∧ w.cell? (q.add 1) = some (.string ⟨⟨L[k].nm⟩⟩) ∧ w.cell? (q.add 2) = some (.string ⟨⟨L[k].vl⟩⟩) ∧ w.cell? (q.add 3) = some (.int .i64 L[k].pos) := by
  obtain ⟨bb, o, hq, _, _, hc⟩ := h.get (i := k) (x := L[k]) (List.getElem?_eq_getElem hk)
  exact ⟨⟨bb, o, none⟩, hq, by rw [add_none]; exact hc 0 _ rfl, by rw [add_none]; exact hc 1 _ rfl, by rw [add_none]; exact hc 2 _ rfl, by rw [add_none]; exact hc 3 _ rfl⟩
/- how much lexemes hold -/
def totX : List Lx → Nat
  | [] => 0
  | x :: r => x.nm.length + x.vl.length + 4 + totX r
theorem text_le (x : Lx) : (textF x).length ≤ x.nm.length + x.vl.length + 4 := by
  have hi : (innF x.nm x.vl).length ≤ x.nm.length + x.vl.length + 1 := by unfold innF; split <;> first | omega | (simp; omega)
  unfold textF
  repeat' split
  all_goals first | omega | (simp; omega)
theorem print_le : ∀ l : List Lx, (printX l).length ≤ totX l
  | [] => Nat.le_refl _
  | x :: r => by
    have := print_le r
    have := text_le x
    rw [print_cons, List.length_append, totX]; omega
theorem totX_get : ∀ {l : List Lx} {k : Nat} (h : k < l.length), l[k].nm.length + l[k].vl.length + 4 ≤ totX l
  | x :: r, 0, _ => by rw [totX]; simp
  | x :: r, k + 1, h => by
    have := totX_get (l := r) (k := k) (by simpa using h)
    rw [totX]
    simp only [List.getElem_cons_succ]; omega
theorem totX_len : ∀ l : List Lx, l.length ≤ totX l
  | [] => Nat.le_refl _
  | x :: r => by have := totX_len r; rw [totX, List.length_cons]; omega
theorem print_take (l : List Lx) (k : Nat) : (printX (l.take k)).length ≤ totX l := by
  have h := print_le l
  have : printX l = printX (l.take k) ++ printX (l.drop k) := by rw [← print_app, List.take_append_drop]
  rw [this, List.length_append] at h; omega
theorem print_succ {l : List Lx} {k : Nat} (h : k < l.length) : printX (l.take (k + 1)) = printX (l.take k) ++ textF l[k] := by
  rw [List.take_succ_eq_append_getElem h, print_app, print_cons]
  show _ ++ (_ ++ []) = _
  rw [List.append_nil]
theorem lastK_succ {l : List Lx} {k : Nat} (h : k < l.length) (pt : Bool) : lastK pt (l.take (k + 1)) = decide (l[k].k = 1) := by
  unfold lastK
  rw [List.take_succ_eq_append_getElem h, List.getLast?_concat]

set_option maxRecDepth 20000 in
theorem Check_spec9 {S : Nat → Prop} {a : Option Addr} {n c : Nat} (L : List Lx) (hL : RowAt encX S w a n L) (hT : totX L ≤ 1000000000) (hM : Mk w) (h : ∀ w', Ext w w' → R (.returned (.int .i64 (chkX L))) w') :
    Calls Tryd.prog F_markup_Check ⟨[.slice a n c]⟩ w R := by
  apply c_markup_Check
  have hn : n = L.length := hL.1
  have hln := totX_len L
  refine ⟨fun at_ t W m => ∃ k : Nat, t = k ∧ k ≤ n ∧ m = n - k ∧ at_ = ((printX (L.take k)).length : Int) ∧ chkX L = chkGo (L.drop k) (lastK false (L.take k)) (printX (L.take k)).length ∧ Ext w W, ⟨_, 0, rfl, by omega, rfl, rfl, rfl, Below.refl _ _⟩, ?_⟩
  rintro _ _ W m ⟨k, rfl, hk, rfl, rfl, heq, he⟩ _
  have hpk := print_take L k
  refine br_split (fun hlt => ?_) (fun hge => ?_)
  · have hkL : k < L.length := by omega
    obtain ⟨q, hq, c0, c1, c2, c3⟩ := get_lx (hL.ext he) hkL
    have hx := totX_get hkL
    refine hq _ ⟨_, c0, _, c1, _, c2, _, c3, ?_⟩
    refine al_stL rfl one4 fun bx w15 hbx Bx e15 s15 => ?_
    obtain ⟨d0, d1, d2, d3⟩ := blk4x (x := L[k]) Bx
    refine ⟨_, d0, _, d1, _, d2, _, d3, ?_⟩
    have E15 := ext_trans he e15
    rw [List.drop_eq_getElem_cons hkL, chkGo] at heq
    generalize hxk : L[k] = x at *
    refine single_spec9 x fun w21 e21 => ⟨_, rfl, br_split (fun g1 => ?_) (fun g1 => ?_)⟩
    · have : chkOne x (lastK false (L.take k)) ((printX (L.take k)).length : Int) = singleX x := by unfold chkOne; rw [if_pos g1]
      rw [this, if_pos g1] at heq
      rw [← heq]; exact h w21 (ext_trans E15 e21)
    intro K23 hK23
    have hsx : singleX x = 0 := Classical.not_not.1 g1
    have k23 : ∀ w24, Ext w15 w24 → ¬ (x.k = 1 ∧ lastK false (L.take k) = true) → K23 w24 := by
      intro w24 e24 g2
      refine hK23 _ fun _ => ?_
      intro K25 hK25
      have k25 : ∀ w26, Ext w15 w26 → (x.k ≠ 1 → rightX x = true) → K25 w26 := by
        intro w26 e26 g3
        refine hK25 _ fun _ => ?_
        refine ⟨_, cell_ext d3 e26, br_split (fun g4 => ?_) (fun g4 => ?_)⟩
        · have : chkOne x (lastK false (L.take k)) ((printX (L.take k)).length : Int) = 9 := by
            unfold chkOne
            rw [if_neg (by simpa using hsx), if_neg g2, if_neg (fun hh => by rw [g3 hh.1] at hh; cases hh.2), if_pos g4]
          rw [this, if_pos (by decide)] at heq
          rw [← heq]; exact h w26 (ext_trans E15 e26)
        · have h0 : chkOne x (lastK false (L.take k)) ((printX (L.take k)).length : Int) = 0 := chk_ok hsx g2 g3 (Classical.not_not.1 g4)
          rw [h0, if_neg (by decide)] at heq
          refine ⟨_, cell_ext d0 e26, _, cell_ext d1 e26, _, cell_ext d2 e26, _, cell_ext d3 e26, ?_⟩
          refine text_spec x (by omega) (by omega) fun w33 e33 => ⟨_, rfl, ?_⟩
          have htl := text_le x
          refine ⟨n - (k + 1), by omega, k + 1, by rw [wrap_nat (by omega)], by omega, rfl, ?_, ?_, ext_trans E15 (ext_trans e26 e33)⟩
          · rw [print_succ hkL, hxk, List.length_append, wrap_id (by omega)]; omega
          · rw [heq, print_succ hkL, lastK_succ hkL, hxk, List.length_append]
      refine ⟨_, cell_ext d0 e24, br_split (fun gk => ?_) (fun gk => k25 w24 e24 (fun hh => absurd hh gk))⟩
      refine ⟨_, cell_ext d0 e24, _, cell_ext d1 e24, _, cell_ext d2 e24, _, cell_ext d3 e24, ?_⟩
      have hkn : x.k = 3 ∨ knownB x.nm = true := by
        right
        unfold singleX at hsx
        rw [if_neg gk] at hsx
        split at hsx
        · split at hsx
          · rename_i hh; exact hh.1
          · cases hsx
        · cases hsx
      refine right_spec9 x hkn (by omega) (hM.ext (ext_trans E15 e24)) fun w42 e42 => ⟨_, rfl, ?_⟩
      refine br_cases (fun g3 => ?_) (fun g3 => k25 w42 (ext_trans e24 e42) fun _ => by simpa using g3)
      have g3 : rightX x = false := by simpa using g3
      have : chkOne x (lastK false (L.take k)) ((printX (L.take k)).length : Int) = 3 := by
        unfold chkOne
        rw [if_neg (by simpa using hsx), if_neg g2, if_pos ⟨gk, g3⟩]
      rw [this, if_pos (by decide)] at heq
      rw [← heq]; exact h w42 (ext_trans E15 (ext_trans e24 e42))
    refine ⟨_, cell_ext d0 e21, br_split (fun gk => ?_) (fun gk => k23 w21 e21 (fun hh => gk hh.1))⟩
    refine br_split (fun gt => ?_) (fun gt => ?_)
    · obtain ⟨j, rfl⟩ : ∃ j, k = j + 1 := ⟨k - 1, by omega⟩
      have hj : j < L.length := by omega
      obtain ⟨q', hq', c0', _⟩ := get_lx (hL.ext (ext_trans E15 e21)) hj
      rw [show ((j + 1 : Nat) : Int) - 1 = (j : Int) by omega, wrap_id (by omega)]
      refine hq' _ ⟨_, c0', br_split (fun gj => ?_) (fun gj => ?_)⟩
      · have : chkOne x (lastK false (L.take (j + 1))) ((printX (L.take (j + 1))).length : Int) = 10 := by
          unfold chkOne
          rw [if_neg (by simpa using hsx), if_pos ⟨gk, by rw [lastK_succ hj]; exact decide_eq_true gj⟩]
        rw [this, if_pos (by decide)] at heq
        rw [← heq]; exact h w21 (ext_trans E15 e21)
      · exact k23 w21 e21 fun hh => by rw [lastK_succ hj] at hh; exact gj (of_decide_eq_true hh.2)
    · refine k23 w21 e21 fun hh => ?_
      have : k = 0 := by omega
      subst this
      rw [List.take_zero] at hh
      cases hh.2
  · have hkn : k = L.length := by omega
    subst hkn
    rw [List.drop_length, List.take_length, chkGo] at heq
    rw [List.take_length]
    refine br_split (fun g => ?_) (fun g => ?_)
    · rw [if_pos (by omega)] at heq; rw [← heq]; exact h W he
    · rw [if_neg (by omega)] at heq; rw [← heq]; exact h W he

theorem bld_new {b : Nat} {T : TypeId} (h : Blk w b [.pointer none, .slice none 0 0] 58) : BldAt w b none [] := ⟨.pointer none, 0, h, .inl rfl, Owns.nil _ _ _ _⟩
set_option maxRecDepth 20000 in
theorem Print_spec {S : Nat → Prop} {a : Option Addr} {n c : Nat} (L : List Lx) (hL : RowAt encX S w a n L) (hT : totX L ≤ 1000000000) (hM : Mk w)
    (h : ∀ w', Ext w w' → R (.returned (.tuple ⟨[.string ⟨⟨if chkX L ≠ 0 then [] else printX L⟩⟩, .int .i64 (if chkX L ≠ 0 then 1 else 0)]⟩)) w') : Calls Tryd.prog F_markup_Print ⟨[.slice a n c]⟩ w R := by
  apply c_markup_Print
  have hn : n = L.length := hL.1
  have hln := totX_len L
  refine Check_spec9 L hL hT hM fun w3 e3 => ⟨_, rfl, br_split (fun g => ?_) (fun g => ?_)⟩
  · have := h w3 e3; rwa [if_pos g, if_pos g] at this
  rw [if_neg g, if_neg g] at h
  refine al_intro fun b5 w6 hb5 B5 e6 s6 => ?_
  have z3 := e3.size
  refine ⟨fun t W m => ∃ (k : Nat) (oa : Option Addr), t = k ∧ k ≤ n ∧ m = n - k ∧ BldAt W b5 oa (printX (L.take k)) ∧ Ext w W, ⟨_, 0, none, rfl, by omega, rfl, bld_new (T := 58) B5, ext_trans e3 e6⟩, ?_⟩
  rintro _ W m ⟨k, oa, rfl, hk, rfl, hB, he⟩ _
  have hpk := print_take L k
  refine br_split (fun hlt => ?_) (fun hge => ?_)
  · have hkL : k < L.length := by omega
    obtain ⟨q, hq, c0, c1, c2, c3⟩ := get_lx (hL.ext he) hkL
    have hx := totX_get hkL
    refine hq _ ⟨_, c0, _, c1, _, c2, _, c3, ?_⟩
    refine al_stL rfl one4 fun bx w19 hbx Bx e19 s19 => ?_
    obtain ⟨d0, d1, d2, d3⟩ := blk4x (x := L[k]) Bx
    refine ⟨_, d0, _, d1, _, d2, _, d3, ?_⟩
    have htl := text_le L[k]
    refine text_spec L[k] (by omega) (by omega) fun w25 e25 => ⟨_, rfl, ?_⟩
    refine WriteString_spec ((hB.ext e19).ext e25) (by omega) fun oa' w28 hB' hb hc => ⟨_, _, rfl, ?_⟩
    refine ⟨n - (k + 1), by omega, k + 1, oa', by rw [wrap_nat (by omega)], by omega, rfl, by rw [print_succ hkL]; exact hB', ?_⟩
    refine ext_chgS (ext_trans he (ext_trans e19 e25)) hc fun j hj => ?_
    rcases hj with rfl | hj
    · omega
    · have := (((hB.ext e19).ext e25).bk hj).1; omega
  · have hkn : k = L.length := by omega
    subst hkn
    rw [List.take_length] at hB
    refine String_spec hB fun w33 hb => ⟨_, rfl, h w33 ?_⟩
    exact he.trans (hb.mono (by omega))
/- what scanning yields holds no more than the string -/
theorem tot_scan : ∀ (l : List Lx) (pt : Bool) (at_ : Nat), chkGo l pt at_ = 0 → totX l ≤ 5 * (printX l).length + 4 * l.length
  | [], _, _, _ => Nat.zero_le _
  | x :: r, pt, at_, h => by
    have ih := tot_scan r _ _ (chkGo_cons.1 h).2
    have hx : x.nm.length + x.vl.length ≤ (textF x).length := by
      have hi : x.nm.length + x.vl.length ≤ (innF x.nm x.vl).length := by
        unfold innF; split
        · simp <;> omega
        · rename_i hv; have : x.vl = [] := by simpa using hv
          rw [this]; simp
      obtain ⟨a, _⟩ := chk_inv (chkGo_cons.1 h).1
      by_cases hk : x.k = 1
      · obtain ⟨e1, _, _, e4⟩ := text_form a hk
        rw [e4, e1]; simp
      · unfold singleX at a
        rw [if_neg hk] at a
        split at a
        · rename_i h3
          unfold textF
          rcases h3 with h3 | h3 | h3 <;> simp [h3] <;> omega
        · cases a
    rw [totX, print_cons, List.length_append, List.length_cons]; omega
theorem scan_small (s : List UInt8) : totX (scanF s).1 ≤ 1000000000 ∧ (scanF s).1.length ≤ 65536 := by
  by_cases h0 : (scanF s).2 = 0
  · have he : scanF s = ((scanF s).1, 0) := by rw [← h0]
    obtain ⟨h1, h2⟩ := scan_print he
    have h3 := tot_scan _ _ _ h1
    have hs : s.length ≤ 65536 := by
      unfold scanF at h0
      split at h0
      · cases h0
      · omega
    have h4 : (scanF s).1.length ≤ 65536 := by
      have e : scanL (partsM s 0) = ((scanF s).1, 0) := by
        have := he
        unfold scanF at this ⊢
        rw [if_neg (by omega)] at this ⊢
        exact this
      have := scanL_len e
      have := partsM_len s.length s 0 (Nat.le_refl _)
      omega
    rw [h2] at h3
    exact ⟨by omega, h4⟩
  · rw [scanF_err h0]; exact ⟨Nat.zero_le _, Nat.zero_le _⟩
set_option maxRecDepth 20000 in
theorem Strip_spec (s : List UInt8) (hM : Mk w) (h : ∀ w', Ext w w' → R (.returned (.tuple ⟨[.string ⟨⟨stripX (scanF s).1⟩⟩, .int .i64 (scanF s).2]⟩)) w') : Calls Tryd.prog F_markup_Strip ⟨[.string ⟨⟨s⟩⟩]⟩ w R := by
  apply c_markup_Strip
  obtain ⟨hT, hll⟩ := scan_small s
  refine Scan_spec s hM fun a n c w3 hn hO e3 => ⟨_, _, _, _, rfl, ?_⟩
  refine br_split (fun g => ?_) (fun g => ?_)
  · have := h w3 e3
    rw [scanF_err g] at this; exact this
  have hL : RowAt encX (bk a) w3 a n (scanF s).1 := OwnL.out hO
  generalize hl : (scanF s).1 = L at *
  have he0 : (scanF s).2 = 0 := Classical.not_not.1 g
  rw [he0] at h
  refine al_intro fun b5 w6 hb5 B5 e6 s6 => ?_
  have z3 := e3.size
  refine ⟨fun t W m => ∃ (k : Nat) (oa : Option Addr), t = k ∧ k ≤ n ∧ m = n - k ∧ BldAt W b5 oa (stripX (L.take k)) ∧ Ext w3 W, ⟨_, 0, none, rfl, by omega, rfl, bld_new (T := 58) B5, e6⟩, ?_⟩
  rintro _ W m ⟨k, oa, rfl, hk, rfl, hB, he⟩ _
  have hpk := print_take L k
  have hsk := strip_len (L.take k)
  refine br_split (fun hlt => ?_) (fun hge => ?_)
  · have hkL : k < L.length := by omega
    have hss : stripX (L.take (k + 1)) = stripX (L.take k) ++ (if L[k].k = 1 then L[k].vl else []) := by
      rw [List.take_succ_eq_append_getElem hkL, strip_app]
      unfold stripX
      rw [List.flatMap_cons, List.flatMap_nil, List.append_nil]
    obtain ⟨q, hq, c0, c1, c2, c3⟩ := get_lx (hL.ext he) hkL
    have hx := totX_get hkL
    refine hq _ ⟨_, c0, _, c1, _, c2, _, c3, ?_⟩
    refine al_stL rfl one4 fun bx w19 hbx Bx e19 s19 => ?_
    obtain ⟨d0, d1, d2, d3⟩ := blk4x (x := L[k]) Bx
    refine ⟨_, d0, br_split (fun g1 => ⟨_, d2, ?_⟩) (fun g1 => ?_)⟩
    · refine WriteString_spec (hB.ext e19) (by omega) fun oa' w28 hB' hb hc => ⟨_, _, rfl, ?_⟩
      rw [if_pos g1] at hss
      refine ⟨n - (k + 1), by omega, k + 1, oa', by rw [wrap_nat (by omega)], by omega, rfl, by rw [hss]; exact hB', ?_⟩
      refine ext_chgS (ext_trans he e19) hc fun j hj => ?_
      rcases hj with rfl | hj
      · omega
      · have := ((hB.ext e19).bk hj).1; omega
    · rw [if_neg g1, List.append_nil] at hss
      exact ⟨n - (k + 1), by omega, k + 1, oa, by rw [wrap_nat (by omega)], by omega, rfl, by rw [hss]; exact hB.ext e19, ext_trans he e19⟩
  · have hkn : k = L.length := by omega
    subst hkn
    rw [List.take_length] at hB
    refine String_spec hB fun w33 hb => ⟨_, rfl, h w33 ?_⟩
    exact (ext_trans e3 he).trans (hb.mono (by omega))
end Go.Proofs
namespace Go.Proofs
open Go Go.Sh Go.RowKit

variable {R : Ending → World → Prop} {w : World}
theorem slT_strM : SlT Tryd.prog 38 9 1 16 (.string ⟨#[]⟩) := ⟨Tryd.underlying38, by kernel_rfl, rfl, by decide⟩
/- cutting the end off -/
theorem owns_cut {B : Nat} {e : TypeId} {size : Nat} {a : Option Addr} {n c : Nat} {xs : List Value} (h : Owns w B e size a n c xs) {m : Nat} (hm : m ≤ n) : Owns w B e size a m c (xs.take (m * size)) := by
  obtain ⟨h1, h2⟩ := h
  have hmn : m * size ≤ n * size := Nat.mul_le_mul_right _ hm
  refine ⟨by rw [List.length_take, h1]; omega, ?_⟩
  rcases h2 with ⟨e1, e2⟩ | ⟨g, cap, cur, e1, e2, e3, e4, e5, e6, e7⟩
  · have hm0 : m = 0 := by omega
    obtain ⟨rfl, _, rfl⟩ : a = none ∧ n = 0 ∧ c = 0 := by simpa using e1
    subst hm0
    exact .inl ⟨rfl, rfl⟩
  · obtain ⟨rfl, rfl⟩ : a = some ⟨g, 0, none⟩ ∧ c = cap := by simpa using e1
    refine .inr ⟨g, c, cur, rfl, e2, e3, by omega, e5, e6, ?_⟩
    rw [← e7, List.take_take, Nat.min_eq_left hmn]
theorem ownL_cut {α : Type} {E : Enc α} {B : Nat} {e : TypeId} {a : Option Addr} {n c : Nat} {l : List α} (h : OwnL E w B e a n c l) {m : Nat} (hm : m ≤ n) : OwnL E w B e a m c (l.take m) := by
  have h2 := owns_cut h hm
  have hl := OwnL.length h
  have : (E.row l).take (m * E.size) = E.row (l.take m) := by
    have hr : E.row l = E.row (l.take m) ++ E.row (l.drop m) := by rw [← row_app, List.take_append_drop]
    have hlen : (E.row (l.take m)).length = m * E.size := by rw [row_len, List.length_take, Nat.min_eq_left (by omega)]
    rw [hr, List.take_left' hlen]
  rwa [this] at h2
theorem owns_le {B : Nat} {e : TypeId} {size : Nat} {a : Option Addr} {n c : Nat} {xs : List Value} (h : Owns w B e size a n c xs) : n ≤ c := by
  rcases h.2 with ⟨e1, e2⟩ | ⟨g, cap, cur, e1, _, _, e4, _⟩
  · obtain ⟨_, h, h'⟩ : a = none ∧ n = 0 ∧ c = 0 := by simpa using e1
    omega
  · obtain ⟨_, h⟩ : a = some ⟨g, 0, none⟩ ∧ c = cap := by simpa using e1
    omega
theorem sls_cut {a : Option Addr} {c sz : Nat} {m : Nat} (hm : m ≤ c) (ha : ∀ p, a = some p → p.add 0 = p) {K : Option Addr → Nat → Nat → Prop} (h : K a m c) : sls a c 0 (m : Int) sz K := by
  refine ⟨by omega, by omega, by omega, ?_⟩
  have e : slA a c (0 : Int).toNat sz = a := by
    unfold slA
    split
    · rfl
    · cases a with
      | none => rfl
      | some p => show some (p.add (0 * sz)) = some p; rw [Nat.zero_mul, ha p rfl]
  rw [e]
  simpa using h
theorem get_str {S : Nat → Prop} {a : Option Addr} {n : Nat} {L : List (List UInt8)} (h : RowAt Sh.encStr S w a n L) {k : Nat} (hk : k < L.length) :
    ∃ q : Addr, (∀ K : Addr → Prop, K q → idx a n (k : Int) 1 K) ∧ w.cell? q = some (.string ⟨⟨L[k]⟩⟩) := by
  obtain ⟨bb, o, hq, _, _, hc⟩ := h.get (i := k) (x := L[k]) (List.getElem?_eq_getElem hk)
  exact ⟨⟨bb, o, none⟩, hq, by have := hc 0 _ rfl; rwa [Nat.add_zero] at this⟩

set_option maxRecDepth 20000 in
theorem Tags_spec (h : ∀ a c w', OwnL Sh.encStr w' w.heap.size 9 a 10 c tagNames → Ext w w' → R (.returned (.slice a 10 c)) w') : Calls Tryd.prog F_markup_Tags ⟨[]⟩ w R := by
  apply c_markup_Tags
  refine tags_spec fun b8 b64 bt w2 hb8 hb64 B8 B64 hT e2 => ⟨_, _, _, rfl, ?_⟩
  have hlen : (tagsV b8 b64).length = 10 := rfl
  have z2 := e2.size
  refine ⟨fun oa on oc t W m => ∃ k : Nat, t = k ∧ k ≤ 10 ∧ m = 10 - k ∧ k = on ∧ OwnL Sh.encStr W w2.heap.size 9 oa on oc (((tagsV b8 b64).take k).map (·.nm)) ∧ Ext w2 W, ⟨_, 0, rfl, by omega, rfl, rfl, Owns.nil _ _ _ _, Below.refl _ _⟩, ?_⟩
  rintro oa on oc _ W m ⟨k, rfl, hk, rfl, rfl, hO, he⟩ _
  refine br_split (fun hlt => ?_) (fun hge => ?_)
  · have hkL : k < (tagsV b8 b64).length := by rw [hlen]; omega
    obtain ⟨q, hq, c0, c1, c2⟩ := get_tag (hT.ext he) hkL
    refine hq _ ⟨_, c0, _, c1, _, c2, ?_⟩
    refine al_stL (by simp) (by intro u hu; simp only [List.mem_cons, List.not_mem_nil, or_false] at hu; rcases hu with rfl | rfl | rfl <;> rfl) fun bx w16 hbx hBx e16 s16 => ?_
    obtain ⟨y0, y1, y2⟩ := blk3 hBx
    have z := he.size
    refine ⟨_, y0, OwnL.push slT_strM (hO.ext e16) (by omega) (tagsV b8 b64)[k].nm (by omega) (by omega) fun a' c' w' o1 o2 o3 => ?_⟩
    refine ⟨10 - (k + 1), by omega, k + 1, by rw [wrap_nat (by omega)], by omega, rfl, rfl, ?_, ?_⟩
    · rw [List.take_succ_eq_append_getElem hkL, List.map_append]; exact o1
    · exact ext_chgS (ext_trans he e16) o2 fun j hj => ((hO.ext e16).bk hj).1
  · have hk10 : k = 10 := by omega
    subst hk10
    refine h oa oc W ?_ (ext_trans e2 he)
    have e : ((tagsV b8 b64).take 10).map (·.nm) = tagNames := rfl
    rw [e] at hO
    refine ⟨hO.1, hO.2.imp id ?_⟩
    rintro ⟨g, cap, cur, p1, p2, p3⟩
    exact ⟨g, cap, cur, p1, by omega, p3⟩

set_option maxRecDepth 20000 in
theorem Nested_spec {S : Nat → Prop} {a : Option Addr} {n c : Nat} (L : List Lx) (hL : RowAt encX S w a n L) (hT : totX L ≤ 1000000000) (hM : Mk w) (h : ∀ w', Ext w w' → R (.returned (.int .i64 (nestX L))) w') :
    Calls Tryd.prog F_markup_Nested ⟨[.slice a n c]⟩ w R := by
  apply c_markup_Nested
  have hn : n = L.length := hL.1
  have hln := totX_len L
  refine Check_spec9 L hL hT hM fun w3 e3 => ⟨_, rfl, br_split (fun g => ?_) (fun g => ?_)⟩
  · have := h w3 e3; unfold nestX at this; rwa [if_pos g] at this
  unfold nestX at h
  rw [if_neg g] at h
  have z3 := e3.size
  refine ⟨fun oa on oc t W m => ∃ (k : Nat) (st : List (List UInt8)), t = k ∧ k ≤ n ∧ m = n - k ∧ st.length ≤ 16 ∧ on = st.length ∧ OwnL Sh.encStr W w3.heap.size 9 oa on oc st.reverse ∧ nestGo L [] = nestGo (L.drop k) st ∧ Ext w3 W, ⟨_, 0, [], rfl, by omega, rfl, by simp, rfl, Owns.nil _ _ _ _, rfl, Below.refl _ _⟩, ?_⟩
  rintro oa on oc _ W m ⟨k, st, rfl, hk, rfl, hst, rfl, hO, heq, he⟩ _
  refine br_split (fun hlt => ?_) (fun hge => ?_)
  · have hkL : k < L.length := by omega
    obtain ⟨q, hq, c0, c1, c2, c3⟩ := get_lx (hL.ext (ext_trans e3 he)) hkL
    refine hq _ ⟨_, c0, _, c1, _, c2, _, c3, ?_⟩
    refine al_stL rfl one4 fun bx w18 hbx Bx e18 s18 => ?_
    obtain ⟨d0, d1, d2, d3⟩ := blk4x (x := L[k]) Bx
    rw [List.drop_eq_getElem_cons hkL, nestGo] at heq
    generalize hxk : L[k] = x at *
    have z := he.size
    have E18 := ext_trans (ext_trans e3 he) e18
    refine ⟨_, d0, br_split (fun g2 => ⟨_, d1, ?_⟩) (fun g2 => br_split (fun g3 => ?_) (fun g3 => ?_))⟩
    · rw [if_pos g2] at heq
      refine OwnL.push slT_strM (hO.ext e18) (by omega) x.nm (by omega) (by omega) fun a' c' w24 o1 o2 o3 => ?_
      have E24 : Ext w3 w24 := ext_chgS (ext_trans he e18) o2 fun j hj => ((hO.ext e18).bk hj).1
      refine br_split (fun g16 => ?_) (fun g16 => ?_)
      · rw [if_pos (by omega)] at heq
        rw [← heq]; exact h w24 (ext_trans e3 E24)
      · rw [if_neg (by omega)] at heq
        refine ⟨n - (k + 1), by omega, k + 1, x.nm :: st, by rw [wrap_nat (by omega)], by omega, rfl, by rw [List.length_cons]; omega, by rw [List.length_cons], ?_, heq, E24⟩
        rw [List.reverse_cons]; exact o1
    · rw [if_neg g2, if_pos g3] at heq
      intro K26 hK26
      have hOd := (hO.ext e18).ext (ext_drew w18)
      have Ed := ext_trans (ext_trans he e18) (ext_drew w18)
      unfold drw
      refine br_split (fun g4 => ?_) (fun g4 => ?_)
      · have hs0 : st = [] := List.length_eq_zero_iff.1 (by omega)
        subst hs0
        have hp : popS x.nm [] = none := rfl
        rw [hp] at heq
        have := h _ (ext_trans e3 Ed)
        rwa [heq] at this
      · obtain ⟨t, st', rfl⟩ : ∃ t st', st = t :: st' := by
          cases st with
          | nil => exact absurd rfl g4
          | cons t st' => exact ⟨t, st', rfl⟩
        have hlr : (t :: st').reverse.length = st'.length + 1 := by simp
        rw [List.length_cons] at *
        rw [show ((st'.length + 1 : Nat) : Int) - 1 = (st'.length : Int) by omega, wrap_id (by omega)]
        obtain ⟨q', hq', cq⟩ := get_str (OwnL.out hOd) (k := st'.length) (by rw [hlr]; omega)
        have hlast : (t :: st').reverse[st'.length]'(by rw [hlr]; omega) = t := by simp
        rw [hlast] at cq
        refine hq' _ ⟨_, cq, _, cell_ext d1 (ext_drew w18), br_split (fun g5 => ?_) (fun g5 => ?_)⟩
        · have hp : popS x.nm (t :: st') = none := if_neg g5
          rw [hp] at heq
          have := h _ (ext_trans e3 Ed)
          rwa [heq] at this
        · have hp : popS x.nm (t :: st') = some st' := if_pos (Classical.not_not.1 g5)
          rw [hp] at heq
          refine hK26 _ fun _ => ?_
          rw [show ((st'.length + 1 : Nat) : Int) - 1 = (st'.length : Int) by omega, wrap_id (by omega)]
          have hcut := ownL_cut hOd (m := st'.length) (by omega)
          rw [List.reverse_cons, List.take_left' (by simp)] at hcut
          have hle := owns_le hOd
          refine sls_cut (by omega) ?_ ?_
          · intro p hp
            rcases hOd.2 with ⟨_, e2⟩ | ⟨gg, cap, cur, e1, _⟩
            · exact absurd e2 (by omega)
            · have e1 := (Value.slice.inj e1).1
              rw [e1] at hp; rw [← Option.some.inj hp]; rfl
          · exact ⟨n - (k + 1), by omega, k + 1, st', by rw [wrap_nat (by omega)], by omega, rfl, by omega, rfl, hcut, heq, Ed⟩
    · rw [if_neg g2, if_neg g3] at heq
      exact ⟨n - (k + 1), by omega, k + 1, st, by rw [wrap_nat (by omega)], by omega, rfl, hst, rfl, hO.ext e18, heq, ext_trans he e18⟩
  · have hkn : k = L.length := by omega
    subst hkn
    rw [List.drop_length, nestGo] at heq
    refine br_split (fun g5 => ?_) (fun g5 => ?_)
    · rw [if_neg (fun hh => by rw [hh] at g5; simp at g5)] at heq
      rw [← heq]; exact h W (ext_trans e3 he)
    · have hs0 : st = [] := List.length_eq_zero_iff.1 (by omega)
      rw [if_pos hs0] at heq
      rw [← heq]; exact h W (ext_trans e3 he)
end Go.Proofs
namespace Go.Proofs
open Go Go.Sh Go.RowKit

theorem desc_range (n : Nat) : ((List.range n).reverse).Pairwise (fun a b => b < a) := List.pairwise_reverse.2 List.pairwise_lt_range
theorem desc_succ (k : Nat) : (List.range (k + 1)).reverse = k :: (List.range k).reverse := by rw [List.range_succ, List.reverse_append]; rfl
theorem desc_pre {n k : Nat} {pre : List Nat} (h : pre ++ [k] <+: (List.range n).reverse) : k < n ∧ ∀ j, k < j → j < n → j ∈ pre := by
  obtain ⟨rest, hr⟩ := h
  have hp := desc_range n
  rw [← hr] at hp
  have h2 := (List.pairwise_append.1 hp).2.2
  refine ⟨?_, fun j hj hn => ?_⟩
  · have : k ∈ (List.range n).reverse := by rw [← hr]; simp
    simpa using this
  · have : j ∈ (List.range n).reverse := by simpa using hn
    rw [← hr] at this
    rcases List.mem_append.1 this with h | h
    · rcases List.mem_append.1 h with h | h
      · exact h
      · have : j = k := by simpa using h
        omega
    · have := h2 k (by simp) j h
      omega
set_option maxRecDepth 20000 in
theorem backward_iter {T : Nat → Prop} (L : List Lx) (hs : L.length ≤ 1000000000) {a : Option Addr} {n c : Nat} (b : Nat) (w : World) (hTl : ∀ k, T k → k < w.heap.size) (hb : Blk w b [.slice a n c] 22) (hL : RowAt encX T w a n L) (hbT : T b) :
    IterR Tryd.prog F_slices_Backward_of_api_Lexeme_api_Lexeme_1 [.pointer (some ⟨b, 0, none⟩)] (List.range n).reverse (fun k vs => ∃ h : k < L.length, vs = [.int .i64 (k : Int), aggX L[k]]) T w := by
  intro yf ya yb S J Jx R hS hJ hJx hbody h0 hend hstop
  apply c_slices_Backward_of_api_Lexeme_api_Lexeme_1
  have hn : n = L.length := hL.1
  have cB : w.cell? ⟨b, 0, none⟩ = some (.slice a n c) := by rw [hb.cell]; rfl
  refine dr_ok ⟨_, _, _, cB, ?_⟩
  refine ⟨fun i W m => ∃ (k : Nat) (pre : List Nat), i = (k : Int) - 1 ∧ k ≤ n ∧ m = k ∧ (List.range n).reverse = pre ++ (List.range k).reverse ∧ J pre W ∧ (∀ j, T j → W.heap[j]? = w.heap[j]?) ∧ w.heap.size ≤ W.heap.size, ⟨_, n, [], by rw [wrap_id (by omega)], Nat.le_refl _, rfl, rfl, h0, fun _ _ => rfl, Nat.le_refl _⟩, ?_⟩
  rintro _ W m ⟨k, pre, rfl, hk, rfl, heq, hj, hT, hW⟩ _
  have hBW : Blk W b [.slice a n c] 22 := hb.keep (hT b hbT)
  have hLW : RowAt encX T W a n L := hL.keep (fun j hj _ => ⟨hj, hT j hj⟩) hW
  refine br_split (fun hlt => dr_ok ⟨_, _, _, by rw [hBW.cell]; rfl, ?_⟩) (fun hge => ?_)
  · obtain ⟨j, rfl⟩ : ∃ j, m = j + 1 := ⟨m - 1, by omega⟩
    have hjL : j < L.length := by omega
    rw [show ((j + 1 : Nat) : Int) - 1 = (j : Int) by omega]
    obtain ⟨q, hq, c0, c1, c2, c3⟩ := get_lx hLW hjL
    refine hq _ ⟨_, c0, _, c1, _, c2, _, c3, ?_⟩
    rw [desc_succ] at heq
    refine CallV_mono (hbody pre j _ W ⟨hjL, rfl⟩ (by rw [heq]; exact ⟨(List.range j).reverse, by simp⟩) hW hj) ?_
    rintro e W3 ⟨hc3, hh⟩
    have z3 := hc3.size
    rcases hh with ⟨rfl, hj3⟩ | ⟨rfl, hj3⟩
    · refine ⟨true, rfl, ?_⟩
      simp only [Bool.not_true, br_f]
      refine ⟨j, by omega, j, pre ++ [j], by rw [wrap_id (by omega)], by omega, rfl, by rw [heq]; simp, hj3, fun i hi => ?_, by omega⟩
      rw [hc3.block i (by have := hTl i hi; omega) (fun hh => (hS i hh).2 hi), hT i hi]
    · refine ⟨false, rfl, ?_⟩
      simp only [Bool.not_false, br_t]
      exact hstop W3 (by omega) hj3
  · have hk0 : m = 0 := by omega
    subst hk0
    have : pre = (List.range n).reverse := by rw [heq]; simp
    subst this
    exact hend W hW hj

set_option maxRecDepth 20000 in
theorem Find_spec {R : Ending → World → Prop} {w : World} {S : Nat → Prop} {a : Option Addr} {n c : Nat} (L : List Lx) (hL : RowAt encX S w a n L) (hT : totX L ≤ 1000000000) (off : Int) (hoff : off ≤ 9223372036854775807) (hM : Mk w)
    (h : ∀ w', Ext w w' → R (.returned (.tuple ⟨[.int .i64 (findX L off).1, .int .i64 (findX L off).2]⟩)) w') : Calls Tryd.prog F_markup_Find ⟨[.slice a n c, .int .i64 off]⟩ w R := by
  apply c_markup_Find
  have hn : n = L.length := hL.1
  have hln := totX_len L
  refine al_intro fun b3 w4 hb3 B3 e4 s4 => ?_
  refine al_intro fun b5 w6 hb5 B5 e6 s6 => ?_
  refine al_intro fun b7 w8 hb7 B7 e8 s8 => ?_
  have E8 := ext_trans (ext_trans e4 e6) e8
  have z4 := e4.size
  refine Check_spec9 L (hL.ext E8) hT (hM.ext E8) fun w10 e10 => ⟨_, rfl, ?_⟩
  have E10 := ext_trans E8 e10
  have z10 := e10.size
  have B3a := ((B3.ext e6).ext e8).ext e10
  have B5a := (B5.ext e8).ext e10
  have B7a := B7.ext e10
  refine br_split (fun g => ?_) (fun g => ?_)
  · refine stL_one B5a rfl fun w12 B5b c12 s12 => ?_
    refine stL_one (c12.blk B7a (by omega)) rfl fun w13 B7b c13 s13 => ?_
    refine ⟨_, by rw [(c13.blk B5b (by omega)).cell]; rfl, _, by rw [B7b.cell]; rfl, ?_⟩
    have := h w13 (ext_two (ext_two E10 c12 (by omega)) c13 (by omega))
    unfold findX at this
    rwa [if_pos g] at this
  have hck : chkX L = 0 := Classical.not_not.1 g
  unfold findX at h
  rw [if_neg g] at h
  apply c_slices_Backward_of_api_Lexeme_api_Lexeme
  refine al_intro fun bs w17 hbs Bs e17 s17 => ⟨_, _, _, rfl, fun base => ?_⟩
  have E17 := ext_trans E10 e17
  have B3b := B3a.ext e17
  have B5b := B5a.ext e17
  have B7b := B7a.ext e17
  have hL0 : RowAt encX (fun k => (S k ∧ k < w.heap.size) ∨ k = bs) w a n L := hL.imp fun k hk hl => .inl ⟨hk, hl⟩
  have z8 := E8.size
  have z17 := e17.size
  have hpos : ∀ (k : Nat) (x : Lx), L[k]? = some x → 0 ≤ x.pos ∧ x.pos ≤ 1000000000 := fun k x hx => by
    have := chk_after L false 0 hck k x hx
    have := print_le L
    omega
  rw [cd_markup_Find_1]
  refine RFw_lawR anA_markup_Find_1 anB_markup_Find_1 (gf := F_slices_Backward_of_api_Lexeme_api_Lexeme_1) rfl (by kernel_rfl) (xs := (List.range n).reverse) (E := fun k vs => ∃ h : k < L.length, vs = [.int .i64 (k : Int), aggX L[k]]) (Rd := fun k => (S k ∧ k < w.heap.size) ∨ k = bs)
    (fun v1 he => backward_iter L (by omega) bs v1 (fun k hk => by have := he.size; omega) (Bs.ext he) (hL0.ext (ext_trans E17 he)) (.inr rfl)) (fun y vs hE => by obtain ⟨_, rfl⟩ := hE; rfl) (by decide) (fun k hk => by omega) (fun k => k = b5 ∨ k = b7) (fun k hk => by omega)
    (fun pre W => Blk W b3 [.int .i64 off] 3 ∧ Blk W b5 [.int .i64 0] 3 ∧ Blk W b7 [.int .i64 0] 25 ∧ (∀ (j : Nat) (x : Lx), j ∈ pre → L[j]? = some x → off < x.pos) ∧ Ext w W)
    (fun W => ∃ k : Nat, L.findIdx? (hitX off) = some k ∧ Blk W b5 [.int .i64 (k : Int)] 3 ∧ Blk W b7 [.int .i64 0] 25 ∧ Ext w W)
    (fun W => L.findIdx? (hitX off) = none ∧ Blk W b5 [.int .i64 0] 3 ∧ Blk W b7 [.int .i64 0] 25 ∧ Ext w W)
    ?_ ?_ ?_ ⟨B3b, B5b, B7b, fun _ _ h => (by cases h), E17⟩ ?_ ?_ ?_ ?_
  · rintro pre W W' ⟨g1, g2, g3, g4, g5⟩ hc
    exact ⟨hc.blk g1 (by omega), hc.blk g2 (by omega), hc.blk g3 (by omega), g4, ext_chgS g5 hc fun k hk => by omega⟩
  · rintro W W' ⟨k, g1, g2, g3, g4⟩ hc
    exact ⟨k, g1, hc.blk g2 (by omega), hc.blk g3 (by omega), ext_chgS g4 hc fun k hk => by omega⟩
  · rintro W W' ⟨g1, g2, g3, g4⟩ hc
    exact ⟨g1, hc.blk g2 (by omega), hc.blk g3 (by omega), ext_chgS g4 hc fun k hk => by omega⟩
  · rintro pre k vs W l ⟨hkL, rfl⟩ hpre hl1 hl2 ⟨g1, g2, g3, g4, g5⟩
    refine Eq.mpr (er_markup_Find_1 base _ _ _ _ _ _ _ _ _ _ _ _ _ _ _ _) ?_
    have hx := totX_get hkL
    have hgk : L[k]? = some L[k] := List.getElem?_eq_getElem hkL
    obtain ⟨hp0, hp1⟩ := hpos k _ hgk
    obtain ⟨hkn, hdp⟩ := desc_pre hpre
    generalize L[k] = x at *
    refine round_in hl2 rfl one4 fun bx W1 W2 hbx e1 Bx hWc sx => ?_
    have zz := hWc.size
    have h1 := hWc.blk g1 (by omega)
    have h2 := hWc.blk g2 (by omega)
    have h3 := hWc.blk g3 (by omega)
    have E2 : Ext w W2 := ext_chgS g5 hWc fun k hk => by omega
    obtain ⟨d0, d1, d2, d3⟩ := blk4x (x := x) Bx
    have c3 : W2.cell? ⟨b3, 0, none⟩ = some (.int .i64 off) := by rw [h1.cell]; rfl
    refine dr_ok ⟨_, c3, _, d3, br_split (fun gle => ?_) (fun gle => ?_)⟩
    · have hdr := ext_drew W2
      have c3d := cell_ext c3 hdr
      have f0 := cell_ext d0 hdr
      have f1 := cell_ext d1 hdr
      have f2 := cell_ext d2 hdr
      have f3 := cell_ext d3 hdr
      have hwr : IntKind.i64.wrap (off - x.pos) = off - x.pos := wrap_id (by omega)
      have fin : ∀ v, Ext W2.drew v → br (decide (((textF x).length : Int) ≤ IntKind.i64.wrap (off - x.pos))) (Chg (fun k => k = b5 ∨ k = b7) W2 v ∧ L.findIdx? (hitX off) = none ∧ Blk v b5 [.int .i64 0] 3 ∧ Blk v b7 [.int .i64 0] 25 ∧ Ext w v)
          (dr (some ⟨b5, 0, none⟩) fun p63 => stL v p63 0 [.int .i64 (k : Int)] fun w62 => dr (some ⟨b7, 0, none⟩) fun p65 => stL w62 p65 0 [.int .i64 0] fun w64 =>
            Chg (fun k => k = b5 ∨ k = b7) W2 w64 ∧ ∃ k : Nat, L.findIdx? (hitX off) = some k ∧ Blk w64 b5 [.int .i64 (k : Int)] 3 ∧ Blk w64 b7 [.int .i64 0] 25 ∧ Ext w w64) := by
        intro v ev
        have ev2 := ext_trans hdr ev
        rw [hwr]
        refine br_split (fun gt => ?_) (fun gt => dr_ok ?_)
        · exact ⟨Chg.of_ext ev2, find_no hck hgk (by omega) (fun j y hj hy => by
            obtain ⟨hjl, _⟩ := List.getElem?_eq_some_iff.1 hy
            exact g4 j y (hdp j hj (by omega)) hy), h2.ext ev2, h3.ext ev2, ext_trans E2 ev2⟩
        · refine stL_one (h2.ext ev2) rfl fun w62 Ba ca sa => dr_ok ?_
          refine stL_one (ca.blk (h3.ext ev2) (by omega)) rfl fun w64 Bb cb sb => ?_
          exact ⟨(Chg.of_ext ev2).trans ((ca.mono fun k _ hk => .inl hk).trans (cb.mono fun k _ hk => .inr hk)), k, find_at hck hgk (by omega) (by omega), cb.blk Ba (by omega), Bb, ext_two (ext_two (ext_trans E2 ev2) ca (by omega)) cb (by omega)⟩
      have ht : ∀ {K : Ending → World → Prop}, (∀ v, Ext W2.drew v → K (.returned (.string ⟨⟨textF x⟩⟩)) v) → Calls Tryd.prog F_markup_text ⟨[aggX x]⟩ W2.drew K := fun hk => text_spec x (by omega) (by omega) hk
      unfold drw
      refine ⟨_, f0, _, f1, _, f2, _, f3, ?_⟩
      refine ⟨dr_ok ⟨_, c3d, ⟨_, f3, ht fun v ev => ⟨_, rfl, fin v ev⟩, trivial⟩, ht fun v ev => ⟨_, rfl, _, cell_ext f3 ev, fin v ev⟩, trivial⟩, ⟨_, f3, ht fun v ev => ⟨_, rfl, dr_ok ⟨_, cell_ext c3d ev, fin v ev⟩⟩, trivial⟩, ht fun v ev => ⟨_, rfl, dr_ok ⟨_, cell_ext c3d ev, _, cell_ext f3 ev, fin v ev⟩⟩, trivial⟩
    · refine ⟨Chg.refl _ _, h1, h2, h3, fun j y hj hy => ?_, E2⟩
      rcases List.mem_append.1 hj with hj | hj
      · exact g4 j y hj hy
      · obtain rfl : j = k := by simpa using hj
        rw [hgk] at hy
        obtain rfl := Option.some.inj hy
        omega
  · rintro D W hD1 hD2 hD4 ⟨g1, g2, g3, g4, g5⟩
    have hno : L.findIdx? (hitX off) = none := by
      rw [List.findIdx?_eq_none_iff]
      intro y hy
      obtain ⟨j, hj, rfl⟩ := List.mem_iff_getElem.1 hy
      have := g4 j _ (by simpa using (by omega : j < n)) (List.getElem?_eq_getElem hj)
      rw [Bool.eq_false_iff]
      intro hh
      have := (hit_iff.1 hh).1
      omega
    rw [hno] at h
    refine stL_one g2 rfl fun w27 Ba ca sa => ?_
    refine stL_one (ca.blk g3 (by omega)) rfl fun w28 Bb cb sb => ?_
    have hD4' : w28.heap[D]? = some (.deferred (some [])) := by rw [cb.block D (by omega) (by omega), ca.block D (by omega) (by omega)]; exact hD4
    refine retD_one hD4' ?_
    have hcp : Chg (fun k => k = D) w28 (w28.putObj D (.deferred none)) := Chg.put w28 D _ rfl
    refine ⟨_, by rw [(hcp.blk (cb.blk Ba (by omega)) (by omega)).cell]; rfl, _, by rw [(hcp.blk Bb (by omega)).cell]; rfl, ?_⟩
    exact h _ (ext_put (ext_two (ext_two g5 ca (by omega)) cb (by omega)) (by omega) _)
  · rintro D W hD1 hD2 hD4 ⟨k, g1, g2, g3, g4⟩
    rw [g1] at h
    refine retD_one hD4 ?_
    have hcp : Chg (fun k => k = D) W (W.putObj D (.deferred none)) := Chg.put W D _ rfl
    refine ⟨_, by rw [(hcp.blk g2 (by omega)).cell]; rfl, _, by rw [(hcp.blk g3 (by omega)).cell]; rfl, ?_⟩
    exact h _ (ext_put g4 (by omega) _)
  · rintro D W hD1 hD2 hD4 ⟨g1, g2, g3, g4⟩
    rw [g1] at h
    refine stL_one g2 rfl fun w27 Ba ca sa => ?_
    refine stL_one (ca.blk g3 (by omega)) rfl fun w28 Bb cb sb => ?_
    have hD4' : w28.heap[D]? = some (.deferred (some [])) := by rw [cb.block D (by omega) (by omega), ca.block D (by omega) (by omega)]; exact hD4
    refine retD_one hD4' ?_
    have hcp : Chg (fun k => k = D) w28 (w28.putObj D (.deferred none)) := Chg.put w28 D _ rfl
    refine ⟨_, by rw [(hcp.blk (cb.blk Ba (by omega)) (by omega)).cell]; rfl, _, by rw [(hcp.blk Bb (by omega)).cell]; rfl, ?_⟩
    exact h _ (ext_put (ext_two (ext_two g4 ca (by omega)) cb (by omega)) (by omega) _)
end Go.Proofs
namespace Go.Proofs
open Go Go.Sh Go.RowKit

instance : DecidableEq Lx := fun a b => decidable_of_iff (a.k = b.k ∧ a.nm = b.nm ∧ a.vl = b.vl ∧ a.pos = b.pos) (by
  cases a; cases b; simp)
variable {R : Ending → World → Prop} {w : World}
/- lexemes that are more, or longer, than the statements examine -/
def lenX (x : Lx) : Nat := x.nm.length + x.vl.length
def gOne (n i : Nat) (x : Lx) : Bool := decide (80 < lenX x) && (decide (i + 1 < n) || (decide (lenX x < 65456) || decide (65536 < lenX x)))
def greatGo (n : Nat) : Nat → List Lx → Bool
  | _, [] => decide (24 < n)
  | i, x :: r => gOne n i x || greatGo n (i + 1) r
def greatX (L : List Lx) : Bool := greatGo L.length 0 L
theorem great_tot {n : Nat} : ∀ {l : List Lx} {i : Nat}, greatGo n i l = false → n ≤ 24 ∧ totX l ≤ l.length * 65540
  | [], i, h => by
    rw [greatGo, decide_eq_false_iff_not] at h
    exact ⟨by omega, Nat.zero_le _⟩
  | x :: r, i, h => by
    rw [greatGo, Bool.or_eq_false_iff] at h
    obtain ⟨h1, h2⟩ := great_tot h.2
    refine ⟨h1, ?_⟩
    have h3 := h.1
    have : lenX x ≤ 65536 := by
      apply Classical.byContradiction
      intro hh
      have : gOne n i x = true := by
        unfold gOne
        simp only [Bool.and_eq_true, Bool.or_eq_true, decide_eq_true_eq]
        exact ⟨by omega, .inr (.inr (by omega))⟩
      rw [this] at h3; cases h3
    unfold lenX at this
    rw [totX, List.length_cons, Nat.add_mul]; omega
theorem greatX_small {L : List Lx} (h : greatX L = false) : L.length ≤ 24 ∧ totX L ≤ 2000000 := by
  obtain ⟨h1, h2⟩ := great_tot h
  have : L.length * 65540 ≤ 24 * 65540 := Nat.mul_le_mul_right _ h1
  exact ⟨h1, by omega⟩
theorem gOne_iff (n i : Nat) (x : Lx) : gOne n i x = true ↔ (80 < lenX x ∧ (i + 1 < n ∨ lenX x < 65456 ∨ 65536 < lenX x)) := by
  unfold gOne
  simp only [Bool.and_eq_true, Bool.or_eq_true, decide_eq_true_eq]
theorem gOne_br {A B : Prop} (n i m : Nat) (a : (80 < m ∧ (i + 1 < n ∨ m < 65456 ∨ 65536 < m)) → A) (b : ¬ (80 < m ∧ (i + 1 < n ∨ m < 65456 ∨ 65536 < m)) → B) :
    br (decide (80 < (m : Int))) (br (decide (((i + 1 : Nat) : Int) < (n : Int))) A (br (decide ((m : Int) < 65456)) A (br (decide (65536 < (m : Int))) A B))) B := by
  rw [br_iff, br_iff, br_iff, br_iff]
  refine ⟨fun h1 => ⟨fun h2 => a ⟨by omega, by omega⟩, fun h2 => ⟨fun h3 => a ⟨by omega, by omega⟩, fun h3 => ⟨fun h4 => a ⟨by omega, by omega⟩, fun h4 => b (by omega)⟩⟩⟩, fun h1 => b (by omega)⟩
/- what lies in memory is not longer than memory -/
structure BigX (L : List Lx) : Prop where
  len : L.length ≤ 140737488355328
  str : ∀ x ∈ L, x.nm.length ≤ 140737488355328 ∧ x.vl.length ≤ 140737488355328
set_option maxRecDepth 20000 in
theorem GreatList_spec {S : Nat → Prop} {a : Option Addr} {n c : Nat} (L : List Lx) (hL : RowAt encX S w a n L) (hb : BigX L) (h : ∀ w', Ext w w' → R (.returned (.bool (greatX L))) w') :
    Calls Tryd.prog F_ref09_GreatList ⟨[.slice a n c]⟩ w R := by
  apply c_ref09_GreatList
  have hn : n = L.length := hL.1
  have hlen := hb.len
  refine ⟨fun t W m => ∃ k : Nat, t = k ∧ k ≤ n ∧ m = n - k ∧ greatX L = greatGo L.length k (L.drop k) ∧ Ext w W, ⟨_, 0, rfl, by omega, rfl, rfl, Below.refl _ _⟩, ?_⟩
  rintro _ W m ⟨k, rfl, hk, rfl, heq, he⟩ _
  refine br_split (fun hlt => ?_) (fun hge => ?_)
  · have hkL : k < L.length := by omega
    obtain ⟨b1, b2⟩ := hb.str L[k] (List.getElem_mem hkL)
    rw [List.drop_eq_getElem_cons hkL, greatGo] at heq
    unfold drw
    have Ed := ext_trans he (ext_drew W)
    obtain ⟨q, hq, c0, c1, c2, c3⟩ := get_lx (hL.ext Ed) hkL
    refine hq _ ⟨_, c1, hq _ ⟨_, c2, ?_⟩⟩
    generalize L[k] = x at *
    have hw1 : IntKind.i64.wrap ((x.nm.length : Int) + (x.vl.length : Int)) = (lenX x : Int) := by rw [wrap_id (by omega)]; unfold lenX; omega
    rw [hw1, wrap_nat (n := k) (by omega)]
    have bad : gOne L.length k x = true → R (.returned (.bool true)) W.drew := by
      intro hg
      rw [hg, Bool.true_or] at heq
      rw [← heq]; exact h _ Ed
    have good : gOne L.length k x = false → ∃ m19 : Nat, m19 < n - k ∧ ∃ k' : Nat, ((k + 1 : Nat) : Int) = k' ∧ k' ≤ n ∧ m19 = n - k' ∧ greatX L = greatGo L.length k' (L.drop k') ∧ Ext w W.drew := by
      intro hg
      rw [hg, Bool.false_or] at heq
      exact ⟨n - (k + 1), by omega, k + 1, rfl, by omega, rfl, heq, Ed⟩
    exact gOne_br n k (lenX x) (fun hg => bad ((gOne_iff _ _ _).2 (hn ▸ hg))) (fun hg => good (by rw [Bool.eq_false_iff]; intro hh; exact hg (by have := (gOne_iff _ _ _).1 hh; rwa [← hn] at this)))
  · have hkn : k = L.length := by omega
    subst hkn
    rw [List.drop_length, greatGo] at heq
    have e : decide ((24 : Int) < (n : Int)) = decide (24 < L.length) := decide_eq_decide.2 (by omega)
    rw [e, ← heq]; exact h W he
set_option maxRecDepth 20000 in
theorem SameX_spec {S S' : Nat → Prop} {a a' : Option Addr} {n n' c c' : Nat} (L M : List Lx) (hL : RowAt encX S w a n L) (hM : RowAt encX S' w a' n' M) (hb : L.length ≤ 1000000000) (h : ∀ w', Ext w w' → R (.returned (.bool (decide (L = M)))) w') :
    Calls Tryd.prog F_ref09_Same ⟨[.slice a n c, .slice a' n' c']⟩ w R := by
  apply c_ref09_Same
  have hn : n = L.length := hL.1
  have hn' : n' = M.length := hM.1
  refine br_split (fun g => ?_) (fun g => ?_)
  · have : decide (L = M) = false := decide_eq_false (fun e => g (by rw [hn, hn', e]))
    rw [← this]; exact h w (Below.refl _ _)
  refine ⟨fun t W m => ∃ k : Nat, t = k ∧ k ≤ n ∧ m = n - k ∧ L.take k = M.take k ∧ Ext w W, ⟨_, 0, rfl, by omega, rfl, rfl, Below.refl _ _⟩, ?_⟩
  rintro _ W m ⟨k, rfl, hk, rfl, heq, he⟩ _
  have hnn : L.length = M.length := by omega
  refine br_split (fun hlt => ?_) (fun hge => ?_)
  · have hkL : k < L.length := by omega
    have hkM : k < M.length := by omega
    unfold drw
    have Ed := ext_trans he (ext_drew W)
    obtain ⟨q, hq, c0, c1, c2, c3⟩ := get_lx (hL.ext Ed) hkL
    obtain ⟨q', hq', d0, d1, d2, d3⟩ := get_lx (hM.ext Ed) hkM
    refine hq _ ⟨_, c0, _, c1, _, c2, _, c3, hq' _ ⟨_, d0, _, d1, _, d2, _, d3, ?_⟩⟩
    have hxy : (decide (L[k].k = M[k].k) && (decide (L[k].nm = M[k].nm) && (decide (L[k].vl = M[k].vl) && (decide (L[k].pos = M[k].pos) && true)))) = decide (L[k] = M[k]) := by
      rw [Bool.eq_iff_iff]
      simp only [Bool.and_eq_true, decide_eq_true_eq, Bool.and_true]
      generalize L[k] = x
      generalize M[k] = y
      cases x; cases y; simp
    rw [hxy]
    refine br_cases (fun g2 => ?_) (fun g2 => ?_)
    · have hne : L[k] ≠ M[k] := by simpa using g2
      have : decide (L = M) = false := decide_eq_false (fun e => hne (by subst e; rfl))
      rw [← this]; exact h _ Ed
    · have he2 : L[k] = M[k] := by simpa using g2
      refine ⟨n - (k + 1), by omega, k + 1, by rw [wrap_nat (by omega)], by omega, rfl, ?_, Ed⟩
      rw [List.take_succ_eq_append_getElem hkL, List.take_succ_eq_append_getElem hkM, heq, he2]
  · have hkn : k = L.length := by omega
    have : decide (L = M) = true := decide_eq_true (by
      rw [List.take_of_length_le (by omega), List.take_of_length_le (by omega)] at heq; exact heq)
    rw [← this]; exact h W he

/- the example of the chapter -/
def wantX : List Lx := [⟨1, [], [100, 101], 0⟩, ⟨2, [97, 100, 100], [49], 2⟩, ⟨1, [], [117, 115], 9⟩, ⟨3, [97, 100, 100], [], 11⟩, ⟨4, [108, 98], [], 17⟩]
theorem want_chk : chkX wantX = 0 := by decide +kernel
theorem want_print : printX wantX = [100, 101, 60, 97, 100, 100, 32, 49, 62, 117, 115, 60, 47, 97, 100, 100, 62, 60, 108, 98, 47, 62] := by decide +kernel
theorem want_scan : scanF [100, 101, 60, 97, 100, 100, 32, 49, 62, 117, 115, 60, 47, 97, 100, 100, 62, 60, 108, 98, 47, 62] = (wantX, 0) := by
  rw [← want_print]; exact print_scan want_chk
theorem awake9_spec (hM : Mk w) (h : ∀ w', Ext w w' → R (.returned (.bool true)) w') : Calls Tryd.prog F_law09_awake ⟨[]⟩ w R := by
  apply c_law09_awake
  refine Scan_spec _ hM fun a n c w2 hn hO e2 => ⟨_, _, _, _, rfl, ?_⟩
  rw [want_scan] at hO hn ⊢
  refine al_intro fun b5 w6 hb5 B5 e6 s6 => ?_
  have hW : RowAt encX (fun k => k = b5) w6 (some ⟨b5, 0, none⟩) 5 wantX := ⟨rfl, .inr ⟨b5, 0, rfl, rfl, B5.lt, fun j v hj => by rw [Nat.zero_add, B5.cell]; exact hj⟩⟩
  refine Print_spec wantX hW (by decide) (hM.ext (ext_trans e2 e6)) fun w8 e8 => ⟨_, _, rfl, ?_⟩
  rw [if_neg (by rw [want_chk]; simp), if_neg (by rw [want_chk]; simp), want_print]
  have E := ext_trans (ext_trans e2 e6) e8
  show br (decide ((0 : Int) = 0)) (br (decide ((0 : Int) = 0)) _ _) _
  rw [decide_eq_true rfl, br_t, br_t]
  refine SameX_spec wantX wantX (((OwnL.out hO).ext e6).ext e8) (hW.ext e8) (by decide) fun w12 e12 => ⟨_, rfl, ?_⟩
  rw [decide_eq_true rfl, br_t, decide_eq_true rfl]
  exact h w12 (ext_trans E e12)
end Go.Proofs
namespace Go.Proofs
open Go Go.Sh Go.RowKit

/- growing the nil slice: room is made, nothing is held -/
theorem grow_nilM {P : Program} {t tn ty e : TypeId} {size bytes : Nat} {z : Value} (hT : SlT P t e size bytes z) (htn : P.underlying tn = some (.int .i64)) {w : World} {B : Nat} (hB : B ≤ w.heap.size) (k : Nat) (h0 : 0 < k) (hb : k * bytes ≤ 140737488355328) (hk63 : k ≤ 4611686018427387904)
    {K : Option Addr → Nat → Nat → World → Prop} (hk : ∀ (c : Nat) w', Owns w' B e size (some ⟨w.heap.size, 0, none⟩) 0 c [] → Ext w w' → K (some ⟨w.heap.size, 0, none⟩) k c w') :
    app P [t, tn] ty (.slice none 0 0) (.int .i64 (k : Int)) w K := by
  obtain ⟨i, hi, hz, hs, hbb⟩ := hT.get
  have hpos := hT.pos
  have hr := Lib.run_append_grow_zeros (P := P) w t tn ty e i z .i64 .i64 hT.under htn hi hz none 0 0 [] (run_firstCells_none w.drew i.size 0 0 0) k h0 (by omega) (by omega) (by omega) (by rw [hbb]; omega) (by
    rw [hbb]; exact growslice_fits (by omega) (by rw [Nat.zero_add]; omega))
  rw [Nat.zero_add] at hr
  refine ⟨_, _, _, _, hr, hk _ _ ?_ (ext_trans (ext_drew w) ((Below.refl _ _).alloc (Nat.le_refl _) _))⟩
  refine ⟨by simp, .inr ⟨w.heap.size, _, #[] ++ Builtin.zeroCells z.cells k ++ Builtin.zeroCells z.cells (grownCap w k 0 e - k), rfl, hB, ?_, Nat.zero_le _, grownCap_le_maxLen w k 0 e (by simp only [maxLen]; omega), ?_, by simp⟩⟩
  · exact heap_alloc_new w.drew _
  · have hge := grownCap_ge w k 0 e
    have hzs : z.cells.size = i.size := by rw [hT.zs, hs]
    simp only [Builtin.zeroCells, Array.size_append, Array.size_map, Array.size_range, hzs, hs, List.size_toArray, List.length_nil, Nat.zero_add]
    rw [← Nat.add_mul]
    congr 1
    omega
theorem slA_zeroM (b c s : Nat) : slA (some ⟨b, 0, none⟩) c 0 s = some ⟨b, 0, none⟩ := by
  unfold slA; split <;> simp [Addr.add]
def encSlM : Enc (Option Addr × Nat × Nat) := ⟨fun x => [.slice x.1 x.2.1 x.2.2], 1, fun _ => rfl, by decide, by intro x v hv; simp only [List.mem_singleton] at hv; subst hv; rfl⟩
theorem GrowX_spec {R : Ending → World → Prop} {w : World} (k : Nat) (hk : k ≤ 1000000000000) (h : ∀ a c w', OwnL encX w' w.heap.size 44 a 0 c [] → Ext w w' → R (.returned (.slice a 0 c)) w') :
    Calls Tryd.prog F_slices_Grow_of_api_Lexeme_api_Lexeme ⟨[.slice none 0 0, .int .i64 (k : Int)]⟩ w R := by
  apply c_slices_Grow_of_api_Lexeme_api_Lexeme
  intro K3 hK3
  have k3 : K3 w := by
    refine hK3 _ fun _ => ?_
    have e0 : IntKind.i64.wrap ((k : Int) - IntKind.i64.wrap (((0 : Nat) : Int) - ((0 : Nat) : Int))) = (k : Int) := by
      rw [wrap_id (n := ((0 : Nat) : Int) - ((0 : Nat) : Int)) (by omega), wrap_id (by omega)]; omega
    rw [e0]
    refine br_split (fun g => ?_) (fun g => h none 0 w (Owns.nil _ _ _ _) (Below.refl _ _))
    refine ⟨by simp, by simp, by simp, ?_⟩
    show app Tryd.prog [22, 3] 22 (.slice none 0 0) (.int .i64 (k : Int)) w _
    refine grow_nilM slT_lex (by kernel_rfl) (Nat.le_refl _) k (by omega) (by omega) (by omega) fun c w' ho he => ?_
    refine ⟨by simp, by simp, by simp, ?_⟩
    show R (.returned (.slice (slA (some ⟨w.heap.size, 0, none⟩) c 0 4) 0 c)) w'
    rw [slA_zeroM]
    exact h _ c w' ho he
  exact br_split (fun hh => absurd hh (by omega)) (fun _ => k3)

theorem flat_takeM {gs : List (List Lx)} {k : Nat} {g : List Lx} (h : gs[k]? = some g) : (gs.take (k + 1)).flatten = (gs.take k).flatten ++ g := by
  rw [List.take_add_one, h]; simp
theorem flat_lenM (gs : List (List Lx)) (k : Nat) : ((gs.take k).flatten).length ≤ gs.flatten.length := by
  have e : gs.flatten = (gs.take k).flatten ++ (gs.drop k).flatten := by rw [← List.flatten_append, List.take_append_drop]
  rw [e, List.length_append]; omega

set_option maxRecDepth 20000 in
theorem ConcatX_spec {R : Ending → World → Prop} {w : World} {S S' : Nat → Prop} {sa : Option Addr} {sn sc : Nat} (xs : List (Option Addr × Nat × Nat)) (gs : List (List Lx)) (hx : RowAt encSlM S' w sa sn xs) (hl : xs.length = gs.length) (hn : gs.length ≤ 1000)
    (hg : ∀ (i : Nat) (x : Option Addr × Nat × Nat) (g : List Lx), xs[i]? = some x → gs[i]? = some g → RowAt encX S w x.1 x.2.1 g) (hsum : gs.flatten.length ≤ 1000000000000)
    (h : ∀ a n c w', OwnL encX w' w.heap.size 44 a n c gs.flatten → Ext w w' → R (.returned (.slice a n c)) w') :
    Calls Tryd.prog F_slices_Concat_of_api_Lexeme_api_Lexeme ⟨[.slice sa sn sc]⟩ w R := by
  apply c_slices_Concat_of_api_Lexeme_api_Lexeme
  have hn0 := hx.1
  refine ⟨fun sz i W m => ∃ k : Nat, i = k ∧ k ≤ sn ∧ m = sn - k ∧ sz = ((gs.take k).flatten).length ∧ W = w, ⟨_, 0, rfl, by omega, rfl, rfl, rfl⟩, ?_⟩
  rintro _ _ W m ⟨k, rfl, hk, rfl, rfl, rfl⟩ _
  refine br_split (fun g => ?_) (fun g => ?_)
  · have hkx : k < xs.length := by omega
    have hxk : xs[k]? = some xs[k] := by simp [hkx]
    have hgk : gs[k]? = some (gs[k]'(by omega)) := by simp
    obtain ⟨b, o, hq, _, _, hc⟩ := hx.get hxk
    have hsl := (hg k _ _ hxk hgk).1
    have ht := flat_takeM hgk
    have hle := flat_lenM gs (k + 1)
    rw [ht, List.length_append] at hle
    refine hq _ ⟨_, _, _, hc 0 _ rfl, ?_⟩
    have e0 : IntKind.i64.wrap ((((gs.take k).flatten.length : Nat) : Int) + ((xs[k].2.1 : Nat) : Int)) = (((gs.take (k + 1)).flatten.length : Nat) : Int) := by
      rw [ht, List.length_append, ← hsl, wrap_id (by omega)]; omega
    rw [e0]
    refine br_split (fun hh => absurd hh (by omega)) (fun _ => ⟨sn - (k + 1), by omega, k + 1, by rw [wrap_nat (by omega)], by omega, rfl, rfl, rfl⟩)
  · have : k = sn := by omega
    subst this
    rw [List.take_of_length_le (by omega)]
    refine GrowX_spec gs.flatten.length hsum fun a c w12 ho e12 => ⟨_, _, _, rfl, ?_⟩
    have z12 := e12.size
    refine ⟨fun oa on oc i W2 m => ∃ k2 : Nat, i = k2 ∧ k2 ≤ k ∧ m = k - k2 ∧ OwnL encX W2 W.heap.size 44 oa on oc (gs.take k2).flatten ∧ Ext W W2, ⟨_, 0, rfl, by omega, rfl, ho, e12⟩, ?_⟩
    rintro oa on oc _ W2 m ⟨k2, rfl, hk2, rfl, ho2, he2⟩ _
    refine br_split (fun g2 => ?_) (fun g2 => ?_)
    · have hkx : k2 < xs.length := by omega
      have hxk : xs[k2]? = some xs[k2] := by simp [hkx]
      have hgk : gs[k2]? = some (gs[k2]'(by omega)) := by simp
      obtain ⟨b, o, hq, _, _, hc⟩ := (hx.ext he2).get hxk
      have hsl := (hg k2 _ _ hxk hgk)
      have hsl1 := hsl.1
      have ht := flat_takeM hgk
      have hle := flat_lenM gs (k2 + 1)
      rw [ht, List.length_append] at hle
      have hol := ho2.length
      have z2 := he2.size
      refine hq _ ⟨_, _, _, hc 0 _ rfl, ?_⟩
      refine OwnL.pushAll slT_lex ho2 z2 (hsl.ext he2) (by omega) (by omega) fun a'' c'' w' ho' hc' _ => ?_
      refine ⟨k - (k2 + 1), by omega, k2 + 1, by rw [wrap_nat (by omega)], by omega, rfl, by rw [ht]; exact ho', ext_chgS he2 hc' fun j hj => (Owns.bk ho2 hj).1⟩
    · have : k2 = k := by omega
      subst this
      rw [List.take_of_length_le (by omega)] at ho2
      exact h _ _ _ _ ho2 he2

variable {R : Ending → World → Prop} {w : World}
theorem at_nil {S : Nat → Prop} {n : Nat} {L : List Lx} (h : RowAt encX S w none n L) : L = [] := by
  rcases h.2 with h | ⟨b, o, h, _⟩
  · cases L with
    | nil => rfl
    | cons x r => rw [row_cons] at h; cases h
  · cases h
theorem CloneX_spec {S : Nat → Prop} {a : Option Addr} {n c : Nat} (L : List Lx) (hL : RowAt encX S w a n L) (hb : L.length ≤ 1000000000) (h : ∀ a' c' w', OwnL encX w' w.heap.size 44 a' n c' L → Ext w w' → R (.returned (.slice a' n c')) w') :
    Calls Tryd.prog F_slices_Clone_of_api_Lexeme_api_Lexeme ⟨[.slice a n c]⟩ w R := by
  apply c_slices_Clone_of_api_Lexeme_api_Lexeme
  have hn : n = L.length := hL.1
  refine br_cases (fun g => ?_) (fun g => ?_)
  · have ha : a = none := by simpa using g
    subst ha
    have := at_nil hL
    subst this
    obtain rfl : n = 0 := hn
    exact h none 0 w (Owns.nil _ _ _ _) (Below.refl _ _)
  · refine al_intro fun b w3 hb3 B3 e3 s3 => ?_
    have ho : OwnL encX w3 w.heap.size 44 (some ⟨b, 0, none⟩) 0 0 [] := Owns.made B3 (by omega)
    have z3 := e3.size
    refine OwnL.pushAll slT_lex ho z3 (hL.ext e3) (by omega) (by omega) fun a' c' w5 o1 o2 o3 => ?_
    rw [Nat.zero_add] at o1 ⊢
    rw [List.nil_append] at o1
    exact h a' c' w5 o1 (ext_chgS e3 o2 fun j hj => (Owns.bk ho hj).1)
theorem set_same {cs : List Value} {i : Nat} {v : Value} (h : cs[i]? = some v) : cs.set i v = cs := by
  apply List.ext_getElem?
  intro j
  rw [List.getElem?_set]
  split
  · rename_i e; subst e
    obtain ⟨hl, _⟩ := List.getElem?_eq_some_iff.1 h
    rw [if_pos hl, h]
  · rfl
/- writing an offset -/
theorem storePos {B n c : Nat} {a : Option Addr} {L : List Lx} (h : OwnL encX w B 44 a n c L) {i : Nat} (hi : i < n) {x : Lx} (hx : L[i]? = some x) (v : Int) :
    ∃ g, a = some ⟨g, 0, none⟩ ∧ (∀ K : Addr → Prop, K ⟨g, i * 4, none⟩ → idx a n (i : Int) 4 K) ∧
      ∀ K : World → Prop, (∀ w', OwnL encX w' B 44 a n c (L.set i { x with pos := v }) → Chg (bk a) w w' → w'.heap.size = w.heap.size → K w') → stL w ((⟨g, i * 4, none⟩ : Addr).add 3) 0 [.int .i64 v] K := by
  have hl := OwnL.length h
  rcases h.2 with h1 | ⟨g, cap, cur, e1, e2, e3, e4, e5, e6, e7⟩
  · omega
  obtain ⟨rfl, _, rfl⟩ : a = some ⟨g, 0, none⟩ ∧ True ∧ c = cap := by simpa using e1
  have hB : Blk w g cur.toList 44 := e3
  have e6' : cur.size = c * 4 := e6
  have hcl : cur.toList.length = c * 4 := by simpa using e6'
  have e7' : List.take (n * 4) cur.toList = encX.row L := e7
  have hcur : cur.toList = encX.row L ++ cur.toList.drop (n * 4) := by rw [← e7', List.take_append_drop]
  refine ⟨g, rfl, fun K hK => ⟨by omega, by omega, ?_⟩, fun K hK => ?_⟩
  · show K _
    rw [add_none, Int.toNat_natCast, Nat.zero_add]; exact hK
  rw [add_none]
  refine stL_blk hB (by rw [hcl]; simp; omega) (by intro u hu; rw [List.mem_singleton.1 hu]; rfl) fun w' b1 b2 b3 b4 b5 b6 => ?_
  have hc : Chg (bk (some (⟨g, 0, none⟩ : Addr))) w w' := ⟨b4, b5, b6, by omega, fun k' _ hk => b2 k' fun e => hk (by simp [bk, e])⟩
  have hput : putAt cur.toList (i * 4 + 3 + 0) [.int .i64 v] = putAt cur.toList (i * 4) (encX.enc { x with pos := v }) := by
    have cell : ∀ (j : Nat) (u : Value), j < 4 → (encX.enc x)[j]? = some u → cur.toList[i * 4 + j]? = some u := by
      intro j u hj hu
      have : (encX.row L)[i * encX.size + j]? = (encX.enc x)[j]? := row_get hx hj
      rw [hcur, List.getElem?_append_left (by rw [row_len, hl]; show i * 4 + j < n * 4; omega)]
      rw [← hu]; exact this
    show cur.toList.set (i * 4 + 3) (.int .i64 v) = (((cur.toList.set (i * 4) (.int .i64 x.k)).set (i * 4 + 1) (.string ⟨⟨x.nm⟩⟩)).set (i * 4 + 1 + 1) (.string ⟨⟨x.vl⟩⟩)).set (i * 4 + 1 + 1 + 1) (.int .i64 v)
    have c00 : cur.toList[i * 4]? = some (.int .i64 x.k) := cell 0 _ (by omega) rfl
    rw [set_same c00, set_same (cell 1 _ (by omega) rfl), set_same (cell 2 _ (by omega) rfl)]
  rw [hput, hcur] at b1
  have hrp := row_put (E := encX) (x := { x with pos := v }) (rest := cur.toList.drop (n * 4)) (l := L) (i := i) (by omega)
  rw [show i * 4 = i * encX.size from rfl, hrp] at b1
  refine hK w' ⟨by rw [row_len, List.length_set, hl], .inr ⟨g, c, ⟨_⟩, rfl, e2, b1, e4, e5, ?_, ?_⟩⟩ hc b3
  · show (encX.row (L.set i { x with pos := v }) ++ cur.toList.drop (n * 4)).length = c * encX.size
    rw [List.length_append, List.length_drop, hcl, row_len, List.length_set, hl]
    have : n * 4 ≤ c * 4 := Nat.mul_le_mul_right _ e4
    show n * 4 + (c * 4 - n * 4) = c * 4
    omega
  · show List.take (n * encX.size) (encX.row (L.set i { x with pos := v }) ++ _) = _
    rw [List.take_append_of_le_length (by rw [row_len, List.length_set, hl]; exact Nat.le_refl _), List.take_of_length_le (by rw [row_len, List.length_set, hl]; exact Nat.le_refl _)]

set_option maxRecDepth 20000 in
theorem shifted_spec {S : Nat → Prop} {a : Option Addr} {n c : Nat} (L : List Lx) (hL : RowAt encX S w a n L) (hb : L.length ≤ 1000000000) (d : Nat) (hd : d ≤ 1000000000) (hp : ∀ x ∈ L, 0 ≤ x.pos ∧ x.pos ≤ 1000000000) (h : ∀ a' c' w', OwnL encX w' w.heap.size 44 a' n c' (L.map (shiftX d)) → Ext w w' → R (.returned (.slice a' n c')) w') :
    Calls Tryd.prog F_law09_shifted ⟨[.slice a n c, .int .i64 (d : Int)]⟩ w R := by
  apply c_law09_shifted
  have hn : n = L.length := hL.1
  refine CloneX_spec L hL hb fun a4 c4 w4 hO e4 => ⟨_, _, _, rfl, ?_⟩
  have z4 := e4.size
  refine ⟨fun t W m => ∃ k : Nat, t = k ∧ k ≤ n ∧ m = n - k ∧ OwnL encX W w.heap.size 44 a4 n c4 ((L.take k).map (shiftX d) ++ L.drop k) ∧ Ext w W, ⟨_, 0, rfl, by omega, rfl, hO, e4⟩, ?_⟩
  rintro _ W m ⟨k, rfl, hk, rfl, hW, he⟩ _
  refine br_split (fun hlt => ?_) (fun hge => ?_)
  · have hkL : k < L.length := by omega
    have hgk : ((L.take k).map (shiftX d) ++ L.drop k)[k]? = some L[k] := by
      rw [List.getElem?_append_right (by simp; omega)]
      simp [Nat.min_eq_left (Nat.le_of_lt hkL), hkL]
    obtain ⟨p1, p2⟩ := hp _ (List.getElem_mem hkL)
    have hll : k < ((L.take k).map (shiftX d) ++ L.drop k).length := (List.getElem?_eq_some_iff.1 hgk).1
    obtain ⟨q, hq, c0, c1, c2, c3⟩ := get_lx (OwnL.out hW) hll
    have hge : ((L.take k).map (shiftX d) ++ L.drop k)[k] = L[k] := (List.getElem?_eq_some_iff.1 hgk).2
    rw [hge] at c3
    refine hq _ ⟨_, c3, ?_⟩
    rw [wrap_id (by omega)]
    obtain ⟨g, ha, hq2, hst⟩ := storePos hW (by omega) hgk (L[k].pos + d)
    refine hq2 _ (hst _ fun w14 o1 o2 o3 => ⟨n - (k + 1), by omega, k + 1, by rw [wrap_nat (by omega)], by omega, rfl, ?_, ext_chgS he o2 fun j hj => (Owns.bk hW hj).1⟩)
    have e : ((L.take k).map (shiftX d) ++ L.drop k).set k { L[k] with pos := L[k].pos + d } = (L.take (k + 1)).map (shiftX d) ++ L.drop (k + 1) := by
      rw [List.set_append_right _ _ (by simp; omega), List.drop_eq_getElem_cons hkL, List.take_succ_eq_append_getElem hkL, List.map_append]
      simp [Nat.min_eq_left (Nat.le_of_lt hkL), shiftX]
      rw [List.drop_eq_getElem_cons hkL]; rfl
    rw [e] at o1; exact o1
  · have hkn : k = L.length := by omega
    subst hkn
    rw [List.take_length, List.drop_length, List.append_nil] at hW
    exact h a4 c4 W hW he
/- lexemes with their right offsets -/
theorem atGo_app : ∀ (l m : List Lx) (n : Nat), atGo n (l ++ m) = atGo n l ++ atGo (n + (l.map atLen).sum) m
  | [], m, n => by simp [atGo]
  | x :: r, m, n => by
    rw [List.cons_append, atGo, atGo, atGo_app r m, List.cons_append, List.map_cons, List.sum_cons, Nat.add_assoc]
theorem atSum_le : ∀ l : List Lx, (l.map atLen).sum ≤ totX l
  | [] => Nat.le_refl _
  | x :: r => by
    have := atSum_le r
    rw [List.map_cons, List.sum_cons, totX]
    have : atLen x ≤ x.nm.length + x.vl.length + 4 := by
      unfold atLen
      repeat' split
      all_goals omega
    omega
theorem totX_app (l m : List Lx) : totX (l ++ m) = totX l + totX m := by
  induction l with
  | nil => simp [totX]
  | cons x r ih => rw [List.cons_append, totX, totX, ih]; omega
theorem totX_take (l : List Lx) (k : Nat) : totX (l.take k) ≤ totX l := by
  have h : totX l = totX (l.take k) + totX (l.drop k) := by rw [← totX_app, List.take_append_drop]
  omega
set_option maxRecDepth 20000 in
theorem at_spec {S : Nat → Prop} {a : Option Addr} {n c : Nat} (L : List Lx) (hL : RowAt encX S w a n L) (hT : totX L ≤ 1000000000) (h : ∀ a' c' w', OwnL encX w' w.heap.size 44 a' n c' (atGo 0 L) → Ext w w' → R (.returned (.slice a' n c')) w') :
    Calls Tryd.prog F_law09_at ⟨[.slice a n c]⟩ w R := by
  apply c_law09_at
  have hn : n = L.length := hL.1
  have hln := totX_len L
  refine CloneX_spec L hL (by omega) fun a4 c4 w4 hO e4 => ⟨_, _, _, rfl, ?_⟩
  refine ⟨fun nn t W m => ∃ k : Nat, t = k ∧ k ≤ n ∧ m = n - k ∧ nn = (((L.take k).map atLen).sum : Int) ∧ OwnL encX W w.heap.size 44 a4 n c4 (atGo 0 (L.take k) ++ L.drop k) ∧ Ext w W, ⟨_, 0, rfl, by omega, rfl, rfl, hO, e4⟩, ?_⟩
  rintro _ _ W m ⟨k, rfl, hk, rfl, rfl, hW, he⟩ _
  refine br_split (fun hlt => ?_) (fun hge => ?_)
  · have hkL : k < L.length := by omega
    have hgk : (atGo 0 (L.take k) ++ L.drop k)[k]? = some L[k] := by
      rw [List.getElem?_append_right (by rw [atGo_len]; simp; omega), atGo_len]
      simp [Nat.min_eq_left (Nat.le_of_lt hkL), hkL]
    have hll : k < (atGo 0 (L.take k) ++ L.drop k).length := (List.getElem?_eq_some_iff.1 hgk).1
    obtain ⟨q, hq, c0, c1, c2, c3⟩ := get_lx (OwnL.out hW) hll
    have hge : (atGo 0 (L.take k) ++ L.drop k)[k] = L[k] := (List.getElem?_eq_some_iff.1 hgk).2
    rw [hge] at c0 c1 c2 c3
    have hx := totX_get hkL
    have hsk := atSum_le (L.take k)
    have htk := totX_take L k
    have e : ∀ v : Int, v = ((0 + ((L.take k).map atLen).sum : Nat) : Int) → (atGo 0 (L.take k) ++ L.drop k).set k { L[k] with pos := v } = atGo 0 (L.take (k + 1)) ++ L.drop (k + 1) := by
      rintro v rfl
      rw [List.set_append_right _ _ (by rw [atGo_len]; simp; omega), atGo_len, List.drop_eq_getElem_cons hkL, List.take_succ_eq_append_getElem hkL, atGo_app]
      simp [Nat.min_eq_left (Nat.le_of_lt hkL), atGo]
      rw [List.drop_eq_getElem_cons hkL]; rfl
    have hsum : ((L.take (k + 1)).map atLen).sum = ((L.take k).map atLen).sum + atLen L[k] := by
      rw [List.take_succ_eq_append_getElem hkL, List.map_append, List.sum_append]; simp
    have hal : atLen L[k] = L[k].nm.length + L[k].vl.length + if L[k].k ≠ 1 then 2 + (if L[k].vl ≠ [] then 1 else 0) + (if L[k].k ≠ 2 then 1 else 0) else 0 := rfl
    refine hq _ ⟨_, c0, _, c1, _, c2, _, c3, ?_⟩
    refine al_stL rfl one4 fun bx w18 hbx Bx e18 s18 => ?_
    have hW18 := Owns.ext hW e18
    obtain ⟨g, ha, hq2, hst⟩ := storePos hW18 (by omega) hgk (((L.take k).map atLen).sum : Int)
    refine hq2 _ (hst _ fun w20 o1 o2 o3 => ?_)
    have Bx' := o2.blk Bx (fun hh => by have := (Owns.bk hW hh).2; omega)
    obtain ⟨d0, d1, d2, d3⟩ := blk4x (x := L[k]) Bx'
    rw [e _ (by simp)] at o1
    have E20 : Ext w w20 := ext_chgS (ext_trans he e18) o2 fun j hj => (Owns.bk hW18 hj).1
    have hw1 : IntKind.i64.wrap ((L[k].nm.length : Int) + (L[k].vl.length : Int)) = ((L[k].nm.length + L[k].vl.length : Nat) : Int) := by rw [wrap_id (by omega)]; omega
    have fin : ∀ v : Int, v = ((((L.take (k + 1)).map atLen).sum : Nat) : Int) → ∃ m28 : Nat, m28 < n - k ∧ ∃ k' : Nat, IntKind.i64.wrap ((k : Int) + 1) = k' ∧ k' ≤ n ∧ m28 = n - k' ∧ v = (((L.take k').map atLen).sum : Int) ∧ OwnL encX w20 w.heap.size 44 a4 n c4 (atGo 0 (L.take k') ++ L.drop k') ∧ Ext w w20 :=
      fun v hv => ⟨n - (k + 1), by omega, k + 1, by rw [wrap_nat (by omega)], by omega, rfl, hv, o1, E20⟩
    refine ⟨_, d1, _, d2, _, d0, ?_⟩
    rw [hw1, wrap_id (n := ((((L.take k).map atLen).sum : Nat) : Int) + ((L[k].nm.length + L[k].vl.length : Nat) : Int)) (by omega)]
    generalize L[k] = x at *
    generalize ((L.take k).map atLen).sum = t at *
    refine br_split (fun g1 => ?_) (fun g1 => ?_)
    · intro K24 hK24
      rw [if_pos g1] at hal
      have k24 : ∀ v : Int, v = ((t + (x.nm.length + x.vl.length) + 2 + (if x.vl ≠ [] then 1 else 0) : Nat) : Int) → K24 v w20 := by
        intro v hv
        have hvb : v ≤ 3000000000 ∧ 0 ≤ v := by rw [hv]; split <;> omega
        refine hK24 _ _ fun _ => ⟨_, d0, br_split (fun g2 => fin _ ?_) (fun g2 => fin _ ?_)⟩
        · rw [if_pos g2] at hal
          rw [wrap_id (by omega), hv, hsum, hal]; split <;> omega
        · rw [if_neg g2] at hal
          rw [hv, hsum, hal]; split <;> omega
      have hw2 : IntKind.i64.wrap ((t : Int) + ((x.nm.length + x.vl.length : Nat) : Int) + 2) = (t : Int) + ((x.nm.length + x.vl.length : Nat) : Int) + 2 := wrap_id (by omega)
      rw [hw2, wrap_id (n := (t : Int) + ((x.nm.length + x.vl.length : Nat) : Int) + 2 + 1) (by omega)]
      refine ⟨_, d2, br_split (fun g3 => k24 _ ?_) (fun g3 => k24 _ ?_)⟩
      · rw [if_pos g3]; omega
      · rw [if_neg g3]; omega
    · rw [if_neg g1] at hal
      refine fin _ ?_
      rw [hsum, hal]; omega
  · have hkn : k = L.length := by omega
    subst hkn
    rw [List.take_length, List.drop_length, List.append_nil] at hW
    exact h a4 c4 W hW he
end Go.Proofs
namespace Go.Proofs
open Go Go.Sh Go.RowKit

variable {R : Ending → World → Prop} {w : World}
set_option maxRecDepth 20000 in
theorem MarkupLossless_spec {S : Nat → Prop} {a : Option Addr} {n c : Nat} (s : List UInt8) (L : List Lx) (hb : BigX L) (hM : Mk w) (hL : RowAt encX S w a n L) (h : ∀ w', Ext w w' → R (.returned (.bool true)) w') :
    Calls Tryd.prog F_law09_MarkupLossless ⟨[.string ⟨⟨s⟩⟩, .slice a n c]⟩ w R := by
  apply c_law09_MarkupLossless
  have aw : ∀ v, Ext w v → Calls Tryd.prog F_law09_awake ⟨[]⟩ v (fun e w' => ∃ x : Bool, e = .returned (.bool x) ∧ R (.returned (.bool x)) w') := fun v ev => awake9_spec (hM.ext ev) fun v' e' => ⟨_, rfl, h v' (ext_trans ev e')⟩
  intro K3 hK3
  have k3 : greatX L = false → ∀ w4, Ext w w4 → K3 w4 := by
    intro hg w4 e4
    obtain ⟨g1, g2⟩ := greatX_small hg
    refine hK3 _ fun _ => ?_
    intro K5 hK5
    have k5 : ∀ w6, Ext w w6 → K5 w6 := by
      intro w6 e6
      refine hK5 _ fun _ => ?_
      refine Print_spec L (hL.ext e6) (by omega) (hM.ext e6) fun w8 e8 => ⟨_, _, rfl, ?_⟩
      have E8 := ext_trans e6 e8
      by_cases hc : chkX L = 0
      · rw [if_neg (by simpa using hc), if_neg (by simpa using hc)]
        refine br_neg (by simp) ?_
        have hps := print_scan hc
        refine Scan_spec (printX L) (hM.ext E8) fun a1 n1 c1 w18 hn1 hO e18 => ⟨_, _, _, _, rfl, ?_⟩
        rw [hps] at hO ⊢
        refine br_pos rfl ?_
        refine SameX_spec L L (hL.ext (ext_trans E8 e18)) (OwnL.out hO) (by omega) fun w22 e22 => ⟨_, rfl, ?_⟩
        rw [decide_eq_true rfl, br_t]
        exact aw _ (ext_trans (ext_trans E8 e18) e22)
      · rw [if_pos hc, if_pos hc]
        refine br_pos (by decide) ?_
        refine Check_spec9 L (hL.ext E8) (by omega) (hM.ext E8) fun w12 e12 => ⟨_, rfl, br_pos hc (br_pos rfl (aw _ (ext_trans E8 e12)))⟩
    refine Scan_spec s (hM.ext e4) fun a1 n1 c1 w28 hn1 hO e28 => ⟨_, _, _, _, rfl, ?_⟩
    have E28 := ext_trans e4 e28
    obtain ⟨t1, t2⟩ := scan_small s
    refine br_split (fun g => ?_) (fun g => ?_)
    · obtain ⟨q1, q2⟩ := scan_print (s := s) (l := (scanF s).1) (by rw [← g])
      refine Print_spec (scanF s).1 (OwnL.out hO) t1 (hM.ext E28) fun w32 e32 => ⟨_, _, rfl, ?_⟩
      rw [if_neg (by simpa using q1), if_neg (by simpa using q1), q2]
      refine br_neg (by simp) (br_neg (by simp) ?_)
      refine Check_spec9 (scanF s).1 ((OwnL.out hO).ext e32) t1 (hM.ext (ext_trans E28 e32)) fun w36 e36 => ⟨_, rfl, br_neg (by simpa using q1) (k5 _ (ext_trans (ext_trans E28 e32) e36))⟩
    · rw [scanF_err g] at hn1
      refine br_neg (by rw [hn1]; simp) (k5 _ E28)
  refine br_split (fun g => aw w (Below.refl _ _)) (fun g => ?_)
  refine GreatList_spec L hL hb fun w42 e42 => ⟨_, rfl, br_cases (fun g2 => aw _ e42) (fun g2 => k3 g2 _ e42)⟩

set_option maxRecDepth 20000 in
theorem MarkupOffsets_spec (s : List UInt8) (hM : Mk w) (h : ∀ w', Ext w w' → R (.returned (.bool true)) w') :
    Calls Tryd.prog F_law09_MarkupOffsets ⟨[.string ⟨⟨s⟩⟩]⟩ w R := by
  apply c_law09_MarkupOffsets
  have aw : ∀ v, Ext w v → Calls Tryd.prog F_law09_awake ⟨[]⟩ v (fun e w' => ∃ x : Bool, e = .returned (.bool x) ∧ R (.returned (.bool x)) w') := fun v ev => awake9_spec (hM.ext ev) fun v' e' => ⟨_, rfl, h v' (ext_trans ev e')⟩
  refine Scan_spec s hM fun a n c w3 hn hO e3 => ⟨_, _, _, _, rfl, ?_⟩
  obtain ⟨t1, t2⟩ := scan_small s
  have hL : RowAt encX (bk a) w3 a n (scanF s).1 := OwnL.out hO
  intro K6 hK6
  have k6 : s.length ≤ 60 → (scanF s).2 = 0 → K6 w3 := by
    intro hs g0
    obtain ⟨q1, q2⟩ := scan_print (s := s) (l := (scanF s).1) (by rw [← g0])
    generalize (scanF s).1 = L at *
    refine hK6 _ fun _ => ?_
    refine ⟨fun t W m => ∃ k : Nat, t = k ∧ k ≤ s.length ∧ m = s.length - k ∧ Ext w3 W, ⟨_, 0, rfl, by omega, rfl, Below.refl _ _⟩, ?_⟩
    rintro _ W m ⟨k, rfl, hk, rfl, he⟩ _
    have EW := ext_trans e3 he
    refine br_split (fun hlt => ?_) (fun hge => ?_)
    · obtain ⟨j, x, f1, f2, f3, f4⟩ := find_hit q1 (i := k) (by rw [q2]; omega)
      refine Find_spec L (hL.ext he) t1 (k : Int) (by omega) (hM.ext EW) fun w14 e14 => ⟨_, _, rfl, ?_⟩
      rw [f1]
      obtain ⟨hj, hxj⟩ := List.getElem?_eq_some_iff.1 f2
      refine br_neg (by simp) (br_neg (by show ¬ ((j : Int) < 0); omega) (br_neg (by show ¬ ((n : Int) ≤ (j : Int)); omega) ?_))
      obtain ⟨q, hq, c0, c1, c2, c3⟩ := get_lx ((hL.ext he).ext e14) hj
      rw [hxj] at c3
      refine hq _ ⟨_, c3, br_neg (by omega) ?_⟩
      have step : ∃ m21 : Nat, m21 < s.length - k ∧ ∃ k' : Nat, IntKind.i64.wrap ((k : Int) + 1) = k' ∧ k' ≤ s.length ∧ m21 = s.length - k' ∧ Ext w3 w14 := ⟨s.length - (k + 1), by omega, k + 1, by rw [wrap_nat (by omega)], by omega, rfl, ext_trans he e14⟩
      rw [show IntKind.i64.wrap ((j : Int) + 1) = ((j + 1 : Nat) : Int) from wrap_nat (by omega)]
      refine br_split (fun g1 => ?_) (fun _ => step)
      have hj1 : j + 1 < L.length := by omega
      obtain ⟨q', hq', d0, d1, d2, d3⟩ := get_lx ((hL.ext he).ext e14) hj1
      refine hq' _ ⟨_, d3, br_neg ?_ step⟩
      have := f4 _ (List.getElem?_eq_getElem hj1)
      omega
    · intro K23 hK23
      have k23 : K23 W := by
        refine hK23 _ fun _ => ?_
        refine Find_spec L (hL.ext he) t1 (s.length : Int) (by omega) (hM.ext EW) fun w26 e26 => ⟨_, _, rfl, ?_⟩
        rw [find_out q1 (.inr (by rw [q2]; omega))]
        refine Find_spec L ((hL.ext he).ext e26) t1 (-1) (by omega) (hM.ext (ext_trans EW e26)) fun w30 e30 => ⟨_, _, rfl, ?_⟩
        rw [find_out q1 (.inl (by omega))]
        exact br_pos rfl (br_pos rfl (aw _ (ext_trans (ext_trans EW e26) e30)))
      refine br_split (fun g1 => ?_) (fun _ => k23)
      have hj : 0 < L.length := by omega
      obtain ⟨q, hq, c0, c1, c2, c3⟩ := get_lx (hL.ext he) hj
      refine hq _ ⟨_, c3, br_neg ?_ k23⟩
      cases L with
      | nil => simp at hj
      | cons x r =>
        have := chk_head (x := x) (r := r) (pt := false) (at_ := 0) q1
        simpa using this
  exact br_split (fun g => aw _ e3) (fun g => br_split (fun g2 => aw _ e3) (fun g2 => k6 (by omega) (Classical.not_not.1 g2)))

/- does a string have one of some characters -/
theorem some1_spec (b : Nat) (cs : List UInt8) (x : UInt8) (hb : w.cell? ⟨b, 0, none⟩ = some (.string ⟨⟨cs⟩⟩)) (h : R (.returned (.bool (decide (x ∈ cs)))) w) : Calls Tryd.prog F_law09_some_1 ⟨[.int .u8 (x.toNat : Int), .pointer (some ⟨b, 0, none⟩)]⟩ w R := by
  apply c_law09_some_1
  refine dr_ok ⟨_, hb, (Tryd.strings_IndexByte ⟨⟨cs⟩⟩ (x.toNat : Int) w).mono ?_⟩
  rintro _ _ ⟨rfl, rfl⟩
  refine ⟨_, rfl, ?_⟩
  have hx : ((x.toNat : Int)).toNat.toUInt8 = x := by simp
  rw [hx]
  have e : decide ((0 : Int) ≤ Lib.indexByte cs x) = decide (x ∈ cs) := by
    rw [← Lib.contains_iff_indexByte]
    rw [Bool.eq_iff_iff, List.contains_iff_mem, decide_eq_true_eq]
  show R (.returned (.bool (decide ((0 : Int) ≤ Lib.indexByte cs x)))) _
  rw [e]; exact h
theorem some_spec (s cs : List UInt8) (hl : s.length ≤ 1000000000) (h : ∀ w', Ext w w' → R (.returned (.bool (s.any fun x => decide (x ∈ cs)))) w') : Calls Tryd.prog F_law09_some ⟨[.string ⟨⟨s⟩⟩, .string ⟨⟨cs⟩⟩]⟩ w R := by
  apply c_law09_some
  refine al_intro fun b3 w4 hb3 B3 e4 s4 => s2b_intro fun cp w6 hcells e6 => ?_
  apply c_slices_ContainsFunc_of_byte_byte
  apply c_slices_IndexFunc_of_byte_byte
  have c3 : w6.cell? ⟨b3, 0, none⟩ = some (.string ⟨⟨cs⟩⟩) := by rw [(B3.ext e6).cell]; rfl
  have E6 := ext_trans e4 e6
  refine ⟨fun i W m => W = w6 ∧ ∃ k : Nat, i = k ∧ k ≤ s.length ∧ m = s.length - k ∧ (s.take k).any (fun x => decide (x ∈ cs)) = false, ⟨_, rfl, 0, rfl, by omega, rfl, rfl⟩, ?_⟩
  rintro i W m ⟨rfl, k, rfl, hk, rfl, hany⟩ _
  refine br_split (fun hlt => ?_) (fun hge => ?_)
  · have hlt' : k < s.length := by omega
    refine ⟨by omega, by omega, ?_⟩
    refine dr_ok ⟨_, by rw [add_none]; simpa using hcells k hlt', by kernel_rfl, some1_spec b3 cs _ c3 ⟨_, rfl, ?_⟩⟩
    refine br_cases (fun hb => ⟨_, rfl, _, rfl, ?_⟩) (fun hb => ?_)
    · have e : s.any (fun x => decide (x ∈ cs)) = true := List.any_eq_true.2 ⟨s[k], by simp, hb⟩
      rw [decide_eq_true (by omega), ← e]; exact h _ E6
    · refine ⟨s.length - (k + 1), by omega, rfl, k + 1, by rw [wrap_id (by omega)]; simp, by omega, rfl, ?_⟩
      rw [List.take_succ_eq_append_getElem hlt', List.any_append, hany]
      simpa using hb
  · have : k = s.length := by omega
    subst this
    rw [List.take_length] at hany
    refine ⟨_, rfl, _, rfl, ?_⟩
    rw [decide_eq_false (by omega), ← hany]; exact h _ E6
theorem Less_spec (x y : List UInt8) (h : R (.returned (.bool (Op.bytesLess x y))) w) : Calls Tryd.prog F_cmp_Less_of_string ⟨[.string ⟨⟨x⟩⟩, .string ⟨⟨y⟩⟩]⟩ w R := by
  apply c_cmp_Less_of_string
  apply c_cmp_isNaN_of_string
  refine ⟨_, rfl, ?_⟩
  refine br_neg (by simp) h
theorem names_sorted : ∀ k : Nat, k < 9 → Op.bytesLess (tagNames.getD (k + 1) []) (tagNames.getD k []) = false := by decide +kernel
theorem IsSorted_spec {S : Nat → Prop} {a : Option Addr} {c : Nat} (hL : RowAt Sh.encStr S w a 10 tagNames) (h : ∀ w', Ext w w' → R (.returned (.bool true)) w') : Calls Tryd.prog F_slices_IsSorted_of_string_string ⟨[.slice a 10 c]⟩ w R := by
  apply c_slices_IsSorted_of_string_string
  refine ⟨fun i W m => ∃ k : Nat, i = k ∧ k ≤ 9 ∧ m = k ∧ Ext w W, ⟨_, 9, rfl, by omega, rfl, Below.refl _ _⟩, ?_⟩
  rintro _ W m ⟨k, rfl, hk, rfl, he⟩ _
  refine br_split (fun hlt => ?_) (fun hge => h W he)
  obtain ⟨j, rfl⟩ : ∃ j, m = j + 1 := ⟨m - 1, by omega⟩
  have hl : tagNames.length = 10 := rfl
  unfold drw
  have Ed := ext_trans he (ext_drew W)
  obtain ⟨q, hq, c0⟩ := get_str (hL.ext Ed) (k := j + 1) (by omega)
  obtain ⟨q', hq', c1⟩ := get_str (hL.ext Ed) (k := j) (by omega)
  have hj : IntKind.i64.wrap (((j + 1 : Nat) : Int) - 1) = (j : Int) := by rw [wrap_id (by omega)]; omega
  rw [hj]
  refine hq _ ⟨_, c0, hq' _ ⟨_, c1, Less_spec _ _ ⟨_, rfl, ?_⟩, trivial⟩⟩
  have hs := names_sorted j (by omega)
  rw [List.getD_eq_getElem?_getD, List.getD_eq_getElem?_getD, List.getElem?_eq_getElem (by omega), List.getElem?_eq_getElem (by omega)] at hs
  rw [show Op.bytesLess tagNames[j + 1] tagNames[j] = false from hs]
  rw [br_f]
  exact ⟨j, by omega, j, rfl, by omega, rfl, Ed⟩
set_option maxRecDepth 20000 in
theorem MarkupTags_spec (v : List UInt8) (hM : Mk w) (h : ∀ w', Ext w w' → R (.returned (.bool true)) w') :
    Calls Tryd.prog F_law09_MarkupTags ⟨[.string ⟨⟨v⟩⟩]⟩ w R := by
  apply c_law09_MarkupTags
  have aw : ∀ u, Ext w u → Calls Tryd.prog F_law09_awake ⟨[]⟩ u (fun e w' => ∃ x : Bool, e = .returned (.bool x) ∧ R (.returned (.bool x)) w') := fun u eu => awake9_spec (hM.ext eu) fun v' e' => ⟨_, rfl, h v' (ext_trans eu e')⟩
  refine Tags_spec fun a c w3 hO e3 => ⟨_, _, _, rfl, ?_⟩
  have hL := OwnL.out hO
  have hlt10 : tagNames.length = 10 := rfl
  intro K5 hK5
  have k5t : ∀ u, Ext w3 u → K5 true u := by
    intro u eu
    refine hK5 _ _ fun _ => ?_
    show br true _ _
    rw [br_t]
    refine br_pos rfl ?_
    refine IsSorted_spec (hL.ext eu) fun w9 e9 => ⟨_, rfl, ?_⟩
    rw [br_t]
    exact aw _ (ext_trans (ext_trans e3 eu) e9)
  have k5f : v.length ≤ 20 → (∀ x ∈ v, x ≠ 32 ∧ x ≠ 47 ∧ x ≠ 60 ∧ x ≠ 62) → ∀ u, Ext w3 u → K5 false u := by
    intro hvl hv u eu
    refine hK5 _ _ fun _ => ?_
    show br false _ _
    rw [br_f]
    refine ⟨fun t W m => ∃ k : Nat, t = k ∧ k ≤ 10 ∧ m = 10 - k ∧ Ext w3 W, ⟨_, 0, rfl, by omega, rfl, eu⟩, ?_⟩
    rintro _ W m ⟨k, rfl, hk, rfl, he⟩ _
    have EW := ext_trans e3 he
    refine br_split (fun hlt => ?_) (fun hge => aw _ EW)
    obtain ⟨q, hq, c0⟩ := get_str (hL.ext he) (k := k) (by omega)
    refine hq _ ⟨_, c0, ?_⟩
    have hkn : knownB (tagNames[k]'(by omega)) = true := decide_eq_true (List.getElem_mem _)
    generalize tagNames[k]'(by omega) = nm at *
    obtain ⟨nn, nl, nc⟩ := nm_bad hkn
    intro K21 hK21
    have hin := inn_chars nc hv
    have hil : (innF nm v).length ≤ nm.length + v.length + 1 := by unfold innF; split <;> first | omega | (simp; omega)
    have o1 := scan_tag (m := innF nm v) (fun c hc => (hin c hc).2.2) (by omega)
    have o2 := scan_tag (m := innF nm v ++ [47]) (by
      intro c hc
      rcases List.mem_append.1 hc with hc | hc
      · exact (hin c hc).2.2
      · rw [List.mem_singleton.1 hc]; decide) (by simp; omega)
    have o3 := scan_tag (m := 47 :: nm) (by
      intro c hc
      rcases List.mem_cons.1 hc with rfl | hc
      · decide
      · exact (nc c hc).2.2.2) (by simp; omega)
    have r1 := fun hh => open_tag (nm := nm) (v := v) hkn hv (by rw [← o1]; exact hh)
    have r2 := fun hh => empty_tag (nm := nm) (v := v) hkn (by rw [← o2]; exact hh)
    rw [close_tag hkn] at o3
    have q1 : v ≠ [] → innF nm v = nm ++ ([32] ++ v) := fun g => if_pos g
    have q2 : ¬ v ≠ [] → innF nm v = nm := fun g => if_neg g
    clear hin
    generalize innF nm v = s at *
    have k21 : K21 s W := by
      refine hK21 _ _ fun _ => ?_
      have next : ∀ u, Ext w3 u → ∃ m42 : Nat, m42 < 10 - k ∧ ∃ k' : Nat, IntKind.i64.wrap ((k : Int) + 1) = k' ∧ k' ≤ 10 ∧ m42 = 10 - k' ∧ Ext w3 u := fun u eu => ⟨10 - (k + 1), by omega, k + 1, by rw [wrap_nat (by omega)], by omega, rfl, eu⟩
      refine ⟨by simp; omega, by simp; omega, ?_⟩
      have e60 : [60] ++ s ++ [62] = 60 :: (s ++ [62]) := by simp
      rw [e60]
      refine Scan_spec (60 :: (s ++ [62])) (hM.ext EW) fun a1 n1 c1 w27 _ _ e27 => ⟨_, _, _, _, rfl, ?_⟩
      refine ⟨by simp; omega, by simp; omega, ?_⟩
      have e47 : [60] ++ s ++ [47, 62] = 60 :: ((s ++ [47]) ++ [62]) := by simp
      rw [e47]
      refine Scan_spec (60 :: ((s ++ [47]) ++ [62])) (hM.ext (ext_trans EW e27)) fun a2 n2 c2 w33 _ _ e33 => ⟨_, _, _, _, rfl, ?_⟩
      refine ⟨by simp; omega, by simp; omega, ?_⟩
      have e63 : [60, 47] ++ nm ++ [62] = 60 :: ((47 :: nm) ++ [62]) := by simp
      rw [e63]
      refine Scan_spec (60 :: ((47 :: nm) ++ [62])) (hM.ext (ext_trans (ext_trans EW e27) e33)) fun a3 n3 c3 w39 _ _ e39 => ⟨_, _, _, _, rfl, ?_⟩
      have N := next w39 (ext_trans (ext_trans (ext_trans he e27) e33) e39)
      generalize (scanF (60 :: (s ++ [62]))).2 = x29 at *
      generalize (scanF (60 :: ((s ++ [47]) ++ [62]))).2 = x35 at *
      generalize (scanF (60 :: ((47 :: nm) ++ [62]))).2 = x41 at *
      refine br_split (fun g1 => ?_) (fun g1 => br_split (fun g2 => ?_) (fun g2 => N))
      · have he1 := r1 g1
        have x35n : ¬ x35 = 0 := fun hh => by rw [r2 hh] at he1; cases he1
        have x41z : x41 = 0 := by rw [o3, he1]; rfl
        exact br_neg x35n (br_neg (by simpa using x41z) (br_neg x35n N))
      · have he2 := r2 g2
        have x41z : ¬ x41 = 0 := by rw [o3, he2]; decide
        exact br_neg x41z N
    refine br_split (fun g => ⟨by simp; omega, by simp; omega, ?_⟩) (fun g => ?_)
    · rw [← q1 g]; exact k21
    · rw [q2 g] at k21; exact k21
  refine br_split (fun g => k5t _ (Below.refl _ _)) (fun g => ?_)
  refine some_spec v [32, 60, 62, 47] (by omega) fun w52 e52 => ⟨_, rfl, ?_⟩
  refine br_cases (fun g2 => k5t _ e52) (fun g2 => ?_)
  refine br_neg (by simp) ?_
  refine IsSorted_spec (hL.ext e52) fun w55 e55 => ⟨_, rfl, ?_⟩
  refine k5f (by omega) (fun x hx => ?_) _ (ext_trans e52 e55)
  have := List.any_eq_false.1 g2 x hx
  simp at this
  exact ⟨this.1, this.2.2.2, this.2.1, this.2.2.1⟩
set_option maxRecDepth 20000 in
theorem MarkupStrips_spec (s : List UInt8) (hM : Mk w) (h : ∀ w', Ext w w' → R (.returned (.bool true)) w') :
    Calls Tryd.prog F_law09_MarkupStrips ⟨[.string ⟨⟨s⟩⟩]⟩ w R := by
  apply c_law09_MarkupStrips
  have aw : ∀ u, Ext w u → Calls Tryd.prog F_law09_awake ⟨[]⟩ u (fun e w' => ∃ x : Bool, e = .returned (.bool x) ∧ R (.returned (.bool x)) w') := fun u eu => awake9_spec (hM.ext eu) fun v' e' => ⟨_, rfl, h v' (ext_trans eu e')⟩
  refine br_split (fun g => aw _ (Below.refl _ _)) (fun g => ?_)
  refine Strip_spec s hM fun w6 e6 => ⟨_, _, rfl, ?_⟩
  intro K9 hK9
  have k9 : ∀ u, Ext w u → K9 u := by
    intro u eu
    refine hK9 _ fun _ => ?_
    refine br_split (fun g0 => ?_) (fun g0 => ?_)
    · rw [scanF_err g0]
      exact br_pos rfl (aw _ eu)
    · have g0 : (scanF s).2 = 0 := Classical.not_not.1 g0
      obtain ⟨q1, q2⟩ := scan_print (s := s) (l := (scanF s).1) (by rw [← g0])
      have hkd := strip_kd _ _ _ q1
      have hln := strip_len (scanF s).1
      rw [q2] at hln
      generalize stripX (scanF s).1 = t at *
      refine ⟨fun i W m => ∃ k : Nat, i = k ∧ k ≤ t.length ∧ m = t.length - k ∧ Ext w W, ⟨_, 0, rfl, by omega, rfl, eu⟩, ?_⟩
      rintro _ W m ⟨k, rfl, hk, rfl, he⟩ _
      refine br_split (fun hlt => ?_) (fun hge => ?_)
      · have hkt : k < t.length := by omega
        refine sidx_nat hkt (Kind_spec' _ ⟨_, rfl, br_neg (hkd _ (List.getElem_mem hkt)) ?_⟩)
        exact ⟨t.length - (k + 1), by omega, k + 1, by rw [wrap_nat (by omega)], by omega, rfl, he⟩
      · refine br_pos (by omega) ?_
        refine some_spec t [60, 62, 47] (by omega) fun w25 e25 => ⟨_, rfl, ?_⟩
        have e : (t.any fun x => decide (x ∈ ([60, 62, 47] : List UInt8))) = false := by
          rw [List.any_eq_false]
          intro x hx
          obtain ⟨k1, k2, k3⟩ := kd_ok (hkd x hx)
          simp [k1, k2, k3]
        rw [e]
        simp only [Bool.not_false, br_t]
        exact aw _ (ext_trans he e25)
  refine Check_spec' s fun w31 e31 => ⟨_, rfl, br_split (fun gc => ?_) (fun gc => k9 _ (ext_trans e6 e31))⟩
  have hp := scan_plain gc
  rw [hp]
  refine br_neg (by simp) ?_
  have hst : stripX (if s = [] then [] else [⟨1, [], s, 0⟩]) = s := by
    split
    · rename_i e; rw [e]; rfl
    · show s ++ [] = s; simp
  rw [hst]
  exact br_neg (by simp) (k9 _ (ext_trans e6 e31))
end Go.Proofs
