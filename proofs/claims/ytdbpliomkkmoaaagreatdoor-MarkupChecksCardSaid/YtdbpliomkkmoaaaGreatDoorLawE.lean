/- The contracts of the functions that the law reaches, one after the other, and at the end the law's card. -/
import Derived.Test.YtdbpliomkkmoaaaGreatDoorLawD
import Derived.Deep.Slices
import Derived.Test.YtdbpliomkkmoaaaGreatDoorCards
import Derived.Test.YtdbpliomkkmoaaaGreatDoorTie
import Derived.Deep.DeepHandedRow
import Derived.Lib.LaidTab
import Derived.Lib.LaidU8
import Derived.WalkKit
import Derived.ProofKit
import Derived.SizedLaws
namespace Go.Proofs
open Go Go.Sh Go.RowKit

variable {R : Ending → World → Prop} {w : World}
/- the first of a byte, looked for one by one -/
theorem ix_at {l : List UInt8} {c : UInt8} {k : Nat} (hk : l[k]? = some c) (hb : ∀ j, j < k → l[j]? ≠ some c) : Lib.indexByte l c = (k : Int) := by
  have hg := Lib.indexByte_ge l c
  by_cases hm : Lib.indexByte l c = -1
  · exact absurd hk (Lib.indexByte_none hm k)
  · obtain ⟨h1, h2⟩ := Lib.indexByte_some (l := l) (c := c) (o := (Lib.indexByte l c).toNat) (by omega)
    rcases Nat.lt_trichotomy (Lib.indexByte l c).toNat k with h | h | h
    · exact absurd h1 (hb _ h)
    · omega
    · exact absurd hk (h2 k h)
theorem ix_no {l : List UInt8} {c : UInt8} (h : ∀ j, j < l.length → l[j]? ≠ some c) : Lib.indexByte l c = -1 := by
  have hg := Lib.indexByte_ge l c
  apply Classical.byContradiction
  intro hm
  obtain ⟨h1, _⟩ := Lib.indexByte_some (l := l) (c := c) (o := (Lib.indexByte l c).toNat) (by omega)
  exact h _ (List.getElem?_eq_some_iff.1 h1).1 h1
theorem cut_lt {t : List UInt8} (h : t.head? = some 60) {j : Nat} (hj : t[j]? = some 62) (hb : ∀ i, i < j → t[i]? ≠ some 62) : cutX t = j + 1 := by
  unfold cutX; rw [if_pos h, ix_at hj hb, if_pos (by omega), Int.toNat_natCast]
theorem cut_le {t : List UInt8} (h : t.head? = some 60) (hb : ∀ i, i < t.length → t[i]? ≠ some 62) : cutX t = t.length := by
  unfold cutX; rw [if_pos h, ix_no hb, if_neg (by omega)]
theorem cut_tx {t : List UInt8} (h : ¬ t.head? = some 60) {j : Nat} (hj : t[j]? = some 60) (hb : ∀ i, i < j → t[i]? ≠ some 60) : cutX t = j := by
  unfold cutX; rw [if_neg h, ix_at hj hb, if_pos (by omega), Int.toNat_natCast]
theorem cut_te {t : List UInt8} (h : ¬ t.head? = some 60) (hb : ∀ i, i < t.length → t[i]? ≠ some 60) : cutX t = t.length := by
  unfold cutX; rw [if_neg h, ix_no hb, if_neg (by omega)]
theorem u8_lit {c : UInt8} {n : Nat} (hn : n < 256) : c = UInt8.ofNat n ↔ (c.toNat : Int) = n := by rw [u8_eq, u8_of n hn]; omega
/- no > in it: not a tag -/
theorem lexP_open {at_ : Nat} {part : List UInt8} (h : part.head? = some 60) (hb : ∀ i, i < part.length → part[i]? ≠ some 62) : (lexP at_ part).2 = 3 := by
  unfold lexP
  rw [if_neg (by rw [h]; simp), if_pos]
  intro hl
  rw [List.getLast?_eq_getElem?] at hl
  have := (List.getElem?_eq_some_iff.1 hl).1
  exact hb _ this hl
set_option maxRecDepth 20000 in
theorem ScanR_spec (s : List UInt8)
    (h : ∀ a n c w', n = (scanF s).1.length → RowAt encX (bk a) w' a n (scanF s).1 → Ext w w' → R (.returned (.tuple ⟨[.slice a n c, .int .i64 (scanF s).2]⟩)) w') : Calls Tryz.prog F_ref09_Scan ⟨[.string ⟨⟨s⟩⟩]⟩ w R := by
  apply c_ref09_Scan
  refine br_split (fun g => ?_) (fun g => ?_)
  · have hf : scanF s = ([], 4) := by unfold scanF; rw [if_pos (by omega)]
    rw [hf] at h
    exact al_intro fun b2 w3 hb2 B2 e3 s3 => h _ 0 0 w3 rfl (RowAt.nil _) e3
  have hs : s.length ≤ 65536 := by omega
  have hf : scanF s = scanL (partsM s 0) := by unfold scanF; rw [if_neg (by omega)]
  rw [hf] at h
  have bad : ∀ (e : Int) (W : World), scanL (partsM s 0) = ([], e) → Ext w W → (al W 41 [] fun p45 w46 => R (.returned (.tuple ⟨[.slice (some p45) 0 0, .int .i64 e]⟩)) w46) := by
    intro e W he hW
    rw [he] at h
    exact al_intro fun b2 w3 hb2 B2 e3 s3 => h _ 0 0 w3 rfl (RowAt.nil _) (ext_trans hW e3)
  refine al_intro fun b4 w5 hb4 B4 e5 s5 => ?_
  refine ⟨fun oa on oc t W m => ∃ (k : Nat) (pre : List (Nat × List UInt8)) (out : List Lx), t = k ∧ k ≤ s.length ∧ m = s.length - k ∧ on = out.length ∧ partsM s 0 = pre ++ partsM (s.drop k) k ∧ scanL pre = (out, 0) ∧ out.length ≤ k ∧ OwnL encX W w.heap.size 41 oa on oc out ∧ Ext w W, ⟨_, 0, [], [], rfl, by omega, rfl, rfl, rfl, rfl, Nat.le_refl _, Owns.made B4 (by omega), e5⟩, ?_⟩
  rintro oa _ oc _ W m ⟨k, pre, out, rfl, hk, rfl, rfl, heq, hsc, hol, hO, he⟩ _
  refine br_split (fun hlt => ?_) (fun hge => ?_)
  · have hkl : k < s.length := by omega
    obtain ⟨c, r, hcr⟩ : ∃ c r, s.drop k = c :: r := ⟨s[k], s.drop (k + 1), List.drop_eq_getElem_cons hkl⟩
    have hck : s[k] = c := by have := List.drop_eq_getElem_cons hkl; rw [hcr] at this; exact (List.cons.inj this).1.symm
    obtain ⟨b1, b2⟩ := cutX_bd (c := c) (r := r)
    have hll : (c :: r).length = s.length - k := by rw [← hcr, List.length_drop]
    have hgt : ∀ j, (c :: r)[j]? = s[k + j]? := fun j => by rw [← hcr, List.getElem?_drop]
    have hp : partsM (s.drop k) k = (k, (c :: r).take (cutX (c :: r))) :: partsM (s.drop (k + cutX (c :: r))) (k + cutX (c :: r)) := by
      rw [hcr, partsM, ← hcr, List.drop_drop]
    have hsub : ∀ j, (s.take (k + j)).drop k = (c :: r).take j := fun j => by rw [List.drop_take, hcr, Nat.add_sub_cancel_left]
    rw [hp] at heq
    generalize hpart : (c :: r).take (cutX (c :: r)) = part at heq
    have hsw : (s.take (k + cutX (c :: r))).drop k = part := by rw [hsub, hpart]
    have hlp : part.length = cutX (c :: r) := by rw [← hpart, List.length_take]; omega
    have hhd : part.head? = some c := by rw [← hpart, List.head?_take, if_neg (by omega)]; rfl
    have hbad : ∀ e : Int, e ≠ 0 → (lexP k part).2 = e → scanL (partsM s 0) = ([], e) := fun e he hl => by rw [heq]; exact scanL_bad hsc hl he
    have zW := he.size
    refine al_stL rfl one4 fun b12 w14 hb12 B12 e14 s14 => ?_
    have E14 := ext_trans he e14
    have hO14 := hO.ext e14
    intro K15 hK15
    have k15 : ∀ (x : Lx) (w17 : World), lexP k part = ({ x with pos := (k : Int) }, 0) → Ext w w17 → Ext W w17 → Blk w17 b12 (cellsX x) 41 → K15 ((k + cutX (c :: r) : Nat) : Int) w17 := by
      intro x w17 hx E17 eW B17
      refine hK15 _ _ fun _ => ?_
      have z17 := eW.size
      have hO17 := hO.ext eW
      refine setX3 B17 fun w18 B18 c18 s18 => ?_
      have n12 : ¬ bk oa b12 := fun hh => by have := (hO.bk hh).2; omega
      have hO18 := hO17.chg c18 fun j hj hh => n12 (hh ▸ hj)
      obtain ⟨d0, d1, d2, d3⟩ := blk4x (x := { x with pos := (k : Int) }) B18
      refine ⟨_, d0, _, d1, _, d2, _, d3, ?_⟩
      have eW18 : Ext W w18 := ext_two eW c18 (by omega)
      have z18 := eW18.size
      refine OwnL.push slT_lex hO18 (by omega) { x with pos := (k : Int) } (by omega) (by omega) fun a25 c25 w26 o1 o2 o3 => ?_
      refine ⟨s.length - (k + cutX (c :: r)), by omega, k + cutX (c :: r), pre ++ [(k, part)], out ++ [{ x with pos := (k : Int) }], rfl, by omega, rfl, by simp, by rw [heq]; simp, ?_, by simp; omega, o1, ?_⟩
      · rw [scanL_app hsc, scanL_one hx]; rfl
      · exact ext_chgS (ext_trans he eW18) o2 fun j hj => (hO18.bk hj).1
    have lit : ∀ (b : UInt8), b = 60 ↔ (b.toNat : Int) = 60 := fun b => u8_lit (n := 60) (by omega)
    have lit2 : ∀ (b : UInt8), b = 62 ↔ (b.toNat : Int) = 62 := fun b => u8_lit (n := 62) (by omega)
    refine sidx_nat hkl ?_
    rw [hck]
    refine br_split (fun g60 => ?_) (fun g60 => ?_)
    · obtain rfl : c = 60 := (lit c).2 g60
      have hh0 : (60 :: r : List UInt8).head? = some 60 := rfl
      intro K29 hK29
      have k29e : cutX (60 :: r) = (60 :: r).length → (∀ i, i < (60 :: r : List UInt8).length → (60 :: r : List UInt8)[i]? ≠ some 62) → K29 (s.length : Int) w14 := by
        intro hc hno
        refine hK29 _ _ fun _ => ?_
        rw [decide_eq_true rfl, br_t]
        refine bad 3 w14 (hbad 3 (by decide) (lexP_open hhd fun i hi => ?_)) E14
        rw [← hpart, List.getElem?_take_of_lt (by omega)]
        exact hno i (by omega)
      have k29 : ∀ j, cutX (60 :: r) = j + 1 → (60 :: r : List UInt8)[j]? = some 62 → K29 ((k + j : Nat) : Int) w14 := by
        intro j hj h62
        refine hK29 _ _ fun _ => ?_
        rw [decide_eq_false (by omega), br_f, wrap_nat (by omega)]
        refine ssl_nat (by omega) (by omega) ?_
        rw [show k + j + 1 = k + cutX (60 :: r) by omega, hsw]
        have hlast : part.getLast? = some 62 := by
          rw [List.getLast?_eq_getElem?, hlp, ← hpart, List.getElem?_take_of_lt (by omega), show cutX (60 :: r) - 1 = j by omega]
          exact h62
        have hlx : lexP k part = if (readF part).2 = 0 then ({ (readF part).1 with pos := (k : Int) }, 0) else (zeroX, (readF part).2) := by
          unfold lexP; rw [if_neg (by rw [hhd]; simp), if_neg (by rw [hlast]; simp)]
        obtain ⟨mm, hmm⟩ := part_mid hhd hlast
        have hmml : mm.length ≤ 65536 := by
          have : part.length = mm.length + 2 := by rw [hmm]; simp
          omega
        rw [hmm]
        refine tagR_spec mm (by omega) fun w36 e36 => ⟨_, _, _, _, _, rfl, ?_⟩
        rw [← hmm]
        refine al_stL rfl one4 fun b42 w44 hb42 B42 e44 s44 => ?_
        have E44 := ext_trans (ext_trans E14 e36) e44
        refine br_split (fun ge => ?_) (fun ge => ?_)
        · rw [if_neg ge] at hlx
          exact bad _ w44 (hbad _ ge (by rw [hlx])) E44
        · rw [if_pos (Classical.not_not.1 ge)] at hlx
          obtain ⟨f0, f1, f2, f3⟩ := blk4x B42
          refine ⟨_, f0, _, f1, _, f2, _, f3, ?_⟩
          have z36 := e36.size
          have z44 := e44.size
          refine stX ((B12.ext e36).ext e44) rfl fun w51 B51 c51 s51 => ?_
          exact k15 (readF part).1 w51 hlx (ext_two E44 c51 (by omega)) (ext_two (ext_trans (ext_trans e14 e36) e44) c51 (by omega)) B51
      refine ⟨fun t W' mm => ∃ j : Nat, t = ((k + j : Nat) : Int) ∧ k + j ≤ s.length ∧ mm = s.length - j ∧ W' = w14 ∧ ∀ i, i < j → (60 :: r : List UInt8)[i]? ≠ some 62, ⟨_, 0, rfl, by omega, rfl, rfl, fun i hi => absurd hi (by omega)⟩, ?_⟩
      rintro _ W' mm ⟨j, rfl, hj, rfl, rfl, hno⟩ _
      refine br_split (fun g2 => ?_) (fun g2 => ?_)
      · have hjl : k + j < s.length := by omega
        have hget : (60 :: r : List UInt8)[j]? = some s[k + j] := by rw [hgt, List.getElem?_eq_getElem hjl]
        refine sidx_nat hjl (br_split (fun g3 => ?_) (fun g3 => ?_))
        · refine ⟨s.length - (j + 1), by omega, j + 1, by rw [wrap_nat (by omega)]; rfl, by omega, rfl, rfl, fun i hi => ?_⟩
          by_cases hij : i = j
          · rw [hij, hget]
            intro hh
            exact g3 ((lit2 _).1 (Option.some.inj hh))
          · exact hno i (by omega)
        · have h62 : (60 :: r : List UInt8)[j]? = some 62 := by rw [hget, (lit2 _).2 (Classical.not_not.1 g3)]
          exact k29 j (cut_lt hh0 h62 hno) h62
      · have : k + j = s.length := by omega
        rw [this]
        have hno' : ∀ i, i < (60 :: r : List UInt8).length → (60 :: r : List UInt8)[i]? ≠ some 62 := fun i hi => hno i (by omega)
        exact k29e (cut_le hh0 hno') hno'
    · have hc60 : ¬ c = 60 := fun hh => g60 ((lit c).1 hh)
      have hh0 : ¬ (c :: r : List UInt8).head? = some 60 := by simpa using hc60
      intro K59 hK59
      have k59 : K59 ((k + cutX (c :: r) : Nat) : Int) w14 := by
        refine hK59 _ _ fun _ => ?_
        refine ssl_nat (by omega) (by omega) ?_
        rw [hsw]
        have hlx : lexP k part = if checkC part = 0 then (⟨1, [], part, (k : Int)⟩, 0) else (zeroX, 11) := by
          unfold lexP; rw [if_pos (by rw [hhd]; simpa using hc60)]
        refine Check_spec' part fun w64 e64 => ⟨_, rfl, br_split (fun ge => ?_) (fun ge => ?_)⟩
        · rw [if_neg ge] at hlx
          exact bad 11 w64 (hbad 11 (by decide) (by rw [hlx])) (ext_trans E14 e64)
        · rw [if_pos (Classical.not_not.1 ge)] at hlx
          refine ssl_nat (by omega) (by omega) ?_
          rw [hsw]
          refine stX (B12.ext e64) rfl fun w69 B69 c69 s69 => ?_
          exact k15 ⟨1, [], part, 0⟩ w69 hlx (ext_two (ext_trans E14 e64) c69 (by omega)) (ext_two (ext_trans e14 e64) c69 (by omega)) B69
      refine ⟨fun t W' mm => ∃ j : Nat, t = ((k + j : Nat) : Int) ∧ k + j ≤ s.length ∧ mm = s.length - j ∧ W' = w14 ∧ ∀ i, i < j → (c :: r : List UInt8)[i]? ≠ some 60, ⟨_, 0, rfl, by omega, rfl, rfl, fun i hi => absurd hi (by omega)⟩, ?_⟩
      rintro _ W' mm ⟨j, rfl, hj, rfl, rfl, hno⟩ _
      refine br_split (fun g2 => ?_) (fun g2 => ?_)
      · have hjl : k + j < s.length := by omega
        have hget : (c :: r : List UInt8)[j]? = some s[k + j] := by rw [hgt, List.getElem?_eq_getElem hjl]
        refine sidx_nat hjl (br_split (fun g3 => ?_) (fun g3 => ?_))
        · refine ⟨s.length - (j + 1), by omega, j + 1, by rw [wrap_nat (by omega)]; rfl, by omega, rfl, rfl, fun i hi => ?_⟩
          by_cases hij : i = j
          · rw [hij, hget]
            intro hh
            exact g3 ((lit _).1 (Option.some.inj hh))
          · exact hno i (by omega)
        · have h62 : (c :: r : List UInt8)[j]? = some 60 := by rw [hget, (lit _).2 (Classical.not_not.1 g3)]
          rw [cut_tx hh0 h62 hno] at k59
          exact k59
      · have hno' : ∀ i, i < (c :: r : List UInt8).length → (c :: r : List UInt8)[i]? ≠ some 60 := fun i hi => hno i (by omega)
        rw [cut_te hh0 hno', show k + (c :: r).length = k + j by omega] at k59
        exact k59
  · have hkk : k = s.length := by omega
    subst hkk
    rw [List.drop_length, partsM, List.append_nil] at heq
    rw [heq, hsc] at h
    exact h oa _ oc W rfl (OwnL.out hO) he
/- taking out the tags -/
theorem strip_take {L : List Lx} {k : Nat} (hkL : k < L.length) : stripX (L.take (k + 1)) = stripX (L.take k) ++ (if L[k].k = 1 then L[k].vl else []) := by
  rw [List.take_succ_eq_append_getElem hkL, strip_app]
  unfold stripX
  rw [List.flatMap_cons, List.flatMap_nil, List.append_nil]
set_option maxRecDepth 20000 in
theorem StripR_spec (s : List UInt8) (h : ∀ w', Ext w w' → R (.returned (.tuple ⟨[.string ⟨⟨stripX (scanF s).1⟩⟩, .int .i64 (scanF s).2]⟩)) w') : Calls Tryz.prog F_ref09_Strip ⟨[.string ⟨⟨s⟩⟩]⟩ w R := by
  apply c_ref09_Strip
  obtain ⟨hT, hll⟩ := scan_small s
  refine ScanR_spec s fun a n c w3 hn hL e3 => ⟨_, _, _, _, rfl, ?_⟩
  generalize hl : (scanF s).1 = L at *
  refine ⟨fun o t W m => ∃ k : Nat, t = k ∧ k ≤ n ∧ m = n - k ∧ o = stripX (L.take k) ∧ Ext w3 W, ⟨_, 0, rfl, by omega, rfl, rfl, Below.refl _ _⟩, ?_⟩
  rintro _ _ W m ⟨k, rfl, hk, rfl, rfl, he⟩ _
  have hpk := print_take L k
  have hsk := strip_len (L.take k)
  refine br_split (fun hlt => ?_) (fun hge => ?_)
  · have hkL : k < L.length := by omega
    have hss := strip_take hkL
    obtain ⟨q, hq, c0, c1, c2, c3⟩ := get_lx (hL.ext he) hkL
    have hx := totX_get hkL
    refine hq _ ⟨_, c0, br_split (fun g1 => hq _ ⟨_, c2, by omega, ?_⟩) (fun g1 => ?_)⟩
    · rw [if_pos g1] at hss
      exact ⟨n - (k + 1), by omega, k + 1, by rw [wrap_nat (by omega)], by omega, rfl, by rw [hss], he⟩
    · rw [if_neg g1, List.append_nil] at hss
      exact ⟨n - (k + 1), by omega, k + 1, by rw [wrap_nat (by omega)], by omega, rfl, by rw [hss], he⟩
  · have hkn : k = L.length := by omega
    rw [hkn, List.take_length]
    exact h W (ext_trans e3 he)
end Go.Proofs
namespace Go.Proofs
open Go Go.Sh Go.RowKit

variable {R : Ending → World → Prop} {w : World}
theorem GreatS_spec (s : List UInt8) (h : ∀ b, R (.returned (.bool b)) w) : Calls Tryz.prog F_ref09_Great ⟨[.string ⟨⟨s⟩⟩]⟩ w R := by
  apply c_ref09_Great
  exact br_split (fun _ => br_split (fun _ => h _) (fun _ => h _)) (fun _ => h _)
set_option maxRecDepth 20000 in
theorem MarkupScans_spec (s : List UInt8) (hM : Mk w) (h : ∀ w', Ext w w' → R (.returned (.bool true)) w') :
    Calls Tryz.prog F_law09_MarkupScans ⟨[.string ⟨⟨s⟩⟩]⟩ w R := by
  apply c_law09_MarkupScans
  have aw : ∀ v, Ext w v → Calls Tryz.prog F_law09_awake ⟨[]⟩ v (fun e w' => ∃ x : Bool, e = .returned (.bool x) ∧ R (.returned (.bool x)) w') := fun v ev => awake9_spec (hM.ext ev) fun v' e' => ⟨_, rfl, h v' (ext_trans ev e')⟩
  obtain ⟨_, hll⟩ := scan_small s
  refine GreatS_spec s fun b => ⟨_, rfl, br_cases (fun _ => aw w (Below.refl _ _)) (fun _ => ?_)⟩
  refine Scan_spec s hM fun a n c w9 hn hO e9 => ⟨_, _, _, _, rfl, ?_⟩
  have hL := OwnL.out hO
  refine ScanR_spec s fun a' n' c' w13 hn' hL' e13 => ⟨_, _, _, _, rfl, ?_⟩
  have E13 := ext_trans e9 e13
  refine Strip_spec s (hM.ext E13) fun w17 e17 => ⟨_, _, rfl, ?_⟩
  have E17 := ext_trans E13 e17
  refine StripR_spec s fun w21 e21 => ⟨_, _, rfl, ?_⟩
  have E21 := ext_trans E17 e21
  refine SameX_spec (scanF s).1 (scanF s).1 (((hL.ext e13).ext e17).ext e21) ((hL'.ext e17).ext e21) (by omega) fun w25 e25 => ⟨_, rfl, ?_⟩
  have E25 := ext_trans E21 e25
  simp only [eq_self, decide_true, br_t]
  refine Tags_spec fun ta tc w28 hT e28 => ⟨_, _, _, rfl, ?_⟩
  refine TagsR_spec fun tb w31 htb hT' e31 => ⟨_, _, _, rfl, ?_⟩
  refine EqualStr_spec tagNames tagNames ((OwnL.out hT).ext e31) hT' (by decide) fun w34 e34 => ⟨_, rfl, ?_⟩
  rw [decide_eq_true rfl, br_t]
  exact aw w34 (ext_trans (ext_trans (ext_trans E25 e28) e31) e34)
end Go.Proofs
namespace Go.Proofs
open Go Go.Sh Go.RowKit

variable {R : Ending → World → Prop} {w : World}
theorem kb {K : Bool → World → Prop} {w : World} {b : Bool} {p : Prop} [Decidable p] (h : b = true ↔ p) (hk : K (decide p) w) : K b w := by
  have : b = decide p := by rw [Bool.eq_iff_iff, decide_eq_true_eq]; exact h
  rw [this]; exact hk
theorem kf {K : Bool → World → Prop} {w : World} {p : Prop} [Decidable p] (hk : K (decide p) w) (h : ¬ p) : K false w := by rw [decide_eq_false h] at hk; exact hk
/- the same reasons, in the order of the reference -/
theorem chkOne_ref (x : Lx) (pt : Bool) (at_ : Int) : chkOne x pt at_ = if x.k < 1 ∨ 4 < x.k then 8 else if x.k = 1 ∧ x.nm ≠ [] then 12 else if x.k ≠ 1 ∧ ¬ (knownB x.nm = true ∧ emptyB x.nm = decide (x.k = 4)) then 12
    else if x.k = 1 ∧ x.vl = [] then 5 else if x.k = 1 ∧ checkC x.vl ≠ 0 then 11 else if x.k = 1 ∧ pt = true then 10 else if x.k = 3 ∧ x.vl ≠ [] then 3 else if x.k ≠ 1 ∧ x.k ≠ 3 ∧ valB x.nm x.vl = false then 3 else if x.pos ≠ at_ then 9 else 0 := by
  unfold chkOne singleX rightX
  by_cases h1 : x.k = 1
  · have a1 : ¬ (x.k < 1 ∨ 4 < x.k) := by omega
    have a2 : ¬ x.k = 3 := by omega
    simp only [h1, a1, if_true, if_false, true_and, ne_eq, not_true, false_and]
    rw [if_neg (by omega : ¬ ((1 : Int) < 1 ∨ (4 : Int) < 1))]
    by_cases h2 : x.nm = []
    · by_cases h3 : x.vl = []
      · simp [h2, h3]
      · by_cases h4 : checkC x.vl = 0
        · simp [h2, h3, h4]
        · simp [h2, h3, h4]
    · simp [h2]
  · simp only [h1, false_and, if_false, ne_eq, not_false_eq_true, true_and]
    by_cases h5 : x.k = 2 ∨ x.k = 3 ∨ x.k = 4
    · rw [if_pos h5, if_neg (by omega : ¬ (x.k < 1 ∨ 4 < x.k))]
      by_cases h6 : knownB x.nm = true ∧ emptyB x.nm = decide (x.k = 4)
      · rw [if_pos h6, if_neg (fun hh => hh rfl : ¬ ¬ (0 : Int) = 0), if_neg (fun hh => hh h6 : ¬ ¬ (knownB x.nm = true ∧ emptyB x.nm = decide (x.k = 4)))]
        by_cases h7 : x.k = 3
        · by_cases h8 : x.vl = []
          · simp [h7, h8]
          · simp [h7, h8]
        · cases h8 : valB x.nm x.vl
          · simp [h7]
          · simp [h7]
      · rw [if_neg h6, if_pos (by decide : ¬ (12 : Int) = 0), if_pos h6]
    · rw [if_neg h5, if_pos (by decide : ¬ (8 : Int) = 0), if_pos (by omega : x.k < 1 ∨ 4 < x.k)]
set_option maxRecDepth 20000 in
theorem CheckR_spec {S : Nat → Prop} {a : Option Addr} {n c : Nat} (L : List Lx) (hL : RowAt encX S w a n L) (hT : totX L ≤ 1000000000) (h : ∀ w', Ext w w' → R (.returned (.int .i64 (chkX L))) w') :
    Calls Tryz.prog F_ref09_Check ⟨[.slice a n c]⟩ w R := by
  apply c_ref09_Check
  have hn : n = L.length := hL.1
  have hln := totX_len L
  refine ⟨fun at_ t W m => ∃ k : Nat, t = k ∧ k ≤ n ∧ m = n - k ∧ at_ = ((printX (L.take k)).length : Int) ∧ chkX L = chkGo (L.drop k) (lastK false (L.take k)) (printX (L.take k)).length ∧ Ext w W, ⟨_, 0, rfl, by omega, rfl, rfl, rfl, Below.refl _ _⟩, ?_⟩
  rintro _ _ W m ⟨k, rfl, hk, rfl, rfl, heq, he⟩ _
  have hpk := print_take L k
  refine br_split (fun hlt => ?_) (fun hge => ?_)
  · have hkL : k < L.length := by omega
    obtain ⟨q, hq, c0, c1, c2, c3⟩ := get_lx (hL.ext he) hkL
    have hx := totX_get hkL
    refine hq _ ⟨_, c0, _, c1, _, c2, _, c3, ?_⟩
    refine al_stL rfl one4 fun bx w15 hbx Bx e15 s15 => ?_
    have E15 := ext_trans he e15
    rw [List.drop_eq_getElem_cons hkL, chkGo, chkOne_ref] at heq
    have hgk : L[k]? = some L[k] := List.getElem?_eq_getElem hkL
    generalize hxk : L[k] = x at *
    obtain ⟨d0, d1, d2, d3⟩ := blk4x (x := x) Bx
    have out : ∀ (e : Int) (v : World), chkX L = e → Ext w15 v → R (.returned (.int .i64 e)) v := fun e v hh ev => by rw [← hh]; exact h v (ext_trans E15 ev)
    intro K16 hK16
    have k16 : ∀ v, Ext w15 v → K16 (decide (x.k < 1 ∨ 4 < x.k)) v := by
      intro v ev
      refine hK16 _ _ fun _ => br_split (fun g1 => out 8 v (by rw [if_pos g1] at heq; rw [heq]; rfl) ev) (fun g1 => ?_)
      rw [if_neg g1] at heq
      intro K19 hK19
      have k19 : K19 (decide (x.k = 1 ∧ x.nm ≠ [])) v := by
        refine hK19 _ _ fun _ => br_split (fun g2 => out 12 v (by rw [if_pos g2] at heq; rw [heq]; rfl) ev) (fun g2 => ?_)
        rw [if_neg g2] at heq
        intro K22 hK22
        have k22 : ∀ v2, Ext w15 v2 → K22 (decide (x.k ≠ 1 ∧ ¬ (knownB x.nm = true ∧ emptyB x.nm = decide (x.k = 4)))) v2 := by
          intro v2 ev2
          refine hK22 _ _ fun _ => br_split (fun g3 => out 12 v2 (by rw [if_pos g3] at heq; rw [heq]; rfl) ev2) (fun g3 => ?_)
          rw [if_neg g3] at heq
          intro K25 hK25
          have k25 : K25 (decide (x.k = 1 ∧ x.vl = [])) v2 := by
            refine hK25 _ _ fun _ => br_split (fun g4 => out 5 v2 (by rw [if_pos g4] at heq; rw [heq]; rfl) ev2) (fun g4 => ?_)
            rw [if_neg g4] at heq
            intro K28 hK28
            have k28 : ∀ v3, Ext w15 v3 → K28 (decide (x.k = 1 ∧ checkC x.vl ≠ 0)) v3 := by
              intro v3 ev3
              refine hK28 _ _ fun _ => br_split (fun g5 => out 11 v3 (by rw [if_pos g5] at heq; rw [heq]; rfl) ev3) (fun g5 => ?_)
              rw [if_neg g5] at heq
              intro K31 hK31
              have k31 : K31 (decide (x.k = 1 ∧ lastK false (L.take k) = true)) v3 := by
                refine hK31 _ _ fun _ => br_split (fun g6 => out 10 v3 (by rw [if_pos g6] at heq; rw [heq]; rfl) ev3) (fun g6 => ?_)
                rw [if_neg g6] at heq
                intro K34 hK34
                have k34 : K34 (decide (x.k = 3 ∧ x.vl ≠ [])) v3 := by
                  refine hK34 _ _ fun _ => br_split (fun g7 => out 3 v3 (by rw [if_pos g7] at heq; rw [heq]; rfl) ev3) (fun g7 => ?_)
                  rw [if_neg g7] at heq
                  intro K37 hK37
                  have k37 : ∀ v4, Ext w15 v4 → K37 (decide (x.k ≠ 1 ∧ x.k ≠ 3 ∧ valB x.nm x.vl = false)) v4 := by
                    intro v4 ev4
                    refine hK37 _ _ fun _ => br_split (fun g8 => out 3 v4 (by rw [if_pos g8] at heq; rw [heq]; rfl) ev4) (fun g8 => ?_)
                    rw [if_neg g8] at heq
                    refine ⟨_, cell_ext d3 ev4, br_split (fun g9 => out 9 v4 (by rw [if_pos g9] at heq; rw [heq]; rfl) ev4) (fun g9 => ?_)⟩
                    rw [if_neg g9, if_neg (by simp)] at heq
                    have hf : formF x = textF x := form_text fun h3 => Classical.byContradiction fun hv => g7 ⟨h3, hv⟩
                    refine ⟨_, cell_ext d0 ev4, _, cell_ext d1 ev4, _, cell_ext d2 ev4, _, cell_ext d3 ev4, ?_⟩
                    refine form_spec x (by omega) (by omega) fun w46 e46 => ⟨_, rfl, ?_⟩
                    have htl := text_le x
                    rw [hf]
                    refine ⟨n - (k + 1), by omega, k + 1, by rw [wrap_nat (by omega)], by omega, rfl, ?_, ?_, ext_trans E15 (ext_trans ev4 e46)⟩
                    · rw [print_succ hkL, hxk, List.length_append, wrap_id (by omega)]; omega
                    · rw [heq, print_succ hkL, lastK_succ hkL, hxk, List.length_append]
                  refine ⟨_, cell_ext d0 ev3, br_split (fun g8 => ⟨_, cell_ext d0 ev3, br_split (fun g9 => ?_) (fun g9 => ?_)⟩) (fun g8 => ?_)⟩
                  · refine ⟨_, cell_ext d1 ev3, _, cell_ext d2 ev3, rightR_spec x.nm x.vl (by omega) fun v4 ev4 => ⟨_, rfl, kb ?_ (k37 v4 (ext_trans ev3 ev4))⟩⟩
                    rw [Bool.not_eq_true']
                    exact ⟨fun hh => ⟨g8, g9, hh⟩, fun hh => hh.2.2⟩
                  · exact kf (k37 v3 ev3) (fun hh => absurd hh.2.1 g9)
                  · exact kf (k37 v3 ev3) (fun hh => absurd hh.1 g8)
                refine ⟨_, cell_ext d0 ev3, br_split (fun g7 => ⟨_, cell_ext d2 ev3, kb ?_ k34⟩) (fun g7 => kf k34 (fun hh => absurd hh.1 g7))⟩
                rw [decide_eq_true_eq]
                exact ⟨fun hh => ⟨g7, hh⟩, fun hh => hh.2⟩
              refine ⟨_, cell_ext d0 ev3, br_split (fun g6 => br_split (fun gt => ?_) (fun gt => ?_)) (fun g6 => kf k31 (fun hh => absurd hh.1 g6))⟩
              · obtain ⟨j, rfl⟩ : ∃ j, k = j + 1 := ⟨k - 1, by omega⟩
                have hj : j < L.length := by omega
                obtain ⟨q', hq', c0', _⟩ := get_lx (hL.ext (ext_trans E15 ev3)) hj
                rw [show ((j + 1 : Nat) : Int) - 1 = (j : Int) by omega, wrap_id (by omega)]
                refine hq' _ ⟨_, c0', kb ?_ k31⟩
                rw [decide_eq_true_eq, lastK_succ hj, decide_eq_true_eq]
                exact ⟨fun hh => ⟨g6, hh⟩, fun hh => hh.2⟩
              · have : k = 0 := by omega
                subst this
                exact kf k31 (fun hh => by rw [List.take_zero] at hh; cases hh.2)
            refine ⟨_, cell_ext d0 ev2, br_split (fun g5 => ⟨_, cell_ext d2 ev2, Check_spec' x.vl fun v3 ev3 => ⟨_, rfl, kb ?_ (k28 v3 (ext_trans ev2 ev3))⟩⟩) (fun g5 => kf (k28 v2 ev2) (fun hh => absurd hh.1 g5))⟩
            rw [decide_eq_true_eq]
            exact ⟨fun hh => ⟨g5, hh⟩, fun hh => hh.2⟩
          refine ⟨_, cell_ext d0 ev2, br_split (fun g4 => ⟨_, cell_ext d2 ev2, kb ?_ k25⟩) (fun g4 => kf k25 (fun hh => absurd hh.1 g4))⟩
          rw [decide_eq_true_eq]
          exact ⟨fun hh => ⟨g4, hh⟩, fun hh => hh.2⟩
        unfold drw
        have evd := ext_trans ev (ext_drew v)
        refine ⟨_, cell_ext d0 evd, br_split (fun g3 => ⟨_, cell_ext d1 evd, ⟨knownR_spec x.nm fun v2 ev2 => ⟨_, rfl, br_cases (fun gn => ?_) (fun gn => ?_)⟩, trivial⟩⟩) (fun g3 => ?_)⟩
        · have hk : K22 true v2 := kb ⟨fun _ => ⟨g3, fun hh => by rw [hh.1] at gn; cases gn⟩, fun _ => rfl⟩ (k22 v2 (ext_trans evd ev2))
          repeat' (first | exact hk | exact trivial | apply And.intro)
        · have gn : knownB x.nm = true := by simpa using gn
          have E2 := ext_trans evd ev2
          have hv : K22 (decide (decide (x.k = 4) ≠ emptyB x.nm)) v2 := by
            refine kb ?_ (k22 v2 E2)
            rw [decide_eq_true_eq]
            exact ⟨fun hh => ⟨g3, fun h2 => hh h2.2.symm⟩, fun hh h2 => hh.2 ⟨gn, h2.symm⟩⟩
          have f0 := cell_ext d0 E2
          have f1 := cell_ext d1 E2
          exact ⟨⟨_, f0, _, f1, emptyR_spec x.nm ⟨_, rfl, hv⟩, trivial⟩, ⟨⟨_, f0, _, f1, emptyR_spec x.nm ⟨_, rfl, hv⟩, trivial⟩, ⟨_, f1, ⟨_, f0, emptyR_spec x.nm ⟨_, rfl, hv⟩, trivial⟩, emptyR_spec x.nm ⟨_, rfl, _, f0, hv⟩, trivial⟩, trivial⟩, trivial⟩
        · have hk : K22 false v.drew := kf (k22 v.drew evd) (fun hh => absurd hh.1 g3)
          repeat' (first | exact hk | exact trivial | apply And.intro)
      refine ⟨_, cell_ext d0 ev, br_split (fun g2 => ⟨_, cell_ext d1 ev, kb ?_ k19⟩) (fun g2 => kf k19 (fun hh => absurd hh.1 g2))⟩
      rw [decide_eq_true_eq]
      exact ⟨fun hh => ⟨g2, hh⟩, fun hh => hh.2⟩
    refine ⟨_, d0, br_split (fun g1 => kb ⟨fun _ => .inl g1, fun _ => rfl⟩ (k16 w15 (Below.refl _ _))) (fun g1 => ⟨_, d0, kb ?_ (k16 w15 (Below.refl _ _))⟩)⟩
    rw [decide_eq_true_eq]
    exact ⟨.inr, fun hh => hh.resolve_left g1⟩
  · have hkn : k = L.length := by omega
    subst hkn
    rw [List.drop_length, List.take_length, chkGo] at heq
    rw [List.take_length]
    refine br_split (fun g => ?_) (fun g => ?_)
    · rw [if_pos (by omega)] at heq; rw [← heq]; exact h W he
    · rw [if_neg (by omega)] at heq; rw [← heq]; exact h W he
end Go.Proofs
namespace Go.Proofs
open Go Go.Sh Go.RowKit

variable {R : Ending → World → Prop} {w : World}
/- lexemes that are checked have the form of their text -/
theorem chk_form {L : List Lx} : ∀ {pt : Bool} {at_ : Nat}, chkGo L pt at_ = 0 → ∀ x ∈ L, formF x = textF x := by
  induction L with
  | nil => intro _ _ _ x hx; cases hx
  | cons y r ih =>
    intro pt at_ h x hx
    obtain ⟨h1, h2⟩ := chkGo_cons.1 h
    rcases List.mem_cons.1 hx with rfl | hx
    · refine form_text fun h3 => ?_
      have := (chk_inv h1).2.2.1 (by omega)
      unfold rightX at this
      rw [if_pos h3] at this
      exact of_decide_eq_true this
    · exact ih h2 x hx
set_option maxRecDepth 20000 in
theorem PrintR_spec {S : Nat → Prop} {a : Option Addr} {n c : Nat} (L : List Lx) (hL : RowAt encX S w a n L) (hT : totX L ≤ 1000000000)
    (h : ∀ w', Ext w w' → R (.returned (.tuple ⟨[.string ⟨⟨if chkX L ≠ 0 then [] else printX L⟩⟩, .int .i64 (if chkX L ≠ 0 then 1 else 0)]⟩)) w') : Calls Tryz.prog F_ref09_Print ⟨[.slice a n c]⟩ w R := by
  apply c_ref09_Print
  have hn : n = L.length := hL.1
  have hln := totX_len L
  refine CheckR_spec L hL hT fun w3 e3 => ⟨_, rfl, br_split (fun g => ?_) (fun g => ?_)⟩
  · have := h w3 e3; rwa [if_pos g, if_pos g] at this
  rw [if_neg g, if_neg g] at h
  have hck : chkX L = 0 := Classical.not_not.1 g
  refine ⟨fun o t W m => ∃ k : Nat, t = k ∧ k ≤ n ∧ m = n - k ∧ o = printX (L.take k) ∧ Ext w W, ⟨_, 0, rfl, by omega, rfl, rfl, e3⟩, ?_⟩
  rintro _ _ W m ⟨k, rfl, hk, rfl, rfl, he⟩ _
  have hpk := print_take L k
  refine br_split (fun hlt => ?_) (fun hge => ?_)
  · have hkL : k < L.length := by omega
    obtain ⟨q, hq, c0, c1, c2, c3⟩ := get_lx (hL.ext he) hkL
    have hx := totX_get hkL
    have htl := text_le L[k]
    refine hq _ ⟨_, c0, _, c1, _, c2, _, c3, form_spec L[k] (by omega) (by omega) fun w17 e17 => ⟨_, rfl, ?_⟩⟩
    rw [chk_form hck _ (List.getElem_mem hkL)]
    refine ⟨by omega, n - (k + 1), by omega, k + 1, by rw [wrap_nat (by omega)], by omega, rfl, by rw [print_succ hkL], ext_trans he e17⟩
  · have hkn : k = L.length := by omega
    subst hkn
    rw [List.take_length]
    exact h W he

set_option maxRecDepth 20000 in
theorem NestedR_spec {S : Nat → Prop} {a : Option Addr} {n c : Nat} (L : List Lx) (hL : RowAt encX S w a n L) (hT : totX L ≤ 1000000000) (h : ∀ w', Ext w w' → R (.returned (.int .i64 (nestX L))) w') :
    Calls Tryz.prog F_ref09_Nested ⟨[.slice a n c]⟩ w R := by
  apply c_ref09_Nested
  have hn : n = L.length := hL.1
  have hln := totX_len L
  refine CheckR_spec L hL hT fun w3 e3 => ⟨_, rfl, br_split (fun g => ?_) (fun g => ?_)⟩
  · have := h w3 e3; unfold nestX at this; rwa [if_pos g] at this
  unfold nestX at h
  rw [if_neg g] at h
  refine al_intro fun b5 w6 hb5 B5 e6 s6 => ?_
  have z6 := e6.size
  refine ⟨fun oa on oc t W m => ∃ (k : Nat) (st : List (List UInt8)), t = k ∧ k ≤ n ∧ m = n - k ∧ st.length ≤ 16 ∧ on = st.length ∧ OwnL Sh.encStr W w3.heap.size 9 oa on oc st.reverse ∧ nestGo L [] = nestGo (L.drop k) st ∧ Ext w3 W, ⟨_, 0, [], rfl, by omega, rfl, by simp, rfl, Owns.made B5 (by omega), rfl, e6⟩, ?_⟩
  rintro oa on oc _ W m ⟨k, st, rfl, hk, rfl, hst, rfl, hO, heq, he⟩ _
  have z := he.size
  refine br_split (fun hlt => ?_) (fun hge => ?_)
  · have hkL : k < L.length := by omega
    obtain ⟨q, hq, c0, c1, c2, c3⟩ := get_lx (hL.ext (ext_trans e3 he)) hkL
    rw [List.drop_eq_getElem_cons hkL, nestGo] at heq
    refine hq _ ⟨_, c0, ?_⟩
    generalize hxk : L[k] = x at *
    refine br_split (fun g2 => hq _ ⟨_, c1, ?_⟩) (fun g2 => br_split (fun g3 => ?_) (fun g3 => ?_))
    · rw [if_pos g2] at heq
      refine OwnL.push slT_strM hO (by omega) x.nm (by omega) (by omega) fun a' c' w24 o1 o2 o3 => ?_
      have E24 : Ext w3 w24 := ext_chgS he o2 fun j hj => (hO.bk hj).1
      refine br_split (fun g16 => ?_) (fun g16 => ?_)
      · rw [if_pos (by omega)] at heq
        rw [← heq]; exact h w24 (ext_trans e3 E24)
      · rw [if_neg (by omega)] at heq
        refine ⟨n - (k + 1), by omega, k + 1, x.nm :: st, by rw [wrap_nat (by omega)], by omega, rfl, by rw [List.length_cons]; omega, by rw [List.length_cons], ?_, heq, E24⟩
        rw [List.reverse_cons]; exact o1
    · rw [if_neg g2, if_pos g3] at heq
      intro K26 hK26
      have hOd := hO.ext (ext_drew W)
      have Ed := ext_trans he (ext_drew W)
      unfold drw
      refine br_split (fun g4 => ?_) (fun g4 => ?_)
      · have hs0 : st = [] := List.length_eq_zero_iff.1 (by omega)
        subst hs0
        have hp : popS x.nm [] = none := rfl
        rw [hp] at heq
        have := h _ (ext_trans e3 Ed)
        rwa [heq] at this
      · obtain ⟨t, st', rfl⟩ : ∃ t st', st = t :: st' := by
          cases st with
          | nil => exact absurd rfl g4
          | cons t st' => exact ⟨t, st', rfl⟩
        have hlr : (t :: st').reverse.length = st'.length + 1 := by simp
        rw [List.length_cons] at *
        rw [show ((st'.length + 1 : Nat) : Int) - 1 = (st'.length : Int) by omega, wrap_id (by omega)]
        obtain ⟨q', hq', cq⟩ := get_str (OwnL.out hOd) (k := st'.length) (by rw [hlr]; omega)
        have hlast : (t :: st').reverse[st'.length]'(by rw [hlr]; omega) = t := by simp
        rw [hlast] at cq
        refine hq' _ ⟨_, cq, hq _ ⟨_, cell_ext c1 (ext_drew W), br_split (fun g5 => ?_) (fun g5 => ?_)⟩⟩
        · have hp : popS x.nm (t :: st') = none := if_neg g5
          rw [hp] at heq
          have := h _ (ext_trans e3 Ed)
          rwa [heq] at this
        · have hp : popS x.nm (t :: st') = some st' := if_pos (Classical.not_not.1 g5)
          rw [hp] at heq
          refine hK26 _ fun _ => ?_
          rw [show ((st'.length + 1 : Nat) : Int) - 1 = (st'.length : Int) by omega, wrap_id (by omega)]
          have hcut := ownL_cut hOd (m := st'.length) (by omega)
          rw [List.reverse_cons, List.take_left' (by simp)] at hcut
          have hle := owns_le hOd
          refine sls_cut (by omega) ?_ ?_
          · intro p hp
            rcases hOd.2 with ⟨_, e2⟩ | ⟨gg, cap, cur, e1, _⟩
            · exact absurd e2 (by omega)
            · have e1 := (Value.slice.inj e1).1
              rw [e1] at hp; rw [← Option.some.inj hp]; rfl
          · exact ⟨n - (k + 1), by omega, k + 1, st', by rw [wrap_nat (by omega)], by omega, rfl, by omega, rfl, hcut, heq, Ed⟩
    · rw [if_neg g2, if_neg g3] at heq
      exact ⟨n - (k + 1), by omega, k + 1, st, by rw [wrap_nat (by omega)], by omega, rfl, hst, rfl, hO, heq, he⟩
  · have hkn : k = L.length := by omega
    subst hkn
    rw [List.drop_length, nestGo] at heq
    refine br_split (fun g5 => ?_) (fun g5 => ?_)
    · rw [if_neg (fun hh => by rw [hh] at g5; simp at g5)] at heq
      rw [← heq]; exact h W (ext_trans e3 he)
    · have hs0 : st = [] := List.length_eq_zero_iff.1 (by omega)
      rw [if_pos hs0] at heq
      rw [← heq]; exact h W (ext_trans e3 he)

theorem idx_none {p : Lx → Bool} {L : List Lx} (h : ∀ x ∈ L, p x = false) : L.findIdx? p = none := List.findIdx?_eq_none_iff.2 h
set_option maxRecDepth 20000 in
theorem FindR_spec {S : Nat → Prop} {a : Option Addr} {n c : Nat} (L : List Lx) (hL : RowAt encX S w a n L) (hT : totX L ≤ 1000000000) (off : Int)
    (h : ∀ w', Ext w w' → R (.returned (.tuple ⟨[.int .i64 (findX L off).1, .int .i64 (findX L off).2]⟩)) w') : Calls Tryz.prog F_ref09_Find ⟨[.slice a n c, .int .i64 off]⟩ w R := by
  apply c_ref09_Find
  have hn : n = L.length := hL.1
  have hln := totX_len L
  refine CheckR_spec L hL hT fun w3 e3 => ⟨_, rfl, br_split (fun g => ?_) (fun g => ?_)⟩
  · have := h w3 e3; unfold findX at this; rwa [if_pos g] at this
  unfold findX at h
  rw [if_neg g] at h
  have hck : chkX L = 0 := Classical.not_not.1 g
  have hpos : ∀ (k : Nat) (x : Lx), L[k]? = some x → 0 ≤ x.pos ∧ x.pos + (textF x).length ≤ 1000000000 := fun k x hx => by
    have := chk_after L false 0 hck k x hx
    have := print_le L
    omega
  refine ⟨fun t W m => ∃ k : Nat, t = k ∧ k ≤ n ∧ m = n - k ∧ (∀ j (hj : j < L.length), j < k → hitX off L[j] = false) ∧ Ext w W, ⟨_, 0, rfl, by omega, rfl, fun j hj hh => absurd hh (by omega), e3⟩, ?_⟩
  rintro _ W m ⟨k, rfl, hk, rfl, hno, he⟩ _
  refine br_split (fun hlt => ?_) (fun hge => ?_)
  · have hkL : k < L.length := by omega
    unfold drw
    have Ed := ext_trans he (ext_drew W)
    obtain ⟨q, hq, c0, c1, c2, c3⟩ := get_lx (hL.ext Ed) hkL
    have hx := totX_get hkL
    obtain ⟨p1, p2⟩ := hpos k L[k] (List.getElem?_eq_getElem hkL)
    have hfm := chk_form hck _ (List.getElem_mem hkL)
    have found : ∀ v, Ext w v → hitX off L[k] = true → R (.returned (.tuple ⟨[.int .i64 (k : Int), .int .i64 0]⟩)) v := by
      intro v ev hh
      have : L.findIdx? (hitX off) = some k := List.findIdx?_eq_some_iff_getElem.2 ⟨hkL, hh, fun j hj => by rw [hno j (by omega) hj]; simp⟩
      rw [this] at h
      exact h v ev
    have next : ∀ v, Ext w v → hitX off L[k] = false → ∃ m24 : Nat, m24 < n - k ∧ ∃ k' : Nat, IntKind.i64.wrap ((k : Int) + 1) = k' ∧ k' ≤ n ∧ m24 = n - k' ∧ (∀ j (hj : j < L.length), j < k' → hitX off L[j] = false) ∧ Ext w v := by
      intro v ev hh
      refine ⟨n - (k + 1), by omega, k + 1, by rw [wrap_nat (by omega)], by omega, rfl, fun j hj hjk => ?_, ev⟩
      by_cases hjk' : j = k
      · subst hjk'; exact hh
      · exact hno j hj (by omega)
    generalize hxk : L[k] = x at *
    refine hq _ ⟨_, c3, br_split (fun g1 => hq _ (hq _ ⟨_, c0, _, c1, _, c2, _, c3, ?_⟩)) (fun g1 => ?_)⟩
    · have fin : ∀ v, Ext w v → br (decide (off < IntKind.i64.wrap (x.pos + ((formF x).length : Int)))) (R (.returned (.tuple ⟨[.int .i64 (k : Int), .int .i64 0]⟩)) v) (∃ m24 : Nat, m24 < n - k ∧ ∃ k' : Nat, IntKind.i64.wrap ((k : Int) + 1) = k' ∧ k' ≤ n ∧ m24 = n - k' ∧ (∀ j (hj : j < L.length), j < k' → hitX off L[j] = false) ∧ Ext w v) := by
        intro v ev
        rw [hfm, wrap_id (by omega)]
        refine br_split (fun g2 => found v ev (hit_iff.2 ⟨g1, g2⟩)) (fun g2 => next v ev ?_)
        rw [Bool.eq_false_iff]
        exact fun hh => g2 (hit_iff.1 hh).2
      have fm : ∀ {K : Ending → World → Prop}, (∀ v, Ext W.drew v → K (.returned (.string ⟨⟨formF x⟩⟩)) v) → Calls Tryz.prog F_ref09_form ⟨[aggX x]⟩ W.drew K := fun hk => form_spec x (by omega) (by omega) hk
      exact ⟨⟨_, c3, fm fun v ev => ⟨_, rfl, fin v (ext_trans Ed ev)⟩, trivial⟩, fm fun v ev => ⟨_, rfl, _, cell_ext c3 ev, fin v (ext_trans Ed ev)⟩, trivial⟩
    · have hh : hitX off x = false := by
        rw [Bool.eq_false_iff]
        exact fun hh => g1 (hit_iff.1 hh).1
      exact ⟨⟨next _ Ed hh, trivial⟩, next _ Ed hh, trivial⟩
  · have hno' : L.findIdx? (hitX off) = none := idx_none fun y hy => by
      obtain ⟨j, hj, rfl⟩ := List.mem_iff_getElem.1 hy
      exact hno j hj (by omega)
    rw [hno'] at h
    exact h W he
set_option maxRecDepth 20000 in
theorem MarkupChecks_spec {S : Nat → Prop} {a : Option Addr} {n c : Nat} (L : List Lx) (off : Int) (hb : BigX L) (hoff : off ≤ 9223372036854775807) (hM : Mk w) (hL : RowAt encX S w a n L) (h : ∀ w', Ext w w' → R (.returned (.bool true)) w') :
    Calls Tryz.prog F_law09_MarkupChecks ⟨[.slice a n c, .int .i64 off]⟩ w R := by
  apply c_law09_MarkupChecks
  have aw : ∀ v, Ext w v → Calls Tryz.prog F_law09_awake ⟨[]⟩ v (fun e w' => ∃ x : Bool, e = .returned (.bool x) ∧ R (.returned (.bool x)) w') := fun v ev => awake9_spec (hM.ext ev) fun v' e' => ⟨_, rfl, h v' (ext_trans ev e')⟩
  refine GreatList_spec L hL hb fun w4 e4 => ⟨_, rfl, br_cases (fun _ => aw w4 e4) (fun g => ?_)⟩
  obtain ⟨_, hT⟩ := greatX_small g
  have hT : totX L ≤ 1000000000 := by omega
  refine Print_spec L (hL.ext e4) hT (hM.ext e4) fun w10 e10 => ⟨_, _, rfl, ?_⟩
  have E10 := ext_trans e4 e10
  refine PrintR_spec L (hL.ext E10) hT fun w14 e14 => ⟨_, _, rfl, ?_⟩
  have E14 := ext_trans E10 e14
  refine Find_spec L (hL.ext E14) hT off hoff (hM.ext E14) fun w18 e18 => ⟨_, _, rfl, ?_⟩
  have E18 := ext_trans E14 e18
  refine FindR_spec L (hL.ext E18) hT off fun w22 e22 => ⟨_, _, rfl, ?_⟩
  have E22 := ext_trans E18 e22
  refine Check_spec9 L (hL.ext E22) hT (hM.ext E22) fun w26 e26 => ⟨_, rfl, ?_⟩
  have E26 := ext_trans E22 e26
  refine CheckR_spec L (hL.ext E26) hT fun w29 e29 => ⟨_, rfl, ?_⟩
  have E29 := ext_trans E26 e29
  simp only [eq_self, decide_true, br_t]
  refine Nested_spec L (hL.ext E29) hT (hM.ext E29) fun w32 e32 => ⟨_, rfl, ?_⟩
  have E32 := ext_trans E29 e32
  refine NestedR_spec L (hL.ext E32) hT fun w35 e35 => ⟨_, rfl, ?_⟩
  simp only [eq_self, decide_true, br_t]
  exact aw w35 (ext_trans E32 e35)
end Go.Proofs
namespace Go.Proofs.YtdbpliomkkmoaaaGreatDoor
open Go Go.Sh Go.RowKit Go.ChangeShapes Go.WideShapes Go.ChangeAt

theorem len4 {α : Type} {l : List α} (h : l.length = 4) : ∃ a b c d, l = [a, b, c, d] := by
  match l, h with
  | [a, b, c, d], _ => exact ⟨a, b, c, d, rfl⟩
theorem own : ownKnob Tryz.prog.godebug = none := by kernel_rfl
theorem laidOut : laidOutB Tryz.prog = true := by kernel_rfl
theorem trod_iface {P : Program} {W : World} {fuel : Nat} {t : TypeId} {cs : List Value} {ms : Array (String × TypeId)} {nm : String} {d : DataW Unit} {p : List MemPlace} (hu : P.underlying t = some (.interface ms)) (h : DataW.trod (fun _ => ()) P W 0 (fun _ => true) false fuel t cs = some (.iface nm d, p)) : ∃ u v, cs = [.iface u v] := by
  cases fuel with
  | zero => simp [DataW.trod] at h
  | succ n =>
    unfold DataW.trod at h
    rw [hu] at h
    split at h <;> simp_all
theorem err_of {W : World} {n : String} {nm : String} {d : DataW Unit} {g : Nat} {ti : TypeId} {ms : Array (String × TypeId)} (h : Go.Lib.VarReads Tryz.prog W n (.iface nm d)) (hg : Tryz.prog.globalNamed n = some g) (ht : (Tryz.prog.globals[g]?).map (·.type) = some ti) (hi : Tryz.prog.underlying ti = some (.interface ms)) :
    ∃ t p, W.cell? ⟨g, 0, none⟩ = some (.iface t p) := by
  obtain ⟨g', t', cs, fuel, p, hg', ht', hv, hd⟩ := h
  obtain rfl := Option.some.inj (hg.symm.trans hg')
  obtain rfl := Option.some.inj (ht.symm.trans ht')
  obtain ⟨u, v, hc⟩ := trod_iface hi hd
  refine ⟨u, v, ?_⟩
  rw [World.var?_cell hg hv 0]
  have := congrArg (fun l => l[0]?) hc
  simpa using this
theorem mk_of {W : World} (h : laidMetH Tryz.prog Rows.markupScansRow.laid W) (hSh : W.ShapedOpen Tryz.prog) : Mk W := by
  have h := (show laidMet Tryz.prog Rows.markupScansRow.laid W from h)
  have e1 := Go.Lib.laidMet.reads h (n := "strconv.ErrSyntax") (d := Rows.laid_strconv_ErrSyntax) (.tail _ (.tail _ (.tail _ (.tail _ (.head _)))))
  have e2 := Go.Lib.laidMet.reads h (n := "strconv.ErrRange") (d := Rows.laid_strconv_ErrRange) (.tail _ (.tail _ (.tail _ (.head _))))
  exact ⟨Tryz.laysM145.s1_3 W hSh, err_of e1 (by kernel_rfl) (by kernel_rfl) Tryz.underlying53, err_of e2 (by kernel_rfl) (by kernel_rfl) Tryz.underlying53⟩

/- slices of lexemes, out of what a row says of the arguments -/
theorem row_buildQ {α : Type} {E : Enc α} {Q : α → Prop} {w : World} {a : Addr} {len : Nat} (hel : ∀ i, i < len → ∃ x : α, Q x ∧ ∀ j v, (E.enc x)[j]? = some v → w.cell? ((a.add (i * E.size)).add j) = some v) :
    ∃ L : List α, RowAt E (fun _ => True) w (some a) len L ∧ ∀ x ∈ L, Q x := by
  by_cases hl0 : len = 0
  · subst hl0; exact ⟨[], RowAt.nil _, fun x hx => by cases hx⟩
  obtain ⟨b, o, rfl⟩ : ∃ b o, a = ⟨b, o, none⟩ := by
    obtain ⟨x, _, hx⟩ := hel 0 (by omega)
    have hp := E.pos
    have h0 := hx 0 _ (List.getElem?_eq_getElem (by rw [E.len]; exact hp))
    obtain ⟨b, o, spot⟩ := a
    have hspot : spot = none := by simpa [Addr.add] using World.cell?_spot h0
    subst hspot
    exact ⟨b, o, rfl⟩
  have build : ∀ k, k ≤ len → ∃ L : List α, L.length = k ∧ (∀ j v, (E.row L)[j]? = some v → w.cell? ((⟨b, o, none⟩ : Addr).add j) = some v) ∧ ∀ x ∈ L, Q x := by
    intro k
    induction k with
    | zero => exact fun _ => ⟨[], rfl, fun j v hj => by simp at hj, fun x hx => by cases hx⟩
    | succ k ihk =>
      intro hk
      obtain ⟨L, hL, hus, hq⟩ := ihk (by omega)
      obtain ⟨x, hQ, hx⟩ := hel k (by omega)
      refine ⟨L ++ [x], by simp [hL], fun j v hj => ?_, fun y hy => ?_⟩
      · rw [row_snoc] at hj
        by_cases hlt : j < (E.row L).length
        · rw [List.getElem?_append_left hlt] at hj
          exact hus j v hj
        · rw [List.getElem?_append_right (by omega)] at hj
          have := hx _ _ hj
          rw [add_none, add_none] at this
          rw [row_len, hL] at this hlt
          rw [add_none, show o + j = o + k * E.size + (j - k * E.size) by omega]
          exact this
      · rcases List.mem_append.1 hy with hy | hy
        · exact hq y hy
        · rw [List.mem_singleton.1 hy]; exact hQ
  obtain ⟨L, hL, hus, hq⟩ := build len (Nat.le_refl _)
  refine ⟨L, ⟨hL.symm, ?_⟩, hq⟩
  cases hr : E.row L with
  | nil => exact .inl rfl
  | cons u us =>
    rw [hr] at hus
    have h0 := hus 0 u rfl
    refine .inr ⟨b, o, rfl, trivial, ?_, fun j v hj => ?_⟩
    · have := World.block_lt_of_cell? w _ h0
      simpa [Addr.add] using this
    · have := hus j v hj
      rw [add_none] at this; exact this
theorem weightsAll_mem {H : Type} {P : Program} {e : TypeId} : ∀ {ds : List (DataW H)} {d : DataW H} {m : Nat}, d ∈ ds → m ∈ d.weights P e → m ∈ DataW.weightsAll P e ds
  | d0 :: ds, d, m, hd, hm => by
    rw [DataW.weightsAll, List.mem_append]
    rcases List.mem_cons.1 hd with rfl | hd
    · exact .inl hm
    · exact .inr (weightsAll_mem hd hm)
set_option maxRecDepth 20000 in
theorem open_lexs {H : Type} {enc : TypeId × Value → H} {w : World} {base : Nat} {sp : Nat → Bool} {hd : Bool} (fuel : Nat) (cs : List Value) (x : DataW H × List MemPlace) (hz : ∀ m ∈ x.1.weights Tryz.prog 24, m ≤ reachBytes) (h : DataW.trod enc Tryz.prog w base sp hd fuel 24 cs = some x) :
    ∃ (a : Option Addr) (n c : Nat) (L : List Lx), cs = [.slice a n c] ∧ RowAt encX (fun _ => True) w a n L ∧ BigX L := by
  rcases DataW.trod_slice Tryz.underlying24 h with ⟨rfl, _⟩ | ⟨a, len, cap, elems, rest, n, rfl, rfl, hx, hb, hl, hm, hel, hall, _⟩
  · exact ⟨none, 0, 0, [], rfl, RowAt.nil _, by simp, fun x hx => by cases hx⟩
  have hr : reachBytes = 140737488351232 := rfl
  have hbz : Tryz.prog.bytesOf 41 = 48 := by kernel_rfl
  have hw : x.1.weights Tryz.prog 24 = (elems.length + rest.length) * 48 :: (DataW.weightsAll Tryz.prog 41 (elems.map (·.1)) ++ DataW.weightsAll Tryz.prog 41 (rest.map (·.1))) := by
    rw [hx]
    simp only [DataW.weights, Tryz.underlying24, hbz, List.length_map]
  rw [hw] at hz
  have hlen : len ≤ 140737488355328 := by
    have := hz _ List.mem_cons_self
    omega
  have h9 : Tryz.prog.cellsOf 9 = 1 := by kernel_rfl
  have h3 : Tryz.prog.cellsOf 3 = 1 := by kernel_rfl
  have h4 : Tryz.prog.cellsOf 41 = 4 := by kernel_rfl
  obtain ⟨L, hL, hq⟩ := row_buildQ (E := encX) (Q := fun x : Lx => x.nm.length ≤ 140737488355328 ∧ x.vl.length ≤ 140737488355328) (w := w) (a := a) (len := len) fun i hi => by
    have hh := hall i hi
    have hei : elems[i]? = some (elems[i]'(by omega)) := List.getElem?_eq_getElem (by omega)
    rw [hei] at hh
    obtain ⟨cs', hc1, hc2⟩ := Option.bind_eq_some_iff.1 hh
    rw [h4] at hc1
    obtain ⟨_, hlen, hcell⟩ := World.cells?_some hc1
    obtain ⟨xs, n', rfl, hxx, hcl, hxl, hf⟩ := DataW.trod_struct Tryz.underlying41 hc2
    obtain ⟨v0, v1, v2, v3, rfl⟩ := len4 hlen
    obtain ⟨y0, y1, y2, y3, rfl⟩ := len4 (show xs.length = 4 from hxl)
    have g0 := hf 0 _ rfl
    have g1 := hf 1 _ rfl
    have g2 := hf 2 _ rfl
    have g3 := hf 3 _ rfl
    try dsimp only at g0
    try simp only [h3] at g0
    try dsimp only at g1
    try simp only [h9] at g1
    try dsimp only at g2
    try simp only [h9] at g2
    try dsimp only at g3
    try simp only [h3] at g3
    obtain ⟨k, e0, z0, _⟩ := DataW.trod_int (k := .i64) Tryz.underlying3 g0
    obtain ⟨t, e1, z1, _⟩ := DataW.trod_string Tryz.underlying9 g1
    obtain ⟨u, e2, z2, _⟩ := DataW.trod_string Tryz.underlying9 g2
    obtain ⟨m, e3, z3, _⟩ := DataW.trod_int (k := .i64) Tryz.underlying3 g3
    simp [h9, h3] at e0 e1 e2 e3
    subst e0 e1 e2 e3
    have hwe : ∀ q ∈ (elems[i]'(by omega)).1.weights Tryz.prog 41, q ≤ reachBytes := fun q hq => hz q (List.mem_cons_of_mem _ (List.mem_append_left _ (weightsAll_mem (List.mem_map_of_mem (List.getElem_mem (by omega))) hq)))
    rw [hxx, z0, z1, z2, z3] at hwe
    have w1 := hwe t.data.toList.length (by simp [DataW.weights, Tryz.underlying41, DataW.weightsEach])
    have w2 := hwe u.data.toList.length (by simp [DataW.weights, Tryz.underlying41, DataW.weightsEach])
    refine ⟨⟨k, t.data.toList, u.data.toList, m⟩, ⟨by show t.data.toList.length ≤ _; omega, by show u.data.toList.length ≤ _; omega⟩, fun j v hj => ?_⟩
    have hj4 : j < 4 := (List.getElem?_eq_some_iff.1 hj).1
    rw [show i * encX.size = i * 4 from rfl, hcell j hj4]
    exact hj
  exact ⟨some a, len, cap, L, rfl, hL, by have := hL.1; omega, hq⟩
theorem u8_wf {n : Int} (h : (Lit.int .u8 n).wf = true) : 0 ≤ n ∧ n < 256 := by
  simp [Lit.wf, IntKind.min, IntKind.max, IntKind.signed, IntKind.bits] at h
  omega
theorem i64_wf {n : Int} (h : (Lit.int .i64 n).wf = true) : n ≤ 9223372036854775807 := by
  simp [Lit.wf, IntKind.min, IntKind.max, IntKind.signed, IntKind.bits] at h
  omega
noncomputable def flatV : Nat → DataW Unit → List Value
  | n + 1, .agg l => l.flatMap (flatV n)
  | _, .lit (.int k n) => [.int k n]
  | _, .lit (.bool b) => [.bool b]
  | _, .lit (.string s) => [.string ⟨s.toArray⟩]
  | _, _ => []
noncomputable def putG (h : Array Obj) (g : Nat) (cs : List Value) : Array Obj := h.modify g fun
  | .cells _ t frozen => .cells ⟨cs⟩ t frozen
  | o => o
noncomputable def layOne (h : Array Obj) (g : Nat) (d : DataW Unit) : Array Obj := match d with
  | .iface _ (.ptr (.agg [.lit (.string t)])) => putG (h.push (.cells ⟨[.string ⟨t.toArray⟩]⟩ 127 (0, 0))) g [.iface 125 (.pointer (some ⟨h.size, 0, none⟩))]
  | d => putG h g (flatV 5 d)
noncomputable def layAll (laid : List (String × DataW Unit)) (h : Array Obj) : Array Obj :=
  laid.foldl (fun h x => match Tryz.prog.globalNamed x.1 with
    | some g => layOne h g x.2
    | none => h) h
noncomputable def laidWorldOf (laid : List (String × DataW Unit)) (os : Os) : World :=
  { World.holding Tryz.prog os ⟨#[], #[], []⟩ with heap := layAll laid (World.holding Tryz.prog os ⟨#[], #[], []⟩).heap }
end Go.Proofs.YtdbpliomkkmoaaaGreatDoor
