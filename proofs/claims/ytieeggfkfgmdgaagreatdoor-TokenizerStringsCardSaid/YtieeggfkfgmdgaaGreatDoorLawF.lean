/- The contracts of the functions that the law reaches, one after the other, and at the end the law's card. -/
import Derived.Test.YtieeggfkfgmdgaaGreatDoorLawE
import Derived.Lib.Replace
import Derived.Lib.SliceRun
import Derived.Lib.SlicesCompact
import Derived.Lib.LaidTab
namespace Go.Proofs
open Go Go.Sh Go.RowKit

/- the examples -/
def cutC (p : Ps) (f : Fo) : List Tok := shut ((amsF p f false []).foldl addB bs0)
theorem cutT_eq (p : Ps) (f : Fo) : cutT p f = cutC p f := (fold_tok _).symm
theorem tks_val {p : Ps} {f : Fo} {rs : List Rw} {L : List Tok} (h1 : checkT f = 0) (h2 : ruleE rs = 0) (h3 : 0 ≤ p.2 ∧ p.2 ≤ 4096) (h4 : namedB p.1 = true) (h5 : cntF 8 f + cntF 9 f = 0) (h6 : cutC p f = L) (h7 : longT L = false) (h8 : nrmE rs L = 0) :
    tksE p f rs = 0 ∧ tksR p f rs = L.map (nrmT rs) := by
  have he : tksE p f rs = 0 := by
    unfold tksE
    rw [cutT_eq, h6, if_neg (by rw [h1, h2]; simp), if_neg (by omega), if_neg (by rw [h4]; simp), if_neg (by omega), if_neg (by rw [h7]; simp), h8]
  refine ⟨he, ?_⟩
  rw [(tks_ok he).2, cutT_eq, h6]
def aw1 : Fo := .cons 1 [68, 101] 0 .nil (.cons 2 [] 0 .nil (.one 1 [117, 115, 32, 101, 115, 116, 44] 0 .nil))
def aw2 : Fo := .cons 1 [109, 97] 0 .nil (.cons 6 [] 2 .nil (.one 1 [117, 115] 0 .nil))
def aw3 : List UInt8 := [97, 98, 39, 99, 32, 39, 100]
def awL : List Tok := [⟨[68, 101, 117, 115], [68, 101, 117, 115], ([], 0), 0, []⟩, ⟨[101, 115, 116], [101, 115, 116], ([], 1), 0, []⟩, ⟨[44], [44], ([], 1), 24, []⟩]
theorem aw1_val : tksE ([], 0) aw1 [] = 0 ∧ tksR ([], 0) aw1 [] = awL := by
  have h := tks_val (p := ([], 0)) (f := aw1) (rs := []) (L := [⟨[68, 101, 117, 115], [], ([], 0), 0, []⟩, ⟨[101, 115, 116], [], ([], 1), 0, []⟩, ⟨[44], [], ([], 1), 24, []⟩])
    (by decide +kernel) (by decide +kernel) (by decide) (by decide +kernel) (by decide +kernel) (by decide +kernel) (by decide +kernel) (by decide +kernel)
  refine ⟨h.1, h.2.trans ?_⟩
  decide +kernel
theorem aw2_val : tksE ([], 0) aw2 [] = 0 ∧ ∃ x y z : Tok, tksR ([], 0) aw2 [] = [x, y, z] ∧ y.t = [91, 50, 93] ∧ z.g = 16 := by
  have h := tks_val (p := ([], 0)) (f := aw2) (rs := []) (L := [⟨[109, 97], [], ([], 0), 0, []⟩, ⟨[91, 50, 93], [], ([], 0), 18, []⟩, ⟨[117, 115], [], ([], 0), 16, []⟩])
    (by decide +kernel) (by decide +kernel) (by decide) (by decide +kernel) (by decide +kernel) (by decide +kernel) (by decide +kernel) (by decide +kernel)
  exact ⟨h.1, _, _, _, h.2, rfl, rfl⟩
theorem aw3_val : splE aw3 = 0 ∧ splR aw3 = [[97, 98, 39, 99], [39], [100]] := by
  have h := tks_val (p := ([], 0)) (f := .one 1 aw3 0 .nil) (rs := []) (L := [⟨[97, 98, 39, 99], [], ([], 0), 0, []⟩, ⟨[39], [], ([], 0), 8, []⟩, ⟨[100], [], ([], 0), 16, []⟩])
    (by decide +kernel) (by decide +kernel) (by decide) (by decide +kernel) (by decide +kernel) (by decide +kernel) (by decide +kernel) (by decide +kernel)
  have hc : checkC aw3 = 0 := by decide +kernel
  refine ⟨?_, ?_⟩
  · unfold splE; rw [if_neg (by rw [hc]; simp), if_neg (by decide)]; exact h.1
  · unfold splR; rw [if_neg (by rw [hc]; simp), if_neg (by decide), h.2]; rfl
section
variable {R : Ending → World → Prop} {w : World}
theorem foC3 {S : Nat → Prop} {k1 k2 k3 n1 n2 n3 : Int} {t1 t2 t3 : List UInt8} {b : Nat} {T : TypeId} (hb : Blk w b [.int .i64 k1, .string ⟨⟨t1⟩⟩, .int .i64 n1, .slice none 0 0, .int .i64 k2, .string ⟨⟨t2⟩⟩, .int .i64 n2, .slice none 0 0, .int .i64 k3, .string ⟨⟨t3⟩⟩, .int .i64 n3, .slice none 0 0] T) :
    SlF (fun _ => True) w (some ⟨b, 0, none⟩) 3 (.cons k1 t1 n1 .nil (.cons k2 t2 n2 .nil (.one k3 t3 n3 .nil))) :=
  ⟨rfl, _, .inr ⟨b, 0, rfl, trivial, hb.lt, fun j v hj => by rw [Nat.zero_add, hb.cell]; exact hj⟩, none, 0, [], _, rfl, .inl rfl, rfl, none, 0, [], _, rfl, .inl rfl, rfl, none, 0, [], [], rfl, .inl rfl, rfl, rfl⟩
theorem small_aw (k1 k2 k3 n1 n2 n3 : Int) (t1 t2 t3 : List UInt8) : small (.cons k1 t1 n1 .nil (.cons k2 t2 n2 .nil (.one k3 t3 n3 .nil))) := by unfold small Fo.one; simp [Fo.size]
set_option maxRecDepth 20000 in
theorem awake15_spec (hF : Forms w) (h : ∀ w', Ext w w' → R (.returned (.bool true)) w') : Calls Tryz.prog F_law15_awake ⟨[]⟩ w R := by
  apply c_law15_awake
  refine text15_spec _ fun w2 e2 => ⟨_, _, _, _, _, _, rfl, ?_⟩
  refine text15_spec _ fun w8 e8 => ⟨_, _, _, _, _, _, rfl, ?_⟩
  refine al_intro fun b13 w14 hb13 B13 e14 s14 => ?_
  have E14 := ext_trans (ext_trans e2 e8) e14
  obtain ⟨v1, v2⟩ := aw1_val
  obtain ⟨u1, x, y, z, u2, u3, u4⟩ := aw2_val
  obtain ⟨t1, t2⟩ := aw3_val
  have B13' : Blk w14 b13 [.int .i64 1, .string ⟨⟨[68, 101]⟩⟩, .int .i64 0, .slice none 0 0, .int .i64 2, .string ⟨⟨[]⟩⟩, .int .i64 0, .slice none 0 0, .int .i64 1, .string ⟨⟨[117, 115, 32, 101, 115, 116, 44]⟩⟩, .int .i64 0, .slice none 0 0] 64 := B13
  refine Tokens_spec (S := fun _ => True) (S2 := fun _ => True) ([], 0) aw1 [] (small_aw _ _ _ _ _ _ _ _ _) (hF.ext E14) (foC3 (S := fun _ => True) B13') smallR_nil (rules_none _ _) fun a1 n1 c1 w16 hn1 ho1 e16 => ⟨_, _, _, _, rfl, ?_⟩
  have E16 := ext_trans E14 e16
  refine Split_spec aw3 (by decide) (hF.ext E16) fun a2 n2 c2 w20 hn2 ho2 e20 => ⟨_, _, _, _, rfl, ?_⟩
  have E20 := ext_trans E16 e20
  refine text15_spec _ fun w24 e24 => ⟨_, _, _, _, _, _, rfl, ?_⟩
  refine text15_spec _ fun w30 e30 => ⟨_, _, _, _, _, _, rfl, ?_⟩
  refine al_intro fun b35 w36 hb35 B35 e36 s36 => ?_
  have F36 := ext_trans (ext_trans e24 e30) e36
  have E36 := ext_trans E20 F36
  have B35' : Blk w36 b35 [.int .i64 1, .string ⟨⟨[109, 97]⟩⟩, .int .i64 0, .slice none 0 0, .int .i64 6, .string ⟨⟨[]⟩⟩, .int .i64 2, .slice none 0 0, .int .i64 1, .string ⟨⟨[117, 115]⟩⟩, .int .i64 0, .slice none 0 0] 64 := B35
  refine Tokens_spec (S := fun _ => True) (S2 := fun _ => True) ([], 0) aw2 [] (small_aw _ _ _ _ _ _ _ _ _) (hF.ext E36) (foC3 (S := fun _ => True) B35') smallR_nil (rules_none _ _) fun a3 n3 c3 w38 hn3 ho3 e38 => ⟨_, _, _, _, rfl, ?_⟩
  have E38 := ext_trans E36 e38
  rw [v1, t1, u1]
  rw [v2] at ho1 hn1
  rw [t2] at ho2 hn2
  rw [u2] at ho3 hn3
  have hr1 := (((OwnL.out ho1).ext e20).ext F36).ext e38
  have hr2 := ((OwnL.out ho2).ext F36).ext e38
  have hr3 := OwnL.out ho3
  intro K41 hK41
  have k41 : ∀ w42, Ext w38 w42 → K41 w42 := by
    intro w42 e42
    refine hK41 _ fun _ => ?_
    refine al_stL rfl (by intro u hu; simp only [List.mem_cons, List.not_mem_nil, or_false] at hu; rcases hu with rfl | rfl <;> rfl) fun b43 w45 hb43 B43 e45 s45 => ?_
    obtain ⟨p0, p1⟩ := blk2' B43
    refine ⟨_, p0, _, p1, _, p0, _, p1, ?_⟩
    refine al_intro fun b50 w51 hb50 B50 e51 s51 => ?_
    have F51 := ext_trans (ext_trans e42 e45) e51
    have hrow : RowAt encTk (fun _ => True) w51 (some ⟨b50, 0, none⟩) 3 awL := ⟨rfl, .inr ⟨b50, 0, rfl, trivial, B50.lt, fun j v hj => by rw [Nat.zero_add, B50.cell]; exact hj⟩⟩
    refine EqualTk_spec awL awL (hr1.ext F51) hrow (by rw [hn1]; decide) fun w53 e53 => ⟨_, rfl, ?_⟩
    rw [decide_eq_true rfl]
    exact h w53 (ext_trans (ext_trans E38 F51) e53)
  refine br_split (fun hh => absurd (by decide) hh) (fun _ => ?_)
  refine al_intro fun b55 w56 hb55 B55 e56 s56 => ?_
  have hrow : RowAt Sh.encStr (fun _ => True) w56 (some ⟨b55, 0, none⟩) 3 [[97, 98, 39, 99], [39], [100]] := ⟨rfl, .inr ⟨b55, 0, rfl, trivial, B55.lt, fun j v hj => by rw [Nat.zero_add, B55.cell]; exact hj⟩⟩
  refine EqStr_spec [[97, 98, 39, 99], [39], [100]] [[97, 98, 39, 99], [39], [100]] (hr2.ext e56) hrow (by decide) fun w58 e58 => ⟨_, rfl, ?_⟩
  rw [decide_eq_true rfl]
  simp only [Bool.not_true, br_f]
  refine br_split (fun hh => absurd (by rw [hn3]; rfl) hh) (fun _ => ?_)
  have hr3' := (hr3.ext e56).ext e58
  obtain ⟨q, hq, d0, d1, d2, d3, d4, d5⟩ := tok_get hr3' (show [x, y, z][1]? = some y from rfl)
  refine hq _ ⟨_, d0, br_split (fun hh => absurd u3 hh) (fun _ => ?_)⟩
  obtain ⟨q', hq', f0, f1, f2, f3, f4, f5⟩ := tok_get hr3' (show [x, y, z][2]? = some z from rfl)
  exact hq' _ ⟨_, f4, br_split (fun hh => absurd u4 hh) (fun _ => k41 w58 (ext_trans e56 e58))⟩
/- sizes -/
/- the tokens of a state -/
end
end Go.Proofs
namespace Go.Proofs
open Go Go.Sh Go.RowKit

/- whether a token is right -/
theorem gapB_iff (s : List UInt8) : gapB s = true ↔ ∃ n : Int, 1 ≤ n ∧ n ≤ 64 ∧ gapT n = s := by
  unfold gapB
  rw [List.any_eq_true]
  constructor
  · rintro ⟨i, hi, h⟩
    rw [List.mem_range] at hi
    exact ⟨(i : Int) + 1, by omega, by omega, by simpa using h⟩
  · rintro ⟨n, h1, h2, h3⟩
    refine ⟨(n - 1).toNat, by rw [List.mem_range]; omega, ?_⟩
    rw [show (((n - 1).toNat : Nat) : Int) + 1 = n by omega, h3]; simp
theorem dec_pos : ∀ n : Nat, n < 100 → 1 ≤ (Lib.decDigits n).length := by decide +kernel
section
variable {R : Ending → World → Prop} {w : World}
theorem gap_inner (n : Int) : ((gapT n).take ((gapT n).length - 1)).drop 1 = Lib.decDigits n.toNat := by
  unfold gapT
  simp
set_option maxRecDepth 20000 in
theorem gap_spec (s : List UInt8) (hs : s.length ≤ 1000000000000) (hM : Mk w) (h : ∀ w', Ext w w' → R (.returned (.bool (gapB s))) w') : Calls Tryz.prog F_tokenizer_gap ⟨[.string ⟨⟨s⟩⟩]⟩ w R := by
  apply c_tokenizer_gap
  have bad : ∀ w', Ext w w' → (∀ n : Int, 1 ≤ n → n ≤ 64 → gapT n ≠ s) → R (.returned (.bool false)) w' := by
    intro w' he hn
    have : gapB s = false := by
      rw [Bool.eq_false_iff]
      intro hh
      obtain ⟨n, h1, h2, h3⟩ := (gapB_iff s).1 hh
      exact hn n h1 h2 h3
    rw [← this]; exact h w' he
  intro K2 hK2
  have k2 : 3 ≤ s.length → K2 w := by
    intro h3
    refine hK2 _ fun _ => ?_
    rw [wrap_id (by omega), show ((s.length : Nat) : Int) - 1 = ((s.length - 1 : Nat) : Int) by omega]
    have h1 : ((1 : Nat) : Int) = 1 := rfl
    rw [← h1]
    refine ssl_nat (by omega) (by omega) ?_
    generalize hin : (s.take (s.length - 1)).drop 1 = u
    have hul : u.length ≤ s.length := by rw [← hin]; simp; omega
    have hz : (⟨⟨u⟩⟩ : ByteArray).size = u.length := rfl
    obtain ⟨_, ⟨t, p, h2⟩, ⟨t', p', h3'⟩⟩ := hM
    have nodec : (∀ v, Lib.atoiAll u ≠ .ok v) → ∀ n : Int, 1 ≤ n → n ≤ 64 → gapT n ≠ s := by
      intro hv n n1 n2 hh
      have := gap_inner n
      rw [hh, hin] at this
      have ha := atoi_dec (n.toNat - 1) (by omega)
      rw [show n.toNat - 1 + 1 = n.toNat by omega, ← this] at ha
      exact hv _ ha
    cases ha : Lib.atoiAll u
    · rename_i v
      refine (Tryz.strconv_Atoi_ok ⟨⟨u⟩⟩ (by rw [hz]; omega) v ha w).mono ?_
      rintro e w4 ⟨rfl, hw⟩
      have he : Ext w w4 := by
        rcases hw with rfl | ⟨t, rfl⟩
        · exact Below.refl _ _
        · exact Joins.below_bytesWorld _ _ _ _ (Nat.le_refl _)
      refine ⟨v, .nilIface, rfl, ?_⟩
      refine ifc_nil ?_
      simp only [br_t]
      have key : ∀ n : Int, 1 ≤ n → n ≤ 64 → gapT n = s → n = v := by
        intro n n1 n2 hh
        have h5 := gap_inner n
        rw [hh, hin] at h5
        have ha' := atoi_dec (n.toNat - 1) (by omega)
        rw [show n.toNat - 1 + 1 = n.toNat by omega, ← h5, ha] at ha'
        injection ha' with ha'
        omega
      refine br_split (fun g => br_split (fun g2 => ?_) (fun g2 => bad w4 he fun n n1 n2 hh => by have := key n n1 n2 hh; omega)) (fun g => bad w4 he fun n n1 n2 hh => by have := key n n1 n2 hh; omega)
      have hmm : v = ((v.toNat : Nat) : Int) := by omega
      have hI := Tryz.strconv_Itoa_small v.toNat (by omega) w4
      rw [← hmm] at hI
      refine hI.mono ?_
      rintro _ w5 ⟨rfl, hw5⟩
      subst hw5
      have hdl := decDigits_len v.toNat (by omega)
      refine ⟨_, rfl, ?_⟩
      refine ⟨by simp; omega, by simp; omega, ?_⟩
      have e : decide (s = [91] ++ Lib.decDigits v.toNat ++ [93]) = gapB s := by
        rw [Bool.eq_iff_iff, decide_eq_true_eq, gapB_iff]
        constructor
        · intro hh; exact ⟨v, g, g2, by rw [hh]; simp [gapT]⟩
        · rintro ⟨n, n1, n2, n3⟩
          have := key n n1 n2 n3
          subst this
          rw [← n3]; simp [gapT]
      show R (.returned (.bool (decide (s = [91] ++ Lib.decDigits v.toNat ++ [93])))) w5
      rw [e]; exact h w5 he
    · refine (Tryz.strconv_Atoi_syntax ⟨⟨u⟩⟩ (by rw [hz]; omega) ha _ w h2 (.inr ⟨_, _, rfl⟩)).mono ?_
      rintro e w4 ⟨N, rfl, _, _, he⟩
      refine ⟨_, _, rfl, ?_⟩
      refine ifc_some ?_
      simp only [br_f]
      exact bad w4 he (nodec fun v hv => by rw [ha] at hv; cases hv)
    · refine (Tryz.strconv_Atoi_range ⟨⟨u⟩⟩ (by rw [hz]; omega) ha _ w h3' (.inr ⟨_, _, rfl⟩)).mono ?_
      rintro e w4 ⟨N, rfl, _, _, he⟩
      refine ⟨_, _, rfl, ?_⟩
      refine ifc_some ?_
      simp only [br_f]
      exact bad w4 he (nodec fun v hv => by rw [ha] at hv; cases hv)
  refine br_split (fun g => bad w (Below.refl _ _) fun n n1 n2 hh => ?_) (fun g => ?_)
  · have := dec_pos n.toNat (by omega)
    have h5 : (gapT n).length = (Lib.decDigits n.toNat).length + 2 := by unfold gapT; simp
    rw [hh] at h5; omega
  have h00 : ((0 : Nat) : Int) = 0 := rfl
  rw [← h00]
  refine sidx_nat (by omega) (br_split (fun g1 => bad w (Below.refl _ _) fun n n1 n2 hh => ?_) (fun g1 => ?_))
  · subst hh; exact g1 (by simp [gapT])
  rw [wrap_id (by omega), show ((s.length : Nat) : Int) - 1 = ((s.length - 1 : Nat) : Int) by omega]
  refine sidx_nat (by omega) (br_split (fun g2 => bad w (Below.refl _ _) fun n n1 n2 hh => ?_) (fun g2 => k2 (by omega)))
  subst hh
  exact g2 (by simp [gapT])
theorem mark_spec (s : List UInt8) (h : R (.returned (.bool (markB s))) w) : Calls Tryz.prog F_tokenizer_mark ⟨[.string ⟨⟨s⟩⟩]⟩ w R := by
  apply c_tokenizer_mark
  refine br_split (fun g => ?_) (fun g => ?_)
  · have : markB s = false := by
      unfold markB
      split
      · simp at g
      · rfl
    rw [this] at h; exact h
  · obtain ⟨c, rfl⟩ : ∃ c, s = [c] := by
      have hl : s.length = 1 := by omega
      exact List.length_eq_one_iff.1 hl
    have h00 : ((0 : Nat) : Int) = 0 := rfl
    rw [← h00]
    refine sidx_nat (by simp) (Kind_spec _ ⟨_, rfl, ?_⟩)
    have hb : markB [c] = (decide (kd c = 5) || decide (kd c = 4)) := rfl
    rw [hb] at h
    refine br_split (fun g5 => ?_) (fun g5 => ?_)
    · have g5 : kd c = 5 := g5
      rw [decide_eq_true g5, Bool.true_or] at h; exact h
    · have g5' : ¬ kd c = 5 := g5
      rw [decide_eq_false g5', Bool.false_or] at h; exact h
set_option maxRecDepth 20000 in
theorem norm15_spec (s : List UInt8) (hs : s.length ≤ 4611686018427387904) (h : R (.returned (.bool (normB s))) w) : Calls Tryz.prog F_tokenizer_norm ⟨[.string ⟨⟨s⟩⟩]⟩ w R := by
  apply c_tokenizer_norm
  refine ⟨fun i W m => ∃ k : Nat, i = k ∧ k ≤ s.length ∧ m = s.length - k ∧ wordlyF (s.take k) = true ∧ W = w, ⟨_, 0, rfl, by omega, rfl, by rw [List.take_zero]; rfl, rfl⟩, ?_⟩
  rintro _ W m ⟨k, rfl, hk, rfl, hw, rfl⟩ _
  refine br_split (fun hlt => ?_) (fun hge => ?_)
  · have hkl : k < s.length := by omega
    refine sidx_nat hkl (tkinner_spec _ ⟨_, rfl, br_cases (fun g => ?_) (fun g => ?_)⟩)
    · have : normB s = false := by
        unfold normB
        have h1 := wordly_no s k hkl (by rw [Bool.not_eq_true'] at g; exact g)
        unfold wordlyF at h1
        rw [h1, Bool.and_false]
      rw [this] at h; exact h
    · exact ⟨s.length - (k + 1), by omega, k + 1, by rw [wrap_nat (by omega)], by omega, rfl, by rw [wordly_at s k hkl, hw]; rw [Bool.not_eq_false'] at g; rw [g]; rfl, rfl⟩
  · rw [List.take_of_length_le (by omega)] at hw
    unfold wordlyF at hw
    unfold normB at h
    rw [hw, Bool.and_true] at h
    refine br_split (fun g => ?_) (fun g => ?_)
    · rw [decide_eq_true g, Bool.true_and, decide_eq_decide.2 (show s.length ≤ 64 ↔ ((s.length : Nat) : Int) ≤ 64 by omega)] at h
      exact h
    · rw [decide_eq_false g, Bool.false_and] at h; exact h
set_option maxRecDepth 40000 in
theorem TokCheck_spec (x : Tok) (ht : x.t.length ≤ 1000000000000) (hm : x.m.length ≤ 4611686018427387904) (hM : Mk w) (h : ∀ w', Ext w w' → R (.returned (.int .i64 (tokE x))) w') : Calls Tryz.prog F_tokenizer_Check ⟨[aggT x]⟩ w R := by
  apply c_tokenizer_Check
  refine al_intro fun b7 w8 hb7 B7 e8 s8 => ?_
  intro K9 hK9
  have k9 : ¬ (x.g < 0 ∨ 31 < x.g) → K9 w8 := by
    intro hg
    obtain ⟨f10, f2, f8, f16⟩ := bitA_facts (g := x.g) (by omega) (by omega)
    refine hK9 _ fun _ => ?_
    unfold drw
    have ed := ext_drew w8
    have B11 := B7.ext ed
    have E11 := ext_trans e8 ed
    generalize w8.drew = w11 at *
    obtain ⟨c0, c1, c2, c3, c4, c5⟩ := blk6' B11
    have H : ∀ (e : Int) (v : World), tokE x = e → Ext w v → R (.returned (.int .i64 e)) v := fun e v he hv => by rw [← he]; exact h v hv
    refine ⟨_, c4, _, c4, ?_⟩
    intro K14 hK14
    rw [f2, f8]
    have k14 : ¬ (hasG x.g 2 = true ∧ hasG x.g 8 = true) → K14 w11 := by
      intro hno
      refine hK14 _ fun _ => ?_
      have hT : tokE x = if textB x = false then 11 else if x.p.2 < 0 then 2 else if namedB x.p.1 = false ∨ namedB x.a = false then 14 else 0 := by unfold tokE; rw [if_neg hg, if_neg hno]
      intro K16 hK16
      have k16 : ∀ (f1 : FuncId), (f1 = if hasG x.g 2 = true then 50 else 15) → K16 (.func f1) #[] #[] w11 := by
        intro f1 hf1
        refine hK16 _ _ _ _ fun _ => ?_
        intro K19 hK19
        have k19 : ∀ (f2 : FuncId), (f2 = if hasG x.g 8 = true then 51 else f1) → K19 (.func f2) #[] #[] w11 := by
          intro fn hfn
          refine hK19 _ _ _ _ fun _ => ?_
          intro K22 hK22
          have k22 : ∀ (t : Bool) (v : World), Ext w11 v → t = !textB x → K22 t v := by
            intro t v hv htb
            refine hK22 _ _ fun _ => ?_
            have Bv := B11.ext hv
            have Ev := ext_trans E11 hv
            obtain ⟨d0, d1, d2, d3, d4, d5⟩ := blk6' Bv
            subst htb
            have e21 : ((⟨b7, 0, none⟩ : Addr).add 2).add 1 = (⟨b7, 0, none⟩ : Addr).add 3 := by simp only [add_none]
            have e20 : ((⟨b7, 0, none⟩ : Addr).add 2).add 0 = (⟨b7, 0, none⟩ : Addr).add 2 := by simp only [add_none]
            cases htx : textB x with
            | false =>
              simp only [Bool.not_false, br_t]
              exact H 11 v (by rw [hT, if_pos htx]) Ev
            | true =>
              simp only [Bool.not_true, br_f]
              rw [if_neg (by rw [htx]; decide)] at hT
              refine ⟨_, by rw [e21]; exact d3, br_split (fun q => H 2 v (by rw [hT, if_pos q]) Ev) (fun q => ⟨_, by rw [e20]; exact d2, ?_⟩)⟩
              rw [if_neg q] at hT
              refine named_spec _ ⟨_, rfl, br_cases (fun q1 => H 14 v (by rw [hT, if_pos (.inl (by simpa using q1))]) Ev) (fun q1 => ⟨_, d5, ?_⟩)⟩
              refine named_spec _ ⟨_, rfl, br_cases (fun q2 => H 14 v (by rw [hT, if_pos (.inr (by simpa using q2))]) Ev) (fun q2 => H 0 v ?_ Ev)⟩
              rw [hT, if_neg]
              rintro (hh | hh)
              · rw [hh] at q1; cases q1
              · rw [hh] at q2; cases q2
          -- the form
          have hform : ∀ R' : Ending → World → Prop, (∀ v', Ext w11 v' → R' (.returned (.bool (if hasG x.g 2 = true then gapB x.t else if hasG x.g 8 = true then markB x.t else isWordF x.t))) v') → CallV Tryz.prog (.func (.func fn) #[] #[]) [.string ⟨⟨x.t⟩⟩] w11 R' := by
            intro R' hR'
            cases h2 : hasG x.g 2 with
            | true =>
              have h8 : hasG x.g 8 = false := by
                cases h8 : hasG x.g 8 with
                | false => rfl
                | true => exact absurd ⟨h2, h8⟩ hno
              have : fn = 50 := by rw [hfn, h8, if_neg (by decide), hf1, h2]; rfl
              subst this
              rw [h2, if_pos rfl] at hR'
              exact ⟨by kernel_rfl, gap_spec x.t ht (hM.ext E11) hR'⟩
            | false =>
              rw [h2, if_neg (by decide)] at hR'
              cases h8 : hasG x.g 8 with
              | true =>
                have : fn = 51 := by rw [hfn, h8]; rfl
                subst this
                rw [h8, if_pos rfl] at hR'
                exact ⟨by kernel_rfl, mark_spec x.t (hR' w11 (Below.refl _ _))⟩
              | false =>
                have : fn = 15 := by rw [hfn, h8, if_neg (by decide), hf1, h2]; rfl
                subst this
                rw [h8, if_neg (by decide)] at hR'
                exact ⟨by kernel_rfl, IsWord_spec x.t hR'⟩
          have hTx : textB x = ((if hasG x.g 2 = true then gapB x.t else if hasG x.g 8 = true then markB x.t else isWordF x.t) && (if wordG x.g = true then normB x.m else decide (x.m = x.t))) := by
            unfold textB wordG
            cases hasG x.g 2 <;> cases hasG x.g 8 <;> rfl
          refine ⟨_, c0, hform _ fun w36 e36 => ⟨_, rfl, ?_⟩⟩
          generalize hfm : (if hasG x.g 2 = true then gapB x.t else if hasG x.g 8 = true then markB x.t else isWordF x.t) = fm at *
          have B36 := B11.ext e36
          cases fm with
          | false =>
            simp only [Bool.not_false, br_t]
            exact k22 true w36 e36 (by rw [hTx]; rfl)
          | true =>
            simp only [Bool.not_true, br_f]
            rw [Bool.true_and] at hTx
            intro K38 hK38
            have k38 : ∀ (t : Bool) (v : World), Ext w11 v → t = (wordG x.g && !normB x.m) → K38 t v := by
              intro t v hv ht'
              refine hK38 _ _ fun _ => ?_
              cases t with
              | true =>
                simp only [br_t]
                refine k22 true v hv ?_
                rw [hTx]
                cases hw : wordG x.g with
                | true => rw [hw] at ht'; simp at ht' ⊢; exact ht'.symm ▸ rfl
                | false => rw [hw] at ht'; cases ht'
              | false =>
                simp only [br_f]
                obtain ⟨d0, d1, d2, d3, d4, d5⟩ := blk6' (B11.ext hv)
                refine ⟨_, d0, _, d1, _, d2, _, d3, _, d4, _, d5, ?_⟩
                refine isWordT_spec x (by omega) (by omega) fun w48 e48 => ⟨_, rfl, ?_⟩
                have F48 := ext_trans hv e48
                cases hw : wordG x.g with
                | true =>
                  simp only [Bool.not_true, br_f]
                  refine k22 false w48 F48 ?_
                  rw [hTx, hw, if_pos rfl]
                  rw [hw] at ht'
                  simp at ht' ⊢
                  exact ht'
                | false =>
                  simp only [Bool.not_false, br_t]
                  obtain ⟨f0, f1, _⟩ := blk6' (B11.ext F48)
                  refine ⟨_, f1, _, f0, k22 _ w48 F48 ?_⟩
                  rw [hTx, hw, if_neg (by decide)]
                  by_cases hmt : x.m = x.t <;> simp [hmt]
            obtain ⟨d0, d1, d2, d3, d4, d5⟩ := blk6' B36
            refine ⟨_, d0, _, d1, _, d2, _, d3, _, d4, _, d5, ?_⟩
            refine isWordT_spec x (by omega) (by omega) fun w59 e59 => ⟨_, rfl, ?_⟩
            have F59 := ext_trans e36 e59
            cases hw : wordG x.g with
            | true =>
              simp only [br_t]
              refine ⟨_, (blk6' (B11.ext F59)).2.1, norm15_spec x.m hm ⟨_, rfl, k38 _ w59 F59 ?_⟩⟩
              rw [hw, Bool.true_and]
            | false =>
              simp only [br_f]
              exact k38 false w59 F59 (by rw [hw]; rfl)
        refine br_cases (fun q => k19 51 (by rw [← f8, q]; rfl)) (fun q => k19 f1 (by rw [← f8, q]; rfl))
      refine br_cases (fun q => k16 50 (by first | (rw [← f2, q]; rfl) | (rw [q]; rfl))) (fun q => k16 15 (by first | (rw [← f2, q]; rfl) | (rw [q]; rfl)))
    refine br_cases (fun q => br_cases (fun q2 => H 8 w11 (by unfold tokE; rw [if_neg hg, if_pos ⟨q, q2⟩]) E11) (fun q2 => k14 (fun hh => by rw [hh.2] at q2; cases q2))) (fun q => k14 (fun hh => by rw [hh.1] at q; cases q))
  obtain ⟨c0, c1, c2, c3, c4, c5⟩ := blk6' B7
  refine ⟨_, c4, br_split (fun q => ?_) (fun q => ⟨_, c4, br_split (fun q2 => ?_) (fun q2 => k9 (by omega))⟩)⟩
  · have : tokE x = 2 := by unfold tokE; rw [if_pos (.inl q)]
    rw [← this]; exact h w8 e8
  · have : tokE x = 2 := by unfold tokE; rw [if_pos (.inr q2)]
    rw [← this]; exact h w8 e8
end
end Go.Proofs
namespace Go.Proofs
open Go Go.Sh Go.RowKit

/- the law Valid -/
theorem raw_ne {x : Tok} (h : Raw x) : x.t ≠ [] := by
  rcases h.k with ⟨_, _, n, _, _, e⟩ | ⟨_, _, c, e, _⟩ | ⟨_, _, c, s, e, _⟩ <;> rw [e]
  · unfold gapT; simp
  · simp
  · simp
theorem nrm_t (rs : List Rw) (x : Tok) : (nrmT rs x).t = x.t := rfl
section
variable {R : Ending → World → Prop} {w : World}
end
end Go.Proofs
namespace Go.Proofs
open Go Go.Sh Go.RowKit

/- a piece of a list of nodes -/
theorem SlF.one {S : Nat → Prop} {w : World} {a : Option Addr} {n : Nat} {f pre r : Fo} {k t m ps} (h : SlF S w a n f) (hf : f = pre.app (.cons k t m ps r)) {c : Nat} (hc : n ≤ c) {K : Option Addr → Nat → Nat → Prop}
    (hk : ∀ a' c', SlF S w a' 1 (.one k t m ps) → K a' 1 c') : sls a c (pre.len : Int) ((pre.len + 1 : Nat) : Int) 4 K := by
  have hn := h.1
  have hl := Fo.sub_len hf
  refine ⟨by omega, by omega, by omega, ?_⟩
  rw [Int.toNat_natCast, Int.toNat_natCast, show pre.len + 1 - pre.len = 1 by omega]
  refine hk _ _ ?_
  obtain ⟨_, us, h2, h3⟩ := h
  rw [hf] at h3
  obtain ⟨xs, ys, rfl, g1, a', c', zs, vs', rfl, g2, g3, g4⟩ := h3.split
  have hxl := g1.len
  rcases h2 with h2 | ⟨b, o, rfl, hb, hbl, hcell⟩
  · simp at h2
  refine ⟨rfl, [.int .i64 k, .string ⟨⟨t⟩⟩, .int .i64 m, .slice a' ps.len c'], ?_, a', c', zs, [], rfl, g2, g3, rfl⟩
  have hsl : slA (some ⟨b, o, none⟩) c pre.len 4 = some ⟨b, o + pre.len * 4, none⟩ := by
    unfold slA
    rw [if_neg (by omega)]
    simp only [Option.map_some, add_none]
  rw [hsl]
  refine .inr ⟨b, o + pre.len * 4, rfl, hb, hbl, fun j v hj => ?_⟩
  have hj4 : j < 4 := by have := (List.getElem?_eq_some_iff.1 hj).1; simpa using this
  rw [Nat.add_assoc]
  refine hcell _ _ ?_
  rw [List.getElem?_append_right (by omega), show pre.len * 4 + j - xs.length = j by omega]
  rcases (by omega : j = 0 ∨ j = 1 ∨ j = 2 ∨ j = 3) with rfl | rfl | rfl | rfl <;> simpa using hj

/- a piece of a right list is right -/
end Go.Proofs
namespace Go.Proofs
open Go Go.Sh Go.RowKit

/- the marks of loss in the pattern -/
/- replacing one byte by nothing -/
theorem replaceK_one (c : UInt8) : ∀ (k : Nat) (s : List UInt8), s.count c = k → Lib.replaceK [c] [] k s = s.filter fun x => decide (x ≠ c)
  | 0, s, h => by
    have hn := List.count_eq_zero.1 h
    rw [Lib.replaceK]
    symm
    rw [List.filter_eq_self]
    intro x hx
    rw [decide_eq_true_eq]
    rintro rfl
    exact hn hx
  | k + 1, s, h => by
    have h0 : 0 < Lib.count s [c] := by rw [Lib.count_one]; omega
    obtain ⟨i, hi⟩ := Lib.index_of_count h0
    rw [Lib.replaceK_hit [c] [] k s i hi]
    rw [Lib.index_one] at hi
    obtain ⟨g1, g2⟩ := Lib.indexByte_some hi
    obtain ⟨hl, g1'⟩ := List.getElem?_eq_some_iff.1 g1
    have e : s = s.take i ++ c :: s.drop (i + 1) := by
      rw [← g1', ← List.drop_eq_getElem_cons hl, List.take_append_drop]
    have hn : c ∉ s.take i := by
      intro hm
      obtain ⟨j, hj, he⟩ := List.getElem_of_mem hm
      rw [List.length_take] at hj
      rw [List.getElem_take] at he
      exact g2 j (by omega) (by rw [List.getElem?_eq_getElem (by omega), he])
    have hc : (s.drop (i + 1)).count c = k := by
      have := h
      rw [e, List.count_append, List.count_cons_self, List.count_eq_zero.2 hn] at this
      omega
    rw [show i + [c].length = i + 1 from rfl, replaceK_one c k _ hc]
    conv => rhs; rw [e]
    rw [List.filter_append, List.filter_cons]
    rw [if_neg (by simp), List.append_nil]
    congr 1
    symm
    rw [List.filter_eq_self]
    intro x hx
    rw [decide_eq_true_eq]
    rintro rfl
    exact hn hx
theorem replaceAll_one (c : UInt8) (s : List UInt8) : Lib.replaceAll s [c] [] = s.filter fun x => decide (x ≠ c) := by
  unfold Lib.replaceAll Lib.replace
  rw [if_neg (by simp), show Lib.replaceNum s [c] (-1) = s.count c by unfold Lib.replaceNum; rw [if_pos (.inl (by decide)), Lib.count_one]]
  exact replaceK_one c _ s rfl

end Go.Proofs
namespace Go.Proofs
open Go Go.Sh Go.RowKit

/- the law Characters -/
theorem sp32 (s : List UInt8) : (s.filter fun x => decide (x ≠ (32 : UInt8))) = s.filter noSp := by
  congr 1
  funext x
  unfold noSp
  by_cases h : x = 32
  · subst h; rfl
  · have : ¬ kd x = 6 := fun hh => h (kd6.1 hh)
    simp [h, this]
section
variable {R : Ending → World → Prop} {w : World}
end
end Go.Proofs
namespace Go.Proofs
open Go Go.Sh Go.RowKit

/- Normalize and the law Norms -/
theorem tokE_g {x : Tok} (h : tokE x = 0) : 0 ≤ x.g ∧ x.g ≤ 31 := by
  unfold tokE at h
  split at h
  · cases h
  · omega
section
variable {R : Ending → World → Prop} {w : World}
theorem ContainsT_spec' {S : Nat → Prop} {a : Option Addr} {n c : Nat} (l : List Tok) (q : Tok → Bool) (fn : FuncId) (hok : okFn Tryz.prog fn = true) (hp : ∀ {R : Ending → World → Prop} {v : World} (x : Tok), Ext w v → x ∈ l → (∀ v', Ext v v' → R (.returned (.bool (q x))) v') → Calls Tryz.prog fn ⟨[aggT x]⟩ v R)
    (hR : RowAt encTk S w a n l) (hn : n ≤ 4611686018427387904) (h : ∀ w', Ext w w' → R (.returned (.bool (l.any q))) w') : Calls Tryz.prog F_slices_ContainsFunc_of_api_Token_api_Token ⟨[.slice a n c, .func (.func fn) #[] #[]]⟩ w R := by
  apply c_slices_ContainsFunc_of_api_Token_api_Token
  apply c_slices_IndexFunc_of_api_Token_api_Token
  have hln := hR.1
  refine ⟨fun i W m => ∃ k : Nat, i = k ∧ k ≤ n ∧ m = n - k ∧ Ext w W ∧ (l.take k).any q = false, ⟨_, 0, rfl, by omega, rfl, Below.refl _ _, rfl⟩, ?_⟩
  rintro _ W m ⟨k, rfl, hk, rfl, he, hz⟩ _
  refine br_split (fun hlt => ?_) (fun hge => ?_)
  · have hkl : k < l.length := by omega
    obtain ⟨bb, o, hq, _, _, hc⟩ := (hR.ext he).get (show l[k]? = some l[k] by simp [hkl])
    refine hq _ ⟨_, by rw [add_none]; exact hc 0 _ rfl, _, by rw [add_none]; exact hc 1 _ rfl, _, by rw [add_none]; exact hc 2 _ rfl, _, by rw [add_none]; exact hc 3 _ rfl, _, by rw [add_none]; exact hc 4 _ rfl, _, by rw [add_none]; exact hc 5 _ rfl, hok, ?_⟩
    refine hp l[k] he (List.getElem_mem hkl) fun w16 e16 => ⟨_, rfl, br_cases (fun g => ?_) (fun g => ?_)⟩
    · refine ⟨_, rfl, ?_⟩
      have : l.any q = true := List.any_eq_true.2 ⟨l[k], List.getElem_mem hkl, g⟩
      rw [decide_eq_true (show (0 : Int) ≤ (k : Int) by omega), ← this]
      exact h w16 (ext_trans he e16)
    · refine ⟨n - (k + 1), by omega, k + 1, by rw [wrap_nat (by omega)], by omega, rfl, ext_trans he e16, ?_⟩
      rw [List.take_succ_eq_append_getElem hkl, List.any_append, hz]; simp [g]
  · rw [List.take_of_length_le (by omega)] at hz
    rw [hz] at h
    exact ⟨_, rfl, h W he⟩
def bigT (x : Tok) : Prop := x.t.length ≤ 1000000000000 ∧ x.m.length ≤ 4611686018427387904
theorem bad15_spec (x : Tok) (hx : bigT x) (hM : Mk w) (h : ∀ w', Ext w w' → R (.returned (.bool (decide (tokE x ≠ 0)))) w') : Calls Tryz.prog F_tokenizer_bad ⟨[aggT x]⟩ w R := by
  apply c_tokenizer_bad
  refine al_intro fun b7 w8 hb7 B7 e8 s8 => ?_
  obtain ⟨c0, c1, c2, c3, c4, c5⟩ := blk6' B7
  refine ⟨_, c0, _, c1, _, c2, _, c3, _, c4, _, c5, ?_⟩
  exact TokCheck_spec x hx.1 hx.2 (hM.ext e8) fun w16 e16 => ⟨_, rfl, h w16 (ext_trans e8 e16)⟩
end
end Go.Proofs
namespace Go.Sh
open Go Go.RowKit

/- clearing the end of a slice that the call has made, and cutting it off -/
theorem setCells_blk {T : TypeId} : ∀ {vs cs : List Value} {w : World} {b o : Nat}, Blk w b cs T →
    Blk (w.setCells b o vs) b (putAt cs o vs) T ∧ (∀ k, k ≠ b → (w.setCells b o vs).heap[k]? = w.heap[k]?) ∧ (w.setCells b o vs).heap.size = w.heap.size ∧
      (w.setCells b o vs).os = w.os ∧ (w.setCells b o vs).tape = w.tape ∧ (w.setCells b o vs).output = w.output
  | [], cs, w, b, o, h => ⟨h, fun _ _ => rfl, rfl, rfl, rfl, rfl⟩
  | v :: vs, cs, w, b, o, h => by
    obtain ⟨a1, a2, a3, a4, a5, a6⟩ := setCells_blk (vs := vs) (o := o + 1) (h.set o v)
    refine ⟨a1, fun k hk => (a2 k hk).trans ?_, a3.trans (by simp), a4, a5, a6⟩
    simp only [World.setCell, Array.getElem?_modify]
    rw [if_neg (fun e => hk e.symm)]
theorem slA_zero (a : Option Addr) (c : Nat) (ha : a = none ∨ ∃ g, a = some ⟨g, 0, none⟩) : slA a c 0 1 = a := by
  unfold slA
  split
  · rfl
  · rcases ha with rfl | ⟨g, rfl⟩
    · rfl
    · simp [add_none]
section
variable {α : Type} {E : Enc α} {w : World} {B : Nat} {e : TypeId} {a : Option Addr} {n c : Nat} {l : List α}
end
end Go.Sh
namespace Go.Proofs
open Go Go.Sh Go.RowKit

/- slices.IndexFunc, DeleteFunc of strings -/
def idxF {α : Type} (q : α → Bool) (l : List α) : Int := if l.any q then (l.findIdx q : Int) else -1
theorem get_str {S : Nat → Prop} {w : World} {a : Option Addr} {n : Nat} {L : List (List UInt8)} (h : RowAt Sh.encStr S w a n L) {k : Nat} (hk : k < L.length) :
    ∃ q : Addr, (∀ K : Addr → Prop, K q → idx a n (k : Int) 1 K) ∧ w.cell? q = some (.string ⟨⟨L[k]⟩⟩) := by
  obtain ⟨bb, o, hq, _, _, hc⟩ := h.get (i := k) (x := L[k]) (List.getElem?_eq_getElem hk)
  exact ⟨⟨bb, o, none⟩, hq, hc 0 _ rfl⟩
theorem findIdx_at {α : Type} {q : α → Bool} {l : List α} {k : Nat} (hk : k < l.length) (hq : q l[k] = true) (hno : ∀ j (h : j < k), q (l[j]'(by omega)) = false) : l.findIdx q = k := by
  rw [List.findIdx_eq hk]
  exact ⟨hq, fun j hj => by simp [hno j hj]⟩
theorem filter_take_succ {α : Type} (p : α → Bool) {l : List α} {k : Nat} (hk : k < l.length) : (l.take (k + 1)).filter p = if p l[k] = true then (l.take k).filter p ++ [l[k]] else (l.take k).filter p := by
  rw [List.take_add_one, List.getElem?_eq_getElem hk, List.filter_append]
  by_cases h : p l[k] = true <;> simp [h]
end Go.Proofs
namespace Go.Proofs
open Go Go.Sh Go.RowKit

/- the bytes of a string, as the conversion lays them: unfrozen up to the row's end -/
def BBk (w : World) (b : Nat) (cs : List Value) : Prop := w.heap[b]? = some (.cells ⟨cs⟩ 5 (cs.length, cs.length + 1))
theorem BBk.cell {w : World} {b : Nat} {cs : List Value} (h : BBk w b cs) (i : Nat) : w.cell? ⟨b, i, none⟩ = cs[i]? := by
  simp [World.cell?, show w.heap[b]? = _ from h]
theorem BBk.lt {w : World} {b : Nat} {cs : List Value} (h : BBk w b cs) : b < w.heap.size := (Array.getElem?_eq_some_iff.1 h).1
theorem BBk.frozen {w : World} {b : Nat} {cs : List Value} (h : BBk w b cs) {i : Nat} (hi : i < cs.length) : w.frozen? ⟨b, i, none⟩ = false := by
  simp [World.frozen?, show w.heap[b]? = _ from h]
  omega
theorem BBk.set {w : World} {b : Nat} {cs : List Value} (h : BBk w b cs) (i : Nat) (v : Value) : BBk (w.setCell ⟨b, i, none⟩ v) b (cs.set i v) := by
  unfold BBk at *
  simp [World.setCell, Array.getElem?_modify, h]
theorem BBk.ext {w w' : World} {b : Nat} {cs : List Value} (h : BBk w b cs) (e : Ext w w') : BBk w' b cs := by
  have := e.block b h.lt
  unfold BBk at *
  rw [this]; exact h
theorem st_bbk {w : World} {b : Nat} {cs : List Value} {i : Nat} {v : Value} (h : BBk w b cs) (hi : i < cs.length) (ho : v.oneCell' = true) {K : World → Prop} (hk : ∀ w', BBk w' b (cs.set i v) → Chg (fun k => k = b) w w' → K w') : stL w ⟨b, i, none⟩ 0 [v] K := by
  refine ⟨?_, ?_, ho, ?_⟩
  · rw [add_none, Nat.add_zero, h.cell]; exact ⟨cs[i], by simp [hi]⟩
  · rw [add_none, Nat.add_zero]; exact h.frozen hi
  · rw [add_none, Nat.add_zero]
    refine hk _ (h.set i v) ⟨rfl, rfl, rfl, by simp, fun k _ hkb => ?_⟩
    simp only [World.setCell, Array.getElem?_modify]
    rw [if_neg (fun e => hkb e.symm)]
theorem s2b_row {w : World} {l : List UInt8} {K : Option Addr → Nat → Nat → World → Prop}
    (h : ∀ w' zs, BBk w' w.heap.size (Lib.byteCells l ++ zs) → Ext w w' → K (some ⟨w.heap.size, 0, none⟩) l.length (l.length + zs.length) w') : s2b Tryz.prog w 5 l K := by
  have hsh : ∀ c : Array Value, (w.drew.alloc (.cells c 5)).shape? w.heap.size = some (5, c.size) := by
    intro c
    simp [World.shape?, World.alloc, World.drew, -World.alloc_eq, -World.drew_eq]
  have hg := Lib.bytesWorld_at_new w 5 ⟨⟨l⟩⟩
  have hcs : Lib.bytesCells w 5 ⟨⟨l⟩⟩ = ⟨Lib.byteCells l ++ List.replicate (grownCap w l.length 0 5 - l.length) (.int .u8 0)⟩ := by
    unfold Lib.bytesCells Lib.byteCells
    simp [ByteArray.size]
  have hgc : l.length ≤ grownCap w l.length 0 5 := by
    exact grownCap_ge w _ _ _
  refine ⟨some ⟨w.heap.size, 0, none⟩, l.length, grownCap w l.length 0 5, Lib.bytesWorld w 5 ⟨⟨l⟩⟩, ?_, ?_⟩
  · have := hsh
    simp [Conv.stringToBytes, newRow, markStringish, Question.forced, Lib.bytesWorld, Lib.bytesCells, grownCap, hsh, Result.andThen, ByteArray.size]
  · have h2 := h (Lib.bytesWorld w 5 ⟨⟨l⟩⟩) (List.replicate (grownCap w l.length 0 5 - l.length) (.int .u8 0)) (by
      unfold BBk
      rw [hg, hcs]; rfl) ⟨rfl, rfl, rfl, by rw [Lib.bytesWorld_size]; omega, fun k hk => Lib.bytesWorld_at_old w 5 _ k hk⟩
    rw [List.length_replicate, show l.length + (grownCap w l.length 0 5 - l.length) = grownCap w l.length 0 5 by omega] at h2
    exact h2
theorem b2s_cells {w : World} {b c : Nat} {l : List UInt8} {K : List UInt8 → Prop} (h : ∀ j (hj : j < l.length), w.cell? ⟨b, j, none⟩ = some (.int .u8 (l[j].toNat : Int))) (hK : K l) : b2s Tryz.prog w (some ⟨b, 0, none⟩) l.length c K := by
  refine ⟨l, ?_, hK⟩
  have := run_convert_bytes_back (P := Tryz.prog) w 73 9 5 ⟨b, 0, none⟩ c l (by kernel_rfl) (by kernel_rfl) (by kernel_rfl) (fun j hj => by rw [add_none, Nat.zero_add]; exact h j hj)
  rw [run_convert_bytes_string w 73 9 5 _ _ _ (by kernel_rfl) (by kernel_rfl) (by kernel_rfl)] at this
  exact this
theorem byteR_set (A D : List UInt8) (c d : UInt8) (zs : List Value) : (Lib.byteCells (A ++ c :: D) ++ zs).set A.length (.int .u8 (d.toNat : Int)) = Lib.byteCells (A ++ d :: D) ++ zs := by
  simp [Lib.byteCells, List.set_append]
theorem byteR_at (A D : List UInt8) (c : UInt8) (zs : List Value) : (Lib.byteCells (A ++ c :: D) ++ zs)[A.length]? = some (.int .u8 (c.toNat : Int)) := by
  simp [Lib.byteCells]
theorem byte_row {w : World} {b : Nat} {l : List UInt8} {zs : List Value} (h : BBk w b (Lib.byteCells l ++ zs)) : ∀ j (hj : j < l.length), w.cell? ⟨b, j, none⟩ = some (.int .u8 (l[j].toNat : Int)) := by
  intro j hj
  rw [h.cell, List.getElem?_append_left (by simpa [Lib.byteCells] using hj)]
  simp [Lib.byteCells, hj]
theorem idx_row {b n k : Nat} (hk : k < n) {K : Addr → Prop} (h : K ⟨b, k, none⟩) : idx (some ⟨b, 0, none⟩) n (k : Int) 1 K := by
  refine ⟨by omega, by omega, ?_⟩
  show K _
  rw [add_none, Int.toNat_natCast, Nat.mul_one, Nat.zero_add]; exact h
/- lower case -/
def lowC (c : UInt8) : UInt8 := if 65 ≤ c.toNat ∧ c.toNat ≤ 90 then UInt8.ofNat (c.toNat + 32) else c
theorem low_wrap {c : UInt8} (h : 65 ≤ c.toNat ∧ c.toNat ≤ 90) : IntKind.u8.wrap (IntKind.u8.wrap ((c.toNat : Int) - 65) + 97) = ((lowC c).toNat : Int) := by
  have e : (lowC c).toNat = c.toNat + 32 := by
    unfold lowC
    rw [if_pos h, UInt8.toNat_ofNat']
    omega
  rw [e]
  have w1 : ∀ n : Int, 0 ≤ n → n < 256 → IntKind.u8.wrap n = n := fun n h0 h1 => by
    simp [IntKind.wrap, IntKind.signed, IntKind.bits]
    omega
  rw [w1 ((c.toNat : Int) - 65) (by omega) (by omega), w1 _ (by omega) (by omega)]
  omega
section
variable {R : Ending → World → Prop} {w : World}
set_option maxRecDepth 20000 in
theorem Fold_spec (s : List UInt8) (hs : s.length ≤ 1000000000) (h : ∀ w', Ext w w' → R (.returned (.string ⟨⟨s.map lowC⟩⟩)) w') : Calls Tryz.prog F_charset_Fold ⟨[.string ⟨⟨s⟩⟩]⟩ w R := by
  apply c_charset_Fold
  refine s2b_row fun w3 zs B3 e3 => ?_
  refine ⟨fun i W m => ∃ k : Nat, i = k ∧ k ≤ s.length ∧ m = s.length - k ∧ BBk W w.heap.size (Lib.byteCells ((s.take k).map lowC ++ s.drop k) ++ zs) ∧ Ext w W, ⟨_, 0, rfl, by omega, rfl, by simpa using B3, e3⟩, ?_⟩
  rintro _ W m ⟨k, rfl, hk, rfl, hB, eW⟩ _
  refine br_split (fun hlt => ?_) (fun hge => ?_)
  · have hkl : k < s.length := by omega
    have hA : ((s.take k).map lowC).length = k := by simp; omega
    have hd : s.drop k = s[k] :: s.drop (k + 1) := List.drop_eq_getElem_cons hkl
    have ht : (s.take (k + 1)).map lowC = (s.take k).map lowC ++ [lowC s[k]] := by rw [List.take_succ_eq_append_getElem hkl, List.map_append]; rfl
    rw [hd] at hB
    have hcell : W.cell? ⟨w.heap.size, k, none⟩ = some (.int .u8 (s[k].toNat : Int)) := by
      rw [hB.cell]
      have := byteR_at ((s.take k).map lowC) (s.drop (k + 1)) s[k] zs
      rw [hA] at this; exact this
    refine idx_row hkl ⟨_, hcell, ?_⟩
    intro K11 hK11
    have next : ∀ v, BBk v w.heap.size (Lib.byteCells ((s.take (k + 1)).map lowC ++ s.drop (k + 1)) ++ zs) → Ext w v → ∃ m', m' < s.length - k ∧ ∃ k' : Nat, IntKind.i64.wrap ((k : Int) + 1) = k' ∧ k' ≤ s.length ∧ m' = s.length - k' ∧ BBk v w.heap.size (Lib.byteCells ((s.take k').map lowC ++ s.drop k') ++ zs) ∧ Ext w v := fun v hb he =>
      ⟨s.length - (k + 1), by omega, k + 1, by rw [wrap_nat (by omega)], by omega, rfl, hb, he⟩
    have kt : (65 ≤ s[k].toNat ∧ s[k].toNat ≤ 90) → K11 true W := fun hc => by
      refine hK11 _ _ fun _ => ?_
      simp only [br_t]
      refine idx_row hkl ?_
      rw [low_wrap hc]
      refine st_bbk hB (by simp [Lib.byteCells]; omega) rfl fun v hv cv => next v ?_ (ext_chgS eW cv fun j hj => by omega)
      have := byteR_set ((s.take k).map lowC) (s.drop (k + 1)) s[k] (lowC s[k]) zs
      rw [hA] at this
      rw [this] at hv
      rw [ht, List.append_assoc]
      exact hv
    have kf : ¬ (65 ≤ s[k].toNat ∧ s[k].toNat ≤ 90) → K11 false W := fun hc => by
      refine hK11 _ _ fun _ => ?_
      simp only [br_f]
      refine next W ?_ eW
      have e : lowC s[k] = s[k] := by unfold lowC; rw [if_neg hc]
      rw [ht, e, List.append_assoc]
      exact hB
    refine br_split (fun g1 => ?_) (fun g1 => kf (by omega))
    by_cases g2 : s[k].toNat ≤ 90
    · rw [decide_eq_true (by omega)]; exact kt (by omega)
    · rw [decide_eq_false (by omega)]; exact kf (by omega)
  · have hkn : k = s.length := by omega
    subst hkn
    rw [List.take_length, List.drop_length, List.append_nil] at hB
    have hl : (s.map lowC).length = s.length := by simp
    rw [← hl]
    exact b2s_cells (byte_row hB) (h W eW)
end
end Go.Proofs
namespace Go.Proofs
open Go Go.Sh Go.RowKit

/- slices.DeleteFunc over the bytes of a string, and Plain -/
def psM (c : UInt8) : Bool := decide (kd c = 2)
theorem setCells_bbk : ∀ {vs cs : List Value} {w : World} {b o : Nat}, BBk w b cs → BBk (w.setCells b o vs) b (putAt cs o vs) ∧ Chg (fun k => k = b) w (w.setCells b o vs)
  | [], cs, w, b, o, h => ⟨h, Chg.refl _ _⟩
  | v :: vs, cs, w, b, o, h => by
    obtain ⟨a1, a2⟩ := setCells_bbk (vs := vs) (o := o + 1) (h.set o v)
    have c1 : Chg (fun k => k = b) w (w.setCell ⟨b, o, none⟩ v) := ⟨rfl, rfl, rfl, by simp, fun k _ hkb => by
      simp only [World.setCell, Array.getElem?_modify]
      rw [if_neg (fun e => hkb e.symm)]⟩
    exact ⟨a1, c1.trans a2⟩
theorem byteR_set2 {M : List UInt8} {i : Nat} (hi : i < M.length) (d : UInt8) (zs : List Value) : (Lib.byteCells M ++ zs).set i (.int .u8 (d.toNat : Int)) = Lib.byteCells (M.set i d) ++ zs := by
  rw [List.set_append_left _ _ (by simpa [Lib.byteCells] using hi)]
  simp [Lib.byteCells, List.map_set]
section
variable {R : Ending → World → Prop} {w : World}
theorem Plain1_spec (c : UInt8) (h : R (.returned (.bool (psM c))) w) : Calls Tryz.prog F_charset_Plain_1 ⟨[.int .u8 (c.toNat : Int)]⟩ w R := by
  apply c_charset_Plain_1
  exact Kind_spec _ ⟨_, rfl, h⟩
theorem callM (c : UInt8) (h : R (.returned (.bool (psM c))) w) : CallV Tryz.prog (.func (.func F_charset_Plain_1) #[] #[]) [.int .u8 (c.toNat : Int)] w R :=
  ⟨by kernel_rfl, Plain1_spec c h⟩
set_option maxRecDepth 20000 in
theorem IndexM_spec {b c : Nat} {L : List UInt8} {zs : List Value} (hB : BBk w b (Lib.byteCells L ++ zs)) (hs : L.length ≤ 1000000000) (h : R (.returned (.int .i64 (idxF psM L))) w) :
    Calls Tryz.prog F_slices_IndexFunc_of_byte_byte ⟨[.slice (some ⟨b, 0, none⟩) L.length c, .func (.func F_charset_Plain_1) #[] #[]]⟩ w R := by
  apply c_slices_IndexFunc_of_byte_byte
  refine ⟨fun i W m => ∃ k : Nat, i = k ∧ k ≤ L.length ∧ m = L.length - k ∧ (∀ j (hj : j < k) (hk : k ≤ L.length), psM (L[j]'(by omega)) = false) ∧ W = w, ⟨_, 0, rfl, by omega, rfl, fun j hj => by omega, rfl⟩, ?_⟩
  rintro _ W m ⟨k, rfl, hk, rfl, hno, rfl⟩ _
  refine br_split (fun hlt => ?_) (fun hge => ?_)
  · have hkL : k < L.length := by omega
    refine idx_row hkL ⟨_, byte_row hB k hkL, callM _ ⟨_, rfl, br_cases (fun g => ?_) (fun g => ?_)⟩⟩
    · unfold idxF at h
      rw [if_pos (List.any_eq_true.2 ⟨_, List.getElem_mem hkL, g⟩), findIdx_at hkL g (fun j hj => hno j hj (by omega))] at h
      exact h
    · refine ⟨L.length - (k + 1), by omega, k + 1, by rw [wrap_nat (by omega)], by omega, rfl, fun j hj hk' => ?_, rfl⟩
      by_cases hjk : j = k
      · subst hjk; exact g
      · exact hno j (by omega) (by omega)
  · unfold idxF at h
    rw [if_neg] at h
    · exact h
    · rw [Bool.not_eq_true, List.any_eq_false]
      intro x hx
      obtain ⟨j, hj, rfl⟩ := List.getElem_of_mem hx
      rw [hno j (by omega) (by omega)]; simp
set_option maxRecDepth 20000 in
theorem DeleteM_spec {b : Nat} {L : List UInt8} {zs : List Value} (hB : BBk w b (Lib.byteCells L ++ zs)) (hs : L.length ≤ 1000000000)
    (h : ∀ w', (∀ j (hj : j < (L.filter fun s => !psM s).length), w'.cell? ⟨b, j, none⟩ = some (.int .u8 ((L.filter fun s => !psM s)[j].toNat : Int))) → Chg (fun k => k = b) w w' → R (.returned (.slice (some ⟨b, 0, none⟩) (L.filter fun s => !psM s).length (L.length + zs.length))) w') :
    Calls Tryz.prog F_slices_DeleteFunc_of_byte_byte ⟨[.slice (some ⟨b, 0, none⟩) L.length (L.length + zs.length), .func (.func F_charset_Plain_1) #[] #[]]⟩ w R := by
  apply c_slices_DeleteFunc_of_byte_byte
  refine IndexM_spec hB hs ⟨_, rfl, ?_⟩
  by_cases hany : L.any psM = true
  · have hx : L.findIdx psM < L.length := List.findIdx_lt_length_of_exists (List.any_eq_true.1 hany)
    unfold idxF
    rw [if_pos hany]
    generalize hi0 : L.findIdx psM = i0 at hx ⊢
    have hq0 : psM L[i0] = true := by subst hi0; exact List.findIdx_getElem
    have hlt0 : ∀ j (hj : j < i0), psM (L[j]'(by omega)) = false := fun j hj => by
      have := List.not_of_lt_findIdx (p := psM) (xs := L) (i := j) (by omega)
      simpa using this
    refine br_split (fun hh => by omega) (fun _ => ?_)
    have f0 : (L.take (i0 + 1)).filter (fun s => !psM s) = L.take i0 := by
      rw [filter_take_succ _ hx, if_neg (by simp [hq0]), List.filter_eq_self]
      intro s hs
      obtain ⟨j, hj, rfl⟩ := List.getElem_of_mem hs
      rw [List.length_take] at hj
      rw [List.getElem_take, hlt0 j (by omega)]; rfl
    refine ⟨fun i j W m => ∃ (k : Nat) (M : List UInt8) (i' : Nat), i = i' ∧ j = k ∧ k ≤ L.length ∧ m = L.length - k ∧ i' < k ∧ BBk W b (Lib.byteCells M ++ zs) ∧ M.length = L.length ∧ M.take i' = (L.take k).filter (fun s => !psM s) ∧ M.drop k = L.drop k ∧ Chg (fun k => k = b) w W,
      ⟨_, i0 + 1, L, i0, rfl, by rw [wrap_nat (by omega)], by omega, rfl, by omega, hB, rfl, f0.symm, rfl, Chg.refl _ _⟩, ?_⟩
    rintro _ _ W m ⟨k, M, i', rfl, rfl, hk, rfl, hik, hM, hml, ht, hd, hc⟩ _
    refine br_split (fun hlt => ?_) (fun hge => ?_)
    · have hkM : k < M.length := by omega
      have hkL : k < L.length := by omega
      have hMk : M[k] = L[k] := by
        have : M.drop k = M[k] :: M.drop (k + 1) := List.drop_eq_getElem_cons hkM
        rw [hd, List.drop_eq_getElem_cons hkL] at this
        exact (List.cons.inj this).1.symm
      have hcl := byte_row hM k hkM
      rw [hMk] at hcl
      refine idx_row hkL ⟨_, hcl, callM _ ⟨_, rfl, ?_⟩⟩
      refine br_cases (fun g => ?_) (fun g => ?_)
      · have gq : psM L[k] = false := by simpa using g
        refine idx_row (by omega) ?_
        refine st_bbk hM (by simp [Lib.byteCells]; omega) rfl fun w18 hM18 hc18 => ?_
        rw [byteR_set2 (by omega)] at hM18
        refine ⟨L.length - (k + 1), by omega, k + 1, M.set i' L[k], i' + 1, by rw [wrap_nat (by omega)], by rw [wrap_nat (by omega)], by omega, rfl, by omega, hM18, by simpa using hml, ?_, ?_, hc.trans hc18⟩
        · rw [filter_take_succ _ hkL, if_pos (by simp [gq]), ← ht]
          have hl2 : i' < (M.set i' L[k]).length := by simp; omega
          rw [List.take_add_one, List.getElem?_eq_getElem hl2, List.take_set_of_le (Nat.le_refl _)]
          simp
        · rw [List.drop_set_of_lt (by omega)]
          have : M.drop (k + 1) = (M.drop k).drop 1 := by rw [List.drop_drop]
          rw [this, hd, List.drop_drop]
      · have gq : psM L[k] = true := by simpa using g
        refine ⟨L.length - (k + 1), by omega, k + 1, M, i', rfl, by rw [wrap_nat (by omega)], by omega, rfl, by omega, hM, hml, ?_, ?_, hc⟩
        · rw [filter_take_succ _ hkL, if_neg (by simp [gq]), ht]
        · have : M.drop (k + 1) = (M.drop k).drop 1 := by rw [List.drop_drop]
          rw [this, hd, List.drop_drop]
    · have hkn : k = L.length := by omega
      subst hkn
      rw [List.take_length] at ht
      have hfl : (L.filter fun s => !psM s).length = i' := by rw [← ht, List.length_take]; omega
      obtain ⟨a1, a2⟩ := setCells_bbk (vs := List.replicate (L.length - i') (.int .u8 0)) (o := i') hM
      refine ⟨by omega, by omega, by omega, ?_⟩
      rw [Int.toNat_natCast, Int.toNat_natCast]
      have hsl : slA (some (⟨b, 0, none⟩ : Addr)) (L.length + zs.length) i' 1 = some ⟨b, i', none⟩ := by
        unfold slA
        rw [if_neg (by omega)]
        simp [add_none]
      rw [hsl]
      refine ⟨W.setCells b i' (List.replicate (L.length - i') (.int .u8 0)), ?_, ?_⟩
      · refine Lib.run_clear_slice W 73 5 0 (.int .u8 0) slT_byte.under (fun w => zero_run (by kernel_rfl) w) rfl rfl b i' (L.length - i') _ (by omega) (fun j hj => ?_) (fun j hj => ?_)
        · have := byte_row hM (i' + j) (by omega)
          rw [this]; rfl
        · exact hM.frozen (by simp [Lib.byteCells]; omega)
      · refine ⟨by omega, by omega, by omega, ?_⟩
        rw [show (0 : Int).toNat = 0 from rfl, Go.Sh.slA_zero _ _ (.inr ⟨b, rfl⟩), Int.toNat_natCast, Nat.sub_zero, Nat.sub_zero]
        have := h (W.setCells b i' (List.replicate (L.length - i') (.int .u8 0))) (fun j hj => ?_) (hc.trans a2)
        · rw [hfl] at this; exact this
        · have hj' : j < i' := by rw [hfl] at hj; exact hj
          rw [a1.cell, putAt_get, if_neg (by omega)]
          have h1 : (L.filter fun s => !psM s)[j] = M[j]'(by omega) := by
            have : (M.take i')[j]? = (L.filter fun s => !psM s)[j]? := by rw [ht]
            rw [List.getElem?_take, if_pos hj', List.getElem?_eq_getElem (by omega), List.getElem?_eq_getElem hj] at this
            exact (Option.some.inj this).symm
          rw [h1, ← hM.cell, byte_row hM j (by omega)]
  · unfold idxF
    rw [if_neg hany]
    refine br_split (fun _ => ?_) (fun hh => absurd rfl hh)
    have e : L.filter (fun s => !psM s) = L := by
      rw [List.filter_eq_self]
      intro s hs
      have := List.any_eq_false.1 (by simpa using hany) s hs
      simpa using this
    rw [e] at h
    exact h w (byte_row hB) (Chg.refl _ _)
set_option maxRecDepth 20000 in
theorem Plain_spec (s : List UInt8) (hs : s.length ≤ 1000000000) (h : ∀ w', Ext w w' → R (.returned (.string ⟨⟨s.filter fun c => !psM c⟩⟩)) w') : Calls Tryz.prog F_charset_Plain ⟨[.string ⟨⟨s⟩⟩]⟩ w R := by
  apply c_charset_Plain
  refine s2b_row fun w3 zs B3 e3 => ?_
  exact DeleteM_spec B3 hs fun w5 hc c5 => ⟨_, _, _, rfl, b2s_cells hc (h w5 (ext_chgS e3 c5 fun j hj => by omega))⟩
end
end Go.Proofs
namespace Go.Proofs
open Go Go.Sh Go.RowKit

/- charset.Compare -/
def plainL (s : List UInt8) : List UInt8 := s.filter fun c => !psM c
def cmpB (x y : List UInt8) : Int := if Op.bytesLess x y = true then -1 else if (Op.bytesLess x y || decide (x = y)) = true then 0 else 1
def stepC (i : Nat) (s : List UInt8) : List UInt8 := if i = 0 then (plainL s).map lowC else if i = 1 then plainL s else s
def cmpC (a b : List UInt8) : Int := if cmpB (stepC 0 a) (stepC 0 b) ≠ 0 then cmpB (stepC 0 a) (stepC 0 b) else if cmpB (stepC 1 a) (stepC 1 b) ≠ 0 then cmpB (stepC 1 a) (stepC 1 b) else cmpB (stepC 2 a) (stepC 2 b)
def fnC (i : Nat) : FuncId := if i = 0 then F_charset_Compare_1 else if i = 1 then F_charset_Plain else F_charset_Compare_2
section
variable {R : Ending → World → Prop} {w : World}
theorem cmpS_spec (x y : List UInt8) (h : R (.returned (.int .i64 (cmpB x y))) w) : Calls Tryz.prog F_cmp_Compare_of_string ⟨[.string ⟨⟨x⟩⟩, .string ⟨⟨y⟩⟩]⟩ w R := by
  apply c_cmp_Compare_of_string
  apply c_cmp_isNaN_of_string
  refine ⟨_, rfl, ?_⟩
  apply c_cmp_isNaN_of_string
  refine ⟨_, rfl, ?_⟩
  rw [decide_eq_false (by simp), decide_eq_false (by simp)]
  simp only [br_f]
  unfold cmpB at h
  refine br_cases (fun g => ?_) (fun g => br_cases (fun g2 => ?_) (fun g2 => ?_))
  · rw [if_pos g] at h; exact h
  · rw [if_neg (by rw [g]; decide), if_neg (by rw [Bool.not_eq_true'] at g2; rw [g2]; decide)] at h; exact h
  · rw [if_neg (by rw [g]; decide), if_pos (by rw [Bool.not_eq_false'] at g2; exact g2)] at h; exact h
theorem step_call (k : Nat) (hk : k < 3) (s : List UInt8) (hs : s.length ≤ 1000000000) (h : ∀ w', Ext w w' → R (.returned (.string ⟨⟨stepC k s⟩⟩)) w') : CallV Tryz.prog (.func (.func (fnC k)) #[] #[]) [.string ⟨⟨s⟩⟩] w R := by
  rcases (by omega : k = 0 ∨ k = 1 ∨ k = 2) with rfl | rfl | rfl
  · refine ⟨by kernel_rfl, ?_⟩
    show Calls Tryz.prog F_charset_Compare_1 _ _ _
    apply c_charset_Compare_1
    refine Plain_spec s hs fun w3 e3 => ⟨_, rfl, ?_⟩
    have := List.length_filter_le (fun c => !psM c) s
    exact Fold_spec _ (by omega) fun w6 e6 => ⟨_, rfl, h w6 (ext_trans e3 e6)⟩
  · exact ⟨by kernel_rfl, Plain_spec s hs h⟩
  · refine ⟨by kernel_rfl, ?_⟩
    show Calls Tryz.prog F_charset_Compare_2 _ _ _
    apply c_charset_Compare_2
    exact h w (Below.refl _ _)
set_option maxRecDepth 20000 in
theorem CompareC_spec (a b : List UInt8) (ha : a.length ≤ 1000000000) (hb : b.length ≤ 1000000000) (h : ∀ w', Ext w w' → R (.returned (.int .i64 (cmpC a b))) w') : Calls Tryz.prog F_charset_Compare ⟨[.string ⟨⟨a⟩⟩, .string ⟨⟨b⟩⟩]⟩ w R := by
  apply c_charset_Compare
  refine al_intro fun b3 w4 hb3 B3 e4 s4 => ?_
  refine ⟨fun i W m => ∃ k : Nat, i = k ∧ k ≤ 3 ∧ m = 3 - k ∧ Ext w4 W ∧ ∀ j, j < k → cmpB (stepC j a) (stepC j b) = 0, ⟨_, 0, rfl, by omega, rfl, Below.refl _ _, fun j hj => by omega⟩, ?_⟩
  rintro _ W m ⟨k, rfl, hk, rfl, eW, hz⟩ _
  have EW := ext_trans e4 eW
  have hC : ∀ c, c = cmpC a b → ∀ v, Ext w v → R (.returned (.int .i64 c)) v := fun c hc v hv => by rw [hc]; exact h v hv
  refine br_split (fun hlt => ?_) (fun hge => ?_)
  · have hk3 : k < 3 := by omega
    have hcell : W.cell? ⟨b3, k, none⟩ = some (.func (.func (fnC k)) #[] #[]) := by
      rw [(B3.ext eW).cell]
      rcases (by omega : k = 0 ∨ k = 1 ∨ k = 2) with rfl | rfl | rfl <;> rfl
    refine idx_row hk3 ⟨_, _, _, hcell, ?_⟩
    refine step_call k hk3 a ha fun w13 e13 => ⟨_, rfl, ?_⟩
    refine step_call k hk3 b hb fun w16 e16 => ⟨_, rfl, ?_⟩
    refine cmpS_spec _ _ ⟨_, rfl, ?_⟩
    have E16 := ext_trans EW (ext_trans e13 e16)
    refine br_split (fun hne => hC _ ?_ w16 E16) (fun heq => ?_)
    · unfold cmpC
      rcases (by omega : k = 0 ∨ k = 1 ∨ k = 2) with rfl | rfl | rfl
      · rw [if_pos hne]
      · rw [if_neg (by rw [hz 0 (by omega)]; simp), if_pos hne]
      · rw [if_neg (by rw [hz 0 (by omega)]; simp), if_neg (by rw [hz 1 (by omega)]; simp)]
    · refine ⟨3 - (k + 1), by omega, k + 1, by rw [wrap_nat (by omega)], by omega, rfl, ext_trans eW (ext_trans e13 e16), fun j hj => ?_⟩
      by_cases hjk : j = k
      · subst hjk; exact Decidable.not_not.1 heq
      · exact hz j (by omega)
  · refine hC 0 ?_ W EW
    unfold cmpC
    rw [if_neg (by rw [hz 0 (by omega)]; simp), if_neg (by rw [hz 1 (by omega)]; simp), hz 2 (by omega)]
end
/- its order -/
theorem cmpB_zero {x y : List UInt8} : cmpB x y = 0 ↔ x = y := by
  unfold cmpB
  rw [bytesLess_eq]
  by_cases h : x < y
  · have : x ≠ y := fun e => by subst e; exact List.lt_irrefl _ h
    simp [h, this]
  · by_cases e : x = y <;> simp [h, e]
theorem cmpB_neg (x y : List UInt8) : cmpB y x = - cmpB x y := by
  unfold cmpB
  rw [bytesLess_eq, bytesLess_eq]
  by_cases h : x < y
  · have h1 : ¬ y < x := fun h2 => List.lt_asymm h h2
    have h2 : y ≠ x := fun e => by subst e; exact List.lt_irrefl _ h
    simp [h, h1, h2]
  · by_cases e : x = y
    · subst e; simp [List.lt_irrefl]
    · have h1 : y < x := by
        by_cases h1 : y < x
        · exact h1
        · exact absurd (List.le_antisymm (List.not_lt.1 h1) (List.not_lt.1 h)) e
      simp [h, e, h1]
theorem cmpC_neg (a b : List UInt8) : cmpC b a = - cmpC a b := by
  unfold cmpC
  rw [cmpB_neg (stepC 0 a), cmpB_neg (stepC 1 a), cmpB_neg (stepC 2 a)]
  by_cases h0 : cmpB (stepC 0 a) (stepC 0 b) = 0
  · by_cases h1 : cmpB (stepC 1 a) (stepC 1 b) = 0
    · simp [h0, h1]
    · simp [h0, h1]
  · simp [h0]
theorem cmpC_zero {a b : List UInt8} (h : cmpC a b = 0) : a = b := by
  unfold cmpC at h
  split at h
  · rename_i hh; exact absurd h hh
  split at h
  · rename_i hh; exact absurd h hh
  exact cmpB_zero.1 h
end Go.Proofs
namespace Go.Proofs
open Go Go.Sh Go.RowKit

/- slices.SortFunc with charset.Compare over at most 12 strings: the library's insertion sort -/
def gS (M : List (List UInt8)) (i : Nat) : List UInt8 := (M[i]?).getD []
theorem gS_at {M : List (List UInt8)} {i : Nat} (h : i < M.length) : gS M i = M[i] := by unfold gS; simp [h]
theorem gS_set {M : List (List UInt8)} {j : Nat} (h : j < M.length) (v : List UInt8) (i : Nat) : gS (M.set j v) i = if i = j then v else gS M i := by
  unfold gS
  rw [List.getElem?_set]
  by_cases e : j = i
  · subst e; simp [h]
  · rw [if_neg e, if_neg (fun q => e q.symm)]
theorem gS_mem {M : List (List UInt8)} {x : List UInt8} : x ∈ M ↔ ∃ i, i < M.length ∧ gS M i = x := by
  rw [List.mem_iff_getElem]
  constructor
  · rintro ⟨i, hi, e⟩; exact ⟨i, hi, by rw [gS_at hi, e]⟩
  · rintro ⟨i, hi, e⟩; exact ⟨i, hi, by rw [← gS_at hi, e]⟩
def swp (M : List (List UInt8)) (j : Nat) : List (List UInt8) := (M.set j (gS M (j - 1))).set (j - 1) (gS M j)
theorem swp_len (M : List (List UInt8)) (j : Nat) : (swp M j).length = M.length := by unfold swp; simp
theorem swp_g {M : List (List UInt8)} {j : Nat} (h0 : 0 < j) (hj : j < M.length) (i : Nat) : gS (swp M j) i = if i = j - 1 then gS M j else if i = j then gS M (j - 1) else gS M i := by
  unfold swp
  rw [gS_set (by simp; omega), gS_set hj]
theorem swp_mem {M : List (List UInt8)} {j : Nat} (h0 : 0 < j) (hj : j < M.length) (x : List UInt8) : x ∈ swp M j ↔ x ∈ M := by
  rw [gS_mem, gS_mem, swp_len]
  constructor
  · rintro ⟨i, hi, e⟩
    rw [swp_g h0 hj] at e
    split at e
    · exact ⟨j, hj, e⟩
    split at e
    · exact ⟨j - 1, by omega, e⟩
    · exact ⟨i, hi, e⟩
  · rintro ⟨i, hi, e⟩
    by_cases h1 : i = j
    · exact ⟨j - 1, by omega, by rw [swp_g h0 hj, if_pos rfl, ← h1, e]⟩
    by_cases h2 : i = j - 1
    · exact ⟨j, hj, by rw [swp_g h0 hj, if_neg (by omega), if_pos rfl, ← h2, e]⟩
    · exact ⟨i, hi, by rw [swp_g h0 hj, if_neg h2, if_neg h1, e]⟩
def srt (M : List (List UInt8)) (p q : Nat) : Prop := ¬ cmpC (gS M q) (gS M p) < 0
section
variable {R : Ending → World → Prop} {w : World}
theorem callC (a b : List UInt8) (ha : a.length ≤ 1000000000) (hb : b.length ≤ 1000000000) (h : ∀ w', Ext w w' → R (.returned (.int .i64 (cmpC a b))) w') : CallV Tryz.prog (.func (.func F_charset_Compare) #[] #[]) [.string ⟨⟨a⟩⟩, .string ⟨⟨b⟩⟩] w R :=
  ⟨by kernel_rfl, CompareC_spec a b ha hb h⟩
set_option maxRecDepth 20000 in
theorem insertion_spec {B : Nat} {a : Option Addr} {n c : Nat} {L : List (List UInt8)} (hO : OwnL Sh.encStr w B 9 a n c L) (hn : n ≤ 1000000) (hB : B ≤ w.heap.size) (hbig : ∀ x ∈ L, x.length ≤ 1000000000)
    (h : ∀ M w', OwnL Sh.encStr w' B 9 a n c M → (∀ x, x ∈ M ↔ x ∈ L) → (∀ p, p + 1 < n → srt M p (p + 1)) → Chg (bk a) w w' → R (.returned (.tuple ⟨[]⟩)) w') :
    Calls Tryz.prog F_slices_insertionSortCmpFunc_of_string ⟨[.slice a n c, .int .i64 0, .int .i64 n, .func (.func F_charset_Compare) #[] #[]]⟩ w R := by
  apply c_slices_insertionSortCmpFunc_of_string
  refine ⟨fun i W m => ∃ k : Nat, ∃ M, i = k ∧ 1 ≤ k ∧ k ≤ n + 1 ∧ m = n + 1 - k ∧ OwnL Sh.encStr W B 9 a n c M ∧ (∀ x, x ∈ M ↔ x ∈ L) ∧ (∀ p, p + 1 < k → p + 1 < n → srt M p (p + 1)) ∧ Chg (bk a) w W,
    ⟨_, 1, L, by decide, by omega, by omega, rfl, hO, fun x => Iff.rfl, fun p hp => by omega, Chg.refl _ _⟩, ?_⟩
  rintro _ W m ⟨k, M, rfl, hk1, hk2, rfl, hM, hm, hs, hc⟩ _
  refine br_split (fun hlt => ?_) (fun hge => h M W hM hm (fun p hp => hs p (by omega) hp) hc)
  have hkn : k < n := by omega
  refine ⟨fun j V m' => ∃ jj : Nat, ∃ N, j = jj ∧ jj ≤ k ∧ m' = jj + 0 ∧ OwnL Sh.encStr V B 9 a n c N ∧ (∀ x, x ∈ N ↔ x ∈ L) ∧ (∀ p, p + 1 ≤ k → p + 1 ≠ jj → srt N p (p + 1)) ∧ (1 ≤ jj → jj + 1 ≤ k → srt N (jj - 1) (jj + 1)) ∧ Chg (bk a) w V,
    ⟨_, k, M, rfl, by omega, rfl, hM, hm, fun p hp hne => hs p (by omega) (by omega), fun _ hh => by omega, hc⟩, ?_⟩
  rintro _ V m' ⟨j, N, rfl, hj, hm', hN, hmN, hsN, hsk, hcV⟩ _
  have hln := hN.length
  intro K15 hK15
  -- leaving the inner loop
  have out : ∀ v, Ext V v → (1 ≤ j → srt N (j - 1) j) → ∃ m36 : Nat, m36 < n + 1 - k ∧ ∃ k' : Nat, ∃ M, IntKind.i64.wrap ((k : Int) + 1) = k' ∧ 1 ≤ k' ∧ k' ≤ n + 1 ∧ m36 = n + 1 - k' ∧ OwnL Sh.encStr v B 9 a n c M ∧ (∀ x, x ∈ M ↔ x ∈ L) ∧ (∀ p, p + 1 < k' → p + 1 < n → srt M p (p + 1)) ∧ Chg (bk a) w v := by
    intro v ev hj1
    refine ⟨n + 1 - (k + 1), by omega, k + 1, N, by rw [wrap_nat (by omega)], by omega, by omega, rfl, hN.ext ev, hmN, fun p hp hpn => ?_, hcV.trans (.of_ext ev)⟩
    by_cases hpj : p + 1 = j
    · have := hj1 (by omega)
      rw [← hpj, show p + 1 - 1 = p by omega] at this; exact this
    · exact hsN p (by omega) hpj
  have k15 : ∀ v, Ext V v → 0 < j → cmpC (gS N j) (gS N (j - 1)) < 0 → K15 v := by
    intro v ev hj0 hlt'
    refine hK15 _ fun _ => ?_
    unfold drw
    have ed := ext_drew v
    have e17 := ext_trans ev ed
    generalize v.drew = w17 at *
    have hN17 := hN.ext e17
    have hjl : j < N.length := by omega
    obtain ⟨p1, hp1, hc1⟩ := get_str (OwnL.out hN17) (show j - 1 < N.length by omega)
    obtain ⟨p2, hp2, hc2⟩ := get_str (OwnL.out hN17) hjl
    rw [wrap_id (by omega), show (j : Int) - 1 = ((j - 1 : Nat) : Int) by omega]
    refine hp1 _ ⟨_, hc1, hp2 _ ⟨_, hc2, ?_⟩⟩
    obtain ⟨g, rfl, hi1, hst⟩ := OwnL.store hN17 (i := j) (by omega) N[j - 1]
    refine hi1 _ ⟨hst _ fun w23 h23 c23 s23 => ?_, trivial⟩
    obtain ⟨g', hg', hi2, hst2⟩ := OwnL.store h23 (i := j - 1) (by omega) N[j]
    obtain rfl : g = g' := by simpa using hg'
    refine hi2 _ ⟨hst2 _ fun w25 h25 c25 s25 => ?_, trivial⟩
    have e1 : (N.set j N[j - 1]).set (j - 1) N[j] = swp N j := by
      unfold swp
      rw [gS_at hjl, gS_at (show j - 1 < N.length by omega)]
    rw [e1] at h25
    have hsg := swp_g hj0 hjl
    refine ⟨j - 1, by omega, j - 1, swp N j, rfl, by omega, rfl, h25, fun x => (swp_mem hj0 hjl x).trans (hmN x), fun p hp hne => ?_, fun h1 h2 => ?_, hcV.trans ((Chg.of_ext e17).trans (c23.trans c25))⟩
    · unfold srt
      rw [hsg, hsg]
      by_cases q1 : p = j - 1
      · subst q1
        rw [if_neg (by omega), if_pos (by omega), if_pos rfl, cmpC_neg]; omega
      by_cases q2 : p = j
      · subst q2
        rw [if_neg (by omega), if_neg (by omega), if_neg (by omega), if_pos rfl]
        exact hsk (by omega) (by omega)
      · rw [if_neg (by omega), if_neg (by omega), if_neg q1, if_neg q2]
        exact hsN p hp (by omega)
    · unfold srt
      rw [hsg, hsg, if_neg (by omega), if_pos (by omega), if_neg (by omega), if_neg (by omega)]
      have := hsN (j - 1 - 1) (by omega) (by omega)
      rw [show j - 1 - 1 + 1 = j - 1 by omega] at this
      exact this
  unfold drw
  have ed := ext_drew V
  generalize V.drew = w27 at *
  refine br_split (fun hj0 => ?_) (fun hj0 => ⟨out w27 ed (fun hh => by omega), trivial⟩)
  have hN27 := hN.ext ed
  have hj0' : 0 < j := by omega
  have hjl : j < N.length := by omega
  obtain ⟨p1, hp1, hc1⟩ := get_str (OwnL.out hN27) (show j - 1 < N.length by omega)
  obtain ⟨p2, hp2, hc2⟩ := get_str (OwnL.out hN27) hjl
  refine hp2 _ ⟨_, hc2, ?_⟩
  rw [wrap_id (by omega), show (j : Int) - 1 = ((j - 1 : Nat) : Int) by omega]
  refine hp1 _ ⟨_, hc1, ?_, trivial⟩
  have b1 := hbig _ ((hmN _).1 (List.getElem_mem hjl))
  have b2 := hbig _ ((hmN _).1 (List.getElem_mem (show j - 1 < N.length by omega)))
  refine callC _ _ b1 b2 fun w33 e33 => ⟨_, rfl, ?_⟩
  rw [← gS_at hjl, ← gS_at (show j - 1 < N.length by omega)]
  exact br_split (fun g => k15 w33 (ext_trans ed e33) hj0' g) (fun g => out w33 (ext_trans ed e33) fun _ => g)
end
end Go.Proofs
namespace Go.Proofs
open Go Go.Sh Go.RowKit

/- slices.SortFunc of at most 12 strings -/
section
variable {R : Ending → World → Prop} {w : World}
set_option maxRecDepth 20000 in
theorem SortC_spec {B : Nat} {a : Option Addr} {n c : Nat} {L : List (List UInt8)} (hO : OwnL Sh.encStr w B 9 a n c L) (hn : n ≤ 12) (hB : B ≤ w.heap.size) (hbig : ∀ x ∈ L, x.length ≤ 1000000000)
    (h : ∀ M w', OwnL Sh.encStr w' B 9 a n c M → (∀ x, x ∈ M ↔ x ∈ L) → (∀ p, p + 1 < n → srt M p (p + 1)) → Chg (bk a) w w' → R (.returned (.tuple ⟨[]⟩)) w') :
    Calls Tryz.prog F_slices_SortFunc_of_string_string ⟨[.slice a n c, .func (.func F_charset_Compare) #[] #[]]⟩ w R := by
  apply c_slices_SortFunc_of_string_string
  have wr : IntKind.u64.wrap (n : Int) = n := by simp [IntKind.wrap, IntKind.bits, IntKind.signed]; omega
  unfold sh_slices_SortFunc_of_string_string
  rw [wr]
  refine (Tryz.bits_Len (n : Int) w (by omega) (by omega)).mono ?_
  rintro e w4 ⟨rfl, rfl⟩
  refine ⟨_, rfl, ?_⟩
  apply c_slices_pdqsortCmpFunc_of_string
  unfold sh_slices_pdqsortCmpFunc_of_string
  refine ⟨fun a' b' _ _ _ W m => a' = 0 ∧ b' = n ∧ W = w4 ∧ m = 0, ⟨0, rfl, rfl, rfl, rfl⟩, ?_⟩
  rintro _ _ _ _ _ _ _ ⟨rfl, rfl, rfl, rfl⟩ _
  rw [Int.sub_zero, wrap_id (by omega)]
  refine br_split (fun _ => ?_) (fun hh => absurd (by omega) hh)
  exact insertion_spec hO (by omega) hB hbig fun M w' h1 h2 h3 h4 => ⟨rfl, rfl, h M w' h1 h2 h3 h4⟩
end
end Go.Proofs
namespace Go.Proofs
open Go Go.Sh Go.RowKit

/- slices.Compact of strings in order -/
theorem gS_snoc (C : List (List UInt8)) (v : List UInt8) (i : Nat) : gS (C ++ [v]) i = if i < C.length then gS C i else if i = C.length then v else [] := by
  unfold gS
  by_cases h : i < C.length
  · rw [if_pos h, List.getElem?_append_left h]
  · rw [if_neg h, List.getElem?_append_right (by omega)]
    by_cases h2 : i = C.length
    · subst h2; simp
    · rw [if_neg h2, List.getElem?_eq_none (by simp; omega)]; rfl
theorem cpt_facts (d : Array (List UInt8)) (hs : ∀ p, p + 1 < d.size → ¬ cmpC d[p + 1]! d[p]! < 0) : ∀ m, m ≤ d.size →
    (∀ x, x ∈ Lib.compactUpTo d m ↔ ∃ i, i < m ∧ d[i]! = x) ∧ (∀ p, p + 1 < (Lib.compactUpTo d m).length → cmpC (gS (Lib.compactUpTo d m) p) (gS (Lib.compactUpTo d m) (p + 1)) < 0) ∧
      (0 < m → 0 < (Lib.compactUpTo d m).length ∧ gS (Lib.compactUpTo d m) ((Lib.compactUpTo d m).length - 1) = d[m - 1]!)
  | 0, _ => by
    have e : Lib.compactUpTo d 0 = [] := rfl
    rw [e]
    exact ⟨fun x => ⟨fun h => (by cases h), fun ⟨i, hi, _⟩ => by omega⟩, fun p hp => by simp at hp, fun h => by omega⟩
  | m + 1, hm => by
    obtain ⟨i1, i2, i3⟩ := cpt_facts d hs m (by omega)
    rw [Lib.compactUpTo_succ]
    by_cases hk : Lib.keeps d m = true
    · rw [if_pos hk]
      generalize Lib.compactUpTo d m = C at *
      refine ⟨fun x => ?_, fun p hp => ?_, fun _ => ⟨by simp, ?_⟩⟩
      · rw [List.mem_append, i1, List.mem_singleton]
        constructor
        · rintro (⟨i, hi, e⟩ | e)
          · exact ⟨i, by omega, e⟩
          · exact ⟨m, by omega, e.symm⟩
        · rintro ⟨i, hi, e⟩
          by_cases him : i = m
          · subst him; exact .inr e.symm
          · exact .inl ⟨i, by omega, e⟩
      · rw [List.length_append, List.length_singleton] at hp
        rw [gS_snoc, gS_snoc, if_pos (by omega)]
        by_cases hpl : p + 1 < C.length
        · rw [if_pos hpl]; exact i2 p hpl
        · rw [if_neg hpl, if_pos (by omega)]
          have hm0 : 0 < m := by
            rcases Nat.eq_zero_or_pos m with h0 | h0
            · subst h0
              have : C = [] := by
                cases C with
                | nil => rfl
                | cons x r => obtain ⟨i, hi, _⟩ := (i1 x).1 (List.mem_cons_self ..); omega
              subst this; simp at hp
            · exact h0
          obtain ⟨j1, j2⟩ := i3 hm0
          rw [show p = C.length - 1 by omega, j2]
          have hne : d[m]! ≠ d[m - 1]! := by
            unfold Lib.keeps at hk
            rw [decide_eq_true_eq] at hk
            exact hk.resolve_left (by omega)
          have h1 := hs (m - 1) (by omega)
          rw [show m - 1 + 1 = m by omega] at h1
          have h2 := cmpC_neg d[m]! d[m - 1]!
          have h3 : cmpC d[m]! d[m - 1]! ≠ 0 := fun hh => hne (cmpC_zero hh)
          omega
      · rw [List.length_append, List.length_singleton, gS_snoc, if_neg (by omega), if_pos (by omega)]; rfl
    · have hk' : Lib.keeps d m = false := by simpa using hk
      rw [if_neg hk, List.append_nil]
      have hh : ¬ (m = 0 ∨ d[m]! ≠ d[m - 1]!) := by
        unfold Lib.keeps at hk'
        exact of_decide_eq_false hk'
      rw [not_or, Decidable.not_not] at hh
      obtain ⟨j1, j2⟩ := i3 (by omega)
      refine ⟨fun x => ?_, i2, fun _ => ⟨j1, ?_⟩⟩
      · rw [i1]
        constructor
        · rintro ⟨i, hi, e⟩; exact ⟨i, by omega, e⟩
        · rintro ⟨i, hi, e⟩
          by_cases him : i = m
          · subst him; exact ⟨i - 1, by omega, by rw [← hh.2]; exact e⟩
          · exact ⟨i, by omega, e⟩
      · rw [j2, show m + 1 - 1 = m by omega, hh.2]
end Go.Proofs
namespace Go.Proofs
open Go Go.Sh Go.RowKit

section
variable {R : Ending → World → Prop} {w : World}
theorem row_strs : ∀ l : List (List UInt8), Sh.encStr.row l = l.map fun s => Value.string ⟨s.toArray⟩
  | [] => rfl
  | x :: l => by rw [row_cons, row_strs l]; rfl
set_option maxRecDepth 20000 in
theorem CompactS_spec {B : Nat} {a : Option Addr} {n c : Nat} {M : List (List UInt8)} (hO : OwnL Sh.encStr w B 9 a n c M) (hn : n ≤ 1000000)
    (h : ∀ w', RowAt Sh.encStr (bk a) w' a (Lib.compact M).length (Lib.compact M) → Chg (bk a) w w' → R (.returned (.slice a (Lib.compact M).length c)) w') :
    Calls Tryz.prog F_slices_Compact_of_string_string ⟨[.slice a n c]⟩ w R := by
  have hl := OwnL.length hO
  by_cases h0 : n = 0
  · subst h0
    have hM : M = [] := List.eq_nil_of_length_eq_zero hl
    subst hM
    refine (Tryz.slices_Compact_string_empty a c w).mono ?_
    rintro e w' ⟨rfl, rfl⟩
    exact h w' (RowAt.nil _) (Chg.refl _ _)
  · have ho := hO
    rcases hO.2 with h1 | ⟨g, cap, cur, e1, e2, e3, e4, e5, e6, e7⟩
    · exact absurd h1.2 h0
    obtain ⟨rfl, _, rfl⟩ : a = some ⟨g, 0, none⟩ ∧ True ∧ c = cap := by simpa using e1
    have hB : Blk w g cur.toList 9 := e3
    have e7' : cur.toList.take n = Sh.encStr.row M := by
      have : List.take (n * Sh.encStr.size) cur.toList = Sh.encStr.row M := e7
      rw [show n * Sh.encStr.size = n by simp [Sh.encStr]] at this
      exact this
    have hcell : ∀ i, i < n → w.cell? ⟨g, 0 + i, none⟩ = some (.string ⟨(gS M i).toArray⟩) := fun i hi => by
      rw [Nat.zero_add, hB.cell]
      have : cur.toList[i]? = (Sh.encStr.row M)[i]? := by rw [← e7', List.getElem?_take, if_pos hi]
      rw [this, row_strs, List.getElem?_map, List.getElem?_eq_getElem (by omega), gS_at (by omega)]; rfl
    have hst : Lib.strsOf (fun i => (⟨(gS M i).toArray⟩ : ByteArray)) n = M := by
      unfold Lib.strsOf
      apply List.ext_getElem
      · simp; omega
      · intro i h1 h2
        simp [gS_at h2]
    refine (Tryz.slices_Compact_string_cells g 0 n c (fun i => ⟨(gS M i).toArray⟩) w (by omega) e4 hcell (fun j hj => hB.frozen _)).mono ?_
    rintro e w' ⟨rfl, q, rfl⟩
    rw [hst]
    have hB2 : Blk (w.drewN q) g cur.toList 9 := e3
    have hcl : (Lib.compact M).length ≤ n := by
      unfold Lib.compact Lib.compactUpTo
      rw [List.length_map]
      refine Nat.le_trans (List.length_filter_le _ _) ?_
      rw [List.length_range]; omega
    generalize Lib.compact M = C at *
    have he : ((C ++ List.replicate (n - C.length) []).map encStr) = C.map (fun s => Value.string ⟨s.toArray⟩) ++ List.replicate (n - C.length) (.string ⟨#[]⟩) := by
      rw [List.map_append, List.map_replicate]
    rw [he]
    obtain ⟨a1, a2, a3, a4, a5, a6⟩ := setCells_blk (vs := C.map (fun s => Value.string ⟨s.toArray⟩) ++ List.replicate (n - C.length) (.string ⟨#[]⟩)) (o := 0) hB2
    refine h _ ⟨rfl, .inr ⟨g, 0, rfl, by simp [bk], a1.lt, fun j v hj => ?_⟩⟩ ?_
    · rw [Nat.zero_add, a1.cell, putAt_get]
      rw [row_strs] at hj
      have hjl : j < C.length := by have := (List.getElem?_eq_some_iff.1 hj).1; simpa using this
      have hcn : n ≤ cur.toList.length := by
        have : cur.size = c * Sh.encStr.size := e6
        rw [show c * Sh.encStr.size = c by simp [Sh.encStr]] at this
        simp; omega
      have hcz : cur.toList.length = cur.size := by simp
      rw [if_pos (by simp; omega), Nat.sub_zero, List.getElem?_append_left (by simpa using hjl)]
      exact hj
    · exact ⟨a4, a5, a6, by rw [a3]; exact Nat.le_refl _, fun k _ hk => a2 k fun e => hk (by simp [bk, e])⟩
end
end Go.Proofs
namespace Go.Proofs
open Go Go.Sh Go.RowKit

/- tokenizer.Names: the names in order, each once -/
def nmsL (l : List Tok) : List (List UInt8) := (l.filter fun x => decide (x.a ≠ [])).map (·.a)
theorem nmsL_snoc (l : List Tok) (x : Tok) : nmsL (l ++ [x]) = nmsL l ++ if x.a = [] then [] else [x.a] := by
  unfold nmsL
  rw [List.filter_append, List.map_append]
  by_cases h : x.a = [] <;> simp [h]
theorem nmsL_mem {l : List Tok} {s : List UInt8} : s ∈ nmsL l ↔ s ≠ [] ∧ ∃ x ∈ l, x.a = s := by
  unfold nmsL
  rw [List.mem_map]
  constructor
  · rintro ⟨x, hx, rfl⟩
    obtain ⟨h1, h2⟩ := List.mem_filter.1 hx
    exact ⟨by simpa using h2, x, h1, rfl⟩
  · rintro ⟨h1, x, hx, rfl⟩
    exact ⟨x, List.mem_filter.2 ⟨hx, by simpa using h1⟩, rfl⟩
theorem nmsL_len (l : List Tok) : (nmsL l).length ≤ l.length := by
  unfold nmsL
  rw [List.length_map]; exact List.length_filter_le _ _
/- what Names hands back -/
structure NmOk (l : List Tok) (C : List (List UInt8)) : Prop where
  mem : ∀ s, s ∈ C ↔ s ∈ nmsL l
  ord : ∀ p, p + 1 < C.length → cmpC (gS C p) (gS C (p + 1)) < 0
  len : C.length ≤ l.length
section
variable {R : Ending → World → Prop} {w : World}
set_option maxRecDepth 20000 in
theorem NamesT_spec {S : Nat → Prop} {a : Option Addr} {n c : Nat} (l : List Tok) (hR : RowAt encTk S w a n l) (hn : n ≤ 12) (hbig : ∀ x ∈ l, x.a.length ≤ 1000000000)
    (h : ∀ a' c' C w', NmOk l C → RowAt Sh.encStr (fun k => w.heap.size ≤ k) w' a' C.length C → Ext w w' → R (.returned (.slice a' C.length c')) w') :
    Calls Tryz.prog F_tokenizer_Names ⟨[.slice a n c]⟩ w R := by
  apply c_tokenizer_Names
  have hln := hR.1
  refine ⟨fun oa on oc i W m => ∃ k : Nat, i = k ∧ k ≤ n ∧ m = n - k ∧ on ≤ k ∧ Ext w W ∧ OwnL Sh.encStr W w.heap.size 9 oa on oc (nmsL (l.take k)), ⟨_, 0, rfl, by omega, rfl, by omega, Below.refl _ _, Owns.nil _ _ _ _⟩, ?_⟩
  rintro oa on oc _ W m ⟨k, rfl, hk, rfl, hon, he, hO⟩ _
  refine br_split (fun hlt => ?_) (fun hge => ?_)
  · have hkl : k < l.length := by omega
    obtain ⟨q, hq, c0, c1, c2, c3, c4, c5⟩ := tok_get (hR.ext he) (show l[k]? = some l[k] by simp [hkl])
    refine hq _ ⟨_, c0, _, c1, _, c2, _, c3, _, c4, _, c5, ?_⟩
    refine al_stL rfl (one6t _) fun b15 w17 hb15 B15 e17 s17 => ?_
    obtain ⟨d0, d1, d2, d3, d4, d5⟩ := blk6' B15
    have hsn : nmsL (l.take (k + 1)) = nmsL (l.take k) ++ if l[k].a = [] then [] else [l[k].a] := by rw [List.take_succ_eq_append_getElem hkl, nmsL_snoc]
    refine ⟨_, d5, br_split (fun hne => ⟨_, d5, ?_⟩) (fun hne => ?_)⟩
    · refine al_intro fun b19 w20 hb19 B19 e20 s20 => ?_
      have E20 := ext_trans e17 e20
      have B19' : Blk w20 b19 (Sh.encStr.enc l[k].a) 9 := B19
      have z20 := (ext_trans he E20).size
      refine OwnL.app1 (P := Tryz.prog) slT_strT (Owns.ext hO E20) (by omega) B19' (by omega) (by omega) fun a' c'' w22 ho hcg hn2 => ?_
      refine ⟨n - (k + 1), by omega, k + 1, by rw [wrap_nat (by omega)], by omega, rfl, by omega, ext_chgS (ext_trans he E20) hcg fun j hj => ?_, ?_⟩
      · exact ((Owns.ext hO E20).bk hj).1
      · rw [hsn, if_neg hne]; exact ho
    · refine ⟨n - (k + 1), by omega, k + 1, by rw [wrap_nat (by omega)], by omega, rfl, by omega, ext_trans he e17, ?_⟩
      rw [hsn, if_pos (Decidable.not_not.1 hne), List.append_nil]
      exact Owns.ext hO e17
  · rw [List.take_of_length_le (by omega)] at hO
    have z := he.size
    have hlo := OwnL.length hO
    refine SortC_spec hO (by omega) z (fun s hs => ?_) fun M w27 hM hm hs c27 => ⟨rfl, ?_⟩
    · obtain ⟨_, x, hx, rfl⟩ := nmsL_mem.1 hs
      exact hbig x hx
    have hlM := OwnL.length hM
    have hbk : ∀ j, bk oa j → w.heap.size ≤ j := fun j hj => (Owns.bk hO hj).1
    refine CompactS_spec hM (by omega) fun w29 h29 c29 => ⟨_, _, _, rfl, ?_⟩
    have E29 : Ext w w29 := ext_chgS (ext_chgS he c27 hbk) c29 hbk
    have hsz : M.toArray.size = M.length := by simp
    have hg : ∀ i, i < M.length → M.toArray[i]! = gS M i := fun i hi => by
      unfold gS; simp [hi]
    obtain ⟨f1, f2, _⟩ := cpt_facts M.toArray (fun p hp => by
      rw [hsz] at hp
      rw [hg _ hp, hg _ (by omega)]
      exact hs p (by omega)) M.length (by simp)
    have hC : Lib.compactUpTo M.toArray M.length = Lib.compact M := rfl
    rw [hC] at f1 f2
    have hcl : (Lib.compact M).length ≤ M.length := by
      unfold Lib.compact Lib.compactUpTo
      rw [List.length_map]
      refine Nat.le_trans (List.length_filter_le _ _) ?_
      rw [List.length_range]; omega
    have hnl := nmsL_len l
    refine h oa oc (Lib.compact M) w29 ⟨fun s => ?_, f2, by omega⟩ (h29.imp fun k hk _ => hbk k hk) E29
    rw [f1, ← hm s, gS_mem]
    constructor
    · rintro ⟨i, hi, e⟩; exact ⟨i, hi, by rw [← hg i hi]; exact e⟩
    · rintro ⟨i, hi, e⟩; exact ⟨i, hi, by rw [hg i hi]; exact e⟩
end
end Go.Proofs
namespace Go.Proofs
open Go Go.Sh Go.RowKit

/- sizes of tokens, and the law Names -/
theorem ContainsSt_spec {R : Ending → World → Prop} {S : Nat → Prop} {w : World} {a : Option Addr} {n c : Nat} {L : List (List UInt8)} (v : List UInt8) (h1 : RowAt Sh.encStr S w a n L) (hs : n ≤ 4611686018427387904)
    (h : R (.returned (.bool (decide (v ∈ L)))) w) : Calls Tryz.prog F_slices_Contains_of_string_string ⟨[.slice a n c, .string ⟨⟨v⟩⟩]⟩ w R := by
  apply c_slices_Contains_of_string_string
  have hn := h1.1
  apply c_slices_Index_of_string_string
  refine ⟨fun i W m => ∃ k : Nat, i = k ∧ k ≤ n ∧ m = n - k ∧ v ∉ L.take k ∧ W = w, ⟨_, 0, rfl, by omega, rfl, by simp, rfl⟩, ?_⟩
  rintro _ W m ⟨k, rfl, hk, rfl, hno, rfl⟩ _
  refine br_split (fun hlt => ?_) (fun hge => ?_)
  · have hkL : k < L.length := by omega
    obtain ⟨p, hp1, hc⟩ := get_str h1 hkL
    refine hp1 _ ⟨_, hc, br_split (fun g => ?_) (fun g => ?_)⟩
    · refine ⟨_, rfl, ?_⟩
      rw [decide_eq_true (show (0 : Int) ≤ (k : Int) by omega)]
      rw [decide_eq_true (show v ∈ L by rw [g]; exact List.getElem_mem hkL)] at h
      exact h
    · refine ⟨n - (k + 1), by omega, k + 1, by rw [wrap_nat (by omega)], by omega, rfl, ?_, rfl⟩
      rw [List.take_add_one, List.getElem?_eq_getElem hkL, List.mem_append]
      rintro (hh | hh)
      · exact hno hh
      · simp at hh; exact g hh
  · refine ⟨_, rfl, ?_⟩
    rw [List.take_of_length_le (by omega)] at hno
    rw [decide_eq_false hno] at h
    exact h
def lngS (s : List UInt8) : Bool := (decide (12 < s.length) && decide (s.length ≤ 64)) || decide (66 < s.length)
def grT1 (x : Tok) : Bool := lngS x.t || (lngS x.m || (lngS x.a || lngS x.p.1))
def grT (l : List Tok) (N : Nat) : Bool := ((decide (N < l.length) && decide (l.length ≤ 1024)) || decide (1026 < l.length)) || l.any grT1
section
variable {R : Ending → World → Prop} {w : World}
theorem lng_spec (s : List UInt8) (h : R (.returned (.bool (lngS s))) w) : Calls Tryz.prog F_ref15_long ⟨[.string ⟨⟨s⟩⟩]⟩ w R := by
  apply c_ref15_long
  have e3 : decide ((66 : Int) < ((s.length : Nat) : Int)) = decide (66 < s.length) := decide_eq_decide.2 (by omega)
  unfold lngS at h
  refine br_split (fun g => br_split (fun g2 => ?_) (fun g2 => ?_)) (fun g => ?_)
  · rw [decide_eq_true (by omega), decide_eq_true (by omega)] at h; exact h
  · rw [decide_eq_true (by omega : 12 < s.length), decide_eq_false (by omega : ¬ s.length ≤ 64)] at h
    rw [e3]; exact h
  · rw [decide_eq_false (by omega : ¬ 12 < s.length)] at h
    rw [e3]; exact h
set_option maxRecDepth 20000 in
theorem GreatT_spec {S : Nat → Prop} {a : Option Addr} {n c : Nat} (l : List Tok) (N : Nat) (hR : RowAt encTk S w a n l) (h : R (.returned (.bool (grT l N))) w) : Calls Tryz.prog F_ref15_Great ⟨[.slice a n c, .int .i64 (N : Int)]⟩ w R := by
  apply c_ref15_Great
  have hln := hR.1
  intro K3 hK3
  have yes : ((decide (N < l.length) && decide (l.length ≤ 1024)) || decide (1026 < l.length)) = true → R (.returned (.bool true)) w := fun hh => by
    have : grT l N = true := by unfold grT; rw [hh, Bool.true_or]
    rw [this] at h; exact h
  have k3 : ((decide (N < l.length) && decide (l.length ≤ 1024)) || decide (1026 < l.length)) = false → K3 w := by
    intro hno
    have h26 : l.length ≤ 1026 := by simp at hno; omega
    have hE : grT l N = l.any grT1 := by unfold grT; rw [hno, Bool.false_or]
    rw [hE] at h
    refine hK3 _ fun _ => ?_
    refine ⟨fun i W m => ∃ k : Nat, i = k ∧ k ≤ n ∧ m = n - k ∧ (l.take k).any grT1 = false ∧ W = w, ⟨_, 0, rfl, by omega, rfl, rfl, rfl⟩, ?_⟩
    rintro _ W m ⟨k, rfl, hk, rfl, hz, rfl⟩ _
    refine br_split (fun hlt => ?_) (fun hge => ?_)
    · have hkl : k < l.length := by omega
      obtain ⟨b, o, hq, _, _, hc⟩ := hR.get (show l[k]? = some l[k] by simp [hkl])
      have c0 : W.cell? ((⟨b, o, none⟩ : Addr).add 0) = some (.string ⟨⟨l[k].t⟩⟩) := by rw [add_none]; exact hc 0 _ rfl
      have c1 : W.cell? ((⟨b, o, none⟩ : Addr).add 1) = some (.string ⟨⟨l[k].m⟩⟩) := by rw [add_none]; exact hc 1 _ rfl
      have c5 : W.cell? ((⟨b, o, none⟩ : Addr).add 5) = some (.string ⟨⟨l[k].a⟩⟩) := by rw [add_none]; exact hc 5 _ rfl
      have c20 : W.cell? (((⟨b, o, none⟩ : Addr).add 2).add 0) = some (.string ⟨⟨l[k].p.1⟩⟩) := by simp only [add_none]; exact hc 2 _ rfl
      have tr : grT1 l[k] = true → R (.returned (.bool true)) W := fun hg => by
        have : l.any grT1 = true := List.any_eq_true.2 ⟨_, List.getElem_mem hkl, hg⟩
        rw [this] at h; exact h
      have no : grT1 l[k] = false → ∃ m', m' < n - k ∧ ∃ k' : Nat, IntKind.i64.wrap ((k : Int) + 1) = k' ∧ k' ≤ n ∧ m' = n - k' ∧ (l.take k').any grT1 = false ∧ W = W := fun hg =>
        ⟨n - (k + 1), by omega, k + 1, by rw [wrap_nat (by omega)], by omega, rfl, by rw [List.take_succ_eq_append_getElem hkl, List.any_append, hz]; simp [hg], rfl⟩
      generalize l[k] = x at *
      refine hq _ ⟨_, c0, lng_spec _ ⟨_, rfl, br_cases (fun g1 => tr (by unfold grT1; rw [g1]; rfl)) (fun g1 => hq _ ⟨_, c1, lng_spec _ ⟨_, rfl, br_cases (fun g2 => tr (by unfold grT1; rw [g2]; simp)) (fun g2 => hq _ ⟨_, c5, lng_spec _ ⟨_, rfl, br_cases (fun g3 => tr (by unfold grT1; rw [g3]; simp)) (fun g3 => hq _ ⟨_, c20, lng_spec _ ⟨_, rfl, br_cases (fun g4 => tr (by unfold grT1; rw [g4]; simp)) (fun g4 => no (by unfold grT1; rw [g1, g2, g3, g4]; rfl))⟩⟩)⟩⟩)⟩⟩)⟩⟩
    · rw [List.take_of_length_le (by omega)] at hz
      rw [hz] at h
      exact h
  refine br_split (fun g1 => br_split (fun g2 => yes (by simp; omega)) (fun g2 => br_split (fun g3 => yes (by simp; omega)) (fun g3 => k3 (by simp; omega)))) (fun g1 => br_split (fun g3 => yes (by simp; omega)) (fun g3 => k3 (by simp; omega)))
end
end Go.Proofs
namespace Go.Proofs
open Go Go.Sh Go.RowKit

/- the law Names -/
section
variable {R : Ending → World → Prop} {w : World}
theorem ContainsT_specB {S : Nat → Prop} {a : Option Addr} {n c : Nat} (l : List Tok) (q : Tok → Bool) (fv : Fn) (fa fb : Array Value) (hp : ∀ {R : Ending → World → Prop} {v : World} (x : Tok), Ext w v → x ∈ l → (∀ v', Ext v v' → R (.returned (.bool (q x))) v') → CallV Tryz.prog (.func fv fa fb) [aggT x] v R)
    (hR : RowAt encTk S w a n l) (hn : n ≤ 4611686018427387904) (h : ∀ w', Ext w w' → R (.returned (.bool (l.any q))) w') : Calls Tryz.prog F_slices_ContainsFunc_of_api_Token_api_Token ⟨[.slice a n c, .func fv fa fb]⟩ w R := by
  apply c_slices_ContainsFunc_of_api_Token_api_Token
  apply c_slices_IndexFunc_of_api_Token_api_Token
  have hln := hR.1
  refine ⟨fun i W m => ∃ k : Nat, i = k ∧ k ≤ n ∧ m = n - k ∧ Ext w W ∧ (l.take k).any q = false, ⟨_, 0, rfl, by omega, rfl, Below.refl _ _, rfl⟩, ?_⟩
  rintro _ W m ⟨k, rfl, hk, rfl, he, hz⟩ _
  refine br_split (fun hlt => ?_) (fun hge => ?_)
  · have hkl : k < l.length := by omega
    obtain ⟨bb, o, hq, _, _, hc⟩ := (hR.ext he).get (show l[k]? = some l[k] by simp [hkl])
    refine hq _ ⟨_, by rw [add_none]; exact hc 0 _ rfl, _, by rw [add_none]; exact hc 1 _ rfl, _, by rw [add_none]; exact hc 2 _ rfl, _, by rw [add_none]; exact hc 3 _ rfl, _, by rw [add_none]; exact hc 4 _ rfl, _, by rw [add_none]; exact hc 5 _ rfl, ?_⟩
    refine hp l[k] he (List.getElem_mem hkl) fun w16 e16 => ⟨_, rfl, br_cases (fun g => ?_) (fun g => ?_)⟩
    · refine ⟨_, rfl, ?_⟩
      have : l.any q = true := List.any_eq_true.2 ⟨l[k], List.getElem_mem hkl, g⟩
      rw [decide_eq_true (show (0 : Int) ≤ (k : Int) by omega), ← this]
      exact h w16 (ext_trans he e16)
    · refine ⟨n - (k + 1), by omega, k + 1, by rw [wrap_nat (by omega)], by omega, rfl, ext_trans he e16, ?_⟩
      rw [List.take_succ_eq_append_getElem hkl, List.any_append, hz]; simp [g]
  · rw [List.take_of_length_le (by omega)] at hz
    rw [hz] at h
    exact ⟨_, rfl, h W he⟩
theorem Names1_spec (x : Tok) (s : List UInt8) {b : Nat} (hb : Blk w b [.string ⟨⟨s⟩⟩] 9) (h : ∀ w', Ext w w' → R (.returned (.bool (decide (x.a = s)))) w') : Calls Tryz.prog F_law15_TokenizerNames_1 ⟨[aggT x, .pointer (some ⟨b, 0, none⟩)]⟩ w R := by
  apply c_law15_TokenizerNames_1
  refine al_intro fun b8 w9 hb8 B8 e9 s9 => ⟨_, (blk6' B8).2.2.2.2.2, dr_ok ⟨_, ?_, h w9 e9⟩⟩
  rw [(hb.ext e9).cell]; rfl
set_option maxRecDepth 20000 in
theorem TokenizerNames_spec {S : Nat → Prop} {a : Option Addr} {n c : Nat} (l : List Tok) (hF : Forms w) (hR : RowAt encTk S w a n l) (h : ∀ w', Ext w w' → R (.returned (.bool true)) w') : Calls Tryz.prog F_law15_TokenizerNames ⟨[.slice a n c]⟩ w R := by
  apply c_law15_TokenizerNames
  have hln := hR.1
  have aw : ∀ v, Ext w v → Calls Tryz.prog F_law15_awake ⟨[]⟩ v (fun e w' => ∃ x : Bool, e = .returned (.bool x) ∧ R (.returned (.bool x)) w') := fun v ev => awake15_spec (hF.ext ev) fun v' e' => ⟨_, rfl, h v' (ext_trans ev e')⟩
  intro K2 hK2
  have k2 : n ≤ 10 → (∀ x ∈ l, x.a.length ≤ 66) → K2 w := by
    intro hn hbig
    refine hK2 _ fun _ => ?_
    refine NamesT_spec l hR (by omega) (fun x hx => by have := hbig x hx; omega) fun a6 c6 C w5 hC h6 e5 => ⟨_, _, _, rfl, ?_⟩
    have hCl := hC.len
    have hmem : ∀ s ∈ C, s ≠ [] ∧ (∃ x ∈ l, x.a = s) ∧ s.length ≤ 66 := fun s hs => by
      obtain ⟨h1, x, hx, rfl⟩ := nmsL_mem.1 ((hC.mem s).1 hs)
      exact ⟨h1, ⟨x, hx, rfl⟩, hbig x hx⟩
    refine ⟨fun i W m => ∃ k : Nat, i = k ∧ k ≤ C.length ∧ m = C.length - k ∧ Ext w5 W, ⟨_, 0, rfl, by omega, rfl, Below.refl _ _⟩, ?_⟩
    rintro _ W m ⟨k, rfl, hk, rfl, eW⟩ _
    have EW := ext_trans e5 eW
    refine br_split (fun hlt => ?_) (fun hge => ?_)
    · have hkC : k < C.length := by omega
      obtain ⟨q, hq, hc⟩ := get_str (h6.ext eW) hkC
      obtain ⟨m1, ⟨x0, hx0, hxa⟩, m3⟩ := hmem _ (List.getElem_mem hkC)
      refine hq _ ⟨_, hc, ?_⟩
      refine al_stL rfl (by intro u hu; simp only [List.mem_cons, List.not_mem_nil, or_false] at hu; rcases hu with rfl; rfl) fun b14 w16 hb14 B14 e14 s14 => ?_
      unfold drw
      have ed := ext_drew w16
      have B17 := B14.ext ed
      have E17 := ext_trans e14 ed
      generalize w16.drew = w17 at *
      have c14 : w17.cell? ⟨b14, 0, none⟩ = some (.string ⟨⟨C[k]⟩⟩) := by rw [B17.cell]; rfl
      have inn : ∀ v, Ext w17 v → Calls Tryz.prog F_slices_ContainsFunc_of_api_Token_api_Token ⟨[.slice a n c, .func (.func 27) ⟨[]⟩ ⟨[.pointer (some ⟨b14, 0, none⟩)]⟩]⟩ v fun (e25 : Ending) (w26 : World) =>
          ∃ (x27 : Bool), e25 = .returned (.bool x27) ∧ (br (!x27) (R (.returned (.bool false)) w26) (∃ m28 : Nat, m28 < C.length - k ∧ ∃ k' : Nat, IntKind.i64.wrap ((k : Int) + 1) = k' ∧ k' ≤ C.length ∧ m28 = C.length - k' ∧ Ext w5 w26)) := by
        intro v ev
        refine ContainsT_specB l (fun x => decide (x.a = C[k])) (.func 27) _ _ (fun {R} {v'} x ev' hx hR => ⟨by kernel_rfl, Names1_spec x C[k] ((B17.ext ev).ext ev') hR⟩) (hR.ext (ext_trans EW (ext_trans E17 ev))) (by omega) fun w26 e26 => ⟨_, rfl, ?_⟩
        have hany : (l.any fun x => decide (x.a = C[k])) = true := List.any_eq_true.2 ⟨x0, hx0, by simpa using hxa⟩
        rw [hany]
        simp only [Bool.not_true, br_f]
        exact ⟨C.length - (k + 1), by omega, k + 1, by rw [wrap_nat (by omega)], by omega, rfl, ext_trans eW (ext_trans E17 (ext_trans ev e26))⟩
      refine ⟨_, c14, br_split (fun hh => absurd hh m1) (fun _ => br_split (fun hk0 => ?_) (fun _ => ⟨⟨inn w17 (Below.refl _ _), trivial⟩, trivial⟩))⟩
      have hkC1 : k - 1 < C.length := by omega
      obtain ⟨q', hq', hc'⟩ := get_str (h6.ext (ext_trans eW E17)) hkC1
      obtain ⟨_, _, m3'⟩ := hmem _ (List.getElem_mem hkC1)
      rw [wrap_id (by omega), show (k : Int) - 1 = ((k - 1 : Nat) : Int) by omega]
      refine hq' _ ⟨_, hc', _, c14, ?_, trivial⟩
      refine CompareC_spec _ _ (by omega) (by omega) fun w23 e23 => ⟨_, rfl, ?_⟩
      have ho := hC.ord (k - 1) (by omega)
      rw [gS_at hkC1, show k - 1 + 1 = k by omega, gS_at hkC] at ho
      exact br_split (fun hh => by omega) (fun _ => ⟨inn w23 e23, trivial⟩)
    · refine ⟨fun i W m => ∃ k : Nat, i = k ∧ k ≤ n ∧ m = n - k ∧ Ext w5 W, ⟨_, 0, rfl, by omega, rfl, eW⟩, ?_⟩
      rintro _ V m' ⟨j, rfl, hj, rfl, eV⟩ _
      have EV := ext_trans e5 eV
      refine br_split (fun hlt => ?_) (fun _ => aw V EV)
      have hjl : j < l.length := by omega
      have hx : l[j] ∈ l := List.getElem_mem hjl
      obtain ⟨q, hq, d0, d1, d2, d3, d4, d5⟩ := tok_get (hR.ext EV) (show l[j]? = some l[j] by simp [hjl])
      generalize l[j] = x at *
      refine hq _ ⟨_, d0, _, d1, _, d2, _, d3, _, d4, _, d5, ?_⟩
      refine al_stL rfl (one6t _) fun b45 w47 hb45 B45 e47 s47 => ?_
      have c5 := (blk6' B45).2.2.2.2.2
      have next : ∀ v, Ext V v → ∃ m', m' < n - j ∧ ∃ k' : Nat, IntKind.i64.wrap ((j : Int) + 1) = k' ∧ k' ≤ n ∧ m' = n - k' ∧ Ext w5 v := fun v ev =>
        ⟨n - (j + 1), by omega, j + 1, by rw [wrap_nat (by omega)], by omega, rfl, ext_trans eV ev⟩
      refine ⟨_, c5, br_split (fun hne => ⟨_, c5, ?_⟩) (fun _ => next w47 e47)⟩
      have hin : x.a ∈ C := (hC.mem _).2 (nmsL_mem.2 ⟨hne, x, hx, rfl⟩)
      refine ContainsSt_spec x.a (h6.ext (ext_trans eV e47)) (by omega) ⟨_, rfl, ?_⟩
      rw [decide_eq_true hin]
      simp only [Bool.not_true, br_f]
      exact next w47 e47
  refine GreatT_spec l 10 hR ⟨_, rfl, br_cases (fun _ => aw w (Below.refl _ _)) (fun g => br_split (fun _ => aw w (Below.refl _ _)) (fun g2 => k2 (by omega) fun x hx => ?_))⟩
  unfold grT at g
  rw [Bool.or_eq_false_iff] at g
  have := List.any_eq_false.1 g.2 x hx
  unfold grT1 lngS at this
  simp at this
  omega
end
end Go.Proofs
namespace Go.Proofs.YtieeggfkfgmdgaaGreatDoor
open Go Go.Sh Go.RowKit Go.ChangeShapes Go.WideShapes Go.ChangeAt

theorem space_of {W : World} (h : Go.Lib.VarReads Tryz.prog W "strings.asciiSpace" Rows.laid_strings_asciiSpace) : Lib.TabIs Tryz.prog W "strings.asciiSpace" .u8 Lib.asciiSpaceTab := by
  obtain ⟨g, t, cs, fuel, p, hg, ht, hvar, hd⟩ := h
  obtain rfl := Option.some.inj ((show Tryz.prog.globalNamed "strings.asciiSpace" = some 0 by kernel_rfl).symm.trans hg)
  obtain rfl := Option.some.inj ((show (Tryz.prog.globals[0]?).map (·.type) = some 121 by kernel_rfl).symm.trans ht)
  have e : (Rows.laid_strings_asciiSpace : DataW Unit) = Go.Lib.tabData .u8 Lib.asciiSpaceTab := by kernel_rfl
  rw [e] at hd
  unfold Lib.TabIs
  rw [hvar, ← Go.Lib.cells_of_tab Tryz.underlying121 Tryz.underlying5 (by kernel_rfl) (by kernel_rfl) hd]
noncomputable def layOneP (h : Array Obj) (g : Nat) (d : DataW Unit) : Array Obj := match d with
  | .ptr (.agg [.slice l [], .nil, .lit (.int .i64 n)]) =>
    putG ((h.push (.cells ⟨l.flatMap (flatV 5)⟩ 192 (0, 0))).push (.cells ⟨[.slice (some ⟨h.size, 0, none⟩) l.length l.length, .slice none 0 0, .int .i64 n]⟩ 189 (0, 0))) g [.pointer (some ⟨h.size + 1, 0, none⟩)]
  | d => layOne h g d
noncomputable def layAllP (laid : List (String × DataW Unit)) (h : Array Obj) : Array Obj :=
  laid.foldl (fun h x => match Tryz.prog.globalNamed x.1 with
    | some g => layOneP h g x.2
    | none => h) h
noncomputable def laidWorldOfP (laid : List (String × DataW Unit)) (os : Os) : World :=
  { World.holding Tryz.prog os ⟨#[], #[], []⟩ with heap := layAllP laid (World.holding Tryz.prog os ⟨#[], #[], []⟩).heap }
end Go.Proofs.YtieeggfkfgmdgaaGreatDoor
namespace Go.Proofs
open Go Go.Sh Go.RowKit

/- the law Norms -/
theorem nrmE_none {rs : List Rw} : ∀ {l : List Tok}, (∀ x ∈ l, wordG x.g = true → rwE rs x.t = 0) → nrmE rs l = 0
  | [], _ => rfl
  | x :: l, h => by
    unfold nrmE
    rw [if_neg (fun hh => hh.2 (h x (List.mem_cons_self ..) hh.1))]
    exact nrmE_none fun y hy => h y (List.mem_cons_of_mem _ hy)
theorem raw_word {x : Tok} (h : Raw x) (hw : wordG x.g = true) : wordlyF x.t = true := by
  unfold wordG at hw
  rcases h.k with ⟨e, _⟩ | ⟨_, e, _⟩ | ⟨_, _, c, s, e, h1, h2, h3⟩
  · rw [e] at hw; cases hw
  · rw [e] at hw; simp at hw
  · rw [e]
    unfold wordlyF
    rw [List.all_cons, let_inn h1, Bool.true_and, List.all_eq_true]
    exact h3
section
variable {R : Ending → World → Prop} {w : World}
end
end Go.Proofs
namespace Go.Proofs
open Go Go.Sh Go.RowKit

/- a row of tokens as a text -/
theorem textJ_snoc : ∀ (l : List Tok) (b : Bool) (x : Tok), textJ b (l ++ [x]) = textJ b l ++ ((if (b = true ∧ l = []) ∨ hasG x.g 16 = true then [] else [32]) ++ x.t)
  | [], b, x => by simp [textJ]
  | y :: l, b, x => by
    rw [List.cons_append, textJ, textJ, textJ_snoc l false x]
    simp
def txE (l : List Tok) : Int := if 1024 < l.length then 4 else if (l.any fun x => decide (tokE x ≠ 0)) = true then 1 else if 65536 < (textJ true l).length then 4 else 0
def txR (l : List Tok) : List UInt8 := if txE l = 0 then textJ true l else []
theorem textJ_len : ∀ (l : List Tok) (b : Bool) (N : Nat), (∀ x ∈ l, x.t.length ≤ N) → (textJ b l).length ≤ (N + 1) * l.length
  | [], _, _, _ => by simp [textJ]
  | x :: l, b, N, h => by
    have h1 := textJ_len l false N fun y hy => h y (List.mem_cons_of_mem _ hy)
    have h2 := h x (List.mem_cons_self ..)
    rw [textJ, List.length_append, List.length_append, List.length_cons, Nat.mul_add]
    split
    · simp only [List.length_nil]; omega
    · simp only [List.length_cons, List.length_nil]; omega
section
variable {R : Ending → World → Prop} {w : World}
theorem WriteByteB_spec {b : Nat} {a : Option Addr} {l : List UInt8} (h : BldAt w b a l) (x : UInt8) (hlen : l.length ≤ 1000000000000)
    (hk : ∀ a' w', BldAt w' b a' (l ++ [x]) → (∀ k, bk a' k → bk a k ∨ w.heap.size ≤ k) → Chg (fun k => k = b ∨ bk a k) w w' → R (.returned .nilIface) w') :
    Calls Tryz.prog F_strings_Builder_WriteByte ⟨[.pointer (some ⟨b, 0, none⟩), .int .u8 (x.toNat : Int)]⟩ w R := by
  apply c_strings_Builder_WriteByte
  obtain ⟨p, c, g1, g2, g3⟩ := h
  have hbl := g1.lt
  have hnb : ¬ bk a b := fun hb => by have := (g3.bk hb).1; omega
  have main : ∀ w1, Blk w1 b [.pointer (some ⟨b, 0, none⟩), .slice a l.length c] 75 → Owns w1 (b + 1) 5 1 a l.length c (Lib.byteCells l) → Chg (· = b) w w1 → w1.heap.size = w.heap.size →
      (dr (some ⟨b, 0, none⟩) fun p5 =>
  ∃ (x6 : Option Addr) (x6n : Nat) (x6c : Nat), World.cell? w1 (p5.add 1) = some (.slice x6 x6n x6c) ∧ (al w1 5 [.int .u8 (x.toNat : Int)] fun p7 w8 =>
  app Tryz.prog [73, 73] 73 (.slice x6 x6n x6c) (.slice (some p7) 1 1) w8 fun a9 a9n a9c w10 =>
  dr (some ⟨b, 0, none⟩) fun p11 =>
  stL w10 (p11.add 1) 0 [.slice a9 a9n a9c] fun w12 =>
  R (.returned (.nilIface)) w12)) := by
    intro w1 q1 q2 q3 q4
    refine dr_ok ⟨a, l.length, c, by rw [add_none, q1.cell]; rfl, ?_⟩
    refine app_one2 slT_byte q2 (by omega) [.int .u8 (x.toNat : Int)] rfl (by intro u hu; rw [List.mem_singleton.1 hu]; rfl) (by omega) (by omega) fun a' c'' w2 ho hc hn => dr_ok ?_
    have q5 : Blk w2 b [.pointer (some ⟨b, 0, none⟩), .slice a l.length c] 75 := hc.blk q1 hnb
    have e : l.length + 1 = (l ++ [x]).length := by simp
    have eb : Lib.byteCells (l ++ [x]) = Lib.byteCells l ++ [.int .u8 (x.toNat : Int)] := by simp [Lib.byteCells]
    rw [add_none]
    refine stL_blk q5 (by simp) (by simp [Value.oneCell']) fun w3 r1 r2 r3 r4 r5 r6 => ?_
    have hw23 : Chg (· = b) w2 w3 := ⟨r4, r5, r6, by omega, fun k _ hk => r2 k hk⟩
    have hnb' : ∀ k, bk a' k → ¬ k = b := fun k hk he => by have := (ho.bk hk).1; omega
    refine hk a' w3 ⟨.pointer (some ⟨b, 0, none⟩), c'', ?_, .inr rfl, ?_⟩ (fun k hk => (hn k hk).imp id (by omega)) ?_
    · rw [← e]; exact r1
    · rw [← e, eb]; exact ho.chg hw23 hnb'
    · exact ((q3.mono fun k _ h => .inl h).trans (hc.mono fun k _ h => .inr h)).trans (hw23.mono fun k _ h => .inl h)
  rcases g2 with rfl | rfl
  · refine (copyCheck_fresh b w (by rw [g1.cell]; rfl) (by simp [World.shape?, show w.heap[b]? = _ from g1]) (g1.frozen 0)).mono ?_
    rintro e w' ⟨rfl, rfl⟩
    have hset := g1.set 0 (.pointer (some ⟨b, 0, none⟩))
    have hc : Chg (· = b) w (w.setCell ⟨b, 0, none⟩ (.pointer (some ⟨b, 0, none⟩))) :=
      ⟨rfl, rfl, rfl, by simp, fun k _ hk => by simp only [World.setCell, Array.getElem?_modify]; rw [if_neg (fun e => hk e.symm)]⟩
    exact ⟨rfl, main _ hset (g3.chg hc fun k hk he => hnb (he ▸ hk)) hc (by simp)⟩
  · refine (copyCheck_used b w (by rw [g1.cell]; rfl)).mono ?_
    rintro e w' ⟨rfl, rfl⟩
    exact ⟨rfl, main _ g1 g3 (Chg.refl _ _) rfl⟩
set_option maxRecDepth 20000 in
theorem Text15_spec {S : Nat → Prop} {a : Option Addr} {n c : Nat} (l : List Tok) (hM : Mk w) (hbig : ∀ x ∈ l, bigT x) (hn : n ≤ 4611686018427387904) (hL : RowAt encTk S w a n l)
    (hg : ∀ x ∈ l, tokE x = 0 → x.t.length ≤ 64)
    (h : ∀ w', Ext w w' → R (.returned (.tuple ⟨[.string ⟨⟨txR l⟩⟩, .int .i64 (txE l)]⟩)) w') : Calls Tryz.prog F_tokenizer_Text ⟨[.slice a n c]⟩ w R := by
  apply c_tokenizer_Text
  have hln := hL.1
  have bad : ∀ (e : Int) (v : World), e ≠ 0 → txE l = e → Ext w v → R (.returned (.tuple ⟨[.string ⟨⟨[]⟩⟩, .int .i64 e]⟩)) v := by
    intro e v he h0 hv
    have hr : txR l = [] := by unfold txR; rw [h0, if_neg he]
    rw [hr, h0] at h
    exact h v hv
  refine br_split (fun g2 => bad 4 w (by decide) (by unfold txE; rw [if_pos (by omega)]) (Below.refl _ _)) (fun g2 => ?_)
  refine ContainsT_spec' l (fun x => decide (tokE x ≠ 0)) 60 (by kernel_rfl) (fun {R} {v} x ev hx hR => bad15_spec x (hbig x hx) (hM.ext ev) hR) hL hn fun w3 e3 => ⟨_, rfl, ?_⟩
  have hE : txE l = if (l.any fun x => decide (tokE x ≠ 0)) = true then 1 else if 65536 < (textJ true l).length then 4 else 0 := by unfold txE; rw [if_neg (by omega)]
  refine br_cases (fun g3 => bad 1 w3 (by decide) (by rw [hE, if_pos g3]) e3) (fun g3 => ?_)
  rw [if_neg (by rw [g3]; decide)] at hE
  have h0 : ∀ x ∈ l, tokE x = 0 := fun x hx => by have := List.any_eq_false.1 g3 x hx; simpa using this
  have hlen64 : ∀ x ∈ l, x.t.length ≤ 64 := fun x hx => hg x hx (h0 x hx)
  have hR3 := hL.ext e3
  refine al_intro fun b w6 hb B6 e6 s6 => ?_
  have hR6 := hR3.ext e6
  have E6 := ext_trans e3 e6
  have z6 := E6.size
  have z3 := e3.size
  refine ⟨fun i W m => ∃ k : Nat, ∃ a', i = k ∧ k ≤ n ∧ m = n - k ∧ BldAt W b a' (textJ true (l.take k)) ∧ Ext w3 W, ⟨_, 0, none, rfl, by omega, rfl, ⟨.pointer none, 0, B6, .inl rfl, Owns.nil _ _ _ _⟩, e6⟩, ?_⟩
  rintro _ W m ⟨k, a', rfl, hk, rfl, hB, eW⟩ _
  have EW := ext_trans e3 eW
  refine br_split (fun hlt => ?_) (fun hge => ?_)
  · have hkl : k < l.length := by omega
    have hx : l[k] ∈ l := List.getElem_mem hkl
    have hxe : l[k]? = some l[k] := by simp [hkl]
    have htk : l.take (k + 1) = l.take k ++ [l[k]] := List.take_succ_eq_append_getElem hkl
    have hpl := textJ_len (l.take k) true 64 fun y hy => hlen64 y (List.mem_of_mem_take hy)
    rw [List.length_take] at hpl
    have hx0 := tokE_g (h0 _ hx)
    have hxl := hlen64 _ hx
    have hemp : l.take k = [] ↔ k = 0 := by
      constructor
      · intro hh
        have := congrArg List.length hh
        rw [List.length_take, List.length_nil] at this
        omega
      · rintro rfl; rfl
    generalize l[k] = x at *
    obtain ⟨q, hq, d0, d1, d2, d3, d4, d5⟩ := tok_get (hR3.ext eW) hxe
    have f16 : decide (bitA .i64 x.g 16 = 0) = !hasG x.g 16 := (bitA_facts hx0.1 hx0.2).2.2.2
    refine hq _ ⟨_, d0, _, d1, _, d2, _, d3, _, d4, _, d5, ?_⟩
    refine al_stL rfl (one6t _) fun b19 w21 hb19 B19 e21 s21 => ?_
    obtain ⟨c0, c1', c2', c3', c4, c5⟩ := blk6' B19
    have hB21 := hB.ext e21
    have z21 := e21.size
    have fin : ∀ (a2 : Option Addr) (v : World) (pre : List UInt8), BldAt v b a2 pre → Ext w3 v → pre.length ≤ 1000000 → textJ true (l.take (k + 1)) = pre ++ x.t → Calls Tryz.prog 47 ⟨[.pointer (some ⟨b, 0, none⟩), .string ⟨⟨x.t⟩⟩]⟩ v fun (e27 : Ending) (w28 : World) =>
        ∃ (x29 : Int) (x30 : Value), e27 = .returned (.tuple ⟨[.int .i64 x29, x30]⟩) ∧ (∃ m31 : Nat, m31 < n - k ∧ ∃ k' : Nat, ∃ a', IntKind.i64.wrap ((k : Int) + 1) = k' ∧ k' ≤ n ∧ m31 = n - k' ∧ BldAt w28 b a' (textJ true (l.take k')) ∧ Ext w3 w28) := by
      intro a2 v pre hv ev hp he
      refine WriteString_spec hv (by omega) fun a9 w28 h28 hn9 c28 => ⟨_, _, rfl, n - (k + 1), by omega, k + 1, a9, by rw [wrap_nat (by omega)], by omega, rfl, by rw [he]; exact h28, ?_⟩
      exact ext_chgS ev c28 fun j hj => by
        rcases hj with rfl | hj
        · omega
        · have := hv.bk hj; omega
    refine br_split (fun hk0 => ⟨_, c4, ?_⟩) (fun hk0 => ⟨_, c0, fin a' w21 _ hB21 (ext_trans eW e21) (by omega) ?_⟩)
    · rw [f16]
      cases hj : hasG x.g 16 with
      | false =>
        simp only [Bool.not_false, br_t]
        refine WriteByteB_spec hB21 32 (by omega) fun a9 w24 h24 hn9 c24 => ⟨_, rfl, _, ?_, fin a9 w24 _ h24 ?_ (by rw [List.length_append, List.length_cons, List.length_nil]; omega) ?_⟩
        · have := hB21.lt
          have hB24 := c24.blk B19 (by
            rintro (hh | hh)
            · have := hB.lt; omega
            · have := hB.bk hh; omega)
          exact (blk6' hB24).1
        · exact ext_chgS (ext_trans eW e21) c24 fun j hj => by
            rcases hj with rfl | hj
            · omega
            · have := hB21.bk hj; omega
        · rw [htk, textJ_snoc, if_neg (by rw [hemp, hj]; simp; omega), List.append_assoc]
      | true =>
        simp only [Bool.not_true, br_f]
        refine ⟨_, c0, fin a' w21 _ hB21 (ext_trans eW e21) (by omega) ?_⟩
        rw [htk, textJ_snoc, if_pos (.inr hj), List.nil_append]
    · have : k = 0 := by omega
      rw [htk, textJ_snoc, if_pos (.inl ⟨rfl, hemp.2 this⟩), List.nil_append]
  · rw [List.take_of_length_le (by omega)] at hB
    refine (Tryz.Builder_Len b b _ W hB.isB).mono ?_
    rintro e w45 ⟨rfl, rfl⟩
    refine ⟨_, rfl, ?_⟩
    rw [Lib.byteCells_length]
    refine br_split (fun g5 => bad 4 w45 (by decide) (by rw [hE, if_pos (by omega)]) EW) (fun g5 => ?_)
    have hE0 : txE l = 0 := by rw [hE, if_neg (by omega)]
    have hr : txR l = textJ true l := by unfold txR; rw [if_pos hE0]
    rw [hr, hE0] at h
    refine String_spec hB fun w48 b48 => ⟨_, rfl, ?_⟩
    exact h w48 (EW.trans (b48.mono (by omega)))
end
end Go.Proofs
