/- The contracts of the functions that the law reaches, one after the other, and at the end the law's card. -/
import Derived.Test.YtcnlbobkjeiakaaDoorLawE
import Derived.Lib.Replace
import Derived.Lib.SliceRun
namespace Go.Proofs
open Go Go.Sh Go.RowKit

theorem unL_chars : ∀ (f : Fo) (u : Bool), unL (nodesU f u) ≤ (charsF f).length
  | .nil, u => by simp [nodesU, unL, charsF]
  | .cons k t n ps r, u => by
    have h1 := unL_chars ps (u || decide (k = 7))
    have h2 := unL_chars r u
    have e : unL (nodesU (.cons k t n ps r) u) = unN (⟨k, t, n, ps⟩, u) + (unL (nodesU ps (u || decide (k = 7))) + unL (nodesU r u)) := by
      rw [nodesU, ← unL_app]; rfl
    have h3 : unN (⟨k, t, n, ps⟩, u) ≤ ((if k = 1 then t else [] : List UInt8).length : Int) := by
      unfold unN
      by_cases hk : k = 1
      · simp only [hk, if_true, true_and]; split <;> omega
      · simp [hk]
    rw [e]; simp only [charsF, List.length_append]; omega
theorem unL_true : ∀ (f : Fo), unL (nodesU f true) = (charsF f).length
  | .nil => by simp [nodesU, unL, charsF]
  | .cons k t n ps r => by
    have h1 := unL_true ps
    have h2 := unL_true r
    have e : unL (nodesU (.cons k t n ps r) true) = unN (⟨k, t, n, ps⟩, true) + (unL (nodesU ps true) + unL (nodesU r true)) := by
      rw [nodesU, ← unL_app]; rfl
    have h3 : unN (⟨k, t, n, ps⟩, true) = ((if k = 1 then t else [] : List UInt8).length : Int) := by
      unfold unN
      by_cases hk : k = 1 <;> simp [hk]
    rw [e, h1, h2, h3]; simp only [charsF, List.length_append]; omega
set_option maxRecDepth 20000 in
theorem LegibilityUnclear_spec {R : Ending → World → Prop} {S : Nat → Prop} {w : World} {a : Option Addr} {n c : Nat} (f : Fo) (hF : Forms w) (hf0 : SlF S w a n f)
    (h : ∀ w', Ext w w' → R (.returned (.bool true)) w') : Calls Tryd.prog F_law12_LegibilityUnclear ⟨[.slice a n c]⟩ w R := by
  apply c_law12_LegibilityUnclear
  have aw : ∀ {K : Ending → World → Prop} W, Ext w W → (∀ w', Ext w w' → K (.returned (.bool true)) w') → Calls Tryd.prog F_law12_awake ⟨[]⟩ W fun e w' => ∃ x : Bool, e = .returned (.bool x) ∧ K (.returned (.bool x)) w' :=
    fun W hx hK => awake12_spec (hF.ext hx) fun w10 e10 => ⟨_, rfl, hK _ (ext_trans hx e10)⟩
  refine Great_spec hf0 fun w3 e3 => ⟨_, rfl, br_cases (fun _ => aw _ e3 h) (fun hgr => ?_)⟩
  have hs := great10_small hgr
  refine Unclear_spec f hs (hF.ext e3) (hf0.ext e3) fun w9 e9 => ⟨_, _, rfl, ?_⟩
  have E9 := ext_trans e3 e9
  refine Characters_spec f hs (hF.ext E9) (hf0.ext E9) fun w13 e13 => ⟨_, _, rfl, ?_⟩
  have E13 := ext_trans E9 e13
  refine br_split (fun g => ?_) (fun g => ?_)
  · have : uncR f = 0 := by unfold uncR; rw [if_pos g]
    rw [this]
    exact aw _ E13 h
  have he0 := Decidable.not_not.1 g
  obtain ⟨hc0, _⟩ := errU_zero he0
  have hu : uncR f = unF f := by unfold uncR; rw [if_neg g]
  have h1 := unL_chars f false
  have h2 := unL_pos (nodesU f false)
  rw [hu, if_neg (by simp [hc0]), if_neg (by simp [hc0])]
  intro K19 hK19
  have k19 : K19 w13 := by
    refine hK19 _ fun _ => ?_
    refine al_intro fun b21 w22 hb21 B21 e22 s22 => ?_
    have E22 := ext_trans E13 e22
    have hn := hf0.1
    have f1 : SlF (fun _ => True) w22 (some ⟨b21, 0, none⟩) 1 (.one 7 [] 0 f) := by
      obtain ⟨_, us, g1, g2⟩ := (hf0.ext E22).imp (S' := fun _ => True) fun _ _ _ => trivial
      refine ⟨rfl, _, at_blk B21, a, c, us, [], ?_, g1, g2, rfl⟩
      rw [hn]
    unfold small at hs
    have hgs : f.size ≤ 1000000 := by
      have := (check_zero hc0).1; omega
    refine Unclear_spec (.one 7 [] 0 f) (by show f.size + 0 + 1 ≤ _; omega) (hF.ext E22) f1 fun w24 e24 => ⟨_, _, rfl, ?_⟩
    have E24 := ext_trans E22 e24
    refine br_split (fun _ => aw _ E24 h) (fun gg => ?_)
    have hv : uncR (.one 7 [] 0 f) = (charsF f).length := by
      unfold uncR; rw [if_neg gg, ← unL_true f]
      unfold unF Fo.one
      show unL ((⟨7, [], 0, f⟩, false) :: (nodesU f (false || decide ((7 : Int) = 7)) ++ nodesU .nil false)) = _
      have : (⟨(7 : Int), ([] : List UInt8), (0 : Int), f⟩, false) :: (nodesU f (false || decide ((7 : Int) = 7)) ++ nodesU .nil false) = [((⟨7, [], 0, f⟩ : Nn), false)] ++ nodesU f true := by simp [nodesU]
      rw [this, unL_app, unL_one]
      simp [unN]
    rw [hv]
    simp only [decide_true, br_t]
    exact aw _ E24 h
  refine br_split (fun hh => absurd rfl hh) (fun _ => br_split (fun hh => ?_) (fun _ => br_split (fun hh => ?_) (fun _ => k19)))
  · unfold unF at hh; omega
  · unfold unF at hh; omega

/- counting nodes of a kind -/
def cntP (kind : Int) (l : List Pl) : Int := ((l.filter fun x => decide (x.k = kind)).length : Int)
theorem cntP_snoc (kind : Int) (l : List Pl) (x : Pl) : cntP kind (l ++ [x]) = cntP kind l + if x.k = kind then 1 else 0 := by
  unfold cntP
  rw [List.filter_append]
  by_cases h : x.k = kind <;> simp [h]
def cntF (kind : Int) (f : Fo) : Nat := (ofK kind f).length
theorem cnt_places (kind : Int) : ∀ (f : Fo) (d : Nat) (b : Bool), f.depth + d ≤ 16 → cntP kind (placesF f d b) = cntF kind f
  | .nil, _, _, _ => rfl
  | .cons k t n ps r, d, b, h => by
    rw [Fo.depth_parts] at h
    have i2 := cnt_places kind r d (decide (k = 1)) (by omega)
    have i1 : cntP kind (placesF ps (d + 1) false) = cntF kind ps := by
      by_cases hp : ps.len = 0
      · rw [Fo.eq_nil_of_len hp]; rfl
      · rw [if_neg hp] at h
        exact cnt_places kind ps (d + 1) false (by omega)
    unfold cntF at i1 i2 ⊢
    rw [ofK_cons]
    simp only [placesF]
    rw [if_pos (by omega)]
    have e : ∀ (x : Pl) (l m : List Pl), cntP kind (x :: (l ++ m)) = (if x.k = kind then 1 else 0) + (cntP kind l + cntP kind m) := by
      intro x l m
      unfold cntP
      rw [List.filter_cons, List.filter_append]
      by_cases hx : x.k = kind <;> simp [hx] <;> omega
    rw [e, i1, i2]
    show (if k = kind then (1 : Int) else 0) + _ = _
    by_cases hk : k = kind
    · simp [hk]; omega
    · simp [hk]
def couE (kind : Int) (f : Fo) : Int := if checkT f ≠ 0 then 1 else if kind < 1 ∨ 11 < kind then 8 else 0
def couR (kind : Int) (f : Fo) : Int := if couE kind f ≠ 0 then 0 else cntF kind f
theorem couE_zero {kind : Int} {f : Fo} (h : couE kind f = 0) : checkT f = 0 ∧ 1 ≤ kind ∧ kind ≤ 11 := by
  unfold couE at h
  split at h
  · cases h
  · rename_i h1
    split at h
    · cases h
    · exact ⟨Decidable.not_not.1 h1, by omega, by omega⟩
set_option maxRecDepth 20000 in
theorem CountT_spec {R : Ending → World → Prop} {S : Nat → Prop} {w : World} {a : Option Addr} {n c : Nat} (kind : Int) (f : Fo) (hs : small f) (hF : Forms w) (hf0 : SlF S w a n f)
    (h : ∀ w', Ext w w' → R (.returned (.tuple ⟨[.int .i64 (couR kind f), .int .i64 (couE kind f)]⟩)) w') : Calls Tryd.prog F_transcript_Count ⟨[.slice a n c, .int .i64 kind]⟩ w R := by
  apply c_transcript_Count
  unfold couR at h
  refine al_intro fun b3 w4 hb3 B3 e4 s4 => ?_
  refine Check22_spec f hs (hf0.ext e4) (hF.ext e4) fun w6 e6 => ⟨_, rfl, br_split (fun g => ?_) (fun g => ?_)⟩
  · have he : couE kind f = 1 := by unfold couE; rw [if_pos g]
    rw [he] at h
    exact h _ (ext_trans e4 e6)
  have hc0 : checkT f = 0 := Decidable.not_not.1 g
  obtain ⟨q1, q2, q3⟩ := check_zero hc0
  have hdep : f.depth ≤ 16 := by
    unfold checkT at hc0
    split at hc0
    · rename_i hh; exact hh.2
    · cases hc0
  have hcn := cnt_places kind f 0 false (by omega)
  have E6 := ext_trans e4 e6
  have B3' := B3.ext e6
  intro K8 hK8
  have k8 : 1 ≤ kind → kind ≤ 11 → K8 0 0 w6 := by
    intro hk1 hk2
    have he : couE kind f = 0 := by unfold couE; rw [if_neg g, if_neg (by omega)]
    rw [he] at h
    refine hK8 _ _ _ fun _ => ?_
    refine al_intro fun b12 w13 hb12 B12 e13 s13 => ?_
    refine stL_one B12 rfl fun w14 B14 hc14 s14 => ?_
    have e14 : Ext w6 w14 := ext_chgS e13 hc14 fun k hk => by omega
    refine places_spec fun bs w16 Bs e16 hbs => ⟨_, _, _, rfl, fun base => ?_⟩
    have e616 := ext_trans e14 e16
    have E16 := ext_trans E6 e616
    have z16 := E16.size
    have z6 := E6.size
    have z616 := e616.size
    have ls := Bs.lt
    have l3 := B3'.lt
    have hf : SlF (fun k => S k ∧ k < w.heap.size) w a n f := hf0.imp fun k hk hl => ⟨hk, hl⟩
    rw [cd_transcript_Count_1]
    have B3'' := B3'.ext e616
    refine RFw_count anA_transcript_Count_1 anB_transcript_Count_1 (gf := F_transcript_places_1) rfl (by kernel_rfl) (xs := placesF f 0 false) (E := PlE (fun k => (S k ∧ k < w.heap.size) ∨ k = bs) w16) (Rd := fun k => (S k ∧ k < w.heap.size) ∨ k = bs)
      (fun v1 he => (places_iterO f hs bs v1 (fun k hk => by have := he.size; omega) (Bs.ext he) ((hf.ext (ext_trans E16 he)).imp fun k hk _ => .inl hk) (.inr rfl)).mono ?_) (fun y vs hE => by obtain ⟨a', c', rfl, _⟩ := hE; rfl) (by decide) (fun k hk => by omega)
      (w0 := w6) e616 (b5 := b12) (by omega) (fun hk => by omega) (cntP kind) (B14.ext e16) ?_ ?_
    · rintro x vs ⟨a', c', rfl, hsl⟩
      exact ⟨a', c', rfl, hsl.keep' fun k hk hl => ⟨hk, by omega, ((he.block k (by omega))).symm⟩⟩
    · rintro pre ⟨k1, t1, m1, ps1, d1, x1⟩ vs W l ⟨a', c', rfl, hsl⟩ hpre hl1 hl2 hl3 g1 g3 Kn Kr Kx hK
      refine Eq.mpr (er_transcript_Count_1 base _ _ _ _ _ _ _ _ _ _ _ _ _ _ _ _ _ _ _ _) ?_
      refine round_in hl2 (by simp) (by intro u hu; simp only [List.mem_cons, List.not_mem_nil, or_false] at hu; rcases hu with rfl | rfl | rfl | rfl | rfl | rfl <;> rfl) fun bx W1 W2 hbx _ hX2 hc2 s2 => ?_
      obtain ⟨x0, x1'⟩ := blk6 hX2
      have B2 := hc2.blk g1 hl3
      have E2 := ext_chgS g3 hc2 fun k hk => by omega
      have hk3 := B3'.ext E2
      have hpl : pre.length ≤ f.size := by
        have h1 := hpre.length_le
        have h2 := placesF_len f 0 false
        simp at h1; omega
      have hcp : 0 ≤ cntP kind pre ∧ cntP kind pre ≤ pre.length := by
        unfold cntP
        have := List.length_filter_le (fun x : Pl => decide (x.k = kind)) pre
        omega
      have hv := cntP_snoc kind pre ⟨k1, t1, m1, ps1, d1, x1⟩
      refine ⟨k1, x0, dr_ok ⟨kind, by rw [hk3.cell]; rfl, br_split (fun q => ?_) (fun q => ?_)⟩⟩
      · refine dr_ok ⟨_, by rw [B2.cell]; rfl, dr_ok (stL_one B2 rfl fun W3 r3 hc3 s3 => hK _ _ E2 hc3 ?_)⟩
        rw [hv, if_pos (show (⟨k1, t1, m1, ps1, d1, x1⟩ : Pl).k = kind from q)]
        rw [wrap_id (by omega)] at r3
        exact r3
      · refine hK _ _ E2 (Chg.refl _ _) ?_
        rw [hv, if_neg (show ¬ (⟨k1, t1, m1, ps1, d1, x1⟩ : Pl).k = kind from q), Int.add_zero]
        exact B2
    · intro D W hD1 hD2 hD3 hD4 g1 g3
      rw [hcn] at g1
      exact ⟨_, by rw [g1.cell]; rfl, retD_one hD4 (h _ (ext_put (ext_trans E6 g3) (by omega) _))⟩
  have bad : (kind < 1 ∨ 11 < kind) → R (.returned (.tuple ⟨[.int .i64 0, .int .i64 8]⟩)) w6 := by
    intro hh
    have he : couE kind f = 8 := by unfold couE; rw [if_neg g, if_pos hh]
    rw [he] at h
    exact h _ E6
  refine ⟨kind, by rw [B3'.cell]; rfl, br_split (fun g1 => bad (.inl g1)) (fun g1 => ⟨kind, by rw [B3'.cell]; rfl, br_split (fun g2 => bad (.inr g2)) (fun g2 => k8 (by omega) (by omega))⟩)⟩
end Go.Proofs
namespace Go.Proofs
open Go Go.Sh Go.RowKit

/- a piece of a list of nodes -/
theorem SlF.one {S : Nat → Prop} {w : World} {a : Option Addr} {n : Nat} {f pre r : Fo} {k t m ps} (h : SlF S w a n f) (hf : f = pre.app (.cons k t m ps r)) {c : Nat} (hc : n ≤ c) {K : Option Addr → Nat → Nat → Prop}
    (hk : ∀ a' c', SlF S w a' 1 (.one k t m ps) → K a' 1 c') : sls a c (pre.len : Int) ((pre.len + 1 : Nat) : Int) 4 K := by
  have hn := h.1
  have hl := Fo.sub_len hf
  refine ⟨by omega, by omega, by omega, ?_⟩
  rw [Int.toNat_natCast, Int.toNat_natCast, show pre.len + 1 - pre.len = 1 by omega]
  refine hk _ _ ?_
  obtain ⟨_, us, h2, h3⟩ := h
  rw [hf] at h3
  obtain ⟨xs, ys, rfl, g1, a', c', zs, vs', rfl, g2, g3, g4⟩ := h3.split
  have hxl := g1.len
  rcases h2 with h2 | ⟨b, o, rfl, hb, hbl, hcell⟩
  · simp at h2
  refine ⟨rfl, [.int .i64 k, .string ⟨⟨t⟩⟩, .int .i64 m, .slice a' ps.len c'], ?_, a', c', zs, [], rfl, g2, g3, rfl⟩
  have hsl : slA (some ⟨b, o, none⟩) c pre.len 4 = some ⟨b, o + pre.len * 4, none⟩ := by
    unfold slA
    rw [if_neg (by omega)]
    simp only [Option.map_some, add_none]
  rw [hsl]
  refine .inr ⟨b, o + pre.len * 4, rfl, hb, hbl, fun j v hj => ?_⟩
  have hj4 : j < 4 := by have := (List.getElem?_eq_some_iff.1 hj).1; simpa using this
  rw [Nat.add_assoc]
  refine hcell _ _ ?_
  rw [List.getElem?_append_right (by omega), show pre.len * 4 + j - xs.length = j by omega]
  rcases (by omega : j = 0 ∨ j = 1 ∨ j = 2 ∨ j = 3) with rfl | rfl | rfl | rfl <;> simpa using hj

/- a piece of a right list is right -/
theorem mgd_parts : ∀ {pre r : Fo} {k t m ps} {b : Bool}, mgd b (pre.app (.cons k t m ps r)) → mgd false ps
  | .nil, r, k, t, m, ps, b, h => h.2.1
  | .cons _ _ _ _ p, r, k, t, m, ps, b, h => mgd_parts (pre := p) h.2.2
theorem check_one {f pre r : Fo} {k t m ps} (hf : f = pre.app (.cons k t m ps r)) (h : checkT f = 0) : checkT (.one k t m ps) = 0 := by
  have e1 : f = (pre.app (.one k t m ps)).app r := by rw [Fo.app_one_app]; exact hf
  unfold checkT at h ⊢
  split at h
  case isFalse => cases h
  rename_i hd
  split at h
  · rename_i hh; exact absurd h hh
  rename_i hz
  split at h
  · cases h
  rename_i hl
  have hz' := Decidable.not_not.1 hz
  obtain ⟨o1, o2⟩ := (all_split f false false).1 hz'
  have hs1 : (Fo.one k t m ps).size ≤ f.size := by rw [e1, Fo.size_app, Fo.size_app]; omega
  have hd1 : (Fo.one k t m ps).depth ≤ f.depth := by rw [e1, depth_app, depth_app]; omega
  rw [if_pos ⟨by omega, by omega⟩]
  have ok1 : okF false (.one k t m ps) := by
    rw [e1, okF_app, okF_app] at o1
    exact o1.1.2
  have mg1 : mgd false (.one k t m ps) := by
    rw [hf] at o2
    exact ⟨by simp, mgd_parts o2, trivial⟩
  rw [if_neg (by simpa using (all_split _ false false).2 ⟨ok1, mg1⟩), if_neg]
  have : (printF (.one k t m ps)).length ≤ (printF f).length := by rw [e1, printF_app, printF_app]; simp only [List.length_append]; omega
  omega
theorem err_one {f pre r : Fo} {k t m ps} (hf : f = pre.app (.cons k t m ps r)) (h : errU f = 0) : errU (.one k t m ps) = 0 := by
  obtain ⟨h1, h2⟩ := errU_zero h
  have e1 : f = (pre.app (.one k t m ps)).app r := by rw [Fo.app_one_app]; exact hf
  rw [e1, cleanF_app, cleanF_app] at h2
  simp only [Bool.and_eq_true] at h2
  unfold errU
  rw [if_neg (by simp [check_one hf h1]), if_pos h2.1.2]
theorem no_abbr : ∀ (f : Fo), good f → cntF 10 f = 0 → patF f = writF f
  | .nil, _, _ => rfl
  | .cons k t n ps r, hg, h => by
    unfold cntF at h
    rw [ofK_cons] at h
    simp only [List.length_append] at h
    have h10 : k ≠ 10 := fun e => by rw [if_pos e] at h; simp at h
    have i1 := no_abbr ps hg.2.1 (by unfold cntF; omega)
    have i2 := no_abbr r hg.2.2 (by unfold cntF; omega)
    rw [patF_cons, writF, i1, i2, ← List.append_assoc]
    congr 1
    unfold patN writN
    by_cases h1 : k = 1
    · rw [no_parts hg.1 (.inl h1)]; simp [h1, writF]
    · by_cases h6 : k = 6
      · rw [no_parts hg.1 (.inr h6)]; simp [h6, writF]
      · rw [if_neg h1, if_neg h6, if_neg (by omega), if_neg h6] <;> rfl
theorem pref_app (x y : List UInt8) : Lib.hasPrefix (x ++ y) x = true := by
  unfold Lib.hasPrefix
  rw [List.isPrefixOf_iff_prefix]
  exact List.prefix_append x y

set_option maxRecDepth 20000 in
theorem LegibilityWriting_spec {R : Ending → World → Prop} {S : Nat → Prop} {w : World} {a : Option Addr} {n c : Nat} (f : Fo) (hcap : n ≤ c) (hF : Forms w) (hf0 : SlF S w a n f)
    (h : ∀ w', Ext w w' → R (.returned (.bool true)) w') : Calls Tryd.prog F_law12_LegibilityWriting ⟨[.slice a n c]⟩ w R := by
  apply c_law12_LegibilityWriting
  have aw : ∀ {K : Ending → World → Prop} W, Ext w W → (∀ w', Ext w w' → K (.returned (.bool true)) w') → Calls Tryd.prog F_law12_awake ⟨[]⟩ W fun e w' => ∃ x : Bool, e = .returned (.bool x) ∧ K (.returned (.bool x)) w' :=
    fun W hx hK => awake12_spec (hF.ext hx) fun w10 e10 => ⟨_, rfl, hK _ (ext_trans hx e10)⟩
  refine Great_spec hf0 fun w3 e3 => ⟨_, rfl, br_cases (fun _ => aw _ e3 h) (fun hgr => ?_)⟩
  have hs := great10_small hgr
  refine Pattern_spec f hs (hF.ext e3) (hf0.ext e3) fun w9 e9 => ⟨_, _, rfl, ?_⟩
  have E9 := ext_trans e3 e9
  refine Written_spec f hs (hF.ext E9) (hf0.ext E9) fun w13 e13 => ⟨_, _, rfl, ?_⟩
  have E13 := ext_trans E9 e13
  intro K16 hK16
  refine br_split (fun _ => aw _ E13 h) (fun gp => br_split (fun _ => aw _ E13 h) (fun gw => ?_))
  have hp0 := Decidable.not_not.1 gp
  have hw0 := Decidable.not_not.1 gw
  obtain ⟨hc0, _, hpl, hpS⟩ := patE_zero hp0
  obtain ⟨he0, hwl, hwS⟩ := wriE_zero hw0
  obtain ⟨q1, q2, q3⟩ := check_zero hc0
  rw [hpS, hwS] at hK16
  refine hK16 _ fun _ => ?_
  refine CountT_spec 10 f hs (hF.ext E13) (hf0.ext E13) fun w19 e19 => ⟨_, _, rfl, ?_⟩
  have E19 := ext_trans E13 e19
  have hce : couE 10 f = 0 := by unfold couE; rw [if_neg (by simp [hc0]), if_neg (by omega)]
  have hcr : couR 10 f = cntF 10 f := by unfold couR; rw [if_neg (by simp [hce])]
  rw [hce, hcr]
  intro K22 hK22
  have hn := hf0.1
  have hfl := f.len_le_size
  have k22 : K22 w19 := by
    refine hK22 _ fun _ => ?_
    refine ⟨fun p s i W m => ∃ (pr r : Fo), f = pr.app r ∧ i = pr.len ∧ m = r.len ∧ p = patF r ∧ s = writF r ∧ Ext w W, ⟨_, .nil, f, rfl, rfl, rfl, rfl, rfl, E19⟩, ?_⟩
    rintro _ _ _ W m ⟨pr, r, hpr, rfl, rfl, rfl, rfl, he⟩ _
    refine br_split (fun hlt => ?_) (fun hge => ?_)
    · obtain ⟨k, t, mm, ps, r, rfl⟩ := Fo.next hpr (by omega)
      have hsl := Fo.sub_len hpr
      have hsz := Fo.sub_size hpr
      have e1 : f = (pr.app (.one k t mm ps)).app r := by rw [Fo.app_one_app]; exact hpr
      have hs1 : small (.one k t mm ps) := by
        have : (Fo.one k t mm ps).size ≤ f.size := by have hh := Fo.size_app (pr.app (.one k t mm ps)) r; rw [← e1, Fo.size_app] at hh; omega
        unfold small; omega
      have i1 : IntKind.i64.wrap ((pr.len : Int) + 1) = ((pr.len + 1 : Nat) : Int) := wrap_nat (by omega)
      have hpc : patF (.cons k t mm ps r) = patF (.one k t mm ps) ++ patF r := by
        have : Fo.cons k t mm ps r = (Fo.one k t mm ps).app r := rfl
        rw [this, patF_app]
      have hwc : writF (.cons k t mm ps r) = writF (.one k t mm ps) ++ writF r := by
        have : Fo.cons k t mm ps r = (Fo.one k t mm ps).app r := rfl
        rw [this, writF_app]
      have hg1 : good (.one k t mm ps) := by
        have := q2; rw [e1, good_app, good_app] at this; exact this.1.2
      have he1 := err_one hpr he0
      have hck1 := check_one hpr hc0
      have hpl1 : (patF (.one k t mm ps)).length ≤ (patF f).length := by rw [e1, patF_app, patF_app]; simp only [List.length_append]; omega
      have hwl1 : (writF (.one k t mm ps)).length ≤ (writF f).length := by rw [e1, writF_app, writF_app]; simp only [List.length_append]; omega
      have p1 : patE (.one k t mm ps) = 0 := by unfold patE; rw [if_neg (by simp [he1]), if_neg (by omega)]
      have p2 : patS (.one k t mm ps) = patF (.one k t mm ps) := by unfold patS; rw [if_neg (by simp [p1])]
      have p3 : wriE (.one k t mm ps) = 0 := by unfold wriE; rw [if_neg (by simp [he1]), if_neg (by omega)]
      have p4 : wriS (.one k t mm ps) = writF (.one k t mm ps) := by unfold wriS; rw [if_neg (by simp [p3])]
      have p5 : couE 10 (.one k t mm ps) = 0 := by unfold couE; rw [if_neg (by simp [hck1]), if_neg (by omega)]
      have p6 : couR 10 (.one k t mm ps) = cntF 10 (.one k t mm ps) := by unfold couR; rw [if_neg (by simp [p5])]
      rw [i1]
      refine SlF.one (hf0.ext he) hpr hcap fun a1 c1 hsl1 => ?_
      refine Pattern_spec (.one k t mm ps) hs1 (hF.ext he) hsl1 fun w33 e33 => ⟨_, _, rfl, ?_⟩
      have E33 := ext_trans he e33
      refine SlF.one (hf0.ext E33) hpr hcap fun a2 c2 hsl2 => ?_
      refine Written_spec (.one k t mm ps) hs1 (hF.ext E33) hsl2 fun w38 e38 => ⟨_, _, rfl, ?_⟩
      have E38 := ext_trans E33 e38
      refine SlF.one (hf0.ext E38) hpr hcap fun a3 c3 hsl3 => ?_
      refine CountT_spec 10 (.one k t mm ps) hs1 (hF.ext E38) hsl3 fun w43 e43 => ⟨_, _, rfl, ?_⟩
      have E43 := ext_trans E38 e43
      rw [p1, p2, p3, p4, p5, p6]
      intro K46 hK46
      have k46 : K46 w43 := by
        refine hK46 _ fun _ => ?_
        unfold drw
        have ed := ext_trans E43 (ext_drew w43)
        rw [hpc, hwc]
        refine ssl_nat (by simp) (by simp) (ssl_nat (by simp) (by simp) ?_)
        refine ⟨r.len, by simp, pr.app (.one k t mm ps), r, e1, by simp [Fo.one], rfl, by rw [List.take_length, List.drop_left], by rw [List.take_length, List.drop_left], ed⟩
      refine br_split (fun hh => absurd rfl hh) (fun _ => ?_)
      have pre2 : Calls Tryd.prog F_strings_HasPrefix ⟨[.string ⟨⟨patF (.cons k t mm ps r)⟩⟩, .string ⟨⟨patF (.one k t mm ps)⟩⟩]⟩ w43 fun e w' => ∃ x : Bool, e = .returned (.bool x) ∧ br (!x) (R (.returned (.bool false)) w')
          (Calls Tryd.prog F_strings_HasPrefix ⟨[.string ⟨⟨writF (.cons k t mm ps r)⟩⟩, .string ⟨⟨writF (.one k t mm ps)⟩⟩]⟩ w' fun e w'' => ∃ x : Bool, e = .returned (.bool x) ∧ br (!x) (R (.returned (.bool false)) w'') (K46 w'')) := by
        refine (Tryd.strings_HasPrefix ⟨⟨patF (.cons k t mm ps r)⟩⟩ ⟨⟨patF (.one k t mm ps)⟩⟩ w43).mono ?_
        rintro e w' ⟨rfl, rfl⟩
        have h1 : Lib.hasPrefix (patF (.cons k t mm ps r)) (patF (.one k t mm ps)) = true := by rw [hpc]; exact pref_app _ _
        refine ⟨true, by simp only [List.toList_toArray]; rw [h1], ?_⟩
        refine (Tryd.strings_HasPrefix ⟨⟨writF (.cons k t mm ps r)⟩⟩ ⟨⟨writF (.one k t mm ps)⟩⟩ w').mono ?_
        rintro e w'' ⟨rfl, rfl⟩
        have h2 : Lib.hasPrefix (writF (.cons k t mm ps r)) (writF (.one k t mm ps)) = true := by rw [hwc]; exact pref_app _ _
        exact ⟨true, by simp only [List.toList_toArray]; rw [h2], k46⟩
      refine br_split (fun g0 => ?_) (fun _ => pre2)
      have hz : cntF 10 (.one k t mm ps) = 0 := by omega
      have := no_abbr _ hg1 hz
      exact br_split (fun hh => absurd this hh) (fun _ => pre2)
    · obtain ⟨rfl, rfl⟩ := Fo.last hpr (by omega)
      have e1 : patF .nil = [] := rfl
      have e2 : writF .nil = [] := rfl
      rw [e1, e2]
      simp only [decide_true, br_t]
      exact aw _ he h
  refine br_split (fun hh => absurd rfl hh) (fun _ => br_split (fun g0 => ?_) (fun _ => k22))
  have hz : cntF 10 f = 0 := by omega
  have := no_abbr f q2 hz
  exact br_split (fun hh => absurd this hh) (fun _ => k22)
end Go.Proofs
namespace Go.Proofs
open Go Go.Sh Go.RowKit

/- the marks of loss in the pattern -/
theorem no_und {t : List UInt8} (h : checkC t = 0) : (95 : UInt8) ∉ t := by
  rw [checkC_eq] at h
  split at h
  · cases h
  split at h
  · rename_i h1 h2
    intro hm
    obtain ⟨i, hi, he⟩ := List.getElem_of_mem hm
    unfold okChars at h2
    rw [List.all_eq_true] at h2
    have := h2 i (List.mem_range.2 hi)
    unfold okAt at this
    rw [← kA_eq hi, he] at this
    revert this
    rw [show kd 95 = 0 by decide +kernel]
    simp
  · cases h
theorem no_und_all : ∀ (f : Fo) (b w : Bool), allF f b w = 0 → ∀ x ∈ nodesF f, x.k = 1 → (95 : UInt8) ∉ x.t
  | .nil, _, _, _, x, hx, _ => by simp [nodesF] at hx
  | .cons k t n ps r, b, w, h, x, hx, hk => by
    rw [allF] at h
    split at h
    · rename_i h1; exact absurd h h1
    rename_i h1
    split at h
    · rename_i h2; exact absurd h h2
    rename_i h2
    rw [nodesF, List.mem_cons, List.mem_append] at hx
    rcases hx with rfl | hx | hx
    · obtain rfl : k = 1 := hk
      exact no_und (single_text (Decidable.not_not.1 h1)).2.2.2
    · exact no_und_all ps _ _ (Decidable.not_not.1 h2) x hx hk
    · exact no_und_all r _ _ h x hx hk
theorem check_all {f : Fo} (h : checkT f = 0) : allF f false false = 0 := by
  unfold checkT at h
  split at h
  · split at h
    · rename_i h2; exact absurd h h2
    · rename_i h2; exact Decidable.not_not.1 h2
  · cases h
theorem und_count : ∀ (l : List Nn), (∀ x ∈ l, x.k = 1 → (95 : UInt8) ∉ x.t) → (∀ x ∈ l, x.k = 6 → 0 ≤ x.n ∧ x.n < 100) →
    (((l.flatMap patN).count 95 : Nat) : Int) = lostL l ∧ (l.flatMap patN).filter (fun c => decide (c ≠ 95)) = l.flatMap fun x => if x.k = 1 then x.t else []
  | [], _, _ => by simp [lostL]
  | x :: l, h1, h2 => by
    obtain ⟨i1, i2⟩ := und_count l (fun y hy => h1 y (by simp [hy])) (fun y hy => h2 y (by simp [hy]))
    have e : lostL (x :: l) = lostN x + lostL l := rfl
    rw [List.flatMap_cons, List.flatMap_cons, List.count_append, List.filter_append, i2, e]
    have a1 : (((patN x).count 95 : Nat) : Int) = lostN x ∧ (patN x).filter (fun c => decide (c ≠ 95)) = if x.k = 1 then x.t else [] := by
      unfold patN lostN
      by_cases k1 : x.k = 1
      · have hn := h1 x (by simp) k1
        rw [if_pos k1, if_pos k1, if_neg (by omega)]
        refine ⟨by rw [List.count_eq_zero.2 hn]; rfl, ?_⟩
        rw [List.filter_eq_self]
        intro c hc
        rw [decide_eq_true_eq]
        rintro rfl
        exact hn hc
      · rw [if_neg k1, if_neg k1]
        by_cases k6 : x.k = 6
        · have := h2 x (by simp) k6
          rw [if_pos k6, if_pos k6]
          refine ⟨by rw [List.count_replicate_self]; omega, ?_⟩
          rw [List.filter_eq_nil_iff]
          intro c hc
          have := List.eq_of_mem_replicate hc
          simp [this]
        · rw [if_neg k6, if_neg k6]; simp
    rw [a1.2]
    refine ⟨by rw [← i1, ← a1.1]; omega, rfl⟩
theorem chars_nodes : ∀ f : Fo, ((nodesF f).flatMap fun x => if x.k = 1 then x.t else []) = charsF f
  | .nil => rfl
  | .cons k t n ps r => by rw [nodesF, List.flatMap_cons, List.flatMap_append, chars_nodes ps, chars_nodes r, charsF, List.append_assoc]
theorem pat_und {f : Fo} (h : checkT f = 0) : (((patF f).count 95 : Nat) : Int) = lostF f ∧ (patF f).filter (fun c => decide (c ≠ 95)) = charsF f := by
  have := und_count (nodesF f) (no_und_all f _ _ (check_all h)) (good_num (check_zero h).2.1)
  rw [chars_nodes] at this
  exact this

/- replacing one byte by nothing -/
theorem replaceK_one (c : UInt8) : ∀ (k : Nat) (s : List UInt8), s.count c = k → Lib.replaceK [c] [] k s = s.filter fun x => decide (x ≠ c)
  | 0, s, h => by
    have hn := List.count_eq_zero.1 h
    rw [Lib.replaceK]
    symm
    rw [List.filter_eq_self]
    intro x hx
    rw [decide_eq_true_eq]
    rintro rfl
    exact hn hx
  | k + 1, s, h => by
    have h0 : 0 < Lib.count s [c] := by rw [Lib.count_one]; omega
    obtain ⟨i, hi⟩ := Lib.index_of_count h0
    rw [Lib.replaceK_hit [c] [] k s i hi]
    rw [Lib.index_one] at hi
    obtain ⟨g1, g2⟩ := Lib.indexByte_some hi
    obtain ⟨hl, g1'⟩ := List.getElem?_eq_some_iff.1 g1
    have e : s = s.take i ++ c :: s.drop (i + 1) := by
      rw [← g1', ← List.drop_eq_getElem_cons hl, List.take_append_drop]
    have hn : c ∉ s.take i := by
      intro hm
      obtain ⟨j, hj, he⟩ := List.getElem_of_mem hm
      rw [List.length_take] at hj
      rw [List.getElem_take] at he
      exact g2 j (by omega) (by rw [List.getElem?_eq_getElem (by omega), he])
    have hc : (s.drop (i + 1)).count c = k := by
      have := h
      rw [e, List.count_append, List.count_cons_self, List.count_eq_zero.2 hn] at this
      omega
    rw [show i + [c].length = i + 1 from rfl, replaceK_one c k _ hc]
    conv => rhs; rw [e]
    rw [List.filter_append, List.filter_cons]
    rw [if_neg (by simp), List.append_nil]
    congr 1
    symm
    rw [List.filter_eq_self]
    intro x hx
    rw [decide_eq_true_eq]
    rintro rfl
    exact hn hx
theorem replaceAll_one (c : UInt8) (s : List UInt8) : Lib.replaceAll s [c] [] = s.filter fun x => decide (x ≠ c) := by
  unfold Lib.replaceAll Lib.replace
  rw [if_neg (by simp), show Lib.replaceNum s [c] (-1) = s.count c by unfold Lib.replaceNum; rw [if_pos (.inl (by decide)), Lib.count_one]]
  exact replaceK_one c _ s rfl

set_option maxRecDepth 20000 in
theorem LegibilityPatterns_spec {R : Ending → World → Prop} {S : Nat → Prop} {w : World} {a : Option Addr} {n c : Nat} {m : Int} (f : Fo) (hF : Forms w) (hm : w.cell? ⟨1, 0, none⟩ = some (.int .i64 m)) (hf0 : SlF S w a n f)
    (h : ∀ w', Ext w w' → R (.returned (.bool true)) w') : Calls Tryd.prog F_law12_LegibilityPatterns ⟨[.slice a n c]⟩ w R := by
  apply c_law12_LegibilityPatterns
  have aw : ∀ {K : Ending → World → Prop} W, Ext w W → (∀ w', Ext w w' → K (.returned (.bool true)) w') → Calls Tryd.prog F_law12_awake ⟨[]⟩ W fun e w' => ∃ x : Bool, e = .returned (.bool x) ∧ K (.returned (.bool x)) w' :=
    fun W hx hK => awake12_spec (hF.ext hx) fun w10 e10 => ⟨_, rfl, hK _ (ext_trans hx e10)⟩
  refine Great_spec hf0 fun w3 e3 => ⟨_, rfl, br_cases (fun _ => aw _ e3 h) (fun hgr => ?_)⟩
  have hs := great10_small hgr
  refine Pattern_spec f hs (hF.ext e3) (hf0.ext e3) fun w9 e9 => ⟨_, _, rfl, ?_⟩
  have E9 := ext_trans e3 e9
  refine Lost_spec f hs (hF.ext E9) (hf0.ext E9) fun w13 e13 => ⟨_, _, rfl, ?_⟩
  have E13 := ext_trans E9 e13
  refine br_split (fun gp => ?_) (fun gp => ?_)
  · have hS : patS f = [] := by unfold patS; rw [if_pos gp]
    refine br_split (fun _ => br_split (fun _ => aw _ E13 h) (fun g1 => br_split (fun g2 => br_split (fun _ => aw _ E13 h) (fun g3 => ?_)) (fun g2 => ?_))) (fun hh => absurd hS hh)
    · unfold patE at gp g1
      rw [if_pos g3] at g1
      exact absurd rfl g1
    · unfold patE at gp g1 g2
      by_cases q : errU f = 0
      · rw [if_neg (by simp [q])] at gp g2
        by_cases q2 : 65536 < (patF f).length
        · rw [if_pos q2] at g2; exact absurd rfl g2
        · rw [if_neg q2] at gp; exact absurd rfl gp
      · rw [if_pos q] at g1; exact absurd rfl g1
  have hp0 := Decidable.not_not.1 gp
  obtain ⟨hc0, he0, hpl, hpS⟩ := patE_zero hp0
  obtain ⟨u1, u2⟩ := pat_und hc0
  refine Characters_spec f hs (hF.ext E13) (hf0.ext E13) fun w23 e23 => ⟨_, _, rfl, ?_⟩
  have E23 := ext_trans E13 e23
  have heu : errU f = 0 := by unfold patE at hp0; by_cases q : errU f = 0; exact q; rw [if_pos q] at hp0; exact absurd hp0 q
  have hlo : losR f = lostF f := by unfold losR; rw [if_neg (by simp [heu])]
  rw [heu, hlo, hpS, if_neg (by simp [hc0]), if_neg (by simp [hc0])]
  simp only [decide_true, br_t]
  refine (Tryd.strings_Count_one ⟨⟨patF f⟩⟩ 95 w23).mono ?_
  rintro e w27 ⟨rfl, rfl⟩
  refine ⟨_, rfl, ?_⟩
  have hz : 1 < w.heap.size := by
    simp only [World.cell?] at hm
    by_cases q : 1 < w.heap.size
    · exact q
    · rw [Array.getElem?_eq_none (by omega)] at hm; cases hm
  have hm' : w27.cell? ⟨1, 0, none⟩ = some (.int .i64 m) := by rw [← hm]; exact E23.cell hz
  rw [show ((Lib.countByte (patF f) 95 : Nat) : Int) = lostF f from u1]
  simp only [decide_true, br_t]
  refine (Tryd.strings_ReplaceAll ⟨⟨patF f⟩⟩ ⟨⟨[95]⟩⟩ ⟨⟨[]⟩⟩ m w27 (by show (patF f).length < _; omega) hm' (by show 1 ≤ 1; omega) ?_).mono ?_
  · show (patF f).length + _ * 0 ≤ _
    omega
  rintro e w30 ⟨rfl, hb⟩
  refine ⟨_, rfl, ?_⟩
  have hr : (Lib.replaceAll (patF f) [95] []) = charsF f := by rw [replaceAll_one, u2]
  simp only [List.toList_toArray] at hr ⊢
  rw [hr]
  simp only [decide_true, br_t]
  exact aw _ (ext_trans E23 hb) h
end Go.Proofs
namespace Go.Sh
open Go Go.RowKit

/- clearing the end of a slice that the call has made, and cutting it off -/
theorem setCells_blk {T : TypeId} : ∀ {vs cs : List Value} {w : World} {b o : Nat}, Blk w b cs T →
    Blk (w.setCells b o vs) b (putAt cs o vs) T ∧ (∀ k, k ≠ b → (w.setCells b o vs).heap[k]? = w.heap[k]?) ∧ (w.setCells b o vs).heap.size = w.heap.size ∧
      (w.setCells b o vs).os = w.os ∧ (w.setCells b o vs).tape = w.tape ∧ (w.setCells b o vs).output = w.output
  | [], cs, w, b, o, h => ⟨h, fun _ _ => rfl, rfl, rfl, rfl, rfl⟩
  | v :: vs, cs, w, b, o, h => by
    obtain ⟨a1, a2, a3, a4, a5, a6⟩ := setCells_blk (vs := vs) (o := o + 1) (h.set o v)
    refine ⟨a1, fun k hk => (a2 k hk).trans ?_, a3.trans (by simp), a4, a5, a6⟩
    simp only [World.setCell, Array.getElem?_modify]
    rw [if_neg (fun e => hk e.symm)]
theorem slA_zero (a : Option Addr) (c : Nat) (ha : a = none ∨ ∃ g, a = some ⟨g, 0, none⟩) : slA a c 0 1 = a := by
  unfold slA
  split
  · rfl
  · rcases ha with rfl | ⟨g, rfl⟩
    · rfl
    · simp [add_none]
section
variable {α : Type} {E : Enc α} {w : World} {B : Nat} {e : TypeId} {a : Option Addr} {n c : Nat} {l : List α}
theorem clr_none {P : Program} {t ty : TypeId} {a : Option Addr} {c : Nat} {K : World → Prop} (ht : P.underlying t = some (.slice e)) (h : K w) : clr P [t] ty [.slice a 0 c] w K := by
  refine ⟨w, ?_, h⟩
  cases a <;> simp [Builtin.clear_, run_underlying ht]
theorem OwnL.cutClear {P : Program} {t ty : TypeId} {z : Value} (ht : P.underlying t = some (.slice e)) (hz : ∀ w, (zeroValue e).run P w = .ok z w) (hzc : z.cells = #[z]) (h1 : z.oneCell' = true) (hE : E.size = 1)
    (h : OwnL E w B e a n c l) {i : Nat} (hi : i ≤ n) {K : Option Addr → Nat → Nat → World → Prop} (hk : ∀ w', OwnL E w' B e a i c (l.take i) → Chg (bk a) w w' → w'.heap.size = w.heap.size → K a i c w') :
    sls a c (i : Int) (n : Int) 1 fun a' n' c' => clr P [t] ty [.slice a' n' c'] w fun w' => sls a c 0 (i : Int) 1 fun a'' n'' c'' => K a'' n'' c'' w' := by
  have hl := h.length
  have ho := h
  rcases h.2 with h0 | ⟨g, cap, cur, e1, e2, e3, e4, e5, e6, e7⟩
  · have hn : n = 0 := by omega
    subst hn
    obtain rfl : i = 0 := by omega
    have ha : a = none := (by simpa using h0.1 : a = none ∧ c = 0).1
    subst ha
    refine ⟨by omega, by omega, by omega, clr_none ht ⟨by omega, by omega, by omega, ?_⟩⟩
    rw [show (0 : Int).toNat = 0 from rfl]
    rw [slA_zero _ _ (.inl rfl)]
    refine hk w ?_ (Chg.refl _ _) rfl
    rw [List.take_of_length_le (by omega)]; exact ho
  · obtain ⟨rfl, _, rfl⟩ : a = some ⟨g, 0, none⟩ ∧ True ∧ c = cap := by simpa using e1
    have hB : Blk w g cur.toList e := e3
    rw [hE] at e6 e7
    have hcl : cur.toList.length = c := by simpa using e6
    have hrl : (E.row l).length = n := by rw [row_len, hE, hl]; omega
    have fin : ∀ w', Blk w' g (putAt cur.toList i (List.replicate (n - i) z)) e → Chg (bk (some (⟨g, 0, none⟩ : Addr))) w w' → w'.heap.size = w.heap.size → sls (some ⟨g, 0, none⟩) c 0 (i : Int) 1 fun a'' n'' c'' => K a'' n'' c'' w' := by
      intro w' b1 hc hs
      refine ⟨by omega, by omega, by omega, ?_⟩
      rw [show (0 : Int).toNat = 0 from rfl, slA_zero _ _ (.inr ⟨g, rfl⟩), Int.toNat_natCast, Nat.sub_zero, Nat.sub_zero]
      refine hk w' ⟨by rw [row_len, List.length_take, hl, hE]; omega, .inr ⟨g, c, ⟨_⟩, rfl, e2, b1, by omega, e5, ?_, ?_⟩⟩ hc hs
      · show (putAt _ _ _).length = c * E.size
        rw [putAt_length, hcl, hE]; omega
      · show List.take (i * E.size) (putAt _ _ _) = E.row (l.take i)
        rw [hE, Nat.mul_one]
        apply List.ext_getElem?
        intro j
        rw [List.getElem?_take, putAt_get]
        by_cases hj : j < i
        · rw [if_pos hj, if_neg (by omega)]
          have e7' : List.take (n * 1) cur.toList = E.row l := e7
          have q1 : cur.toList[j]? = (E.row l)[j]? := by rw [← e7', List.getElem?_take, if_pos (by omega)]
          have q2 : E.row l = E.row (l.take i) ++ E.row (l.drop i) := by rw [← row_app, List.take_append_drop]
          rw [q1, q2, List.getElem?_append_left (by rw [row_len, List.length_take, hE]; omega)]
        · rw [if_neg hj, List.getElem?_eq_none (by rw [row_len, List.length_take, hE]; omega)]
    refine ⟨by omega, by omega, by omega, ?_⟩
    rw [Int.toNat_natCast, Int.toNat_natCast]
    by_cases hni : i = n
    · subst hni
      rw [Nat.sub_self]
      refine clr_none ht (fin w ?_ (Chg.refl _ _) rfl)
      rw [Nat.sub_self]; exact hB
    · have hsl : slA (some (⟨g, 0, none⟩ : Addr)) c i 1 = some ⟨g, i, none⟩ := by
        unfold slA
        rw [if_neg (by omega)]
        simp [add_none]
      rw [hsl]
      obtain ⟨a1, a2, a3, a4, a5, a6⟩ := setCells_blk (vs := List.replicate (n - i) z) (o := i) hB
      refine ⟨w.setCells g i (List.replicate (n - i) z), ?_, fin _ a1 ⟨a4, a5, a6, by omega, fun k _ hk => a2 k fun e => hk (by simp [bk, e])⟩ a3⟩
      refine Lib.run_clear_slice w t e ty z ht hz hzc h1 g i (n - i) _ (by omega) (fun j hj => ?_) (fun j hj => ?_)
      · rw [hB.cell, List.getElem?_eq_getElem (by omega)]; rfl
      · exact hB.frozen _
end
end Go.Sh
namespace Go.Proofs
open Go Go.Sh Go.RowKit

/- slices.IndexFunc, DeleteFunc of strings -/
theorem zr9 (w : World) : (zeroValue 9).run Tryd.prog w = .ok (.string ⟨⟨[]⟩⟩) w := zero_run (by kernel_rfl) w
def idxF {α : Type} (q : α → Bool) (l : List α) : Int := if l.any q then (l.findIdx q : Int) else -1
def PredS (f : Fn) (fa fb : Array Value) (q : List UInt8 → Bool) (l : List (List UInt8)) (J : World → Prop) : Prop :=
  ∀ s ∈ l, ∀ (W : World) (K : Ending → World → Prop), J W → (∀ W', Ext W W' → K (.returned (.bool (q s))) W') → CallV Tryd.prog (.func f fa fb) [.string ⟨⟨s⟩⟩] W K
theorem get_str {S : Nat → Prop} {w : World} {a : Option Addr} {n : Nat} {L : List (List UInt8)} (h : RowAt encStr S w a n L) {k : Nat} (hk : k < L.length) :
    ∃ q : Addr, (∀ K : Addr → Prop, K q → idx a n (k : Int) 1 K) ∧ w.cell? q = some (.string ⟨⟨L[k]⟩⟩) := by
  obtain ⟨bb, o, hq, _, _, hc⟩ := h.get (i := k) (x := L[k]) (List.getElem?_eq_getElem hk)
  exact ⟨⟨bb, o, none⟩, hq, hc 0 _ rfl⟩
theorem findIdx_at {α : Type} {q : α → Bool} {l : List α} {k : Nat} (hk : k < l.length) (hq : q l[k] = true) (hno : ∀ j (h : j < k), q (l[j]'(by omega)) = false) : l.findIdx q = k := by
  rw [List.findIdx_eq hk]
  exact ⟨hq, fun j hj => by simp [hno j hj]⟩
set_option maxRecDepth 20000 in
theorem IndexFuncS_spec {R : Ending → World → Prop} {S : Nat → Prop} {w : World} {a : Option Addr} {n c : Nat} {f : Fn} {fa fb : Array Value} {q : List UInt8 → Bool} {L : List (List UInt8)} {J : World → Prop} (h1 : RowAt encStr S w a n L)
    (hs : n ≤ 4611686018427387904) (hp : PredS f fa fb q L J) (hJ0 : J w) (hJe : ∀ W W', J W → Ext W W' → J W')
    (h : ∀ w', Ext w w' → R (.returned (.int .i64 (idxF q L))) w') : Calls Tryd.prog F_slices_IndexFunc_of_string_string ⟨[.slice a n c, .func f fa fb]⟩ w R := by
  apply c_slices_IndexFunc_of_string_string
  have hn := h1.1
  refine ⟨fun i W m => ∃ k : Nat, i = k ∧ k ≤ n ∧ m = n - k ∧ (∀ j (hj : j < k) (hk : k ≤ L.length), q (L[j]'(by omega)) = false) ∧ Ext w W, ⟨_, 0, rfl, by omega, rfl, fun j hj => by omega, Below.refl _ _⟩, ?_⟩
  rintro _ W m ⟨k, rfl, hk, rfl, hno, he⟩ _
  refine br_split (fun hlt => ?_) (fun hge => ?_)
  · have hkL : k < L.length := by omega
    obtain ⟨p, hp1, hc⟩ := get_str (h1.ext he) hkL
    refine hp1 _ ⟨_, hc, hp _ (List.getElem_mem hkL) W _ (hJe _ _ hJ0 he) fun W' e' => ⟨_, rfl, br_cases (fun g => ?_) (fun g => ?_)⟩⟩
    · have := h W' (ext_trans he e')
      unfold idxF at this
      rw [if_pos (List.any_eq_true.2 ⟨_, List.getElem_mem hkL, g⟩), findIdx_at hkL g (fun j hj => hno j hj (by omega))] at this
      exact this
    · refine ⟨n - (k + 1), by omega, k + 1, by rw [wrap_nat (by omega)], by omega, rfl, fun j hj hk' => ?_, ext_trans he e'⟩
      by_cases hjk : j = k
      · subst hjk; exact g
      · exact hno j (by omega) (by omega)
  · have := h W he
    unfold idxF at this
    rw [if_neg] at this
    · exact this
    · rw [Bool.not_eq_true, List.any_eq_false]
      intro x hx
      obtain ⟨j, hj, rfl⟩ := List.getElem_of_mem hx
      rw [hno j (by omega) (by omega)]; simp
theorem filter_take_succ {α : Type} (p : α → Bool) {l : List α} {k : Nat} (hk : k < l.length) : (l.take (k + 1)).filter p = if p l[k] = true then (l.take k).filter p ++ [l[k]] else (l.take k).filter p := by
  rw [List.take_add_one, List.getElem?_eq_getElem hk, List.filter_append]
  by_cases h : p l[k] = true <;> simp [h]
set_option maxRecDepth 20000 in
theorem DeleteFuncS_spec {R : Ending → World → Prop} {w : World} {B : Nat} {a : Option Addr} {n c : Nat} {f : Fn} {fa fb : Array Value} {q : List UInt8 → Bool} {L : List (List UInt8)} {J : World → Prop} (h1 : OwnL encStr w B 9 a n c L)
    (hs : n ≤ 4611686018427387904) (hp : PredS f fa fb q L J) (hJ0 : J w) (hJe : ∀ W W', J W → Ext W W' → J W') (hJc : ∀ W W', J W → Chg (bk a) W W' → J W')
    (h : ∀ w' n', OwnL encStr w' B 9 a n' c (L.filter fun s => !q s) → Chg (bk a) w w' → R (.returned (.slice a n' c)) w') : Calls Tryd.prog F_slices_DeleteFunc_of_string_string ⟨[.slice a n c, .func f fa fb]⟩ w R := by
  apply c_slices_DeleteFunc_of_string_string
  have hn := h1.length
  refine IndexFuncS_spec h1.out hs hp hJ0 hJe fun w4 e4 => ⟨_, rfl, ?_⟩
  by_cases hany : L.any q = true
  · have hx : L.findIdx q < L.length := List.findIdx_lt_length_of_exists (List.any_eq_true.1 hany)
    unfold idxF
    rw [if_pos hany]
    generalize hi0 : L.findIdx q = i0 at hx ⊢
    have hq0 : q L[i0] = true := by subst hi0; exact List.findIdx_getElem
    have hlt0 : ∀ j (hj : j < i0), q (L[j]'(by omega)) = false := fun j hj => by
      have := List.not_of_lt_findIdx (p := q) (xs := L) (i := j) (by omega)
      simpa using this
    refine br_split (fun hh => by omega) (fun _ => ?_)
    have f0 : (L.take (i0 + 1)).filter (fun s => !q s) = L.take i0 := by
      rw [filter_take_succ _ hx, if_neg (by simp [hq0]), List.filter_eq_self]
      intro s hs
      obtain ⟨j, hj, rfl⟩ := List.getElem_of_mem hs
      rw [List.length_take] at hj
      rw [List.getElem_take, hlt0 j (by omega)]; rfl
    refine ⟨fun i j W m => ∃ (k : Nat) (M : List (List UInt8)) (i' : Nat), i = i' ∧ j = k ∧ k ≤ n ∧ m = n - k ∧ i' < k ∧ OwnL encStr W B 9 a n c M ∧ M.take i' = (L.take k).filter (fun s => !q s) ∧ M.drop k = L.drop k ∧ Chg (bk a) w W,
      ⟨_, i0 + 1, L, i0, rfl, by rw [wrap_nat (by omega)], by omega, rfl, by omega, h1.ext e4, f0.symm, rfl, .of_ext e4⟩, ?_⟩
    rintro _ _ W m ⟨k, M, i', rfl, rfl, hk, rfl, hik, hM, ht, hd, hc⟩ _
    have hml := hM.length
    refine br_split (fun hlt => ?_) (fun hge => ?_)
    · have hkM : k < M.length := by omega
      have hkL : k < L.length := by omega
      have hMk : M[k] = L[k] := by
        have : M.drop k = M[k] :: M.drop (k + 1) := List.drop_eq_getElem_cons hkM
        rw [hd, List.drop_eq_getElem_cons hkL] at this
        exact (List.cons.inj this).1.symm
      obtain ⟨p, hp1, hcl⟩ := get_str hM.out hkM
      rw [hMk] at hcl
      refine hp1 _ ⟨_, hcl, hp _ (List.getElem_mem hkL) W _ (hJc _ _ hJ0 hc) fun W' e' => ⟨_, rfl, ?_⟩⟩
      have hM' := hM.ext e'
      have hc' : Chg (bk a) w W' := hc.trans (.of_ext e')
      refine br_cases (fun g => ?_) (fun g => ?_)
      · have gq : q L[k] = false := by simpa using g
        obtain ⟨gg, rfl, hi1, hst⟩ := OwnL.store hM' (i := i') (by omega) L[k]
        refine hi1 _ (hst _ fun w18 hM18 hc18 s18 => ?_)
        refine ⟨n - (k + 1), by omega, k + 1, M.set i' L[k], i' + 1, by rw [wrap_nat (by omega)], by rw [wrap_nat (by omega)], by omega, rfl, by omega, hM18, ?_, ?_, hc'.trans hc18⟩
        · rw [filter_take_succ _ hkL, if_pos (by simp [gq]), ← ht]
          have hl2 : i' < (M.set i' L[k]).length := by simp; omega
          rw [List.take_add_one, List.getElem?_eq_getElem hl2, List.take_set_of_le (Nat.le_refl _)]
          simp
        · rw [List.drop_set_of_lt (by omega)]
          have : M.drop (k + 1) = (M.drop k).drop 1 := by rw [List.drop_drop]
          rw [this, hd, List.drop_drop]
      · have gq : q L[k] = true := by simpa using g
        refine ⟨n - (k + 1), by omega, k + 1, M, i', rfl, by rw [wrap_nat (by omega)], by omega, rfl, by omega, hM', ?_, ?_, hc'⟩
        · rw [filter_take_succ _ hkL, if_neg (by simp [gq]), ht]
        · have : M.drop (k + 1) = (M.drop k).drop 1 := by rw [List.drop_drop]
          rw [this, hd, List.drop_drop]
    · have hkn : k = n := by omega
      refine hM.cutClear (t := 38) (z := .string ⟨⟨[]⟩⟩) slT_str.under zr9 rfl rfl rfl (by omega) fun w22 h22 hc22 s22 => ?_
      rw [ht, hkn, List.take_of_length_le (by omega)] at h22
      exact h w22 _ h22 (hc.trans hc22)
  · unfold idxF
    rw [if_neg hany]
    refine br_split (fun _ => ?_) (fun hh => absurd rfl hh)
    have : L.filter (fun s => !q s) = L := by
      rw [List.filter_eq_self]
      intro s hs
      have := List.any_eq_false.1 (by simpa using hany) s hs
      simpa using this
    refine h w4 n ?_ (.of_ext e4)
    rw [this]; exact h1.ext e4
end Go.Proofs
namespace Go.Proofs
open Go Go.Sh Go.RowKit

/- forms in conflict -/
def firstE (l : List Rw) (s : List UInt8) : Option (List UInt8) := (l.find? fun p => decide (p.1 = s)).map (·.2)
def ordF (l : List Rw) : List (List UInt8) := l.foldl (fun acc x => if x.1 ∈ acc then acc else acc ++ [x.1]) []
def confB (l : List Rw) (s : List UInt8) : Bool := l.any fun p => decide (p.1 = s) && decide (firstE l s ≠ some p.2)
theorem firstE_none {l : List Rw} {s : List UInt8} : firstE l s = none ↔ ∀ p ∈ l, p.1 ≠ s := by
  unfold firstE
  rw [Option.map_eq_none_iff, List.find?_eq_none]
  simp
theorem firstE_snoc (l : List Rw) (x : Rw) (s : List UInt8) : firstE (l ++ [x]) s = (firstE l s).or (if x.1 = s then some x.2 else none) := by
  unfold firstE
  rw [List.find?_append]
  cases h : l.find? fun p => decide (p.1 = s) with
  | some y => simp
  | none =>
    by_cases hx : x.1 = s <;> simp [hx]
theorem firstE_old {l : List Rw} {x : Rw} {e : List UInt8} (h : firstE l x.1 = some e) (s : List UInt8) : firstE (l ++ [x]) s = firstE l s := by
  rw [firstE_snoc]
  by_cases hs : x.1 = s
  · subst hs; rw [h]; rfl
  · rw [if_neg hs]; cases firstE l s <;> rfl
theorem firstE_new {l : List Rw} {x : Rw} (h : firstE l x.1 = none) (s : List UInt8) : firstE (l ++ [x]) s = if s = x.1 then some x.2 else firstE l s := by
  rw [firstE_snoc]
  by_cases hs : x.1 = s
  · subst hs; rw [h]; simp
  · rw [if_neg hs, if_neg (Ne.symm hs)]; cases firstE l s <;> rfl
theorem mem_ordF (l : List Rw) : ∀ s, s ∈ ordF l ↔ firstE l s ≠ none := by
  induction l using snoc_ind with
  | h0 => intro s; simp [ordF, firstE]
  | h1 l x ih =>
    intro s
    have e : ordF (l ++ [x]) = if x.1 ∈ ordF l then ordF l else ordF l ++ [x.1] := by unfold ordF; rw [List.foldl_append]; rfl
    rw [e]
    cases hx : firstE l x.1 with
    | none =>
      have := mt (ih x.1).1 (by simp [hx])
      rw [if_neg this, firstE_new hx, List.mem_append, List.mem_singleton, ih s]
      by_cases hs : s = x.1 <;> simp [hs]
    | some v =>
      have := (ih x.1).2 (by simp [hx])
      rw [if_pos this, firstE_old hx, ih s]
theorem ordF_new {l : List Rw} {x : Rw} (h : firstE l x.1 = none) : ordF (l ++ [x]) = ordF l ++ [x.1] := by
  have e : ordF (l ++ [x]) = if x.1 ∈ ordF l then ordF l else ordF l ++ [x.1] := by unfold ordF; rw [List.foldl_append]; rfl
  rw [e, if_neg (mt (mem_ordF l x.1).1 (by simp [h]))]
theorem ordF_old {l : List Rw} {x : Rw} {v : List UInt8} (h : firstE l x.1 = some v) : ordF (l ++ [x]) = ordF l := by
  have e : ordF (l ++ [x]) = if x.1 ∈ ordF l then ordF l else ordF l ++ [x.1] := by unfold ordF; rw [List.foldl_append]; rfl
  rw [e, if_pos ((mem_ordF l x.1).2 (by simp [h]))]
theorem ordF_len (l : List Rw) : (ordF l).length ≤ l.length := by
  induction l using snoc_ind with
  | h0 => simp [ordF]
  | h1 l x ih =>
    cases hx : firstE l x.1 with
    | none => rw [ordF_new hx]; simp; omega
    | some v => rw [ordF_old hx]; simp; omega
theorem ordF_nodup (l : List Rw) : (ordF l).Nodup := by
  induction l using snoc_ind with
  | h0 => simp [ordF]
  | h1 l x ih =>
    cases hx : firstE l x.1 with
    | none =>
      rw [ordF_new hx, List.nodup_append]
      refine ⟨ih, by simp, ?_⟩
      intro a ha b hb
      rw [List.mem_singleton] at hb
      subst hb
      rintro rfl
      exact (mem_ordF l x.1).1 ha hx
    | some v => rw [ordF_old hx]; exact ih
theorem confB_new {l : List Rw} {x : Rw} (h : firstE l x.1 = none) (s : List UInt8) : confB (l ++ [x]) s = confB l s := by
  have hno := firstE_none.1 h
  unfold confB
  rw [List.any_append, firstE_new h]
  by_cases hs : s = x.1
  · subst hs
    rw [if_pos rfl]
    have a : (l.any fun p => decide (p.1 = x.1) && decide (some x.2 ≠ some p.2)) = false := by
      rw [List.any_eq_false]; intro p hp; simp [hno p hp]
    have b : (l.any fun p => decide (p.1 = x.1) && decide (firstE l x.1 ≠ some p.2)) = false := by
      rw [List.any_eq_false]; intro p hp; simp [hno p hp]
    rw [a, b]; simp
  · rw [if_neg hs]
    simp [Ne.symm hs]
theorem confB_old {l : List Rw} {x : Rw} {e : List UInt8} (h : firstE l x.1 = some e) (s : List UInt8) : confB (l ++ [x]) s = (confB l s || (decide (s = x.1) && decide (e ≠ x.2))) := by
  unfold confB
  rw [List.any_append, firstE_old h]
  congr 1
  by_cases hs : s = x.1
  · subst hs; simp [h]
  · simp [hs, Ne.symm hs]
def conE (l : List Rw) : Int := if 4096 < l.length then 4 else 0
def conR (l : List Rw) : List (List UInt8) := if 4096 < l.length then [] else (ordF l).filter (confB l)

set_option maxRecDepth 20000 in
theorem Conflicts_1_spec {R : Ending → World → Prop} {w : World} {b6 b4 n : Nat} {g : List UInt8 → Option Bool} (hb : Blk w b6 [.map (some b4)] 91) (hm : MapT Tryd.prog 9 eS eB w b4 n g) (s : List UInt8) (hs : s.length ≤ 4611686018427387904)
    (h : R (.returned (.bool (!((g s).getD false)))) w) : Calls Tryd.prog F_legibility_Conflicts_1 ⟨[.string ⟨⟨s⟩⟩, .pointer (some ⟨b6, 0, none⟩)]⟩ w R := by
  apply c_legibility_Conflicts_1
  refine dr_ok ⟨_, by rw [hb.cell]; rfl, (g s).getD false, ?_, h⟩
  have := hm.look kd9 Tryd.underlying91 (z := .bool false) (zero_run (by kernel_rfl) w) (keyS hs)
  cases hg : g s with
  | none => rw [hg] at this; exact this
  | some v => rw [hg] at this; exact this
set_option maxRecDepth 20000 in
theorem Conflicts_spec {R : Ending → World → Prop} {S : Nat → Prop} {w : World} {a : Option Addr} {n c : Nat} {L : List Rw} (h1 : RowAt encR S w a n L) (hl : ∀ p ∈ L, p.1.length ≤ 4611686018427387904)
    (h : ∀ a' n' c' w', RowAt encStr (fun k => w.heap.size ≤ k) w' a' n' (conR L) → n' ≤ c' → Ext w w' → R (.returned (.tuple ⟨[.slice a' n' c', .int .i64 (conE L)]⟩)) w') :
    Calls Tryd.prog F_legibility_Conflicts ⟨[.slice a n c]⟩ w R := by
  apply c_legibility_Conflicts
  have hn := h1.1
  unfold conR conE at h
  refine br_split (fun hg => ?_) (fun hg => ?_)
  · rw [if_pos (by omega), if_pos (by omega)] at h
    exact h none 0 0 w (RowAt.nil _) (Nat.le_refl _) (Below.refl _ _)
  rw [if_neg (by omega), if_neg (by omega)] at h
  refine mkm_intro fun b2 w3 hb2 M2 e3 s3 => ?_
  refine mkm_intro fun b4 w5 hb4 M4 e5 s5 => ?_
  refine al_intro fun b6 w7 hb6 B6 e7 s7 => ?_
  refine stL_one B6 rfl fun w8 B8 hc8 s8 => ?_
  have e58 : Ext w5 w8 := ext_chgS e7 hc8 fun k hk => by omega
  have E8 := ext_trans (ext_trans e3 e5) e58
  have z8 := E8.size
  have hM2 : MapT Tryd.prog 9 eS eS w8 b2 0 (fun _ => none) := ((M2 _ _ _ _).ext e5).ext e58
  have hM4 : MapT Tryd.prog 9 eS eB w8 b4 0 (fun _ => none) := (M4 _ _ _ _).ext e58
  refine ⟨fun oa on oc i W m => ∃ (k : Nat) (f2 : List UInt8 → Option (List UInt8)) (f4 : List UInt8 → Option Bool), i = k ∧ k ≤ n ∧ m = n - k ∧
      MapT Tryd.prog 9 eS eS W b2 k f2 ∧ (∀ s, f2 s = firstE (L.take k) s) ∧ MapT Tryd.prog 9 eS eB W b4 k f4 ∧ (∀ s, (f4 s).getD false = confB (L.take k) s) ∧
      Blk W b6 [.map (some b4)] 91 ∧ OwnL encStr W w8.heap.size 9 oa on oc (ordF (L.take k)) ∧ Ext w W ∧ w8.heap.size ≤ W.heap.size,
    ⟨_, 0, _, _, rfl, by omega, rfl, hM2, fun s => rfl, hM4, fun s => rfl, B8, Owns.nil _ _ _ _, E8, Nat.le_refl _⟩, ?_⟩
  rintro oa on oc _ W m ⟨k, f2, f4, rfl, hk, rfl, g2, g2', g4, g4', g6, go, ge, gz⟩ _
  refine br_split (fun hlt => ?_) (fun hge => ?_)
  · have hkL : k < L.length := by omega
    have htk : L.take (k + 1) = L.take k ++ [L[k]] := by rw [List.take_add_one, List.getElem?_eq_getElem hkL]; rfl
    have hlk := hl _ (List.getElem_mem hkL)
    obtain ⟨q, hq, c0, c1⟩ := get_rw (h1.ext ge) hkL
    refine hq _ ⟨_, c0, _, c1, ?_⟩
    refine al_intro fun b18 w19 hb18 B18 e19 s19 => ?_
    refine stL_blk B18 (by simp) (by intro v hv; simp only [List.mem_cons, List.not_mem_nil, or_false] at hv; rcases hv with rfl | rfl <;> rfl) fun w20 B20 hx20 hs20 x4 x5 x6 => ?_
    have hc20 : Chg (fun j => j = b18) w19 w20 := ⟨x4, x5, x6, by omega, fun j _ hj => hx20 j hj⟩
    have e20 : Ext W w20 := ext_chgS e19 hc20 fun j hj => by omega
    have B20' : Blk w20 b18 [.string ⟨⟨L[k].1⟩⟩, .string ⟨⟨L[k].2⟩⟩] 42 := B20
    obtain ⟨d0, d1⟩ := blk2' B20'
    have G2 := g2.ext e20
    have G4 := g4.ext e20
    have G6 := g6.ext e20
    have GO := Owns.ext go e20
    have GE := ext_trans ge e20
    have z20 := e20.size
    have l2 := g2.lt
    have l4 := g4.lt
    have l6 := g6.lt
    have hbo : ∀ j, bk oa j → w8.heap.size ≤ j ∧ j < W.heap.size := fun j hj => Owns.bk go hj
    refine ⟨_, d0, (firstE (L.take k) L[k].1).getD [], (firstE (L.take k) L[k].1).isSome, ?_, ?_⟩
    · have := G2.look2 kd9 Tryd.underlying90 (z := .string ⟨⟨[]⟩⟩) (zero_run (by kernel_rfl) w20) (keyS hlk)
      rw [g2'] at this
      cases hf : firstE (L.take k) L[k].1 with
      | none => rw [hf] at this; exact this
      | some v => rw [hf] at this; exact this
    cases hf : firstE (L.take k) L[k].1 with
    | none =>
      simp only [Option.isSome_none, Bool.not_false, br_t]
      refine ⟨_, d0, _, d1, ?_⟩
      refine MapT.update (eV := eS) G2 kd9 (t := 90) (e := 9) Tryd.underlying90 (by simp only [maxLen]; omega) (keyS hlk) (fun y hy => by simpa using hy) fun w26 g26 M26 hc26 hv26 ho26 => ?_
      have hc26' : Chg (fun j => j = b2) w20 w26 := hc26
      have B26 := hc26.blk B20' (by omega)
      obtain ⟨d0', d1'⟩ := blk2' B26
      refine ⟨_, d0', ?_⟩
      have e26 : Ext w w26 := ext_chgS GE hc26' fun j hj => by omega
      have hol := OwnL.length go
      have hof := ordF_len (L.take k)
      rw [List.length_take] at hof
      refine OwnL.push (E := encStr) slT_str (GO.chg hc26' fun j hj => by have := hbo j hj; omega) (by have := hc26'.size; omega) L[k].1 (by omega) (by omega) fun a30 c30 w31 ho31 hc31 hn31 => ?_
      refine ⟨n - (k + 1), by omega, k + 1, g26, f4, by rw [wrap_nat (by omega)], by omega, rfl, M26.chg hc31 (fun hh => by have := hbo _ hh; omega), ?_, ((G4.chg hc26' (by omega)).chg hc31 (fun hh => by have := hbo _ hh; omega)).mono (by omega), ?_, hc31.blk (hc26'.blk G6 (by omega)) (fun hh => by have := hbo _ hh; omega), ?_,
        ext_chgS e26 hc31 (fun j hj => by have := hbo _ hj; omega), by have := hc26'.size; have := hc31.size; omega⟩
      · intro s
        rw [htk, firstE_new hf]
        by_cases hs : s = L[k].1
        · subst hs; rw [if_pos rfl]; exact hv26
        · rw [if_neg hs, ho26 s hs, g2' s]
      · intro s
        rw [htk, confB_new hf]; exact g4' s
      · rw [htk, ordF_new hf]; exact ho31
    | some v =>
      simp only [Option.isSome_some, Bool.not_true, br_f, Option.getD_some]
      refine ⟨_, d1, ?_⟩
      refine br_split (fun hv => ?_) (fun hv => ?_)
      · refine ⟨_, by rw [G6.cell]; rfl, _, d0, ?_⟩
        refine MapT.update (eV := eB) (v := true) G4 kd9 (t := 91) (e := 4) Tryd.underlying91 (by simp only [maxLen]; omega) (keyS hlk) (fun y hy => by simpa using hy) fun w36 g36 M36 hc36 hv36 ho36 => ?_
        have hc36' : Chg (fun j => j = b4) w20 w36 := hc36
        refine ⟨n - (k + 1), by omega, k + 1, f2, g36, by rw [wrap_nat (by omega)], by omega, rfl, (G2.chg hc36' (by omega)).mono (by omega), ?_, M36, ?_, hc36'.blk G6 (by omega), ?_, ext_chgS GE hc36' (fun j hj => by omega), by have := hc36'.size; omega⟩
        · intro s; rw [htk, firstE_old hf]; exact g2' s
        · intro s
          rw [htk, confB_old hf]
          by_cases hs : s = L[k].1
          · subst hs; rw [hv36]; simp [hv]
          · rw [ho36 s hs, g4' s]; simp [hs]
        · rw [htk, ordF_old hf]; exact GO.chg hc36' fun j hj => by have := hbo j hj; omega
      · have hv' := Decidable.not_not.1 hv
        refine ⟨n - (k + 1), by omega, k + 1, f2, f4, by rw [wrap_nat (by omega)], by omega, rfl, G2.mono (by omega), ?_, G4.mono (by omega), ?_, G6, ?_, GE, by omega⟩
        · intro s; rw [htk, firstE_old hf]; exact g2' s
        · intro s; rw [htk, confB_old hf, g4' s]; simp [hv']
        · rw [htk, ordF_old hf]; exact GO
  · have hkn : k = n := by omega
    subst hkn
    rw [List.take_of_length_le (by omega)] at g2' g4' go
    have hol := OwnL.length go
    have hof := ordF_len L
    have hbo : ∀ j, bk oa j → w8.heap.size ≤ j ∧ j < W.heap.size := fun j hj => Owns.bk go hj
    have l4 := g4.lt
    have l6 := g6.lt
    refine DeleteFuncS_spec (q := fun s => !((f4 s).getD false)) (J := fun W => Blk W b6 [.map (some b4)] 91 ∧ MapT Tryd.prog 9 eS eB W b4 k f4) go (by omega) ?_ ⟨g6, g4⟩ (fun W1 W2 hj he => ⟨hj.1.ext he, hj.2.ext he⟩)
      (fun W1 W2 hj hc => ⟨hc.blk hj.1 (fun hh => by have := hbo _ hh; omega), hj.2.chg hc (fun hh => by have := hbo _ hh; omega)⟩) fun w40 n' ho40 hc40 => ⟨_, _, _, rfl, ?_⟩
    · intro s hs W1 K hj hK
      refine ⟨by kernel_rfl, ?_⟩
      refine Conflicts_1_spec hj.1 hj.2 s ?_ (hK _ (Below.refl _ _))
      have hm := (mem_ordF L s).1 hs
      cases hf : L.find? fun p => decide (p.1 = s) with
      | none => unfold firstE at hm; rw [hf] at hm; exact absurd rfl hm
      | some p =>
        have h1 := List.find?_some hf
        have h2 := List.mem_of_find?_eq_some hf
        simp only [decide_eq_true_eq] at h1
        rw [← h1]; exact hl p h2
    · have hfil : (ordF L).filter (fun s => !!((f4 s).getD false)) = (ordF L).filter (confB L) := by
        congr 1; funext s; rw [Bool.not_not, g4' s]
      rw [hfil] at ho40
      refine h oa n' oc w40 (ho40.out.imp fun j hj _ => ?_) ?_ (ext_chgS ge hc40 fun j hj => by have := hbo _ hj; omega)
      · have := hbo j hj; omega
      · rcases ho40.2 with h0 | ⟨g, cap, cur, e1, e2, e3, e4, _⟩
        · omega
        · have : oc = cap := (by simpa using e1 : oa = some ⟨g, 0, none⟩ ∧ oc = cap).2
          omega
end Go.Proofs
namespace Go.Proofs
open Go Go.Sh Go.RowKit

/- slices.Contains of strings, ContainsFunc of pairs -/
set_option maxRecDepth 20000 in
theorem ContainsS_spec {R : Ending → World → Prop} {S : Nat → Prop} {w : World} {a : Option Addr} {n c : Nat} {L : List (List UInt8)} (v : List UInt8) (h1 : RowAt encStr S w a n L) (hs : n ≤ 4611686018427387904)
    (h : R (.returned (.bool (decide (v ∈ L)))) w) : Calls Tryd.prog F_slices_Contains_of_string_string ⟨[.slice a n c, .string ⟨⟨v⟩⟩]⟩ w R := by
  apply c_slices_Contains_of_string_string
  have hn := h1.1
  apply c_slices_Index_of_string_string
  refine ⟨fun i W m => ∃ k : Nat, i = k ∧ k ≤ n ∧ m = n - k ∧ v ∉ L.take k ∧ W = w, ⟨_, 0, rfl, by omega, rfl, by simp, rfl⟩, ?_⟩
  rintro _ W m ⟨k, rfl, hk, rfl, hno, rfl⟩ _
  refine br_split (fun hlt => ?_) (fun hge => ?_)
  · have hkL : k < L.length := by omega
    obtain ⟨p, hp1, hc⟩ := get_str h1 hkL
    refine hp1 _ ⟨_, hc, br_split (fun g => ?_) (fun g => ?_)⟩
    · refine ⟨_, rfl, ?_⟩
      rw [decide_eq_true (show (0 : Int) ≤ (k : Int) by omega)]
      rw [decide_eq_true (show v ∈ L by rw [g]; exact List.getElem_mem hkL)] at h
      exact h
    · refine ⟨n - (k + 1), by omega, k + 1, by rw [wrap_nat (by omega)], by omega, rfl, ?_, rfl⟩
      rw [List.take_add_one, List.getElem?_eq_getElem hkL, List.mem_append]
      rintro (hh | hh)
      · exact hno hh
      · simp at hh; exact g hh
  · refine ⟨_, rfl, ?_⟩
    rw [List.take_of_length_le (by omega)] at hno
    rw [decide_eq_false hno] at h
    exact h
def PredR (f : Fn) (fa fb : Array Value) (q : Rw → Bool) (l : List Rw) (w : World) : Prop :=
  ∀ s ∈ l, ∀ (W : World) (K : Ending → World → Prop), Ext w W → (∀ W', Ext W W' → K (.returned (.bool (q s))) W') → CallV Tryd.prog (.func f fa fb) [.agg ⟨[.string ⟨⟨s.1⟩⟩, .string ⟨⟨s.2⟩⟩]⟩] W K
set_option maxRecDepth 20000 in
theorem ContainsFuncR_spec {R : Ending → World → Prop} {S : Nat → Prop} {w : World} {a : Option Addr} {n c : Nat} {f : Fn} {fa fb : Array Value} {q : Rw → Bool} {L : List Rw} (h1 : RowAt encR S w a n L)
    (hs : n ≤ 4611686018427387904) (hp : PredR f fa fb q L w)
    (h : ∀ w', Ext w w' → R (.returned (.bool (L.any q))) w') : Calls Tryd.prog F_slices_ContainsFunc_of_api_Rewrite_api_Rewrite ⟨[.slice a n c, .func f fa fb]⟩ w R := by
  apply c_slices_ContainsFunc_of_api_Rewrite_api_Rewrite
  apply c_slices_IndexFunc_of_api_Rewrite_api_Rewrite
  have hn := h1.1
  refine ⟨fun i W m => ∃ k : Nat, i = k ∧ k ≤ n ∧ m = n - k ∧ (L.take k).any q = false ∧ Ext w W, ⟨_, 0, rfl, by omega, rfl, rfl, Below.refl _ _⟩, ?_⟩
  rintro _ W m ⟨k, rfl, hk, rfl, hno, he⟩ _
  refine br_split (fun hlt => ?_) (fun hge => ?_)
  · have hkL : k < L.length := by omega
    obtain ⟨p, hp1, c0, c1⟩ := get_rw (h1.ext he) hkL
    refine hp1 _ ⟨_, c0, _, c1, hp _ (List.getElem_mem hkL) W _ he fun W' e' => ⟨_, rfl, br_cases (fun g => ?_) (fun g => ?_)⟩⟩
    · refine ⟨_, rfl, ?_⟩
      rw [decide_eq_true (show (0 : Int) ≤ (k : Int) by omega)]
      have := h W' (ext_trans he e')
      rw [List.any_eq_true.2 ⟨_, List.getElem_mem hkL, g⟩] at this
      exact this
    · refine ⟨n - (k + 1), by omega, k + 1, by rw [wrap_nat (by omega)], by omega, rfl, ?_, ext_trans he e'⟩
      rw [List.take_add_one, List.getElem?_eq_getElem hkL, List.any_append, hno]
      simp [g]
  · refine ⟨_, rfl, ?_⟩
    rw [List.take_of_length_le (by omega)] at hno
    have := h W he
    rw [hno] at this
    exact this

/- pairs with the same written form -/
def sameW (l : List Rw) (s : List UInt8) : List Rw := l.filter fun p => decide (p.1 = s)
theorem conf_count {L : List Rw} (hn : L.Nodup) (s : List UInt8) : confB L s = decide (1 < (sameW L s).length) := by
  have hh : (sameW L s).head? = L.find? fun p => decide (p.1 = s) := by unfold sameW; rw [List.head?_filter]
  have hnd : (sameW L s).Nodup := hn.filter _
  have hmem : ∀ p, p ∈ sameW L s ↔ p ∈ L ∧ p.1 = s := fun p => by unfold sameW; simp
  unfold confB firstE
  rw [← hh]
  cases hc : sameW L s with
  | nil =>
    rw [hc] at hmem
    rw [show decide (1 < ([] : List Rw).length) = false from rfl, List.any_eq_false]
    intro p hp
    have := mt (hmem p).2 (by simp)
    simp at this
    simp [this hp]
  | cons p0 rest =>
    rw [hc] at hmem hnd
    obtain ⟨m1, m2⟩ := (hmem p0).1 (by simp)
    cases rest with
    | nil =>
      rw [show decide (1 < [p0].length) = false from rfl, List.any_eq_false]
      intro p hp
      by_cases hs : p.1 = s
      · have := (hmem p).2 ⟨hp, hs⟩
        simp at this
        subst this
        simp
      · simp [hs]
    | cons q rest =>
      obtain ⟨n1, n2⟩ := (hmem q).1 (by simp)
      rw [decide_eq_true (by simp), List.any_eq_true]
      refine ⟨q, n1, ?_⟩
      have hne : p0 ≠ q := fun e => by rw [e] at hnd; simp at hnd
      have : p0.2 ≠ q.2 := fun e => hne (Prod.ext (m2.trans n2.symm) e)
      simp [n2, this]
theorem sameW_pos {L : List Rw} {s : List UInt8} : firstE L s ≠ none ↔ ∃ p ∈ L, p.1 = s := by
  rw [Ne, firstE_none]
  constructor
  · intro h
    apply Classical.byContradiction
    intro h2
    exact h fun p hp he => h2 ⟨p, hp, he⟩
  · rintro ⟨p, hp, he⟩ h
    exact h p hp he
theorem pairL_ofK (f : Fo) : (pairL f).length = cntF 10 f := by
  unfold pairL cntF ofK pairP
  induction nodesF f with
  | nil => rfl
  | cons x l ih =>
    rw [List.flatMap_cons, List.length_append, ih, List.filter_cons]
    unfold pairN
    by_cases h : x.k = 10
    · simp [h]; omega
    · simp [h]

set_option maxRecDepth 20000 in
theorem LegibilityPairs_1_spec {R : Ending → World → Prop} {w : World} {b : Nat} {s : List UInt8} (p : Rw) (hb : w.cell? ⟨b, 0, none⟩ = some (.string ⟨⟨s⟩⟩)) (hlt : b < w.heap.size)
    (h : ∀ w', Ext w w' → R (.returned (.bool (decide (p.1 = s)))) w') : Calls Tryd.prog F_law12_LegibilityPairs_1 ⟨[.agg ⟨[.string ⟨⟨p.1⟩⟩, .string ⟨⟨p.2⟩⟩]⟩, .pointer (some ⟨b, 0, none⟩)]⟩ w R := by
  apply c_law12_LegibilityPairs_1
  refine al_intro fun b4 w5 hb4 B4 e5 s5 => ?_
  obtain ⟨d0, d1⟩ := blk2' B4
  have hb' : w5.cell? ⟨b, 0, none⟩ = some (.string ⟨⟨s⟩⟩) := by rw [← hb]; exact e5.cell hlt
  refine ⟨p.1, d0, dr_ok ⟨s, hb', ?_⟩⟩
  exact h _ e5
end Go.Proofs
namespace Go.Proofs
open Go Go.Sh Go.RowKit

/- the part of a row ahead of an index -/
theorem RowAt.ahead {α : Type} {E : Enc α} (hE : E.size = 1) {S : Nat → Prop} {w : World} {a : Option Addr} {n c : Nat} {L : List α} (h : RowAt E S w a n L) (hc : n ≤ c) {k : Nat} (hk : k ≤ n) {K : Option Addr → Nat → Nat → Prop}
    (hK : ∀ a', RowAt E S w a' k (L.take k) → K a' k c) : sls a c 0 (k : Int) 1 K := by
  refine ⟨by omega, by omega, by omega, ?_⟩
  rw [show (0 : Int).toNat = 0 from rfl, Int.toNat_natCast, Nat.sub_zero, Nat.sub_zero]
  have hn := h.1
  have hl : k = (L.take k).length := by rw [List.length_take]; omega
  rcases h.2 with h0 | ⟨b, o, rfl, hb, hbl, hcl⟩
  · have : (L.take k) = [] := by
      have h1 := congrArg List.length h0
      rw [row_len, hE] at h1
      simp only [List.length_nil] at h1
      exact List.eq_nil_of_length_eq_zero (by rw [List.length_take]; omega)
    exact hK _ ⟨hl, .inl (by rw [this]; rfl)⟩
  · have ha : slA (some ⟨b, o, none⟩) c 0 1 = some ⟨b, o, none⟩ := by
      unfold slA; split
      · rfl
      · simp [add_none]
    rw [ha]
    refine hK _ ⟨hl, .inr ⟨b, o, rfl, hb, hbl, fun j v hj => hcl j v ?_⟩⟩
    have q : E.row L = E.row (L.take k) ++ E.row (L.drop k) := by rw [← row_app, List.take_append_drop]
    rw [q, List.getElem?_append_left (List.getElem?_eq_some_iff.1 hj).1]; exact hj
theorem pair_text {f : Fo} {p : Rw} (h : p ∈ pairL f) : p.1.length ≤ tlen f := by
  unfold pairL pairP at h
  obtain ⟨x, hx, hp⟩ := List.mem_flatMap.1 h
  obtain ⟨_, _, _, h4⟩ := sub_facts f x hx
  unfold pairN at hp
  split at hp
  · rw [List.mem_singleton] at hp; subst hp; exact h4
  · simp at hp
theorem sameW_take {L : List Rw} {s : List UInt8} {k : Nat} (hk : k < L.length) : sameW (L.take (k + 1)) s = if L[k].1 = s then sameW (L.take k) s ++ [L[k]] else sameW (L.take k) s := by
  unfold sameW
  rw [filter_take_succ _ hk]
  by_cases h : L[k].1 = s <;> simp [h]

set_option maxRecDepth 20000 in
theorem LegibilityPairs_spec {R : Ending → World → Prop} {S : Nat → Prop} {w : World} {a : Option Addr} {n c : Nat} (f : Fo) (hF : Forms w) (hf0 : SlF S w a n f)
    (h : ∀ w', Ext w w' → R (.returned (.bool true)) w') : Calls Tryd.prog F_law12_LegibilityPairs ⟨[.slice a n c]⟩ w R := by
  apply c_law12_LegibilityPairs
  have aw : ∀ {K : Ending → World → Prop} W, Ext w W → (∀ w', Ext w w' → K (.returned (.bool true)) w') → Calls Tryd.prog F_law12_awake ⟨[]⟩ W fun e w' => ∃ x : Bool, e = .returned (.bool x) ∧ K (.returned (.bool x)) w' :=
    fun W hx hK => awake12_spec (hF.ext hx) fun w10 e10 => ⟨_, rfl, hK _ (ext_trans hx e10)⟩
  refine Great_spec hf0 fun w3 e3 => ⟨_, rfl, br_cases (fun _ => aw _ e3 h) (fun hgr => ?_)⟩
  have hs := great10_small hgr
  refine Pairs_spec f hs (hF.ext e3) (hf0.ext e3) fun a1 c1 w9 hr9 e9 => ⟨_, _, _, _, rfl, ?_⟩
  have E9 := ext_trans e3 e9
  refine br_split (fun g => ?_) (fun g => ?_)
  · have hr : pairR f = [] := by unfold pairR; rw [if_pos g]
    rw [hr]
    exact br_split (fun _ => aw _ E9 h) (fun hh => absurd rfl hh)
  have hp0 := Decidable.not_not.1 g
  have he0 : errU f = 0 := by unfold pairE at hp0; by_cases q : errU f = 0; exact q; rw [if_pos q] at hp0; exact absurd hp0 q
  obtain ⟨hc0, _⟩ := errU_zero he0
  obtain ⟨q1, q2, q3⟩ := check_zero hc0
  have hL : pairR f = dedup (pairL f) := by unfold pairR; rw [if_neg g]
  have hnd : (pairR f).Nodup := by rw [hL]; exact dedup_nodup _
  have hlen1 := pairL_len f
  have hlen2 := dedup_len (pairL f)
  have hlen : (pairR f).length ≤ 4096 := by rw [hL]; omega
  have htx : ∀ p ∈ pairR f, p.1.length ≤ 4611686018427387904 := fun p hp => by
    rw [hL, mem_dedup] at hp
    have := pair_text hp
    omega
  have hcn : ((pairR f).length : Int) ≤ cntF 10 f := by rw [hL, ← pairL_ofK]; omega
  have hc00 : cntF 10 f = 0 ↔ (pairR f).length = 0 := by
    rw [← pairL_ofK, hL]
    constructor
    · intro h0; omega
    · intro h0
      rw [List.length_eq_zero_iff] at h0 ⊢
      rw [List.eq_nil_iff_forall_not_mem] at h0 ⊢
      intro x hx
      exact h0 x ((mem_dedup _ _).2 hx)
  generalize pairR f = L at *
  refine Conflicts_spec hr9 htx fun a2 n2 c2 w16 hr16 hcap2 e16 => ⟨_, _, _, _, rfl, ?_⟩
  have E16 := ext_trans E9 e16
  have hcE : conE L = 0 := by unfold conE; rw [if_neg (by omega)]
  have hcR : conR L = (ordF L).filter (confB L) := by unfold conR; rw [if_neg (by omega)]
  rw [hcE]
  rw [hcR] at hr16
  have hof := ordF_len L
  have hfl := List.length_filter_le (confB L) (ordF L)
  have hn2 := hr16.1
  refine CountT_spec 10 f hs (hF.ext E16) (hf0.ext E16) fun w20 e20 => ⟨_, _, rfl, ?_⟩
  have E20 := ext_trans E16 e20
  have hce : couE 10 f = 0 := by unfold couE; rw [if_neg (by simp [hc0]), if_neg (by omega)]
  have hcr : couR 10 f = cntF 10 f := by unfold couR; rw [if_neg (by simp [hce])]
  rw [hce, hcr]
  have R20 := hr9.ext (ext_trans e16 e20)
  have C20 := hr16.ext e20
  intro K23 hK23
  have k23 : K23 w20 := by
    refine hK23 _ fun _ => ?_
    refine ⟨fun i W m => ∃ k : Nat, i = k ∧ k ≤ L.length ∧ m = L.length - k ∧ Ext w20 W, ⟨_, 0, rfl, by omega, rfl, Below.refl _ _⟩, ?_⟩
    rintro _ W m ⟨k, rfl, hk, rfl, he⟩ _
    refine br_split (fun hlt => ?_) (fun hge => ?_)
    · have hkL : k < L.length := by omega
      obtain ⟨q, hq, c0, c1⟩ := get_rw (R20.ext he) hkL
      refine hq _ ⟨_, c0, _, c1, ?_⟩
      refine al_intro fun b33 w34 hb33 B33 e34 s34 => ?_
      refine stL_blk B33 (by simp) (by intro v hv; simp only [List.mem_cons, List.not_mem_nil, or_false] at hv; rcases hv with rfl | rfl <;> rfl) fun w35 B35 hx35 hs35 x4 x5 x6 => ?_
      have hc35 : Chg (fun j => j = b33) w34 w35 := ⟨x4, x5, x6, by omega, fun j _ hj => hx35 j hj⟩
      have e35 : Ext W w35 := ext_chgS e34 hc35 fun j hj => by omega
      have E35 := ext_trans he e35
      have B35' : Blk w35 b33 [.string ⟨⟨L[k].1⟩⟩, .string ⟨⟨L[k].2⟩⟩] 42 := B35
      refine ⟨fun cnt j W m => ∃ k' : Nat, cnt = ((sameW (L.take k') L[k].1).length : Int) ∧ j = k' ∧ k' ≤ L.length ∧ m = L.length - k' ∧ Ext w35 W, ⟨_, 0, by simp [sameW], rfl, by omega, rfl, Below.refl _ _⟩, ?_⟩
      rintro _ _ W2 m ⟨k', rfl, rfl, hk', rfl, he2⟩ _
      have B2 := B35'.ext he2
      obtain ⟨d0, d1⟩ := blk2' B2
      have hsl : (sameW (L.take k') L[k].1).length ≤ k' := by unfold sameW; exact Nat.le_trans (List.length_filter_le _ _) (by rw [List.length_take]; omega)
      refine br_split (fun hlt2 => ?_) (fun hge2 => ?_)
      · have hkL' : k' < L.length := by omega
        obtain ⟨q', hq', c0', c1'⟩ := get_rw (R20.ext (ext_trans E35 he2)) hkL'
        refine hq' _ ⟨_, c0', _, c1', ?_⟩
        refine al_intro fun b45 w46 hb45 B45 e46 s46 => ?_
        refine stL_blk B45 (by simp) (by intro v hv; simp only [List.mem_cons, List.not_mem_nil, or_false] at hv; rcases hv with rfl | rfl <;> rfl) fun w47 B47 hx47 hs47 y4 y5 y6 => ?_
        have hc47 : Chg (fun j => j = b45) w46 w47 := ⟨y4, y5, y6, by omega, fun j _ hj => hx47 j hj⟩
        have e47 : Ext W2 w47 := ext_chgS e46 hc47 fun j hj => by omega
        have B47' : Blk w47 b45 [.string ⟨⟨L[k'].1⟩⟩, .string ⟨⟨L[k'].2⟩⟩] 42 := B47
        obtain ⟨d0', d1'⟩ := blk2' B47'
        obtain ⟨f0, f1⟩ := blk2' (B2.ext e47)
        have E47 := ext_trans he2 e47
        intro K48 hK48
        have k48 : K48 w47 := by
          refine hK48 _ fun _ => ⟨_, f0, _, d0', br_split (fun ge => ?_) (fun ge => ?_)⟩
          · refine ⟨L.length - (k' + 1), by omega, k' + 1, ?_, by rw [wrap_nat (by omega)], by omega, rfl, E47⟩
            rw [sameW_take hkL', if_pos ge.symm, List.length_append, wrap_nat (by omega)]; rfl
          · refine ⟨L.length - (k' + 1), by omega, k' + 1, ?_, by rw [wrap_nat (by omega)], by omega, rfl, E47⟩
            rw [sameW_take hkL', if_neg (Ne.symm ge)]
        refine br_split (fun hne => ?_) (fun _ => k48)
        refine ⟨_, f0, _, f1, _, d0', _, d1', ?_⟩
        rw [decRw L[k] L[k']]
        refine br_split (fun heq => ?_) (fun _ => k48)
        exact absurd ((List.getElem_inj hnd).1 heq) (by omega)
      · have hkk : k' = L.length := by omega
        subst hkk
        rw [List.take_length]
        refine ⟨_, d0, ContainsS_spec _ (C20.ext (ext_trans E35 he2)) (by omega) ⟨_, rfl, ?_⟩⟩
        have hiff : decide (L[k].1 ∈ (ordF L).filter (confB L)) = decide ((1 : Int) < ((sameW L L[k].1).length : Int)) := by
          rw [decide_eq_decide, List.mem_filter, conf_count hnd, decide_eq_true_eq]
          have := (mem_ordF L L[k].1).2 (sameW_pos.2 ⟨_, List.getElem_mem hkL, rfl⟩)
          constructor
          · rintro ⟨_, h2⟩; omega
          · intro h2; exact ⟨this, by omega⟩
        refine br_split (fun hh => absurd hiff hh) (fun _ => ?_)
        exact ⟨L.length - (k + 1), by omega, k + 1, by rw [wrap_nat (by omega)], by omega, rfl, ext_trans E35 he2⟩
    · refine ⟨fun i W m => ∃ k : Nat, i = k ∧ k ≤ n2 ∧ m = n2 - k ∧ Ext w20 W, ⟨_, 0, rfl, by omega, rfl, he⟩, ?_⟩
      rintro _ W2 m ⟨k2, rfl, hk2, rfl, he2⟩ _
      generalize hCL : (ordF L).filter (confB L) = CL at *
      have hndC : CL.Nodup := by rw [← hCL]; exact (ordF_nodup L).filter _
      refine br_split (fun hlt2 => ?_) (fun hge2 => ?_)
      · have hkC : k2 < CL.length := by omega
        have C2 := C20.ext he2
        obtain ⟨q, hq, c0⟩ := get_str C2 hkC
        refine hq _ ⟨_, c0, ?_⟩
        refine al_intro fun b70 w71 hb70 B70 e71 s71 => ?_
        refine stL_one B70 rfl fun w72 B72 hc72 s72 => ?_
        have e72 : Ext W2 w72 := ext_chgS e71 hc72 fun j hj => by omega
        unfold drw
        have e73 := ext_trans e72 (ext_drew w72)
        have B73 := B72.ext (ext_drew w72)
        have E73 := ext_trans he2 e73
        refine RowAt.ahead rfl (C20.ext E73) hcap2 (by omega) fun a' hra => ?_
        refine ⟨_, by rw [B73.cell]; rfl, ⟨ContainsS_spec _ hra (by omega) ⟨_, rfl, ?_⟩, trivial⟩⟩
        have hnot : CL[k2] ∉ CL.take k2 := by
          intro hm
          obtain ⟨j, hj, hje⟩ := List.getElem_of_mem hm
          rw [List.length_take] at hj
          rw [List.getElem_take] at hje
          have := (List.getElem_inj hndC).1 hje
          omega
        rw [decide_eq_false hnot]
        simp only [br_f]
        refine ⟨?_, trivial⟩
        refine ContainsFuncR_spec (q := fun p => decide (p.1 = CL[k2])) (R20.ext E73) (by omega) ?_ fun w80 e80 => ⟨_, rfl, ?_⟩
        · intro s hs W K he3 hK
          refine ⟨by kernel_rfl, ?_⟩
          refine LegibilityPairs_1_spec s (s := CL[k2]) (b := b70) ?_ ?_ hK
          · rw [(B73.ext he3).cell]; rfl
          · have := B73.lt; have := he3.size; omega
        · have hany : (L.any fun p => decide (p.1 = CL[k2])) = true := by
            have hm : CL[k2] ∈ (ordF L).filter (confB L) := by rw [hCL]; exact List.getElem_mem hkC
            obtain ⟨p, hp, hpe⟩ := sameW_pos.1 ((mem_ordF L _).1 (List.mem_filter.1 hm).1)
            rw [List.any_eq_true]
            exact ⟨p, hp, by rw [decide_eq_true_eq]; exact hpe⟩
          rw [hany]
          simp only [Bool.not_true, br_f]
          exact ⟨n2 - (k2 + 1), by omega, k2 + 1, by rw [wrap_nat (by omega)], by omega, rfl, ext_trans E73 e80⟩
      · exact aw _ (ext_trans E20 he2) h
  refine br_split (fun hh => absurd rfl hh) (fun _ => br_split (fun hh => absurd rfl hh) (fun _ => br_split (fun hh => by omega) (fun _ => br_split (fun hh => ?_) (fun _ => k23))))
  exfalso
  apply hh
  rw [decide_eq_decide]
  omega
end Go.Proofs
namespace Go.Proofs
open Go Go.Sh Go.RowKit

/- supplying what is lost -/
def wrdOk (ws : List (List UInt8)) (i : Nat) (n : Int) : Bool := match ws[i]? with | some s => decide ((s.length : Int) = n) | none => false
def supG (ws : List (List UInt8)) : Fo → Nat → Bool → Fo × Nat × Bool
  | .nil, i, ok => (.nil, i, ok)
  | .cons k t n ps r, i, ok =>
    if k ≠ 6 then ((.cons k t n (supG ws ps i ok).1 (supG ws r (supG ws ps i ok).2.1 (supG ws ps i ok).2.2).1), (supG ws r (supG ws ps i ok).2.1 (supG ws ps i ok).2.2).2)
    else if wrdOk ws i n = true then (.cons 1 (ws[i]?.getD []) 0 .nil (supG ws r (i + 1) ok).1, (supG ws r (i + 1) ok).2)
    else supG ws r (i + 1) false
theorem supG_size (ws) : ∀ (f : Fo) (i : Nat) (ok : Bool), (supG ws f i ok).1.size ≤ f.size ∧ (supG ws f i ok).2.1 ≤ i + f.size ∧ (supG ws f i ok).1.len ≤ f.len
  | .nil, i, ok => by simp [supG, Fo.size]
  | .cons k t n ps r, i, ok => by
    have h1 := supG_size ws ps i ok
    have h2 := supG_size ws r (supG ws ps i ok).2.1 (supG ws ps i ok).2.2
    have h3 := supG_size ws r (i + 1) ok
    have h4 := supG_size ws r (i + 1) false
    rw [supG]
    simp only [Fo.size, Fo.len_cons]
    split
    · simp only [Fo.size, Fo.len_cons]; omega
    · split
      · simp only [Fo.size, Fo.len_cons]; omega
      · omega

set_option maxRecDepth 20000 in
theorem Supply_1_spec {b14 b8 b3 b10 : Nat} {ws : List (List UInt8)} {wa : Option Addr} {wn wc : Nat} {SW : Nat → Prop} (d1 : b14 ≠ b8) (d2 : b14 ≠ b10) (d3 : b8 ≠ b10) (d4 : b3 ≠ b8) (d5 : b3 ≠ b10) (hSW : ∀ j, SW j → j ≠ b8 ∧ j ≠ b10) :
    ∀ (f : Fo) {R : Ending → World → Prop} {S : Nat → Prop} {w : World} {a : Option Addr} {n c : Nat} (i0 : Nat) (ok0 : Bool) (hs : i0 + f.size ≤ 1000000000) (hf0 : SlF S w a n f) (hS : ∀ j, S j → j ≠ b8 ∧ j ≠ b10)
    (B14 : Blk w b14 [.func (.func 76) ⟨[]⟩ ⟨[.pointer (some ⟨b14, 0, none⟩), .pointer (some ⟨b8, 0, none⟩), .pointer (some ⟨b3, 0, none⟩), .pointer (some ⟨b10, 0, none⟩)]⟩] 97) (B3 : Blk w b3 [.slice wa wn wc] 38) (hW : RowAt encStr SW w wa wn ws) (hwn : wn ≤ 1000000000)
    (B8 : Blk w b8 [.int .i64 (i0 : Int)] 3) (B10 : Blk w b10 [.bool ok0] 4)
    (h : ∀ a' n' c' w', SlF (fun k => S k ∨ w.heap.size ≤ k) w' a' n' (supG ws f i0 ok0).1 → Chg (fun k => k = b8 ∨ k = b10) w w' → Blk w' b8 [.int .i64 ((supG ws f i0 ok0).2.1 : Int)] 3 → Blk w' b10 [.bool (supG ws f i0 ok0).2.2] 4 → R (.returned (.slice a' n' c')) w'),
    Calls Tryd.prog F_legibility_Supply_1 ⟨[.slice a n c, .pointer (some ⟨b14, 0, none⟩), .pointer (some ⟨b8, 0, none⟩), .pointer (some ⟨b3, 0, none⟩), .pointer (some ⟨b10, 0, none⟩)]⟩ w R := by
  intro f
  induction hz : f.size using Nat.strongRecOn generalizing f with
  | _ z ih =>
  intro R S w a n c i0 ok0 hs hf0 hS B14 B3 hW hwn B8 B10 h
  apply c_legibility_Supply_1
  have hn := hf0.1
  have hfl := f.len_le_size
  have l8 := B8.lt
  have l10 := B10.lt
  have hf : SlF (fun k => S k ∧ k < w.heap.size) w a n f := hf0.imp fun k hk hl => ⟨hk, hl⟩
  have hwl := hW.1
  refine ⟨fun oa on oc i W m => ∃ (p r out : Fo) (i1 : Nat) (ok1 : Bool), f = p.app r ∧ i = p.len ∧ m = r.len ∧ OwnF 37 (fun k => S k ∧ k < w.heap.size) w.heap.size W oa on oc out ∧ out.len ≤ p.len ∧ i1 + r.size ≤ i0 + f.size ∧ Chg (fun k => k = b8 ∨ k = b10) w W ∧
      Blk W b8 [.int .i64 (i1 : Int)] 3 ∧ Blk W b10 [.bool ok1] 4 ∧ supG ws f i0 ok0 = (out.app (supG ws r i1 ok1).1, (supG ws r i1 ok1).2),
    ⟨_, .nil, f, .nil, i0, ok0, rfl, rfl, rfl, OwnF.nil w, by simp, by omega, Chg.refl _ _, B8, B10, by simp⟩, ?_⟩
  rintro oa on oc _ W m ⟨p, r, out, i1, ok1, hpr, rfl, rfl, hout, holen, hi1, he, G8, G10, heq⟩ _
  have hon := hout.len
  have hwW := he.size
  have hTb : ∀ j, (j = b8 ∨ j = b10) → ¬ (S j ∧ j < w.heap.size) ∧ j < w.heap.size := fun j hj => ⟨fun hh => by have := hS j hh.1; omega, by omega⟩
  refine br_split (fun hlt => ?_) (fun hge => ?_)
  · obtain ⟨k, t, mm, ps, r, rfl⟩ := Fo.next hpr (by omega)
    have hsl := Fo.sub_len hpr
    have hsz := Fo.sub_size hpr
    have e1 : f = (p.app (.one k t mm ps)).app r := by rw [Fo.app_one_app]; exact hpr
    have hfs : f.size = p.size + (ps.size + r.size + 1) := by rw [hpr, Fo.size_app]; rfl
    have i1' : IntKind.i64.wrap ((p.len : Int) + 1) = ((p.app (.one k t mm ps)).len : Int) := by rw [wrap_nat (by omega)]; simp [Fo.one]
    simp only [Fo.size] at hi1
    obtain ⟨q, a', c', hq, hSq, hql, hN⟩ := (hf.chg he fun j hj hh => (hTb j hh).1 hj).get hpr
    refine hq _ ⟨k, hN.kind, t, hN.text, mm, hN.num, a', ps.len, c', hN.parts, ?_⟩
    refine al_stL (by simp) (by intro u hu; simp only [List.mem_cons, List.not_mem_nil, or_false] at hu; rcases hu with rfl | rfl | rfl | rfl <;> rfl) fun bx w1 hbx hBx e2 s2 => ?_
    obtain ⟨x0, x1, x2, x3⟩ := blk4 hBx
    have H1 : Chg (fun k => k = b8 ∨ k = b10) w w1 := he.trans (.of_ext e2)
    have ho1 := hout.ext e2
    have zz := e2.size
    have nb : ∀ j, (j = b8 ∨ j = b10) → j ≠ b14 ∧ j ≠ b3 := fun j hj => by omega
    have K14 := H1.blk B14 (by omega)
    have K3 := H1.blk B3 (by omega)
    have KW := hW.chg H1 (fun j hj hh => by have := hSW j hj; omega)
    have K8 := G8.ext e2
    have K10 := G10.ext e2
    refine ⟨k, x0, br_split (fun g => ?_) (fun g => ?_)⟩
    · -- any other node
      rw [supG, if_pos g] at heq
      refine dr_ok ⟨.func 76, ⟨[]⟩, ⟨[.pointer (some ⟨b14, 0, none⟩), .pointer (some ⟨b8, 0, none⟩), .pointer (some ⟨b3, 0, none⟩), .pointer (some ⟨b10, 0, none⟩)]⟩, by rw [K14.cell]; rfl, a', ps.len, c', x3, by kernel_rfl, ?_⟩
      refine ih _ (hz ▸ hsz) ps rfl (S := fun k => S k ∧ k < w.heap.size) i1 ok1 (by omega) (hN.sl.ext e2) (fun j hj => hS j hj.1) K14 K3 KW hwn K8 K10 fun a3 n3 c3 w3 hsl3 hc3 D8 D10 => ⟨_, _, _, rfl, ?_⟩
      have hn3 := hsl3.1
      have z3 := hc3.size
      have hBx3 := hc3.blk hBx (by omega)
      have hss := supG_size ws ps i1 ok1
      rw [add_none]
      refine stL_blk hBx3 (by simp) (by intro u hu; simp only [List.mem_singleton] at hu; subst hu; rfl) fun w4 b1 b2 b3' b4 b5 b6 => ?_
      simp only [putAt, List.set] at b1
      have hc4 : Chg (· = bx) w3 w4 := ⟨b4, b5, b6, by omega, fun k _ hk => b2 k hk⟩
      have hcW4 : Chg (fun k => k = b8 ∨ k = b10) W w4 := chg_then (chg_then (Chg.of_ext (S := fun k => k = b8 ∨ k = b10) e2) hc3 fun i _ h => h) hc4 fun i hi hh => by omega
      have ho4 := hout.chg hcW4 hTb
      have z4 := hcW4.size
      have hp4 : SlF (fun j => (S j ∧ j < w.heap.size) ∨ w1.heap.size ≤ j) w4 a3 n3 (supG ws ps i1 ok1).1 := hsl3.chg hc4 fun j hj he => by
        subst he; rcases hj with hj | hj <;> omega
      subst hn3
      obtain ⟨y0, y1, y2, y3⟩ := blk4 b1
      refine ⟨k, y0, t, y1, mm, y2, a3, _, c3, y3, ?_⟩
      refine OwnF.push slT_node ho4 (by omega) (own_parts hp4 (fun j hj => hj.2) hout (by omega) (by omega)) (by omega) (by omega) fun a5 n5 c5 w5 ho5 hc5 => ?_
      have nbk : ∀ j, bk oa j → j ≠ b8 ∧ j ≠ b10 := fun j hj => by have := (hout.bk hj).1; omega
      refine ⟨r.len, by simp, _, r, _, (supG ws ps i1 ok1).2.1, (supG ws ps i1 ok1).2.2, e1, i1', rfl, ho5, by simp [Fo.one]; omega, by omega, ?_, ?_, ?_, ?_⟩
      · exact chg_then (chg_then he hcW4 fun i _ h => h) hc5 fun i hi hh => by have := (hout.bk hh).1; omega
      · exact hc5.blk (hc4.blk D8 (by omega)) fun hh => by have := nbk _ hh; omega
      · exact hc5.blk (hc4.blk D10 (by omega)) fun hh => by have := nbk _ hh; omega
      · rw [heq, Fo.app_one_app]
    · -- a gap
      have g6 : k = 6 := Decidable.not_not.1 g
      rw [supG, if_neg g] at heq
      unfold drw
      have ed := ext_drew w1
      generalize w1.drew = wd at ed ⊢
      have zd := ed.size
      have L14 := K14.ext ed
      have L3 := K3.ext ed
      have LW := KW.ext ed
      have L8 := K8.ext ed
      have L10 := K10.ext ed
      obtain ⟨x0', x1', x2', x3'⟩ := blk4 (hBx.ext ed)
      have Ed : Ext W wd := ext_trans e2 ed
      have hod := hout.ext Ed
      have Hd : Chg (fun k => k = b8 ∨ k = b10) w wd := he.trans (.of_ext Ed)
      have ii : IntKind.i64.wrap ((i1 : Int) + 1) = ((i1 + 1 : Nat) : Int) := wrap_nat (by omega)
      intro K37 hK37
      have kF : ¬ wrdOk ws i1 mm = true → K37 true wd := by
        intro hw
        rw [if_neg hw] at heq
        refine hK37 _ _ fun _ => ?_
        simp only [br_t]
        refine dr_ok (stL_one L10 rfl fun w40 M10 hc40 s40 => ?_)
        have M8 := hc40.blk L8 (by omega)
        refine dr_ok ⟨_, by rw [M8.cell]; rfl, dr_ok ?_⟩
        rw [ii]
        refine stL_one M8 rfl fun w44 N8 hc44 s44 => ?_
        have hcW : Chg (fun k => k = b8 ∨ k = b10) wd w44 := (hc40.mono fun k _ hk => .inr hk).trans (hc44.mono fun k _ hk => .inl hk)
        exact ⟨r.len, by simp, _, r, out, i1 + 1, false, e1, i1', rfl, hod.chg hcW hTb, by simp [Fo.one]; omega, by omega, Hd.trans hcW, N8, hc44.blk M10 (by omega), heq⟩
      have kT : wrdOk ws i1 mm = true → K37 false wd := by
        intro hw
        rw [if_pos hw] at heq
        refine hK37 _ _ fun _ => ?_
        simp only [br_f]
        have hil : i1 < ws.length := by
          unfold wrdOk at hw
          cases hg : ws[i1]? with
          | none => rw [hg] at hw; cases hw
          | some s => exact (List.getElem?_eq_some_iff.1 hg).1
        refine dr_ok ⟨wa, wn, wc, by rw [L3.cell]; rfl, dr_ok ⟨_, by rw [L8.cell]; rfl, ?_⟩⟩
        obtain ⟨q2, hq2, c2⟩ := get_str LW hil
        refine hq2 _ ⟨_, c2, ?_⟩
        refine OwnF.push (ps := .nil) slT_node hod (by omega) (SlF.nil none) (by omega) (by omega) fun a5 n5 c5 w5 ho5 hc5 => ?_
        have nbk : ∀ j, bk oa j → j ≠ b8 ∧ j ≠ b10 := fun j hj => by have := (hout.bk hj).1; omega
        have M8 := hc5.blk L8 (fun hh => by have := nbk _ hh; omega)
        have M10 := hc5.blk L10 (fun hh => by have := nbk _ hh; omega)
        refine dr_ok ⟨_, by rw [M8.cell]; rfl, dr_ok ?_⟩
        rw [ii]
        refine stL_one M8 rfl fun w59 N8 hc59 s59 => ?_
        have hcW : Chg (fun k => k = b8 ∨ k = b10) w5 w59 := hc59.mono fun k _ hk => .inl hk
        have hws : ws[i1]?.getD [] = ws[i1] := by rw [List.getElem?_eq_getElem hil]; rfl
        refine ⟨r.len, by simp, _, r, out.app (.one 1 ws[i1] 0 .nil), i1 + 1, ok1, e1, i1', rfl, ho5.chg hcW hTb, by simp [Fo.one]; omega, by omega, ?_, N8, hc59.blk M10 (by omega), ?_⟩
        · exact chg_then (chg_then Hd hc5 fun i hi hh => by have := (hout.bk hh).1; omega) hcW fun i _ h => h
        · rw [heq, Fo.app_one_app, hws]
      refine dr_ok ⟨_, by rw [L8.cell]; rfl, dr_ok ⟨wa, wn, wc, by rw [L3.cell]; rfl, br_split (fun hge2 => kF ?_) (fun hlt2 => ?_)⟩⟩
      · unfold wrdOk
        rw [List.getElem?_eq_none (by omega)]; simp
      · have hil : i1 < ws.length := by omega
        refine dr_ok ⟨wa, wn, wc, by rw [L3.cell]; rfl, dr_ok ⟨_, by rw [L8.cell]; rfl, ?_⟩⟩
        obtain ⟨q2, hq2, c2⟩ := get_str LW hil
        refine hq2 _ ⟨_, c2, mm, x2', ?_⟩
        by_cases hh : ((ws[i1].length : Int)) = mm
        · rw [show decide (((ws[i1].length : Int)) ≠ mm) = false by simp [hh]]
          exact kT (by unfold wrdOk; rw [List.getElem?_eq_getElem hil]; simp [hh])
        · rw [show decide (((ws[i1].length : Int)) ≠ mm) = true by simp [hh]]
          exact kF (by unfold wrdOk; rw [List.getElem?_eq_getElem hil]; simp [hh])
  · obtain ⟨rfl, rfl⟩ := Fo.last hpr (by omega)
    rw [heq] at h
    simp only [supG, Fo.app_nil] at h
    exact h oa on oc W (hout.out.imp fun k hk _ => hk.imp (fun h => h.1) id) he G8 G10
end Go.Proofs
namespace Go.Proofs
open Go Go.Sh Go.RowKit

def supE (f : Fo) (ws : List (List UInt8)) : Int :=
  if errU f ≠ 0 then errU f else if (supG ws f 0 true).2.2 = false then 9 else if ((supG ws f 0 true).2.1 : Int) ≠ ws.length then 9 else checkT (mergeF (supG ws f 0 true).1)
def supR (f : Fo) (ws : List (List UInt8)) : Fo := if supE f ws ≠ 0 then .nil else mergeF (supG ws f 0 true).1
theorem supG_tlen (ws) : ∀ (f : Fo) (i : Nat) (ok : Bool), good f → tlen (supG ws f i ok).1 ≤ tlen f + 100 * f.size
  | .nil, i, ok, _ => by simp [supG, tlen]
  | .cons k t n ps r, i, ok, hg => by
    have h1 := supG_tlen ws ps i ok hg.2.1
    have h2 := supG_tlen ws r (supG ws ps i ok).2.1 (supG ws ps i ok).2.2 hg.2.2
    have h3 := supG_tlen ws r (i + 1) ok hg.2.2
    have h4 := supG_tlen ws r (i + 1) false hg.2.2
    rw [supG]
    simp only [Fo.size, tlen]
    split
    · simp only [tlen]; omega
    · rename_i hk
      have h6 : k = 6 := Decidable.not_not.1 hk
      have := hg.1.2.2.1 (by simp only [numsF]; rw [h6]; rfl)
      split
      · rename_i hw
        simp only [tlen]
        unfold wrdOk at hw
        cases hq : ws[i]? with
        | none => rw [hq] at hw; cases hw
        | some s =>
          rw [hq] at hw
          simp only [decide_eq_true_eq] at hw
          simp only [Option.getD_some]; omega
      · omega
set_option maxRecDepth 20000 in
theorem Supply_spec {R : Ending → World → Prop} {S SW : Nat → Prop} {w : World} {a : Option Addr} {n c : Nat} {wa : Option Addr} {wn wc : Nat} {ws : List (List UInt8)} (f : Fo) (hs : small f) (hF : Forms w) (hf0 : SlF S w a n f) (hW0 : RowAt encStr SW w wa wn ws) (hwn : wn ≤ 1000000000)
    (h : ∀ a' n' c' w', SlF (fun k => S k ∨ w.heap.size ≤ k) w' a' n' (supR f ws) → Ext w w' → R (.returned (.tuple ⟨[.slice a' n' c', .int .i64 (supE f ws)]⟩)) w') : Calls Tryd.prog F_legibility_Supply ⟨[.slice a n c, .slice wa wn wc]⟩ w R := by
  apply c_legibility_Supply
  have er : ∀ e w', supE f ws = e → e ≠ 0 → Ext w w' → R (.returned (.tuple ⟨[.slice none 0 0, .int .i64 e]⟩)) w' := by
    intro e w' he h0 hx
    have hr : supR f ws = .nil := by unfold supR; rw [if_pos (by rw [he]; exact h0)]
    rw [hr, he] at h
    exact h none 0 0 w' (SlF.nil _) hx
  have hf : SlF (fun k => S k ∧ k < w.heap.size) w a n f := hf0.imp fun k hk hl => ⟨hk, hl⟩
  have hW : RowAt encStr (fun k => SW k ∧ k < w.heap.size) w wa wn ws := hW0.imp fun k hk hl => ⟨hk, hl⟩
  refine al_intro fun b3 w4 hb3 B3 e4 s4 => ?_
  refine checkL_spec f hs (hF.ext e4) (hf.ext e4) fun w6 e6 => ⟨_, rfl, br_split (fun g => er _ _ (by unfold supE; rw [if_pos g]) g (ext_trans e4 e6)) (fun g => ?_)⟩
  have E6 := ext_trans e4 e6
  have he0 := Decidable.not_not.1 g
  obtain ⟨hc0, _⟩ := errU_zero he0
  obtain ⟨q1, q2, q3⟩ := check_zero hc0
  refine al_intro fun b8 w9 hb8 B8 e9 s9 => ?_
  refine al_intro fun b10 w11 hb10 B10 e11 s11 => ?_
  refine stL_one (B8.ext e11) rfl fun w12 C8 hc12 s12 => ?_
  refine stL_one (hc12.blk B10 (by omega)) rfl fun w13 C10 hc13 s13 => ?_
  refine al_intro fun b14 w15 hb14 B14 e15 s15 => ?_
  refine stL_one B14 rfl fun w16 C14 hc16 s16 => ?_
  have z6 := E6.size
  have z4 := e4.size
  have z46 := e6.size
  have e611 := ext_trans e9 e11
  have e612 := ext_chgS e611 hc12 fun k hk => by omega
  have e613 := ext_chgS e612 hc13 fun k hk => by omega
  have e615 := ext_trans e613 e15
  have e616 := ext_chgS e615 hc16 fun k hk => by omega
  have E16 := ext_trans E6 e616
  have D8 := hc16.blk ((hc13.blk C8 (by omega)).ext e15) (by omega)
  have D10 := hc16.blk (C10.ext e15) (by omega)
  have D3 := (B3.ext e6).ext e616
  have z16 := E16.size
  refine ⟨.func 76, ⟨[]⟩, ⟨[.pointer (some ⟨b14, 0, none⟩), .pointer (some ⟨b8, 0, none⟩), .pointer (some ⟨b3, 0, none⟩), .pointer (some ⟨b10, 0, none⟩)]⟩, by rw [C14.cell]; rfl, by kernel_rfl, ?_⟩
  unfold small at hs
  refine Supply_1_spec (by omega) (by omega) (by omega) (by omega) (by omega) (SW := fun k => SW k ∧ k < w.heap.size) (fun j hj => by omega) f 0 true (by omega) (hf.ext E16) (fun j hj => by omega) C14 D3 (hW.ext E16) hwn D8 D10 fun a2 n2 c2 w19 hsl19 hc19 G8 G10 => ⟨_, _, _, rfl, ?_⟩
  have E19 : Ext w w19 := ext_chgS E16 hc19 fun j hj => by omega
  have z19 := hc19.size
  have hgs := supG_size ws f 0 true
  have hgt := supG_tlen ws f 0 true q2
  intro K21 hK21
  have k21 : (supG ws f 0 true).2.2 = true → ((supG ws f 0 true).2.1 : Int) = ws.length → K21 w19 := by
    intro h1 h2
    refine hK21 _ fun _ => ?_
    have hE : supE f ws = checkT (mergeF (supG ws f 0 true).1) := by unfold supE; rw [if_neg g, if_neg (by simp [h1]), if_neg (by simp [h2])]
    refine Merge_spec (supG ws f 0 true).1 (by omega) (by omega) hsl19 fun a3 n3 c3 w24 hsl24 e24 => ⟨_, _, _, rfl, ?_⟩
    have E24 := ext_trans E19 e24
    have hms := mergeF_size (supG ws f 0 true).1
    refine Check22_spec _ (by unfold small; omega) hsl24 (hF.ext E24) fun w27 e27 => ⟨_, rfl, br_split (fun gg => ?_) (fun gg => ?_)⟩
    · exact er _ _ hE gg (ext_trans E24 e27)
    · have h0 := Decidable.not_not.1 gg
      have hr : supR f ws = mergeF (supG ws f 0 true).1 := by unfold supR; rw [if_neg (by rw [hE]; exact gg)]
      have := h a3 n3 c3 w27 (by
        rw [hr]
        refine (hsl24.ext e27).imp fun j hj hl => ?_
        rcases hj with (hj | hj) | hj
        · exact .inl hj.1
        · exact .inr (by omega)
        · exact .inr (by omega)) (ext_trans E24 e27)
      rw [hE, h0] at this
      exact this
  refine ⟨_, by rw [G10.cell]; rfl, br_cases (fun gg => er 9 _ ?_ (by decide) E19) (fun gg => ⟨_, by rw [G8.cell]; rfl, wa, wn, wc, by rw [(hc19.blk D3 (by omega)).cell]; rfl, br_split (fun gn => er 9 _ ?_ (by decide) E19) (fun gn => ?_)⟩)⟩
  · unfold supE; rw [if_neg g, if_pos (by simpa using gg)]
  · have : (supG ws f 0 true).2.2 = true := by simpa using gg
    unfold supE; rw [if_neg g, if_neg (by simp [this]), if_pos (by rw [← hW.1]; exact gn)]
  · exact k21 (by simpa using gg) (by rw [← hW.1]; exact Decidable.not_not.1 gn)
end Go.Proofs
namespace Go.Proofs
open Go Go.Sh Go.RowKit

/- what was supplied at the gaps -/
def cutF : List UInt8 → List UInt8 → List UInt8
  | p :: ps, s :: ss => if p = 95 then s :: cutF ps ss else cutF ps ss
  | _, _ => []
def fitL : List UInt8 → List UInt8 → Bool
  | [], [] => true
  | p :: ps, s :: ss => (decide (s = p) || decide (p = 95)) && fitL ps ss
  | _, _ => false
theorem cutF_app : ∀ {p s : List UInt8} (p' s' : List UInt8), p.length = s.length → cutF (p ++ p') (s ++ s') = cutF p s ++ cutF p' s'
  | [], [], p', s', _ => by simp [cutF]
  | a :: p, b :: s, p', s', h => by
    simp only [List.cons_append, cutF]
    rw [cutF_app p' s' (by simpa using h)]
    split <;> simp
  | [], b :: s, _, _, h => by simp at h
  | a :: p, [], _, _, h => by simp at h
theorem fitL_app : ∀ {p s : List UInt8} (p' s' : List UInt8), p.length = s.length → fitL (p ++ p') (s ++ s') = (fitL p s && fitL p' s')
  | [], [], p', s', _ => by simp [fitL]
  | a :: p, b :: s, p', s', h => by
    simp only [List.cons_append, fitL]
    rw [fitL_app p' s' (by simpa using h), Bool.and_assoc]
  | [], b :: s, _, _, h => by simp at h
  | a :: p, [], _, _, h => by simp at h
theorem fitL_same : ∀ t : List UInt8, fitL t t = true
  | [] => rfl
  | a :: t => by simp [fitL, fitL_same t]
theorem cutF_same : ∀ t : List UInt8, (95 : UInt8) ∉ t → cutF t t = []
  | [], _ => rfl
  | a :: t, h => by
    simp only [List.mem_cons, not_or] at h
    rw [cutF, if_neg (Ne.symm h.1), cutF_same t h.2]
theorem fitL_rep : ∀ s : List UInt8, fitL (List.replicate s.length 95) s = true
  | [] => rfl
  | a :: s => by simp [List.replicate_succ, fitL, fitL_rep s]
theorem cutF_rep : ∀ s : List UInt8, cutF (List.replicate s.length 95) s = s
  | [] => rfl
  | a :: s => by simp [List.replicate_succ, cutF, cutF_rep s]
theorem fitL_get : ∀ {p s : List UInt8}, fitL p s = true → p.length = s.length ∧ ∀ i : Nat, s[i]? = p[i]? ∨ p[i]? = some 95
  | [], [], _ => ⟨rfl, fun i => .inl rfl⟩
  | a :: p, b :: s, h => by
    rw [fitL, Bool.and_eq_true, Bool.or_eq_true, decide_eq_true_eq, decide_eq_true_eq] at h
    obtain ⟨h1, h2⟩ := fitL_get h.2
    refine ⟨by simp [h1], fun i => ?_⟩
    cases i with
    | zero => simpa using h.1
    | succ i => simpa using h2 i
  | [], b :: s, h => by simp [fitL] at h
  | a :: p, [], h => by simp [fitL] at h
theorem fitB_of {p s : List UInt8} (h : fitL p s = true) : fitB p s = true := by
  obtain ⟨h1, h2⟩ := fitL_get h
  unfold fitB
  rw [Bool.and_eq_true, decide_eq_true_eq, List.all_eq_true]
  refine ⟨h1, fun i _ => ?_⟩
  rw [Bool.or_eq_true, decide_eq_true_eq, decide_eq_true_eq]
  exact h2 i

/- the kinds of nodes -/
def allK (q : Int → Bool) : Fo → Bool
  | .nil => true
  | .cons k _ _ ps r => q k && (allK q ps && allK q r)
def txF : Fo → Prop
  | .nil => True
  | .cons k _ _ ps r => (k = 1 → ps = .nil) ∧ txF ps ∧ txF r
theorem cleanF_all : ∀ f : Fo, cleanF f = allK (fun k => !(decide (k = 8) || decide (k = 9))) f
  | .nil => rfl
  | .cons k t n ps r => by rw [cleanF_cons, cleanF_all ps, cleanF_all r]; rfl
theorem allK_merge {q : Int → Bool} (h1 : q 1 = true) : ∀ f : Fo, allK q f = true → allK q (mergeR f) = true
  | .nil, _ => rfl
  | .cons k t n ps r, h => by
    rw [allK, Bool.and_eq_true, Bool.and_eq_true] at h
    have i1 := allK_merge h1 ps h.2.1
    have i2 := allK_merge h1 r h.2.2
    rw [mergeR]
    unfold consM
    by_cases hk : k = 1
    · rw [if_pos hk]
      by_cases ht : t = []
      · rw [if_pos ht]; exact i2
      · rw [if_neg ht]
        cases hr : mergeR r with
        | nil => simp [allK, hk, h1, i1]
        | cons k' t' n' ps' r' =>
          rw [hr, allK, Bool.and_eq_true, Bool.and_eq_true] at i2
          by_cases hk' : k' = 1
          · simp [allK, hk, hk', h1, i1, i2.2.2]
          · simp [allK, hk, hk', h1, i1, i2.1, i2.2.1, i2.2.2]
    · rw [if_neg hk]; simp [allK, h.1, i1, i2]
theorem txF_merge : ∀ f : Fo, txF f → txF (mergeR f)
  | .nil, _ => trivial
  | .cons k t n ps r, ⟨h1, h2, h3⟩ => by
    have i1 := txF_merge ps h2
    have i2 := txF_merge r h3
    rw [mergeR]
    unfold consM
    by_cases hk : k = 1
    · have hp := h1 hk
      subst hp
      rw [if_pos hk]
      by_cases ht : t = []
      · rw [if_pos ht]; exact i2
      · rw [if_neg ht]
        cases hr : mergeR r with
        | nil => exact ⟨fun _ => rfl, trivial, trivial⟩
        | cons k' t' n' ps' r' =>
          rw [hr] at i2
          by_cases hk' : k' = 1
          · simp only [hk', if_true]
            exact ⟨fun _ => rfl, trivial, i2.2.2⟩
          · simp only [hk', if_false]
            exact ⟨fun _ => rfl, trivial, i2⟩
    · rw [if_neg hk]
      exact ⟨fun h => absurd h hk, i1, i2⟩
theorem patF_merge : ∀ f : Fo, txF f → patF (mergeR f) = patF f
  | .nil, _ => rfl
  | .cons k t n ps r, ⟨h1, h2, h3⟩ => by
    have i1 := patF_merge ps h2
    have i2 := patF_merge r h3
    have x2 := txF_merge r h3
    rw [mergeR]
    unfold consM
    by_cases hk : k = 1
    · have hp := h1 hk
      subst hp
      rw [if_pos hk]
      have e : patF (.cons k t n .nil r) = t ++ patF r := by rw [patF_cons]; simp [patN, hk, patF, nodesF]
      rw [e]
      by_cases ht : t = []
      · rw [if_pos ht, i2, ht]; rfl
      · rw [if_neg ht]
        cases hr : mergeR r with
        | nil =>
          rw [hr] at i2
          rw [← i2]
          show patF (.cons k t n .nil .nil) = _
          rw [patF_cons]; simp [patN, hk, patF, nodesF]
        | cons k' t' n' ps' r' =>
          rw [hr] at i2 x2
          by_cases hk' : k' = 1
          · have hp' := x2.1 hk'
            subst hp'
            rw [← i2]
            simp only [hk', if_true]
            rw [patF_cons, patF_cons]
            simp [patN, hk, mergeR, patF, nodesF]
          · simp only [hk', if_false]
            show patF (.cons k t n .nil (.cons k' t' n' ps' r')) = _
            rw [patF_cons, i2]
            simp [patN, hk, patF, nodesF]
    · rw [if_neg hk, patF_cons, patF_cons, i1, i2]; rfl
theorem chars_print : ∀ f : Fo, good f → (charsF f).length ≤ (printF f).length
  | .nil, _ => Nat.le_refl _
  | .cons k t n ps r, h => by
    have i1 := chars_print ps h.2.1
    have i2 := chars_print r h.2.2
    rw [charsF, printF]
    simp only [List.length_append]
    unfold nodeF
    by_cases hk : k = 1
    · have hp : ps.len = 0 := h.1.2.2.2.2.1 (by rw [hk]; decide)
      rw [Fo.eq_nil_of_len hp, if_pos hk, if_pos hk]
      simp only [charsF, List.length_nil]; omega
    · rw [if_neg hk, if_neg hk]
      by_cases hp : partsF k = true
      · rw [if_pos hp]
        simp only [List.length_append, List.length_nil]; omega
      · have : ps.len = 0 := h.1.2.2.2.2.1 (by simpa using hp)
        rw [Fo.eq_nil_of_len this]
        simp only [charsF, List.length_nil]; omega

/- what supplying gives -/
theorem supG_kinds {q : Int → Bool} (h1 : q 1 = true) (ws) : ∀ (f : Fo) (i : Nat) (ok : Bool), allK (fun k => decide (k = 6) || q k) f = true → allK q (supG ws f i ok).1 = true
  | .nil, _, _, _ => rfl
  | .cons k t n ps r, i, ok, h => by
    rw [allK, Bool.and_eq_true, Bool.and_eq_true] at h
    have i1 := supG_kinds h1 ws ps i ok h.2.1
    have i2 := supG_kinds h1 ws r (supG ws ps i ok).2.1 (supG ws ps i ok).2.2 h.2.2
    have i3 := supG_kinds h1 ws r (i + 1) ok h.2.2
    have i4 := supG_kinds h1 ws r (i + 1) false h.2.2
    rw [supG]
    by_cases hk : k = 6
    · rw [if_neg (by simp [hk])]
      by_cases hw : wrdOk ws i n = true
      · rw [if_pos hw]; simp [allK, h1, i3]
      · rw [if_neg hw]; exact i4
    · rw [if_pos hk]
      have := h.1
      simp [hk] at this
      simp [allK, this, i1, i2]
theorem supG_tx (ws) : ∀ (f : Fo) (i : Nat) (ok : Bool), txF f → txF (supG ws f i ok).1
  | .nil, _, _, _ => trivial
  | .cons k t n ps r, i, ok, ⟨h1, h2, h3⟩ => by
    have i1 := supG_tx ws ps i ok h2
    have i2 := supG_tx ws r (supG ws ps i ok).2.1 (supG ws ps i ok).2.2 h3
    have i3 := supG_tx ws r (i + 1) ok h3
    have i4 := supG_tx ws r (i + 1) false h3
    rw [supG]
    by_cases hk : k = 6
    · rw [if_neg (by simp [hk])]
      by_cases hw : wrdOk ws i n = true
      · rw [if_pos hw]; exact ⟨fun _ => rfl, trivial, i3⟩
      · rw [if_neg hw]; exact i4
    · rw [if_pos hk]
      refine ⟨fun h => ?_, i1, i2⟩
      rw [h1 h]; rfl
theorem good_tx : ∀ f : Fo, good f → txF f
  | .nil, _ => trivial
  | .cons k t n ps r, h => ⟨fun hk => Fo.eq_nil_of_len (h.1.2.2.2.2.1 (by rw [hk]; decide)), good_tx ps h.2.1, good_tx r h.2.2⟩
theorem supG_ok (ws) : ∀ (f : Fo) (i : Nat) (ok : Bool), (supG ws f i ok).2.2 = true → ok = true
  | .nil, _, _, h => h
  | .cons k t n ps r, i, ok, h => by
    rw [supG] at h
    split at h
    · exact supG_ok ws ps i ok (supG_ok ws r _ _ h)
    · split at h
      · exact supG_ok ws r _ _ h
      · have := supG_ok ws r _ _ h; cases this
theorem cat_step {ws : List (List UInt8)} {i j : Nat} (hi : i < ws.length) (hj : i + 1 ≤ j) : ((ws.drop i).take (j - i)).flatten = ws[i] ++ ((ws.drop (i + 1)).take (j - (i + 1))).flatten := by
  rw [List.drop_eq_getElem_cons hi, show j - i = (j - (i + 1)) + 1 by omega, List.take_succ_cons, List.flatten_cons]
theorem cat_two {ws : List (List UInt8)} {i j k : Nat} (h1 : i ≤ j) (h2 : j ≤ k) : ((ws.drop i).take (k - i)).flatten = ((ws.drop i).take (j - i)).flatten ++ ((ws.drop j).take (k - j)).flatten := by
  have e : (ws.drop i).take (k - i) = (ws.drop i).take (j - i) ++ (ws.drop j).take (k - j) := by
    rw [show k - i = (j - i) + (k - j) by omega, List.take_add, List.drop_drop, show i + (j - i) = j by omega]
  rw [e, List.flatten_append]
theorem sup_sub (ws) : ∀ (f : Fo) (i : Nat) (ok : Bool), good f → (∀ x ∈ nodesF f, x.k = 1 → (95 : UInt8) ∉ x.t) → (supG ws f i ok).2.2 = true →
    i ≤ (supG ws f i ok).2.1 ∧ (patF f).length = (patF (supG ws f i ok).1).length ∧ fitL (patF f) (patF (supG ws f i ok).1) = true ∧ cutF (patF f) (patF (supG ws f i ok).1) = ((ws.drop i).take ((supG ws f i ok).2.1 - i)).flatten
  | .nil, i, ok, _, _, _ => by simp [supG, patF, nodesF, fitL, cutF]
  | .cons k t n ps r, i, ok, hg, hu, h => by
    have up : ∀ x ∈ nodesF ps, x.k = 1 → (95 : UInt8) ∉ x.t := fun x hx => hu x (by rw [nodesF]; simp [hx])
    have ur : ∀ x ∈ nodesF r, x.k = 1 → (95 : UInt8) ∉ x.t := fun x hx => hu x (by rw [nodesF]; simp [hx])
    rw [supG] at h ⊢
    by_cases hk : k = 6
    · rw [if_neg (by simp [hk])] at h ⊢
      have hn := hg.1.2.2.1 (by simp only [numsF]; rw [hk]; rfl)
      have hp : ps = .nil := Fo.eq_nil_of_len (hg.1.2.2.2.2.1 (by rw [hk]; decide))
      subst hp
      by_cases hw : wrdOk ws i n = true
      · rw [if_pos hw] at h ⊢
        obtain ⟨j1, j2, j3, j4⟩ := sup_sub ws r (i + 1) ok hg.2.2 ur h
        have hil : i < ws.length ∧ ((ws[i]?.getD []).length : Int) = n := by
          unfold wrdOk at hw
          cases hq : ws[i]? with
          | none => rw [hq] at hw; cases hw
          | some s => rw [hq] at hw; exact ⟨(List.getElem?_eq_some_iff.1 hq).1, by simpa using hw⟩
        have hws : ws[i]?.getD [] = ws[i] := by rw [List.getElem?_eq_getElem hil.1]; rfl
        rw [hws] at hil ⊢
        have e1 : patF (.cons k t n .nil r) = List.replicate ws[i].length 95 ++ patF r := by
          rw [patF_cons]
          have : n.toNat = ws[i].length := by omega
          simp [patN, hk, this, patF, nodesF]
        have e2 : patF (.cons 1 ws[i] 0 .nil (supG ws r (i + 1) ok).1) = ws[i] ++ patF (supG ws r (i + 1) ok).1 := by rw [patF_cons]; simp [patN, patF, nodesF]
        have hl : (List.replicate ws[i].length (95 : UInt8)).length = ws[i].length := List.length_replicate
        rw [e1, e2]
        refine ⟨by show i ≤ (supG ws r (i + 1) ok).2.1; omega, by rw [List.length_append, List.length_append, hl, j2], by rw [fitL_app _ _ hl, fitL_rep, j3]; rfl, ?_⟩
        rw [cutF_app _ _ hl, cutF_rep, j4]
        exact (cat_step hil.1 j1).symm
      · rw [if_neg hw] at h
        have := supG_ok ws r _ _ h; cases this
    · rw [if_pos hk] at h ⊢
      have hok := supG_ok ws r _ _ h
      obtain ⟨j1, j2, j3, j4⟩ := sup_sub ws r _ _ hg.2.2 ur h
      obtain ⟨i1, i2, i3, i4⟩ := sup_sub ws ps i ok hg.2.1 up hok
      have hx : patN ⟨k, t, n, (supG ws ps i ok).1⟩ = patN ⟨k, t, n, ps⟩ := rfl
      have hs : fitL (patN ⟨k, t, n, ps⟩) (patN ⟨k, t, n, ps⟩) = true := fitL_same _
      have hc : cutF (patN ⟨k, t, n, ps⟩) (patN ⟨k, t, n, ps⟩) = [] := by
        refine cutF_same _ ?_
        unfold patN
        rw [if_neg hk]
        by_cases h1 : k = 1
        · rw [if_pos h1]; exact hu ⟨k, t, n, ps⟩ (by rw [nodesF]; simp) h1
        · rw [if_neg h1]; simp
      rw [patF_cons, patF_cons, hx]
      refine ⟨by show i ≤ (supG ws r _ _).2.1; omega, by simp only [List.length_append]; omega, ?_, ?_⟩
      · rw [fitL_app _ _ rfl, fitL_app _ _ i2, hs, i3, j3]; rfl
      · rw [cutF_app _ _ rfl, cutF_app _ _ i2, hc, i4, j4]
        exact (cat_two i1 j1).symm
theorem lost_none : ∀ f : Fo, allK (fun k => decide (k ≠ 6)) f = true → lostF f = 0 ∧ patF f = charsF f
  | .nil, _ => ⟨rfl, rfl⟩
  | .cons k t n ps r, h => by
    rw [allK, Bool.and_eq_true, Bool.and_eq_true, decide_eq_true_eq] at h
    obtain ⟨a1, a2⟩ := lost_none ps h.2.1
    obtain ⟨b1, b2⟩ := lost_none r h.2.2
    unfold lostF at a1 b1 ⊢
    refine ⟨?_, ?_⟩
    · rw [nodesF]
      have e : lostL (⟨k, t, n, ps⟩ :: (nodesF ps ++ nodesF r)) = lostN ⟨k, t, n, ps⟩ + lostL (nodesF ps ++ nodesF r) := rfl
      rw [e, lostL_app, a1, b1]
      simp [lostN, h.1]
    · rw [patF_cons, charsF, a2, b2, List.append_assoc]
      congr 1
      simp [patN, h.1]
end Go.Proofs
