/- The contracts of the functions that the law reaches, one after the other, and at the end the law's card. -/
import Derived.Test.YtcnlbobkjeiakaaDoorLawE
namespace Go.Proofs
open Go Go.Sh Go.RowKit

theorem unL_chars : ∀ (f : Fo) (u : Bool), unL (nodesU f u) ≤ (charsF f).length
  | .nil, u => by simp [nodesU, unL, charsF]
  | .cons k t n ps r, u => by
    have h1 := unL_chars ps (u || decide (k = 7))
    have h2 := unL_chars r u
    have e : unL (nodesU (.cons k t n ps r) u) = unN (⟨k, t, n, ps⟩, u) + (unL (nodesU ps (u || decide (k = 7))) + unL (nodesU r u)) := by
      rw [nodesU, ← unL_app]; rfl
    have h3 : unN (⟨k, t, n, ps⟩, u) ≤ ((if k = 1 then t else [] : List UInt8).length : Int) := by
      unfold unN
      by_cases hk : k = 1
      · simp only [hk, if_true, true_and]; split <;> omega
      · simp [hk]
    rw [e]; simp only [charsF, List.length_append]; omega
theorem unL_true : ∀ (f : Fo), unL (nodesU f true) = (charsF f).length
  | .nil => by simp [nodesU, unL, charsF]
  | .cons k t n ps r => by
    have h1 := unL_true ps
    have h2 := unL_true r
    have e : unL (nodesU (.cons k t n ps r) true) = unN (⟨k, t, n, ps⟩, true) + (unL (nodesU ps true) + unL (nodesU r true)) := by
      rw [nodesU, ← unL_app]; rfl
    have h3 : unN (⟨k, t, n, ps⟩, true) = ((if k = 1 then t else [] : List UInt8).length : Int) := by
      unfold unN
      by_cases hk : k = 1 <;> simp [hk]
    rw [e, h1, h2, h3]; simp only [charsF, List.length_append]; omega
set_option maxRecDepth 20000 in
theorem LegibilityUnclear_spec {R : Ending → World → Prop} {S : Nat → Prop} {w : World} {a : Option Addr} {n c : Nat} (f : Fo) (hF : Forms w) (hf0 : SlF S w a n f)
    (h : ∀ w', Ext w w' → R (.returned (.bool true)) w') : Calls Tryd.prog F_law12_LegibilityUnclear ⟨[.slice a n c]⟩ w R := by
  apply c_law12_LegibilityUnclear
  have aw : ∀ {K : Ending → World → Prop} W, Ext w W → (∀ w', Ext w w' → K (.returned (.bool true)) w') → Calls Tryd.prog F_law12_awake ⟨[]⟩ W fun e w' => ∃ x : Bool, e = .returned (.bool x) ∧ K (.returned (.bool x)) w' :=
    fun W hx hK => awake12_spec (hF.ext hx) fun w10 e10 => ⟨_, rfl, hK _ (ext_trans hx e10)⟩
  refine Great_spec hf0 fun w3 e3 => ⟨_, rfl, br_cases (fun _ => aw _ e3 h) (fun hgr => ?_)⟩
  have hs := great10_small hgr
  refine Unclear_spec f hs (hF.ext e3) (hf0.ext e3) fun w9 e9 => ⟨_, _, rfl, ?_⟩
  have E9 := ext_trans e3 e9
  refine Characters_spec f hs (hF.ext E9) (hf0.ext E9) fun w13 e13 => ⟨_, _, rfl, ?_⟩
  have E13 := ext_trans E9 e13
  refine br_split (fun g => ?_) (fun g => ?_)
  · have : uncR f = 0 := by unfold uncR; rw [if_pos g]
    rw [this]
    exact aw _ E13 h
  have he0 := Decidable.not_not.1 g
  obtain ⟨hc0, _⟩ := errU_zero he0
  have hu : uncR f = unF f := by unfold uncR; rw [if_neg g]
  have h1 := unL_chars f false
  have h2 := unL_pos (nodesU f false)
  rw [hu, if_neg (by simp [hc0]), if_neg (by simp [hc0])]
  intro K19 hK19
  have k19 : K19 w13 := by
    refine hK19 _ fun _ => ?_
    refine al_intro fun b21 w22 hb21 B21 e22 s22 => ?_
    have E22 := ext_trans E13 e22
    have hn := hf0.1
    have f1 : SlF (fun _ => True) w22 (some ⟨b21, 0, none⟩) 1 (.one 7 [] 0 f) := by
      obtain ⟨_, us, g1, g2⟩ := (hf0.ext E22).imp (S' := fun _ => True) fun _ _ _ => trivial
      refine ⟨rfl, _, at_blk B21, a, c, us, [], ?_, g1, g2, rfl⟩
      rw [hn]
    unfold small at hs
    have hgs : f.size ≤ 1000000 := by
      have := (check_zero hc0).1; omega
    refine Unclear_spec (.one 7 [] 0 f) (by show f.size + 0 + 1 ≤ _; omega) (hF.ext E22) f1 fun w24 e24 => ⟨_, _, rfl, ?_⟩
    have E24 := ext_trans E22 e24
    refine br_split (fun _ => aw _ E24 h) (fun gg => ?_)
    have hv : uncR (.one 7 [] 0 f) = (charsF f).length := by
      unfold uncR; rw [if_neg gg, ← unL_true f]
      unfold unF Fo.one
      show unL ((⟨7, [], 0, f⟩, false) :: (nodesU f (false || decide ((7 : Int) = 7)) ++ nodesU .nil false)) = _
      have : (⟨(7 : Int), ([] : List UInt8), (0 : Int), f⟩, false) :: (nodesU f (false || decide ((7 : Int) = 7)) ++ nodesU .nil false) = [((⟨7, [], 0, f⟩ : Nn), false)] ++ nodesU f true := by simp [nodesU]
      rw [this, unL_app, unL_one]
      simp [unN]
    rw [hv]
    simp only [decide_true, br_t]
    exact aw _ E24 h
  refine br_split (fun hh => absurd rfl hh) (fun _ => br_split (fun hh => ?_) (fun _ => br_split (fun hh => ?_) (fun _ => k19)))
  · unfold unF at hh; omega
  · unfold unF at hh; omega

/- counting nodes of a kind -/
def cntP (kind : Int) (l : List Pl) : Int := ((l.filter fun x => decide (x.k = kind)).length : Int)
theorem cntP_snoc (kind : Int) (l : List Pl) (x : Pl) : cntP kind (l ++ [x]) = cntP kind l + if x.k = kind then 1 else 0 := by
  unfold cntP
  rw [List.filter_append]
  by_cases h : x.k = kind <;> simp [h]
def cntF (kind : Int) (f : Fo) : Nat := (ofK kind f).length
theorem cnt_places (kind : Int) : ∀ (f : Fo) (d : Nat) (b : Bool), f.depth + d ≤ 16 → cntP kind (placesF f d b) = cntF kind f
  | .nil, _, _, _ => rfl
  | .cons k t n ps r, d, b, h => by
    rw [Fo.depth_parts] at h
    have i2 := cnt_places kind r d (decide (k = 1)) (by omega)
    have i1 : cntP kind (placesF ps (d + 1) false) = cntF kind ps := by
      by_cases hp : ps.len = 0
      · rw [Fo.eq_nil_of_len hp]; rfl
      · rw [if_neg hp] at h
        exact cnt_places kind ps (d + 1) false (by omega)
    unfold cntF at i1 i2 ⊢
    rw [ofK_cons]
    simp only [placesF]
    rw [if_pos (by omega)]
    have e : ∀ (x : Pl) (l m : List Pl), cntP kind (x :: (l ++ m)) = (if x.k = kind then 1 else 0) + (cntP kind l + cntP kind m) := by
      intro x l m
      unfold cntP
      rw [List.filter_cons, List.filter_append]
      by_cases hx : x.k = kind <;> simp [hx] <;> omega
    rw [e, i1, i2]
    show (if k = kind then (1 : Int) else 0) + _ = _
    by_cases hk : k = kind
    · simp [hk]; omega
    · simp [hk]
def couE (kind : Int) (f : Fo) : Int := if checkT f ≠ 0 then 1 else if kind < 1 ∨ 11 < kind then 8 else 0
def couR (kind : Int) (f : Fo) : Int := if couE kind f ≠ 0 then 0 else cntF kind f
theorem couE_zero {kind : Int} {f : Fo} (h : couE kind f = 0) : checkT f = 0 ∧ 1 ≤ kind ∧ kind ≤ 11 := by
  unfold couE at h
  split at h
  · cases h
  · rename_i h1
    split at h
    · cases h
    · exact ⟨Decidable.not_not.1 h1, by omega, by omega⟩
set_option maxRecDepth 20000 in
theorem CountT_spec {R : Ending → World → Prop} {S : Nat → Prop} {w : World} {a : Option Addr} {n c : Nat} (kind : Int) (f : Fo) (hs : small f) (hF : Forms w) (hf0 : SlF S w a n f)
    (h : ∀ w', Ext w w' → R (.returned (.tuple ⟨[.int .i64 (couR kind f), .int .i64 (couE kind f)]⟩)) w') : Calls Tryd.prog F_transcript_Count ⟨[.slice a n c, .int .i64 kind]⟩ w R := by
  apply c_transcript_Count
  unfold couR at h
  refine al_intro fun b3 w4 hb3 B3 e4 s4 => ?_
  refine Check22_spec f hs (hf0.ext e4) (hF.ext e4) fun w6 e6 => ⟨_, rfl, br_split (fun g => ?_) (fun g => ?_)⟩
  · have he : couE kind f = 1 := by unfold couE; rw [if_pos g]
    rw [he] at h
    exact h _ (ext_trans e4 e6)
  have hc0 : checkT f = 0 := Decidable.not_not.1 g
  obtain ⟨q1, q2, q3⟩ := check_zero hc0
  have hdep : f.depth ≤ 16 := by
    unfold checkT at hc0
    split at hc0
    · rename_i hh; exact hh.2
    · cases hc0
  have hcn := cnt_places kind f 0 false (by omega)
  have E6 := ext_trans e4 e6
  have B3' := B3.ext e6
  intro K8 hK8
  have k8 : 1 ≤ kind → kind ≤ 11 → K8 0 0 w6 := by
    intro hk1 hk2
    have he : couE kind f = 0 := by unfold couE; rw [if_neg g, if_neg (by omega)]
    rw [he] at h
    refine hK8 _ _ _ fun _ => ?_
    refine al_intro fun b12 w13 hb12 B12 e13 s13 => ?_
    refine stL_one B12 rfl fun w14 B14 hc14 s14 => ?_
    have e14 : Ext w6 w14 := ext_chgS e13 hc14 fun k hk => by omega
    refine places_spec fun bs w16 Bs e16 hbs => ⟨_, _, _, rfl, fun base => ?_⟩
    have e616 := ext_trans e14 e16
    have E16 := ext_trans E6 e616
    have z16 := E16.size
    have z6 := E6.size
    have z616 := e616.size
    have ls := Bs.lt
    have l3 := B3'.lt
    have hf : SlF (fun k => S k ∧ k < w.heap.size) w a n f := hf0.imp fun k hk hl => ⟨hk, hl⟩
    rw [cd_transcript_Count_1]
    have B3'' := B3'.ext e616
    refine RFw_count anA_transcript_Count_1 anB_transcript_Count_1 (gf := F_transcript_places_1) rfl (by kernel_rfl) (xs := placesF f 0 false) (E := PlE (fun k => (S k ∧ k < w.heap.size) ∨ k = bs) w16) (Rd := fun k => (S k ∧ k < w.heap.size) ∨ k = bs)
      (fun v1 he => (places_iterO f hs bs v1 (fun k hk => by have := he.size; omega) (Bs.ext he) ((hf.ext (ext_trans E16 he)).imp fun k hk _ => .inl hk) (.inr rfl)).mono ?_) (fun y vs hE => by obtain ⟨a', c', rfl, _⟩ := hE; rfl) (by decide) (fun k hk => by omega)
      (w0 := w6) e616 (b5 := b12) (by omega) (fun hk => by omega) (cntP kind) (B14.ext e16) ?_ ?_
    · rintro x vs ⟨a', c', rfl, hsl⟩
      exact ⟨a', c', rfl, hsl.keep' fun k hk hl => ⟨hk, by omega, ((he.block k (by omega))).symm⟩⟩
    · rintro pre ⟨k1, t1, m1, ps1, d1, x1⟩ vs W l ⟨a', c', rfl, hsl⟩ hpre hl1 hl2 hl3 g1 g3 Kn Kr Kx hK
      refine Eq.mpr (er_transcript_Count_1 base _ _ _ _ _ _ _ _ _ _ _ _ _ _ _ _ _ _ _ _) ?_
      refine round_in hl2 (by simp) (by intro u hu; simp only [List.mem_cons, List.not_mem_nil, or_false] at hu; rcases hu with rfl | rfl | rfl | rfl | rfl | rfl <;> rfl) fun bx W1 W2 hbx _ hX2 hc2 s2 => ?_
      obtain ⟨x0, x1'⟩ := blk6 hX2
      have B2 := hc2.blk g1 hl3
      have E2 := ext_chgS g3 hc2 fun k hk => by omega
      have hk3 := B3'.ext E2
      have hpl : pre.length ≤ f.size := by
        have h1 := hpre.length_le
        have h2 := placesF_len f 0 false
        simp at h1; omega
      have hcp : 0 ≤ cntP kind pre ∧ cntP kind pre ≤ pre.length := by
        unfold cntP
        have := List.length_filter_le (fun x : Pl => decide (x.k = kind)) pre
        omega
      have hv := cntP_snoc kind pre ⟨k1, t1, m1, ps1, d1, x1⟩
      refine ⟨k1, x0, dr_ok ⟨kind, by rw [hk3.cell]; rfl, br_split (fun q => ?_) (fun q => ?_)⟩⟩
      · refine dr_ok ⟨_, by rw [B2.cell]; rfl, dr_ok (stL_one B2 rfl fun W3 r3 hc3 s3 => hK _ _ E2 hc3 ?_)⟩
        rw [hv, if_pos (show (⟨k1, t1, m1, ps1, d1, x1⟩ : Pl).k = kind from q)]
        rw [wrap_id (by omega)] at r3
        exact r3
      · refine hK _ _ E2 (Chg.refl _ _) ?_
        rw [hv, if_neg (show ¬ (⟨k1, t1, m1, ps1, d1, x1⟩ : Pl).k = kind from q), Int.add_zero]
        exact B2
    · intro D W hD1 hD2 hD3 hD4 g1 g3
      rw [hcn] at g1
      exact ⟨_, by rw [g1.cell]; rfl, retD_one hD4 (h _ (ext_put (ext_trans E6 g3) (by omega) _))⟩
  have bad : (kind < 1 ∨ 11 < kind) → R (.returned (.tuple ⟨[.int .i64 0, .int .i64 8]⟩)) w6 := by
    intro hh
    have he : couE kind f = 8 := by unfold couE; rw [if_neg g, if_pos hh]
    rw [he] at h
    exact h _ E6
  refine ⟨kind, by rw [B3'.cell]; rfl, br_split (fun g1 => bad (.inl g1)) (fun g1 => ⟨kind, by rw [B3'.cell]; rfl, br_split (fun g2 => bad (.inr g2)) (fun g2 => k8 (by omega) (by omega))⟩)⟩
end Go.Proofs
namespace Go.Proofs
open Go Go.Sh Go.RowKit

/- a piece of a list of nodes -/
theorem SlF.one {S : Nat → Prop} {w : World} {a : Option Addr} {n : Nat} {f pre r : Fo} {k t m ps} (h : SlF S w a n f) (hf : f = pre.app (.cons k t m ps r)) {c : Nat} (hc : n ≤ c) {K : Option Addr → Nat → Nat → Prop}
    (hk : ∀ a' c', SlF S w a' 1 (.one k t m ps) → K a' 1 c') : sls a c (pre.len : Int) ((pre.len + 1 : Nat) : Int) 4 K := by
  have hn := h.1
  have hl := Fo.sub_len hf
  refine ⟨by omega, by omega, by omega, ?_⟩
  rw [Int.toNat_natCast, Int.toNat_natCast, show pre.len + 1 - pre.len = 1 by omega]
  refine hk _ _ ?_
  obtain ⟨_, us, h2, h3⟩ := h
  rw [hf] at h3
  obtain ⟨xs, ys, rfl, g1, a', c', zs, vs', rfl, g2, g3, g4⟩ := h3.split
  have hxl := g1.len
  rcases h2 with h2 | ⟨b, o, rfl, hb, hbl, hcell⟩
  · simp at h2
  refine ⟨rfl, [.int .i64 k, .string ⟨⟨t⟩⟩, .int .i64 m, .slice a' ps.len c'], ?_, a', c', zs, [], rfl, g2, g3, rfl⟩
  have hsl : slA (some ⟨b, o, none⟩) c pre.len 4 = some ⟨b, o + pre.len * 4, none⟩ := by
    unfold slA
    rw [if_neg (by omega)]
    simp only [Option.map_some, add_none]
  rw [hsl]
  refine .inr ⟨b, o + pre.len * 4, rfl, hb, hbl, fun j v hj => ?_⟩
  have hj4 : j < 4 := by have := (List.getElem?_eq_some_iff.1 hj).1; simpa using this
  rw [Nat.add_assoc]
  refine hcell _ _ ?_
  rw [List.getElem?_append_right (by omega), show pre.len * 4 + j - xs.length = j by omega]
  rcases (by omega : j = 0 ∨ j = 1 ∨ j = 2 ∨ j = 3) with rfl | rfl | rfl | rfl <;> simpa using hj

/- a piece of a right list is right -/
theorem mgd_parts : ∀ {pre r : Fo} {k t m ps} {b : Bool}, mgd b (pre.app (.cons k t m ps r)) → mgd false ps
  | .nil, r, k, t, m, ps, b, h => h.2.1
  | .cons _ _ _ _ p, r, k, t, m, ps, b, h => mgd_parts (pre := p) h.2.2
theorem check_one {f pre r : Fo} {k t m ps} (hf : f = pre.app (.cons k t m ps r)) (h : checkT f = 0) : checkT (.one k t m ps) = 0 := by
  have e1 : f = (pre.app (.one k t m ps)).app r := by rw [Fo.app_one_app]; exact hf
  unfold checkT at h ⊢
  split at h
  case isFalse => cases h
  rename_i hd
  split at h
  · rename_i hh; exact absurd h hh
  rename_i hz
  split at h
  · cases h
  rename_i hl
  have hz' := Decidable.not_not.1 hz
  obtain ⟨o1, o2⟩ := (all_split f false false).1 hz'
  have hs1 : (Fo.one k t m ps).size ≤ f.size := by rw [e1, Fo.size_app, Fo.size_app]; omega
  have hd1 : (Fo.one k t m ps).depth ≤ f.depth := by rw [e1, depth_app, depth_app]; omega
  rw [if_pos ⟨by omega, by omega⟩]
  have ok1 : okF false (.one k t m ps) := by
    rw [e1, okF_app, okF_app] at o1
    exact o1.1.2
  have mg1 : mgd false (.one k t m ps) := by
    rw [hf] at o2
    exact ⟨by simp, mgd_parts o2, trivial⟩
  rw [if_neg (by simpa using (all_split _ false false).2 ⟨ok1, mg1⟩), if_neg]
  have : (printF (.one k t m ps)).length ≤ (printF f).length := by rw [e1, printF_app, printF_app]; simp only [List.length_append]; omega
  omega
theorem err_one {f pre r : Fo} {k t m ps} (hf : f = pre.app (.cons k t m ps r)) (h : errU f = 0) : errU (.one k t m ps) = 0 := by
  obtain ⟨h1, h2⟩ := errU_zero h
  have e1 : f = (pre.app (.one k t m ps)).app r := by rw [Fo.app_one_app]; exact hf
  rw [e1, cleanF_app, cleanF_app] at h2
  simp only [Bool.and_eq_true] at h2
  unfold errU
  rw [if_neg (by simp [check_one hf h1]), if_pos h2.1.2]
theorem no_abbr : ∀ (f : Fo), good f → cntF 10 f = 0 → patF f = writF f
  | .nil, _, _ => rfl
  | .cons k t n ps r, hg, h => by
    unfold cntF at h
    rw [ofK_cons] at h
    simp only [List.length_append] at h
    have h10 : k ≠ 10 := fun e => by rw [if_pos e] at h; simp at h
    have i1 := no_abbr ps hg.2.1 (by unfold cntF; omega)
    have i2 := no_abbr r hg.2.2 (by unfold cntF; omega)
    rw [patF_cons, writF, i1, i2, ← List.append_assoc]
    congr 1
    unfold patN writN
    by_cases h1 : k = 1
    · rw [no_parts hg.1 (.inl h1)]; simp [h1, writF]
    · by_cases h6 : k = 6
      · rw [no_parts hg.1 (.inr h6)]; simp [h6, writF]
      · rw [if_neg h1, if_neg h6, if_neg (by omega), if_neg h6] <;> rfl
theorem pref_app (x y : List UInt8) : Lib.hasPrefix (x ++ y) x = true := by
  unfold Lib.hasPrefix
  rw [List.isPrefixOf_iff_prefix]
  exact List.prefix_append x y

set_option maxRecDepth 20000 in
theorem LegibilityWriting_spec {R : Ending → World → Prop} {S : Nat → Prop} {w : World} {a : Option Addr} {n c : Nat} (f : Fo) (hcap : n ≤ c) (hF : Forms w) (hf0 : SlF S w a n f)
    (h : ∀ w', Ext w w' → R (.returned (.bool true)) w') : Calls Tryd.prog F_law12_LegibilityWriting ⟨[.slice a n c]⟩ w R := by
  apply c_law12_LegibilityWriting
  have aw : ∀ {K : Ending → World → Prop} W, Ext w W → (∀ w', Ext w w' → K (.returned (.bool true)) w') → Calls Tryd.prog F_law12_awake ⟨[]⟩ W fun e w' => ∃ x : Bool, e = .returned (.bool x) ∧ K (.returned (.bool x)) w' :=
    fun W hx hK => awake12_spec (hF.ext hx) fun w10 e10 => ⟨_, rfl, hK _ (ext_trans hx e10)⟩
  refine Great_spec hf0 fun w3 e3 => ⟨_, rfl, br_cases (fun _ => aw _ e3 h) (fun hgr => ?_)⟩
  have hs := great10_small hgr
  refine Pattern_spec f hs (hF.ext e3) (hf0.ext e3) fun w9 e9 => ⟨_, _, rfl, ?_⟩
  have E9 := ext_trans e3 e9
  refine Written_spec f hs (hF.ext E9) (hf0.ext E9) fun w13 e13 => ⟨_, _, rfl, ?_⟩
  have E13 := ext_trans E9 e13
  intro K16 hK16
  refine br_split (fun _ => aw _ E13 h) (fun gp => br_split (fun _ => aw _ E13 h) (fun gw => ?_))
  have hp0 := Decidable.not_not.1 gp
  have hw0 := Decidable.not_not.1 gw
  obtain ⟨hc0, _, hpl, hpS⟩ := patE_zero hp0
  obtain ⟨he0, hwl, hwS⟩ := wriE_zero hw0
  obtain ⟨q1, q2, q3⟩ := check_zero hc0
  rw [hpS, hwS] at hK16
  refine hK16 _ fun _ => ?_
  refine CountT_spec 10 f hs (hF.ext E13) (hf0.ext E13) fun w19 e19 => ⟨_, _, rfl, ?_⟩
  have E19 := ext_trans E13 e19
  have hce : couE 10 f = 0 := by unfold couE; rw [if_neg (by simp [hc0]), if_neg (by omega)]
  have hcr : couR 10 f = cntF 10 f := by unfold couR; rw [if_neg (by simp [hce])]
  rw [hce, hcr]
  intro K22 hK22
  have hn := hf0.1
  have hfl := f.len_le_size
  have k22 : K22 w19 := by
    refine hK22 _ fun _ => ?_
    refine ⟨fun p s i W m => ∃ (pr r : Fo), f = pr.app r ∧ i = pr.len ∧ m = r.len ∧ p = patF r ∧ s = writF r ∧ Ext w W, ⟨_, .nil, f, rfl, rfl, rfl, rfl, rfl, E19⟩, ?_⟩
    rintro _ _ _ W m ⟨pr, r, hpr, rfl, rfl, rfl, rfl, he⟩ _
    refine br_split (fun hlt => ?_) (fun hge => ?_)
    · obtain ⟨k, t, mm, ps, r, rfl⟩ := Fo.next hpr (by omega)
      have hsl := Fo.sub_len hpr
      have hsz := Fo.sub_size hpr
      have e1 : f = (pr.app (.one k t mm ps)).app r := by rw [Fo.app_one_app]; exact hpr
      have hs1 : small (.one k t mm ps) := by
        have : (Fo.one k t mm ps).size ≤ f.size := by have hh := Fo.size_app (pr.app (.one k t mm ps)) r; rw [← e1, Fo.size_app] at hh; omega
        unfold small; omega
      have i1 : IntKind.i64.wrap ((pr.len : Int) + 1) = ((pr.len + 1 : Nat) : Int) := wrap_nat (by omega)
      have hpc : patF (.cons k t mm ps r) = patF (.one k t mm ps) ++ patF r := by
        have : Fo.cons k t mm ps r = (Fo.one k t mm ps).app r := rfl
        rw [this, patF_app]
      have hwc : writF (.cons k t mm ps r) = writF (.one k t mm ps) ++ writF r := by
        have : Fo.cons k t mm ps r = (Fo.one k t mm ps).app r := rfl
        rw [this, writF_app]
      have hg1 : good (.one k t mm ps) := by
        have := q2; rw [e1, good_app, good_app] at this; exact this.1.2
      have he1 := err_one hpr he0
      have hck1 := check_one hpr hc0
      have hpl1 : (patF (.one k t mm ps)).length ≤ (patF f).length := by rw [e1, patF_app, patF_app]; simp only [List.length_append]; omega
      have hwl1 : (writF (.one k t mm ps)).length ≤ (writF f).length := by rw [e1, writF_app, writF_app]; simp only [List.length_append]; omega
      have p1 : patE (.one k t mm ps) = 0 := by unfold patE; rw [if_neg (by simp [he1]), if_neg (by omega)]
      have p2 : patS (.one k t mm ps) = patF (.one k t mm ps) := by unfold patS; rw [if_neg (by simp [p1])]
      have p3 : wriE (.one k t mm ps) = 0 := by unfold wriE; rw [if_neg (by simp [he1]), if_neg (by omega)]
      have p4 : wriS (.one k t mm ps) = writF (.one k t mm ps) := by unfold wriS; rw [if_neg (by simp [p3])]
      have p5 : couE 10 (.one k t mm ps) = 0 := by unfold couE; rw [if_neg (by simp [hck1]), if_neg (by omega)]
      have p6 : couR 10 (.one k t mm ps) = cntF 10 (.one k t mm ps) := by unfold couR; rw [if_neg (by simp [p5])]
      rw [i1]
      refine SlF.one (hf0.ext he) hpr hcap fun a1 c1 hsl1 => ?_
      refine Pattern_spec (.one k t mm ps) hs1 (hF.ext he) hsl1 fun w33 e33 => ⟨_, _, rfl, ?_⟩
      have E33 := ext_trans he e33
      refine SlF.one (hf0.ext E33) hpr hcap fun a2 c2 hsl2 => ?_
      refine Written_spec (.one k t mm ps) hs1 (hF.ext E33) hsl2 fun w38 e38 => ⟨_, _, rfl, ?_⟩
      have E38 := ext_trans E33 e38
      refine SlF.one (hf0.ext E38) hpr hcap fun a3 c3 hsl3 => ?_
      refine CountT_spec 10 (.one k t mm ps) hs1 (hF.ext E38) hsl3 fun w43 e43 => ⟨_, _, rfl, ?_⟩
      have E43 := ext_trans E38 e43
      rw [p1, p2, p3, p4, p5, p6]
      intro K46 hK46
      have k46 : K46 w43 := by
        refine hK46 _ fun _ => ?_
        unfold drw
        have ed := ext_trans E43 (ext_drew w43)
        rw [hpc, hwc]
        refine ssl_nat (by simp) (by simp) (ssl_nat (by simp) (by simp) ?_)
        refine ⟨r.len, by simp, pr.app (.one k t mm ps), r, e1, by simp [Fo.one], rfl, by rw [List.take_length, List.drop_left], by rw [List.take_length, List.drop_left], ed⟩
      refine br_split (fun hh => absurd rfl hh) (fun _ => ?_)
      have pre2 : Calls Tryd.prog F_strings_HasPrefix ⟨[.string ⟨⟨patF (.cons k t mm ps r)⟩⟩, .string ⟨⟨patF (.one k t mm ps)⟩⟩]⟩ w43 fun e w' => ∃ x : Bool, e = .returned (.bool x) ∧ br (!x) (R (.returned (.bool false)) w')
          (Calls Tryd.prog F_strings_HasPrefix ⟨[.string ⟨⟨writF (.cons k t mm ps r)⟩⟩, .string ⟨⟨writF (.one k t mm ps)⟩⟩]⟩ w' fun e w'' => ∃ x : Bool, e = .returned (.bool x) ∧ br (!x) (R (.returned (.bool false)) w'') (K46 w'')) := by
        refine (Tryd.strings_HasPrefix ⟨⟨patF (.cons k t mm ps r)⟩⟩ ⟨⟨patF (.one k t mm ps)⟩⟩ w43).mono ?_
        rintro e w' ⟨rfl, rfl⟩
        have h1 : Lib.hasPrefix (patF (.cons k t mm ps r)) (patF (.one k t mm ps)) = true := by rw [hpc]; exact pref_app _ _
        refine ⟨true, by simp only [List.toList_toArray]; rw [h1], ?_⟩
        refine (Tryd.strings_HasPrefix ⟨⟨writF (.cons k t mm ps r)⟩⟩ ⟨⟨writF (.one k t mm ps)⟩⟩ w').mono ?_
        rintro e w'' ⟨rfl, rfl⟩
        have h2 : Lib.hasPrefix (writF (.cons k t mm ps r)) (writF (.one k t mm ps)) = true := by rw [hwc]; exact pref_app _ _
        exact ⟨true, by simp only [List.toList_toArray]; rw [h2], k46⟩
      refine br_split (fun g0 => ?_) (fun _ => pre2)
      have hz : cntF 10 (.one k t mm ps) = 0 := by omega
      have := no_abbr _ hg1 hz
      exact br_split (fun hh => absurd this hh) (fun _ => pre2)
    · obtain ⟨rfl, rfl⟩ := Fo.last hpr (by omega)
      have e1 : patF .nil = [] := rfl
      have e2 : writF .nil = [] := rfl
      rw [e1, e2]
      simp only [decide_true, br_t]
      exact aw _ he h
  refine br_split (fun hh => absurd rfl hh) (fun _ => br_split (fun g0 => ?_) (fun _ => k22))
  have hz : cntF 10 f = 0 := by omega
  have := no_abbr f q2 hz
  exact br_split (fun hh => absurd this hh) (fun _ => k22)
end Go.Proofs
