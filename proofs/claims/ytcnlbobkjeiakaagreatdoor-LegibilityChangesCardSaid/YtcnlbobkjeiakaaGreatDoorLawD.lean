/- The contracts of the functions that the law reaches, one after the other, and at the end the law's card. -/
import Derived.Test.YtcnlbobkjeiakaaGreatDoorLawC
import Derived.Lib.AppendZerosOnto
namespace Go.Proofs
open Go Go.Sh Go.RowKit

theorem places_walkO {yf : Fn} {ya yb : Array Value} {T : Nat → Prop} {J : List Pl → (Nat → Prop) → World → Prop} {Jx : (Nat → Prop) → World → Prop} {w0 : World} {xs : List Pl} {ty tw : Nat}
    (hTl : ∀ k, T k → k < w0.heap.size)
    (hJ : ∀ pre S W W', J pre S W → Chg (fun k => w0.heap.size ≤ k ∧ ¬ S k) W W' → J pre S W')
    (hbody : ∀ pre x vs S W, PlE T w0 x vs → pre ++ [x] <+: xs → w0.heap.size ≤ W.heap.size → (∀ k, S k → k < W.heap.size ∧ ¬ T k) → J pre S W → CallV Tryz.prog (.func yf ya yb) vs W fun e W' => Chg S W W' ∧
      ∃ S' : Nat → Prop, (∀ k, S' k → (S k ∨ W.heap.size ≤ k) ∧ k < W'.heap.size) ∧ ((e = .returned (.bool true) ∧ J (pre ++ [x]) S' W') ∨ (e = .returned (.bool false) ∧ Jx S' W'))) :
    ∀ (f : Fo) {R : Ending → World → Prop} {S : Nat → Prop} {w : World} {a : Option Addr} {n c : Nat} (d : Nat) (pre : List Pl), small f → d ≤ 17 → SlF T w0 a n f → w0.heap.size ≤ w.heap.size → (∀ k, T k → w.heap[k]? = w0.heap[k]?) → (∀ k, S k → k < w.heap.size ∧ ¬ T k) →
      Blk w ty [.func yf ya yb] 104 → Blk w tw [.func (.func 72) ⟨[]⟩ ⟨[.pointer (some ⟨ty, 0, none⟩), .pointer (some ⟨tw, 0, none⟩)]⟩] 43 → ¬ S ty → ¬ S tw →
      pre ++ placesF f d false <+: xs → J pre S w → (∀ S' W', Chg S w W' → (∀ k, S' k → (S k ∨ w.heap.size ≤ k) ∧ k < W'.heap.size) → J (pre ++ placesF f d false) S' W' → R (.returned (.bool true)) W') →
      (∀ S' W', Chg S w W' → (∀ k, S' k → (S k ∨ w.heap.size ≤ k) ∧ k < W'.heap.size) → Jx S' W' → R (.returned (.bool false)) W') →
      Calls Tryz.prog F_transcript_places_1_1 ⟨[.slice a n c, .int .i64 (d : Int), .pointer (some ⟨ty, 0, none⟩), .pointer (some ⟨tw, 0, none⟩)]⟩ w R := by
  intro f
  induction hz : f.size using Nat.strongRecOn generalizing f with
  | _ z ih =>
  intro R S w a n c d pre hs hd hf hw0 hT hS hBy hBw nSy nSw hpre hj hend hstop
  unfold small at hs
  apply c_transcript_places_1_1
  have hn := hf.1
  have hfl := f.len_le_size
  have lty := hBy.lt
  have ltw := hBw.lt
  refine ⟨fun tx i W m => ∃ (p r : Fo) (ps : List Pl) (S1 : Nat → Prop), f = p.app r ∧ i = p.len ∧ m = r.len ∧ Chg S w W ∧ (∀ k, S1 k → (S k ∨ w.heap.size ≤ k) ∧ k < W.heap.size) ∧ J ps S1 W ∧ pre ++ placesF f d false = ps ++ placesF r d tx,
    ⟨_, .nil, f, pre, S, rfl, rfl, rfl, Chg.refl _ _, fun k hk => ⟨.inl hk, (hS k hk).1⟩, hj, rfl⟩, ?_⟩
  rintro b _ W m ⟨p, r, xs', S1, hpr, rfl, rfl, hcW, hS1, hjW, heq⟩ _
  have hwW := hcW.size
  refine br_split (fun hlt => ?_) (fun hge => ?_)
  · obtain ⟨k, t, mm, ps, r, rfl⟩ := Fo.next hpr (by omega)
    have hsl := Fo.sub_len hpr
    have hsz := Fo.sub_size hpr
    have e1 : f = (p.app (.one k t mm ps)).app r := by rw [Fo.app_one_app]; exact hpr
    have i1 : IntKind.i64.wrap ((p.len : Int) + 1) = ((p.app (.one k t mm ps)).len : Int) := by rw [wrap_nat (by omega)]; simp [Fo.one]
    have hTW : ∀ k, T k → W.heap[k]? = w0.heap[k]? := fun k hk => (hcW.block k (by have := hTl k hk; omega) (fun h => (hS k h).2 hk)).trans (hT k hk)
    obtain ⟨q, a', c', hq, hTq, hql, hN⟩ := (hf.keep (S' := T) (w' := W) (fun k hk _ => ⟨hk, hTW k hk⟩) (by omega)).get hpr
    have hNT : SlF T w0 a' ps.len ps := hN.sl.keep' fun k hk _ => ⟨hk, hTl k hk, (hTW k hk).symm⟩
    refine hq _ ⟨k, hN.kind, t, hN.text, mm, hN.num, a', ps.len, c', hN.parts, ?_⟩
    refine al_stL (by simp) (by intro u hu; simp only [List.mem_cons, List.not_mem_nil, or_false] at hu; rcases hu with rfl | rfl | rfl | rfl <;> rfl) fun bx w1 hbx hBx e2 s2 => ?_
    have z2 := e2.size
    obtain ⟨x0, x1, x2, x3⟩ := blk4 hBx
    have hBy1 := (hcW.blk hBy nSy).ext e2
    have hBw1 := (hcW.blk hBw nSw).ext e2
    have n1y : ¬ S1 ty := fun h => (hS1 _ h).1.elim nSy (by omega)
    have n1w : ¬ S1 tw := fun h => (hS1 _ h).1.elim nSw (by omega)
    have n1x : ¬ S1 bx := fun h => by have := (hS1 _ h).2; omega
    refine dr_ok ⟨_, _, _, by rw [hBy1.cell]; rfl, k, x0, t, x1, mm, x2, a', ps.len, c', x3, ?_⟩
    have hj1 : J xs' S1 w1 := hJ _ _ _ _ hjW (Chg.of_ext e2)
    rw [placesF] at heq
    have hpx : xs' ++ [⟨k, t, mm, ps, d, b⟩] <+: xs := by
      refine List.IsPrefix.trans ?_ hpre
      rw [heq]
      exact ⟨_, by rw [List.append_assoc]; rfl⟩
    have hS1T : ∀ k, S1 k → k < w1.heap.size ∧ ¬ T k := fun j hj => ⟨by have := (hS1 j hj).2; omega, fun ht => (hS1 j hj).1.elim (fun h => (hS j h).2 ht) (fun h => by have := hTl j ht; omega)⟩
    refine CallV_mono (hbody xs' ⟨k, t, mm, ps, d, b⟩ _ S1 w1 ⟨a', c', rfl, hNT⟩ hpx (by omega) hS1T hj1) ?_
    rintro e w2 ⟨hc2, S2, hS2, hres⟩
    have z3 := hc2.size
    have hcw2 : Chg S w w2 := chg_then (hcW.trans (Chg.of_ext e2)) hc2 fun i hi hh => (hS1 i hh).1.elim id fun h => by omega
    have hS2w : ∀ k, S2 k → (S k ∨ w.heap.size ≤ k) ∧ k < w2.heap.size := fun j hj => ⟨(hS2 j hj).1.elim (fun h => (hS1 j h).1) (fun h => .inr (by omega)), (hS2 j hj).2⟩
    rcases hres with ⟨rfl, hj2⟩ | ⟨rfl, hjx⟩
    · refine ⟨true, rfl, ?_⟩
      have hBx2 := hc2.blk hBx n1x
      obtain ⟨y0, y1, y2, y3⟩ := blk4 hBx2
      have hBw2 := hc2.blk hBw1 n1w
      have hBy2 := hc2.blk hBy1 n1y
      have n2x : ¬ S2 bx := fun h => (hS2 _ h).1.elim n1x (by omega)
      refine br_split (fun hd16 => ?_) (fun hd16 => ?_)
      · have hd16' : d ≤ 16 := by omega
        rw [if_pos hd16'] at heq
        refine dr_ok ⟨.func 72, ⟨[]⟩, ⟨[.pointer (some ⟨ty, 0, none⟩), .pointer (some ⟨tw, 0, none⟩)]⟩, by rw [hBw2.cell]; rfl, a', ps.len, c', y3, by kernel_rfl, ?_⟩
        rw [wrap_nat (by omega)]
        refine ih _ (hz ▸ hsz) ps rfl (S := S2) (d + 1) (xs' ++ [⟨k, t, mm, ps, d, b⟩]) (by unfold small; omega) (by omega) hNT (by omega) (fun j hj => (hcw2.block j (by have := hTl j hj; omega) (fun h => (hS j h).2 hj)).trans (hT j hj))
          (fun j hj => ⟨(hS2 j hj).2, fun ht => (hS2 j hj).1.elim (fun h => (hS1T j h).2 ht) (fun h => by have := hTl j ht; omega)⟩) hBy2 hBw2 (fun h => (hS2 _ h).1.elim n1y (by omega)) (fun h => (hS2 _ h).1.elim n1w (by omega)) ?_ hj2 (fun S3 w3 hc3 hS3 hj3 => ?_) (fun S3 w3 hc3 hS3 hjx => ?_)
        · refine List.IsPrefix.trans ?_ hpre
          rw [heq]
          exact ⟨placesF r d (decide (k = 1)), by simp⟩
        · refine ⟨true, rfl, ?_⟩
          have hBx3 := hc3.blk hBx2 n2x
          refine ⟨k, (blk4 hBx3).1, r.len, by simp, _, r, _, S3, e1, i1, rfl, chg_then hcw2 hc3 fun i hi hh => (hS2w i hh).1.elim id fun h => by omega, fun j hj => ⟨(hS3 j hj).1.elim (fun h => (hS2w j h).1) (fun h => .inr (by omega)), (hS3 j hj).2⟩, hj3, ?_⟩
          rw [heq]; simp
        · exact ⟨false, rfl, hstop S3 _ (chg_then hcw2 hc3 fun i hi hh => (hS2w i hh).1.elim id fun h => by omega) (fun j hj => ⟨(hS3 j hj).1.elim (fun h => (hS2w j h).1) (fun h => .inr (by omega)), (hS3 j hj).2⟩) hjx⟩
      · rw [if_neg (by omega)] at heq
        refine ⟨k, y0, r.len, by simp, _, r, _, S2, e1, i1, rfl, hcw2, hS2w, hj2, ?_⟩
        rw [heq]; simp
    · exact ⟨false, rfl, hstop S2 _ hcw2 hS2w hjx⟩
  · obtain ⟨rfl, rfl⟩ := Fo.last hpr (by omega)
    have e : xs' = pre ++ placesF p d false := by rw [heq]; simp [placesF]
    rw [e] at hjW
    exact hend S1 _ hcW hS1 hjW

theorem places_iterO {T : Nat → Prop} (f : Fo) (hs : small f) {a : Option Addr} {n c : Nat} (b : Nat) (w : World) (hTl : ∀ k, T k → k < w.heap.size) (hb : Blk w b [.slice a n c] 22) (hf : SlF T w a n f) (hbT : T b) :
    IterO Tryz.prog F_transcript_places_1 [.pointer (some ⟨b, 0, none⟩)] (placesF f 0 false) (PlE T w) T w := by
  intro yf ya yb S0 J Jx R hS hJ hJx hbody h0 hend hstop
  apply c_transcript_places_1
  refine al_intro fun ty w1 hty hBy e1 s1 => ?_
  refine al_intro fun tw w1' htw hBw' e2' s2' => ?_
  refine stL_one hBw' rfl fun w2 hBw hcc hss => ?_
  have e2 : Ext w1 w2 := ext_chgS e2' hcc fun k hk => by omega
  have E := ext_trans e1 e2
  refine ⟨.func 72, ⟨[]⟩, ⟨[.pointer (some ⟨ty, 0, none⟩), .pointer (some ⟨tw, 0, none⟩)]⟩, by rw [hBw.cell]; rfl, dr_ok ⟨a, n, c, by rw [((hb.ext e1).ext e2).cell]; rfl, by kernel_rfl, ?_⟩⟩
  have hz := E.size
  have hz1 := e1.size
  refine places_walkO (w0 := w) (xs := placesF f 0 false) hTl hJ hbody f (S := S0) 0 [] hs (by omega) hf hz (fun k hk => E.block k (hTl k hk)) (fun k hk => ⟨by have := (hS k hk).1; omega, (hS k hk).2⟩) (hBy.ext e2) hBw (fun h => by have := (hS _ h).1; omega) (fun h => by have := (hS _ h).1; omega) (List.prefix_refl _)
    (hJ _ _ _ _ h0 (Chg.of_ext E)) (fun S' W' hc hS' hj => ?_) (fun S' W' hc hS' hjx => ?_)
  · exact ⟨_, rfl, hend S' _ (Nat.le_trans hz hc.size) hj⟩
  · exact ⟨_, rfl, hstop S' _ (Nat.le_trans hz hc.size) hjx⟩

/- the characters -/
def charsP (l : List Pl) : List UInt8 := l.flatMap fun x => if x.k = 1 then x.t else []
def charsF : Fo → List UInt8
  | .nil => []
  | .cons k t _ ps r => (if k = 1 then t else []) ++ charsF ps ++ charsF r
theorem charsF_tlen : ∀ f : Fo, (charsF f).length ≤ tlen f
  | .nil => Nat.le_refl _
  | .cons k t n ps r => by
    have h1 := charsF_tlen ps
    have h2 := charsF_tlen r
    simp only [charsF, List.length_append, tlen]
    split <;> simp <;> omega
theorem charsP_snoc (l : List Pl) (x : Pl) : charsP (l ++ [x]) = charsP l ++ if x.k = 1 then x.t else [] := by simp [charsP]
theorem chars_places : ∀ (f : Fo) (d : Nat) (b : Bool), f.depth + d ≤ 16 → charsP (placesF f d b) = charsF f
  | .nil, _, _, _ => rfl
  | .cons k t n ps r, d, b, h => by
    rw [Fo.depth_parts] at h
    have i2 := chars_places r d (decide (k = 1)) (by omega)
    simp only [placesF, charsF]
    rw [if_pos (by omega)]
    unfold charsP at i2 ⊢
    simp only [List.flatMap_cons, List.flatMap_append, i2, List.append_assoc]
    congr 2
    by_cases hp : ps.len = 0
    · have e' := Fo.eq_nil_of_len hp
      subst e'
      rfl
    · rw [if_neg hp] at h
      exact chars_places ps (d + 1) false (by omega)
theorem blk6 {w : World} {b : Nat} {v0 v1 v2 v3 v4 v5 : Value} {T : TypeId} (h : Blk w b [v0, v1, v2, v3, v4, v5] T) :
    w.cell? ((⟨b, 0, none⟩ : Addr).add 0 |>.add 0) = some v0 ∧ w.cell? ((⟨b, 0, none⟩ : Addr).add 0 |>.add 1) = some v1 := by
  simp only [add_none, h.cell]; exact ⟨rfl, rfl⟩
theorem charsP_prefix {pre : List Pl} {x : Pl} {l : List Pl} (h : pre ++ [x] <+: l) : (charsP pre).length + (if x.k = 1 then x.t else []).length ≤ (charsP l).length := by
  obtain ⟨t, rfl⟩ := h
  simp only [charsP, List.flatMap_append, List.length_append, List.flatMap_cons, List.flatMap_nil, List.append_nil]
  omega

theorem String_spec' {R : Ending → World → Prop} {w : World} {b : Nat} {a : Option Addr} {l : List UInt8} (h : BldAt w b a l) (hk : ∀ w', Below b w w' → Lib.OthersKept 5 (some b) w w' → R (.returned (.string ⟨⟨l⟩⟩)) w') : Calls Tryz.prog F_strings_Builder_String ⟨[.pointer (some ⟨b, 0, none⟩)]⟩ w R := by
  refine (Tryz.Builder_String_any_k b b l w (Lib.IsBuilderF.of h.isB) (by have := h.lt; omega)).mono ?_
  rintro e w' ⟨rfl, _, hb, ho⟩
  exact hk w' hb ho
end Go.Proofs
namespace Go.Proofs
open Go Go.Sh Go.RowKit

/- leaving out bytes -/
def remainF : List UInt8 → List UInt8 → List UInt8
  | s, [] => s
  | s, c :: t => match s with
    | [] => []
    | x :: s' => if c = x then remainF s' t else remainF (x :: s') t
theorem remain_sub : ∀ {t s : List UInt8}, List.Sublist s t → remainF s t = []
  | [], s, h => by simpa [remainF] using h
  | c :: t, [], _ => rfl
  | c :: t, x :: s, h => by
    simp only [remainF]
    split
    · rename_i e; subst e; exact remain_sub (List.cons_sublist_cons.1 h)
    · rename_i e
      cases h with
      | cons _ h => exact remain_sub h
      | cons_cons _ h => exact absurd rfl e
theorem remain_nil : ∀ t : List UInt8, remainF [] t = []
  | [] => rfl
  | _ :: _ => rfl
def outsideF : Fo → List UInt8
  | .nil => []
  | .cons k t _ ps r => (if k = 1 then t else if k = 8 ∨ k = 9 then [] else outsideF ps) ++ outsideF r
theorem outsideF_app : ∀ f g : Fo, outsideF (f.app g) = outsideF f ++ outsideF g
  | .nil, g => rfl
  | .cons k t n ps r, g => by simp only [Fo.cons_app, outsideF, outsideF_app r, List.append_assoc]
theorem outside_tlen : ∀ f : Fo, (outsideF f).length ≤ tlen f
  | .nil => Nat.le_refl _
  | .cons k t n ps r => by
    have h1 := outside_tlen ps
    have h2 := outside_tlen r
    simp only [outsideF, List.length_append, tlen]
    split
    · omega
    · split
      · simp; omega
      · omega
theorem sadd_ok {a b : List UInt8} {K : List UInt8 → Prop} (h : a.length + b.length ≤ 9223372036854775807) (hK : K (a ++ b)) : sadd a b K := ⟨h, hK⟩

/- the plain law -/
theorem charsF_app : ∀ f g : Fo, charsF (f.app g) = charsF f ++ charsF g
  | .nil, g => rfl
  | .cons k t n ps r, g => by simp only [Fo.cons_app, charsF, charsF_app r, List.append_assoc]
theorem chars_consM {k t n ps r} (h : k = 1 → ps = .nil) (hr : ∀ k' t' n' ps' r', r = .cons k' t' n' ps' r' → k' = 1 → ps' = .nil) : charsF (consM k t n ps r) = (if k = 1 then t else []) ++ charsF ps ++ charsF r := by
  unfold consM
  split
  · rename_i hk
    have hps := h hk
    subst hk hps
    split
    · rename_i ht; subst ht; simp [charsF]
    · cases r with
      | nil => rfl
      | cons k' t' n' ps' r' =>
        simp only
        split
        · rename_i hk'
          have := hr _ _ _ _ _ rfl hk'
          subst hk' this
          simp [charsF]
        · simp [charsF]
  · rename_i hk
    simp [charsF, hk]
theorem chars_merge : ∀ {w : Bool} {f : Fo}, okF w f → tlen f ≤ 65536 → charsF (mergeR f) = charsF f
  | _, .nil, _, _ => rfl
  | w, .cons k t n ps r, h, hl => by
    simp only [tlen] at hl
    have m3 := merge_ok h.2.2 (by omega)
    simp only [mergeR]
    rw [chars_consM, chars_merge h.2.2 (by omega), chars_merge h.2.1 (by omega), charsF]
    · intro hk; rw [textnil h hk]; rfl
    · intro k' t' n' ps' r' e hk'; rw [e] at m3; exact textnil m3 hk'
theorem chars_breaks : ∀ {f : Fo}, good f → charsF (breaksF f) = []
  | .nil, _ => rfl
  | .cons k t n ps r, ⟨h1, h2, h3⟩ => by
    simp only [breaksF, charsF_app, chars_breaks h3, List.append_nil]
    split
    · rename_i hb
      have hk : k = 2 ∨ k = 3 ∨ k = 4 := by simpa [brkF] using hb
      have := Fo.eq_nil_of_len (h1.2.2.2.2.1 (by unfold partsF; simp; omega))
      subst this
      simp [Fo.one, charsF]; omega
    · exact chars_breaks h2
theorem chars_part {k t n ps} (h : k ≠ 1) : charsF (partF k t n ps) = charsF ps := by
  unfold partF
  split
  · rename_i h0; have e := Fo.eq_nil_of_len h0; subst e; rfl
  · simp [Fo.one, charsF, h]
theorem chars_sub (hand : Int) (adv : Bool) : ∀ {f : Fo}, good f → List.Sublist (charsF (resolveF f hand adv)) (charsF f)
  | .nil, _ => List.Sublist.refl _
  | .cons k t n ps r, ⟨h1, h2, h3⟩ => by
    have i2 := chars_sub hand adv h2
    have ib := chars_breaks h2
    simp only [resolveF, charsF_app]
    rw [show charsF (.cons k t n ps r) = (if k = 1 then t else []) ++ charsF ps ++ charsF r from rfl]
    refine List.Sublist.append ?_ (chars_sub hand adv h3)
    have up : ∀ {l : List UInt8}, List.Sublist l (charsF ps) → List.Sublist l ((if k = 1 then t else []) ++ charsF ps) := fun h => h.trans (List.sublist_append_right _ _)
    split
    · rw [ib]; exact List.nil_sublist _
    split
    · exact up i2
    split
    · rename_i h; rw [chars_part (by omega)]; exact up i2
    split
    · rw [ib]; exact List.nil_sublist _
    split
    · exact up i2
    split
    · rename_i h; rw [chars_part (by omega)]; exact up i2
    · simp [Fo.one, charsF]
theorem outside_sub (hand : Int) : ∀ {f : Fo}, good f → List.Sublist (outsideF f) (charsF (resolveF f hand false))
  | .nil, _ => List.Sublist.refl _
  | .cons k t n ps r, ⟨h1, h2, h3⟩ => by
    have i2 := outside_sub hand h2
    simp only [resolveF, charsF_app, outsideF]
    refine List.Sublist.append ?_ (outside_sub hand h3)
    by_cases h8 : k = 8 ∨ k = 9
    · rw [if_neg (by omega), if_pos h8]; exact List.nil_sublist _
    · rw [if_neg (show ¬ (k = 9 ∧ n ≤ hand) by omega), if_neg (show ¬ (k = 8 ∧ n ≤ hand) by omega), if_neg (show ¬ ((k = 8 ∨ k = 9) ∧ false = true) by simp), if_neg (show ¬ k = 8 by omega), if_neg (show ¬ k = 9 by omega), if_neg h8]
      split
      · rename_i hk
        subst hk
        rw [if_neg (by omega)]
        simp [Fo.one, charsF]
      · rename_i hk
        split
        · rw [chars_part hk]; exact i2
        · rename_i hp
          have := Fo.eq_nil_of_len (h1.2.2.2.2.1 (by have := h1.1; have := h1.2.1; unfold partsF; simp; omega))
          subst this
          exact List.nil_sublist _
theorem outside_clean : ∀ {f : Fo}, good f → clean f → outsideF f = charsF f
  | .nil, _, _ => rfl
  | .cons k t n ps r, ⟨g1, g2, g3⟩, ⟨h1, h2, h3⟩ => by
    simp only [outsideF, charsF, outside_clean g2 h2, outside_clean g3 h3]
    congr 1
    split
    · rename_i hk
      have := Fo.eq_nil_of_len (g1.2.2.2.2.1 (by unfold partsF; simp; omega))
      subst this
      simp [charsF]
    · first | rfl | (rw [if_neg h1]; rfl)
theorem compare_same : ∀ a : List UInt8, Lib.compareBytes a a = 0
  | [] => rfl
  | x :: a => by
    have : ¬ x < x := by simp
    simp only [Lib.compareBytes, if_neg this]; exact compare_same a

end Go.Proofs
namespace Go.Proofs
open Go Go.Sh Go.RowKit

theorem four_one (k : Int) (t : List UInt8) (m : Int) (a : Option Addr) (n c : Nat) : ∀ u ∈ [Value.int .i64 k, .string ⟨⟨t⟩⟩, .int .i64 m, .slice a n c], u.oneCell' = true := by
  intro u hu; simp only [List.mem_cons, List.not_mem_nil, or_false] at hu; rcases hu with rfl | rfl | rfl | rfl <;> rfl
def stF (f : Fo) (h : Int) : Fo := mergeF (resolveF f h false)
theorem stF_small {f : Fo} (hs : f.size ≤ 1000000000) (h : Int) : small (stF f h) := by
  have a1 := mergeF_size (resolveF f h false)
  have a2 := resolveF_size f h false
  unfold small stF; omega
def errT (f : Fo) (hand : Int) : Int := if checkT f ≠ 0 then 1 else if hand < 1 ∨ 8 < hand then 13 else 0
/- rows of integers -/
abbrev intV (l : List Int) : List Value := l.map (Value.int .i64)
theorem slT_int : SlT Tryz.prog 57 3 1 8 (.int .i64 0) := ⟨by kernel_rfl, by kernel_rfl, rfl, by decide⟩
theorem owns_int {w : World} {B : Nat} {a : Option Addr} {n c : Nat} {l : List Int} (h : Owns w B 3 1 a n c (intV l)) {i : Nat} (hi : i < l.length) :
    (∀ K : Addr → Prop, (∀ p, w.cell? p = some (.int .i64 l[i]) → K p) → idx a n (i : Int) 1 K) := by
  intro K hK
  have hl : l.length = n := by have := h.1; simpa using this
  obtain ⟨g, rfl, hg, hc⟩ := h.cell (by omega)
  refine ⟨by omega, by omega, ?_⟩
  refine dr_ok (hK _ ?_)
  rw [add_none, hc _ _ (by simp [hi]; rfl)]
def handsTo (f : Fo) (n : Nat) : List Int := ((List.range n).map fun i : Nat => (i : Int) + 1).filter fun h => decide (stF f (h - 1) ≠ stF f h)
theorem handsTo_succ (f : Fo) (n : Nat) : handsTo f (n + 1) = handsTo f n ++ if stF f n ≠ stF f (n + 1) then [(n : Int) + 1] else [] := by
  have e : ((n : Int) + 1 - 1) = n := by omega
  simp only [handsTo, List.range_succ, List.map_append, List.filter_append, List.map_cons, List.map_nil]
  congr 1
  by_cases h : stF f n ≠ stF f (n + 1)
  · rw [if_pos h]; simp [h]
  · rw [if_neg h]; simp at h; simp [h]
theorem handsTo_len (f : Fo) (n : Nat) : (handsTo f n).length ≤ n := by
  refine Nat.le_trans (List.length_filter_le _ _) ?_
  simp
theorem handsTo_le (f : Fo) (n : Nat) : ∀ x ∈ handsTo f n, x ≤ n := by
  intro x hx
  simp only [handsTo, List.mem_filter, List.mem_map, List.mem_range] at hx
  obtain ⟨⟨i, hi, rfl⟩, _⟩ := hx
  omega

end Go.Proofs
namespace Go.Proofs
open Go Go.Sh Go.RowKit

def hle (a : Int) : Fo → Prop
  | .nil => True
  | .cons k _ n ps r => ((k = 8 ∨ k = 9) → n ≤ a) ∧ hle a ps ∧ hle a r
theorem hle_nodes (a : Int) : ∀ {f : Fo}, (∀ x ∈ nodesF f, (x.k = 8 ∨ x.k = 9) → x.n ≤ a) → hle a f
  | .nil, _ => trivial
  | .cons k t n ps r, h => by
    simp only [nodesF, List.mem_cons, List.mem_append] at h
    exact ⟨h ⟨k, t, n, ps⟩ (.inl rfl), hle_nodes a fun x hx => h x (.inr (.inl hx)), hle_nodes a fun x hx => h x (.inr (.inr hx))⟩
theorem most_ge : ∀ (l : List Nn) (m : Int), m ≤ l.foldl (fun m (x : Nn) => if x.k = 8 ∨ x.k = 9 then max m x.n else m) m ∧ ∀ x ∈ l, (x.k = 8 ∨ x.k = 9) → x.n ≤ l.foldl (fun m (x : Nn) => if x.k = 8 ∨ x.k = 9 then max m x.n else m) m
  | [], m => ⟨Int.le_refl _, fun x hx => by simp at hx⟩
  | y :: l, m => by
    simp only [List.foldl_cons, List.mem_cons]
    obtain ⟨h1, h2⟩ := most_ge l (if y.k = 8 ∨ y.k = 9 then max m y.n else m)
    refine ⟨Int.le_trans ?_ h1, ?_⟩
    · split <;> omega
    · rintro x (rfl | hx) hk
      · rw [if_pos hk] at h1 ⊢; omega
      · exact h2 x hx hk
theorem most_le (b : Int) : ∀ (l : List Nn) (m : Int), m ≤ b → (∀ x ∈ l, (x.k = 8 ∨ x.k = 9) → x.n ≤ b) → l.foldl (fun m (x : Nn) => if x.k = 8 ∨ x.k = 9 then max m x.n else m) m ≤ b
  | [], m, h, _ => h
  | y :: l, m, h, hl => by
    simp only [List.foldl_cons]
    refine most_le b l _ ?_ fun x hx => hl x (by simp [hx])
    split
    · rename_i hk; have := hl y (by simp) hk; omega
    · exact h
theorem hle_most (f : Fo) : hle (mostN (nodesF f)) f := hle_nodes _ fun x hx hk => (most_ge (nodesF f) 0).2 x hx hk
theorem hands_nodes : ∀ {w : Bool} {f : Fo}, okF w f → ∀ x ∈ nodesF f, (x.k = 8 ∨ x.k = 9) → 1 ≤ x.n ∧ x.n ≤ 8
  | _, .nil, _, x, hx, _ => by simp [nodesF] at hx
  | w, .cons k t n ps r, ⟨h1, h2, h3⟩, x, hx, hk => by
    simp only [nodesF, List.mem_cons, List.mem_append] at hx
    rcases hx with rfl | hx | hx
    · simp only at hk ⊢
      unfold singleF at h1
      split at h1
      · cases h1
      split at h1
      · cases h1
      rw [if_neg (by omega), if_neg (by omega), if_neg (by omega), if_neg (by omega)] at h1
      try rw [if_pos hk] at h1
      split at h1
      · cases h1
      · omega
    · exact hands_nodes h2 x hx hk
    · exact hands_nodes h3 x hx hk
theorem FineF.most {f : Fo} (h : FineF f) : 0 ≤ mostN (nodesF f) ∧ mostN (nodesF f) ≤ 8 :=
  ⟨(most_ge (nodesF f) 0).1, most_le 8 _ 0 (by decide) fun x hx hk => (hands_nodes h.ok x hx hk).2⟩
theorem resolve_hle (a b : Int) (p q : Bool) : ∀ {f : Fo}, hle a f → hle b f → resolveF f a p = resolveF f b q
  | .nil, _, _ => rfl
  | .cons k t n ps r, ⟨h1, h2, h3⟩, ⟨g1, g2, g3⟩ => by
    simp only [resolveF, resolve_hle a b p q h2 g2, resolve_hle a b p q h3 g3]
    by_cases k9 : k = 9
    · rw [if_pos ⟨k9, h1 (.inr k9)⟩, if_pos ⟨k9, g1 (.inr k9)⟩]
    · by_cases k8 : k = 8
      · rw [if_neg (fun h => k9 h.1), if_pos ⟨k8, h1 (.inl k8)⟩, if_neg (fun h => k9 h.1), if_pos ⟨k8, g1 (.inl k8)⟩]
      · simp only [k8, k9, false_and, false_or, if_false]
theorem hle_mono {a b : Int} (h : a ≤ b) : ∀ {f : Fo}, hle a f → hle b f
  | .nil, _ => trivial
  | .cons k t n ps r, ⟨h1, h2, h3⟩ => ⟨fun hk => by have := h1 hk; omega, hle_mono h h2, hle_mono h h3⟩
theorem clean_most {f : Fo} (h : FineF f) : clean f ↔ mostN (nodesF f) = 0 := by
  refine ⟨most_clean, fun h0 => ?_⟩
  rw [clean_any, Bool.eq_false_iff]
  intro ha
  obtain ⟨x, hx, hk⟩ := List.any_eq_true.1 ha
  have hk : x.k = 8 ∨ x.k = 9 := by simpa [corrN] using hk
  have h1 := (most_ge (nodesF f) 0).2 x hx hk
  have h2 := (hands_nodes h.ok x hx hk).1
  have : mostN (nodesF f) = (nodesF f).foldl (fun m (x : Nn) => if x.k = 8 ∨ x.k = 9 then max m x.n else m) 0 := rfl
  omega
theorem handsTo_most {f : Fo} (most : Nat) (hm : mostN (nodesF f) = most) : ∀ d : Nat, handsTo f (most + d) = handsTo f most
  | 0 => rfl
  | d + 1 => by
    rw [show most + (d + 1) = (most + d) + 1 by omega, handsTo_succ, handsTo_most most hm d, if_neg, List.append_nil]
    intro h
    apply h
    unfold stF
    have h0 := hle_most f
    rw [hm] at h0
    rw [resolve_hle ((most + d : Nat) : Int) (((most + d : Nat) : Int) + 1) false false (hle_mono (by omega) h0) (hle_mono (by omega) h0)]

end Go.Proofs
namespace Go.Proofs
open Go Go.Sh Go.RowKit

def longF : Fo → Nat → Bool
  | .nil, _ => false
  | .cons _ t _ ps r, d => decide (d = 0) || (decide (60 < t.length ∧ t.length ≤ 65536) || (decide (65540 < t.length) || (longF ps (d - 1) || longF r d)))

theorem long_spec {S : Nat → Prop} : ∀ (f : Fo) {R : Ending → World → Prop} {w : World} {a : Option Addr} {n c : Nat} (d : Nat) (hd : d ≤ 20) (hs : small f) (hf : SlF S w a n f)
    (h : ∀ w', Ext w w' → R (.returned (.bool (longF f d))) w'), Calls Tryz.prog F_ref10_long ⟨[.slice a n c, .int .i64 (d : Int)]⟩ w R := by
  intro f
  induction hz : f.size using Nat.strongRecOn generalizing f with
  | _ z ih =>
  intro R w a n c d hd hs hf h
  unfold small at hs
  apply c_ref10_long
  have hn := hf.1
  have hfl := f.len_le_size
  refine ⟨fun i W m => ∃ (pre r : Fo), f = pre.app r ∧ i = pre.len ∧ m = r.len ∧ Ext w W ∧ longF f d = longF r d, ⟨_, .nil, f, rfl, rfl, rfl, Below.refl _ _, rfl⟩, ?_⟩
  rintro _ W m ⟨pre, r, hpr, rfl, rfl, he, heq⟩ _
  refine br_split (fun hlt => ?_) (fun hge => ?_)
  · obtain ⟨kd, t, mm, ps, r, rfl⟩ := Fo.next hpr (by omega)
    have hsl := Fo.sub_len hpr
    have hsz := Fo.sub_size hpr
    obtain ⟨q, a', c', hq, hSq, hql, hN⟩ := (hf.ext he).get hpr
    rw [longF] at heq
    have tr : (longF f d = true) → R (.returned (.bool true)) W := fun e => by rw [e] at h; exact h _ he
    refine hq _ ⟨t, hN.text, br_split (fun h1 => ?_) (fun h1 => ?_)⟩
    · exact tr (by rw [heq, decide_eq_true (by omega)]; rfl)
    rw [decide_eq_false (p := d = 0) (by omega), Bool.false_or] at heq
    refine br_split (fun h2 => br_split (fun h3 => tr (by rw [heq, decide_eq_true (by omega)]; rfl)) (fun h3 => br_split (fun h4 => tr (by rw [heq, decide_eq_true (p := 65540 < t.length) (by omega)]; simp)) (fun h4 => ?_)))
      (fun h2 => br_split (fun h4 => tr (by rw [heq, decide_eq_true (p := 65540 < t.length) (by omega)]; simp)) (fun h4 => ?_))
    all_goals
      rw [decide_eq_false (p := 60 < t.length ∧ t.length ≤ 65536) (by omega), decide_eq_false (p := 65540 < t.length) (by omega), Bool.false_or, Bool.false_or] at heq
      refine hq _ ⟨a', ps.len, c', hN.parts, ?_⟩
      rw [show IntKind.i64.wrap ((d : Int) - 1) = ((d - 1 : Nat) : Int) by rw [wrap_id (by omega)]; omega]
      refine ih _ (hz ▸ hsz) ps rfl (d - 1) (by omega) (by unfold small; omega) hN.sl fun w' he' => ⟨_, rfl, br_cases (fun g => ?_) (fun g => ?_)⟩
      · rw [heq, g] at h; exact h _ (ext_trans he he')
      · exact ⟨r.len, by simp, pre.app (.one kd t mm ps), r, by rw [Fo.app_one_app]; exact hpr, by rw [wrap_nat (by omega)]; simp [Fo.one], rfl, ext_trans he he', by rw [heq, g]; rfl⟩
  · obtain ⟨rfl, rfl⟩ := Fo.last hpr (by omega)
    have := h _ he
    rw [heq] at this
    exact this

def great10 (f : Fo) : Bool :=
  if f.len ≤ 4096 ∨ 4100 < f.len then !decide (f.size ≤ 40 ∧ f.depth ≤ 20) || longF f 20 else decide (f.len < f.size) || longF f 20

theorem great10_small {f : Fo} (h : great10 f = false) : small f := by
  unfold small great10 at *
  split at h
  · rw [Bool.or_eq_false_iff] at h
    have := h.1
    simp at this
    omega
  · rw [Bool.or_eq_false_iff] at h
    have := h.1
    simp at this
    omega
theorem Great_spec {R : Ending → World → Prop} {S : Nat → Prop} {w : World} {a : Option Addr} {n c : Nat} {f : Fo} (hf : SlF S w a n f) (h : ∀ w', Ext w w' → R (.returned (.bool (great10 f))) w') :
    Calls Tryz.prog F_ref10_Great ⟨[.slice a n c]⟩ w R := by
  apply c_ref10_Great
  have hn := hf.1
  intro K hK
  have k : ∀ g, g = decide (n ≤ 4096 ∨ 4100 < n) → K g w := by
    rintro _ rfl
    refine hK _ _ fun _ => br_split (fun g => ?_) (fun g => ?_)
    · refine size10_spec f 20 40 (by omega) (by omega) hf fun w1 e1 => ?_
      unfold great10 at h
      rw [if_pos (by omega)] at h
      unfold szF
      split
      · rename_i hh
        rw [decide_eq_true hh] at h
        refine ⟨_, _, _, rfl, ?_⟩
        refine long_spec f 20 (by omega) (by unfold small; omega) (hf.ext e1) fun w2 e2 => ⟨_, rfl, h _ (ext_trans e1 e2)⟩
      · rename_i hh
        rw [decide_eq_false hh] at h
        exact ⟨_, _, _, rfl, h _ e1⟩
    · unfold great10 at h
      rw [if_neg (by omega)] at h
      refine ⟨fun i W m => ∃ (pre r : Fo), f = pre.app r ∧ i = pre.len ∧ m = r.len ∧ Ext w W ∧ pre.size = pre.len, ⟨_, .nil, f, rfl, rfl, rfl, Below.refl _ _, rfl⟩, ?_⟩
      rintro _ W m ⟨pre, r, hpr, rfl, rfl, he, heq⟩ _
      refine br_split (fun hlt => ?_) (fun hge => ?_)
      · obtain ⟨kd, t, mm, ps, r, rfl⟩ := Fo.next hpr (by omega)
        have hsl := Fo.sub_len hpr
        obtain ⟨q, a', c', hq, hSq, hql, hN⟩ := (hf.ext he).get hpr
        refine hq _ ⟨a', ps.len, c', hN.parts, br_split (fun g1 => ?_) (fun g1 => ?_)⟩
        · have e : f.len < f.size := by
            have h1 := congrArg Fo.size hpr
            have h2 := congrArg Fo.len hpr
            have h3 := r.len_le_size
            have h4 := ps.len_le_size
            rw [Fo.size_app] at h1
            simp only [Fo.len_app, Fo.len_cons, Fo.size] at h1 h2
            omega
          rw [decide_eq_true e] at h
          exact h _ he
        · have hp0 : ps = .nil := Fo.eq_nil_of_len (by omega)
          subst hp0
          exact ⟨r.len, by simp, pre.app (.one kd t mm .nil), r, by rw [Fo.app_one_app]; exact hpr, by rw [wrap_nat (by omega)]; simp [Fo.one], rfl, he, by rw [Fo.size_app]; simp [Fo.one, Fo.size, heq]⟩
      · obtain ⟨rfl, rfl⟩ := Fo.last hpr (by omega)
        rw [decide_eq_false (by omega)] at h
        refine long_spec _ 20 (by omega) (by unfold small; rw [heq]; omega) (hf.ext he) fun w2 e2 => ⟨_, rfl, h _ (ext_trans he e2)⟩
  exact br_split (fun g => k _ (by rw [decide_eq_true (by omega)])) (fun g => k _ (by rw [decide_eq_decide]; omega))
end Go.Proofs
namespace Go.Proofs
open Go Go.Sh Go.RowKit

/- the nodes of a list in order, with whether they are within unclear ones -/
def nodesU : Fo → Bool → List (Nn × Bool)
  | .nil, _ => []
  | .cons k t n ps r, u => (⟨k, t, n, ps⟩, u) :: (nodesU ps (u || decide (k = 7)) ++ nodesU r u)
theorem nodesU_len : ∀ (f : Fo) (u : Bool), (nodesU f u).length = f.size
  | .nil, _ => rfl
  | .cons k t n ps r, u => by simp only [nodesU, List.length_cons, List.length_append, nodesU_len ps, nodesU_len r, Fo.size]
theorem nodesU_fst : ∀ (f : Fo) (u : Bool), (nodesU f u).map (·.1) = nodesF f
  | .nil, _ => rfl
  | .cons k t n ps r, u => by simp only [nodesU, nodesF, List.map_cons, List.map_append, nodesU_fst ps, nodesU_fst r]
def NuE (T : Nat → Prop) (w0 : World) (x : Nn × Bool) (vs : List Value) : Prop :=
  ∃ a c, vs = [.agg ⟨[.int .i64 x.1.k, .string ⟨⟨x.1.t⟩⟩, .int .i64 x.1.n, .slice a x.1.ps.len c]⟩, .bool x.2] ∧ SlF T w0 a x.1.ps.len x.1.ps

theorem all_walkO {yf : Fn} {ya yb : Array Value} {T : Nat → Prop} {J : List (Nn × Bool) → (Nat → Prop) → World → Prop} {Jx : (Nat → Prop) → World → Prop} {w0 : World} {xs : List (Nn × Bool)} {ty tw : Nat}
    (hTl : ∀ k, T k → k < w0.heap.size)
    (hJ : ∀ pre S W W', J pre S W → Chg (fun k => w0.heap.size ≤ k ∧ ¬ S k) W W' → J pre S W')
    (hbody : ∀ pre x vs S W, NuE T w0 x vs → pre ++ [x] <+: xs → w0.heap.size ≤ W.heap.size → (∀ k, S k → k < W.heap.size ∧ ¬ T k) → J pre S W → CallV Tryz.prog (.func yf ya yb) vs W fun e W' => Chg S W W' ∧
      ∃ S' : Nat → Prop, (∀ k, S' k → (S k ∨ W.heap.size ≤ k) ∧ k < W'.heap.size) ∧ ((e = .returned (.bool true) ∧ J (pre ++ [x]) S' W') ∨ (e = .returned (.bool false) ∧ Jx S' W'))) :
    ∀ (f : Fo) {R : Ending → World → Prop} {S : Nat → Prop} {w : World} {a : Option Addr} {n c : Nat} (u : Bool) (pre : List (Nn × Bool)), small f → SlF T w0 a n f → w0.heap.size ≤ w.heap.size → (∀ k, T k → w.heap[k]? = w0.heap[k]?) → (∀ k, S k → k < w.heap.size ∧ ¬ T k) →
      Blk w ty [.func yf ya yb] 102 → Blk w tw [.func (.func 70) ⟨[]⟩ ⟨[.pointer (some ⟨ty, 0, none⟩), .pointer (some ⟨tw, 0, none⟩)]⟩] 103 → ¬ S ty → ¬ S tw →
      pre ++ nodesU f u <+: xs → J pre S w → (∀ S' W', Chg S w W' → (∀ k, S' k → (S k ∨ w.heap.size ≤ k) ∧ k < W'.heap.size) → J (pre ++ nodesU f u) S' W' → R (.returned (.bool true)) W') →
      (∀ S' W', Chg S w W' → (∀ k, S' k → (S k ∨ w.heap.size ≤ k) ∧ k < W'.heap.size) → Jx S' W' → R (.returned (.bool false)) W') →
      Calls Tryz.prog F_legibility_all_1_1 ⟨[.slice a n c, .bool u, .pointer (some ⟨ty, 0, none⟩), .pointer (some ⟨tw, 0, none⟩)]⟩ w R := by
  intro f
  induction hz : f.size using Nat.strongRecOn generalizing f with
  | _ z ih =>
  intro R S w a n c u pre hs hf hw0 hT hS hBy hBw nSy nSw hpre hj hend hstop
  unfold small at hs
  apply c_legibility_all_1_1
  have hn := hf.1
  have hfl := f.len_le_size
  have lty := hBy.lt
  have ltw := hBw.lt
  refine ⟨fun i W m => ∃ (p r : Fo) (ps : List (Nn × Bool)) (S1 : Nat → Prop), f = p.app r ∧ i = p.len ∧ m = r.len ∧ Chg S w W ∧ (∀ k, S1 k → (S k ∨ w.heap.size ≤ k) ∧ k < W.heap.size) ∧ J ps S1 W ∧ pre ++ nodesU f u = ps ++ nodesU r u,
    ⟨_, .nil, f, pre, S, rfl, rfl, rfl, Chg.refl _ _, fun k hk => ⟨.inl hk, (hS k hk).1⟩, hj, rfl⟩, ?_⟩
  rintro _ W m ⟨p, r, xs', S1, hpr, rfl, rfl, hcW, hS1, hjW, heq⟩ _
  have hwW := hcW.size
  refine br_split (fun hlt => ?_) (fun hge => ?_)
  · obtain ⟨k, t, mm, ps, r, rfl⟩ := Fo.next hpr (by omega)
    have hsl := Fo.sub_len hpr
    have hsz := Fo.sub_size hpr
    have e1 : f = (p.app (.one k t mm ps)).app r := by rw [Fo.app_one_app]; exact hpr
    have i1 : IntKind.i64.wrap ((p.len : Int) + 1) = ((p.app (.one k t mm ps)).len : Int) := by rw [wrap_nat (by omega)]; simp [Fo.one]
    have hTW : ∀ k, T k → W.heap[k]? = w0.heap[k]? := fun k hk => (hcW.block k (by have := hTl k hk; omega) (fun h => (hS k h).2 hk)).trans (hT k hk)
    obtain ⟨q, a', c', hq, hTq, hql, hN⟩ := (hf.keep (S' := T) (w' := W) (fun k hk _ => ⟨hk, hTW k hk⟩) (by omega)).get hpr
    have hNT : SlF T w0 a' ps.len ps := hN.sl.keep' fun k hk _ => ⟨hk, hTl k hk, (hTW k hk).symm⟩
    refine hq _ ⟨k, hN.kind, t, hN.text, mm, hN.num, a', ps.len, c', hN.parts, ?_⟩
    refine al_stL (by simp) (by intro u hu; simp only [List.mem_cons, List.not_mem_nil, or_false] at hu; rcases hu with rfl | rfl | rfl | rfl <;> rfl) fun bx w1 hbx hBx e2 s2 => ?_
    have z2 := e2.size
    obtain ⟨x0, x1, x2, x3⟩ := blk4 hBx
    have hBy1 := (hcW.blk hBy nSy).ext e2
    have hBw1 := (hcW.blk hBw nSw).ext e2
    have n1y : ¬ S1 ty := fun h => (hS1 _ h).1.elim nSy (by omega)
    have n1w : ¬ S1 tw := fun h => (hS1 _ h).1.elim nSw (by omega)
    have n1x : ¬ S1 bx := fun h => by have := (hS1 _ h).2; omega
    refine dr_ok ⟨_, _, _, by rw [hBy1.cell]; rfl, k, x0, t, x1, mm, x2, a', ps.len, c', x3, ?_⟩
    have hj1 : J xs' S1 w1 := hJ _ _ _ _ hjW (Chg.of_ext e2)
    rw [nodesU] at heq
    have hpx : xs' ++ [(⟨k, t, mm, ps⟩, u)] <+: xs := by
      refine List.IsPrefix.trans ?_ hpre
      rw [heq]
      exact ⟨_, by rw [List.append_assoc]; rfl⟩
    have hS1T : ∀ k, S1 k → k < w1.heap.size ∧ ¬ T k := fun j hj => ⟨by have := (hS1 j hj).2; omega, fun ht => (hS1 j hj).1.elim (fun h => (hS j h).2 ht) (fun h => by have := hTl j ht; omega)⟩
    refine CallV_mono (hbody xs' (⟨k, t, mm, ps⟩, u) _ S1 w1 ⟨a', c', rfl, hNT⟩ hpx (by omega) hS1T hj1) ?_
    rintro e w2 ⟨hc2, S2, hS2, hres⟩
    have z3 := hc2.size
    have hcw2 : Chg S w w2 := chg_then (hcW.trans (Chg.of_ext e2)) hc2 fun i hi hh => (hS1 i hh).1.elim id fun h => by omega
    have hS2w : ∀ k, S2 k → (S k ∨ w.heap.size ≤ k) ∧ k < w2.heap.size := fun j hj => ⟨(hS2 j hj).1.elim (fun h => (hS1 j h).1) (fun h => .inr (by omega)), (hS2 j hj).2⟩
    rcases hres with ⟨rfl, hj2⟩ | ⟨rfl, hjx⟩
    · refine ⟨true, rfl, ?_⟩
      have hBx2 := hc2.blk hBx n1x
      obtain ⟨y0, y1, y2, y3⟩ := blk4 hBx2
      have hBw2 := hc2.blk hBw1 n1w
      have hBy2 := hc2.blk hBy1 n1y
      simp only [Bool.not_true, br_f]
      refine dr_ok ⟨.func 70, ⟨[]⟩, ⟨[.pointer (some ⟨ty, 0, none⟩), .pointer (some ⟨tw, 0, none⟩)]⟩, by rw [hBw2.cell]; rfl, a', ps.len, c', y3, ?_⟩
      have rest : ∀ (v : Bool) (R' : Ending → World → Prop), v = (u || decide (k = 7)) →
          (∀ w3 (S3 : Nat → Prop), Chg S2 w2 w3 → (∀ k, S3 k → (S2 k ∨ w2.heap.size ≤ k) ∧ k < w3.heap.size) → J ((xs' ++ [(⟨k, t, mm, ps⟩, u)]) ++ nodesU ps (u || decide (k = 7))) S3 w3 → R' (.returned (.bool true)) w3) →
          (∀ w3 (S3 : Nat → Prop), Chg S2 w2 w3 → (∀ k, S3 k → (S2 k ∨ w2.heap.size ≤ k) ∧ k < w3.heap.size) → Jx S3 w3 → R' (.returned (.bool false)) w3) →
          CallV Tryz.prog (.func (.func 70) ⟨[]⟩ ⟨[.pointer (some ⟨ty, 0, none⟩), .pointer (some ⟨tw, 0, none⟩)]⟩) [.slice a' ps.len c', .bool v] w2 R' := by
        rintro v R' rfl g1 g2
        refine ⟨by kernel_rfl, ?_⟩
        refine ih _ (hz ▸ hsz) ps rfl (S := S2) (u || decide (k = 7)) (xs' ++ [(⟨k, t, mm, ps⟩, u)]) (by unfold small; omega) hNT (by omega) (fun j hj => (hcw2.block j (by have := hTl j hj; omega) (fun h => (hS j h).2 hj)).trans (hT j hj))
          (fun j hj => ⟨(hS2 j hj).2, fun ht => (hS2 j hj).1.elim (fun h => (hS1T j h).2 ht) (fun h => by have := hTl j ht; omega)⟩) hBy2 hBw2 (fun h => (hS2 _ h).1.elim n1y (by omega)) (fun h => (hS2 _ h).1.elim n1w (by omega)) ?_ hj2 (fun S3 w3 hc3 hS3 hj3 => g1 w3 S3 hc3 hS3 hj3) (fun S3 w3 hc3 hS3 hjx => g2 w3 S3 hc3 hS3 hjx)
        refine List.IsPrefix.trans ?_ hpre
        rw [heq]
        exact ⟨nodesU r u, by simp⟩
      have good1 : ∀ w3 (S3 : Nat → Prop), Chg S2 w2 w3 → (∀ k, S3 k → (S2 k ∨ w2.heap.size ≤ k) ∧ k < w3.heap.size) → J ((xs' ++ [(⟨k, t, mm, ps⟩, u)]) ++ nodesU ps (u || decide (k = 7))) S3 w3 →
          ∃ m' : Nat, m' < (Fo.cons k t mm ps r).len ∧ ∃ (p1 r1 : Fo) (ps1 : List (Nn × Bool)) (S1 : Nat → Prop), f = p1.app r1 ∧ IntKind.i64.wrap ((p.len : Int) + 1) = p1.len ∧ m' = r1.len ∧ Chg S w w3 ∧ (∀ k, S1 k → (S k ∨ w.heap.size ≤ k) ∧ k < w3.heap.size) ∧ J ps1 S1 w3 ∧ pre ++ nodesU f u = ps1 ++ nodesU r1 u := by
        intro w3 S3 hc3 hS3 hj3
        refine ⟨r.len, by simp, _, r, _, S3, e1, i1, rfl, chg_then hcw2 hc3 fun i hi hh => (hS2w i hh).1.elim id fun h => by omega, fun j hj => ⟨(hS3 j hj).1.elim (fun h => (hS2w j h).1) (fun h => .inr (by omega)), (hS3 j hj).2⟩, hj3, ?_⟩
        rw [heq]; simp
      have stop1 : ∀ w3 (S3 : Nat → Prop), Chg S2 w2 w3 → (∀ k, S3 k → (S2 k ∨ w2.heap.size ≤ k) ∧ k < w3.heap.size) → Jx S3 w3 → R (.returned (.bool false)) w3 := by
        intro w3 S3 hc3 hS3 hjx
        exact hstop S3 _ (chg_then hcw2 hc3 fun i hi hh => (hS2w i hh).1.elim id fun h => by omega) (fun j hj => ⟨(hS3 j hj).1.elim (fun h => (hS2w j h).1) (fun h => .inr (by omega)), (hS3 j hj).2⟩) hjx
      cases u with
      | true =>
        refine rest true _ rfl (fun w3 S3 hc3 hS3 hj3 => ⟨true, rfl, ?_⟩) (fun w3 S3 hc3 hS3 hjx => ⟨false, rfl, ?_⟩)
        · exact good1 w3 S3 hc3 hS3 hj3
        · exact stop1 w3 S3 hc3 hS3 hjx
      | false =>
        refine ⟨k, y0, rest (decide (k = 7)) _ (by simp) (fun w3 S3 hc3 hS3 hj3 => ⟨true, rfl, ?_⟩) (fun w3 S3 hc3 hS3 hjx => ⟨false, rfl, ?_⟩)⟩
        · exact good1 w3 S3 hc3 hS3 hj3
        · exact stop1 w3 S3 hc3 hS3 hjx
    · exact ⟨false, rfl, hstop S2 _ hcw2 hS2w hjx⟩
  · obtain ⟨rfl, rfl⟩ := Fo.last hpr (by omega)
    have e : xs' = pre ++ nodesU p u := by rw [heq]; simp [nodesU]
    rw [e] at hjW
    exact hend S1 _ hcW hS1 hjW

theorem all_iterO {T : Nat → Prop} (f : Fo) (hs : small f) {a : Option Addr} {n c : Nat} (b : Nat) (w : World) (hTl : ∀ k, T k → k < w.heap.size) (hb : Blk w b [.slice a n c] 22) (hf : SlF T w a n f) (hbT : T b) :
    IterO Tryz.prog F_legibility_all_1 [.pointer (some ⟨b, 0, none⟩)] (nodesU f false) (NuE T w) T w := by
  intro yf ya yb S0 J Jx R hS hJ hJx hbody h0 hend hstop
  apply c_legibility_all_1
  refine al_intro fun ty w1 hty hBy e1 s1 => ?_
  refine al_intro fun tw w1' htw hBw' e2' s2' => ?_
  refine stL_one hBw' rfl fun w2 hBw hcc hss => ?_
  have e2 : Ext w1 w2 := ext_chgS e2' hcc fun k hk => by omega
  have E := ext_trans e1 e2
  refine ⟨.func 70, ⟨[]⟩, ⟨[.pointer (some ⟨ty, 0, none⟩), .pointer (some ⟨tw, 0, none⟩)]⟩, by rw [hBw.cell]; rfl, dr_ok ⟨a, n, c, by rw [((hb.ext e1).ext e2).cell]; rfl, by kernel_rfl, ?_⟩⟩
  have hz := E.size
  have hz1 := e1.size
  refine all_walkO (w0 := w) (xs := nodesU f false) hTl hJ hbody f (S := S0) false [] hs hf hz (fun k hk => E.block k (hTl k hk)) (fun k hk => ⟨by have := (hS k hk).1; omega, (hS k hk).2⟩) (hBy.ext e2) hBw (fun h => by have := (hS _ h).1; omega) (fun h => by have := (hS _ h).1; omega) (List.prefix_refl _)
    (hJ _ _ _ _ h0 (Chg.of_ext E)) (fun S' W' hc hS' hj => ?_) (fun S' W' hc hS' hjx => ?_)
  · exact ⟨_, rfl, hend S' _ (Nat.le_trans hz hc.size) hj⟩
  · exact ⟨_, rfl, hstop S' _ (Nat.le_trans hz hc.size) hjx⟩
theorem allU_spec {R : Ending → World → Prop} {w : World} {a : Option Addr} {n c : Nat}
    (h : ∀ b w', Blk w' b [.slice a n c] 22 → Ext w w' → b = w.heap.size → R (.returned (.func (.func F_legibility_all_1) ⟨[]⟩ ⟨[.pointer (some ⟨b, 0, none⟩)]⟩)) w') :
    Calls Tryz.prog F_legibility_all ⟨[.slice a n c]⟩ w R := by
  apply c_legibility_all
  refine al_intro fun b w' hb h1 h2 h3 => ?_
  exact h b w' h1 h2 hb
end Go.Proofs
namespace Go.Proofs
open Go Go.Sh Go.RowKit

/- no additions and deletions -/
def cleanN (x : Nn) : Bool := !(decide (x.k = 8) || decide (x.k = 9))
def cleanF (f : Fo) : Bool := (nodesF f).all cleanN
def errU (f : Fo) : Int := if checkT f ≠ 0 then 1 else if cleanF f then 0 else 13
/- the pattern -/
def patN (x : Nn) : List UInt8 := if x.k = 1 then x.t else if x.k = 6 then List.replicate x.n.toNat 95 else []
def patL (l : List (Nn × Bool)) : List UInt8 := l.flatMap fun x => patN x.1
def patF (f : Fo) : List UInt8 := (nodesF f).flatMap patN
theorem patL_nodes (f : Fo) (u : Bool) : patL (nodesU f u) = patF f := by
  rw [patF, ← nodesU_fst f u, List.flatMap_map]; rfl
theorem patL_snoc (l : List (Nn × Bool)) (x : Nn × Bool) : patL (l ++ [x]) = patL l ++ patN x.1 := by simp [patL]
theorem patL_prefix {pre : List (Nn × Bool)} {x : Nn × Bool} {l : List (Nn × Bool)} (h : pre ++ [x] <+: l) : (patL pre).length + (patN x.1).length ≤ (patL l).length := by
  obtain ⟨s, rfl⟩ := h
  simp only [patL, List.flatMap_append, List.flatMap_cons, List.flatMap_nil, List.length_append, List.append_nil]
  omega
theorem patN_len {k : Int} {t : List UInt8} {n : Int} {ps : Fo} (h : nodeOk k t n ps) : (patN ⟨k, t, n, ps⟩).length ≤ t.length + 100 := by
  unfold patN
  split
  · simp
  · split
    · rename_i h6
      have := h.2.2.1 (by simp only [numsF]; rw [show k = 6 from h6]; rfl)
      simp; omega
    · simp
theorem patF_len : ∀ (f : Fo), good f → (patF f).length ≤ tlen f + 100 * f.size
  | .nil, _ => by simp [patF, nodesF]
  | .cons k t n ps r, h => by
    have h1 := patF_len ps h.2.1
    have h2 := patF_len r h.2.2
    have h3 := patN_len h.1
    unfold patF at h1 h2 ⊢
    simp only [nodesF, List.flatMap_cons, List.flatMap_append, List.length_append, tlen, Fo.size]
    omega
theorem cleanU {f : Fo} (u : Bool) : cleanF f = (nodesU f u).all fun x => cleanN x.1 := by
  rw [cleanF, ← nodesU_fst f u, List.all_map]; rfl

set_option maxRecDepth 20000 in
theorem checkL_spec {R : Ending → World → Prop} {S : Nat → Prop} {w : World} {a : Option Addr} {n c : Nat} (f : Fo) (hs : small f) (hF : Forms w) (hf0 : SlF S w a n f)
    (h : ∀ w', Ext w w' → R (.returned (.int .i64 (errU f))) w') : Calls Tryz.prog F_legibility_check ⟨[.slice a n c]⟩ w R := by
  apply c_legibility_check
  refine al_intro fun b2 w1 hb2 B2 e1 s1 => ?_
  refine Check22_spec f hs (hf0.ext e1) (hF.ext e1) fun w2 e2 => ⟨_, rfl, br_split (fun g => ?_) (fun g => ?_)⟩
  · refine stL_one (B2.ext e2) rfl fun w3 B3 hc3 s3 => ⟨1, by rw [B3.cell]; rfl, ?_⟩
    unfold errU at h; rw [if_pos g] at h
    exact h _ (ext_chgS (ext_trans e1 e2) hc3 fun k hk => by omega)
  unfold errU at h; rw [if_neg g] at h
  refine allU_spec fun bs w4 Bs e4 hbs => ⟨_, _, _, rfl, fun base => ?_⟩
  have E4 := ext_trans (ext_trans e1 e2) e4
  have z1 := e1.size
  have z2 := e2.size
  have z4 := E4.size
  have z24 := e4.size
  have ls := Bs.lt
  have hf : SlF (fun k => S k ∧ k < w.heap.size) w a n f := hf0.imp fun k hk hl => ⟨hk, hl⟩
  rw [cd_legibility_check_1]
  refine RFw_lawO anA_legibility_check_1 anB_legibility_check_1 (gf := F_legibility_all_1) rfl (by kernel_rfl) (xs := nodesU f false) (E := NuE (fun k => (S k ∧ k < w.heap.size) ∨ k = bs) w4) (Rd := fun k => (S k ∧ k < w.heap.size) ∨ k = bs)
    (fun v1 he => (all_iterO f hs bs v1 (fun k hk => by have := he.size; omega) (Bs.ext he) ((hf.ext (ext_trans E4 he)).imp fun k hk _ => .inl hk) (.inr rfl)).mono ?_) (fun y vs hE => by obtain ⟨a', c', rfl, _⟩ := hE; rfl) (by decide) (fun k hk => by omega) (fun k => k = b2) (fun k hk => by omega)
    (fun pre S1 W => Blk W b2 [.int .i64 0] 30 ∧ (∀ k, S1 k ↔ k = b2) ∧ Ext w W ∧ (pre.all fun x => cleanN x.1) = true) (fun S1 W => Blk W b2 [.int .i64 13] 30 ∧ (∀ k, S1 k ↔ k = b2) ∧ Ext w W ∧ cleanF f = false) (fun _ _ => False)
    ?_ ?_ (fun _ _ _ h => h.elim) ⟨(B2.ext e2).ext e4, fun k => Iff.rfl, E4, rfl⟩ ?_ ?_ ?_ (fun _ _ _ _ _ _ _ h => h.elim)
  · rintro x vs ⟨a', c', rfl, hsl⟩
    exact ⟨a', c', rfl, hsl.keep' fun k hk hl => ⟨hk, by omega, ((he.block k (by omega))).symm⟩⟩
  · rintro pre S1 W W' ⟨g1, g2, g3, g4⟩ hc
    exact ⟨hc.blk g1 (fun hh => hh.2 ((g2 _).2 rfl)), g2, ext_chgS g3 hc (fun k hk => by omega), g4⟩
  · rintro S1 W W' ⟨g1, g2, g3, g4⟩ hc
    exact ⟨hc.blk g1 (fun hh => hh.2 ((g2 _).2 rfl)), g2, ext_chgS g3 hc (fun k hk => by omega), g4⟩
  · rintro pre ⟨⟨k1, t1, m1, ps1⟩, u1⟩ vs S1 W l ⟨a', c', rfl, hsl⟩ hpre hl1 hl2 hl3 hS1 ⟨g1, g2, g3, g4⟩
    refine Eq.mpr (er_legibility_check_1 base _ _ _ _ _ _ _ _ _ _ _ _ _ _ _ _) ?_
    refine al_stL (by simp) (by intro u hu; simp only [List.mem_cons, List.not_mem_nil, or_false] at hu; rcases hu with rfl | rfl | rfl | rfl <;> rfl) fun bx W1 hbx hBx ex sx => ?_
    refine ⟨ex, fun W2 hU => ?_⟩
    have zx := ex.size
    have zU := hU.size
    have hX2 := upd_blk hU hBx (by omega)
    obtain ⟨x0, x1, x2, x3⟩ := blk4 hX2
    have hUc : Chg (fun k => k = l) W1 W2 := ⟨hU.os, hU.tape, hU.output, by omega, fun k _ hk => hU.block k hk⟩
    have hWc : Chg (fun k => k = l) W W2 := (Chg.of_ext ex).trans hUc
    have nl : b2 ≠ l := fun he => hl3 ((g2 l).2 he.symm)
    have h1 := hWc.blk g1 nl
    have E2' : Ext w W2 := ext_chgS g3 hWc fun k hk => by omega
    have hmem := mem_of_prefix hpre
    have fail : cleanN ⟨k1, t1, m1, ps1⟩ = false → ∀ W3, Blk W3 b2 [.int .i64 13] 30 → Chg (fun k => k = b2) W2 W3 → Chg (fun k => S1 k ∨ W.heap.size ≤ k) W2 W3 ∧ ∃ S' : Nat → Prop, (∀ k, S' k → (S1 k ∨ W.heap.size ≤ k) ∧ k < W3.heap.size) ∧
        Blk W3 b2 [.int .i64 13] 30 ∧ (∀ k, S' k ↔ k = b2) ∧ Ext w W3 ∧ cleanF f = false := by
      intro hcl W3 hB3 hc3
      refine ⟨hc3.mono fun k _ hk => .inl ((g2 k).2 hk), fun k => k = b2, fun k hk => ⟨.inl ((g2 k).2 hk), hk ▸ hB3.lt⟩, hB3, fun k => Iff.rfl, ext_chgS E2' hc3 fun k hk => by omega, ?_⟩
      rw [cleanU false, List.all_eq_false]
      exact ⟨_, hmem, by rw [hcl]; simp⟩
    refine ⟨k1, x0, br_split (fun q => ?_) (fun q => ⟨k1, x0, br_split (fun q' => ?_) (fun q' => ?_)⟩)⟩
    · exact dr_ok (stL_one h1 rfl fun W3 hB3 hc3 _ => fail (by simp [cleanN, q]) W3 hB3 hc3)
    · exact dr_ok (stL_one h1 rfl fun W3 hB3 hc3 _ => fail (by simp [cleanN, q']) W3 hB3 hc3)
    · refine ⟨Chg.refl _ _, S1, fun j hj => ⟨.inl hj, by have := (hS1 j hj).1; omega⟩, h1, g2, E2', ?_⟩
      rw [List.all_append, g4]
      simp [cleanN, q, q']
  · rintro D S1 W hD1 hD2 hD3 hD4 ⟨g1, g2, g3, g4⟩
    rw [← cleanU false] at g4
    rw [if_pos g4] at h
    have nD : b2 ≠ D := fun he => hD3 ((g2 D).2 he.symm)
    refine stL_one g1 rfl fun W3 B3 hc3 s3 => ?_
    refine retD_one ((hc3.block D hD2 (fun he => nD he.symm)).trans hD4) ?_
    exact ⟨0, by rw [(blk_put B3 nD _).cell]; rfl, h _ (ext_put (ext_chgS g3 hc3 fun k hk => by omega) (by omega) _)⟩
  · rintro D S1 W hD1 hD2 hD3 hD4 ⟨g1, g2, g3, g4⟩
    rw [if_neg (by simp [g4])] at h
    have nD : b2 ≠ D := fun he => hD3 ((g2 D).2 he.symm)
    refine retD_one hD4 ?_
    exact ⟨13, by rw [(blk_put g1 nD _).cell]; rfl, h _ (ext_put g3 (by omega) _)⟩

theorem repeatL_one (b : UInt8) : ∀ c, Lib.repeatL [b] c = List.replicate c b
  | 0 => rfl
  | c + 1 => by rw [Lib.repeatL, repeatL_one b c]; rfl
theorem Repeat_spec {R : Ending → World → Prop} {w : World} (k : Nat) (hk : k ≤ 140737488355328) (h : ∀ w', Ext w w' → R (.returned (.string ⟨⟨List.replicate k 95⟩⟩)) w') :
    Calls Tryz.prog F_strings_Repeat ⟨[.string ⟨⟨[95]⟩⟩, .int .i64 (k : Int)]⟩ w R := by
  refine (Tryz.strings_Repeat ⟨⟨[95]⟩⟩ k w (by omega) (by simp [ByteArray.size]; omega)).mono ?_
  rintro e w' ⟨rfl, hb⟩
  have := h w' hb
  rw [← repeatL_one] at this
  exact this

set_option maxRecDepth 20000 in
theorem pattern_spec {R : Ending → World → Prop} {S : Nat → Prop} {w : World} {a : Option Addr} {n c : Nat} (f : Fo) (hs : f.size ≤ 1000000000) (hg : good f) (hl : tlen f ≤ 100000000000) (hf0 : SlF S w a n f)
    (h : ∀ w', Ext w w' → R (.returned (.string ⟨⟨patF f⟩⟩)) w') : Calls Tryz.prog F_legibility_pattern ⟨[.slice a n c]⟩ w R := by
  have hlen := patF_len f hg
  have hgn := good_nodes f hg
  apply c_legibility_pattern
  refine al_intro fun b5 w2 hb5 B5 e2 s2 => ?_
  refine allU_spec fun bs w4 Bs e4 hbs => ⟨_, _, _, rfl, fun base => ?_⟩
  have E4 := ext_trans e2 e4
  have z2 := e2.size
  have z4 := E4.size
  have z24 := e4.size
  have ls := Bs.lt
  have hf : SlF (fun k => S k ∧ k < w.heap.size) w a n f := hf0.imp fun k hk hl => ⟨hk, hl⟩
  have hbld : BldAt w4 b5 none [] := ⟨.pointer none, 0, B5.ext e4, .inl rfl, Owns.nil _ _ _ _⟩
  rw [cd_legibility_pattern_1]
  refine RFw_lawO anA_legibility_pattern_1 anB_legibility_pattern_1 (gf := F_legibility_all_1) rfl (by kernel_rfl) (xs := nodesU f false) (E := NuE (fun k => (S k ∧ k < w.heap.size) ∨ k = bs) w4) (Rd := fun k => (S k ∧ k < w.heap.size) ∨ k = bs)
    (fun v1 he => (all_iterO f (by unfold small; omega) bs v1 (fun k hk => by have := he.size; omega) (Bs.ext he) ((hf.ext (ext_trans E4 he)).imp fun k hk _ => .inl hk) (.inr rfl)).mono ?_) (fun y vs hE => by obtain ⟨a', c', rfl, _⟩ := hE; rfl) (by decide) (fun k hk => by omega) (fun k => k = b5) (fun k hk => by omega)
    (fun pre S1 W => ∃ bo : Option Addr, BldAt W b5 bo (patL pre) ∧ (∀ k, S1 k ↔ k = b5 ∨ bk bo k) ∧ Ext w W ∧ (∀ k, bk bo k → w4.heap.size ≤ k)) (fun _ _ => False) (fun _ _ => False)
    ?_ (fun _ _ _ h => h.elim) (fun _ _ _ h => h.elim) ⟨none, hbld, fun k => by simp [bk], E4, fun k hk => by simp [bk] at hk⟩ ?_ ?_ (fun _ _ _ _ _ _ _ h => h.elim) (fun _ _ _ _ _ _ _ h => h.elim)
  · rintro x vs ⟨a', c', rfl, hsl⟩
    exact ⟨a', c', rfl, hsl.keep' fun k hk hl => ⟨hk, by omega, ((he.block k (by omega))).symm⟩⟩
  · rintro pre S1 W W' ⟨bo, g1, g2, g3, g4⟩ hc
    exact ⟨bo, g1.chg hc (fun hh => hh.2 ((g2 _).2 (.inl rfl))) (fun k hk hh => hh.2 ((g2 k).2 (.inr hk))), g2, ext_chgS g3 hc (fun k hk => by omega), g4⟩
  · rintro pre ⟨⟨k1, t1, m1, ps1⟩, u1⟩ vs S1 W l ⟨a', c', rfl, hsl⟩ hpre hl1 hl2 hl3 hS1 ⟨bo, g1, g2, g3, g4⟩
    refine Eq.mpr (er_legibility_pattern_1 base _ _ _ _ _ _ _ _ _ _ _ _ _ _ _ _ _) ?_
    refine al_stL (by simp) (by intro u hu; simp only [List.mem_cons, List.not_mem_nil, or_false] at hu; rcases hu with rfl | rfl | rfl | rfl <;> rfl) fun bx W1 hbx hBx ex sx => ?_
    refine ⟨ex, fun W2 hU => ?_⟩
    have zx := ex.size
    have zU := hU.size
    have hX2 := upd_blk hU hBx (by omega)
    obtain ⟨x0, x1, x2, x3⟩ := blk4 hX2
    have hUc : Chg (fun k => k = l) W1 W2 := ⟨hU.os, hU.tape, hU.output, by omega, fun k _ hk => hU.block k hk⟩
    have hWc : Chg (fun k => k = l) W W2 := (Chg.of_ext ex).trans hUc
    have nl : ∀ k, S1 k → k ≠ l := fun k hk he => hl3 (he ▸ hk)
    have h1 := g1.chg hWc (nl _ ((g2 _).2 (.inl rfl))) (fun k hk => nl _ ((g2 k).2 (.inr hk)))
    have E2' : Ext w W2 := ext_chgS g3 hWc fun k hk => by omega
    have hpl := patL_prefix hpre
    rw [patL_nodes] at hpl
    replace hpl : (patL pre).length + (patN ⟨k1, t1, m1, ps1⟩).length ≤ (patF f).length := hpl
    have hmem : (⟨k1, t1, m1, ps1⟩ : Nn) ∈ nodesF f := by
      rw [← nodesU_fst f false]; exact List.mem_map.2 ⟨_, mem_of_prefix hpre, rfl⟩
    have hok := hgn _ hmem
    -- a string is written
    have wr : ∀ (s : List UInt8) (W3 : World) (K : Ending → World → Prop), s = patN ⟨k1, t1, m1, ps1⟩ → Ext W2 W3 → (∀ w'' v, Chg (fun k => S1 k ∨ W.heap.size ≤ k) W2 w'' → (∃ S' : Nat → Prop, (∀ k, S' k → (S1 k ∨ W.heap.size ≤ k) ∧ k < w''.heap.size) ∧
        ∃ bo : Option Addr, BldAt w'' b5 bo (patL (pre ++ [((⟨k1, t1, m1, ps1⟩ : Nn), u1)])) ∧ (∀ k, S' k ↔ k = b5 ∨ bk bo k) ∧ Ext w w'' ∧ (∀ k, bk bo k → w4.heap.size ≤ k)) → K (.returned (.tuple ⟨[.int .i64 v, .nilIface]⟩)) w'') →
        Calls Tryz.prog F_strings_Builder_WriteString ⟨[.pointer (some ⟨b5, 0, none⟩), .string ⟨⟨s⟩⟩]⟩ W3 K := by
      rintro s W3 K rfl e3 hK
      have z3 := e3.size
      refine WriteString_spec (h1.ext e3) (by omega) fun a'' w'' hb'' hk'' hc'' => ?_
      have z'' := hc''.size
      have hSS : ∀ k, (k = b5 ∨ bk a'' k) → (S1 k ∨ W.heap.size ≤ k) ∧ k < w''.heap.size := fun k hk => by
        rcases hk with rfl | hk
        · exact ⟨.inl ((g2 _).2 (.inl rfl)), hb''.lt⟩
        · exact ⟨(hk'' k hk).elim (fun h => .inl ((g2 k).2 (.inr h))) (fun h => .inr (by omega)), (hb''.bk hk).2⟩
      refine hK w'' _ ((Chg.of_ext e3).trans (hc''.mono fun k _ hk => .inl ((g2 k).2 hk))) ⟨fun k => k = b5 ∨ bk a'' k, hSS, a'', ?_, fun k => Iff.rfl, ext_chgS (ext_trans E2' e3) hc'' fun k hk => hk.elim (fun h => by omega) (fun h => by have := g4 k h; omega), fun k hk => (hk'' k hk).elim (g4 k) (fun h => by omega)⟩
      rw [patL_snoc]; exact hb''
    refine ⟨k1, x0, br_split (fun q => ?_) (fun q => br_split (fun q' => ?_) (fun q' => ?_))⟩
    · exact ⟨t1, x1, wr _ _ _ (by simp [patN, q]) (Below.refl _ _) fun w'' v hc hS => ⟨_, _, rfl, hc, hS⟩⟩
    · have hm : 0 ≤ m1 ∧ m1 < 100 := hok.2.2.1 (by simp only [numsF]; rw [show k1 = 6 from q']; rfl)
      refine ⟨m1, x2, ?_⟩
      rw [show m1 = ((m1.toNat : Nat) : Int) by omega]
      refine Repeat_spec _ (by omega) fun W3 e3 => ⟨_, rfl, wr _ _ _ (by simp [patN, q, q']) e3 fun w'' v hc hS => ⟨_, _, rfl, hc, ?_⟩⟩
      rw [show ((m1.toNat : Nat) : Int) = m1 by omega]
      exact hS
    · refine ⟨Chg.refl _ _, S1, fun k hk => ⟨.inl hk, by have := (hS1 k hk).1; omega⟩, bo, ?_, g2, E2', g4⟩
      rw [patL_snoc, show patN ⟨k1, t1, m1, ps1⟩ = [] by simp [patN, q, q'], List.append_nil]; exact h1
  · rintro D S1 W hD1 hD2 hD3 hD4 ⟨bo, g1, g2, g3, g4⟩
    rw [patL_nodes] at g1
    have hDb : some D ≠ some b5 := fun e => by have e' := Option.some.inj e; omega
    refine String_spec' g1 fun w5 hbel hok => ⟨_, rfl, retD_one (D := D) (hok D _ hD4 hDb (fun _ _ e => by cases e)) ?_⟩
    have Ew : Ext w w5 := g3.trans (hbel.mono (by omega))
    exact h _ (ext_put Ew (by omega) _)

/- Pattern -/
def patE (f : Fo) : Int := if errU f ≠ 0 then errU f else if 65536 < (patF f).length then 4 else 0
def patS (f : Fo) : List UInt8 := if patE f ≠ 0 then [] else patF f
theorem errU_zero {f : Fo} (h : errU f = 0) : checkT f = 0 ∧ cleanF f = true := by
  unfold errU at h
  split at h
  · cases h
  · rename_i h1
    split at h
    · rename_i h2; exact ⟨Decidable.not_not.1 h1, h2⟩
    · cases h
theorem Pattern_spec {R : Ending → World → Prop} {S : Nat → Prop} {w : World} {a : Option Addr} {n c : Nat} (f : Fo) (hs : small f) (hF : Forms w) (hf0 : SlF S w a n f)
    (h : ∀ w', Ext w w' → R (.returned (.tuple ⟨[.string ⟨⟨patS f⟩⟩, .int .i64 (patE f)]⟩)) w') : Calls Tryz.prog F_legibility_Pattern ⟨[.slice a n c]⟩ w R := by
  apply c_legibility_Pattern
  unfold patS patE at h
  refine checkL_spec f hs hF hf0 fun w1 e1 => ⟨_, rfl, br_split (fun g => ?_) (fun g => ?_)⟩
  · simp only [if_pos g] at h; exact h _ e1
  simp only [if_neg g] at h
  obtain ⟨hc0, _⟩ := errU_zero (Decidable.not_not.1 g)
  obtain ⟨q1, q2, q3⟩ := check_zero hc0
  refine pattern_spec f (by omega) q2 (by omega) (hf0.ext e1) fun w2 e2 => ⟨_, rfl, ?_⟩
  apply c_legibility_limited
  have E := ext_trans e1 e2
  refine br_split (fun g1 => ⟨_, _, rfl, ?_⟩) (fun g1 => ⟨_, _, rfl, ?_⟩)
  · simp only [if_pos (show 65536 < (patF f).length by omega)] at h; exact h _ E
  · simp only [if_neg (show ¬ 65536 < (patF f).length by omega)] at h; exact h _ E
end Go.Proofs
namespace Go.Proofs
open Go Go.Sh Go.RowKit

theorem nodesF_appU (f g : Fo) : nodesF (f.app g) = nodesF f ++ nodesF g := by
  induction f with
  | nil => rfl
  | cons k t n ps r _ ih => simp only [Fo.cons_app, nodesF, ih, List.append_assoc, List.cons_append]
theorem patF_app (f g : Fo) : patF (f.app g) = patF f ++ patF g := by unfold patF; rw [nodesF_appU, List.flatMap_append]
theorem patF_cons (k t n) (ps r : Fo) : patF (.cons k t n ps r) = patN ⟨k, t, n, ps⟩ ++ (patF ps ++ patF r) := by
  simp [patF, nodesF]
theorem cleanF_cons (k t n) (ps r : Fo) : cleanF (.cons k t n ps r) = (cleanN ⟨k, t, n, ps⟩ && (cleanF ps && cleanF r)) := by
  simp [cleanF, nodesF, List.all_append]

theorem clean12_spec {S : Nat → Prop} : ∀ (f : Fo) {R : Ending → World → Prop} {w : World} {a : Option Addr} {n c : Nat} (hs : small f) (hf : SlF S w a n f)
    (h : ∀ w', Ext w w' → R (.returned (.bool (cleanF f))) w'), Calls Tryz.prog F_ref12_clean ⟨[.slice a n c]⟩ w R := by
  intro f
  induction hz : f.size using Nat.strongRecOn generalizing f with
  | _ z ih =>
  intro R w a n c hs hf h
  unfold small at hs
  apply c_ref12_clean
  have hn := hf.1
  have hfl := f.len_le_size
  refine ⟨fun i W m => ∃ (pre r : Fo), f = pre.app r ∧ i = pre.len ∧ m = r.len ∧ Ext w W ∧ cleanF f = cleanF r, ⟨_, .nil, f, rfl, rfl, rfl, Below.refl _ _, rfl⟩, ?_⟩
  rintro _ W m ⟨pre, r, hpr, rfl, rfl, he, heq⟩ _
  refine br_split (fun hlt => ?_) (fun hge => ?_)
  · obtain ⟨kd, t, mm, ps, r, rfl⟩ := Fo.next hpr (by omega)
    have hsl := Fo.sub_len hpr
    have hsz := Fo.sub_size hpr
    obtain ⟨q, a', c', hq, hSq, hql, hN⟩ := (hf.ext he).get hpr
    rw [cleanF_cons] at heq
    have fl : cleanF f = false → ∀ W', Ext w W' → R (.returned (.bool false)) W' := fun e W' he' => by rw [e] at h; exact h _ he'
    refine hq _ ⟨kd, hN.kind, br_split (fun g => fl (by rw [heq]; simp [cleanN, g]) _ he) (fun g => hq _ ⟨kd, hN.kind, br_split (fun g' => fl (by rw [heq]; simp [cleanN, g']) _ he) (fun g' => hq _ ⟨a', ps.len, c', hN.parts, ?_⟩)⟩)⟩
    have e : cleanF f = (cleanF ps && cleanF r) := by rw [heq]; simp [cleanN, g, g']
    refine ih _ (hz ▸ hsz) ps rfl (by unfold small; omega) hN.sl fun w' he' => ⟨_, rfl, ?_⟩
    cases hp : cleanF ps with
    | false => exact fl (by rw [e, hp]; rfl) _ (ext_trans he he')
    | true => exact ⟨r.len, by simp, pre.app (.one kd t mm ps), r, by rw [Fo.app_one_app]; exact hpr, by rw [wrap_nat (by omega)]; simp [Fo.one], rfl, ext_trans he he', by rw [e, hp]; rfl⟩
  · obtain ⟨rfl, rfl⟩ := Fo.last hpr (by omega)
    have := h _ he
    rw [heq] at this
    exact this

theorem check12_spec {R : Ending → World → Prop} {S : Nat → Prop} {w : World} {a : Option Addr} {n c : Nat} (f : Fo) (hf : SlF S w a n f)
    (h : ∀ w', Ext w w' → R (.returned (.int .i64 (errU f))) w') : Calls Tryz.prog F_ref12_check ⟨[.slice a n c]⟩ w R := by
  apply c_ref12_check
  unfold errU at h
  refine Check10_spec f hf fun w1 e1 => ⟨_, rfl, br_split (fun g => ?_) (fun g => ?_)⟩
  · rw [if_pos g] at h; exact h _ e1
  rw [if_neg g] at h
  obtain ⟨q1, _⟩ := check_zero (Decidable.not_not.1 g)
  refine clean12_spec f (by unfold small; omega) (hf.ext e1) fun w2 e2 => ⟨_, rfl, ?_⟩
  have E := ext_trans e1 e2
  cases hc : cleanF f with
  | true => rw [hc] at h; exact h _ E
  | false => rw [hc] at h; exact h _ E

end Go.Proofs
namespace Go.Sh
open Go Go.RowKit

/- entering a round: the loop's variable is laid, the record turns -/
theorem round_in {W : World} {T : TypeId} {zs vs : List Value} {l : Nat} {B : Addr → World → World → Prop} (hl : l < W.heap.size) (hlen : vs.length = zs.length) (ho : ∀ v ∈ vs, v.oneCell' = true)
    (h : ∀ bx W1 W2, bx = W.heap.size → Ext W W1 → Blk W2 bx vs T → Chg (fun k => k = l) W W2 → W2.heap.size = bx + 1 → B ⟨bx, 0, none⟩ W1 W2) :
    al W T zs fun p w1 => stL w1 p 0 vs fun w2 => Ext W w2 ∧ ∀ W2 : World, Upd l w2 W2 → B p w2 W2 := by
  refine al_stL hlen ho fun bx w1 hbx hBx e2 s2 => ⟨e2, fun W2 hU => ?_⟩
  have zU := hU.size
  have hUc : Chg (fun k => k = l) w1 W2 := ⟨hU.os, hU.tape, hU.output, by omega, fun k _ hk => hU.block k hk⟩
  exact h bx w1 W2 hbx e2 (hBx.keep (hU.block bx (by omega))) ((Chg.of_ext e2).trans hUc) (by omega)

/- a loop over an iterator that counts in one cell -/
theorem RFw_count {α : Type} {P : Program} {N : Nat} {g : Operand} {ps : Array Tmp} {assign body : Code} {env : Env} {ds : List Deferred} {w : World} {x : Nat} {Qn Qr Qx : List Deferred → World → Prop}
    (xA xB : Ann) {gf : FuncId} {cap : List Value} (hg : ev env g = .func (.func gf) ⟨[]⟩ ⟨cap⟩) (hok : okFn P gf = true)
    {xs : List α} {E : α → List Value → Prop} {Rd : Nat → Prop} (hit : ∀ w1, Ext w w1 → IterO P gf cap xs E Rd w1)
    (hps : ∀ y vs, E y vs → vs.length = ps.size) (hpN : ∀ p ∈ ps.toList, p < N)
    (hRd : ∀ k, Rd k → k < w.heap.size) {w0 : World} (hw0 : Ext w0 w) {b5 : Nat} {T5 : TypeId} (h0 : w0.heap.size ≤ b5) (hn5 : ¬ Rd b5) (val : List α → Int) (B5 : Blk w b5 [.int .i64 (val [])] T5)
    (hround : ∀ pre y vs W l, E y vs → pre ++ [y] <+: xs → w.heap.size ≤ l → l < W.heap.size → b5 ≠ l → Blk W b5 [.int .i64 (val pre)] T5 → Ext w0 W →
      ∀ Kn Kr Kx : World → World → Prop, (∀ W2 W', Ext w0 W2 → Chg (fun k => k = b5) W2 W' → Blk W' b5 [.int .i64 (val (pre ++ [y]))] T5 → Kn W2 W') → fragV P N xA xB assign body l x Kn Kr Kx (updPs ps.toList vs env) W)
    (hn : ∀ D W, w.heap.size ≤ D → D < W.heap.size → b5 ≠ D → W.heap[D]? = some (.deferred (some [])) → Blk W b5 [.int .i64 (val xs)] T5 → Ext w0 W → Qn ({ target := .collected D, args := #[] } :: ds) W) :
    RFw P none N (.rangeFunc g ps assign body) env ds w x Qn Qr Qx := by
  have l5 := B5.lt
  refine RFw_lawO xA xB hg hok (xs := xs) (E := E) (Rd := Rd) hit hps hpN hRd (fun k => k = b5) (fun k hk => ⟨hk ▸ l5, hk ▸ hn5⟩)
    (fun pre S1 W => Blk W b5 [.int .i64 (val pre)] T5 ∧ (∀ k, S1 k ↔ k = b5) ∧ Ext w0 W) (fun _ _ => False) (fun _ _ => False)
    ?_ (fun _ _ _ h => h.elim) (fun _ _ _ h => h.elim) ⟨B5, fun k => Iff.rfl, hw0⟩ ?_ ?_ (fun _ _ _ _ _ _ _ h => h.elim) (fun _ _ _ _ _ _ _ h => h.elim)
  · rintro pre S1 W W' ⟨g1, g2, g3⟩ hc
    have z := hw0.size
    refine ⟨hc.blk g1 (fun hh => hh.2 ((g2 _).2 rfl)), g2, ?_⟩
    exact g3.trans ⟨hc.os, hc.tape, hc.output, hc.size, fun k hk => hc.block k (Nat.lt_of_lt_of_le hk g3.size) (fun hh => by have := hh.1; omega)⟩
  · rintro pre y vs S1 W l hE hpre hl1 hl2 hl3 hS1 ⟨g1, g2, g3⟩
    have nl : b5 ≠ l := fun he => hl3 ((g2 l).2 he.symm)
    refine hround pre y vs W l hE hpre hl1 hl2 nl g1 g3 _ _ _ fun W2 W' he hc hb => ⟨hc.mono fun k _ hk => .inl ((g2 k).2 hk), fun k => k = b5, fun k hk => ⟨.inl ((g2 k).2 hk), hk ▸ hb.lt⟩, hb, fun k => Iff.rfl, ?_⟩
    exact he.trans ⟨hc.os, hc.tape, hc.output, hc.size, fun k hk => hc.block k (Nat.lt_of_lt_of_le hk he.size) (fun hh => by omega)⟩
  · rintro D S1 W hD1 hD2 hD3 hD4 ⟨g1, g2, g3⟩
    exact hn D W hD1 hD2 (fun he => hD3 ((g2 D).2 he.symm)) hD4 g1 g3
end Go.Sh
namespace Go.Sh
open Go Go.RowKit

/- how the elements of a slice lie in cells -/
structure Enc (α : Type) where
  enc : α → List Value
  size : Nat
  len : ∀ x, (enc x).length = size
  pos : 0 < size
  one : ∀ x, ∀ v ∈ enc x, v.oneCell' = true
section
variable {α : Type} {E : Enc α}
def Enc.row (E : Enc α) (l : List α) : List Value := l.flatMap E.enc
@[simp] theorem row_nil : E.row [] = [] := rfl
theorem row_cons (x : α) (l : List α) : E.row (x :: l) = E.enc x ++ E.row l := rfl
theorem row_app (l m : List α) : E.row (l ++ m) = E.row l ++ E.row m := by simp [Enc.row]
theorem row_snoc (l : List α) (x : α) : E.row (l ++ [x]) = E.row l ++ E.enc x := by simp [Enc.row]
theorem row_len : ∀ l : List α, (E.row l).length = l.length * E.size
  | [] => by simp
  | x :: l => by rw [row_cons, List.length_append, E.len, row_len l, List.length_cons, Nat.add_mul, Nat.one_mul]; omega
theorem row_one (l : List α) : ∀ v ∈ E.row l, v.oneCell' = true := by
  intro v hv
  obtain ⟨x, _, hx⟩ := List.mem_flatMap.1 hv
  exact E.one x v hx
theorem row_get {x : α} : ∀ {l : List α} {i j : Nat}, l[i]? = some x → j < E.size → (E.row l)[i * E.size + j]? = (E.enc x)[j]?
  | [], i, j, h, _ => by simp at h
  | y :: l, 0, j, h, hj => by
    simp at h; subst h
    rw [row_cons, Nat.zero_mul, Nat.zero_add, List.getElem?_append_left (by rw [E.len]; exact hj)]
  | y :: l, i + 1, j, h, hj => by
    simp at h
    rw [row_cons, List.getElem?_append_right (by rw [E.len, Nat.add_mul, Nat.one_mul]; omega), E.len, show (i + 1) * E.size + j - E.size = i * E.size + j by rw [Nat.add_mul, Nat.one_mul]; omega]
    exact row_get h hj
theorem putAt_app : ∀ (vs : List Value) (a b : List Value) (o : Nat), putAt (a ++ b) (a.length + o) vs = a ++ putAt b o vs
  | [], a, b, o => rfl
  | v :: vs, a, b, o => by
    rw [putAt, putAt, List.set_append_right _ _ (by omega), show a.length + o - a.length = o by omega, Nat.add_assoc, putAt_app vs a (b.set o v) (o + 1)]
theorem putAt_head : ∀ (vs a : List Value) (rest : List Value), vs.length = a.length → putAt (a ++ rest) 0 vs = vs ++ rest := by
  intro vs a rest h
  apply List.ext_getElem?
  intro i
  rw [putAt_get]
  by_cases hi : i < vs.length
  · rw [if_pos ⟨by omega, by omega, by simp; omega⟩, List.getElem?_append_left (by omega)]; simp
  · rw [if_neg (by omega), List.getElem?_append_right (by omega), List.getElem?_append_right (by omega), h]
theorem row_put {x : α} {rest : List Value} : ∀ {l : List α} {i : Nat}, i < l.length → putAt (E.row l ++ rest) (i * E.size) (E.enc x) = E.row (l.set i x) ++ rest
  | [], i, h => by simp at h
  | y :: l, 0, h => by
    rw [Nat.zero_mul, row_cons, List.set_cons_zero, row_cons, List.append_assoc, putAt_head _ _ _ (by rw [E.len, E.len]), List.append_assoc]
  | y :: l, i + 1, h => by
    rw [row_cons, List.set_cons_succ, row_cons, List.append_assoc, List.append_assoc, show (i + 1) * E.size = (E.enc y).length + i * E.size by rw [E.len, Nat.add_mul, Nat.one_mul]; omega, putAt_app, row_put (by simpa using h)]

/- a slice that can be read -/
def RowAt (E : Enc α) (S : Nat → Prop) (w : World) (a : Option Addr) (n : Nat) (l : List α) : Prop := n = l.length ∧ At S w a (E.row l)
section
variable {S S' : Nat → Prop} {w w' : World} {a : Option Addr} {n : Nat} {l : List α}
theorem RowAt.keep (h : RowAt E S w a n l) (hs : ∀ k, S k → k < w.heap.size → S' k ∧ w'.heap[k]? = w.heap[k]?) (hz : w.heap.size ≤ w'.heap.size) : RowAt E S' w' a n l := ⟨h.1, h.2.keep hs hz⟩
theorem RowAt.ext (h : RowAt E S w a n l) (he : Ext w w') : RowAt E S w' a n l := h.keep (fun k hk hl => ⟨hk, he.block k hl⟩) he.size
theorem RowAt.chg {T : Nat → Prop} (h : RowAt E S w a n l) (he : Chg T w w') (hd : ∀ k, S k → ¬ T k) : RowAt E S w' a n l := h.keep (fun k hk hl => ⟨hk, he.block k hl (hd k hk)⟩) he.size
theorem RowAt.imp (h : RowAt E S w a n l) (hs : ∀ k, S k → k < w.heap.size → S' k) : RowAt E S' w a n l := h.keep (fun k hk hl => ⟨hs k hk hl, rfl⟩) (Nat.le_refl _)
theorem RowAt.nil (a : Option Addr) : RowAt E S w a 0 [] := ⟨rfl, .inl rfl⟩
theorem RowAt.get (h : RowAt E S w a n l) {i : Nat} {x : α} (hi : l[i]? = some x) :
    ∃ b o, (∀ K : Addr → Prop, K ⟨b, o, none⟩ → idx a n (i : Int) E.size K) ∧ S b ∧ b < w.heap.size ∧ ∀ j v, (E.enc x)[j]? = some v → w.cell? ⟨b, o + j, none⟩ = some v := by
  have hlt := (List.getElem?_eq_some_iff.1 hi).1
  have hn := h.1
  rcases h.2 with h2 | ⟨b, o, rfl, hb, hbl, hc⟩
  · have := congrArg List.length h2
    rw [row_len] at this
    simp only [List.length_nil] at this
    rcases Nat.mul_eq_zero.1 this with h | h
    · omega
    · have := E.pos; omega
  refine ⟨b, o + i * E.size, fun K hK => ⟨by omega, by omega, ?_⟩, hb, hbl, fun j v hj => ?_⟩
  · show K _
    rw [add_none, Int.toNat_natCast]; exact hK
  · rw [Nat.add_assoc]
    refine hc _ _ ?_
    rw [row_get hi (by have := (List.getElem?_eq_some_iff.1 hj).1; rw [E.len] at this; exact this)]; exact hj
end

/- a slice that the call has made -/
abbrev OwnL (E : Enc α) (w : World) (B : Nat) (e : TypeId) (a : Option Addr) (n c : Nat) (l : List α) : Prop := Owns w B e E.size a n c (E.row l)
section
variable {w w' : World} {B : Nat} {e : TypeId} {a : Option Addr} {n c : Nat} {l : List α}
theorem OwnL.length (h : OwnL E w B e a n c l) : l.length = n := by
  have := h.len
  rw [row_len] at this
  exact Nat.eq_of_mul_eq_mul_right E.pos this
theorem OwnL.out (h : OwnL E w B e a n c l) : RowAt E (bk a) w a n l := by
  refine ⟨h.length.symm, ?_⟩
  by_cases hn : 0 < n
  · obtain ⟨g, rfl, hg, hc⟩ := h.cell hn
    exact .inr ⟨g, 0, rfl, by simp [bk], (h.bk (by simp [bk])).2, fun j v hj => by rw [Nat.zero_add]; exact hc j v hj⟩
  · have hx : l = [] := List.eq_nil_of_length_eq_zero (by rw [h.length]; omega)
    subst hx
    exact .inl rfl
theorem OwnL.push {P : Program} {t ty : TypeId} {bytes : Nat} {z : Value} (hT : SlT P t e E.size bytes z) (h : OwnL E w B e a n c l) (hB : B ≤ w.heap.size) (x : α) (hlen : n + 1 ≤ 4611686018427387904) (hbytes : (n + 1) * bytes ≤ 140737488355328) {K : Option Addr → Nat → Nat → World → Prop}
    (hk : ∀ a' c'' w', OwnL E w' B e a' (n + 1) c'' (l ++ [x]) → Chg (bk a) w w' → (∀ k, bk a' k → bk a k ∨ w.heap.size ≤ k) → K a' (n + 1) c'' w') :
    al w e (E.enc x) fun p w1 => app P [t, t] ty (.slice a n c) (.slice (some p) 1 1) w1 K :=
  app_one2 hT h hB _ (E.len x) (E.one x) hlen hbytes fun a' c'' w' ho hc hn => hk a' c'' w' (by unfold OwnL; rw [row_snoc]; exact ho) hc hn
theorem OwnL.pushAll {P : Program} {t ty : TypeId} {bytes : Nat} {z : Value} (hT : SlT P t e E.size bytes z) (h : OwnL E w B e a n c l) (hB : B ≤ w.heap.size) {S : Nat → Prop} {a1 : Option Addr} {m c1 : Nat} {l' : List α} (hg : RowAt E S w a1 m l') (hlen : n + m ≤ 4611686018427387904) (hbytes : (n + m) * bytes ≤ 140737488355328) {K : Option Addr → Nat → Nat → World → Prop}
    (hk : ∀ a' c'' w', OwnL E w' B e a' (n + m) c'' (l ++ l') → Chg (bk a) w w' → (∀ k, bk a' k → bk a k ∨ w.heap.size ≤ k) → K a' (n + m) c'' w') :
    app P [t, t] ty (.slice a n c) (.slice a1 m c1) w K :=
  app_own2 hT h hB (E.row l') (by rw [row_len, ← hg.1]) hg.2 (row_one l') hlen hbytes fun a' c'' w' ho hc hn => hk a' c'' w' (by unfold OwnL; rw [row_app]; exact ho) hc hn
/- writing one element -/
theorem OwnL.store (h : OwnL E w B e a n c l) {i : Nat} (hi : i < n) (x : α) :
    ∃ g, a = some ⟨g, 0, none⟩ ∧ (∀ K : Addr → Prop, K ⟨g, i * E.size, none⟩ → idx a n (i : Int) E.size K) ∧
      ∀ K : World → Prop, (∀ w', OwnL E w' B e a n c (l.set i x) → Chg (bk a) w w' → w'.heap.size = w.heap.size → K w') → stL w ⟨g, i * E.size, none⟩ 0 (E.enc x) K := by
  have hl := h.length
  rcases h.2 with h1 | ⟨g, cap, cur, e1, e2, e3, e4, e5, e6, e7⟩
  · omega
  obtain ⟨rfl, _, rfl⟩ : a = some ⟨g, 0, none⟩ ∧ True ∧ c = cap := by simpa using e1
  have hB : Blk w g cur.toList e := e3
  have hcl : cur.toList.length = c * E.size := by simpa using e6
  have hcur : cur.toList = E.row l ++ cur.toList.drop (n * E.size) := by rw [← e7, List.take_append_drop]
  have hin : i * E.size + E.size ≤ n * E.size := by
    have : (i + 1) * E.size ≤ n * E.size := Nat.mul_le_mul_right _ hi
    rwa [Nat.add_mul, Nat.one_mul] at this
  have hnc : n * E.size ≤ c * E.size := Nat.mul_le_mul_right _ e4
  refine ⟨g, rfl, fun K hK => ⟨by omega, by omega, ?_⟩, fun K hK => ?_⟩
  · show K _
    rw [add_none, Int.toNat_natCast, Nat.zero_add]; exact hK
  refine stL_blk hB (by rw [E.len]; omega) (E.one x) fun w' b1 b2 b3 b4 b5 b6 => ?_
  have hc : Chg (bk (some (⟨g, 0, none⟩ : Addr))) w w' := ⟨b4, b5, b6, by omega, fun k' _ hk => b2 k' fun e => hk (by simp [bk, e])⟩
  rw [Nat.add_zero, hcur, row_put (by omega)] at b1
  refine hK w' ⟨by rw [row_len, List.length_set, hl], .inr ⟨g, c, ⟨_⟩, rfl, e2, b1, e4, e5, ?_, ?_⟩⟩ hc b3
  · show (E.row (l.set i x) ++ cur.toList.drop (n * E.size)).length = c * E.size
    rw [List.length_append, List.length_drop, hcl, row_len, List.length_set, hl]; omega
  · show List.take (n * E.size) (E.row (l.set i x) ++ _) = _
    rw [List.take_append_of_le_length (by rw [row_len, List.length_set, hl]; exact Nat.le_refl _), List.take_of_length_le (by rw [row_len, List.length_set, hl]; exact Nat.le_refl _)]
end

/- making a row of zeros -/
theorem mks_intro {w : World} {elem : TypeId} {bytes : Nat} {zero : List Value} {l c : Nat} {K : Addr → World → Prop} (hlc : l ≤ c) (hb : bytes * c ≤ 140737488355328)
    (h : ∀ b w', b = w.heap.size → Blk w' b (List.replicate c zero).flatten elem → Ext w w' → w'.heap.size = b + 1 → K ⟨b, 0, none⟩ w') : mks w elem bytes zero (l : Int) (c : Int) K := by
  refine ⟨by omega, by omega, by rw [← Int.natCast_mul]; exact Int.ofNat_le.2 hb, ?_⟩
  refine h _ _ rfl ?_ ((Below.refl _ w).alloc (Nat.le_refl _) _) (by simp)
  rw [Int.toNat_natCast]
  exact Blk.new w _ _
theorem row_replicate (x : α) (n : Nat) : E.row (List.replicate n x) = (List.replicate n (E.enc x)).flatten := by
  induction n with
  | zero => rfl
  | succ n ih => rw [List.replicate_succ, row_cons, ih, List.replicate_succ, List.flatten_cons]
theorem OwnL.made {w : World} {b B : Nat} {e : TypeId} {x : α} {n : Nat} (h : Blk w b (List.replicate n (E.enc x)).flatten e) (hB : B ≤ b) (hn : n ≤ maxLen) : OwnL E w B e (some ⟨b, 0, none⟩) n n (List.replicate n x) := by
  rw [← row_replicate] at h
  refine ⟨by rw [row_len, List.length_replicate], .inr ⟨b, n, _, rfl, hB, h, Nat.le_refl _, hn, ?_, ?_⟩⟩
  · show (E.row (List.replicate n x)).length = n * E.size
    rw [row_len, List.length_replicate]
  · show List.take _ (E.row _) = _
    rw [List.take_of_length_le (by rw [row_len, List.length_replicate]; exact Nat.le_refl _)]
end

/- the elements that occur -/
def encI : Enc Int := ⟨fun i => [.int .i64 i], 1, fun _ => rfl, by decide, by intro x v hv; simp only [List.mem_singleton] at hv; subst hv; rfl⟩
def encStr : Enc (List UInt8) := ⟨fun s => [.string ⟨⟨s⟩⟩], 1, fun _ => rfl, by decide, by intro x v hv; simp only [List.mem_singleton] at hv; subst hv; rfl⟩
structure Edit where
  at_ : Int
  len : Int
  text : List UInt8
def encE : Enc Edit := ⟨fun x => [.int .i64 x.at_, .int .i64 x.len, .string ⟨⟨x.text⟩⟩], 3, fun _ => rfl, by decide, by intro x v hv; simp only [List.mem_cons, List.not_mem_nil, or_false] at hv; rcases hv with rfl | rfl | rfl <;> rfl⟩
end Go.Sh
namespace Go.Proofs
open Go Go.Sh Go.RowKit

/- the lost characters -/
def lostN (x : Nn) : Int := if x.k = 6 then x.n else 0
def lostL (l : List Nn) : Int := (l.map lostN).foldr (· + ·) 0
theorem lostL_app : ∀ (l m : List Nn), lostL (l ++ m) = lostL l + lostL m
  | [], m => by simp [lostL]
  | x :: l, m => by have := lostL_app l m; unfold lostL at this ⊢; simp only [List.cons_append, List.map_cons, List.foldr_cons, this]; omega
def lostF (f : Fo) : Int := lostL (nodesF f)
theorem lostL_bd : ∀ (l : List Nn), (∀ x ∈ l, x.k = 6 → 0 ≤ x.n ∧ x.n < 100) → 0 ≤ lostL l ∧ lostL l ≤ 100 * l.length
  | [], _ => by simp [lostL]
  | x :: l, h => by
    have h1 := lostL_bd l fun y hy => h y (by simp [hy])
    have h2 : 0 ≤ lostN x ∧ lostN x ≤ 100 := by
      unfold lostN; split
      · rename_i h6; have := h x (by simp) h6; omega
      · omega
    have e : lostL (x :: l) = lostN x + lostL l := rfl
    rw [e, List.length_cons]; omega
theorem good_num {f : Fo} (hg : good f) : ∀ x ∈ nodesF f, x.k = 6 → 0 ≤ x.n ∧ x.n < 100 := fun x hx h6 => (good_nodes f hg x hx).2.2.1 (by simp only [numsF]; rw [h6]; rfl)
theorem lostF_bd {f : Fo} (hg : good f) : 0 ≤ lostF f ∧ lostF f ≤ 100 * f.size := by
  have := lostL_bd (nodesF f) (good_num hg); rw [nodesF_len] at this; exact this
def losR (f : Fo) : Int := if errU f ≠ 0 then 0 else lostF f
theorem fst_prefix {pre : List (Nn × Bool)} {f : Fo} (h : pre <+: nodesU f false) : pre.map (·.1) <+: nodesF f := by
  rw [← nodesU_fst f false]; exact h.map _
end Go.Proofs
namespace Go.Proofs
open Go Go.Sh Go.RowKit

/- the unclear characters -/
def unN (x : Nn × Bool) : Int := if x.1.k = 1 ∧ x.2 = true then (x.1.t.length : Int) else 0
def unL (l : List (Nn × Bool)) : Int := (l.map unN).foldr (· + ·) 0
theorem unL_app : ∀ (l m : List (Nn × Bool)), unL (l ++ m) = unL l + unL m
  | [], m => by simp [unL]
  | x :: l, m => by have := unL_app l m; unfold unL at this ⊢; simp only [List.cons_append, List.map_cons, List.foldr_cons, this]; omega
theorem unL_one (x : Nn × Bool) : unL [x] = unN x := by simp [unL]
theorem unN_pos (x : Nn × Bool) : 0 ≤ unN x := by unfold unN; split <;> omega
theorem unL_pos : ∀ l : List (Nn × Bool), 0 ≤ unL l
  | [] => by simp [unL]
  | x :: l => by
    have h1 := unL_pos l
    have h2 := unN_pos x
    have e : unL (x :: l) = unN x + unL l := rfl
    omega
theorem unL_nodes : ∀ (f : Fo) (u : Bool), unL (nodesU f u) ≤ tlen f
  | .nil, u => by simp [nodesU, unL, tlen]
  | .cons k t n ps r, u => by
    have h1 := unL_nodes ps (u || decide (k = 7))
    have h2 := unL_nodes r u
    have e : unL (nodesU (.cons k t n ps r) u) = unN (⟨k, t, n, ps⟩, u) + (unL (nodesU ps (u || decide (k = 7))) + unL (nodesU r u)) := by
      rw [nodesU, ← unL_app]; rfl
    have h3 : unN (⟨k, t, n, ps⟩, u) ≤ t.length := by unfold unN; split <;> simp
    rw [e]; simp only [tlen]; omega
theorem unL_prefix {pre l : List (Nn × Bool)} (h : pre <+: l) : unL pre ≤ unL l := by
  obtain ⟨s, rfl⟩ := h
  rw [unL_app]; have := unL_pos s; omega
def unF (f : Fo) : Int := unL (nodesU f false)
def uncR (f : Fo) : Int := if errU f ≠ 0 then 0 else unF f
/- the reference -/
theorem unN_split (k t n) (ps : Fo) (u : Bool) : unN (⟨k, t, n, ps⟩, u) = if u = true ∧ k = 1 then (t.length : Int) else 0 := by
  unfold unN; by_cases h1 : k = 1 <;> by_cases h2 : u = true <;> simp [h1, h2]
def sumI (l : List Int) : Int := l.foldr (· + ·) 0
def gapL (f : Fo) : List Int := ((nodesF f).filter fun x => decide (x.k = 6)).map (·.n)
theorem gapL_cons (k t n) (ps r : Fo) : gapL (.cons k t n ps r) = (if k = 6 then [n] else []) ++ (gapL ps ++ gapL r) := by
  unfold gapL
  rw [nodesF, List.filter_cons, List.filter_append]
  by_cases h : k = 6 <;> simp [h]
theorem gapL_app (f g : Fo) : gapL (f.app g) = gapL f ++ gapL g := by unfold gapL; rw [nodesF_appU, List.filter_append, List.map_append]
theorem gapL_len (f : Fo) : (gapL f).length ≤ f.size := by unfold gapL; rw [List.length_map, ← nodesF_len]; exact List.length_filter_le _ _
theorem gapL_sum (f : Fo) : sumI (gapL f) = lostF f := by
  unfold sumI gapL lostF lostL
  induction nodesF f with
  | nil => rfl
  | cons x l ih =>
    rw [List.filter_cons]
    by_cases h : x.k = 6
    · simp [h, lostN, ih]
    · simp [h, lostN, ih]
theorem slT_gap : SlT Tryz.prog 57 3 1 8 (.int .i64 0) := ⟨by kernel_rfl, by kernel_rfl, rfl, by decide⟩
set_option maxRecDepth 20000 in
theorem gaps12_spec {S : Nat → Prop} : ∀ (f : Fo) {R : Ending → World → Prop} {w : World} {a : Option Addr} {n c : Nat} (hs : f.size ≤ 1000000) (hf : SlF S w a n f)
    (h : ∀ a' c' w', RowAt encI (fun k => w.heap.size ≤ k) w' a' (gapL f).length (gapL f) → Ext w w' → R (.returned (.slice a' (gapL f).length c')) w'),
    Calls Tryz.prog F_ref12_gaps ⟨[.slice a n c]⟩ w R := by
  intro f
  induction hz : f.size using Nat.strongRecOn generalizing f with
  | _ z ih =>
  intro R w a n c hs hf h
  apply c_ref12_gaps
  have hn := hf.1
  have hfl := f.len_le_size
  refine al_intro fun b2 w3 hb2 B2 e3 s3 => ?_
  refine ⟨fun oa on oc i W m => ∃ (pr r : Fo), f = pr.app r ∧ i = pr.len ∧ m = r.len ∧ OwnL encI W w.heap.size 3 oa on oc (gapL pr) ∧ Ext w W,
    ⟨_, .nil, f, rfl, rfl, rfl, Owns.made (B2) (by omega), e3⟩, ?_⟩
  rintro oa on oc _ W m ⟨pr, r, hpr, rfl, rfl, hL, he⟩ _
  refine br_split (fun hlt => ?_) (fun hge => ?_)
  · obtain ⟨k, t, mm, ps, r, rfl⟩ := Fo.next hpr (by omega)
    have hsl := Fo.sub_len hpr
    have hsz := Fo.sub_size hpr
    have e1 : f = (pr.app (.one k t mm ps)).app r := by rw [Fo.app_one_app]; exact hpr
    have hsz2 : (pr.app (.one k t mm ps)).size ≤ f.size := by have hh := Fo.size_app (pr.app (.one k t mm ps)) r; rw [← e1] at hh; omega
    have p1 := gapL_len (pr.app (.one k t mm ps))
    have o1 : gapL (.one k t mm ps) = (if k = 6 then [mm] else []) ++ gapL ps := by unfold Fo.one; rw [gapL_cons]; simp [gapL, nodesF]
    rw [gapL_app, List.length_append, o1, List.length_append] at p1
    obtain ⟨q, a', c', hq, hSq, hql, hN⟩ := (hf.ext he).get hpr
    intro K11 hK11
    have k11 : ∀ oa2 on2 oc2 W2, OwnL encI W2 w.heap.size 3 oa2 on2 oc2 (gapL pr ++ (if k = 6 then [mm] else [])) → Ext w W2 → K11 oa2 on2 oc2 W2 := by
      rintro oa2 on2 oc2 W2 hL2 he'
      refine hK11 _ _ _ _ fun _ => ?_
      obtain ⟨q', a'', c'', hq', hSq', hql', hN'⟩ := (hf.ext he').get hpr
      refine hq' _ ⟨a'', ps.len, c'', hN'.parts, ?_⟩
      refine ih _ (hz ▸ hsz) ps rfl (by omega) hN'.sl fun a3 c3 w18 hr3 e18 => ⟨_, _, _, rfl, ?_⟩
      have hl2 := OwnL.length hL2
      rw [List.length_append] at hl2
      refine OwnL.pushAll (E := encI) slT_gap (Owns.ext hL2 e18) (by have := he'.size; have := e18.size; omega) hr3 (by omega) (by omega) fun a4 c4 w22 ho hc22 hn22 => ?_
      refine ⟨r.len, by simp, pr.app (.one k t mm ps), r, e1, by rw [wrap_nat (by omega)]; simp [Fo.one], rfl, ?_, ?_⟩
      · rw [gapL_app, o1, ← List.append_assoc]; exact ho
      · exact ext_chgS (ext_trans he' e18) hc22 fun k hk => (Owns.bk hL2 hk).1
    refine hq _ ⟨k, hN.kind, br_split (fun g => ?_) (fun g => ?_)⟩
    · refine hq _ ⟨mm, hN.num, ?_⟩
      have hl1 := OwnL.length hL
      refine OwnL.push (E := encI) slT_gap hL (by have := he.size; omega) mm (by omega) (by omega) fun a4 c4 w31 ho hc31 hn31 => ?_
      exact k11 _ _ _ _ (by rw [if_pos g]; exact ho) (ext_chgS he hc31 fun j hj => (Owns.bk hL hj).1)
    · exact k11 _ _ _ _ (by rw [if_neg g, List.append_nil]; exact hL) he
  · obtain ⟨rfl, rfl⟩ := Fo.last hpr (by omega)
    have hl := OwnL.length hL
    have ho := hL.out.imp (S' := fun k => w.heap.size ≤ k) fun k hk _ => (Owns.bk hL hk).1
    rw [← hl] at ho ⊢
    exact h oa oc W ho he
theorem sum_take {l : List Int} {k : Nat} {x : Int} (h : l[k]? = some x) : sumI (l.take (k + 1)) = sumI (l.take k) + x := by
  unfold sumI
  have key : ∀ (m : List Int) (y : Int), (m ++ [y]).foldr (· + ·) 0 = m.foldr (· + ·) 0 + y := by
    intro m y
    induction m with
    | nil => simp
    | cons z m ih => simp only [List.cons_append, List.foldr_cons, ih]; omega
  rw [List.take_add_one, h]; exact key _ _
theorem sum_bd : ∀ (l : List Int), (∀ x ∈ l, 0 ≤ x ∧ x < 100) → ∀ k : Nat, 0 ≤ sumI (l.take k) ∧ sumI (l.take k) ≤ 100 * l.length
  | [], _, k => by simp [sumI]
  | x :: l, h, 0 => by simp [sumI]; omega
  | x :: l, h, k + 1 => by
    have h1 := sum_bd l (fun y hy => h y (by simp [hy])) k
    have h2 := h x (by simp)
    simp only [sumI, List.take_succ_cons, List.foldr_cons, List.length_cons] at h1 ⊢; omega
end Go.Proofs
namespace Go.Proofs
open Go Go.Sh Go.RowKit

/- positions -/
abbrev Ps := List UInt8 × Int
def encP : Enc Ps := ⟨fun x => [.string ⟨⟨x.1⟩⟩, .int .i64 x.2], 2, fun _ => rfl, by decide, by intro x v hv; simp only [List.mem_cons, List.not_mem_nil, or_false] at hv; rcases hv with rfl | rfl <;> rfl⟩
def posN (at_ : Ps) (x : Nn) : Ps × Nat :=
  if x.k = 1 then (at_, x.t.length) else if x.k = 6 then (at_, x.n.toNat) else if x.k = 3 then ((x.t, 0), 0) else if x.k = 2 then ((at_.1, at_.2 + 1), 0) else (at_, 0)
def posL : Ps → List Nn → List Ps
  | _, [] => []
  | p, x :: l => List.replicate (posN p x).2 (posN p x).1 ++ posL (posN p x).1 l
def endL : Ps → List Nn → Ps
  | p, [] => p
  | p, x :: l => endL (posN p x).1 l
theorem posL_app : ∀ (l : List Nn) (p : Ps) (m : List Nn), posL p (l ++ m) = posL p l ++ posL (endL p l) m
  | [], _, _ => rfl
  | x :: l, p, m => by simp only [List.cons_append, posL, endL, posL_app l, List.append_assoc]
theorem endL_app : ∀ (l : List Nn) (p : Ps) (m : List Nn), endL p (l ++ m) = endL (endL p l) m
  | [], _, _ => rfl
  | x :: l, p, m => by simp only [List.cons_append, endL, endL_app l]
theorem posN_len (p : Ps) (x : Nn) : (posN p x).2 = (patN x).length := by
  unfold posN patN
  split
  · rfl
  · split
    · simp
    · split
      · rfl
      · split <;> rfl
theorem posL_len : ∀ (l : List Nn) (p : Ps), (posL p l).length = (l.flatMap patN).length
  | [], _ => rfl
  | x :: l, p => by simp only [posL, List.length_append, List.length_replicate, List.flatMap_cons, posL_len l, posN_len]
theorem posL_pat (p : Ps) (f : Fo) : (posL p (nodesF f)).length = (patF f).length := posL_len _ _
theorem endL_bd : ∀ (l : List Nn) (p : Ps) (B : Int), 0 ≤ p.2 → p.2 ≤ B → 0 ≤ B → 0 ≤ (endL p l).2 ∧ (endL p l).2 ≤ B + l.length
  | [], p, B, h0, h1, h2 => ⟨h0, by simp [endL]; omega⟩
  | x :: l, p, B, h0, h1, h2 => by
    rw [endL]
    have key : 0 ≤ (posN p x).1.2 ∧ (posN p x).1.2 ≤ B + 1 := by
      unfold posN
      split
      · exact ⟨h0, by show p.2 ≤ _; omega⟩
      · split
        · exact ⟨h0, by show p.2 ≤ _; omega⟩
        · split
          · exact ⟨Int.le_refl _, by show (0 : Int) ≤ _; omega⟩
          · split
            · exact ⟨by show 0 ≤ p.2 + 1; omega, by show p.2 + 1 ≤ _; omega⟩
            · exact ⟨h0, by show p.2 ≤ _; omega⟩
    have := endL_bd l (posN p x).1 (B + 1) key.1 key.2 (by omega)
    exact ⟨this.1, by simp only [List.length_cons]; omega⟩

structure PTo (b6 b10 : Nat) (oa : Option Addr) (W : World) (oa' : Option Addr) (W' : World) : Prop where
  chg : Chg (fun j => j = b6 ∨ j = b10 ∨ bk oa j) W W'
  bk : ∀ k, Sh.bk oa' k → Sh.bk oa k ∨ W.heap.size ≤ k
section
variable {b6 b10 B : Nat} {W W' W'' : World} {oa oa' oa'' : Option Addr} {L : List Ps} {p : Ps}
theorem PTo.refl (W : World) (oa : Option Addr) : PTo b6 b10 oa W oa W := ⟨Chg.refl _ _, fun _ h => .inl h⟩
theorem PTo.trans (h6 : b6 < W.heap.size) (h10 : b10 < W.heap.size) (h : PTo b6 b10 oa W oa' W') (k : PTo b6 b10 oa' W' oa'' W'') : PTo b6 b10 oa W oa'' W'' :=
  ⟨chg_then h.chg k.chg fun i hi hh => hh.elim .inl fun hh => hh.elim (fun e => .inr (.inl e)) fun hh => (h.bk i hh).elim (fun e => .inr (.inr e)) (fun e => by omega),
   fun j hj => (k.bk j hj).elim (h.bk j) (fun e => .inr (Nat.le_trans h.chg.size e))⟩
theorem PTo.ext (h : Ext W W') : PTo b6 b10 oa W oa W' := ⟨Chg.of_ext h, fun _ h => .inl h⟩
end

end Go.Proofs
namespace Go.Proofs
open Go Go.Sh Go.RowKit

theorem blk2 {w : World} {b : Nat} {v0 v1 : Value} {T : TypeId} (h : Blk w b [v0, v1] T) : w.cell? ((⟨b, 0, none⟩ : Addr).add 0) = some v0 ∧ w.cell? ((⟨b, 0, none⟩ : Addr).add 1) = some v1 := by
  simp only [add_none, h.cell]; exact ⟨rfl, rfl⟩

end Go.Proofs
namespace Go.Proofs
open Go Go.Sh Go.RowKit

/- rows of successive equal positions -/
def runGo (L : List Ps) (x : Ps) : Nat → Nat → Nat
  | 0, j => j
  | m + 1, j => if L[j]? = some x then runGo L x m (j + 1) else j
def runE (L : List Ps) (i : Nat) : Nat := match L[i]? with
  | some x => runGo L x (L.length - (i + 1)) (i + 1)
  | none => i + 1
def rowsGo (L : List Ps) : Nat → Nat → List (Nat × Nat)
  | 0, _ => []
  | m + 1, i => if i < L.length then (i, runE L i) :: rowsGo L m (runE L i) else []
def rowsF (L : List Ps) : List (Nat × Nat) := rowsGo L L.length 0
theorem runGo_spec (L : List Ps) (x : Ps) : ∀ (m j : Nat), j ≤ L.length → m = L.length - j → j ≤ runGo L x m j ∧ runGo L x m j ≤ L.length ∧ (∀ k, j ≤ k → k < runGo L x m j → L[k]? = some x) ∧ (runGo L x m j < L.length → L[runGo L x m j]? ≠ some x)
  | 0, j, hj, hm => ⟨Nat.le_refl _, by rw [runGo]; exact hj, fun k h1 h2 => by rw [runGo] at h2; omega, fun h => by rw [runGo] at h; omega⟩
  | m + 1, j, hj, hm => by
    rw [runGo]
    by_cases h : L[j]? = some x
    · rw [if_pos h]
      obtain ⟨a, b, c, d⟩ := runGo_spec L x m (j + 1) (by omega) (by omega)
      refine ⟨by omega, b, fun k h1 h2 => ?_, d⟩
      by_cases hk : k = j
      · rw [hk]; exact h
      · exact c k (by omega) h2
    · rw [if_neg h]
      exact ⟨Nat.le_refl _, hj, fun k h1 h2 => by omega, fun _ => h⟩
theorem runE_spec {L : List Ps} {i : Nat} (hi : i < L.length) : i < runE L i ∧ runE L i ≤ L.length ∧ (∀ k, i ≤ k → k < runE L i → L[k]? = L[i]?) ∧ (runE L i < L.length → L[runE L i]? ≠ L[i]?) := by
  have h : L[i]? = some L[i] := by simp [hi]
  unfold runE
  rw [h]
  simp only
  obtain ⟨a, b, c, d⟩ := runGo_spec L L[i] (L.length - (i + 1)) (i + 1) (by omega) rfl
  refine ⟨by omega, b, fun k h1 h2 => ?_, d⟩
  by_cases hk : k = i
  · rw [hk]; exact h
  · exact c k (by omega) h2
def RwE (x : Nat × Nat) (vs : List Value) : Prop := vs = [.int .i64 x.1, .int .i64 x.2]

/- where rows begin -/
def isStart (L : List Ps) (i : Nat) : Bool := decide (i = 0 ∨ L[i]? ≠ L[i - 1]?)
theorem rows_starts (L : List Ps) : ∀ (m i : Nat), i ≤ L.length → L.length ≤ m + i → isStart L i = true ∨ i = L.length → (rowsGo L m i).map (·.1) = (List.range' i (L.length - i)).filter (isStart L)
  | 0, i, hi, hm, _ => by rw [show L.length - i = 0 by omega]; rfl
  | m + 1, i, hi, hm, hst => by
    rw [rowsGo]
    by_cases hil : i < L.length
    · rw [if_pos hil, List.map_cons]
      obtain ⟨r1, r2, r3, r4⟩ := runE_spec hil
      have hst' : isStart L i = true := hst.resolve_right (by omega)
      have e1 : List.range' i (L.length - i) = i :: (List.range' (i + 1) (runE L i - (i + 1)) ++ List.range' (runE L i) (L.length - runE L i)) := by
        have e2 : L.length - i = (L.length - i - 1) + 1 := by omega
        rw [e2, List.range'_succ]
        congr 1
        have := List.range'_append (s := i + 1) (m := runE L i - (i + 1)) (n := L.length - runE L i) (step := 1)
        rw [show i + 1 + 1 * (runE L i - (i + 1)) = runE L i by omega] at this
        rw [this]
        congr 1
        omega
      rw [e1, List.filter_cons, if_pos hst', List.filter_append]
      congr 1
      have e3 : (List.range' (i + 1) (runE L i - (i + 1))).filter (isStart L) = [] := by
        rw [List.filter_eq_nil_iff]
        intro j hj
        rw [List.mem_range'_1] at hj
        have a1 := r3 j (by omega) (by omega)
        have a2 := r3 (j - 1) (by omega) (by omega)
        unfold isStart
        simp only [decide_eq_true_eq, not_or]
        exact ⟨by omega, fun h => h (a1.trans a2.symm)⟩
      rw [e3, List.nil_append]
      refine rows_starts L m (runE L i) r2 (by omega) ?_
      by_cases hr : runE L i < L.length
      · left
        have a2 := r3 (runE L i - 1) (by omega) (by omega)
        unfold isStart
        rw [decide_eq_true_eq]
        right
        rw [a2]; exact r4 hr
      · right; omega
    · rw [if_neg hil, show L.length - i = 0 by omega]; rfl
theorem rowsF_starts (L : List Ps) : (rowsF L).map (·.1) = (List.range L.length).filter (isStart L) := by
  rw [rowsF, rows_starts L L.length 0 (by omega) (by omega) (.inl (by simp [isStart])), List.range_eq_range']
  rfl

/- characters within words -/
def innB (b : UInt8) : Bool := decide (kd b = 1 ∨ kd b = 2 ∨ kd b = 3 ∨ kd b = 4 ∨ b = 95)
end Go.Proofs
namespace Go.Proofs
open Go Go.Sh Go.RowKit

def brkB (s : List UInt8) (i : Nat) : Bool := match s[i - 1]?, s[i]? with
  | some a, some b => decide (0 < i) && (innB a && innB b)
  | _, _ => false
def pickP (s : List UInt8) (l : List (Nat × Nat)) : List Int := ((l.map (·.1)).filter (brkB s)).map fun (i : Nat) => (i : Int)
def brkZ (L : List Ps) (s : List UInt8) : List Int := (((List.range L.length).filter (isStart L)).filter (brkB s)).map fun (i : Nat) => (i : Int)
theorem pickP_rows (L : List Ps) (s : List UInt8) : pickP s (rowsF L) = brkZ L s := by rw [pickP, rowsF_starts]; rfl
theorem pickP_snoc (s : List UInt8) (l : List (Nat × Nat)) (x : Nat × Nat) : pickP s (l ++ [x]) = pickP s l ++ if brkB s x.1 then [(x.1 : Int)] else [] := by
  simp only [pickP, List.map_append, List.filter_append, List.map_cons, List.map_nil, List.filter_cons, List.filter_nil]
  split <;> rfl
theorem pickP_len (s : List UInt8) (l : List (Nat × Nat)) : (pickP s l).length ≤ l.length := by
  unfold pickP
  rw [List.length_map]
  exact Nat.le_trans (List.length_filter_le _ _) (by simp)
theorem rowsGo_len (L : List Ps) : ∀ (m i : Nat), (rowsGo L m i).length ≤ m
  | 0, _ => Nat.le_refl _
  | m + 1, i => by
    rw [rowsGo]
    split
    · have := rowsGo_len L m (runE L i); simp only [List.length_cons]; omega
    · simp
theorem rows_lt (L : List Ps) {x : Nat × Nat} (h : x ∈ rowsF L) : x.1 < L.length := by
  have : x.1 ∈ (rowsF L).map (·.1) := List.mem_map.2 ⟨x, h, rfl⟩
  rw [rowsF_starts, List.mem_filter, List.mem_range] at this
  exact this.1

theorem posL_lit : encP.enc (([] : List UInt8), (0 : Int)) = [.string ⟨⟨[]⟩⟩, .int .i64 0] := rfl
def brkR (f : Fo) : List Int := if patE f ≠ 0 then [] else brkZ (posL ([], 0) (nodesF f)) (patF f)
theorem patE_zero {f : Fo} (h : patE f = 0) : checkT f = 0 ∧ cleanF f = true ∧ (patF f).length ≤ 65536 ∧ patS f = patF f := by
  have h' := h
  unfold patE at h
  split at h
  · rename_i hh; exact absurd h hh
  · rename_i hh
    obtain ⟨a, b⟩ := errU_zero (Decidable.not_not.1 hh)
    split at h
    · cases h
    · exact ⟨a, b, by omega, by unfold patS; rw [if_neg (by simp [h'])]⟩

end Go.Proofs
namespace Go.Proofs
open Go Go.Sh Go.RowKit

/- Positions -/
def posE (p : Ps) (f : Fo) : Int := if patE f ≠ 0 then patE f else if p.1 ≠ [] ∧ isNameF p.1 = false then 14 else if p.2 < 0 ∨ 4096 < p.2 then 2 else 0
def posR (p : Ps) (f : Fo) : List Ps := if posE p f ≠ 0 then [] else posL p (nodesF f)
theorem posE_zero {p : Ps} {f : Fo} (h : posE p f = 0) : patE f = 0 ∧ (p.1 = [] ∨ isNameF p.1 = true) ∧ 0 ≤ p.2 ∧ p.2 ≤ 4096 := by
  unfold posE at h
  split at h
  · rename_i hh; exact absurd h hh
  · split at h
    · cases h
    · split at h
      · cases h
      · rename_i h1 h2 h3
        refine ⟨Decidable.not_not.1 h1, ?_, by omega, by omega⟩
        by_cases hp : p.1 = []
        · exact .inl hp
        · right
          cases hn : isNameF p.1 with
          | true => rfl
          | false => exact absurd ⟨hp, hn⟩ h2
/- the example of the chapter -/
def fW : Fo := .cons 3 [49, 114] 0 .nil (.cons 2 [] 0 .nil (.cons 1 [100, 101] 0 .nil (.cons 2 [] 0 .nil (.one 1 [117, 115] 0 .nil))))
theorem awakeL1 : posE ([], 0) fW = 0 ∧ patE fW = 0 ∧ posR ([], 0) fW = [([49, 114], 1), ([49, 114], 1), ([49, 114], 2), ([49, 114], 2)] ∧ brkR fW = [2] := by decide +kernel
end Go.Proofs
namespace Go.Proofs
open Go Go.Sh Go.RowKit

def fin13 (f : Fo) : Bool := !great10 f && decide (patE f = 0)
theorem fin13_true {f : Fo} (h : fin13 f = true) : great10 f = false ∧ patE f = 0 := by
  unfold fin13 at h; simpa using h
/- whether a node of one of two kinds stands in a list -/
def hasN (a b : Int) (x : Nn) : Bool := decide (x.k = a) || decide (x.k = b)
def hasF (f : Fo) (a b : Int) : Bool := (nodesF f).any (hasN a b)
theorem hasF_cons (k t n) (ps r : Fo) (a b : Int) : hasF (.cons k t n ps r) a b = (hasN a b ⟨k, t, n, ps⟩ || (hasF ps a b || hasF r a b)) := by
  simp [hasF, nodesF, List.any_append]
/- without pages and lines all stands at one place -/
theorem posL_plain : ∀ (l : List Nn) (p : Ps), l.any (hasN 3 2) = false → (∀ x ∈ posL p l, x = p)
  | [], p, _ => by simp [posL]
  | x :: l, p, h => by
    rw [List.any_cons, Bool.or_eq_false_iff] at h
    have hx : ¬ x.k = 3 ∧ ¬ x.k = 2 := by simpa [hasN] using h.1
    have hp : (posN p x).1 = p := by
      unfold posN
      split
      · rfl
      · split
        · rfl
        · rw [if_neg hx.1, if_neg hx.2]
    intro y hy
    rw [posL, hp, List.mem_append] at hy
    rcases hy with hy | hy
    · exact (List.mem_replicate.1 hy).2
    · exact posL_plain l p h.2 y hy
theorem brkZ_plain {L : List Ps} {p : Ps} {s : List UInt8} (h : ∀ x ∈ L, x = p) : brkZ L s = [] := by
  unfold brkZ
  rw [List.map_eq_nil_iff, List.filter_eq_nil_iff]
  intro i hi
  rw [List.mem_filter, List.mem_range] at hi
  obtain ⟨hi, hs⟩ := hi
  have : i = 0 := by
    apply Classical.byContradiction
    intro h0
    unfold isStart at hs
    rw [decide_eq_true_eq] at hs
    refine hs.elim h0 fun hh => hh ?_
    have e1 : L[i]? = some L[i] := by simp [hi]
    have e2 : L[i - 1]? = some L[i - 1] := by rw [List.getElem?_eq_getElem (by omega)]
    rw [e1, e2, h _ (List.getElem_mem hi), h _ (List.getElem_mem (by omega))]
  subst this
  unfold brkB; split <;> simp
def brkTo (L : List Ps) (s : List UInt8) (k : Nat) : List Int := (((List.range k).filter (isStart L)).filter (brkB s)).map fun (i : Nat) => (i : Int)
theorem brkTo_succ (L : List Ps) (s : List UInt8) (k : Nat) : brkTo L s (k + 1) = brkTo L s k ++ if isStart L k && brkB s k then [(k : Int)] else [] := by
  unfold brkTo
  rw [List.range_succ, List.filter_append, List.filter_append, List.map_append]
  congr 1
  simp only [List.filter_cons, List.filter_nil]
  cases isStart L k <;> cases h2 : brkB s k <;> simp [h2]
theorem brkTo_one (L : List Ps) (s : List UInt8) : brkTo L s 1 = [] := by
  rw [brkTo_succ]
  have : brkB s 0 = false := by unfold brkB; split <;> simp
  simp [brkTo, this]
theorem brkTo_len (L : List Ps) (s : List UInt8) (k : Nat) : (brkTo L s k).length ≤ k := by
  unfold brkTo
  rw [List.length_map]
  have h1 := List.length_filter_le (brkB s) ((List.range k).filter (isStart L))
  have h2 := List.length_filter_le (isStart L) (List.range k)
  rw [List.length_range] at h2
  omega

end Go.Proofs
namespace Go.Proofs
open Go Go.Sh Go.RowKit

theorem posL_mono : ∀ (l : List Nn) (p : Ps), l.any (hasN 3 3) = false → (∀ x ∈ posL p l, p.2 ≤ x.2) ∧ (posL p l).Pairwise (fun a b => a.2 ≤ b.2)
  | [], p, _ => by simp [posL]
  | x :: l, p, h => by
    rw [List.any_cons, Bool.or_eq_false_iff] at h
    have hx : ¬ x.k = 3 := by simpa [hasN] using h.1
    have hp : p.2 ≤ (posN p x).1.2 := by
      unfold posN
      split
      · exact Int.le_refl _
      · split
        · exact Int.le_refl _
        · try rw [if_neg hx]
          split
          · show p.2 ≤ p.2 + 1; omega
          · exact Int.le_refl _
    obtain ⟨i1, i2⟩ := posL_mono l (posN p x).1 h.2
    rw [posL]
    refine ⟨fun y hy => ?_, ?_⟩
    · rw [List.mem_append] at hy
      rcases hy with hy | hy
      · rw [(List.mem_replicate.1 hy).2]; exact hp
      · exact Int.le_trans hp (i1 y hy)
    · rw [List.pairwise_append]
      refine ⟨?_, i2, fun y hy z hz => ?_⟩
      · rw [List.pairwise_replicate]; exact .inr (Int.le_refl _)
      · rw [(List.mem_replicate.1 hy).2]; exact i1 z hz

def startP (page line : Int) : Ps := if Int.tmod page 4 = 0 then ([], line) else ([112] ++ (Utf8.encode (IntKind.i32.wrap (IntKind.u8.wrap (48 + (Int.tmod page 4))))).data.toList, line)
theorem start_name {page line : Int} (h0 : 0 ≤ page) (hl : 0 ≤ line ∧ line < 256) {f : Fo} (hf : patE f = 0) : posE (startP page line) f = 0 := by
  have ht : Int.tmod page 4 = 0 ∨ Int.tmod page 4 = 1 ∨ Int.tmod page 4 = 2 ∨ Int.tmod page 4 = 3 := by
    rw [Int.tmod_eq_emod_of_nonneg h0]; omega
  have hn : ¬ ((startP page line).1 ≠ [] ∧ isNameF (startP page line).1 = false) := by
    have key : ∀ k : Int, (k = 1 ∨ k = 2 ∨ k = 3) → isNameF ([112] ++ (Utf8.encode (IntKind.i32.wrap (IntKind.u8.wrap (48 + k)))).data.toList) = true := by
      rintro k (rfl | rfl | rfl) <;> decide +kernel
    unfold startP
    rcases ht with e | e | e | e <;> rw [e]
    · simp
    · rw [if_neg (by decide)]; exact fun hh => absurd (key 1 (by decide)) (by rw [hh.2]; decide)
    · rw [if_neg (by decide)]; exact fun hh => absurd (key 2 (by decide)) (by rw [hh.2]; decide)
    · rw [if_neg (by decide)]; exact fun hh => absurd (key 3 (by decide)) (by rw [hh.2]; decide)
  have hl' : (startP page line).2 = line := by unfold startP; split <;> rfl
  unfold posE
  rw [if_neg (by simp [hf]), if_neg hn, if_neg (by rw [hl']; omega)]
end Go.Proofs
namespace Go.Proofs
open Go Go.Sh Go.RowKit

/- where the characters of a position stand -/
def findF (L : List Ps) (p : Ps) : Option (Nat × Nat) := (rowsF L).find? fun x => decide (L[x.1]? = some p)
def findR (p : Ps) (f : Fo) : Option (Nat × Nat) := if patE f ≠ 0 then none else findF (posL ([], 0) (nodesF f)) p
def fr1 : Option (Nat × Nat) → Int | some x => x.1 | none => 0
def fr2 : Option (Nat × Nat) → Int | some x => x.2 | none => 0
def findE (p : Ps) (f : Fo) : Int := if patE f ≠ 0 then patE f else match findR p f with | some _ => 0 | none => 6
theorem find_at {α : Type} {q : α → Bool} {pre xs : List α} {x : α} (hp : pre ++ [x] <+: xs) (h : ∀ y ∈ pre, q y = false) (hx : q x = true) : xs.find? q = some x := by
  obtain ⟨s, rfl⟩ := hp
  rw [List.append_assoc, List.find?_append]
  have : pre.find? q = none := by rw [List.find?_eq_none]; intro y hy; rw [h y hy]; simp
  rw [this]
  simp [hx]

end Go.Proofs
namespace Go.Proofs
open Go Go.Sh Go.RowKit

theorem rows_find (L : List Ps) (p : Ps) : ∀ (m i0 : Nat), L.length ≤ m + i0 →
    (∀ x, (rowsGo L m i0).find? (fun x => decide (L[x.1]? = some p)) = some x → i0 ≤ x.1 ∧ x.1 < L.length ∧ x.2 = runE L x.1 ∧ L[x.1]? = some p ∧ ∀ k, i0 ≤ k → k < x.1 → L[k]? ≠ some p) ∧
    ((rowsGo L m i0).find? (fun x => decide (L[x.1]? = some p)) = none → ∀ k, i0 ≤ k → L[k]? ≠ some p)
  | 0, i0, hm => by
    refine ⟨fun x h => by simp [rowsGo] at h, fun _ k hk h => ?_⟩
    have := (List.getElem?_eq_some_iff.1 h).1
    omega
  | m + 1, i0, hm => by
    rw [rowsGo]
    by_cases hi : i0 < L.length
    · rw [if_pos hi, List.find?_cons]
      obtain ⟨r1, r2, r3, r4⟩ := runE_spec hi
      by_cases hp : L[i0]? = some p
      · rw [decide_eq_true hp]
        refine ⟨fun x h => ?_, fun h => by cases h⟩
        obtain rfl := Option.some.inj h
        exact ⟨Nat.le_refl _, hi, rfl, hp, fun k h1 h2 => by omega⟩
      · rw [decide_eq_false hp]
        obtain ⟨a1, a2⟩ := rows_find L p m (runE L i0) (by omega)
        have skip : ∀ k, i0 ≤ k → k < runE L i0 → L[k]? ≠ some p := fun k h1 h2 => by rw [r3 k h1 h2]; exact hp
        refine ⟨fun x h => ?_, fun h k hk => ?_⟩
        · obtain ⟨b1, b2, b3, b4, b5⟩ := a1 x h
          refine ⟨by omega, b2, b3, b4, fun k h1 h2 => ?_⟩
          by_cases hk : k < runE L i0
          · exact skip k h1 hk
          · exact b5 k (by omega) h2
        · by_cases hk' : k < runE L i0
          · exact skip k hk hk'
          · exact a2 h k (by omega)
    · rw [if_neg hi]
      refine ⟨fun x h => by simp at h, fun _ k hk h => ?_⟩
      have := (List.getElem?_eq_some_iff.1 h).1
      omega
theorem findF_some {L : List Ps} {p : Ps} {x : Nat × Nat} (h : findF L p = some x) : x.1 < x.2 ∧ x.2 ≤ L.length ∧ (∀ k, x.1 ≤ k → k < x.2 → L[k]? = some p) ∧ (∀ k, k < x.1 → L[k]? ≠ some p) ∧ (x.2 < L.length → L[x.2]? ≠ some p) := by
  obtain ⟨b1, b2, b3, b4, b5⟩ := (rows_find L p L.length 0 (by omega)).1 x h
  obtain ⟨r1, r2, r3, r4⟩ := runE_spec b2
  rw [b3]
  refine ⟨r1, r2, fun k h1 h2 => (r3 k h1 h2).trans b4, fun k hk => b5 k (by omega) hk, fun hh => ?_⟩
  rw [b4] at r4
  exact r4 hh
theorem findF_none {L : List Ps} {p : Ps} (h : findF L p = none) : ∀ x ∈ L, x ≠ p := by
  intro x hx e
  obtain ⟨k, hk, rfl⟩ := List.mem_iff_getElem.1 hx
  exact (rows_find L p L.length 0 (by omega)).2 h k (by omega) (by simp [hk, e])

/- the characters of a position -/
def lineS (p : Ps) (f : Fo) : List UInt8 := match findR p f with | some x => ((patF f).take x.2).drop x.1 | none => []
def cmpF (x y : Int) : Int := if x < y then -1 else if y < x then 1 else 0
def cmpE (p q : Ps) (f : Fo) : Int := if findE p f ≠ 0 then findE p f else findE q f
def cmpR' (p q : Ps) (f : Fo) : Int := if cmpE p q f ≠ 0 then 0 else cmpF (fr1 (findR p f)) (fr1 (findR q f))
end Go.Proofs
namespace Go.Proofs
open Go Go.Sh Go.RowKit

end Go.Proofs
namespace Go.Proofs
open Go Go.Sh Go.RowKit

/- growing the nil slice: room is made, nothing is held -/
theorem grow_nil {P : Program} {t tn ty e : TypeId} {size bytes : Nat} {z : Value} (hT : SlT P t e size bytes z) (htn : P.underlying tn = some (.int .i64)) {w : World} {B : Nat} (hB : B ≤ w.heap.size) (k : Nat) (h0 : 0 < k) (hb : k * bytes ≤ 140737488355328) (hk63 : k ≤ 4611686018427387904)
    {K : Option Addr → Nat → Nat → World → Prop} (hk : ∀ (c : Nat) w', Owns w' B e size (some ⟨w.heap.size, 0, none⟩) 0 c [] → Ext w w' → K (some ⟨w.heap.size, 0, none⟩) k c w') :
    app P [t, tn] ty (.slice none 0 0) (.int .i64 (k : Int)) w K := by
  obtain ⟨i, hi, hz, hs, hbb⟩ := hT.get
  have hpos := hT.pos
  have hr := Lib.run_append_grow_zeros (P := P) w t tn ty e i z .i64 .i64 hT.under htn hi hz none 0 0 [] (run_firstCells_none w.drew i.size 0 0 0) k h0 (by omega) (by omega) (by omega) (by rw [hbb]; omega) (by
    rw [hbb]; exact growslice_fits (by omega) (by rw [Nat.zero_add]; omega))
  rw [Nat.zero_add] at hr
  refine ⟨_, _, _, _, hr, hk _ _ ?_ (ext_trans (ext_drew w) ((Below.refl _ _).alloc (Nat.le_refl _) _))⟩
  refine ⟨by simp, .inr ⟨w.heap.size, _, #[] ++ Builtin.zeroCells z.cells k ++ Builtin.zeroCells z.cells (grownCap w k 0 e - k), rfl, hB, ?_, Nat.zero_le _, grownCap_le_maxLen w k 0 e (by simp only [maxLen]; omega), ?_, by simp⟩⟩
  · exact heap_alloc_new w.drew _
  · have hge := grownCap_ge w k 0 e
    have hzs : z.cells.size = i.size := by rw [hT.zs, hs]
    simp only [Builtin.zeroCells, Array.size_append, Array.size_map, Array.size_range, hzs, hs, List.size_toArray, List.length_nil, Nat.zero_add]
    rw [← Nat.add_mul]
    congr 1
    omega
end Go.Proofs
namespace Go.Proofs
open Go Go.Sh Go.RowKit

theorem slA_zero (b c s : Nat) : slA (some ⟨b, 0, none⟩) c 0 s = some ⟨b, 0, none⟩ := by
  unfold slA; split <;> simp [Addr.add]
def encSl : Enc (Option Addr × Nat × Nat) := ⟨fun x => [.slice x.1 x.2.1 x.2.2], 1, fun _ => rfl, by decide, by intro x v hv; simp only [List.mem_singleton] at hv; subst hv; rfl⟩
def catF : List Fo → Fo
  | [] => .nil
  | g :: gs => g.app (catF gs)
theorem catF_snoc : ∀ (gs : List Fo) (g : Fo), catF (gs ++ [g]) = (catF gs).app g
  | [], g => by simp [catF]
  | x :: gs, g => by simp only [List.cons_append, catF, catF_snoc gs, Fo.app_assoc]
theorem catF_take {gs : List Fo} {k : Nat} {g : Fo} (h : gs[k]? = some g) : catF (gs.take (k + 1)) = (catF (gs.take k)).app g := by
  rw [List.take_add_one, h]; exact catF_snoc _ _
theorem catF_len : ∀ (gs : List Fo) (k : Nat), (catF (gs.take k)).len ≤ (catF gs).len
  | [], k => by simp [catF]
  | g :: gs, 0 => by simp [catF]
  | g :: gs, k + 1 => by
    have := catF_len gs k
    simp only [List.take_succ_cons, catF, Fo.len_app]; omega

end Go.Proofs
namespace Go.Proofs
open Go Go.Sh Go.RowKit

theorem flat_take {gs : List (List Ps)} {k : Nat} {g : List Ps} (h : gs[k]? = some g) : (gs.take (k + 1)).flatten = (gs.take k).flatten ++ g := by
  rw [List.take_add_one, h]; simp
theorem flat_len (gs : List (List Ps)) (k : Nat) : ((gs.take k).flatten).length ≤ gs.flatten.length := by
  have e : gs.flatten = (gs.take k).flatten ++ (gs.drop k).flatten := by rw [← List.flatten_append, List.take_append_drop]
  rw [e, List.length_append]; omega

end Go.Proofs
