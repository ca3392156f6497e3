/- The contracts of the functions that the law reaches, one after the other, and at the end the law's card. -/
import Derived.Test.YtcnlbobkjeiakaaDoorLawC
namespace Go.Proofs
open Go Go.Sh Go.RowKit

theorem places_walkO {yf : Fn} {ya yb : Array Value} {T : Nat → Prop} {J : List Pl → (Nat → Prop) → World → Prop} {Jx : (Nat → Prop) → World → Prop} {w0 : World} {xs : List Pl} {ty tw : Nat}
    (hTl : ∀ k, T k → k < w0.heap.size)
    (hJ : ∀ pre S W W', J pre S W → Chg (fun k => w0.heap.size ≤ k ∧ ¬ S k) W W' → J pre S W')
    (hbody : ∀ pre x vs S W, PlE T w0 x vs → pre ++ [x] <+: xs → w0.heap.size ≤ W.heap.size → (∀ k, S k → k < W.heap.size ∧ ¬ T k) → J pre S W → CallV Tryd.prog (.func yf ya yb) vs W fun e W' => Chg S W W' ∧
      ∃ S' : Nat → Prop, (∀ k, S' k → (S k ∨ W.heap.size ≤ k) ∧ k < W'.heap.size) ∧ ((e = .returned (.bool true) ∧ J (pre ++ [x]) S' W') ∨ (e = .returned (.bool false) ∧ Jx S' W'))) :
    ∀ (f : Fo) {R : Ending → World → Prop} {S : Nat → Prop} {w : World} {a : Option Addr} {n c : Nat} (d : Nat) (pre : List Pl), small f → d ≤ 17 → SlF T w0 a n f → w0.heap.size ≤ w.heap.size → (∀ k, T k → w.heap[k]? = w0.heap[k]?) → (∀ k, S k → k < w.heap.size ∧ ¬ T k) →
      Blk w ty [.func yf ya yb] 111 → Blk w tw [.func (.func 86) ⟨[]⟩ ⟨[.pointer (some ⟨ty, 0, none⟩), .pointer (some ⟨tw, 0, none⟩)]⟩] 64 → ¬ S ty → ¬ S tw →
      pre ++ placesF f d false <+: xs → J pre S w → (∀ S' W', Chg S w W' → (∀ k, S' k → (S k ∨ w.heap.size ≤ k) ∧ k < W'.heap.size) → J (pre ++ placesF f d false) S' W' → R (.returned (.bool true)) W') →
      (∀ S' W', Chg S w W' → (∀ k, S' k → (S k ∨ w.heap.size ≤ k) ∧ k < W'.heap.size) → Jx S' W' → R (.returned (.bool false)) W') →
      Calls Tryd.prog F_transcript_places_1_1 ⟨[.slice a n c, .int .i64 (d : Int), .pointer (some ⟨ty, 0, none⟩), .pointer (some ⟨tw, 0, none⟩)]⟩ w R := by
  intro f
  induction hz : f.size using Nat.strongRecOn generalizing f with
  | _ z ih =>
  intro R S w a n c d pre hs hd hf hw0 hT hS hBy hBw nSy nSw hpre hj hend hstop
  unfold small at hs
  apply c_transcript_places_1_1
  have hn := hf.1
  have hfl := f.len_le_size
  have lty := hBy.lt
  have ltw := hBw.lt
  refine ⟨fun tx i W m => ∃ (p r : Fo) (ps : List Pl) (S1 : Nat → Prop), f = p.app r ∧ i = p.len ∧ m = r.len ∧ Chg S w W ∧ (∀ k, S1 k → (S k ∨ w.heap.size ≤ k) ∧ k < W.heap.size) ∧ J ps S1 W ∧ pre ++ placesF f d false = ps ++ placesF r d tx,
    ⟨_, .nil, f, pre, S, rfl, rfl, rfl, Chg.refl _ _, fun k hk => ⟨.inl hk, (hS k hk).1⟩, hj, rfl⟩, ?_⟩
  rintro b _ W m ⟨p, r, xs', S1, hpr, rfl, rfl, hcW, hS1, hjW, heq⟩ _
  have hwW := hcW.size
  refine br_split (fun hlt => ?_) (fun hge => ?_)
  · obtain ⟨k, t, mm, ps, r, rfl⟩ := Fo.next hpr (by omega)
    have hsl := Fo.sub_len hpr
    have hsz := Fo.sub_size hpr
    have e1 : f = (p.app (.one k t mm ps)).app r := by rw [Fo.app_one_app]; exact hpr
    have i1 : IntKind.i64.wrap ((p.len : Int) + 1) = ((p.app (.one k t mm ps)).len : Int) := by rw [wrap_nat (by omega)]; simp [Fo.one]
    have hTW : ∀ k, T k → W.heap[k]? = w0.heap[k]? := fun k hk => (hcW.block k (by have := hTl k hk; omega) (fun h => (hS k h).2 hk)).trans (hT k hk)
    obtain ⟨q, a', c', hq, hTq, hql, hN⟩ := (hf.keep (S' := T) (w' := W) (fun k hk _ => ⟨hk, hTW k hk⟩) (by omega)).get hpr
    have hNT : SlF T w0 a' ps.len ps := hN.sl.keep' fun k hk _ => ⟨hk, hTl k hk, (hTW k hk).symm⟩
    refine hq _ ⟨k, hN.kind, t, hN.text, mm, hN.num, a', ps.len, c', hN.parts, ?_⟩
    refine al_stL (by simp) (by intro u hu; simp only [List.mem_cons, List.not_mem_nil, or_false] at hu; rcases hu with rfl | rfl | rfl | rfl <;> rfl) fun bx w1 hbx hBx e2 s2 => ?_
    have z2 := e2.size
    obtain ⟨x0, x1, x2, x3⟩ := blk4 hBx
    have hBy1 := (hcW.blk hBy nSy).ext e2
    have hBw1 := (hcW.blk hBw nSw).ext e2
    have n1y : ¬ S1 ty := fun h => (hS1 _ h).1.elim nSy (by omega)
    have n1w : ¬ S1 tw := fun h => (hS1 _ h).1.elim nSw (by omega)
    have n1x : ¬ S1 bx := fun h => by have := (hS1 _ h).2; omega
    refine dr_ok ⟨_, _, _, by rw [hBy1.cell]; rfl, k, x0, t, x1, mm, x2, a', ps.len, c', x3, ?_⟩
    have hj1 : J xs' S1 w1 := hJ _ _ _ _ hjW (Chg.of_ext e2)
    rw [placesF] at heq
    have hpx : xs' ++ [⟨k, t, mm, ps, d, b⟩] <+: xs := by
      refine List.IsPrefix.trans ?_ hpre
      rw [heq]
      exact ⟨_, by rw [List.append_assoc]; rfl⟩
    have hS1T : ∀ k, S1 k → k < w1.heap.size ∧ ¬ T k := fun j hj => ⟨by have := (hS1 j hj).2; omega, fun ht => (hS1 j hj).1.elim (fun h => (hS j h).2 ht) (fun h => by have := hTl j ht; omega)⟩
    refine CallV_mono (hbody xs' ⟨k, t, mm, ps, d, b⟩ _ S1 w1 ⟨a', c', rfl, hNT⟩ hpx (by omega) hS1T hj1) ?_
    rintro e w2 ⟨hc2, S2, hS2, hres⟩
    have z3 := hc2.size
    have hcw2 : Chg S w w2 := chg_then (hcW.trans (Chg.of_ext e2)) hc2 fun i hi hh => (hS1 i hh).1.elim id fun h => by omega
    have hS2w : ∀ k, S2 k → (S k ∨ w.heap.size ≤ k) ∧ k < w2.heap.size := fun j hj => ⟨(hS2 j hj).1.elim (fun h => (hS1 j h).1) (fun h => .inr (by omega)), (hS2 j hj).2⟩
    rcases hres with ⟨rfl, hj2⟩ | ⟨rfl, hjx⟩
    · refine ⟨true, rfl, ?_⟩
      have hBx2 := hc2.blk hBx n1x
      obtain ⟨y0, y1, y2, y3⟩ := blk4 hBx2
      have hBw2 := hc2.blk hBw1 n1w
      have hBy2 := hc2.blk hBy1 n1y
      have n2x : ¬ S2 bx := fun h => (hS2 _ h).1.elim n1x (by omega)
      refine br_split (fun hd16 => ?_) (fun hd16 => ?_)
      · have hd16' : d ≤ 16 := by omega
        rw [if_pos hd16'] at heq
        refine dr_ok ⟨.func 86, ⟨[]⟩, ⟨[.pointer (some ⟨ty, 0, none⟩), .pointer (some ⟨tw, 0, none⟩)]⟩, by rw [hBw2.cell]; rfl, a', ps.len, c', y3, by kernel_rfl, ?_⟩
        rw [wrap_nat (by omega)]
        refine ih _ (hz ▸ hsz) ps rfl (S := S2) (d + 1) (xs' ++ [⟨k, t, mm, ps, d, b⟩]) (by unfold small; omega) (by omega) hNT (by omega) (fun j hj => (hcw2.block j (by have := hTl j hj; omega) (fun h => (hS j h).2 hj)).trans (hT j hj))
          (fun j hj => ⟨(hS2 j hj).2, fun ht => (hS2 j hj).1.elim (fun h => (hS1T j h).2 ht) (fun h => by have := hTl j ht; omega)⟩) hBy2 hBw2 (fun h => (hS2 _ h).1.elim n1y (by omega)) (fun h => (hS2 _ h).1.elim n1w (by omega)) ?_ hj2 (fun S3 w3 hc3 hS3 hj3 => ?_) (fun S3 w3 hc3 hS3 hjx => ?_)
        · refine List.IsPrefix.trans ?_ hpre
          rw [heq]
          exact ⟨placesF r d (decide (k = 1)), by simp⟩
        · refine ⟨true, rfl, ?_⟩
          have hBx3 := hc3.blk hBx2 n2x
          refine ⟨k, (blk4 hBx3).1, r.len, by simp, _, r, _, S3, e1, i1, rfl, chg_then hcw2 hc3 fun i hi hh => (hS2w i hh).1.elim id fun h => by omega, fun j hj => ⟨(hS3 j hj).1.elim (fun h => (hS2w j h).1) (fun h => .inr (by omega)), (hS3 j hj).2⟩, hj3, ?_⟩
          rw [heq]; simp
        · exact ⟨false, rfl, hstop S3 _ (chg_then hcw2 hc3 fun i hi hh => (hS2w i hh).1.elim id fun h => by omega) (fun j hj => ⟨(hS3 j hj).1.elim (fun h => (hS2w j h).1) (fun h => .inr (by omega)), (hS3 j hj).2⟩) hjx⟩
      · rw [if_neg (by omega)] at heq
        refine ⟨k, y0, r.len, by simp, _, r, _, S2, e1, i1, rfl, hcw2, hS2w, hj2, ?_⟩
        rw [heq]; simp
    · exact ⟨false, rfl, hstop S2 _ hcw2 hS2w hjx⟩
  · obtain ⟨rfl, rfl⟩ := Fo.last hpr (by omega)
    have e : xs' = pre ++ placesF p d false := by rw [heq]; simp [placesF]
    rw [e] at hjW
    exact hend S1 _ hcW hS1 hjW

theorem places_iterO {T : Nat → Prop} (f : Fo) (hs : small f) {a : Option Addr} {n c : Nat} (b : Nat) (w : World) (hTl : ∀ k, T k → k < w.heap.size) (hb : Blk w b [.slice a n c] 22) (hf : SlF T w a n f) (hbT : T b) :
    IterO Tryd.prog F_transcript_places_1 [.pointer (some ⟨b, 0, none⟩)] (placesF f 0 false) (PlE T w) T w := by
  intro yf ya yb S0 J Jx R hS hJ hJx hbody h0 hend hstop
  apply c_transcript_places_1
  refine al_intro fun ty w1 hty hBy e1 s1 => ?_
  refine al_intro fun tw w1' htw hBw' e2' s2' => ?_
  refine stL_one hBw' rfl fun w2 hBw hcc hss => ?_
  have e2 : Ext w1 w2 := ext_chgS e2' hcc fun k hk => by omega
  have E := ext_trans e1 e2
  refine ⟨.func 86, ⟨[]⟩, ⟨[.pointer (some ⟨ty, 0, none⟩), .pointer (some ⟨tw, 0, none⟩)]⟩, by rw [hBw.cell]; rfl, dr_ok ⟨a, n, c, by rw [((hb.ext e1).ext e2).cell]; rfl, by kernel_rfl, ?_⟩⟩
  have hz := E.size
  have hz1 := e1.size
  refine places_walkO (w0 := w) (xs := placesF f 0 false) hTl hJ hbody f (S := S0) 0 [] hs (by omega) hf hz (fun k hk => E.block k (hTl k hk)) (fun k hk => ⟨by have := (hS k hk).1; omega, (hS k hk).2⟩) (hBy.ext e2) hBw (fun h => by have := (hS _ h).1; omega) (fun h => by have := (hS _ h).1; omega) (List.prefix_refl _)
    (hJ _ _ _ _ h0 (Chg.of_ext E)) (fun S' W' hc hS' hj => ?_) (fun S' W' hc hS' hjx => ?_)
  · exact ⟨_, rfl, hend S' _ (Nat.le_trans hz hc.size) hj⟩
  · exact ⟨_, rfl, hstop S' _ (Nat.le_trans hz hc.size) hjx⟩

/- the characters -/
def charsP (l : List Pl) : List UInt8 := l.flatMap fun x => if x.k = 1 then x.t else []
def charsF : Fo → List UInt8
  | .nil => []
  | .cons k t _ ps r => (if k = 1 then t else []) ++ charsF ps ++ charsF r
theorem charsF_tlen : ∀ f : Fo, (charsF f).length ≤ tlen f
  | .nil => Nat.le_refl _
  | .cons k t n ps r => by
    have h1 := charsF_tlen ps
    have h2 := charsF_tlen r
    simp only [charsF, List.length_append, tlen]
    split <;> simp <;> omega
theorem charsP_snoc (l : List Pl) (x : Pl) : charsP (l ++ [x]) = charsP l ++ if x.k = 1 then x.t else [] := by simp [charsP]
theorem chars_places : ∀ (f : Fo) (d : Nat) (b : Bool), f.depth + d ≤ 16 → charsP (placesF f d b) = charsF f
  | .nil, _, _, _ => rfl
  | .cons k t n ps r, d, b, h => by
    rw [Fo.depth_parts] at h
    have i2 := chars_places r d (decide (k = 1)) (by omega)
    simp only [placesF, charsF]
    rw [if_pos (by omega)]
    unfold charsP at i2 ⊢
    simp only [List.flatMap_cons, List.flatMap_append, i2, List.append_assoc]
    congr 2
    by_cases hp : ps.len = 0
    · have e' := Fo.eq_nil_of_len hp
      subst e'
      rfl
    · rw [if_neg hp] at h
      exact chars_places ps (d + 1) false (by omega)
theorem blk6 {w : World} {b : Nat} {v0 v1 v2 v3 v4 v5 : Value} {T : TypeId} (h : Blk w b [v0, v1, v2, v3, v4, v5] T) :
    w.cell? ((⟨b, 0, none⟩ : Addr).add 0 |>.add 0) = some v0 ∧ w.cell? ((⟨b, 0, none⟩ : Addr).add 0 |>.add 1) = some v1 := by
  simp only [add_none, h.cell]; exact ⟨rfl, rfl⟩
theorem charsP_prefix {pre : List Pl} {x : Pl} {l : List Pl} (h : pre ++ [x] <+: l) : (charsP pre).length + (if x.k = 1 then x.t else []).length ≤ (charsP l).length := by
  obtain ⟨t, rfl⟩ := h
  simp only [charsP, List.flatMap_append, List.length_append, List.flatMap_cons, List.flatMap_nil, List.append_nil]
  omega

theorem String_spec' {R : Ending → World → Prop} {w : World} {b : Nat} {a : Option Addr} {l : List UInt8} (h : BldAt w b a l) (hk : ∀ w', Below b w w' → Lib.OthersKept 5 (some b) w w' → R (.returned (.string ⟨⟨l⟩⟩)) w') : Calls Tryd.prog F_strings_Builder_String ⟨[.pointer (some ⟨b, 0, none⟩)]⟩ w R := by
  refine (Tryd.Builder_String_any_k b b l w (Lib.IsBuilderF.of h.isB) (by have := h.lt; omega)).mono ?_
  rintro e w' ⟨rfl, _, hb, ho⟩
  exact hk w' hb ho
set_option maxRecDepth 20000 in
theorem Characters_spec {R : Ending → World → Prop} {S : Nat → Prop} {w : World} {a : Option Addr} {n c : Nat} (f : Fo) (hs : small f) (hF : Forms w) (hf0 : SlF S w a n f)
    (h : ∀ w', Ext w w' → R (.returned (.tuple ⟨[.string ⟨⟨if checkT f ≠ 0 then [] else charsF f⟩⟩, .int .i64 (if checkT f ≠ 0 then 1 else 0)]⟩)) w') :
    Calls Tryd.prog F_transcript_Characters ⟨[.slice a n c]⟩ w R := by
  apply c_transcript_Characters
  refine Check22_spec f hs hf0 hF fun w1 e1 => ⟨_, rfl, br_split (fun g => ?_) (fun g => ?_)⟩
  · rw [if_pos g, if_pos g] at h; exact h _ e1
  rw [if_neg g, if_neg g] at h
  have hc0 : checkT f = 0 := Decidable.not_not.1 g
  obtain ⟨q1, q2, q3⟩ := check_zero hc0
  have hdep : f.depth ≤ 16 := by
    unfold checkT at hc0
    split at hc0
    · rename_i hh; exact hh.2
    · cases hc0
  have hch := chars_places f 0 false (by omega)
  have hcl := charsF_tlen f
  refine al_intro fun b5 w2 hb5 B5 e2 s2 => ?_
  have E2 := ext_trans e1 e2
  have z1 := e1.size
  refine places_spec fun bs w4 Bs e4 hbs => ⟨_, _, _, rfl, fun base => ?_⟩
  have E4 := ext_trans E2 e4
  have z4 := E4.size
  have z24 := e4.size
  have ls := Bs.lt
  have hf : SlF (fun k => S k ∧ k < w.heap.size) w a n f := hf0.imp fun k hk hl => ⟨hk, hl⟩
  have hbld : BldAt w4 b5 none [] := ⟨.pointer none, 0, B5.ext e4, .inl rfl, Owns.nil _ _ _ _⟩
  rw [cd_transcript_Characters_1]
  refine RFw_lawO anA_transcript_Characters_1 anB_transcript_Characters_1 (gf := F_transcript_places_1) rfl (by kernel_rfl) (xs := placesF f 0 false) (E := PlE (fun k => (S k ∧ k < w.heap.size) ∨ k = bs) w4) (Rd := fun k => (S k ∧ k < w.heap.size) ∨ k = bs)
    (fun v1 he => (places_iterO f hs bs v1 (fun k hk => by have := he.size; omega) (Bs.ext he) ((hf.ext (ext_trans E4 he)).imp fun k hk _ => .inl hk) (.inr rfl)).mono ?_) (fun y vs hE => by obtain ⟨a', c', rfl, _⟩ := hE; rfl) (by decide) (fun k hk => by omega) (fun k => k = b5) (fun k hk => by omega)
    (fun pre S1 W => ∃ bo : Option Addr, BldAt W b5 bo (charsP pre) ∧ (∀ k, S1 k ↔ k = b5 ∨ bk bo k) ∧ Ext w W ∧ (∀ k, bk bo k → w4.heap.size ≤ k)) (fun _ _ => False) (fun _ _ => False)
    ?_ (fun _ _ _ h => h.elim) (fun _ _ _ h => h.elim) ⟨none, hbld, fun k => by simp [bk], E4, fun k hk => by simp [bk] at hk⟩ ?_ ?_ (fun _ _ _ _ _ _ _ h => h.elim) (fun _ _ _ _ _ _ _ h => h.elim)
  · rintro x vs ⟨a', c', rfl, hsl⟩
    exact ⟨a', c', rfl, hsl.keep' fun k hk hl => ⟨hk, by omega, ((he.block k (by omega))).symm⟩⟩
  · rintro pre S1 W W' ⟨bo, g1, g2, g3, g4⟩ hc
    exact ⟨bo, g1.chg hc (fun hh => hh.2 ((g2 _).2 (.inl rfl))) (fun k hk hh => hh.2 ((g2 k).2 (.inr hk))), g2, ext_chgS g3 hc (fun k hk => by omega), g4⟩
  · rintro pre ⟨k1, t1, m1, ps1, d1, x1⟩ vs S1 W l ⟨a', c', rfl, hsl⟩ hpre hl1 hl2 hl3 hS1 ⟨bo, g1, g2, g3, g4⟩
    refine Eq.mpr (er_transcript_Characters_1 base _ _ _ _ _ _ _ _ _ _ _ _ _ _ _ _ _ _ _) ?_
    refine al_stL (by simp) (by intro u hu; simp only [List.mem_cons, List.not_mem_nil, or_false] at hu; rcases hu with rfl | rfl | rfl | rfl | rfl | rfl <;> rfl) fun bx W1 hbx hBx ex sx => ?_
    refine ⟨ex, fun W2 hU => ?_⟩
    have zx := ex.size
    have zU := hU.size
    have hX2 := upd_blk hU hBx (by omega)
    obtain ⟨x0, x1'⟩ := blk6 hX2
    have hUc : Chg (fun k => k = l) W1 W2 := ⟨hU.os, hU.tape, hU.output, by omega, fun k _ hk => hU.block k hk⟩
    have hWc : Chg (fun k => k = l) W W2 := (Chg.of_ext ex).trans hUc
    have nl : ∀ k, S1 k → k ≠ l := fun k hk he => hl3 (he ▸ hk)
    have h1 := g1.chg hWc (nl _ ((g2 _).2 (.inl rfl))) (fun k hk => nl _ ((g2 k).2 (.inr hk)))
    have E2' : Ext w W2 := ext_chgS g3 hWc fun k hk => by omega
    have hlen := charsP_prefix hpre
    rw [hch] at hlen
    refine ⟨k1, x0, br_split (fun q => ?_) (fun q => ?_)⟩
    · replace hlen : (charsP pre).length + t1.length ≤ (charsF f).length := by simpa [show k1 = 1 from q] using hlen
      refine ⟨t1, x1', WriteString_spec h1 (by omega) fun a'' w'' hb'' hk'' hc'' => ⟨_, _, rfl, ?_⟩⟩
      have z'' := hc''.size
      have hSS : ∀ k, (k = b5 ∨ bk a'' k) → (S1 k ∨ W.heap.size ≤ k) ∧ k < w''.heap.size := fun k hk => by
        rcases hk with rfl | hk
        · exact ⟨.inl ((g2 _).2 (.inl rfl)), hb''.lt⟩
        · exact ⟨(hk'' k hk).elim (fun h => .inl ((g2 k).2 (.inr h))) (fun h => .inr (by omega)), (hb''.bk hk).2⟩
      refine ⟨hc''.mono fun k _ hk => .inl ((g2 k).2 hk), fun k => k = b5 ∨ bk a'' k, hSS, a'', ?_, fun k => Iff.rfl, ext_chgS E2' hc'' fun k hk => hk.elim (fun h => by omega) (fun h => by have := g4 k h; omega), fun k hk => (hk'' k hk).elim (g4 k) (fun h => by omega)⟩
      rw [charsP_snoc, if_pos q]; exact hb''
    · refine ⟨Chg.refl _ _, S1, fun k hk => ⟨.inl hk, by have := (hS1 k hk).1; omega⟩, bo, ?_, g2, E2', g4⟩
      rw [charsP_snoc, if_neg q, List.append_nil]; exact h1
  · rintro D S1 W hD1 hD2 hD3 hD4 ⟨bo, g1, g2, g3, g4⟩
    rw [hch] at g1
    have hDb : some D ≠ some b5 := fun e => by have e' := Option.some.inj e; omega
    refine String_spec' g1 fun w5 hbel hok => ⟨_, rfl, retD_one (D := D) (hok D _ hD4 hDb (fun _ _ e => by cases e)) ?_⟩
    have Ew : Ext w w5 := g3.trans (hbel.mono (by omega))
    exact h _ (ext_put Ew (by omega) _)
end Go.Proofs
namespace Go.Proofs
open Go Go.Sh Go.RowKit

/- leaving out bytes -/
def remainF : List UInt8 → List UInt8 → List UInt8
  | s, [] => s
  | s, c :: t => match s with
    | [] => []
    | x :: s' => if c = x then remainF s' t else remainF (x :: s') t
theorem remain_sub : ∀ {t s : List UInt8}, List.Sublist s t → remainF s t = []
  | [], s, h => by simpa [remainF] using h
  | c :: t, [], _ => rfl
  | c :: t, x :: s, h => by
    simp only [remainF]
    split
    · rename_i e; subst e; exact remain_sub (List.cons_sublist_cons.1 h)
    · rename_i e
      cases h with
      | cons _ h => exact remain_sub h
      | cons_cons _ h => exact absurd rfl e
theorem remain_nil : ∀ t : List UInt8, remainF [] t = []
  | [] => rfl
  | _ :: _ => rfl
def outsideF : Fo → List UInt8
  | .nil => []
  | .cons k t _ ps r => (if k = 1 then t else if k = 8 ∨ k = 9 then [] else outsideF ps) ++ outsideF r
theorem outsideF_app : ∀ f g : Fo, outsideF (f.app g) = outsideF f ++ outsideF g
  | .nil, g => rfl
  | .cons k t n ps r, g => by simp only [Fo.cons_app, outsideF, outsideF_app r, List.append_assoc]
theorem outside_tlen : ∀ f : Fo, (outsideF f).length ≤ tlen f
  | .nil => Nat.le_refl _
  | .cons k t n ps r => by
    have h1 := outside_tlen ps
    have h2 := outside_tlen r
    simp only [outsideF, List.length_append, tlen]
    split
    · omega
    · split
      · simp; omega
      · omega
theorem sadd_ok {a b : List UInt8} {K : List UInt8 → Prop} (h : a.length + b.length ≤ 9223372036854775807) (hK : K (a ++ b)) : sadd a b K := ⟨h, hK⟩

/- the plain law -/
theorem charsF_app : ∀ f g : Fo, charsF (f.app g) = charsF f ++ charsF g
  | .nil, g => rfl
  | .cons k t n ps r, g => by simp only [Fo.cons_app, charsF, charsF_app r, List.append_assoc]
theorem chars_consM {k t n ps r} (h : k = 1 → ps = .nil) (hr : ∀ k' t' n' ps' r', r = .cons k' t' n' ps' r' → k' = 1 → ps' = .nil) : charsF (consM k t n ps r) = (if k = 1 then t else []) ++ charsF ps ++ charsF r := by
  unfold consM
  split
  · rename_i hk
    have hps := h hk
    subst hk hps
    split
    · rename_i ht; subst ht; simp [charsF]
    · cases r with
      | nil => rfl
      | cons k' t' n' ps' r' =>
        simp only
        split
        · rename_i hk'
          have := hr _ _ _ _ _ rfl hk'
          subst hk' this
          simp [charsF]
        · simp [charsF]
  · rename_i hk
    simp [charsF, hk]
theorem chars_merge : ∀ {w : Bool} {f : Fo}, okF w f → tlen f ≤ 65536 → charsF (mergeR f) = charsF f
  | _, .nil, _, _ => rfl
  | w, .cons k t n ps r, h, hl => by
    simp only [tlen] at hl
    have m3 := merge_ok h.2.2 (by omega)
    simp only [mergeR]
    rw [chars_consM, chars_merge h.2.2 (by omega), chars_merge h.2.1 (by omega), charsF]
    · intro hk; rw [textnil h hk]; rfl
    · intro k' t' n' ps' r' e hk'; rw [e] at m3; exact textnil m3 hk'
theorem chars_breaks : ∀ {f : Fo}, good f → charsF (breaksF f) = []
  | .nil, _ => rfl
  | .cons k t n ps r, ⟨h1, h2, h3⟩ => by
    simp only [breaksF, charsF_app, chars_breaks h3, List.append_nil]
    split
    · rename_i hb
      have hk : k = 2 ∨ k = 3 ∨ k = 4 := by simpa [brkF] using hb
      have := Fo.eq_nil_of_len (h1.2.2.2.2.1 (by unfold partsF; simp; omega))
      subst this
      simp [Fo.one, charsF]; omega
    · exact chars_breaks h2
theorem chars_part {k t n ps} (h : k ≠ 1) : charsF (partF k t n ps) = charsF ps := by
  unfold partF
  split
  · rename_i h0; have e := Fo.eq_nil_of_len h0; subst e; rfl
  · simp [Fo.one, charsF, h]
theorem chars_sub (hand : Int) (adv : Bool) : ∀ {f : Fo}, good f → List.Sublist (charsF (resolveF f hand adv)) (charsF f)
  | .nil, _ => List.Sublist.refl _
  | .cons k t n ps r, ⟨h1, h2, h3⟩ => by
    have i2 := chars_sub hand adv h2
    have ib := chars_breaks h2
    simp only [resolveF, charsF_app]
    rw [show charsF (.cons k t n ps r) = (if k = 1 then t else []) ++ charsF ps ++ charsF r from rfl]
    refine List.Sublist.append ?_ (chars_sub hand adv h3)
    have up : ∀ {l : List UInt8}, List.Sublist l (charsF ps) → List.Sublist l ((if k = 1 then t else []) ++ charsF ps) := fun h => h.trans (List.sublist_append_right _ _)
    split
    · rw [ib]; exact List.nil_sublist _
    split
    · exact up i2
    split
    · rename_i h; rw [chars_part (by omega)]; exact up i2
    split
    · rw [ib]; exact List.nil_sublist _
    split
    · exact up i2
    split
    · rename_i h; rw [chars_part (by omega)]; exact up i2
    · simp [Fo.one, charsF]
theorem outside_sub (hand : Int) : ∀ {f : Fo}, good f → List.Sublist (outsideF f) (charsF (resolveF f hand false))
  | .nil, _ => List.Sublist.refl _
  | .cons k t n ps r, ⟨h1, h2, h3⟩ => by
    have i2 := outside_sub hand h2
    simp only [resolveF, charsF_app, outsideF]
    refine List.Sublist.append ?_ (outside_sub hand h3)
    by_cases h8 : k = 8 ∨ k = 9
    · rw [if_neg (by omega), if_pos h8]; exact List.nil_sublist _
    · rw [if_neg (show ¬ (k = 9 ∧ n ≤ hand) by omega), if_neg (show ¬ (k = 8 ∧ n ≤ hand) by omega), if_neg (show ¬ ((k = 8 ∨ k = 9) ∧ false = true) by simp), if_neg (show ¬ k = 8 by omega), if_neg (show ¬ k = 9 by omega), if_neg h8]
      split
      · rename_i hk
        subst hk
        rw [if_neg (by omega)]
        simp [Fo.one, charsF]
      · rename_i hk
        split
        · rw [chars_part hk]; exact i2
        · rename_i hp
          have := Fo.eq_nil_of_len (h1.2.2.2.2.1 (by have := h1.1; have := h1.2.1; unfold partsF; simp; omega))
          subst this
          exact List.nil_sublist _
theorem outside_clean : ∀ {f : Fo}, good f → clean f → outsideF f = charsF f
  | .nil, _, _ => rfl
  | .cons k t n ps r, ⟨g1, g2, g3⟩, ⟨h1, h2, h3⟩ => by
    simp only [outsideF, charsF, outside_clean g2 h2, outside_clean g3 h3]
    congr 1
    split
    · rename_i hk
      have := Fo.eq_nil_of_len (g1.2.2.2.2.1 (by unfold partsF; simp; omega))
      subst this
      simp [charsF]
    · first | rfl | (rw [if_neg h1]; rfl)
theorem compare_same : ∀ a : List UInt8, Lib.compareBytes a a = 0
  | [] => rfl
  | x :: a => by
    have : ¬ x < x := by simp
    simp only [Lib.compareBytes, if_neg this]; exact compare_same a

end Go.Proofs
namespace Go.Proofs
open Go Go.Sh Go.RowKit

theorem four_one (k : Int) (t : List UInt8) (m : Int) (a : Option Addr) (n c : Nat) : ∀ u ∈ [Value.int .i64 k, .string ⟨⟨t⟩⟩, .int .i64 m, .slice a n c], u.oneCell' = true := by
  intro u hu; simp only [List.mem_cons, List.not_mem_nil, or_false] at hu; rcases hu with rfl | rfl | rfl | rfl <;> rfl
def stF (f : Fo) (h : Int) : Fo := mergeF (resolveF f h false)
theorem stF_small {f : Fo} (hs : f.size ≤ 1000000000) (h : Int) : small (stF f h) := by
  have a1 := mergeF_size (resolveF f h false)
  have a2 := resolveF_size f h false
  unfold small stF; omega
def errT (f : Fo) (hand : Int) : Int := if checkT f ≠ 0 then 1 else if hand < 1 ∨ 8 < hand then 13 else 0
/- rows of integers -/
abbrev intV (l : List Int) : List Value := l.map (Value.int .i64)
theorem slT_int : SlT Tryd.prog 76 3 1 8 (.int .i64 0) := ⟨by kernel_rfl, by kernel_rfl, rfl, by decide⟩
theorem owns_int {w : World} {B : Nat} {a : Option Addr} {n c : Nat} {l : List Int} (h : Owns w B 3 1 a n c (intV l)) {i : Nat} (hi : i < l.length) :
    (∀ K : Addr → Prop, (∀ p, w.cell? p = some (.int .i64 l[i]) → K p) → idx a n (i : Int) 1 K) := by
  intro K hK
  have hl : l.length = n := by have := h.1; simpa using this
  obtain ⟨g, rfl, hg, hc⟩ := h.cell (by omega)
  refine ⟨by omega, by omega, ?_⟩
  refine dr_ok (hK _ ?_)
  rw [add_none, hc _ _ (by simp [hi]; rfl)]
def handsTo (f : Fo) (n : Nat) : List Int := ((List.range n).map fun i : Nat => (i : Int) + 1).filter fun h => decide (stF f (h - 1) ≠ stF f h)
theorem handsTo_succ (f : Fo) (n : Nat) : handsTo f (n + 1) = handsTo f n ++ if stF f n ≠ stF f (n + 1) then [(n : Int) + 1] else [] := by
  have e : ((n : Int) + 1 - 1) = n := by omega
  simp only [handsTo, List.range_succ, List.map_append, List.filter_append, List.map_cons, List.map_nil]
  congr 1
  by_cases h : stF f n ≠ stF f (n + 1)
  · rw [if_pos h]; simp [h]
  · rw [if_neg h]; simp at h; simp [h]
theorem handsTo_len (f : Fo) (n : Nat) : (handsTo f n).length ≤ n := by
  refine Nat.le_trans (List.length_filter_le _ _) ?_
  simp
theorem handsTo_le (f : Fo) (n : Nat) : ∀ x ∈ handsTo f n, x ≤ n := by
  intro x hx
  simp only [handsTo, List.mem_filter, List.mem_map, List.mem_range] at hx
  obtain ⟨⟨i, hi, rfl⟩, _⟩ := hx
  omega

end Go.Proofs
namespace Go.Proofs
open Go Go.Sh Go.RowKit

def hle (a : Int) : Fo → Prop
  | .nil => True
  | .cons k _ n ps r => ((k = 8 ∨ k = 9) → n ≤ a) ∧ hle a ps ∧ hle a r
theorem hle_nodes (a : Int) : ∀ {f : Fo}, (∀ x ∈ nodesF f, (x.k = 8 ∨ x.k = 9) → x.n ≤ a) → hle a f
  | .nil, _ => trivial
  | .cons k t n ps r, h => by
    simp only [nodesF, List.mem_cons, List.mem_append] at h
    exact ⟨h ⟨k, t, n, ps⟩ (.inl rfl), hle_nodes a fun x hx => h x (.inr (.inl hx)), hle_nodes a fun x hx => h x (.inr (.inr hx))⟩
theorem most_ge : ∀ (l : List Nn) (m : Int), m ≤ l.foldl (fun m (x : Nn) => if x.k = 8 ∨ x.k = 9 then max m x.n else m) m ∧ ∀ x ∈ l, (x.k = 8 ∨ x.k = 9) → x.n ≤ l.foldl (fun m (x : Nn) => if x.k = 8 ∨ x.k = 9 then max m x.n else m) m
  | [], m => ⟨Int.le_refl _, fun x hx => by simp at hx⟩
  | y :: l, m => by
    simp only [List.foldl_cons, List.mem_cons]
    obtain ⟨h1, h2⟩ := most_ge l (if y.k = 8 ∨ y.k = 9 then max m y.n else m)
    refine ⟨Int.le_trans ?_ h1, ?_⟩
    · split <;> omega
    · rintro x (rfl | hx) hk
      · rw [if_pos hk] at h1 ⊢; omega
      · exact h2 x hx hk
theorem most_le (b : Int) : ∀ (l : List Nn) (m : Int), m ≤ b → (∀ x ∈ l, (x.k = 8 ∨ x.k = 9) → x.n ≤ b) → l.foldl (fun m (x : Nn) => if x.k = 8 ∨ x.k = 9 then max m x.n else m) m ≤ b
  | [], m, h, _ => h
  | y :: l, m, h, hl => by
    simp only [List.foldl_cons]
    refine most_le b l _ ?_ fun x hx => hl x (by simp [hx])
    split
    · rename_i hk; have := hl y (by simp) hk; omega
    · exact h
theorem hle_most (f : Fo) : hle (mostN (nodesF f)) f := hle_nodes _ fun x hx hk => (most_ge (nodesF f) 0).2 x hx hk
theorem hands_nodes : ∀ {w : Bool} {f : Fo}, okF w f → ∀ x ∈ nodesF f, (x.k = 8 ∨ x.k = 9) → 1 ≤ x.n ∧ x.n ≤ 8
  | _, .nil, _, x, hx, _ => by simp [nodesF] at hx
  | w, .cons k t n ps r, ⟨h1, h2, h3⟩, x, hx, hk => by
    simp only [nodesF, List.mem_cons, List.mem_append] at hx
    rcases hx with rfl | hx | hx
    · simp only at hk ⊢
      unfold singleF at h1
      split at h1
      · cases h1
      split at h1
      · cases h1
      rw [if_neg (by omega), if_neg (by omega), if_neg (by omega), if_neg (by omega)] at h1
      try rw [if_pos hk] at h1
      split at h1
      · cases h1
      · omega
    · exact hands_nodes h2 x hx hk
    · exact hands_nodes h3 x hx hk
theorem FineF.most {f : Fo} (h : FineF f) : 0 ≤ mostN (nodesF f) ∧ mostN (nodesF f) ≤ 8 :=
  ⟨(most_ge (nodesF f) 0).1, most_le 8 _ 0 (by decide) fun x hx hk => (hands_nodes h.ok x hx hk).2⟩
theorem resolve_hle (a b : Int) (p q : Bool) : ∀ {f : Fo}, hle a f → hle b f → resolveF f a p = resolveF f b q
  | .nil, _, _ => rfl
  | .cons k t n ps r, ⟨h1, h2, h3⟩, ⟨g1, g2, g3⟩ => by
    simp only [resolveF, resolve_hle a b p q h2 g2, resolve_hle a b p q h3 g3]
    by_cases k9 : k = 9
    · rw [if_pos ⟨k9, h1 (.inr k9)⟩, if_pos ⟨k9, g1 (.inr k9)⟩]
    · by_cases k8 : k = 8
      · rw [if_neg (fun h => k9 h.1), if_pos ⟨k8, h1 (.inl k8)⟩, if_neg (fun h => k9 h.1), if_pos ⟨k8, g1 (.inl k8)⟩]
      · simp only [k8, k9, false_and, false_or, if_false]
theorem hle_mono {a b : Int} (h : a ≤ b) : ∀ {f : Fo}, hle a f → hle b f
  | .nil, _ => trivial
  | .cons k t n ps r, ⟨h1, h2, h3⟩ => ⟨fun hk => by have := h1 hk; omega, hle_mono h h2, hle_mono h h3⟩
theorem clean_most {f : Fo} (h : FineF f) : clean f ↔ mostN (nodesF f) = 0 := by
  refine ⟨most_clean, fun h0 => ?_⟩
  rw [clean_any, Bool.eq_false_iff]
  intro ha
  obtain ⟨x, hx, hk⟩ := List.any_eq_true.1 ha
  have hk : x.k = 8 ∨ x.k = 9 := by simpa [corrN] using hk
  have h1 := (most_ge (nodesF f) 0).2 x hx hk
  have h2 := (hands_nodes h.ok x hx hk).1
  have : mostN (nodesF f) = (nodesF f).foldl (fun m (x : Nn) => if x.k = 8 ∨ x.k = 9 then max m x.n else m) 0 := rfl
  omega
theorem handsTo_most {f : Fo} (most : Nat) (hm : mostN (nodesF f) = most) : ∀ d : Nat, handsTo f (most + d) = handsTo f most
  | 0 => rfl
  | d + 1 => by
    rw [show most + (d + 1) = (most + d) + 1 by omega, handsTo_succ, handsTo_most most hm d, if_neg, List.append_nil]
    intro h
    apply h
    unfold stF
    have h0 := hle_most f
    rw [hm] at h0
    rw [resolve_hle ((most + d : Nat) : Int) (((most + d : Nat) : Int) + 1) false false (hle_mono (by omega) h0) (hle_mono (by omega) h0)]

end Go.Proofs
namespace Go.Proofs
open Go Go.Sh Go.RowKit

def longF : Fo → Nat → Bool
  | .nil, _ => false
  | .cons _ t _ ps r, d => decide (d = 0) || (decide (60 < t.length ∧ t.length ≤ 65536) || (decide (65540 < t.length) || (longF ps (d - 1) || longF r d)))

theorem long_spec {S : Nat → Prop} : ∀ (f : Fo) {R : Ending → World → Prop} {w : World} {a : Option Addr} {n c : Nat} (d : Nat) (hd : d ≤ 20) (hs : small f) (hf : SlF S w a n f)
    (h : ∀ w', Ext w w' → R (.returned (.bool (longF f d))) w'), Calls Tryd.prog F_ref10_long ⟨[.slice a n c, .int .i64 (d : Int)]⟩ w R := by
  intro f
  induction hz : f.size using Nat.strongRecOn generalizing f with
  | _ z ih =>
  intro R w a n c d hd hs hf h
  unfold small at hs
  apply c_ref10_long
  have hn := hf.1
  have hfl := f.len_le_size
  refine ⟨fun i W m => ∃ (pre r : Fo), f = pre.app r ∧ i = pre.len ∧ m = r.len ∧ Ext w W ∧ longF f d = longF r d, ⟨_, .nil, f, rfl, rfl, rfl, Below.refl _ _, rfl⟩, ?_⟩
  rintro _ W m ⟨pre, r, hpr, rfl, rfl, he, heq⟩ _
  refine br_split (fun hlt => ?_) (fun hge => ?_)
  · obtain ⟨kd, t, mm, ps, r, rfl⟩ := Fo.next hpr (by omega)
    have hsl := Fo.sub_len hpr
    have hsz := Fo.sub_size hpr
    obtain ⟨q, a', c', hq, hSq, hql, hN⟩ := (hf.ext he).get hpr
    rw [longF] at heq
    have tr : (longF f d = true) → R (.returned (.bool true)) W := fun e => by rw [e] at h; exact h _ he
    refine hq _ ⟨t, hN.text, br_split (fun h1 => ?_) (fun h1 => ?_)⟩
    · exact tr (by rw [heq, decide_eq_true (by omega)]; rfl)
    rw [decide_eq_false (p := d = 0) (by omega), Bool.false_or] at heq
    refine br_split (fun h2 => br_split (fun h3 => tr (by rw [heq, decide_eq_true (by omega)]; rfl)) (fun h3 => br_split (fun h4 => tr (by rw [heq, decide_eq_true (p := 65540 < t.length) (by omega)]; simp)) (fun h4 => ?_)))
      (fun h2 => br_split (fun h4 => tr (by rw [heq, decide_eq_true (p := 65540 < t.length) (by omega)]; simp)) (fun h4 => ?_))
    all_goals
      rw [decide_eq_false (p := 60 < t.length ∧ t.length ≤ 65536) (by omega), decide_eq_false (p := 65540 < t.length) (by omega), Bool.false_or, Bool.false_or] at heq
      refine hq _ ⟨a', ps.len, c', hN.parts, ?_⟩
      rw [show IntKind.i64.wrap ((d : Int) - 1) = ((d - 1 : Nat) : Int) by rw [wrap_id (by omega)]; omega]
      refine ih _ (hz ▸ hsz) ps rfl (d - 1) (by omega) (by unfold small; omega) hN.sl fun w' he' => ⟨_, rfl, br_cases (fun g => ?_) (fun g => ?_)⟩
      · rw [heq, g] at h; exact h _ (ext_trans he he')
      · exact ⟨r.len, by simp, pre.app (.one kd t mm ps), r, by rw [Fo.app_one_app]; exact hpr, by rw [wrap_nat (by omega)]; simp [Fo.one], rfl, ext_trans he he', by rw [heq, g]; rfl⟩
  · obtain ⟨rfl, rfl⟩ := Fo.last hpr (by omega)
    have := h _ he
    rw [heq] at this
    exact this

def great10 (f : Fo) : Bool :=
  if f.len ≤ 4096 ∨ 4100 < f.len then !decide (f.size ≤ 40 ∧ f.depth ≤ 20) || longF f 20 else decide (f.len < f.size) || longF f 20

theorem great10_small {f : Fo} (h : great10 f = false) : small f := by
  unfold small great10 at *
  split at h
  · rw [Bool.or_eq_false_iff] at h
    have := h.1
    simp at this
    omega
  · rw [Bool.or_eq_false_iff] at h
    have := h.1
    simp at this
    omega
theorem Great_spec {R : Ending → World → Prop} {S : Nat → Prop} {w : World} {a : Option Addr} {n c : Nat} {f : Fo} (hf : SlF S w a n f) (h : ∀ w', Ext w w' → R (.returned (.bool (great10 f))) w') :
    Calls Tryd.prog F_ref10_Great ⟨[.slice a n c]⟩ w R := by
  apply c_ref10_Great
  have hn := hf.1
  intro K hK
  have k : ∀ g, g = decide (n ≤ 4096 ∨ 4100 < n) → K g w := by
    rintro _ rfl
    refine hK _ _ fun _ => br_split (fun g => ?_) (fun g => ?_)
    · refine size10_spec f 20 40 (by omega) (by omega) hf fun w1 e1 => ?_
      unfold great10 at h
      rw [if_pos (by omega)] at h
      unfold szF
      split
      · rename_i hh
        rw [decide_eq_true hh] at h
        refine ⟨_, _, _, rfl, ?_⟩
        refine long_spec f 20 (by omega) (by unfold small; omega) (hf.ext e1) fun w2 e2 => ⟨_, rfl, h _ (ext_trans e1 e2)⟩
      · rename_i hh
        rw [decide_eq_false hh] at h
        exact ⟨_, _, _, rfl, h _ e1⟩
    · unfold great10 at h
      rw [if_neg (by omega)] at h
      refine ⟨fun i W m => ∃ (pre r : Fo), f = pre.app r ∧ i = pre.len ∧ m = r.len ∧ Ext w W ∧ pre.size = pre.len, ⟨_, .nil, f, rfl, rfl, rfl, Below.refl _ _, rfl⟩, ?_⟩
      rintro _ W m ⟨pre, r, hpr, rfl, rfl, he, heq⟩ _
      refine br_split (fun hlt => ?_) (fun hge => ?_)
      · obtain ⟨kd, t, mm, ps, r, rfl⟩ := Fo.next hpr (by omega)
        have hsl := Fo.sub_len hpr
        obtain ⟨q, a', c', hq, hSq, hql, hN⟩ := (hf.ext he).get hpr
        refine hq _ ⟨a', ps.len, c', hN.parts, br_split (fun g1 => ?_) (fun g1 => ?_)⟩
        · have e : f.len < f.size := by
            have h1 := congrArg Fo.size hpr
            have h2 := congrArg Fo.len hpr
            have h3 := r.len_le_size
            have h4 := ps.len_le_size
            rw [Fo.size_app] at h1
            simp only [Fo.len_app, Fo.len_cons, Fo.size] at h1 h2
            omega
          rw [decide_eq_true e] at h
          exact h _ he
        · have hp0 : ps = .nil := Fo.eq_nil_of_len (by omega)
          subst hp0
          exact ⟨r.len, by simp, pre.app (.one kd t mm .nil), r, by rw [Fo.app_one_app]; exact hpr, by rw [wrap_nat (by omega)]; simp [Fo.one], rfl, he, by rw [Fo.size_app]; simp [Fo.one, Fo.size, heq]⟩
      · obtain ⟨rfl, rfl⟩ := Fo.last hpr (by omega)
        rw [decide_eq_false (by omega)] at h
        refine long_spec _ 20 (by omega) (by unfold small; rw [heq]; omega) (hf.ext he) fun w2 e2 => ⟨_, rfl, h _ (ext_trans he e2)⟩
  exact br_split (fun g => k _ (by rw [decide_eq_true (by omega)])) (fun g => k _ (by rw [decide_eq_decide]; omega))
end Go.Proofs
namespace Go.Proofs
open Go Go.Sh Go.RowKit

/- the nodes of a list in order, with whether they are within unclear ones -/
def nodesU : Fo → Bool → List (Nn × Bool)
  | .nil, _ => []
  | .cons k t n ps r, u => (⟨k, t, n, ps⟩, u) :: (nodesU ps (u || decide (k = 7)) ++ nodesU r u)
theorem nodesU_len : ∀ (f : Fo) (u : Bool), (nodesU f u).length = f.size
  | .nil, _ => rfl
  | .cons k t n ps r, u => by simp only [nodesU, List.length_cons, List.length_append, nodesU_len ps, nodesU_len r, Fo.size]
theorem nodesU_fst : ∀ (f : Fo) (u : Bool), (nodesU f u).map (·.1) = nodesF f
  | .nil, _ => rfl
  | .cons k t n ps r, u => by simp only [nodesU, nodesF, List.map_cons, List.map_append, nodesU_fst ps, nodesU_fst r]
def NuE (T : Nat → Prop) (w0 : World) (x : Nn × Bool) (vs : List Value) : Prop :=
  ∃ a c, vs = [.agg ⟨[.int .i64 x.1.k, .string ⟨⟨x.1.t⟩⟩, .int .i64 x.1.n, .slice a x.1.ps.len c]⟩, .bool x.2] ∧ SlF T w0 a x.1.ps.len x.1.ps

theorem all_walkO {yf : Fn} {ya yb : Array Value} {T : Nat → Prop} {J : List (Nn × Bool) → (Nat → Prop) → World → Prop} {Jx : (Nat → Prop) → World → Prop} {w0 : World} {xs : List (Nn × Bool)} {ty tw : Nat}
    (hTl : ∀ k, T k → k < w0.heap.size)
    (hJ : ∀ pre S W W', J pre S W → Chg (fun k => w0.heap.size ≤ k ∧ ¬ S k) W W' → J pre S W')
    (hbody : ∀ pre x vs S W, NuE T w0 x vs → pre ++ [x] <+: xs → w0.heap.size ≤ W.heap.size → (∀ k, S k → k < W.heap.size ∧ ¬ T k) → J pre S W → CallV Tryd.prog (.func yf ya yb) vs W fun e W' => Chg S W W' ∧
      ∃ S' : Nat → Prop, (∀ k, S' k → (S k ∨ W.heap.size ≤ k) ∧ k < W'.heap.size) ∧ ((e = .returned (.bool true) ∧ J (pre ++ [x]) S' W') ∨ (e = .returned (.bool false) ∧ Jx S' W'))) :
    ∀ (f : Fo) {R : Ending → World → Prop} {S : Nat → Prop} {w : World} {a : Option Addr} {n c : Nat} (u : Bool) (pre : List (Nn × Bool)), small f → SlF T w0 a n f → w0.heap.size ≤ w.heap.size → (∀ k, T k → w.heap[k]? = w0.heap[k]?) → (∀ k, S k → k < w.heap.size ∧ ¬ T k) →
      Blk w ty [.func yf ya yb] 113 → Blk w tw [.func (.func 91) ⟨[]⟩ ⟨[.pointer (some ⟨ty, 0, none⟩), .pointer (some ⟨tw, 0, none⟩)]⟩] 114 → ¬ S ty → ¬ S tw →
      pre ++ nodesU f u <+: xs → J pre S w → (∀ S' W', Chg S w W' → (∀ k, S' k → (S k ∨ w.heap.size ≤ k) ∧ k < W'.heap.size) → J (pre ++ nodesU f u) S' W' → R (.returned (.bool true)) W') →
      (∀ S' W', Chg S w W' → (∀ k, S' k → (S k ∨ w.heap.size ≤ k) ∧ k < W'.heap.size) → Jx S' W' → R (.returned (.bool false)) W') →
      Calls Tryd.prog F_legibility_all_1_1 ⟨[.slice a n c, .bool u, .pointer (some ⟨ty, 0, none⟩), .pointer (some ⟨tw, 0, none⟩)]⟩ w R := by
  intro f
  induction hz : f.size using Nat.strongRecOn generalizing f with
  | _ z ih =>
  intro R S w a n c u pre hs hf hw0 hT hS hBy hBw nSy nSw hpre hj hend hstop
  unfold small at hs
  apply c_legibility_all_1_1
  have hn := hf.1
  have hfl := f.len_le_size
  have lty := hBy.lt
  have ltw := hBw.lt
  refine ⟨fun i W m => ∃ (p r : Fo) (ps : List (Nn × Bool)) (S1 : Nat → Prop), f = p.app r ∧ i = p.len ∧ m = r.len ∧ Chg S w W ∧ (∀ k, S1 k → (S k ∨ w.heap.size ≤ k) ∧ k < W.heap.size) ∧ J ps S1 W ∧ pre ++ nodesU f u = ps ++ nodesU r u,
    ⟨_, .nil, f, pre, S, rfl, rfl, rfl, Chg.refl _ _, fun k hk => ⟨.inl hk, (hS k hk).1⟩, hj, rfl⟩, ?_⟩
  rintro _ W m ⟨p, r, xs', S1, hpr, rfl, rfl, hcW, hS1, hjW, heq⟩ _
  have hwW := hcW.size
  refine br_split (fun hlt => ?_) (fun hge => ?_)
  · obtain ⟨k, t, mm, ps, r, rfl⟩ := Fo.next hpr (by omega)
    have hsl := Fo.sub_len hpr
    have hsz := Fo.sub_size hpr
    have e1 : f = (p.app (.one k t mm ps)).app r := by rw [Fo.app_one_app]; exact hpr
    have i1 : IntKind.i64.wrap ((p.len : Int) + 1) = ((p.app (.one k t mm ps)).len : Int) := by rw [wrap_nat (by omega)]; simp [Fo.one]
    have hTW : ∀ k, T k → W.heap[k]? = w0.heap[k]? := fun k hk => (hcW.block k (by have := hTl k hk; omega) (fun h => (hS k h).2 hk)).trans (hT k hk)
    obtain ⟨q, a', c', hq, hTq, hql, hN⟩ := (hf.keep (S' := T) (w' := W) (fun k hk _ => ⟨hk, hTW k hk⟩) (by omega)).get hpr
    have hNT : SlF T w0 a' ps.len ps := hN.sl.keep' fun k hk _ => ⟨hk, hTl k hk, (hTW k hk).symm⟩
    refine hq _ ⟨k, hN.kind, t, hN.text, mm, hN.num, a', ps.len, c', hN.parts, ?_⟩
    refine al_stL (by simp) (by intro u hu; simp only [List.mem_cons, List.not_mem_nil, or_false] at hu; rcases hu with rfl | rfl | rfl | rfl <;> rfl) fun bx w1 hbx hBx e2 s2 => ?_
    have z2 := e2.size
    obtain ⟨x0, x1, x2, x3⟩ := blk4 hBx
    have hBy1 := (hcW.blk hBy nSy).ext e2
    have hBw1 := (hcW.blk hBw nSw).ext e2
    have n1y : ¬ S1 ty := fun h => (hS1 _ h).1.elim nSy (by omega)
    have n1w : ¬ S1 tw := fun h => (hS1 _ h).1.elim nSw (by omega)
    have n1x : ¬ S1 bx := fun h => by have := (hS1 _ h).2; omega
    refine dr_ok ⟨_, _, _, by rw [hBy1.cell]; rfl, k, x0, t, x1, mm, x2, a', ps.len, c', x3, ?_⟩
    have hj1 : J xs' S1 w1 := hJ _ _ _ _ hjW (Chg.of_ext e2)
    rw [nodesU] at heq
    have hpx : xs' ++ [(⟨k, t, mm, ps⟩, u)] <+: xs := by
      refine List.IsPrefix.trans ?_ hpre
      rw [heq]
      exact ⟨_, by rw [List.append_assoc]; rfl⟩
    have hS1T : ∀ k, S1 k → k < w1.heap.size ∧ ¬ T k := fun j hj => ⟨by have := (hS1 j hj).2; omega, fun ht => (hS1 j hj).1.elim (fun h => (hS j h).2 ht) (fun h => by have := hTl j ht; omega)⟩
    refine CallV_mono (hbody xs' (⟨k, t, mm, ps⟩, u) _ S1 w1 ⟨a', c', rfl, hNT⟩ hpx (by omega) hS1T hj1) ?_
    rintro e w2 ⟨hc2, S2, hS2, hres⟩
    have z3 := hc2.size
    have hcw2 : Chg S w w2 := chg_then (hcW.trans (Chg.of_ext e2)) hc2 fun i hi hh => (hS1 i hh).1.elim id fun h => by omega
    have hS2w : ∀ k, S2 k → (S k ∨ w.heap.size ≤ k) ∧ k < w2.heap.size := fun j hj => ⟨(hS2 j hj).1.elim (fun h => (hS1 j h).1) (fun h => .inr (by omega)), (hS2 j hj).2⟩
    rcases hres with ⟨rfl, hj2⟩ | ⟨rfl, hjx⟩
    · refine ⟨true, rfl, ?_⟩
      have hBx2 := hc2.blk hBx n1x
      obtain ⟨y0, y1, y2, y3⟩ := blk4 hBx2
      have hBw2 := hc2.blk hBw1 n1w
      have hBy2 := hc2.blk hBy1 n1y
      simp only [Bool.not_true, br_f]
      refine dr_ok ⟨.func 91, ⟨[]⟩, ⟨[.pointer (some ⟨ty, 0, none⟩), .pointer (some ⟨tw, 0, none⟩)]⟩, by rw [hBw2.cell]; rfl, a', ps.len, c', y3, ?_⟩
      have rest : ∀ (v : Bool) (R' : Ending → World → Prop), v = (u || decide (k = 7)) →
          (∀ w3 (S3 : Nat → Prop), Chg S2 w2 w3 → (∀ k, S3 k → (S2 k ∨ w2.heap.size ≤ k) ∧ k < w3.heap.size) → J ((xs' ++ [(⟨k, t, mm, ps⟩, u)]) ++ nodesU ps (u || decide (k = 7))) S3 w3 → R' (.returned (.bool true)) w3) →
          (∀ w3 (S3 : Nat → Prop), Chg S2 w2 w3 → (∀ k, S3 k → (S2 k ∨ w2.heap.size ≤ k) ∧ k < w3.heap.size) → Jx S3 w3 → R' (.returned (.bool false)) w3) →
          CallV Tryd.prog (.func (.func 91) ⟨[]⟩ ⟨[.pointer (some ⟨ty, 0, none⟩), .pointer (some ⟨tw, 0, none⟩)]⟩) [.slice a' ps.len c', .bool v] w2 R' := by
        rintro v R' rfl g1 g2
        refine ⟨by kernel_rfl, ?_⟩
        refine ih _ (hz ▸ hsz) ps rfl (S := S2) (u || decide (k = 7)) (xs' ++ [(⟨k, t, mm, ps⟩, u)]) (by unfold small; omega) hNT (by omega) (fun j hj => (hcw2.block j (by have := hTl j hj; omega) (fun h => (hS j h).2 hj)).trans (hT j hj))
          (fun j hj => ⟨(hS2 j hj).2, fun ht => (hS2 j hj).1.elim (fun h => (hS1T j h).2 ht) (fun h => by have := hTl j ht; omega)⟩) hBy2 hBw2 (fun h => (hS2 _ h).1.elim n1y (by omega)) (fun h => (hS2 _ h).1.elim n1w (by omega)) ?_ hj2 (fun S3 w3 hc3 hS3 hj3 => g1 w3 S3 hc3 hS3 hj3) (fun S3 w3 hc3 hS3 hjx => g2 w3 S3 hc3 hS3 hjx)
        refine List.IsPrefix.trans ?_ hpre
        rw [heq]
        exact ⟨nodesU r u, by simp⟩
      have good1 : ∀ w3 (S3 : Nat → Prop), Chg S2 w2 w3 → (∀ k, S3 k → (S2 k ∨ w2.heap.size ≤ k) ∧ k < w3.heap.size) → J ((xs' ++ [(⟨k, t, mm, ps⟩, u)]) ++ nodesU ps (u || decide (k = 7))) S3 w3 →
          ∃ m' : Nat, m' < (Fo.cons k t mm ps r).len ∧ ∃ (p1 r1 : Fo) (ps1 : List (Nn × Bool)) (S1 : Nat → Prop), f = p1.app r1 ∧ IntKind.i64.wrap ((p.len : Int) + 1) = p1.len ∧ m' = r1.len ∧ Chg S w w3 ∧ (∀ k, S1 k → (S k ∨ w.heap.size ≤ k) ∧ k < w3.heap.size) ∧ J ps1 S1 w3 ∧ pre ++ nodesU f u = ps1 ++ nodesU r1 u := by
        intro w3 S3 hc3 hS3 hj3
        refine ⟨r.len, by simp, _, r, _, S3, e1, i1, rfl, chg_then hcw2 hc3 fun i hi hh => (hS2w i hh).1.elim id fun h => by omega, fun j hj => ⟨(hS3 j hj).1.elim (fun h => (hS2w j h).1) (fun h => .inr (by omega)), (hS3 j hj).2⟩, hj3, ?_⟩
        rw [heq]; simp
      have stop1 : ∀ w3 (S3 : Nat → Prop), Chg S2 w2 w3 → (∀ k, S3 k → (S2 k ∨ w2.heap.size ≤ k) ∧ k < w3.heap.size) → Jx S3 w3 → R (.returned (.bool false)) w3 := by
        intro w3 S3 hc3 hS3 hjx
        exact hstop S3 _ (chg_then hcw2 hc3 fun i hi hh => (hS2w i hh).1.elim id fun h => by omega) (fun j hj => ⟨(hS3 j hj).1.elim (fun h => (hS2w j h).1) (fun h => .inr (by omega)), (hS3 j hj).2⟩) hjx
      cases u with
      | true =>
        refine rest true _ rfl (fun w3 S3 hc3 hS3 hj3 => ⟨true, rfl, ?_⟩) (fun w3 S3 hc3 hS3 hjx => ⟨false, rfl, ?_⟩)
        · exact good1 w3 S3 hc3 hS3 hj3
        · exact stop1 w3 S3 hc3 hS3 hjx
      | false =>
        refine ⟨k, y0, rest (decide (k = 7)) _ (by simp) (fun w3 S3 hc3 hS3 hj3 => ⟨true, rfl, ?_⟩) (fun w3 S3 hc3 hS3 hjx => ⟨false, rfl, ?_⟩)⟩
        · exact good1 w3 S3 hc3 hS3 hj3
        · exact stop1 w3 S3 hc3 hS3 hjx
    · exact ⟨false, rfl, hstop S2 _ hcw2 hS2w hjx⟩
  · obtain ⟨rfl, rfl⟩ := Fo.last hpr (by omega)
    have e : xs' = pre ++ nodesU p u := by rw [heq]; simp [nodesU]
    rw [e] at hjW
    exact hend S1 _ hcW hS1 hjW

theorem all_iterO {T : Nat → Prop} (f : Fo) (hs : small f) {a : Option Addr} {n c : Nat} (b : Nat) (w : World) (hTl : ∀ k, T k → k < w.heap.size) (hb : Blk w b [.slice a n c] 22) (hf : SlF T w a n f) (hbT : T b) :
    IterO Tryd.prog F_legibility_all_1 [.pointer (some ⟨b, 0, none⟩)] (nodesU f false) (NuE T w) T w := by
  intro yf ya yb S0 J Jx R hS hJ hJx hbody h0 hend hstop
  apply c_legibility_all_1
  refine al_intro fun ty w1 hty hBy e1 s1 => ?_
  refine al_intro fun tw w1' htw hBw' e2' s2' => ?_
  refine stL_one hBw' rfl fun w2 hBw hcc hss => ?_
  have e2 : Ext w1 w2 := ext_chgS e2' hcc fun k hk => by omega
  have E := ext_trans e1 e2
  refine ⟨.func 91, ⟨[]⟩, ⟨[.pointer (some ⟨ty, 0, none⟩), .pointer (some ⟨tw, 0, none⟩)]⟩, by rw [hBw.cell]; rfl, dr_ok ⟨a, n, c, by rw [((hb.ext e1).ext e2).cell]; rfl, by kernel_rfl, ?_⟩⟩
  have hz := E.size
  have hz1 := e1.size
  refine all_walkO (w0 := w) (xs := nodesU f false) hTl hJ hbody f (S := S0) false [] hs hf hz (fun k hk => E.block k (hTl k hk)) (fun k hk => ⟨by have := (hS k hk).1; omega, (hS k hk).2⟩) (hBy.ext e2) hBw (fun h => by have := (hS _ h).1; omega) (fun h => by have := (hS _ h).1; omega) (List.prefix_refl _)
    (hJ _ _ _ _ h0 (Chg.of_ext E)) (fun S' W' hc hS' hj => ?_) (fun S' W' hc hS' hjx => ?_)
  · exact ⟨_, rfl, hend S' _ (Nat.le_trans hz hc.size) hj⟩
  · exact ⟨_, rfl, hstop S' _ (Nat.le_trans hz hc.size) hjx⟩
theorem allU_spec {R : Ending → World → Prop} {w : World} {a : Option Addr} {n c : Nat}
    (h : ∀ b w', Blk w' b [.slice a n c] 22 → Ext w w' → b = w.heap.size → R (.returned (.func (.func F_legibility_all_1) ⟨[]⟩ ⟨[.pointer (some ⟨b, 0, none⟩)]⟩)) w') :
    Calls Tryd.prog F_legibility_all ⟨[.slice a n c]⟩ w R := by
  apply c_legibility_all
  refine al_intro fun b w' hb h1 h2 h3 => ?_
  exact h b w' h1 h2 hb
end Go.Proofs
namespace Go.Proofs
open Go Go.Sh Go.RowKit

/- no additions and deletions -/
def cleanN (x : Nn) : Bool := !(decide (x.k = 8) || decide (x.k = 9))
def cleanF (f : Fo) : Bool := (nodesF f).all cleanN
def errU (f : Fo) : Int := if checkT f ≠ 0 then 1 else if cleanF f then 0 else 13
/- the pattern -/
def patN (x : Nn) : List UInt8 := if x.k = 1 then x.t else if x.k = 6 then List.replicate x.n.toNat 95 else []
def patL (l : List (Nn × Bool)) : List UInt8 := l.flatMap fun x => patN x.1
def patF (f : Fo) : List UInt8 := (nodesF f).flatMap patN
theorem patL_nodes (f : Fo) (u : Bool) : patL (nodesU f u) = patF f := by
  rw [patF, ← nodesU_fst f u, List.flatMap_map]; rfl
theorem patL_snoc (l : List (Nn × Bool)) (x : Nn × Bool) : patL (l ++ [x]) = patL l ++ patN x.1 := by simp [patL]
theorem patL_prefix {pre : List (Nn × Bool)} {x : Nn × Bool} {l : List (Nn × Bool)} (h : pre ++ [x] <+: l) : (patL pre).length + (patN x.1).length ≤ (patL l).length := by
  obtain ⟨s, rfl⟩ := h
  simp only [patL, List.flatMap_append, List.flatMap_cons, List.flatMap_nil, List.length_append, List.append_nil]
  omega
theorem patN_len {k : Int} {t : List UInt8} {n : Int} {ps : Fo} (h : nodeOk k t n ps) : (patN ⟨k, t, n, ps⟩).length ≤ t.length + 100 := by
  unfold patN
  split
  · simp
  · split
    · rename_i h6
      have := h.2.2.1 (by simp only [numsF]; rw [show k = 6 from h6]; rfl)
      simp; omega
    · simp
theorem patF_len : ∀ (f : Fo), good f → (patF f).length ≤ tlen f + 100 * f.size
  | .nil, _ => by simp [patF, nodesF]
  | .cons k t n ps r, h => by
    have h1 := patF_len ps h.2.1
    have h2 := patF_len r h.2.2
    have h3 := patN_len h.1
    unfold patF at h1 h2 ⊢
    simp only [nodesF, List.flatMap_cons, List.flatMap_append, List.length_append, tlen, Fo.size]
    omega
theorem cleanU {f : Fo} (u : Bool) : cleanF f = (nodesU f u).all fun x => cleanN x.1 := by
  rw [cleanF, ← nodesU_fst f u, List.all_map]; rfl

set_option maxRecDepth 20000 in
theorem checkL_spec {R : Ending → World → Prop} {S : Nat → Prop} {w : World} {a : Option Addr} {n c : Nat} (f : Fo) (hs : small f) (hF : Forms w) (hf0 : SlF S w a n f)
    (h : ∀ w', Ext w w' → R (.returned (.int .i64 (errU f))) w') : Calls Tryd.prog F_legibility_check ⟨[.slice a n c]⟩ w R := by
  apply c_legibility_check
  refine al_intro fun b2 w1 hb2 B2 e1 s1 => ?_
  refine Check22_spec f hs (hf0.ext e1) (hF.ext e1) fun w2 e2 => ⟨_, rfl, br_split (fun g => ?_) (fun g => ?_)⟩
  · refine stL_one (B2.ext e2) rfl fun w3 B3 hc3 s3 => ⟨1, by rw [B3.cell]; rfl, ?_⟩
    unfold errU at h; rw [if_pos g] at h
    exact h _ (ext_chgS (ext_trans e1 e2) hc3 fun k hk => by omega)
  unfold errU at h; rw [if_neg g] at h
  refine allU_spec fun bs w4 Bs e4 hbs => ⟨_, _, _, rfl, fun base => ?_⟩
  have E4 := ext_trans (ext_trans e1 e2) e4
  have z1 := e1.size
  have z2 := e2.size
  have z4 := E4.size
  have z24 := e4.size
  have ls := Bs.lt
  have hf : SlF (fun k => S k ∧ k < w.heap.size) w a n f := hf0.imp fun k hk hl => ⟨hk, hl⟩
  rw [cd_legibility_check_1]
  refine RFw_lawO anA_legibility_check_1 anB_legibility_check_1 (gf := F_legibility_all_1) rfl (by kernel_rfl) (xs := nodesU f false) (E := NuE (fun k => (S k ∧ k < w.heap.size) ∨ k = bs) w4) (Rd := fun k => (S k ∧ k < w.heap.size) ∨ k = bs)
    (fun v1 he => (all_iterO f hs bs v1 (fun k hk => by have := he.size; omega) (Bs.ext he) ((hf.ext (ext_trans E4 he)).imp fun k hk _ => .inl hk) (.inr rfl)).mono ?_) (fun y vs hE => by obtain ⟨a', c', rfl, _⟩ := hE; rfl) (by decide) (fun k hk => by omega) (fun k => k = b2) (fun k hk => by omega)
    (fun pre S1 W => Blk W b2 [.int .i64 0] 25 ∧ (∀ k, S1 k ↔ k = b2) ∧ Ext w W ∧ (pre.all fun x => cleanN x.1) = true) (fun S1 W => Blk W b2 [.int .i64 13] 25 ∧ (∀ k, S1 k ↔ k = b2) ∧ Ext w W ∧ cleanF f = false) (fun _ _ => False)
    ?_ ?_ (fun _ _ _ h => h.elim) ⟨(B2.ext e2).ext e4, fun k => Iff.rfl, E4, rfl⟩ ?_ ?_ ?_ (fun _ _ _ _ _ _ _ h => h.elim)
  · rintro x vs ⟨a', c', rfl, hsl⟩
    exact ⟨a', c', rfl, hsl.keep' fun k hk hl => ⟨hk, by omega, ((he.block k (by omega))).symm⟩⟩
  · rintro pre S1 W W' ⟨g1, g2, g3, g4⟩ hc
    exact ⟨hc.blk g1 (fun hh => hh.2 ((g2 _).2 rfl)), g2, ext_chgS g3 hc (fun k hk => by omega), g4⟩
  · rintro S1 W W' ⟨g1, g2, g3, g4⟩ hc
    exact ⟨hc.blk g1 (fun hh => hh.2 ((g2 _).2 rfl)), g2, ext_chgS g3 hc (fun k hk => by omega), g4⟩
  · rintro pre ⟨⟨k1, t1, m1, ps1⟩, u1⟩ vs S1 W l ⟨a', c', rfl, hsl⟩ hpre hl1 hl2 hl3 hS1 ⟨g1, g2, g3, g4⟩
    refine Eq.mpr (er_legibility_check_1 base _ _ _ _ _ _ _ _ _ _ _ _ _ _ _ _) ?_
    refine al_stL (by simp) (by intro u hu; simp only [List.mem_cons, List.not_mem_nil, or_false] at hu; rcases hu with rfl | rfl | rfl | rfl <;> rfl) fun bx W1 hbx hBx ex sx => ?_
    refine ⟨ex, fun W2 hU => ?_⟩
    have zx := ex.size
    have zU := hU.size
    have hX2 := upd_blk hU hBx (by omega)
    obtain ⟨x0, x1, x2, x3⟩ := blk4 hX2
    have hUc : Chg (fun k => k = l) W1 W2 := ⟨hU.os, hU.tape, hU.output, by omega, fun k _ hk => hU.block k hk⟩
    have hWc : Chg (fun k => k = l) W W2 := (Chg.of_ext ex).trans hUc
    have nl : b2 ≠ l := fun he => hl3 ((g2 l).2 he.symm)
    have h1 := hWc.blk g1 nl
    have E2' : Ext w W2 := ext_chgS g3 hWc fun k hk => by omega
    have hmem := mem_of_prefix hpre
    have fail : cleanN ⟨k1, t1, m1, ps1⟩ = false → ∀ W3, Blk W3 b2 [.int .i64 13] 25 → Chg (fun k => k = b2) W2 W3 → Chg (fun k => S1 k ∨ W.heap.size ≤ k) W2 W3 ∧ ∃ S' : Nat → Prop, (∀ k, S' k → (S1 k ∨ W.heap.size ≤ k) ∧ k < W3.heap.size) ∧
        Blk W3 b2 [.int .i64 13] 25 ∧ (∀ k, S' k ↔ k = b2) ∧ Ext w W3 ∧ cleanF f = false := by
      intro hcl W3 hB3 hc3
      refine ⟨hc3.mono fun k _ hk => .inl ((g2 k).2 hk), fun k => k = b2, fun k hk => ⟨.inl ((g2 k).2 hk), hk ▸ hB3.lt⟩, hB3, fun k => Iff.rfl, ext_chgS E2' hc3 fun k hk => by omega, ?_⟩
      rw [cleanU false, List.all_eq_false]
      exact ⟨_, hmem, by rw [hcl]; simp⟩
    refine ⟨k1, x0, br_split (fun q => ?_) (fun q => ⟨k1, x0, br_split (fun q' => ?_) (fun q' => ?_)⟩)⟩
    · exact dr_ok (stL_one h1 rfl fun W3 hB3 hc3 _ => fail (by simp [cleanN, q]) W3 hB3 hc3)
    · exact dr_ok (stL_one h1 rfl fun W3 hB3 hc3 _ => fail (by simp [cleanN, q']) W3 hB3 hc3)
    · refine ⟨Chg.refl _ _, S1, fun j hj => ⟨.inl hj, by have := (hS1 j hj).1; omega⟩, h1, g2, E2', ?_⟩
      rw [List.all_append, g4]
      simp [cleanN, q, q']
  · rintro D S1 W hD1 hD2 hD3 hD4 ⟨g1, g2, g3, g4⟩
    rw [← cleanU false] at g4
    rw [if_pos g4] at h
    have nD : b2 ≠ D := fun he => hD3 ((g2 D).2 he.symm)
    refine stL_one g1 rfl fun W3 B3 hc3 s3 => ?_
    refine retD_one ((hc3.block D hD2 (fun he => nD he.symm)).trans hD4) ?_
    exact ⟨0, by rw [(blk_put B3 nD _).cell]; rfl, h _ (ext_put (ext_chgS g3 hc3 fun k hk => by omega) (by omega) _)⟩
  · rintro D S1 W hD1 hD2 hD3 hD4 ⟨g1, g2, g3, g4⟩
    rw [if_neg (by simp [g4])] at h
    have nD : b2 ≠ D := fun he => hD3 ((g2 D).2 he.symm)
    refine retD_one hD4 ?_
    exact ⟨13, by rw [(blk_put g1 nD _).cell]; rfl, h _ (ext_put g3 (by omega) _)⟩

theorem repeatL_one (b : UInt8) : ∀ c, Lib.repeatL [b] c = List.replicate c b
  | 0 => rfl
  | c + 1 => by rw [Lib.repeatL, repeatL_one b c]; rfl
theorem Repeat_spec {R : Ending → World → Prop} {w : World} (k : Nat) (hk : k ≤ 140737488355328) (h : ∀ w', Ext w w' → R (.returned (.string ⟨⟨List.replicate k 95⟩⟩)) w') :
    Calls Tryd.prog F_strings_Repeat ⟨[.string ⟨⟨[95]⟩⟩, .int .i64 (k : Int)]⟩ w R := by
  refine (Tryd.strings_Repeat ⟨⟨[95]⟩⟩ k w (by omega) (by simp [ByteArray.size]; omega)).mono ?_
  rintro e w' ⟨rfl, hb⟩
  have := h w' hb
  rw [← repeatL_one] at this
  exact this

set_option maxRecDepth 20000 in
theorem pattern_spec {R : Ending → World → Prop} {S : Nat → Prop} {w : World} {a : Option Addr} {n c : Nat} (f : Fo) (hs : f.size ≤ 1000000000) (hg : good f) (hl : tlen f ≤ 100000000000) (hf0 : SlF S w a n f)
    (h : ∀ w', Ext w w' → R (.returned (.string ⟨⟨patF f⟩⟩)) w') : Calls Tryd.prog F_legibility_pattern ⟨[.slice a n c]⟩ w R := by
  have hlen := patF_len f hg
  have hgn := good_nodes f hg
  apply c_legibility_pattern
  refine al_intro fun b5 w2 hb5 B5 e2 s2 => ?_
  refine allU_spec fun bs w4 Bs e4 hbs => ⟨_, _, _, rfl, fun base => ?_⟩
  have E4 := ext_trans e2 e4
  have z2 := e2.size
  have z4 := E4.size
  have z24 := e4.size
  have ls := Bs.lt
  have hf : SlF (fun k => S k ∧ k < w.heap.size) w a n f := hf0.imp fun k hk hl => ⟨hk, hl⟩
  have hbld : BldAt w4 b5 none [] := ⟨.pointer none, 0, B5.ext e4, .inl rfl, Owns.nil _ _ _ _⟩
  rw [cd_legibility_pattern_1]
  refine RFw_lawO anA_legibility_pattern_1 anB_legibility_pattern_1 (gf := F_legibility_all_1) rfl (by kernel_rfl) (xs := nodesU f false) (E := NuE (fun k => (S k ∧ k < w.heap.size) ∨ k = bs) w4) (Rd := fun k => (S k ∧ k < w.heap.size) ∨ k = bs)
    (fun v1 he => (all_iterO f (by unfold small; omega) bs v1 (fun k hk => by have := he.size; omega) (Bs.ext he) ((hf.ext (ext_trans E4 he)).imp fun k hk _ => .inl hk) (.inr rfl)).mono ?_) (fun y vs hE => by obtain ⟨a', c', rfl, _⟩ := hE; rfl) (by decide) (fun k hk => by omega) (fun k => k = b5) (fun k hk => by omega)
    (fun pre S1 W => ∃ bo : Option Addr, BldAt W b5 bo (patL pre) ∧ (∀ k, S1 k ↔ k = b5 ∨ bk bo k) ∧ Ext w W ∧ (∀ k, bk bo k → w4.heap.size ≤ k)) (fun _ _ => False) (fun _ _ => False)
    ?_ (fun _ _ _ h => h.elim) (fun _ _ _ h => h.elim) ⟨none, hbld, fun k => by simp [bk], E4, fun k hk => by simp [bk] at hk⟩ ?_ ?_ (fun _ _ _ _ _ _ _ h => h.elim) (fun _ _ _ _ _ _ _ h => h.elim)
  · rintro x vs ⟨a', c', rfl, hsl⟩
    exact ⟨a', c', rfl, hsl.keep' fun k hk hl => ⟨hk, by omega, ((he.block k (by omega))).symm⟩⟩
  · rintro pre S1 W W' ⟨bo, g1, g2, g3, g4⟩ hc
    exact ⟨bo, g1.chg hc (fun hh => hh.2 ((g2 _).2 (.inl rfl))) (fun k hk hh => hh.2 ((g2 k).2 (.inr hk))), g2, ext_chgS g3 hc (fun k hk => by omega), g4⟩
  · rintro pre ⟨⟨k1, t1, m1, ps1⟩, u1⟩ vs S1 W l ⟨a', c', rfl, hsl⟩ hpre hl1 hl2 hl3 hS1 ⟨bo, g1, g2, g3, g4⟩
    refine Eq.mpr (er_legibility_pattern_1 base _ _ _ _ _ _ _ _ _ _ _ _ _ _ _ _ _) ?_
    refine al_stL (by simp) (by intro u hu; simp only [List.mem_cons, List.not_mem_nil, or_false] at hu; rcases hu with rfl | rfl | rfl | rfl <;> rfl) fun bx W1 hbx hBx ex sx => ?_
    refine ⟨ex, fun W2 hU => ?_⟩
    have zx := ex.size
    have zU := hU.size
    have hX2 := upd_blk hU hBx (by omega)
    obtain ⟨x0, x1, x2, x3⟩ := blk4 hX2
    have hUc : Chg (fun k => k = l) W1 W2 := ⟨hU.os, hU.tape, hU.output, by omega, fun k _ hk => hU.block k hk⟩
    have hWc : Chg (fun k => k = l) W W2 := (Chg.of_ext ex).trans hUc
    have nl : ∀ k, S1 k → k ≠ l := fun k hk he => hl3 (he ▸ hk)
    have h1 := g1.chg hWc (nl _ ((g2 _).2 (.inl rfl))) (fun k hk => nl _ ((g2 k).2 (.inr hk)))
    have E2' : Ext w W2 := ext_chgS g3 hWc fun k hk => by omega
    have hpl := patL_prefix hpre
    rw [patL_nodes] at hpl
    replace hpl : (patL pre).length + (patN ⟨k1, t1, m1, ps1⟩).length ≤ (patF f).length := hpl
    have hmem : (⟨k1, t1, m1, ps1⟩ : Nn) ∈ nodesF f := by
      rw [← nodesU_fst f false]; exact List.mem_map.2 ⟨_, mem_of_prefix hpre, rfl⟩
    have hok := hgn _ hmem
    -- a string is written
    have wr : ∀ (s : List UInt8) (W3 : World) (K : Ending → World → Prop), s = patN ⟨k1, t1, m1, ps1⟩ → Ext W2 W3 → (∀ w'' v, Chg (fun k => S1 k ∨ W.heap.size ≤ k) W2 w'' → (∃ S' : Nat → Prop, (∀ k, S' k → (S1 k ∨ W.heap.size ≤ k) ∧ k < w''.heap.size) ∧
        ∃ bo : Option Addr, BldAt w'' b5 bo (patL (pre ++ [((⟨k1, t1, m1, ps1⟩ : Nn), u1)])) ∧ (∀ k, S' k ↔ k = b5 ∨ bk bo k) ∧ Ext w w'' ∧ (∀ k, bk bo k → w4.heap.size ≤ k)) → K (.returned (.tuple ⟨[.int .i64 v, .nilIface]⟩)) w'') →
        Calls Tryd.prog F_strings_Builder_WriteString ⟨[.pointer (some ⟨b5, 0, none⟩), .string ⟨⟨s⟩⟩]⟩ W3 K := by
      rintro s W3 K rfl e3 hK
      have z3 := e3.size
      refine WriteString_spec (h1.ext e3) (by omega) fun a'' w'' hb'' hk'' hc'' => ?_
      have z'' := hc''.size
      have hSS : ∀ k, (k = b5 ∨ bk a'' k) → (S1 k ∨ W.heap.size ≤ k) ∧ k < w''.heap.size := fun k hk => by
        rcases hk with rfl | hk
        · exact ⟨.inl ((g2 _).2 (.inl rfl)), hb''.lt⟩
        · exact ⟨(hk'' k hk).elim (fun h => .inl ((g2 k).2 (.inr h))) (fun h => .inr (by omega)), (hb''.bk hk).2⟩
      refine hK w'' _ ((Chg.of_ext e3).trans (hc''.mono fun k _ hk => .inl ((g2 k).2 hk))) ⟨fun k => k = b5 ∨ bk a'' k, hSS, a'', ?_, fun k => Iff.rfl, ext_chgS (ext_trans E2' e3) hc'' fun k hk => hk.elim (fun h => by omega) (fun h => by have := g4 k h; omega), fun k hk => (hk'' k hk).elim (g4 k) (fun h => by omega)⟩
      rw [patL_snoc]; exact hb''
    refine ⟨k1, x0, br_split (fun q => ?_) (fun q => br_split (fun q' => ?_) (fun q' => ?_))⟩
    · exact ⟨t1, x1, wr _ _ _ (by simp [patN, q]) (Below.refl _ _) fun w'' v hc hS => ⟨_, _, rfl, hc, hS⟩⟩
    · have hm : 0 ≤ m1 ∧ m1 < 100 := hok.2.2.1 (by simp only [numsF]; rw [show k1 = 6 from q']; rfl)
      refine ⟨m1, x2, ?_⟩
      rw [show m1 = ((m1.toNat : Nat) : Int) by omega]
      refine Repeat_spec _ (by omega) fun W3 e3 => ⟨_, rfl, wr _ _ _ (by simp [patN, q, q']) e3 fun w'' v hc hS => ⟨_, _, rfl, hc, ?_⟩⟩
      rw [show ((m1.toNat : Nat) : Int) = m1 by omega]
      exact hS
    · refine ⟨Chg.refl _ _, S1, fun k hk => ⟨.inl hk, by have := (hS1 k hk).1; omega⟩, bo, ?_, g2, E2', g4⟩
      rw [patL_snoc, show patN ⟨k1, t1, m1, ps1⟩ = [] by simp [patN, q, q'], List.append_nil]; exact h1
  · rintro D S1 W hD1 hD2 hD3 hD4 ⟨bo, g1, g2, g3, g4⟩
    rw [patL_nodes] at g1
    have hDb : some D ≠ some b5 := fun e => by have e' := Option.some.inj e; omega
    refine String_spec' g1 fun w5 hbel hok => ⟨_, rfl, retD_one (D := D) (hok D _ hD4 hDb (fun _ _ e => by cases e)) ?_⟩
    have Ew : Ext w w5 := g3.trans (hbel.mono (by omega))
    exact h _ (ext_put Ew (by omega) _)

/- Pattern -/
def patE (f : Fo) : Int := if errU f ≠ 0 then errU f else if 65536 < (patF f).length then 4 else 0
def patS (f : Fo) : List UInt8 := if patE f ≠ 0 then [] else patF f
theorem errU_zero {f : Fo} (h : errU f = 0) : checkT f = 0 ∧ cleanF f = true := by
  unfold errU at h
  split at h
  · cases h
  · rename_i h1
    split at h
    · rename_i h2; exact ⟨Decidable.not_not.1 h1, h2⟩
    · cases h
theorem Pattern_spec {R : Ending → World → Prop} {S : Nat → Prop} {w : World} {a : Option Addr} {n c : Nat} (f : Fo) (hs : small f) (hF : Forms w) (hf0 : SlF S w a n f)
    (h : ∀ w', Ext w w' → R (.returned (.tuple ⟨[.string ⟨⟨patS f⟩⟩, .int .i64 (patE f)]⟩)) w') : Calls Tryd.prog F_legibility_Pattern ⟨[.slice a n c]⟩ w R := by
  apply c_legibility_Pattern
  unfold patS patE at h
  refine checkL_spec f hs hF hf0 fun w1 e1 => ⟨_, rfl, br_split (fun g => ?_) (fun g => ?_)⟩
  · simp only [if_pos g] at h; exact h _ e1
  simp only [if_neg g] at h
  obtain ⟨hc0, _⟩ := errU_zero (Decidable.not_not.1 g)
  obtain ⟨q1, q2, q3⟩ := check_zero hc0
  refine pattern_spec f (by omega) q2 (by omega) (hf0.ext e1) fun w2 e2 => ⟨_, rfl, ?_⟩
  apply c_legibility_limited
  have E := ext_trans e1 e2
  refine br_split (fun g1 => ⟨_, _, rfl, ?_⟩) (fun g1 => ⟨_, _, rfl, ?_⟩)
  · simp only [if_pos (show 65536 < (patF f).length by omega)] at h; exact h _ E
  · simp only [if_neg (show ¬ 65536 < (patF f).length by omega)] at h; exact h _ E
end Go.Proofs
namespace Go.Proofs
open Go Go.Sh Go.RowKit

theorem nodesF_appU (f g : Fo) : nodesF (f.app g) = nodesF f ++ nodesF g := by
  induction f with
  | nil => rfl
  | cons k t n ps r _ ih => simp only [Fo.cons_app, nodesF, ih, List.append_assoc, List.cons_append]
theorem patF_app (f g : Fo) : patF (f.app g) = patF f ++ patF g := by unfold patF; rw [nodesF_appU, List.flatMap_append]
theorem patF_cons (k t n) (ps r : Fo) : patF (.cons k t n ps r) = patN ⟨k, t, n, ps⟩ ++ (patF ps ++ patF r) := by
  simp [patF, nodesF]
theorem cleanF_cons (k t n) (ps r : Fo) : cleanF (.cons k t n ps r) = (cleanN ⟨k, t, n, ps⟩ && (cleanF ps && cleanF r)) := by
  simp [cleanF, nodesF, List.all_append]

theorem clean12_spec {S : Nat → Prop} : ∀ (f : Fo) {R : Ending → World → Prop} {w : World} {a : Option Addr} {n c : Nat} (hs : small f) (hf : SlF S w a n f)
    (h : ∀ w', Ext w w' → R (.returned (.bool (cleanF f))) w'), Calls Tryd.prog F_ref12_clean ⟨[.slice a n c]⟩ w R := by
  intro f
  induction hz : f.size using Nat.strongRecOn generalizing f with
  | _ z ih =>
  intro R w a n c hs hf h
  unfold small at hs
  apply c_ref12_clean
  have hn := hf.1
  have hfl := f.len_le_size
  refine ⟨fun i W m => ∃ (pre r : Fo), f = pre.app r ∧ i = pre.len ∧ m = r.len ∧ Ext w W ∧ cleanF f = cleanF r, ⟨_, .nil, f, rfl, rfl, rfl, Below.refl _ _, rfl⟩, ?_⟩
  rintro _ W m ⟨pre, r, hpr, rfl, rfl, he, heq⟩ _
  refine br_split (fun hlt => ?_) (fun hge => ?_)
  · obtain ⟨kd, t, mm, ps, r, rfl⟩ := Fo.next hpr (by omega)
    have hsl := Fo.sub_len hpr
    have hsz := Fo.sub_size hpr
    obtain ⟨q, a', c', hq, hSq, hql, hN⟩ := (hf.ext he).get hpr
    rw [cleanF_cons] at heq
    have fl : cleanF f = false → ∀ W', Ext w W' → R (.returned (.bool false)) W' := fun e W' he' => by rw [e] at h; exact h _ he'
    refine hq _ ⟨kd, hN.kind, br_split (fun g => fl (by rw [heq]; simp [cleanN, g]) _ he) (fun g => hq _ ⟨kd, hN.kind, br_split (fun g' => fl (by rw [heq]; simp [cleanN, g']) _ he) (fun g' => hq _ ⟨a', ps.len, c', hN.parts, ?_⟩)⟩)⟩
    have e : cleanF f = (cleanF ps && cleanF r) := by rw [heq]; simp [cleanN, g, g']
    refine ih _ (hz ▸ hsz) ps rfl (by unfold small; omega) hN.sl fun w' he' => ⟨_, rfl, ?_⟩
    cases hp : cleanF ps with
    | false => exact fl (by rw [e, hp]; rfl) _ (ext_trans he he')
    | true => exact ⟨r.len, by simp, pre.app (.one kd t mm ps), r, by rw [Fo.app_one_app]; exact hpr, by rw [wrap_nat (by omega)]; simp [Fo.one], rfl, ext_trans he he', by rw [e, hp]; rfl⟩
  · obtain ⟨rfl, rfl⟩ := Fo.last hpr (by omega)
    have := h _ he
    rw [heq] at this
    exact this

theorem check12_spec {R : Ending → World → Prop} {S : Nat → Prop} {w : World} {a : Option Addr} {n c : Nat} (f : Fo) (hf : SlF S w a n f)
    (h : ∀ w', Ext w w' → R (.returned (.int .i64 (errU f))) w') : Calls Tryd.prog F_ref12_check ⟨[.slice a n c]⟩ w R := by
  apply c_ref12_check
  unfold errU at h
  refine Check10_spec f hf fun w1 e1 => ⟨_, rfl, br_split (fun g => ?_) (fun g => ?_)⟩
  · rw [if_pos g] at h; exact h _ e1
  rw [if_neg g] at h
  obtain ⟨q1, _⟩ := check_zero (Decidable.not_not.1 g)
  refine clean12_spec f (by unfold small; omega) (hf.ext e1) fun w2 e2 => ⟨_, rfl, ?_⟩
  have E := ext_trans e1 e2
  cases hc : cleanF f with
  | true => rw [hc] at h; exact h _ E
  | false => rw [hc] at h; exact h _ E

theorem lost12_spec {R : Ending → World → Prop} {w : World} (k : Nat) (hk : k ≤ 1000000000) (h : ∀ w', Ext w w' → R (.returned (.string ⟨⟨List.replicate k 95⟩⟩)) w') :
    Calls Tryd.prog F_ref12_lost ⟨[.int .i64 (k : Int)]⟩ w R := by
  apply c_ref12_lost
  refine ⟨fun out i W m => ∃ j : Nat, j ≤ k ∧ i = j ∧ out = List.replicate j 95 ∧ m = k - j ∧ W = w, ⟨_, 0, by omega, rfl, rfl, rfl, rfl⟩, ?_⟩
  rintro _ _ W m ⟨j, hj, rfl, rfl, rfl, rfl⟩ _
  refine br_split (fun g => ⟨by simp; omega, k - (j + 1), by omega, j + 1, by omega, by rw [wrap_nat (by omega)], by rw [List.replicate_succ'], rfl, rfl⟩) (fun g => ?_)
  have : j = k := by omega
  subst this
  exact h _ (Below.refl _ _)

theorem pattern12_spec {S : Nat → Prop} : ∀ (f : Fo) {R : Ending → World → Prop} {w : World} {a : Option Addr} {n c : Nat} (hs : f.size ≤ 1000000000) (hg : good f) (hl : tlen f ≤ 100000000000) (hf : SlF S w a n f)
    (h : ∀ w', Ext w w' → R (.returned (.string ⟨⟨patF f⟩⟩)) w'), Calls Tryd.prog F_ref12_pattern ⟨[.slice a n c]⟩ w R := by
  intro f
  induction hz : f.size using Nat.strongRecOn generalizing f with
  | _ z ih =>
  intro R w a n c hs hg hl hf h
  apply c_ref12_pattern
  have hn := hf.1
  have hfl := f.len_le_size
  have hlen := patF_len f hg
  refine ⟨fun out i W m => ∃ (pre r : Fo), f = pre.app r ∧ out = patF pre ∧ i = pre.len ∧ m = r.len ∧ Ext w W, ⟨_, .nil, f, rfl, rfl, rfl, rfl, Below.refl _ _⟩, ?_⟩
  rintro _ _ W m ⟨pre, r, hpr, rfl, rfl, rfl, he⟩ _
  refine br_split (fun hlt => ?_) (fun hge => ?_)
  · obtain ⟨kd, t, mm, ps, r, rfl⟩ := Fo.next hpr (by omega)
    have hsl := Fo.sub_len hpr
    have hsz := Fo.sub_size hpr
    have hG := hg
    rw [hpr, good_app] at hG
    obtain ⟨_, hok, hgp, _⟩ := hG
    have hpt : tlen ps ≤ tlen f := by rw [hpr, tlen_app]; simp only [tlen]; omega
    have hLL : (patF pre).length + ((patN ⟨kd, t, mm, ps⟩).length + (patF ps).length) ≤ (patF f).length := by
      rw [hpr, patF_app, patF_cons]; simp only [List.length_append]; omega
    intro K8 hK8
    have k8 : ∀ o, o = patF pre ++ (if kd = 1 then t else []) → K8 o W := by
      rintro _ rfl
      refine hK8 _ _ fun _ => ?_
      intro K11 hK11
      have k11 : ∀ W1 o, Ext W W1 → o = patF pre ++ patN ⟨kd, t, mm, ps⟩ → K11 o W1 := by
        rintro W1 _ e1 rfl
        have he1 := ext_trans he e1
        obtain ⟨q, a', c', hq, hSq, hql, hN⟩ := (hf.ext he1).get hpr
        refine hK11 _ _ fun _ => hq _ ⟨a', ps.len, c', hN.parts, ?_⟩
        refine ih _ (hz ▸ hsz) ps rfl (by omega) hgp (by omega) hN.sl fun w2 e2 => ⟨_, rfl, ⟨by simp only [List.length_append]; omega, r.len, by simp, pre.app (.one kd t mm ps), r, by rw [Fo.app_one_app]; exact hpr, ?_, by rw [wrap_nat (by omega)]; simp [Fo.one], rfl, ext_trans he1 e2⟩⟩
        rw [patF_app, Fo.one, patF_cons, List.append_assoc]
        simp [patF, nodesF]
      obtain ⟨q, a', c', hq, hSq, hql, hN⟩ := (hf.ext he).get hpr
      refine hq _ ⟨kd, hN.kind, br_split (fun g => ?_) (fun g => ?_)⟩
      · have hm : 0 ≤ mm ∧ mm < 100 := hok.2.2.1 (by simp only [numsF]; rw [show kd = 6 from g]; rfl)
        have hp : patN ⟨kd, t, mm, ps⟩ = List.replicate mm.toNat 95 := by simp [patN, g]
        refine hq _ ⟨mm, hN.num, ?_⟩
        rw [show mm = ((mm.toNat : Nat) : Int) by omega]
        refine lost12_spec _ (by omega) fun w2 e2 => ⟨_, rfl, ?_⟩
        rw [hp] at hLL
        rw [if_neg (by omega), List.append_nil]
        exact ⟨by omega, k11 _ _ e2 (by rw [hp])⟩
      · refine k11 _ _ (Below.refl _ _) ?_
        unfold patN
        simp only
        split
        · rfl
        · first | rfl | rw [if_neg g]
    obtain ⟨q, a', c', hq, hSq, hql, hN⟩ := (hf.ext he).get hpr
    refine hq _ ⟨kd, hN.kind, br_split (fun g => hq _ ⟨t, hN.text, ?_⟩) (fun g => k8 _ (by rw [if_neg g, List.append_nil]))⟩
    have hp : patN ⟨kd, t, mm, ps⟩ = t := by simp [patN, g]
    rw [hp] at hLL
    exact ⟨by omega, k8 _ (by rw [if_pos g])⟩
  · obtain ⟨rfl, rfl⟩ := Fo.last hpr (by omega)
    exact h _ he

theorem Pattern12_spec {R : Ending → World → Prop} {S : Nat → Prop} {w : World} {a : Option Addr} {n c : Nat} (f : Fo) (hf : SlF S w a n f)
    (h : ∀ w', Ext w w' → R (.returned (.tuple ⟨[.string ⟨⟨patS f⟩⟩, .int .i64 (patE f)]⟩)) w') : Calls Tryd.prog F_ref12_Pattern ⟨[.slice a n c]⟩ w R := by
  apply c_ref12_Pattern
  unfold patS patE at h
  refine check12_spec f hf fun w1 e1 => ⟨_, rfl, br_split (fun g => ?_) (fun g => ?_)⟩
  · simp only [if_pos g] at h; exact h _ e1
  simp only [if_neg g] at h
  obtain ⟨hc0, _⟩ := errU_zero (Decidable.not_not.1 g)
  obtain ⟨q1, q2, q3⟩ := check_zero hc0
  refine pattern12_spec f (by omega) q2 (by omega) (hf.ext e1) fun w2 e2 => ⟨_, rfl, br_split (fun g1 => ?_) (fun g1 => ?_)⟩
  · simp only [if_pos (show 65536 < (patF f).length by omega)] at h; exact h _ (ext_trans e1 e2)
  · simp only [if_neg (show ¬ 65536 < (patF f).length by omega)] at h; exact h _ (ext_trans e1 e2)
end Go.Proofs
namespace Go.Sh
open Go Go.RowKit

/- entering a round: the loop's variable is laid, the record turns -/
theorem round_in {W : World} {T : TypeId} {zs vs : List Value} {l : Nat} {B : Addr → World → World → Prop} (hl : l < W.heap.size) (hlen : vs.length = zs.length) (ho : ∀ v ∈ vs, v.oneCell' = true)
    (h : ∀ bx W1 W2, bx = W.heap.size → Ext W W1 → Blk W2 bx vs T → Chg (fun k => k = l) W W2 → W2.heap.size = bx + 1 → B ⟨bx, 0, none⟩ W1 W2) :
    al W T zs fun p w1 => stL w1 p 0 vs fun w2 => Ext W w2 ∧ ∀ W2 : World, Upd l w2 W2 → B p w2 W2 := by
  refine al_stL hlen ho fun bx w1 hbx hBx e2 s2 => ⟨e2, fun W2 hU => ?_⟩
  have zU := hU.size
  have hUc : Chg (fun k => k = l) w1 W2 := ⟨hU.os, hU.tape, hU.output, by omega, fun k _ hk => hU.block k hk⟩
  exact h bx w1 W2 hbx e2 (hBx.keep (hU.block bx (by omega))) ((Chg.of_ext e2).trans hUc) (by omega)

/- a loop over an iterator that counts in one cell -/
theorem RFw_count {α : Type} {P : Program} {N : Nat} {g : Operand} {ps : Array Tmp} {assign body : Code} {env : Env} {ds : List Deferred} {w : World} {x : Nat} {Qn Qr Qx : List Deferred → World → Prop}
    (xA xB : Ann) {gf : FuncId} {cap : List Value} (hg : ev env g = .func (.func gf) ⟨[]⟩ ⟨cap⟩) (hok : okFn P gf = true)
    {xs : List α} {E : α → List Value → Prop} {Rd : Nat → Prop} (hit : ∀ w1, Ext w w1 → IterO P gf cap xs E Rd w1)
    (hps : ∀ y vs, E y vs → vs.length = ps.size) (hpN : ∀ p ∈ ps.toList, p < N)
    (hRd : ∀ k, Rd k → k < w.heap.size) {w0 : World} (hw0 : Ext w0 w) {b5 : Nat} {T5 : TypeId} (h0 : w0.heap.size ≤ b5) (hn5 : ¬ Rd b5) (val : List α → Int) (B5 : Blk w b5 [.int .i64 (val [])] T5)
    (hround : ∀ pre y vs W l, E y vs → pre ++ [y] <+: xs → w.heap.size ≤ l → l < W.heap.size → b5 ≠ l → Blk W b5 [.int .i64 (val pre)] T5 → Ext w0 W →
      ∀ Kn Kr Kx : World → World → Prop, (∀ W2 W', Ext w0 W2 → Chg (fun k => k = b5) W2 W' → Blk W' b5 [.int .i64 (val (pre ++ [y]))] T5 → Kn W2 W') → fragV P N xA xB assign body l x Kn Kr Kx (updPs ps.toList vs env) W)
    (hn : ∀ D W, w.heap.size ≤ D → D < W.heap.size → b5 ≠ D → W.heap[D]? = some (.deferred (some [])) → Blk W b5 [.int .i64 (val xs)] T5 → Ext w0 W → Qn ({ target := .collected D, args := #[] } :: ds) W) :
    RFw P none N (.rangeFunc g ps assign body) env ds w x Qn Qr Qx := by
  have l5 := B5.lt
  refine RFw_lawO xA xB hg hok (xs := xs) (E := E) (Rd := Rd) hit hps hpN hRd (fun k => k = b5) (fun k hk => ⟨hk ▸ l5, hk ▸ hn5⟩)
    (fun pre S1 W => Blk W b5 [.int .i64 (val pre)] T5 ∧ (∀ k, S1 k ↔ k = b5) ∧ Ext w0 W) (fun _ _ => False) (fun _ _ => False)
    ?_ (fun _ _ _ h => h.elim) (fun _ _ _ h => h.elim) ⟨B5, fun k => Iff.rfl, hw0⟩ ?_ ?_ (fun _ _ _ _ _ _ _ h => h.elim) (fun _ _ _ _ _ _ _ h => h.elim)
  · rintro pre S1 W W' ⟨g1, g2, g3⟩ hc
    have z := hw0.size
    refine ⟨hc.blk g1 (fun hh => hh.2 ((g2 _).2 rfl)), g2, ?_⟩
    exact g3.trans ⟨hc.os, hc.tape, hc.output, hc.size, fun k hk => hc.block k (Nat.lt_of_lt_of_le hk g3.size) (fun hh => by have := hh.1; omega)⟩
  · rintro pre y vs S1 W l hE hpre hl1 hl2 hl3 hS1 ⟨g1, g2, g3⟩
    have nl : b5 ≠ l := fun he => hl3 ((g2 l).2 he.symm)
    refine hround pre y vs W l hE hpre hl1 hl2 nl g1 g3 _ _ _ fun W2 W' he hc hb => ⟨hc.mono fun k _ hk => .inl ((g2 k).2 hk), fun k => k = b5, fun k hk => ⟨.inl ((g2 k).2 hk), hk ▸ hb.lt⟩, hb, fun k => Iff.rfl, ?_⟩
    exact he.trans ⟨hc.os, hc.tape, hc.output, hc.size, fun k hk => hc.block k (Nat.lt_of_lt_of_le hk he.size) (fun hh => by omega)⟩
  · rintro D S1 W hD1 hD2 hD3 hD4 ⟨g1, g2, g3⟩
    exact hn D W hD1 hD2 (fun he => hD3 ((g2 D).2 he.symm)) hD4 g1 g3
end Go.Sh
namespace Go.Sh
open Go Go.RowKit

/- how the elements of a slice lie in cells -/
structure Enc (α : Type) where
  enc : α → List Value
  size : Nat
  len : ∀ x, (enc x).length = size
  pos : 0 < size
  one : ∀ x, ∀ v ∈ enc x, v.oneCell' = true
section
variable {α : Type} {E : Enc α}
def Enc.row (E : Enc α) (l : List α) : List Value := l.flatMap E.enc
@[simp] theorem row_nil : E.row [] = [] := rfl
theorem row_cons (x : α) (l : List α) : E.row (x :: l) = E.enc x ++ E.row l := rfl
theorem row_app (l m : List α) : E.row (l ++ m) = E.row l ++ E.row m := by simp [Enc.row]
theorem row_snoc (l : List α) (x : α) : E.row (l ++ [x]) = E.row l ++ E.enc x := by simp [Enc.row]
theorem row_len : ∀ l : List α, (E.row l).length = l.length * E.size
  | [] => by simp
  | x :: l => by rw [row_cons, List.length_append, E.len, row_len l, List.length_cons, Nat.add_mul, Nat.one_mul]; omega
theorem row_one (l : List α) : ∀ v ∈ E.row l, v.oneCell' = true := by
  intro v hv
  obtain ⟨x, _, hx⟩ := List.mem_flatMap.1 hv
  exact E.one x v hx
theorem row_get {x : α} : ∀ {l : List α} {i j : Nat}, l[i]? = some x → j < E.size → (E.row l)[i * E.size + j]? = (E.enc x)[j]?
  | [], i, j, h, _ => by simp at h
  | y :: l, 0, j, h, hj => by
    simp at h; subst h
    rw [row_cons, Nat.zero_mul, Nat.zero_add, List.getElem?_append_left (by rw [E.len]; exact hj)]
  | y :: l, i + 1, j, h, hj => by
    simp at h
    rw [row_cons, List.getElem?_append_right (by rw [E.len, Nat.add_mul, Nat.one_mul]; omega), E.len, show (i + 1) * E.size + j - E.size = i * E.size + j by rw [Nat.add_mul, Nat.one_mul]; omega]
    exact row_get h hj
theorem putAt_app : ∀ (vs : List Value) (a b : List Value) (o : Nat), putAt (a ++ b) (a.length + o) vs = a ++ putAt b o vs
  | [], a, b, o => rfl
  | v :: vs, a, b, o => by
    rw [putAt, putAt, List.set_append_right _ _ (by omega), show a.length + o - a.length = o by omega, Nat.add_assoc, putAt_app vs a (b.set o v) (o + 1)]
theorem putAt_head : ∀ (vs a : List Value) (rest : List Value), vs.length = a.length → putAt (a ++ rest) 0 vs = vs ++ rest := by
  intro vs a rest h
  apply List.ext_getElem?
  intro i
  rw [putAt_get]
  by_cases hi : i < vs.length
  · rw [if_pos ⟨by omega, by omega, by simp; omega⟩, List.getElem?_append_left (by omega)]; simp
  · rw [if_neg (by omega), List.getElem?_append_right (by omega), List.getElem?_append_right (by omega), h]
theorem row_put {x : α} {rest : List Value} : ∀ {l : List α} {i : Nat}, i < l.length → putAt (E.row l ++ rest) (i * E.size) (E.enc x) = E.row (l.set i x) ++ rest
  | [], i, h => by simp at h
  | y :: l, 0, h => by
    rw [Nat.zero_mul, row_cons, List.set_cons_zero, row_cons, List.append_assoc, putAt_head _ _ _ (by rw [E.len, E.len]), List.append_assoc]
  | y :: l, i + 1, h => by
    rw [row_cons, List.set_cons_succ, row_cons, List.append_assoc, List.append_assoc, show (i + 1) * E.size = (E.enc y).length + i * E.size by rw [E.len, Nat.add_mul, Nat.one_mul]; omega, putAt_app, row_put (by simpa using h)]

/- a slice that can be read -/
def RowAt (E : Enc α) (S : Nat → Prop) (w : World) (a : Option Addr) (n : Nat) (l : List α) : Prop := n = l.length ∧ At S w a (E.row l)
section
variable {S S' : Nat → Prop} {w w' : World} {a : Option Addr} {n : Nat} {l : List α}
theorem RowAt.keep (h : RowAt E S w a n l) (hs : ∀ k, S k → k < w.heap.size → S' k ∧ w'.heap[k]? = w.heap[k]?) (hz : w.heap.size ≤ w'.heap.size) : RowAt E S' w' a n l := ⟨h.1, h.2.keep hs hz⟩
theorem RowAt.ext (h : RowAt E S w a n l) (he : Ext w w') : RowAt E S w' a n l := h.keep (fun k hk hl => ⟨hk, he.block k hl⟩) he.size
theorem RowAt.chg {T : Nat → Prop} (h : RowAt E S w a n l) (he : Chg T w w') (hd : ∀ k, S k → ¬ T k) : RowAt E S w' a n l := h.keep (fun k hk hl => ⟨hk, he.block k hl (hd k hk)⟩) he.size
theorem RowAt.imp (h : RowAt E S w a n l) (hs : ∀ k, S k → k < w.heap.size → S' k) : RowAt E S' w a n l := h.keep (fun k hk hl => ⟨hs k hk hl, rfl⟩) (Nat.le_refl _)
theorem RowAt.nil (a : Option Addr) : RowAt E S w a 0 [] := ⟨rfl, .inl rfl⟩
theorem RowAt.get (h : RowAt E S w a n l) {i : Nat} {x : α} (hi : l[i]? = some x) :
    ∃ b o, (∀ K : Addr → Prop, K ⟨b, o, none⟩ → idx a n (i : Int) E.size K) ∧ S b ∧ b < w.heap.size ∧ ∀ j v, (E.enc x)[j]? = some v → w.cell? ⟨b, o + j, none⟩ = some v := by
  have hlt := (List.getElem?_eq_some_iff.1 hi).1
  have hn := h.1
  rcases h.2 with h2 | ⟨b, o, rfl, hb, hbl, hc⟩
  · have := congrArg List.length h2
    rw [row_len] at this
    simp only [List.length_nil] at this
    rcases Nat.mul_eq_zero.1 this with h | h
    · omega
    · have := E.pos; omega
  refine ⟨b, o + i * E.size, fun K hK => ⟨by omega, by omega, ?_⟩, hb, hbl, fun j v hj => ?_⟩
  · show K _
    rw [add_none, Int.toNat_natCast]; exact hK
  · rw [Nat.add_assoc]
    refine hc _ _ ?_
    rw [row_get hi (by have := (List.getElem?_eq_some_iff.1 hj).1; rw [E.len] at this; exact this)]; exact hj
end

/- a slice that the call has made -/
abbrev OwnL (E : Enc α) (w : World) (B : Nat) (e : TypeId) (a : Option Addr) (n c : Nat) (l : List α) : Prop := Owns w B e E.size a n c (E.row l)
section
variable {w w' : World} {B : Nat} {e : TypeId} {a : Option Addr} {n c : Nat} {l : List α}
theorem OwnL.length (h : OwnL E w B e a n c l) : l.length = n := by
  have := h.len
  rw [row_len] at this
  exact Nat.eq_of_mul_eq_mul_right E.pos this
theorem OwnL.out (h : OwnL E w B e a n c l) : RowAt E (bk a) w a n l := by
  refine ⟨h.length.symm, ?_⟩
  by_cases hn : 0 < n
  · obtain ⟨g, rfl, hg, hc⟩ := h.cell hn
    exact .inr ⟨g, 0, rfl, by simp [bk], (h.bk (by simp [bk])).2, fun j v hj => by rw [Nat.zero_add]; exact hc j v hj⟩
  · have hx : l = [] := List.eq_nil_of_length_eq_zero (by rw [h.length]; omega)
    subst hx
    exact .inl rfl
theorem OwnL.push {P : Program} {t ty : TypeId} {bytes : Nat} {z : Value} (hT : SlT P t e E.size bytes z) (h : OwnL E w B e a n c l) (hB : B ≤ w.heap.size) (x : α) (hlen : n + 1 ≤ 4611686018427387904) (hbytes : (n + 1) * bytes ≤ 140737488355328) {K : Option Addr → Nat → Nat → World → Prop}
    (hk : ∀ a' c'' w', OwnL E w' B e a' (n + 1) c'' (l ++ [x]) → Chg (bk a) w w' → (∀ k, bk a' k → bk a k ∨ w.heap.size ≤ k) → K a' (n + 1) c'' w') :
    al w e (E.enc x) fun p w1 => app P [t, t] ty (.slice a n c) (.slice (some p) 1 1) w1 K :=
  app_one2 hT h hB _ (E.len x) (E.one x) hlen hbytes fun a' c'' w' ho hc hn => hk a' c'' w' (by unfold OwnL; rw [row_snoc]; exact ho) hc hn
theorem OwnL.pushAll {P : Program} {t ty : TypeId} {bytes : Nat} {z : Value} (hT : SlT P t e E.size bytes z) (h : OwnL E w B e a n c l) (hB : B ≤ w.heap.size) {S : Nat → Prop} {a1 : Option Addr} {m c1 : Nat} {l' : List α} (hg : RowAt E S w a1 m l') (hlen : n + m ≤ 4611686018427387904) (hbytes : (n + m) * bytes ≤ 140737488355328) {K : Option Addr → Nat → Nat → World → Prop}
    (hk : ∀ a' c'' w', OwnL E w' B e a' (n + m) c'' (l ++ l') → Chg (bk a) w w' → (∀ k, bk a' k → bk a k ∨ w.heap.size ≤ k) → K a' (n + m) c'' w') :
    app P [t, t] ty (.slice a n c) (.slice a1 m c1) w K :=
  app_own2 hT h hB (E.row l') (by rw [row_len, ← hg.1]) hg.2 (row_one l') hlen hbytes fun a' c'' w' ho hc hn => hk a' c'' w' (by unfold OwnL; rw [row_app]; exact ho) hc hn
/- writing one element -/
theorem OwnL.store (h : OwnL E w B e a n c l) {i : Nat} (hi : i < n) (x : α) :
    ∃ g, a = some ⟨g, 0, none⟩ ∧ (∀ K : Addr → Prop, K ⟨g, i * E.size, none⟩ → idx a n (i : Int) E.size K) ∧
      ∀ K : World → Prop, (∀ w', OwnL E w' B e a n c (l.set i x) → Chg (bk a) w w' → w'.heap.size = w.heap.size → K w') → stL w ⟨g, i * E.size, none⟩ 0 (E.enc x) K := by
  have hl := h.length
  rcases h.2 with h1 | ⟨g, cap, cur, e1, e2, e3, e4, e5, e6, e7⟩
  · omega
  obtain ⟨rfl, _, rfl⟩ : a = some ⟨g, 0, none⟩ ∧ True ∧ c = cap := by simpa using e1
  have hB : Blk w g cur.toList e := e3
  have hcl : cur.toList.length = c * E.size := by simpa using e6
  have hcur : cur.toList = E.row l ++ cur.toList.drop (n * E.size) := by rw [← e7, List.take_append_drop]
  have hin : i * E.size + E.size ≤ n * E.size := by
    have : (i + 1) * E.size ≤ n * E.size := Nat.mul_le_mul_right _ hi
    rwa [Nat.add_mul, Nat.one_mul] at this
  have hnc : n * E.size ≤ c * E.size := Nat.mul_le_mul_right _ e4
  refine ⟨g, rfl, fun K hK => ⟨by omega, by omega, ?_⟩, fun K hK => ?_⟩
  · show K _
    rw [add_none, Int.toNat_natCast, Nat.zero_add]; exact hK
  refine stL_blk hB (by rw [E.len]; omega) (E.one x) fun w' b1 b2 b3 b4 b5 b6 => ?_
  have hc : Chg (bk (some (⟨g, 0, none⟩ : Addr))) w w' := ⟨b4, b5, b6, by omega, fun k' _ hk => b2 k' fun e => hk (by simp [bk, e])⟩
  rw [Nat.add_zero, hcur, row_put (by omega)] at b1
  refine hK w' ⟨by rw [row_len, List.length_set, hl], .inr ⟨g, c, ⟨_⟩, rfl, e2, b1, e4, e5, ?_, ?_⟩⟩ hc b3
  · show (E.row (l.set i x) ++ cur.toList.drop (n * E.size)).length = c * E.size
    rw [List.length_append, List.length_drop, hcl, row_len, List.length_set, hl]; omega
  · show List.take (n * E.size) (E.row (l.set i x) ++ _) = _
    rw [List.take_append_of_le_length (by rw [row_len, List.length_set, hl]; exact Nat.le_refl _), List.take_of_length_le (by rw [row_len, List.length_set, hl]; exact Nat.le_refl _)]
end

/- making a row of zeros -/
theorem mks_intro {w : World} {elem : TypeId} {bytes : Nat} {zero : List Value} {l c : Nat} {K : Addr → World → Prop} (hlc : l ≤ c) (hb : bytes * c ≤ 140737488355328)
    (h : ∀ b w', b = w.heap.size → Blk w' b (List.replicate c zero).flatten elem → Ext w w' → w'.heap.size = b + 1 → K ⟨b, 0, none⟩ w') : mks w elem bytes zero (l : Int) (c : Int) K := by
  refine ⟨by omega, by omega, by rw [← Int.natCast_mul]; exact Int.ofNat_le.2 hb, ?_⟩
  refine h _ _ rfl ?_ ((Below.refl _ w).alloc (Nat.le_refl _) _) (by simp)
  rw [Int.toNat_natCast]
  exact Blk.new w _ _
theorem row_replicate (x : α) (n : Nat) : E.row (List.replicate n x) = (List.replicate n (E.enc x)).flatten := by
  induction n with
  | zero => rfl
  | succ n ih => rw [List.replicate_succ, row_cons, ih, List.replicate_succ, List.flatten_cons]
theorem OwnL.made {w : World} {b B : Nat} {e : TypeId} {x : α} {n : Nat} (h : Blk w b (List.replicate n (E.enc x)).flatten e) (hB : B ≤ b) (hn : n ≤ maxLen) : OwnL E w B e (some ⟨b, 0, none⟩) n n (List.replicate n x) := by
  rw [← row_replicate] at h
  refine ⟨by rw [row_len, List.length_replicate], .inr ⟨b, n, _, rfl, hB, h, Nat.le_refl _, hn, ?_, ?_⟩⟩
  · show (E.row (List.replicate n x)).length = n * E.size
    rw [row_len, List.length_replicate]
  · show List.take _ (E.row _) = _
    rw [List.take_of_length_le (by rw [row_len, List.length_replicate]; exact Nat.le_refl _)]
end

/- the elements that occur -/
def encI : Enc Int := ⟨fun i => [.int .i64 i], 1, fun _ => rfl, by decide, by intro x v hv; simp only [List.mem_singleton] at hv; subst hv; rfl⟩
def encStr : Enc (List UInt8) := ⟨fun s => [.string ⟨⟨s⟩⟩], 1, fun _ => rfl, by decide, by intro x v hv; simp only [List.mem_singleton] at hv; subst hv; rfl⟩
structure Edit where
  at_ : Int
  len : Int
  text : List UInt8
def encE : Enc Edit := ⟨fun x => [.int .i64 x.at_, .int .i64 x.len, .string ⟨⟨x.text⟩⟩], 3, fun _ => rfl, by decide, by intro x v hv; simp only [List.mem_cons, List.not_mem_nil, or_false] at hv; rcases hv with rfl | rfl | rfl <;> rfl⟩
end Go.Sh
namespace Go.Proofs
open Go Go.Sh Go.RowKit

/- the lost characters -/
def lostN (x : Nn) : Int := if x.k = 6 then x.n else 0
def lostL (l : List Nn) : Int := (l.map lostN).foldr (· + ·) 0
theorem lostL_app : ∀ (l m : List Nn), lostL (l ++ m) = lostL l + lostL m
  | [], m => by simp [lostL]
  | x :: l, m => by have := lostL_app l m; unfold lostL at this ⊢; simp only [List.cons_append, List.map_cons, List.foldr_cons, this]; omega
def lostF (f : Fo) : Int := lostL (nodesF f)
theorem lostL_bd : ∀ (l : List Nn), (∀ x ∈ l, x.k = 6 → 0 ≤ x.n ∧ x.n < 100) → 0 ≤ lostL l ∧ lostL l ≤ 100 * l.length
  | [], _ => by simp [lostL]
  | x :: l, h => by
    have h1 := lostL_bd l fun y hy => h y (by simp [hy])
    have h2 : 0 ≤ lostN x ∧ lostN x ≤ 100 := by
      unfold lostN; split
      · rename_i h6; have := h x (by simp) h6; omega
      · omega
    have e : lostL (x :: l) = lostN x + lostL l := rfl
    rw [e, List.length_cons]; omega
theorem good_num {f : Fo} (hg : good f) : ∀ x ∈ nodesF f, x.k = 6 → 0 ≤ x.n ∧ x.n < 100 := fun x hx h6 => (good_nodes f hg x hx).2.2.1 (by simp only [numsF]; rw [h6]; rfl)
theorem lostF_bd {f : Fo} (hg : good f) : 0 ≤ lostF f ∧ lostF f ≤ 100 * f.size := by
  have := lostL_bd (nodesF f) (good_num hg); rw [nodesF_len] at this; exact this
def losR (f : Fo) : Int := if errU f ≠ 0 then 0 else lostF f
theorem fst_prefix {pre : List (Nn × Bool)} {f : Fo} (h : pre <+: nodesU f false) : pre.map (·.1) <+: nodesF f := by
  rw [← nodesU_fst f false]; exact h.map _
set_option maxRecDepth 20000 in
theorem Lost_spec {R : Ending → World → Prop} {S : Nat → Prop} {w : World} {a : Option Addr} {n c : Nat} (f : Fo) (hs : small f) (hF : Forms w) (hf0 : SlF S w a n f)
    (h : ∀ w', Ext w w' → R (.returned (.tuple ⟨[.int .i64 (losR f), .int .i64 (errU f)]⟩)) w') : Calls Tryd.prog F_legibility_Lost ⟨[.slice a n c]⟩ w R := by
  apply c_legibility_Lost
  unfold losR at h
  refine checkL_spec f hs hF hf0 fun w3 e3 => ⟨_, rfl, br_split (fun g => ?_) (fun g => ?_)⟩
  · rw [if_pos g] at h; exact h _ e3
  rw [if_neg g] at h
  have he0 := Decidable.not_not.1 g
  obtain ⟨hc0, _⟩ := errU_zero he0
  obtain ⟨q1, q2, q3⟩ := check_zero hc0
  rw [he0] at h
  refine al_intro fun b5 w6 hb5 B5 e6 s6 => ?_
  refine stL_one B5 rfl fun w7 B7 hc7 s7 => ?_
  have e7 : Ext w3 w7 := ext_chgS e6 hc7 fun k hk => by omega
  refine allU_spec fun bs w9 Bs e9 hbs => ⟨_, _, _, rfl, fun base => ?_⟩
  have E9 := ext_trans (ext_trans e3 e7) e9
  have z3 := e3.size
  have z9 := e9.size
  have zE := E9.size
  have ls := Bs.lt
  have hf : SlF (fun k => S k ∧ k < w.heap.size) w a n f := hf0.imp fun k hk hl => ⟨hk, hl⟩
  rw [cd_legibility_Lost_1]
  refine RFw_count anA_legibility_Lost_1 anB_legibility_Lost_1 (gf := F_legibility_all_1) rfl (by kernel_rfl) (xs := nodesU f false) (E := NuE (fun k => (S k ∧ k < w.heap.size) ∨ k = bs) w9) (Rd := fun k => (S k ∧ k < w.heap.size) ∨ k = bs)
    (fun v1 he => (all_iterO f hs bs v1 (fun k hk => by have := he.size; omega) (Bs.ext he) ((hf.ext (ext_trans E9 he)).imp fun k hk _ => .inl hk) (.inr rfl)).mono ?_) (fun y vs hE => by obtain ⟨a', c', rfl, _⟩ := hE; rfl) (by decide) (fun k hk => by omega)
    E9 (b5 := b5) (by omega) (fun hk => by omega) (fun pre => lostL (pre.map (·.1))) (B7.ext e9) ?_ ?_
  · rintro x vs ⟨a', c', rfl, hsl⟩
    exact ⟨a', c', rfl, hsl.keep' fun k hk hl => ⟨hk, by omega, ((he.block k (by omega))).symm⟩⟩
  · rintro pre ⟨⟨k1, t1, m1, ps1⟩, u1⟩ vs W l ⟨a', c', rfl, hsl⟩ hpre hl1 hl2 hl3 g1 g3 Kn Kr Kx hK
    refine Eq.mpr (er_legibility_Lost_1 base _ _ _ _ _ _ _ _ _ _ _ _ _ _ _ _ _ _) ?_
    refine round_in hl2 (by simp) (by intro u hu; simp only [List.mem_cons, List.not_mem_nil, or_false] at hu; rcases hu with rfl | rfl | rfl | rfl <;> rfl) fun bx W1 W2 hbx _ hX2 hc2 s2 => ?_
    obtain ⟨x0, x1, x2, x3⟩ := blk4 hX2
    have B2 := hc2.blk g1 hl3
    have E2 := ext_chgS g3 hc2 fun k hk => by omega
    have hp := fst_prefix hpre
    have hmem : (⟨k1, t1, m1, ps1⟩ : Nn) ∈ nodesF f := hp.subset (by simp)
    have hb := lostL_bd (pre.map (·.1)) fun x hx => good_num q2 x (hp.subset (by simp; exact .inl (by simpa using hx)))
    have hpl : (pre.map (·.1)).length ≤ f.size := by have := hp.length_le; rw [nodesF_len] at this; simp at this ⊢; omega
    have hv : lostL ((pre ++ [((⟨k1, t1, m1, ps1⟩ : Nn), u1)]).map (·.1)) = lostL (pre.map (·.1)) + lostN ⟨k1, t1, m1, ps1⟩ := by
      rw [List.map_append, lostL_app]; simp [lostL]
    refine ⟨k1, x0, br_split (fun q => ?_) (fun q => ?_)⟩
    · have hm := good_num q2 _ hmem q
      refine dr_ok ⟨_, by rw [B2.cell]; rfl, m1, x2, dr_ok (stL_one B2 rfl fun W3 B3 hc3 s3 => hK _ _ E2 hc3 ?_)⟩
      rw [hv, show lostN ⟨k1, t1, m1, ps1⟩ = m1 by unfold lostN; rw [if_pos q]]
      rw [wrap_id (by have : 0 ≤ m1 ∧ m1 < 100 := hm; omega)] at B3
      exact B3
    · refine hK _ _ E2 (Chg.refl _ _) ?_
      rw [hv, show lostN ⟨k1, t1, m1, ps1⟩ = 0 by unfold lostN; rw [if_neg q], Int.add_zero]
      exact B2
  · intro D W hD1 hD2 hD3 hD4 g1 g3
    rw [nodesU_fst] at g1
    exact ⟨_, by rw [g1.cell]; rfl, retD_one hD4 (h _ (ext_put g3 (by omega) _))⟩
end Go.Proofs
namespace Go.Proofs
open Go Go.Sh Go.RowKit

/- the unclear characters -/
def unN (x : Nn × Bool) : Int := if x.1.k = 1 ∧ x.2 = true then (x.1.t.length : Int) else 0
def unL (l : List (Nn × Bool)) : Int := (l.map unN).foldr (· + ·) 0
theorem unL_app : ∀ (l m : List (Nn × Bool)), unL (l ++ m) = unL l + unL m
  | [], m => by simp [unL]
  | x :: l, m => by have := unL_app l m; unfold unL at this ⊢; simp only [List.cons_append, List.map_cons, List.foldr_cons, this]; omega
theorem unL_one (x : Nn × Bool) : unL [x] = unN x := by simp [unL]
theorem unN_pos (x : Nn × Bool) : 0 ≤ unN x := by unfold unN; split <;> omega
theorem unL_pos : ∀ l : List (Nn × Bool), 0 ≤ unL l
  | [] => by simp [unL]
  | x :: l => by
    have h1 := unL_pos l
    have h2 := unN_pos x
    have e : unL (x :: l) = unN x + unL l := rfl
    omega
theorem unL_nodes : ∀ (f : Fo) (u : Bool), unL (nodesU f u) ≤ tlen f
  | .nil, u => by simp [nodesU, unL, tlen]
  | .cons k t n ps r, u => by
    have h1 := unL_nodes ps (u || decide (k = 7))
    have h2 := unL_nodes r u
    have e : unL (nodesU (.cons k t n ps r) u) = unN (⟨k, t, n, ps⟩, u) + (unL (nodesU ps (u || decide (k = 7))) + unL (nodesU r u)) := by
      rw [nodesU, ← unL_app]; rfl
    have h3 : unN (⟨k, t, n, ps⟩, u) ≤ t.length := by unfold unN; split <;> simp
    rw [e]; simp only [tlen]; omega
theorem unL_prefix {pre l : List (Nn × Bool)} (h : pre <+: l) : unL pre ≤ unL l := by
  obtain ⟨s, rfl⟩ := h
  rw [unL_app]; have := unL_pos s; omega
def unF (f : Fo) : Int := unL (nodesU f false)
def uncR (f : Fo) : Int := if errU f ≠ 0 then 0 else unF f
set_option maxRecDepth 20000 in
theorem Unclear_spec {R : Ending → World → Prop} {S : Nat → Prop} {w : World} {a : Option Addr} {n c : Nat} (f : Fo) (hs : small f) (hF : Forms w) (hf0 : SlF S w a n f)
    (h : ∀ w', Ext w w' → R (.returned (.tuple ⟨[.int .i64 (uncR f), .int .i64 (errU f)]⟩)) w') : Calls Tryd.prog F_legibility_Unclear ⟨[.slice a n c]⟩ w R := by
  apply c_legibility_Unclear
  unfold uncR at h
  refine checkL_spec f hs hF hf0 fun w3 e3 => ⟨_, rfl, br_split (fun g => ?_) (fun g => ?_)⟩
  · rw [if_pos g] at h; exact h _ e3
  rw [if_neg g] at h
  have he0 := Decidable.not_not.1 g
  obtain ⟨hc0, _⟩ := errU_zero he0
  obtain ⟨q1, q2, q3⟩ := check_zero hc0
  rw [he0] at h
  refine al_intro fun b5 w6 hb5 B5 e6 s6 => ?_
  refine stL_one B5 rfl fun w7 B7 hc7 s7 => ?_
  have e7 : Ext w3 w7 := ext_chgS e6 hc7 fun k hk => by omega
  refine allU_spec fun bs w9 Bs e9 hbs => ⟨_, _, _, rfl, fun base => ?_⟩
  have E9 := ext_trans (ext_trans e3 e7) e9
  have z3 := e3.size
  have z9 := e9.size
  have zE := E9.size
  have ls := Bs.lt
  have hf : SlF (fun k => S k ∧ k < w.heap.size) w a n f := hf0.imp fun k hk hl => ⟨hk, hl⟩
  rw [cd_legibility_Unclear_1]
  refine RFw_count anA_legibility_Unclear_1 anB_legibility_Unclear_1 (gf := F_legibility_all_1) rfl (by kernel_rfl) (xs := nodesU f false) (E := NuE (fun k => (S k ∧ k < w.heap.size) ∨ k = bs) w9) (Rd := fun k => (S k ∧ k < w.heap.size) ∨ k = bs)
    (fun v1 he => (all_iterO f hs bs v1 (fun k hk => by have := he.size; omega) (Bs.ext he) ((hf.ext (ext_trans E9 he)).imp fun k hk _ => .inl hk) (.inr rfl)).mono ?_) (fun y vs hE => by obtain ⟨a', c', rfl, _⟩ := hE; rfl) (by decide) (fun k hk => by omega)
    E9 (b5 := b5) (by omega) (fun hk => by omega) unL (B7.ext e9) ?_ ?_
  · rintro x vs ⟨a', c', rfl, hsl⟩
    exact ⟨a', c', rfl, hsl.keep' fun k hk hl => ⟨hk, by omega, ((he.block k (by omega))).symm⟩⟩
  · rintro pre ⟨⟨k1, t1, m1, ps1⟩, u1⟩ vs W l ⟨a', c', rfl, hsl⟩ hpre hl1 hl2 hl3 g1 g3 Kn Kr Kx hK
    refine Eq.mpr (er_legibility_Unclear_1 base _ _ _ _ _ _ _ _ _ _ _ _ _ _ _ _ _ _) ?_
    refine round_in hl2 (by simp) (by intro u hu; simp only [List.mem_cons, List.not_mem_nil, or_false] at hu; rcases hu with rfl | rfl | rfl | rfl <;> rfl) fun bx W1 W2 hbx _ hX2 hc2 s2 => ?_
    obtain ⟨x0, x1, x2, x3⟩ := blk4 hX2
    have B2 := hc2.blk g1 hl3
    have E2 := ext_chgS g3 hc2 fun k hk => by omega
    have hb1 := unL_prefix hpre
    have hb2 := unL_nodes f false
    have hb3 := unL_pos pre
    rw [unL_app, unL_one] at hb1
    have hv : unL (pre ++ [((⟨k1, t1, m1, ps1⟩ : Nn), u1)]) = unL pre + unN (⟨k1, t1, m1, ps1⟩, u1) := by rw [unL_app, unL_one]
    intro K32 hK32
    have k32 : ∀ v, v = decide (k1 = 1 ∧ u1 = true) → K32 v W2 := by
      rintro _ rfl
      refine hK32 _ _ fun _ => br_split (fun q => ?_) (fun q => ?_)
      · have hu : unN (⟨k1, t1, m1, ps1⟩, u1) = t1.length := by unfold unN; rw [if_pos q]
        rw [hu] at hv hb1
        refine dr_ok ⟨_, by rw [B2.cell]; rfl, t1, x1, dr_ok (stL_one B2 rfl fun W3 B3 hc3 s3 => hK _ _ E2 hc3 ?_)⟩
        rw [hv]
        rw [wrap_id (by omega)] at B3
        exact B3
      · have hu : unN (⟨k1, t1, m1, ps1⟩, u1) = 0 := by unfold unN; rw [if_neg q]
        refine hK _ _ E2 (Chg.refl _ _) ?_
        rw [hv, hu, Int.add_zero]; exact B2
    refine ⟨k1, x0, br_split (fun q => k32 _ (by simp [q])) (fun q => k32 _ (by simp [q]))⟩
  · intro D W hD1 hD2 hD3 hD4 g1 g3
    exact ⟨_, by rw [g1.cell]; rfl, retD_one hD4 (h _ (ext_put g3 (by omega) _))⟩

/- the reference -/
theorem unN_split (k t n) (ps : Fo) (u : Bool) : unN (⟨k, t, n, ps⟩, u) = if u = true ∧ k = 1 then (t.length : Int) else 0 := by
  unfold unN; by_cases h1 : k = 1 <;> by_cases h2 : u = true <;> simp [h1, h2]
set_option maxRecDepth 20000 in
theorem unclear12_spec {S : Nat → Prop} : ∀ (f : Fo) {R : Ending → World → Prop} {w : World} {a : Option Addr} {n c : Nat} (u : Bool) (hs : small f) (hl : tlen f ≤ 1000000000000) (hf : SlF S w a n f)
    (h : ∀ w', Ext w w' → R (.returned (.int .i64 (unL (nodesU f u)))) w'), Calls Tryd.prog F_ref12_unclear ⟨[.slice a n c, .bool u]⟩ w R := by
  intro f
  induction hz : f.size using Nat.strongRecOn generalizing f with
  | _ z ih =>
  intro R w a n c u hs hl hf h
  apply c_ref12_unclear
  unfold small at hs
  have hn := hf.1
  have hfl := f.len_le_size
  refine ⟨fun cnt i W m => ∃ (pr r : Fo), f = pr.app r ∧ i = pr.len ∧ m = r.len ∧ 0 ≤ cnt ∧ cnt + unL (nodesU r u) = unL (nodesU f u) ∧ Ext w W, ⟨_, .nil, f, rfl, rfl, rfl, by omega, by omega, Below.refl _ _⟩, ?_⟩
  rintro cnt _ W m ⟨pr, r, hpr, rfl, rfl, hc0, hc1, he⟩ _
  have hb := unL_nodes f u
  refine br_split (fun hlt => ?_) (fun hge => ?_)
  · obtain ⟨k, t, mm, ps, r, rfl⟩ := Fo.next hpr (by omega)
    have hsl := Fo.sub_len hpr
    have hsz := Fo.sub_size hpr
    have htl : tlen (.cons k t mm ps r) ≤ tlen f := by rw [hpr, tlen_app]; omega
    simp only [tlen] at htl
    have e1 : f = (pr.app (.one k t mm ps)).app r := by rw [Fo.app_one_app]; exact hpr
    have hun : unL (nodesU (.cons k t mm ps r) u) = unN (⟨k, t, mm, ps⟩, u) + (unL (nodesU ps (u || decide (k = 7))) + unL (nodesU r u)) := by rw [nodesU, ← unL_app]; rfl
    have p1 := unL_pos (nodesU ps (u || decide (k = 7)))
    have p2 := unL_pos (nodesU r u)
    have p3 := unN_pos (⟨k, t, mm, ps⟩, u)
    rw [hun] at hc1
    obtain ⟨q, a', c', hq, hSq, hql, hN⟩ := (hf.ext he).get hpr
    intro K9 hK9
    have k9 : ∀ v, v = cnt + unN (⟨k, t, mm, ps⟩, u) → K9 v W := by
      rintro _ rfl
      refine hK9 _ _ fun _ => ?_
      unfold drw
      have ed := ext_trans he (ext_drew W)
      obtain ⟨q', a'', c'', hq', hSq', hql', hN'⟩ := (hf.ext ed).get hpr
      refine hq' _ ⟨a'', ps.len, c'', hN'.parts, ?_⟩
      have fin : ∀ W2, Ext W.drew W2 → ∃ m' : Nat, m' < (Fo.cons k t mm ps r).len ∧ ∃ (pr1 r1 : Fo), f = pr1.app r1 ∧ IntKind.i64.wrap ((pr.len : Int) + 1) = pr1.len ∧ m' = r1.len ∧ 0 ≤ IntKind.i64.wrap (cnt + unN (⟨k, t, mm, ps⟩, u) + unL (nodesU ps (u || decide (k = 7)))) ∧
          IntKind.i64.wrap (cnt + unN (⟨k, t, mm, ps⟩, u) + unL (nodesU ps (u || decide (k = 7)))) + unL (nodesU r1 u) = unL (nodesU f u) ∧ Ext w W2 := by
        intro W2 e2
        refine ⟨r.len, by simp, pr.app (.one k t mm ps), r, e1, by rw [wrap_nat (by omega)]; simp [Fo.one], rfl, ?_, ?_, ext_trans ed e2⟩
        · rw [wrap_id (by omega)]; omega
        · rw [wrap_id (by omega)]; omega
      cases u with
      | true => exact ⟨ih _ (hz ▸ hsz) ps rfl true (by unfold small; omega) (by omega) hN'.sl fun W2 e2 => ⟨_, rfl, fin W2 e2⟩, trivial⟩
      | false =>
        simp only [br_f]
        refine hq' _ ⟨k, hN'.kind, ih _ (hz ▸ hsz) ps rfl (decide (k = 7)) (by unfold small; omega) (by omega) hN'.sl fun W2 e2 => ⟨_, rfl, ?_⟩, trivial⟩
        have := fin W2 e2
        simpa using this
    intro K25 hK25
    have hus := unN_split k t mm ps u
    have k25 : ∀ v, v = decide (u = true ∧ k = 1) → K25 v W := by
      rintro _ rfl
      refine hK25 _ _ fun _ => br_split (fun g => ?_) (fun g => ?_)
      · rw [if_pos g] at hus
        refine hq _ ⟨t, hN.text, ?_⟩
        exact k9 _ (by rw [hus, wrap_id (by omega)])
      · rw [if_neg g] at hus
        exact k9 _ (by rw [hus]; omega)
    cases u with
    | true =>
      simp only [br_t]
      refine hq _ ⟨k, hN.kind, ?_⟩
      exact k25 _ (by simp)
    | false => exact k25 _ (by simp)
  · obtain ⟨rfl, rfl⟩ := Fo.last hpr (by omega)
    have e0 : unL (nodesU .nil u) = 0 := rfl
    rw [e0, Int.add_zero] at hc1
    rw [hc1]
    exact h _ he
theorem Unclear12_spec {R : Ending → World → Prop} {S : Nat → Prop} {w : World} {a : Option Addr} {n c : Nat} (f : Fo) (hf : SlF S w a n f)
    (h : ∀ w', Ext w w' → R (.returned (.tuple ⟨[.int .i64 (uncR f), .int .i64 (errU f)]⟩)) w') : Calls Tryd.prog F_ref12_Unclear ⟨[.slice a n c]⟩ w R := by
  apply c_ref12_Unclear
  unfold uncR at h
  refine check12_spec f hf fun w3 e3 => ⟨_, rfl, br_split (fun g => ?_) (fun g => ?_)⟩
  · rw [if_pos g] at h; exact h _ e3
  rw [if_neg g] at h
  have he0 := Decidable.not_not.1 g
  obtain ⟨hc0, _⟩ := errU_zero he0
  obtain ⟨q1, q2, q3⟩ := check_zero hc0
  rw [he0] at h
  exact unclear12_spec f false (by unfold small; omega) (by omega) (hf.ext e3) fun w6 e6 => ⟨_, rfl, h _ (ext_trans e3 e6)⟩

def sumI (l : List Int) : Int := l.foldr (· + ·) 0
def gapL (f : Fo) : List Int := ((nodesF f).filter fun x => decide (x.k = 6)).map (·.n)
theorem gapL_cons (k t n) (ps r : Fo) : gapL (.cons k t n ps r) = (if k = 6 then [n] else []) ++ (gapL ps ++ gapL r) := by
  unfold gapL
  rw [nodesF, List.filter_cons, List.filter_append]
  by_cases h : k = 6 <;> simp [h]
theorem gapL_app (f g : Fo) : gapL (f.app g) = gapL f ++ gapL g := by unfold gapL; rw [nodesF_appU, List.filter_append, List.map_append]
theorem gapL_len (f : Fo) : (gapL f).length ≤ f.size := by unfold gapL; rw [List.length_map, ← nodesF_len]; exact List.length_filter_le _ _
theorem gapL_sum (f : Fo) : sumI (gapL f) = lostF f := by
  unfold sumI gapL lostF lostL
  induction nodesF f with
  | nil => rfl
  | cons x l ih =>
    rw [List.filter_cons]
    by_cases h : x.k = 6
    · simp [h, lostN, ih]
    · simp [h, lostN, ih]
theorem slT_gap : SlT Tryd.prog 76 3 1 8 (.int .i64 0) := ⟨by kernel_rfl, by kernel_rfl, rfl, by decide⟩
set_option maxRecDepth 20000 in
theorem gaps12_spec {S : Nat → Prop} : ∀ (f : Fo) {R : Ending → World → Prop} {w : World} {a : Option Addr} {n c : Nat} (hs : f.size ≤ 1000000) (hf : SlF S w a n f)
    (h : ∀ a' c' w', RowAt encI (fun k => w.heap.size ≤ k) w' a' (gapL f).length (gapL f) → Ext w w' → R (.returned (.slice a' (gapL f).length c')) w'),
    Calls Tryd.prog F_ref12_gaps ⟨[.slice a n c]⟩ w R := by
  intro f
  induction hz : f.size using Nat.strongRecOn generalizing f with
  | _ z ih =>
  intro R w a n c hs hf h
  apply c_ref12_gaps
  have hn := hf.1
  have hfl := f.len_le_size
  refine al_intro fun b2 w3 hb2 B2 e3 s3 => ?_
  refine ⟨fun oa on oc i W m => ∃ (pr r : Fo), f = pr.app r ∧ i = pr.len ∧ m = r.len ∧ OwnL encI W w.heap.size 3 oa on oc (gapL pr) ∧ Ext w W,
    ⟨_, .nil, f, rfl, rfl, rfl, Owns.made (B2) (by omega), e3⟩, ?_⟩
  rintro oa on oc _ W m ⟨pr, r, hpr, rfl, rfl, hL, he⟩ _
  refine br_split (fun hlt => ?_) (fun hge => ?_)
  · obtain ⟨k, t, mm, ps, r, rfl⟩ := Fo.next hpr (by omega)
    have hsl := Fo.sub_len hpr
    have hsz := Fo.sub_size hpr
    have e1 : f = (pr.app (.one k t mm ps)).app r := by rw [Fo.app_one_app]; exact hpr
    have hsz2 : (pr.app (.one k t mm ps)).size ≤ f.size := by have hh := Fo.size_app (pr.app (.one k t mm ps)) r; rw [← e1] at hh; omega
    have p1 := gapL_len (pr.app (.one k t mm ps))
    have o1 : gapL (.one k t mm ps) = (if k = 6 then [mm] else []) ++ gapL ps := by unfold Fo.one; rw [gapL_cons]; simp [gapL, nodesF]
    rw [gapL_app, List.length_append, o1, List.length_append] at p1
    obtain ⟨q, a', c', hq, hSq, hql, hN⟩ := (hf.ext he).get hpr
    intro K11 hK11
    have k11 : ∀ oa2 on2 oc2 W2, OwnL encI W2 w.heap.size 3 oa2 on2 oc2 (gapL pr ++ (if k = 6 then [mm] else [])) → Ext w W2 → K11 oa2 on2 oc2 W2 := by
      rintro oa2 on2 oc2 W2 hL2 he'
      refine hK11 _ _ _ _ fun _ => ?_
      obtain ⟨q', a'', c'', hq', hSq', hql', hN'⟩ := (hf.ext he').get hpr
      refine hq' _ ⟨a'', ps.len, c'', hN'.parts, ?_⟩
      refine ih _ (hz ▸ hsz) ps rfl (by omega) hN'.sl fun a3 c3 w18 hr3 e18 => ⟨_, _, _, rfl, ?_⟩
      have hl2 := OwnL.length hL2
      rw [List.length_append] at hl2
      refine OwnL.pushAll (E := encI) slT_gap (Owns.ext hL2 e18) (by have := he'.size; have := e18.size; omega) hr3 (by omega) (by omega) fun a4 c4 w22 ho hc22 hn22 => ?_
      refine ⟨r.len, by simp, pr.app (.one k t mm ps), r, e1, by rw [wrap_nat (by omega)]; simp [Fo.one], rfl, ?_, ?_⟩
      · rw [gapL_app, o1, ← List.append_assoc]; exact ho
      · exact ext_chgS (ext_trans he' e18) hc22 fun k hk => (Owns.bk hL2 hk).1
    refine hq _ ⟨k, hN.kind, br_split (fun g => ?_) (fun g => ?_)⟩
    · refine hq _ ⟨mm, hN.num, ?_⟩
      have hl1 := OwnL.length hL
      refine OwnL.push (E := encI) slT_gap hL (by have := he.size; omega) mm (by omega) (by omega) fun a4 c4 w31 ho hc31 hn31 => ?_
      exact k11 _ _ _ _ (by rw [if_pos g]; exact ho) (ext_chgS he hc31 fun j hj => (Owns.bk hL hj).1)
    · exact k11 _ _ _ _ (by rw [if_neg g, List.append_nil]; exact hL) he
  · obtain ⟨rfl, rfl⟩ := Fo.last hpr (by omega)
    have hl := OwnL.length hL
    have ho := hL.out.imp (S' := fun k => w.heap.size ≤ k) fun k hk _ => (Owns.bk hL hk).1
    rw [← hl] at ho ⊢
    exact h oa oc W ho he
theorem sum_take {l : List Int} {k : Nat} {x : Int} (h : l[k]? = some x) : sumI (l.take (k + 1)) = sumI (l.take k) + x := by
  unfold sumI
  have key : ∀ (m : List Int) (y : Int), (m ++ [y]).foldr (· + ·) 0 = m.foldr (· + ·) 0 + y := by
    intro m y
    induction m with
    | nil => simp
    | cons z m ih => simp only [List.cons_append, List.foldr_cons, ih]; omega
  rw [List.take_add_one, h]; exact key _ _
theorem sum_bd : ∀ (l : List Int), (∀ x ∈ l, 0 ≤ x ∧ x < 100) → ∀ k : Nat, 0 ≤ sumI (l.take k) ∧ sumI (l.take k) ≤ 100 * l.length
  | [], _, k => by simp [sumI]
  | x :: l, h, 0 => by simp [sumI]; omega
  | x :: l, h, k + 1 => by
    have h1 := sum_bd l (fun y hy => h y (by simp [hy])) k
    have h2 := h x (by simp)
    simp only [sumI, List.take_succ_cons, List.foldr_cons, List.length_cons] at h1 ⊢; omega
set_option maxRecDepth 20000 in
theorem Lost12_spec {R : Ending → World → Prop} {S : Nat → Prop} {w : World} {a : Option Addr} {n c : Nat} (f : Fo) (hf : SlF S w a n f)
    (h : ∀ w', Ext w w' → R (.returned (.tuple ⟨[.int .i64 (losR f), .int .i64 (errU f)]⟩)) w') : Calls Tryd.prog F_ref12_Lost ⟨[.slice a n c]⟩ w R := by
  apply c_ref12_Lost
  unfold losR at h
  refine check12_spec f hf fun w3 e3 => ⟨_, rfl, br_split (fun g => ?_) (fun g => ?_)⟩
  · rw [if_pos g] at h; exact h _ e3
  rw [if_neg g] at h
  have he0 := Decidable.not_not.1 g
  obtain ⟨hc0, _⟩ := errU_zero he0
  obtain ⟨q1, q2, q3⟩ := check_zero hc0
  rw [he0] at h
  refine gaps12_spec f (by omega) (hf.ext e3) fun a6 c6 w6 hr6 e6 => ⟨_, _, _, rfl, ?_⟩
  have hgl := gapL_len f
  have hbd := sum_bd (gapL f) fun x hx => by
    unfold gapL at hx
    obtain ⟨y, hy, rfl⟩ := List.mem_map.1 hx
    obtain ⟨y1, y2⟩ := List.mem_filter.1 hy
    exact good_num q2 y y1 (by simpa using y2)
  rw [← gapL_sum] at h
  generalize gapL f = L at *
  refine ⟨fun cnt i W m => ∃ k : Nat, i = k ∧ k ≤ L.length ∧ m = L.length - k ∧ cnt = sumI (L.take k) ∧ Ext w6 W, ⟨_, 0, rfl, by omega, rfl, rfl, Below.refl _ _⟩, ?_⟩
  rintro _ _ W m ⟨k, rfl, hk, rfl, rfl, he⟩ _
  refine br_split (fun hlt => ?_) (fun hge => ?_)
  · have hx : L[k]? = some L[k] := by rw [List.getElem?_eq_getElem (by omega)]
    obtain ⟨bb, o, hq, _, _, hc⟩ := (hr6.ext he).get hx
    have b1 := hbd k
    have b2 := hbd (k + 1)
    rw [sum_take hx] at b2
    refine hq _ ⟨_, hc 0 _ rfl, L.length - (k + 1), by omega, k + 1, by rw [wrap_nat (by omega)], by omega, rfl, by rw [sum_take hx, wrap_id (by omega)], he⟩
  · have : k = L.length := by omega
    subst this
    rw [List.take_length]
    exact h _ (ext_trans (ext_trans e3 e6) he)
end Go.Proofs
