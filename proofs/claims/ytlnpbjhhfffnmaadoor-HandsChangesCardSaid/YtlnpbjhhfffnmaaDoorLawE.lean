/- The contracts of the functions that the law reaches, one after the other, and at the end the law's card. -/
import Derived.Test.YtlnpbjhhfffnmaaDoorLawD
namespace Go.Proofs
open Go Go.Sh Go.RowKit

theorem places_walkO {yf : Fn} {ya yb : Array Value} {T : Nat → Prop} {J : List Pl → (Nat → Prop) → World → Prop} {Jx : (Nat → Prop) → World → Prop} {w0 : World} {xs : List Pl} {ty tw : Nat}
    (hTl : ∀ k, T k → k < w0.heap.size)
    (hJ : ∀ pre S W W', J pre S W → Chg (fun k => w0.heap.size ≤ k ∧ ¬ S k) W W' → J pre S W')
    (hbody : ∀ pre x vs S W, PlE T w0 x vs → pre ++ [x] <+: xs → w0.heap.size ≤ W.heap.size → (∀ k, S k → k < W.heap.size ∧ ¬ T k) → J pre S W → CallV Tryd.prog (.func yf ya yb) vs W fun e W' => Chg S W W' ∧
      ∃ S' : Nat → Prop, (∀ k, S' k → (S k ∨ W.heap.size ≤ k) ∧ k < W'.heap.size) ∧ ((e = .returned (.bool true) ∧ J (pre ++ [x]) S' W') ∨ (e = .returned (.bool false) ∧ Jx S' W'))) :
    ∀ (f : Fo) {R : Ending → World → Prop} {S : Nat → Prop} {w : World} {a : Option Addr} {n c : Nat} (d : Nat) (pre : List Pl), small f → d ≤ 17 → SlF T w0 a n f → w0.heap.size ≤ w.heap.size → (∀ k, T k → w.heap[k]? = w0.heap[k]?) → (∀ k, S k → k < w.heap.size ∧ ¬ T k) →
      Blk w ty [.func yf ya yb] 94 → Blk w tw [.func (.func 68) ⟨[]⟩ ⟨[.pointer (some ⟨ty, 0, none⟩), .pointer (some ⟨tw, 0, none⟩)]⟩] 23 → ¬ S ty → ¬ S tw →
      pre ++ placesF f d false <+: xs → J pre S w → (∀ S' W', Chg S w W' → (∀ k, S' k → (S k ∨ w.heap.size ≤ k) ∧ k < W'.heap.size) → J (pre ++ placesF f d false) S' W' → R (.returned (.bool true)) W') →
      (∀ S' W', Chg S w W' → (∀ k, S' k → (S k ∨ w.heap.size ≤ k) ∧ k < W'.heap.size) → Jx S' W' → R (.returned (.bool false)) W') →
      Calls Tryd.prog F_transcript_places_1_1 ⟨[.slice a n c, .int .i64 (d : Int), .pointer (some ⟨ty, 0, none⟩), .pointer (some ⟨tw, 0, none⟩)]⟩ w R := by
  intro f
  induction hz : f.size using Nat.strongRecOn generalizing f with
  | _ z ih =>
  intro R S w a n c d pre hs hd hf hw0 hT hS hBy hBw nSy nSw hpre hj hend hstop
  unfold small at hs
  apply c_transcript_places_1_1
  have hn := hf.1
  have hfl := f.len_le_size
  have lty := hBy.lt
  have ltw := hBw.lt
  refine ⟨fun tx i W m => ∃ (p r : Fo) (ps : List Pl) (S1 : Nat → Prop), f = p.app r ∧ i = p.len ∧ m = r.len ∧ Chg S w W ∧ (∀ k, S1 k → (S k ∨ w.heap.size ≤ k) ∧ k < W.heap.size) ∧ J ps S1 W ∧ pre ++ placesF f d false = ps ++ placesF r d tx,
    ⟨_, .nil, f, pre, S, rfl, rfl, rfl, Chg.refl _ _, fun k hk => ⟨.inl hk, (hS k hk).1⟩, hj, rfl⟩, ?_⟩
  rintro b _ W m ⟨p, r, xs', S1, hpr, rfl, rfl, hcW, hS1, hjW, heq⟩ _
  have hwW := hcW.size
  refine br_split (fun hlt => ?_) (fun hge => ?_)
  · obtain ⟨k, t, mm, ps, r, rfl⟩ := Fo.next hpr (by omega)
    have hsl := Fo.sub_len hpr
    have hsz := Fo.sub_size hpr
    have e1 : f = (p.app (.one k t mm ps)).app r := by rw [Fo.app_one_app]; exact hpr
    have i1 : IntKind.i64.wrap ((p.len : Int) + 1) = ((p.app (.one k t mm ps)).len : Int) := by rw [wrap_nat (by omega)]; simp [Fo.one]
    have hTW : ∀ k, T k → W.heap[k]? = w0.heap[k]? := fun k hk => (hcW.block k (by have := hTl k hk; omega) (fun h => (hS k h).2 hk)).trans (hT k hk)
    obtain ⟨q, a', c', hq, hTq, hql, hN⟩ := (hf.keep (S' := T) (w' := W) (fun k hk _ => ⟨hk, hTW k hk⟩) (by omega)).get hpr
    have hNT : SlF T w0 a' ps.len ps := hN.sl.keep' fun k hk _ => ⟨hk, hTl k hk, (hTW k hk).symm⟩
    refine hq _ ⟨k, hN.kind, t, hN.text, mm, hN.num, a', ps.len, c', hN.parts, ?_⟩
    refine al_stL (by simp) (by intro u hu; simp only [List.mem_cons, List.not_mem_nil, or_false] at hu; rcases hu with rfl | rfl | rfl | rfl <;> rfl) fun bx w1 hbx hBx e2 s2 => ?_
    have z2 := e2.size
    obtain ⟨x0, x1, x2, x3⟩ := blk4 hBx
    have hBy1 := (hcW.blk hBy nSy).ext e2
    have hBw1 := (hcW.blk hBw nSw).ext e2
    have n1y : ¬ S1 ty := fun h => (hS1 _ h).1.elim nSy (by omega)
    have n1w : ¬ S1 tw := fun h => (hS1 _ h).1.elim nSw (by omega)
    have n1x : ¬ S1 bx := fun h => by have := (hS1 _ h).2; omega
    refine dr_ok ⟨_, _, _, by rw [hBy1.cell]; rfl, k, x0, t, x1, mm, x2, a', ps.len, c', x3, ?_⟩
    have hj1 : J xs' S1 w1 := hJ _ _ _ _ hjW (Chg.of_ext e2)
    rw [placesF] at heq
    have hpx : xs' ++ [⟨k, t, mm, ps, d, b⟩] <+: xs := by
      refine List.IsPrefix.trans ?_ hpre
      rw [heq]
      exact ⟨_, by rw [List.append_assoc]; rfl⟩
    have hS1T : ∀ k, S1 k → k < w1.heap.size ∧ ¬ T k := fun j hj => ⟨by have := (hS1 j hj).2; omega, fun ht => (hS1 j hj).1.elim (fun h => (hS j h).2 ht) (fun h => by have := hTl j ht; omega)⟩
    refine CallV_mono (hbody xs' ⟨k, t, mm, ps, d, b⟩ _ S1 w1 ⟨a', c', rfl, hNT⟩ hpx (by omega) hS1T hj1) ?_
    rintro e w2 ⟨hc2, S2, hS2, hres⟩
    have z3 := hc2.size
    have hcw2 : Chg S w w2 := chg_then (hcW.trans (Chg.of_ext e2)) hc2 fun i hi hh => (hS1 i hh).1.elim id fun h => by omega
    have hS2w : ∀ k, S2 k → (S k ∨ w.heap.size ≤ k) ∧ k < w2.heap.size := fun j hj => ⟨(hS2 j hj).1.elim (fun h => (hS1 j h).1) (fun h => .inr (by omega)), (hS2 j hj).2⟩
    rcases hres with ⟨rfl, hj2⟩ | ⟨rfl, hjx⟩
    · refine ⟨true, rfl, ?_⟩
      have hBx2 := hc2.blk hBx n1x
      obtain ⟨y0, y1, y2, y3⟩ := blk4 hBx2
      have hBw2 := hc2.blk hBw1 n1w
      have hBy2 := hc2.blk hBy1 n1y
      have n2x : ¬ S2 bx := fun h => (hS2 _ h).1.elim n1x (by omega)
      refine br_split (fun hd16 => ?_) (fun hd16 => ?_)
      · have hd16' : d ≤ 16 := by omega
        rw [if_pos hd16'] at heq
        refine dr_ok ⟨.func 68, ⟨[]⟩, ⟨[.pointer (some ⟨ty, 0, none⟩), .pointer (some ⟨tw, 0, none⟩)]⟩, by rw [hBw2.cell]; rfl, a', ps.len, c', y3, by kernel_rfl, ?_⟩
        rw [wrap_nat (by omega)]
        refine ih _ (hz ▸ hsz) ps rfl (S := S2) (d + 1) (xs' ++ [⟨k, t, mm, ps, d, b⟩]) (by unfold small; omega) (by omega) hNT (by omega) (fun j hj => (hcw2.block j (by have := hTl j hj; omega) (fun h => (hS j h).2 hj)).trans (hT j hj))
          (fun j hj => ⟨(hS2 j hj).2, fun ht => (hS2 j hj).1.elim (fun h => (hS1T j h).2 ht) (fun h => by have := hTl j ht; omega)⟩) hBy2 hBw2 (fun h => (hS2 _ h).1.elim n1y (by omega)) (fun h => (hS2 _ h).1.elim n1w (by omega)) ?_ hj2 (fun S3 w3 hc3 hS3 hj3 => ?_) (fun S3 w3 hc3 hS3 hjx => ?_)
        · refine List.IsPrefix.trans ?_ hpre
          rw [heq]
          exact ⟨placesF r d (decide (k = 1)), by simp⟩
        · refine ⟨true, rfl, ?_⟩
          have hBx3 := hc3.blk hBx2 n2x
          refine ⟨k, (blk4 hBx3).1, r.len, by simp, _, r, _, S3, e1, i1, rfl, chg_then hcw2 hc3 fun i hi hh => (hS2w i hh).1.elim id fun h => by omega, fun j hj => ⟨(hS3 j hj).1.elim (fun h => (hS2w j h).1) (fun h => .inr (by omega)), (hS3 j hj).2⟩, hj3, ?_⟩
          rw [heq]; simp
        · exact ⟨false, rfl, hstop S3 _ (chg_then hcw2 hc3 fun i hi hh => (hS2w i hh).1.elim id fun h => by omega) (fun j hj => ⟨(hS3 j hj).1.elim (fun h => (hS2w j h).1) (fun h => .inr (by omega)), (hS3 j hj).2⟩) hjx⟩
      · rw [if_neg (by omega)] at heq
        refine ⟨k, y0, r.len, by simp, _, r, _, S2, e1, i1, rfl, hcw2, hS2w, hj2, ?_⟩
        rw [heq]; simp
    · exact ⟨false, rfl, hstop S2 _ hcw2 hS2w hjx⟩
  · obtain ⟨rfl, rfl⟩ := Fo.last hpr (by omega)
    have e : xs' = pre ++ placesF p d false := by rw [heq]; simp [placesF]
    rw [e] at hjW
    exact hend S1 _ hcW hS1 hjW

theorem places_iterO {T : Nat → Prop} (f : Fo) (hs : small f) {a : Option Addr} {n c : Nat} (b : Nat) (w : World) (hTl : ∀ k, T k → k < w.heap.size) (hb : Blk w b [.slice a n c] 22) (hf : SlF T w a n f) (hbT : T b) :
    IterO Tryd.prog F_transcript_places_1 [.pointer (some ⟨b, 0, none⟩)] (placesF f 0 false) (PlE T w) T w := by
  intro yf ya yb S0 J Jx R hS hJ hJx hbody h0 hend hstop
  apply c_transcript_places_1
  refine al_intro fun ty w1 hty hBy e1 s1 => ?_
  refine al_intro fun tw w1' htw hBw' e2' s2' => ?_
  refine stL_one hBw' rfl fun w2 hBw hcc hss => ?_
  have e2 : Ext w1 w2 := ext_chgS e2' hcc fun k hk => by omega
  have E := ext_trans e1 e2
  refine ⟨.func 68, ⟨[]⟩, ⟨[.pointer (some ⟨ty, 0, none⟩), .pointer (some ⟨tw, 0, none⟩)]⟩, by rw [hBw.cell]; rfl, dr_ok ⟨a, n, c, by rw [((hb.ext e1).ext e2).cell]; rfl, by kernel_rfl, ?_⟩⟩
  have hz := E.size
  have hz1 := e1.size
  refine places_walkO (w0 := w) (xs := placesF f 0 false) hTl hJ hbody f (S := S0) 0 [] hs (by omega) hf hz (fun k hk => E.block k (hTl k hk)) (fun k hk => ⟨by have := (hS k hk).1; omega, (hS k hk).2⟩) (hBy.ext e2) hBw (fun h => by have := (hS _ h).1; omega) (fun h => by have := (hS _ h).1; omega) (List.prefix_refl _)
    (hJ _ _ _ _ h0 (Chg.of_ext E)) (fun S' W' hc hS' hj => ?_) (fun S' W' hc hS' hjx => ?_)
  · exact ⟨_, rfl, hend S' _ (Nat.le_trans hz hc.size) hj⟩
  · exact ⟨_, rfl, hstop S' _ (Nat.le_trans hz hc.size) hjx⟩

/- the characters -/
def charsP (l : List Pl) : List UInt8 := l.flatMap fun x => if x.k = 1 then x.t else []
def charsF : Fo → List UInt8
  | .nil => []
  | .cons k t _ ps r => (if k = 1 then t else []) ++ charsF ps ++ charsF r
theorem charsF_tlen : ∀ f : Fo, (charsF f).length ≤ tlen f
  | .nil => Nat.le_refl _
  | .cons k t n ps r => by
    have h1 := charsF_tlen ps
    have h2 := charsF_tlen r
    simp only [charsF, List.length_append, tlen]
    split <;> simp <;> omega
theorem charsP_snoc (l : List Pl) (x : Pl) : charsP (l ++ [x]) = charsP l ++ if x.k = 1 then x.t else [] := by simp [charsP]
theorem chars_places : ∀ (f : Fo) (d : Nat) (b : Bool), f.depth + d ≤ 16 → charsP (placesF f d b) = charsF f
  | .nil, _, _, _ => rfl
  | .cons k t n ps r, d, b, h => by
    rw [Fo.depth_parts] at h
    have i2 := chars_places r d (decide (k = 1)) (by omega)
    simp only [placesF, charsF]
    rw [if_pos (by omega)]
    unfold charsP at i2 ⊢
    simp only [List.flatMap_cons, List.flatMap_append, i2, List.append_assoc]
    congr 2
    by_cases hp : ps.len = 0
    · have e' := Fo.eq_nil_of_len hp
      subst e'
      rfl
    · rw [if_neg hp] at h
      exact chars_places ps (d + 1) false (by omega)
theorem blk6 {w : World} {b : Nat} {v0 v1 v2 v3 v4 v5 : Value} {T : TypeId} (h : Blk w b [v0, v1, v2, v3, v4, v5] T) :
    w.cell? ((⟨b, 0, none⟩ : Addr).add 0 |>.add 0) = some v0 ∧ w.cell? ((⟨b, 0, none⟩ : Addr).add 0 |>.add 1) = some v1 := by
  simp only [add_none, h.cell]; exact ⟨rfl, rfl⟩
theorem charsP_prefix {pre : List Pl} {x : Pl} {l : List Pl} (h : pre ++ [x] <+: l) : (charsP pre).length + (if x.k = 1 then x.t else []).length ≤ (charsP l).length := by
  obtain ⟨t, rfl⟩ := h
  simp only [charsP, List.flatMap_append, List.length_append, List.flatMap_cons, List.flatMap_nil, List.append_nil]
  omega

theorem String_spec' {R : Ending → World → Prop} {w : World} {b : Nat} {a : Option Addr} {l : List UInt8} (h : BldAt w b a l) (hk : ∀ w', Below b w w' → Lib.OthersKept 5 (some b) w w' → R (.returned (.string ⟨⟨l⟩⟩)) w') : Calls Tryd.prog F_strings_Builder_String ⟨[.pointer (some ⟨b, 0, none⟩)]⟩ w R := by
  refine (Tryd.Builder_String_any_k b b l w (Lib.IsBuilderF.of h.isB) (by have := h.lt; omega)).mono ?_
  rintro e w' ⟨rfl, _, hb, ho⟩
  exact hk w' hb ho
set_option maxRecDepth 20000 in
theorem Characters_spec {R : Ending → World → Prop} {S : Nat → Prop} {w : World} {a : Option Addr} {n c : Nat} (f : Fo) (hs : small f) (hF : Forms w) (hf0 : SlF S w a n f)
    (h : ∀ w', Ext w w' → R (.returned (.tuple ⟨[.string ⟨⟨if checkT f ≠ 0 then [] else charsF f⟩⟩, .int .i64 (if checkT f ≠ 0 then 1 else 0)]⟩)) w') :
    Calls Tryd.prog F_transcript_Characters ⟨[.slice a n c]⟩ w R := by
  apply c_transcript_Characters
  refine Check22_spec f hs hf0 hF fun w1 e1 => ⟨_, rfl, br_split (fun g => ?_) (fun g => ?_)⟩
  · rw [if_pos g, if_pos g] at h; exact h _ e1
  rw [if_neg g, if_neg g] at h
  have hc0 : checkT f = 0 := Decidable.not_not.1 g
  obtain ⟨q1, q2, q3⟩ := check_zero hc0
  have hdep : f.depth ≤ 16 := by
    unfold checkT at hc0
    split at hc0
    · rename_i hh; exact hh.2
    · cases hc0
  have hch := chars_places f 0 false (by omega)
  have hcl := charsF_tlen f
  refine al_intro fun b5 w2 hb5 B5 e2 s2 => ?_
  have E2 := ext_trans e1 e2
  have z1 := e1.size
  refine places_spec fun bs w4 Bs e4 hbs => ⟨_, _, _, rfl, fun base => ?_⟩
  have E4 := ext_trans E2 e4
  have z4 := E4.size
  have z24 := e4.size
  have ls := Bs.lt
  have hf : SlF (fun k => S k ∧ k < w.heap.size) w a n f := hf0.imp fun k hk hl => ⟨hk, hl⟩
  have hbld : BldAt w4 b5 none [] := ⟨.pointer none, 0, B5.ext e4, .inl rfl, Owns.nil _ _ _ _⟩
  rw [cd_transcript_Characters_1]
  refine RFw_lawO anA_transcript_Characters_1 anB_transcript_Characters_1 (gf := F_transcript_places_1) rfl (by kernel_rfl) (xs := placesF f 0 false) (E := PlE (fun k => (S k ∧ k < w.heap.size) ∨ k = bs) w4) (Rd := fun k => (S k ∧ k < w.heap.size) ∨ k = bs)
    (fun v1 he => (places_iterO f hs bs v1 (fun k hk => by have := he.size; omega) (Bs.ext he) ((hf.ext (ext_trans E4 he)).imp fun k hk _ => .inl hk) (.inr rfl)).mono ?_) (fun y vs hE => by obtain ⟨a', c', rfl, _⟩ := hE; rfl) (by decide) (fun k hk => by omega) (fun k => k = b5) (fun k hk => by omega)
    (fun pre S1 W => ∃ bo : Option Addr, BldAt W b5 bo (charsP pre) ∧ (∀ k, S1 k ↔ k = b5 ∨ bk bo k) ∧ Ext w W ∧ (∀ k, bk bo k → w4.heap.size ≤ k)) (fun _ _ => False) (fun _ _ => False)
    ?_ (fun _ _ _ h => h.elim) (fun _ _ _ h => h.elim) ⟨none, hbld, fun k => by simp [bk], E4, fun k hk => by simp [bk] at hk⟩ ?_ ?_ (fun _ _ _ _ _ _ _ h => h.elim) (fun _ _ _ _ _ _ _ h => h.elim)
  · rintro x vs ⟨a', c', rfl, hsl⟩
    exact ⟨a', c', rfl, hsl.keep' fun k hk hl => ⟨hk, by omega, ((he.block k (by omega))).symm⟩⟩
  · rintro pre S1 W W' ⟨bo, g1, g2, g3, g4⟩ hc
    exact ⟨bo, g1.chg hc (fun hh => hh.2 ((g2 _).2 (.inl rfl))) (fun k hk hh => hh.2 ((g2 k).2 (.inr hk))), g2, ext_chgS g3 hc (fun k hk => by omega), g4⟩
  · rintro pre ⟨k1, t1, m1, ps1, d1, x1⟩ vs S1 W l ⟨a', c', rfl, hsl⟩ hpre hl1 hl2 hl3 hS1 ⟨bo, g1, g2, g3, g4⟩
    refine Eq.mpr (er_transcript_Characters_1 base _ _ _ _ _ _ _ _ _ _ _ _ _ _ _ _ _ _ _) ?_
    refine al_stL (by simp) (by intro u hu; simp only [List.mem_cons, List.not_mem_nil, or_false] at hu; rcases hu with rfl | rfl | rfl | rfl | rfl | rfl <;> rfl) fun bx W1 hbx hBx ex sx => ?_
    refine ⟨ex, fun W2 hU => ?_⟩
    have zx := ex.size
    have zU := hU.size
    have hX2 := upd_blk hU hBx (by omega)
    obtain ⟨x0, x1'⟩ := blk6 hX2
    have hUc : Chg (fun k => k = l) W1 W2 := ⟨hU.os, hU.tape, hU.output, by omega, fun k _ hk => hU.block k hk⟩
    have hWc : Chg (fun k => k = l) W W2 := (Chg.of_ext ex).trans hUc
    have nl : ∀ k, S1 k → k ≠ l := fun k hk he => hl3 (he ▸ hk)
    have h1 := g1.chg hWc (nl _ ((g2 _).2 (.inl rfl))) (fun k hk => nl _ ((g2 k).2 (.inr hk)))
    have E2' : Ext w W2 := ext_chgS g3 hWc fun k hk => by omega
    have hlen := charsP_prefix hpre
    rw [hch] at hlen
    refine ⟨k1, x0, br_split (fun q => ?_) (fun q => ?_)⟩
    · replace hlen : (charsP pre).length + t1.length ≤ (charsF f).length := by simpa [show k1 = 1 from q] using hlen
      refine ⟨t1, x1', WriteString_spec h1 (by omega) fun a'' w'' hb'' hk'' hc'' => ⟨_, _, rfl, ?_⟩⟩
      have z'' := hc''.size
      have hSS : ∀ k, (k = b5 ∨ bk a'' k) → (S1 k ∨ W.heap.size ≤ k) ∧ k < w''.heap.size := fun k hk => by
        rcases hk with rfl | hk
        · exact ⟨.inl ((g2 _).2 (.inl rfl)), hb''.lt⟩
        · exact ⟨(hk'' k hk).elim (fun h => .inl ((g2 k).2 (.inr h))) (fun h => .inr (by omega)), (hb''.bk hk).2⟩
      refine ⟨hc''.mono fun k _ hk => .inl ((g2 k).2 hk), fun k => k = b5 ∨ bk a'' k, hSS, a'', ?_, fun k => Iff.rfl, ext_chgS E2' hc'' fun k hk => hk.elim (fun h => by omega) (fun h => by have := g4 k h; omega), fun k hk => (hk'' k hk).elim (g4 k) (fun h => by omega)⟩
      rw [charsP_snoc, if_pos q]; exact hb''
    · refine ⟨Chg.refl _ _, S1, fun k hk => ⟨.inl hk, by have := (hS1 k hk).1; omega⟩, bo, ?_, g2, E2', g4⟩
      rw [charsP_snoc, if_neg q, List.append_nil]; exact h1
  · rintro D S1 W hD1 hD2 hD3 hD4 ⟨bo, g1, g2, g3, g4⟩
    rw [hch] at g1
    have hDb : some D ≠ some b5 := fun e => by have e' := Option.some.inj e; omega
    refine String_spec' g1 fun w5 hbel hok => ⟨_, rfl, retD_one (D := D) (hok D _ hD4 hDb (fun _ _ e => by cases e)) ?_⟩
    have Ew : Ext w w5 := g3.trans (hbel.mono (by omega))
    exact h _ (ext_put Ew (by omega) _)
end Go.Proofs
namespace Go.Proofs
open Go Go.Sh Go.RowKit

/- leaving out bytes -/
def remainF : List UInt8 → List UInt8 → List UInt8
  | s, [] => s
  | s, c :: t => match s with
    | [] => []
    | x :: s' => if c = x then remainF s' t else remainF (x :: s') t
theorem remain_sub : ∀ {t s : List UInt8}, List.Sublist s t → remainF s t = []
  | [], s, h => by simpa [remainF] using h
  | c :: t, [], _ => rfl
  | c :: t, x :: s, h => by
    simp only [remainF]
    split
    · rename_i e; subst e; exact remain_sub (List.cons_sublist_cons.1 h)
    · rename_i e
      cases h with
      | cons _ h => exact remain_sub h
      | cons_cons _ h => exact absurd rfl e
theorem remain_nil : ∀ t : List UInt8, remainF [] t = []
  | [] => rfl
  | _ :: _ => rfl
theorem within_spec {R : Ending → World → Prop} {w : World} (s t : List UInt8) (hs : s.length ≤ 4611686018427387904) (ht : t.length ≤ 4611686018427387904)
    (h : ∀ w', Ext w w' → R (.returned (.bool (decide (remainF s t = [])))) w') : Calls Tryd.prog F_law11_within ⟨[.string ⟨⟨s⟩⟩, .string ⟨⟨t⟩⟩]⟩ w R := by
  apply c_law11_within
  refine ⟨fun u i W m => ∃ k : Nat, i = k ∧ k ≤ t.length ∧ m = t.length - k ∧ remainF u (t.drop k) = remainF s t ∧ Ext w W ∧ u.length ≤ s.length, ⟨_, 0, rfl, by omega, rfl, rfl, Below.refl _ _, Nat.le_refl _⟩, ?_⟩
  rintro u i W m ⟨k, rfl, hk, rfl, hr, he, hl⟩ _
  refine br_split (fun hlt => ?_) (fun hge => ?_)
  · have hk' : k < t.length := by omega
    have hd : t.drop k = t[k] :: t.drop (k + 1) := List.drop_eq_getElem_cons hk'
    rw [hd] at hr
    have i1 : IntKind.i64.wrap ((k : Int) + 1) = ((k + 1 : Nat) : Int) := wrap_nat (by omega)
    have he' : Ext w W.drew := ext_trans he (ext_drew W)
    unfold drw
    refine br_split (fun hne => ?_) (fun hne => ?_)
    · cases u with
      | nil => exact absurd rfl hne
      | cons x u =>
        simp only [remainF] at hr
        refine sidx_nat hk' (sidx_nat (k := 0) (by simp) (br_split (fun hb => ?_) (fun hb => ?_)))
        · have hb' : t[k] = x := by
            have : (t[k]).toNat = x.toNat := by have := hb; simp only [Nat.reduceSub, List.getElem_cons_zero] at this; omega
            exact UInt8.toNat_inj.1 this
          rw [if_pos hb'] at hr
          refine ssl_nat (i := 1) (j := (x :: u).length) (by simp) (Nat.le_refl _) ⟨t.length - (k + 1), by omega, k + 1, i1, by omega, rfl, by simpa using hr, he', by simp only [List.length_cons] at hl; simp; omega⟩
        · have hb' : ¬ t[k] = x := fun e => hb (by subst e; rfl)
          rw [if_neg hb'] at hr
          exact ⟨t.length - (k + 1), by omega, k + 1, i1, by omega, rfl, hr, he', hl⟩
    · have hu : u = [] := Classical.byContradiction hne
      subst hu
      refine ⟨t.length - (k + 1), by omega, k + 1, i1, by omega, rfl, ?_, he', hl⟩
      rw [← hr, remain_nil]; rfl
  · have : k = t.length := by omega
    subst this
    rw [List.drop_length] at hr
    simp only [remainF] at hr
    rw [hr]; exact h _ he

def outsideF : Fo → List UInt8
  | .nil => []
  | .cons k t _ ps r => (if k = 1 then t else if k = 8 ∨ k = 9 then [] else outsideF ps) ++ outsideF r
theorem outsideF_app : ∀ f g : Fo, outsideF (f.app g) = outsideF f ++ outsideF g
  | .nil, g => rfl
  | .cons k t n ps r, g => by simp only [Fo.cons_app, outsideF, outsideF_app r, List.append_assoc]
theorem outside_tlen : ∀ f : Fo, (outsideF f).length ≤ tlen f
  | .nil => Nat.le_refl _
  | .cons k t n ps r => by
    have h1 := outside_tlen ps
    have h2 := outside_tlen r
    simp only [outsideF, List.length_append, tlen]
    split
    · omega
    · split
      · simp; omega
      · omega
theorem sadd_ok {a b : List UInt8} {K : List UInt8 → Prop} (h : a.length + b.length ≤ 9223372036854775807) (hK : K (a ++ b)) : sadd a b K := ⟨h, hK⟩

theorem outside_spec : ∀ (f : Fo) {R : Ending → World → Prop} {S : Nat → Prop} {w : World} {a : Option Addr} {n c : Nat}, f.size ≤ 1000000000 → tlen f ≤ 4611686018427387904 → SlF S w a n f →
    (∀ w', Ext w w' → R (.returned (.string ⟨⟨outsideF f⟩⟩)) w') → Calls Tryd.prog F_law11_outside ⟨[.slice a n c]⟩ w R := by
  intro f
  induction hz : f.size using Nat.strongRecOn generalizing f with
  | _ z ih =>
  intro R S w a n c hs htl hf h
  apply c_law11_outside
  have hn := hf.1
  have hfl := f.len_le_size
  refine ⟨fun s i W m => ∃ (p r : Fo), f = p.app r ∧ s = outsideF p ∧ i = p.len ∧ m = r.len ∧ Ext w W, ⟨_, .nil, f, rfl, rfl, rfl, rfl, Below.refl _ _⟩, ?_⟩
  rintro _ _ W m ⟨p, r, hpr, rfl, rfl, rfl, he⟩ _
  refine br_split (fun hlt => ?_) (fun hge => ?_)
  · obtain ⟨k, t, mm, ps, r, rfl⟩ := Fo.next hpr (by omega)
    have hsl := Fo.sub_len hpr
    have hsz := Fo.sub_size hpr
    have htt : tlen f = tlen p + (t.length + tlen ps + tlen r) := by rw [hpr, tlen_app]; rfl
    have e1 : f = (p.app (.one k t mm ps)).app r := by rw [Fo.app_one_app]; exact hpr
    have i1 : IntKind.i64.wrap ((p.len : Int) + 1) = ((p.app (.one k t mm ps)).len : Int) := by rw [wrap_nat (by omega)]; simp [Fo.one]
    have op := outside_tlen p
    have oq := outside_tlen ps
    have o1 : outsideF (p.app (.one k t mm ps)) = outsideF p ++ (if k = 1 then t else if k = 8 ∨ k = 9 then [] else outsideF ps) := by rw [outsideF_app]; simp [Fo.one, outsideF]
    obtain ⟨q, a', c', hq, hSq, hql, hN⟩ := (hf.ext he).get hpr
    refine hq _ ⟨k, hN.kind, t, hN.text, mm, hN.num, a', ps.len, c', hN.parts, al_stL (by simp) (by intro u hu; simp only [List.mem_cons, List.not_mem_nil, or_false] at hu; rcases hu with rfl | rfl | rfl | rfl <;> rfl) fun b w1 hb hB ew s1 => ?_⟩
    obtain ⟨x0, x1, x2, x3⟩ := blk4 hB
    have he1 := ext_trans he ew
    refine ⟨k, x0, br_split (fun g => ⟨t, x1, sadd_ok (by omega) ⟨r.len, by simp, _, r, e1, ?_, i1, rfl, he1⟩⟩) (fun g => ?_)⟩
    · rw [o1, if_pos g]
    intro K20 hK20
    have k20 : ∀ b : Bool, b = decide (k = 8 ∨ k = 9) → K20 b w1 := by
      rintro _ rfl
      refine hK20 _ _ fun _ => br_split (fun g2 => ⟨r.len, by simp, _, r, e1, ?_, i1, rfl, he1⟩) (fun g2 => ⟨a', ps.len, c', x3, ?_⟩)
      · rw [o1, if_neg g, if_pos g2, List.append_nil]
      · refine ih _ (hz ▸ hsz) ps rfl (by omega) (by omega) (hN.sl.ext ew) fun w3 e3 => ⟨_, rfl, sadd_ok (by omega) ⟨r.len, by simp, _, r, e1, ?_, i1, rfl, ext_trans he1 e3⟩⟩
        rw [o1, if_neg g, if_neg g2]
    exact br_split (fun g => k20 _ (by simp [g])) (fun g8 => k20 _ (by simp [g8]))
  · obtain ⟨rfl, rfl⟩ := Fo.last hpr (by omega)
    exact h _ he

/- the plain law -/
theorem charsF_app : ∀ f g : Fo, charsF (f.app g) = charsF f ++ charsF g
  | .nil, g => rfl
  | .cons k t n ps r, g => by simp only [Fo.cons_app, charsF, charsF_app r, List.append_assoc]
theorem chars_consM {k t n ps r} (h : k = 1 → ps = .nil) (hr : ∀ k' t' n' ps' r', r = .cons k' t' n' ps' r' → k' = 1 → ps' = .nil) : charsF (consM k t n ps r) = (if k = 1 then t else []) ++ charsF ps ++ charsF r := by
  unfold consM
  split
  · rename_i hk
    have hps := h hk
    subst hk hps
    split
    · rename_i ht; subst ht; simp [charsF]
    · cases r with
      | nil => rfl
      | cons k' t' n' ps' r' =>
        simp only
        split
        · rename_i hk'
          have := hr _ _ _ _ _ rfl hk'
          subst hk' this
          simp [charsF]
        · simp [charsF]
  · rename_i hk
    simp [charsF, hk]
theorem chars_merge : ∀ {w : Bool} {f : Fo}, okF w f → tlen f ≤ 65536 → charsF (mergeR f) = charsF f
  | _, .nil, _, _ => rfl
  | w, .cons k t n ps r, h, hl => by
    simp only [tlen] at hl
    have m3 := merge_ok h.2.2 (by omega)
    simp only [mergeR]
    rw [chars_consM, chars_merge h.2.2 (by omega), chars_merge h.2.1 (by omega), charsF]
    · intro hk; rw [textnil h hk]; rfl
    · intro k' t' n' ps' r' e hk'; rw [e] at m3; exact textnil m3 hk'
theorem chars_breaks : ∀ {f : Fo}, good f → charsF (breaksF f) = []
  | .nil, _ => rfl
  | .cons k t n ps r, ⟨h1, h2, h3⟩ => by
    simp only [breaksF, charsF_app, chars_breaks h3, List.append_nil]
    split
    · rename_i hb
      have hk : k = 2 ∨ k = 3 ∨ k = 4 := by simpa [brkF] using hb
      have := Fo.eq_nil_of_len (h1.2.2.2.2.1 (by unfold partsF; simp; omega))
      subst this
      simp [Fo.one, charsF]; omega
    · exact chars_breaks h2
theorem chars_part {k t n ps} (h : k ≠ 1) : charsF (partF k t n ps) = charsF ps := by
  unfold partF
  split
  · rename_i h0; have e := Fo.eq_nil_of_len h0; subst e; rfl
  · simp [Fo.one, charsF, h]
theorem chars_sub (hand : Int) (adv : Bool) : ∀ {f : Fo}, good f → List.Sublist (charsF (resolveF f hand adv)) (charsF f)
  | .nil, _ => List.Sublist.refl _
  | .cons k t n ps r, ⟨h1, h2, h3⟩ => by
    have i2 := chars_sub hand adv h2
    have ib := chars_breaks h2
    simp only [resolveF, charsF_app]
    rw [show charsF (.cons k t n ps r) = (if k = 1 then t else []) ++ charsF ps ++ charsF r from rfl]
    refine List.Sublist.append ?_ (chars_sub hand adv h3)
    have up : ∀ {l : List UInt8}, List.Sublist l (charsF ps) → List.Sublist l ((if k = 1 then t else []) ++ charsF ps) := fun h => h.trans (List.sublist_append_right _ _)
    split
    · rw [ib]; exact List.nil_sublist _
    split
    · exact up i2
    split
    · rename_i h; rw [chars_part (by omega)]; exact up i2
    split
    · rw [ib]; exact List.nil_sublist _
    split
    · exact up i2
    split
    · rename_i h; rw [chars_part (by omega)]; exact up i2
    · simp [Fo.one, charsF]
theorem outside_sub (hand : Int) : ∀ {f : Fo}, good f → List.Sublist (outsideF f) (charsF (resolveF f hand false))
  | .nil, _ => List.Sublist.refl _
  | .cons k t n ps r, ⟨h1, h2, h3⟩ => by
    have i2 := outside_sub hand h2
    simp only [resolveF, charsF_app, outsideF]
    refine List.Sublist.append ?_ (outside_sub hand h3)
    by_cases h8 : k = 8 ∨ k = 9
    · rw [if_neg (by omega), if_pos h8]; exact List.nil_sublist _
    · rw [if_neg (show ¬ (k = 9 ∧ n ≤ hand) by omega), if_neg (show ¬ (k = 8 ∧ n ≤ hand) by omega), if_neg (show ¬ ((k = 8 ∨ k = 9) ∧ false = true) by simp), if_neg (show ¬ k = 8 by omega), if_neg (show ¬ k = 9 by omega), if_neg h8]
      split
      · rename_i hk
        subst hk
        rw [if_neg (by omega)]
        simp [Fo.one, charsF]
      · rename_i hk
        split
        · rw [chars_part hk]; exact i2
        · rename_i hp
          have := Fo.eq_nil_of_len (h1.2.2.2.2.1 (by have := h1.1; have := h1.2.1; unfold partsF; simp; omega))
          subst this
          exact List.nil_sublist _
theorem outside_clean : ∀ {f : Fo}, good f → clean f → outsideF f = charsF f
  | .nil, _, _ => rfl
  | .cons k t n ps r, ⟨g1, g2, g3⟩, ⟨h1, h2, h3⟩ => by
    simp only [outsideF, charsF, outside_clean g2 h2, outside_clean g3 h3]
    congr 1
    split
    · rename_i hk
      have := Fo.eq_nil_of_len (g1.2.2.2.2.1 (by unfold partsF; simp; omega))
      subst this
      simp [charsF]
    · first | rfl | (rw [if_neg h1]; rfl)
theorem compare_same : ∀ a : List UInt8, Lib.compareBytes a a = 0
  | [] => rfl
  | x :: a => by
    have : ¬ x < x := by simp
    simp only [Lib.compareBytes, if_neg this]; exact compare_same a

theorem HandsOutside_spec {R : Ending → World → Prop} {S : Nat → Prop} {w : World} {a : Option Addr} {n c : Nat} (f : Fo) (x : Int) (hx : 0 ≤ x ∧ x < 256) (hF : Forms w) (hf : SlF S w a n f) (h : ∀ w', Ext w w' → R (.returned (.bool true)) w') :
    Calls Tryd.prog F_law11_HandsOutside ⟨[.slice a n c, .int .u8 x]⟩ w R := by
  apply c_law11_HandsOutside
  obtain ⟨x1, x2, x3⟩ := mod9 hx.1 hx.2
  simp only [sh_law11_HandsOutside, x1]
  refine fine_spec f hF hf fun b w1 hb e1 => ⟨_, rfl, br_cases (fun g => ?_) (fun g => ?_)⟩
  · exact awake_spec (hF.ext e1) fun w2 e2 => ⟨_, rfl, h _ (ext_trans e1 e2)⟩
  have hfi := hb (by simpa using g)
  refine ⟨by decide, State_spec f _ hfi.small (hF.ext e1) (hf.ext e1) fun a2 n2 c2 w2 h2 e2 => ⟨_, _, _, _, rfl, ?_⟩⟩
  rw [hfi.resS false x2 x3] at h2
  rw [hfi.err x2 x3]
  have gi := hfi.res (x.tmod 9) false
  have hsz := hfi.size
  have htl := hfi.tl
  have t2 := tlen_resolve f (x.tmod 9) false
  have hch : charsF (mergeF (resolveF f (x.tmod 9) false)) = charsF (resolveF f (x.tmod 9) false) := by rw [mergeF_eq]; exact chars_merge (resolve_ok _ _ hfi.ok) (by omega)
  have s1 := outside_sub (x.tmod 9) (okF_good hfi.ok)
  have s2 := chars_sub (x.tmod 9) false (okF_good hfi.ok)
  have again := fun hc => hfi.again hc (x.tmod 9) false
  have l1 := charsF_tlen (mergeF (resolveF f (x.tmod 9) false))
  have l1' := gi.tl
  have l2 := charsF_tlen f
  have l3 := outside_tlen f
  rw [← hch] at s1 s2
  have E2 := ext_trans e1 e2
  refine Characters_spec _ gi.small (hF.ext E2) h2 fun w3 e3 => ⟨_, _, rfl, ?_⟩
  have E3 := ext_trans E2 e3
  refine Characters_spec f hfi.small (hF.ext E3) (hf.ext E3) fun w4 e4 => ⟨_, _, rfl, ?_⟩
  have E4 := ext_trans E3 e4
  rw [gi.check, hfi.check]
  simp only [ne_eq, not_true, if_false]
  generalize mergeF (resolveF f (x.tmod 9) false) = s at *
  intro K21 hK21
  refine br_neg (by simp) ?_
  refine outside_spec f (by omega) (by omega) (hf.ext E4) fun w5 e5 => ⟨_, rfl, ?_⟩
  have E5 := ext_trans E4 e5
  refine within_spec _ _ (by omega) (by omega) fun w6 e6 => ⟨_, rfl, ?_⟩
  have E6 := ext_trans E5 e6
  rw [decide_eq_true (remain_sub s1)]
  simp only [Bool.not_true, br_f]
  refine within_spec _ _ (by omega) (by omega) fun w7 e7 => ⟨_, rfl, ?_⟩
  have E7 := ext_trans E6 e7
  rw [decide_eq_true (remain_sub s2)]
  simp only [Bool.not_true, br_f]
  refine hK21 _ fun _ => Clean_spec f hfi.small (hF.ext E7) (hf.ext E7) fun w8 e8 => ⟨_, _, rfl, ?_⟩
  have E8 := ext_trans E7 e8
  rw [hfi.check]
  simp only [ne_eq, not_true, if_false]
  refine br_pos (by first | rfl | trivial) ?_
  refine br_cases (fun g => ?_) (fun g => ?_)
  · exact awake_spec (hF.ext E8) fun w9 e9 => ⟨_, rfl, h _ (ext_trans E8 e9)⟩
  have hc : clean f := (clean_any f).2 (by simpa using g)
  have hs : s = f := again hc
  subst hs
  have ho := outside_clean (okF_good hfi.ok) hc
  refine br_pos (by first | rfl | trivial) ?_
  refine outside_spec s (by omega) (by omega) (hf.ext E8) fun w9 e9 => ⟨_, rfl, ?_⟩
  have E9 := ext_trans E8 e9
  refine callI (Tryd.strings_Compare _ _ _) ?_
  show br (decide (Lib.compareBytes (charsF s) (outsideF s) = 0)) _ _
  rw [ho, compare_same]
  refine br_pos (by first | rfl | trivial) ?_
  exact awake_spec (hF.ext E9) fun w10 e10 => ⟨_, rfl, h _ (ext_trans E9 e10)⟩
end Go.Proofs
namespace Go.Proofs
open Go Go.Sh Go.RowKit

theorem four_one (k : Int) (t : List UInt8) (m : Int) (a : Option Addr) (n c : Nat) : ∀ u ∈ [Value.int .i64 k, .string ⟨⟨t⟩⟩, .int .i64 m, .slice a n c], u.oneCell' = true := by
  intro u hu; simp only [List.mem_cons, List.not_mem_nil, or_false] at hu; rcases hu with rfl | rfl | rfl | rfl <;> rfl
theorem SameT_spec {S S' : Nat → Prop} : ∀ (f : Fo) {R : Ending → World → Prop} {w : World} {a b : Option Addr} {n c n' c' : Nat} {g : Fo} (hf : SlF S w a n f) (hg : SlF S' w b n' g) (hs : small f)
    (h : ∀ w', Ext w w' → R (.returned (.bool (decide (f = g)))) w'), Calls Tryd.prog F_transcript_Same ⟨[.slice a n c, .slice b n' c']⟩ w R := by
  intro f
  induction hz : f.size using Nat.strongRecOn generalizing f with
  | _ z ih =>
  intro R w a b n c n' c' g hf hg hs h
  apply c_transcript_Same
  apply c_slices_EqualFunc_of_api_Node_api_Node_api_Node_api_Node
  have hn := hf.1
  have hn' := hg.1
  refine br_split (fun h1 => ⟨_, rfl, ?_⟩) (fun h1 => ?_)
  · rw [show decide (f = g) = false by rw [decide_eq_false_iff_not]; rintro rfl; omega] at h
    exact h w (Below.refl _ _)
  refine ⟨fun i W m => ∃ (p1 r1 p2 r2 : Fo), f = p1.app r1 ∧ g = p2.app r2 ∧ p1.len = p2.len ∧ i = p1.len ∧ m = r1.len ∧ Ext w W ∧ (f = g ↔ r1 = r2), ⟨_, .nil, f, .nil, g, rfl, rfl, rfl, rfl, rfl, Below.refl _ _, Iff.rfl⟩, ?_⟩
  rintro _ W m ⟨p1, r1, p2, r2, e1, e2, e3, rfl, rfl, he, hiff⟩ _
  refine br_split (fun hlt => ?_) (fun hge => ?_)
  · obtain ⟨k1, t1, m1, s1, r1, rfl⟩ := Fo.next e1 (by omega)
    obtain ⟨k2, t2, m2, s2, r2, rfl⟩ := Fo.next e2 (by omega)
    obtain ⟨q1, a1, c1, i1, _, l1, n1⟩ := (hf.ext he).get e1
    have hsub := Fo.sub_size e1
    have hsl := Fo.sub_len e1
    have hle := f.len_le_size
    simp only [Fo.cons.injEq] at hiff
    refine i1 _ ⟨_, n1.kind, _, n1.text, _, n1.num, _, _, _, n1.parts, al_stL (by simp) (four_one _ _ _ _ _ _) fun b1 w1 hb1 B1 x1 s1' => ?_⟩
    have he1 := ext_trans he x1
    obtain ⟨q2, a2, c2, i2, _, l2, n2⟩ := (hg.ext he1).get e2
    rw [← e3] at i2
    refine i2 _ ⟨_, n2.kind, _, n2.text, _, n2.num, _, _, _, n2.parts, al_stL (by simp) (four_one _ _ _ _ _ _) fun b2 w2 hb2 B2 x2 s2' => ?_⟩
    have he2 := ext_trans he1 x2
    obtain ⟨u0, u1, u2, u3⟩ := blk4 (B1.ext x2)
    obtain ⟨v0, v1, v2, v3⟩ := blk4 B2
    have y1 := (n1.sl.ext x1).ext x2
    have y2 := n2.sl.ext x2
    refine ⟨_, u0, _, u1, _, u2, _, _, _, u3, _, v0, _, v1, _, v2, _, _, _, v3, by kernel_rfl, ?_⟩
    -- the closure
    have clo : ∀ {R' : Ending → World → Prop}, (∀ w', Ext w2 w' → R' (.returned (.bool (decide (k1 = k2 ∧ t1 = t2 ∧ m1 = m2 ∧ s1 = s2)))) w') →
        Calls Tryd.prog F_transcript_Same_1 ⟨[.agg ⟨[.int .i64 k1, .string ⟨⟨t1⟩⟩, .int .i64 m1, .slice a1 s1.len c1]⟩, .agg ⟨[.int .i64 k2, .string ⟨⟨t2⟩⟩, .int .i64 m2, .slice a2 s2.len c2]⟩]⟩ w2 R' := by
      intro R' hR
      apply c_transcript_Same_1
      refine al_intro fun b3 w3 hb3 B3 x3 s3' => al_intro fun b4 w4 hb4 B4 x4 s4' => ?_
      obtain ⟨u0, u1, u2, u3⟩ := blk4 (B3.ext x4)
      obtain ⟨v0, v1, v2, v3⟩ := blk4 B4
      have X := ext_trans x3 x4
      refine ⟨_, u0, _, v0, br_split (fun d1 => ⟨_, u1, _, v1, br_split (fun d2 => ⟨_, u2, _, v2, br_split (fun d3 => ⟨_, _, _, u3, _, _, _, v3, ?_⟩) (fun d3 => ?_)⟩) (fun d2 => ?_)⟩) (fun d1 => ?_)⟩
      · refine ih _ (hz ▸ hsub) s1 rfl (y1.ext X) (y2.ext X) (by unfold small at hs ⊢; omega) fun w' he' => ⟨_, rfl, ?_⟩
        have := hR w' (ext_trans X he')
        rw [show decide (k1 = k2 ∧ t1 = t2 ∧ m1 = m2 ∧ s1 = s2) = decide (s1 = s2) by simp [d1, d2, d3]] at this
        exact this
      · have := hR _ X
        rw [decide_eq_false (fun hh => d3 hh.2.2.1)] at this; exact this
      · have := hR _ X
        rw [decide_eq_false (fun hh => d2 hh.2.1)] at this; exact this
      · have := hR _ X
        rw [decide_eq_false (fun hh => d1 hh.1)] at this; exact this
    refine clo fun w' he' => ⟨_, rfl, br_cases (fun d => ?_) (fun d => ?_)⟩
    · refine ⟨_, rfl, ?_⟩
      have hd : ¬ (k1 = k2 ∧ t1 = t2 ∧ m1 = m2 ∧ s1 = s2) := fun hh => by rw [decide_eq_true hh] at d; cases d
      rw [show decide (f = g) = false by rw [decide_eq_false_iff_not]; intro hh; obtain ⟨z1, z2, z3, z4, _⟩ := hiff.1 hh; exact hd ⟨z1, z2, z3, z4⟩] at h
      exact h _ (ext_trans he2 he')
    · have hd : k1 = k2 ∧ t1 = t2 ∧ m1 = m2 ∧ s1 = s2 := by simpa using d
      refine ⟨r1.len, by simp, p1.app (.one k1 t1 m1 s1), r1, p2.app (.one k2 t2 m2 s2), r2, by rw [Fo.app_one_app]; exact e1, by rw [Fo.app_one_app]; exact e2, by simp [Fo.one]; exact e3, ?_, rfl, ext_trans he2 he', ?_⟩
      · rw [wrap_nat (by unfold small at hs; omega)]; simp [Fo.one]
      · rw [hiff]; simp [hd.1, hd.2.1, hd.2.2.1, hd.2.2.2]
  · obtain ⟨rfl, rfl⟩ := Fo.last e1 (by omega)
    have := Fo.last e2 (by omega)
    rw [show decide (p1 = g) = true by rw [decide_eq_true_iff]; exact hiff.2 this.1.symm] at h
    exact ⟨_, rfl, h _ he⟩

def stF (f : Fo) (h : Int) : Fo := mergeF (resolveF f h false)
theorem stF_small {f : Fo} (hs : f.size ≤ 1000000000) (h : Int) : small (stF f h) := by
  have a1 := mergeF_size (resolveF f h false)
  have a2 := resolveF_size f h false
  unfold small stF; omega
theorem touches_spec (f : Fo) {R : Ending → World → Prop} {S : Nat → Prop} {w : World} {a : Option Addr} {n c : Nat} (hand : Int) (hh : -1000 ≤ hand ∧ hand ≤ 1000) (hs : f.size ≤ 1000000000) (hg : good f) (ht : tlen f ≤ 4611686018427387904) (hf : SlF S w a n f)
    (h : ∀ w', Ext w w' → R (.returned (.bool (decide (stF f (hand - 1) ≠ stF f hand)))) w') : Calls Tryd.prog F_hands_touches ⟨[.slice a n c, .int .i64 hand]⟩ w R := by
  apply c_hands_touches
  have t1 := tlen_resolve f (hand - 1) false
  have t2 := tlen_resolve f hand false
  have q1 := each_resolve (hand - 1) f hg
  have q2 := each_resolve hand f hg
  unfold sh_hands_touches
  rw [wrap_id (by omega)]
  refine resolved_spec f (hand - 1) hs hg (by rw [q1]; omega) hf fun a2 n2 c2 w2 h2 e2 => ⟨_, _, _, rfl, ?_⟩
  refine resolved_spec f hand hs hg (by rw [q2]; omega) (hf.ext e2) fun a3 n3 c3 w3 h3 e3 => ⟨_, _, _, rfl, ?_⟩
  rw [q1] at h2
  rw [q2] at h3
  refine SameT_spec (stF f (hand - 1)) (h2.ext e3) (g := stF f hand) h3 (stF_small hs _) fun w4 e4 => ⟨_, rfl, ?_⟩
  have := h _ (ext_trans (ext_trans e2 e3) e4)
  rw [show decide (stF f (hand - 1) ≠ stF f hand) = !decide (stF f (hand - 1) = stF f hand) by simp] at this
  exact this
def errT (f : Fo) (hand : Int) : Int := if checkT f ≠ 0 then 1 else if hand < 1 ∨ 8 < hand then 13 else 0
theorem hcheck_spec (f : Fo) {R : Ending → World → Prop} {S : Nat → Prop} {w : World} {a : Option Addr} {n c : Nat} (hand : Int) (hs : small f) (hF : Forms w) (hf : SlF S w a n f)
    (h : ∀ w', Ext w w' → R (.returned (.int .i64 (errT f hand))) w') : Calls Tryd.prog F_hands_check ⟨[.slice a n c, .int .i64 hand]⟩ w R := by
  apply c_hands_check
  unfold errT at h
  refine Check22_spec f hs hf hF fun w1 e1 => ⟨_, rfl, br_split (fun g => ?_) (fun g => br_split (fun g2 => ?_) (fun g2 => br_split (fun g3 => ?_) (fun g3 => ?_)))⟩
  · rw [if_pos g] at h; exact h _ e1
  · rw [if_neg g, if_pos (.inl g2)] at h; exact h _ e1
  · rw [if_neg g, if_pos (.inr g3)] at h; exact h _ e1
  · rw [if_neg g, if_neg (by omega)] at h; exact h _ e1
theorem Touches_spec (f : Fo) {R : Ending → World → Prop} {S : Nat → Prop} {w : World} {a : Option Addr} {n c : Nat} (hand : Int) (hs : small f) (hF : Forms w) (hf : SlF S w a n f)
    (h : ∀ w', Ext w w' → R (.returned (.tuple ⟨[.bool (if errT f hand ≠ 0 then false else decide (stF f (hand - 1) ≠ stF f hand)), .int .i64 (errT f hand)]⟩)) w') : Calls Tryd.prog F_hands_Touches ⟨[.slice a n c, .int .i64 hand]⟩ w R := by
  apply c_hands_Touches
  refine hcheck_spec f hand hs hF hf fun w1 e1 => ⟨_, rfl, br_split (fun g => ?_) (fun g => ?_)⟩
  · rw [if_pos g] at h; exact h _ e1
  rw [if_neg g] at h
  have g0 : errT f hand = 0 := Decidable.not_not.1 g
  have hc : checkT f = 0 ∧ 1 ≤ hand ∧ hand ≤ 8 := by
    unfold errT at g0
    split at g0
    · cases g0
    · split at g0
      · cases g0
      · rename_i h1 h2; exact ⟨Decidable.not_not.1 h1, by omega, by omega⟩
  obtain ⟨c1, c2, c3⟩ := check_zero hc.1
  refine touches_spec f hand (by omega) (by omega) c2 (by omega) (hf.ext e1) fun w2 e2 => ⟨_, rfl, ?_⟩
  have := h _ (ext_trans e1 e2)
  rw [g0] at this; exact this

/- rows of integers -/
abbrev intV (l : List Int) : List Value := l.map (Value.int .i64)
theorem slT_int : SlT Tryd.prog 43 3 1 8 (.int .i64 0) := ⟨by kernel_rfl, by kernel_rfl, rfl, by decide⟩
theorem owns_int {w : World} {B : Nat} {a : Option Addr} {n c : Nat} {l : List Int} (h : Owns w B 3 1 a n c (intV l)) {i : Nat} (hi : i < l.length) :
    (∀ K : Addr → Prop, (∀ p, w.cell? p = some (.int .i64 l[i]) → K p) → idx a n (i : Int) 1 K) := by
  intro K hK
  have hl : l.length = n := by have := h.1; simpa using this
  obtain ⟨g, rfl, hg, hc⟩ := h.cell (by omega)
  refine ⟨by omega, by omega, ?_⟩
  refine dr_ok (hK _ ?_)
  rw [add_none, hc _ _ (by simp [hi]; rfl)]
def handsTo (f : Fo) (n : Nat) : List Int := ((List.range n).map fun i : Nat => (i : Int) + 1).filter fun h => decide (stF f (h - 1) ≠ stF f h)
theorem handsTo_succ (f : Fo) (n : Nat) : handsTo f (n + 1) = handsTo f n ++ if stF f n ≠ stF f (n + 1) then [(n : Int) + 1] else [] := by
  have e : ((n : Int) + 1 - 1) = n := by omega
  simp only [handsTo, List.range_succ, List.map_append, List.filter_append, List.map_cons, List.map_nil]
  congr 1
  by_cases h : stF f n ≠ stF f (n + 1)
  · rw [if_pos h]; simp [h]
  · rw [if_neg h]; simp at h; simp [h]
theorem handsTo_len (f : Fo) (n : Nat) : (handsTo f n).length ≤ n := by
  refine Nat.le_trans (List.length_filter_le _ _) ?_
  simp
theorem handsTo_le (f : Fo) (n : Nat) : ∀ x ∈ handsTo f n, x ≤ n := by
  intro x hx
  simp only [handsTo, List.mem_filter, List.mem_map, List.mem_range] at hx
  obtain ⟨⟨i, hi, rfl⟩, _⟩ := hx
  omega

set_option maxRecDepth 20000 in
theorem HandsL_spec (f : Fo) {R : Ending → World → Prop} {S : Nat → Prop} {w : World} {a : Option Addr} {n c : Nat} (most : Nat) (hmost : mostN (nodesF f) = most) (hm8 : most ≤ 8) (hs : small f) (hF : Forms w) (hf : SlF S w a n f) (hc0 : checkT f = 0)
    (h : ∀ a' n' c' w', Owns w' w.heap.size 3 1 a' n' c' (intV (handsTo f most)) → Ext w w' → R (.returned (.tuple ⟨[.slice a' n' c', .int .i64 0]⟩)) w') : Calls Tryd.prog F_hands_Hands ⟨[.slice a n c]⟩ w R := by
  apply c_hands_Hands
  obtain ⟨c1, c2, c3⟩ := check_zero hc0
  refine Count_spec f hs hF hf fun w1 e1 => ⟨_, _, rfl, ?_⟩
  rw [hc0, hmost]
  simp only [ne_eq, not_true, if_false]
  refine br_neg (by simp) ?_
  have z1 := e1.size
  refine ⟨fun oa on oc i W m => ∃ k : Nat, i = (k : Int) + 1 ∧ k ≤ most ∧ m = most - k ∧ Owns W w.heap.size 3 1 oa on oc (intV (handsTo f k)) ∧ Ext w W, ⟨_, 0, rfl, by omega, rfl, Owns.nil _ _ _ _, e1⟩, ?_⟩
  rintro oa on oc _ W m ⟨k, rfl, hk, rfl, ho, he⟩ _
  have hl : (handsTo f k).length = on := by have := ho.1; simpa using this
  have hlk := handsTo_len f k
  refine br_split (fun hlt => ?_) (fun hge => ?_)
  · have i1 : IntKind.i64.wrap ((k : Int) + 1 + 1) = ((k + 1 : Nat) : Int) + 1 := by rw [wrap_id (by omega)]; omega
    have sc := handsTo_succ f k
    refine touches_spec f ((k : Int) + 1) (by omega) (by omega) c2 (by omega) (hf.ext he) fun w2 e2 => ⟨_, rfl, ?_⟩
    have e : ((k : Int) + 1 - 1) = k := by omega
    rw [e]
    have he2 := ext_trans he e2
    have z2 := he2.size
    refine br_split (fun g => ?_) (fun g => ?_)
    · refine app_one2 slT_int (ho.ext e2) (by omega) [.int .i64 ((k : Int) + 1)] rfl (by intro u hu; simp only [List.mem_singleton] at hu; subst hu; rfl) (by omega) (by omega) fun a4 c4 w4 o4 ch4 n4 => ?_
      refine ⟨most - (k + 1), by omega, k + 1, i1, by omega, rfl, ?_, ext_chgS he2 ch4 fun j hj => (ho.bk hj).1⟩
      rw [sc, if_pos g]
      simpa [intV] using o4
    · refine ⟨most - (k + 1), by omega, k + 1, i1, by omega, rfl, ?_, he2⟩
      rw [sc, if_neg g, List.append_nil]; exact ho.ext e2
  · have : k = most := by omega
    subst this
    exact h _ _ _ _ ho he
end Go.Proofs
namespace Go.Proofs
open Go Go.Sh Go.RowKit

def hle (a : Int) : Fo → Prop
  | .nil => True
  | .cons k _ n ps r => ((k = 8 ∨ k = 9) → n ≤ a) ∧ hle a ps ∧ hle a r
theorem hle_nodes (a : Int) : ∀ {f : Fo}, (∀ x ∈ nodesF f, (x.k = 8 ∨ x.k = 9) → x.n ≤ a) → hle a f
  | .nil, _ => trivial
  | .cons k t n ps r, h => by
    simp only [nodesF, List.mem_cons, List.mem_append] at h
    exact ⟨h ⟨k, t, n, ps⟩ (.inl rfl), hle_nodes a fun x hx => h x (.inr (.inl hx)), hle_nodes a fun x hx => h x (.inr (.inr hx))⟩
theorem most_ge : ∀ (l : List Nn) (m : Int), m ≤ l.foldl (fun m (x : Nn) => if x.k = 8 ∨ x.k = 9 then max m x.n else m) m ∧ ∀ x ∈ l, (x.k = 8 ∨ x.k = 9) → x.n ≤ l.foldl (fun m (x : Nn) => if x.k = 8 ∨ x.k = 9 then max m x.n else m) m
  | [], m => ⟨Int.le_refl _, fun x hx => by simp at hx⟩
  | y :: l, m => by
    simp only [List.foldl_cons, List.mem_cons]
    obtain ⟨h1, h2⟩ := most_ge l (if y.k = 8 ∨ y.k = 9 then max m y.n else m)
    refine ⟨Int.le_trans ?_ h1, ?_⟩
    · split <;> omega
    · rintro x (rfl | hx) hk
      · rw [if_pos hk] at h1 ⊢; omega
      · exact h2 x hx hk
theorem most_le (b : Int) : ∀ (l : List Nn) (m : Int), m ≤ b → (∀ x ∈ l, (x.k = 8 ∨ x.k = 9) → x.n ≤ b) → l.foldl (fun m (x : Nn) => if x.k = 8 ∨ x.k = 9 then max m x.n else m) m ≤ b
  | [], m, h, _ => h
  | y :: l, m, h, hl => by
    simp only [List.foldl_cons]
    refine most_le b l _ ?_ fun x hx => hl x (by simp [hx])
    split
    · rename_i hk; have := hl y (by simp) hk; omega
    · exact h
theorem hle_most (f : Fo) : hle (mostN (nodesF f)) f := hle_nodes _ fun x hx hk => (most_ge (nodesF f) 0).2 x hx hk
theorem hands_nodes : ∀ {w : Bool} {f : Fo}, okF w f → ∀ x ∈ nodesF f, (x.k = 8 ∨ x.k = 9) → 1 ≤ x.n ∧ x.n ≤ 8
  | _, .nil, _, x, hx, _ => by simp [nodesF] at hx
  | w, .cons k t n ps r, ⟨h1, h2, h3⟩, x, hx, hk => by
    simp only [nodesF, List.mem_cons, List.mem_append] at hx
    rcases hx with rfl | hx | hx
    · simp only at hk ⊢
      unfold singleF at h1
      split at h1
      · cases h1
      split at h1
      · cases h1
      rw [if_neg (by omega), if_neg (by omega), if_neg (by omega), if_neg (by omega)] at h1
      try rw [if_pos hk] at h1
      split at h1
      · cases h1
      · omega
    · exact hands_nodes h2 x hx hk
    · exact hands_nodes h3 x hx hk
theorem FineF.most {f : Fo} (h : FineF f) : 0 ≤ mostN (nodesF f) ∧ mostN (nodesF f) ≤ 8 :=
  ⟨(most_ge (nodesF f) 0).1, most_le 8 _ 0 (by decide) fun x hx hk => (hands_nodes h.ok x hx hk).2⟩
theorem resolve_hle (a b : Int) (p q : Bool) : ∀ {f : Fo}, hle a f → hle b f → resolveF f a p = resolveF f b q
  | .nil, _, _ => rfl
  | .cons k t n ps r, ⟨h1, h2, h3⟩, ⟨g1, g2, g3⟩ => by
    simp only [resolveF, resolve_hle a b p q h2 g2, resolve_hle a b p q h3 g3]
    by_cases k9 : k = 9
    · rw [if_pos ⟨k9, h1 (.inr k9)⟩, if_pos ⟨k9, g1 (.inr k9)⟩]
    · by_cases k8 : k = 8
      · rw [if_neg (fun h => k9 h.1), if_pos ⟨k8, h1 (.inl k8)⟩, if_neg (fun h => k9 h.1), if_pos ⟨k8, g1 (.inl k8)⟩]
      · simp only [k8, k9, false_and, false_or, if_false]
theorem hle_mono {a b : Int} (h : a ≤ b) : ∀ {f : Fo}, hle a f → hle b f
  | .nil, _ => trivial
  | .cons k t n ps r, ⟨h1, h2, h3⟩ => ⟨fun hk => by have := h1 hk; omega, hle_mono h h2, hle_mono h h3⟩
theorem clean_most {f : Fo} (h : FineF f) : clean f ↔ mostN (nodesF f) = 0 := by
  refine ⟨most_clean, fun h0 => ?_⟩
  rw [clean_any, Bool.eq_false_iff]
  intro ha
  obtain ⟨x, hx, hk⟩ := List.any_eq_true.1 ha
  have hk : x.k = 8 ∨ x.k = 9 := by simpa [corrN] using hk
  have h1 := (most_ge (nodesF f) 0).2 x hx hk
  have h2 := (hands_nodes h.ok x hx hk).1
  have : mostN (nodesF f) = (nodesF f).foldl (fun m (x : Nn) => if x.k = 8 ∨ x.k = 9 then max m x.n else m) 0 := rfl
  omega
theorem handsTo_most {f : Fo} (most : Nat) (hm : mostN (nodesF f) = most) : ∀ d : Nat, handsTo f (most + d) = handsTo f most
  | 0 => rfl
  | d + 1 => by
    rw [show most + (d + 1) = (most + d) + 1 by omega, handsTo_succ, handsTo_most most hm d, if_neg, List.append_nil]
    intro h
    apply h
    unfold stF
    have h0 := hle_most f
    rw [hm] at h0
    rw [resolve_hle ((most + d : Nat) : Int) (((most + d : Nat) : Int) + 1) false false (hle_mono (by omega) h0) (hle_mono (by omega) h0)]

theorem HandsLast_spec {R : Ending → World → Prop} {S : Nat → Prop} {w : World} {a : Option Addr} {n c : Nat} (f : Fo) (x : Int) (hx : 0 ≤ x ∧ x < 256) (hF : Forms w) (hf : SlF S w a n f) (h : ∀ w', Ext w w' → R (.returned (.bool true)) w') :
    Calls Tryd.prog F_law11_HandsLast ⟨[.slice a n c, .int .u8 x]⟩ w R := by
  apply c_law11_HandsLast
  have x1 : IntKind.i64.wrap x = x := wrap_id (by omega)
  simp only [sh_law11_HandsLast, x1]
  refine fine_spec f hF hf fun b w1 hb e1 => ⟨_, rfl, br_cases (fun g => ?_) (fun g => ?_)⟩
  · exact awake_spec (hF.ext e1) fun w2 e2 => ⟨_, rfl, h _ (ext_trans e1 e2)⟩
  have hfi := hb (by simpa using g)
  have hcm := clean_most hfi
  have hca := clean_any f
  have hm := hfi.most
  obtain ⟨most, hmost⟩ : ∃ most : Nat, mostN (nodesF f) = most := ⟨(mostN (nodesF f)).toNat, by omega⟩
  have hl0 := hle_most f
  rw [hmost] at hcm hm hl0
  refine Count_spec f hfi.small (hF.ext e1) (hf.ext e1) fun w2 e2 => ⟨_, _, rfl, ?_⟩
  have E2 := ext_trans e1 e2
  refine Clean_spec f hfi.small (hF.ext E2) (hf.ext E2) fun w3 e3 => ⟨_, _, rfl, ?_⟩
  have E3 := ext_trans E2 e3
  rw [hfi.check, hmost]
  simp only [ne_eq, not_true, if_false]
  intro K17 hK17
  refine br_neg (by simp) (br_neg (by simp) (br_neg (by omega) (br_neg (by omega) (br_neg ?_ (hK17 _ fun _ => ?_)))))
  · intro hne
    apply hne
    rw [Bool.eq_iff_iff]
    simp only [Bool.not_eq_true', decide_eq_true_eq]
    rw [← hca, hcm]
  -- the calls
  have y1 : IntKind.i64.wrap (9 - (most : Int)) = 9 - most := wrap_id (by omega)
  have y2 : 0 ≤ x.tmod (9 - most) := Int.tmod_nonneg _ hx.1
  have y3 : x.tmod (9 - most) < 9 - most := Int.tmod_lt_of_pos x (by omega)
  rw [y1]
  have y4 : IntKind.i64.wrap ((most : Int) + x.tmod (9 - most)) = most + x.tmod (9 - most) := wrap_id (by omega)
  rw [y4]
  generalize x.tmod (9 - most) = d at *
  refine State_spec f _ hfi.small (hF.ext E3) (hf.ext E3) fun a4 n4 c4 w4 h4 e4 => ⟨_, _, _, _, rfl, by omega, ?_⟩
  rw [hfi.resS false (by omega) (by omega)] at h4
  have E4 := ext_trans E3 e4
  refine State_spec f _ hfi.small (hF.ext E4) (hf.ext E4) fun a5 n5 c5 w5 h5 e5 => ⟨_, _, _, _, rfl, ?_⟩
  rw [hfi.resS false (by omega) (by omega)] at h5
  have E5 := ext_trans E4 e5
  refine Advance_spec f _ hfi.small (hF.ext E5) (hf.ext E5) fun a6 n6 c6 w6 h6 e6 => ⟨_, _, _, _, rfl, ?_⟩
  rw [hfi.resS true (by omega) (by omega)] at h6
  have E6 := ext_trans E5 e6
  refine HandsL_spec f most hmost (by omega) hfi.small (hF.ext E6) (hf.ext E6) hfi.check fun a7 n7 c7 w7 h7 e7 => ⟨_, _, _, _, rfl, ?_⟩
  have E7 := ext_trans E6 e7
  rw [hfi.err (by omega) (by omega), hfi.err (by omega) (by omega)]
  refine br_pos (by decide) ?_
  have r1 : resolveF f ((most : Int) + d) false = resolveF f most false := resolve_hle _ _ _ _ (hle_mono (by omega) hl0) hl0
  have r2 : resolveF f (most : Int) true = resolveF f most false := resolve_hle _ _ _ _ hl0 hl0
  rw [r1] at h5
  rw [r2] at h6
  refine Same_spec _ (((h4.ext e5).ext e6).ext e7) ((h5.ext e6).ext e7) (hfi.res _ false).small fun w8 e8 => ⟨_, rfl, ?_⟩
  rw [decide_eq_true rfl]
  simp only [br_t]
  refine Same_spec _ ((((h4.ext e5).ext e6).ext e7).ext e8) ((h6.ext e7).ext e8) (hfi.res _ false).small fun w9 e9 => ⟨_, rfl, ?_⟩
  rw [decide_eq_true rfl]
  simp only [br_t]
  have E9 := ext_trans (ext_trans E7 e8) e9
  have h9 := (h7.ext e8).ext e9
  have hl7 : (handsTo f most).length = n7 := by have := h9.1; simpa using this
  refine br_split (fun g0 => ?_) (fun g0 => ?_)
  · exact awake_spec (hF.ext E9) fun w10 e10 => ⟨_, rfl, h _ (ext_trans E9 e10)⟩
  have hlm := handsTo_len f most
  have i1 : IntKind.i64.wrap ((n7 : Int) - 1) = ((n7 - 1 : Nat) : Int) := by rw [wrap_id (by omega)]; omega
  rw [i1]
  refine owns_int h9 (i := n7 - 1) (by omega) _ fun p hp => ⟨_, hp, br_pos ?_ ?_⟩
  · exact handsTo_le f most _ (by simp)
  exact awake_spec (hF.ext E9) fun w10 e10 => ⟨_, rfl, h _ (ext_trans E9 e10)⟩

theorem EqualI_spec {R : Ending → World → Prop} {w : World} {B B' : Nat} {a b : Option Addr} {n c n' c' : Nat} {l l' : List Int} (h1 : Owns w B 3 1 a n c (intV l)) (h2 : Owns w B' 3 1 b n' c' (intV l')) (hs : n ≤ 4611686018427387904)
    (h : ∀ w', Ext w w' → R (.returned (.bool (decide (l = l')))) w') : Calls Tryd.prog F_slices_Equal_of_int_int ⟨[.slice a n c, .slice b n' c']⟩ w R := by
  apply c_slices_Equal_of_int_int
  have e1 : l.length = n := by have := h1.1; simpa using this
  have e2 : l'.length = n' := by have := h2.1; simpa using this
  refine br_split (fun g => ?_) (fun g => ?_)
  · rw [show decide (l = l') = false by rw [decide_eq_false_iff_not]; rintro rfl; omega] at h
    exact h _ (Below.refl _ _)
  refine ⟨fun i W m => ∃ k : Nat, i = k ∧ k ≤ n ∧ m = n - k ∧ l.take k = l'.take k ∧ Ext w W, ⟨_, 0, rfl, by omega, rfl, rfl, Below.refl _ _⟩, ?_⟩
  rintro _ W m ⟨k, rfl, hk, rfl, ht, he⟩ _
  have hd := ext_trans he (ext_drew W)
  refine br_split (fun hlt => ?_) (fun hge => ?_)
  · unfold drw
    have k1 : k < l.length := by omega
    have k2 : k < l'.length := by omega
    refine owns_int (h1.ext hd) k1 _ fun p hp => ⟨_, hp, owns_int (h2.ext hd) k2 _ fun q hq => ⟨_, hq, br_split (fun g => ?_) (fun g => ?_)⟩⟩
    · rw [show decide (l = l') = false by rw [decide_eq_false_iff_not]; rintro rfl; exact g rfl] at h
      exact h _ hd
    · refine ⟨n - (k + 1), by omega, k + 1, by rw [wrap_nat (by omega)], by omega, rfl, ?_, hd⟩
      rw [List.take_succ_eq_append_getElem k1, List.take_succ_eq_append_getElem k2, ht, Decidable.not_not.1 g]
  · have hkn : k = n := by omega
    subst hkn
    rw [List.take_of_length_le (by omega), List.take_of_length_le (by omega)] at ht
    rw [decide_eq_true ht] at h
    exact h _ he

set_option maxRecDepth 20000 in
theorem HandsTouched_spec {R : Ending → World → Prop} {S : Nat → Prop} {w : World} {a : Option Addr} {n c : Nat} (f : Fo) (hF : Forms w) (hf : SlF S w a n f) (h : ∀ w', Ext w w' → R (.returned (.bool true)) w') :
    Calls Tryd.prog F_law11_HandsTouched ⟨[.slice a n c]⟩ w R := by
  apply c_law11_HandsTouched
  replace hf : SlF (fun k => S k ∧ k < w.heap.size) w a n f := hf.imp fun k hk hl => ⟨hk, hl⟩
  refine fine_spec f hF hf fun b w1 hb e1 => ⟨_, rfl, br_cases (fun g => ?_) (fun g => ?_)⟩
  · exact awake_spec (hF.ext e1) fun w2 e2 => ⟨_, rfl, h _ (ext_trans e1 e2)⟩
  have hfi := hb (by simpa using g)
  refine State_spec f 0 hfi.small (hF.ext e1) (hf.ext e1) fun a2 n2 c2 w2 h2 e2 => ⟨_, _, _, _, rfl, ?_⟩
  rw [hfi.resS false (by omega) (by omega)] at h2
  have E2 := ext_trans e1 e2
  rw [hfi.err (by omega) (by omega)]
  refine br_neg (by simp) ?_
  have z2 := E2.size
  refine ⟨fun oa on oc ba bn bc i W m => ∃ k : Nat, i = (k : Int) + 1 ∧ k ≤ 8 ∧ m = 8 - k ∧ Owns W w.heap.size 3 1 oa on oc (intV (handsTo f k)) ∧ SlF (fun j => ¬ bk oa j) W ba bn (stF f k) ∧ Ext w W, ⟨_, 0, rfl, by omega, rfl, Owns.nil _ _ _ _, h2.imp fun _ _ _ => by simp [bk], E2⟩, ?_⟩
  rintro oa on oc ba bn bc _ W m ⟨k, rfl, hk, rfl, ho, hbs, he⟩ _
  have hl : (handsTo f k).length = on := by have := ho.1; simpa using this
  have hlk := handsTo_len f k
  refine br_split (fun hlt => ?_) (fun hge => ?_)
  · have i1 : IntKind.i64.wrap ((k : Int) + 1 + 1) = ((k + 1 : Nat) : Int) + 1 := by rw [wrap_id (by omega)]; omega
    have sc := handsTo_succ f k
    refine State_spec f ((k : Int) + 1) hfi.small (hF.ext he) (hf.ext he) fun a3 n3 c3 w3 h3 e3 => ⟨_, _, _, _, rfl, ?_⟩
    rw [hfi.resS false (by omega) (by omega)] at h3
    have he3 := ext_trans he e3
    refine Touches_spec f ((k : Int) + 1) hfi.small (hF.ext he3) (hf.ext he3) fun w4 e4 => ⟨_, _, rfl, ?_⟩
    have he4 := ext_trans he3 e4
    have et : errT f ((k : Int) + 1) = 0 := by unfold errT; rw [hfi.check, if_neg (by simp), if_neg (by omega)]
    have e : ((k : Int) + 1 - 1) = k := by omega
    rw [et, e, hfi.err (by omega) (by omega)]
    simp only [ne_eq, not_true, if_false]
    intro K27 hK27
    refine br_neg (by simp) (br_neg (by simp) ?_)
    have hs3 : stF f ((k : Int) + 1) = mergeF (resolveF f ((k : Int) + 1) false) := rfl
    rw [← hs3] at h3
    refine Same_spec _ ((hbs.ext e3).ext e4) (h3.ext e4) (stF_small (by have := hfi.size; omega) _) fun w5 e5 => ⟨_, rfl, ?_⟩
    have he5 := ext_trans he4 e5
    have z5 := he5.size
    have ho5 := ((ho.ext e3).ext e4).ext e5
    have h35 : SlF (fun j => ¬ bk oa j) w5 a3 n3 (stF f ((k + 1 : Nat) : Int)) := ((h3.ext e4).ext e5).imp fun j hj _ hb => by have := ho.bk hb; omega
    refine br_neg ?_ (hK27 _ fun _ => ?_)
    · by_cases hh : stF f k = stF f ((k : Int) + 1) <;> simp [hh]
    refine br_cases (fun g => ?_) (fun g => ?_)
    · have g : stF f k ≠ stF f (k + 1) := by simpa using g
      refine app_one2 slT_int ho5 (by omega) [.int .i64 ((k : Int) + 1)] rfl (by intro u hu; simp only [List.mem_singleton] at hu; subst hu; rfl) (by omega) (by omega) fun a6 c6 w6 o6 ch6 n6 => ?_
      refine ⟨8 - (k + 1), by omega, k + 1, i1, by omega, rfl, ?_, ?_, ext_chgS he5 ch6 fun j hj => (ho5.bk hj).1⟩
      · rw [sc, if_pos g]
        simpa [intV] using o6
      · exact h35.keep (fun j hj hl => ⟨fun hb => (n6 j hb).elim hj (by omega), ch6.block j hl hj⟩) ch6.size
    · have g : ¬ stF f k ≠ stF f (k + 1) := by simpa using g
      refine ⟨8 - (k + 1), by omega, k + 1, i1, by omega, rfl, ?_, h35, he5⟩
      rw [sc, if_neg g, List.append_nil]; exact ho5
  · have hk8 : k = 8 := by omega
    subst hk8
    have hm := hfi.most
    obtain ⟨most, hmost⟩ : ∃ most : Nat, mostN (nodesF f) = most := ⟨(mostN (nodesF f)).toNat, by omega⟩
    refine HandsL_spec f most hmost (by omega) hfi.small (hF.ext he) (hf.ext he) hfi.check fun a7 n7 c7 w7 h7 e7 => ⟨_, _, _, _, rfl, ?_⟩
    have E7 := ext_trans he e7
    refine br_pos rfl ?_
    have eq8 := handsTo_most most hmost (8 - most)
    rw [show most + (8 - most) = 8 by omega] at eq8
    rw [eq8] at ho
    have hlm := handsTo_len f most
    have hn7 : (handsTo f most).length = n7 := by have := h7.1; simpa using this
    refine EqualI_spec h7 (ho.ext e7) (by omega) fun w8 e8 => ⟨_, rfl, ?_⟩
    rw [decide_eq_true rfl]
    simp only [br_t]
    have E8 := ext_trans E7 e8
    exact awake_spec (hF.ext E8) fun w9 e9 => ⟨_, rfl, h _ (ext_trans E8 e9)⟩
end Go.Proofs
namespace Go.Sh
open Go Go.RowKit

/- how the elements of a slice lie in cells -/
structure Enc (α : Type) where
  enc : α → List Value
  size : Nat
  len : ∀ x, (enc x).length = size
  pos : 0 < size
  one : ∀ x, ∀ v ∈ enc x, v.oneCell' = true
section
variable {α : Type} {E : Enc α}
def Enc.row (E : Enc α) (l : List α) : List Value := l.flatMap E.enc
@[simp] theorem row_nil : E.row [] = [] := rfl
theorem row_cons (x : α) (l : List α) : E.row (x :: l) = E.enc x ++ E.row l := rfl
theorem row_app (l m : List α) : E.row (l ++ m) = E.row l ++ E.row m := by simp [Enc.row]
theorem row_snoc (l : List α) (x : α) : E.row (l ++ [x]) = E.row l ++ E.enc x := by simp [Enc.row]
theorem row_len : ∀ l : List α, (E.row l).length = l.length * E.size
  | [] => by simp
  | x :: l => by rw [row_cons, List.length_append, E.len, row_len l, List.length_cons, Nat.add_mul, Nat.one_mul]; omega
theorem row_one (l : List α) : ∀ v ∈ E.row l, v.oneCell' = true := by
  intro v hv
  obtain ⟨x, _, hx⟩ := List.mem_flatMap.1 hv
  exact E.one x v hx
theorem row_get {x : α} : ∀ {l : List α} {i j : Nat}, l[i]? = some x → j < E.size → (E.row l)[i * E.size + j]? = (E.enc x)[j]?
  | [], i, j, h, _ => by simp at h
  | y :: l, 0, j, h, hj => by
    simp at h; subst h
    rw [row_cons, Nat.zero_mul, Nat.zero_add, List.getElem?_append_left (by rw [E.len]; exact hj)]
  | y :: l, i + 1, j, h, hj => by
    simp at h
    rw [row_cons, List.getElem?_append_right (by rw [E.len, Nat.add_mul, Nat.one_mul]; omega), E.len, show (i + 1) * E.size + j - E.size = i * E.size + j by rw [Nat.add_mul, Nat.one_mul]; omega]
    exact row_get h hj
theorem putAt_app : ∀ (vs : List Value) (a b : List Value) (o : Nat), putAt (a ++ b) (a.length + o) vs = a ++ putAt b o vs
  | [], a, b, o => rfl
  | v :: vs, a, b, o => by
    rw [putAt, putAt, List.set_append_right _ _ (by omega), show a.length + o - a.length = o by omega, Nat.add_assoc, putAt_app vs a (b.set o v) (o + 1)]
theorem putAt_head : ∀ (vs a : List Value) (rest : List Value), vs.length = a.length → putAt (a ++ rest) 0 vs = vs ++ rest := by
  intro vs a rest h
  apply List.ext_getElem?
  intro i
  rw [putAt_get]
  by_cases hi : i < vs.length
  · rw [if_pos ⟨by omega, by omega, by simp; omega⟩, List.getElem?_append_left (by omega)]; simp
  · rw [if_neg (by omega), List.getElem?_append_right (by omega), List.getElem?_append_right (by omega), h]
theorem row_put {x : α} {rest : List Value} : ∀ {l : List α} {i : Nat}, i < l.length → putAt (E.row l ++ rest) (i * E.size) (E.enc x) = E.row (l.set i x) ++ rest
  | [], i, h => by simp at h
  | y :: l, 0, h => by
    rw [Nat.zero_mul, row_cons, List.set_cons_zero, row_cons, List.append_assoc, putAt_head _ _ _ (by rw [E.len, E.len]), List.append_assoc]
  | y :: l, i + 1, h => by
    rw [row_cons, List.set_cons_succ, row_cons, List.append_assoc, List.append_assoc, show (i + 1) * E.size = (E.enc y).length + i * E.size by rw [E.len, Nat.add_mul, Nat.one_mul]; omega, putAt_app, row_put (by simpa using h)]

/- a slice that can be read -/
def RowAt (E : Enc α) (S : Nat → Prop) (w : World) (a : Option Addr) (n : Nat) (l : List α) : Prop := n = l.length ∧ At S w a (E.row l)
section
variable {S S' : Nat → Prop} {w w' : World} {a : Option Addr} {n : Nat} {l : List α}
theorem RowAt.keep (h : RowAt E S w a n l) (hs : ∀ k, S k → k < w.heap.size → S' k ∧ w'.heap[k]? = w.heap[k]?) (hz : w.heap.size ≤ w'.heap.size) : RowAt E S' w' a n l := ⟨h.1, h.2.keep hs hz⟩
theorem RowAt.ext (h : RowAt E S w a n l) (he : Ext w w') : RowAt E S w' a n l := h.keep (fun k hk hl => ⟨hk, he.block k hl⟩) he.size
theorem RowAt.chg {T : Nat → Prop} (h : RowAt E S w a n l) (he : Chg T w w') (hd : ∀ k, S k → ¬ T k) : RowAt E S w' a n l := h.keep (fun k hk hl => ⟨hk, he.block k hl (hd k hk)⟩) he.size
theorem RowAt.imp (h : RowAt E S w a n l) (hs : ∀ k, S k → k < w.heap.size → S' k) : RowAt E S' w a n l := h.keep (fun k hk hl => ⟨hs k hk hl, rfl⟩) (Nat.le_refl _)
theorem RowAt.nil (a : Option Addr) : RowAt E S w a 0 [] := ⟨rfl, .inl rfl⟩
theorem RowAt.get (h : RowAt E S w a n l) {i : Nat} {x : α} (hi : l[i]? = some x) :
    ∃ b o, (∀ K : Addr → Prop, K ⟨b, o, none⟩ → idx a n (i : Int) E.size K) ∧ S b ∧ b < w.heap.size ∧ ∀ j v, (E.enc x)[j]? = some v → w.cell? ⟨b, o + j, none⟩ = some v := by
  have hlt := (List.getElem?_eq_some_iff.1 hi).1
  have hn := h.1
  rcases h.2 with h2 | ⟨b, o, rfl, hb, hbl, hc⟩
  · have := congrArg List.length h2
    rw [row_len] at this
    simp only [List.length_nil] at this
    rcases Nat.mul_eq_zero.1 this with h | h
    · omega
    · have := E.pos; omega
  refine ⟨b, o + i * E.size, fun K hK => ⟨by omega, by omega, ?_⟩, hb, hbl, fun j v hj => ?_⟩
  · show K _
    rw [add_none, Int.toNat_natCast]; exact hK
  · rw [Nat.add_assoc]
    refine hc _ _ ?_
    rw [row_get hi (by have := (List.getElem?_eq_some_iff.1 hj).1; rw [E.len] at this; exact this)]; exact hj
end

/- a slice that the call has made -/
abbrev OwnL (E : Enc α) (w : World) (B : Nat) (e : TypeId) (a : Option Addr) (n c : Nat) (l : List α) : Prop := Owns w B e E.size a n c (E.row l)
section
variable {w w' : World} {B : Nat} {e : TypeId} {a : Option Addr} {n c : Nat} {l : List α}
theorem OwnL.length (h : OwnL E w B e a n c l) : l.length = n := by
  have := h.len
  rw [row_len] at this
  exact Nat.eq_of_mul_eq_mul_right E.pos this
theorem OwnL.out (h : OwnL E w B e a n c l) : RowAt E (bk a) w a n l := by
  refine ⟨h.length.symm, ?_⟩
  by_cases hn : 0 < n
  · obtain ⟨g, rfl, hg, hc⟩ := h.cell hn
    exact .inr ⟨g, 0, rfl, by simp [bk], (h.bk (by simp [bk])).2, fun j v hj => by rw [Nat.zero_add]; exact hc j v hj⟩
  · have hx : l = [] := List.eq_nil_of_length_eq_zero (by rw [h.length]; omega)
    subst hx
    exact .inl rfl
theorem OwnL.push {P : Program} {t ty : TypeId} {bytes : Nat} {z : Value} (hT : SlT P t e E.size bytes z) (h : OwnL E w B e a n c l) (hB : B ≤ w.heap.size) (x : α) (hlen : n + 1 ≤ 4611686018427387904) (hbytes : (n + 1) * bytes ≤ 140737488355328) {K : Option Addr → Nat → Nat → World → Prop}
    (hk : ∀ a' c'' w', OwnL E w' B e a' (n + 1) c'' (l ++ [x]) → Chg (bk a) w w' → (∀ k, bk a' k → bk a k ∨ w.heap.size ≤ k) → K a' (n + 1) c'' w') :
    al w e (E.enc x) fun p w1 => app P [t, t] ty (.slice a n c) (.slice (some p) 1 1) w1 K :=
  app_one2 hT h hB _ (E.len x) (E.one x) hlen hbytes fun a' c'' w' ho hc hn => hk a' c'' w' (by unfold OwnL; rw [row_snoc]; exact ho) hc hn
theorem OwnL.pushAll {P : Program} {t ty : TypeId} {bytes : Nat} {z : Value} (hT : SlT P t e E.size bytes z) (h : OwnL E w B e a n c l) (hB : B ≤ w.heap.size) {S : Nat → Prop} {a1 : Option Addr} {m c1 : Nat} {l' : List α} (hg : RowAt E S w a1 m l') (hlen : n + m ≤ 4611686018427387904) (hbytes : (n + m) * bytes ≤ 140737488355328) {K : Option Addr → Nat → Nat → World → Prop}
    (hk : ∀ a' c'' w', OwnL E w' B e a' (n + m) c'' (l ++ l') → Chg (bk a) w w' → (∀ k, bk a' k → bk a k ∨ w.heap.size ≤ k) → K a' (n + m) c'' w') :
    app P [t, t] ty (.slice a n c) (.slice a1 m c1) w K :=
  app_own2 hT h hB (E.row l') (by rw [row_len, ← hg.1]) hg.2 (row_one l') hlen hbytes fun a' c'' w' ho hc hn => hk a' c'' w' (by unfold OwnL; rw [row_app]; exact ho) hc hn
/- writing one element -/
theorem OwnL.store (h : OwnL E w B e a n c l) {i : Nat} (hi : i < n) (x : α) :
    ∃ g, a = some ⟨g, 0, none⟩ ∧ (∀ K : Addr → Prop, K ⟨g, i * E.size, none⟩ → idx a n (i : Int) E.size K) ∧
      ∀ K : World → Prop, (∀ w', OwnL E w' B e a n c (l.set i x) → Chg (bk a) w w' → w'.heap.size = w.heap.size → K w') → stL w ⟨g, i * E.size, none⟩ 0 (E.enc x) K := by
  have hl := h.length
  rcases h.2 with h1 | ⟨g, cap, cur, e1, e2, e3, e4, e5, e6, e7⟩
  · omega
  obtain ⟨rfl, _, rfl⟩ : a = some ⟨g, 0, none⟩ ∧ True ∧ c = cap := by simpa using e1
  have hB : Blk w g cur.toList e := e3
  have hcl : cur.toList.length = c * E.size := by simpa using e6
  have hcur : cur.toList = E.row l ++ cur.toList.drop (n * E.size) := by rw [← e7, List.take_append_drop]
  have hin : i * E.size + E.size ≤ n * E.size := by
    have : (i + 1) * E.size ≤ n * E.size := Nat.mul_le_mul_right _ hi
    rwa [Nat.add_mul, Nat.one_mul] at this
  have hnc : n * E.size ≤ c * E.size := Nat.mul_le_mul_right _ e4
  refine ⟨g, rfl, fun K hK => ⟨by omega, by omega, ?_⟩, fun K hK => ?_⟩
  · show K _
    rw [add_none, Int.toNat_natCast, Nat.zero_add]; exact hK
  refine stL_blk hB (by rw [E.len]; omega) (E.one x) fun w' b1 b2 b3 b4 b5 b6 => ?_
  have hc : Chg (bk (some (⟨g, 0, none⟩ : Addr))) w w' := ⟨b4, b5, b6, by omega, fun k' _ hk => b2 k' fun e => hk (by simp [bk, e])⟩
  rw [Nat.add_zero, hcur, row_put (by omega)] at b1
  refine hK w' ⟨by rw [row_len, List.length_set, hl], .inr ⟨g, c, ⟨_⟩, rfl, e2, b1, e4, e5, ?_, ?_⟩⟩ hc b3
  · show (E.row (l.set i x) ++ cur.toList.drop (n * E.size)).length = c * E.size
    rw [List.length_append, List.length_drop, hcl, row_len, List.length_set, hl]; omega
  · show List.take (n * E.size) (E.row (l.set i x) ++ _) = _
    rw [List.take_append_of_le_length (by rw [row_len, List.length_set, hl]; exact Nat.le_refl _), List.take_of_length_le (by rw [row_len, List.length_set, hl]; exact Nat.le_refl _)]
end

/- making a row of zeros -/
theorem mks_intro {w : World} {elem : TypeId} {bytes : Nat} {zero : List Value} {l c : Nat} {K : Addr → World → Prop} (hlc : l ≤ c) (hb : bytes * c ≤ 140737488355328)
    (h : ∀ b w', b = w.heap.size → Blk w' b (List.replicate c zero).flatten elem → Ext w w' → w'.heap.size = b + 1 → K ⟨b, 0, none⟩ w') : mks w elem bytes zero (l : Int) (c : Int) K := by
  refine ⟨by omega, by omega, by rw [← Int.natCast_mul]; exact Int.ofNat_le.2 hb, ?_⟩
  refine h _ _ rfl ?_ ((Below.refl _ w).alloc (Nat.le_refl _) _) (by simp)
  rw [Int.toNat_natCast]
  exact Blk.new w _ _
theorem row_replicate (x : α) (n : Nat) : E.row (List.replicate n x) = (List.replicate n (E.enc x)).flatten := by
  induction n with
  | zero => rfl
  | succ n ih => rw [List.replicate_succ, row_cons, ih, List.replicate_succ, List.flatten_cons]
theorem OwnL.made {w : World} {b B : Nat} {e : TypeId} {x : α} {n : Nat} (h : Blk w b (List.replicate n (E.enc x)).flatten e) (hB : B ≤ b) (hn : n ≤ maxLen) : OwnL E w B e (some ⟨b, 0, none⟩) n n (List.replicate n x) := by
  rw [← row_replicate] at h
  refine ⟨by rw [row_len, List.length_replicate], .inr ⟨b, n, _, rfl, hB, h, Nat.le_refl _, hn, ?_, ?_⟩⟩
  · show (E.row (List.replicate n x)).length = n * E.size
    rw [row_len, List.length_replicate]
  · show List.take _ (E.row _) = _
    rw [List.take_of_length_le (by rw [row_len, List.length_replicate]; exact Nat.le_refl _)]
end

/- the elements that occur -/
def encI : Enc Int := ⟨fun i => [.int .i64 i], 1, fun _ => rfl, by decide, by intro x v hv; simp only [List.mem_singleton] at hv; subst hv; rfl⟩
def encStr : Enc (List UInt8) := ⟨fun s => [.string ⟨⟨s⟩⟩], 1, fun _ => rfl, by decide, by intro x v hv; simp only [List.mem_singleton] at hv; subst hv; rfl⟩
structure Edit where
  at_ : Int
  len : Int
  text : List UInt8
def encE : Enc Edit := ⟨fun x => [.int .i64 x.at_, .int .i64 x.len, .string ⟨⟨x.text⟩⟩], 3, fun _ => rfl, by decide, by intro x v hv; simp only [List.mem_cons, List.not_mem_nil, or_false] at hv; rcases hv with rfl | rfl | rfl <;> rfl⟩
end Go.Sh
namespace Go.Proofs
open Go Go.Sh Go.RowKit

def rowE (e : Nat → Bool) (prev : Nat → Nat) (first : Nat) : Nat → Nat
  | 0 => first
  | k + 1 => min (min (prev k + if e k then 0 else 1) (prev (k + 1) + 1)) (rowE e prev first k + 1)
def ed (eq : Nat → Nat → Bool) : Nat → Nat → Nat
  | 0 => fun k => k
  | i + 1 => rowE (eq i) (ed eq i) (i + 1)
theorem ed_zero (eq) (i : Nat) : ed eq i 0 = i := by cases i <;> rfl
theorem ed_step (eq) (i k : Nat) : ed eq (i + 1) (k + 1) = min (min (ed eq i k + if eq i k then 0 else 1) (ed eq i (k + 1) + 1)) (ed eq (i + 1) k + 1) := rfl
theorem ed_le (eq) : ∀ i k : Nat, ed eq i k ≤ i + k
  | 0, k => by simp [ed]
  | i + 1, 0 => by simp [ed_zero]
  | i + 1, k + 1 => by
    have := ed_le eq i (k + 1)
    rw [ed_step]; omega

/- a row of numbers, of which the first ones are known -/
def FnRow (w : World) (B b n t : Nat) (f : Nat → Int) : Prop := ∃ L : List Int, OwnL encI w B 3 (some ⟨b, 0, none⟩) n n L ∧ ∀ j, j < t → L[j]? = some (f j)
theorem FnRow.chg {S : Nat → Prop} {w w' : World} {B b n t : Nat} {f : Nat → Int} (h : FnRow w B b n t f) (hc : Chg S w w') (hS : ¬ S b) : FnRow w' B b n t f := by
  obtain ⟨L, h1, h2⟩ := h
  exact ⟨L, h1.chg hc fun k hk hs => hS (by simp [bk] at hk; subst hk; exact hs), h2⟩
theorem FnRow.ext {w w' : World} {B b n t : Nat} {f : Nat → Int} (h : FnRow w B b n t f) (hc : Ext w w') : FnRow w' B b n t f := h.chg (S := fun _ => False) (.of_ext hc) id
theorem FnRow.any {w : World} {B b n t : Nat} {f g : Nat → Int} (h : FnRow w B b n t f) : FnRow w B b n 0 g := by
  obtain ⟨L, h1, h2⟩ := h
  exact ⟨L, h1, fun j hj => by omega⟩
theorem FnRow.lt {w : World} {B b n t : Nat} {f : Nat → Int} (h : FnRow w B b n t f) (hn : 0 < n) : B ≤ b ∧ b < w.heap.size := by
  obtain ⟨L, h1, h2⟩ := h
  exact h1.bk (by simp [bk])
theorem FnRow.get {w : World} {B b n t : Nat} {f : Nat → Int} (h : FnRow w B b n t f) {j : Nat} (hj : j < t) (htn : t ≤ n) {K : Addr → Prop} (hK : ∀ p, w.cell? p = some (.int .i64 (f j)) → K p) : idx (some ⟨b, 0, none⟩) n (j : Int) 1 K := by
  obtain ⟨L, h1, h2⟩ := h
  obtain ⟨bb, o, hi, _, _, hc⟩ := h1.out.get (h2 j hj)
  exact hi K (hK _ (hc 0 _ rfl))
theorem FnRow.set {w : World} {B b n t : Nat} {f : Nat → Int} (h : FnRow w B b n t f) (htn : t < n) {v : Int} (hv : v = f t) {K : World → Prop} (hK : ∀ w', FnRow w' B b n (t + 1) f → Chg (fun k => k = b) w w' → w'.heap.size = w.heap.size → K w') :
    idx (some ⟨b, 0, none⟩) n (t : Int) 1 fun p => stL w p 0 [.int .i64 v] K := by
  obtain ⟨L, h1, h2⟩ := h
  obtain ⟨g, hg, hi, hst⟩ := h1.store htn v
  have hl := h1.length
  refine hi _ (hst _ fun w' ho hc hz => hK w' ⟨_, ho, fun j hj => ?_⟩ (hc.mono fun k _ hk => by simp [bk] at hk; exact hk.symm) hz)
  rw [List.getElem?_set]
  by_cases e : t = j
  · subst e; rw [if_pos rfl, if_pos (by omega), hv]
  · rw [if_neg e]; exact h2 j (by omega)

theorem distances_spec {R : Ending → World → Prop} {w : World} (eq : Nat → Nat → Bool) (n m : Nat) (hn : n ≤ 1000) (hm : m ≤ 1000) {sf : Fn} {sa sb : Array Value}
    (hsame : ∀ (W : World) (i k : Nat) (R' : Ending → World → Prop), Ext w W → i < n → k < m → (∀ W', Ext W W' → R' (.returned (.bool (eq i k))) W') → CallV Tryd.prog (.func sf sa sb) [.int .i64 i, .int .i64 k] W R')
    (h : ∀ w', Ext w w' → R (.returned (.int .i64 (ed eq n m))) w') : Calls Tryd.prog F_editdistance_distances ⟨[.int .i64 n, .int .i64 m, .func sf sa sb]⟩ w R := by
  apply c_editdistance_distances
  have e1 : IntKind.i64.wrap ((m : Int) + 1) = ((m + 1 : Nat) : Int) := wrap_nat (by omega)
  unfold sh_editdistance_distances
  rw [e1]
  simp only [Int.toNat_natCast]
  intro K4 hK4
  have k4 : ∀ b1 b2 W, w.heap.size ≤ b1 → w.heap.size ≤ b2 → b1 ≠ b2 → FnRow W w.heap.size b1 (m + 1) 0 (fun j => (j : Int)) → FnRow W w.heap.size b2 (m + 1) 0 (fun j => (j : Int)) → Ext w W →
      K4 (some ⟨b1, 0, none⟩) (m + 1) (m + 1) (some ⟨b2, 0, none⟩) (m + 1) (m + 1) W := by
    intro b1 b2 W l1 l2 hne r1 r2 he
    refine hK4 _ _ _ _ _ _ _ fun _ => ?_
    refine ⟨fun t W mm => ∃ k : Nat, t = k ∧ k ≤ m + 1 ∧ mm = m + 1 - k ∧ FnRow W w.heap.size b1 (m + 1) k (fun j => (j : Int)) ∧ FnRow W w.heap.size b2 (m + 1) 0 (fun j => (j : Int)) ∧ Ext w W, ⟨_, 0, rfl, by omega, rfl, r1, r2, he⟩, ?_⟩
    rintro _ W mm ⟨k, rfl, hk, rfl, r1, r2, he⟩ _
    refine br_split (fun hlt => ?_) (fun hge => ?_)
    · refine r1.set (by omega) rfl fun W' q1 q2 q3 => ⟨m + 1 - (k + 1), by omega, k + 1, wrap_nat (by omega), by omega, rfl, q1, r2.chg q2 (fun e => hne e.symm), ext_chgS he q2 fun j hj => by omega⟩
    have hkm : k = m + 1 := by omega
    subst hkm
    refine ⟨fun ba bn bc na nn nc t W mm => ∃ (i bb nb : Nat), ba = some ⟨bb, 0, none⟩ ∧ bn = m + 1 ∧ bc = m + 1 ∧ na = some ⟨nb, 0, none⟩ ∧ nn = m + 1 ∧ nc = m + 1 ∧ t = i ∧ i ≤ n ∧ mm = n - i ∧ w.heap.size ≤ bb ∧ w.heap.size ≤ nb ∧ bb ≠ nb ∧
      FnRow W w.heap.size bb (m + 1) (m + 1) (fun j => (ed eq i j : Int)) ∧ FnRow W w.heap.size nb (m + 1) 0 (fun j => (j : Int)) ∧ Ext w W, ⟨_, 0, b1, b2, rfl, rfl, rfl, rfl, rfl, rfl, rfl, by omega, rfl, l1, l2, hne, r1, r2, he⟩, ?_⟩
    rintro _ _ _ _ _ _ _ W mm ⟨i, bb, nb, rfl, rfl, rfl, rfl, rfl, rfl, rfl, hi, rfl, lb, ln, hne, rb, rn, he⟩ _
    refine br_split (fun hlt => ?_) (fun hge => ?_)
    · have i1 : IntKind.i64.wrap ((i : Int) + 1) = ((i + 1 : Nat) : Int) := wrap_nat (by omega)
      refine (rn.any (g := fun j => (ed eq (i + 1) j : Int))).set (t := 0) (by omega) (by rw [i1, ed_zero]) fun W' q1 q2 q3 => ?_
      have he' := ext_chgS he q2 fun j hj => by omega
      have rb' := rb.chg q2 hne
      refine ⟨fun t W mm => ∃ k : Nat, t = k ∧ k ≤ m ∧ mm = m - k ∧ FnRow W w.heap.size bb (m + 1) (m + 1) (fun j => (ed eq i j : Int)) ∧ FnRow W w.heap.size nb (m + 1) (k + 1) (fun j => (ed eq (i + 1) j : Int)) ∧ Ext w W, ⟨_, 0, rfl, by omega, rfl, rb', q1, he'⟩, ?_⟩
      rintro _ W mm ⟨k, rfl, hk, rfl, rb, rn, he⟩ _
      refine br_split (fun hlt2 => ?_) (fun hge2 => ?_)
      · intro K30 hK30
        have k1 : IntKind.i64.wrap ((k : Int) + 1) = ((k + 1 : Nat) : Int) := wrap_nat (by omega)
        have k30 : ∀ (c : Nat) W', c = (if eq i k then 0 else 1) → Ext W W' → K30 c W' := by
          intro c W' hc hx
          refine hK30 _ _ fun _ => ?_
          unfold drw
          have hd := ext_trans hx (ext_drew W')
          have rb := rb.ext hd
          have rn := rn.ext hd
          have he := ext_trans he hd
          have b1 := ed_le eq i k
          have b2 := ed_le eq i (k + 1)
          have b3 := ed_le eq (i + 1) k
          have hc2 : c ≤ 1 := by rw [hc]; split <;> omega
          rw [k1]
          refine rb.get (j := k) (by omega) (Nat.le_refl _) fun p hp => ⟨_, hp, rb.get (j := k + 1) (by omega) (Nat.le_refl _) fun p hp => ⟨_, hp, rn.get (j := k) (by omega) (by omega) fun p hp => ⟨_, hp, ?_⟩⟩⟩
          rw [wrap_id (by omega), wrap_id (by omega), wrap_id (by omega)]
          have := rn.set (t := k + 1) (by omega) (v := min (min ((ed eq i k : Int) + c) ((ed eq i (k + 1) : Int) + 1)) ((ed eq (i + 1) k : Int) + 1)) (by simp only [ed_step]; rw [← hc]; omega) (K := fun w41 => ∃ m42 : Nat, m42 < m - k ∧ ∃ k', ((k + 1 : Nat) : Int) = ((k' : Nat) : Int) ∧ k' ≤ m ∧ m42 = m - k' ∧ FnRow w41 w.heap.size bb (m + 1) (m + 1) (fun j => (ed eq i j : Int)) ∧ FnRow w41 w.heap.size nb (m + 1) (k' + 1) (fun j => (ed eq (i + 1) j : Int)) ∧ Ext w w41)
            fun W2 q1 q2 q3 => ⟨m - (k + 1), by omega, k + 1, rfl, by omega, rfl, rb.chg q2 hne, q1, ext_chgS he q2 fun j hj => by omega⟩
          obtain ⟨x1, x2, x3⟩ := this
          exact ⟨x1, x2, x3, trivial⟩
        refine hsame W i k _ he (by omega) (by omega) fun W' hx => ⟨_, rfl, br_cases (fun g => k30 0 W' (by rw [g]; rfl) hx) (fun g => k30 1 W' (by rw [g]; rfl) hx)⟩
      · have hkm : k = m := by omega
        subst hkm
        exact ⟨n - (i + 1), by omega, i + 1, nb, bb, rfl, rfl, rfl, rfl, rfl, rfl, i1, by omega, rfl, ln, lb, fun e => hne e.symm, rn, rb.any, he⟩
    · have hin : i = n := by omega
      subst hin
      exact rb.get (j := m) (by omega) (Nat.le_refl _) fun p hp => ⟨_, hp, h _ he⟩
  -- the two rows, made in either order
  have mk : ∀ (W : World) (K : Addr → World → Prop), Ext w W → (∀ b W', b = W.heap.size → FnRow W' w.heap.size b (m + 1) 0 (fun j => (j : Int)) → Ext W W' → W'.heap.size = b + 1 → K ⟨b, 0, none⟩ W') → mks W 3 8 [.int .i64 0] ((m + 1 : Nat) : Int) ((m + 1 : Nat) : Int) K := by
    intro W K hx hK
    have z := hx.size
    refine mks_intro (Nat.le_refl _) (by omega) fun b W' hb hB he hs => hK b W' hb ⟨_, OwnL.made (E := encI) (x := 0) hB (by omega) (by simp only [maxLen]; omega), fun j hj => by omega⟩ he hs
  have two : ∀ (K : Addr → Addr → World → Prop), (∀ b1 b2 W, w.heap.size ≤ b1 → w.heap.size ≤ b2 → b1 ≠ b2 → FnRow W w.heap.size b1 (m + 1) 0 (fun j => (j : Int)) → FnRow W w.heap.size b2 (m + 1) 0 (fun j => (j : Int)) → Ext w W → K ⟨b1, 0, none⟩ ⟨b2, 0, none⟩ W) →
      mks w.drew 3 8 [.int .i64 0] ((m + 1 : Nat) : Int) ((m + 1 : Nat) : Int) fun p W => mks W 3 8 [.int .i64 0] ((m + 1 : Nat) : Int) ((m + 1 : Nat) : Int) fun q W' => K p q W' := by
    intro K hK
    refine mk _ _ (ext_drew w) fun b1 W1 hb1 r1 x1 s1 => ?_
    have X1 := ext_trans (ext_drew w) x1
    refine mk _ _ X1 fun b2 W2 hb2 r2 x2 s2 => ?_
    have z0 : w.drew.heap.size = w.heap.size := rfl
    exact hK b1 b2 W2 (by omega) (by omega) (by omega) (r1.ext x2) r2 (ext_trans X1 x2)
  have fwd := two (fun p q W => K4 (some p) (m + 1) (m + 1) (some q) (m + 1) (m + 1) W) fun b1 b2 W l1 l2 hne r1 r2 he => k4 b1 b2 W l1 l2 hne r1 r2 he
  have bwd := two (fun p q W => K4 (some q) (m + 1) (m + 1) (some p) (m + 1) (m + 1) W) fun b1 b2 W l1 l2 hne r1 r2 he => k4 b2 b1 W l2 l1 (fun e => hne e.symm) r2 r1 he
  unfold drw
  repeat' (first | exact trivial | exact ⟨fwd.1, fwd.2.1, fwd.2.2.1, fwd.2.2.2, ⟨fwd.2.2.2, trivial⟩, trivial⟩ | exact ⟨bwd.1, bwd.2.1, bwd.2.2.1, bwd.2.2.2, trivial⟩ | constructor)
end Go.Proofs
namespace Go.Proofs
open Go Go.Sh Go.RowKit

def eqB (a b : List UInt8) (i k : Nat) : Bool := decide (a.getD i 0 = b.getD k 0)
def edS (a b : List UInt8) : Nat := ed (eqB a b) a.length b.length
theorem long_spec {R : Ending → World → Prop} {w : World} (n m : Int) (h : R (.returned (.bool (decide ((256 : Int) < max n m)))) w) : Calls Tryd.prog F_editdistance_long ⟨[.int .i64 n, .int .i64 m]⟩ w R := by
  apply c_editdistance_long; exact h
def BytesAt (w : World) (b : Nat) (l : List UInt8) : Prop := ∀ j (hj : j < l.length), w.cell? ⟨b, j, none⟩ = some (.int .u8 (l[j].toNat : Int))
theorem BytesAt.ext {w w' : World} {b : Nat} {l : List UInt8} (h : BytesAt w b l) (hb : l ≠ [] → b < w.heap.size) (he : Ext w w') : BytesAt w' b l := by
  intro j hj
  have := h j hj
  unfold World.cell? at this ⊢
  rw [he.block b (hb fun e => by subst e; simp at hj)]; exact this
theorem of_spec {R : Ending → World → Prop} {w : World} (a b : List UInt8) (ha : a.length ≤ 1000) (hb : b.length ≤ 1000) (h : ∀ w', Ext w w' → R (.returned (.int .i64 (edS a b))) w') : Calls Tryd.prog F_editdistance_of ⟨[.string ⟨⟨a⟩⟩, .string ⟨⟨b⟩⟩]⟩ w R := by
  apply c_editdistance_of
  refine s2b_intro fun c1 w1 h1 e1 => s2b_intro fun c2 w2 h2 e2 => ?_
  apply c_editdistance_equal_of_byte
  refine al_intro fun b3 w3 hb3 B3 e3 s3 => al_intro fun b4 w4 hb4 B4 e4 s4 => ⟨_, _, _, rfl, ?_⟩
  have X2 := ext_trans e1 e2
  have X34 := ext_trans e3 e4
  have X4 := ext_trans X2 X34
  have k1 : BytesAt w4 w.heap.size a := (BytesAt.ext (b := w.heap.size) h1 (fun hne => by
    obtain ⟨c, t, rfl⟩ : ∃ c t, a = c :: t := by cases a with | nil => exact absurd rfl hne | cons c t => exact ⟨c, t, rfl⟩
    exact World.block_lt_of_cell? w1 _ (h1 0 (by simp))) e2).ext (fun hne => by
    obtain ⟨c, t, rfl⟩ : ∃ c t, a = c :: t := by cases a with | nil => exact absurd rfl hne | cons c t => exact ⟨c, t, rfl⟩
    have := World.block_lt_of_cell? w1 _ (h1 0 (by simp)); have := e2.size; simp only at *; omega) X34
  have k2 : BytesAt w4 w1.heap.size b := BytesAt.ext (b := w1.heap.size) h2 (fun hne => by
    obtain ⟨c, t, rfl⟩ : ∃ c t, b = c :: t := by cases b with | nil => exact absurd rfl hne | cons c t => exact ⟨c, t, rfl⟩
    exact World.block_lt_of_cell? w2 _ (h2 0 (by simp))) X34
  have B3 := B3.ext e4
  refine distances_spec (eqB a b) a.length b.length ha hb (fun W i k R' he hi hk hR => ?_) fun w5 e5 => ⟨_, rfl, h _ (ext_trans X4 e5)⟩
  refine ⟨by kernel_rfl, ?_⟩
  apply c_editdistance_equal_of_byte_1
  have hd := ext_trans he (ext_drew W)
  have g3 := (B3.ext hd).cell 0
  have g4 := (B4.ext hd).cell 0
  have q1 := k1.ext (fun hne => by
    obtain ⟨c, t, rfl⟩ : ∃ c t, a = c :: t := by cases a with | nil => exact absurd rfl hne | cons c t => exact ⟨c, t, rfl⟩
    exact World.block_lt_of_cell? w4 _ (k1 0 (by simp))) hd i hi
  have q2 := k2.ext (fun hne => by
    obtain ⟨c, t, rfl⟩ : ∃ c t, b = c :: t := by cases b with | nil => exact absurd rfl hne | cons c t => exact ⟨c, t, rfl⟩
    exact World.block_lt_of_cell? w4 _ (k2 0 (by simp))) hd k hk
  unfold sh_editdistance_equal_of_byte_1 drw
  refine dr_ok ⟨_, _, _, g3, ⟨by omega, by omega, dr_ok ⟨_, by rw [add_none]; simpa using q1, dr_ok ⟨_, _, _, g4, ⟨by omega, by omega, dr_ok ⟨_, by rw [add_none]; simpa using q2, ?_⟩⟩⟩⟩⟩⟩
  have e : decide (((a[i]).toNat : Int) = ((b[k]).toNat : Int)) = eqB a b i k := by
    unfold eqB
    rw [decide_eq_decide]
    simp only [List.getD_eq_getElem?_getD, List.getElem?_eq_getElem hi, List.getElem?_eq_getElem hk, Option.getD_some]
    constructor
    · intro hh; exact UInt8.toNat_inj.1 (by omega)
    · intro hh; rw [hh]
  rw [e]
  exact hR _ (ext_drew W)
theorem Distance_spec {R : Ending → World → Prop} {w : World} (a b : List UInt8) (ha : a.length ≤ 256) (hb : b.length ≤ 256) (h : ∀ w', Ext w w' → R (.returned (.tuple ⟨[.int .i64 (edS a b), .int .i64 0]⟩)) w') : Calls Tryd.prog F_editdistance_Distance ⟨[.string ⟨⟨a⟩⟩, .string ⟨⟨b⟩⟩]⟩ w R := by
  apply c_editdistance_Distance
  refine long_spec _ _ ⟨_, rfl, br_neg (by omega) ?_⟩
  exact of_spec a b (by omega) (by omega) fun w' he => ⟨_, rfl, h _ he⟩

/- the script, as it is found from the end -/
def eqE (a b : List UInt8) := ed (eqB a b)
def trE (a b : List UInt8) : Nat → Nat → Nat → List Edit
  | 0, _, _ => []
  | f + 1, i, k =>
    if i = 0 ∧ k = 0 then []
    else if 0 < i ∧ 0 < k ∧ eqB a b (i - 1) (k - 1) = true ∧ eqE a b i k = eqE a b (i - 1) (k - 1) then trE a b f (i - 1) (k - 1)
    else if 0 < i ∧ 0 < k ∧ eqE a b i k = eqE a b (i - 1) (k - 1) + 1 then trE a b f (i - 1) (k - 1) ++ [⟨(i : Int) - 1, 1, (b.take k).drop (k - 1)⟩]
    else if 0 < i ∧ eqE a b i k = eqE a b (i - 1) k + 1 then trE a b f (i - 1) k ++ [⟨(i : Int) - 1, 1, []⟩]
    else trE a b f i (k - 1) ++ [⟨i, 0, (b.take k).drop (k - 1)⟩]
/- in the last case there is an element left of b, and the number goes down -/
theorem tr_last (a b : List UInt8) (i k : Nat) (h0 : ¬ (i = 0 ∧ k = 0)) (h1 : ¬ (0 < i ∧ 0 < k ∧ eqB a b (i - 1) (k - 1) = true ∧ eqE a b i k = eqE a b (i - 1) (k - 1))) (h2 : ¬ (0 < i ∧ 0 < k ∧ eqE a b i k = eqE a b (i - 1) (k - 1) + 1)) (h3 : ¬ (0 < i ∧ eqE a b i k = eqE a b (i - 1) k + 1)) :
    0 < k ∧ eqE a b i k = eqE a b i (k - 1) + 1 := by
  unfold eqE at *
  cases i with
  | zero =>
    cases k with
    | zero => exact absurd ⟨rfl, rfl⟩ h0
    | succ k => exact ⟨by omega, rfl⟩
  | succ i =>
    cases k with
    | zero => exact absurd ⟨by omega, by rw [ed_zero, Nat.add_sub_cancel, ed_zero]⟩ h3
    | succ k =>
      refine ⟨by omega, ?_⟩
      simp only [Nat.add_sub_cancel] at *
      have := ed_step (eqB a b) i k
      by_cases he : eqB a b i k = true
      · rw [he] at this h1
        simp only [if_true, Nat.add_zero] at this
        have n1 : ed (eqB a b) (i + 1) (k + 1) ≠ ed (eqB a b) i k := fun e => h1 ⟨by omega, by omega, rfl, e⟩
        have n3 : ed (eqB a b) (i + 1) (k + 1) ≠ ed (eqB a b) i (k + 1) + 1 := fun e => h3 ⟨by omega, e⟩
        omega
      · have he' : eqB a b i k = false := by simpa using he
        rw [he'] at this
        have n2 : ed (eqB a b) (i + 1) (k + 1) ≠ ed (eqB a b) i k + 1 := fun e => h2 ⟨by omega, by omega, e⟩
        have n3 : ed (eqB a b) (i + 1) (k + 1) ≠ ed (eqB a b) i (k + 1) + 1 := fun e => h3 ⟨by omega, e⟩
        simp only [Bool.false_eq_true, if_false] at this
        omega
theorem tr_len (a b : List UInt8) : ∀ (f i k : Nat), i + k ≤ f → (trE a b f i k).length = eqE a b i k
  | 0, i, k, h => by
    obtain rfl : i = 0 := by omega
    obtain rfl : k = 0 := by omega
    rfl
  | f + 1, i, k, h => by
    unfold trE
    by_cases h0 : i = 0 ∧ k = 0
    · rw [if_pos h0]; obtain ⟨rfl, rfl⟩ := h0; rfl
    rw [if_neg h0]
    by_cases h1 : 0 < i ∧ 0 < k ∧ eqB a b (i - 1) (k - 1) = true ∧ eqE a b i k = eqE a b (i - 1) (k - 1)
    · rw [if_pos h1, tr_len a b f _ _ (by omega), h1.2.2.2]
    rw [if_neg h1]
    by_cases h2 : 0 < i ∧ 0 < k ∧ eqE a b i k = eqE a b (i - 1) (k - 1) + 1
    · rw [if_pos h2, List.length_append, tr_len a b f _ _ (by omega), h2.2.2]; rfl
    rw [if_neg h2]
    by_cases h3 : 0 < i ∧ eqE a b i k = eqE a b (i - 1) k + 1
    · rw [if_pos h3, List.length_append, tr_len a b f _ _ (by omega), h3.2]; rfl
    rw [if_neg h3]
    have h4 := tr_last a b i k h0 h1 h2 h3
    rw [List.length_append, tr_len a b f _ _ (by omega), h4.2]; rfl

/- what edits make of a string: what has been written, and how far the string has been read -/
def runE (a : List UInt8) : List Edit → List UInt8 → Nat → List UInt8 × Nat
  | [], out, at_ => (out, at_)
  | x :: l, out, at_ => runE a l (out ++ (a.take x.at_.toNat).drop at_ ++ x.text) (x.at_ + x.len).toNat
theorem runE_snoc (a : List UInt8) (x : Edit) : ∀ (l : List Edit) (out : List UInt8) (at_ : Nat), runE a (l ++ [x]) out at_ = ((runE a l out at_).1 ++ (a.take x.at_.toNat).drop (runE a l out at_).2 ++ x.text, (x.at_ + x.len).toNat)
  | [], _, _ => rfl
  | y :: l, out, at_ => by simp only [List.cons_append, runE]; exact runE_snoc a x l _ _
/- the edits stand in order, and within the string -/
def okE (n : Nat) : List Edit → Int → Prop
  | [], _ => True
  | x :: l, e => 0 ≤ x.at_ ∧ 0 ≤ x.len ∧ x.at_ + x.len ≤ n ∧ e ≤ x.at_ ∧ okE n l (x.at_ + x.len)
def endE : List Edit → Int → Int
  | [], e => e
  | x :: l, _ => endE l (x.at_ + x.len)
theorem endE_snoc (x : Edit) : ∀ (l : List Edit) (e : Int), endE (l ++ [x]) e = x.at_ + x.len
  | [], _ => rfl
  | y :: l, e => endE_snoc x l _
theorem okE_snoc {n : Nat} {x : Edit} : ∀ {l : List Edit} {e : Int}, okE n l e → 0 ≤ x.at_ → 0 ≤ x.len → x.at_ + x.len ≤ n → endE l e ≤ x.at_ → okE n (l ++ [x]) e
  | [], e, _, h1, h2, h3, h4 => ⟨h1, h2, h3, h4, trivial⟩
  | y :: l, e, ⟨g1, g2, g3, g4, g5⟩, h1, h2, h3, h4 => ⟨g1, g2, g3, g4, okE_snoc g5 h1 h2 h3 h4⟩
theorem run_end (a : List UInt8) : ∀ (l : List Edit) (out : List UInt8) (at_ : Nat), okE a.length l at_ → ((runE a l out at_).2 : Int) = endE l at_
  | [], _, _, _ => rfl
  | x :: l, out, at_, ⟨g1, g2, g3, g4, g5⟩ => by
    simp only [runE, endE]
    have : ((x.at_ + x.len).toNat : Int) = x.at_ + x.len := by omega
    rw [run_end a l _ _ (by rw [this]; exact g5), this]
theorem take_drop_last {l : List UInt8} {k : Nat} (h0 : 0 < k) (h : k ≤ l.length) : (l.take k).drop (k - 1) = [l.getD (k - 1) 0] := by
  have e : k = (k - 1) + 1 := by omega
  rw [e, Nat.add_sub_cancel, List.take_succ_eq_append_getElem (by omega), List.drop_append_of_le_length (by simp; omega)]
  simp [List.getD_eq_getElem?_getD, List.getElem?_eq_getElem (show k - 1 < l.length by omega)]
theorem take_last {l : List UInt8} {k : Nat} (h0 : 0 < k) (h : k ≤ l.length) : l.take k = l.take (k - 1) ++ [l.getD (k - 1) 0] := by
  have e : k = (k - 1) + 1 := by omega
  rw [e, Nat.add_sub_cancel, List.take_succ_eq_append_getElem (by omega)]
  simp [List.getD_eq_getElem?_getD, List.getElem?_eq_getElem (show k - 1 < l.length by omega)]
theorem drop_step {a : List UInt8} {i at_ : Nat} (h0 : 0 < i) (h : i ≤ a.length) (hat : at_ ≤ i - 1) : (a.take i).drop at_ = (a.take (i - 1)).drop at_ ++ [a.getD (i - 1) 0] := by
  rw [take_last h0 h, List.drop_append_of_le_length (by simp; omega)]
theorem tr_run (a b : List UInt8) : ∀ (f i k : Nat), i + k ≤ f → i ≤ a.length → k ≤ b.length →
    okE a.length (trE a b f i k) 0 ∧ endE (trE a b f i k) 0 ≤ i ∧ (runE a (trE a b f i k) [] 0).1 ++ (a.take i).drop (runE a (trE a b f i k) [] 0).2 = b.take k
  | 0, i, k, h, hi, hk => by
    obtain rfl : i = 0 := by omega
    obtain rfl : k = 0 := by omega
    exact ⟨trivial, by simp [trE, endE], by simp [trE, runE]⟩
  | f + 1, i, k, h, hi, hk => by
    unfold trE
    by_cases h0 : i = 0 ∧ k = 0
    · rw [if_pos h0]; obtain ⟨rfl, rfl⟩ := h0; exact ⟨trivial, by simp [endE], by simp [runE]⟩
    rw [if_neg h0]
    by_cases h1 : 0 < i ∧ 0 < k ∧ eqB a b (i - 1) (k - 1) = true ∧ eqE a b i k = eqE a b (i - 1) (k - 1)
    · rw [if_pos h1]
      obtain ⟨q1, q2, q3⟩ := tr_run a b f (i - 1) (k - 1) (by omega) (by omega) (by omega)
      have hre := run_end a (trE a b f (i - 1) (k - 1)) [] 0 q1
      refine ⟨q1, by omega, ?_⟩
      have heq : a.getD (i - 1) 0 = b.getD (k - 1) 0 := by have := h1.2.2.1; unfold eqB at this; simpa using this
      rw [drop_step h1.1 hi (by have : ((0 : Nat) : Int) = 0 := rfl
                                rw [this] at hre; omega), ← List.append_assoc, q3, heq, ← take_last h1.2.1 hk]
    rw [if_neg h1]
    by_cases h2 : 0 < i ∧ 0 < k ∧ eqE a b i k = eqE a b (i - 1) (k - 1) + 1
    · rw [if_pos h2]
      obtain ⟨q1, q2, q3⟩ := tr_run a b f (i - 1) (k - 1) (by omega) (by omega) (by omega)
      refine ⟨okE_snoc q1 (by simp only; omega) (by simp only; omega) (by simp only; omega) (by simp only; omega), by rw [endE_snoc]; simp only; omega, ?_⟩
      rw [runE_snoc]
      have ei : ((i : Int) - 1).toNat = i - 1 := by omega
      have ej : ((i : Int) - 1 + 1).toNat = i := by omega
      simp only [ei, ej]
      rw [q3, take_drop_last h2.2.1 hk, ← take_last h2.2.1 hk]
      simp
    rw [if_neg h2]
    by_cases h3 : 0 < i ∧ eqE a b i k = eqE a b (i - 1) k + 1
    · rw [if_pos h3]
      obtain ⟨q1, q2, q3⟩ := tr_run a b f (i - 1) k (by omega) (by omega) (by omega)
      refine ⟨okE_snoc q1 (by simp only; omega) (by simp only; omega) (by simp only; omega) (by simp only; omega), by rw [endE_snoc]; simp only; omega, ?_⟩
      rw [runE_snoc]
      have ei : ((i : Int) - 1).toNat = i - 1 := by omega
      have ej : ((i : Int) - 1 + 1).toNat = i := by omega
      simp only [ei, ej]
      rw [q3]
      simp
    rw [if_neg h3]
    have h4 := tr_last a b i k h0 h1 h2 h3
    obtain ⟨q1, q2, q3⟩ := tr_run a b f i (k - 1) (by omega) (by omega) (by omega)
    refine ⟨okE_snoc q1 (by simp only; omega) (by simp only; omega) (by simp only; omega) (by simp only; omega), by rw [endE_snoc]; simp only; omega, ?_⟩
    rw [runE_snoc]
    simp only [Int.toNat_natCast, Int.add_zero]
    rw [q3, take_drop_last h4.1 hk, ← take_last h4.1 hk]
    simp
end Go.Proofs
namespace Go.Proofs
open Go Go.Sh Go.RowKit

/- a table: its rows lie in blocks of their own; of row i the first (c i) numbers are known -/
def slV (m : Nat) (r : Nat) : Value := .slice (some ⟨r, 0, none⟩) m m
def Mt (w : World) (B bd n m : Nat) (c : Nat → Nat) (t : Nat) (D : Nat → Nat → Int) : Prop :=
  ∃ rs : List Nat, rs.length = t ∧ t ≤ n ∧ rs.Nodup ∧ Blk w bd (rs.map (slV m) ++ List.replicate (n - t) (.slice none 0 0)) 43 ∧ B ≤ bd ∧ ∀ (i r : Nat), rs[i]? = some r → r ≠ bd ∧ r < w.heap.size ∧ FnRow w B r m (c i) (D i)
section
variable {w w' : World} {B bd n m t : Nat} {c : Nat → Nat} {D : Nat → Nat → Int}
theorem Mt.ext (h : Mt w B bd n m c t D) (he : Ext w w') : Mt w' B bd n m c t D := by
  obtain ⟨rs, h1, h2, h3, h4, h5, h6⟩ := h
  have := he.size
  exact ⟨rs, h1, h2, h3, h4.ext he, h5, fun i r hr => ⟨(h6 i r hr).1, by have := (h6 i r hr).2.1; omega, (h6 i r hr).2.2.ext he⟩⟩
theorem Mt.congr {c' : Nat → Nat} (h : Mt w B bd n m c t D) (hc : ∀ i, i < t → c i = c' i) : Mt w B bd n m c' t D := by
  obtain ⟨rs, h1, h2, h3, h4, h5, h6⟩ := h
  refine ⟨rs, h1, h2, h3, h4, h5, fun i r hr => ?_⟩
  rw [← hc i (by rw [← h1]; exact (List.getElem?_eq_some_iff.1 hr).1)]; exact h6 i r hr
theorem Mt.row (h : Mt w B bd n m c t D) {i : Nat} (hi : i < t) :
    ∃ r, (∀ K : Addr → Prop, (∀ p, w.cell? p = some (.slice (some ⟨r, 0, none⟩) m m) → K p) → idx (some ⟨bd, 0, none⟩) n (i : Int) 1 K) ∧ FnRow w B r m (c i) (D i) ∧
      ∀ (w' : World) (k : Nat), FnRow w' B r m k (D i) → Chg (fun j => j = r) w w' → Mt w' B bd n m (fun j => if j = i then k else c j) t D := by
  obtain ⟨rs, h1, h2, h3, h4, h5, h6⟩ := h
  have hr : rs[i]? = some rs[i] := List.getElem?_eq_getElem (by omega)
  obtain ⟨g1, g1', g2⟩ := h6 i _ hr
  refine ⟨rs[i], fun K hK => ⟨by omega, by omega, ?_⟩, g2, fun w' k hk hc => ?_⟩
  · refine dr_ok (hK _ ?_)
    rw [add_none, h4.cell, List.getElem?_append_left (by simp; omega)]
    simp [slV]
  · have := hc.size
    refine ⟨rs, h1, h2, h3, hc.blk h4 (fun e => g1 e.symm), h5, fun j r hj => ⟨(h6 j r hj).1, by have := (h6 j r hj).2.1; omega, ?_⟩⟩
    by_cases hji : j = i
    · subst hji
      dsimp only
      rw [if_pos rfl]
      rw [hr] at hj
      cases hj; exact hk
    · dsimp only
      rw [if_neg hji]
      refine (h6 j r hj).2.2.chg hc fun e => hji ?_
      have hjl := (List.getElem?_eq_some_iff.1 hj).1
      have : rs[j] = rs[i] := by have := (List.getElem?_eq_some_iff.1 hj).2; rw [this, e]
      rcases Nat.lt_trichotomy j i with hlt | he' | hlt
      · exact absurd this (List.pairwise_iff_getElem.1 h3 j i hjl (by omega) hlt)
      · exact he'
      · exact absurd this.symm (List.pairwise_iff_getElem.1 h3 i j (by omega) hjl hlt)
theorem Mt.push {w0 : World} (h : Mt w0 B bd n m c t D) (he : Ext w0 w) (ht : t < n) {r : Nat} (hrw : FnRow w B r m 0 (D t)) {K : World → Prop} (hw0 : w0.heap.size ≤ r) (hrl : r < w.heap.size)
    (hK : ∀ w', Mt w' B bd n m (fun j => if j = t then 0 else c j) (t + 1) D → Chg (fun k => k = bd) w w' → w'.heap.size = w.heap.size → K w') :
    idx (some ⟨bd, 0, none⟩) n (t : Int) 1 fun p => stL w p 0 [slV m r] K := by
  obtain ⟨rs, h1, h2, h3, h4, h5, h6⟩ := h
  have hbl := h4.lt
  have hB := h4.ext he
  have hz := he.size
  refine ⟨by omega, by omega, dr_ok ?_⟩
  rw [add_none]
  refine stL_blk hB (by simp; omega) (by intro v hv; simp only [List.mem_singleton] at hv; subst hv; rfl) fun w' b1 b2 b3 b4 b5 b6 => ?_
  have hc : Chg (fun k => k = bd) w w' := ⟨b4, b5, b6, by omega, fun k' _ hk => b2 k' hk⟩
  refine hK w' ⟨rs ++ [r], by simp [h1], by omega, ?_, ?_, h5, fun i x hx => ?_⟩ hc b3
  · rw [List.nodup_append]
    refine ⟨h3, by simp, fun x hx y hy => ?_⟩
    simp only [List.mem_singleton] at hy
    subst hy
    obtain ⟨i, hi⟩ := List.getElem?_of_mem hx
    have := (h6 i x hi).2.1; omega
  · have e : putAt (List.map (slV m) rs ++ List.replicate (n - t) (.slice none 0 0)) (0 + (t : Int).toNat * 1 + 0) [slV m r] = List.map (slV m) (rs ++ [r]) ++ List.replicate (n - (t + 1)) (.slice none 0 0) := by
      simp only [putAt]
      rw [show 0 + (t : Int).toNat * 1 + 0 = rs.length by omega, List.set_append_right _ _ (by simp), show n - t = (n - (t + 1)) + 1 by omega, List.replicate_succ]
      simp
    rw [← e]; exact b1
  · by_cases hi : i < t
    · rw [List.getElem?_append_left (by omega)] at hx
      dsimp only
      rw [if_neg (by omega)]
      obtain ⟨g1, g2, g3⟩ := h6 i x hx
      exact ⟨g1, by omega, (g3.ext he).chg hc g1⟩
    · have hil := (List.getElem?_eq_some_iff.1 hx).1
      simp at hil
      obtain rfl : i = t := by omega
      rw [List.getElem?_append_right (by omega)] at hx
      simp [h1] at hx
      subst hx
      dsimp only
      rw [if_pos rfl]
      exact ⟨by omega, by omega, hrw.chg hc (by omega)⟩
end
end Go.Proofs
namespace Go.Proofs
open Go Go.Sh Go.RowKit

theorem tr_fuel (a b : List UInt8) : ∀ (f g i k : Nat), i + k ≤ f → i + k ≤ g → trE a b f i k = trE a b g i k
  | 0, g, i, k, h, h' => by
    obtain rfl : i = 0 := by omega
    obtain rfl : k = 0 := by omega
    cases g <;> simp [trE]
  | f + 1, 0, i, k, h, h' => by
    obtain rfl : i = 0 := by omega
    obtain rfl : k = 0 := by omega
    simp [trE]
  | f + 1, g + 1, i, k, h, h' => by
    unfold trE
    by_cases h0 : i = 0 ∧ k = 0
    · rw [if_pos h0, if_pos h0]
    rw [if_neg h0, if_neg h0]
    by_cases h1 : 0 < i ∧ 0 < k ∧ eqB a b (i - 1) (k - 1) = true ∧ eqE a b i k = eqE a b (i - 1) (k - 1)
    · rw [if_pos h1, if_pos h1]; exact tr_fuel a b f g _ _ (by omega) (by omega)
    rw [if_neg h1, if_neg h1]
    by_cases h2 : 0 < i ∧ 0 < k ∧ eqE a b i k = eqE a b (i - 1) (k - 1) + 1
    · rw [if_pos h2, if_pos h2, tr_fuel a b f g _ _ (by omega) (by omega)]
    rw [if_neg h2, if_neg h2]
    by_cases h3 : 0 < i ∧ eqE a b i k = eqE a b (i - 1) k + 1
    · rw [if_pos h3, if_pos h3, tr_fuel a b f g _ _ (by omega) (by omega)]
    rw [if_neg h3, if_neg h3]
    have h4 := tr_last a b i k h0 h1 h2 h3
    rw [tr_fuel a b f g _ _ (by omega) (by omega)]
theorem slT_edit : SlT Tryd.prog 48 85 3 32 (.agg #[.int .i64 0, .int .i64 0, .string ⟨⟨[]⟩⟩]) := ⟨by kernel_rfl, by kernel_rfl, rfl, by decide⟩

/- turning a row round -/
theorem store_edit {w : World} {B : Nat} {e : TypeId} {a : Option Addr} {n c : Nat} {l : List Edit} (h : OwnL encE w B e a n c l) {i : Nat} (hi : i < n) (x : Edit) {K : World → Prop}
    (hK : ∀ w', OwnL encE w' B e a n c (l.set i x) → Chg (bk a) w w' → w'.heap.size = w.heap.size → K w') : idx a n (i : Int) 3 fun p => stL w p 0 [.int .i64 x.at_, .int .i64 x.len, .string ⟨⟨x.text⟩⟩] K := by
  obtain ⟨g, hg, hidx, hst⟩ := h.store hi x
  exact hidx _ (hst K hK)
theorem get_edit {w : World} {B : Nat} {e : TypeId} {a : Option Addr} {n c : Nat} {l : List Edit} (h : OwnL encE w B e a n c l) {i : Nat} {x : Edit} (hi : l[i]? = some x) {K : Addr → Prop}
    (hK : ∀ p : Addr, w.cell? (p.add 0) = some (.int .i64 x.at_) → w.cell? (p.add 1) = some (.int .i64 x.len) → w.cell? (p.add 2) = some (.string ⟨⟨x.text⟩⟩) → K p) : idx a n (i : Int) 3 K := by
  obtain ⟨b, o, hidx, _, _, hc⟩ := h.out.get hi
  refine hidx K (hK _ ?_ ?_ ?_) <;> rw [add_none]
  · exact hc 0 _ rfl
  · exact hc 1 _ rfl
  · exact hc 2 _ rfl
theorem Reverse_spec {R : Ending → World → Prop} {w : World} {B : Nat} {e : TypeId} {a : Option Addr} {n c : Nat} (l : List Edit) (hn : n ≤ 4611686018427387904) (h : OwnL encE w B e a n c l)
    (hk : ∀ w', OwnL encE w' B e a n c l.reverse → Chg (bk a) w w' → R (.returned (.tuple ⟨[]⟩)) w') : Calls Tryd.prog F_slices_Reverse_of_api_Edit_api_Edit ⟨[.slice a n c]⟩ w R := by
  apply c_slices_Reverse_of_api_Edit_api_Edit
  have hl := h.length
  refine ⟨fun i j W m => ∃ (k : Nat) (l' : List Edit), i = k ∧ j = (n : Int) - 1 - k ∧ m = n - k ∧ 2 * k ≤ n + 1 ∧ l'.length = n ∧ OwnL encE W B e a n c l' ∧ Chg (bk a) w W ∧ ∀ x, x < n → l'[x]? = if x < k ∨ n ≤ x + k then l[n - 1 - x]? else l[x]?,
    ⟨_, 0, l, rfl, by rw [wrap_id (by omega)]; omega, rfl, by omega, hl, h, Chg.refl _ _, fun x hx => by rw [if_neg (by omega)]⟩, ?_⟩
  rintro _ _ W m ⟨k, l', rfl, rfl, rfl, hk2, hl', ho, hc, hx⟩ _
  refine br_split (fun hlt => ?_) (fun hge => ?_)
  · have hd := ext_drew W
    have ho := Owns.ext ho hd
    have hc := hc.trans (Chg.of_ext hd)
    unfold drw
    have ej : (n : Int) - 1 - k = ((n - 1 - k : Nat) : Int) := by omega
    rw [ej]
    obtain ⟨xi, hxi⟩ : ∃ x, l'[k]? = some x := ⟨_, List.getElem?_eq_getElem (by omega)⟩
    obtain ⟨xj, hxj⟩ : ∃ x, l'[n - 1 - k]? = some x := ⟨_, List.getElem?_eq_getElem (by omega)⟩
    refine get_edit ho hxj fun p p0 p1 p2 => ⟨_, p0, _, p1, _, p2, get_edit ho hxi fun q q0 q1 q2 => ⟨_, q0, _, q1, _, q2, ?_⟩⟩
    have key := store_edit ho (i := k) (by omega) xj (K := fun w18 => idx a n ((n - 1 - k : Nat) : Int) 3 fun p19 => stL w18 p19 0 [.int .i64 xi.at_, .int .i64 xi.len, .string ⟨⟨xi.text⟩⟩] fun w20 =>
      ∃ m21 : Nat, m21 < n - k ∧ ∃ (k' : Nat) (l' : List Edit), IntKind.i64.wrap ((k : Int) + 1) = k' ∧ IntKind.i64.wrap (((n - 1 - k : Nat) : Int) - 1) = (n : Int) - 1 - k' ∧ m21 = n - k' ∧ 2 * k' ≤ n + 1 ∧ l'.length = n ∧ OwnL encE w20 B e a n c l' ∧ Chg (bk a) w w20 ∧ ∀ x, x < n → l'[x]? = if x < k' ∨ n ≤ x + k' then l[n - 1 - x]? else l[x]?)
      fun w1 o1 ch1 z1 => store_edit o1 (i := n - 1 - k) (by omega) xi fun w2 o2 ch2 z2 => ⟨n - (k + 1), by omega, k + 1, _, wrap_nat (by omega), by rw [wrap_id (by omega)]; omega, rfl, by omega, by simp [hl'], o2, (hc.trans ch1).trans ch2, fun x hxn => ?_⟩
    · obtain ⟨y1, y2, y3⟩ := key
      obtain ⟨r, hr⟩ : ∃ r, a = some r := by
        rcases a with _ | r
        · exact y3.elim
        · exact ⟨r, rfl⟩
      subst hr
      refine ⟨y1, y2, ?_⟩
      have y3' : stL W.drew (r.add ((k : Int).toNat * 3)) 0 _ _ := y3
      refine ⟨stL_mono y3' fun w18 hw18 => ?_, trivial⟩
      obtain ⟨u1, u2, u3⟩ := hw18
      exact ⟨u1, u2, u3, trivial⟩
    · rw [List.getElem?_set, List.getElem?_set]
      have h1 := hx k (by omega)
      have h2 := hx (n - 1 - k) (by omega)
      rw [if_neg (by omega)] at h1
      rw [if_neg (by omega)] at h2
      by_cases e1 : n - 1 - k = x
      · subst e1
        rw [if_pos rfl, if_pos (by simp; omega), if_pos (by omega), show n - 1 - (n - 1 - k) = k by omega, ← h1, hxi]
      · rw [if_neg e1]
        by_cases e2 : k = x
        · subst e2
          rw [if_pos rfl, if_pos (by omega), if_pos (by omega), ← h2, hxj]
        · rw [if_neg e2, hx x hxn]
          by_cases e3 : x < k ∨ n ≤ x + k
          · rw [if_pos e3, if_pos (by omega)]
          · rw [if_neg e3, if_neg (by omega)]
  · have e : l' = l.reverse := by
      apply List.ext_getElem?
      intro x
      by_cases hxn : x < n
      · rw [hx x hxn, List.getElem?_reverse (by omega), hl]
        split
        · rfl
        · congr 1; omega
      · rw [List.getElem?_eq_none (by omega), List.getElem?_eq_none (by simp; omega)]
    rw [e] at ho
    exact hk _ ho hc
end Go.Proofs
