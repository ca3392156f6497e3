/- The contracts of the functions that the law reaches, one after the other, and at the end the law's card. -/
import Derived.Test.YtieeggfkfgmdgaaGreatDoorLawA
namespace Go.Proofs
open Go Go.Sh Go.RowKit

structure Pl where
  k : Int
  t : List UInt8
  n : Int
  ps : Fo
  d : Nat
  b : Bool
def placesF : Fo → Nat → Bool → List Pl
  | .nil, _, _ => []
  | .cons k t n ps r, d, b => ⟨k, t, n, ps, d, b⟩ :: ((if d ≤ 16 then placesF ps (d + 1) false else []) ++ placesF r d (decide (k = 1)))
def PlE (T : Nat → Prop) (w0 : World) (x : Pl) (vs : List Value) : Prop :=
  ∃ a c, vs = [.agg ⟨[.int .i64 x.k, .string ⟨⟨x.t⟩⟩, .int .i64 x.n, .slice a x.ps.len c, .int .i64 (x.d : Int), .bool x.b]⟩] ∧ SlF T w0 a x.ps.len x.ps

theorem places_walk {yf : Fn} {ya yb : Array Value} {S T : Nat → Prop} {J : List Pl → World → Prop} {Jx : World → Prop} {w0 : World} {xs : List Pl} {ty tw : Nat}
    (hS : ∀ k, S k → k < w0.heap.size ∧ ¬ T k)
    (hJ : ∀ pre W W', J pre W → Chg (fun k => w0.heap.size ≤ k) W W' → J pre W')
    (hbody : ∀ pre x vs W, PlE T w0 x vs → pre ++ [x] <+: xs → w0.heap.size ≤ W.heap.size → J pre W → CallV Tryz.prog (.func yf ya yb) vs W fun e W' => Chg S W W' ∧ ((e = .returned (.bool true) ∧ J (pre ++ [x]) W') ∨ (e = .returned (.bool false) ∧ Jx W')))
    (hty : w0.heap.size ≤ ty) (htw : w0.heap.size ≤ tw) :
    ∀ (f : Fo) {R : Ending → World → Prop} {w : World} {a : Option Addr} {n c : Nat} (d : Nat) (pre : List Pl), small f → d ≤ 17 → SlF T w0 a n f → Chg (fun k => S k ∨ w0.heap.size ≤ k) w0 w → Blk w ty [.func yf ya yb] 128 → Blk w tw [.func (.func 103) ⟨[]⟩ ⟨[.pointer (some ⟨ty, 0, none⟩), .pointer (some ⟨tw, 0, none⟩)]⟩] 124 →
      pre ++ placesF f d false <+: xs → J pre w → (∀ W', Chg S w W' → J (pre ++ placesF f d false) W' → R (.returned (.bool true)) W') → (∀ W', Chg S w W' → Jx W' → R (.returned (.bool false)) W') →
      Calls Tryz.prog F_transcript_places_1_1 ⟨[.slice a n c, .int .i64 (d : Int), .pointer (some ⟨ty, 0, none⟩), .pointer (some ⟨tw, 0, none⟩)]⟩ w R := by
  intro f
  induction hz : f.size using Nat.strongRecOn generalizing f with
  | _ z ih =>
  intro R w a n c d pre hs hd hf hc0 hBy hBw hpre hj hend hstop
  unfold small at hs
  apply c_transcript_places_1_1
  have hn := hf.1
  have hfl := f.len_le_size
  have nS : ∀ k, w0.heap.size ≤ k → ¬ S k := fun k hk h => by have := (hS k h).1; omega
  refine ⟨fun tx i W m => ∃ (p r : Fo) (ps : List Pl), f = p.app r ∧ i = p.len ∧ m = r.len ∧ Chg S w W ∧ J ps W ∧ pre ++ placesF f d false = ps ++ placesF r d tx, ⟨_, .nil, f, pre, rfl, rfl, rfl, Chg.refl _ _, hj, rfl⟩, ?_⟩
  rintro b _ W m ⟨p, r, xs', hpr, rfl, rfl, hcW, hjW, heq⟩ _
  refine br_split (fun hlt => ?_) (fun hge => ?_)
  · obtain ⟨k, t, mm, ps, r, rfl⟩ := Fo.next hpr (by omega)
    have hsl := Fo.sub_len hpr
    have hsz := Fo.sub_size hpr
    have e1 : f = (p.app (.one k t mm ps)).app r := by rw [Fo.app_one_app]; exact hpr
    have i1 : IntKind.i64.wrap ((p.len : Int) + 1) = ((p.app (.one k t mm ps)).len : Int) := by rw [wrap_nat (by omega)]; simp [Fo.one]
    have hc0W : Chg (fun k => S k ∨ w0.heap.size ≤ k) w0 W := hc0.trans (hcW.mono fun k _ h => .inl h)
    obtain ⟨q, a', c', hq, hTq, hql, hN0⟩ := hf.get hpr
    have hN : NodeIs T W q k t mm a' c' ps := by
      have key : ∀ j, W.cell? (q.add j) = w0.cell? (q.add j) := fun j => by
        unfold World.cell?
        have : (q.add j).block = q.block := by unfold Addr.add; split <;> rfl
        rw [this, hc0W.block _ hql (fun h => h.elim (fun h => (hS _ h).2 hTq) (fun h => by omega))]
      exact ⟨(key 0).trans hN0.kind, (key 1).trans hN0.text, (key 2).trans hN0.num, (key 3).trans hN0.parts, hN0.sl.keep (fun k hk hl => ⟨hk, hc0W.block k hl fun h => h.elim (fun h => (hS _ h).2 hk) (fun h => by omega)⟩) hc0W.size⟩
    refine hq _ ⟨k, hN.kind, t, hN.text, mm, hN.num, a', ps.len, c', hN.parts, ?_⟩
    refine al_stL (by simp) (by intro u hu; simp only [List.mem_cons, List.not_mem_nil, or_false] at hu; rcases hu with rfl | rfl | rfl | rfl <;> rfl) fun bx w1 hbx hBx e2 _ => ?_
    have hszW := hc0W.size
    have hc1 : Chg S W w1 := Chg.of_ext e2
    have hcw1 := hcW.trans hc1
    obtain ⟨x0, x1, x2, x3⟩ := blk4 hBx
    have hBy1 := hcw1.blk hBy (nS _ hty)
    have hBw1 := hcw1.blk hBw (nS _ htw)
    refine dr_ok ⟨_, _, _, by rw [hBy1.cell]; rfl, k, x0, t, x1, mm, x2, a', ps.len, c', x3, ?_⟩
    have hj1 : J xs' w1 := hJ _ _ _ hjW (Chg.of_ext e2)
    rw [placesF] at heq
    have hpx : xs' ++ [⟨k, t, mm, ps, d, b⟩] <+: xs := by
      refine List.IsPrefix.trans ?_ hpre
      rw [heq]
      exact ⟨_, by rw [List.append_assoc]; rfl⟩
    refine CallV_mono (hbody xs' ⟨k, t, mm, ps, d, b⟩ _ w1 ⟨a', c', rfl, hN0.sl⟩ hpx (by have := hc1.size; omega) hj1) ?_
    rintro e w2 ⟨hc2, ⟨rfl, hj2⟩ | ⟨rfl, hjx⟩⟩
    · refine ⟨true, rfl, ?_⟩
      have hcw2 := hcw1.trans hc2
      have hBx2 := hc2.blk hBx (nS _ (by omega))
      obtain ⟨y0, y1, y2, y3⟩ := blk4 hBx2
      refine br_split (fun hd16 => ?_) (fun hd16 => ?_)
      · have hd16' : d ≤ 16 := by omega
        rw [if_pos hd16'] at heq
        have hBw2 := hcw2.blk hBw (nS _ htw)
        have hBy2 := hcw2.blk hBy (nS _ hty)
        refine dr_ok ⟨.func 103, ⟨[]⟩, ⟨[.pointer (some ⟨ty, 0, none⟩), .pointer (some ⟨tw, 0, none⟩)]⟩, by rw [hBw2.cell]; rfl, a', ps.len, c', y3, by kernel_rfl, ?_⟩
        rw [wrap_nat (by omega)]
        refine ih _ (hz ▸ hsz) ps rfl (d + 1) (xs' ++ [⟨k, t, mm, ps, d, b⟩]) (by unfold small; omega) (by omega) hN0.sl (hc0.trans (hcw2.mono fun k _ h => .inl h)) hBy2 hBw2 ?_ hj2 (fun w3 hc3 hj3 => ?_) (fun w3 hc3 hjx => ?_)
        · refine List.IsPrefix.trans ?_ hpre
          rw [heq]
          exact ⟨placesF r d (decide (k = 1)), by simp⟩
        · refine ⟨true, rfl, ?_⟩
          have hBx3 := hc3.blk hBx2 (nS _ (by omega))
          refine ⟨k, (blk4 hBx3).1, r.len, by simp, _, r, _, e1, i1, rfl, hcw2.trans hc3, hj3, ?_⟩
          rw [heq]; simp
        · exact ⟨false, rfl, hstop _ (hcw2.trans hc3) hjx⟩
      · rw [if_neg (by omega)] at heq
        refine ⟨k, y0, r.len, by simp, _, r, _, e1, i1, rfl, hcw2, hj2, ?_⟩
        rw [heq]; simp
    · exact ⟨false, rfl, hstop _ (hcw1.trans hc2) hjx⟩
  · obtain ⟨rfl, rfl⟩ := Fo.last hpr (by omega)
    have e : xs' = pre ++ placesF p d false := by rw [heq]; simp [placesF]
    rw [e] at hjW
    exact hend _ hcW hjW

theorem places_iter {T : Nat → Prop} (f : Fo) (hs : small f) {a : Option Addr} {n c : Nat} (b : Nat) (w : World) (hb : Blk w b [.slice a n c] 22) (hf : SlF T w a n f) (hbT : T b) :
    IterR Tryz.prog F_transcript_places_1 [.pointer (some ⟨b, 0, none⟩)] (placesF f 0 false) (PlE T w) T w := by
  intro yf ya yb S J Jx R hS hJ hJx hbody h0 hend hstop
  apply c_transcript_places_1
  refine al_intro fun ty w1 hty hBy e1 s1 => ?_
  refine al_intro fun tw w1' htw hBw' e2' s2' => ?_
  refine stL_one hBw' rfl fun w2 hBw hcc hss => ?_
  have e2 : Ext w1 w2 := ext_chgS e2' hcc fun k hk => by omega
  have E := ext_trans e1 e2
  refine ⟨.func 103, ⟨[]⟩, ⟨[.pointer (some ⟨ty, 0, none⟩), .pointer (some ⟨tw, 0, none⟩)]⟩, by rw [hBw.cell]; rfl, dr_ok ⟨a, n, c, by rw [((hb.ext e1).ext e2).cell]; rfl, by kernel_rfl, ?_⟩⟩
  have hz := E.size
  have hz1 := e1.size
  have hch : Chg (fun k => w.heap.size ≤ k) w w2 := Chg.of_ext E
  refine places_walk (w0 := w) (xs := placesF f 0 false) hS hJ hbody (by omega) (by omega) f 0 [] hs (by omega) hf (Chg.of_ext E) (hBy.ext e2) hBw (List.prefix_refl _) (hJ _ _ _ h0 hch) (fun W' hc hj => ?_) (fun W' hc hjx => ?_)
  · exact ⟨_, rfl, hend _ (Nat.le_trans hz hc.size) hj⟩
  · exact ⟨_, rfl, hstop _ (Nat.le_trans hz hc.size) hjx⟩

theorem places_spec {R : Ending → World → Prop} {w : World} {a : Option Addr} {n c : Nat}
    (h : ∀ b w', Blk w' b [.slice a n c] 22 → Ext w w' → b = w.heap.size → R (.returned (.func (.func F_transcript_places_1) ⟨[]⟩ ⟨[.pointer (some ⟨b, 0, none⟩)]⟩)) w') :
    Calls Tryz.prog F_transcript_places ⟨[.slice a n c]⟩ w R := by
  apply c_transcript_places
  refine al_intro fun b w' hb h1 h2 h3 => ?_
  exact h b w' h1 h2 hb
end Go.Proofs
namespace Go.Proofs
open Go Go.Sh Go.RowKit

theorem value_spec {R : Ending → World → Prop} {w : World} (hF : Forms w) (k : Int) (t : List UInt8) (n : Int) (a : Option Addr) (c : Nat) (ps : Fo) (hok : nodeOk k t n ps)
    (h : ∀ w', Ext w w' → R (.returned (.string ⟨⟨valF k t n⟩⟩)) w') : Calls Tryz.prog F_transcript_value ⟨[.agg ⟨[.int .i64 k, .string ⟨⟨t⟩⟩, .int .i64 n, .slice a ps.len c]⟩]⟩ w R := by
  apply c_transcript_value
  refine al_intro fun b w1 hb hB e1 s1 => ?_
  obtain ⟨x0, x1, x2, x3⟩ := blk4 hB
  obtain ⟨q, hq, f0, f1, f2, f3⟩ := (hF.ext e1).get hok.1 hok.2.1
  refine ⟨k, x0, hq _ ⟨_, f0, _, f1, _, f2, _, f3, ?_⟩⟩
  refine al_stL (by simp) (by intro u hu; simp only [List.mem_cons, List.not_mem_nil, or_false] at hu; rcases hu with rfl | rfl | rfl | rfl <;> rfl) fun b2 v hb2 hB2 e2 s2 => ?_
  have E := ext_trans e1 e2
  have F : ∀ j, v.cell? ((⟨b2, 0, none⟩ : Addr).add j) = [Value.string ⟨⟨tagF k⟩⟩, .bool (textsF k), .bool (numsF k), .bool (partsF k)][j]? := fun j => by rw [add_none, hB2.cell]; simp
  obtain ⟨y0, y1, y2, y3⟩ := blk4 (hB.ext e2)
  have hl := hok.2.2.2.1
  refine ⟨_, F 1, br_cases (fun g => ⟨t, y1, by simp; omega, ?_⟩) (fun g => ⟨_, F 2, br_cases (fun g2 => ⟨n, y2, ?_⟩) (fun g2 => ?_)⟩)⟩
  · have e : valF k t n = [32] ++ t := by unfold valF; rw [g]; rfl
    rw [e] at h; exact h _ E
  · have hr := hok.2.2.1 g2
    have e : valF k t n = [32] ++ Lib.decDigits n.toNat := by unfold valF; rw [g, g2]; rfl
    rw [e] at h
    have hdl := decDigits_len n.toNat (by omega)
    have hmm : n = ((n.toNat : Nat) : Int) := by omega
    rw [hmm]
    refine (Tryz.strconv_Itoa_small n.toNat (by omega) _).mono ?_
    rintro _ _ ⟨rfl, rfl⟩
    exact ⟨_, rfl, by simp; omega, h _ E⟩
  · have e : valF k t n = [] := by unfold valF; rw [g, g2]; rfl
    rw [e] at h; exact h _ E

theorem chg_then {S S' : Nat → Prop} {A B C : World} (h : Chg S A B) (k : Chg S' B C) (hs : ∀ i, i < A.heap.size → S' i → S i) : Chg S A C :=
  ⟨k.os.trans h.os, k.tape.trans h.tape, k.output.trans h.output, Nat.le_trans h.size k.size, fun i hi hn => (k.block i (Nat.lt_of_lt_of_le hi h.size) (fun hh => hn (hs i hi hh))).trans (h.block i hi hn)⟩
theorem NodeIs.chg {S T : Nat → Prop} {w w' : World} {q : Addr} {k : Int} {t : List UInt8} {n : Int} {a : Option Addr} {c : Nat} {ps : Fo} (h : NodeIs S w q k t n a c ps) (hl : q.block < w.heap.size) (hq : S q.block) (he : Chg T w w') (hd : ∀ k, S k → ¬ T k) : NodeIs S w' q k t n a c ps := by
  have key : ∀ j, w'.cell? (q.add j) = w.cell? (q.add j) := fun j => by
    unfold World.cell?
    have : (q.add j).block = q.block := by unfold Addr.add; split <;> rfl
    rw [this, he.block _ hl (hd _ hq)]
  exact ⟨(key 0).trans h.kind, (key 1).trans h.text, (key 2).trans h.num, (key 3).trans h.parts, h.sl.chg he hd⟩

theorem write_walk {b tw : Nat} : ∀ (f : Fo) {R : Ending → World → Prop} {S : Nat → Prop} {w : World} {a : Option Addr} {n c : Nat} {bo : Option Addr} {acc : List UInt8}, f.size ≤ 1000000 → good f → SlF S w a n f → Forms w → G_transcript_forms < b → BldAt w b bo acc →
    (∀ k, S k → k ≠ b ∧ ¬ bk bo k) → Blk w tw [.func (.func 142) ⟨[]⟩ ⟨[.pointer (some ⟨b, 0, none⟩), .pointer (some ⟨tw, 0, none⟩)]⟩] 163 → tw ≠ b → ¬ bk bo tw → acc.length + 65600 * f.size ≤ 100000000000 →
    (∀ bo' w', BldAt w' b bo' (acc ++ printF f) → (∀ k, bk bo' k → bk bo k ∨ w.heap.size ≤ k) → Chg (fun k => k = b ∨ bk bo k) w w' → R (.returned (.tuple ⟨[]⟩)) w') →
    Calls Tryz.prog F_transcript_marked_1 ⟨[.slice a n c, .pointer (some ⟨b, 0, none⟩), .pointer (some ⟨tw, 0, none⟩)]⟩ w R := by
  intro f
  induction hz : f.size using Nat.strongRecOn generalizing f with
  | _ z ih =>
  intro R S w a n c bo acc hs hg hf0 hF hb0 hbld hSd0 hBw htwb htwo hacc h
  apply c_transcript_marked_1
  have hn := hf0.1
  have hfl := f.len_le_size
  have hf : SlF (fun k => S k ∧ k < w.heap.size) w a n f := hf0.imp fun k hk hl => ⟨hk, hl⟩
  have hblt := hbld.lt
  have htlt := hBw.lt
  refine ⟨fun i W m => ∃ (p r : Fo) (bo1 : Option Addr), f = p.app r ∧ i = p.len ∧ m = r.len ∧ BldAt W b bo1 (acc ++ printF p) ∧ (∀ k, bk bo1 k → bk bo k ∨ w.heap.size ≤ k) ∧ Chg (fun k => k = b ∨ bk bo k) w W,
    ⟨_, .nil, f, bo, rfl, rfl, rfl, by simpa [printF] using hbld, fun k hk => .inl hk, Chg.refl _ _⟩, ?_⟩
  rintro _ W m ⟨p, r, bo1, hpr, rfl, rfl, hbW, hbk1, hcW⟩ _
  refine br_split (fun hlt => ?_) (fun hge => ?_)
  · obtain ⟨k, t, mm, ps, r, rfl⟩ := Fo.next hpr (by omega)
    have hsl := Fo.sub_len hpr
    have hsz : f.size = p.size + (ps.size + r.size + 1) := by rw [hpr, Fo.size_app]; rfl
    have hgg := hg
    rw [hpr, good_app] at hgg
    obtain ⟨hgp, hok, hgs, hgr⟩ := hgg
    have l1 := printF_len p hgp
    have l2 := printF_len ps hgs
    have l3 := tagF_len hok.1 hok.2.1
    have l4 := valF_len hok
    have l5 := hok.2.2.2.1
    have e1 : f = (p.app (.one k t mm ps)).app r := by rw [Fo.app_one_app]; exact hpr
    have i1 : IntKind.i64.wrap ((p.len : Int) + 1) = ((p.app (.one k t mm ps)).len : Int) := by rw [wrap_nat (by omega)]; simp [Fo.one]
    have p1 : printF (p.app (.one k t mm ps)) = printF p ++ nodeF k t mm (printF ps) := by rw [printF_app]; simp [Fo.one, printF]
    have hSd : ∀ k, (S k ∧ k < w.heap.size) → ¬ (k = b ∨ bk bo k) := fun k hk hh => hh.elim (hSd0 k hk.1).1 (hSd0 k hk.1).2
    obtain ⟨q, a', c', hq, hSq, hql, hN⟩ := (hf.chg hcW hSd).get hpr
    refine hq _ ⟨k, hN.kind, t, hN.text, mm, hN.num, a', ps.len, c', hN.parts, ?_⟩
    refine al_stL (by simp) (by intro u hu; simp only [List.mem_cons, List.not_mem_nil, or_false] at hu; rcases hu with rfl | rfl | rfl | rfl <;> rfl) fun bx w1 hbx hBx e2 s2 => ?_
    obtain ⟨x0, x1, x2, x3⟩ := blk4 hBx
    have hbS : ∀ k, bk bo k → b < k ∧ k < w.heap.size := fun k hk => hbld.bk hk
    have n0 : ¬ (G_transcript_forms = b ∨ bk bo G_transcript_forms) := fun hh => hh.elim (fun h => by omega) (fun h => by have := (hbS _ h).1; omega)
    have hFW := hF.chg hcW n0
    obtain ⟨qf, hqf, f0, f1, f2, f3⟩ := (hFW.ext e2).get hok.1 hok.2.1
    refine ⟨k, x0, hqf _ ⟨_, f0, _, f1, _, f2, _, f3, ?_⟩⟩
    refine al_stL (by simp) (by intro u hu; simp only [List.mem_cons, List.not_mem_nil, or_false] at hu; rcases hu with rfl | rfl | rfl | rfl <;> rfl) fun bf w2 hbf hBf e3 s3 => ?_
    have E := ext_trans e2 e3
    have hwW := hcW.size
    have hEz := E.size
    have FF : ∀ {v : World}, Blk v bf [Value.string ⟨⟨tagF k⟩⟩, .bool (textsF k), .bool (numsF k), .bool (partsF k)] 161 → ∀ j, v.cell? ((⟨bf, 0, none⟩ : Addr).add j) = [Value.string ⟨⟨tagF k⟩⟩, .bool (textsF k), .bool (numsF k), .bool (partsF k)][j]? := fun hB j => by rw [add_none, hB.cell]; simp
    have hX2 := hBx.ext e3
    obtain ⟨y0, y1, y2, y3⟩ := blk4 hX2
    have hF2 := hFW.ext E
    have hb2 := hbW.ext E
    have hc2 : Chg (fun k => k = b ∨ bk bo k) w w2 := hcW.trans (Chg.of_ext E)
    have hbW1 : ∀ k, bk bo1 k → k < W.heap.size := fun k hk => (hbW.bk hk).2
    refine ⟨k, y0, br_split (fun hk1 => ?_) (fun hk1 => ?_)⟩
    · refine ⟨t, y1, WriteString_spec hb2 (by simp; omega) fun bo3 w3 hb3 hk3 hc3 => ⟨_, _, rfl, r.len, by simp, _, r, bo3, e1, i1, rfl, ?_, ?_, ?_⟩⟩
      · rw [p1, nodeF, if_pos hk1, ← List.append_assoc]; exact hb3
      · exact fun j hj => (hk3 j hj).elim (fun h => hbk1 j h) (fun h => .inr (by omega))
      · exact chg_then hc2 hc3 fun j hj hh => hh.imp id fun h => (hbk1 j h).elim id fun h => by omega
    -- the writing of the tag
    have tagW : ∀ {R' : Ending → World → Prop} {v : World} (s : List UInt8), Ext w2 v → s.length ≤ 65600 →
        (∀ bo3 w3, BldAt w3 b bo3 (acc ++ printF p ++ s) → (∀ j, bk bo3 j → bk bo1 j ∨ w2.heap.size ≤ j) → Chg (fun j => j = b ∨ bk bo1 j) w2 w3 → R' (.returned (.tuple ⟨[.int .i64 s.length, .nilIface]⟩)) w3) →
        Calls Tryz.prog 47 ⟨[.pointer (some ⟨b, 0, none⟩), .string ⟨⟨s⟩⟩]⟩ v R' := by
      intro R' v s he hl hh
      refine WriteString_spec (hb2.ext he) (by simp; omega) fun bo3 w3 hb3 hk3 hc3 => hh bo3 w3 hb3 (fun j hj => (hk3 j hj).imp id fun h => by have := he.size; omega) ?_
      exact (Chg.of_ext he).trans hc3
    refine ⟨partsF k, FF hBf 3, br_cases (fun hp => ?_) (fun hp => ?_)⟩
    · intro K34 hK34
      have k34 : ∀ bo3 w3, BldAt w3 b bo3 (acc ++ printF p ++ ([60] ++ tagF k ++ valF k t mm ++ [62])) → (∀ j, bk bo3 j → bk bo1 j ∨ w2.heap.size ≤ j) → Chg (fun j => j = b ∨ bk bo1 j) w2 w3 → K34 w3 := by
        intro bo3 w3 hb3 hk3 hc3
        have nb : ∀ {j : Nat}, b < j → W.heap.size ≤ j → ¬ (j = b ∨ bk bo1 j) := fun hj1 hj2 hh => hh.elim (fun h => by omega) (fun h => by have := hbW1 _ h; omega)
        have hX3 := hc3.blk hX2 (nb (by omega) (by omega))
        have hBf3 := hc3.blk hBf (nb (by omega) (by omega))
        have hc03 : Chg (fun k => k = b ∨ bk bo k) w w3 := chg_then hc2 hc3 fun j hj hh => hh.imp id fun h => (hbk1 j h).elim id fun h => by omega
        have hBw3 := hc03.blk hBw (fun hh => hh.elim htwb htwo)
        have bo3bo : ∀ j, bk bo3 j → bk bo j ∨ w.heap.size ≤ j := fun j hj => (hk3 j hj).elim (fun h => hbk1 j h) (fun h => .inr (by omega))
        have hz3 := hc3.size
        refine hK34 _ fun _ => dr_ok ⟨.func 142, ⟨[]⟩, ⟨[.pointer (some ⟨b, 0, none⟩), .pointer (some ⟨tw, 0, none⟩)]⟩, by rw [hBw3.cell]; rfl, a', ps.len, c', (blk4 hX3).2.2.2, by kernel_rfl, ?_⟩
        have lens : ((acc ++ printF p ++ ([60] ++ tagF k ++ valF k t mm ++ [62])).length) ≤ acc.length + 65600 * p.size + 65600 := by
          simp only [List.length_append, List.length_cons, List.length_nil]; omega
        refine ih _ (hz ▸ Fo.sub_size hpr) ps rfl (S := fun k => S k ∧ k < w.heap.size) (by omega) hgs ((hN.sl.ext E).chg hc3 fun j hj hh => hh.elim (hSd0 j hj.1).1 fun h => (hbk1 j h).elim (hSd0 j hj.1).2 fun h => by have := hj.2; omega) (hF.chg hc03 n0) hb0 hb3 ?_ hBw3 htwb ?_ (by omega) fun bo4 w4 hb4 hk4 hc4 => ⟨rfl, ?_⟩
        · exact fun j hj => ⟨(hSd0 j hj.1).1, fun hh => (bo3bo j hh).elim (hSd0 j hj.1).2 fun h => by have := hj.2; omega⟩
        · exact fun hh => (bo3bo _ hh).elim htwo fun h => by omega
        have nb3 : ¬ (bf = b ∨ bk bo3 bf) := fun hh => hh.elim (fun h => by omega) (fun h => (hk3 _ h).elim (fun h => by have := hbW1 _ h; omega) (fun h => by omega))
        have hBf4 := hc4.blk hBf3 nb3
        have hc04 : Chg (fun k => k = b ∨ bk bo k) w w4 := chg_then hc03 hc4 fun j hj hh => hh.imp id fun h => (bo3bo j h).elim id fun h => by omega
        refine ⟨tagF k, FF hBf4 0, by simp; omega, by simp; omega, ?_⟩
        refine WriteString_spec hb4 (by simp only [List.length_append, List.length_cons, List.length_nil] at lens ⊢; omega) fun bo5 w5 hb5 hk5 hc5 => ⟨_, _, rfl, r.len, by simp, _, r, bo5, e1, i1, rfl, ?_, ?_, ?_⟩
        · rw [p1, nodeF, if_neg hk1, if_pos hp]
          simpa using hb5
        · exact fun j hj => (hk5 j hj).elim (fun h => (hk4 j h).elim (fun h => bo3bo j h) fun h => .inr (by omega)) (fun h => .inr (by have := hc4.size; omega))
        · exact chg_then hc04 hc5 fun j hj hh => hh.imp id fun h => (hk4 j h).elim (fun h => (bo3bo j h).elim id fun h => by omega) fun h => by omega
      have hdr := ext_drew w2
      obtain ⟨d0, d1, d2, d3⟩ := blk4 (hX2.ext hdr)
      have Fd := FF (hBf.ext hdr)
      unfold drw
      have L : ([60] ++ tagF k ++ valF k t mm ++ [62]).length ≤ 65600 := by simp; omega
      refine ⟨⟨tagF k, Fd 0, by simp; omega, k, d0, t, d1, mm, d2, a', ps.len, c', d3, ?_, trivial⟩, ⟨k, d0, t, d1, mm, d2, a', ps.len, c', d3, ⟨tagF k, Fd 0, by simp; omega, ?_, trivial⟩, ?_, trivial⟩, trivial⟩
      · exact value_spec (hF2.ext hdr) k t mm a' c' ps hok fun v he => ⟨_, rfl, by simp; omega, by simp; omega, tagW _ (ext_trans hdr he) L fun bo3 w3 h1 h2 h3 => ⟨_, _, rfl, k34 bo3 w3 h1 h2 h3⟩, trivial⟩
      · exact value_spec (hF2.ext hdr) k t mm a' c' ps hok fun v he => ⟨_, rfl, by simp; omega, by simp; omega, tagW _ (ext_trans hdr he) L fun bo3 w3 h1 h2 h3 => ⟨_, _, rfl, k34 bo3 w3 h1 h2 h3⟩, trivial⟩
      · exact value_spec (hF2.ext hdr) k t mm a' c' ps hok fun v he => ⟨_, rfl, tagF k, FF (hBf.ext (ext_trans hdr he)) 0, by simp; omega, by simp; omega, by simp; omega, tagW _ (ext_trans hdr he) L fun bo3 w3 h1 h2 h3 => ⟨_, _, rfl, k34 bo3 w3 h1 h2 h3⟩, trivial⟩
    · have fin : ∀ bo3 w3, BldAt w3 b bo3 (acc ++ printF p ++ ([60] ++ tagF k ++ valF k t mm ++ [47, 62])) → (∀ j, bk bo3 j → bk bo1 j ∨ w2.heap.size ≤ j) → Chg (fun j => j = b ∨ bk bo1 j) w2 w3 →
          ∃ m107, m107 < (Fo.cons k t mm ps r).len ∧ ∃ (p' r' : Fo) (bo1' : Option Addr), f = p'.app r' ∧ IntKind.i64.wrap ((p.len : Int) + 1) = p'.len ∧ m107 = r'.len ∧ BldAt w3 b bo1' (acc ++ printF p') ∧ (∀ k, bk bo1' k → bk bo k ∨ w.heap.size ≤ k) ∧ Chg (fun k => k = b ∨ bk bo k) w w3 := by
        intro bo3 w3 hb3 hk3 hc3
        refine ⟨r.len, by simp, _, r, bo3, e1, i1, rfl, ?_, ?_, ?_⟩
        · rw [p1, nodeF, if_neg hk1, if_neg (by simp [hp]), ← List.append_assoc]; exact hb3
        · exact fun j hj => (hk3 j hj).elim (fun h => hbk1 j h) (fun h => .inr (by omega))
        · exact chg_then hc2 hc3 fun j hj hh => hh.imp id fun h => (hbk1 j h).elim id fun h => by omega
      have hdr := ext_drew w2
      obtain ⟨d0, d1, d2, d3⟩ := blk4 (hX2.ext hdr)
      have Fd := FF (hBf.ext hdr)
      unfold drw
      have L : ([60] ++ tagF k ++ valF k t mm ++ [47, 62]).length ≤ 65600 := by simp; omega
      refine ⟨⟨tagF k, Fd 0, by simp; omega, k, d0, t, d1, mm, d2, a', ps.len, c', d3, ?_, trivial⟩, ⟨k, d0, t, d1, mm, d2, a', ps.len, c', d3, ⟨tagF k, Fd 0, by simp; omega, ?_, trivial⟩, ?_, trivial⟩, trivial⟩
      · exact value_spec (hF2.ext hdr) k t mm a' c' ps hok fun v he => ⟨_, rfl, by simp; omega, by simp; omega, tagW _ (ext_trans hdr he) L fun bo3 w3 h1 h2 h3 => ⟨_, _, rfl, fin bo3 w3 h1 h2 h3⟩, trivial⟩
      · exact value_spec (hF2.ext hdr) k t mm a' c' ps hok fun v he => ⟨_, rfl, by simp; omega, by simp; omega, tagW _ (ext_trans hdr he) L fun bo3 w3 h1 h2 h3 => ⟨_, _, rfl, fin bo3 w3 h1 h2 h3⟩, trivial⟩
      · exact value_spec (hF2.ext hdr) k t mm a' c' ps hok fun v he => ⟨_, rfl, tagF k, FF (hBf.ext (ext_trans hdr he)) 0, by simp; omega, by simp; omega, by simp; omega, tagW _ (ext_trans hdr he) L fun bo3 w3 h1 h2 h3 => ⟨_, _, rfl, fin bo3 w3 h1 h2 h3⟩, trivial⟩
  · obtain ⟨rfl, rfl⟩ := Fo.last hpr (by omega)
    exact h bo1 W hbW hbk1 hcW
end Go.Proofs
namespace Go.Sh
open Go Go.RowKit
section
variable {S S' : Nat → Prop} {w w' : World}
theorem At.keep' {a : Option Addr} {us : List Value} (h : At S w a us) (hs : ∀ k, S k → k < w.heap.size → S' k ∧ k < w'.heap.size ∧ w'.heap[k]? = w.heap[k]?) : At S' w' a us := by
  rcases h with h | ⟨b, o, rfl, hb, hl, hc⟩
  · exact .inl h
  · obtain ⟨h1, h3, h2⟩ := hs b hb hl
    refine .inr ⟨b, o, rfl, h1, h3, fun j v hj => ?_⟩
    have := hc j v hj
    unfold World.cell? at this ⊢
    rw [h2]; exact this
theorem FoC.keep' (hs : ∀ k, S k → k < w.heap.size → S' k ∧ k < w'.heap.size ∧ w'.heap[k]? = w.heap[k]?) : ∀ {f : Fo} {vs : List Value}, FoC S w f vs → FoC S' w' f vs
  | .nil, vs, h => h
  | .cons k t n ps r, vs, ⟨a, c, us, vs', e, h1, h2, h3⟩ => ⟨a, c, us, vs', e, h1.keep' hs, FoC.keep' hs h2, FoC.keep' hs h3⟩
theorem SlF.keep' {a : Option Addr} {n : Nat} {f : Fo} (h : SlF S w a n f) (hs : ∀ k, S k → k < w.heap.size → S' k ∧ k < w'.heap.size ∧ w'.heap[k]? = w.heap[k]?) : SlF S' w' a n f := by
  obtain ⟨h1, us, h2, h3⟩ := h
  exact ⟨h1, us, h2.keep' hs, h3.keep' hs⟩
end
theorem IterR.mono {α : Type} {P : Program} {gf : FuncId} {cap : List Value} {xs : List α} {E E' : α → List Value → Prop} {Rd : Nat → Prop} {w : World} (h : IterR P gf cap xs E Rd w) (hE : ∀ x vs, E x vs → E' x vs) : IterR P gf cap xs E' Rd w :=
  fun yf ya yb S J Jx R hS hJ hJx hbody h0 h1 h2 => h yf ya yb S J Jx R hS hJ hJx (fun pre x vs W he => hbody pre x vs W (hE _ _ he)) h0 h1 h2
end Go.Sh
namespace Go.Proofs
open Go Go.Sh Go.RowKit

theorem marked_spec {R : Ending → World → Prop} {S : Nat → Prop} {w : World} {a : Option Addr} {n c : Nat} (f : Fo) (hs : f.size ≤ 1000000) (hg : good f) (hf : SlF S w a n f) (hF : Forms w)
    (h : ∀ w', Ext w w' → R (.returned (.string ⟨⟨printF f⟩⟩)) w') : Calls Tryz.prog F_transcript_marked ⟨[.slice a n c]⟩ w R := by
  apply c_transcript_marked
  refine al_intro fun b w1 hb hB e1 s1 => ?_
  refine al_intro fun tw w2 htw hBw e2 s2 => ?_
  refine stL_one hBw rfl fun w3 hBw3 hc3 hs3 => ?_
  have E2 := ext_trans e1 e2
  have E3 : Ext w w3 := ext_chgS E2 hc3 fun k hk => by omega
  refine ⟨.func 142, ⟨[]⟩, ⟨[.pointer (some ⟨b, 0, none⟩), .pointer (some ⟨tw, 0, none⟩)]⟩, by rw [hBw3.cell]; rfl, by kernel_rfl, ?_⟩
  have hbld : BldAt w3 b none [] := ⟨.pointer none, 0, hc3.blk (hB.ext e2) (by omega), .inl rfl, Owns.nil _ _ _ _⟩
  have hw := hF.1
  refine write_walk f (S := fun k => S k ∧ k < w.heap.size) (acc := []) hs hg ((hf.imp fun k hk hl => ⟨hk, hl⟩).ext E3) (hF.ext E3) (by omega) hbld (fun k hk => ⟨by omega, by simp [bk]⟩) hBw3 (by omega) (by simp [bk]) (by simp; omega) fun bo w4 hb4 hk4 hc4 => ⟨rfl, ?_⟩
  refine String_spec hb4 fun w5 hbel => ⟨_, rfl, ?_⟩
  have E4 : Ext w w4 := ext_chgS E3 hc4 fun k hk => hk.elim (fun h => by omega) (fun h => by simp [bk] at h)
  exact h w5 (E4.trans (hbel.mono (by omega)))

/- the two ranges over the places -/
theorem placesF_len : ∀ (f : Fo) (d : Nat) (b : Bool), (placesF f d b).length ≤ f.size
  | .nil, _, _ => by simp [placesF, Fo.size]
  | .cons k t n ps r, d, b => by
    have h1 := placesF_len ps (d + 1) false
    have h2 := placesF_len r d (decide (k = 1))
    simp only [placesF, Fo.size, List.length_cons, List.length_append]
    split
    · omega
    · simp; omega
theorem placesF_deep : ∀ (f : Fo) (d : Nat) (b : Bool), ∀ x ∈ placesF f d b, 0 < x.ps.len → x.d + 1 ≤ d + f.depth
  | .nil, _, _, x, hx, _ => by simp [placesF] at hx
  | .cons k t n ps r, d, b, x, hx, hp => by
    rw [Fo.depth_parts]
    simp only [placesF, List.mem_cons, List.mem_append] at hx
    rcases hx with rfl | hx | hx
    · simp only at hp ⊢
      rw [if_neg (by omega)]; omega
    · split at hx
      · have := placesF_deep ps (d + 1) false x hx hp
        have : ps.len ≠ 0 := fun e => by
          have e' := Fo.eq_nil_of_len e
          subst e'
          simp [placesF] at hx
        rw [if_neg this]; omega
      · simp at hx
    · have := placesF_deep r d _ x hx hp
      omega
theorem placesF_all : ∀ (f : Fo) (d : Nat) (b : Bool), d ≤ 16 → (∀ x ∈ placesF f d b, ¬ (16 ≤ x.d ∧ 0 < x.ps.len)) → (placesF f d b).length = f.size ∧ f.depth + d ≤ 16
  | .nil, _, _, hd, _ => ⟨rfl, by simp [Fo.depth]; omega⟩
  | .cons k t n ps r, d, b, hd, h => by
    rw [Fo.depth_parts]
    simp only [placesF, if_pos hd] at h ⊢
    have h1 : ¬ (16 ≤ d ∧ 0 < ps.len) := h ⟨k, t, n, ps, d, b⟩ (by simp)
    have i2 := placesF_all r d (decide (k = 1)) hd fun x hx => h x (by simp [hx])
    by_cases hp : ps.len = 0
    · have e' := Fo.eq_nil_of_len hp
      subst e'
      simp only [placesF, List.nil_append, List.length_cons, Fo.size, Fo.len_nil, if_true]
      omega
    · have i1 := placesF_all ps (d + 1) false (by omega) fun x hx => h x (by simp [hx])
      rw [if_neg hp]
      simp only [List.length_cons, List.length_append, Fo.size]
      omega
def errP (x : Pl) : Int := singleF x.k x.t x.n x.ps x.b (decide (0 < x.d))
def errs : List Pl → Int
  | [] => 0
  | x :: l => if errP x ≠ 0 then errP x else errs l
theorem errs_app (l m : List Pl) : errs (l ++ m) = if errs l ≠ 0 then errs l else errs m := by
  induction l with
  | nil => simp [errs]
  | cons x l ih =>
    simp only [List.cons_append, errs, ih]
    by_cases h : errP x ≠ 0
    · simp [h]
    · simp [h]
theorem errs_places : ∀ (f : Fo) (d : Nat) (b : Bool), f.depth + d ≤ 16 → errs (placesF f d b) = allF f b (decide (0 < d))
  | .nil, _, _, _ => rfl
  | .cons k t n ps r, d, b, h => by
    rw [Fo.depth_parts] at h
    have i2 := errs_places r d (decide (k = 1)) (by omega)
    simp only [placesF, allF]
    rw [if_pos (by omega)]
    simp only [errs, errs_app, i2]
    by_cases hp : ps.len = 0
    · have e' := Fo.eq_nil_of_len hp
      subst e'
      simp only [placesF, errs, allF]; rfl
    · rw [if_neg hp] at h
      rw [errs_places ps (d + 1) false (by omega)]
      simp only [Nat.zero_lt_succ, decide_true]
      rfl
theorem errs_stop {pre l : List Pl} {x : Pl} (h : pre ++ [x] <+: l) (hp : errs pre = 0) (hx : errP x ≠ 0) : errs l = errP x := by
  obtain ⟨t, rfl⟩ := h
  rw [errs_app, errs_app, hp]
  simp [errs, hx]
end Go.Proofs
namespace Go.Proofs
open Go Go.Sh Go.RowKit

theorem spend_spec {R : Ending → World → Prop} {W : World} {b4 : Nat} {x : Int} (hb : Blk W b4 [.int .i64 x] 3) (hx : -9223372036854775807 ≤ x ∧ x ≤ 9223372036854775807)
    (h : ∀ W', Blk W' b4 [.int .i64 (x - 1)] 3 → Chg (· = b4) W W' → R (.returned (.bool (decide (0 ≤ x - 1)))) W') : Calls Tryz.prog F_transcript_Check_1 ⟨[.pointer (some ⟨b4, 0, none⟩)]⟩ W R := by
  apply c_transcript_Check_1
  refine dr_ok ⟨x, hb.cell 0, dr_ok ?_⟩
  rw [wrap_id (by omega)]
  exact stL_one hb rfl fun W' h1 h2 h3 => dr_ok ⟨x - 1, h1.cell 0, h W' h1 h2⟩

def thirdQ (a : Option Addr) (n c b2 : Nat) (R : Ending → World → Prop) (ds : List Deferred) (W' : World) : Prop :=
  Calls Tryz.prog 100 ⟨[.slice a n c]⟩ W' fun (e39 : Ending) (w40 : World) =>
  ∃ (x41 : List UInt8), e39 = .returned (.string ⟨⟨x41⟩⟩) ∧ (br (decide ((65536 : Int) < ((List.length x41 : Int)))) (stL w40 (⟨b2, 0, none⟩ : Addr) 0 [.int .i64 4] fun w42 =>
  retD ds w42 fun w43 =>
  ∃ (x44 : Int), World.cell? w43 (⟨b2, 0, none⟩ : Addr) = some (.int .i64 x44) ∧ (R (.returned (.int .i64 x44)) w43)) (stL w40 (⟨b2, 0, none⟩ : Addr) 0 [.int .i64 0] fun w45 =>
  retD ds w45 fun w46 =>
  ∃ (x47 : Int), World.cell? w46 (⟨b2, 0, none⟩ : Addr) = some (.int .i64 x47) ∧ (R (.returned (.int .i64 x47)) w46)))
def secondQ (a : Option Addr) (n c b2 : Nat) (R : Ending → World → Prop) (ds : List Deferred) (W : World) : Prop :=
  Calls Tryz.prog 46 ⟨[.slice a n c]⟩ W fun (e33 : Ending) (w34 : World) =>
  ∃ (x35 : Fn) (x35a : Array Value) (x35b : Array Value), e33 = .returned (.func x35 x35a x35b) ∧ (∀ base36 : Env, RFw Tryz.prog none 39 (cdAt Tryz.f43 [1, 1, 1, 1, 0, 1, 2]) (upd (upd (upd base36 28 (.func x35 x35a x35b)) 2 (.pointer (some ⟨b2, 0, none⟩))) 0 (.slice a n c)) ds w34 0
    (fun ds37 w38 => thirdQ a n c b2 R ds37 w38) (fun ds37 w38 =>
  retD ds37 w38 fun w48 =>
  ∃ (x49 : Int), World.cell? w48 (⟨b2, 0, none⟩ : Addr) = some (.int .i64 x49) ∧ (R (.returned (.int .i64 x49)) w48)) (fun _ _ => False))

set_option maxRecDepth 20000 in
theorem Check22_spec {R : Ending → World → Prop} {S : Nat → Prop} {w : World} {a : Option Addr} {n c : Nat} (f : Fo) (hs : small f) (hf0 : SlF S w a n f) (hF : Forms w)
    (h : ∀ w', Ext w w' → R (.returned (.int .i64 (checkT f))) w') : Calls Tryz.prog F_transcript_Check ⟨[.slice a n c]⟩ w R := by
  apply c_transcript_Check
  refine al_intro fun b2 w1 hb2 B2 e1 s1 => ?_
  refine al_intro fun b4 w3 hb4 B4 e3 s3 => ?_
  refine stL_one B4 rfl fun w4 B4 hc4 s4 => ?_
  refine al_intro fun b7 w5 hb7 B7 e5 s5 => ?_
  refine stL_one B7 rfl fun w6 B7 hc6 s6 => ?_
  have z1 := e1.size
  have E3 := ext_trans e1 e3
  have E4 : Ext w w4 := ext_chgS E3 hc4 fun k hk => by omega
  have E6 : Ext w w6 := ext_chgS (ext_trans E4 e5) hc6 fun k hk => by omega
  have B2 := hc6.blk ((hc4.blk (B2.ext e3) (by omega)).ext e5) (by omega)
  have B4 := hc6.blk (B4.ext e5) (by omega)
  refine places_spec fun bs w7 Bs e7 hbs => ⟨_, _, _, rfl, fun base => ?_⟩
  have E7 := ext_trans E6 e7
  have B2 := B2.ext e7
  have B4 := B4.ext e7
  have B7 := B7.ext e7
  have l2 := B2.lt
  have l4 := B4.lt
  have l7 := B7.lt
  have ls := Bs.lt
  have hf : SlF (fun k => k < w.heap.size) w a n f := hf0.imp fun k _ hl => hl
  have z6 := E6.size
  have z7 := E7.size
  have hfw7 : SlF (fun k => k < w.heap.size ∨ k = bs) w7 a n f := (hf.ext E7).imp fun k hk _ => .inl hk
  -- the second range, once the first has ended
  have second : ∀ (D : Nat) (W : World), w7.heap.size ≤ D → D < W.heap.size → W.heap[D]? = some (.deferred (some [])) → Blk W b2 [.int .i64 0] 32 → Ext w W → (f.size ≤ 4096 ∧ f.depth ≤ 16) → secondQ a n c b2 R [{ target := .collected D, args := #[] }] W := by
    intro D W hD1 hD2 hD3 B2 EW hok
    have hfW := hf.ext EW
    have hck : checkT f = if allF f false false ≠ 0 then allF f false false else if 65536 < (printF f).length then 4 else 0 := by unfold checkT; rw [if_pos hok]
    have her := errs_places f 0 false (by omega)
    simp only [Nat.lt_irrefl, decide_false] at her
    rw [hck, ← her] at h
    refine places_spec fun bt v Bt ev hbt => ⟨_, _, _, rfl, fun base => ?_⟩
    have EV := ext_trans EW ev
    have zv := ev.size
    have zW := EW.size
    have l2 := B2.lt
    have hwz := E7.size
    rw [cd_transcript_Check_2]
    have lt := Bt.lt
    have hD4 : v.heap[D]? = some (.deferred (some [])) := (ev.block D hD2).trans hD3
    refine RFw_lawR anA_transcript_Check_2 anB_transcript_Check_2 (gf := F_transcript_places_1) rfl (by kernel_rfl) (xs := placesF f 0 false) (E := PlE (fun k => k < w.heap.size ∨ k = bt) v) (Rd := fun k => k < w.heap.size ∨ k = bt)
      (fun v1 he => (places_iter f hs bt v1 (Bt.ext he) ((hf.ext (ext_trans EV he)).imp fun k hk _ => .inl hk) (.inr rfl)).mono ?_) (fun y vs hE => by obtain ⟨a', c', rfl, _⟩ := hE; rfl) (by decide) (fun k hk => by omega) (· = b2) (fun k hk => by omega)
      (fun pre W' => Blk W' b2 [.int .i64 0] 32 ∧ errs pre = 0 ∧ Ext w W' ∧ W'.heap[D]? = some (.deferred (some []))) (fun W' => Blk W' b2 [.int .i64 (errs (placesF f 0 false))] 32 ∧ errs (placesF f 0 false) ≠ 0 ∧ Ext w W' ∧ W'.heap[D]? = some (.deferred (some []))) (fun _ => False)
      ?_ ?_ (fun _ _ h => h.elim) ⟨B2.ext ev, rfl, EV, hD4⟩ ?_ ?_ ?_ (fun _ _ _ _ _ h => h.elim)
    · rintro x vs ⟨a', c', rfl, hsl⟩
      exact ⟨a', c', rfl, hsl.keep' fun k hk hl => ⟨hk, by omega, ((he.block k (by omega))).symm⟩⟩
    · rintro pre W1 W2 ⟨g1, g2, g3, g4⟩ hc
      exact ⟨hc.blk g1 (by omega), g2, ext_chg g3 hc (by omega), (hc.block D (Array.getElem?_eq_some_iff.1 g4).1 (by omega)).trans g4⟩
    · rintro W1 W2 ⟨g1, g2, g3, g4⟩ hc
      exact ⟨hc.blk g1 (by omega), g2, ext_chg g3 hc (by omega), (hc.block D (Array.getElem?_eq_some_iff.1 g4).1 (by omega)).trans g4⟩
    · rintro pre ⟨k, t, m, ps, d, b⟩ vs W1 l ⟨a', c', rfl, hsl⟩ hpre hl1 hl2 ⟨g1, g2, g3, g4⟩
      refine Eq.mpr (er_transcript_Check_2 base _ _ _ _ _ _ _ _ _ _ _ _ _ _ _ _ _ _ _ _) ?_
      refine al_stL (by simp) (by intro u hu; simp only [List.mem_cons, List.not_mem_nil, or_false] at hu; rcases hu with rfl | rfl | rfl | rfl | rfl | rfl <;> rfl) fun bp W2 hbp Bp ep sp => ?_
      refine ⟨ep, fun W3 hU => ?_⟩
      have Bp3 := upd_blk hU Bp (by omega)
      have P3 : ∀ j, W3.cell? ((⟨bp, 0, none⟩ : Addr).add j) = [Value.int .i64 k, .string ⟨⟨t⟩⟩, .int .i64 m, .slice a' ps.len c', .int .i64 (d : Int), .bool b][j]? := fun j => by rw [add_none, Bp3.cell]; simp
      have E3 : Ext w W3 := ext_chg (ext_trans g3 ep) (upd_chg hU (Nat.le_refl l)) (by omega)
      have zz := ep.size
      have hD5 : W3.heap[D]? = some (.deferred (some [])) := by
        rw [hU.block D (by omega), ep.block D (Array.getElem?_eq_some_iff.1 g4).1]; exact g4
      have g1' := upd_blk hU (g1.ext ep) (by omega)
      refine ⟨k, P3 0, t, P3 1, m, P3 2, a', ps.len, c', P3 3, d, P3 4, b, P3 5, right_tr_spec (hF.ext E3) k t m a' c' ps d b fun W4 e4 => ⟨_, rfl, br_split (fun q => ?_) (fun q => ?_)⟩⟩
      · have hes := errs_stop hpre g2 (x := ⟨k, t, m, ps, d, b⟩) q
        refine dr_ok (stL_one (g1'.ext e4) rfl fun W5 q1 q2 q3 => ?_)
        have l2' := (g1'.ext e4).lt
        refine ⟨(Chg.of_ext e4).trans q2, ?_, ?_, ext_chgS (ext_trans E3 e4) q2 fun k hk => by omega, ?_⟩
        · rw [hes]; exact q1
        · rw [hes]; exact q
        · exact (q2.block D (Nat.lt_of_lt_of_le (Array.getElem?_eq_some_iff.1 hD5).1 e4.size) (by omega)).trans ((e4.block D (Array.getElem?_eq_some_iff.1 hD5).1).trans hD5)
      · refine ⟨Chg.of_ext e4, g1'.ext e4, ?_, ext_trans E3 e4, (e4.block D (Array.getElem?_eq_some_iff.1 hD5).1).trans hD5⟩
        rw [errs_app, g2]
        simp only [errs, ne_eq, not_true, if_false]
        exact if_neg (fun hh => q hh)
    · rintro D' W1 hD1' hD2' hD3' ⟨g1, g2, g3, g4⟩
      rw [g2] at h
      simp only [ne_eq, not_true, if_false] at h
      have hgood : good f := all_good f _ _ (by rw [← her]; exact g2)
      refine marked_spec f (by omega) hgood (hf.ext g3) (hF.ext g3) fun W2 e2 => ⟨_, rfl, ?_⟩
      have hne : D ≠ D' := by omega
      have tl : ∀ x : Int, checkT f = x → (stL W2 (⟨b2, 0, none⟩ : Addr) 0 [.int .i64 x] fun w42 =>
          retD [{ target := .collected D', args := #[] }, { target := .collected D, args := #[] }] w42 fun w43 => ∃ (x44 : Int), World.cell? w43 (⟨b2, 0, none⟩ : Addr) = some (.int .i64 x44) ∧ (R (.returned (.int .i64 x44)) w43)) := by
        intro x hx
        refine stL_one (g1.ext e2) rfl fun W3 q1 q2 q3 => ?_
        have l2' := (g1.ext e2).lt
        have dl := (Array.getElem?_eq_some_iff.1 g4).1
        have dl' := (Array.getElem?_eq_some_iff.1 hD3').1
        have z2 := e2.size
        have d1 : W3.heap[D']? = some (.deferred (some [])) := (q2.block D' (by omega) (by omega)).trans ((e2.block D' dl').trans hD3')
        have d2 : W3.heap[D]? = some (.deferred (some [])) := (q2.block D (by omega) (by omega)).trans ((e2.block D dl).trans g4)
        refine ⟨D', rfl, d1, ?_⟩
        refine retD_one ((World.putObj_heap_other hne).trans d2) ⟨x, (blk_put (blk_put q1 (by omega) _) (by omega) _).cell 0, ?_⟩
        have := h _ (ext_put (ext_put (ext_chgS (ext_trans g3 e2) q2 fun k hk => by omega) (D := D') (by omega) (.deferred none)) (D := D) (by omega) (.deferred none))
        rw [hck, if_neg (by rw [← her, g2]; simp)] at hx
        rw [hx] at this
        exact this
      refine br_split (fun q => tl 4 ?_) (fun q => tl 0 ?_)
      · rw [hck, ← her, g2]; simp only [ne_eq, not_true, if_false]; rw [if_pos (by omega)]
      · rw [hck, ← her, g2]; simp only [ne_eq, not_true, if_false]; rw [if_neg (by omega)]
    · rintro D' W1 hD1' hD2' hD3' ⟨g1, g2, g3, g4⟩
      rw [if_pos g2] at h
      have hne : D ≠ D' := by omega
      refine ⟨D', rfl, hD3', ?_⟩
      refine retD_one ((World.putObj_heap_other hne).trans g4) ⟨_, (blk_put (blk_put g1 (by omega) _) (by omega) _).cell 0, ?_⟩
      exact h _ (ext_put (ext_put g3 (D := D') (by omega) (.deferred none)) (D := D) (by omega) (.deferred none))
  rw [cd_transcript_Check_1]
  refine RFw_lawR anA_transcript_Check_1 anB_transcript_Check_1 (gf := F_transcript_places_1) rfl (by kernel_rfl) (xs := placesF f 0 false) (E := PlE (fun k => k < w.heap.size ∨ k = bs) w7) (Rd := fun k => k < w.heap.size ∨ k = bs)
    (fun v1 he => (places_iter f hs bs v1 (Bs.ext he) ((hf.ext (ext_trans E7 he)).imp fun k hk _ => .inl hk) (.inr rfl)).mono ?_) (fun y vs hE => by obtain ⟨a', c', rfl, _⟩ := hE; rfl) (by decide) (fun k hk => by omega) (fun k => k = b2 ∨ k = b4) (fun k hk => by omega)
    (fun pre W' => Blk W' b2 [.int .i64 0] 32 ∧ Blk W' b4 [.int .i64 (4096 - (pre.length : Int))] 3 ∧ Blk W' b7 [.func (.func 98) ⟨[]⟩ ⟨[.pointer (some ⟨b4, 0, none⟩)]⟩] 27 ∧ pre.length ≤ 4096 ∧ (∀ x ∈ pre, ¬ (16 ≤ x.d ∧ 0 < x.ps.len)) ∧ Ext w W')
    (fun W' => Blk W' b2 [.int .i64 4] 32 ∧ ¬ (f.size ≤ 4096 ∧ f.depth ≤ 16) ∧ Ext w W') (fun _ => False)
    ?_ ?_ (fun _ _ h => h.elim) ⟨B2, (by simpa using B4), B7, by simp, by simp, E7⟩ ?_ ?_ ?_ (fun _ _ _ _ _ h => h.elim)
  · rintro x vs ⟨a', c', rfl, hsl⟩
    exact ⟨a', c', rfl, hsl.keep' fun k hk hl => ⟨hk, by omega, ((he.block k (by omega))).symm⟩⟩
  · rintro pre W1 W2 ⟨g1, g2, g3, g4, g5, g6⟩ hc
    exact ⟨hc.blk g1 (by omega), hc.blk g2 (by omega), hc.blk g3 (by omega), g4, g5, ext_chg g6 hc (by omega)⟩
  · rintro W1 W2 ⟨g1, g2, g3⟩ hc
    exact ⟨hc.blk g1 (by omega), g2, ext_chg g3 hc (by omega)⟩
  · rintro pre ⟨k, t, m, ps, d, b⟩ vs W1 l ⟨a', c', rfl, hsl⟩ hpre hl1 hl2 ⟨g1, g2, g3, g4, g5, g6⟩
    refine Eq.mpr (er_transcript_Check_1 base _ _ _ _ _ _ _ _ _ _ _ _ _ _ _ _ _ _ _ _ _) ?_
    refine al_stL (by simp) (by intro u hu; simp only [List.mem_cons, List.not_mem_nil, or_false] at hu; rcases hu with rfl | rfl | rfl | rfl | rfl | rfl <;> rfl) fun bp W2 hbp Bp ep sp => ?_
    refine ⟨ep, fun W3 hU => ?_⟩
    have Bp3 := upd_blk hU Bp (by omega)
    have E3 : Ext w W3 := ext_chg (ext_trans g6 ep) (upd_chg hU (Nat.le_refl l)) (by omega)
    have zz := ep.size
    have h1 := upd_blk hU (g1.ext ep) (by omega)
    have h2 := upd_blk hU (g2.ext ep) (by omega)
    have h3 := upd_blk hU (g3.ext ep) (by omega)
    have lb4 := h2.lt
    refine dr_ok ⟨.func 98, ⟨[]⟩, ⟨[.pointer (some ⟨b4, 0, none⟩)]⟩, by rw [h3.cell]; rfl, by kernel_rfl, spend_spec h2 (by omega) fun W4 k4 kc => ⟨_, rfl, ?_⟩⟩
    have k1 := kc.blk h1 (by omega)
    have k3 := kc.blk h3 (by omega)
    have kp := kc.blk Bp3 (by omega)
    have E4 : Ext w W4 := ext_chgS E3 kc fun k hk => by omega
    have l2' := k1.lt
    have kc' : Chg (fun k => k = b2 ∨ k = b4) W3 W4 := kc.mono fun k _ h => .inr h
    have stop : ¬ (f.size ≤ 4096 ∧ f.depth ≤ 16) → dr (some ⟨b2, 0, none⟩) fun p72 => stL W4 p72 0 [.int .i64 4] fun w71 => Chg (fun k => k = b2 ∨ k = b4) W3 w71 ∧ Blk w71 b2 [.int .i64 4] 32 ∧ ¬ (f.size ≤ 4096 ∧ f.depth ≤ 16) ∧ Ext w w71 := by
      intro hno
      refine dr_ok (stL_one k1 rfl fun W5 q1 q2 q3 => ?_)
      exact ⟨kc'.trans (q2.mono fun k _ h => .inl h), q1, hno, ext_chgS E4 q2 fun k hk => by omega⟩
    have hplen : pre.length + 1 ≤ (placesF f 0 false).length := by
      have := hpre.length_le; simpa using this
    have hpl := placesF_len f 0 false
    have go : ¬ (16 ≤ d ∧ 0 < ps.len) → pre.length + 1 ≤ 4096 → Chg (fun k => k = b2 ∨ k = b4) W3 W4 ∧ Blk W4 b2 [.int .i64 0] 32 ∧ Blk W4 b4 [.int .i64 (4096 - ((pre ++ [(⟨k, t, m, ps, d, b⟩ : Pl)]).length : Int))] 3 ∧ Blk W4 b7 [.func (.func 98) ⟨[]⟩ ⟨[.pointer (some ⟨b4, 0, none⟩)]⟩] 27 ∧ (pre ++ [(⟨k, t, m, ps, d, b⟩ : Pl)]).length ≤ 4096 ∧ (∀ x ∈ (pre ++ [(⟨k, t, m, ps, d, b⟩ : Pl)]), ¬ (16 ≤ x.d ∧ 0 < x.ps.len)) ∧ Ext w W4 := by
      intro hn1 hn2
      refine ⟨kc', k1, ?_, k3, by simpa using hn2, ?_, E4⟩
      · have e : (4096 - ((pre ++ [(⟨k, t, m, ps, d, b⟩ : Pl)]).length : Int)) = 4096 - (pre.length : Int) - 1 := by simp; omega
        rw [e]; exact k4
      · intro x hx
        rw [List.mem_append, List.mem_singleton] at hx
        rcases hx with hx | rfl
        · exact g5 x hx
        · exact hn1
    refine br_cases (fun q => stop ?_) (fun q => ?_)
    · simp only [Bool.not_eq_true', decide_eq_false_iff_not] at q
      omega
    · simp only [Bool.not_eq_false', decide_eq_true_eq] at q
      refine ⟨d, by rw [add_none, kp.cell]; rfl, br_split (fun q2 => ⟨a', ps.len, c', by rw [add_none, add_none, kp.cell]; rfl, br_split (fun q3 => stop ?_) (fun q3 => go (by omega) (by omega))⟩) (fun q2 => go (by omega) (by omega))⟩
      have := placesF_deep f 0 false ⟨k, t, m, ps, d, b⟩ (mem_of_prefix hpre) (by simp only; omega)
      simp only at this
      omega
  · rintro D W hD1 hD2 hD3 ⟨g1, g2, g3, g4, g5, g6⟩
    have hall := placesF_all f 0 false (by omega) g5
    exact second D W (by omega) hD2 hD3 g1 g6 ⟨by omega, by omega⟩
  · rintro D W hD1 hD2 hD3 ⟨g1, g2, g3⟩
    refine retD_one hD3 ⟨4, (blk_put g1 (by omega) _).cell 0, ?_⟩
    have e : checkT f = 4 := by unfold checkT; rw [if_neg g2]
    rw [← e]
    exact h _ (ext_put g3 (by omega) _)
end Go.Proofs
namespace Go.Sh
open Go Go.RowKit
section
variable {S : Nat → Prop} {w w' : World} {e : TypeId} {B : Nat} {a : Option Addr} {n c : Nat}
/- the text of the last node of a list under way, and writing it -/
theorem OwnF.last {pre : Fo} {k : Int} {t : List UInt8} {m : Int} {ps : Fo} (h : OwnF e S B w a n c (pre.app (.one k t m ps))) :
    ∃ q : Addr, (∀ K : Addr → Prop, K q → idx a n (pre.len : Int) 4 K) ∧ w.cell? (q.add 0) = some (.int .i64 k) ∧ w.cell? (q.add 1) = some (.string ⟨⟨t⟩⟩) ∧
      ∀ (t' : List UInt8) (K : World → Prop), (∀ w', OwnF e S B w' a n c (pre.app (.one k t' m ps)) → Chg (Sh.bk a) w w' → K w') → stL w (q.add 1) 0 [.string ⟨⟨t'⟩⟩] K := by
  obtain ⟨h0, xs, h1, h2⟩ := h
  obtain ⟨us, ys, rfl, f1, a', c', zs, vs', rfl, g1, g2, g3⟩ := h2.split
  have hvs : vs' = [] := g3
  subst hvs
  have hl := f1.len
  have hn : n = pre.len + 1 := by rw [h0]; simp [Fo.one]
  rcases h1.2 with h | ⟨g, cap, cur, e1, e2, e3, e4, e5, e6, e7⟩
  · omega
  obtain ⟨rfl, _, rfl⟩ : a = some ⟨g, 0, none⟩ ∧ True ∧ c = cap := by simpa using e1
  have hB : Blk w g cur.toList e := e3
  have hcl : cur.toList.length = c * 4 := by simpa using e6
  have hxl : n * 4 ≤ cur.toList.length := by rw [hcl]; omega
  have hget : ∀ j, j < n * 4 → cur.toList[j]? = (us ++ [.int .i64 k, .string ⟨⟨t⟩⟩, .int .i64 m, .slice a' ps.len c'])[j]? := fun j hj => by
    rw [← e7, List.getElem?_take, if_pos hj]
  have key : ∀ j, j < 4 → w.cell? ((⟨g, pre.len * 4, none⟩ : Addr).add j) = [Value.int .i64 k, .string ⟨⟨t⟩⟩, .int .i64 m, .slice a' ps.len c'][j]? := fun j hj => by
    rw [add_none, hB.cell, hget _ (by omega), List.getElem?_append_right (by omega), show pre.len * 4 + j - us.length = j by omega]
  refine ⟨⟨g, pre.len * 4, none⟩, fun K hK => ⟨by omega, by omega, ?_⟩, key 0 (by omega), key 1 (by omega), fun t' K hK => ?_⟩
  · show K _
    rw [add_none, Int.toNat_natCast, Nat.zero_add]; exact hK
  rw [add_none]
  refine stL_blk hB (by simp; omega) (by intro u hu; simp only [List.mem_singleton] at hu; subst hu; rfl) fun w' b1 b2 b3 b4 b5 b6 => ?_
  have hc : Chg (Sh.bk (some (⟨g, 0, none⟩ : Addr))) w w' := ⟨b4, b5, b6, by omega, fun k' _ hk => b2 k' fun e => hk (by simp [Sh.bk, e])⟩
  refine hK w' ⟨by simp [Fo.one]; exact hn, us ++ [.int .i64 k, .string ⟨⟨t'⟩⟩, .int .i64 m, .slice a' ps.len c'], ⟨by simp; omega, .inr ⟨g, c, ⟨putAt cur.toList (pre.len * 4 + 1 + 0) [.string ⟨⟨t'⟩⟩]⟩, rfl, e2, b1, e4, e5, ?_, ?_⟩⟩, ?_⟩ hc
  · simp [putAt]; omega
  · have hx : n * 4 = us.length + 4 := by omega
    simp only [putAt]
    show ((cur.toList.set (pre.len * 4 + 1 + 0) (.string ⟨⟨t'⟩⟩)).take (n * 4)) = _
    rw [List.take_set, e7, show pre.len * 4 + 1 + 0 = us.length + 1 by omega, List.set_append_right _ _ (by omega)]
    simp
  · have hs : ∀ j, ((S j ∨ B ≤ j) ∧ ¬ Sh.bk (some (⟨g, 0, none⟩ : Addr)) j) → j < w.heap.size → ((S j ∨ B ≤ j) ∧ ¬ Sh.bk (some (⟨g, 0, none⟩ : Addr)) j) ∧ w'.heap[j]? = w.heap[j]? := fun j hj hlt => ⟨hj, hc.block j hlt hj.2⟩
    exact (f1.keep hs hc.size).app ⟨a', c', zs, [], rfl, g1.keep hs hc.size, g2.keep hs hc.size, rfl⟩
end
end Go.Sh
namespace Go.Proofs
open Go Go.Sh Go.RowKit

def addL : Fo → List UInt8 → Fo
  | .nil, _ => .nil
  | .cons k t n ps r, s => match r with
    | .nil => .cons k (t ++ s) n ps .nil
    | .cons k' t' n' ps' r' => .cons k t n ps (addL (.cons k' t' n' ps' r') s)
def lastT : Fo → Bool
  | .nil => false
  | .cons k _ _ _ r => match r with
    | .nil => decide (k = 1)
    | .cons k' t' n' ps' r' => lastT (.cons k' t' n' ps' r')
theorem addL_snoc (pre : Fo) (k t n ps s) : addL (pre.app (.one k t n ps)) s = pre.app (.one k (t ++ s) n ps) := by
  induction pre with
  | nil => rfl
  | cons k1 t1 n1 ps1 r _ ih =>
    cases r with
    | nil => rfl
    | cons k2 t2 n2 ps2 r2 => simp only [Fo.cons_app, addL] at ih ⊢; rw [ih]
theorem lastT_snoc (pre : Fo) (k t n ps) : lastT (pre.app (.one k t n ps)) = decide (k = 1) := by
  induction pre with
  | nil => rfl
  | cons k1 t1 n1 ps1 r _ ih =>
    cases r with
    | nil => rfl
    | cons k2 t2 n2 ps2 r2 => simp only [Fo.cons_app, lastT] at ih ⊢; rw [ih]
theorem Fo_view : ∀ (f : Fo), f = .nil ∨ ∃ (pre : Fo) (k : Int) (t : List UInt8) (n : Int) (ps : Fo), f = pre.app (.one k t n ps)
  | .nil => .inl rfl
  | .cons k t n ps r => .inr (by
    rcases Fo_view r with rfl | ⟨pre, k1, t1, n1, ps1, rfl⟩
    · exact ⟨.nil, k, t, n, ps, rfl⟩
    · exact ⟨.cons k t n ps pre, k1, t1, n1, ps1, rfl⟩)
def tlen : Fo → Nat
  | .nil => 0
  | .cons _ t _ ps r => t.length + tlen ps + tlen r
theorem tlen_app (f g : Fo) : tlen (f.app g) = tlen f + tlen g := by
  induction f with
  | nil => simp [tlen]
  | cons k t n ps r _ ih => simp only [Fo.cons_app, tlen, ih]; omega
def snocM (out : Fo) (k : Int) (t : List UInt8) (n : Int) (ps : Fo) : Fo :=
  if k = 1 ∧ t = [] then out else if k = 1 ∧ lastT out = true then addL out t else out.app (.one k t n ps)
def mgo : Fo → Fo → Fo
  | .nil, out => out
  | .cons k t n ps r, out => mgo r (snocM out k t n (mgo ps .nil))
def mergeF (f : Fo) : Fo := mgo f .nil

theorem slT_node : SlT Tryz.prog 22 64 4 56 (.agg #[.int .i64 0, .string ⟨⟨[]⟩⟩, .int .i64 0, .slice none 0 0]) := ⟨by kernel_rfl, by kernel_rfl, rfl, by decide⟩
theorem own_parts {S : Nat → Prop} {e : TypeId} {B Z : Nat} {W W0 : World} {a a' : Option Addr} {n c m : Nat} {f ps : Fo} (h : SlF (fun k => S k ∨ Z ≤ k) W a' m ps) (hS : ∀ k, S k → k < B) (ho : OwnF e S B W0 a n c f) (hZ : W0.heap.size ≤ Z) (hB : B ≤ W0.heap.size) :
    SlF (fun k => (S k ∨ B ≤ k) ∧ ¬ bk a k) W a' m ps :=
  h.imp fun k hk _ => hk.elim (fun h => ⟨.inl h, fun hb => by have := (ho.bk hb).1; have := hS k h; omega⟩) (fun h => ⟨.inr (by omega), fun hb => by have := (ho.bk hb).2; omega⟩)
theorem snoc_len (out : Fo) (k t n ps) : (snocM out k t n ps).len ≤ out.len + 1 := by
  unfold snocM
  split
  · omega
  · split
    · rcases Fo_view out with rfl | ⟨pre, k1, t1, n1, ps1, rfl⟩
      · simp [addL]
      · rw [addL_snoc]; simp [Fo.one]
    · simp [Fo.one]
theorem snoc_last {out : Fo} {k t n ps} {L : Nat} (h : ∀ pre k t m ps, out = Fo.app pre (.one k t m ps) → t.length ≤ L) : ∀ (pre : Fo) (k1 : Int) (t1 : List UInt8) (m1 : Int) (ps1 : Fo), snocM out k t n ps = pre.app (.one k1 t1 m1 ps1) → t1.length ≤ L + t.length := by
  intro pre k1 t1 m1 ps1 he
  have inj : ∀ {p q : Fo} {k k' t t' n n' ps ps'}, p.app (.one k t n ps) = q.app (.one k' t' n' ps') → t = t' := by
    intro p
    induction p with
    | nil =>
      intro q k k' t t' n n' ps ps' h
      cases q with
      | nil => simp [Fo.one] at h; exact h.2.1
      | cons a b c d e => simp only [Fo.nil_app, Fo.one, Fo.cons_app, Fo.cons.injEq] at h; have := congrArg Fo.len h.2.2.2.2; simp [Fo.one] at this
    | cons a b c d e _ ih =>
      intro q k k' t t' n n' ps ps' h
      cases q with
      | nil => simp only [Fo.nil_app, Fo.one, Fo.cons_app, Fo.cons.injEq] at h; have := congrArg Fo.len h.2.2.2.2; simp [Fo.one] at this
      | cons a' b' c' d' e' => simp only [Fo.cons_app, Fo.cons.injEq] at h; exact ih h.2.2.2.2
  unfold snocM at he
  split at he
  · have := h _ _ _ _ _ he; omega
  · split at he
    · rcases Fo_view out with rfl | ⟨p2, k2, t2, n2, ps2, rfl⟩
      · simp [addL] at he
        have := congrArg Fo.len he; simp [Fo.one] at this
      · rw [addL_snoc] at he
        have e := inj he
        have := h p2 k2 t2 n2 ps2 rfl
        rw [← e]; simp; omega
    · have e := inj he
      rw [← e]; omega
theorem wrap_pred {n : Nat} (h : 0 < n) (h2 : n ≤ 4611686018427387904) : IntKind.i64.wrap ((n : Int) - 1) = ((n - 1 : Nat) : Int) := by rw [wrap_id (by omega)]; omega

theorem Merge_spec : ∀ (f : Fo) {R : Ending → World → Prop} {S : Nat → Prop} {w : World} {a : Option Addr} {n c : Nat}, f.size ≤ 1000000000 → tlen f ≤ 4611686018427387904 → SlF S w a n f →
    (∀ a' n' c' w', SlF (fun k => S k ∨ w.heap.size ≤ k) w' a' n' (mergeF f) → Ext w w' → R (.returned (.slice a' n' c')) w') → Calls Tryz.prog F_transcript_Merge ⟨[.slice a n c]⟩ w R := by
  intro f
  induction hz : f.size using Nat.strongRecOn generalizing f with
  | _ z ih =>
  intro R S w a n c hs ht hf0 h
  apply c_transcript_Merge
  have hn := hf0.1
  have hfl := f.len_le_size
  have hf : SlF (fun k => S k ∧ k < w.heap.size) w a n f := hf0.imp fun k hk hl => ⟨hk, hl⟩
  refine ⟨fun oa on oc i W m => ∃ (p r out : Fo), f = p.app r ∧ i = p.len ∧ m = r.len ∧ OwnF 64 (fun k => S k ∧ k < w.heap.size) w.heap.size W oa on oc out ∧ out.len ≤ p.len ∧ (∀ pre k t m ps, out = Fo.app pre (.one k t m ps) → t.length ≤ tlen p) ∧ Ext w W ∧ mergeF f = mgo r out,
    ⟨_, .nil, f, .nil, rfl, rfl, rfl, OwnF.nil w, by simp, ?_, Below.refl _ _, rfl⟩, ?_⟩
  · intro pre k t m ps he
    have := congrArg Fo.len he; simp [Fo.one] at this
  rintro oa on oc _ W m ⟨p, r, out, hpr, rfl, rfl, hout, holen, hlast, he, heq⟩ _
  have hon := hout.len
  have hwW := he.size
  refine br_split (fun hlt => ?_) (fun hge => ?_)
  · obtain ⟨k, t, mm, ps, r, rfl⟩ := Fo.next hpr (by omega)
    have hsl := Fo.sub_len hpr
    have hsz := Fo.sub_size hpr
    have htl : tlen f = tlen p + (t.length + tlen ps + tlen r) := by rw [hpr, tlen_app]; rfl
    have e1 : f = (p.app (.one k t mm ps)).app r := by rw [Fo.app_one_app]; exact hpr
    have i1 : IntKind.i64.wrap ((p.len : Int) + 1) = ((p.app (.one k t mm ps)).len : Int) := by rw [wrap_nat (by omega)]; simp [Fo.one]
    have t1 : tlen (p.app (.one k t mm ps)) = tlen p + (t.length + tlen ps) := by rw [tlen_app]; simp [Fo.one, tlen]
    rw [mgo] at heq
    -- what every way ends in
    have done : ∀ (oa' : Option Addr) (on' oc' : Nat) (W' : World), OwnF 64 (fun k => S k ∧ k < w.heap.size) w.heap.size W' oa' on' oc' (snocM out k t mm (mgo ps .nil)) → Ext w W' →
        ∃ m42, m42 < (Fo.cons k t mm ps r).len ∧ ∃ (p' r' out' : Fo), f = p'.app r' ∧ IntKind.i64.wrap ((p.len : Int) + 1) = p'.len ∧ m42 = r'.len ∧ OwnF 64 (fun k => S k ∧ k < w.heap.size) w.heap.size W' oa' on' oc' out' ∧ out'.len ≤ p'.len ∧ (∀ pre k t m ps, out' = Fo.app pre (.one k t m ps) → t.length ≤ tlen p') ∧ Ext w W' ∧ mergeF f = mgo r' out' := by
      intro oa' on' oc' W' ho' he'
      refine ⟨r.len, by simp, _, r, _, e1, i1, rfl, ho', ?_, ?_, he', heq⟩
      · have := snoc_len out k t mm (mgo ps .nil)
        simp [Fo.one]; omega
      · intro pre k1 t1' m1 ps1 hsn
        have := snoc_last hlast pre k1 t1' m1 ps1 hsn
        omega
    obtain ⟨q, a', c', hq, hSq, hql, hN⟩ := (hf.ext he).get hpr
    refine hq _ ⟨k, hN.kind, t, hN.text, mm, hN.num, a', ps.len, c', hN.parts, ?_⟩
    refine al_stL (by simp) (by intro u hu; simp only [List.mem_cons, List.not_mem_nil, or_false] at hu; rcases hu with rfl | rfl | rfl | rfl <;> rfl) fun bx w1 hbx hBx e2 s2 => ?_
    obtain ⟨x0, x1, x2, x3⟩ := blk4 hBx
    have E1 := ext_trans he e2
    have ho1 := hout.ext e2
    have hzz := e2.size
    intro K16 hK16
    have k16 : ¬ (k = 1 ∧ t = []) → K16 w1 := by
      intro hne
      refine hK16 _ fun _ => ?_
      intro K18 hK18
      have k18 : ∀ g, g = decide (k = 1 ∧ lastT out = true) → K18 g w1 := by
        rintro _ rfl
        refine hK18 _ _ fun _ => br_split (fun g => ?_) (fun g => ?_)
        · have hsn : snocM out k t mm (mgo ps .nil) = addL out t := by unfold snocM; rw [if_neg hne, if_pos g]
          rcases Fo_view out with rfl | ⟨pre, k2, t2, n2, ps2, rfl⟩
          · simp [lastT] at g
          rw [addL_snoc] at hsn
          have hdr := ext_drew w1
          obtain ⟨q2, hq2, l0, l1, lst⟩ := (ho1.ext hdr).last
          have onl : on = pre.len + 1 := by rw [hon]; simp [Fo.one]
          have e : IntKind.i64.wrap ((on : Int) - 1) = (pre.len : Int) := by rw [wrap_pred (by omega) (by omega), onl]; simp
          have hl2 := hlast pre k2 t2 n2 ps2 rfl
          unfold drw
          rw [e]
          refine hq2 _ ⟨t2, l1, t, (blk4 (hBx.ext hdr)).2.1, by omega, hq2 _ ⟨lst _ _ fun w3 ho3 hc3 => ?_, trivial⟩⟩
          refine done _ _ _ w3 (by rw [hsn]; exact ho3) ?_
          exact ext_chgS (ext_trans E1 hdr) hc3 fun j hj => ((ho1.ext hdr).bk hj).1
        · have hsn : snocM out k t mm (mgo ps .nil) = out.app (.one k t mm (mergeF ps)) := by unfold snocM; rw [if_neg hne, if_neg g]; rfl
          refine ⟨a', ps.len, c', x3, ?_⟩
          refine ih _ (hz ▸ hsz) ps rfl (S := fun k => S k ∧ k < w.heap.size) (by omega) (by omega) (hN.sl.ext e2) fun a3 n3 c3 w3 hsl3 e3 => ⟨_, _, _, rfl, ?_⟩
          have hBx3 := hBx.ext e3
          have hn3 := hsl3.1
          rw [add_none]
          refine stL_blk hBx3 (by simp) (by intro u hu; simp only [List.mem_singleton] at hu; subst hu; rfl) fun w4 b1 b2 b3 b4 b5 b6 => ?_
          simp only [putAt, List.set] at b1
          have hc4 : Chg (· = bx) w3 w4 := ⟨b4, b5, b6, by omega, fun k _ hk => b2 k hk⟩
          have E4 : Ext w w4 := ext_chgS (ext_trans E1 e3) hc4 fun j hj => by omega
          have z3 := e3.size
          have EW4 : Ext W w4 := ext_chgS (ext_trans e2 e3) hc4 fun j hj => by omega
          have ho4 := hout.ext EW4
          have z4 := EW4.size
          have hp4 : SlF (fun j => (S j ∧ j < w.heap.size) ∨ w1.heap.size ≤ j) w4 a3 n3 (mergeF ps) := hsl3.chg hc4 fun j hj he => by
            subst he; rcases hj with hj | hj <;> omega
          subst hn3
          obtain ⟨y0, y1, y2, y3⟩ := blk4 b1
          refine ⟨k, y0, t, y1, mm, y2, a3, _, c3, y3, ?_⟩
          refine OwnF.push slT_node ho4 (by omega) (own_parts hp4 (fun j hj => hj.2) hout (by omega) (by omega)) (by omega) (by omega) fun a5 n5 c5 w5 ho5 hc5 => ?_
          refine done a5 n5 c5 w5 (by rw [hsn]; exact ho5) ?_
          exact ext_chgS E4 hc5 fun j hj => (hout.bk hj).1
      have lt : ∀ (pre : Fo) (k2 : Int) (t2 : List UInt8) (m2 : Int) (ps2 : Fo), out = pre.app (.one k2 t2 m2 ps2) → lastT out = decide (k2 = 1) ∧ on = pre.len + 1 := fun pre k2 t2 m2 ps2 hv => by
        subst hv; exact ⟨lastT_snoc .., by rw [hon]; simp [Fo.one]⟩
      rcases Fo_view out with hv | ⟨pre, k2, t2, m2, ps2, hv⟩
      · subst hv
        have : on = 0 := hon
        subst this
        refine br_split (fun g => ?_) (fun g => k18 _ (by simp [lastT]))
        rw [wrap_id (by omega)] at g; simp at g
      · obtain ⟨hl1, hl2⟩ := lt _ _ _ _ _ hv
        have e : IntKind.i64.wrap ((on : Int) - 1) = (pre.len : Int) := by rw [wrap_pred (by omega) (by omega), hl2]; simp
        rw [e]
        refine br_split (fun g => ⟨k, x0, br_split (fun g2 => ?_) (fun g2 => k18 _ (by simp [g2]))⟩) (fun g => absurd (by omega) g)
        subst hv
        obtain ⟨q2, hq2, l0, l1, lst⟩ := ho1.last
        exact hq2 _ ⟨k2, l0, k18 _ (by rw [hl1]; simp [g2])⟩
    refine ⟨k, x0, br_split (fun g => ⟨t, x1, br_split (fun g2 => ?_) (fun g2 => k16 fun hh => g2 hh.2)⟩) (fun g => k16 fun hh => g hh.1)⟩
    exact done oa on oc w1 (by unfold snocM; rw [if_pos ⟨g, g2⟩]; exact ho1) E1
  · obtain ⟨rfl, rfl⟩ := Fo.last hpr (by omega)
    rw [heq] at h
    refine h oa on oc W (hout.out.imp fun k hk _ => hk.imp (fun h => h.1) id) he
end Go.Proofs
namespace Go.Proofs
open Go Go.Sh Go.RowKit

end Go.Proofs
namespace Go.Proofs
open Go Go.Sh Go.RowKit

def brkF (k : Int) : Bool := decide (k = 2 ∨ k = 3 ∨ k = 4)
def breaksF : Fo → Fo
  | .nil => .nil
  | .cons k t n ps r => (if brkF k then .one k t n ps else breaksF ps).app (breaksF r)
def partF (k : Int) (t : List UInt8) (n : Int) (ps : Fo) : Fo := if ps.len = 0 then .nil else .one k t n ps
theorem breaksF_app (f g : Fo) : breaksF (f.app g) = (breaksF f).app (breaksF g) := by
  induction f with
  | nil => rfl
  | cons k t n ps r _ ih => simp only [Fo.cons_app, breaksF, ih, Fo.app_assoc]
theorem breaksF_size : ∀ f : Fo, (breaksF f).size ≤ f.size
  | .nil => Nat.le_refl _
  | .cons k t n ps r => by
    have h1 := breaksF_size ps
    have h2 := breaksF_size r
    simp only [breaksF, Fo.size_app, Fo.size]
    split
    · simp [Fo.one, Fo.size]; omega
    · omega

def resolveF : Fo → Int → Bool → Fo
  | .nil, _, _ => .nil
  | .cons k t n ps r, hand, adv =>
    (if k = 9 ∧ n ≤ hand then breaksF ps else if k = 8 ∧ n ≤ hand then resolveF ps hand adv else if (k = 8 ∨ k = 9) ∧ adv = true then partF k t n (resolveF ps hand adv) else if k = 8 then breaksF ps
     else if k = 9 then resolveF ps hand adv else if k = 7 ∨ k = 10 ∨ k = 11 then partF k t n (resolveF ps hand adv) else .one k t n ps).app (resolveF r hand adv)
theorem partF_size (k t n) (ps : Fo) : (partF k t n ps).size ≤ ps.size + 1 := by
  unfold partF
  split
  · simp [Fo.size]
  · simp [Fo.one, Fo.size]
theorem resolveF_size : ∀ (f : Fo) (hand : Int) (adv : Bool), (resolveF f hand adv).size ≤ f.size
  | .nil, _, _ => Nat.le_refl _
  | .cons k t n ps r, hand, adv => by
    have h1 := resolveF_size ps hand adv
    have h2 := resolveF_size r hand adv
    have h3 := breaksF_size ps
    have h4 := partF_size k t n (resolveF ps hand adv)
    simp only [resolveF, Fo.size_app, Fo.size]
    split
    · omega
    split
    · omega
    split
    · omega
    split
    · omega
    split
    · omega
    split
    · omega
    · simp [Fo.one, Fo.size]; omega
end Go.Proofs
namespace Go.Proofs
open Go Go.Sh Go.RowKit

end Go.Proofs
namespace Go.Sh
open Go Go.RowKit
section
variable {S : Nat → Prop} {w w' : World} {e : TypeId} {B : Nat} {a : Option Addr} {n c : Nat}
/- the last node of a list under way, and laying it anew -/
theorem OwnF.lastNode {pre : Fo} {k : Int} {t : List UInt8} {m : Int} {ps : Fo} (h : OwnF e S B w a n c (pre.app (.one k t m ps))) :
    ∃ g : Nat, a = some ⟨g, 0, none⟩ ∧ (∀ K : Addr → Prop, K ⟨g, pre.len * 4, none⟩ → idx a n (pre.len : Int) 4 K) ∧
      ∀ (k' : Int) (t' : List UInt8) (m' : Int) (a1 : Option Addr) (c1 : Nat) (ps' : Fo) (K : World → Prop), SlF (fun k => (S k ∨ B ≤ k) ∧ ¬ Sh.bk a k) w a1 ps'.len ps' →
        (∀ w', OwnF e S B w' a n c (pre.app (.one k' t' m' ps')) → Chg (Sh.bk a) w w' → K w') → stL w ⟨g, pre.len * 4, none⟩ 0 [.int .i64 k', .string ⟨⟨t'⟩⟩, .int .i64 m', .slice a1 ps'.len c1] K := by
  obtain ⟨h0, xs, h1, h2⟩ := h
  obtain ⟨us, ys, rfl, f1, a', c', zs, vs', rfl, g1, g2, g3⟩ := h2.split
  have hvs : vs' = [] := g3
  subst hvs
  have hl := f1.len
  have hn : n = pre.len + 1 := by rw [h0]; simp [Fo.one]
  rcases h1.2 with h | ⟨g, cap, cur, e1, e2, e3, e4, e5, e6, e7⟩
  · omega
  obtain ⟨rfl, _, rfl⟩ : a = some ⟨g, 0, none⟩ ∧ True ∧ c = cap := by simpa using e1
  have hB : Blk w g cur.toList e := e3
  have hcl : cur.toList.length = c * 4 := by simpa using e6
  have hxl : n * 4 ≤ cur.toList.length := by rw [hcl]; omega
  refine ⟨g, rfl, fun K hK => ⟨by omega, by omega, ?_⟩, fun k' t' m' a1 c1 ps' K hps hK => ?_⟩
  · show K _
    rw [add_none, Int.toNat_natCast, Nat.zero_add]; exact hK
  refine stL_blk hB (by simp only [List.length_cons, List.length_nil]; omega) (by intro u hu; simp only [List.mem_cons, List.not_mem_nil, or_false] at hu; rcases hu with rfl | rfl | rfl | rfl <;> rfl) fun w' b1 b2 b3 b4 b5 b6 => ?_
  have hc : Chg (Sh.bk (some (⟨g, 0, none⟩ : Addr))) w w' := ⟨b4, b5, b6, by omega, fun k' _ hk => b2 k' fun e => hk (by simp [Sh.bk, e])⟩
  refine hK w' ⟨by simp [Fo.one]; exact hn, us ++ [.int .i64 k', .string ⟨⟨t'⟩⟩, .int .i64 m', .slice a1 ps'.len c1], ⟨by simp only [List.length_append, List.length_cons, List.length_nil]; omega, .inr ⟨g, c, ⟨_⟩, rfl, e2, b1, e4, e5, ?_, ?_⟩⟩, ?_⟩ hc
  · simp [putAt]; omega
  · have hx : n * 4 = us.length + 4 := by omega
    simp only [putAt, Nat.add_zero]
    rw [List.take_set, List.take_set, List.take_set, List.take_set, e7, show pre.len * 4 = us.length by omega, List.set_append_right _ _ (by omega), List.set_append_right _ _ (by omega), List.set_append_right _ _ (by omega), List.set_append_right _ _ (by omega)]
    simp
    rw [show us.length + 1 + 1 - us.length = 2 by omega, show us.length + 1 + 1 + 1 - us.length = 3 by omega]
    rfl
  · have hs : ∀ j, ((S j ∨ B ≤ j) ∧ ¬ Sh.bk (some (⟨g, 0, none⟩ : Addr)) j) → j < w.heap.size → ((S j ∨ B ≤ j) ∧ ¬ Sh.bk (some (⟨g, 0, none⟩ : Addr)) j) ∧ w'.heap[j]? = w.heap[j]? := fun j hj hlt => ⟨hj, hc.block j hlt hj.2⟩
    obtain ⟨_, us', q1, q2⟩ := hps
    exact (f1.keep hs hc.size).app ⟨a1, c1, us', [], rfl, q1.keep hs hc.size, q2.keep hs hc.size, rfl⟩
end
end Go.Sh
namespace Go.Proofs
open Go Go.Sh Go.RowKit

structure Nn where
  k : Int
  t : List UInt8
  n : Int
  ps : Fo
def nodesF : Fo → List Nn
  | .nil => []
  | .cons k t n ps r => ⟨k, t, n, ps⟩ :: (nodesF ps ++ nodesF r)
def NnE (T : Nat → Prop) (w0 : World) (x : Nn) (vs : List Value) : Prop :=
  ∃ a c, vs = [.agg ⟨[.int .i64 x.k, .string ⟨⟨x.t⟩⟩, .int .i64 x.n, .slice a x.ps.len c]⟩] ∧ SlF T w0 a x.ps.len x.ps

theorem walk_spec {R : Ending → World → Prop} {w : World} {a : Option Addr} {n c : Nat}
    (h : ∀ b w', Blk w' b [.slice a n c] 22 → Ext w w' → b = w.heap.size → R (.returned (.func (.func F_hands_walk_1) ⟨[]⟩ ⟨[.pointer (some ⟨b, 0, none⟩)]⟩)) w') :
    Calls Tryz.prog F_hands_walk ⟨[.slice a n c]⟩ w R := by
  apply c_hands_walk
  refine al_intro fun b w' hb h1 h2 h3 => ?_
  exact h b w' h1 h2 hb

/- the breaks within a node, as the program gathers them -/
def pickB : List Nn → Fo
  | [] => .nil
  | x :: l => if brkF x.k then .cons x.k x.t x.n x.ps (pickB l) else pickB l
theorem pickB_app (l m : List Nn) : pickB (l ++ m) = (pickB l).app (pickB m) := by
  induction l with
  | nil => rfl
  | cons x l ih =>
    simp only [List.cons_append, pickB, ih]
    split <;> rfl
theorem pickB_len (l : List Nn) : (pickB l).len ≤ l.length := by
  induction l with
  | nil => simp [pickB]
  | cons x l ih => simp only [pickB]; split <;> simp <;> omega
theorem nodesF_len : ∀ f : Fo, (nodesF f).length = f.size
  | .nil => rfl
  | .cons k t n ps r => by simp [nodesF, Fo.size, nodesF_len ps, nodesF_len r]
theorem pick_breaks : ∀ (f : Fo), good f → pickB (nodesF f) = breaksF f
  | .nil, _ => rfl
  | .cons k t n ps r, h => by
    have h1 := pick_breaks ps h.2.1
    have h2 := pick_breaks r h.2.2
    simp only [nodesF, pickB, breaksF, pickB_app, h1, h2]
    by_cases hb : brkF k = true
    · have hk : k = 2 ∨ k = 3 ∨ k = 4 := by simpa [brkF] using hb
      have hp : ps.len = 0 := h.1.2.2.2.2.1 (by unfold partsF; simp; omega)
      have := Fo.eq_nil_of_len hp
      subst this
      simp [hb, Fo.one, breaksF]
    · simp [hb]
end Go.Proofs
namespace Go.Sh
open Go Go.RowKit

/- an iterator whose caller's body may write blocks of its own, new ones among them: S, as it stands -/
def IterO {α : Type} (P : Program) (gf : FuncId) (cap : List Value) (xs : List α) (E : α → List Value → Prop) (Rd : Nat → Prop) (w : World) : Prop :=
  ∀ (yf : Fn) (ya yb : Array Value) (S0 : Nat → Prop) (J : List α → (Nat → Prop) → World → Prop) (Jx : (Nat → Prop) → World → Prop) (R : Ending → World → Prop),
    (∀ k, S0 k → k < w.heap.size ∧ ¬ Rd k) →
    (∀ pre S W W', J pre S W → Chg (fun k => w.heap.size ≤ k ∧ ¬ S k) W W' → J pre S W') → (∀ S W W', Jx S W → Chg (fun k => w.heap.size ≤ k ∧ ¬ S k) W W' → Jx S W') →
    (∀ pre x vs S W, E x vs → pre ++ [x] <+: xs → w.heap.size ≤ W.heap.size → (∀ k, S k → k < W.heap.size ∧ ¬ Rd k) → J pre S W → CallV P (.func yf ya yb) vs W fun e W' => Chg S W W' ∧
      ∃ S' : Nat → Prop, (∀ k, S' k → (S k ∨ W.heap.size ≤ k) ∧ k < W'.heap.size) ∧ ((e = .returned (.bool true) ∧ J (pre ++ [x]) S' W') ∨ (e = .returned (.bool false) ∧ Jx S' W'))) →
    J [] S0 w → (∀ S W, w.heap.size ≤ W.heap.size → J xs S W → R (.returned (.tuple ⟨[]⟩)) W) → (∀ S W, w.heap.size ≤ W.heap.size → Jx S W → R (.returned (.tuple ⟨[]⟩)) W) →
    Calls P gf ⟨.func yf ya yb :: cap⟩ w R
theorem IterO.mono {α : Type} {P : Program} {gf : FuncId} {cap : List Value} {xs : List α} {E E' : α → List Value → Prop} {Rd : Nat → Prop} {w : World} (h : IterO P gf cap xs E Rd w) (hE : ∀ x vs, E x vs → E' x vs) : IterO P gf cap xs E' Rd w :=
  fun yf ya yb S0 J Jx R hS hJ hJx hbody h0 h1 h2 => h yf ya yb S0 J Jx R hS hJ hJx (fun pre x vs S W he => hbody pre x vs S W (hE _ _ he)) h0 h1 h2

theorem RFw_lawO {α : Type} {P : Program} {N : Nat} {g : Operand} {ps : Array Tmp} {assign body : Code} {env : Env} {ds : List Deferred} {w : World} {x : Nat} {Qn Qr Qx : List Deferred → World → Prop}
    (xA xB : Ann) {gf : FuncId} {cap : List Value} (hg : ev env g = .func (.func gf) ⟨[]⟩ ⟨cap⟩) (hok : okFn P gf = true)
    {xs : List α} {E : α → List Value → Prop} {Rd : Nat → Prop} (hit : ∀ w1, Ext w w1 → IterO P gf cap xs E Rd w1)
    (hps : ∀ y vs, E y vs → vs.length = ps.size) (hpN : ∀ p ∈ ps.toList, p < N)
    (hRd : ∀ k, Rd k → k < w.heap.size) (S0 : Nat → Prop) (hS : ∀ k, S0 k → k < w.heap.size ∧ ¬ Rd k)
    (I : List α → (Nat → Prop) → World → Prop) (Kr Kx : (Nat → Prop) → World → Prop)
    (hI : ∀ pre S W W', I pre S W → Chg (fun k => w.heap.size ≤ k ∧ ¬ S k) W W' → I pre S W')
    (hKr : ∀ S W W', Kr S W → Chg (fun k => w.heap.size ≤ k ∧ ¬ S k) W W' → Kr S W') (hKx : ∀ S W W', Kx S W → Chg (fun k => w.heap.size ≤ k ∧ ¬ S k) W W' → Kx S W')
    (h0 : I [] S0 w)
    (hround : ∀ pre y vs S W l, E y vs → pre ++ [y] <+: xs → w.heap.size ≤ l → l < W.heap.size → ¬ S l → (∀ k, S k → k < W.heap.size ∧ ¬ Rd k) → I pre S W →
      fragV P N xA xB assign body l x (fun W2 W' => Chg (fun k => S k ∨ W.heap.size ≤ k) W2 W' ∧ ∃ S' : Nat → Prop, (∀ k, S' k → (S k ∨ W.heap.size ≤ k) ∧ k < W'.heap.size) ∧ I (pre ++ [y]) S' W')
        (fun W2 W' => Chg (fun k => S k ∨ W.heap.size ≤ k) W2 W' ∧ ∃ S' : Nat → Prop, (∀ k, S' k → (S k ∨ W.heap.size ≤ k) ∧ k < W'.heap.size) ∧ Kr S' W')
        (fun W2 W' => Chg (fun k => S k ∨ W.heap.size ≤ k) W2 W' ∧ ∃ S' : Nat → Prop, (∀ k, S' k → (S k ∨ W.heap.size ≤ k) ∧ k < W'.heap.size) ∧ Kx S' W') (updPs ps.toList vs env) W)
    (hn : ∀ D S W, w.heap.size ≤ D → D < W.heap.size → ¬ S D → W.heap[D]? = some (.deferred (some [])) → I xs S W → Qn ({ target := .collected D, args := #[] } :: ds) W)
    (hr : ∀ D S W, w.heap.size ≤ D → D < W.heap.size → ¬ S D → W.heap[D]? = some (.deferred (some [])) → Kr S W → Qr ({ target := .collected D, args := #[] } :: ds) W)
    (hx : ∀ D S W, w.heap.size ≤ D → D < W.heap.size → ¬ S D → W.heap[D]? = some (.deferred (some [])) → Kx S W → Qx ({ target := .collected D, args := #[] } :: ds) W) :
    RFw P none N (.rangeFunc g ps assign body) env ds w x Qn Qr Qx := by
  intro a ha hd
  refine wpIn_rangeFunc fun fn _ => ?_
  let rec0 : Loop := { state := .ready, pending := none, fn, tmps := a.tmps, params := ps, assign, body, defers := w.heap.size }
  let w1 : World := (w.alloc (.deferred (some []))).alloc (.loop rec0)
  have hw1 : w1.heap.size = w.heap.size + 2 := by simp [w1]
  have hext : Ext w w1 := ((Below.refl _ w).alloc (Nat.le_refl _) _).alloc (by simp) _
  have hD1 : w1.heap[w.heap.size]? = some (.deferred (some [])) := by
    show ((w.alloc _).alloc _).heap[w.heap.size]? = _
    rw [Below.heap_alloc _ _ _ (by simp), World.alloc_heap_new]
  have hl1 : w1.heap[w.heap.size + 1]? = some (.loop rec0) := by
    have := World.alloc_heap_new (w.alloc (.deferred (some []))) (.loop rec0)
    simpa [w1] using this
  have hgv : a.eval g = .func (.func gf) ⟨[]⟩ ⟨cap⟩ := by rw [ha.ev]; exact hg
  refine ⟨w.heap.size + 1, [{ target := .collected w.heap.size, args := #[] }], w1, { target := .fn (.func gf) ⟨cap⟩, args := #[.func (.yield (w.heap.size + 1)) #[] #[]] }, w1, gf,
    ⟨.func (.yield (w.heap.size + 1)) #[] #[] :: cap⟩, w1, run_enterLoop_outer fn a.tmps ps assign body, ?_, fun _ _ => trivial, ?_, fun h => by simp [Fr, Fence.wide] at h, ?_⟩
  · have em : Array.map a.eval #[Operand.const (.func (.yield (w.heap.size + 1)) #[] #[])] = #[.func (.yield (w.heap.size + 1)) #[] #[]] := by simp [Act.eval]
    simp only [resolve, rangeCall, hgv, Deferred.ofValue, em]
    simp
  · have e : (#[.func (.yield (w.heap.size + 1)) #[] #[]] : Array Value) ++ (⟨cap⟩ : Array Value) = ⟨.func (.yield (w.heap.size + 1)) #[] #[] :: cap⟩ := by apply Array.ext'; simp
    simp only [invoke, e]
    exact callFunc_run _ w1 hok
  · show CallsIn Fence.wide 0 P gf _ w1 _
    refine callsIn_wide.2 ?_
    refine hit w1 hext (.yield (w.heap.size + 1)) #[] #[] (fun k => S0 k ∨ k = w.heap.size + 1)
      (fun pre S W => ∃ Sb : Nat → Prop, (∀ k, S k ↔ Sb k ∨ k = w.heap.size + 1) ∧ ¬ Sb (w.heap.size + 1) ∧ ¬ Sb w.heap.size ∧ I pre Sb W ∧ W.heap[w.heap.size + 1]? = some (.loop rec0) ∧ W.heap[w.heap.size]? = some (.deferred (some [])))
      (fun S W => ∃ Sb : Nat → Prop, (∀ k, S k ↔ Sb k ∨ k = w.heap.size + 1) ∧ ¬ Sb (w.heap.size + 1) ∧ ¬ Sb w.heap.size ∧ W.heap[w.heap.size]? = some (.deferred (some [])) ∧ ((W.heap[w.heap.size + 1]? = some (.loop { rec0 with state := .done, pending := some .ret }) ∧ Kr Sb W) ∨
        (W.heap[w.heap.size + 1]? = some (.loop { rec0 with state := .done, pending := some (.exit x) }) ∧ Kx Sb W)))
      _ (fun k hk => hk.elim (fun h => ⟨by have := (hS k h).1; omega, (hS k h).2⟩) (fun h => ⟨by omega, fun hr => by have := hRd k hr; omega⟩)) ?_ ?_ ?_
      ⟨S0, fun k => Iff.rfl, fun h => by have := (hS _ h).1; omega, fun h => by have := (hS _ h).1; omega, hI _ _ _ _ h0 (.of_ext hext), hl1, hD1⟩ ?_ ?_
    · rintro pre S W W' ⟨Sb, hb1, hb2, hb3, h1, h2, h3⟩ hc
      have hlt := (Array.getElem?_eq_some_iff.1 h2).1
      have hlt' := (Array.getElem?_eq_some_iff.1 h3).1
      exact ⟨Sb, hb1, hb2, hb3, hI _ _ _ _ h1 (hc.mono fun k _ hk => ⟨by omega, fun hh => hk.2 ((hb1 k).2 (.inl hh))⟩), (hc.block _ hlt (by omega)).trans h2, (hc.block _ hlt' (by omega)).trans h3⟩
    · rintro S W W' ⟨Sb, hb1, hb2, hb3, h3, h⟩ hc
      have hlt' := (Array.getElem?_eq_some_iff.1 h3).1
      have hc' : Chg (fun k => w.heap.size ≤ k ∧ ¬ Sb k) W W' := hc.mono fun k _ hk => ⟨by omega, fun hh => hk.2 ((hb1 k).2 (.inl hh))⟩
      refine ⟨Sb, hb1, hb2, hb3, (hc.block _ hlt' (by omega)).trans h3, ?_⟩
      rcases h with ⟨h1, h2⟩ | ⟨h1, h2⟩
      · exact .inl ⟨(hc.block _ (Array.getElem?_eq_some_iff.1 h1).1 (by omega)).trans h1, hKr _ _ _ h2 hc'⟩
      · exact .inr ⟨(hc.block _ (Array.getElem?_eq_some_iff.1 h1).1 (by omega)).trans h1, hKx _ _ _ h2 hc'⟩
    · rintro pre y vs S W hE hpre hsz hSW ⟨Sb, hb1, hb2, hb3, h1, h2, h3⟩
      have hlt := (Array.getElem?_eq_some_iff.1 h2).1
      have hlt' := (Array.getElem?_eq_some_iff.1 h3).1
      refine ⟨_, _, _, _, run_yield h2 (by simp [rec0, hps y vs hE]), ?_⟩
      have hfr := hround pre y vs Sb W (w.heap.size + 1) hE hpre (by omega) hlt hb2 (fun k hk => hSW k ((hb1 k).2 (.inl hk))) h1
      have hrep : Rep N (updPs ps.toList (vs) env) { tmps := (ps.toList.zip (vs)).foldl (fun t (p, v) => t.setIfInBounds p v) a.tmps, defers := [] } :=
        foldl_rep _ _ _ _ ⟨ha.1, ha.2⟩ hpN
      have ezip : (ps.zip (⟨(#[] : Array Value).toList ++ vs⟩ : Array Value)).foldl (fun t (x : Nat × Value) => t.setIfInBounds x.1 x.2) a.tmps = (ps.toList.zip (vs)).foldl (fun t (p, v) => t.setIfInBounds p v) a.tmps := by
        rw [← Array.foldl_toList]
        simp [Array.toList_zip]
      refine roundIn_of_wpIn (F := Fence.wide) (l := w.heap.size + 1) trivial ?_
      show assign.wpIn (Fr (some (w.heap.size + 1))) 0 P _ _ W
      have hva := vc_sound xA assign hfr hrep rfl
      refine wpIn_mono (Eq.mp (by rw [← ezip]) hva) fun e a1 W1 hh => ?_
      obtain ⟨env1, r1, q1, _⟩ := hh
      cases e with
      | normal =>
        obtain ⟨e1, q1⟩ := q1
        have hl' : W1.heap[w.heap.size + 1]? = some (.loop rec0) := (e1.block _ hlt).trans h2
        have hD' : W1.heap[w.heap.size]? = some (.deferred (some [])) := (e1.block _ hlt').trans h3
        refine ⟨_, run_beginRound hl' rfl, ?_⟩
        have hl2 : (W1.putObj (w.heap.size + 1) (.loop { rec0 with state := .busy })).heap[w.heap.size + 1]? = some (.loop { rec0 with state := .busy }) :=
          World.putObj_heap_same (Array.getElem?_eq_some_iff.1 hl').1
        have hD2 : (W1.putObj (w.heap.size + 1) (.loop { rec0 with state := .busy })).heap[w.heap.size]? = some (.deferred (some [])) := (World.putObj_heap_other (by omega)).trans hD'
        have hq := q1 _ (Upd.put (w.heap.size + 1) W1 (.loop { rec0 with state := .busy }))
        have hvb := vc_sound xB body hq r1 rfl
        have hlt1 := (Array.getElem?_eq_some_iff.1 hl').1
        have hWW2 : Chg S W (W1.putObj (w.heap.size + 1) (.loop { rec0 with state := .busy })) :=
          (Chg.of_ext e1).trans (Chg.put _ _ _ ((hb1 _).2 (.inr rfl)))
        generalize W1.putObj (w.heap.size + 1) (.loop { rec0 with state := .busy }) = W2 at hl2 hD2 hvb hWW2 ⊢
        refine wpIn_mono hvb fun e' a' W' hh' => ?_
        obtain ⟨env2, r2, q2, _⟩ := hh'
        have nS : ¬ (Sb (w.heap.size + 1) ∨ W.heap.size ≤ w.heap.size + 1) := fun h => h.elim hb2 (by omega)
        have nS' : ¬ (Sb w.heap.size ∨ W.heap.size ≤ w.heap.size) := fun h => h.elim hb3 (by omega)
        have fin : ∀ (jump : Option Code) (st : LoopState), Chg (fun k => Sb k ∨ W.heap.size ≤ k) W2 W' → ∀ S' : Nat → Prop, (∀ k, S' k → (Sb k ∨ W.heap.size ≤ k) ∧ k < W'.heap.size) → ∀ Z, Z = W'.putObj (w.heap.size + 1) (.loop { rec0 with state := st, pending := jump }) →
            Chg S W Z ∧ (∀ k, (S' k ∨ k = w.heap.size + 1) → (S k ∨ W.heap.size ≤ k) ∧ k < Z.heap.size) ∧ ¬ S' (w.heap.size + 1) ∧ ¬ S' w.heap.size ∧ Z.heap[w.heap.size + 1]? = some (.loop { rec0 with state := st, pending := jump }) ∧ Z.heap[w.heap.size]? = some (.deferred (some [])) ∧
            Chg (fun k => w.heap.size ≤ k ∧ ¬ S' k) W' Z := by
          intro jump st hc S' hS' Z hZ
          have hl3 := (hc.block _ (Array.getElem?_eq_some_iff.1 hl2).1 nS).trans hl2
          have hD3 := (hc.block _ (Array.getElem?_eq_some_iff.1 hD2).1 nS').trans hD2
          have n1 : ¬ S' (w.heap.size + 1) := fun hh => nS (hS' _ hh).1
          have n2 : ¬ S' w.heap.size := fun hh => nS' (hS' _ hh).1
          have l3 := (Array.getElem?_eq_some_iff.1 hl3).1
          subst hZ
          refine ⟨?_, ?_, n1, n2, World.putObj_heap_same l3, (World.putObj_heap_other (by omega)).trans hD3, Chg.put _ _ _ ⟨by omega, n1⟩⟩
          · have hW2' : Chg S W W' := ⟨hc.os.trans hWW2.os, hc.tape.trans hWW2.tape, hc.output.trans hWW2.output, Nat.le_trans hWW2.size hc.size,
              fun k hk hn => (hc.block k (Nat.lt_of_lt_of_le hk hWW2.size) (fun hh => hh.elim (fun h => hn ((hb1 k).2 (.inl h))) (fun h => by omega))).trans (hWW2.block k hk hn)⟩
            exact hW2'.trans (Chg.put _ _ _ ((hb1 _).2 (.inr rfl)))
          · rintro k (hk | rfl)
            · exact ⟨(hS' k hk).1.imp (fun h => (hb1 k).2 (.inl h)) id, by simpa using (hS' k hk).2⟩
            · exact ⟨.inl ((hb1 _).2 (.inr rfl)), by simpa using l3⟩
        have hrec : ∀ (jump : Option Code), Chg (fun k => Sb k ∨ W.heap.size ≤ k) W2 W' → (Instr.endRound (w.heap.size + 1) jump).run P W' = .ok (.bool jump.isNone) (W'.putObj (w.heap.size + 1) (.loop { rec0 with state := if jump.isNone then .ready else .done, pending := jump })) := by
          intro jump hc
          exact run_endRound (r := { rec0 with state := .busy }) jump ((hc.block _ (Array.getElem?_eq_some_iff.1 hl2).1 nS).trans hl2)
        cases e' with
        | normal =>
          obtain ⟨hc, S', hS', hi⟩ := q2
          obtain ⟨f1, f2, f3, f4, f5, f6, f7⟩ := fin none .ready hc S' hS' _ rfl
          exact ⟨_, _, hrec none hc, f1, _, f2, .inl ⟨rfl, S', fun k => Iff.rfl, f3, f4, hI _ _ _ _ hi f7, f5, f6⟩⟩
        | ret =>
          obtain ⟨hc, S', hS', hi⟩ := q2
          obtain ⟨f1, f2, f3, f4, f5, f6, f7⟩ := fin (some .ret) .done hc S' hS' _ rfl
          exact ⟨_, _, hrec (some .ret) hc, f1, _, f2, .inr ⟨rfl, S', fun k => Iff.rfl, f3, f4, f6, .inl ⟨f5, hKr _ _ _ hi f7⟩⟩⟩
        | exit i =>
          simp only [fragQ] at q2
          cases hb : Nat.beq i x <;> rw [hb] at q2
          · exact q2.elim
          have hix := Nat.eq_of_beq_eq_true hb
          subst hix
          obtain ⟨hc, S', hS', hi⟩ := q2
          obtain ⟨f1, f2, f3, f4, f5, f6, f7⟩ := fin (some (.exit i)) .done hc S' hS' _ rfl
          exact ⟨_, _, hrec (some (.exit i)) hc, f1, _, f2, .inr ⟨rfl, S', fun k => Iff.rfl, f3, f4, f6, .inr ⟨f5, hKx _ _ _ hi f7⟩⟩⟩
        | goto l => exact q2.elim
        | panic c => exact q2.elim
        | outgrown => exact q2.elim
      | exit i => exact q1.elim
      | ret => exact q1.elim
      | goto t => exact q1.elim
      | panic c => exact q1.elim
      | outgrown => exact q1.elim
    · rintro S W hsz ⟨Sb, hb1, hb2, hb3, h1, h2, h3⟩
      refine ⟨none, _, run_endLoop h2 (by simp [rec0]), ?_⟩
      have hlt := (Array.getElem?_eq_some_iff.1 h2).1
      refine ⟨rfl, ?_⟩
      show Qn (_ :: a.defers) _
      rw [hd]
      refine hn w.heap.size Sb _ (Nat.le_refl _) (by simp; omega) hb3 ((World.putObj_heap_other (by omega)).trans h3) (hI _ _ _ _ h1 (Chg.put _ _ _ ⟨by omega, hb2⟩))
    · rintro S W hsz ⟨Sb, hb1, hb2, hb3, h3, h⟩
      rcases h with ⟨h1, h2⟩ | ⟨h1, h2⟩
      · have hlt := (Array.getElem?_eq_some_iff.1 h1).1
        refine ⟨some .ret, _, run_endLoop h1 (by simp), ?_⟩
        refine wpIn_ret ⟨rfl, ?_⟩
        show Qr (_ :: a.defers) _
        rw [hd]
        exact hr w.heap.size Sb _ (Nat.le_refl _) (by simp; omega) hb3 ((World.putObj_heap_other (by omega)).trans h3) (hKr _ _ _ h2 (Chg.put _ _ _ ⟨by omega, hb2⟩))
      · have hlt := (Array.getElem?_eq_some_iff.1 h1).1
        refine ⟨some (.exit x), _, run_endLoop h1 (by simp), ?_⟩
        refine wpIn_exit ⟨rfl, rfl, ?_⟩
        show Qx (_ :: a.defers) _
        rw [hd]
        exact hx w.heap.size Sb _ (Nat.le_refl _) (by simp; omega) hb3 ((World.putObj_heap_other (by omega)).trans h3) (hKx _ _ _ h2 (Chg.put _ _ _ ⟨by omega, hb2⟩))
end Go.Sh
namespace Go.Proofs
open Go Go.Sh Go.RowKit

theorem nodes_walkO {yf : Fn} {ya yb : Array Value} {T : Nat → Prop} {J : List Nn → (Nat → Prop) → World → Prop} {Jx : (Nat → Prop) → World → Prop} {w0 : World} {xs : List Nn} {ty tw : Nat}
    (hTl : ∀ k, T k → k < w0.heap.size)
    (hJ : ∀ pre S W W', J pre S W → Chg (fun k => w0.heap.size ≤ k ∧ ¬ S k) W W' → J pre S W')
    (hbody : ∀ pre x vs S W, NnE T w0 x vs → pre ++ [x] <+: xs → w0.heap.size ≤ W.heap.size → (∀ k, S k → k < W.heap.size ∧ ¬ T k) → J pre S W → CallV Tryz.prog (.func yf ya yb) vs W fun e W' => Chg S W W' ∧
      ∃ S' : Nat → Prop, (∀ k, S' k → (S k ∨ W.heap.size ≤ k) ∧ k < W'.heap.size) ∧ ((e = .returned (.bool true) ∧ J (pre ++ [x]) S' W') ∨ (e = .returned (.bool false) ∧ Jx S' W'))) :
    ∀ (f : Fo) {R : Ending → World → Prop} {S : Nat → Prop} {w : World} {a : Option Addr} {n c : Nat} (pre : List Nn), small f → SlF T w0 a n f → w0.heap.size ≤ w.heap.size → (∀ k, T k → w.heap[k]? = w0.heap[k]?) → (∀ k, S k → k < w.heap.size ∧ ¬ T k) →
      Blk w ty [.func yf ya yb] 198 → Blk w tw [.func (.func 198) ⟨[]⟩ ⟨[.pointer (some ⟨ty, 0, none⟩), .pointer (some ⟨tw, 0, none⟩)]⟩] 147 → ¬ S ty → ¬ S tw →
      pre ++ nodesF f <+: xs → J pre S w → (∀ S' W', Chg S w W' → (∀ k, S' k → (S k ∨ w.heap.size ≤ k) ∧ k < W'.heap.size) → J (pre ++ nodesF f) S' W' → R (.returned (.bool true)) W') →
      (∀ S' W', Chg S w W' → (∀ k, S' k → (S k ∨ w.heap.size ≤ k) ∧ k < W'.heap.size) → Jx S' W' → R (.returned (.bool false)) W') →
      Calls Tryz.prog F_hands_walk_1_1 ⟨[.slice a n c, .pointer (some ⟨ty, 0, none⟩), .pointer (some ⟨tw, 0, none⟩)]⟩ w R := by
  intro f
  induction hz : f.size using Nat.strongRecOn generalizing f with
  | _ z ih =>
  intro R S w a n c pre hs hf hw0 hT hS hBy hBw nSy nSw hpre hj hend hstop
  unfold small at hs
  apply c_hands_walk_1_1
  have hn := hf.1
  have hfl := f.len_le_size
  have lty := hBy.lt
  have ltw := hBw.lt
  refine ⟨fun i W m => ∃ (p r : Fo) (ps : List Nn) (S1 : Nat → Prop), f = p.app r ∧ i = p.len ∧ m = r.len ∧ Chg S w W ∧ (∀ k, S1 k → (S k ∨ w.heap.size ≤ k) ∧ k < W.heap.size) ∧ J ps S1 W ∧ pre ++ nodesF f = ps ++ nodesF r,
    ⟨_, .nil, f, pre, S, rfl, rfl, rfl, Chg.refl _ _, fun k hk => ⟨.inl hk, (hS k hk).1⟩, hj, rfl⟩, ?_⟩
  rintro _ W m ⟨p, r, xs', S1, hpr, rfl, rfl, hcW, hS1, hjW, heq⟩ _
  have hwW := hcW.size
  refine br_split (fun hlt => ?_) (fun hge => ?_)
  · obtain ⟨k, t, mm, ps, r, rfl⟩ := Fo.next hpr (by omega)
    have hsl := Fo.sub_len hpr
    have hsz := Fo.sub_size hpr
    have e1 : f = (p.app (.one k t mm ps)).app r := by rw [Fo.app_one_app]; exact hpr
    have i1 : IntKind.i64.wrap ((p.len : Int) + 1) = ((p.app (.one k t mm ps)).len : Int) := by rw [wrap_nat (by omega)]; simp [Fo.one]
    have hTW : ∀ k, T k → W.heap[k]? = w0.heap[k]? := fun k hk => (hcW.block k (by have := hTl k hk; omega) (fun h => (hS k h).2 hk)).trans (hT k hk)
    obtain ⟨q, a', c', hq, hTq, hql, hN⟩ := (hf.keep (S' := T) (w' := W) (fun k hk _ => ⟨hk, hTW k hk⟩) (by omega)).get hpr
    have hNT : SlF T w0 a' ps.len ps := hN.sl.keep' fun k hk _ => ⟨hk, hTl k hk, (hTW k hk).symm⟩
    refine hq _ ⟨k, hN.kind, t, hN.text, mm, hN.num, a', ps.len, c', hN.parts, ?_⟩
    refine al_stL (by simp) (by intro u hu; simp only [List.mem_cons, List.not_mem_nil, or_false] at hu; rcases hu with rfl | rfl | rfl | rfl <;> rfl) fun bx w1 hbx hBx e2 s2 => ?_
    have z2 := e2.size
    obtain ⟨x0, x1, x2, x3⟩ := blk4 hBx
    have hBy1 := (hcW.blk hBy nSy).ext e2
    have hBw1 := (hcW.blk hBw nSw).ext e2
    have n1y : ¬ S1 ty := fun h => (hS1 _ h).1.elim nSy (by omega)
    have n1w : ¬ S1 tw := fun h => (hS1 _ h).1.elim nSw (by omega)
    have n1x : ¬ S1 bx := fun h => by have := (hS1 _ h).2; omega
    refine dr_ok ⟨_, _, _, by rw [hBy1.cell]; rfl, k, x0, t, x1, mm, x2, a', ps.len, c', x3, ?_⟩
    have hj1 : J xs' S1 w1 := hJ _ _ _ _ hjW (Chg.of_ext e2)
    rw [nodesF] at heq
    have hpx : xs' ++ [⟨k, t, mm, ps⟩] <+: xs := by
      refine List.IsPrefix.trans ?_ hpre
      rw [heq]
      exact ⟨_, by rw [List.append_assoc]; rfl⟩
    have hS1T : ∀ k, S1 k → k < w1.heap.size ∧ ¬ T k := fun j hj => ⟨by have := (hS1 j hj).2; omega, fun ht => (hS1 j hj).1.elim (fun h => (hS j h).2 ht) (fun h => by have := hTl j ht; omega)⟩
    refine CallV_mono (hbody xs' ⟨k, t, mm, ps⟩ _ S1 w1 ⟨a', c', rfl, hNT⟩ hpx (by omega) hS1T hj1) ?_
    rintro e w2 ⟨hc2, S2, hS2, hres⟩
    have z3 := hc2.size
    have hcw2 : Chg S w w2 := chg_then (hcW.trans (Chg.of_ext e2)) hc2 fun i hi hh => (hS1 i hh).1.elim id fun h => by omega
    have hS2w : ∀ k, S2 k → (S k ∨ w.heap.size ≤ k) ∧ k < w2.heap.size := fun j hj => ⟨(hS2 j hj).1.elim (fun h => (hS1 j h).1) (fun h => .inr (by omega)), (hS2 j hj).2⟩
    rcases hres with ⟨rfl, hj2⟩ | ⟨rfl, hjx⟩
    · refine ⟨true, rfl, ?_⟩
      have hBx2 := hc2.blk hBx n1x
      obtain ⟨y0, y1, y2, y3⟩ := blk4 hBx2
      have hBw2 := hc2.blk hBw1 n1w
      have hBy2 := hc2.blk hBy1 n1y
      simp only [Bool.not_true, br_f]
      refine dr_ok ⟨.func 198, ⟨[]⟩, ⟨[.pointer (some ⟨ty, 0, none⟩), .pointer (some ⟨tw, 0, none⟩)]⟩, by rw [hBw2.cell]; rfl, a', ps.len, c', y3, by kernel_rfl, ?_⟩
      refine ih _ (hz ▸ hsz) ps rfl (S := S2) (xs' ++ [⟨k, t, mm, ps⟩]) (by unfold small; omega) hNT (by omega) (fun j hj => (hcw2.block j (by have := hTl j hj; omega) (fun h => (hS j h).2 hj)).trans (hT j hj))
        (fun j hj => ⟨(hS2 j hj).2, fun ht => (hS2 j hj).1.elim (fun h => (hS1T j h).2 ht) (fun h => by have := hTl j ht; omega)⟩) hBy2 hBw2 (fun h => (hS2 _ h).1.elim n1y (by omega)) (fun h => (hS2 _ h).1.elim n1w (by omega)) ?_ hj2 (fun S3 w3 hc3 hS3 hj3 => ?_) (fun S3 w3 hc3 hS3 hjx => ?_)
      · refine List.IsPrefix.trans ?_ hpre
        rw [heq]
        exact ⟨nodesF r, by simp⟩
      · refine ⟨true, rfl, ?_⟩
        refine ⟨r.len, by simp, _, r, _, S3, e1, i1, rfl, chg_then hcw2 hc3 fun i hi hh => (hS2w i hh).1.elim id fun h => by omega, fun j hj => ⟨(hS3 j hj).1.elim (fun h => (hS2w j h).1) (fun h => .inr (by omega)), (hS3 j hj).2⟩, hj3, ?_⟩
        rw [heq]; simp
      · exact ⟨false, rfl, hstop S3 _ (chg_then hcw2 hc3 fun i hi hh => (hS2w i hh).1.elim id fun h => by omega) (fun j hj => ⟨(hS3 j hj).1.elim (fun h => (hS2w j h).1) (fun h => .inr (by omega)), (hS3 j hj).2⟩) hjx⟩
    · exact ⟨false, rfl, hstop S2 _ hcw2 hS2w hjx⟩
  · obtain ⟨rfl, rfl⟩ := Fo.last hpr (by omega)
    have e : xs' = pre ++ nodesF p := by rw [heq]; simp [nodesF]
    rw [e] at hjW
    exact hend S1 _ hcW hS1 hjW

theorem nodes_iterO {T : Nat → Prop} (f : Fo) (hs : small f) {a : Option Addr} {n c : Nat} (b : Nat) (w : World) (hTl : ∀ k, T k → k < w.heap.size) (hb : Blk w b [.slice a n c] 22) (hf : SlF T w a n f) (hbT : T b) :
    IterO Tryz.prog F_hands_walk_1 [.pointer (some ⟨b, 0, none⟩)] (nodesF f) (NnE T w) T w := by
  intro yf ya yb S0 J Jx R hS hJ hJx hbody h0 hend hstop
  apply c_hands_walk_1
  refine al_intro fun ty w1 hty hBy e1 s1 => ?_
  refine al_intro fun tw w1' htw hBw' e2' s2' => ?_
  refine stL_one hBw' rfl fun w2 hBw hcc hss => ?_
  have e2 : Ext w1 w2 := ext_chgS e2' hcc fun k hk => by omega
  have E := ext_trans e1 e2
  refine ⟨.func 198, ⟨[]⟩, ⟨[.pointer (some ⟨ty, 0, none⟩), .pointer (some ⟨tw, 0, none⟩)]⟩, by rw [hBw.cell]; rfl, dr_ok ⟨a, n, c, by rw [((hb.ext e1).ext e2).cell]; rfl, by kernel_rfl, ?_⟩⟩
  have hz := E.size
  have hz1 := e1.size
  refine nodes_walkO (w0 := w) (xs := nodesF f) hTl hJ hbody f (S := S0) [] hs hf hz (fun k hk => E.block k (hTl k hk)) (fun k hk => ⟨by have := (hS k hk).1; omega, (hS k hk).2⟩) (hBy.ext e2) hBw (fun h => by have := (hS _ h).1; omega) (fun h => by have := (hS _ h).1; omega) (List.prefix_refl _)
    (hJ _ _ _ _ h0 (Chg.of_ext E)) (fun S' W' hc hS' hj => ?_) (fun S' W' hc hS' hjx => ?_)
  · exact ⟨_, rfl, hend S' _ (Nat.le_trans hz hc.size) hj⟩
  · exact ⟨_, rfl, hstop S' _ (Nat.le_trans hz hc.size) hjx⟩
end Go.Proofs
namespace Go.Sh
open Go Go.RowKit
section
variable {S : Nat → Prop} {w w' : World} {e : TypeId} {B : Nat} {a : Option Addr} {n c : Nat} {f : Fo}
theorem OwnF.push2 {P : Program} {t bytes : Nat} {z : Value} (hT : SlT P t e 4 bytes z) (h : OwnF e S B w a n c f) (hB : B ≤ w.heap.size) {k : Int} {s : List UInt8} {m : Int} {a' : Option Addr} {c' : Nat} {ps : Fo}
    (hps : SlF (fun k => (S k ∨ B ≤ k) ∧ ¬ Sh.bk a k) w a' ps.len ps) (hlen : n + 1 ≤ 4611686018427387904) (hbytes : (n + 1) * bytes ≤ 140737488355328) {ty : TypeId} {K : Option Addr → Nat → Nat → World → Prop}
    (hk : ∀ a'' n'' c'' w', OwnF e S B w' a'' n'' c'' (f.app (.one k s m ps)) → Chg (Sh.bk a) w w' → (∀ k, Sh.bk a'' k → Sh.bk a k ∨ w.heap.size ≤ k) → K a'' n'' c'' w') :
    al w e [.int .i64 k, .string ⟨⟨s⟩⟩, .int .i64 m, .slice a' ps.len c'] fun p w1 => app P [t, t] ty (.slice a n c) (.slice (some p) 1 1) w1 K := by
  obtain ⟨h0, xs, h1, h2⟩ := h
  refine app_one2 hT h1 hB [.int .i64 k, .string ⟨⟨s⟩⟩, .int .i64 m, .slice a' ps.len c'] rfl (by intro u hu; simp only [List.mem_cons, List.not_mem_nil, or_false] at hu; rcases hu with rfl | rfl | rfl | rfl <;> rfl) hlen hbytes fun a'' c'' w' ho hc hn => hk _ _ _ _ ⟨?_, _, ho, ?_⟩ hc hn
  · simp [Fo.one]; exact h0
  · obtain ⟨_, us, h3, h4⟩ := hps
    have hs : ∀ k, ((S k ∨ B ≤ k) ∧ ¬ Sh.bk a k) → k < w.heap.size → ((S k ∨ B ≤ k) ∧ ¬ Sh.bk a'' k) ∧ w'.heap[k]? = w.heap[k]? := fun k hk hl =>
      ⟨⟨hk.1, fun hb => (hn k hb).elim hk.2 (fun h => by omega)⟩, hc.block k hl hk.2⟩
    exact (h2.keep hs hc.size).app ⟨a', c', us, [], rfl, h3.keep hs hc.size, h4.keep hs hc.size, rfl⟩
/- a list whose nodes have no parts hangs on no block but its own -/
def flat : Fo → Prop
  | .nil => True
  | .cons _ _ _ ps r => ps = .nil ∧ flat r
theorem flat_app {f g : Fo} : flat (f.app g) ↔ flat f ∧ flat g := by
  induction f with
  | nil => simp [flat]
  | cons k t n ps r _ ih => simp only [Fo.cons_app, flat, ih, and_assoc]
theorem FoC.flat {S' : Nat → Prop} : ∀ {f : Fo} {vs : List Value}, Sh.flat f → FoC S w f vs → FoC S' w' f vs
  | .nil, vs, _, h => h
  | .cons k t n ps r, vs, ⟨hp, hr⟩, ⟨a, c, us, vs', e, h1, h2, h3⟩ => by
    subst hp
    exact ⟨a, c, [], vs', e, .inl rfl, rfl, FoC.flat hr h3⟩
theorem OwnF.flat {T : Nat → Prop} (h : OwnF e S B w a n c f) (hf : Sh.flat f) (hc : Chg T w w') (hT : ∀ k, Sh.bk a k → ¬ T k) : OwnF e S B w' a n c f := by
  obtain ⟨h0, xs, h1, h2⟩ := h
  exact ⟨h0, xs, h1.chg hc hT, FoC.flat hf h2⟩
end
end Go.Sh
namespace Go.Proofs
open Go Go.Sh Go.RowKit

theorem good_nodes : ∀ (f : Fo), good f → ∀ x ∈ nodesF f, nodeOk x.k x.t x.n x.ps
  | .nil, _, x, hx => by simp [nodesF] at hx
  | .cons k t n ps r, h, x, hx => by
    simp only [nodesF, List.mem_cons, List.mem_append] at hx
    rcases hx with rfl | hx | hx
    · exact h.1
    · exact good_nodes ps h.2.1 x hx
    · exact good_nodes r h.2.2 x hx
theorem al_true {w : World} {T : TypeId} {cs : List Value} {A : Addr → World → Prop} (h : al w T cs A) : al w T cs fun p w1 => A p w1 ∧ True := ⟨h, trivial⟩

set_option maxRecDepth 20000 in
theorem breaksH_spec {R : Ending → World → Prop} {S : Nat → Prop} {w : World} (k : Int) (t : List UInt8) (n : Int) (a : Option Addr) (c : Nat) (f : Fo) (hs : f.size ≤ 1000000000) (hg : good f) (hf0 : SlF S w a f.len f)
    (h : ∀ a' n' c' w', SlF (fun k => S k ∨ w.heap.size ≤ k) w' a' n' (breaksF f) → Ext w w' → R (.returned (.slice a' n' c')) w') :
    Calls Tryz.prog F_hands_breaks ⟨[.agg ⟨[.int .i64 k, .string ⟨⟨t⟩⟩, .int .i64 n, .slice a f.len c]⟩]⟩ w R := by
  apply c_hands_breaks
  refine al_intro fun b5 w1 hb5 B5 e1 s1 => ?_
  refine al_intro fun b7 w2 hb7 B7 e2 s2 => ?_
  have E2 := ext_trans e1 e2
  refine ⟨a, f.len, c, (blk4 (B5.ext e2)).2.2.2, walk_spec fun bs w3 Bs e3 hbs => ⟨_, _, _, rfl, fun base => ?_⟩⟩
  have E3 := ext_trans E2 e3
  have B7 := B7.ext e3
  have l7 := B7.lt
  have ls := Bs.lt
  have z1 := e1.size
  have z3 := E3.size
  have hf : SlF (fun k => S k ∧ k < w.heap.size) w a f.len f := hf0.imp fun k hk hl => ⟨hk, hl⟩
  have hgn := good_nodes f hg
  rw [cd_hands_breaks_1]
  refine RFw_lawO anA_hands_breaks_1 anB_hands_breaks_1 (gf := F_hands_walk_1) rfl (by kernel_rfl) (xs := nodesF f) (E := NnE (fun k => (S k ∧ k < w.heap.size) ∨ k = bs) w3) (Rd := fun k => (S k ∧ k < w.heap.size) ∨ k = bs)
    (fun v1 he => (nodes_iterO f (by unfold small; omega) bs v1 (fun k hk => by have := he.size; omega) (Bs.ext he) ((hf.ext (ext_trans E3 he)).imp fun k hk _ => .inl hk) (.inr rfl)).mono ?_) (fun y vs hE => by obtain ⟨a', c', rfl, _⟩ := hE; rfl) (by decide) (fun k hk => by omega) (fun k => k = b7) (fun k hk => by omega)
    (fun pre S1 W => ∃ (oa : Option Addr) (on oc : Nat), Blk W b7 [.slice oa on oc] 22 ∧ OwnF 64 (fun k => S k ∧ k < w.heap.size) w3.heap.size W oa on oc (pickB pre) ∧ flat (pickB pre) ∧ pre.length ≤ f.size ∧ (∀ k, S1 k ↔ k = b7 ∨ bk oa k) ∧ Ext w W) (fun _ _ => False) (fun _ _ => False)
    ?_ (fun _ _ _ h => h.elim) (fun _ _ _ h => h.elim) ⟨none, 0, 0, B7, OwnF.nil _, trivial, by simp, fun k => by simp [bk], E3⟩ ?_ ?_ (fun _ _ _ _ _ _ _ h => h.elim) (fun _ _ _ _ _ _ _ h => h.elim)
  · rintro x vs ⟨a', c', rfl, hsl⟩
    exact ⟨a', c', rfl, hsl.keep' fun k hk hl => ⟨hk, by omega, ((he.block k (by omega))).symm⟩⟩
  · rintro pre S1 W W' ⟨oa, on, oc, g1, g2, g3, g4, g5, g6⟩ hc
    refine ⟨oa, on, oc, hc.blk g1 (fun hh => by omega), g2.flat g3 hc fun k hk hh => hh.2 ((g5 k).2 (.inr hk)), g3, g4, g5, ext_chgS g6 hc fun k hk => by omega⟩
  · rintro pre ⟨k1, t1, m1, ps1⟩ vs S1 W l ⟨a', c', rfl, hsl⟩ hpre hl1 hl2 hl3 hS1 ⟨oa, on, oc, g1, g2, g3, g4, g5, g6⟩
    refine Eq.mpr (er_hands_breaks_1 base _ _ _ _ _ _ _ _ _ _ _ _ _ _ _ _ _ _) ?_
    refine al_stL (by simp) (by intro u hu; simp only [List.mem_cons, List.not_mem_nil, or_false] at hu; rcases hu with rfl | rfl | rfl | rfl <;> rfl) fun bx W1 hbx hBx ex sx => ?_
    refine ⟨ex, fun W2 hU => ?_⟩
    have zx := ex.size
    have zU := hU.size
    have hX2 := upd_blk hU hBx (by omega)
    obtain ⟨x0, x1, x2, x3⟩ := blk4 hX2
    have hmem := mem_of_prefix hpre
    have hok := hgn _ hmem
    have hpl : pre.length + 1 ≤ f.size := by have := hpre.length_le; rw [nodesF_len] at this; simpa using this
    have hUc : Chg (fun k => k = l) W1 W2 := ⟨hU.os, hU.tape, hU.output, by omega, fun k _ hk => hU.block k hk⟩
    have hWc : Chg (fun k => k = l) W W2 := (Chg.of_ext ex).trans hUc
    have nl : ¬ bk oa l := fun hh => hl3 ((g5 l).2 (.inr hh))
    have h1 := hWc.blk g1 (by omega)
    have h2 := g2.flat g3 hWc fun k hk hh => nl (hh ▸ hk)
    have E2' : Ext w W2 := ext_chgS g6 hWc fun k hk => by omega
    have hpk := pickB_len pre
    have hon := g2.len
    intro K32 hK32
    have k32 : ∀ g, g = brkF k1 → K32 g W2 := by
      rintro _ rfl
      refine hK32 _ _ fun _ => br_cases (fun g => ?_) (fun g => ?_)
      · have hp1 : ps1 = .nil := by
          have hk : k1 = 2 ∨ k1 = 3 ∨ k1 = 4 := by simpa [brkF] using g
          exact Fo.eq_nil_of_len (hok.2.2.2.2.1 (by unfold partsF; simp; omega))
        have hpp : pickB (pre ++ [⟨k1, t1, m1, ps1⟩]) = (pickB pre).app (.one k1 t1 m1 ps1) := by rw [pickB_app]; simp [pickB, g]; rfl
        have hfl : flat (pickB (pre ++ [⟨k1, t1, m1, ps1⟩])) := by rw [hpp, flat_app]; exact ⟨g3, hp1, trivial⟩
        subst hp1
        have hdr := ext_drew W2
        have hD1 := h1.ext hdr
        have hD2 := h2.ext hdr
        obtain ⟨d0, d1, d2, d3⟩ := blk4 (hX2.ext hdr)
        unfold drw
        refine dr_ok ⟨oa, on, oc, by rw [hD1.cell]; rfl, k1, d0, t1, d1, m1, d2, a', 0, c', d3, ?_, trivial⟩
        refine al_true ?_
        refine OwnF.push2 slT_node hD2 (by show _ ≤ W2.heap.size; omega) (k := 0) (s := []) (m := 0) (a' := none) (c' := 0) (ps := .nil) (SlF.nil none) (by omega) (by omega) fun a4 n4 c4 w4 ho4 hc4 hn4 => ?_
        have zd : W2.drew.heap.size = W2.heap.size := rfl
        have z4 := hc4.size
        have hn4' := ho4.len
        have hon1 : on = (pickB pre).len := hon
        obtain ⟨g0, ha4, hidx, hst⟩ := ho4.lastNode
        have l7' := h1.lt
        have n7 : ¬ bk oa b7 := fun hh => by have := (h2.bk hh).1; omega
        have hb4 : Blk w4 b7 [.slice oa on oc] 22 := hc4.blk hD1 n7
        have n74 : ¬ bk a4 b7 := fun hh => (hn4 _ hh).elim n7 (by omega)
        have sub4 : ∀ j, bk a4 j → (S1 j ∨ W.heap.size ≤ j) := fun j hj => (hn4 j hj).elim (fun h => .inl ((g5 j).2 (.inr h))) (fun h => .inr (by omega))
        have cW2 : Chg (fun j => S1 j ∨ W.heap.size ≤ j) W2 w4 := (Chg.of_ext hdr).trans (hc4.mono fun j _ hj => .inl ((g5 j).2 (.inr hj)))
        have E4 : Ext w w4 := ext_chgS (ext_trans E2' hdr) hc4 fun j hj => by have := (h2.bk hj).1; omega
        -- what both orders end in
        have fin : ∀ w6, Chg (fun j => j = b7 ∨ bk a4 j) w4 w6 → Blk w6 b7 [.slice a4 n4 c4] 22 → OwnF 64 (fun k => S k ∧ k < w.heap.size) w3.heap.size w6 a4 n4 c4 ((pickB pre).app (.one k1 t1 m1 .nil)) →
            Chg (fun j => S1 j ∨ W.heap.size ≤ j) W2 w6 ∧ ∃ S' : Nat → Prop, (∀ j, S' j → (S1 j ∨ W.heap.size ≤ j) ∧ j < w6.heap.size) ∧ ∃ (oa : Option Addr) (on oc : Nat), Blk w6 b7 [.slice oa on oc] 22 ∧ OwnF 64 (fun k => S k ∧ k < w.heap.size) w3.heap.size w6 oa on oc (pickB (pre ++ [(⟨k1, t1, m1, .nil⟩ : Nn)])) ∧ flat (pickB (pre ++ [(⟨k1, t1, m1, .nil⟩ : Nn)])) ∧ (pre ++ [(⟨k1, t1, m1, .nil⟩ : Nn)]).length ≤ f.size ∧ (∀ j, S' j ↔ j = b7 ∨ bk oa j) ∧ Ext w w6 := by
          intro w6 hc6 hb6 ho6
          refine ⟨cW2.trans (hc6.mono fun j _ hj => hj.elim (fun h => .inl ((g5 j).2 (.inl h))) (sub4 j)), fun j => j = b7 ∨ bk a4 j, fun j hj => ⟨hj.elim (fun h => .inl ((g5 j).2 (.inl h))) (sub4 j), hj.elim (fun h => by have := hb6.lt; omega) (fun h => (ho6.bk h).2)⟩, a4, n4, c4, hb6, by rw [hpp]; exact ho6, hfl, by simpa using hpl, fun j => Iff.rfl, ?_⟩
          exact ext_chgS E4 hc6 fun j hj => hj.elim (fun h => by omega) (fun h => by have := (ho4.bk h).1; omega)
        rw [hon1]
        refine hidx _ ⟨?_, ?_, trivial⟩
        · refine hst k1 t1 m1 a' c' .nil _ (SlF.nil a') fun w5 ho5 hc5 => ⟨?_, trivial⟩
          refine dr_ok (stL_one (hc5.blk hb4 n74) rfl fun w6 q1 q2 q3 => ?_)
          refine fin w6 ((hc5.mono fun j _ h => .inr h).trans (q2.mono fun j _ h => .inl h)) q1 ?_
          have hfl5 : flat ((pickB pre).app (.one k1 t1 m1 .nil)) := by rw [← hpp]; exact hfl
          exact ho5.flat hfl5 q2 fun j hj he => n74 (he ▸ hj)
        · refine dr_ok (stL_one hb4 rfl fun w5 q1 q2 q3 => ⟨?_, trivial⟩)
          have hfl5 : flat ((pickB pre).app (.one 0 [] 0 .nil)) := by rw [flat_app]; exact ⟨g3, rfl, trivial⟩
          have ho5 := ho4.flat hfl5 q2 fun j hj he => n74 (he ▸ hj)
          obtain ⟨g1', ha5, hidx5, hst5⟩ := ho5.lastNode
          have : g1' = g0 := by rw [ha4] at ha5; simpa using ha5.symm
          subst this
          refine hst5 k1 t1 m1 a' c' .nil _ (SlF.nil a') fun w6 ho6 hc6 => ?_
          exact fin w6 ((q2.mono fun j _ h => .inl h).trans (hc6.mono fun j _ h => .inr h)) (hc6.blk q1 n74) ho6
      · have hpp : pickB (pre ++ [⟨k1, t1, m1, ps1⟩]) = pickB pre := by rw [pickB_app]; simp [pickB, g]
        refine ⟨Chg.refl _ _, S1, fun j hj => ⟨.inl hj, by have := (hS1 j hj).1; omega⟩, oa, on, oc, h1, by rw [hpp]; exact h2, by rw [hpp]; exact g3, by simpa using hpl, g5, E2'⟩
    refine ⟨k1, x0, br_split (fun g => k32 _ (by simp [brkF, g])) (fun g => ⟨k1, x0, br_split (fun g' => k32 _ (by simp [brkF, g'])) (fun g' => ⟨k1, x0, k32 _ (by simp [brkF, g, g'])⟩)⟩)⟩
  · rintro D S1 W hD1 hD2 hD3 hD4 ⟨oa, on, oc, g1, g2, g3, g4, g5, g6⟩
    have l7' := g1.lt
    have hne : b7 ≠ D := by omega
    refine ⟨oa, on, oc, by rw [g1.cell]; rfl, retD_one hD4 ?_⟩
    have hDb : ¬ bk oa D := fun hh => hD3 ((g5 D).2 (.inr hh))
    have hcp : Chg (fun k => k = D) W (W.putObj D (.deferred none)) := Chg.put W D _ rfl
    have ho := g2.flat g3 hcp fun k hk hh => hDb (hh ▸ hk)
    rw [pick_breaks f hg] at ho
    exact h oa on oc _ (ho.out.imp fun k hk _ => hk.imp (fun h => h.1) (fun h => by omega)) (ext_put g6 (by omega) _)
end Go.Proofs
