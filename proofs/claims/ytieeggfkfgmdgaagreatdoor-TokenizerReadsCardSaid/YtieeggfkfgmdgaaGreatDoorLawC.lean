/- The contracts of the functions that the law reaches, one after the other, and at the end the law's card. -/
import Derived.Test.YtieeggfkfgmdgaaGreatDoorLawB
import Derived.Lib.Repeat
import Derived.Lib.AppendZerosOnto
import Derived.Maps.Own
import Derived.DeepKeys4
import Derived.Lib.AtoiAll
import Derived.Lib.ItoaNum
import Derived.Lib.IndexAny
import Derived.Lib.IndexMore
import Derived.Lib.Strings
import Derived.Laws.Runes
import Derived.Laws.RangeString
import Derived.Laws.Strings3
import Derived.Scope
import Derived.WalkMore
import Derived.LoopN
import Derived.WalkSmall
import Derived.Deep.QuietTactic
import Derived.BigQuiet
import Derived.Lib.IndexBytes
import Derived.Deep.LoopGhost
import Derived.Lib.OthersKept
import Derived.Laws.RangeAny
import Derived.Lib.SmallJoins
import Derived.Carry
import Derived.ChangeSame
import Derived.RowKit
import Derived.OpenShut
import Derived.Test.YtieeggfkfgmdgaaGreatDoorCards
import Derived.Test.YtieeggfkfgmdgaaGreatDoorTie
import Derived.Deep.DeepHandedRow
import Derived.Lib.LaidTab
import Derived.Lib.LaidU8
import Derived.WalkKit
import Derived.ProofKit
import Derived.Laws.IdiomStrings
namespace Go.Proofs
open Go Go.Sh Go.RowKit

theorem places_walkO {yf : Fn} {ya yb : Array Value} {T : Nat → Prop} {J : List Pl → (Nat → Prop) → World → Prop} {Jx : (Nat → Prop) → World → Prop} {w0 : World} {xs : List Pl} {ty tw : Nat}
    (hTl : ∀ k, T k → k < w0.heap.size)
    (hJ : ∀ pre S W W', J pre S W → Chg (fun k => w0.heap.size ≤ k ∧ ¬ S k) W W' → J pre S W')
    (hbody : ∀ pre x vs S W, PlE T w0 x vs → pre ++ [x] <+: xs → w0.heap.size ≤ W.heap.size → (∀ k, S k → k < W.heap.size ∧ ¬ T k) → J pre S W → CallV Tryz.prog (.func yf ya yb) vs W fun e W' => Chg S W W' ∧
      ∃ S' : Nat → Prop, (∀ k, S' k → (S k ∨ W.heap.size ≤ k) ∧ k < W'.heap.size) ∧ ((e = .returned (.bool true) ∧ J (pre ++ [x]) S' W') ∨ (e = .returned (.bool false) ∧ Jx S' W'))) :
    ∀ (f : Fo) {R : Ending → World → Prop} {S : Nat → Prop} {w : World} {a : Option Addr} {n c : Nat} (d : Nat) (pre : List Pl), small f → d ≤ 17 → SlF T w0 a n f → w0.heap.size ≤ w.heap.size → (∀ k, T k → w.heap[k]? = w0.heap[k]?) → (∀ k, S k → k < w.heap.size ∧ ¬ T k) →
      Blk w ty [.func yf ya yb] 128 → Blk w tw [.func (.func 103) ⟨[]⟩ ⟨[.pointer (some ⟨ty, 0, none⟩), .pointer (some ⟨tw, 0, none⟩)]⟩] 124 → ¬ S ty → ¬ S tw →
      pre ++ placesF f d false <+: xs → J pre S w → (∀ S' W', Chg S w W' → (∀ k, S' k → (S k ∨ w.heap.size ≤ k) ∧ k < W'.heap.size) → J (pre ++ placesF f d false) S' W' → R (.returned (.bool true)) W') →
      (∀ S' W', Chg S w W' → (∀ k, S' k → (S k ∨ w.heap.size ≤ k) ∧ k < W'.heap.size) → Jx S' W' → R (.returned (.bool false)) W') →
      Calls Tryz.prog F_transcript_places_1_1 ⟨[.slice a n c, .int .i64 (d : Int), .pointer (some ⟨ty, 0, none⟩), .pointer (some ⟨tw, 0, none⟩)]⟩ w R := by
  intro f
  induction hz : f.size using Nat.strongRecOn generalizing f with
  | _ z ih =>
  intro R S w a n c d pre hs hd hf hw0 hT hS hBy hBw nSy nSw hpre hj hend hstop
  unfold small at hs
  apply c_transcript_places_1_1
  have hn := hf.1
  have hfl := f.len_le_size
  have lty := hBy.lt
  have ltw := hBw.lt
  refine ⟨fun tx i W m => ∃ (p r : Fo) (ps : List Pl) (S1 : Nat → Prop), f = p.app r ∧ i = p.len ∧ m = r.len ∧ Chg S w W ∧ (∀ k, S1 k → (S k ∨ w.heap.size ≤ k) ∧ k < W.heap.size) ∧ J ps S1 W ∧ pre ++ placesF f d false = ps ++ placesF r d tx,
    ⟨_, .nil, f, pre, S, rfl, rfl, rfl, Chg.refl _ _, fun k hk => ⟨.inl hk, (hS k hk).1⟩, hj, rfl⟩, ?_⟩
  rintro b _ W m ⟨p, r, xs', S1, hpr, rfl, rfl, hcW, hS1, hjW, heq⟩ _
  have hwW := hcW.size
  refine br_split (fun hlt => ?_) (fun hge => ?_)
  · obtain ⟨k, t, mm, ps, r, rfl⟩ := Fo.next hpr (by omega)
    have hsl := Fo.sub_len hpr
    have hsz := Fo.sub_size hpr
    have e1 : f = (p.app (.one k t mm ps)).app r := by rw [Fo.app_one_app]; exact hpr
    have i1 : IntKind.i64.wrap ((p.len : Int) + 1) = ((p.app (.one k t mm ps)).len : Int) := by rw [wrap_nat (by omega)]; simp [Fo.one]
    have hTW : ∀ k, T k → W.heap[k]? = w0.heap[k]? := fun k hk => (hcW.block k (by have := hTl k hk; omega) (fun h => (hS k h).2 hk)).trans (hT k hk)
    obtain ⟨q, a', c', hq, hTq, hql, hN⟩ := (hf.keep (S' := T) (w' := W) (fun k hk _ => ⟨hk, hTW k hk⟩) (by omega)).get hpr
    have hNT : SlF T w0 a' ps.len ps := hN.sl.keep' fun k hk _ => ⟨hk, hTl k hk, (hTW k hk).symm⟩
    refine hq _ ⟨k, hN.kind, t, hN.text, mm, hN.num, a', ps.len, c', hN.parts, ?_⟩
    refine al_stL (by simp) (by intro u hu; simp only [List.mem_cons, List.not_mem_nil, or_false] at hu; rcases hu with rfl | rfl | rfl | rfl <;> rfl) fun bx w1 hbx hBx e2 s2 => ?_
    have z2 := e2.size
    obtain ⟨x0, x1, x2, x3⟩ := blk4 hBx
    have hBy1 := (hcW.blk hBy nSy).ext e2
    have hBw1 := (hcW.blk hBw nSw).ext e2
    have n1y : ¬ S1 ty := fun h => (hS1 _ h).1.elim nSy (by omega)
    have n1w : ¬ S1 tw := fun h => (hS1 _ h).1.elim nSw (by omega)
    have n1x : ¬ S1 bx := fun h => by have := (hS1 _ h).2; omega
    refine dr_ok ⟨_, _, _, by rw [hBy1.cell]; rfl, k, x0, t, x1, mm, x2, a', ps.len, c', x3, ?_⟩
    have hj1 : J xs' S1 w1 := hJ _ _ _ _ hjW (Chg.of_ext e2)
    rw [placesF] at heq
    have hpx : xs' ++ [⟨k, t, mm, ps, d, b⟩] <+: xs := by
      refine List.IsPrefix.trans ?_ hpre
      rw [heq]
      exact ⟨_, by rw [List.append_assoc]; rfl⟩
    have hS1T : ∀ k, S1 k → k < w1.heap.size ∧ ¬ T k := fun j hj => ⟨by have := (hS1 j hj).2; omega, fun ht => (hS1 j hj).1.elim (fun h => (hS j h).2 ht) (fun h => by have := hTl j ht; omega)⟩
    refine CallV_mono (hbody xs' ⟨k, t, mm, ps, d, b⟩ _ S1 w1 ⟨a', c', rfl, hNT⟩ hpx (by omega) hS1T hj1) ?_
    rintro e w2 ⟨hc2, S2, hS2, hres⟩
    have z3 := hc2.size
    have hcw2 : Chg S w w2 := chg_then (hcW.trans (Chg.of_ext e2)) hc2 fun i hi hh => (hS1 i hh).1.elim id fun h => by omega
    have hS2w : ∀ k, S2 k → (S k ∨ w.heap.size ≤ k) ∧ k < w2.heap.size := fun j hj => ⟨(hS2 j hj).1.elim (fun h => (hS1 j h).1) (fun h => .inr (by omega)), (hS2 j hj).2⟩
    rcases hres with ⟨rfl, hj2⟩ | ⟨rfl, hjx⟩
    · refine ⟨true, rfl, ?_⟩
      have hBx2 := hc2.blk hBx n1x
      obtain ⟨y0, y1, y2, y3⟩ := blk4 hBx2
      have hBw2 := hc2.blk hBw1 n1w
      have hBy2 := hc2.blk hBy1 n1y
      have n2x : ¬ S2 bx := fun h => (hS2 _ h).1.elim n1x (by omega)
      refine br_split (fun hd16 => ?_) (fun hd16 => ?_)
      · have hd16' : d ≤ 16 := by omega
        rw [if_pos hd16'] at heq
        refine dr_ok ⟨.func 103, ⟨[]⟩, ⟨[.pointer (some ⟨ty, 0, none⟩), .pointer (some ⟨tw, 0, none⟩)]⟩, by rw [hBw2.cell]; rfl, a', ps.len, c', y3, by kernel_rfl, ?_⟩
        rw [wrap_nat (by omega)]
        refine ih _ (hz ▸ hsz) ps rfl (S := S2) (d + 1) (xs' ++ [⟨k, t, mm, ps, d, b⟩]) (by unfold small; omega) (by omega) hNT (by omega) (fun j hj => (hcw2.block j (by have := hTl j hj; omega) (fun h => (hS j h).2 hj)).trans (hT j hj))
          (fun j hj => ⟨(hS2 j hj).2, fun ht => (hS2 j hj).1.elim (fun h => (hS1T j h).2 ht) (fun h => by have := hTl j ht; omega)⟩) hBy2 hBw2 (fun h => (hS2 _ h).1.elim n1y (by omega)) (fun h => (hS2 _ h).1.elim n1w (by omega)) ?_ hj2 (fun S3 w3 hc3 hS3 hj3 => ?_) (fun S3 w3 hc3 hS3 hjx => ?_)
        · refine List.IsPrefix.trans ?_ hpre
          rw [heq]
          exact ⟨placesF r d (decide (k = 1)), by simp⟩
        · refine ⟨true, rfl, ?_⟩
          have hBx3 := hc3.blk hBx2 n2x
          refine ⟨k, (blk4 hBx3).1, r.len, by simp, _, r, _, S3, e1, i1, rfl, chg_then hcw2 hc3 fun i hi hh => (hS2w i hh).1.elim id fun h => by omega, fun j hj => ⟨(hS3 j hj).1.elim (fun h => (hS2w j h).1) (fun h => .inr (by omega)), (hS3 j hj).2⟩, hj3, ?_⟩
          rw [heq]; simp
        · exact ⟨false, rfl, hstop S3 _ (chg_then hcw2 hc3 fun i hi hh => (hS2w i hh).1.elim id fun h => by omega) (fun j hj => ⟨(hS3 j hj).1.elim (fun h => (hS2w j h).1) (fun h => .inr (by omega)), (hS3 j hj).2⟩) hjx⟩
      · rw [if_neg (by omega)] at heq
        refine ⟨k, y0, r.len, by simp, _, r, _, S2, e1, i1, rfl, hcw2, hS2w, hj2, ?_⟩
        rw [heq]; simp
    · exact ⟨false, rfl, hstop S2 _ hcw2 hS2w hjx⟩
  · obtain ⟨rfl, rfl⟩ := Fo.last hpr (by omega)
    have e : xs' = pre ++ placesF p d false := by rw [heq]; simp [placesF]
    rw [e] at hjW
    exact hend S1 _ hcW hS1 hjW

theorem places_iterO {T : Nat → Prop} (f : Fo) (hs : small f) {a : Option Addr} {n c : Nat} (b : Nat) (w : World) (hTl : ∀ k, T k → k < w.heap.size) (hb : Blk w b [.slice a n c] 22) (hf : SlF T w a n f) (hbT : T b) :
    IterO Tryz.prog F_transcript_places_1 [.pointer (some ⟨b, 0, none⟩)] (placesF f 0 false) (PlE T w) T w := by
  intro yf ya yb S0 J Jx R hS hJ hJx hbody h0 hend hstop
  apply c_transcript_places_1
  refine al_intro fun ty w1 hty hBy e1 s1 => ?_
  refine al_intro fun tw w1' htw hBw' e2' s2' => ?_
  refine stL_one hBw' rfl fun w2 hBw hcc hss => ?_
  have e2 : Ext w1 w2 := ext_chgS e2' hcc fun k hk => by omega
  have E := ext_trans e1 e2
  refine ⟨.func 103, ⟨[]⟩, ⟨[.pointer (some ⟨ty, 0, none⟩), .pointer (some ⟨tw, 0, none⟩)]⟩, by rw [hBw.cell]; rfl, dr_ok ⟨a, n, c, by rw [((hb.ext e1).ext e2).cell]; rfl, by kernel_rfl, ?_⟩⟩
  have hz := E.size
  have hz1 := e1.size
  refine places_walkO (w0 := w) (xs := placesF f 0 false) hTl hJ hbody f (S := S0) 0 [] hs (by omega) hf hz (fun k hk => E.block k (hTl k hk)) (fun k hk => ⟨by have := (hS k hk).1; omega, (hS k hk).2⟩) (hBy.ext e2) hBw (fun h => by have := (hS _ h).1; omega) (fun h => by have := (hS _ h).1; omega) (List.prefix_refl _)
    (hJ _ _ _ _ h0 (Chg.of_ext E)) (fun S' W' hc hS' hj => ?_) (fun S' W' hc hS' hjx => ?_)
  · exact ⟨_, rfl, hend S' _ (Nat.le_trans hz hc.size) hj⟩
  · exact ⟨_, rfl, hstop S' _ (Nat.le_trans hz hc.size) hjx⟩

/- the characters -/
theorem blk6 {w : World} {b : Nat} {v0 v1 v2 v3 v4 v5 : Value} {T : TypeId} (h : Blk w b [v0, v1, v2, v3, v4, v5] T) :
    w.cell? ((⟨b, 0, none⟩ : Addr).add 0 |>.add 0) = some v0 ∧ w.cell? ((⟨b, 0, none⟩ : Addr).add 0 |>.add 1) = some v1 := by
  simp only [add_none, h.cell]; exact ⟨rfl, rfl⟩
end Go.Proofs
namespace Go.Proofs
open Go Go.Sh Go.RowKit

/- leaving out bytes -/
/- the plain law -/
end Go.Proofs
namespace Go.Proofs
open Go Go.Sh Go.RowKit

/- rows of integers -/
end Go.Proofs
namespace Go.Proofs
open Go Go.Sh Go.RowKit

def hle (a : Int) : Fo → Prop
  | .nil => True
  | .cons k _ n ps r => ((k = 8 ∨ k = 9) → n ≤ a) ∧ hle a ps ∧ hle a r
theorem most_ge : ∀ (l : List Nn) (m : Int), m ≤ l.foldl (fun m (x : Nn) => if x.k = 8 ∨ x.k = 9 then max m x.n else m) m ∧ ∀ x ∈ l, (x.k = 8 ∨ x.k = 9) → x.n ≤ l.foldl (fun m (x : Nn) => if x.k = 8 ∨ x.k = 9 then max m x.n else m) m
  | [], m => ⟨Int.le_refl _, fun x hx => by simp at hx⟩
  | y :: l, m => by
    simp only [List.foldl_cons, List.mem_cons]
    obtain ⟨h1, h2⟩ := most_ge l (if y.k = 8 ∨ y.k = 9 then max m y.n else m)
    refine ⟨Int.le_trans ?_ h1, ?_⟩
    · split <;> omega
    · rintro x (rfl | hx) hk
      · rw [if_pos hk] at h1 ⊢; omega
      · exact h2 x hx hk
theorem most_le (b : Int) : ∀ (l : List Nn) (m : Int), m ≤ b → (∀ x ∈ l, (x.k = 8 ∨ x.k = 9) → x.n ≤ b) → l.foldl (fun m (x : Nn) => if x.k = 8 ∨ x.k = 9 then max m x.n else m) m ≤ b
  | [], m, h, _ => h
  | y :: l, m, h, hl => by
    simp only [List.foldl_cons]
    refine most_le b l _ ?_ fun x hx => hl x (by simp [hx])
    split
    · rename_i hk; have := hl y (by simp) hk; omega
    · exact h
theorem hands_nodes : ∀ {w : Bool} {f : Fo}, okF w f → ∀ x ∈ nodesF f, (x.k = 8 ∨ x.k = 9) → 1 ≤ x.n ∧ x.n ≤ 8
  | _, .nil, _, x, hx, _ => by simp [nodesF] at hx
  | w, .cons k t n ps r, ⟨h1, h2, h3⟩, x, hx, hk => by
    simp only [nodesF, List.mem_cons, List.mem_append] at hx
    rcases hx with rfl | hx | hx
    · simp only at hk ⊢
      unfold singleF at h1
      split at h1
      · cases h1
      split at h1
      · cases h1
      rw [if_neg (by omega), if_neg (by omega), if_neg (by omega), if_neg (by omega)] at h1
      try rw [if_pos hk] at h1
      split at h1
      · cases h1
      · omega
    · exact hands_nodes h2 x hx hk
    · exact hands_nodes h3 x hx hk
theorem FineF.most {f : Fo} (h : FineF f) : 0 ≤ mostN (nodesF f) ∧ mostN (nodesF f) ≤ 8 :=
  ⟨(most_ge (nodesF f) 0).1, most_le 8 _ 0 (by decide) fun x hx hk => (hands_nodes h.ok x hx hk).2⟩
end Go.Proofs
namespace Go.Proofs
open Go Go.Sh Go.RowKit

end Go.Proofs
namespace Go.Proofs
open Go Go.Sh Go.RowKit

/- the nodes of a list in order, with whether they are within unclear ones -/
end Go.Proofs
namespace Go.Proofs
open Go Go.Sh Go.RowKit

/- no additions and deletions -/
/- the pattern -/
/- Pattern -/
end Go.Proofs
namespace Go.Proofs
open Go Go.Sh Go.RowKit

end Go.Proofs
namespace Go.Sh
open Go Go.RowKit

/- entering a round: the loop's variable is laid, the record turns -/
theorem round_in {W : World} {T : TypeId} {zs vs : List Value} {l : Nat} {B : Addr → World → World → Prop} (hl : l < W.heap.size) (hlen : vs.length = zs.length) (ho : ∀ v ∈ vs, v.oneCell' = true)
    (h : ∀ bx W1 W2, bx = W.heap.size → Ext W W1 → Blk W2 bx vs T → Chg (fun k => k = l) W W2 → W2.heap.size = bx + 1 → B ⟨bx, 0, none⟩ W1 W2) :
    al W T zs fun p w1 => stL w1 p 0 vs fun w2 => Ext W w2 ∧ ∀ W2 : World, Upd l w2 W2 → B p w2 W2 := by
  refine al_stL hlen ho fun bx w1 hbx hBx e2 s2 => ⟨e2, fun W2 hU => ?_⟩
  have zU := hU.size
  have hUc : Chg (fun k => k = l) w1 W2 := ⟨hU.os, hU.tape, hU.output, by omega, fun k _ hk => hU.block k hk⟩
  exact h bx w1 W2 hbx e2 (hBx.keep (hU.block bx (by omega))) ((Chg.of_ext e2).trans hUc) (by omega)

/- a loop over an iterator that counts in one cell -/
theorem RFw_count {α : Type} {P : Program} {N : Nat} {g : Operand} {ps : Array Tmp} {assign body : Code} {env : Env} {ds : List Deferred} {w : World} {x : Nat} {Qn Qr Qx : List Deferred → World → Prop}
    (xA xB : Ann) {gf : FuncId} {cap : List Value} (hg : ev env g = .func (.func gf) ⟨[]⟩ ⟨cap⟩) (hok : okFn P gf = true)
    {xs : List α} {E : α → List Value → Prop} {Rd : Nat → Prop} (hit : ∀ w1, Ext w w1 → IterO P gf cap xs E Rd w1)
    (hps : ∀ y vs, E y vs → vs.length = ps.size) (hpN : ∀ p ∈ ps.toList, p < N)
    (hRd : ∀ k, Rd k → k < w.heap.size) {w0 : World} (hw0 : Ext w0 w) {b5 : Nat} {T5 : TypeId} (h0 : w0.heap.size ≤ b5) (hn5 : ¬ Rd b5) (val : List α → Int) (B5 : Blk w b5 [.int .i64 (val [])] T5)
    (hround : ∀ pre y vs W l, E y vs → pre ++ [y] <+: xs → w.heap.size ≤ l → l < W.heap.size → b5 ≠ l → Blk W b5 [.int .i64 (val pre)] T5 → Ext w0 W →
      ∀ Kn Kr Kx : World → World → Prop, (∀ W2 W', Ext w0 W2 → Chg (fun k => k = b5) W2 W' → Blk W' b5 [.int .i64 (val (pre ++ [y]))] T5 → Kn W2 W') → fragV P N xA xB assign body l x Kn Kr Kx (updPs ps.toList vs env) W)
    (hn : ∀ D W, w.heap.size ≤ D → D < W.heap.size → b5 ≠ D → W.heap[D]? = some (.deferred (some [])) → Blk W b5 [.int .i64 (val xs)] T5 → Ext w0 W → Qn ({ target := .collected D, args := #[] } :: ds) W) :
    RFw P none N (.rangeFunc g ps assign body) env ds w x Qn Qr Qx := by
  have l5 := B5.lt
  refine RFw_lawO xA xB hg hok (xs := xs) (E := E) (Rd := Rd) hit hps hpN hRd (fun k => k = b5) (fun k hk => ⟨hk ▸ l5, hk ▸ hn5⟩)
    (fun pre S1 W => Blk W b5 [.int .i64 (val pre)] T5 ∧ (∀ k, S1 k ↔ k = b5) ∧ Ext w0 W) (fun _ _ => False) (fun _ _ => False)
    ?_ (fun _ _ _ h => h.elim) (fun _ _ _ h => h.elim) ⟨B5, fun k => Iff.rfl, hw0⟩ ?_ ?_ (fun _ _ _ _ _ _ _ h => h.elim) (fun _ _ _ _ _ _ _ h => h.elim)
  · rintro pre S1 W W' ⟨g1, g2, g3⟩ hc
    have z := hw0.size
    refine ⟨hc.blk g1 (fun hh => hh.2 ((g2 _).2 rfl)), g2, ?_⟩
    exact g3.trans ⟨hc.os, hc.tape, hc.output, hc.size, fun k hk => hc.block k (Nat.lt_of_lt_of_le hk g3.size) (fun hh => by have := hh.1; omega)⟩
  · rintro pre y vs S1 W l hE hpre hl1 hl2 hl3 hS1 ⟨g1, g2, g3⟩
    have nl : b5 ≠ l := fun he => hl3 ((g2 l).2 he.symm)
    refine hround pre y vs W l hE hpre hl1 hl2 nl g1 g3 _ _ _ fun W2 W' he hc hb => ⟨hc.mono fun k _ hk => .inl ((g2 k).2 hk), fun k => k = b5, fun k hk => ⟨.inl ((g2 k).2 hk), hk ▸ hb.lt⟩, hb, fun k => Iff.rfl, ?_⟩
    exact he.trans ⟨hc.os, hc.tape, hc.output, hc.size, fun k hk => hc.block k (Nat.lt_of_lt_of_le hk he.size) (fun hh => by omega)⟩
  · rintro D S1 W hD1 hD2 hD3 hD4 ⟨g1, g2, g3⟩
    exact hn D W hD1 hD2 (fun he => hD3 ((g2 D).2 he.symm)) hD4 g1 g3
end Go.Sh
namespace Go.Sh
open Go Go.RowKit

/- how the elements of a slice lie in cells -/
structure Enc (α : Type) where
  enc : α → List Value
  size : Nat
  len : ∀ x, (enc x).length = size
  pos : 0 < size
  one : ∀ x, ∀ v ∈ enc x, v.oneCell' = true
section
variable {α : Type} {E : Enc α}
def Enc.row (E : Enc α) (l : List α) : List Value := l.flatMap E.enc
@[simp] theorem row_nil : E.row [] = [] := rfl
theorem row_cons (x : α) (l : List α) : E.row (x :: l) = E.enc x ++ E.row l := rfl
theorem row_app (l m : List α) : E.row (l ++ m) = E.row l ++ E.row m := by simp [Enc.row]
theorem row_snoc (l : List α) (x : α) : E.row (l ++ [x]) = E.row l ++ E.enc x := by simp [Enc.row]
theorem row_len : ∀ l : List α, (E.row l).length = l.length * E.size
  | [] => by simp
  | x :: l => by rw [row_cons, List.length_append, E.len, row_len l, List.length_cons, Nat.add_mul, Nat.one_mul]; omega
theorem row_one (l : List α) : ∀ v ∈ E.row l, v.oneCell' = true := by
  intro v hv
  obtain ⟨x, _, hx⟩ := List.mem_flatMap.1 hv
  exact E.one x v hx
theorem row_get {x : α} : ∀ {l : List α} {i j : Nat}, l[i]? = some x → j < E.size → (E.row l)[i * E.size + j]? = (E.enc x)[j]?
  | [], i, j, h, _ => by simp at h
  | y :: l, 0, j, h, hj => by
    simp at h; subst h
    rw [row_cons, Nat.zero_mul, Nat.zero_add, List.getElem?_append_left (by rw [E.len]; exact hj)]
  | y :: l, i + 1, j, h, hj => by
    simp at h
    rw [row_cons, List.getElem?_append_right (by rw [E.len, Nat.add_mul, Nat.one_mul]; omega), E.len, show (i + 1) * E.size + j - E.size = i * E.size + j by rw [Nat.add_mul, Nat.one_mul]; omega]
    exact row_get h hj
theorem putAt_app : ∀ (vs : List Value) (a b : List Value) (o : Nat), putAt (a ++ b) (a.length + o) vs = a ++ putAt b o vs
  | [], a, b, o => rfl
  | v :: vs, a, b, o => by
    rw [putAt, putAt, List.set_append_right _ _ (by omega), show a.length + o - a.length = o by omega, Nat.add_assoc, putAt_app vs a (b.set o v) (o + 1)]
theorem putAt_head : ∀ (vs a : List Value) (rest : List Value), vs.length = a.length → putAt (a ++ rest) 0 vs = vs ++ rest := by
  intro vs a rest h
  apply List.ext_getElem?
  intro i
  rw [putAt_get]
  by_cases hi : i < vs.length
  · rw [if_pos ⟨by omega, by omega, by simp; omega⟩, List.getElem?_append_left (by omega)]; simp
  · rw [if_neg (by omega), List.getElem?_append_right (by omega), List.getElem?_append_right (by omega), h]
theorem row_put {x : α} {rest : List Value} : ∀ {l : List α} {i : Nat}, i < l.length → putAt (E.row l ++ rest) (i * E.size) (E.enc x) = E.row (l.set i x) ++ rest
  | [], i, h => by simp at h
  | y :: l, 0, h => by
    rw [Nat.zero_mul, row_cons, List.set_cons_zero, row_cons, List.append_assoc, putAt_head _ _ _ (by rw [E.len, E.len]), List.append_assoc]
  | y :: l, i + 1, h => by
    rw [row_cons, List.set_cons_succ, row_cons, List.append_assoc, List.append_assoc, show (i + 1) * E.size = (E.enc y).length + i * E.size by rw [E.len, Nat.add_mul, Nat.one_mul]; omega, putAt_app, row_put (by simpa using h)]

/- a slice that can be read -/
def RowAt (E : Enc α) (S : Nat → Prop) (w : World) (a : Option Addr) (n : Nat) (l : List α) : Prop := n = l.length ∧ At S w a (E.row l)
section
variable {S S' : Nat → Prop} {w w' : World} {a : Option Addr} {n : Nat} {l : List α}
theorem RowAt.keep (h : RowAt E S w a n l) (hs : ∀ k, S k → k < w.heap.size → S' k ∧ w'.heap[k]? = w.heap[k]?) (hz : w.heap.size ≤ w'.heap.size) : RowAt E S' w' a n l := ⟨h.1, h.2.keep hs hz⟩
theorem RowAt.ext (h : RowAt E S w a n l) (he : Ext w w') : RowAt E S w' a n l := h.keep (fun k hk hl => ⟨hk, he.block k hl⟩) he.size
theorem RowAt.chg {T : Nat → Prop} (h : RowAt E S w a n l) (he : Chg T w w') (hd : ∀ k, S k → ¬ T k) : RowAt E S w' a n l := h.keep (fun k hk hl => ⟨hk, he.block k hl (hd k hk)⟩) he.size
theorem RowAt.imp (h : RowAt E S w a n l) (hs : ∀ k, S k → k < w.heap.size → S' k) : RowAt E S' w a n l := h.keep (fun k hk hl => ⟨hs k hk hl, rfl⟩) (Nat.le_refl _)
theorem RowAt.nil (a : Option Addr) : RowAt E S w a 0 [] := ⟨rfl, .inl rfl⟩
theorem RowAt.get (h : RowAt E S w a n l) {i : Nat} {x : α} (hi : l[i]? = some x) :
    ∃ b o, (∀ K : Addr → Prop, K ⟨b, o, none⟩ → idx a n (i : Int) E.size K) ∧ S b ∧ b < w.heap.size ∧ ∀ j v, (E.enc x)[j]? = some v → w.cell? ⟨b, o + j, none⟩ = some v := by
  have hlt := (List.getElem?_eq_some_iff.1 hi).1
  have hn := h.1
  rcases h.2 with h2 | ⟨b, o, rfl, hb, hbl, hc⟩
  · have := congrArg List.length h2
    rw [row_len] at this
    simp only [List.length_nil] at this
    rcases Nat.mul_eq_zero.1 this with h | h
    · omega
    · have := E.pos; omega
  refine ⟨b, o + i * E.size, fun K hK => ⟨by omega, by omega, ?_⟩, hb, hbl, fun j v hj => ?_⟩
  · show K _
    rw [add_none, Int.toNat_natCast]; exact hK
  · rw [Nat.add_assoc]
    refine hc _ _ ?_
    rw [row_get hi (by have := (List.getElem?_eq_some_iff.1 hj).1; rw [E.len] at this; exact this)]; exact hj
end

/- a slice that the call has made -/
abbrev OwnL (E : Enc α) (w : World) (B : Nat) (e : TypeId) (a : Option Addr) (n c : Nat) (l : List α) : Prop := Owns w B e E.size a n c (E.row l)
section
variable {w w' : World} {B : Nat} {e : TypeId} {a : Option Addr} {n c : Nat} {l : List α}
theorem OwnL.length (h : OwnL E w B e a n c l) : l.length = n := by
  have := h.len
  rw [row_len] at this
  exact Nat.eq_of_mul_eq_mul_right E.pos this
theorem OwnL.out (h : OwnL E w B e a n c l) : RowAt E (bk a) w a n l := by
  refine ⟨h.length.symm, ?_⟩
  by_cases hn : 0 < n
  · obtain ⟨g, rfl, hg, hc⟩ := h.cell hn
    exact .inr ⟨g, 0, rfl, by simp [bk], (h.bk (by simp [bk])).2, fun j v hj => by rw [Nat.zero_add]; exact hc j v hj⟩
  · have hx : l = [] := List.eq_nil_of_length_eq_zero (by rw [h.length]; omega)
    subst hx
    exact .inl rfl
theorem OwnL.push {P : Program} {t ty : TypeId} {bytes : Nat} {z : Value} (hT : SlT P t e E.size bytes z) (h : OwnL E w B e a n c l) (hB : B ≤ w.heap.size) (x : α) (hlen : n + 1 ≤ 4611686018427387904) (hbytes : (n + 1) * bytes ≤ 140737488355328) {K : Option Addr → Nat → Nat → World → Prop}
    (hk : ∀ a' c'' w', OwnL E w' B e a' (n + 1) c'' (l ++ [x]) → Chg (bk a) w w' → (∀ k, bk a' k → bk a k ∨ w.heap.size ≤ k) → K a' (n + 1) c'' w') :
    al w e (E.enc x) fun p w1 => app P [t, t] ty (.slice a n c) (.slice (some p) 1 1) w1 K :=
  app_one2 hT h hB _ (E.len x) (E.one x) hlen hbytes fun a' c'' w' ho hc hn => hk a' c'' w' (by unfold OwnL; rw [row_snoc]; exact ho) hc hn
theorem OwnL.pushAll {P : Program} {t ty : TypeId} {bytes : Nat} {z : Value} (hT : SlT P t e E.size bytes z) (h : OwnL E w B e a n c l) (hB : B ≤ w.heap.size) {S : Nat → Prop} {a1 : Option Addr} {m c1 : Nat} {l' : List α} (hg : RowAt E S w a1 m l') (hlen : n + m ≤ 4611686018427387904) (hbytes : (n + m) * bytes ≤ 140737488355328) {K : Option Addr → Nat → Nat → World → Prop}
    (hk : ∀ a' c'' w', OwnL E w' B e a' (n + m) c'' (l ++ l') → Chg (bk a) w w' → (∀ k, bk a' k → bk a k ∨ w.heap.size ≤ k) → K a' (n + m) c'' w') :
    app P [t, t] ty (.slice a n c) (.slice a1 m c1) w K :=
  app_own2 hT h hB (E.row l') (by rw [row_len, ← hg.1]) hg.2 (row_one l') hlen hbytes fun a' c'' w' ho hc hn => hk a' c'' w' (by unfold OwnL; rw [row_app]; exact ho) hc hn
/- writing one element -/
theorem OwnL.store (h : OwnL E w B e a n c l) {i : Nat} (hi : i < n) (x : α) :
    ∃ g, a = some ⟨g, 0, none⟩ ∧ (∀ K : Addr → Prop, K ⟨g, i * E.size, none⟩ → idx a n (i : Int) E.size K) ∧
      ∀ K : World → Prop, (∀ w', OwnL E w' B e a n c (l.set i x) → Chg (bk a) w w' → w'.heap.size = w.heap.size → K w') → stL w ⟨g, i * E.size, none⟩ 0 (E.enc x) K := by
  have hl := h.length
  rcases h.2 with h1 | ⟨g, cap, cur, e1, e2, e3, e4, e5, e6, e7⟩
  · omega
  obtain ⟨rfl, _, rfl⟩ : a = some ⟨g, 0, none⟩ ∧ True ∧ c = cap := by simpa using e1
  have hB : Blk w g cur.toList e := e3
  have hcl : cur.toList.length = c * E.size := by simpa using e6
  have hcur : cur.toList = E.row l ++ cur.toList.drop (n * E.size) := by rw [← e7, List.take_append_drop]
  have hin : i * E.size + E.size ≤ n * E.size := by
    have : (i + 1) * E.size ≤ n * E.size := Nat.mul_le_mul_right _ hi
    rwa [Nat.add_mul, Nat.one_mul] at this
  have hnc : n * E.size ≤ c * E.size := Nat.mul_le_mul_right _ e4
  refine ⟨g, rfl, fun K hK => ⟨by omega, by omega, ?_⟩, fun K hK => ?_⟩
  · show K _
    rw [add_none, Int.toNat_natCast, Nat.zero_add]; exact hK
  refine stL_blk hB (by rw [E.len]; omega) (E.one x) fun w' b1 b2 b3 b4 b5 b6 => ?_
  have hc : Chg (bk (some (⟨g, 0, none⟩ : Addr))) w w' := ⟨b4, b5, b6, by omega, fun k' _ hk => b2 k' fun e => hk (by simp [bk, e])⟩
  rw [Nat.add_zero, hcur, row_put (by omega)] at b1
  refine hK w' ⟨by rw [row_len, List.length_set, hl], .inr ⟨g, c, ⟨_⟩, rfl, e2, b1, e4, e5, ?_, ?_⟩⟩ hc b3
  · show (E.row (l.set i x) ++ cur.toList.drop (n * E.size)).length = c * E.size
    rw [List.length_append, List.length_drop, hcl, row_len, List.length_set, hl]; omega
  · show List.take (n * E.size) (E.row (l.set i x) ++ _) = _
    rw [List.take_append_of_le_length (by rw [row_len, List.length_set, hl]; exact Nat.le_refl _), List.take_of_length_le (by rw [row_len, List.length_set, hl]; exact Nat.le_refl _)]
end

/- making a row of zeros -/
theorem row_replicate (x : α) (n : Nat) : E.row (List.replicate n x) = (List.replicate n (E.enc x)).flatten := by
  induction n with
  | zero => rfl
  | succ n ih => rw [List.replicate_succ, row_cons, ih, List.replicate_succ, List.flatten_cons]
theorem OwnL.made {w : World} {b B : Nat} {e : TypeId} {x : α} {n : Nat} (h : Blk w b (List.replicate n (E.enc x)).flatten e) (hB : B ≤ b) (hn : n ≤ maxLen) : OwnL E w B e (some ⟨b, 0, none⟩) n n (List.replicate n x) := by
  rw [← row_replicate] at h
  refine ⟨by rw [row_len, List.length_replicate], .inr ⟨b, n, _, rfl, hB, h, Nat.le_refl _, hn, ?_, ?_⟩⟩
  · show (E.row (List.replicate n x)).length = n * E.size
    rw [row_len, List.length_replicate]
  · show List.take _ (E.row _) = _
    rw [List.take_of_length_le (by rw [row_len, List.length_replicate]; exact Nat.le_refl _)]
end

/- the elements that occur -/
def encI : Enc Int := ⟨fun i => [.int .i64 i], 1, fun _ => rfl, by decide, by intro x v hv; simp only [List.mem_singleton] at hv; subst hv; rfl⟩
def encStr : Enc (List UInt8) := ⟨fun s => [.string ⟨⟨s⟩⟩], 1, fun _ => rfl, by decide, by intro x v hv; simp only [List.mem_singleton] at hv; subst hv; rfl⟩
end Go.Sh
namespace Go.Proofs
open Go Go.Sh Go.RowKit

/- the lost characters -/
end Go.Proofs
namespace Go.Proofs
open Go Go.Sh Go.RowKit

/- the unclear characters -/
/- the reference -/
end Go.Proofs
namespace Go.Proofs
open Go Go.Sh Go.RowKit

/- positions -/
abbrev Ps := List UInt8 × Int
def posN (at_ : Ps) (x : Nn) : Ps × Nat :=
  if x.k = 1 then (at_, x.t.length) else if x.k = 6 then (at_, x.n.toNat) else if x.k = 3 then ((x.t, 0), 0) else if x.k = 2 then ((at_.1, at_.2 + 1), 0) else (at_, 0)
def endL : Ps → List Nn → Ps
  | p, [] => p
  | p, x :: l => endL (posN p x).1 l
theorem endL_app : ∀ (l : List Nn) (p : Ps) (m : List Nn), endL p (l ++ m) = endL (endL p l) m
  | [], _, _ => rfl
  | x :: l, p, m => by simp only [List.cons_append, endL, endL_app l]
theorem endL_bd : ∀ (l : List Nn) (p : Ps) (B : Int), 0 ≤ p.2 → p.2 ≤ B → 0 ≤ B → 0 ≤ (endL p l).2 ∧ (endL p l).2 ≤ B + l.length
  | [], p, B, h0, h1, h2 => ⟨h0, by simp [endL]; omega⟩
  | x :: l, p, B, h0, h1, h2 => by
    rw [endL]
    have key : 0 ≤ (posN p x).1.2 ∧ (posN p x).1.2 ≤ B + 1 := by
      unfold posN
      split
      · exact ⟨h0, by show p.2 ≤ _; omega⟩
      · split
        · exact ⟨h0, by show p.2 ≤ _; omega⟩
        · split
          · exact ⟨Int.le_refl _, by show (0 : Int) ≤ _; omega⟩
          · split
            · exact ⟨by show 0 ≤ p.2 + 1; omega, by show p.2 + 1 ≤ _; omega⟩
            · exact ⟨h0, by show p.2 ≤ _; omega⟩
    have := endL_bd l (posN p x).1 (B + 1) key.1 key.2 (by omega)
    exact ⟨this.1, by simp only [List.length_cons]; omega⟩

structure PTo (b6 b10 : Nat) (oa : Option Addr) (W : World) (oa' : Option Addr) (W' : World) : Prop where
  chg : Chg (fun j => j = b6 ∨ j = b10 ∨ bk oa j) W W'
  bk : ∀ k, Sh.bk oa' k → Sh.bk oa k ∨ W.heap.size ≤ k
section
variable {b6 b10 B : Nat} {W W' W'' : World} {oa oa' oa'' : Option Addr} {L : List Ps} {p : Ps}
theorem PTo.refl (W : World) (oa : Option Addr) : PTo b6 b10 oa W oa W := ⟨Chg.refl _ _, fun _ h => .inl h⟩
theorem PTo.trans (h6 : b6 < W.heap.size) (h10 : b10 < W.heap.size) (h : PTo b6 b10 oa W oa' W') (k : PTo b6 b10 oa' W' oa'' W'') : PTo b6 b10 oa W oa'' W'' :=
  ⟨chg_then h.chg k.chg fun i hi hh => hh.elim .inl fun hh => hh.elim (fun e => .inr (.inl e)) fun hh => (h.bk i hh).elim (fun e => .inr (.inr e)) (fun e => by omega),
   fun j hj => (k.bk j hj).elim (h.bk j) (fun e => .inr (Nat.le_trans h.chg.size e))⟩
theorem PTo.ext (h : Ext W W') : PTo b6 b10 oa W oa W' := ⟨Chg.of_ext h, fun _ h => .inl h⟩
end

end Go.Proofs
namespace Go.Proofs
open Go Go.Sh Go.RowKit

theorem blk2 {w : World} {b : Nat} {v0 v1 : Value} {T : TypeId} (h : Blk w b [v0, v1] T) : w.cell? ((⟨b, 0, none⟩ : Addr).add 0) = some v0 ∧ w.cell? ((⟨b, 0, none⟩ : Addr).add 1) = some v1 := by
  simp only [add_none, h.cell]; exact ⟨rfl, rfl⟩

end Go.Proofs
namespace Go.Proofs
open Go Go.Sh Go.RowKit

/- rows of successive equal positions -/
/- where rows begin -/
/- characters within words -/
end Go.Proofs
namespace Go.Proofs
open Go Go.Sh Go.RowKit

end Go.Proofs
namespace Go.Proofs
open Go Go.Sh Go.RowKit

/- Positions -/
/- the example of the chapter -/
end Go.Proofs
namespace Go.Proofs
open Go Go.Sh Go.RowKit

/- whether a node of one of two kinds stands in a list -/
/- without pages and lines all stands at one place -/
end Go.Proofs
namespace Go.Proofs
open Go Go.Sh Go.RowKit

end Go.Proofs
namespace Go.Proofs
open Go Go.Sh Go.RowKit

/- where the characters of a position stand -/
end Go.Proofs
namespace Go.Proofs
open Go Go.Sh Go.RowKit

/- the characters of a position -/
end Go.Proofs
namespace Go.Proofs
open Go Go.Sh Go.RowKit

end Go.Proofs
namespace Go.Proofs
open Go Go.Sh Go.RowKit

/- growing the nil slice: room is made, nothing is held -/
end Go.Proofs
namespace Go.Proofs
open Go Go.Sh Go.RowKit

theorem slA_zero (b c s : Nat) : slA (some ⟨b, 0, none⟩) c 0 s = some ⟨b, 0, none⟩ := by
  unfold slA; split <;> simp [Addr.add]
end Go.Proofs
namespace Go.Proofs
open Go Go.Sh Go.RowKit

end Go.Proofs
namespace Go.Proofs
open Go Go.Sh Go.RowKit

/- names of pages -/
end Go.Proofs
namespace Go.Proofs
open Go Go.Sh Go.RowKit

/- two lists with a verse between them -/
end Go.Proofs
namespace Go.Proofs
open Go Go.Sh Go.RowKit

end Go.Proofs
namespace Go.Sh
open Go Go.RowKit
open Go.WideElems (Fit)
open Go.Maps (Keyed)

/- a map that stands in a block, as a partial function of keys -/
def anyV : Value → Option (DataW Unit × List MemPlace) := fun _ => some (.nil, [])
def MapT {K V : Type} (P : Program) (k : TypeId) (eK : K → Value) (eV : V → Value) (w : World) (b n : Nat) (f : K → Option V) : Prop :=
  ∃ es clock, w.heap[b]? = some (.map es clock) ∧ Fit P k anyV es clock ∧ es.size ≤ n ∧
    ∀ x, (f x = none ∧ ∀ e ∈ es.toList, e.key ≠ eK x) ∨ ∃ v, f x = some v ∧ ∃ e ∈ es.toList, e.key = eK x ∧ e.val = eV v

section
variable {K V : Type} {P : Program} {k t e : TypeId} {eK : K → Value} {eV : V → Value} {w w' : World} {b n : Nat} {f : K → Option V}
theorem MapT.made (w : World) : MapT P k eK eV (w.alloc (.map #[] 0)) w.heap.size 0 (fun _ => none) :=
  ⟨#[], 0, (MapKept.heap_alloc w _).1, ⟨by simp, MapKept.stamped_empty 0, by simp⟩, Nat.le_refl _, fun x => .inl ⟨rfl, by simp⟩⟩
theorem MapT.lt (h : MapT P k eK eV w b n f) : b < w.heap.size := by
  obtain ⟨es, clock, hb, _⟩ := h
  exact (Array.getElem?_eq_some_iff.1 hb).1
theorem MapT.keep (h : MapT P k eK eV w b n f) (hw : w'.heap[b]? = w.heap[b]?) : MapT P k eK eV w' b n f := by
  obtain ⟨es, clock, hb, h⟩ := h
  exact ⟨es, clock, hw.trans hb, h⟩
theorem MapT.ext (h : MapT P k eK eV w b n f) (hw : Ext w w') : MapT P k eK eV w' b n f := h.keep (hw.block b h.lt)
theorem MapT.chg {S : Nat → Prop} (h : MapT P k eK eV w b n f) (hw : Chg S w w') (hs : ¬ S b) : MapT P k eK eV w' b n f := h.keep (hw.block b h.lt hs)
theorem MapT.mono (h : MapT P k eK eV w b n f) {m : Nat} (hm : n ≤ m) : MapT P k eK eV w b m f := by
  obtain ⟨es, clock, hb, F, hs, h⟩ := h
  exact ⟨es, clock, hb, F, Nat.le_trans hs hm, h⟩
theorem MapT.congr {g : K → Option V} (h : MapT P k eK eV w b n f) (hg : ∀ x, f x = g x) : MapT P k eK eV w b n g := by
  rw [← (funext hg : f = g)]; exact h

theorem MapT.look (h : MapT P k eK eV w b n f) (Kd : Keyed P k) (ht : P.underlying t = some (.map k e)) {z : Value} (hz : (zeroValue e).run P w = .ok z w) {x : K} {kl : Lit} (hkey : keyOf P k (eK x) = some kl) :
    lkAt P t (.map (some b)) (eK x) w (((f x).map eV).getD z) := by
  obtain ⟨es, clock, hb, F, _, hf⟩ := h
  unfold lkAt
  rcases Maps.fit_look false Kd ht hz hb F hkey with ⟨hrun, hno, _⟩ | ⟨e0, y, h1, h2, hrun, _⟩
  · rcases hf x with ⟨h0, _⟩ | ⟨v, _, e1, he1, hk1, _⟩
    · rw [h0]; exact hrun
    · exact absurd hk1 (hno e1 he1)
  · rcases hf x with ⟨_, h0⟩ | ⟨v, hv, e1, he1, hk1, hv1⟩
    · exact absurd h2 (h0 e0 h1)
    · rw [hv]
      have : e0 = e1 := by
        have hn : es.toList.Pairwise (fun x y => x.key ≠ y.key) := ((MapKept.stamped_iff es clock).1 F.stamped).2.2
        obtain ⟨i, hi, rfl⟩ := List.getElem_of_mem h1
        obtain ⟨j, hj, rfl⟩ := List.getElem_of_mem he1
        have : i = j := by
          apply Classical.byContradiction
          intro hne
          rcases Nat.lt_or_gt_of_ne hne with hl | hl
          · exact List.pairwise_iff_getElem.1 hn i j hi hj hl (h2.trans hk1.symm)
          · exact List.pairwise_iff_getElem.1 hn j i hj hi hl (hk1.trans h2.symm)
        subst this; rfl
      subst this
      rw [hv1] at hrun
      simpa using hrun
end
end Go.Sh
namespace Go.Proofs
open Go Go.Sh Go.RowKit

/- collect: calling a function with each node of a kind -/
def ofK (kind : Int) (f : Fo) : List Nn := (nodesF f).filter fun x => decide (x.k = kind)
theorem ofK_cons (kind : Int) (k t n) (ps r : Fo) : ofK kind (.cons k t n ps r) = (if k = kind then [⟨k, t, n, ps⟩] else []) ++ (ofK kind ps ++ ofK kind r) := by
  unfold ofK
  rw [nodesF, List.filter_cons, List.filter_append]
  by_cases h : k = kind
  · simp [h]
  · simp [h]
/- Pages -/
theorem zero_run {P : Program} {T : TypeId} {v : Value} (h : (P.info? T).bind (·.zero) = some v) (w : World) : (zeroValue T).run P w = .ok v w := by
  cases hi : P.info? T with
  | none => rw [hi] at h; cases h
  | some i =>
    rw [hi] at h
    have hz : i.zero = some v := h
    simp [zeroValue, typeInfo, hi, hz]

end Go.Proofs
namespace Go.Proofs
open Go Go.Sh Go.RowKit

/- what is written -/
/- Written -/
/- the reference: the same, where nodes of texts and gaps have no parts -/
end Go.Proofs
namespace Go.Proofs
open Go Go.Sh Go.RowKit

abbrev Rw := List UInt8 × List UInt8
def encRw : Enc Rw := ⟨fun x => [.string ⟨⟨x.1⟩⟩, .string ⟨⟨x.2⟩⟩], 2, fun _ => rfl, by decide, by intro x v hv; simp only [List.mem_cons, List.not_mem_nil, or_false] at hv; rcases hv with rfl | rfl <;> rfl⟩
end Go.Proofs
namespace Go.Proofs
open Go Go.Sh Go.RowKit

/- slices of strings and of pairs, out of what a row says of the arguments -/
theorem row_build {α : Type} {E : Enc α} {w : World} {a : Addr} {len : Nat} (hel : ∀ i, i < len → ∃ x : α, ∀ j v, (E.enc x)[j]? = some v → w.cell? ((a.add (i * E.size)).add j) = some v) :
    ∃ L : List α, RowAt E (fun _ => True) w (some a) len L := by
  by_cases hl0 : len = 0
  · subst hl0; exact ⟨[], RowAt.nil _⟩
  obtain ⟨b, o, rfl⟩ : ∃ b o, a = ⟨b, o, none⟩ := by
    obtain ⟨x, hx⟩ := hel 0 (by omega)
    have hp := E.pos
    have h0 := hx 0 _ (List.getElem?_eq_getElem (by rw [E.len]; exact hp))
    obtain ⟨b, o, spot⟩ := a
    have hspot : spot = none := by simpa [Addr.add] using World.cell?_spot h0
    subst hspot
    exact ⟨b, o, rfl⟩
  have build : ∀ k, k ≤ len → ∃ L : List α, L.length = k ∧ ∀ j v, (E.row L)[j]? = some v → w.cell? ((⟨b, o, none⟩ : Addr).add j) = some v := by
    intro k
    induction k with
    | zero => exact fun _ => ⟨[], rfl, fun j v hj => by simp at hj⟩
    | succ k ihk =>
      intro hk
      obtain ⟨L, hL, hus⟩ := ihk (by omega)
      obtain ⟨x, hx⟩ := hel k (by omega)
      refine ⟨L ++ [x], by simp [hL], fun j v hj => ?_⟩
      rw [row_snoc] at hj
      by_cases hlt : j < (E.row L).length
      · rw [List.getElem?_append_left hlt] at hj
        exact hus j v hj
      · rw [List.getElem?_append_right (by omega)] at hj
        have := hx _ _ hj
        rw [add_none, add_none] at this
        rw [row_len, hL] at this hlt
        rw [add_none, show o + j = o + k * E.size + (j - k * E.size) by omega]
        exact this
  obtain ⟨L, hL, hus⟩ := build len (Nat.le_refl _)
  refine ⟨L, hL.symm, ?_⟩
  cases hr : E.row L with
  | nil => exact .inl rfl
  | cons u us =>
    rw [hr] at hus
    have h0 := hus 0 u rfl
    refine .inr ⟨b, o, rfl, trivial, ?_, fun j v hj => ?_⟩
    · have := World.block_lt_of_cell? w _ h0
      simpa [Addr.add] using this
    · have := hus j v hj
      rw [add_none] at this; exact this
theorem len2 {α : Type} {l : List α} (h : l.length = 2) : ∃ a b, l = [a, b] := by
  match l, h with
  | [a, b], _ => exact ⟨a, b, rfl⟩
set_option maxRecDepth 20000 in
theorem open_rws {H : Type} {enc : TypeId × Value → H} {w : World} {base : Nat} {sp : Nat → Bool} {hd : Bool} (fuel : Nat) (cs : List Value) (x : DataW H × List MemPlace) (h : DataW.trod enc Tryz.prog w base sp hd fuel 23 cs = some x) :
    ∃ (a : Option Addr) (n c : Nat) (L : List Rw), cs = [.slice a n c] ∧ RowAt encRw (fun _ => True) w a n L := by
  rcases DataW.trod_slice Tryz.underlying23 h with ⟨rfl, _⟩ | ⟨a, len, cap, elems, rest, n, rfl, rfl, _, hb, hl, hm, hel, hall, _⟩
  · exact ⟨none, 0, 0, [], rfl, RowAt.nil _⟩
  have h9 : Tryz.prog.cellsOf 9 = 1 := by kernel_rfl
  have h2 : Tryz.prog.cellsOf 91 = 2 := by kernel_rfl
  obtain ⟨L, hL⟩ := row_build (E := encRw) (w := w) (a := a) (len := len) fun i hi => by
    have hh := hall i hi
    rw [List.getElem?_eq_getElem (by omega)] at hh
    obtain ⟨cs', hc1, hc2⟩ := Option.bind_eq_some_iff.1 hh
    rw [h2] at hc1
    obtain ⟨_, hlen, hcell⟩ := World.cells?_some hc1
    obtain ⟨xs, n', rfl, _, hcl, hxl, hf⟩ := DataW.trod_struct Tryz.underlying91 hc2
    obtain ⟨v0, v1, rfl⟩ := len2 hlen
    obtain ⟨y0, y1, rfl⟩ := len2 (show xs.length = 2 from hxl)
    have g0 := hf 0 _ rfl
    have g1 := hf 1 _ rfl
    try dsimp only at g0
    try simp only [h9] at g0
    try dsimp only at g1
    try simp only [h9] at g1
    obtain ⟨t, e0, _, _⟩ := DataW.trod_string Tryz.underlying9 g0
    obtain ⟨u, e1, _, _⟩ := DataW.trod_string Tryz.underlying9 g1
    simp [h9] at e0 e1
    subst e0 e1
    refine ⟨(t.data.toList, u.data.toList), fun j v hj => ?_⟩
    have hj2 : j < 2 := (List.getElem?_eq_some_iff.1 hj).1
    rw [show i * encRw.size = i * 2 from rfl, hcell j hj2]
    exact hj
  exact ⟨some a, len, cap, L, rfl, hL⟩
end Go.Proofs
namespace Go.Proofs
open Go Go.Sh Go.RowKit

/- lexemes -/
end Go.Proofs
namespace Go.Proofs
open Go Go.Sh Go.RowKit

end Go.Proofs
namespace Go.Proofs
open Go Go.Sh Go.RowKit

/- the parts of a string: characters up to the next <, and what stands from < to the next > -/
end Go.Proofs
namespace Go.Proofs
open Go Go.Sh Go.RowKit

end Go.Proofs
namespace Go.Proofs
open Go Go.Sh Go.RowKit

/- the tags: name, whether it is empty, the function of its value -/
end Go.Proofs
namespace Go.Proofs
open Go Go.Sh Go.RowKit

end Go.Proofs
namespace Go.Proofs
open Go Go.Sh Go.RowKit

/- numbers from 1 to most -/
theorem atoi_dec : ∀ i : Nat, i < 64 → Lib.atoiAll (Lib.decDigits (i + 1)) = .ok ((i + 1 : Nat) : Int) := by decide +kernel
/- the reference's reading of a number -/
/- the tags' names, forms and values -/
/- what stands in values -/
end Go.Proofs
namespace Go.Proofs
open Go Go.Sh Go.RowKit

/- reading a tag -/
/- the first of the bytes space and slash -/
/- the lexeme of a part -/
/- why lexemes are not valid -/
/- the lexeme at an offset -/
end Go.Proofs
namespace Go.Proofs
open Go Go.Sh Go.RowKit

/- what is read is what stands there -/
/- the parts of what lexemes are printed as -/
/- tags -/
end Go.Proofs
namespace Go.Proofs
open Go Go.Sh Go.RowKit

/- lexemes and offsets -/
/- the last lexeme that begins at the offset or before it decides -/
/- two strings, one after the other -/
/- characters of two strings -/
/- stripped strings -/
end Go.Proofs
namespace Go.Proofs
open Go Go.Sh Go.RowKit

/- lexemes with their right offsets -/
/- nesting asks for kinds and names alone -/
/- an empty tag in place of a tag -/
/- one tag alone -/
end Go.Proofs
namespace Go.Proofs
open Go Go.Sh Go.RowKit Go.Lib

section
variable (r : Int) (w : World) (h1 : 128 ≤ r) (h2 : r ≠ 65533) (hv' : Lib.validRune r = true)
set_option maxHeartbeats 4000000 in
set_option maxRecDepth 1000000 in
include h1 h2 hv' in
set_option maxHeartbeats 4000000 in
set_option maxRecDepth 1000000 in
include h1 h2 hv' in
set_option maxHeartbeats 4000000 in
set_option maxRecDepth 1000000 in
include h1 h2 hv' in
end
/- what a decoded rune takes up -/
end Go.Proofs
namespace Go.Proofs
open Go Go.Sh Go.RowKit Go.Lib

end Go.Proofs
namespace Go.Proofs
open Go Go.Sh Go.RowKit

/- what the library reads of the world: the variables of strings.Cut and strconv.Atoi -/
def Mk (w : World) : Prop := (∃ m, w.cell? ⟨G_internal_bytealg_MaxLen, 0, none⟩ = some (.int .i64 m)) ∧ (∃ t p, w.cell? ⟨G_strconv_ErrSyntax, 0, none⟩ = some (.iface t p)) ∧ (∃ t p, w.cell? ⟨G_strconv_ErrRange, 0, none⟩ = some (.iface t p))
theorem cell_ext {w w' : World} {a : Addr} {v : Value} (h : w.cell? a = some v) (he : Ext w w') : w'.cell? a = some v := by
  rw [he.cell (World.block_lt_of_cell? w _ h)]; exact h
theorem Mk.ext {w w' : World} (h : Mk w) (he : Ext w w') : Mk w' := by
  obtain ⟨⟨m, h1⟩, ⟨t, p, h2⟩, ⟨t', p', h3⟩⟩ := h
  exact ⟨⟨m, cell_ext h1 he⟩, ⟨t, p, cell_ext h2 he⟩, ⟨t', p', cell_ext h3 he⟩⟩

theorem ifc_nil {K : Bool → Prop} (h : K true) : ifc .nilIface K := h
theorem ifc_some {K : Bool → Prop} {t : TypeId} {v : Value} (h : K false) : ifc (.iface t v) K := h
variable {R : Ending → World → Prop} {w : World}
end Go.Proofs
namespace Go.Sh
open Go Go.RowKit Go.ChangeShapes
section
variable {H : Type} {enc : TypeId × Value → H} {P : Program} {W W' : World}
theorem trodAll_carry {sp : Nat → Bool} : ∀ {ts : List TypeId} {vs : List Value} {ds : List (DataW H)} {ps : List MemPlace}, DataW.TrodAll enc P W 0 sp true ts vs ds ps → (∀ p ∈ ps, W.sameAt W' p) → DataW.TrodAll enc P W' 0 sp true ts vs ds ps
  | [], [], [], _, h, _ => h
  | _ :: _, _ :: _, _ :: _, _, ⟨p, q, ⟨n, hn⟩, h2, e⟩, hs =>
    ⟨p, q, ⟨n, DataW.trod_carry n _ _ _ hn fun x hx => hs x (by rw [e]; exact List.mem_append_left _ hx)⟩, trodAll_carry h2 (fun x hx => hs x (by rw [e]; exact List.mem_append_right _ hx)), e⟩
  | [], [], _ :: _, _, h, _ => h.elim
  | [], _ :: _, _, _, h, _ => h.elim
  | _ :: _, [], _, _, h, _ => h.elim
  | _ :: _, _ :: _, [], _, h, _ => h.elim
theorem trodAll_below (hl : laidOutB P = true) : ∀ {ts : List TypeId} {vs : List Value} {ds : List (DataW H)} {ps : List MemPlace}, (∀ t ∈ ts, P.readableRec t = true ∧ t < P.types.size) → DataW.TrodAll enc P W 0 (fun _ => true) true ts vs ds ps → Below W.heap.size W W' → (∀ x ∈ ps, x.block < W.heap.size) →
    DataW.TrodAll enc P W' 0 (fun b => decide (b < W.heap.size)) true ts vs ds ps
  | [], [], [], _, _, h, _, _ => h
  | _ :: _, _ :: _, _ :: _, _, ht, ⟨p, q, h1, h2, e⟩, hb, hlt =>
    ⟨p, q, Below.trod hl (ht _ (by simp)).1 (ht _ (by simp)).2 h1 hb (fun x hx => hlt x (by rw [e]; exact List.mem_append_left _ hx)),
      trodAll_below hl (fun t h => ht t (List.mem_cons_of_mem _ h)) h2 hb (fun x hx => hlt x (by rw [e]; exact List.mem_append_right _ hx)), e⟩
  | [], [], _ :: _, _, _, h, _, _ => h.elim
  | [], _ :: _, _, _, _, h, _, _ => h.elim
  | _ :: _, [], _, _, _, h, _, _ => h.elim
  | _ :: _, _ :: _, [], _, _, h, _, _ => h.elim

/- a law's 'post' where it answers true and what was there stands -/
theorem post_ext {f : Func} {s : ChangeSpec} {apart fresh handsOn again : Bool} {args : Array Value} {ds gs : List (DataW H)} {before : List MemPlace} {tb : TypeId} (hl : laidOutB P = true) (hts : ∀ t ∈ f.params.toList, P.readableRec t = true ∧ t < P.types.size) (hres : f.resultTypes = #[tb]) (htb : P.underlying tb = some .bool) (hvars : s.vars = [])
    (hW : DataW.Whole enc P f.params.toList s.vars apart W args.toList ds gs before) (hfn : s.fn H (ds ++ gs) = { results := [.lit (.bool true)], args := ds }) (he : Ext W W') :
    s.post enc P f apart fresh handsOn again W args (.bool true) W' := by
  have hlt := hW.lt
  have hW0 := hW
  obtain ⟨p, q, h1, h2, hpq, hz, hn⟩ := hW0
  rw [hvars] at h2
  obtain ⟨hg, hq⟩ := trodVars_none h2
  subst hg hq
  simp only [List.append_nil] at hpq
  subst hpq
  have hbool : ∀ (b : Nat) (sp : Nat → Bool) (hd : Bool), DataW.TrodAll enc P W' b sp hd f.resultTypes.toList ((Value.bool true).resultList f.resultTypes.size) [.lit (.bool true)] [] := by
    intro b sp hd
    rw [hres]
    exact trodAll_mk1 (shut_bool htb true)
  refine ⟨ds, [], before, [], before, [], hW, ?_, ?_, ?_, he.frame _, fun _ => ⟨ok_one hres rfl (okWide_bool_mk htb true), [.lit (.bool true)] ++ ds, [], [] ++ before, ⟨[] ++ before, [], ?_, ?_, by simp, ?_, ?_⟩, ?_⟩⟩
  · rw [hfn]; exact hbool _ _ _
  · rw [hfn]; exact trodAll_below hl hts h1 he hlt
  · rw [hfn, hvars]; rfl
  · exact trodAll_append (trodAll_carry h1 fun x hx => he.same (hlt x hx)) (hbool _ _ _)
  · rw [hvars]; rfl
  · intro b off hp
    simp only [List.nil_append] at hp
    rw [he.frozen (hlt _ hp)]
    exact hz b off hp
  · intro ha; simpa using hn ha
  · intro x hx _; simpa using hx
end
end Go.Sh
namespace Go.Proofs.YtieeggfkfgmdgaaGreatDoor
open Go Go.Sh Go.RowKit Go.ChangeShapes Go.WideShapes Go.ChangeAt

theorem own : ownKnob Tryz.prog.godebug = none := by kernel_rfl
theorem laidOut : laidOutB Tryz.prog = true := by kernel_rfl
theorem form_row {W : World} {m : Nat} {cs : List Value} {x : DataW Unit × List MemPlace} {tag : List UInt8} {a b c : Bool} (h : DataW.trod (fun _ => ()) Tryz.prog W 0 (fun _ => true) false m 161 cs = some x)
    (hx : x.1 = .agg [.lit (.string tag), .lit (.bool a), .lit (.bool b), .lit (.bool c)]) : cs = [.string ⟨⟨tag⟩⟩, .bool a, .bool b, .bool c] := by
  have h96 : Tryz.prog.cellsOf 161 = 4 := by kernel_rfl
  have h9 : Tryz.prog.cellsOf 9 = 1 := by kernel_rfl
  have h4 : Tryz.prog.cellsOf 4 = 1 := by kernel_rfl
  obtain ⟨xs, n, rfl, rfl, hl, hxl, hf⟩ := DataW.trod_struct Tryz.underlying161 h
  rw [h96] at hl
  obtain ⟨v0, v1, v2, v3, rfl⟩ := len4 hl
  obtain ⟨y0, y1, y2, y3, rfl⟩ := len4 (show xs.length = 4 from hxl)
  simp only [List.map_cons, List.map_nil, DataW.agg.injEq, List.cons.injEq, and_true] at hx
  obtain ⟨z0, z1, z2, z3⟩ := hx
  have g0 := hf 0 _ rfl
  have g1 := hf 1 _ rfl
  have g2 := hf 2 _ rfl
  have g3 := hf 3 _ rfl
  obtain ⟨t, e0, f0, _⟩ := DataW.trod_string Tryz.underlying9 g0
  obtain ⟨b1, e1, f1⟩ := DataW.trod_bool Tryz.underlying4 g1
  obtain ⟨b2, e2, f2⟩ := DataW.trod_bool Tryz.underlying4 g2
  obtain ⟨b3, e3, f3⟩ := DataW.trod_bool Tryz.underlying4 g3
  simp [h9, h4] at e0 e1 e2 e3
  subst e0 e1 e2 e3
  try simp at f0 f1 f2 f3
  rw [f0] at z0
  rw [f1] at z1
  rw [f2] at z2
  rw [f3] at z3
  simp at z0 z1 z2 z3
  subst z0 z1 z2 z3
  rfl
set_option maxRecDepth 20000 in
theorem forms_of {W : World} (h : Go.Lib.VarReads Tryz.prog W "apograph/transcript.forms" Rows.laid_apograph_transcript_forms) : Forms W := by
  obtain ⟨g4, t4, cs, f4, p4, hg, ht, hvar, hd⟩ := h
  have hg0 : Tryz.prog.globalNamed "apograph/transcript.forms" = some G_transcript_forms := by kernel_rfl
  have ht0 : (Tryz.prog.globals[G_transcript_forms]?).map (·.type) = some 162 := by kernel_rfl
  obtain rfl := Option.some.inj (hg0.symm.trans hg)
  obtain rfl := Option.some.inj (ht0.symm.trans ht)
  have h96 : Tryz.prog.cellsOf 161 = 4 := by kernel_rfl
  have h97 : Tryz.prog.cellsOf 162 = 48 := by kernel_rfl
  obtain ⟨xs, m, rfl, hx, hl, hxl, hall⟩ := DataW.trod_array Tryz.underlying162 hd
  rw [h97] at hl
  rw [h96] at hall
  simp only [Prod.mk.injEq, Rows.laid_apograph_transcript_forms, DataW.agg.injEq] at hx
  obtain ⟨hm, _⟩ := hx
  have chunk : ∀ i, i < 12 → (cs.toList.drop (i * 4)).take 4 = (formsCells.drop (i * 4)).take 4 := by
    intro i hi
    have hh := hall i hi
    have hxi : (xs[i]?).map (·.1) = _ := (List.getElem?_map (f := (·.1)) (l := xs) (i := i)).symm.trans (by rw [← hm])
    rw [List.getElem?_eq_getElem (by omega)] at hh hxi
    simp only [Option.map_some] at hxi
    rcases (by omega : i = 0 ∨ i = 1 ∨ i = 2 ∨ i = 3 ∨ i = 4 ∨ i = 5 ∨ i = 6 ∨ i = 7 ∨ i = 8 ∨ i = 9 ∨ i = 10 ∨ i = 11) with rfl | rfl | rfl | rfl | rfl | rfl | rfl | rfl | rfl | rfl | rfl | rfl <;>
      exact form_row hh (Option.some.inj hxi)
  have hsz : G_transcript_forms < W.heap.size := by
    simp only [World.var?, hg0, Option.bind_some] at hvar
    split at hvar
    · rename_i hh; exact (Array.getElem?_eq_some_iff.1 hh).1
    · cases hvar
  refine ⟨hsz, fun j v hj => ?_⟩
  have hj48 : j < 48 := by have := (List.getElem?_eq_some_iff.1 hj).1; exact this
  rw [World.var?_cell hg0 hvar j]
  have hc := chunk (j / 4) (by omega)
  have e : ∀ l : List Value, l[j]? = ((l.drop (j / 4 * 4)).take 4)[j - j / 4 * 4]? := fun l => by
    rw [List.getElem?_take, if_pos (by omega), List.getElem?_drop]
    congr 1; omega
  rw [← Array.getElem?_toList, e, hc, ← e]; exact hj

noncomputable def flatV : Nat → DataW Unit → List Value
  | n + 1, .agg l => l.flatMap (flatV n)
  | _, .lit (.int k n) => [.int k n]
  | _, .lit (.bool b) => [.bool b]
  | _, .lit (.string s) => [.string ⟨s.toArray⟩]
  | _, _ => []
theorem trod_iface {P : Program} {W : World} {fuel : Nat} {t : TypeId} {cs : List Value} {ms : Array (String × TypeId)} {nm : String} {d : DataW Unit} {p : List MemPlace} (hu : P.underlying t = some (.interface ms)) (h : DataW.trod (fun _ => ()) P W 0 (fun _ => true) false fuel t cs = some (.iface nm d, p)) : ∃ u v, cs = [.iface u v] := by
  cases fuel with
  | zero => simp [DataW.trod] at h
  | succ n =>
    unfold DataW.trod at h
    rw [hu] at h
    split at h <;> simp_all
theorem err_of {W : World} {n : String} {nm : String} {d : DataW Unit} {g : Nat} {ti : TypeId} {ms : Array (String × TypeId)} (h : Go.Lib.VarReads Tryz.prog W n (.iface nm d)) (hg : Tryz.prog.globalNamed n = some g) (ht : (Tryz.prog.globals[g]?).map (·.type) = some ti) (hi : Tryz.prog.underlying ti = some (.interface ms)) :
    ∃ t p, W.cell? ⟨g, 0, none⟩ = some (.iface t p) := by
  obtain ⟨g', t', cs, fuel, p, hg', ht', hv, hd⟩ := h
  obtain rfl := Option.some.inj (hg.symm.trans hg')
  obtain rfl := Option.some.inj (ht.symm.trans ht')
  obtain ⟨u, v, hc⟩ := trod_iface hi hd
  refine ⟨u, v, ?_⟩
  rw [World.var?_cell hg hv 0]
  have := congrArg (fun l => l[0]?) hc
  simpa using this
theorem max_of {W : World} (hSh : W.ShapedOpen Tryz.prog) : ∃ m, W.cell? ⟨G_internal_bytealg_MaxLen, 0, none⟩ = some (.int .i64 m) := Tryz.laysM155.s1_3 W hSh
theorem mk_of {W : World} (e1 : Go.Lib.VarReads Tryz.prog W "strconv.ErrSyntax" Rows.laid_strconv_ErrSyntax) (e2 : Go.Lib.VarReads Tryz.prog W "strconv.ErrRange" Rows.laid_strconv_ErrRange) (hSh : W.ShapedOpen Tryz.prog) : Mk W :=
  ⟨max_of hSh, err_of e1 (by kernel_rfl) (by kernel_rfl) Tryz.underlying82, err_of e2 (by kernel_rfl) (by kernel_rfl) Tryz.underlying82⟩
noncomputable def putG (h : Array Obj) (g : Nat) (cs : List Value) : Array Obj := h.modify g fun
  | .cells _ t frozen => .cells ⟨cs⟩ t frozen
  | o => o
noncomputable def layOne (h : Array Obj) (g : Nat) (d : DataW Unit) : Array Obj := match d with
  | .iface _ (.ptr (.agg [.lit (.string t)])) => putG (h.push (.cells ⟨[.string ⟨t.toArray⟩]⟩ 244 (0, 0))) g [.iface 242 (.pointer (some ⟨h.size, 0, none⟩))]
  | d => putG h g (flatV 5 d)
noncomputable def layAll (laid : List (String × DataW Unit)) (h : Array Obj) : Array Obj :=
  laid.foldl (fun h x => match Tryz.prog.globalNamed x.1 with
    | some g => layOne h g x.2
    | none => h) h
noncomputable def laidWorldOf (laid : List (String × DataW Unit)) (os : Os) : World :=
  { World.holding Tryz.prog os ⟨#[], #[], []⟩ with heap := layAll laid (World.holding Tryz.prog os ⟨#[], #[], []⟩).heap }
end Go.Proofs.YtieeggfkfgmdgaaGreatDoor
namespace Go.Proofs
open Go Go.Sh Go.RowKit

/- atoms of a transcript: characters, gaps, and what ends words -/
inductive Am where
  | ch (c : UInt8) (p : Ps) (u : Bool) (nm : List UInt8)
  | gap (n : Int) (p : Ps) (u : Bool) (nm : List UInt8)
  | brk (v : Bool)
structure Nc where
  x : Nn
  u : Bool
  nm : List UInt8
def nodesX : Fo → Bool → List UInt8 → List Nc
  | .nil, _, _ => []
  | .cons k t n ps r, u, nm => ⟨⟨k, t, n, ps⟩, u, nm⟩ :: (nodesX ps (u || decide (k = 7)) (if k = 11 then t else nm) ++ nodesX r u nm)
def amT (t : List UInt8) (p : Ps) (u : Bool) (nm : List UInt8) : List Am := t.map fun c => .ch c p u nm
def amN (p : Ps) (x : Nc) : List Am :=
  if x.x.k = 1 then amT x.x.t p x.u x.nm else if x.x.k = 6 then [.gap x.x.n p x.u x.nm] else if x.x.k = 4 ∨ x.x.k = 5 then [.brk (decide (x.x.k = 5))] else []
def amsL : Ps → List Nc → List Am
  | _, [] => []
  | p, x :: l => amN p x ++ amsL (posN p x.x).1 l
def amsF (p : Ps) (f : Fo) (u : Bool) (nm : List UInt8) : List Am := amsL p (nodesX f u nm)
theorem nodesX_map : ∀ (f : Fo) (u : Bool) (nm : List UInt8), (nodesX f u nm).map (·.x) = nodesF f
  | .nil, _, _ => rfl
  | .cons k t n ps r, u, nm => by simp only [nodesX, nodesF, List.map_cons, List.map_append, nodesX_map ps, nodesX_map r]
theorem amsL_app : ∀ (l : List Nc) (p : Ps) (m : List Nc), amsL p (l ++ m) = amsL p l ++ amsL (endL p (l.map (·.x))) m
  | [], _, _ => rfl
  | x :: l, p, m => by simp only [List.cons_append, amsL, List.map_cons, endL, amsL_app l, List.append_assoc]
theorem amsF_cons (p : Ps) (k t n ps r) (u : Bool) (nm : List UInt8) : amsF p (.cons k t n ps r) u nm =
    amN p ⟨⟨k, t, n, ps⟩, u, nm⟩ ++ (amsF (posN p ⟨k, t, n, ps⟩).1 ps (u || decide (k = 7)) (if k = 11 then t else nm) ++ amsF (endL (posN p ⟨k, t, n, ps⟩).1 (nodesF ps)) r u nm) := by
  unfold amsF
  rw [nodesX, amsL, amsL_app, nodesX_map]
/- tokens -/
structure Tok where
  t : List UInt8
  m : List UInt8
  p : Ps
  g : Int
  a : List UInt8
def encTk : Enc Tok := ⟨fun x => [.string ⟨⟨x.t⟩⟩, .string ⟨⟨x.m⟩⟩, .string ⟨⟨x.p.1⟩⟩, .int .i64 x.p.2, .int .i64 x.g, .string ⟨⟨x.a⟩⟩], 6, fun _ => rfl, by decide, by intro x v hv; simp only [List.mem_cons, List.not_mem_nil, or_false] at hv; rcases hv with rfl | rfl | rfl | rfl | rfl | rfl <;> rfl⟩
def innC (c : UInt8) : Bool := letB c || (decide (kd c = 2) || decide (kd c = 4))
def inA : Am → Bool
  | .ch c _ _ _ => innC c
  | _ => false
def chA : Am → List UInt8
  | .ch c _ _ _ => [c]
  | _ => []
def unA : Am → Bool
  | .ch _ _ u _ => u
  | .gap _ _ u _ => u
  | .brk _ => false
def flI (u j v : Bool) (base : Int) : Int := base + (if u then 1 else 0) + (if v then 4 else 0) + (if j then 16 else 0)
def gapT (n : Int) : List UInt8 := 91 :: (Lib.decDigits n.toNat ++ [93])
theorem dropWhile_le {α : Type} (p : α → Bool) : ∀ l : List α, (l.dropWhile p).length ≤ l.length
  | [] => by simp
  | x :: l => by
    have := dropWhile_le p l
    rw [List.dropWhile_cons]
    split
    · simp only [List.length_cons]; omega
    · exact Nat.le_refl _
def divF (j v : Bool) : List Am → List Tok
  | [] => []
  | .brk b :: r => divF false (v || b) r
  | .gap n p u nm :: r => ⟨gapT n, [], p, flI u j v 2, nm⟩ :: divF true false r
  | .ch c p u nm :: r =>
    if kd c = 6 then divF false v r
    else if letB c = true then ⟨c :: (r.takeWhile inA).flatMap chA, [], p, flI (u || (r.takeWhile inA).any unA) j v 0, nm⟩ :: divF true false (r.dropWhile inA)
    else ⟨[c], [], p, flI u j v 8, nm⟩ :: divF true false r
  termination_by l => l.length
  decreasing_by
    all_goals simp only [List.length_cons]
    all_goals first | omega | (have := dropWhile_le inA r; omega)
/- the builder -/
structure Bs where
  out : List Tok
  cur : Option (Tok × List UInt8)
  j : Bool
  v : Bool
def shut (b : Bs) : List Tok := match b.cur with
  | none => b.out
  | some (t, w) => b.out ++ [{ t with t := w }]
def orU (g : Int) (u : Bool) : Int := if u = true ∧ g % 2 = 0 then g + 1 else g
def addB (b : Bs) : Am → Bs
  | .ch c p u nm => match b.cur, innC c with
    | some (t, w), true => ⟨b.out, some ({ t with g := orU t.g u }, w ++ [c]), b.j, b.v⟩
    | _, _ =>
      if letB c = true then ⟨shut b, some (⟨[], [], p, flI u b.j b.v 0, nm⟩, [c]), true, false⟩
      else if kd c = 6 then ⟨shut b, none, false, b.v⟩
      else ⟨shut b ++ [⟨[c], [], p, flI u b.j b.v 8, nm⟩], none, true, false⟩
  | .gap n p u nm => ⟨shut b ++ [⟨gapT n, [], p, flI u b.j b.v 2, nm⟩], none, true, false⟩
  | .brk x => ⟨shut b, none, false, b.v || x⟩
def bs0 : Bs := ⟨[], none, false, false⟩
theorem orU_orU (g : Int) (u v : Bool) : orU (orU g u) v = orU g (u || v) := by
  unfold orU
  cases u <;> cases v
  · simp
  · simp
  · simp
  · by_cases h : g % 2 = 0
    · simp only [h, and_self, if_true, Bool.or_self]
      rw [if_neg (by omega)]
    · simp [h]
theorem orU_fl (u u' j v : Bool) (base : Int) (hb : base % 2 = 0) : orU (flI u j v base) u' = flI (u || u') j v base := by
  unfold orU flI
  cases u <;> cases u' <;> cases j <;> cases v <;> simp <;> omega
theorem space_let {c : UInt8} (h : kd c = 6) : letB c = false := by unfold letB; rw [h]; rfl
theorem let_inn {c : UInt8} (h : letB c = true) : innC c = true := by unfold innC; rw [h]; rfl
/- the state with an open word is that with a shut one, and what is left of the word -/
theorem fold_div : ∀ (l : List Am) (b : Bs), shut (l.foldl addB b) = match b.cur with
    | none => b.out ++ divF b.j b.v l
    | some (t, w) => b.out ++ { t with g := orU t.g ((l.takeWhile inA).any unA), t := w ++ (l.takeWhile inA).flatMap chA } :: divF b.j b.v (l.dropWhile inA)
  | [], ⟨out, none, j, v⟩ => by simp [shut, divF]
  | [], ⟨out, some (t, w), j, v⟩ => by simp [shut, divF, orU]
  | .brk x :: r, ⟨out, none, j, v⟩ => by
    rw [List.foldl_cons, fold_div r]
    show out ++ divF false (v || x) r = _
    rw [divF]
  | .brk x :: r, ⟨out, some (t, w), j, v⟩ => by
    rw [List.foldl_cons, fold_div r]
    have e : inA (.brk x) = false := rfl
    simp only [List.takeWhile_cons, List.dropWhile_cons, e, Bool.false_eq_true, if_false]
    rw [divF]
    simp [addB, shut, orU]
  | .gap n p u nm :: r, ⟨out, none, j, v⟩ => by
    rw [List.foldl_cons, fold_div r, divF]
    simp [addB, shut]
  | .gap n p u nm :: r, ⟨out, some (t, w), j, v⟩ => by
    rw [List.foldl_cons, fold_div r]
    have e : inA (.gap n p u nm) = false := rfl
    simp only [List.takeWhile_cons, List.dropWhile_cons, e, Bool.false_eq_true, if_false]
    rw [divF]
    simp [addB, shut, orU]
  | .ch c p u nm :: r, ⟨out, none, j, v⟩ => by
    rw [List.foldl_cons, fold_div r, divF]
    by_cases hl : letB c = true
    · have h6 : ¬ kd c = 6 := fun h => by rw [space_let h] at hl; cases hl
      simp only [addB, hl, h6, if_true, if_false, shut]
      rw [orU_fl _ _ _ _ _ rfl]
      rfl
    · by_cases h6 : kd c = 6
      · simp [addB, hl, h6, shut]
      · simp [addB, hl, h6, shut]
  | .ch c p u nm :: r, ⟨out, some (t, w), j, v⟩ => by
    rw [List.foldl_cons, fold_div r]
    by_cases hi : innC c = true
    · have e : inA (.ch c p u nm) = true := hi
      simp only [List.takeWhile_cons, List.dropWhile_cons, e, if_true]
      have h1 : orU (orU t.g u) ((r.takeWhile inA).any unA) = orU t.g (u || (r.takeWhile inA).any unA) := orU_orU _ _ _
      simp [addB, hi, chA, unA, h1]
    · have e : inA (.ch c p u nm) = false := by show innC c = false; simpa using hi
      have hl : ¬ letB c = true := fun h => hi (let_inn h)
      simp only [List.takeWhile_cons, List.dropWhile_cons, e, Bool.false_eq_true, if_false]
      rw [divF]
      by_cases h6 : kd c = 6
      · simp [addB, hi, hl, h6, shut, orU]
      · simp [addB, hi, hl, h6, shut, orU]
theorem fold_tok (l : List Am) : shut (l.foldl addB bs0) = divF false false l := by rw [fold_div]; rfl
end Go.Proofs
namespace Go.Proofs
open Go Go.Sh Go.RowKit

theorem len5k {α : Type} {l : List α} (h : l.length = 5) : ∃ a b c d e, l = [a, b, c, d, e] := by
  match l, h with
  | [a, b, c, d, e], _ => exact ⟨a, b, c, d, e, rfl⟩
theorem len6k {α : Type} {l : List α} (h : l.length = 6) : ∃ a b c d e f, l = [a, b, c, d, e, f] := by
  match l, h with
  | [a, b, c, d, e, f], _ => exact ⟨a, b, c, d, e, f, rfl⟩
set_option maxRecDepth 20000 in
theorem open_toks {H : Type} {enc : TypeId × Value → H} {w : World} {base : Nat} {sp : Nat → Bool} {hd : Bool} (fuel : Nat) (cs : List Value) (x : DataW H × List MemPlace) (h : DataW.trod enc Tryz.prog w base sp hd fuel 24 cs = some x) :
    ∃ (a : Option Addr) (n c : Nat) (L : List Tok), cs = [.slice a n c] ∧ RowAt encTk (fun _ => True) w a n L := by
  rcases DataW.trod_slice Tryz.underlying24 h with ⟨rfl, _⟩ | ⟨a, len, cap, elems, rest, n, rfl, rfl, _, hb, hl, hm, hel, hall, _⟩
  · exact ⟨none, 0, 0, [], rfl, RowAt.nil _⟩
  have h9 : Tryz.prog.cellsOf 9 = 1 := by kernel_rfl
  have h3 : Tryz.prog.cellsOf 3 = 1 := by kernel_rfl
  have h29 : Tryz.prog.cellsOf 29 = 2 := by kernel_rfl
  have h31 : Tryz.prog.cellsOf 31 = 6 := by kernel_rfl
  obtain ⟨L, hL⟩ := row_build (E := encTk) (w := w) (a := a) (len := len) fun i hi => by
    have hh := hall i hi
    rw [List.getElem?_eq_getElem (by omega)] at hh
    obtain ⟨cs', hc1, hc2⟩ := Option.bind_eq_some_iff.1 hh
    rw [h31] at hc1
    obtain ⟨_, hlen, hcell⟩ := World.cells?_some hc1
    obtain ⟨xs, n', rfl, _, hcl, hxl, hf⟩ := DataW.trod_struct Tryz.underlying31 hc2
    obtain ⟨v0, v1, v2, v3, v4, v5, rfl⟩ := len6k hlen
    obtain ⟨y0, y1, y2, y3, y4, rfl⟩ := len5k (show xs.length = 5 from hxl)
    have g0 := hf 0 _ rfl
    have g1 := hf 1 _ rfl
    have g2 := hf 2 _ rfl
    have g3 := hf 3 _ rfl
    have g4 := hf 4 _ rfl
    try dsimp only at g0
    try simp only [h9] at g0
    try dsimp only at g1
    try simp only [h9] at g1
    try dsimp only at g2
    try simp only [h29] at g2
    try dsimp only at g3
    try simp only [h3] at g3
    try dsimp only at g4
    try simp only [h9] at g4
    obtain ⟨t0, e0, _, _⟩ := DataW.trod_string Tryz.underlying9 g0
    obtain ⟨t1, e1, _, _⟩ := DataW.trod_string Tryz.underlying9 g1
    obtain ⟨m3, e3, _, _⟩ := DataW.trod_int (k := .i64) Tryz.underlying3 g3
    obtain ⟨t4, e4, _, _⟩ := DataW.trod_string Tryz.underlying9 g4
    obtain ⟨zs, n2, rfl, _, hcl2, hzl, hf2⟩ := DataW.trod_struct Tryz.underlying29 g2
    obtain ⟨z0, z1, rfl⟩ := len2 (show zs.length = 2 from hzl)
    have k0 := hf2 0 _ rfl
    have k1 := hf2 1 _ rfl
    try dsimp only at k0
    try simp only [h9] at k0
    try dsimp only at k1
    try simp only [h3] at k1
    obtain ⟨t2, e2, _, _⟩ := DataW.trod_string Tryz.underlying9 k0
    obtain ⟨m2, e5, _, _⟩ := DataW.trod_int (k := .i64) Tryz.underlying3 k1
    simp [h9, h3, h29] at e0 e1 e2 e3 e4 e5
    subst e0 e1 e2 e3 e4 e5
    refine ⟨⟨t0.data.toList, t1.data.toList, (t2.data.toList, m2), m3, t4.data.toList⟩, fun j v hj => ?_⟩
    have hj6 : j < 6 := (List.getElem?_eq_some_iff.1 hj).1
    rw [show i * encTk.size = i * 6 from rfl, hcell j hj6]
    exact hj
  exact ⟨some a, len, cap, L, rfl, hL⟩
end Go.Proofs
namespace Go.Proofs
open Go Go.Sh Go.RowKit

/- the builder of words within the builder of tokens -/
section
attribute [local irreducible] World.shape?
set_option maxRecDepth 20000 in
theorem conv_to1 {w : World} {b : Nat} {j : TypeInfo} (hj : Tryz.prog.info? 75 = some j) (hjs : j.size = 2) (hsh : w.shape? b = some (113, 6)) :
    (convert 72 169 (.pointer (some ⟨b, 1, none⟩))).run Tryz.prog w = .ok (.pointer (some ⟨b, 1, none⟩)) w := by
  simp [convert, run_underlying Tryz.underlying72, run_underlying Tryz.underlying169]
  conv => lhs; whnf
  simp [sem_bind, sem_pure, hsh, cellsIn, sizeOf, typeInfo, hj, hjs]
set_option maxRecDepth 20000 in
theorem conv_from1 {w : World} {b : Nat} {j : TypeInfo} (hj : Tryz.prog.info? 75 = some j) (hsh : w.shape? b = some (113, 6)) :
    (convert 169 72 (.pointer (some ⟨b, 1, none⟩))).run Tryz.prog w = .ok (.pointer (some ⟨b, 1, none⟩)) w := by
  have hl : liesAt Tryz.prog Tryz.prog.depth 113 (6 / Tryz.prog.cellsOf 113) 1 75 1 = true := by kernel_rfl
  simp [convert, run_underlying Tryz.underlying72, run_underlying Tryz.underlying169]
  conv => lhs; whnf
  simp [sem_bind, sem_pure, hsh, sizeOf, typeInfo, hj, variablesAt, hl]
end
set_option maxRecDepth 100000 in
theorem copyCheck1_used (b : Nat) (w : World) (h0 : w.cell? ⟨b, 1, none⟩ = some (.pointer (some ⟨b, 1, none⟩))) :
    Calls Tryz.prog 104 #[.pointer (some ⟨b, 1, none⟩)] w fun e w' => e = .returned (.tuple #[]) ∧ w' = w := by
  obtain ⟨j, hj, _⟩ := Option.map_eq_some_iff.1 (show (Tryz.prog.info? 75).map (·.size) = some 2 by kernel_rfl)
  go_enter Tryz.func104, Tryz.ntmps104
  go_wp2
  rw [Lib.run_neq_ptr_same w _ Tryz.underlying72 hj]
  go_wp2
  go_end0
  exact ⟨rfl, rfl⟩
set_option maxRecDepth 100000 in
theorem copyCheck1_fresh (b : Nat) (w : World) (h0 : w.cell? ⟨b, 1, none⟩ = some (.pointer none)) (hsh : w.shape? b = some (113, 6)) (hfz : w.frozen? ⟨b, 1, none⟩ = false) :
    Calls Tryz.prog 104 #[.pointer (some ⟨b, 1, none⟩)] w fun e w' => e = .returned (.tuple #[]) ∧ w' = w.setCell ⟨b, 1, none⟩ (.pointer (some ⟨b, 1, none⟩)) := by
  obtain ⟨j, hj, hjs⟩ := Option.map_eq_some_iff.1 (show (Tryz.prog.info? 75).map (·.size) = some 2 by kernel_rfl)
  go_enter Tryz.func104, Tryz.ntmps104
  go_wp2
  rw [conv_to1 hj hjs hsh]
  simp only [Result.andThen]
  rw [Oper.upon_value]
  go_wp2
  rw [run_callFunc_extern Tryz.func147 (by kernel_rfl) (by kernel_rfl) (by kernel_rfl) (e := Extern.AbiNoEscape.same) (by kernel_rfl)]
  rw [Lib.run_noEscape]
  simp only [Result.andThen]
  rw [Oper.upon_value]
  go_wp2
  rw [conv_from1 hj hsh]
  simp only [Result.andThen]
  rw [Oper.upon_value]
  go_wp2
  go_end0
  exact ⟨rfl, rfl⟩
theorem freeze_chg (w : World) (g : Nat) (n : Nat) : Chg (fun k => k = g) w (w.freeze ⟨g, 0, none⟩ n) := by
  unfold World.freeze
  split
  · exact Chg.refl _ _
  · exact ⟨rfl, rfl, rfl, by simp, fun k _ hk => by simp only [Array.getElem?_modify]; rw [if_neg (fun e => hk e.symm)]⟩
set_option maxHeartbeats 1000000 in
set_option maxRecDepth 100000 in
theorem String1_spec (b g cap : Nat) (cur : Array Value) (l : List UInt8) (w : World) (h0 : l ≠ []) (h1 : w.cell? ⟨b, 2, none⟩ = some (.slice (some ⟨g, 0, none⟩) l.length cap)) (hg : w.heap[g]? = some (.cells cur 5 (0, 0)))
    (hnc : l.length ≤ cap) (hcm : cap ≤ maxLen) (hcs : cur.size = cap) (htake : cur.toList.take l.length = Lib.byteCells l) :
    Calls Tryz.prog 48 #[.pointer (some ⟨b, 1, none⟩)] w fun e w' => e = .returned (.string ⟨l.toArray⟩) ∧ Chg (fun k => k = g) w w' := by
  have hl0 : l.length ≠ 0 := by simpa using h0
  have c1 : w.drew.cell? ⟨b, 2, none⟩ = some (.slice (some ⟨g, 0, none⟩) l.length cap) := h1
  have hSD : (Builtin.unsafeSliceData_ #[73] 129 #[.slice (some ⟨g, 0, none⟩) l.length cap]).run Tryz.prog w.drew = .ok (.pointer (some ⟨g, 0, none⟩)) w.drew :=
    Lib.run_unsafeSliceData_row _ _ _ _ _ _ (by omega)
  have hUS : (Builtin.unsafeString_ #[129, 3] 9 #[.pointer (some ⟨g, 0, none⟩), .int .i64 l.length]).run Tryz.prog w.drew = .ok (.string ⟨l.toArray⟩) (w.drew.freeze ⟨g, 0, none⟩ l.length) := by
    refine Lib.run_unsafeString_row w.drew 129 3 9 5 Tryz.underlying129 (by kernel_rfl) g cur.size (by have hg' : w.drew.heap[g]? = some (.cells cur 5 (0, 0)) := hg; simp [World.shape?, hg']) l h0 (by omega) (by unfold maxLen at hcm; omega) ?_
    intro j x hx
    have hj : j < l.length := (List.getElem?_eq_some_iff.1 hx).1
    have hc : w.drew.cell? ⟨g, j, none⟩ = cur[j]? := by
      have hg' : w.drew.heap[g]? = some (.cells cur 5 (0, 0)) := hg
      simp [World.cell?, hg']
    rw [add_none, Nat.zero_add, hc]
    have : (cur.toList.take l.length)[j]? = some (.int .u8 x.toNat) := by rw [htake]; simp [Lib.byteCells, hx]
    rw [List.getElem?_take, if_pos hj] at this
    simpa using this
  have mixed : Tryz.prog.follows .mixedOrders = true := by kernel_rfl
  go_enter Tryz.func48, Tryz.ntmps48
  go_wp2
  go_region_o
  all_goals (go_wp2; go_ret; exact ⟨rfl, (Chg.drew w).trans (freeze_chg w.drew g _)⟩)

/- the builder of tokens in its block -/
abbrev bsCells (oa : Option Addr) (on oc : Nat) (p : Value) (wa : Option Addr) (wl wc : Nat) (op j v : Bool) : List Value := [.slice oa on oc, p, .slice wa wl wc, .bool op, .bool j, .bool v]
structure BsAt (w : World) (b : Nat) (oa wa : Option Addr) (l : List Tok) (s : List UInt8) (op j v : Bool) (p : Value) (oc wc : Nat) : Prop where
  blk : Blk w b (bsCells oa l.length oc p wa s.length wc op j v) 113
  p : p = .pointer none ∨ p = .pointer (some ⟨b, 1, none⟩)
  out : OwnL encTk w (b + 1) 31 oa l.length oc l
  word : Owns w (b + 1) 5 1 wa s.length wc (Lib.byteCells s)
section
variable {w w' : World} {b : Nat} {oa wa : Option Addr} {l : List Tok} {s : List UInt8} {op j v : Bool} {p : Value} {oc wc : Nat} {R : Ending → World → Prop}
theorem BsAt.apart (h : BsAt w b oa wa l s op j v p oc wc) : ∀ k, bk oa k → ¬ bk wa k := by
  intro k h1 h2
  rcases h.out.2 with ho | ⟨g, cap, cur, e1, e2, e3, _⟩
  · simp at ho; rw [ho.1.1] at h1; simp [bk] at h1
  rcases h.word.2 with hw | ⟨g', cap', cur', f1, f2, f3, _⟩
  · simp at hw; rw [hw.1.1] at h2; simp [bk] at h2
  have q1 : oa = some ⟨g, 0, none⟩ := by simpa using (Value.slice.inj e1).1
  have q2 : wa = some ⟨g', 0, none⟩ := by simpa using (Value.slice.inj f1).1
  rw [q1] at h1
  rw [q2] at h2
  simp [bk] at h1 h2
  subst h1
  subst h2
  rw [e3] at f3
  simp at f3
theorem BsAt.bkO (h : BsAt w b oa wa l s op j v p oc wc) {k : Nat} (hk : bk oa k) : b < k ∧ k < w.heap.size := by have := h.out.bk hk; omega
theorem BsAt.bkW (h : BsAt w b oa wa l s op j v p oc wc) {k : Nat} (hk : bk wa k) : b < k ∧ k < w.heap.size := by have := h.word.bk hk; omega
theorem BsAt.lt (h : BsAt w b oa wa l s op j v p oc wc) : b < w.heap.size := h.blk.lt
theorem BsAt.chg {S : Nat → Prop} (h : BsAt w b oa wa l s op j v p oc wc) (hc : Chg S w w') (h1 : ¬ S b) (h2 : ∀ k, bk oa k → ¬ S k) (h3 : ∀ k, bk wa k → ¬ S k) : BsAt w' b oa wa l s op j v p oc wc :=
  ⟨hc.blk h.blk h1, h.p, h.out.chg hc h2, h.word.chg hc h3⟩
theorem BsAt.ext (h : BsAt w b oa wa l s op j v p oc wc) (hc : Ext w w') : BsAt w' b oa wa l s op j v p oc wc :=
  h.chg (S := fun _ => False) (.of_ext hc) (fun h => h) (fun _ _ h => h) (fun _ _ h => h)
/- writing one cell of the block -/
theorem BsAt.cells (h : BsAt w b oa wa l s op j v p oc wc) : w.cell? ((⟨b, 0, none⟩ : Addr).add 0) = some (.slice oa l.length oc) ∧ w.cell? ((⟨b, 0, none⟩ : Addr).add 3) = some (.bool op) ∧ w.cell? ((⟨b, 0, none⟩ : Addr).add 4) = some (.bool j) ∧ w.cell? ((⟨b, 0, none⟩ : Addr).add 5) = some (.bool v) := by
  simp only [add_none, h.blk.cell]; exact ⟨rfl, rfl, rfl, rfl⟩
theorem blk_set {w : World} {b i : Nat} {T : TypeId} {cs : List Value} {u : Value} (hb : Blk w b cs T) (hi : i < cs.length) (hu : u.oneCell' = true) {K : World → Prop}
    (h : ∀ w', Blk w' b (cs.set i u) T → Chg (fun k => k = b) w w' → w'.heap.size = w.heap.size → K w') : stL w ((⟨b, 0, none⟩ : Addr).add i) 0 [u] K := by
  rw [add_none]
  refine stL_blk hb (by simp; omega) (by intro x hx; rw [List.mem_singleton.1 hx]; exact hu) fun w' b1 x2 x3 x4 x5 x6 => ?_
  have e : putAt cs (0 + i + 0) [u] = cs.set i u := by rw [Nat.zero_add, Nat.add_zero]; rfl
  rw [e] at b1
  exact h w' b1 ⟨x4, x5, x6, by omega, fun j _ hj => x2 j hj⟩ x3
theorem BsAt.setOp (h : BsAt w b oa wa l s op j v p oc wc) (op' : Bool) {K : World → Prop} (hk : ∀ w', BsAt w' b oa wa l s op' j v p oc wc → Chg (fun k => k = b) w w' → w'.heap.size = w.heap.size → K w') : stL w ((⟨b, 0, none⟩ : Addr).add 3) 0 [.bool op'] K :=
  blk_set h.blk (by simp) rfl fun w' b1 hc hs => hk w' ⟨b1, h.p, h.out.chg hc fun k hk hh => by have := h.bkO hk; omega, h.word.chg hc fun k hk hh => by have := h.bkW hk; omega⟩ hc hs
theorem BsAt.setJ (h : BsAt w b oa wa l s op j v p oc wc) (j' : Bool) {K : World → Prop} (hk : ∀ w', BsAt w' b oa wa l s op j' v p oc wc → Chg (fun k => k = b) w w' → w'.heap.size = w.heap.size → K w') : stL w ((⟨b, 0, none⟩ : Addr).add 4) 0 [.bool j'] K :=
  blk_set h.blk (by simp) rfl fun w' b1 hc hs => hk w' ⟨b1, h.p, h.out.chg hc fun k hk hh => by have := h.bkO hk; omega, h.word.chg hc fun k hk hh => by have := h.bkW hk; omega⟩ hc hs
theorem BsAt.setV (h : BsAt w b oa wa l s op j v p oc wc) (v' : Bool) {K : World → Prop} (hk : ∀ w', BsAt w' b oa wa l s op j v' p oc wc → Chg (fun k => k = b) w w' → w'.heap.size = w.heap.size → K w') : stL w ((⟨b, 0, none⟩ : Addr).add 5) 0 [.bool v'] K :=
  blk_set h.blk (by simp) rfl fun w' b1 hc hs => hk w' ⟨b1, h.p, h.out.chg hc fun k hk hh => by have := h.bkO hk; omega, h.word.chg hc fun k hk hh => by have := h.bkW hk; omega⟩ hc hs
theorem slT_tok : SlT Tryz.prog 24 31 6 80 (.agg #[.string ⟨#[]⟩, .string ⟨#[]⟩, .string ⟨#[]⟩, .int .i64 0, .int .i64 0, .string ⟨#[]⟩]) := ⟨by kernel_rfl, by kernel_rfl, rfl, by decide⟩
/- writing one byte -/
theorem WriteByte1_spec (h : BsAt w b oa wa l s op j v p oc wc) (c : UInt8) (hlen : s.length ≤ 1000000000)
    (hk : ∀ wa' wc' w', BsAt w' b oa wa' l (s ++ [c]) op j v (.pointer (some ⟨b, 1, none⟩)) oc wc' → Chg (fun k => k = b ∨ bk wa k) w w' → (∀ k, bk wa' k → bk wa k ∨ w.heap.size ≤ k) → R (.returned .nilIface) w') :
    Calls Tryz.prog F_strings_Builder_WriteByte ⟨[.pointer (some ⟨b, 1, none⟩), .int .u8 (c.toNat : Int)]⟩ w R := by
  apply c_strings_Builder_WriteByte
  have hbl := h.lt
  have main : ∀ w1, BsAt w1 b oa wa l s op j v (.pointer (some ⟨b, 1, none⟩)) oc wc → Chg (· = b) w w1 → w1.heap.size = w.heap.size →
      (dr (some ⟨b, 1, none⟩) fun p5 =>
  ∃ (x6 : Option Addr) (x6n : Nat) (x6c : Nat), World.cell? w1 (p5.add 1) = some (.slice x6 x6n x6c) ∧ (al w1 5 [.int .u8 (c.toNat : Int)] fun p7 w8 =>
  app Tryz.prog [73, 73] 73 (.slice x6 x6n x6c) (.slice (some p7) 1 1) w8 fun a9 a9n a9c w10 =>
  dr (some ⟨b, 1, none⟩) fun p11 =>
  stL w10 (p11.add 1) 0 [.slice a9 a9n a9c] fun w12 =>
  R (.returned (.nilIface)) w12)) := by
    intro w1 q1 q3 q4
    refine dr_ok ⟨wa, s.length, wc, by rw [add_none, q1.blk.cell]; rfl, ?_⟩
    refine app_one2 slT_byte q1.word (by have := q1.lt; omega) [.int .u8 (c.toNat : Int)] rfl (by intro u hu; rw [List.mem_singleton.1 hu]; rfl) (by omega) (by omega) fun a' c'' w2 ho hc hn => dr_ok ?_
    have q5 := hc.blk q1.blk (fun hh => by have := q1.bkW hh; omega)
    have e : s.length + 1 = (s ++ [c]).length := by simp
    have eb : Lib.byteCells (s ++ [c]) = Lib.byteCells s ++ [.int .u8 (c.toNat : Int)] := by simp [Lib.byteCells]
    have q6 := q1.out.chg hc fun k hk hh => q1.apart k hk hh
    rw [add_none]
    refine stL_blk q5 (by simp) (by simp [Value.oneCell']) fun w3 r1 r2 r3 r4 r5 r6 => ?_
    have hw23 : Chg (· = b) w2 w3 := ⟨r4, r5, r6, by omega, fun k _ hk => r2 k hk⟩
    have hnb' : ∀ k, bk a' k → ¬ k = b := fun k hk he => by have := (ho.bk hk).1; omega
    refine hk a' c'' w3 ⟨?_, .inr rfl, q6.chg hw23 fun k hk he => by have := q1.bkO hk; omega, ?_⟩ ?_ (fun k hk => (hn k hk).imp id (by omega))
    · rw [← e]; exact r1
    · rw [← e, eb]; exact ho.chg hw23 hnb'
    · exact ((q3.mono fun k _ h => .inl h).trans (hc.mono fun k _ h => .inr h)).trans (hw23.mono fun k _ h => .inl h)
  rcases h.p with rfl | rfl
  · refine (copyCheck1_fresh b w (by rw [h.blk.cell]; rfl) (by simp [World.shape?, show w.heap[b]? = _ from h.blk]) (h.blk.frozen 1)).mono ?_
    rintro e w' ⟨rfl, rfl⟩
    have hset := h.blk.set 1 (.pointer (some ⟨b, 1, none⟩))
    have hc : Chg (· = b) w (w.setCell ⟨b, 1, none⟩ (.pointer (some ⟨b, 1, none⟩))) :=
      ⟨rfl, rfl, rfl, by simp, fun k _ hk => by simp only [World.setCell, Array.getElem?_modify]; rw [if_neg (fun e => hk e.symm)]⟩
    exact ⟨rfl, main _ ⟨hset, .inr rfl, h.out.chg hc fun k hk he => by have := h.bkO hk; omega, h.word.chg hc fun k hk he => by have := h.bkW hk; omega⟩ hc (by simp)⟩
  · refine (copyCheck1_used b w (by rw [h.blk.cell]; rfl)).mono ?_
    rintro e w' ⟨rfl, rfl⟩
    exact ⟨rfl, main _ h (Chg.refl _ _) rfl⟩
end
end Go.Proofs
namespace Go.Proofs
open Go Go.Sh Go.RowKit

/- writing one cell of an element -/
section
variable {α : Type} {E : Enc α}
theorem row_set1 {x x' : α} {f : Nat} {u : Value} (hf : f < E.size) (hu : E.enc x' = (E.enc x).set f u) : ∀ {l : List α} {i : Nat}, l[i]? = some x → (E.row l).set (i * E.size + f) u = E.row (l.set i x')
  | [], i, h => by simp at h
  | y :: l, 0, h => by
    obtain rfl : y = x := by simpa using h
    rw [row_cons, Nat.zero_mul, Nat.zero_add, List.set_append_left _ _ (by rw [E.len]; exact hf), List.set_cons_zero, row_cons, hu]
  | y :: l, i + 1, h => by
    have h' : l[i]? = some x := by simpa using h
    rw [row_cons, List.set_append_right _ _ (by rw [E.len, Nat.add_mul]; omega), List.set_cons_succ, row_cons, ← row_set1 hf hu h', E.len]
    congr 2
    rw [Nat.add_mul]; omega
theorem OwnL.storeCell {w : World} {B : Nat} {e : TypeId} {a : Option Addr} {n c : Nat} {l : List α} (h : OwnL E w B e a n c l) {i : Nat} {x : α} (hx : l[i]? = some x) :
    ∃ g, a = some ⟨g, 0, none⟩ ∧ (∀ K : Addr → Prop, K ⟨g, i * E.size, none⟩ → idx a n (i : Int) E.size K) ∧ (∀ j v, (E.enc x)[j]? = some v → w.cell? ⟨g, i * E.size + j, none⟩ = some v) ∧
      ∀ (f : Nat) (u : Value) (x' : α) (K : World → Prop), f < E.size → u.oneCell' = true → E.enc x' = (E.enc x).set f u → (∀ w', OwnL E w' B e a n c (l.set i x') → Chg (bk a) w w' → w'.heap.size = w.heap.size → K w') → stL w ⟨g, i * E.size + f, none⟩ 0 [u] K := by
  have hl := h.length
  have hi : i < n := by rw [← hl]; exact (List.getElem?_eq_some_iff.1 hx).1
  have hrd := h.out.get hx
  rcases h.2 with h1 | ⟨g, cap, cur, e1, e2, e3, e4, e5, e6, e7⟩
  · omega
  obtain ⟨rfl, _, rfl⟩ : a = some ⟨g, 0, none⟩ ∧ True ∧ c = cap := by simpa using e1
  have hB : Blk w g cur.toList e := e3
  have hcl : cur.toList.length = c * E.size := by simpa using e6
  have hcur : cur.toList = E.row l ++ cur.toList.drop (n * E.size) := by rw [← e7, List.take_append_drop]
  have hin : i * E.size + E.size ≤ n * E.size := by
    have : (i + 1) * E.size ≤ n * E.size := Nat.mul_le_mul_right _ hi
    rwa [Nat.add_mul, Nat.one_mul] at this
  have hnc : n * E.size ≤ c * E.size := Nat.mul_le_mul_right _ e4
  refine ⟨g, rfl, fun K hK => ⟨by omega, by omega, ?_⟩, fun j v hj => ?_, fun f u x' K hf h1 hu hK => ?_⟩
  · show K _
    rw [add_none, Int.toNat_natCast, Nat.zero_add]; exact hK
  · have hjl : j < E.size := by have := (List.getElem?_eq_some_iff.1 hj).1; rw [E.len] at this; exact this
    rw [hB.cell, hcur, List.getElem?_append_left (by rw [row_len, hl]; omega), row_get hx hjl]; exact hj
  refine stL_blk hB (by simp only [List.length_cons, List.length_nil]; omega) (by intro y hy; rw [List.mem_singleton.1 hy]; exact h1) fun w' b1 b2 b3 b4 b5 b6 => ?_
  have hc : Chg (bk (some (⟨g, 0, none⟩ : Addr))) w w' := ⟨b4, b5, b6, by omega, fun k' _ hk => b2 k' fun e => hk (by simp [bk, e])⟩
  have hp : putAt cur.toList (i * E.size + f + 0) [u] = E.row (l.set i x') ++ cur.toList.drop (n * E.size) := by
    show cur.toList.set (i * E.size + f + 0) u = _
    rw [Nat.add_zero]
    conv => lhs; rw [hcur]
    rw [List.set_append_left _ _ (by rw [row_len, hl]; omega), row_set1 hf hu hx]
  rw [hp] at b1
  refine hK w' ⟨by rw [row_len, List.length_set, hl], .inr ⟨g, c, ⟨_⟩, rfl, e2, b1, e4, e5, ?_, ?_⟩⟩ hc b3
  · show (E.row (l.set i x') ++ cur.toList.drop (n * E.size)).length = c * E.size
    rw [List.length_append, List.length_drop, hcl, row_len, List.length_set, hl]; omega
  · show List.take (n * E.size) (E.row (l.set i x') ++ _) = _
    rw [List.take_append_of_le_length (by rw [row_len, List.length_set, hl]; exact Nat.le_refl _), List.take_of_length_le (by rw [row_len, List.length_set, hl]; exact Nat.le_refl _)]
end
section
variable {w w' : World} {b : Nat} {oa wa : Option Addr} {l : List Tok} {s : List UInt8} {op j v : Bool} {p : Value} {oc wc : Nat} {R : Ending → World → Prop}
/- the token that was begun last -/
theorem tklast_spec {t : Tok} (h : BsAt w b oa wa (l ++ [t]) s op j v p oc wc) (hl : l.length ≤ 1000000000) (hk : ∀ g w', oa = some ⟨g, 0, none⟩ → BsAt w' b oa wa (l ++ [t]) s op j v p oc wc → Ext w w' → R (.returned (.pointer (some ⟨g, l.length * 6, none⟩))) w') :
    Calls Tryz.prog F_tokenizer_builder_last ⟨[.pointer (some ⟨b, 0, none⟩)]⟩ w R := by
  apply c_tokenizer_builder_last
  unfold sh_tokenizer_builder_last drw
  have ed := ext_drew w
  have h := h.ext ed
  generalize w.drew = wd at *
  have hx : (l ++ [t])[l.length]? = some t := by simp
  obtain ⟨g, rfl, hq, _⟩ := OwnL.storeCell h.out hx
  have e : IntKind.i64.wrap ((((l ++ [t]).length : Nat) : Int) - 1) = (l.length : Int) := by
    rw [List.length_append, List.length_singleton, wrap_id (by omega)]; omega
  refine dr_ok ⟨_, _, _, h.cells.1, dr_ok ⟨_, _, _, h.cells.1, ?_⟩⟩
  rw [e]
  exact hq _ (hk g wd rfl h ed)
/- writing the last token's text, and its flags -/
theorem BsAt.last {t : Tok} (h : BsAt w b oa wa (l ++ [t]) s op j v p oc wc) {g : Nat} (hg : oa = some ⟨g, 0, none⟩) :
    w.cell? ((⟨g, l.length * 6, none⟩ : Addr).add 4) = some (.int .i64 t.g) ∧
    (∀ (u : List UInt8) (K : World → Prop), (∀ w', BsAt w' b oa wa (l ++ [{ t with t := u }]) s op j v p oc wc → Chg (bk oa) w w' → K w') → stL w ((⟨g, l.length * 6, none⟩ : Addr).add 0) 0 [.string ⟨⟨u⟩⟩] K) ∧
    (∀ (u : Int) (K : World → Prop), (∀ w', BsAt w' b oa wa (l ++ [{ t with g := u }]) s op j v p oc wc → Chg (bk oa) w w' → K w') → stL w ((⟨g, l.length * 6, none⟩ : Addr).add 4) 0 [.int .i64 u] K) := by
  have hx : (l ++ [t])[l.length]? = some t := by simp
  obtain ⟨g', hg', _, hc, hs⟩ := OwnL.storeCell h.out hx
  have : g' = g := by rw [hg] at hg'; simpa using hg'.symm
  subst this
  have hset : ∀ t' : Tok, (l ++ [t]).set l.length t' = l ++ [t'] := fun t' => by rw [List.set_append_right _ _ (Nat.le_refl _)]; simp
  have fin : ∀ (t' : Tok) (w' : World), OwnL encTk w' (b + 1) 31 oa (l ++ [t]).length oc (l ++ [t']) → Chg (bk oa) w w' → BsAt w' b oa wa (l ++ [t']) s op j v p oc wc := by
    intro t' w' ho hcg
    have e : (l ++ [t']).length = (l ++ [t]).length := by simp
    refine ⟨?_, h.p, by rw [e]; exact ho, h.word.chg hcg fun k hk hh => h.apart k hh hk⟩
    rw [e]
    exact hcg.blk h.blk fun hh => by have := h.bkO hh; omega
  refine ⟨?_, fun u K hK => ?_, fun u K hK => ?_⟩
  · rw [add_none]; exact hc 4 _ rfl
  · rw [add_none]
    refine hs 0 _ { t with t := u } K (by decide) rfl rfl fun w' ho hcg hsz => hK w' ?_ hcg
    rw [hset] at ho
    exact fin _ _ ho hcg
  · rw [add_none]
    refine hs 4 _ { t with g := u } K (by decide) rfl rfl fun w' ho hcg hsz => hK w' ?_ hcg
    rw [hset] at ho
    exact fin _ _ ho hcg
def stFl (flags : Int) (j v : Bool) : Int := if v = true then bitO .i64 (if j = true then bitO .i64 flags 16 else flags) 4 else if j = true then bitO .i64 flags 16 else flags
theorem OwnL.app1 {α : Type} {E : Enc α} {P : Program} {t ty e : TypeId} {bytes : Nat} {z : Value} (hT : SlT P t e E.size bytes z) {w : World} {B : Nat} {a : Option Addr} {n c : Nat} {l : List α} (h : OwnL E w B e a n c l) (hB : B ≤ w.heap.size) {b' : Nat} {e' : TypeId} {x : α} (hb : Blk w b' (E.enc x) e')
    (hlen : n + 1 ≤ 4611686018427387904) (hbytes : (n + 1) * bytes ≤ 140737488355328) {K : Option Addr → Nat → Nat → World → Prop}
    (hk : ∀ a' c'' w', OwnL E w' B e a' (n + 1) c'' (l ++ [x]) → Chg (bk a) w w' → (∀ k, bk a' k → bk a k ∨ w.heap.size ≤ k) → K a' (n + 1) c'' w') :
    app P [t, t] ty (.slice a n c) (.slice (some ⟨b', 0, none⟩) 1 1) w K :=
  app_own2 (S := fun _ => True) hT h hB (E.enc x) (by rw [E.len, Nat.one_mul]) (.inr ⟨b', 0, rfl, trivial, hb.lt, fun j u hj => by rw [Nat.zero_add, hb.cell]; exact hj⟩) (E.one x) hlen hbytes
    fun a' c'' w' ho hc hn => hk a' c'' w' (by unfold OwnL; rw [row_snoc]; exact ho) hc hn
theorem BsAt.mkOut {oa0 : Option Addr} {on0 oc0 : Nat} (hbk : Blk w b (bsCells oa0 on0 oc0 p wa s.length wc op j v) 113) (hp : p = .pointer none ∨ p = .pointer (some ⟨b, 1, none⟩)) {oa' : Option Addr} {oc' : Nat} {l' : List Tok} (ho : OwnL encTk w (b + 1) 31 oa' l'.length oc' l')
    (hw : Owns w (b + 1) 5 1 wa s.length wc (Lib.byteCells s)) {K : World → Prop}
    (hk : ∀ w', BsAt w' b oa' wa l' s op j v p oc' wc → Chg (fun k => k = b) w w' → w'.heap.size = w.heap.size → K w') : stL w ((⟨b, 0, none⟩ : Addr).add 0) 0 [.slice oa' l'.length oc'] K :=
  blk_set hbk (by simp) rfl fun w' b1 hc hs => hk w' ⟨b1, hp, ho.chg hc fun k hk hh => by have := (ho.bk hk).1; omega, hw.chg hc fun k hk hh => by have := (hw.bk hk).1; omega⟩ hc hs
/- a token begins -/
set_option maxRecDepth 20000 in
theorem tkstart_spec (h : BsAt w b oa wa l s op j v p oc wc) (hl : l.length ≤ 1000000000) (hj : j = true → l ≠ []) (x2 x3 x4 : Int) (q : Ps) (u : Bool) (nm : List UInt8) (flags : Int)
    (hk : ∀ oa' oc' w', BsAt w' b oa' wa (l ++ [⟨[], [], q, stFl flags j v, nm⟩]) s op true false p oc' wc → Chg (fun k => k = b ∨ bk oa k) w w' → (∀ k, bk oa' k → bk oa k ∨ w.heap.size ≤ k) → R (.returned (.tuple ⟨[]⟩)) w') :
    Calls Tryz.prog F_tokenizer_builder_start ⟨[.pointer (some ⟨b, 0, none⟩), .agg ⟨[.int .i64 x2, .int .u8 x3, .int .i64 x4, .string ⟨⟨q.1⟩⟩, .int .i64 q.2, .bool u, .string ⟨⟨nm⟩⟩]⟩, .int .i64 flags]⟩ w R := by
  apply c_tokenizer_builder_start
  refine al_intro fun b10 w11 hb10 B10 e11 s11 => ?_
  have h11 := h.ext e11
  have hbl := h.lt
  intro K12 hK12
  have k12 : K12 (if j = true then bitO .i64 flags 16 else flags) w11 := by
    refine hK12 _ _ fun _ => ?_
    intro K15 hK15
    have k15 : K15 (stFl flags j v) w11 := by
      refine hK15 _ _ fun _ => ?_
      unfold drw
      have ed := ext_drew w11
      have h12 := h11.ext ed
      have B12 := B10.ext ed
      have zd : w11.drew.heap.size = w11.heap.size := rfl
      have E12 := ext_trans e11 ed
      generalize w11.drew = wd at *
      have c3 : ∀ i v, [Value.int .i64 x2, .int .u8 x3, .int .i64 x4, .string ⟨⟨q.1⟩⟩, .int .i64 q.2, .bool u, .string ⟨⟨nm⟩⟩][i]? = some v → wd.cell? ⟨b10, i, none⟩ = some v := fun i v hi => by rw [B12.cell]; exact hi
      refine dr_ok ⟨_, _, _, h12.cells.1, q.1, by rw [add_none, add_none]; exact c3 3 _ rfl, q.2, by rw [add_none, add_none]; exact c3 4 _ rfl, nm, by rw [add_none]; exact c3 6 _ rfl, ?_, trivial⟩
      refine al_intro fun b24 w25 hb24 B24 e25 s25 => ⟨?_, trivial⟩
      have h25 := h12.ext e25
      have E25 := ext_trans E12 e25
      have z25 := E25.size
      have B24' : Blk w25 b24 (encTk.enc ⟨[], [], q, stFl flags j v, nm⟩) 31 := B24
      refine OwnL.app1 (P := Tryz.prog) slT_tok h25.out (by have := h25.lt; omega) B24' (by omega) (by omega) fun a' c'' w27 ho hcg hn => dr_ok ⟨?_, trivial⟩
      have e : l.length + 1 = (l ++ [(⟨[], [], q, stFl flags j v, nm⟩ : Tok)]).length := by simp
      rw [e] at ho ⊢
      have hb27 := hcg.blk h25.blk fun hh => by have := h25.bkO hh; omega
      refine BsAt.mkOut hb27 h.p ho (h25.word.chg hcg fun k hk hh => h25.apart k hh hk) fun w29 h29 c29 s29 => dr_ok ?_
      refine h29.setJ true fun w31 h31 c31 s31 => dr_ok ?_
      refine h31.setV false fun w33 h33 c33 s33 => ?_
      refine hk a' c'' w33 h33 ?_ fun k hk => (hn k hk).imp id fun hh => by omega
      exact (((((Chg.of_ext E25).trans (hcg.mono fun k _ hk => .inr hk)).trans (c29.mono fun k _ hk => .inl hk)).trans (c31.mono fun k _ hk => .inl hk)).trans (c33.mono fun k _ hk => .inl hk))
    refine dr_ok ⟨_, h11.cells.2.2.2, br_cases (fun g => ?_) (fun g => ?_)⟩
    · have e : stFl flags j v = bitO .i64 (if j = true then bitO .i64 flags 16 else flags) 4 := by unfold stFl; rw [if_pos g]
      rw [← e]; exact k15
    · have e : stFl flags j v = if j = true then bitO .i64 flags 16 else flags := by unfold stFl; rw [if_neg (by rw [g]; decide)]
      rw [← e]; exact k15
  refine dr_ok ⟨_, h11.cells.2.2.1, br_cases (fun g => dr_ok ⟨_, _, _, h11.cells.1, br_split (fun _ => ?_) (fun g0 => ?_)⟩) (fun g => ?_)⟩
  · rw [if_pos g] at k12; exact k12
  · have := List.length_pos_iff.2 (hj g)
    omega
  · rw [if_neg (by rw [g]; decide)] at k12; exact k12
/- the word ends -/
theorem Reset1_spec {wl : Nat} (hb : Blk w b (bsCells oa l.length oc p wa wl wc op j v) 113) (ho : OwnL encTk w (b + 1) 31 oa l.length oc l) (hk : ∀ w', BsAt w' b oa none l [] op j v (.pointer none) oc 0 → Chg (fun k => k = b) w w' → R (.returned (.tuple ⟨[]⟩)) w') :
    Calls Tryz.prog F_strings_Builder_Reset ⟨[.pointer (some ⟨b, 1, none⟩)]⟩ w R := by
  apply c_strings_Builder_Reset
  have e1 : ((⟨b, 1, none⟩ : Addr).add 0) = (⟨b, 0, none⟩ : Addr).add 1 := by simp only [add_none]
  have e2 : ((⟨b, 1, none⟩ : Addr).add 1) = (⟨b, 0, none⟩ : Addr).add 2 := by simp only [add_none]
  refine dr_ok ?_
  rw [e1]
  refine blk_set hb (by simp) rfl fun w3 b3 c3 s3 => dr_ok ?_
  rw [e2]
  refine blk_set b3 (by simp) rfl fun w5 b5 c5 s5 => ?_
  have hb' : ∀ k, bk oa k → ¬ k = b := fun k hk hh => by have := (ho.bk hk).1; omega
  refine hk w5 ⟨b5, .inl rfl, (ho.chg c3 hb').chg c5 hb', Owns.nil _ _ _ _⟩ (c3.trans c5)
set_option maxRecDepth 20000 in
theorem end_spec_open {t : Tok} (h : BsAt w b oa wa (l ++ [t]) s true j v p oc wc) (hl : l.length ≤ 1000000000) (hs : s ≠ [])
    (hk : ∀ w', BsAt w' b oa none (l ++ [{ t with t := s }]) [] false j v (.pointer none) oc 0 → Chg (fun k => k = b ∨ bk oa k ∨ bk wa k) w w' → R (.returned (.tuple ⟨[]⟩)) w') :
    Calls Tryz.prog F_tokenizer_builder_end ⟨[.pointer (some ⟨b, 0, none⟩)]⟩ w R := by
  apply c_tokenizer_builder_end
  have hbl := h.lt
  intro K2 hK2
  have k2 : ∀ w3 wl, Blk w3 b (bsCells oa (l ++ [t]).length oc p wa wl wc true j v) 113 → OwnL encTk w3 (b + 1) 31 oa (l ++ [t]).length oc (l ++ [{ t with t := s }]) → Chg (fun k => k = b ∨ bk oa k ∨ bk wa k) w w3 → K2 w3 := by
    intro w3 wl q1 q2 q3
    refine hK2 _ fun _ => dr_ok ?_
    refine blk_set q1 (by simp) rfl fun w5 b5 c5 s5 => dr_ok ?_
    have hb' : ∀ k, bk oa k → ¬ k = b := fun k hk hh => by have := (q2.bk hk).1; omega
    have e : (l ++ [t]).length = (l ++ [({ t with t := s } : Tok)]).length := by simp
    rw [add_none]
    refine Reset1_spec (l := l ++ [{ t with t := s }]) (wl := wl) (op := false) (by rw [← e]; exact b5) (by rw [← e]; exact q2.chg c5 hb') fun w' q4 c6 => ⟨rfl, ?_⟩
    exact hk w' q4 ((q3.trans (c5.mono fun k _ hk => .inl hk)).trans (c6.mono fun k _ hk => .inl hk))
  have hsl : 0 < s.length := List.length_pos_iff.2 hs
  have str : ∀ v1 (oa1 : Option Addr) (l1 : List Tok), BsAt v1 b oa1 wa l1 s true j v p oc wc → ∀ R' : Ending → World → Prop, (∀ w', Blk w' b (bsCells oa1 l1.length oc p wa s.length wc true j v) 113 → OwnL encTk w' (b + 1) 31 oa1 l1.length oc l1 → Chg (bk wa) v1 w' → R' (.returned (.string ⟨⟨s⟩⟩)) w') →
      Calls Tryz.prog 48 ⟨[.pointer (some ⟨b, 1, none⟩)]⟩ v1 R' := by
    intro v1 oa1 l1 hv R' hR
    rcases hv.word.2 with h1 | ⟨g, cap, cur, e1, e2, e3, e4, e5, e6, e7⟩
    · omega
    obtain ⟨hwa, _, hcap⟩ : wa = some ⟨g, 0, none⟩ ∧ True ∧ wc = cap := by simpa using e1
    have c2 : v1.cell? ⟨b, 2, none⟩ = some (.slice (some ⟨g, 0, none⟩) s.length cap) := by rw [hv.blk.cell, ← hwa, ← hcap]; rfl
    have e6' : cur.size = cap := by simpa using e6
    have e7' : cur.toList.take s.length = Lib.byteCells s := by simpa using e7
    refine (String1_spec b g cap cur s v1 hs c2 e3 e4 e5 e6' e7').mono ?_
    rintro e w' ⟨rfl, hc⟩
    have hc' : Chg (bk wa) v1 w' := hc.mono fun k _ hk => by rw [hwa, hk]; simp [bk]
    exact hR w' (hc'.blk hv.blk fun hh => by have := hv.bkW hh; omega) (hv.out.chg hc' fun k hk hh => hv.apart k hk hh) hc'
  unfold drw
  have ed := ext_drew w
  have h' := h.ext ed
  have cd : Chg (fun k => k = b ∨ bk oa k ∨ bk wa k) w w.drew := .of_ext ed
  generalize w.drew = wd at *
  -- the text is written
  have wr : ∀ (v1 : World) (g : Nat), oa = some ⟨g, 0, none⟩ → Blk v1 b (bsCells oa (l ++ [t]).length oc p wa s.length wc true j v) 113 → OwnL encTk v1 (b + 1) 31 oa (l ++ [t]).length oc (l ++ [t]) → Chg (fun k => k = b ∨ bk oa k ∨ bk wa k) w v1 →
      stL v1 ((⟨g, l.length * 6, none⟩ : Addr).add 0) 0 [.string ⟨⟨s⟩⟩] fun w20 => K2 w20 := by
    intro v1 g hg q1 q2 q3
    have hx : (l ++ [t])[l.length]? = some t := by simp
    obtain ⟨g', hg', _, _, hst⟩ := OwnL.storeCell q2 hx
    have : g' = g := by rw [hg] at hg'; simpa using hg'.symm
    subst this
    rw [add_none]
    refine hst 0 _ { t with t := s } _ (by decide) rfl rfl fun w' ho hcg hsz => ?_
    have hset : (l ++ [t]).set l.length { t with t := s } = l ++ [{ t with t := s }] := by rw [List.set_append_right _ _ (Nat.le_refl _)]; simp
    rw [hset] at ho
    exact k2 w' _ (hcg.blk q1 fun hh => by have := (q2.bk hh).1; omega) ho (q3.trans (hcg.mono fun k _ hk => .inr (.inl hk)))
  have c3 := h.cells.2.1
  refine dr_ok ⟨_, c3, ?_⟩
  simp only [br_t]
  have way1 : Calls Tryz.prog 137 ⟨[.pointer (some ⟨b, 0, none⟩)]⟩ wd fun (e12 : Ending) (w13 : World) => ∃ (x14 : Option Addr), e12 = .returned (.pointer x14) ∧ (dr (some (⟨b, 0, none⟩ : Addr)) fun p15 => (Calls Tryz.prog 48 ⟨[.pointer (some (p15.add 1))]⟩ w13 fun (e16 : Ending) (w17 : World) =>
      ∃ (x18 : List UInt8), e16 = .returned (.string ⟨⟨x18⟩⟩) ∧ (dr x14 fun p19 => (stL w17 (p19.add 0) 0 [.string ⟨⟨x18⟩⟩] fun w20 => K2 w20) ∧ True)) ∧ True) := by
    refine tklast_spec h' (by omega) fun g w13 hg h13 e13 => ⟨_, rfl, dr_ok ⟨?_, trivial⟩⟩
    rw [add_none]
    refine str w13 oa _ h13 _ fun w17 b17 o17 c17 => ⟨_, rfl, dr_ok ⟨?_, trivial⟩⟩
    exact wr w17 g hg b17 o17 ((cd.trans (.of_ext e13)).trans (c17.mono fun k _ hk => .inr (.inr hk)))
  have way2 : Calls Tryz.prog 137 ⟨[.pointer (some ⟨b, 0, none⟩)]⟩ wd fun (e12 : Ending) (w13 : World) => ∃ (x14 : Option Addr), e12 = .returned (.pointer x14) ∧ ((Calls Tryz.prog 48 ⟨[.pointer (some ((⟨b, 0, none⟩ : Addr).add 1))]⟩ w13 fun (e16 : Ending) (w17 : World) =>
      ∃ (x18 : List UInt8), e16 = .returned (.string ⟨⟨x18⟩⟩) ∧ (dr x14 fun p19 => (stL w17 (p19.add 0) 0 [.string ⟨⟨x18⟩⟩] fun w20 => K2 w20) ∧ True)) ∧ True) := by
    refine tklast_spec h' (by omega) fun g w13 hg h13 e13 => ⟨_, rfl, ?_, trivial⟩
    rw [add_none]
    refine str w13 oa _ h13 _ fun w17 b17 o17 c17 => ⟨_, rfl, dr_ok ⟨?_, trivial⟩⟩
    exact wr w17 g hg b17 o17 ((cd.trans (.of_ext e13)).trans (c17.mono fun k _ hk => .inr (.inr hk)))
  exact ⟨way1, ⟨way1, dr_ok ⟨way2, ⟨way2, trivial⟩, trivial⟩, trivial⟩, trivial⟩
theorem end_spec_shut (h : BsAt w b oa wa l s false j v p oc wc) (hk : ∀ w', BsAt w' b oa none l [] false j v (.pointer none) oc 0 → Chg (fun k => k = b ∨ bk oa k ∨ bk wa k) w w' → R (.returned (.tuple ⟨[]⟩)) w') :
    Calls Tryz.prog F_tokenizer_builder_end ⟨[.pointer (some ⟨b, 0, none⟩)]⟩ w R := by
  apply c_tokenizer_builder_end
  intro K2 hK2
  refine dr_ok ⟨_, h.cells.2.1, ?_⟩
  simp only [br_f]
  refine hK2 _ fun _ => dr_ok ?_
  refine h.setOp false fun w5 h5 c5 s5 => dr_ok ?_
  rw [add_none]
  refine Reset1_spec h5.blk h5.out fun w' q4 c6 => ⟨rfl, ?_⟩
  exact hk w' q4 ((c5.mono fun k _ hk => .inl hk).trans (c6.mono fun k _ hk => .inl hk))
end
end Go.Proofs
namespace Go.Proofs
open Go Go.Sh Go.RowKit

def rowE (e : Nat → Bool) (prev : Nat → Nat) (first : Nat) : Nat → Nat
  | 0 => first
  | k + 1 => min (min (prev k + if e k then 0 else 1) (prev (k + 1) + 1)) (rowE e prev first k + 1)
def ed (eq : Nat → Nat → Bool) : Nat → Nat → Nat
  | 0 => fun k => k
  | i + 1 => rowE (eq i) (ed eq i) (i + 1)
/- a row of numbers, of which the first ones are known -/
def FnRow (w : World) (B b n t : Nat) (f : Nat → Int) : Prop := ∃ L : List Int, OwnL Sh.encI w B 3 (some ⟨b, 0, none⟩) n n L ∧ ∀ j, j < t → L[j]? = some (f j)
theorem FnRow.chg {S : Nat → Prop} {w w' : World} {B b n t : Nat} {f : Nat → Int} (h : FnRow w B b n t f) (hc : Chg S w w') (hS : ¬ S b) : FnRow w' B b n t f := by
  obtain ⟨L, h1, h2⟩ := h
  exact ⟨L, h1.chg hc fun k hk hs => hS (by simp [bk] at hk; subst hk; exact hs), h2⟩
theorem FnRow.ext {w w' : World} {B b n t : Nat} {f : Nat → Int} (h : FnRow w B b n t f) (hc : Ext w w') : FnRow w' B b n t f := h.chg (S := fun _ => False) (.of_ext hc) id
theorem FnRow.any {w : World} {B b n t : Nat} {f g : Nat → Int} (h : FnRow w B b n t f) : FnRow w B b n 0 g := by
  obtain ⟨L, h1, h2⟩ := h
  exact ⟨L, h1, fun j hj => by omega⟩
theorem FnRow.lt {w : World} {B b n t : Nat} {f : Nat → Int} (h : FnRow w B b n t f) (hn : 0 < n) : B ≤ b ∧ b < w.heap.size := by
  obtain ⟨L, h1, h2⟩ := h
  exact h1.bk (by simp [bk])
theorem FnRow.get {w : World} {B b n t : Nat} {f : Nat → Int} (h : FnRow w B b n t f) {j : Nat} (hj : j < t) (htn : t ≤ n) {K : Addr → Prop} (hK : ∀ p, w.cell? p = some (.int .i64 (f j)) → K p) : idx (some ⟨b, 0, none⟩) n (j : Int) 1 K := by
  obtain ⟨L, h1, h2⟩ := h
  obtain ⟨bb, o, hi, _, _, hc⟩ := h1.out.get (h2 j hj)
  exact hi K (hK _ (hc 0 _ rfl))
theorem FnRow.set {w : World} {B b n t : Nat} {f : Nat → Int} (h : FnRow w B b n t f) (htn : t < n) {v : Int} (hv : v = f t) {K : World → Prop} (hK : ∀ w', FnRow w' B b n (t + 1) f → Chg (fun k => k = b) w w' → w'.heap.size = w.heap.size → K w') :
    idx (some ⟨b, 0, none⟩) n (t : Int) 1 fun p => stL w p 0 [.int .i64 v] K := by
  obtain ⟨L, h1, h2⟩ := h
  obtain ⟨g, hg, hi, hst⟩ := h1.store htn v
  have hl := h1.length
  refine hi _ (hst _ fun w' ho hc hz => hK w' ⟨_, ho, fun j hj => ?_⟩ (hc.mono fun k _ hk => by simp [bk] at hk; exact hk.symm) hz)
  rw [List.getElem?_set]
  by_cases e : t = j
  · subst e; rw [if_pos rfl, if_pos (by omega), hv]
  · rw [if_neg e]; exact h2 j (by omega)

end Go.Proofs
namespace Go.Proofs
open Go Go.Sh Go.RowKit

def BytesAt (w : World) (b : Nat) (l : List UInt8) : Prop := ∀ j (hj : j < l.length), w.cell? ⟨b, j, none⟩ = some (.int .u8 (l[j].toNat : Int))
theorem BytesAt.ext {w w' : World} {b : Nat} {l : List UInt8} (h : BytesAt w b l) (hb : l ≠ [] → b < w.heap.size) (he : Ext w w') : BytesAt w' b l := by
  intro j hj
  have := h j hj
  unfold World.cell? at this ⊢
  rw [he.block b (hb fun e => by subst e; simp at hj)]; exact this
/- the script, as it is found from the end -/
/- in the last case there is an element left of b, and the number goes down -/
/- what edits make of a string: what has been written, and how far the string has been read -/
/- the edits stand in order, and within the string -/
end Go.Proofs
namespace Go.Proofs
open Go Go.Sh Go.RowKit

/- a table: its rows lie in blocks of their own; of row i the first (c i) numbers are known -/
section
variable {w w' : World} {B bd n m t : Nat} {c : Nat → Nat} {D : Nat → Nat → Int}
end
end Go.Proofs
namespace Go.Proofs
open Go Go.Sh Go.RowKit

/- turning a row round -/
end Go.Proofs
namespace Go.Proofs
open Go Go.Sh Go.RowKit

end Go.Proofs
namespace Go.Proofs
open Go Go.Sh Go.RowKit

theorem b2s_intro {w : World} {B : Nat} {a : Option Addr} {n c : Nat} {l : List UInt8} {K : List UInt8 → Prop} (h : Owns w B 5 1 a n c (Lib.byteCells l)) (hK : K l) : b2s Tryz.prog w a n c K := by
  have hl : l.length = n := by have := h.1; simpa [Lib.byteCells] using this
  refine ⟨l, ?_, hK⟩
  by_cases hn : 0 < n
  · obtain ⟨g, rfl, _, hc⟩ := h.cell hn
    have := run_convert_bytes_back (P := Tryz.prog) w 73 9 5 ⟨g, 0, none⟩ c l (by kernel_rfl) (by kernel_rfl) (by kernel_rfl) (fun j hj => by rw [add_none, Nat.zero_add]; exact hc j _ (by simp [Lib.byteCells, hj]))
    rw [run_convert_bytes_string w 73 9 5 _ _ _ (by kernel_rfl) (by kernel_rfl) (by kernel_rfl), hl] at this
    exact this
  · have hl0 : l = [] := List.eq_nil_of_length_eq_zero (by omega)
    subst hl0
    obtain rfl : n = 0 := by omega
    cases a with
    | none => simp [Conv.bytesToString]; rfl
    | some p =>
      have := run_convert_bytes_back (P := Tryz.prog) w 73 9 5 p c [] (by kernel_rfl) (by kernel_rfl) (by kernel_rfl) (fun j hj => by simp at hj)
      rw [run_convert_bytes_string w 73 9 5 _ _ _ (by kernel_rfl) (by kernel_rfl) (by kernel_rfl)] at this
      exact this
/- where the edits before a place have brought -/
end Go.Proofs
