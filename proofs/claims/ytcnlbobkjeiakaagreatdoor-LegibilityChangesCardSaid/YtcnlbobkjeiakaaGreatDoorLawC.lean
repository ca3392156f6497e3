/- The contracts of the functions that the law reaches, one after the other, and at the end the law's card. -/
import Derived.Test.YtcnlbobkjeiakaaGreatDoorLawB
import Derived.Deep.Slices
import Derived.Carry
import Derived.ChangeSame
import Derived.RowKit
import Derived.OpenShut
import Derived.Test.YtcnlbobkjeiakaaGreatDoorCards
import Derived.Test.YtcnlbobkjeiakaaGreatDoorTie
import Derived.Deep.DeepHandedRow
import Derived.Lib.LaidTab
import Derived.Lib.LaidU8
import Derived.WalkKit
import Derived.ProofKit
namespace Go.Proofs
open Go Go.Sh Go.RowKit

theorem Merge_spec' : ∀ (f : Fo) {R : Ending → World → Prop} {S : Nat → Prop} {w : World} {a : Option Addr} {n c : Nat}, f.size ≤ 1000000000 → tlen f ≤ 4611686018427387904 → SlF S w a n f →
    (∀ a' n' c' w', SlF (fun k => S k ∨ w.heap.size ≤ k) w' a' n' (mergeF f) → Ext w w' → R (.returned (.slice a' n' c')) w') → Calls Tryz.prog F_ref10_Merge ⟨[.slice a n c]⟩ w R := by
  intro f
  induction hz : f.size using Nat.strongRecOn generalizing f with
  | _ z ih =>
  intro R S w a n c hs ht hf0 h
  apply c_ref10_Merge
  have hn := hf0.1
  have hfl := f.len_le_size
  have hf : SlF (fun k => S k ∧ k < w.heap.size) w a n f := hf0.imp fun k hk hl => ⟨hk, hl⟩
  refine al_intro fun b0 w0 hb0 hB0 e0 s0 => ?_
  refine ⟨fun oa on oc i W m => ∃ (p r out : Fo), f = p.app r ∧ i = p.len ∧ m = r.len ∧ OwnF 45 (fun k => S k ∧ k < w.heap.size) w.heap.size W oa on oc out ∧ out.len ≤ p.len ∧ (∀ pre k t m ps, out = Fo.app pre (.one k t m ps) → t.length ≤ tlen p) ∧ Ext w W ∧ mergeF f = mgo r out,
    ⟨_, .nil, f, .nil, rfl, rfl, rfl, ⟨rfl, [], Owns.made hB0 (by omega), rfl⟩, by simp, ?_, e0, rfl⟩, ?_⟩
  · intro pre k t m ps he
    have := congrArg Fo.len he; simp [Fo.one] at this
  rintro oa on oc _ W m ⟨p, r, out, hpr, rfl, rfl, hout, holen, hlast, he, heq⟩ _
  have hon := hout.len
  have hwW := he.size
  refine br_split (fun hlt => ?_) (fun hge => ?_)
  · obtain ⟨k, t, mm, ps, r, rfl⟩ := Fo.next hpr (by omega)
    have hsl := Fo.sub_len hpr
    have hsz := Fo.sub_size hpr
    have htl : tlen f = tlen p + (t.length + tlen ps + tlen r) := by rw [hpr, tlen_app]; rfl
    have e1 : f = (p.app (.one k t mm ps)).app r := by rw [Fo.app_one_app]; exact hpr
    have i1 : IntKind.i64.wrap ((p.len : Int) + 1) = ((p.app (.one k t mm ps)).len : Int) := by rw [wrap_nat (by omega)]; simp [Fo.one]
    have t1 : tlen (p.app (.one k t mm ps)) = tlen p + (t.length + tlen ps) := by rw [tlen_app]; simp [Fo.one, tlen]
    rw [mgo] at heq
    have done : ∀ (oa' : Option Addr) (on' oc' : Nat) (W' : World), OwnF 45 (fun k => S k ∧ k < w.heap.size) w.heap.size W' oa' on' oc' (snocM out k t mm (mgo ps .nil)) → Ext w W' →
        ∃ m42, m42 < (Fo.cons k t mm ps r).len ∧ ∃ (p' r' out' : Fo), f = p'.app r' ∧ IntKind.i64.wrap ((p.len : Int) + 1) = p'.len ∧ m42 = r'.len ∧ OwnF 45 (fun k => S k ∧ k < w.heap.size) w.heap.size W' oa' on' oc' out' ∧ out'.len ≤ p'.len ∧ (∀ pre k t m ps, out' = Fo.app pre (.one k t m ps) → t.length ≤ tlen p') ∧ Ext w W' ∧ mergeF f = mgo r' out' := by
      intro oa' on' oc' W' ho' he'
      refine ⟨r.len, by simp, _, r, _, e1, i1, rfl, ho', ?_, ?_, he', heq⟩
      · have := snoc_len out k t mm (mgo ps .nil)
        simp [Fo.one]; omega
      · intro pre k1 t1' m1 ps1 hsn
        have := snoc_last hlast pre k1 t1' m1 ps1 hsn
        omega
    obtain ⟨q, a', c', hq, hSq, hql, hN⟩ := (hf.ext he).get hpr
    refine hq _ ⟨k, hN.kind, t, hN.text, mm, hN.num, a', ps.len, c', hN.parts, ?_⟩
    refine al_stL (by simp) (by intro u hu; simp only [List.mem_cons, List.not_mem_nil, or_false] at hu; rcases hu with rfl | rfl | rfl | rfl <;> rfl) fun bx w1 hbx hBx e2 s2 => ?_
    obtain ⟨x0, x1, x2, x3⟩ := blk4 hBx
    have E1 := ext_trans he e2
    have ho1 := hout.ext e2
    have hzz := e2.size
    intro K18 hK18
    have k18 : ¬ (k = 1 ∧ t = []) → K18 w1 := by
      intro hne
      refine hK18 _ fun _ => ?_
      intro K20 hK20
      -- the parts have been merged
      have k20 : ∀ (a3 : Option Addr) (c3 : Nat) (w4 : World), Ext W w4 → Blk w4 bx [.int .i64 k, .string ⟨⟨t⟩⟩, .int .i64 mm, .slice a3 (mergeF ps).len c3] 45 → SlF (fun j => (S j ∧ j < w.heap.size) ∨ w1.heap.size ≤ j) w4 a3 (mergeF ps).len (mergeF ps) → K20 w4 := by
        intro a3 c3 w4 EW4 b1 hp4
        obtain ⟨y0, y1, y2, y3⟩ := blk4 b1
        have E4 := ext_trans he EW4
        have ho4 := hout.ext EW4
        have z4 := EW4.size
        refine hK20 _ fun _ => ?_
        intro K22 hK22
        have k22 : ∀ g, g = decide (k = 1 ∧ lastT out = true) → K22 g w4 := by
          rintro _ rfl
          refine hK22 _ _ fun _ => br_split (fun g => ?_) (fun g => ?_)
          · have hsn : snocM out k t mm (mgo ps .nil) = addL out t := by unfold snocM; rw [if_neg hne, if_pos g]
            rcases Fo_view out with rfl | ⟨pre, k2, t2, n2, ps2, rfl⟩
            · simp [lastT] at g
            rw [addL_snoc] at hsn
            have hdr := ext_drew w4
            obtain ⟨q2, hq2, l0, l1, lst⟩ := (ho4.ext hdr).last
            have onl : on = pre.len + 1 := by rw [hon]; simp [Fo.one]
            have e : IntKind.i64.wrap ((on : Int) - 1) = (pre.len : Int) := by rw [wrap_pred (by omega) (by omega), onl]; simp
            have hl2 := hlast pre k2 t2 n2 ps2 rfl
            unfold drw
            rw [e]
            refine hq2 _ ⟨t2, l1, t, (blk4 (b1.ext hdr)).2.1, by omega, hq2 _ ⟨lst _ _ fun w5 ho5 hc5 => ?_, trivial⟩⟩
            refine done _ _ _ w5 (by rw [hsn]; exact ho5) ?_
            exact ext_chgS (ext_trans E4 hdr) hc5 fun j hj => ((ho4.ext hdr).bk hj).1
          · have hsn : snocM out k t mm (mgo ps .nil) = out.app (.one k t mm (mergeF ps)) := by unfold snocM; rw [if_neg hne, if_neg g]; rfl
            refine ⟨k, y0, t, y1, mm, y2, a3, _, c3, y3, ?_⟩
            refine OwnF.push slT_node ho4 (by omega) (own_parts hp4 (fun j hj => hj.2) hout (by omega) (by omega)) (by omega) (by omega) fun a5 n5 c5 w5 ho5 hc5 => ?_
            refine done a5 n5 c5 w5 (by rw [hsn]; exact ho5) ?_
            exact ext_chgS E4 hc5 fun j hj => (hout.bk hj).1
        rcases Fo_view out with hv | ⟨pre, k2, t2, m2, ps2, hv⟩
        · subst hv
          have : on = 0 := hon
          subst this
          refine ⟨k, y0, br_split (fun g => br_split (fun g2 => absurd g2 (by omega)) (fun g2 => k22 _ (by simp [lastT]))) (fun g => k22 _ (by simp [lastT]))⟩
        · have hl1 : lastT out = decide (k2 = 1) := by rw [hv, lastT_snoc]
          have hl2 : on = pre.len + 1 := by rw [hon, hv]; simp [Fo.one]
          have e : IntKind.i64.wrap ((on : Int) - 1) = (pre.len : Int) := by rw [wrap_pred (by omega) (by omega), hl2]; simp
          rw [e]
          refine ⟨k, y0, br_split (fun g2 => br_split (fun g => ?_) (fun g => absurd (by omega) g)) (fun g2 => k22 _ (by simp [g2]))⟩
          subst hv
          obtain ⟨q2, hq2, l0, l1, lst⟩ := ho4.last
          exact hq2 _ ⟨k2, l0, k22 _ (by rw [hl1]; simp [g2])⟩
      refine ⟨a', ps.len, c', x3, br_split (fun g => ⟨a', ps.len, c', x3, ?_⟩) (fun g => ?_)⟩
      · refine ih _ (hz ▸ hsz) ps rfl (S := fun k => S k ∧ k < w.heap.size) (by omega) (by omega) (hN.sl.ext e2) fun a3 n3 c3 w3 hsl3 e3 => ⟨_, _, _, rfl, ?_⟩
        have hBx3 := hBx.ext e3
        have hn3 := hsl3.1
        rw [add_none]
        refine stL_blk hBx3 (by simp) (by intro u hu; simp only [List.mem_singleton] at hu; subst hu; rfl) fun w4 b1 b2 b3 b4 b5 b6 => ?_
        simp only [putAt, List.set] at b1
        have hc4 : Chg (· = bx) w3 w4 := ⟨b4, b5, b6, by omega, fun k _ hk => b2 k hk⟩
        have EW4 : Ext W w4 := ext_chgS (ext_trans e2 e3) hc4 fun j hj => by omega
        have hp4 : SlF (fun j => (S j ∧ j < w.heap.size) ∨ w1.heap.size ≤ j) w4 a3 n3 (mergeF ps) := hsl3.chg hc4 fun j hj he => by
          subst he; rcases hj with hj | hj <;> omega
        subst hn3
        exact k20 a3 c3 w4 EW4 b1 hp4
      · have hp : ps = .nil := Fo.eq_nil_of_len (by omega)
        subst hp
        exact k20 a' c' w1 e2 hBx (SlF.nil a')
    refine ⟨k, x0, br_split (fun g => ⟨t, x1, br_split (fun g2 => ?_) (fun g2 => k18 fun hh => g2 hh.2)⟩) (fun g => k18 fun hh => g hh.1)⟩
    exact done oa on oc w1 (by unfold snocM; rw [if_pos ⟨g, g2⟩]; exact ho1) E1
  · obtain ⟨rfl, rfl⟩ := Fo.last hpr (by omega)
    rw [heq] at h
    refine h oa on oc W (hout.out.imp fun k hk _ => hk.imp (fun h => h.1) id) he
end Go.Proofs
namespace Go.Proofs
open Go Go.Sh Go.RowKit

def brkF (k : Int) : Bool := decide (k = 2 ∨ k = 3 ∨ k = 4)
def breaksF : Fo → Fo
  | .nil => .nil
  | .cons k t n ps r => (if brkF k then .one k t n ps else breaksF ps).app (breaksF r)
def partF (k : Int) (t : List UInt8) (n : Int) (ps : Fo) : Fo := if ps.len = 0 then .nil else .one k t n ps
theorem breaksF_app (f g : Fo) : breaksF (f.app g) = (breaksF f).app (breaksF g) := by
  induction f with
  | nil => rfl
  | cons k t n ps r _ ih => simp only [Fo.cons_app, breaksF, ih, Fo.app_assoc]
theorem breaksF_size : ∀ f : Fo, (breaksF f).size ≤ f.size
  | .nil => Nat.le_refl _
  | .cons k t n ps r => by
    have h1 := breaksF_size ps
    have h2 := breaksF_size r
    simp only [breaksF, Fo.size_app, Fo.size]
    split
    · simp [Fo.one, Fo.size]; omega
    · omega

def resolveF : Fo → Int → Bool → Fo
  | .nil, _, _ => .nil
  | .cons k t n ps r, hand, adv =>
    (if k = 9 ∧ n ≤ hand then breaksF ps else if k = 8 ∧ n ≤ hand then resolveF ps hand adv else if (k = 8 ∨ k = 9) ∧ adv = true then partF k t n (resolveF ps hand adv) else if k = 8 then breaksF ps
     else if k = 9 then resolveF ps hand adv else if k = 7 ∨ k = 10 ∨ k = 11 then partF k t n (resolveF ps hand adv) else .one k t n ps).app (resolveF r hand adv)
theorem resolveF_app (f g : Fo) (hand : Int) (adv : Bool) : resolveF (f.app g) hand adv = (resolveF f hand adv).app (resolveF g hand adv) := by
  induction f with
  | nil => rfl
  | cons k t n ps r _ ih => simp only [Fo.cons_app, resolveF, ih, Fo.app_assoc]
theorem partF_size (k t n) (ps : Fo) : (partF k t n ps).size ≤ ps.size + 1 := by
  unfold partF
  split
  · simp [Fo.size]
  · simp [Fo.one, Fo.size]
theorem resolveF_size : ∀ (f : Fo) (hand : Int) (adv : Bool), (resolveF f hand adv).size ≤ f.size
  | .nil, _, _ => Nat.le_refl _
  | .cons k t n ps r, hand, adv => by
    have h1 := resolveF_size ps hand adv
    have h2 := resolveF_size r hand adv
    have h3 := breaksF_size ps
    have h4 := partF_size k t n (resolveF ps hand adv)
    simp only [resolveF, Fo.size_app, Fo.size]
    split
    · omega
    split
    · omega
    split
    · omega
    split
    · omega
    split
    · omega
    split
    · omega
    · simp [Fo.one, Fo.size]; omega
end Go.Proofs
namespace Go.Proofs
open Go Go.Sh Go.RowKit

end Go.Proofs
namespace Go.Sh
open Go Go.RowKit
section
variable {S : Nat → Prop} {w w' : World} {e : TypeId} {B : Nat} {a : Option Addr} {n c : Nat}
/- the last node of a list under way, and laying it anew -/
theorem OwnF.lastNode {pre : Fo} {k : Int} {t : List UInt8} {m : Int} {ps : Fo} (h : OwnF e S B w a n c (pre.app (.one k t m ps))) :
    ∃ g : Nat, a = some ⟨g, 0, none⟩ ∧ (∀ K : Addr → Prop, K ⟨g, pre.len * 4, none⟩ → idx a n (pre.len : Int) 4 K) ∧
      ∀ (k' : Int) (t' : List UInt8) (m' : Int) (a1 : Option Addr) (c1 : Nat) (ps' : Fo) (K : World → Prop), SlF (fun k => (S k ∨ B ≤ k) ∧ ¬ Sh.bk a k) w a1 ps'.len ps' →
        (∀ w', OwnF e S B w' a n c (pre.app (.one k' t' m' ps')) → Chg (Sh.bk a) w w' → K w') → stL w ⟨g, pre.len * 4, none⟩ 0 [.int .i64 k', .string ⟨⟨t'⟩⟩, .int .i64 m', .slice a1 ps'.len c1] K := by
  obtain ⟨h0, xs, h1, h2⟩ := h
  obtain ⟨us, ys, rfl, f1, a', c', zs, vs', rfl, g1, g2, g3⟩ := h2.split
  have hvs : vs' = [] := g3
  subst hvs
  have hl := f1.len
  have hn : n = pre.len + 1 := by rw [h0]; simp [Fo.one]
  rcases h1.2 with h | ⟨g, cap, cur, e1, e2, e3, e4, e5, e6, e7⟩
  · omega
  obtain ⟨rfl, _, rfl⟩ : a = some ⟨g, 0, none⟩ ∧ True ∧ c = cap := by simpa using e1
  have hB : Blk w g cur.toList e := e3
  have hcl : cur.toList.length = c * 4 := by simpa using e6
  have hxl : n * 4 ≤ cur.toList.length := by rw [hcl]; omega
  refine ⟨g, rfl, fun K hK => ⟨by omega, by omega, ?_⟩, fun k' t' m' a1 c1 ps' K hps hK => ?_⟩
  · show K _
    rw [add_none, Int.toNat_natCast, Nat.zero_add]; exact hK
  refine stL_blk hB (by simp only [List.length_cons, List.length_nil]; omega) (by intro u hu; simp only [List.mem_cons, List.not_mem_nil, or_false] at hu; rcases hu with rfl | rfl | rfl | rfl <;> rfl) fun w' b1 b2 b3 b4 b5 b6 => ?_
  have hc : Chg (Sh.bk (some (⟨g, 0, none⟩ : Addr))) w w' := ⟨b4, b5, b6, by omega, fun k' _ hk => b2 k' fun e => hk (by simp [Sh.bk, e])⟩
  refine hK w' ⟨by simp [Fo.one]; exact hn, us ++ [.int .i64 k', .string ⟨⟨t'⟩⟩, .int .i64 m', .slice a1 ps'.len c1], ⟨by simp only [List.length_append, List.length_cons, List.length_nil]; omega, .inr ⟨g, c, ⟨_⟩, rfl, e2, b1, e4, e5, ?_, ?_⟩⟩, ?_⟩ hc
  · simp [putAt]; omega
  · have hx : n * 4 = us.length + 4 := by omega
    simp only [putAt, Nat.add_zero]
    rw [List.take_set, List.take_set, List.take_set, List.take_set, e7, show pre.len * 4 = us.length by omega, List.set_append_right _ _ (by omega), List.set_append_right _ _ (by omega), List.set_append_right _ _ (by omega), List.set_append_right _ _ (by omega)]
    simp
    rw [show us.length + 1 + 1 - us.length = 2 by omega, show us.length + 1 + 1 + 1 - us.length = 3 by omega]
    rfl
  · have hs : ∀ j, ((S j ∨ B ≤ j) ∧ ¬ Sh.bk (some (⟨g, 0, none⟩ : Addr)) j) → j < w.heap.size → ((S j ∨ B ≤ j) ∧ ¬ Sh.bk (some (⟨g, 0, none⟩ : Addr)) j) ∧ w'.heap[j]? = w.heap[j]? := fun j hj hlt => ⟨hj, hc.block j hlt hj.2⟩
    obtain ⟨_, us', q1, q2⟩ := hps
    exact (f1.keep hs hc.size).app ⟨a1, c1, us', [], rfl, q1.keep hs hc.size, q2.keep hs hc.size, rfl⟩
end
end Go.Sh
namespace Go.Proofs
open Go Go.Sh Go.RowKit

structure Nn where
  k : Int
  t : List UInt8
  n : Int
  ps : Fo
def nodesF : Fo → List Nn
  | .nil => []
  | .cons k t n ps r => ⟨k, t, n, ps⟩ :: (nodesF ps ++ nodesF r)
def NnE (T : Nat → Prop) (w0 : World) (x : Nn) (vs : List Value) : Prop :=
  ∃ a c, vs = [.agg ⟨[.int .i64 x.k, .string ⟨⟨x.t⟩⟩, .int .i64 x.n, .slice a x.ps.len c]⟩] ∧ SlF T w0 a x.ps.len x.ps

/- the breaks within a node, as the program gathers them -/
def pickB : List Nn → Fo
  | [] => .nil
  | x :: l => if brkF x.k then .cons x.k x.t x.n x.ps (pickB l) else pickB l
theorem pickB_app (l m : List Nn) : pickB (l ++ m) = (pickB l).app (pickB m) := by
  induction l with
  | nil => rfl
  | cons x l ih =>
    simp only [List.cons_append, pickB, ih]
    split <;> rfl
theorem pickB_len (l : List Nn) : (pickB l).len ≤ l.length := by
  induction l with
  | nil => simp [pickB]
  | cons x l ih => simp only [pickB]; split <;> simp <;> omega
theorem nodesF_len : ∀ f : Fo, (nodesF f).length = f.size
  | .nil => rfl
  | .cons k t n ps r => by simp [nodesF, Fo.size, nodesF_len ps, nodesF_len r]
theorem pick_breaks : ∀ (f : Fo), good f → pickB (nodesF f) = breaksF f
  | .nil, _ => rfl
  | .cons k t n ps r, h => by
    have h1 := pick_breaks ps h.2.1
    have h2 := pick_breaks r h.2.2
    simp only [nodesF, pickB, breaksF, pickB_app, h1, h2]
    by_cases hb : brkF k = true
    · have hk : k = 2 ∨ k = 3 ∨ k = 4 := by simpa [brkF] using hb
      have hp : ps.len = 0 := h.1.2.2.2.2.1 (by unfold partsF; simp; omega)
      have := Fo.eq_nil_of_len hp
      subst this
      simp [hb, Fo.one, breaksF]
    · simp [hb]
end Go.Proofs
namespace Go.Sh
open Go Go.RowKit

/- an iterator whose caller's body may write blocks of its own, new ones among them: S, as it stands -/
def IterO {α : Type} (P : Program) (gf : FuncId) (cap : List Value) (xs : List α) (E : α → List Value → Prop) (Rd : Nat → Prop) (w : World) : Prop :=
  ∀ (yf : Fn) (ya yb : Array Value) (S0 : Nat → Prop) (J : List α → (Nat → Prop) → World → Prop) (Jx : (Nat → Prop) → World → Prop) (R : Ending → World → Prop),
    (∀ k, S0 k → k < w.heap.size ∧ ¬ Rd k) →
    (∀ pre S W W', J pre S W → Chg (fun k => w.heap.size ≤ k ∧ ¬ S k) W W' → J pre S W') → (∀ S W W', Jx S W → Chg (fun k => w.heap.size ≤ k ∧ ¬ S k) W W' → Jx S W') →
    (∀ pre x vs S W, E x vs → pre ++ [x] <+: xs → w.heap.size ≤ W.heap.size → (∀ k, S k → k < W.heap.size ∧ ¬ Rd k) → J pre S W → CallV P (.func yf ya yb) vs W fun e W' => Chg S W W' ∧
      ∃ S' : Nat → Prop, (∀ k, S' k → (S k ∨ W.heap.size ≤ k) ∧ k < W'.heap.size) ∧ ((e = .returned (.bool true) ∧ J (pre ++ [x]) S' W') ∨ (e = .returned (.bool false) ∧ Jx S' W'))) →
    J [] S0 w → (∀ S W, w.heap.size ≤ W.heap.size → J xs S W → R (.returned (.tuple ⟨[]⟩)) W) → (∀ S W, w.heap.size ≤ W.heap.size → Jx S W → R (.returned (.tuple ⟨[]⟩)) W) →
    Calls P gf ⟨.func yf ya yb :: cap⟩ w R
theorem IterO.mono {α : Type} {P : Program} {gf : FuncId} {cap : List Value} {xs : List α} {E E' : α → List Value → Prop} {Rd : Nat → Prop} {w : World} (h : IterO P gf cap xs E Rd w) (hE : ∀ x vs, E x vs → E' x vs) : IterO P gf cap xs E' Rd w :=
  fun yf ya yb S0 J Jx R hS hJ hJx hbody h0 h1 h2 => h yf ya yb S0 J Jx R hS hJ hJx (fun pre x vs S W he => hbody pre x vs S W (hE _ _ he)) h0 h1 h2

theorem RFw_lawO {α : Type} {P : Program} {N : Nat} {g : Operand} {ps : Array Tmp} {assign body : Code} {env : Env} {ds : List Deferred} {w : World} {x : Nat} {Qn Qr Qx : List Deferred → World → Prop}
    (xA xB : Ann) {gf : FuncId} {cap : List Value} (hg : ev env g = .func (.func gf) ⟨[]⟩ ⟨cap⟩) (hok : okFn P gf = true)
    {xs : List α} {E : α → List Value → Prop} {Rd : Nat → Prop} (hit : ∀ w1, Ext w w1 → IterO P gf cap xs E Rd w1)
    (hps : ∀ y vs, E y vs → vs.length = ps.size) (hpN : ∀ p ∈ ps.toList, p < N)
    (hRd : ∀ k, Rd k → k < w.heap.size) (S0 : Nat → Prop) (hS : ∀ k, S0 k → k < w.heap.size ∧ ¬ Rd k)
    (I : List α → (Nat → Prop) → World → Prop) (Kr Kx : (Nat → Prop) → World → Prop)
    (hI : ∀ pre S W W', I pre S W → Chg (fun k => w.heap.size ≤ k ∧ ¬ S k) W W' → I pre S W')
    (hKr : ∀ S W W', Kr S W → Chg (fun k => w.heap.size ≤ k ∧ ¬ S k) W W' → Kr S W') (hKx : ∀ S W W', Kx S W → Chg (fun k => w.heap.size ≤ k ∧ ¬ S k) W W' → Kx S W')
    (h0 : I [] S0 w)
    (hround : ∀ pre y vs S W l, E y vs → pre ++ [y] <+: xs → w.heap.size ≤ l → l < W.heap.size → ¬ S l → (∀ k, S k → k < W.heap.size ∧ ¬ Rd k) → I pre S W →
      fragV P N xA xB assign body l x (fun W2 W' => Chg (fun k => S k ∨ W.heap.size ≤ k) W2 W' ∧ ∃ S' : Nat → Prop, (∀ k, S' k → (S k ∨ W.heap.size ≤ k) ∧ k < W'.heap.size) ∧ I (pre ++ [y]) S' W')
        (fun W2 W' => Chg (fun k => S k ∨ W.heap.size ≤ k) W2 W' ∧ ∃ S' : Nat → Prop, (∀ k, S' k → (S k ∨ W.heap.size ≤ k) ∧ k < W'.heap.size) ∧ Kr S' W')
        (fun W2 W' => Chg (fun k => S k ∨ W.heap.size ≤ k) W2 W' ∧ ∃ S' : Nat → Prop, (∀ k, S' k → (S k ∨ W.heap.size ≤ k) ∧ k < W'.heap.size) ∧ Kx S' W') (updPs ps.toList vs env) W)
    (hn : ∀ D S W, w.heap.size ≤ D → D < W.heap.size → ¬ S D → W.heap[D]? = some (.deferred (some [])) → I xs S W → Qn ({ target := .collected D, args := #[] } :: ds) W)
    (hr : ∀ D S W, w.heap.size ≤ D → D < W.heap.size → ¬ S D → W.heap[D]? = some (.deferred (some [])) → Kr S W → Qr ({ target := .collected D, args := #[] } :: ds) W)
    (hx : ∀ D S W, w.heap.size ≤ D → D < W.heap.size → ¬ S D → W.heap[D]? = some (.deferred (some [])) → Kx S W → Qx ({ target := .collected D, args := #[] } :: ds) W) :
    RFw P none N (.rangeFunc g ps assign body) env ds w x Qn Qr Qx := by
  intro a ha hd
  refine wpIn_rangeFunc fun fn _ => ?_
  let rec0 : Loop := { state := .ready, pending := none, fn, tmps := a.tmps, params := ps, assign, body, defers := w.heap.size }
  let w1 : World := (w.alloc (.deferred (some []))).alloc (.loop rec0)
  have hw1 : w1.heap.size = w.heap.size + 2 := by simp [w1]
  have hext : Ext w w1 := ((Below.refl _ w).alloc (Nat.le_refl _) _).alloc (by simp) _
  have hD1 : w1.heap[w.heap.size]? = some (.deferred (some [])) := by
    show ((w.alloc _).alloc _).heap[w.heap.size]? = _
    rw [Below.heap_alloc _ _ _ (by simp), World.alloc_heap_new]
  have hl1 : w1.heap[w.heap.size + 1]? = some (.loop rec0) := by
    have := World.alloc_heap_new (w.alloc (.deferred (some []))) (.loop rec0)
    simpa [w1] using this
  have hgv : a.eval g = .func (.func gf) ⟨[]⟩ ⟨cap⟩ := by rw [ha.ev]; exact hg
  refine ⟨w.heap.size + 1, [{ target := .collected w.heap.size, args := #[] }], w1, { target := .fn (.func gf) ⟨cap⟩, args := #[.func (.yield (w.heap.size + 1)) #[] #[]] }, w1, gf,
    ⟨.func (.yield (w.heap.size + 1)) #[] #[] :: cap⟩, w1, run_enterLoop_outer fn a.tmps ps assign body, ?_, fun _ _ => trivial, ?_, fun h => by simp [Fr, Fence.wide] at h, ?_⟩
  · have em : Array.map a.eval #[Operand.const (.func (.yield (w.heap.size + 1)) #[] #[])] = #[.func (.yield (w.heap.size + 1)) #[] #[]] := by simp [Act.eval]
    simp only [resolve, rangeCall, hgv, Deferred.ofValue, em]
    simp
  · have e : (#[.func (.yield (w.heap.size + 1)) #[] #[]] : Array Value) ++ (⟨cap⟩ : Array Value) = ⟨.func (.yield (w.heap.size + 1)) #[] #[] :: cap⟩ := by apply Array.ext'; simp
    simp only [invoke, e]
    exact callFunc_run _ w1 hok
  · show CallsIn Fence.wide 0 P gf _ w1 _
    refine callsIn_wide.2 ?_
    refine hit w1 hext (.yield (w.heap.size + 1)) #[] #[] (fun k => S0 k ∨ k = w.heap.size + 1)
      (fun pre S W => ∃ Sb : Nat → Prop, (∀ k, S k ↔ Sb k ∨ k = w.heap.size + 1) ∧ ¬ Sb (w.heap.size + 1) ∧ ¬ Sb w.heap.size ∧ I pre Sb W ∧ W.heap[w.heap.size + 1]? = some (.loop rec0) ∧ W.heap[w.heap.size]? = some (.deferred (some [])))
      (fun S W => ∃ Sb : Nat → Prop, (∀ k, S k ↔ Sb k ∨ k = w.heap.size + 1) ∧ ¬ Sb (w.heap.size + 1) ∧ ¬ Sb w.heap.size ∧ W.heap[w.heap.size]? = some (.deferred (some [])) ∧ ((W.heap[w.heap.size + 1]? = some (.loop { rec0 with state := .done, pending := some .ret }) ∧ Kr Sb W) ∨
        (W.heap[w.heap.size + 1]? = some (.loop { rec0 with state := .done, pending := some (.exit x) }) ∧ Kx Sb W)))
      _ (fun k hk => hk.elim (fun h => ⟨by have := (hS k h).1; omega, (hS k h).2⟩) (fun h => ⟨by omega, fun hr => by have := hRd k hr; omega⟩)) ?_ ?_ ?_
      ⟨S0, fun k => Iff.rfl, fun h => by have := (hS _ h).1; omega, fun h => by have := (hS _ h).1; omega, hI _ _ _ _ h0 (.of_ext hext), hl1, hD1⟩ ?_ ?_
    · rintro pre S W W' ⟨Sb, hb1, hb2, hb3, h1, h2, h3⟩ hc
      have hlt := (Array.getElem?_eq_some_iff.1 h2).1
      have hlt' := (Array.getElem?_eq_some_iff.1 h3).1
      exact ⟨Sb, hb1, hb2, hb3, hI _ _ _ _ h1 (hc.mono fun k _ hk => ⟨by omega, fun hh => hk.2 ((hb1 k).2 (.inl hh))⟩), (hc.block _ hlt (by omega)).trans h2, (hc.block _ hlt' (by omega)).trans h3⟩
    · rintro S W W' ⟨Sb, hb1, hb2, hb3, h3, h⟩ hc
      have hlt' := (Array.getElem?_eq_some_iff.1 h3).1
      have hc' : Chg (fun k => w.heap.size ≤ k ∧ ¬ Sb k) W W' := hc.mono fun k _ hk => ⟨by omega, fun hh => hk.2 ((hb1 k).2 (.inl hh))⟩
      refine ⟨Sb, hb1, hb2, hb3, (hc.block _ hlt' (by omega)).trans h3, ?_⟩
      rcases h with ⟨h1, h2⟩ | ⟨h1, h2⟩
      · exact .inl ⟨(hc.block _ (Array.getElem?_eq_some_iff.1 h1).1 (by omega)).trans h1, hKr _ _ _ h2 hc'⟩
      · exact .inr ⟨(hc.block _ (Array.getElem?_eq_some_iff.1 h1).1 (by omega)).trans h1, hKx _ _ _ h2 hc'⟩
    · rintro pre y vs S W hE hpre hsz hSW ⟨Sb, hb1, hb2, hb3, h1, h2, h3⟩
      have hlt := (Array.getElem?_eq_some_iff.1 h2).1
      have hlt' := (Array.getElem?_eq_some_iff.1 h3).1
      refine ⟨_, _, _, _, run_yield h2 (by simp [rec0, hps y vs hE]), ?_⟩
      have hfr := hround pre y vs Sb W (w.heap.size + 1) hE hpre (by omega) hlt hb2 (fun k hk => hSW k ((hb1 k).2 (.inl hk))) h1
      have hrep : Rep N (updPs ps.toList (vs) env) { tmps := (ps.toList.zip (vs)).foldl (fun t (p, v) => t.setIfInBounds p v) a.tmps, defers := [] } :=
        foldl_rep _ _ _ _ ⟨ha.1, ha.2⟩ hpN
      have ezip : (ps.zip (⟨(#[] : Array Value).toList ++ vs⟩ : Array Value)).foldl (fun t (x : Nat × Value) => t.setIfInBounds x.1 x.2) a.tmps = (ps.toList.zip (vs)).foldl (fun t (p, v) => t.setIfInBounds p v) a.tmps := by
        rw [← Array.foldl_toList]
        simp [Array.toList_zip]
      refine roundIn_of_wpIn (F := Fence.wide) (l := w.heap.size + 1) trivial ?_
      show assign.wpIn (Fr (some (w.heap.size + 1))) 0 P _ _ W
      have hva := vc_sound xA assign hfr hrep rfl
      refine wpIn_mono (Eq.mp (by rw [← ezip]) hva) fun e a1 W1 hh => ?_
      obtain ⟨env1, r1, q1, _⟩ := hh
      cases e with
      | normal =>
        obtain ⟨e1, q1⟩ := q1
        have hl' : W1.heap[w.heap.size + 1]? = some (.loop rec0) := (e1.block _ hlt).trans h2
        have hD' : W1.heap[w.heap.size]? = some (.deferred (some [])) := (e1.block _ hlt').trans h3
        refine ⟨_, run_beginRound hl' rfl, ?_⟩
        have hl2 : (W1.putObj (w.heap.size + 1) (.loop { rec0 with state := .busy })).heap[w.heap.size + 1]? = some (.loop { rec0 with state := .busy }) :=
          World.putObj_heap_same (Array.getElem?_eq_some_iff.1 hl').1
        have hD2 : (W1.putObj (w.heap.size + 1) (.loop { rec0 with state := .busy })).heap[w.heap.size]? = some (.deferred (some [])) := (World.putObj_heap_other (by omega)).trans hD'
        have hq := q1 _ (Upd.put (w.heap.size + 1) W1 (.loop { rec0 with state := .busy }))
        have hvb := vc_sound xB body hq r1 rfl
        have hlt1 := (Array.getElem?_eq_some_iff.1 hl').1
        have hWW2 : Chg S W (W1.putObj (w.heap.size + 1) (.loop { rec0 with state := .busy })) :=
          (Chg.of_ext e1).trans (Chg.put _ _ _ ((hb1 _).2 (.inr rfl)))
        generalize W1.putObj (w.heap.size + 1) (.loop { rec0 with state := .busy }) = W2 at hl2 hD2 hvb hWW2 ⊢
        refine wpIn_mono hvb fun e' a' W' hh' => ?_
        obtain ⟨env2, r2, q2, _⟩ := hh'
        have nS : ¬ (Sb (w.heap.size + 1) ∨ W.heap.size ≤ w.heap.size + 1) := fun h => h.elim hb2 (by omega)
        have nS' : ¬ (Sb w.heap.size ∨ W.heap.size ≤ w.heap.size) := fun h => h.elim hb3 (by omega)
        have fin : ∀ (jump : Option Code) (st : LoopState), Chg (fun k => Sb k ∨ W.heap.size ≤ k) W2 W' → ∀ S' : Nat → Prop, (∀ k, S' k → (Sb k ∨ W.heap.size ≤ k) ∧ k < W'.heap.size) → ∀ Z, Z = W'.putObj (w.heap.size + 1) (.loop { rec0 with state := st, pending := jump }) →
            Chg S W Z ∧ (∀ k, (S' k ∨ k = w.heap.size + 1) → (S k ∨ W.heap.size ≤ k) ∧ k < Z.heap.size) ∧ ¬ S' (w.heap.size + 1) ∧ ¬ S' w.heap.size ∧ Z.heap[w.heap.size + 1]? = some (.loop { rec0 with state := st, pending := jump }) ∧ Z.heap[w.heap.size]? = some (.deferred (some [])) ∧
            Chg (fun k => w.heap.size ≤ k ∧ ¬ S' k) W' Z := by
          intro jump st hc S' hS' Z hZ
          have hl3 := (hc.block _ (Array.getElem?_eq_some_iff.1 hl2).1 nS).trans hl2
          have hD3 := (hc.block _ (Array.getElem?_eq_some_iff.1 hD2).1 nS').trans hD2
          have n1 : ¬ S' (w.heap.size + 1) := fun hh => nS (hS' _ hh).1
          have n2 : ¬ S' w.heap.size := fun hh => nS' (hS' _ hh).1
          have l3 := (Array.getElem?_eq_some_iff.1 hl3).1
          subst hZ
          refine ⟨?_, ?_, n1, n2, World.putObj_heap_same l3, (World.putObj_heap_other (by omega)).trans hD3, Chg.put _ _ _ ⟨by omega, n1⟩⟩
          · have hW2' : Chg S W W' := ⟨hc.os.trans hWW2.os, hc.tape.trans hWW2.tape, hc.output.trans hWW2.output, Nat.le_trans hWW2.size hc.size,
              fun k hk hn => (hc.block k (Nat.lt_of_lt_of_le hk hWW2.size) (fun hh => hh.elim (fun h => hn ((hb1 k).2 (.inl h))) (fun h => by omega))).trans (hWW2.block k hk hn)⟩
            exact hW2'.trans (Chg.put _ _ _ ((hb1 _).2 (.inr rfl)))
          · rintro k (hk | rfl)
            · exact ⟨(hS' k hk).1.imp (fun h => (hb1 k).2 (.inl h)) id, by simpa using (hS' k hk).2⟩
            · exact ⟨.inl ((hb1 _).2 (.inr rfl)), by simpa using l3⟩
        have hrec : ∀ (jump : Option Code), Chg (fun k => Sb k ∨ W.heap.size ≤ k) W2 W' → (Instr.endRound (w.heap.size + 1) jump).run P W' = .ok (.bool jump.isNone) (W'.putObj (w.heap.size + 1) (.loop { rec0 with state := if jump.isNone then .ready else .done, pending := jump })) := by
          intro jump hc
          exact run_endRound (r := { rec0 with state := .busy }) jump ((hc.block _ (Array.getElem?_eq_some_iff.1 hl2).1 nS).trans hl2)
        cases e' with
        | normal =>
          obtain ⟨hc, S', hS', hi⟩ := q2
          obtain ⟨f1, f2, f3, f4, f5, f6, f7⟩ := fin none .ready hc S' hS' _ rfl
          exact ⟨_, _, hrec none hc, f1, _, f2, .inl ⟨rfl, S', fun k => Iff.rfl, f3, f4, hI _ _ _ _ hi f7, f5, f6⟩⟩
        | ret =>
          obtain ⟨hc, S', hS', hi⟩ := q2
          obtain ⟨f1, f2, f3, f4, f5, f6, f7⟩ := fin (some .ret) .done hc S' hS' _ rfl
          exact ⟨_, _, hrec (some .ret) hc, f1, _, f2, .inr ⟨rfl, S', fun k => Iff.rfl, f3, f4, f6, .inl ⟨f5, hKr _ _ _ hi f7⟩⟩⟩
        | exit i =>
          simp only [fragQ] at q2
          cases hb : Nat.beq i x <;> rw [hb] at q2
          · exact q2.elim
          have hix := Nat.eq_of_beq_eq_true hb
          subst hix
          obtain ⟨hc, S', hS', hi⟩ := q2
          obtain ⟨f1, f2, f3, f4, f5, f6, f7⟩ := fin (some (.exit i)) .done hc S' hS' _ rfl
          exact ⟨_, _, hrec (some (.exit i)) hc, f1, _, f2, .inr ⟨rfl, S', fun k => Iff.rfl, f3, f4, f6, .inr ⟨f5, hKx _ _ _ hi f7⟩⟩⟩
        | goto l => exact q2.elim
        | panic c => exact q2.elim
        | outgrown => exact q2.elim
      | exit i => exact q1.elim
      | ret => exact q1.elim
      | goto t => exact q1.elim
      | panic c => exact q1.elim
      | outgrown => exact q1.elim
    · rintro S W hsz ⟨Sb, hb1, hb2, hb3, h1, h2, h3⟩
      refine ⟨none, _, run_endLoop h2 (by simp [rec0]), ?_⟩
      have hlt := (Array.getElem?_eq_some_iff.1 h2).1
      refine ⟨rfl, ?_⟩
      show Qn (_ :: a.defers) _
      rw [hd]
      refine hn w.heap.size Sb _ (Nat.le_refl _) (by simp; omega) hb3 ((World.putObj_heap_other (by omega)).trans h3) (hI _ _ _ _ h1 (Chg.put _ _ _ ⟨by omega, hb2⟩))
    · rintro S W hsz ⟨Sb, hb1, hb2, hb3, h3, h⟩
      rcases h with ⟨h1, h2⟩ | ⟨h1, h2⟩
      · have hlt := (Array.getElem?_eq_some_iff.1 h1).1
        refine ⟨some .ret, _, run_endLoop h1 (by simp), ?_⟩
        refine wpIn_ret ⟨rfl, ?_⟩
        show Qr (_ :: a.defers) _
        rw [hd]
        exact hr w.heap.size Sb _ (Nat.le_refl _) (by simp; omega) hb3 ((World.putObj_heap_other (by omega)).trans h3) (hKr _ _ _ h2 (Chg.put _ _ _ ⟨by omega, hb2⟩))
      · have hlt := (Array.getElem?_eq_some_iff.1 h1).1
        refine ⟨some (.exit x), _, run_endLoop h1 (by simp), ?_⟩
        refine wpIn_exit ⟨rfl, rfl, ?_⟩
        show Qx (_ :: a.defers) _
        rw [hd]
        exact hx w.heap.size Sb _ (Nat.le_refl _) (by simp; omega) hb3 ((World.putObj_heap_other (by omega)).trans h3) (hKx _ _ _ h2 (Chg.put _ _ _ ⟨by omega, hb2⟩))
end Go.Sh
namespace Go.Proofs
open Go Go.Sh Go.RowKit

end Go.Proofs
namespace Go.Sh
open Go Go.RowKit
section
variable {S : Nat → Prop} {w w' : World} {e : TypeId} {B : Nat} {a : Option Addr} {n c : Nat} {f : Fo}
theorem OwnF.push2 {P : Program} {t bytes : Nat} {z : Value} (hT : SlT P t e 4 bytes z) (h : OwnF e S B w a n c f) (hB : B ≤ w.heap.size) {k : Int} {s : List UInt8} {m : Int} {a' : Option Addr} {c' : Nat} {ps : Fo}
    (hps : SlF (fun k => (S k ∨ B ≤ k) ∧ ¬ Sh.bk a k) w a' ps.len ps) (hlen : n + 1 ≤ 4611686018427387904) (hbytes : (n + 1) * bytes ≤ 140737488355328) {ty : TypeId} {K : Option Addr → Nat → Nat → World → Prop}
    (hk : ∀ a'' n'' c'' w', OwnF e S B w' a'' n'' c'' (f.app (.one k s m ps)) → Chg (Sh.bk a) w w' → (∀ k, Sh.bk a'' k → Sh.bk a k ∨ w.heap.size ≤ k) → K a'' n'' c'' w') :
    al w e [.int .i64 k, .string ⟨⟨s⟩⟩, .int .i64 m, .slice a' ps.len c'] fun p w1 => app P [t, t] ty (.slice a n c) (.slice (some p) 1 1) w1 K := by
  obtain ⟨h0, xs, h1, h2⟩ := h
  refine app_one2 hT h1 hB [.int .i64 k, .string ⟨⟨s⟩⟩, .int .i64 m, .slice a' ps.len c'] rfl (by intro u hu; simp only [List.mem_cons, List.not_mem_nil, or_false] at hu; rcases hu with rfl | rfl | rfl | rfl <;> rfl) hlen hbytes fun a'' c'' w' ho hc hn => hk _ _ _ _ ⟨?_, _, ho, ?_⟩ hc hn
  · simp [Fo.one]; exact h0
  · obtain ⟨_, us, h3, h4⟩ := hps
    have hs : ∀ k, ((S k ∨ B ≤ k) ∧ ¬ Sh.bk a k) → k < w.heap.size → ((S k ∨ B ≤ k) ∧ ¬ Sh.bk a'' k) ∧ w'.heap[k]? = w.heap[k]? := fun k hk hl =>
      ⟨⟨hk.1, fun hb => (hn k hb).elim hk.2 (fun h => by omega)⟩, hc.block k hl hk.2⟩
    exact (h2.keep hs hc.size).app ⟨a', c', us, [], rfl, h3.keep hs hc.size, h4.keep hs hc.size, rfl⟩
/- a list whose nodes have no parts hangs on no block but its own -/
def flat : Fo → Prop
  | .nil => True
  | .cons _ _ _ ps r => ps = .nil ∧ flat r
theorem flat_app {f g : Fo} : flat (f.app g) ↔ flat f ∧ flat g := by
  induction f with
  | nil => simp [flat]
  | cons k t n ps r _ ih => simp only [Fo.cons_app, flat, ih, and_assoc]
theorem FoC.flat {S' : Nat → Prop} : ∀ {f : Fo} {vs : List Value}, Sh.flat f → FoC S w f vs → FoC S' w' f vs
  | .nil, vs, _, h => h
  | .cons k t n ps r, vs, ⟨hp, hr⟩, ⟨a, c, us, vs', e, h1, h2, h3⟩ => by
    subst hp
    exact ⟨a, c, [], vs', e, .inl rfl, rfl, FoC.flat hr h3⟩
theorem OwnF.flat {T : Nat → Prop} (h : OwnF e S B w a n c f) (hf : Sh.flat f) (hc : Chg T w w') (hT : ∀ k, Sh.bk a k → ¬ T k) : OwnF e S B w' a n c f := by
  obtain ⟨h0, xs, h1, h2⟩ := h
  exact ⟨h0, xs, h1.chg hc hT, FoC.flat hf h2⟩
end
end Go.Sh
namespace Go.Proofs
open Go Go.Sh Go.RowKit

theorem good_nodes : ∀ (f : Fo), good f → ∀ x ∈ nodesF f, nodeOk x.k x.t x.n x.ps
  | .nil, _, x, hx => by simp [nodesF] at hx
  | .cons k t n ps r, h, x, hx => by
    simp only [nodesF, List.mem_cons, List.mem_append] at hx
    rcases hx with rfl | hx | hx
    · exact h.1
    · exact good_nodes ps h.2.1 x hx
    · exact good_nodes r h.2.2 x hx
theorem flat_pick : ∀ (l : List Nn), (∀ x ∈ l, nodeOk x.k x.t x.n x.ps) → flat (pickB l)
  | [], _ => trivial
  | x :: l, h => by
    have ih := flat_pick l fun y hy => h y (by simp [hy])
    simp only [pickB]
    split
    · rename_i hb
      have hk : x.k = 2 ∨ x.k = 3 ∨ x.k = 4 := by simpa [brkF] using hb
      have hp : x.ps.len = 0 := (h x (by simp)).2.2.2.2.1 (by unfold partsF; simp; omega)
      exact ⟨Fo.eq_nil_of_len hp, ih⟩
    · exact ih

theorem al_true {w : World} {T : TypeId} {cs : List Value} {A : Addr → World → Prop} (h : al w T cs A) : al w T cs fun p w1 => A p w1 ∧ True := ⟨h, trivial⟩

end Go.Proofs
namespace Go.Proofs
open Go Go.Sh Go.RowKit

def eachR (rep : Int → List UInt8 → Int → Fo → Fo → Fo) : Fo → Fo
  | .nil => .nil
  | .cons k t n ps r => (if k = 8 ∨ k = 9 then rep k t n ps (eachR rep ps) else if 0 < ps.len then partF k t n (eachR rep ps) else .one k t n ps).app (eachR rep r)
theorem eachR_app (rep) (f g : Fo) : eachR rep (f.app g) = (eachR rep f).app (eachR rep g) := by
  induction f with
  | nil => rfl
  | cons k t n ps r _ ih => simp only [Fo.cons_app, eachR, ih, Fo.app_assoc]
theorem eachR_size {rep : Int → List UInt8 → Int → Fo → Fo → Fo} (hrs : ∀ k t n ps ps', ps'.size ≤ ps.size → (rep k t n ps ps').size ≤ ps.size + 1) : ∀ f : Fo, (eachR rep f).size ≤ f.size
  | .nil => Nat.le_refl _
  | .cons k t n ps r => by
    have h1 := eachR_size hrs ps
    have h2 := eachR_size hrs r
    have h3 := hrs k t n ps _ h1
    have h4 := partF_size k t n (eachR rep ps)
    simp only [eachR, Fo.size_app, Fo.size]
    split
    · omega
    split
    · omega
    · simp [Fo.one, Fo.size]; omega

/- what calling the function of the parts gives -/
def PartsOK (pf : Value) (W : World) (S : Nat → Prop) (g : Fo) : Prop :=
  ∀ (W' : World) (R' : Ending → World → Prop), Ext W W' → (∀ a n c W'', SlF (fun k => S k ∨ W'.heap.size ≤ k) W'' a n g → Ext W' W'' → R' (.returned (.slice a n c)) W'') → CallV Tryz.prog pf [] W' R'
def RepOK (rep : Int → List UInt8 → Int → Fo → Fo → Fo) (rv : Value) (w0 : World) : Prop :=
  ∀ (W : World) (S : Nat → Prop) (R' : Ending → World → Prop) (k : Int) (t : List UInt8) (n : Int) (a : Option Addr) (c : Nat) (ps : Fo) (pf : Fn) (pa pb : Array Value), Ext w0 W → nodeOk k t n ps → good ps → ps.size ≤ 1000000000 → (k = 8 ∨ k = 9) → (∀ j, S j → j < W.heap.size) → SlF S W a ps.len ps →
    PartsOK (.func pf pa pb) W S (eachR rep ps) → (∀ a' n' c' W', SlF (fun k => S k ∨ W.heap.size ≤ k) W' a' n' (rep k t n ps (eachR rep ps)) → Ext W W' → R' (.returned (.slice a' n' c')) W') →
    CallV Tryz.prog rv [.agg ⟨[.int .i64 k, .string ⟨⟨t⟩⟩, .int .i64 n, .slice a ps.len c]⟩, .func pf pa pb] W R'

end Go.Proofs
namespace Go.Proofs
open Go Go.Sh Go.RowKit

def repR (hand : Int) (k : Int) (_t : List UInt8) (n : Int) (ps ps' : Fo) : Fo := if (decide (k = 8) = decide (n ≤ hand)) then ps' else breaksF ps
def repA (hand : Int) (k : Int) (t : List UInt8) (n : Int) (ps ps' : Fo) : Fo := if hand < n then partF k t n ps' else if k = 8 then ps' else breaksF ps
theorem repR_size (hand : Int) : ∀ k t n ps ps', Fo.size ps' ≤ Fo.size ps → (repR hand k t n ps ps').size ≤ ps.size + 1 := by
  intro k t n ps ps' h
  have := breaksF_size ps
  unfold repR; split <;> omega
theorem repA_size (hand : Int) : ∀ k t n ps ps', Fo.size ps' ≤ Fo.size ps → (repA hand k t n ps ps').size ≤ ps.size + 1 := by
  intro k t n ps ps' h
  have := breaksF_size ps
  have := partF_size k t n ps'
  unfold repA; split
  · omega
  · split <;> omega

/- the program's and the reference's are one -/
theorem each_resolve (hand : Int) : ∀ f : Fo, good f → eachR (repR hand) f = resolveF f hand false
  | .nil, _ => rfl
  | .cons k t n ps r, h => by
    have h1 := each_resolve hand ps h.2.1
    have h2 := each_resolve hand r h.2.2
    simp only [eachR, resolveF, h1, h2]
    congr 1
    by_cases g8 : k = 8
    · subst g8
      by_cases gn : n ≤ hand
      · simp [repR, gn]
      · simp [repR, gn]
    · by_cases g9 : k = 9
      · subst g9
        by_cases gn : n ≤ hand
        · simp [repR, gn]
        · simp [repR, gn]
      · simp only [g8, g9, false_and, if_false, false_or]
        obtain ⟨hk1, hk2, _, _, hp1, hp2⟩ := h.1
        by_cases gp : k = 7 ∨ k = 10 ∨ k = 11
        · rw [if_pos gp, if_pos (hp2 (by unfold partsF; simp; omega))]
        · rw [if_neg gp, if_neg (by have := hp1 (by unfold partsF; simp; omega); omega)]
theorem each_advance (hand : Int) : ∀ f : Fo, good f → eachR (repA hand) f = resolveF f hand true
  | .nil, _ => rfl
  | .cons k t n ps r, h => by
    have h1 := each_advance hand ps h.2.1
    have h2 := each_advance hand r h.2.2
    simp only [eachR, resolveF, h1, h2]
    congr 1
    by_cases g8 : k = 8
    · subst g8
      by_cases gn : n ≤ hand
      · simp [repA, gn] <;> omega
      · simp [repA, gn] <;> omega
    · by_cases g9 : k = 9
      · subst g9
        by_cases gn : n ≤ hand
        · simp [repA, gn] <;> omega
        · simp [repA, gn] <;> omega
      · simp only [g8, g9, false_and, if_false, false_or]
        obtain ⟨hk1, hk2, _, _, hp1, hp2⟩ := h.1
        by_cases gp : k = 7 ∨ k = 10 ∨ k = 11
        · rw [if_pos gp, if_pos (hp2 (by unfold partsF; simp; omega))]
        · rw [if_neg gp, if_neg (by have := hp1 (by unfold partsF; simp; omega); omega)]
end Go.Proofs
namespace Go.Proofs
open Go Go.Sh Go.RowKit

theorem tlen_good : ∀ f : Fo, good f → tlen f ≤ 65536 * f.size
  | .nil, _ => by simp [tlen]
  | .cons k t n ps r, h => by
    have h1 := tlen_good ps h.2.1
    have h2 := tlen_good r h.2.2
    have h3 := h.1.2.2.2.1
    simp only [tlen, Fo.size]; omega
theorem tlen_breaks : ∀ f : Fo, tlen (breaksF f) ≤ tlen f
  | .nil => Nat.le_refl _
  | .cons k t n ps r => by
    have h1 := tlen_breaks ps
    have h2 := tlen_breaks r
    simp only [breaksF, tlen_app, tlen]
    split
    · simp [Fo.one, tlen]; omega
    · omega
theorem tlen_part (k t n) (ps : Fo) : tlen (partF k t n ps) ≤ t.length + tlen ps := by
  unfold partF; split
  · simp [tlen]
  · simp [Fo.one, tlen]
theorem tlen_resolve : ∀ (f : Fo) (hand : Int) (adv : Bool), tlen (resolveF f hand adv) ≤ tlen f
  | .nil, _, _ => Nat.le_refl _
  | .cons k t n ps r, hand, adv => by
    have h1 := tlen_resolve ps hand adv
    have h2 := tlen_resolve r hand adv
    have h3 := tlen_breaks ps
    have h4 := tlen_part k t n (resolveF ps hand adv)
    simp only [resolveF, tlen_app, tlen]
    split
    · omega
    split
    · omega
    split
    · omega
    split
    · omega
    split
    · omega
    split
    · omega
    · simp [Fo.one, tlen]; omega
theorem check_zero {f : Fo} (h : checkT f = 0) : f.size ≤ 4096 ∧ good f ∧ tlen f ≤ 268435456 := by
  unfold checkT at h
  split at h
  · rename_i h1
    split at h
    · rename_i h2; exact absurd h h2
    · rename_i h2
      have hg := all_good f _ _ (Decidable.not_not.1 h2)
      have := tlen_good f hg
      exact ⟨h1.1, hg, by omega⟩
  · cases h
def errS (f : Fo) (hand : Int) : Int := if checkT f ≠ 0 then 1 else if hand < 0 ∨ 8 < hand then 13 else 0
def resS (f : Fo) (hand : Int) (adv : Bool) : Fo := if errS f hand = 0 then mergeF (resolveF f hand adv) else .nil

section
variable {R : Ending → World → Prop} {S : Nat → Prop} {w : World} {a : Option Addr} {n c : Nat}
end
end Go.Proofs
namespace Go.Proofs
open Go Go.Sh Go.RowKit

theorem at_blk {w : World} {b : Nat} {vs : List Value} {T : TypeId} (h : Blk w b vs T) : At (fun _ => True) w (some ⟨b, 0, none⟩) vs :=
  .inr ⟨b, 0, rfl, trivial, h.lt, fun j v hj => by rw [Nat.zero_add, h.cell]; exact hj⟩
def fA1 : Fo := .cons 1 [100, 101] 0 .nil (.cons 8 [] 1 (.one 1 [117] 0 .nil) (.one 1 [115] 0 .nil))
def fA2 : Fo := .cons 1 [97] 0 .nil (.one 9 [] 2 (.cons 1 [98] 0 .nil (.one 2 [] 0 .nil)))
theorem awake1 : errS fA1 0 = 0 ∧ errS fA1 1 = 0 ∧ errS fA2 2 = 0 ∧ resS fA1 0 false = .one 1 [100, 101, 115] 0 .nil ∧ resS fA1 1 false = .one 1 [100, 101, 117, 115] 0 .nil ∧ resS fA2 2 false = .cons 1 [97] 0 .nil (.one 2 [] 0 .nil) := by decide +kernel
theorem addL_size (f : Fo) (t) : (addL f t).size = f.size := by
  rcases Fo_view f with rfl | ⟨pre, k, s, n, ps, rfl⟩
  · rfl
  · rw [addL_snoc, Fo.size_app, Fo.size_app]; rfl
theorem snocM_size (out : Fo) (k t n ps) : (snocM out k t n ps).size ≤ out.size + ps.size + 1 := by
  unfold snocM
  split
  · omega
  · split
    · rw [addL_size]; omega
    · rw [Fo.size_app]; simp [Fo.one, Fo.size]; omega
theorem mgo_size : ∀ (f out : Fo), (mgo f out).size ≤ f.size + out.size
  | .nil, out => by simp [mgo]
  | .cons k t n ps r, out => by
    have h1 := mgo_size ps .nil
    have h2 := mgo_size r (snocM out k t n (mgo ps .nil))
    have h3 := snocM_size out k t n (mgo ps .nil)
    simp only [mgo, Fo.size] at *
    omega
theorem mergeF_size (f : Fo) : (mergeF f).size ≤ f.size := by
  have := mgo_size f .nil
  simpa [mergeF, Fo.size] using this

end Go.Proofs
namespace Go.Proofs
open Go Go.Sh Go.RowKit

theorem len4 {α : Type} {l : List α} (h : l.length = 4) : ∃ a b c d, l = [a, b, c, d] := by
  match l, h with
  | [a, b, c, d], _ => exact ⟨a, b, c, d, rfl⟩

set_option maxRecDepth 20000 in
theorem open_nodes {H : Type} {enc : TypeId × Value → H} {w : World} {base : Nat} {sp : Nat → Bool} {hd : Bool} : ∀ (fuel : Nat) (cs : List Value) (x : DataW H × List MemPlace), DataW.trod enc Tryz.prog w base sp hd fuel 22 cs = some x →
    ∃ (a : Option Addr) (n c : Nat) (f : Fo), cs = [.slice a n c] ∧ SlF (fun _ => True) w a n f := by
  intro fuel
  induction fuel using Nat.strongRecOn with
  | _ fuel ih =>
  intro cs x h
  rcases DataW.trod_slice Tryz.underlying22 h with ⟨rfl, _⟩ | ⟨a, len, cap, elems, rest, n, rfl, rfl, _, hb, hl, hm, hel, hall, _⟩
  · exact ⟨none, 0, 0, .nil, rfl, SlF.nil none⟩
  have h4 : Tryz.prog.cellsOf 45 = 4 := by kernel_rfl
  have h3 : Tryz.prog.cellsOf 3 = 1 := by kernel_rfl
  have h9 : Tryz.prog.cellsOf 9 = 1 := by kernel_rfl
  have h22 : Tryz.prog.cellsOf 22 = 1 := by kernel_rfl
  have node : ∀ i, i < len → ∃ (k : Int) (t : List UInt8) (m : Int) (a1 : Option Addr) (c1 : Nat) (ps : Fo), (∀ j v, ([.int .i64 k, .string ⟨⟨t⟩⟩, .int .i64 m, .slice a1 ps.len c1] : List Value)[j]? = some v → w.cell? ((a.add (i * 4)).add j) = some v) ∧ SlF (fun _ => True) w a1 ps.len ps := by
    intro i hi
    have hh := hall i hi
    rw [List.getElem?_eq_getElem (by omega)] at hh
    obtain ⟨cs', hc1, hc2⟩ := Option.bind_eq_some_iff.1 hh
    rw [h4] at hc1
    obtain ⟨_, hlen, hcell⟩ := World.cells?_some hc1
    obtain ⟨xs, n', rfl, _, hcl, hxl, hf⟩ := DataW.trod_struct Tryz.underlying45 hc2
    obtain ⟨v0, v1, v2, v3, rfl⟩ := len4 hlen
    obtain ⟨y0, y1, y2, y3, rfl⟩ := len4 (show xs.length = 4 from hxl)
    have g0 := hf 0 _ rfl
    have g1 := hf 1 _ rfl
    have g2 := hf 2 _ rfl
    have g3 := hf 3 _ rfl
    try dsimp only at g0
    try simp only [h3] at g0
    try dsimp only at g1
    try simp only [h9] at g1
    try dsimp only at g2
    try simp only [h3] at g2
    try dsimp only at g3
    try simp only [h22] at g3
    obtain ⟨k, e0, _, _⟩ := DataW.trod_int (k := .i64) Tryz.underlying3 g0
    obtain ⟨t, e1, _, _⟩ := DataW.trod_string Tryz.underlying9 g1
    obtain ⟨m, e2, _, _⟩ := DataW.trod_int (k := .i64) Tryz.underlying3 g2
    obtain ⟨a1, n1, c1, ps, e3, hs⟩ := ih n' (by omega) _ _ g3
    simp [h3, h9, h22] at e0 e1 e2 e3
    subst e0 e1 e2 e3
    have hn1 := hs.1
    subst hn1
    refine ⟨k, t.data.toList, m, a1, c1, ps, fun j v hj => ?_, hs⟩
    have hj4 : j < 4 := by have := (List.getElem?_eq_some_iff.1 hj).1; simpa using this
    rw [hcell j hj4]
    exact hj
  by_cases hl0 : len = 0
  · subst hl0
    exact ⟨some a, 0, cap, .nil, rfl, SlF.nil _⟩
  obtain ⟨b, o, rfl⟩ : ∃ b o, a = ⟨b, o, none⟩ := by
    obtain ⟨kd, t, m, a1, c1, ps, hcells, _⟩ := node 0 (by omega)
    have h0 := hcells 0 _ rfl
    obtain ⟨b, o, spot⟩ := a
    have hspot : spot = none := by simpa [Addr.add] using World.cell?_spot h0
    subst hspot
    exact ⟨b, o, rfl⟩
  have build : ∀ k, k ≤ len → ∃ (f : Fo) (us : List Value), f.len = k ∧ (∀ j v, us[j]? = some v → w.cell? ((⟨b, o, none⟩ : Addr).add j) = some v) ∧ FoC (fun _ => True) w f us := by
    intro k
    induction k with
    | zero => exact fun _ => ⟨.nil, [], rfl, fun j v hj => by simp at hj, rfl⟩
    | succ k ihk =>
      intro hk
      obtain ⟨f, us, hfl, hus, hF⟩ := ihk (by omega)
      obtain ⟨kd, t, m, a1, c1, ps, hcells, hm, vs, hat, hfo⟩ := node k (by omega)
      have hul := hF.len
      refine ⟨f.app (.one kd t m ps), us ++ [.int .i64 kd, .string ⟨⟨t⟩⟩, .int .i64 m, .slice a1 ps.len c1], by simp [Fo.one, hfl], fun j v hj => ?_, hF.app ⟨a1, c1, vs, [], rfl, hat, hfo, rfl⟩⟩
      by_cases hlt : j < us.length
      · rw [List.getElem?_append_left hlt] at hj
        exact hus j v hj
      · rw [List.getElem?_append_right (by omega)] at hj
        have := hcells _ _ hj
        have hadd : ((⟨b, o, none⟩ : Addr).add (k * 4)).add (j - us.length) = (⟨b, o, none⟩ : Addr).add j := by
          rw [add_none, add_none, add_none]
          have e : o + k * 4 + (j - us.length) = o + j := by omega
          rw [e]
        rw [hadd] at this; exact this
  obtain ⟨f, us, hfl, hus, hF⟩ := build len (Nat.le_refl _)
  refine ⟨some ⟨b, o, none⟩, len, cap, f, rfl, hfl.symm, us, ?_, hF⟩
  cases us with
  | nil => exact .inl rfl
  | cons u us =>
    have h0 := hus 0 u rfl
    refine .inr ⟨b, o, rfl, trivial, ?_, fun j v hj => ?_⟩
    · have := World.block_lt_of_cell? w _ h0
      simpa [Addr.add] using this
    · have := hus j v hj
      rw [add_none] at this; exact this
theorem nodes_cap {H : Type} {enc : TypeId × Value → H} {w : World} {base : Nat} {sp : Nat → Bool} {hd : Bool} {fuel : Nat} {cs : List Value} {x : DataW H × List MemPlace} (h : DataW.trod enc Tryz.prog w base sp hd fuel 22 cs = some x)
    {a : Option Addr} {n c : Nat} (hc : cs = [.slice a n c]) : n ≤ c := by
  rcases DataW.trod_slice Tryz.underlying22 h with ⟨rfl, _⟩ | ⟨a, len, cap, elems, rest, n, rfl, rfl, _, hb, hl, hm, hel, hall, _⟩
  · simp only [List.cons.injEq, Value.slice.injEq, and_true] at hc; omega
  · simp only [List.cons.injEq, Value.slice.injEq, and_true] at hc; omega

end Go.Proofs
namespace Go.Sh
open Go Go.RowKit Go.ChangeShapes
section
variable {H : Type} {enc : TypeId × Value → H} {P : Program} {W W' : World}
theorem trodAll_carry {sp : Nat → Bool} : ∀ {ts : List TypeId} {vs : List Value} {ds : List (DataW H)} {ps : List MemPlace}, DataW.TrodAll enc P W 0 sp true ts vs ds ps → (∀ p ∈ ps, W.sameAt W' p) → DataW.TrodAll enc P W' 0 sp true ts vs ds ps
  | [], [], [], _, h, _ => h
  | _ :: _, _ :: _, _ :: _, _, ⟨p, q, ⟨n, hn⟩, h2, e⟩, hs =>
    ⟨p, q, ⟨n, DataW.trod_carry n _ _ _ hn fun x hx => hs x (by rw [e]; exact List.mem_append_left _ hx)⟩, trodAll_carry h2 (fun x hx => hs x (by rw [e]; exact List.mem_append_right _ hx)), e⟩
  | [], [], _ :: _, _, h, _ => h.elim
  | [], _ :: _, _, _, h, _ => h.elim
  | _ :: _, [], _, _, h, _ => h.elim
  | _ :: _, _ :: _, [], _, h, _ => h.elim
theorem trodAll_below (hl : laidOutB P = true) : ∀ {ts : List TypeId} {vs : List Value} {ds : List (DataW H)} {ps : List MemPlace}, (∀ t ∈ ts, P.readableRec t = true ∧ t < P.types.size) → DataW.TrodAll enc P W 0 (fun _ => true) true ts vs ds ps → Below W.heap.size W W' → (∀ x ∈ ps, x.block < W.heap.size) →
    DataW.TrodAll enc P W' 0 (fun b => decide (b < W.heap.size)) true ts vs ds ps
  | [], [], [], _, _, h, _, _ => h
  | _ :: _, _ :: _, _ :: _, _, ht, ⟨p, q, h1, h2, e⟩, hb, hlt =>
    ⟨p, q, Below.trod hl (ht _ (by simp)).1 (ht _ (by simp)).2 h1 hb (fun x hx => hlt x (by rw [e]; exact List.mem_append_left _ hx)),
      trodAll_below hl (fun t h => ht t (List.mem_cons_of_mem _ h)) h2 hb (fun x hx => hlt x (by rw [e]; exact List.mem_append_right _ hx)), e⟩
  | [], [], _ :: _, _, _, h, _, _ => h.elim
  | [], _ :: _, _, _, _, h, _, _ => h.elim
  | _ :: _, [], _, _, _, h, _, _ => h.elim
  | _ :: _, _ :: _, [], _, _, h, _, _ => h.elim

/- a law's 'post' where it answers true and what was there stands -/
theorem post_ext {f : Func} {s : ChangeSpec} {apart fresh handsOn again : Bool} {args : Array Value} {ds gs : List (DataW H)} {before : List MemPlace} {tb : TypeId} (hl : laidOutB P = true) (hts : ∀ t ∈ f.params.toList, P.readableRec t = true ∧ t < P.types.size) (hres : f.resultTypes = #[tb]) (htb : P.underlying tb = some .bool) (hvars : s.vars = [])
    (hW : DataW.Whole enc P f.params.toList s.vars apart W args.toList ds gs before) (hfn : s.fn H (ds ++ gs) = { results := [.lit (.bool true)], args := ds }) (he : Ext W W') :
    s.post enc P f apart fresh handsOn again W args (.bool true) W' := by
  have hlt := hW.lt
  have hW0 := hW
  obtain ⟨p, q, h1, h2, hpq, hz, hn⟩ := hW0
  rw [hvars] at h2
  obtain ⟨hg, hq⟩ := trodVars_none h2
  subst hg hq
  simp only [List.append_nil] at hpq
  subst hpq
  have hbool : ∀ (b : Nat) (sp : Nat → Bool) (hd : Bool), DataW.TrodAll enc P W' b sp hd f.resultTypes.toList ((Value.bool true).resultList f.resultTypes.size) [.lit (.bool true)] [] := by
    intro b sp hd
    rw [hres]
    exact trodAll_mk1 (shut_bool htb true)
  refine ⟨ds, [], before, [], before, [], hW, ?_, ?_, ?_, he.frame _, fun _ => ⟨ok_one hres rfl (okWide_bool_mk htb true), [.lit (.bool true)] ++ ds, [], [] ++ before, ⟨[] ++ before, [], ?_, ?_, by simp, ?_, ?_⟩, ?_⟩⟩
  · rw [hfn]; exact hbool _ _ _
  · rw [hfn]; exact trodAll_below hl hts h1 he hlt
  · rw [hfn, hvars]; rfl
  · exact trodAll_append (trodAll_carry h1 fun x hx => he.same (hlt x hx)) (hbool _ _ _)
  · rw [hvars]; rfl
  · intro b off hp
    simp only [List.nil_append] at hp
    rw [he.frozen (hlt _ hp)]
    exact hz b off hp
  · intro ha; simpa using hn ha
  · intro x hx _; simpa using hx
end
end Go.Sh
namespace Go.Proofs.YtcnlbobkjeiakaaGreatDoor
open Go Go.Sh Go.RowKit Go.ChangeShapes Go.WideShapes Go.ChangeAt

theorem own : ownKnob Tryz.prog.godebug = none := by kernel_rfl
theorem laidOut : laidOutB Tryz.prog = true := by kernel_rfl
theorem rec22 : Tryz.prog.readableRec 22 = true ∧ 22 < Tryz.prog.types.size := ⟨by kernel_rfl, of_decide_eq_true (by kernel_rfl)⟩
theorem rec3 : Tryz.prog.readableRec 3 = true ∧ 3 < Tryz.prog.types.size := ⟨by kernel_rfl, of_decide_eq_true (by kernel_rfl)⟩
theorem form_row {W : World} {m : Nat} {cs : List Value} {x : DataW Unit × List MemPlace} {tag : List UInt8} {a b c : Bool} (h : DataW.trod (fun _ => ()) Tryz.prog W 0 (fun _ => true) false m 106 cs = some x)
    (hx : x.1 = .agg [.lit (.string tag), .lit (.bool a), .lit (.bool b), .lit (.bool c)]) : cs = [.string ⟨⟨tag⟩⟩, .bool a, .bool b, .bool c] := by
  have h96 : Tryz.prog.cellsOf 106 = 4 := by kernel_rfl
  have h9 : Tryz.prog.cellsOf 9 = 1 := by kernel_rfl
  have h4 : Tryz.prog.cellsOf 4 = 1 := by kernel_rfl
  obtain ⟨xs, n, rfl, rfl, hl, hxl, hf⟩ := DataW.trod_struct Tryz.underlying106 h
  rw [h96] at hl
  obtain ⟨v0, v1, v2, v3, rfl⟩ := len4 hl
  obtain ⟨y0, y1, y2, y3, rfl⟩ := len4 (show xs.length = 4 from hxl)
  simp only [List.map_cons, List.map_nil, DataW.agg.injEq, List.cons.injEq, and_true] at hx
  obtain ⟨z0, z1, z2, z3⟩ := hx
  have g0 := hf 0 _ rfl
  have g1 := hf 1 _ rfl
  have g2 := hf 2 _ rfl
  have g3 := hf 3 _ rfl
  obtain ⟨t, e0, f0, _⟩ := DataW.trod_string Tryz.underlying9 g0
  obtain ⟨b1, e1, f1⟩ := DataW.trod_bool Tryz.underlying4 g1
  obtain ⟨b2, e2, f2⟩ := DataW.trod_bool Tryz.underlying4 g2
  obtain ⟨b3, e3, f3⟩ := DataW.trod_bool Tryz.underlying4 g3
  simp [h9, h4] at e0 e1 e2 e3
  subst e0 e1 e2 e3
  try simp at f0 f1 f2 f3
  rw [f0] at z0
  rw [f1] at z1
  rw [f2] at z2
  rw [f3] at z3
  simp at z0 z1 z2 z3
  subst z0 z1 z2 z3
  rfl
set_option maxRecDepth 20000 in
theorem forms_of {W : World} (h : Go.Lib.VarReads Tryz.prog W "apograph/transcript.forms" Rows.laid_apograph_transcript_forms) : Forms W := by
  obtain ⟨g4, t4, cs, f4, p4, hg, ht, hvar, hd⟩ := h
  have hg0 : Tryz.prog.globalNamed "apograph/transcript.forms" = some 0 := by kernel_rfl
  have ht0 : (Tryz.prog.globals[0]?).map (·.type) = some 107 := by kernel_rfl
  obtain rfl := Option.some.inj (hg0.symm.trans hg)
  obtain rfl := Option.some.inj (ht0.symm.trans ht)
  have h96 : Tryz.prog.cellsOf 106 = 4 := by kernel_rfl
  have h97 : Tryz.prog.cellsOf 107 = 48 := by kernel_rfl
  obtain ⟨xs, m, rfl, hx, hl, hxl, hall⟩ := DataW.trod_array Tryz.underlying107 hd
  rw [h97] at hl
  rw [h96] at hall
  simp only [Prod.mk.injEq, Rows.laid_apograph_transcript_forms, DataW.agg.injEq] at hx
  obtain ⟨hm, _⟩ := hx
  have chunk : ∀ i, i < 12 → (cs.toList.drop (i * 4)).take 4 = (formsCells.drop (i * 4)).take 4 := by
    intro i hi
    have hh := hall i hi
    have hxi : (xs[i]?).map (·.1) = _ := (List.getElem?_map (f := (·.1)) (l := xs) (i := i)).symm.trans (by rw [← hm])
    rw [List.getElem?_eq_getElem (by omega)] at hh hxi
    simp only [Option.map_some] at hxi
    rcases (by omega : i = 0 ∨ i = 1 ∨ i = 2 ∨ i = 3 ∨ i = 4 ∨ i = 5 ∨ i = 6 ∨ i = 7 ∨ i = 8 ∨ i = 9 ∨ i = 10 ∨ i = 11) with rfl | rfl | rfl | rfl | rfl | rfl | rfl | rfl | rfl | rfl | rfl | rfl <;>
      exact form_row hh (Option.some.inj hxi)
  have hsz : 0 < W.heap.size := by
    simp only [World.var?, hg0, Option.bind_some] at hvar
    split at hvar
    · rename_i hh; exact (Array.getElem?_eq_some_iff.1 hh).1
    · cases hvar
  refine ⟨hsz, fun j v hj => ?_⟩
  have hj48 : j < 48 := by have := (List.getElem?_eq_some_iff.1 hj).1; exact this
  rw [World.var?_cell hg0 hvar j]
  have hc := chunk (j / 4) (by omega)
  have e : ∀ l : List Value, l[j]? = ((l.drop (j / 4 * 4)).take 4)[j - j / 4 * 4]? := fun l => by
    rw [List.getElem?_take, if_pos (by omega), List.getElem?_drop]
    congr 1; omega
  rw [← Array.getElem?_toList, e, hc, ← e]; exact hj

theorem rec5 : Tryz.prog.readableRec 5 = true ∧ 5 < Tryz.prog.types.size := ⟨by kernel_rfl, of_decide_eq_true (by kernel_rfl)⟩
theorem u8_wf {n : Int} (h : (Lit.int .u8 n).wf = true) : 0 ≤ n ∧ n < 256 := by
  simp [Lit.wf, IntKind.min, IntKind.max, IntKind.signed, IntKind.bits] at h
  omega
noncomputable def flatV : Nat → DataW Unit → List Value
  | n + 1, .agg l => l.flatMap (flatV n)
  | _, .lit (.int k n) => [.int k n]
  | _, .lit (.bool b) => [.bool b]
  | _, .lit (.string s) => [.string ⟨s.toArray⟩]
  | _, _ => []
noncomputable def putG (h : Array Obj) (g : Nat) (cs : List Value) : Array Obj := h.modify g fun
  | .cells _ t frozen => .cells ⟨cs⟩ t frozen
  | o => o
noncomputable def layAll (laid : List (String × DataW Unit)) (h : Array Obj) : Array Obj :=
  laid.foldl (fun h x => match Tryz.prog.globalNamed x.1 with
    | some g => putG h g (flatV 5 x.2)
    | none => h) h
noncomputable def laidWorldOf (laid : List (String × DataW Unit)) (os : Os) : World :=
  { World.holding Tryz.prog os ⟨#[], #[], []⟩ with heap := layAll laid (World.holding Tryz.prog os ⟨#[], #[], []⟩).heap }
end Go.Proofs.YtcnlbobkjeiakaaGreatDoor
namespace Go.Proofs
open Go Go.Sh

/- merging, from the right -/
def consM (k : Int) (t : List UInt8) (n : Int) (ps r : Fo) : Fo :=
  if k = 1 then (if t = [] then r else match r with
    | .nil => .cons k t n ps .nil
    | .cons k' t' n' ps' r' => if k' = 1 then .cons k (t ++ t') n ps r' else .cons k t n ps (.cons k' t' n' ps' r'))
  else .cons k t n ps r
def mergeR : Fo → Fo
  | .nil => .nil
  | .cons k t n ps r => consM k t n (mergeR ps) (mergeR r)
def glue (out : Fo) : Fo → Fo
  | .nil => out
  | .cons k t n ps r => if k = 1 ∧ lastT out = true then (addL out t).app r else out.app (.cons k t n ps r)

theorem addL_addL (f : Fo) (s t : List UInt8) : addL (addL f s) t = addL f (s ++ t) := by
  rcases Fo_view f with rfl | ⟨pre, k, u, n, ps, rfl⟩
  · rfl
  · rw [addL_snoc, addL_snoc, addL_snoc, List.append_assoc]
theorem lastT_addL (f : Fo) (s : List UInt8) : lastT (addL f s) = lastT f := by
  rcases Fo_view f with rfl | ⟨pre, k, u, n, ps, rfl⟩
  · rfl
  · rw [addL_snoc, lastT_snoc, lastT_snoc]
theorem glue_nil (g : Fo) : glue .nil g = g := by
  cases g <;> simp [glue, lastT]
theorem glue_snoc (out : Fo) (k : Int) (t : List UInt8) (n : Int) (p g : Fo) : glue (snocM out k t n p) g = glue out (consM k t n p g) := by
  unfold snocM consM
  by_cases hk : k = 1
  · subst hk
    by_cases ht : t = []
    · simp [ht]
    · simp only [ht, and_false, if_false, true_and, if_true]
      by_cases hl : lastT out = true
      · rw [if_pos hl]
        cases g with
        | nil => simp [glue, hl]
        | cons k' t' n' ps' r' =>
          by_cases hk' : k' = 1
          · simp [glue, hk', lastT_addL, hl, addL_addL]
          · simp [glue, hk', hl]
      · rw [if_neg hl]
        cases g with
        | nil => simp [glue, hl, Fo.one]
        | cons k' t' n' ps' r' =>
          by_cases hk' : k' = 1
          · simp [glue, hk', lastT_snoc, addL_snoc, hl, Fo.app_one_app]
          · simp [glue, hk', hl, Fo.app_one_app]
  · simp only [hk, false_and, if_false]
    cases g with
    | nil => simp [glue, hk, Fo.one]
    | cons k' t' n' ps' r' => simp [glue, hk, lastT_snoc, Fo.app_one_app]
theorem mgo_glue : ∀ (f out : Fo), mgo f out = glue out (mergeR f)
  | .nil, out => rfl
  | .cons k t n ps r, out => by
    rw [mgo, mgo_glue r, mgo_glue ps, glue_nil, glue_snoc]; rfl
theorem mergeF_eq (f : Fo) : mergeF f = mergeR f := by rw [mergeF, mgo_glue, glue_nil]
theorem mgo_app : ∀ (f g out : Fo), mgo (f.app g) out = mgo g (mgo f out)
  | .nil, _, _ => rfl
  | .cons k t n ps r, g, out => by simp only [Fo.cons_app, mgo, mgo_app r]
theorem mergeR_app (f g : Fo) : mergeR (f.app g) = glue (mergeR f) (mergeR g) := by
  rw [← mergeF_eq, mergeF, mgo_app, mgo_glue, ← mergeF, mergeF_eq]

/- what is right in a list but for its neighbours; no two texts side by side -/
def okF (w : Bool) : Fo → Prop
  | .nil => True
  | .cons k t n ps r => singleF k t n ps false w = 0 ∧ okF true ps ∧ okF w r
def mgd (b : Bool) : Fo → Prop
  | .nil => True
  | .cons k _ _ ps r => ¬ (k = 1 ∧ b = true) ∧ mgd false ps ∧ mgd (decide (k = 1)) r
theorem single_split (k t n ps b w) : singleF k t n ps b w = 0 ↔ singleF k t n ps false w = 0 ∧ ¬ (k = 1 ∧ b = true) := by
  unfold singleF
  split
  · simp
  split
  · simp
  split
  · rename_i hk
    split
    · simp
    · simp [hk]
  · rename_i h; simp [h]
theorem all_split : ∀ (f : Fo) (b w : Bool), allF f b w = 0 ↔ okF w f ∧ mgd b f
  | .nil, _, _ => by simp [allF, okF, mgd]
  | .cons k t n ps r, b, w => by
    have h1 := all_split ps false true
    have h2 := all_split r (decide (k = 1)) w
    have h3 := single_split k t n ps b w
    simp only [allF, okF, mgd]
    constructor
    · intro h
      split at h
      · rename_i g; exact absurd h g
      · rename_i g
        split at h
        · rename_i g2; exact absurd h g2
        · rename_i g2
          have a1 := h3.1 (Decidable.not_not.1 g)
          have a2 := h1.1 (Decidable.not_not.1 g2)
          have a3 := h2.1 h
          exact ⟨⟨a1.1, a2.1, a3.1⟩, a1.2, a2.2, a3.2⟩
    · rintro ⟨⟨x1, x2, x3⟩, y1, y2, y3⟩
      rw [if_neg (by simpa using h3.2 ⟨x1, y1⟩), if_neg (by simpa using h1.2 ⟨x2, y2⟩)]
      exact h2.2 ⟨x3, y3⟩
theorem okF_app {w : Bool} : ∀ {f g : Fo}, okF w (f.app g) ↔ okF w f ∧ okF w g
  | .nil, g => by simp [okF]
  | .cons k t n ps r, g => by simp only [Fo.cons_app, okF, okF_app (f := r), and_assoc]
theorem single_within {k t n ps w} (h : singleF k t n ps false w = 0) : singleF k t n ps false false = 0 := by
  cases w with
  | false => exact h
  | true =>
    unfold singleF at h ⊢
    split
    · rename_i g; rw [if_pos g] at h; exact h
    · rename_i g; rw [if_neg g] at h
      split
      · rename_i g2; rw [if_pos g2] at h; exact h
      · rename_i g2; rw [if_neg g2] at h
        split
        · rename_i g3; rw [if_pos g3] at h; exact h
        · rename_i g3; rw [if_neg g3] at h
          split
          · rename_i g4; rw [if_pos g4] at h
            split
            · rename_i g5; rw [if_pos g5] at h; exact h
            · simp
          · rename_i g4; rw [if_neg g4] at h; exact h
theorem okF_within {w : Bool} : ∀ {f : Fo}, okF true f → okF w f
  | .nil, _ => trivial
  | .cons k t n ps r, ⟨h1, h2, h3⟩ => by
    cases w with
    | true => exact ⟨h1, h2, h3⟩
    | false => exact ⟨single_within h1, h2, okF_within h3⟩
theorem okF_good {w : Bool} : ∀ {f : Fo}, okF w f → good f
  | .nil, _ => trivial
  | .cons k t n ps r, ⟨h1, h2, h3⟩ => ⟨single_ok h1, okF_good h2, okF_good h3⟩
/- texts stand alone -/
theorem single_text {t n ps b w} (h : singleF 1 t n ps b w = 0) : t ≠ [] ∧ n = 0 ∧ ps = .nil ∧ checkC t = 0 := by
  unfold singleF at h
  split at h
  · cases h
  rename_i g
  split at h
  · cases h
  rename_i g2
  rw [if_pos rfl] at h
  split at h
  · cases h
  rename_i g3
  have e1 : numsF 1 = false := by decide
  have e2 : partsF 1 = false := by decide
  refine ⟨fun e => g2 (.inl ⟨rfl, e⟩), ?_, Fo.eq_nil_of_len ?_, Decidable.not_not.1 g3⟩
  · apply Classical.byContradiction; intro hn; exact g (.inr (.inr (.inr (.inl ⟨hn, e1⟩))))
  · apply Classical.byContradiction; intro hn; exact g (.inr (.inr (.inr (.inr ⟨by omega, e2⟩))))
/- what a node's rightness asks of its parts: whether there are any -/
theorem single_parts {k t n ps ps' b w} (h : singleF k t n ps b w = 0) (hl : ps.len = 0 ↔ ps'.len = 0) : singleF k t n ps' b w = 0 := by
  have h2 : (0 < ps.len ↔ 0 < ps'.len) := by omega
  unfold singleF at h ⊢
  simp only [← h2, ← hl]; exact h
end Go.Proofs
namespace Go.Proofs
open Go Go.Sh

/- two accepted strings, one behind the other -/
theorem kA_left {s t : List UInt8} {i : Nat} (h : i < s.length) : kA (s ++ t) i = kA s i := by simp [kA, List.getD, List.getElem?_append_left h]
theorem kA_right (s t : List UInt8) (i : Nat) : kA (s ++ t) (s.length + i) = kA t i := by simp [kA, List.getD, List.getElem?_append_right]
theorem rtB_left {s t : List UInt8} : ∀ {i : Nat}, i < s.length → rtB (s ++ t) i = rtB s i
  | 0, _ => rfl
  | i + 1, h => by simp only [rtB, kA_left h, kA_left (show i < s.length by omega), rtB_left (show i < s.length by omega)]
theorem rtB_right (s t : List UInt8) : ∀ i : Nat, rtB t i = true → rtB (s ++ t) (s.length + i) = true
  | 0, h => by simp [rtB] at h
  | i + 1, h => by
    have e : s.length + (i + 1) = (s.length + i) + 1 := by omega
    rw [rtB] at h
    rw [e, rtB, ← e, kA_right, kA_right]
    simp only [Bool.and_eq_true, Bool.or_eq_true] at h ⊢
    exact ⟨h.1, h.2.imp id (rtB_right s t i)⟩
theorem okChars_app {s t : List UInt8} (hs : okChars s = true) (ht : okChars t = true) : okChars (s ++ t) = true := by
  simp only [okChars, List.all_eq_true, List.mem_range] at hs ht ⊢
  intro j hj
  by_cases h : j < s.length
  · have := hs j h
    unfold okAt at this ⊢
    rw [kA_left h, rtB_left h]; exact this
  · obtain ⟨i, rfl⟩ : ∃ i, j = s.length + i := ⟨j - s.length, by omega⟩
    have := ht i (by simp at hj; omega)
    unfold okAt at this ⊢
    rw [kA_right]
    simp only [Bool.and_eq_true, Bool.or_eq_true] at this ⊢
    exact ⟨this.1, this.2.imp id (rtB_right s t i)⟩
theorem checkC_app {s t : List UInt8} (hs : checkC s = 0) (ht : checkC t = 0) (hl : s.length + t.length ≤ 65536) : checkC (s ++ t) = 0 := by
  rw [checkC_eq, if_neg (by omega)] at hs ht
  rw [checkC_eq, if_neg (by simp; omega)]
  have h1 : okChars s = true := by cases h : okChars s <;> simp [h] at hs ⊢
  have h2 : okChars t = true := by cases h : okChars t <;> simp [h] at ht ⊢
  rw [if_pos (okChars_app h1 h2)]

theorem single_mk_text {t : List UInt8} {w : Bool} (h1 : t ≠ []) (h2 : checkC t = 0) : singleF 1 t 0 .nil false w = 0 := by
  unfold singleF
  have e1 : textsF 1 = true := by decide
  have e2 : partsF 1 = false := by decide
  rw [if_neg (by simp [e1]), if_neg (by simp [h1, e2]), if_pos rfl]
  simp [h2]

/- merging: what it does to a right list -/
theorem consM_ne {k t n ps r} (h : k ≠ 1) : consM k t n ps r = .cons k t n ps r := by unfold consM; rw [if_neg h]
theorem tlen_consM (k t n ps r) : tlen (consM k t n ps r) ≤ t.length + tlen ps + tlen r := by
  unfold consM
  split
  · split
    · omega
    · split
      · simp [tlen]
      · split
        · simp only [tlen, List.length_append]; omega
        · simp only [tlen]; omega
  · simp [tlen]
theorem tlen_merge : ∀ f : Fo, tlen (mergeR f) ≤ tlen f
  | .nil => Nat.le_refl _
  | .cons k t n ps r => by
    have h1 := tlen_merge ps
    have h2 := tlen_merge r
    have h3 := tlen_consM k t n (mergeR ps) (mergeR r)
    simp only [mergeR, tlen]; omega
theorem consM_mgd {k t n ps r} (hp : mgd false ps) (hr : mgd false r) : mgd false (consM k t n ps r) := by
  have weak : ∀ {b} {r : Fo}, mgd false r → (∀ k' t' n' ps' r', r = .cons k' t' n' ps' r' → ¬ (k' = 1 ∧ b = true)) → mgd b r := by
    intro b r h hh
    cases r with
    | nil => trivial
    | cons k' t' n' ps' r' => exact ⟨hh _ _ _ _ _ rfl, h.2.1, h.2.2⟩
  unfold consM
  split
  · rename_i hk
    split
    · exact hr
    · cases r with
      | nil => exact ⟨by simp, hp, trivial⟩
      | cons k' t' n' ps' r' =>
        simp only
        split
        · rename_i hk'
          refine ⟨by simp, hp, ?_⟩
          have := hr.2.2
          rw [hk] at *; rw [hk'] at this; exact this
        · rename_i hk'
          exact ⟨by simp, hp, weak hr fun _ _ _ _ _ e => by cases e; simp [hk']⟩
  · rename_i hk
    exact ⟨by simp, hp, weak hr fun _ _ _ _ _ e => by cases e; simp [hk]⟩
theorem merge_mgd : ∀ f : Fo, mgd false (mergeR f)
  | .nil => trivial
  | .cons k t n ps r => consM_mgd (merge_mgd ps) (merge_mgd r)
theorem consM_nil {k t n ps r} : consM k t n ps r = .nil → k = 1 ∧ t = [] ∧ r = .nil := by
  unfold consM
  intro h
  split at h
  · split at h
    · exact ⟨by assumption, by assumption, h⟩
    · split at h
      · cases h
      · split at h <;> cases h
  · cases h
theorem merge_nil {w : Bool} : ∀ {f : Fo}, okF w f → (mergeR f = .nil ↔ f = .nil)
  | .nil, _ => by simp [mergeR]
  | .cons k t n ps r, ⟨h1, h2, h3⟩ => by
    constructor
    · intro h
      obtain ⟨rfl, rfl, _⟩ := consM_nil h
      exact absurd rfl (single_text h1).1
    · intro h; cases h
theorem len_zero {f : Fo} : f.len = 0 ↔ f = .nil := ⟨Fo.eq_nil_of_len, fun h => by subst h; rfl⟩
theorem merge_ok : ∀ {w : Bool} {f : Fo}, okF w f → tlen f ≤ 65536 → okF w (mergeR f)
  | _, .nil, _, _ => trivial
  | w, .cons k t n ps r, ⟨h1, h2, h3⟩, hl => by
    simp only [tlen] at hl
    have i2 := merge_ok h2 (by omega)
    have i3 := merge_ok h3 (by omega)
    have hlr := tlen_merge r
    have e1 : singleF k t n (mergeR ps) false w = 0 := single_parts h1 (by rw [len_zero, len_zero, merge_nil h2])
    simp only [mergeR]
    unfold consM
    split
    · rename_i hk
      subst hk
      split
      · exact i3
      · obtain ⟨ht, rfl, hps, hc⟩ := single_text e1
        cases hr : mergeR r with
        | nil => exact ⟨e1, i2, trivial⟩
        | cons k' t' n' ps' r' =>
          rw [hr] at i3 hlr
          simp only
          split
          · rename_i hk'
            subst hk'
            obtain ⟨x1, x2, x3⟩ := i3
            obtain ⟨ht', _, _, hc'⟩ := single_text x1
            simp only [tlen] at hlr
            rw [hps]
            refine ⟨single_mk_text (by simp [ht]) (checkC_app hc hc' (by omega)), trivial, x3⟩
          · exact ⟨e1, i2, i3⟩
    · exact ⟨e1, i2, i3⟩
theorem merge_same : ∀ {w b : Bool} {f : Fo}, okF w f → mgd b f → mergeR f = f
  | _, _, .nil, _, _ => rfl
  | w, b, .cons k t n ps r, ⟨h1, h2, h3⟩, ⟨m1, m2, m3⟩ => by
    simp only [mergeR, merge_same h2 m2, merge_same h3 m3]
    unfold consM
    split
    · rename_i hk
      subst hk
      rw [if_neg (single_text h1).1]
      cases r with
      | nil => rfl
      | cons k' t' n' ps' r' =>
        simp only
        rw [if_neg]
        intro e
        exact m3.1 ⟨e, by simp⟩
    · rfl
theorem depth_consM (k t n ps r) : (consM k t n ps r).depth ≤ max (if ps.len = 0 then 0 else ps.depth + 1) r.depth := by
  unfold consM
  split
  · split
    · omega
    · split
      · rw [Fo.depth_parts]; exact Nat.le_refl _
      · split
        · simp only [Fo.depth_parts]; omega
        · simp only [Fo.depth_parts]; omega
  · rw [Fo.depth_parts]; exact Nat.le_refl _
theorem depth_merge : ∀ f : Fo, (mergeR f).depth ≤ f.depth
  | .nil => Nat.le_refl _
  | .cons k t n ps r => by
    have h1 := depth_merge ps
    have h2 := depth_merge r
    have h3 := depth_consM k t n (mergeR ps) (mergeR r)
    rw [Fo.depth_parts]
    simp only [mergeR]
    by_cases hp : ps.len = 0
    · have e := Fo.eq_nil_of_len hp
      subst e
      simp only [mergeR, Fo.len_nil, if_true] at h3 ⊢
      omega
    · rw [if_neg hp]
      split at h3 <;> omega

/- the breaks -/
theorem breaks_consM {k t n ps r} (h : k = 1 → ps = .nil) (hr : ∀ k' t' n' ps' r', r = .cons k' t' n' ps' r' → k' = 1 → ps' = .nil) : breaksF (consM k t n ps r) = (if brkF k then .one k t n ps else breaksF ps).app (breaksF r) := by
  unfold consM
  split
  · rename_i hk
    have hps := h hk
    subst hk hps
    have e : brkF 1 = false := by decide
    simp only [e, Bool.false_eq_true, if_false]
    split
    · rfl
    · cases r with
      | nil => rfl
      | cons k' t' n' ps' r' =>
        simp only
        split
        · rename_i hk'
          have := hr _ _ _ _ _ rfl hk'
          subst hk' this
          simp only [breaksF, e, Bool.false_eq_true, if_false, Fo.nil_app]
        · simp only [breaksF, e, Bool.false_eq_true, if_false, Fo.nil_app]
  · rfl
theorem textnil {w : Bool} {k t n ps r} (h : okF w (.cons k t n ps r)) (hk : k = 1) : ps = .nil := by subst hk; exact (single_text h.1).2.2.1
theorem breaks_merge : ∀ {w : Bool} {f : Fo}, okF w f → tlen f ≤ 65536 → breaksF (mergeR f) = breaksF f
  | _, .nil, _, _ => rfl
  | w, .cons k t n ps r, h, hl => by
    have hl' := hl
    simp only [tlen] at hl
    have m3 := merge_ok h.2.2 (by omega)
    simp only [mergeR]
    rw [breaks_consM, breaks_merge h.2.2 (by omega), breaks_merge h.2.1 (by omega), breaksF]
    · congr 1
      by_cases hb : brkF k = true
      · have hok := single_ok h.1
        have : partsF k = false := by simp only [brkF, decide_eq_true_eq] at hb; unfold partsF; simp; omega
        have e := Fo.eq_nil_of_len (hok.2.2.2.2.1 this)
        subst e; rfl
      · simp [hb]
    · intro hk; rw [textnil h hk]; rfl
    · intro k' t' n' ps' r' e hk'; rw [e] at m3; exact textnil m3 hk'
end Go.Proofs
namespace Go.Proofs
open Go Go.Sh

theorem breaks_ok : ∀ {w : Bool} {f : Fo}, okF w f → okF w (breaksF f)
  | _, .nil, _ => trivial
  | w, .cons k t n ps r, ⟨h1, h2, h3⟩ => by
    simp only [breaksF]
    rw [okF_app]
    refine ⟨?_, breaks_ok h3⟩
    split
    · exact ⟨h1, h2, trivial⟩
    · exact okF_within (breaks_ok h2)
theorem part_ok {w : Bool} {k t n ps ps'} (h : singleF k t n ps false w = 0) (h0 : ps.len ≠ 0) (h2 : okF true ps') : okF w (partF k t n ps') := by
  unfold partF
  split
  · trivial
  · exact ⟨single_parts h (by omega), h2, trivial⟩
theorem resolve_ok : ∀ {w : Bool} {f : Fo} (hand : Int) (adv : Bool), okF w f → okF w (resolveF f hand adv)
  | _, .nil, _, _, _ => trivial
  | w, .cons k t n ps r, hand, adv, ⟨h1, h2, h3⟩ => by
    have hp := (single_ok h1).2.2.2.2.2
    have pk : k = 7 ∨ k = 8 ∨ k = 9 ∨ k = 10 ∨ k = 11 → ps.len ≠ 0 := fun h => by have := hp (by unfold partsF; simp; omega); omega
    have i2 := resolve_ok hand adv h2
    simp only [resolveF]
    rw [okF_app]
    refine ⟨?_, resolve_ok hand adv h3⟩
    split
    · exact okF_within (breaks_ok h2)
    split
    · exact okF_within i2
    split
    · exact part_ok h1 (pk (by omega)) i2
    split
    · exact okF_within (breaks_ok h2)
    split
    · exact okF_within i2
    split
    · exact part_ok h1 (pk (by omega)) i2
    · exact ⟨h1, h2, trivial⟩

theorem depth_breaks : ∀ f : Fo, (breaksF f).depth ≤ f.depth
  | .nil => Nat.le_refl _
  | .cons k t n ps r => by
    have h1 := depth_breaks ps
    have h2 := depth_breaks r
    rw [Fo.depth_parts]
    simp only [breaksF, depth_app]
    split
    · rw [Fo.one, Fo.depth_parts]; simp only [Fo.depth]; omega
    · by_cases hp : ps.len = 0
      · have e := Fo.eq_nil_of_len hp
        subst e
        simp only [breaksF, Fo.depth]; omega
      · rw [if_neg hp]; omega
theorem depth_part (k t n) (ps : Fo) : (partF k t n ps).depth ≤ if ps.len = 0 then 0 else ps.depth + 1 := by
  unfold partF
  split
  · exact Nat.le_refl _
  · rename_i h; rw [Fo.one, Fo.depth_parts, if_neg h]; simp [Fo.depth]
theorem depth_resolve : ∀ (f : Fo) (hand : Int) (adv : Bool), (resolveF f hand adv).depth ≤ f.depth
  | .nil, _, _ => Nat.le_refl _
  | .cons k t n ps r, hand, adv => by
    have h1 := depth_resolve ps hand adv
    have h2 := depth_resolve r hand adv
    have h3 := depth_breaks ps
    have h4 := depth_part k t n (resolveF ps hand adv)
    rw [Fo.depth_parts]
    by_cases hp : ps.len = 0
    · have e := Fo.eq_nil_of_len hp
      subst e
      simp only [resolveF, breaksF, partF, Fo.len_nil, if_true, depth_app]
      have h0 : (Fo.one k t n .nil).depth = 0 := rfl
      have hn : Fo.nil.depth = 0 := rfl
      repeat' split
      all_goals omega
    · rw [if_neg hp]
      have h5 : (partF k t n (resolveF ps hand adv)).depth ≤ ps.depth + 1 := by split at h4 <;> omega
      have h6 : (Fo.one k t n ps).depth = ps.depth + 1 := by rw [Fo.one, Fo.depth_parts, if_neg hp]; simp [Fo.depth]
      simp only [resolveF, depth_app]
      repeat' split
      all_goals omega

/- sizes: what is printed is hardly longer than the texts -/
theorem print_short : ∀ f : Fo, good f → (printF f).length ≤ 30 * f.size + tlen f
  | .nil, _ => by simp [printF]
  | .cons k t n ps r, ⟨h1, h2, h3⟩ => by
    have i2 := print_short ps h2
    have i3 := print_short r h3
    have ht := tagF_len h1.1 h1.2.1
    have hv : (valF k t n).length ≤ t.length + 3 := by
      unfold valF
      split
      · simp
      · split
        · rename_i hn
          have := decDigits_len n.toNat (by have := h1.2.2.1 hn; omega)
          simp only [List.length_cons]; omega
        · simp
    simp only [printF, List.length_append, Fo.size, tlen]
    unfold nodeF
    split
    · omega
    · split
      · simp only [List.length_append, List.length_cons, List.length_nil]; omega
      · simp only [List.length_append, List.length_cons, List.length_nil]; omega
theorem tlen_texts : ∀ {f : Fo} {b : Nat}, f.texts b → tlen f ≤ b * f.size
  | .nil, _, _ => by simp [tlen]
  | .cons k t n ps r, b, ⟨h1, h2, h3⟩ => by
    have i2 := tlen_texts h2
    have i3 := tlen_texts h3
    simp only [tlen, Fo.size, Nat.mul_add, Nat.mul_one]; omega

/- the transcripts of the statements -/
structure FineF (f : Fo) : Prop where
  size : f.size ≤ 24
  tl : tlen f ≤ 192
  depth : f.depth ≤ 6
  ok : okF false f
  m : mgd false f
theorem FineF.check {f : Fo} (h : FineF f) : checkT f = 0 := by
  unfold checkT
  have h1 := h.size
  have h2 := h.tl
  have h3 := h.depth
  have ha : allF f false false = 0 := (all_split f false false).2 ⟨h.ok, h.m⟩
  have hp := print_short f (okF_good h.ok)
  rw [if_pos (by omega), ha]
  simp; omega
theorem FineF.small {f : Fo} (h : FineF f) : small f := by have := h.size; unfold Go.Proofs.small; omega
theorem fine_of {f : Fo} (hg : greatF f = false) (hc : checkT f = 0) : FineF f := by
  obtain ⟨h1, h2, h3⟩ := great_small hg
  have h4 := tlen_texts h2
  unfold checkT at hc
  rw [if_pos (by omega)] at hc
  have ha : allF f false false = 0 := by
    split at hc
    · rename_i h; exact absurd hc h
    · rename_i h; exact Decidable.not_not.1 h
  have := (all_split f false false).1 ha
  exact ⟨h1, by omega, h3, this.1, this.2⟩
theorem FineF.res {f : Fo} (h : FineF f) (hand : Int) (adv : Bool) : FineF (mergeF (resolveF f hand adv)) := by
  have h1 := h.size
  have h2 := h.tl
  have h3 := h.depth
  have a1 := mergeF_size (resolveF f hand adv)
  have a2 := resolveF_size f hand adv
  have b1 := tlen_merge (resolveF f hand adv)
  have b2 := tlen_resolve f hand adv
  have c1 := depth_merge (resolveF f hand adv)
  have c2 := depth_resolve f hand adv
  have hok := resolve_ok hand adv h.ok
  rw [mergeF_eq] at a1 ⊢
  exact ⟨by omega, by omega, by omega, merge_ok hok (by omega), merge_mgd _⟩
theorem FineF.err {f : Fo} (h : FineF f) {hand : Int} (h0 : 0 ≤ hand) (h8 : hand ≤ 8) : errS f hand = 0 := by
  unfold errS; rw [if_neg (by rw [h.check]; simp), if_neg (by omega)]
theorem FineF.resS {f : Fo} (h : FineF f) {hand : Int} (adv : Bool) (h0 : 0 ≤ hand) (h8 : hand ≤ 8) : resS f hand adv = mergeF (resolveF f hand adv) := by
  unfold Go.Proofs.resS; rw [if_pos (h.err h0 h8)]

/- breaks of what is resolved -/
theorem breaks_breaks : ∀ f : Fo, breaksF (breaksF f) = breaksF f
  | .nil => rfl
  | .cons k t n ps r => by
    simp only [breaksF, breaksF_app, breaks_breaks r]
    congr 1
    split
    · rename_i h; simp [Fo.one, breaksF, h]
    · exact breaks_breaks ps
theorem breaks_part {k t n ps} (h : brkF k = false) : breaksF (partF k t n ps) = breaksF ps := by
  unfold partF
  split
  · rename_i h0; have e := Fo.eq_nil_of_len h0; subst e; rfl
  · simp [Fo.one, breaksF, h]
theorem breaks_resolve : ∀ (f : Fo) (hand : Int) (adv : Bool), breaksF (resolveF f hand adv) = breaksF f
  | .nil, _, _ => rfl
  | .cons k t n ps r, hand, adv => by
    have h1 := breaks_resolve ps hand adv
    have h2 := breaks_resolve r hand adv
    have nb : k = 7 ∨ k = 8 ∨ k = 9 ∨ k = 10 ∨ k = 11 → brkF k = false := fun h => by unfold brkF; simp; omega
    simp only [resolveF, breaksF_app, h2]
    rw [show breaksF (.cons k t n ps r) = (if brkF k then .one k t n ps else breaksF ps).app (breaksF r) from rfl]
    congr 1
    split
    · rename_i h; rw [nb (by omega), breaks_breaks]; rfl
    split
    · rename_i h; rw [nb (by omega), h1]; rfl
    split
    · rename_i h; rw [breaks_part (nb (by omega)), nb (by omega), h1]; rfl
    split
    · rename_i h; rw [nb (by omega), breaks_breaks]; rfl
    split
    · rename_i h; rw [nb (by omega), h1]; rfl
    split
    · rename_i h; rw [breaks_part (nb (by omega)), nb (by omega), h1]; rfl
    · simp [Fo.one, breaksF]

/- step by step is at once -/
theorem resolve_breaks : ∀ (f : Fo) (hand : Int) (adv : Bool), resolveF (breaksF f) hand adv = breaksF f
  | .nil, _, _ => rfl
  | .cons k t n ps r, hand, adv => by
    simp only [breaksF, resolveF_app, resolve_breaks r]
    congr 1
    split
    · rename_i h
      have : k = 2 ∨ k = 3 ∨ k = 4 := by unfold brkF at h; simpa using h
      simp only [Fo.one, resolveF]
      rw [if_neg (by omega), if_neg (by omega), if_neg (by omega), if_neg (by omega), if_neg (by omega), if_neg (by omega)]; rfl
    · exact resolve_breaks ps hand adv
theorem resolve_resolve (a b : Int) (hab : a ≤ b) (adv : Bool) : ∀ f : Fo, resolveF (resolveF f a true) b adv = resolveF f b adv
  | .nil => rfl
  | .cons k t n ps r => by
    have h1 := resolve_resolve a b hab adv ps
    have h2 := resolve_resolve a b hab adv r
    have e0 := breaks_resolve ps a true
    rw [show resolveF (.cons k t n ps r) a true = (if k = 9 ∧ n ≤ a then breaksF ps else if k = 8 ∧ n ≤ a then resolveF ps a true else if (k = 8 ∨ k = 9) ∧ true = true then partF k t n (resolveF ps a true) else if k = 8 then breaksF ps
     else if k = 9 then resolveF ps a true else if k = 7 ∨ k = 10 ∨ k = 11 then partF k t n (resolveF ps a true) else .one k t n ps).app (resolveF r a true) from rfl]
    rw [resolveF_app, h2]
    rw [show resolveF (.cons k t n ps r) b adv = (if k = 9 ∧ n ≤ b then breaksF ps else if k = 8 ∧ n ≤ b then resolveF ps b adv else if (k = 8 ∨ k = 9) ∧ adv = true then partF k t n (resolveF ps b adv) else if k = 8 then breaksF ps
     else if k = 9 then resolveF ps b adv else if k = 7 ∨ k = 10 ∨ k = 11 then partF k t n (resolveF ps b adv) else .one k t n ps).app (resolveF r b adv) from rfl]
    congr 1
    -- a node whose parts have been resolved
    have key : ∀ X : Fo, X = resolveF ps a true → (¬ (k = 8 ∨ k = 9) → k = 7 ∨ k = 10 ∨ k = 11) → resolveF (partF k t n X) b adv = (if k = 9 ∧ n ≤ b then breaksF ps else if k = 8 ∧ n ≤ b then resolveF ps b adv else if (k = 8 ∨ k = 9) ∧ adv = true then partF k t n (resolveF ps b adv) else if k = 8 then breaksF ps
     else if k = 9 then resolveF ps b adv else if k = 7 ∨ k = 10 ∨ k = 11 then partF k t n (resolveF ps b adv) else .one k t n ps) := by
      intro X hX hk
      subst hX
      by_cases hl : (resolveF ps a true).len = 0
      · have e := Fo.eq_nil_of_len hl
        have e1 : resolveF ps b adv = .nil := by rw [← h1, e]; rfl
        have e2 : breaksF ps = .nil := by rw [← e0, e]; rfl
        rw [e, e1, e2]
        have e3 : partF k t n .nil = .nil := rfl
        have e4 : resolveF .nil b adv = .nil := rfl
        rw [e3, e4]
        repeat' split
        all_goals first | rfl | omega
      · have e : partF k t n (resolveF ps a true) = .one k t n (resolveF ps a true) := by unfold partF; rw [if_neg hl]
        rw [e, Fo.one]
        simp only [resolveF, Fo.app_nil, h1, e0]
        repeat' split
        all_goals first | rfl | omega
    by_cases c1 : k = 9 ∧ n ≤ a
    · rw [if_pos c1, if_pos ⟨c1.1, by omega⟩, resolve_breaks]
    rw [if_neg c1]
    by_cases c2 : k = 8 ∧ n ≤ a
    · rw [if_pos c2, if_neg (by omega), if_pos ⟨c2.1, by omega⟩, h1]
    rw [if_neg c2]
    by_cases c3 : (k = 8 ∨ k = 9)
    · rw [if_pos ⟨c3, rfl⟩]
      exact key _ rfl (fun h => absurd c3 h)
    rw [if_neg (fun h => c3 h.1), if_neg (by omega), if_neg (by omega)]
    by_cases c4 : k = 7 ∨ k = 10 ∨ k = 11
    · rw [if_pos c4]
      exact key _ rfl (fun _ => c4)
    · rw [if_neg c4]
      simp only [Fo.one, resolveF, Fo.app_nil]
      repeat' split
      all_goals first | rfl | omega

/- resolving does not mind merging -/
theorem consM_glue {k t n ps r} : consM k t n ps r = glue (consM k t n ps .nil) r := by
  have := glue_snoc .nil k t n ps r
  rw [glue_nil] at this
  rw [← this]
  have h2 := glue_snoc .nil k t n ps .nil
  rw [glue_nil] at h2
  rw [← h2]; rfl
theorem merge_part {k t n X Y} (h : mergeR X = mergeR Y) (h0 : X = .nil ↔ Y = .nil) : mergeR (partF k t n X) = mergeR (partF k t n Y) := by
  unfold partF
  simp only [len_zero]
  by_cases hx : X = .nil
  · rw [if_pos hx, if_pos (h0.1 hx)]
  · rw [if_neg hx, if_neg (fun hy => hx (h0.2 hy))]
    simp only [Fo.one, mergeR, h]
theorem resolve_merge (hand : Int) (adv : Bool) : ∀ {w : Bool} {f : Fo}, okF w f → tlen f ≤ 65536 → mergeR (resolveF (mergeR f) hand adv) = mergeR (resolveF f hand adv)
  | _, .nil, _, _ => rfl
  | w, .cons k t n ps r, h, hl => by
    have hl' := hl
    simp only [tlen] at hl
    have i2 := resolve_merge hand adv h.2.1 (by omega)
    have i3 := resolve_merge hand adv h.2.2 (by omega)
    have m3 := merge_ok h.2.2 (by omega)
    have eb := breaks_merge h.2.1 (by omega)
    have o1 := resolve_ok hand adv (merge_ok h.2.1 (by omega))
    have o2 := resolve_ok hand adv h.2.1
    have hnil : resolveF (mergeR ps) hand adv = .nil ↔ resolveF ps hand adv = .nil := by rw [← merge_nil o1, ← merge_nil o2, i2]
    by_cases hk : k = 1
    · subst hk
      obtain ⟨ht, rfl, hps, _⟩ := single_text h.1
      subst hps
      have e1 : ∀ (t : List UInt8) (n : Int) (q r : Fo), resolveF (.cons 1 t n q r) hand adv = .cons 1 t n q (resolveF r hand adv) := fun t n q r => by simp [resolveF, Fo.one]
      rw [e1]
      simp only [mergeR]
      rw [← i3]
      generalize mergeR r = g at m3
      unfold consM
      rw [if_pos rfl, if_neg ht, if_pos rfl, if_neg ht]
      cases g with
      | nil => simp [e1, mergeR, resolveF, consM, ht, Fo.one]
      | cons k' t' n' ps' r' =>
        simp only
        by_cases hk' : k' = 1
        · subst hk'
          obtain ⟨ht', rfl, hps', _⟩ := single_text m3.1
          subst hps'
          simp only [if_true, e1, mergeR]
          unfold consM
          simp only [if_true, ht', if_false, List.append_eq_nil_iff, ht, false_and]
          cases mergeR (resolveF r' hand adv) with
          | nil => simp
          | cons k2 t2 n2 ps2 r2 =>
            simp only
            by_cases hk2 : k2 = 1
            · simp [hk2]
            · simp [hk2]
        · rw [if_neg hk', e1]
          simp [mergeR, consM, ht]
    · have e : mergeR (.cons k t n ps r) = .cons k t n (mergeR ps) (mergeR r) := by simp only [mergeR]; exact consM_ne hk
      rw [e]
      simp only [resolveF]
      rw [mergeR_app, mergeR_app, i3]
      congr 1
      rw [eb]
      by_cases c1 : k = 9 ∧ n ≤ hand
      · rw [if_pos c1, if_pos c1]
      rw [if_neg c1, if_neg c1]
      by_cases c2 : k = 8 ∧ n ≤ hand
      · rw [if_pos c2, if_pos c2, i2]
      rw [if_neg c2, if_neg c2]
      by_cases c3 : (k = 8 ∨ k = 9) ∧ adv = true
      · rw [if_pos c3, if_pos c3]; exact merge_part i2 hnil
      rw [if_neg c3, if_neg c3]
      by_cases c4 : k = 8
      · rw [if_pos c4, if_pos c4]
      rw [if_neg c4, if_neg c4]
      by_cases c5 : k = 9
      · rw [if_pos c5, if_pos c5, i2]
      rw [if_neg c5, if_neg c5]
      by_cases c6 : k = 7 ∨ k = 10 ∨ k = 11
      · rw [if_pos c6, if_pos c6]; exact merge_part i2 hnil
      rw [if_neg c6, if_neg c6]
      have hok := single_ok h.1
      have hp : partsF k = false := by have := hok.1; have := hok.2.1; unfold partsF; simp; omega
      have e' := Fo.eq_nil_of_len (hok.2.2.2.2.1 hp)
      subst e'; rfl
/- HandsSteps, the plain law -/
theorem steps_law {f : Fo} (h : FineF f) (a b : Int) (hab : a ≤ b) (adv : Bool) : mergeF (resolveF (mergeF (resolveF f a true)) b adv) = mergeF (resolveF f b adv) := by
  have := h.tl
  have h2 := tlen_resolve f a true
  rw [mergeF_eq, mergeF_eq, mergeF_eq, resolve_merge b adv (resolve_ok a true h.ok) (by omega), resolve_resolve a b hab]
end Go.Proofs
namespace Go.Proofs
open Go Go.Sh Go.RowKit

theorem mod9 {x : Int} (h0 : 0 ≤ x) (h1 : x < 256) : IntKind.i64.wrap x = x ∧ 0 ≤ x.tmod 9 ∧ x.tmod 9 ≤ 8 := by
  refine ⟨wrap_id (by omega), ?_, ?_⟩
  · exact Int.tmod_nonneg _ h0
  · have := Int.tmod_lt_of_pos x (show (0:Int) < 9 by decide); omega

theorem breaks_small {f : Fo} (h : f.size ≤ 24) : small (breaksF f) := by have := breaksF_size f; unfold small; omega
theorem FineF.breaks {f : Fo} (h : FineF f) (hand : Int) (adv : Bool) : breaksF (mergeF (resolveF f hand adv)) = breaksF f := by
  have := h.tl
  have h2 := tlen_resolve f hand adv
  rw [mergeF_eq, breaks_merge (resolve_ok hand adv h.ok) (by omega), breaks_resolve]
end Go.Proofs
namespace Go.Sh
open Go Go.RowKit
/- appending one element to a slice variable that lies in a block of its own: the new element and the variable are laid in either order -/
theorem putAt_get : ∀ (vs cs : List Value) (o i : Nat), (putAt cs o vs)[i]? = if o ≤ i ∧ i < o + vs.length ∧ i < cs.length then vs[i - o]? else cs[i]?
  | [], cs, o, i => by
    rw [if_neg (by simp; omega)]; rfl
  | v :: vs, cs, o, i => by
    rw [putAt, putAt_get vs (cs.set o v) (o + 1) i]
    simp only [List.length_set, List.length_cons]
    by_cases h1 : o + 1 ≤ i ∧ i < o + 1 + vs.length ∧ i < cs.length
    · rw [if_pos h1, if_pos (by omega), show i - o = (i - (o + 1)) + 1 by omega, List.getElem?_cons_succ]
    · rw [if_neg h1]
      by_cases h2 : i = o
      · subst h2
        by_cases h3 : i < cs.length
        · rw [if_pos (by omega)]; simp [h3]
        · rw [if_neg (by omega)]; rw [List.getElem?_eq_none (by simp; omega), List.getElem?_eq_none (by omega)]
      · rw [List.getElem?_set_ne (Ne.symm h2)]
        rw [if_neg (by omega)]
theorem putAt_last {cs xs zs vs : List Value} {m : Nat} (h : cs.take m = xs ++ zs) (hl : zs.length = vs.length) (hm : xs.length + vs.length = m) (hc : m ≤ cs.length) : (putAt cs xs.length vs).take m = xs ++ vs := by
  apply List.ext_getElem?
  intro i
  have hp := putAt_get vs cs xs.length i
  have hg : i < m → cs[i]? = (xs ++ zs)[i]? := fun hi => by rw [← h, List.getElem?_take, if_pos hi]
  rw [List.getElem?_take]
  by_cases hi : i < m
  · rw [if_pos hi, hp]
    by_cases h1 : xs.length ≤ i
    · rw [if_pos ⟨h1, by omega, by omega⟩, List.getElem?_append_right h1]
    · rw [if_neg (by omega), hg hi, List.getElem?_append_left (by omega), List.getElem?_append_left (by omega)]
  · rw [if_neg hi, List.getElem?_eq_none (by simp; omega)]

theorem Owns.storeLast {w : World} {B : Nat} {e : TypeId} {size : Nat} {a : Option Addr} {n c : Nat} {xs zs vs : List Value} (h : Owns w B e size a (n + 1) c (xs ++ zs)) (hz : zs.length = size) (hv : vs.length = size) (h1 : ∀ v ∈ vs, v.oneCell' = true) :
    ∃ g : Nat, a = some ⟨g, 0, none⟩ ∧ (∀ K : Addr → Prop, K ⟨g, n * size, none⟩ → idx a (n + 1) (n : Int) size K) ∧
      ∀ K : World → Prop, (∀ w', Owns w' B e size a (n + 1) c (xs ++ vs) → Chg (Sh.bk a) w w' → w'.heap.size = w.heap.size → K w') → stL w ⟨g, n * size, none⟩ 0 vs K := by
  have hl := h.1
  simp only [List.length_append, hz, Nat.add_mul, Nat.one_mul] at hl
  rcases h.2 with h | ⟨g, cap, cur, e1, e2, e3, e4, e5, e6, e7⟩
  · omega
  obtain ⟨rfl, _, rfl⟩ : a = some ⟨g, 0, none⟩ ∧ True ∧ c = cap := by simpa using e1
  have hB : Blk w g cur.toList e := e3
  have hcl : cur.toList.length = c * size := by simpa using e6
  have hxl : (n + 1) * size ≤ cur.toList.length := by rw [hcl]; exact Nat.mul_le_mul_right _ e4
  have hxe : xs.length = n * size := by omega
  refine ⟨g, rfl, fun K hK => ⟨by omega, by omega, ?_⟩, fun K hK => ?_⟩
  · show K _
    rw [add_none, Int.toNat_natCast, Nat.zero_add]; exact hK
  refine stL_blk hB (by rw [hv]; have : (n + 1) * size = n * size + size := by rw [Nat.add_mul, Nat.one_mul]
                        omega) h1 fun w' b1 b2 b3 b4 b5 b6 => ?_
  have hc : Chg (Sh.bk (some (⟨g, 0, none⟩ : Addr))) w w' := ⟨b4, b5, b6, by omega, fun k' _ hk => b2 k' fun e => hk (by simp [Sh.bk, e])⟩
  refine hK w' ⟨by simp only [List.length_append, hv, Nat.add_mul, Nat.one_mul]; omega, .inr ⟨g, c, ⟨_⟩, rfl, e2, b1, e4, e5, ?_, ?_⟩⟩ hc b3
  · have := putAt_length vs cur.toList (n * size + 0)
    simp only [List.size_toArray]; rw [this]; exact hcl
  · show (putAt cur.toList (n * size + 0) vs).take _ = _
    rw [Nat.add_zero, ← hxe]
    refine putAt_last e7 (by omega) ?_ hxl
    rw [hxe, hv, Nat.add_mul, Nat.one_mul]

theorem app_cap {P : Program} {t ty e : TypeId} {size bytes : Nat} {z : Value} (hT : SlT P t e size bytes z) {B : Nat} {a : Option Addr} {n c : Nat} {xs : List Value} {w : World} {b : Nat} {Tv : TypeId}
    (hown : Owns w B e size a n c xs) (hB : B ≤ w.heap.size) (hb : Blk w b [.slice a n c] Tv) (hnb : ¬ Sh.bk a b) (zc vs : List Value) (hzc : zc.length = size) (hz1 : ∀ u ∈ zc, u.oneCell' = true) (hvs : vs.length = size) (hv1 : ∀ u ∈ vs, u.oneCell' = true)
    (hlen : n + 1 ≤ 4611686018427387904) (hbytes : (n + 1) * bytes ≤ 140737488355328) {K : World → Prop}
    (hk : ∀ a' c' w', Blk w' b [.slice a' (n + 1) c'] Tv → Owns w' B e size a' (n + 1) c' (xs ++ vs) → Chg (fun k => k = b ∨ Sh.bk a k) w w' → (∀ k, Sh.bk a' k → Sh.bk a k ∨ w.heap.size ≤ k) → K w') :
    al w e zc fun p w1 => (app P [t, t] ty (.slice a n c) (.slice (some p) 1 1) w1 fun a' n' c' w2 => idx a' n' (n : Int) size fun q =>
      (stL w2 q 0 vs fun w3 => (dr (some ⟨b, 0, none⟩) fun r => stL w3 r 0 [.slice a' n' c'] fun w4 => K w4) ∧ True) ∧
      (dr (some ⟨b, 0, none⟩) fun r => stL w2 r 0 [.slice a' n' c'] fun w3 => (stL w3 q 0 vs fun w4 => K w4) ∧ True) ∧ True) ∧ True := by
  have key : al w e zc fun p w1 => (app P [t, t] ty (.slice a n c) (.slice (some p) 1 1) w1 fun a' n' c' w2 => idx a' n' (n : Int) size fun q =>
      (stL w2 q 0 vs fun w3 => (dr (some ⟨b, 0, none⟩) fun r => stL w3 r 0 [.slice a' n' c'] fun w4 => K w4) ∧ True) ∧
      (dr (some ⟨b, 0, none⟩) fun r => stL w2 r 0 [.slice a' n' c'] fun w3 => (stL w3 q 0 vs fun w4 => K w4) ∧ True) ∧ True) := by
    refine app_one2 hT hown hB zc hzc hz1 hlen hbytes fun a' c' w2 ho hc hn => ?_
    have l := hb.lt
    have hb2 : Blk w2 b [.slice a n c] Tv := hc.blk hb hnb
    have nb' : ¬ Sh.bk a' b := fun hh => (hn b hh).elim hnb (by omega)
    obtain ⟨g, ha, hidx, hst⟩ := ho.storeLast (vs := vs) hzc hvs hv1
    have sub : ∀ k, k < w.heap.size → Sh.bk a' k → Sh.bk a k := fun k hk hb' => (hn k hb').elim id (by omega)
    have tot : ∀ {S1 S2 : Nat → Prop} {w3 w4 : World}, Chg S1 w2 w3 → Chg S2 w3 w4 → (∀ k, S1 k → k = b ∨ Sh.bk a' k) → (∀ k, S2 k → k = b ∨ Sh.bk a' k) → Chg (fun k => k = b ∨ Sh.bk a k) w w4 := by
      intro S1 S2 w3 w4 c3 c4 h3 h4
      have z := hc.size
      have z3 := c3.size
      refine ⟨c4.os.trans (c3.os.trans hc.os), c4.tape.trans (c3.tape.trans hc.tape), c4.output.trans (c3.output.trans hc.output), Nat.le_trans z (Nat.le_trans z3 c4.size), fun k hk hn' => ?_⟩
      have no : ¬ (k = b ∨ Sh.bk a' k) := fun hh => hn' (hh.imp id (sub k hk))
      exact (c4.block k (by omega) fun hh => no (h4 k hh)).trans ((c3.block k (by omega) fun hh => no (h3 k hh)).trans (hc.block k hk fun hh => hn' (.inr hh)))
    refine hidx _ ⟨?_, ?_, trivial⟩
    · refine hst _ fun w3 ho3 hc3 z3 => ⟨?_, trivial⟩
      show stL w3 ⟨b, 0, none⟩ 0 [.slice a' (n + 1) c'] K
      refine stL_blk (cs := [.slice a n c]) (T := Tv) (hc3.blk hb2 nb') (by simp) (by intro u hu; simp only [List.mem_singleton] at hu; subst hu; rfl) fun w4 b1 b2 b3 b4 b5 b6 => ?_
      have hc4 : Chg (fun k => k = b) w3 w4 := ⟨b4, b5, b6, by omega, fun k' _ hk => b2 k' hk⟩
      exact hk a' c' w4 b1 (ho3.chg hc4 fun k hk he => nb' (he ▸ hk)) (tot hc3 hc4 (fun k h => .inr h) fun k h => .inl h) hn
    · show stL w2 ⟨b, 0, none⟩ 0 [.slice a' (n + 1) c'] _
      refine stL_blk (cs := [.slice a n c]) (T := Tv) hb2 (by simp) (by intro u hu; simp only [List.mem_singleton] at hu; subst hu; rfl) fun w3 b1 b2 b3 b4 b5 b6 => ⟨?_, trivial⟩
      have hc3 : Chg (fun k => k = b) w2 w3 := ⟨b4, b5, b6, by omega, fun k' _ hk => b2 k' hk⟩
      obtain ⟨g', ha', _, hst'⟩ := (ho.chg hc3 fun k hk he => nb' (he ▸ hk)).storeLast (vs := vs) hzc hvs hv1
      obtain rfl : g' = g := by rw [ha] at ha'; simpa using ha'.symm
      refine hst' _ fun w4 ho4 hc4 z4 => ?_
      exact hk a' c' w4 (hc4.blk b1 nb') ho4 (tot hc3 hc4 (fun k h => .inl h) fun k h => .inr h) hn
  exact ⟨key, trivial⟩
end Go.Sh
namespace Go.Proofs
open Go Go.Sh Go.RowKit

def corrN (x : Nn) : Bool := decide (x.k = 8 ∨ x.k = 9)
def mostN (l : List Nn) : Int := l.foldl (fun m x => if x.k = 8 ∨ x.k = 9 then max m x.n else m) 0
theorem mostN_snoc (l : List Nn) (x : Nn) : mostN (l ++ [x]) = if x.k = 8 ∨ x.k = 9 then max (mostN l) x.n else mostN l := by simp [mostN]
theorem Ext.upd {w W1 W2 : World} {l : Nat} (h : Ext w W1) (hU : Upd l W1 W2) (hl : w.heap.size ≤ l) : Ext w W2 := ext_chg h (upd_chg hU hl) (Nat.le_refl _)

end Go.Proofs
namespace Go.Proofs
open Go Go.Sh Go.RowKit

def RowsN : List Nn → List Value → Prop
  | [], xs => xs = []
  | x :: l, xs => ∃ a m c xs', xs = .int .i64 x.k :: .string ⟨⟨x.t⟩⟩ :: .int .i64 x.n :: .slice a m c :: xs' ∧ RowsN l xs'
theorem RowsN.snoc {x : Nn} {a : Option Addr} {m c : Nat} : ∀ {l : List Nn} {xs : List Value}, RowsN l xs → RowsN (l ++ [x]) (xs ++ [.int .i64 x.k, .string ⟨⟨x.t⟩⟩, .int .i64 x.n, .slice a m c])
  | [], xs, h => by cases h; exact ⟨a, m, c, [], rfl, rfl⟩
  | y :: l, xs, ⟨a', m', c', xs', e, h⟩ => by subst e; exact ⟨a', m', c', _, rfl, RowsN.snoc h⟩
theorem RowsN.get {x : Nn} : ∀ {l : List Nn} {xs : List Value} {i : Nat}, RowsN l xs → l[i]? = some x →
    ∃ a m c, xs[4 * i]? = some (.int .i64 x.k) ∧ xs[4 * i + 1]? = some (.string ⟨⟨x.t⟩⟩) ∧ xs[4 * i + 2]? = some (.int .i64 x.n) ∧ xs[4 * i + 3]? = some (.slice a m c)
  | [], xs, i, _, hi => by simp at hi
  | y :: l, xs, 0, ⟨a, m, c, xs', e, h⟩, hi => by
    simp at hi; subst hi; subst e
    exact ⟨a, m, c, rfl, rfl, rfl, rfl⟩
  | y :: l, xs, i + 1, ⟨a, m, c, xs', e, h⟩, hi => by
    subst e
    simp at hi
    obtain ⟨a', m', c', h0, h1, h2, h3⟩ := RowsN.get h hi
    exact ⟨a', m', c', h0, h1, h2, h3⟩

end Go.Proofs
namespace Go.Proofs
open Go Go.Sh Go.RowKit

def clean : Fo → Prop
  | .nil => True
  | .cons k _ _ ps r => ¬ (k = 8 ∨ k = 9) ∧ clean ps ∧ clean r
theorem nodesF_app : ∀ f g : Fo, nodesF (f.app g) = nodesF f ++ nodesF g
  | .nil, g => rfl
  | .cons k t n ps r, g => by simp [nodesF, nodesF_app r]
theorem clean_app : ∀ {f g : Fo}, clean (f.app g) ↔ clean f ∧ clean g
  | .nil, g => by simp [clean]
  | .cons k t n ps r, g => by simp only [Fo.cons_app, clean, clean_app (f := r), and_assoc]
theorem clean_any : ∀ f : Fo, clean f ↔ (nodesF f).any corrN = false
  | .nil => by simp [clean, nodesF]
  | .cons k t n ps r => by
    simp only [clean, nodesF, List.any_cons, List.any_append, Bool.or_eq_false_iff, clean_any ps, clean_any r]
    rw [show corrN ⟨k, t, n, ps⟩ = false ↔ ¬ (k = 8 ∨ k = 9) by simp [corrN]]
theorem clean_breaks : ∀ {f : Fo}, good f → clean (breaksF f)
  | .nil, _ => trivial
  | .cons k t n ps r, ⟨h1, h2, h3⟩ => by
    simp only [breaksF, clean_app]
    refine ⟨?_, clean_breaks h3⟩
    split
    · rename_i hb
      have hk : k = 2 ∨ k = 3 ∨ k = 4 := by simpa [brkF] using hb
      have := Fo.eq_nil_of_len (h1.2.2.2.2.1 (by unfold partsF; simp; omega))
      subst this
      exact ⟨by omega, trivial, trivial⟩
    · exact clean_breaks h2
theorem clean_part {k t n ps} (h : ¬ (k = 8 ∨ k = 9)) (hp : clean ps) : clean (partF k t n ps) := by
  unfold partF
  split
  · trivial
  · exact ⟨h, hp, trivial⟩
theorem clean_resolve (hand : Int) : ∀ {f : Fo}, good f → clean (resolveF f hand false)
  | .nil, _ => trivial
  | .cons k t n ps r, ⟨h1, h2, h3⟩ => by
    have i2 := clean_resolve hand h2
    have ib := clean_breaks h2
    simp only [resolveF, clean_app]
    refine ⟨?_, clean_resolve hand h3⟩
    split
    · exact ib
    split
    · exact i2
    split
    · rename_i h; simp at h
    split
    · exact ib
    split
    · exact i2
    split
    · exact clean_part (by omega) i2
    · have hp : partsF k = false := by have := h1.1; have := h1.2.1; unfold partsF; simp; omega
      have := Fo.eq_nil_of_len (h1.2.2.2.2.1 hp)
      subst this
      exact ⟨by omega, trivial, trivial⟩
theorem clean_consM {k t n ps r} (h : ¬ (k = 8 ∨ k = 9)) (hp : clean ps) (hr : clean r) : clean (consM k t n ps r) := by
  unfold consM
  split
  · split
    · exact hr
    · split
      · exact ⟨h, hp, trivial⟩
      · split
        · exact ⟨h, hp, hr.2.2⟩
        · exact ⟨h, hp, hr⟩
  · exact ⟨h, hp, hr⟩
theorem clean_merge : ∀ {f : Fo}, clean f → clean (mergeR f)
  | .nil, _ => trivial
  | .cons k t n ps r, ⟨h1, h2, h3⟩ => clean_consM h1 (clean_merge h2) (clean_merge h3)
theorem resolve_clean (hand : Int) (adv : Bool) : ∀ {f : Fo}, good f → clean f → resolveF f hand adv = f
  | .nil, _, _ => rfl
  | .cons k t n ps r, ⟨g1, g2, g3⟩, ⟨h1, h2, h3⟩ => by
    simp only [resolveF, resolve_clean hand adv g2 h2, resolve_clean hand adv g3 h3]
    rw [if_neg (by omega), if_neg (by omega), if_neg (by omega), if_neg (by omega), if_neg (by omega)]
    split
    · rename_i h
      have := g1.2.2.2.2.2 (by unfold partsF; simp; omega)
      unfold partF
      rw [if_neg (by omega)]; rfl
    · rfl
theorem most_clean {f : Fo} (h : clean f) : mostN (nodesF f) = 0 := by
  have ha := (clean_any f).1 h
  generalize nodesF f = l at ha
  suffices ∀ m, l.foldl (fun m (x : Nn) => if x.k = 8 ∨ x.k = 9 then max m x.n else m) m = m from this 0
  induction l with
  | nil => exact fun m => rfl
  | cons x l ih =>
    intro m
    simp only [List.any_cons, Bool.or_eq_false_iff] at ha
    have : ¬ (x.k = 8 ∨ x.k = 9) := by simpa [corrN] using ha.1
    simp only [List.foldl_cons, if_neg this]
    exact ih ha.2 m
theorem FineF.clean {f : Fo} (h : FineF f) (hand : Int) : clean (mergeF (resolveF f hand false)) := by
  rw [mergeF_eq]; exact clean_merge (clean_resolve hand (okF_good h.ok))
theorem FineF.again {f : Fo} (h : FineF f) (hc : Proofs.clean f) (hand : Int) (adv : Bool) : mergeF (resolveF f hand adv) = f := by
  rw [resolve_clean hand adv (okF_good h.ok) hc, mergeF_eq]; exact merge_same h.ok h.m

end Go.Proofs
