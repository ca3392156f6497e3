/- The contracts of the functions that the law reaches, one after the other, and at the end the law's card. -/
import Derived.Test.YtieeggfkfgmdgaaGreatDoorLawB
import Derived.Deep.Slices
import Derived.Lib.Repeat
import Derived.Lib.AppendZerosOnto
import Derived.Maps.Own
import Derived.DeepKeys4
import Derived.Lib.AtoiAll
import Derived.Lib.ItoaNum
import Derived.Lib.IndexAny
import Derived.Lib.IndexMore
import Derived.Lib.Strings
import Derived.Laws.Runes
import Derived.Laws.RangeString
import Derived.Laws.Strings3
import Derived.Scope
import Derived.WalkMore
import Derived.LoopN
import Derived.WalkSmall
import Derived.Deep.QuietTactic
import Derived.BigQuiet
import Derived.Lib.IndexBytes
import Derived.Deep.LoopGhost
import Derived.Lib.OthersKept
import Derived.Laws.RangeAny
import Derived.Lib.SmallJoins
import Derived.Carry
import Derived.ChangeSame
import Derived.RowKit
import Derived.OpenShut
namespace Go.Proofs
open Go Go.Sh Go.RowKit

def eachR (rep : Int → List UInt8 → Int → Fo → Fo → Fo) : Fo → Fo
  | .nil => .nil
  | .cons k t n ps r => (if k = 8 ∨ k = 9 then rep k t n ps (eachR rep ps) else if 0 < ps.len then partF k t n (eachR rep ps) else .one k t n ps).app (eachR rep r)
theorem eachR_app (rep) (f g : Fo) : eachR rep (f.app g) = (eachR rep f).app (eachR rep g) := by
  induction f with
  | nil => rfl
  | cons k t n ps r _ ih => simp only [Fo.cons_app, eachR, ih, Fo.app_assoc]
theorem eachR_size {rep : Int → List UInt8 → Int → Fo → Fo → Fo} (hrs : ∀ k t n ps ps', ps'.size ≤ ps.size → (rep k t n ps ps').size ≤ ps.size + 1) : ∀ f : Fo, (eachR rep f).size ≤ f.size
  | .nil => Nat.le_refl _
  | .cons k t n ps r => by
    have h1 := eachR_size hrs ps
    have h2 := eachR_size hrs r
    have h3 := hrs k t n ps _ h1
    have h4 := partF_size k t n (eachR rep ps)
    simp only [eachR, Fo.size_app, Fo.size]
    split
    · omega
    split
    · omega
    · simp [Fo.one, Fo.size]; omega

theorem correction_spec {R : Ending → World → Prop} {w : World} (k : Int) (t : List UInt8) (n : Int) (a : Option Addr) (m c : Nat) (h : ∀ w', Ext w w' → R (.returned (.bool (decide (k = 8 ∨ k = 9)))) w') :
    Calls Tryz.prog F_hands_correction ⟨[.agg ⟨[.int .i64 k, .string ⟨⟨t⟩⟩, .int .i64 n, .slice a m c]⟩]⟩ w R := by
  apply c_hands_correction
  refine al_intro fun b w1 hb hB e1 s1 => ?_
  obtain ⟨x0, x1, x2, x3⟩ := blk4 hB
  refine ⟨k, x0, br_split (fun g => ?_) (fun g => ⟨k, x0, ?_⟩)⟩
  · have := h _ e1; rw [decide_eq_true (.inl g)] at this; exact this
  · have := h _ e1; simp only [g, false_or] at this; exact this

/- what calling the function of the parts gives -/
def PartsOK (pf : Value) (W : World) (S : Nat → Prop) (g : Fo) : Prop :=
  ∀ (W' : World) (R' : Ending → World → Prop), Ext W W' → (∀ a n c W'', SlF (fun k => S k ∨ W'.heap.size ≤ k) W'' a n g → Ext W' W'' → R' (.returned (.slice a n c)) W'') → CallV Tryz.prog pf [] W' R'
def RepOK (rep : Int → List UInt8 → Int → Fo → Fo → Fo) (rv : Value) (w0 : World) : Prop :=
  ∀ (W : World) (S : Nat → Prop) (R' : Ending → World → Prop) (k : Int) (t : List UInt8) (n : Int) (a : Option Addr) (c : Nat) (ps : Fo) (pf : Fn) (pa pb : Array Value), Ext w0 W → nodeOk k t n ps → good ps → ps.size ≤ 1000000000 → (k = 8 ∨ k = 9) → (∀ j, S j → j < W.heap.size) → SlF S W a ps.len ps →
    PartsOK (.func pf pa pb) W S (eachR rep ps) → (∀ a' n' c' W', SlF (fun k => S k ∨ W.heap.size ≤ k) W' a' n' (rep k t n ps (eachR rep ps)) → Ext W W' → R' (.returned (.slice a' n' c')) W') →
    CallV Tryz.prog rv [.agg ⟨[.int .i64 k, .string ⟨⟨t⟩⟩, .int .i64 n, .slice a ps.len c]⟩, .func pf pa pb] W R'

set_option maxRecDepth 20000 in
theorem each_spec {rep : Int → List UInt8 → Int → Fo → Fo → Fo} (hrs : ∀ k t n ps ps', ps'.size ≤ ps.size → (rep k t n ps ps').size ≤ ps.size + 1) {rf : Fn} {ra rb : Array Value} {w0 : World} (hrep : RepOK rep (.func rf ra rb) w0) {t1 t2 : Nat}
    (hB1 : Blk w0 t1 [.func rf ra rb] 168) (hB2 : Blk w0 t2 [.func (.func 174) ⟨[]⟩ ⟨[.pointer (some ⟨t1, 0, none⟩), .pointer (some ⟨t2, 0, none⟩)]⟩] 197) :
    ∀ (f : Fo) {R : Ending → World → Prop} {S : Nat → Prop} {w : World} {a : Option Addr} {n c : Nat}, f.size ≤ 1000000000 → good f → Ext w0 w → SlF S w a n f →
    (∀ a' n' c' w', SlF (fun k => S k ∨ w.heap.size ≤ k) w' a' n' (eachR rep f) → Ext w w' → R (.returned (.slice a' n' c')) w') → Calls Tryz.prog F_hands_rebuilt_1 ⟨[.slice a n c, .pointer (some ⟨t1, 0, none⟩), .pointer (some ⟨t2, 0, none⟩)]⟩ w R := by
  intro f
  induction hz : f.size using Nat.strongRecOn generalizing f with
  | _ z ih =>
  intro R S w a n c hs hg hw0 hf0 h
  apply c_hands_rebuilt_1
  have hn := hf0.1
  have hfl := f.len_le_size
  have hf : SlF (fun k => S k ∧ k < w.heap.size) w a n f := hf0.imp fun k hk hl => ⟨hk, hl⟩
  refine ⟨fun oa on oc i W m => ∃ (p r out : Fo), f = p.app r ∧ i = p.len ∧ m = r.len ∧ OwnF 64 (fun k => S k ∧ k < w.heap.size) w.heap.size W oa on oc out ∧ out = eachR rep p ∧ Ext w W,
    ⟨_, .nil, f, .nil, rfl, rfl, rfl, OwnF.nil w, rfl, Below.refl _ _⟩, ?_⟩
  rintro oa on oc _ W m ⟨p, r, out, hpr, rfl, rfl, hout, rfl, he⟩ _
  have hon := hout.len
  have hwW := he.size
  refine br_split (fun hlt => ?_) (fun hge => ?_)
  · obtain ⟨k, t, mm, ps, r, rfl⟩ := Fo.next hpr (by omega)
    have hsl := Fo.sub_len hpr
    have hsz := Fo.sub_size hpr
    have hss : f.size = p.size + (ps.size + r.size + 1) := by rw [hpr, Fo.size_app]; rfl
    have hgg := hg
    rw [hpr, good_app] at hgg
    obtain ⟨hgp, hok, hgs, hgr⟩ := hgg
    have rl := (eachR rep p).len_le_size
    have rs := eachR_size hrs p
    have rs2 := eachR_size hrs ps
    have rs3 := hrs k t mm ps _ rs2
    have rl3 := (rep k t mm ps (eachR rep ps)).len_le_size
    have e1 : f = (p.app (.one k t mm ps)).app r := by rw [Fo.app_one_app]; exact hpr
    have i1 : IntKind.i64.wrap ((p.len : Int) + 1) = ((p.app (.one k t mm ps)).len : Int) := by rw [wrap_nat (by omega)]; simp [Fo.one]
    have p1 : eachR rep (p.app (.one k t mm ps)) = (eachR rep p).app (eachR rep (.one k t mm ps)) := eachR_app _ _ _
    obtain ⟨q, a', c', hq, hSq, hql, hN⟩ := (hf.ext he).get hpr
    refine hq _ ⟨k, hN.kind, t, hN.text, mm, hN.num, a', ps.len, c', hN.parts, ?_⟩
    refine al_stL (by simp) (by intro u hu; simp only [List.mem_cons, List.not_mem_nil, or_false] at hu; rcases hu with rfl | rfl | rfl | rfl <;> rfl) fun bx w1 hbx hBx e2 s2 => ?_
    obtain ⟨x0, x1, x2, x3⟩ := blk4 hBx
    have E1 := ext_trans he e2
    have z2 := e2.size
    refine ⟨k, x0, t, x1, mm, x2, a', ps.len, c', x3, correction_spec k t mm a' ps.len c' fun w3 e3 => ⟨_, rfl, ?_⟩⟩
    have E3 := ext_trans E1 e3
    have EW3 := ext_trans e2 e3
    have E03 := ext_trans hw0 E3
    have hBx3 := hBx.ext e3
    obtain ⟨y0, y1, y2, y3⟩ := blk4 hBx3
    have hsx := hN.sl.ext EW3
    have z3 := EW3.size
    have fin : ∀ (g : Fo) {a3 : Option Addr} {n3 c3 : Nat} {w4 : World}, g = eachR rep (.one k t mm ps) → g.len ≤ 1000000001 → SlF (fun j => (S j ∧ j < w.heap.size) ∨ w3.heap.size ≤ j) w4 a3 n3 g → Ext w3 w4 →
        app Tryz.prog [22, 22] 22 (.slice oa on oc) (.slice a3 n3 c3) w4 fun a' n' c' w' => ∃ m55 : Nat, m55 < (Fo.cons k t mm ps r).len ∧ ∃ (p' r' out : Fo), f = p'.app r' ∧ IntKind.i64.wrap ((p.len : Int) + 1) = p'.len ∧ m55 = r'.len ∧ OwnF 64 (fun k => S k ∧ k < w.heap.size) w.heap.size w' a' n' c' out ∧ out = eachR rep p' ∧ Ext w w' := by
      intro g a3 n3 c3 w4 hgq hgl hsl3 e4
      have z4 := e4.size
      have hn3 := hsl3.1
      refine OwnF.pushAll slT_node (hout.ext (ext_trans EW3 e4)) (by omega) (own_parts hsl3 (fun j hj => hj.2) hout (by omega) (by omega)) (by omega) (by omega) fun a5 n5 c5 w5 ho5 hc5 => ?_
      exact ⟨r.len, by simp, _, r, _, e1, i1, rfl, ho5, by rw [p1, hgq], ext_chgS (ext_trans E3 e4) hc5 fun j hj => (hout.bk hj).1⟩
    refine br_split (fun g => ?_) (fun g => ?_)
    · refine dr_ok ⟨_, _, _, by rw [(hB1.ext E03).cell]; rfl, k, y0, t, y1, mm, y2, a', ps.len, c', y3, ?_⟩
      refine hrep w3 (fun j => S j ∧ j < w.heap.size) _ k t mm a' c' ps _ _ _ E03 hok hgs (by omega) g (fun j hj => by have := hj.2; omega) hsx ?_ fun a4 n4 c4 w4 hsl4 e4 => ⟨_, _, _, rfl, fin _ (by simp only [eachR, Fo.one, if_pos g, Fo.app_nil]) (by omega) hsl4 e4⟩
      intro W' R' hE hR
      refine ⟨by kernel_rfl, ?_⟩
      apply c_hands_rebuilt_1_1
      refine dr_ok ⟨.func 174, ⟨[]⟩, ⟨[.pointer (some ⟨t1, 0, none⟩), .pointer (some ⟨t2, 0, none⟩)]⟩, by rw [((hB2.ext E03).ext hE).cell]; rfl, dr_ok ⟨a', ps.len, c', (blk4 (hBx3.ext hE)).2.2.2, by kernel_rfl, ?_⟩⟩
      exact ih _ (hz ▸ hsz) ps rfl (by omega) hgs (ext_trans E03 hE) (hsx.ext hE) fun a4 n4 c4 w4 hsl4 e4 => ⟨_, _, _, rfl, hR a4 n4 c4 w4 hsl4 e4⟩
    · refine ⟨a', ps.len, c', y3, br_split (fun g2 => ?_) (fun g2 => ⟨k, y0, t, y1, mm, y2, a', ps.len, c', y3, ?_⟩)⟩
      · have g2' : 0 < ps.len := by omega
        refine dr_ok ⟨.func 174, ⟨[]⟩, ⟨[.pointer (some ⟨t1, 0, none⟩), .pointer (some ⟨t2, 0, none⟩)]⟩, by rw [(hB2.ext E03).cell]; rfl, a', ps.len, c', y3, by kernel_rfl, ?_⟩
        refine ih _ (hz ▸ hsz) ps rfl (by omega) hgs E03 hsx fun a4 n4 c4 w4 hsl4 e4 => ⟨_, _, _, rfl, ?_⟩
        have hB4 := hBx3.ext e4
        have z4 := e4.size
        have hn4 := hsl4.1
        rw [add_none]
        refine stL_blk hB4 (by simp) (by intro u hu; simp only [List.mem_singleton] at hu; subst hu; rfl) fun w5 b1 b2 b3 b4 b5 b6 => ?_
        simp only [putAt, List.set] at b1
        have hc5 : Chg (· = bx) w4 w5 := ⟨b4, b5, b6, by omega, fun k _ hk => b2 k hk⟩
        have EW5 : Ext W w5 := ext_chgS (ext_trans EW3 e4) hc5 fun j hj => by omega
        have z5 := EW5.size
        have hp5 : SlF (fun j => (S j ∧ j < w.heap.size) ∨ w3.heap.size ≤ j) w5 a4 n4 (eachR rep ps) := hsl4.chg hc5 fun j hj he => by
          have := e3.size
          subst he; rcases hj with hj | hj <;> omega
        subst hn4
        obtain ⟨u0, u1, u2, u3⟩ := blk4 b1
        have hge : eachR rep (.one k t mm ps) = partF k t mm (eachR rep ps) := by simp only [eachR, Fo.one, if_neg g, if_pos g2', Fo.app_nil]
        have rl2 := (eachR rep ps).len_le_size
        refine ⟨a4, (eachR rep ps).len, c4, u3, br_split (fun g3 => ⟨k, u0, t, u1, mm, u2, a4, (eachR rep ps).len, c4, u3, ?_⟩) (fun g3 => ?_)⟩
        · have hpf : partF k t mm (eachR rep ps) = .one k t mm (eachR rep ps) := by unfold partF; rw [if_neg (by omega)]
          refine OwnF.push slT_node (hout.ext EW5) (by omega) (own_parts hp5 (fun j hj => hj.2) hout (by omega) (by omega)) (by omega) (by omega) fun a5 n5 c5 w6 ho5 hc6 => ?_
          exact ⟨r.len, by simp, _, r, _, e1, i1, rfl, ho5, by rw [p1, hge, hpf], ext_chgS (ext_trans he EW5) hc6 fun j hj => (hout.bk hj).1⟩
        · have hpf : partF k t mm (eachR rep ps) = .nil := by unfold partF; rw [if_pos (by omega)]
          exact ⟨r.len, by simp, _, r, _, e1, i1, rfl, hout.ext EW5, by rw [p1, hge, hpf, Fo.app_nil], ext_trans he EW5⟩
      · have hg2 : eachR rep (.one k t mm ps) = .one k t mm ps := by simp only [eachR, Fo.one, if_neg g, if_neg (show ¬ 0 < ps.len by omega)]; rfl
        refine OwnF.push slT_node (hout.ext EW3) (by omega) (hsx.imp fun j hj _ => ⟨.inl hj, fun hb => by have := (hout.bk hb).1; have := hj.2; omega⟩) (by omega) (by omega) fun a5 n5 c5 w5 ho5 hc5 => ?_
        refine ⟨r.len, by simp, _, r, _, e1, i1, rfl, ho5, by rw [p1, hg2], ext_chgS E3 hc5 fun j hj => (hout.bk hj).1⟩
  · obtain ⟨rfl, rfl⟩ := Fo.last hpr (by omega)
    exact h oa on oc W (hout.out.imp fun k hk _ => hk.imp (fun h => h.1) id) he
end Go.Proofs
namespace Go.Proofs
open Go Go.Sh Go.RowKit

def repR (hand : Int) (k : Int) (_t : List UInt8) (n : Int) (ps ps' : Fo) : Fo := if (decide (k = 8) = decide (n ≤ hand)) then ps' else breaksF ps
theorem repR_size (hand : Int) : ∀ k t n ps ps', Fo.size ps' ≤ Fo.size ps → (repR hand k t n ps ps').size ≤ ps.size + 1 := by
  intro k t n ps ps' h
  have := breaksF_size ps
  unfold repR; split <;> omega
theorem repR_ok {hand : Int} {bh : Nat} {w0 : World} (hB : Blk w0 bh [.int .i64 hand] 3) : RepOK (repR hand) (.func (.func 145) ⟨[]⟩ ⟨[.pointer (some ⟨bh, 0, none⟩)]⟩) w0 := by
  intro W S R' k t n a c ps pf pa pb hE hok hg hs hk hSl hsl hpf h
  refine ⟨by kernel_rfl, ?_⟩
  apply c_hands_resolved_1
  refine al_intro fun b w1 hb hBx e1 s1 => ?_
  obtain ⟨x0, x1, x2, x3⟩ := blk4 hBx
  have hz := e1.size
  refine ⟨k, x0, n, x2, dr_ok ⟨hand, by rw [((hB.ext hE).ext e1).cell]; rfl, br_split (fun g => ?_) (fun g => ⟨k, x0, t, x1, n, x2, a, ps.len, c, x3, ?_⟩)⟩⟩
  · refine hpf w1 _ e1 fun a4 n4 c4 w4 h4 e4 => ⟨_, _, _, rfl, h a4 n4 c4 w4 ?_ (ext_trans e1 e4)⟩
    have e : repR hand k t n ps (eachR (repR hand) ps) = eachR (repR hand) ps := by unfold repR; rw [if_pos g]
    rw [e]
    exact h4.imp fun j hj _ => hj.imp id fun h => by omega
  · refine breaksH_spec k t n a c ps hs hg (hsl.ext e1) fun a4 n4 c4 w4 h4 e4 => ⟨_, _, _, rfl, h a4 n4 c4 w4 ?_ (ext_trans e1 e4)⟩
    have e : repR hand k t n ps (eachR (repR hand) ps) = breaksF ps := by unfold repR; rw [if_neg g]
    rw [e]
    exact h4.imp fun j hj _ => hj.imp id fun h => by omega

/- rebuilt -/
theorem rebuilt_spec {rep : Int → List UInt8 → Int → Fo → Fo → Fo} (hrs : ∀ k t n ps ps', ps'.size ≤ ps.size → (rep k t n ps ps').size ≤ ps.size + 1) {rf : Fn} {ra rb : Array Value} {w : World} (hrep : RepOK rep (.func rf ra rb) w)
    (f : Fo) {R : Ending → World → Prop} {S : Nat → Prop} {a : Option Addr} {n c : Nat} (hs : f.size ≤ 1000000000) (hg : good f) (ht : tlen (eachR rep f) ≤ 4611686018427387904) (hf : SlF S w a n f)
    (h : ∀ a' n' c' w', SlF (fun k => S k ∨ w.heap.size ≤ k) w' a' n' (mergeF (eachR rep f)) → Ext w w' → R (.returned (.slice a' n' c')) w') :
    Calls Tryz.prog F_hands_rebuilt ⟨[.slice a n c, .func rf ra rb]⟩ w R := by
  apply c_hands_rebuilt
  refine al_intro fun t1 w1 ht1 hB1 e1 s1 => ?_
  refine al_intro fun t2 w2 ht2 hB2' e2' s2 => ?_
  refine stL_one hB2' rfl fun w3 hB2 hc3 hs3 => ?_
  have e2 : Ext w1 w3 := ext_chgS e2' hc3 fun k hk => by omega
  have E := ext_trans e1 e2
  have z := E.size
  have hrs' := eachR_size hrs f
  refine ⟨.func 174, ⟨[]⟩, ⟨[.pointer (some ⟨t1, 0, none⟩), .pointer (some ⟨t2, 0, none⟩)]⟩, by rw [hB2.cell]; rfl, by kernel_rfl, ?_⟩
  have hrep3 : RepOK rep (.func rf ra rb) w3 := fun W S R' k t n a c ps pf pa pb hE => hrep W S R' k t n a c ps pf pa pb (ext_trans E hE)
  refine each_spec hrs hrep3 (hB1.ext e2) hB2 f hs hg (Below.refl _ _) (hf.ext E) fun a4 n4 c4 w4 h4 e4 => ⟨_, _, _, rfl, ?_⟩
  refine Merge_spec _ (by omega) ht h4 fun a5 n5 c5 w5 h5 e5 => ⟨_, _, _, rfl, h a5 n5 c5 w5 (h5.imp fun j hj _ => ?_) (ext_trans (ext_trans E e4) e5)⟩
  have := e4.size
  rcases hj with (h | h) | h
  · exact .inl h
  · right; omega
  · right; omega
theorem resolved_spec (f : Fo) {R : Ending → World → Prop} {S : Nat → Prop} {w : World} {a : Option Addr} {n c : Nat} (hand : Int) (hs : f.size ≤ 1000000000) (hg : good f) (ht : tlen (eachR (repR hand) f) ≤ 4611686018427387904) (hf : SlF S w a n f)
    (h : ∀ a' n' c' w', SlF (fun k => S k ∨ w.heap.size ≤ k) w' a' n' (mergeF (eachR (repR hand) f)) → Ext w w' → R (.returned (.slice a' n' c')) w') :
    Calls Tryz.prog F_hands_resolved ⟨[.slice a n c, .int .i64 hand]⟩ w R := by
  apply c_hands_resolved
  refine al_intro fun bh w1 hbh hB e1 s1 => ?_
  have z := e1.size
  refine rebuilt_spec (repR_size hand) (repR_ok hB) f hs hg ht (hf.ext e1) fun a5 n5 c5 w5 h5 e5 => ⟨_, _, _, rfl, h a5 n5 c5 w5 (h5.imp fun j hj _ => hj.imp id fun h => by omega) (ext_trans e1 e5)⟩
/- the program's and the reference's are one -/
theorem each_resolve (hand : Int) : ∀ f : Fo, good f → eachR (repR hand) f = resolveF f hand false
  | .nil, _ => rfl
  | .cons k t n ps r, h => by
    have h1 := each_resolve hand ps h.2.1
    have h2 := each_resolve hand r h.2.2
    simp only [eachR, resolveF, h1, h2]
    congr 1
    by_cases g8 : k = 8
    · subst g8
      by_cases gn : n ≤ hand
      · simp [repR, gn]
      · simp [repR, gn]
    · by_cases g9 : k = 9
      · subst g9
        by_cases gn : n ≤ hand
        · simp [repR, gn]
        · simp [repR, gn]
      · simp only [g8, g9, false_and, if_false, false_or]
        obtain ⟨hk1, hk2, _, _, hp1, hp2⟩ := h.1
        by_cases gp : k = 7 ∨ k = 10 ∨ k = 11
        · rw [if_pos gp, if_pos (hp2 (by unfold partsF; simp; omega))]
        · rw [if_neg gp, if_neg (by have := hp1 (by unfold partsF; simp; omega); omega)]
end Go.Proofs
namespace Go.Proofs
open Go Go.Sh Go.RowKit

theorem tlen_good : ∀ f : Fo, good f → tlen f ≤ 65536 * f.size
  | .nil, _ => by simp [tlen]
  | .cons k t n ps r, h => by
    have h1 := tlen_good ps h.2.1
    have h2 := tlen_good r h.2.2
    have h3 := h.1.2.2.2.1
    simp only [tlen, Fo.size]; omega
theorem tlen_breaks : ∀ f : Fo, tlen (breaksF f) ≤ tlen f
  | .nil => Nat.le_refl _
  | .cons k t n ps r => by
    have h1 := tlen_breaks ps
    have h2 := tlen_breaks r
    simp only [breaksF, tlen_app, tlen]
    split
    · simp [Fo.one, tlen]; omega
    · omega
theorem tlen_part (k t n) (ps : Fo) : tlen (partF k t n ps) ≤ t.length + tlen ps := by
  unfold partF; split
  · simp [tlen]
  · simp [Fo.one, tlen]
theorem tlen_resolve : ∀ (f : Fo) (hand : Int) (adv : Bool), tlen (resolveF f hand adv) ≤ tlen f
  | .nil, _, _ => Nat.le_refl _
  | .cons k t n ps r, hand, adv => by
    have h1 := tlen_resolve ps hand adv
    have h2 := tlen_resolve r hand adv
    have h3 := tlen_breaks ps
    have h4 := tlen_part k t n (resolveF ps hand adv)
    simp only [resolveF, tlen_app, tlen]
    split
    · omega
    split
    · omega
    split
    · omega
    split
    · omega
    split
    · omega
    split
    · omega
    · simp [Fo.one, tlen]; omega
theorem check_zero {f : Fo} (h : checkT f = 0) : f.size ≤ 4096 ∧ good f ∧ tlen f ≤ 268435456 := by
  unfold checkT at h
  split at h
  · rename_i h1
    split at h
    · rename_i h2; exact absurd h h2
    · rename_i h2
      have hg := all_good f _ _ (Decidable.not_not.1 h2)
      have := tlen_good f hg
      exact ⟨h1.1, hg, by omega⟩
  · cases h
def errS (f : Fo) (hand : Int) : Int := if checkT f ≠ 0 then 1 else if hand < 0 ∨ 8 < hand then 13 else 0
def resS (f : Fo) (hand : Int) (adv : Bool) : Fo := if errS f hand = 0 then mergeF (resolveF f hand adv) else .nil

section
variable {R : Ending → World → Prop} {S : Nat → Prop} {w : World} {a : Option Addr} {n c : Nat}
theorem State_spec (f : Fo) (hand : Int) (hs : small f) (hF : Forms w) (hf : SlF S w a n f) (h : ∀ a' n' c' w', SlF (fun k => S k ∨ w.heap.size ≤ k) w' a' n' (resS f hand false) → Ext w w' → R (.returned (.tuple ⟨[.slice a' n' c', .int .i64 (errS f hand)]⟩)) w') :
    Calls Tryz.prog F_hands_State ⟨[.slice a n c, .int .i64 hand]⟩ w R := by
  apply c_hands_State
  refine Check22_spec f hs hf hF fun w1 e1 => ⟨_, rfl, br_split (fun g => ?_) (fun g => ?_)⟩
  · have e : errS f hand = 1 := by unfold errS; rw [if_pos g]
    have := h none 0 0 w1 (by unfold resS; rw [if_neg (by rw [e]; decide)]; exact SlF.nil none) e1
    rw [e] at this; exact this
  · have hc : checkT f = 0 := Decidable.not_not.1 g
    obtain ⟨c1, c2, c3⟩ := check_zero hc
    have z1 := e1.size
    intro K6 hK6
    have bad : (hand < 0 ∨ 8 < hand) → R (.returned (.tuple ⟨[.slice none 0 0, .int .i64 13]⟩)) w1 := fun hh => by
      have e : errS f hand = 13 := by unfold errS; rw [if_neg g, if_pos hh]
      have := h none 0 0 w1 (by unfold resS; rw [if_neg (by rw [e]; decide)]; exact SlF.nil none) e1
      rw [e] at this; exact this
    refine br_split (fun g2 => bad (.inl g2)) (fun g2 => br_split (fun g3 => bad (.inr g3)) (fun g3 => hK6 _ fun _ => ?_))
    have e : errS f hand = 0 := by unfold errS; rw [if_neg g, if_neg (by omega)]
    have er := each_resolve hand f c2
    have t2 := tlen_resolve f hand false
    refine resolved_spec f hand (by omega) c2 (by rw [er]; omega) (hf.ext e1) fun a2 n2 c2 w2 h2 e2 => ⟨_, _, _, rfl, ?_⟩
    rw [er] at h2
    have := h a2 n2 c2 w2 (by unfold resS; rw [if_pos e]; exact h2.imp fun j hj _ => hj.imp id fun h => by omega) (ext_trans e1 e2)
    rw [e] at this; exact this
end
end Go.Proofs
namespace Go.Proofs
open Go Go.Sh Go.RowKit

theorem addL_size (f : Fo) (t) : (addL f t).size = f.size := by
  rcases Fo_view f with rfl | ⟨pre, k, s, n, ps, rfl⟩
  · rfl
  · rw [addL_snoc, Fo.size_app, Fo.size_app]; rfl
theorem snocM_size (out : Fo) (k t n ps) : (snocM out k t n ps).size ≤ out.size + ps.size + 1 := by
  unfold snocM
  split
  · omega
  · split
    · rw [addL_size]; omega
    · rw [Fo.size_app]; simp [Fo.one, Fo.size]; omega
theorem mgo_size : ∀ (f out : Fo), (mgo f out).size ≤ f.size + out.size
  | .nil, out => by simp [mgo]
  | .cons k t n ps r, out => by
    have h1 := mgo_size ps .nil
    have h2 := mgo_size r (snocM out k t n (mgo ps .nil))
    have h3 := snocM_size out k t n (mgo ps .nil)
    simp only [mgo, Fo.size] at *
    omega
theorem mergeF_size (f : Fo) : (mergeF f).size ≤ f.size := by
  have := mgo_size f .nil
  simpa [mergeF, Fo.size] using this

end Go.Proofs
namespace Go.Proofs
open Go Go.Sh Go.RowKit

theorem len4 {α : Type} {l : List α} (h : l.length = 4) : ∃ a b c d, l = [a, b, c, d] := by
  match l, h with
  | [a, b, c, d], _ => exact ⟨a, b, c, d, rfl⟩

set_option maxRecDepth 20000 in
theorem open_nodes {H : Type} {enc : TypeId × Value → H} {w : World} {base : Nat} {sp : Nat → Bool} {hd : Bool} : ∀ (fuel : Nat) (cs : List Value) (x : DataW H × List MemPlace), DataW.trod enc Tryz.prog w base sp hd fuel 22 cs = some x →
    ∃ (a : Option Addr) (n c : Nat) (f : Fo), cs = [.slice a n c] ∧ SlF (fun _ => True) w a n f := by
  intro fuel
  induction fuel using Nat.strongRecOn with
  | _ fuel ih =>
  intro cs x h
  rcases DataW.trod_slice Tryz.underlying22 h with ⟨rfl, _⟩ | ⟨a, len, cap, elems, rest, n, rfl, rfl, _, hb, hl, hm, hel, hall, _⟩
  · exact ⟨none, 0, 0, .nil, rfl, SlF.nil none⟩
  have h4 : Tryz.prog.cellsOf 64 = 4 := by kernel_rfl
  have h3 : Tryz.prog.cellsOf 3 = 1 := by kernel_rfl
  have h9 : Tryz.prog.cellsOf 9 = 1 := by kernel_rfl
  have h22 : Tryz.prog.cellsOf 22 = 1 := by kernel_rfl
  have node : ∀ i, i < len → ∃ (k : Int) (t : List UInt8) (m : Int) (a1 : Option Addr) (c1 : Nat) (ps : Fo), (∀ j v, ([.int .i64 k, .string ⟨⟨t⟩⟩, .int .i64 m, .slice a1 ps.len c1] : List Value)[j]? = some v → w.cell? ((a.add (i * 4)).add j) = some v) ∧ SlF (fun _ => True) w a1 ps.len ps := by
    intro i hi
    have hh := hall i hi
    rw [List.getElem?_eq_getElem (by omega)] at hh
    obtain ⟨cs', hc1, hc2⟩ := Option.bind_eq_some_iff.1 hh
    rw [h4] at hc1
    obtain ⟨_, hlen, hcell⟩ := World.cells?_some hc1
    obtain ⟨xs, n', rfl, _, hcl, hxl, hf⟩ := DataW.trod_struct Tryz.underlying64 hc2
    obtain ⟨v0, v1, v2, v3, rfl⟩ := len4 hlen
    obtain ⟨y0, y1, y2, y3, rfl⟩ := len4 (show xs.length = 4 from hxl)
    have g0 := hf 0 _ rfl
    have g1 := hf 1 _ rfl
    have g2 := hf 2 _ rfl
    have g3 := hf 3 _ rfl
    try dsimp only at g0
    try simp only [h3] at g0
    try dsimp only at g1
    try simp only [h9] at g1
    try dsimp only at g2
    try simp only [h3] at g2
    try dsimp only at g3
    try simp only [h22] at g3
    obtain ⟨k, e0, _, _⟩ := DataW.trod_int (k := .i64) Tryz.underlying3 g0
    obtain ⟨t, e1, _, _⟩ := DataW.trod_string Tryz.underlying9 g1
    obtain ⟨m, e2, _, _⟩ := DataW.trod_int (k := .i64) Tryz.underlying3 g2
    obtain ⟨a1, n1, c1, ps, e3, hs⟩ := ih n' (by omega) _ _ g3
    simp [h3, h9, h22] at e0 e1 e2 e3
    subst e0 e1 e2 e3
    have hn1 := hs.1
    subst hn1
    refine ⟨k, t.data.toList, m, a1, c1, ps, fun j v hj => ?_, hs⟩
    have hj4 : j < 4 := by have := (List.getElem?_eq_some_iff.1 hj).1; simpa using this
    rw [hcell j hj4]
    exact hj
  by_cases hl0 : len = 0
  · subst hl0
    exact ⟨some a, 0, cap, .nil, rfl, SlF.nil _⟩
  obtain ⟨b, o, rfl⟩ : ∃ b o, a = ⟨b, o, none⟩ := by
    obtain ⟨kd, t, m, a1, c1, ps, hcells, _⟩ := node 0 (by omega)
    have h0 := hcells 0 _ rfl
    obtain ⟨b, o, spot⟩ := a
    have hspot : spot = none := by simpa [Addr.add] using World.cell?_spot h0
    subst hspot
    exact ⟨b, o, rfl⟩
  have build : ∀ k, k ≤ len → ∃ (f : Fo) (us : List Value), f.len = k ∧ (∀ j v, us[j]? = some v → w.cell? ((⟨b, o, none⟩ : Addr).add j) = some v) ∧ FoC (fun _ => True) w f us := by
    intro k
    induction k with
    | zero => exact fun _ => ⟨.nil, [], rfl, fun j v hj => by simp at hj, rfl⟩
    | succ k ihk =>
      intro hk
      obtain ⟨f, us, hfl, hus, hF⟩ := ihk (by omega)
      obtain ⟨kd, t, m, a1, c1, ps, hcells, hm, vs, hat, hfo⟩ := node k (by omega)
      have hul := hF.len
      refine ⟨f.app (.one kd t m ps), us ++ [.int .i64 kd, .string ⟨⟨t⟩⟩, .int .i64 m, .slice a1 ps.len c1], by simp [Fo.one, hfl], fun j v hj => ?_, hF.app ⟨a1, c1, vs, [], rfl, hat, hfo, rfl⟩⟩
      by_cases hlt : j < us.length
      · rw [List.getElem?_append_left hlt] at hj
        exact hus j v hj
      · rw [List.getElem?_append_right (by omega)] at hj
        have := hcells _ _ hj
        have hadd : ((⟨b, o, none⟩ : Addr).add (k * 4)).add (j - us.length) = (⟨b, o, none⟩ : Addr).add j := by
          rw [add_none, add_none, add_none]
          have e : o + k * 4 + (j - us.length) = o + j := by omega
          rw [e]
        rw [hadd] at this; exact this
  obtain ⟨f, us, hfl, hus, hF⟩ := build len (Nat.le_refl _)
  refine ⟨some ⟨b, o, none⟩, len, cap, f, rfl, hfl.symm, us, ?_, hF⟩
  cases us with
  | nil => exact .inl rfl
  | cons u us =>
    have h0 := hus 0 u rfl
    refine .inr ⟨b, o, rfl, trivial, ?_, fun j v hj => ?_⟩
    · have := World.block_lt_of_cell? w _ h0
      simpa [Addr.add] using this
    · have := hus j v hj
      rw [add_none] at this; exact this
end Go.Proofs
namespace Go.Proofs
open Go Go.Sh

/- merging, from the right -/
def consM (k : Int) (t : List UInt8) (n : Int) (ps r : Fo) : Fo :=
  if k = 1 then (if t = [] then r else match r with
    | .nil => .cons k t n ps .nil
    | .cons k' t' n' ps' r' => if k' = 1 then .cons k (t ++ t') n ps r' else .cons k t n ps (.cons k' t' n' ps' r'))
  else .cons k t n ps r
def mergeR : Fo → Fo
  | .nil => .nil
  | .cons k t n ps r => consM k t n (mergeR ps) (mergeR r)
def glue (out : Fo) : Fo → Fo
  | .nil => out
  | .cons k t n ps r => if k = 1 ∧ lastT out = true then (addL out t).app r else out.app (.cons k t n ps r)

theorem addL_addL (f : Fo) (s t : List UInt8) : addL (addL f s) t = addL f (s ++ t) := by
  rcases Fo_view f with rfl | ⟨pre, k, u, n, ps, rfl⟩
  · rfl
  · rw [addL_snoc, addL_snoc, addL_snoc, List.append_assoc]
theorem lastT_addL (f : Fo) (s : List UInt8) : lastT (addL f s) = lastT f := by
  rcases Fo_view f with rfl | ⟨pre, k, u, n, ps, rfl⟩
  · rfl
  · rw [addL_snoc, lastT_snoc, lastT_snoc]
theorem glue_nil (g : Fo) : glue .nil g = g := by
  cases g <;> simp [glue, lastT]
theorem glue_snoc (out : Fo) (k : Int) (t : List UInt8) (n : Int) (p g : Fo) : glue (snocM out k t n p) g = glue out (consM k t n p g) := by
  unfold snocM consM
  by_cases hk : k = 1
  · subst hk
    by_cases ht : t = []
    · simp [ht]
    · simp only [ht, and_false, if_false, true_and, if_true]
      by_cases hl : lastT out = true
      · rw [if_pos hl]
        cases g with
        | nil => simp [glue, hl]
        | cons k' t' n' ps' r' =>
          by_cases hk' : k' = 1
          · simp [glue, hk', lastT_addL, hl, addL_addL]
          · simp [glue, hk', hl]
      · rw [if_neg hl]
        cases g with
        | nil => simp [glue, hl, Fo.one]
        | cons k' t' n' ps' r' =>
          by_cases hk' : k' = 1
          · simp [glue, hk', lastT_snoc, addL_snoc, hl, Fo.app_one_app]
          · simp [glue, hk', hl, Fo.app_one_app]
  · simp only [hk, false_and, if_false]
    cases g with
    | nil => simp [glue, hk, Fo.one]
    | cons k' t' n' ps' r' => simp [glue, hk, lastT_snoc, Fo.app_one_app]
theorem mgo_glue : ∀ (f out : Fo), mgo f out = glue out (mergeR f)
  | .nil, out => rfl
  | .cons k t n ps r, out => by
    rw [mgo, mgo_glue r, mgo_glue ps, glue_nil, glue_snoc]; rfl
theorem mergeF_eq (f : Fo) : mergeF f = mergeR f := by rw [mergeF, mgo_glue, glue_nil]
/- what is right in a list but for its neighbours; no two texts side by side -/
def okF (w : Bool) : Fo → Prop
  | .nil => True
  | .cons k t n ps r => singleF k t n ps false w = 0 ∧ okF true ps ∧ okF w r
def mgd (b : Bool) : Fo → Prop
  | .nil => True
  | .cons k _ _ ps r => ¬ (k = 1 ∧ b = true) ∧ mgd false ps ∧ mgd (decide (k = 1)) r
theorem single_split (k t n ps b w) : singleF k t n ps b w = 0 ↔ singleF k t n ps false w = 0 ∧ ¬ (k = 1 ∧ b = true) := by
  unfold singleF
  split
  · simp
  split
  · simp
  split
  · rename_i hk
    split
    · simp
    · simp [hk]
  · rename_i h; simp [h]
theorem all_split : ∀ (f : Fo) (b w : Bool), allF f b w = 0 ↔ okF w f ∧ mgd b f
  | .nil, _, _ => by simp [allF, okF, mgd]
  | .cons k t n ps r, b, w => by
    have h1 := all_split ps false true
    have h2 := all_split r (decide (k = 1)) w
    have h3 := single_split k t n ps b w
    simp only [allF, okF, mgd]
    constructor
    · intro h
      split at h
      · rename_i g; exact absurd h g
      · rename_i g
        split at h
        · rename_i g2; exact absurd h g2
        · rename_i g2
          have a1 := h3.1 (Decidable.not_not.1 g)
          have a2 := h1.1 (Decidable.not_not.1 g2)
          have a3 := h2.1 h
          exact ⟨⟨a1.1, a2.1, a3.1⟩, a1.2, a2.2, a3.2⟩
    · rintro ⟨⟨x1, x2, x3⟩, y1, y2, y3⟩
      rw [if_neg (by simpa using h3.2 ⟨x1, y1⟩), if_neg (by simpa using h1.2 ⟨x2, y2⟩)]
      exact h2.2 ⟨x3, y3⟩
theorem okF_app {w : Bool} : ∀ {f g : Fo}, okF w (f.app g) ↔ okF w f ∧ okF w g
  | .nil, g => by simp [okF]
  | .cons k t n ps r, g => by simp only [Fo.cons_app, okF, okF_app (f := r), and_assoc]
theorem single_within {k t n ps w} (h : singleF k t n ps false w = 0) : singleF k t n ps false false = 0 := by
  cases w with
  | false => exact h
  | true =>
    unfold singleF at h ⊢
    split
    · rename_i g; rw [if_pos g] at h; exact h
    · rename_i g; rw [if_neg g] at h
      split
      · rename_i g2; rw [if_pos g2] at h; exact h
      · rename_i g2; rw [if_neg g2] at h
        split
        · rename_i g3; rw [if_pos g3] at h; exact h
        · rename_i g3; rw [if_neg g3] at h
          split
          · rename_i g4; rw [if_pos g4] at h
            split
            · rename_i g5; rw [if_pos g5] at h; exact h
            · simp
          · rename_i g4; rw [if_neg g4] at h; exact h
theorem okF_within {w : Bool} : ∀ {f : Fo}, okF true f → okF w f
  | .nil, _ => trivial
  | .cons k t n ps r, ⟨h1, h2, h3⟩ => by
    cases w with
    | true => exact ⟨h1, h2, h3⟩
    | false => exact ⟨single_within h1, h2, okF_within h3⟩
theorem okF_good {w : Bool} : ∀ {f : Fo}, okF w f → good f
  | .nil, _ => trivial
  | .cons k t n ps r, ⟨h1, h2, h3⟩ => ⟨single_ok h1, okF_good h2, okF_good h3⟩
/- texts stand alone -/
theorem single_text {t n ps b w} (h : singleF 1 t n ps b w = 0) : t ≠ [] ∧ n = 0 ∧ ps = .nil ∧ checkC t = 0 := by
  unfold singleF at h
  split at h
  · cases h
  rename_i g
  split at h
  · cases h
  rename_i g2
  rw [if_pos rfl] at h
  split at h
  · cases h
  rename_i g3
  have e1 : numsF 1 = false := by decide
  have e2 : partsF 1 = false := by decide
  refine ⟨fun e => g2 (.inl ⟨rfl, e⟩), ?_, Fo.eq_nil_of_len ?_, Decidable.not_not.1 g3⟩
  · apply Classical.byContradiction; intro hn; exact g (.inr (.inr (.inr (.inl ⟨hn, e1⟩))))
  · apply Classical.byContradiction; intro hn; exact g (.inr (.inr (.inr (.inr ⟨by omega, e2⟩))))
/- what a node's rightness asks of its parts: whether there are any -/
theorem single_parts {k t n ps ps' b w} (h : singleF k t n ps b w = 0) (hl : ps.len = 0 ↔ ps'.len = 0) : singleF k t n ps' b w = 0 := by
  have h2 : (0 < ps.len ↔ 0 < ps'.len) := by omega
  unfold singleF at h ⊢
  simp only [← h2, ← hl]; exact h
end Go.Proofs
namespace Go.Proofs
open Go Go.Sh

/- two accepted strings, one behind the other -/
theorem kA_left {s t : List UInt8} {i : Nat} (h : i < s.length) : kA (s ++ t) i = kA s i := by simp [kA, List.getD, List.getElem?_append_left h]
theorem kA_right (s t : List UInt8) (i : Nat) : kA (s ++ t) (s.length + i) = kA t i := by simp [kA, List.getD, List.getElem?_append_right]
theorem rtB_left {s t : List UInt8} : ∀ {i : Nat}, i < s.length → rtB (s ++ t) i = rtB s i
  | 0, _ => rfl
  | i + 1, h => by simp only [rtB, kA_left h, kA_left (show i < s.length by omega), rtB_left (show i < s.length by omega)]
theorem rtB_right (s t : List UInt8) : ∀ i : Nat, rtB t i = true → rtB (s ++ t) (s.length + i) = true
  | 0, h => by simp [rtB] at h
  | i + 1, h => by
    have e : s.length + (i + 1) = (s.length + i) + 1 := by omega
    rw [rtB] at h
    rw [e, rtB, ← e, kA_right, kA_right]
    simp only [Bool.and_eq_true, Bool.or_eq_true] at h ⊢
    exact ⟨h.1, h.2.imp id (rtB_right s t i)⟩
theorem okChars_app {s t : List UInt8} (hs : okChars s = true) (ht : okChars t = true) : okChars (s ++ t) = true := by
  simp only [okChars, List.all_eq_true, List.mem_range] at hs ht ⊢
  intro j hj
  by_cases h : j < s.length
  · have := hs j h
    unfold okAt at this ⊢
    rw [kA_left h, rtB_left h]; exact this
  · obtain ⟨i, rfl⟩ : ∃ i, j = s.length + i := ⟨j - s.length, by omega⟩
    have := ht i (by simp at hj; omega)
    unfold okAt at this ⊢
    rw [kA_right]
    simp only [Bool.and_eq_true, Bool.or_eq_true] at this ⊢
    exact ⟨this.1, this.2.imp id (rtB_right s t i)⟩
theorem checkC_app {s t : List UInt8} (hs : checkC s = 0) (ht : checkC t = 0) (hl : s.length + t.length ≤ 65536) : checkC (s ++ t) = 0 := by
  rw [checkC_eq, if_neg (by omega)] at hs ht
  rw [checkC_eq, if_neg (by simp; omega)]
  have h1 : okChars s = true := by cases h : okChars s <;> simp [h] at hs ⊢
  have h2 : okChars t = true := by cases h : okChars t <;> simp [h] at ht ⊢
  rw [if_pos (okChars_app h1 h2)]

theorem single_mk_text {t : List UInt8} {w : Bool} (h1 : t ≠ []) (h2 : checkC t = 0) : singleF 1 t 0 .nil false w = 0 := by
  unfold singleF
  have e1 : textsF 1 = true := by decide
  have e2 : partsF 1 = false := by decide
  rw [if_neg (by simp [e1]), if_neg (by simp [h1, e2]), if_pos rfl]
  simp [h2]

/- merging: what it does to a right list -/
theorem tlen_consM (k t n ps r) : tlen (consM k t n ps r) ≤ t.length + tlen ps + tlen r := by
  unfold consM
  split
  · split
    · omega
    · split
      · simp [tlen]
      · split
        · simp only [tlen, List.length_append]; omega
        · simp only [tlen]; omega
  · simp [tlen]
theorem tlen_merge : ∀ f : Fo, tlen (mergeR f) ≤ tlen f
  | .nil => Nat.le_refl _
  | .cons k t n ps r => by
    have h1 := tlen_merge ps
    have h2 := tlen_merge r
    have h3 := tlen_consM k t n (mergeR ps) (mergeR r)
    simp only [mergeR, tlen]; omega
theorem consM_mgd {k t n ps r} (hp : mgd false ps) (hr : mgd false r) : mgd false (consM k t n ps r) := by
  have weak : ∀ {b} {r : Fo}, mgd false r → (∀ k' t' n' ps' r', r = .cons k' t' n' ps' r' → ¬ (k' = 1 ∧ b = true)) → mgd b r := by
    intro b r h hh
    cases r with
    | nil => trivial
    | cons k' t' n' ps' r' => exact ⟨hh _ _ _ _ _ rfl, h.2.1, h.2.2⟩
  unfold consM
  split
  · rename_i hk
    split
    · exact hr
    · cases r with
      | nil => exact ⟨by simp, hp, trivial⟩
      | cons k' t' n' ps' r' =>
        simp only
        split
        · rename_i hk'
          refine ⟨by simp, hp, ?_⟩
          have := hr.2.2
          rw [hk] at *; rw [hk'] at this; exact this
        · rename_i hk'
          exact ⟨by simp, hp, weak hr fun _ _ _ _ _ e => by cases e; simp [hk']⟩
  · rename_i hk
    exact ⟨by simp, hp, weak hr fun _ _ _ _ _ e => by cases e; simp [hk]⟩
theorem merge_mgd : ∀ f : Fo, mgd false (mergeR f)
  | .nil => trivial
  | .cons k t n ps r => consM_mgd (merge_mgd ps) (merge_mgd r)
theorem consM_nil {k t n ps r} : consM k t n ps r = .nil → k = 1 ∧ t = [] ∧ r = .nil := by
  unfold consM
  intro h
  split at h
  · split at h
    · exact ⟨by assumption, by assumption, h⟩
    · split at h
      · cases h
      · split at h <;> cases h
  · cases h
theorem merge_nil {w : Bool} : ∀ {f : Fo}, okF w f → (mergeR f = .nil ↔ f = .nil)
  | .nil, _ => by simp [mergeR]
  | .cons k t n ps r, ⟨h1, h2, h3⟩ => by
    constructor
    · intro h
      obtain ⟨rfl, rfl, _⟩ := consM_nil h
      exact absurd rfl (single_text h1).1
    · intro h; cases h
theorem len_zero {f : Fo} : f.len = 0 ↔ f = .nil := ⟨Fo.eq_nil_of_len, fun h => by subst h; rfl⟩
theorem merge_ok : ∀ {w : Bool} {f : Fo}, okF w f → tlen f ≤ 65536 → okF w (mergeR f)
  | _, .nil, _, _ => trivial
  | w, .cons k t n ps r, ⟨h1, h2, h3⟩, hl => by
    simp only [tlen] at hl
    have i2 := merge_ok h2 (by omega)
    have i3 := merge_ok h3 (by omega)
    have hlr := tlen_merge r
    have e1 : singleF k t n (mergeR ps) false w = 0 := single_parts h1 (by rw [len_zero, len_zero, merge_nil h2])
    simp only [mergeR]
    unfold consM
    split
    · rename_i hk
      subst hk
      split
      · exact i3
      · obtain ⟨ht, rfl, hps, hc⟩ := single_text e1
        cases hr : mergeR r with
        | nil => exact ⟨e1, i2, trivial⟩
        | cons k' t' n' ps' r' =>
          rw [hr] at i3 hlr
          simp only
          split
          · rename_i hk'
            subst hk'
            obtain ⟨x1, x2, x3⟩ := i3
            obtain ⟨ht', _, _, hc'⟩ := single_text x1
            simp only [tlen] at hlr
            rw [hps]
            refine ⟨single_mk_text (by simp [ht]) (checkC_app hc hc' (by omega)), trivial, x3⟩
          · exact ⟨e1, i2, i3⟩
    · exact ⟨e1, i2, i3⟩
theorem merge_same : ∀ {w b : Bool} {f : Fo}, okF w f → mgd b f → mergeR f = f
  | _, _, .nil, _, _ => rfl
  | w, b, .cons k t n ps r, ⟨h1, h2, h3⟩, ⟨m1, m2, m3⟩ => by
    simp only [mergeR, merge_same h2 m2, merge_same h3 m3]
    unfold consM
    split
    · rename_i hk
      subst hk
      rw [if_neg (single_text h1).1]
      cases r with
      | nil => rfl
      | cons k' t' n' ps' r' =>
        simp only
        rw [if_neg]
        intro e
        exact m3.1 ⟨e, by simp⟩
    · rfl
theorem depth_consM (k t n ps r) : (consM k t n ps r).depth ≤ max (if ps.len = 0 then 0 else ps.depth + 1) r.depth := by
  unfold consM
  split
  · split
    · omega
    · split
      · rw [Fo.depth_parts]; exact Nat.le_refl _
      · split
        · simp only [Fo.depth_parts]; omega
        · simp only [Fo.depth_parts]; omega
  · rw [Fo.depth_parts]; exact Nat.le_refl _
theorem depth_merge : ∀ f : Fo, (mergeR f).depth ≤ f.depth
  | .nil => Nat.le_refl _
  | .cons k t n ps r => by
    have h1 := depth_merge ps
    have h2 := depth_merge r
    have h3 := depth_consM k t n (mergeR ps) (mergeR r)
    rw [Fo.depth_parts]
    simp only [mergeR]
    by_cases hp : ps.len = 0
    · have e := Fo.eq_nil_of_len hp
      subst e
      simp only [mergeR, Fo.len_nil, if_true] at h3 ⊢
      omega
    · rw [if_neg hp]
      split at h3 <;> omega

/- the breaks -/
theorem breaks_consM {k t n ps r} (h : k = 1 → ps = .nil) (hr : ∀ k' t' n' ps' r', r = .cons k' t' n' ps' r' → k' = 1 → ps' = .nil) : breaksF (consM k t n ps r) = (if brkF k then .one k t n ps else breaksF ps).app (breaksF r) := by
  unfold consM
  split
  · rename_i hk
    have hps := h hk
    subst hk hps
    have e : brkF 1 = false := by decide
    simp only [e, Bool.false_eq_true, if_false]
    split
    · rfl
    · cases r with
      | nil => rfl
      | cons k' t' n' ps' r' =>
        simp only
        split
        · rename_i hk'
          have := hr _ _ _ _ _ rfl hk'
          subst hk' this
          simp only [breaksF, e, Bool.false_eq_true, if_false, Fo.nil_app]
        · simp only [breaksF, e, Bool.false_eq_true, if_false, Fo.nil_app]
  · rfl
theorem textnil {w : Bool} {k t n ps r} (h : okF w (.cons k t n ps r)) (hk : k = 1) : ps = .nil := by subst hk; exact (single_text h.1).2.2.1
theorem breaks_merge : ∀ {w : Bool} {f : Fo}, okF w f → tlen f ≤ 65536 → breaksF (mergeR f) = breaksF f
  | _, .nil, _, _ => rfl
  | w, .cons k t n ps r, h, hl => by
    have hl' := hl
    simp only [tlen] at hl
    have m3 := merge_ok h.2.2 (by omega)
    simp only [mergeR]
    rw [breaks_consM, breaks_merge h.2.2 (by omega), breaks_merge h.2.1 (by omega), breaksF]
    · congr 1
      by_cases hb : brkF k = true
      · have hok := single_ok h.1
        have : partsF k = false := by simp only [brkF, decide_eq_true_eq] at hb; unfold partsF; simp; omega
        have e := Fo.eq_nil_of_len (hok.2.2.2.2.1 this)
        subst e; rfl
      · simp [hb]
    · intro hk; rw [textnil h hk]; rfl
    · intro k' t' n' ps' r' e hk'; rw [e] at m3; exact textnil m3 hk'
end Go.Proofs
namespace Go.Proofs
open Go Go.Sh

theorem breaks_ok : ∀ {w : Bool} {f : Fo}, okF w f → okF w (breaksF f)
  | _, .nil, _ => trivial
  | w, .cons k t n ps r, ⟨h1, h2, h3⟩ => by
    simp only [breaksF]
    rw [okF_app]
    refine ⟨?_, breaks_ok h3⟩
    split
    · exact ⟨h1, h2, trivial⟩
    · exact okF_within (breaks_ok h2)
theorem part_ok {w : Bool} {k t n ps ps'} (h : singleF k t n ps false w = 0) (h0 : ps.len ≠ 0) (h2 : okF true ps') : okF w (partF k t n ps') := by
  unfold partF
  split
  · trivial
  · exact ⟨single_parts h (by omega), h2, trivial⟩
theorem resolve_ok : ∀ {w : Bool} {f : Fo} (hand : Int) (adv : Bool), okF w f → okF w (resolveF f hand adv)
  | _, .nil, _, _, _ => trivial
  | w, .cons k t n ps r, hand, adv, ⟨h1, h2, h3⟩ => by
    have hp := (single_ok h1).2.2.2.2.2
    have pk : k = 7 ∨ k = 8 ∨ k = 9 ∨ k = 10 ∨ k = 11 → ps.len ≠ 0 := fun h => by have := hp (by unfold partsF; simp; omega); omega
    have i2 := resolve_ok hand adv h2
    simp only [resolveF]
    rw [okF_app]
    refine ⟨?_, resolve_ok hand adv h3⟩
    split
    · exact okF_within (breaks_ok h2)
    split
    · exact okF_within i2
    split
    · exact part_ok h1 (pk (by omega)) i2
    split
    · exact okF_within (breaks_ok h2)
    split
    · exact okF_within i2
    split
    · exact part_ok h1 (pk (by omega)) i2
    · exact ⟨h1, h2, trivial⟩

theorem depth_breaks : ∀ f : Fo, (breaksF f).depth ≤ f.depth
  | .nil => Nat.le_refl _
  | .cons k t n ps r => by
    have h1 := depth_breaks ps
    have h2 := depth_breaks r
    rw [Fo.depth_parts]
    simp only [breaksF, depth_app]
    split
    · rw [Fo.one, Fo.depth_parts]; simp only [Fo.depth]; omega
    · by_cases hp : ps.len = 0
      · have e := Fo.eq_nil_of_len hp
        subst e
        simp only [breaksF, Fo.depth]; omega
      · rw [if_neg hp]; omega
theorem depth_part (k t n) (ps : Fo) : (partF k t n ps).depth ≤ if ps.len = 0 then 0 else ps.depth + 1 := by
  unfold partF
  split
  · exact Nat.le_refl _
  · rename_i h; rw [Fo.one, Fo.depth_parts, if_neg h]; simp [Fo.depth]
theorem depth_resolve : ∀ (f : Fo) (hand : Int) (adv : Bool), (resolveF f hand adv).depth ≤ f.depth
  | .nil, _, _ => Nat.le_refl _
  | .cons k t n ps r, hand, adv => by
    have h1 := depth_resolve ps hand adv
    have h2 := depth_resolve r hand adv
    have h3 := depth_breaks ps
    have h4 := depth_part k t n (resolveF ps hand adv)
    rw [Fo.depth_parts]
    by_cases hp : ps.len = 0
    · have e := Fo.eq_nil_of_len hp
      subst e
      simp only [resolveF, breaksF, partF, Fo.len_nil, if_true, depth_app]
      have h0 : (Fo.one k t n .nil).depth = 0 := rfl
      have hn : Fo.nil.depth = 0 := rfl
      repeat' split
      all_goals omega
    · rw [if_neg hp]
      have h5 : (partF k t n (resolveF ps hand adv)).depth ≤ ps.depth + 1 := by split at h4 <;> omega
      have h6 : (Fo.one k t n ps).depth = ps.depth + 1 := by rw [Fo.one, Fo.depth_parts, if_neg hp]; simp [Fo.depth]
      simp only [resolveF, depth_app]
      repeat' split
      all_goals omega

/- sizes: what is printed is hardly longer than the texts -/
theorem print_short : ∀ f : Fo, good f → (printF f).length ≤ 30 * f.size + tlen f
  | .nil, _ => by simp [printF]
  | .cons k t n ps r, ⟨h1, h2, h3⟩ => by
    have i2 := print_short ps h2
    have i3 := print_short r h3
    have ht := tagF_len h1.1 h1.2.1
    have hv : (valF k t n).length ≤ t.length + 3 := by
      unfold valF
      split
      · simp
      · split
        · rename_i hn
          have := decDigits_len n.toNat (by have := h1.2.2.1 hn; omega)
          simp only [List.length_cons]; omega
        · simp
    simp only [printF, List.length_append, Fo.size, tlen]
    unfold nodeF
    split
    · omega
    · split
      · simp only [List.length_append, List.length_cons, List.length_nil]; omega
      · simp only [List.length_append, List.length_cons, List.length_nil]; omega
theorem tlen_texts : ∀ {f : Fo} {b : Nat}, f.texts b → tlen f ≤ b * f.size
  | .nil, _, _ => by simp [tlen]
  | .cons k t n ps r, b, ⟨h1, h2, h3⟩ => by
    have i2 := tlen_texts h2
    have i3 := tlen_texts h3
    simp only [tlen, Fo.size, Nat.mul_add, Nat.mul_one]; omega

/- the transcripts of the statements -/
structure FineF (f : Fo) : Prop where
  size : f.size ≤ 24
  tl : tlen f ≤ 192
  depth : f.depth ≤ 6
  ok : okF false f
  m : mgd false f
theorem FineF.check {f : Fo} (h : FineF f) : checkT f = 0 := by
  unfold checkT
  have h1 := h.size
  have h2 := h.tl
  have h3 := h.depth
  have ha : allF f false false = 0 := (all_split f false false).2 ⟨h.ok, h.m⟩
  have hp := print_short f (okF_good h.ok)
  rw [if_pos (by omega), ha]
  simp; omega
theorem FineF.small {f : Fo} (h : FineF f) : small f := by have := h.size; unfold Go.Proofs.small; omega
theorem fine_of {f : Fo} (hg : greatF f = false) (hc : checkT f = 0) : FineF f := by
  obtain ⟨h1, h2, h3⟩ := great_small hg
  have h4 := tlen_texts h2
  unfold checkT at hc
  rw [if_pos (by omega)] at hc
  have ha : allF f false false = 0 := by
    split at hc
    · rename_i h; exact absurd hc h
    · rename_i h; exact Decidable.not_not.1 h
  have := (all_split f false false).1 ha
  exact ⟨h1, by omega, h3, this.1, this.2⟩
theorem FineF.res {f : Fo} (h : FineF f) (hand : Int) (adv : Bool) : FineF (mergeF (resolveF f hand adv)) := by
  have h1 := h.size
  have h2 := h.tl
  have h3 := h.depth
  have a1 := mergeF_size (resolveF f hand adv)
  have a2 := resolveF_size f hand adv
  have b1 := tlen_merge (resolveF f hand adv)
  have b2 := tlen_resolve f hand adv
  have c1 := depth_merge (resolveF f hand adv)
  have c2 := depth_resolve f hand adv
  have hok := resolve_ok hand adv h.ok
  rw [mergeF_eq] at a1 ⊢
  exact ⟨by omega, by omega, by omega, merge_ok hok (by omega), merge_mgd _⟩
theorem FineF.err {f : Fo} (h : FineF f) {hand : Int} (h0 : 0 ≤ hand) (h8 : hand ≤ 8) : errS f hand = 0 := by
  unfold errS; rw [if_neg (by rw [h.check]; simp), if_neg (by omega)]
theorem FineF.resS {f : Fo} (h : FineF f) {hand : Int} (adv : Bool) (h0 : 0 ≤ hand) (h8 : hand ≤ 8) : resS f hand adv = mergeF (resolveF f hand adv) := by
  unfold Go.Proofs.resS; rw [if_pos (h.err h0 h8)]

/- breaks of what is resolved -/
theorem breaks_breaks : ∀ f : Fo, breaksF (breaksF f) = breaksF f
  | .nil => rfl
  | .cons k t n ps r => by
    simp only [breaksF, breaksF_app, breaks_breaks r]
    congr 1
    split
    · rename_i h; simp [Fo.one, breaksF, h]
    · exact breaks_breaks ps
theorem breaks_part {k t n ps} (h : brkF k = false) : breaksF (partF k t n ps) = breaksF ps := by
  unfold partF
  split
  · rename_i h0; have e := Fo.eq_nil_of_len h0; subst e; rfl
  · simp [Fo.one, breaksF, h]
theorem breaks_resolve : ∀ (f : Fo) (hand : Int) (adv : Bool), breaksF (resolveF f hand adv) = breaksF f
  | .nil, _, _ => rfl
  | .cons k t n ps r, hand, adv => by
    have h1 := breaks_resolve ps hand adv
    have h2 := breaks_resolve r hand adv
    have nb : k = 7 ∨ k = 8 ∨ k = 9 ∨ k = 10 ∨ k = 11 → brkF k = false := fun h => by unfold brkF; simp; omega
    simp only [resolveF, breaksF_app, h2]
    rw [show breaksF (.cons k t n ps r) = (if brkF k then .one k t n ps else breaksF ps).app (breaksF r) from rfl]
    congr 1
    split
    · rename_i h; rw [nb (by omega), breaks_breaks]; rfl
    split
    · rename_i h; rw [nb (by omega), h1]; rfl
    split
    · rename_i h; rw [breaks_part (nb (by omega)), nb (by omega), h1]; rfl
    split
    · rename_i h; rw [nb (by omega), breaks_breaks]; rfl
    split
    · rename_i h; rw [nb (by omega), h1]; rfl
    split
    · rename_i h; rw [breaks_part (nb (by omega)), nb (by omega), h1]; rfl
    · simp [Fo.one, breaksF]

/- step by step is at once -/
/- resolving does not mind merging -/
/- HandsSteps, the plain law -/
end Go.Proofs
namespace Go.Proofs
open Go Go.Sh Go.RowKit

theorem FineF.breaks {f : Fo} (h : FineF f) (hand : Int) (adv : Bool) : breaksF (mergeF (resolveF f hand adv)) = breaksF f := by
  have := h.tl
  have h2 := tlen_resolve f hand adv
  rw [mergeF_eq, breaks_merge (resolve_ok hand adv h.ok) (by omega), breaks_resolve]
end Go.Proofs
namespace Go.Sh
open Go Go.RowKit
/- appending one element to a slice variable that lies in a block of its own: the new element and the variable are laid in either order -/
theorem putAt_get : ∀ (vs cs : List Value) (o i : Nat), (putAt cs o vs)[i]? = if o ≤ i ∧ i < o + vs.length ∧ i < cs.length then vs[i - o]? else cs[i]?
  | [], cs, o, i => by
    rw [if_neg (by simp; omega)]; rfl
  | v :: vs, cs, o, i => by
    rw [putAt, putAt_get vs (cs.set o v) (o + 1) i]
    simp only [List.length_set, List.length_cons]
    by_cases h1 : o + 1 ≤ i ∧ i < o + 1 + vs.length ∧ i < cs.length
    · rw [if_pos h1, if_pos (by omega), show i - o = (i - (o + 1)) + 1 by omega, List.getElem?_cons_succ]
    · rw [if_neg h1]
      by_cases h2 : i = o
      · subst h2
        by_cases h3 : i < cs.length
        · rw [if_pos (by omega)]; simp [h3]
        · rw [if_neg (by omega)]; rw [List.getElem?_eq_none (by simp; omega), List.getElem?_eq_none (by omega)]
      · rw [List.getElem?_set_ne (Ne.symm h2)]
        rw [if_neg (by omega)]
end Go.Sh
namespace Go.Proofs
open Go Go.Sh Go.RowKit

def mostN (l : List Nn) : Int := l.foldl (fun m x => if x.k = 8 ∨ x.k = 9 then max m x.n else m) 0
theorem Ext.upd {w W1 W2 : World} {l : Nat} (h : Ext w W1) (hU : Upd l W1 W2) (hl : w.heap.size ≤ l) : Ext w W2 := ext_chg h (upd_chg hU hl) (Nat.le_refl _)

end Go.Proofs
namespace Go.Proofs
open Go Go.Sh Go.RowKit

def RowsN : List Nn → List Value → Prop
  | [], xs => xs = []
  | x :: l, xs => ∃ a m c xs', xs = .int .i64 x.k :: .string ⟨⟨x.t⟩⟩ :: .int .i64 x.n :: .slice a m c :: xs' ∧ RowsN l xs'
theorem RowsN.get {x : Nn} : ∀ {l : List Nn} {xs : List Value} {i : Nat}, RowsN l xs → l[i]? = some x →
    ∃ a m c, xs[4 * i]? = some (.int .i64 x.k) ∧ xs[4 * i + 1]? = some (.string ⟨⟨x.t⟩⟩) ∧ xs[4 * i + 2]? = some (.int .i64 x.n) ∧ xs[4 * i + 3]? = some (.slice a m c)
  | [], xs, i, _, hi => by simp at hi
  | y :: l, xs, 0, ⟨a, m, c, xs', e, h⟩, hi => by
    simp at hi; subst hi; subst e
    exact ⟨a, m, c, rfl, rfl, rfl, rfl⟩
  | y :: l, xs, i + 1, ⟨a, m, c, xs', e, h⟩, hi => by
    subst e
    simp at hi
    obtain ⟨a', m', c', h0, h1, h2, h3⟩ := RowsN.get h hi
    exact ⟨a', m', c', h0, h1, h2, h3⟩

end Go.Proofs
namespace Go.Proofs
open Go Go.Sh Go.RowKit

def clean : Fo → Prop
  | .nil => True
  | .cons k _ _ ps r => ¬ (k = 8 ∨ k = 9) ∧ clean ps ∧ clean r
theorem clean_app : ∀ {f g : Fo}, clean (f.app g) ↔ clean f ∧ clean g
  | .nil, g => by simp [clean]
  | .cons k t n ps r, g => by simp only [Fo.cons_app, clean, clean_app (f := r), and_assoc]
theorem clean_breaks : ∀ {f : Fo}, good f → clean (breaksF f)
  | .nil, _ => trivial
  | .cons k t n ps r, ⟨h1, h2, h3⟩ => by
    simp only [breaksF, clean_app]
    refine ⟨?_, clean_breaks h3⟩
    split
    · rename_i hb
      have hk : k = 2 ∨ k = 3 ∨ k = 4 := by simpa [brkF] using hb
      have := Fo.eq_nil_of_len (h1.2.2.2.2.1 (by unfold partsF; simp; omega))
      subst this
      exact ⟨by omega, trivial, trivial⟩
    · exact clean_breaks h2
theorem clean_part {k t n ps} (h : ¬ (k = 8 ∨ k = 9)) (hp : clean ps) : clean (partF k t n ps) := by
  unfold partF
  split
  · trivial
  · exact ⟨h, hp, trivial⟩
theorem clean_resolve (hand : Int) : ∀ {f : Fo}, good f → clean (resolveF f hand false)
  | .nil, _ => trivial
  | .cons k t n ps r, ⟨h1, h2, h3⟩ => by
    have i2 := clean_resolve hand h2
    have ib := clean_breaks h2
    simp only [resolveF, clean_app]
    refine ⟨?_, clean_resolve hand h3⟩
    split
    · exact ib
    split
    · exact i2
    split
    · rename_i h; simp at h
    split
    · exact ib
    split
    · exact i2
    split
    · exact clean_part (by omega) i2
    · have hp : partsF k = false := by have := h1.1; have := h1.2.1; unfold partsF; simp; omega
      have := Fo.eq_nil_of_len (h1.2.2.2.2.1 hp)
      subst this
      exact ⟨by omega, trivial, trivial⟩
theorem clean_consM {k t n ps r} (h : ¬ (k = 8 ∨ k = 9)) (hp : clean ps) (hr : clean r) : clean (consM k t n ps r) := by
  unfold consM
  split
  · split
    · exact hr
    · split
      · exact ⟨h, hp, trivial⟩
      · split
        · exact ⟨h, hp, hr.2.2⟩
        · exact ⟨h, hp, hr⟩
  · exact ⟨h, hp, hr⟩
theorem clean_merge : ∀ {f : Fo}, clean f → clean (mergeR f)
  | .nil, _ => trivial
  | .cons k t n ps r, ⟨h1, h2, h3⟩ => clean_consM h1 (clean_merge h2) (clean_merge h3)
theorem resolve_clean (hand : Int) (adv : Bool) : ∀ {f : Fo}, good f → clean f → resolveF f hand adv = f
  | .nil, _, _ => rfl
  | .cons k t n ps r, ⟨g1, g2, g3⟩, ⟨h1, h2, h3⟩ => by
    simp only [resolveF, resolve_clean hand adv g2 h2, resolve_clean hand adv g3 h3]
    rw [if_neg (by omega), if_neg (by omega), if_neg (by omega), if_neg (by omega), if_neg (by omega)]
    split
    · rename_i h
      have := g1.2.2.2.2.2 (by unfold partsF; simp; omega)
      unfold partF
      rw [if_neg (by omega)]; rfl
    · rfl
theorem FineF.clean {f : Fo} (h : FineF f) (hand : Int) : clean (mergeF (resolveF f hand false)) := by
  rw [mergeF_eq]; exact clean_merge (clean_resolve hand (okF_good h.ok))
theorem FineF.again {f : Fo} (h : FineF f) (hc : Proofs.clean f) (hand : Int) (adv : Bool) : mergeF (resolveF f hand adv) = f := by
  rw [resolve_clean hand adv (okF_good h.ok) hc, mergeF_eq]; exact merge_same h.ok h.m

end Go.Proofs
namespace Go.Proofs
open Go Go.Sh Go.RowKit

theorem places_walkO {yf : Fn} {ya yb : Array Value} {T : Nat → Prop} {J : List Pl → (Nat → Prop) → World → Prop} {Jx : (Nat → Prop) → World → Prop} {w0 : World} {xs : List Pl} {ty tw : Nat}
    (hTl : ∀ k, T k → k < w0.heap.size)
    (hJ : ∀ pre S W W', J pre S W → Chg (fun k => w0.heap.size ≤ k ∧ ¬ S k) W W' → J pre S W')
    (hbody : ∀ pre x vs S W, PlE T w0 x vs → pre ++ [x] <+: xs → w0.heap.size ≤ W.heap.size → (∀ k, S k → k < W.heap.size ∧ ¬ T k) → J pre S W → CallV Tryz.prog (.func yf ya yb) vs W fun e W' => Chg S W W' ∧
      ∃ S' : Nat → Prop, (∀ k, S' k → (S k ∨ W.heap.size ≤ k) ∧ k < W'.heap.size) ∧ ((e = .returned (.bool true) ∧ J (pre ++ [x]) S' W') ∨ (e = .returned (.bool false) ∧ Jx S' W'))) :
    ∀ (f : Fo) {R : Ending → World → Prop} {S : Nat → Prop} {w : World} {a : Option Addr} {n c : Nat} (d : Nat) (pre : List Pl), small f → d ≤ 17 → SlF T w0 a n f → w0.heap.size ≤ w.heap.size → (∀ k, T k → w.heap[k]? = w0.heap[k]?) → (∀ k, S k → k < w.heap.size ∧ ¬ T k) →
      Blk w ty [.func yf ya yb] 128 → Blk w tw [.func (.func 103) ⟨[]⟩ ⟨[.pointer (some ⟨ty, 0, none⟩), .pointer (some ⟨tw, 0, none⟩)]⟩] 124 → ¬ S ty → ¬ S tw →
      pre ++ placesF f d false <+: xs → J pre S w → (∀ S' W', Chg S w W' → (∀ k, S' k → (S k ∨ w.heap.size ≤ k) ∧ k < W'.heap.size) → J (pre ++ placesF f d false) S' W' → R (.returned (.bool true)) W') →
      (∀ S' W', Chg S w W' → (∀ k, S' k → (S k ∨ w.heap.size ≤ k) ∧ k < W'.heap.size) → Jx S' W' → R (.returned (.bool false)) W') →
      Calls Tryz.prog F_transcript_places_1_1 ⟨[.slice a n c, .int .i64 (d : Int), .pointer (some ⟨ty, 0, none⟩), .pointer (some ⟨tw, 0, none⟩)]⟩ w R := by
  intro f
  induction hz : f.size using Nat.strongRecOn generalizing f with
  | _ z ih =>
  intro R S w a n c d pre hs hd hf hw0 hT hS hBy hBw nSy nSw hpre hj hend hstop
  unfold small at hs
  apply c_transcript_places_1_1
  have hn := hf.1
  have hfl := f.len_le_size
  have lty := hBy.lt
  have ltw := hBw.lt
  refine ⟨fun tx i W m => ∃ (p r : Fo) (ps : List Pl) (S1 : Nat → Prop), f = p.app r ∧ i = p.len ∧ m = r.len ∧ Chg S w W ∧ (∀ k, S1 k → (S k ∨ w.heap.size ≤ k) ∧ k < W.heap.size) ∧ J ps S1 W ∧ pre ++ placesF f d false = ps ++ placesF r d tx,
    ⟨_, .nil, f, pre, S, rfl, rfl, rfl, Chg.refl _ _, fun k hk => ⟨.inl hk, (hS k hk).1⟩, hj, rfl⟩, ?_⟩
  rintro b _ W m ⟨p, r, xs', S1, hpr, rfl, rfl, hcW, hS1, hjW, heq⟩ _
  have hwW := hcW.size
  refine br_split (fun hlt => ?_) (fun hge => ?_)
  · obtain ⟨k, t, mm, ps, r, rfl⟩ := Fo.next hpr (by omega)
    have hsl := Fo.sub_len hpr
    have hsz := Fo.sub_size hpr
    have e1 : f = (p.app (.one k t mm ps)).app r := by rw [Fo.app_one_app]; exact hpr
    have i1 : IntKind.i64.wrap ((p.len : Int) + 1) = ((p.app (.one k t mm ps)).len : Int) := by rw [wrap_nat (by omega)]; simp [Fo.one]
    have hTW : ∀ k, T k → W.heap[k]? = w0.heap[k]? := fun k hk => (hcW.block k (by have := hTl k hk; omega) (fun h => (hS k h).2 hk)).trans (hT k hk)
    obtain ⟨q, a', c', hq, hTq, hql, hN⟩ := (hf.keep (S' := T) (w' := W) (fun k hk _ => ⟨hk, hTW k hk⟩) (by omega)).get hpr
    have hNT : SlF T w0 a' ps.len ps := hN.sl.keep' fun k hk _ => ⟨hk, hTl k hk, (hTW k hk).symm⟩
    refine hq _ ⟨k, hN.kind, t, hN.text, mm, hN.num, a', ps.len, c', hN.parts, ?_⟩
    refine al_stL (by simp) (by intro u hu; simp only [List.mem_cons, List.not_mem_nil, or_false] at hu; rcases hu with rfl | rfl | rfl | rfl <;> rfl) fun bx w1 hbx hBx e2 s2 => ?_
    have z2 := e2.size
    obtain ⟨x0, x1, x2, x3⟩ := blk4 hBx
    have hBy1 := (hcW.blk hBy nSy).ext e2
    have hBw1 := (hcW.blk hBw nSw).ext e2
    have n1y : ¬ S1 ty := fun h => (hS1 _ h).1.elim nSy (by omega)
    have n1w : ¬ S1 tw := fun h => (hS1 _ h).1.elim nSw (by omega)
    have n1x : ¬ S1 bx := fun h => by have := (hS1 _ h).2; omega
    refine dr_ok ⟨_, _, _, by rw [hBy1.cell]; rfl, k, x0, t, x1, mm, x2, a', ps.len, c', x3, ?_⟩
    have hj1 : J xs' S1 w1 := hJ _ _ _ _ hjW (Chg.of_ext e2)
    rw [placesF] at heq
    have hpx : xs' ++ [⟨k, t, mm, ps, d, b⟩] <+: xs := by
      refine List.IsPrefix.trans ?_ hpre
      rw [heq]
      exact ⟨_, by rw [List.append_assoc]; rfl⟩
    have hS1T : ∀ k, S1 k → k < w1.heap.size ∧ ¬ T k := fun j hj => ⟨by have := (hS1 j hj).2; omega, fun ht => (hS1 j hj).1.elim (fun h => (hS j h).2 ht) (fun h => by have := hTl j ht; omega)⟩
    refine CallV_mono (hbody xs' ⟨k, t, mm, ps, d, b⟩ _ S1 w1 ⟨a', c', rfl, hNT⟩ hpx (by omega) hS1T hj1) ?_
    rintro e w2 ⟨hc2, S2, hS2, hres⟩
    have z3 := hc2.size
    have hcw2 : Chg S w w2 := chg_then (hcW.trans (Chg.of_ext e2)) hc2 fun i hi hh => (hS1 i hh).1.elim id fun h => by omega
    have hS2w : ∀ k, S2 k → (S k ∨ w.heap.size ≤ k) ∧ k < w2.heap.size := fun j hj => ⟨(hS2 j hj).1.elim (fun h => (hS1 j h).1) (fun h => .inr (by omega)), (hS2 j hj).2⟩
    rcases hres with ⟨rfl, hj2⟩ | ⟨rfl, hjx⟩
    · refine ⟨true, rfl, ?_⟩
      have hBx2 := hc2.blk hBx n1x
      obtain ⟨y0, y1, y2, y3⟩ := blk4 hBx2
      have hBw2 := hc2.blk hBw1 n1w
      have hBy2 := hc2.blk hBy1 n1y
      have n2x : ¬ S2 bx := fun h => (hS2 _ h).1.elim n1x (by omega)
      refine br_split (fun hd16 => ?_) (fun hd16 => ?_)
      · have hd16' : d ≤ 16 := by omega
        rw [if_pos hd16'] at heq
        refine dr_ok ⟨.func 103, ⟨[]⟩, ⟨[.pointer (some ⟨ty, 0, none⟩), .pointer (some ⟨tw, 0, none⟩)]⟩, by rw [hBw2.cell]; rfl, a', ps.len, c', y3, by kernel_rfl, ?_⟩
        rw [wrap_nat (by omega)]
        refine ih _ (hz ▸ hsz) ps rfl (S := S2) (d + 1) (xs' ++ [⟨k, t, mm, ps, d, b⟩]) (by unfold small; omega) (by omega) hNT (by omega) (fun j hj => (hcw2.block j (by have := hTl j hj; omega) (fun h => (hS j h).2 hj)).trans (hT j hj))
          (fun j hj => ⟨(hS2 j hj).2, fun ht => (hS2 j hj).1.elim (fun h => (hS1T j h).2 ht) (fun h => by have := hTl j ht; omega)⟩) hBy2 hBw2 (fun h => (hS2 _ h).1.elim n1y (by omega)) (fun h => (hS2 _ h).1.elim n1w (by omega)) ?_ hj2 (fun S3 w3 hc3 hS3 hj3 => ?_) (fun S3 w3 hc3 hS3 hjx => ?_)
        · refine List.IsPrefix.trans ?_ hpre
          rw [heq]
          exact ⟨placesF r d (decide (k = 1)), by simp⟩
        · refine ⟨true, rfl, ?_⟩
          have hBx3 := hc3.blk hBx2 n2x
          refine ⟨k, (blk4 hBx3).1, r.len, by simp, _, r, _, S3, e1, i1, rfl, chg_then hcw2 hc3 fun i hi hh => (hS2w i hh).1.elim id fun h => by omega, fun j hj => ⟨(hS3 j hj).1.elim (fun h => (hS2w j h).1) (fun h => .inr (by omega)), (hS3 j hj).2⟩, hj3, ?_⟩
          rw [heq]; simp
        · exact ⟨false, rfl, hstop S3 _ (chg_then hcw2 hc3 fun i hi hh => (hS2w i hh).1.elim id fun h => by omega) (fun j hj => ⟨(hS3 j hj).1.elim (fun h => (hS2w j h).1) (fun h => .inr (by omega)), (hS3 j hj).2⟩) hjx⟩
      · rw [if_neg (by omega)] at heq
        refine ⟨k, y0, r.len, by simp, _, r, _, S2, e1, i1, rfl, hcw2, hS2w, hj2, ?_⟩
        rw [heq]; simp
    · exact ⟨false, rfl, hstop S2 _ hcw2 hS2w hjx⟩
  · obtain ⟨rfl, rfl⟩ := Fo.last hpr (by omega)
    have e : xs' = pre ++ placesF p d false := by rw [heq]; simp [placesF]
    rw [e] at hjW
    exact hend S1 _ hcW hS1 hjW

theorem places_iterO {T : Nat → Prop} (f : Fo) (hs : small f) {a : Option Addr} {n c : Nat} (b : Nat) (w : World) (hTl : ∀ k, T k → k < w.heap.size) (hb : Blk w b [.slice a n c] 22) (hf : SlF T w a n f) (hbT : T b) :
    IterO Tryz.prog F_transcript_places_1 [.pointer (some ⟨b, 0, none⟩)] (placesF f 0 false) (PlE T w) T w := by
  intro yf ya yb S0 J Jx R hS hJ hJx hbody h0 hend hstop
  apply c_transcript_places_1
  refine al_intro fun ty w1 hty hBy e1 s1 => ?_
  refine al_intro fun tw w1' htw hBw' e2' s2' => ?_
  refine stL_one hBw' rfl fun w2 hBw hcc hss => ?_
  have e2 : Ext w1 w2 := ext_chgS e2' hcc fun k hk => by omega
  have E := ext_trans e1 e2
  refine ⟨.func 103, ⟨[]⟩, ⟨[.pointer (some ⟨ty, 0, none⟩), .pointer (some ⟨tw, 0, none⟩)]⟩, by rw [hBw.cell]; rfl, dr_ok ⟨a, n, c, by rw [((hb.ext e1).ext e2).cell]; rfl, by kernel_rfl, ?_⟩⟩
  have hz := E.size
  have hz1 := e1.size
  refine places_walkO (w0 := w) (xs := placesF f 0 false) hTl hJ hbody f (S := S0) 0 [] hs (by omega) hf hz (fun k hk => E.block k (hTl k hk)) (fun k hk => ⟨by have := (hS k hk).1; omega, (hS k hk).2⟩) (hBy.ext e2) hBw (fun h => by have := (hS _ h).1; omega) (fun h => by have := (hS _ h).1; omega) (List.prefix_refl _)
    (hJ _ _ _ _ h0 (Chg.of_ext E)) (fun S' W' hc hS' hj => ?_) (fun S' W' hc hS' hjx => ?_)
  · exact ⟨_, rfl, hend S' _ (Nat.le_trans hz hc.size) hj⟩
  · exact ⟨_, rfl, hstop S' _ (Nat.le_trans hz hc.size) hjx⟩

/- the characters -/
def charsP (l : List Pl) : List UInt8 := l.flatMap fun x => if x.k = 1 then x.t else []
def charsF : Fo → List UInt8
  | .nil => []
  | .cons k t _ ps r => (if k = 1 then t else []) ++ charsF ps ++ charsF r
theorem charsF_tlen : ∀ f : Fo, (charsF f).length ≤ tlen f
  | .nil => Nat.le_refl _
  | .cons k t n ps r => by
    have h1 := charsF_tlen ps
    have h2 := charsF_tlen r
    simp only [charsF, List.length_append, tlen]
    split <;> simp <;> omega
theorem charsP_snoc (l : List Pl) (x : Pl) : charsP (l ++ [x]) = charsP l ++ if x.k = 1 then x.t else [] := by simp [charsP]
theorem chars_places : ∀ (f : Fo) (d : Nat) (b : Bool), f.depth + d ≤ 16 → charsP (placesF f d b) = charsF f
  | .nil, _, _, _ => rfl
  | .cons k t n ps r, d, b, h => by
    rw [Fo.depth_parts] at h
    have i2 := chars_places r d (decide (k = 1)) (by omega)
    simp only [placesF, charsF]
    rw [if_pos (by omega)]
    unfold charsP at i2 ⊢
    simp only [List.flatMap_cons, List.flatMap_append, i2, List.append_assoc]
    congr 2
    by_cases hp : ps.len = 0
    · have e' := Fo.eq_nil_of_len hp
      subst e'
      rfl
    · rw [if_neg hp] at h
      exact chars_places ps (d + 1) false (by omega)
theorem blk6 {w : World} {b : Nat} {v0 v1 v2 v3 v4 v5 : Value} {T : TypeId} (h : Blk w b [v0, v1, v2, v3, v4, v5] T) :
    w.cell? ((⟨b, 0, none⟩ : Addr).add 0 |>.add 0) = some v0 ∧ w.cell? ((⟨b, 0, none⟩ : Addr).add 0 |>.add 1) = some v1 := by
  simp only [add_none, h.cell]; exact ⟨rfl, rfl⟩
theorem charsP_prefix {pre : List Pl} {x : Pl} {l : List Pl} (h : pre ++ [x] <+: l) : (charsP pre).length + (if x.k = 1 then x.t else []).length ≤ (charsP l).length := by
  obtain ⟨t, rfl⟩ := h
  simp only [charsP, List.flatMap_append, List.length_append, List.flatMap_cons, List.flatMap_nil, List.append_nil]
  omega

theorem String_spec' {R : Ending → World → Prop} {w : World} {b : Nat} {a : Option Addr} {l : List UInt8} (h : BldAt w b a l) (hk : ∀ w', Below b w w' → Lib.OthersKept 5 (some b) w w' → R (.returned (.string ⟨⟨l⟩⟩)) w') : Calls Tryz.prog F_strings_Builder_String ⟨[.pointer (some ⟨b, 0, none⟩)]⟩ w R := by
  refine (Tryz.Builder_String_any_k b b l w (Lib.IsBuilderF.of h.isB) (by have := h.lt; omega)).mono ?_
  rintro e w' ⟨rfl, _, hb, ho⟩
  exact hk w' hb ho
set_option maxRecDepth 20000 in
theorem Characters_spec {R : Ending → World → Prop} {S : Nat → Prop} {w : World} {a : Option Addr} {n c : Nat} (f : Fo) (hs : small f) (hF : Forms w) (hf0 : SlF S w a n f)
    (h : ∀ w', Ext w w' → R (.returned (.tuple ⟨[.string ⟨⟨if checkT f ≠ 0 then [] else charsF f⟩⟩, .int .i64 (if checkT f ≠ 0 then 1 else 0)]⟩)) w') :
    Calls Tryz.prog F_transcript_Characters ⟨[.slice a n c]⟩ w R := by
  apply c_transcript_Characters
  refine Check22_spec f hs hf0 hF fun w1 e1 => ⟨_, rfl, br_split (fun g => ?_) (fun g => ?_)⟩
  · rw [if_pos g, if_pos g] at h; exact h _ e1
  rw [if_neg g, if_neg g] at h
  have hc0 : checkT f = 0 := Decidable.not_not.1 g
  obtain ⟨q1, q2, q3⟩ := check_zero hc0
  have hdep : f.depth ≤ 16 := by
    unfold checkT at hc0
    split at hc0
    · rename_i hh; exact hh.2
    · cases hc0
  have hch := chars_places f 0 false (by omega)
  have hcl := charsF_tlen f
  refine al_intro fun b5 w2 hb5 B5 e2 s2 => ?_
  have E2 := ext_trans e1 e2
  have z1 := e1.size
  refine places_spec fun bs w4 Bs e4 hbs => ⟨_, _, _, rfl, fun base => ?_⟩
  have E4 := ext_trans E2 e4
  have z4 := E4.size
  have z24 := e4.size
  have ls := Bs.lt
  have hf : SlF (fun k => S k ∧ k < w.heap.size) w a n f := hf0.imp fun k hk hl => ⟨hk, hl⟩
  have hbld : BldAt w4 b5 none [] := ⟨.pointer none, 0, B5.ext e4, .inl rfl, Owns.nil _ _ _ _⟩
  rw [cd_transcript_Characters_1]
  refine RFw_lawO anA_transcript_Characters_1 anB_transcript_Characters_1 (gf := F_transcript_places_1) rfl (by kernel_rfl) (xs := placesF f 0 false) (E := PlE (fun k => (S k ∧ k < w.heap.size) ∨ k = bs) w4) (Rd := fun k => (S k ∧ k < w.heap.size) ∨ k = bs)
    (fun v1 he => (places_iterO f hs bs v1 (fun k hk => by have := he.size; omega) (Bs.ext he) ((hf.ext (ext_trans E4 he)).imp fun k hk _ => .inl hk) (.inr rfl)).mono ?_) (fun y vs hE => by obtain ⟨a', c', rfl, _⟩ := hE; rfl) (by decide) (fun k hk => by omega) (fun k => k = b5) (fun k hk => by omega)
    (fun pre S1 W => ∃ bo : Option Addr, BldAt W b5 bo (charsP pre) ∧ (∀ k, S1 k ↔ k = b5 ∨ bk bo k) ∧ Ext w W ∧ (∀ k, bk bo k → w4.heap.size ≤ k)) (fun _ _ => False) (fun _ _ => False)
    ?_ (fun _ _ _ h => h.elim) (fun _ _ _ h => h.elim) ⟨none, hbld, fun k => by simp [bk], E4, fun k hk => by simp [bk] at hk⟩ ?_ ?_ (fun _ _ _ _ _ _ _ h => h.elim) (fun _ _ _ _ _ _ _ h => h.elim)
  · rintro x vs ⟨a', c', rfl, hsl⟩
    exact ⟨a', c', rfl, hsl.keep' fun k hk hl => ⟨hk, by omega, ((he.block k (by omega))).symm⟩⟩
  · rintro pre S1 W W' ⟨bo, g1, g2, g3, g4⟩ hc
    exact ⟨bo, g1.chg hc (fun hh => hh.2 ((g2 _).2 (.inl rfl))) (fun k hk hh => hh.2 ((g2 k).2 (.inr hk))), g2, ext_chgS g3 hc (fun k hk => by omega), g4⟩
  · rintro pre ⟨k1, t1, m1, ps1, d1, x1⟩ vs S1 W l ⟨a', c', rfl, hsl⟩ hpre hl1 hl2 hl3 hS1 ⟨bo, g1, g2, g3, g4⟩
    refine Eq.mpr (er_transcript_Characters_1 base _ _ _ _ _ _ _ _ _ _ _ _ _ _ _ _ _ _ _) ?_
    refine al_stL (by simp) (by intro u hu; simp only [List.mem_cons, List.not_mem_nil, or_false] at hu; rcases hu with rfl | rfl | rfl | rfl | rfl | rfl <;> rfl) fun bx W1 hbx hBx ex sx => ?_
    refine ⟨ex, fun W2 hU => ?_⟩
    have zx := ex.size
    have zU := hU.size
    have hX2 := upd_blk hU hBx (by omega)
    obtain ⟨x0, x1'⟩ := blk6 hX2
    have hUc : Chg (fun k => k = l) W1 W2 := ⟨hU.os, hU.tape, hU.output, by omega, fun k _ hk => hU.block k hk⟩
    have hWc : Chg (fun k => k = l) W W2 := (Chg.of_ext ex).trans hUc
    have nl : ∀ k, S1 k → k ≠ l := fun k hk he => hl3 (he ▸ hk)
    have h1 := g1.chg hWc (nl _ ((g2 _).2 (.inl rfl))) (fun k hk => nl _ ((g2 k).2 (.inr hk)))
    have E2' : Ext w W2 := ext_chgS g3 hWc fun k hk => by omega
    have hlen := charsP_prefix hpre
    rw [hch] at hlen
    refine ⟨k1, x0, br_split (fun q => ?_) (fun q => ?_)⟩
    · replace hlen : (charsP pre).length + t1.length ≤ (charsF f).length := by simpa [show k1 = 1 from q] using hlen
      refine ⟨t1, x1', WriteString_spec h1 (by omega) fun a'' w'' hb'' hk'' hc'' => ⟨_, _, rfl, ?_⟩⟩
      have z'' := hc''.size
      have hSS : ∀ k, (k = b5 ∨ bk a'' k) → (S1 k ∨ W.heap.size ≤ k) ∧ k < w''.heap.size := fun k hk => by
        rcases hk with rfl | hk
        · exact ⟨.inl ((g2 _).2 (.inl rfl)), hb''.lt⟩
        · exact ⟨(hk'' k hk).elim (fun h => .inl ((g2 k).2 (.inr h))) (fun h => .inr (by omega)), (hb''.bk hk).2⟩
      refine ⟨hc''.mono fun k _ hk => .inl ((g2 k).2 hk), fun k => k = b5 ∨ bk a'' k, hSS, a'', ?_, fun k => Iff.rfl, ext_chgS E2' hc'' fun k hk => hk.elim (fun h => by omega) (fun h => by have := g4 k h; omega), fun k hk => (hk'' k hk).elim (g4 k) (fun h => by omega)⟩
      rw [charsP_snoc, if_pos q]; exact hb''
    · refine ⟨Chg.refl _ _, S1, fun k hk => ⟨.inl hk, by have := (hS1 k hk).1; omega⟩, bo, ?_, g2, E2', g4⟩
      rw [charsP_snoc, if_neg q, List.append_nil]; exact h1
  · rintro D S1 W hD1 hD2 hD3 hD4 ⟨bo, g1, g2, g3, g4⟩
    rw [hch] at g1
    have hDb : some D ≠ some b5 := fun e => by have e' := Option.some.inj e; omega
    refine String_spec' g1 fun w5 hbel hok => ⟨_, rfl, retD_one (D := D) (hok D _ hD4 hDb (fun _ _ e => by cases e)) ?_⟩
    have Ew : Ext w w5 := g3.trans (hbel.mono (by omega))
    exact h _ (ext_put Ew (by omega) _)
end Go.Proofs
namespace Go.Proofs
open Go Go.Sh Go.RowKit

/- leaving out bytes -/
theorem sadd_ok {a b : List UInt8} {K : List UInt8 → Prop} (h : a.length + b.length ≤ 9223372036854775807) (hK : K (a ++ b)) : sadd a b K := ⟨h, hK⟩

/- the plain law -/
end Go.Proofs
namespace Go.Proofs
open Go Go.Sh Go.RowKit

def stF (f : Fo) (h : Int) : Fo := mergeF (resolveF f h false)
/- rows of integers -/
end Go.Proofs
namespace Go.Proofs
open Go Go.Sh Go.RowKit

def hle (a : Int) : Fo → Prop
  | .nil => True
  | .cons k _ n ps r => ((k = 8 ∨ k = 9) → n ≤ a) ∧ hle a ps ∧ hle a r
theorem most_ge : ∀ (l : List Nn) (m : Int), m ≤ l.foldl (fun m (x : Nn) => if x.k = 8 ∨ x.k = 9 then max m x.n else m) m ∧ ∀ x ∈ l, (x.k = 8 ∨ x.k = 9) → x.n ≤ l.foldl (fun m (x : Nn) => if x.k = 8 ∨ x.k = 9 then max m x.n else m) m
  | [], m => ⟨Int.le_refl _, fun x hx => by simp at hx⟩
  | y :: l, m => by
    simp only [List.foldl_cons, List.mem_cons]
    obtain ⟨h1, h2⟩ := most_ge l (if y.k = 8 ∨ y.k = 9 then max m y.n else m)
    refine ⟨Int.le_trans ?_ h1, ?_⟩
    · split <;> omega
    · rintro x (rfl | hx) hk
      · rw [if_pos hk] at h1 ⊢; omega
      · exact h2 x hx hk
theorem most_le (b : Int) : ∀ (l : List Nn) (m : Int), m ≤ b → (∀ x ∈ l, (x.k = 8 ∨ x.k = 9) → x.n ≤ b) → l.foldl (fun m (x : Nn) => if x.k = 8 ∨ x.k = 9 then max m x.n else m) m ≤ b
  | [], m, h, _ => h
  | y :: l, m, h, hl => by
    simp only [List.foldl_cons]
    refine most_le b l _ ?_ fun x hx => hl x (by simp [hx])
    split
    · rename_i hk; have := hl y (by simp) hk; omega
    · exact h
theorem hands_nodes : ∀ {w : Bool} {f : Fo}, okF w f → ∀ x ∈ nodesF f, (x.k = 8 ∨ x.k = 9) → 1 ≤ x.n ∧ x.n ≤ 8
  | _, .nil, _, x, hx, _ => by simp [nodesF] at hx
  | w, .cons k t n ps r, ⟨h1, h2, h3⟩, x, hx, hk => by
    simp only [nodesF, List.mem_cons, List.mem_append] at hx
    rcases hx with rfl | hx | hx
    · simp only at hk ⊢
      unfold singleF at h1
      split at h1
      · cases h1
      split at h1
      · cases h1
      rw [if_neg (by omega), if_neg (by omega), if_neg (by omega), if_neg (by omega)] at h1
      try rw [if_pos hk] at h1
      split at h1
      · cases h1
      · omega
    · exact hands_nodes h2 x hx hk
    · exact hands_nodes h3 x hx hk
theorem FineF.most {f : Fo} (h : FineF f) : 0 ≤ mostN (nodesF f) ∧ mostN (nodesF f) ≤ 8 :=
  ⟨(most_ge (nodesF f) 0).1, most_le 8 _ 0 (by decide) fun x hx hk => (hands_nodes h.ok x hx hk).2⟩
end Go.Proofs
namespace Go.Proofs
open Go Go.Sh Go.RowKit

end Go.Proofs
namespace Go.Proofs
open Go Go.Sh Go.RowKit

/- the nodes of a list in order, with whether they are within unclear ones -/
end Go.Proofs
namespace Go.Proofs
open Go Go.Sh Go.RowKit

/- no additions and deletions -/
/- the pattern -/
/- Pattern -/
end Go.Proofs
namespace Go.Proofs
open Go Go.Sh Go.RowKit

end Go.Proofs
namespace Go.Sh
open Go Go.RowKit

/- entering a round: the loop's variable is laid, the record turns -/
theorem round_in {W : World} {T : TypeId} {zs vs : List Value} {l : Nat} {B : Addr → World → World → Prop} (hl : l < W.heap.size) (hlen : vs.length = zs.length) (ho : ∀ v ∈ vs, v.oneCell' = true)
    (h : ∀ bx W1 W2, bx = W.heap.size → Ext W W1 → Blk W2 bx vs T → Chg (fun k => k = l) W W2 → W2.heap.size = bx + 1 → B ⟨bx, 0, none⟩ W1 W2) :
    al W T zs fun p w1 => stL w1 p 0 vs fun w2 => Ext W w2 ∧ ∀ W2 : World, Upd l w2 W2 → B p w2 W2 := by
  refine al_stL hlen ho fun bx w1 hbx hBx e2 s2 => ⟨e2, fun W2 hU => ?_⟩
  have zU := hU.size
  have hUc : Chg (fun k => k = l) w1 W2 := ⟨hU.os, hU.tape, hU.output, by omega, fun k _ hk => hU.block k hk⟩
  exact h bx w1 W2 hbx e2 (hBx.keep (hU.block bx (by omega))) ((Chg.of_ext e2).trans hUc) (by omega)

/- a loop over an iterator that counts in one cell -/
theorem RFw_count {α : Type} {P : Program} {N : Nat} {g : Operand} {ps : Array Tmp} {assign body : Code} {env : Env} {ds : List Deferred} {w : World} {x : Nat} {Qn Qr Qx : List Deferred → World → Prop}
    (xA xB : Ann) {gf : FuncId} {cap : List Value} (hg : ev env g = .func (.func gf) ⟨[]⟩ ⟨cap⟩) (hok : okFn P gf = true)
    {xs : List α} {E : α → List Value → Prop} {Rd : Nat → Prop} (hit : ∀ w1, Ext w w1 → IterO P gf cap xs E Rd w1)
    (hps : ∀ y vs, E y vs → vs.length = ps.size) (hpN : ∀ p ∈ ps.toList, p < N)
    (hRd : ∀ k, Rd k → k < w.heap.size) {w0 : World} (hw0 : Ext w0 w) {b5 : Nat} {T5 : TypeId} (h0 : w0.heap.size ≤ b5) (hn5 : ¬ Rd b5) (val : List α → Int) (B5 : Blk w b5 [.int .i64 (val [])] T5)
    (hround : ∀ pre y vs W l, E y vs → pre ++ [y] <+: xs → w.heap.size ≤ l → l < W.heap.size → b5 ≠ l → Blk W b5 [.int .i64 (val pre)] T5 → Ext w0 W →
      ∀ Kn Kr Kx : World → World → Prop, (∀ W2 W', Ext w0 W2 → Chg (fun k => k = b5) W2 W' → Blk W' b5 [.int .i64 (val (pre ++ [y]))] T5 → Kn W2 W') → fragV P N xA xB assign body l x Kn Kr Kx (updPs ps.toList vs env) W)
    (hn : ∀ D W, w.heap.size ≤ D → D < W.heap.size → b5 ≠ D → W.heap[D]? = some (.deferred (some [])) → Blk W b5 [.int .i64 (val xs)] T5 → Ext w0 W → Qn ({ target := .collected D, args := #[] } :: ds) W) :
    RFw P none N (.rangeFunc g ps assign body) env ds w x Qn Qr Qx := by
  have l5 := B5.lt
  refine RFw_lawO xA xB hg hok (xs := xs) (E := E) (Rd := Rd) hit hps hpN hRd (fun k => k = b5) (fun k hk => ⟨hk ▸ l5, hk ▸ hn5⟩)
    (fun pre S1 W => Blk W b5 [.int .i64 (val pre)] T5 ∧ (∀ k, S1 k ↔ k = b5) ∧ Ext w0 W) (fun _ _ => False) (fun _ _ => False)
    ?_ (fun _ _ _ h => h.elim) (fun _ _ _ h => h.elim) ⟨B5, fun k => Iff.rfl, hw0⟩ ?_ ?_ (fun _ _ _ _ _ _ _ h => h.elim) (fun _ _ _ _ _ _ _ h => h.elim)
  · rintro pre S1 W W' ⟨g1, g2, g3⟩ hc
    have z := hw0.size
    refine ⟨hc.blk g1 (fun hh => hh.2 ((g2 _).2 rfl)), g2, ?_⟩
    exact g3.trans ⟨hc.os, hc.tape, hc.output, hc.size, fun k hk => hc.block k (Nat.lt_of_lt_of_le hk g3.size) (fun hh => by have := hh.1; omega)⟩
  · rintro pre y vs S1 W l hE hpre hl1 hl2 hl3 hS1 ⟨g1, g2, g3⟩
    have nl : b5 ≠ l := fun he => hl3 ((g2 l).2 he.symm)
    refine hround pre y vs W l hE hpre hl1 hl2 nl g1 g3 _ _ _ fun W2 W' he hc hb => ⟨hc.mono fun k _ hk => .inl ((g2 k).2 hk), fun k => k = b5, fun k hk => ⟨.inl ((g2 k).2 hk), hk ▸ hb.lt⟩, hb, fun k => Iff.rfl, ?_⟩
    exact he.trans ⟨hc.os, hc.tape, hc.output, hc.size, fun k hk => hc.block k (Nat.lt_of_lt_of_le hk he.size) (fun hh => by omega)⟩
  · rintro D S1 W hD1 hD2 hD3 hD4 ⟨g1, g2, g3⟩
    exact hn D W hD1 hD2 (fun he => hD3 ((g2 D).2 he.symm)) hD4 g1 g3
end Go.Sh
namespace Go.Sh
open Go Go.RowKit

/- how the elements of a slice lie in cells -/
structure Enc (α : Type) where
  enc : α → List Value
  size : Nat
  len : ∀ x, (enc x).length = size
  pos : 0 < size
  one : ∀ x, ∀ v ∈ enc x, v.oneCell' = true
section
variable {α : Type} {E : Enc α}
def Enc.row (E : Enc α) (l : List α) : List Value := l.flatMap E.enc
@[simp] theorem row_nil : E.row [] = [] := rfl
theorem row_cons (x : α) (l : List α) : E.row (x :: l) = E.enc x ++ E.row l := rfl
theorem row_app (l m : List α) : E.row (l ++ m) = E.row l ++ E.row m := by simp [Enc.row]
theorem row_snoc (l : List α) (x : α) : E.row (l ++ [x]) = E.row l ++ E.enc x := by simp [Enc.row]
theorem row_len : ∀ l : List α, (E.row l).length = l.length * E.size
  | [] => by simp
  | x :: l => by rw [row_cons, List.length_append, E.len, row_len l, List.length_cons, Nat.add_mul, Nat.one_mul]; omega
theorem row_one (l : List α) : ∀ v ∈ E.row l, v.oneCell' = true := by
  intro v hv
  obtain ⟨x, _, hx⟩ := List.mem_flatMap.1 hv
  exact E.one x v hx
theorem row_get {x : α} : ∀ {l : List α} {i j : Nat}, l[i]? = some x → j < E.size → (E.row l)[i * E.size + j]? = (E.enc x)[j]?
  | [], i, j, h, _ => by simp at h
  | y :: l, 0, j, h, hj => by
    simp at h; subst h
    rw [row_cons, Nat.zero_mul, Nat.zero_add, List.getElem?_append_left (by rw [E.len]; exact hj)]
  | y :: l, i + 1, j, h, hj => by
    simp at h
    rw [row_cons, List.getElem?_append_right (by rw [E.len, Nat.add_mul, Nat.one_mul]; omega), E.len, show (i + 1) * E.size + j - E.size = i * E.size + j by rw [Nat.add_mul, Nat.one_mul]; omega]
    exact row_get h hj
theorem putAt_app : ∀ (vs : List Value) (a b : List Value) (o : Nat), putAt (a ++ b) (a.length + o) vs = a ++ putAt b o vs
  | [], a, b, o => rfl
  | v :: vs, a, b, o => by
    rw [putAt, putAt, List.set_append_right _ _ (by omega), show a.length + o - a.length = o by omega, Nat.add_assoc, putAt_app vs a (b.set o v) (o + 1)]
theorem putAt_head : ∀ (vs a : List Value) (rest : List Value), vs.length = a.length → putAt (a ++ rest) 0 vs = vs ++ rest := by
  intro vs a rest h
  apply List.ext_getElem?
  intro i
  rw [putAt_get]
  by_cases hi : i < vs.length
  · rw [if_pos ⟨by omega, by omega, by simp; omega⟩, List.getElem?_append_left (by omega)]; simp
  · rw [if_neg (by omega), List.getElem?_append_right (by omega), List.getElem?_append_right (by omega), h]
theorem row_put {x : α} {rest : List Value} : ∀ {l : List α} {i : Nat}, i < l.length → putAt (E.row l ++ rest) (i * E.size) (E.enc x) = E.row (l.set i x) ++ rest
  | [], i, h => by simp at h
  | y :: l, 0, h => by
    rw [Nat.zero_mul, row_cons, List.set_cons_zero, row_cons, List.append_assoc, putAt_head _ _ _ (by rw [E.len, E.len]), List.append_assoc]
  | y :: l, i + 1, h => by
    rw [row_cons, List.set_cons_succ, row_cons, List.append_assoc, List.append_assoc, show (i + 1) * E.size = (E.enc y).length + i * E.size by rw [E.len, Nat.add_mul, Nat.one_mul]; omega, putAt_app, row_put (by simpa using h)]

/- a slice that can be read -/
def RowAt (E : Enc α) (S : Nat → Prop) (w : World) (a : Option Addr) (n : Nat) (l : List α) : Prop := n = l.length ∧ At S w a (E.row l)
section
variable {S S' : Nat → Prop} {w w' : World} {a : Option Addr} {n : Nat} {l : List α}
theorem RowAt.keep (h : RowAt E S w a n l) (hs : ∀ k, S k → k < w.heap.size → S' k ∧ w'.heap[k]? = w.heap[k]?) (hz : w.heap.size ≤ w'.heap.size) : RowAt E S' w' a n l := ⟨h.1, h.2.keep hs hz⟩
theorem RowAt.ext (h : RowAt E S w a n l) (he : Ext w w') : RowAt E S w' a n l := h.keep (fun k hk hl => ⟨hk, he.block k hl⟩) he.size
theorem RowAt.chg {T : Nat → Prop} (h : RowAt E S w a n l) (he : Chg T w w') (hd : ∀ k, S k → ¬ T k) : RowAt E S w' a n l := h.keep (fun k hk hl => ⟨hk, he.block k hl (hd k hk)⟩) he.size
theorem RowAt.imp (h : RowAt E S w a n l) (hs : ∀ k, S k → k < w.heap.size → S' k) : RowAt E S' w a n l := h.keep (fun k hk hl => ⟨hs k hk hl, rfl⟩) (Nat.le_refl _)
theorem RowAt.nil (a : Option Addr) : RowAt E S w a 0 [] := ⟨rfl, .inl rfl⟩
theorem RowAt.get (h : RowAt E S w a n l) {i : Nat} {x : α} (hi : l[i]? = some x) :
    ∃ b o, (∀ K : Addr → Prop, K ⟨b, o, none⟩ → idx a n (i : Int) E.size K) ∧ S b ∧ b < w.heap.size ∧ ∀ j v, (E.enc x)[j]? = some v → w.cell? ⟨b, o + j, none⟩ = some v := by
  have hlt := (List.getElem?_eq_some_iff.1 hi).1
  have hn := h.1
  rcases h.2 with h2 | ⟨b, o, rfl, hb, hbl, hc⟩
  · have := congrArg List.length h2
    rw [row_len] at this
    simp only [List.length_nil] at this
    rcases Nat.mul_eq_zero.1 this with h | h
    · omega
    · have := E.pos; omega
  refine ⟨b, o + i * E.size, fun K hK => ⟨by omega, by omega, ?_⟩, hb, hbl, fun j v hj => ?_⟩
  · show K _
    rw [add_none, Int.toNat_natCast]; exact hK
  · rw [Nat.add_assoc]
    refine hc _ _ ?_
    rw [row_get hi (by have := (List.getElem?_eq_some_iff.1 hj).1; rw [E.len] at this; exact this)]; exact hj
end

/- a slice that the call has made -/
abbrev OwnL (E : Enc α) (w : World) (B : Nat) (e : TypeId) (a : Option Addr) (n c : Nat) (l : List α) : Prop := Owns w B e E.size a n c (E.row l)
section
variable {w w' : World} {B : Nat} {e : TypeId} {a : Option Addr} {n c : Nat} {l : List α}
theorem OwnL.length (h : OwnL E w B e a n c l) : l.length = n := by
  have := h.len
  rw [row_len] at this
  exact Nat.eq_of_mul_eq_mul_right E.pos this
theorem OwnL.out (h : OwnL E w B e a n c l) : RowAt E (bk a) w a n l := by
  refine ⟨h.length.symm, ?_⟩
  by_cases hn : 0 < n
  · obtain ⟨g, rfl, hg, hc⟩ := h.cell hn
    exact .inr ⟨g, 0, rfl, by simp [bk], (h.bk (by simp [bk])).2, fun j v hj => by rw [Nat.zero_add]; exact hc j v hj⟩
  · have hx : l = [] := List.eq_nil_of_length_eq_zero (by rw [h.length]; omega)
    subst hx
    exact .inl rfl
theorem OwnL.push {P : Program} {t ty : TypeId} {bytes : Nat} {z : Value} (hT : SlT P t e E.size bytes z) (h : OwnL E w B e a n c l) (hB : B ≤ w.heap.size) (x : α) (hlen : n + 1 ≤ 4611686018427387904) (hbytes : (n + 1) * bytes ≤ 140737488355328) {K : Option Addr → Nat → Nat → World → Prop}
    (hk : ∀ a' c'' w', OwnL E w' B e a' (n + 1) c'' (l ++ [x]) → Chg (bk a) w w' → (∀ k, bk a' k → bk a k ∨ w.heap.size ≤ k) → K a' (n + 1) c'' w') :
    al w e (E.enc x) fun p w1 => app P [t, t] ty (.slice a n c) (.slice (some p) 1 1) w1 K :=
  app_one2 hT h hB _ (E.len x) (E.one x) hlen hbytes fun a' c'' w' ho hc hn => hk a' c'' w' (by unfold OwnL; rw [row_snoc]; exact ho) hc hn
theorem OwnL.pushAll {P : Program} {t ty : TypeId} {bytes : Nat} {z : Value} (hT : SlT P t e E.size bytes z) (h : OwnL E w B e a n c l) (hB : B ≤ w.heap.size) {S : Nat → Prop} {a1 : Option Addr} {m c1 : Nat} {l' : List α} (hg : RowAt E S w a1 m l') (hlen : n + m ≤ 4611686018427387904) (hbytes : (n + m) * bytes ≤ 140737488355328) {K : Option Addr → Nat → Nat → World → Prop}
    (hk : ∀ a' c'' w', OwnL E w' B e a' (n + m) c'' (l ++ l') → Chg (bk a) w w' → (∀ k, bk a' k → bk a k ∨ w.heap.size ≤ k) → K a' (n + m) c'' w') :
    app P [t, t] ty (.slice a n c) (.slice a1 m c1) w K :=
  app_own2 hT h hB (E.row l') (by rw [row_len, ← hg.1]) hg.2 (row_one l') hlen hbytes fun a' c'' w' ho hc hn => hk a' c'' w' (by unfold OwnL; rw [row_app]; exact ho) hc hn
/- writing one element -/
theorem OwnL.store (h : OwnL E w B e a n c l) {i : Nat} (hi : i < n) (x : α) :
    ∃ g, a = some ⟨g, 0, none⟩ ∧ (∀ K : Addr → Prop, K ⟨g, i * E.size, none⟩ → idx a n (i : Int) E.size K) ∧
      ∀ K : World → Prop, (∀ w', OwnL E w' B e a n c (l.set i x) → Chg (bk a) w w' → w'.heap.size = w.heap.size → K w') → stL w ⟨g, i * E.size, none⟩ 0 (E.enc x) K := by
  have hl := h.length
  rcases h.2 with h1 | ⟨g, cap, cur, e1, e2, e3, e4, e5, e6, e7⟩
  · omega
  obtain ⟨rfl, _, rfl⟩ : a = some ⟨g, 0, none⟩ ∧ True ∧ c = cap := by simpa using e1
  have hB : Blk w g cur.toList e := e3
  have hcl : cur.toList.length = c * E.size := by simpa using e6
  have hcur : cur.toList = E.row l ++ cur.toList.drop (n * E.size) := by rw [← e7, List.take_append_drop]
  have hin : i * E.size + E.size ≤ n * E.size := by
    have : (i + 1) * E.size ≤ n * E.size := Nat.mul_le_mul_right _ hi
    rwa [Nat.add_mul, Nat.one_mul] at this
  have hnc : n * E.size ≤ c * E.size := Nat.mul_le_mul_right _ e4
  refine ⟨g, rfl, fun K hK => ⟨by omega, by omega, ?_⟩, fun K hK => ?_⟩
  · show K _
    rw [add_none, Int.toNat_natCast, Nat.zero_add]; exact hK
  refine stL_blk hB (by rw [E.len]; omega) (E.one x) fun w' b1 b2 b3 b4 b5 b6 => ?_
  have hc : Chg (bk (some (⟨g, 0, none⟩ : Addr))) w w' := ⟨b4, b5, b6, by omega, fun k' _ hk => b2 k' fun e => hk (by simp [bk, e])⟩
  rw [Nat.add_zero, hcur, row_put (by omega)] at b1
  refine hK w' ⟨by rw [row_len, List.length_set, hl], .inr ⟨g, c, ⟨_⟩, rfl, e2, b1, e4, e5, ?_, ?_⟩⟩ hc b3
  · show (E.row (l.set i x) ++ cur.toList.drop (n * E.size)).length = c * E.size
    rw [List.length_append, List.length_drop, hcl, row_len, List.length_set, hl]; omega
  · show List.take (n * E.size) (E.row (l.set i x) ++ _) = _
    rw [List.take_append_of_le_length (by rw [row_len, List.length_set, hl]; exact Nat.le_refl _), List.take_of_length_le (by rw [row_len, List.length_set, hl]; exact Nat.le_refl _)]
end

/- making a row of zeros -/
theorem row_replicate (x : α) (n : Nat) : E.row (List.replicate n x) = (List.replicate n (E.enc x)).flatten := by
  induction n with
  | zero => rfl
  | succ n ih => rw [List.replicate_succ, row_cons, ih, List.replicate_succ, List.flatten_cons]
theorem OwnL.made {w : World} {b B : Nat} {e : TypeId} {x : α} {n : Nat} (h : Blk w b (List.replicate n (E.enc x)).flatten e) (hB : B ≤ b) (hn : n ≤ maxLen) : OwnL E w B e (some ⟨b, 0, none⟩) n n (List.replicate n x) := by
  rw [← row_replicate] at h
  refine ⟨by rw [row_len, List.length_replicate], .inr ⟨b, n, _, rfl, hB, h, Nat.le_refl _, hn, ?_, ?_⟩⟩
  · show (E.row (List.replicate n x)).length = n * E.size
    rw [row_len, List.length_replicate]
  · show List.take _ (E.row _) = _
    rw [List.take_of_length_le (by rw [row_len, List.length_replicate]; exact Nat.le_refl _)]
end

/- the elements that occur -/
def encI : Enc Int := ⟨fun i => [.int .i64 i], 1, fun _ => rfl, by decide, by intro x v hv; simp only [List.mem_singleton] at hv; subst hv; rfl⟩
def encStr : Enc (List UInt8) := ⟨fun s => [.string ⟨⟨s⟩⟩], 1, fun _ => rfl, by decide, by intro x v hv; simp only [List.mem_singleton] at hv; subst hv; rfl⟩
end Go.Sh
namespace Go.Proofs
open Go Go.Sh Go.RowKit

/- the lost characters -/
end Go.Proofs
namespace Go.Proofs
open Go Go.Sh Go.RowKit

/- the unclear characters -/
/- the reference -/
end Go.Proofs
namespace Go.Proofs
open Go Go.Sh Go.RowKit

/- positions -/
abbrev Ps := List UInt8 × Int
def posN (at_ : Ps) (x : Nn) : Ps × Nat :=
  if x.k = 1 then (at_, x.t.length) else if x.k = 6 then (at_, x.n.toNat) else if x.k = 3 then ((x.t, 0), 0) else if x.k = 2 then ((at_.1, at_.2 + 1), 0) else (at_, 0)
def endL : Ps → List Nn → Ps
  | p, [] => p
  | p, x :: l => endL (posN p x).1 l
theorem endL_app : ∀ (l : List Nn) (p : Ps) (m : List Nn), endL p (l ++ m) = endL (endL p l) m
  | [], _, _ => rfl
  | x :: l, p, m => by simp only [List.cons_append, endL, endL_app l]
theorem endL_bd : ∀ (l : List Nn) (p : Ps) (B : Int), 0 ≤ p.2 → p.2 ≤ B → 0 ≤ B → 0 ≤ (endL p l).2 ∧ (endL p l).2 ≤ B + l.length
  | [], p, B, h0, h1, h2 => ⟨h0, by simp [endL]; omega⟩
  | x :: l, p, B, h0, h1, h2 => by
    rw [endL]
    have key : 0 ≤ (posN p x).1.2 ∧ (posN p x).1.2 ≤ B + 1 := by
      unfold posN
      split
      · exact ⟨h0, by show p.2 ≤ _; omega⟩
      · split
        · exact ⟨h0, by show p.2 ≤ _; omega⟩
        · split
          · exact ⟨Int.le_refl _, by show (0 : Int) ≤ _; omega⟩
          · split
            · exact ⟨by show 0 ≤ p.2 + 1; omega, by show p.2 + 1 ≤ _; omega⟩
            · exact ⟨h0, by show p.2 ≤ _; omega⟩
    have := endL_bd l (posN p x).1 (B + 1) key.1 key.2 (by omega)
    exact ⟨this.1, by simp only [List.length_cons]; omega⟩

structure PTo (b6 b10 : Nat) (oa : Option Addr) (W : World) (oa' : Option Addr) (W' : World) : Prop where
  chg : Chg (fun j => j = b6 ∨ j = b10 ∨ bk oa j) W W'
  bk : ∀ k, Sh.bk oa' k → Sh.bk oa k ∨ W.heap.size ≤ k
section
variable {b6 b10 B : Nat} {W W' W'' : World} {oa oa' oa'' : Option Addr} {L : List Ps} {p : Ps}
theorem PTo.refl (W : World) (oa : Option Addr) : PTo b6 b10 oa W oa W := ⟨Chg.refl _ _, fun _ h => .inl h⟩
theorem PTo.trans (h6 : b6 < W.heap.size) (h10 : b10 < W.heap.size) (h : PTo b6 b10 oa W oa' W') (k : PTo b6 b10 oa' W' oa'' W'') : PTo b6 b10 oa W oa'' W'' :=
  ⟨chg_then h.chg k.chg fun i hi hh => hh.elim .inl fun hh => hh.elim (fun e => .inr (.inl e)) fun hh => (h.bk i hh).elim (fun e => .inr (.inr e)) (fun e => by omega),
   fun j hj => (k.bk j hj).elim (h.bk j) (fun e => .inr (Nat.le_trans h.chg.size e))⟩
theorem PTo.ext (h : Ext W W') : PTo b6 b10 oa W oa W' := ⟨Chg.of_ext h, fun _ h => .inl h⟩
end

end Go.Proofs
namespace Go.Proofs
open Go Go.Sh Go.RowKit

theorem blk2 {w : World} {b : Nat} {v0 v1 : Value} {T : TypeId} (h : Blk w b [v0, v1] T) : w.cell? ((⟨b, 0, none⟩ : Addr).add 0) = some v0 ∧ w.cell? ((⟨b, 0, none⟩ : Addr).add 1) = some v1 := by
  simp only [add_none, h.cell]; exact ⟨rfl, rfl⟩

end Go.Proofs
namespace Go.Proofs
open Go Go.Sh Go.RowKit

/- rows of successive equal positions -/
/- where rows begin -/
/- characters within words -/
end Go.Proofs
namespace Go.Proofs
open Go Go.Sh Go.RowKit

end Go.Proofs
namespace Go.Proofs
open Go Go.Sh Go.RowKit

/- Positions -/
/- the example of the chapter -/
end Go.Proofs
namespace Go.Proofs
open Go Go.Sh Go.RowKit

/- whether a node of one of two kinds stands in a list -/
/- without pages and lines all stands at one place -/
end Go.Proofs
namespace Go.Proofs
open Go Go.Sh Go.RowKit

end Go.Proofs
namespace Go.Proofs
open Go Go.Sh Go.RowKit

/- where the characters of a position stand -/
end Go.Proofs
namespace Go.Proofs
open Go Go.Sh Go.RowKit

/- the characters of a position -/
end Go.Proofs
namespace Go.Proofs
open Go Go.Sh Go.RowKit

end Go.Proofs
namespace Go.Proofs
open Go Go.Sh Go.RowKit

/- growing the nil slice: room is made, nothing is held -/
end Go.Proofs
namespace Go.Proofs
open Go Go.Sh Go.RowKit

end Go.Proofs
namespace Go.Proofs
open Go Go.Sh Go.RowKit

end Go.Proofs
namespace Go.Proofs
open Go Go.Sh Go.RowKit

/- names of pages -/
end Go.Proofs
namespace Go.Proofs
open Go Go.Sh Go.RowKit

/- two lists with a verse between them -/
end Go.Proofs
namespace Go.Proofs
open Go Go.Sh Go.RowKit

end Go.Proofs
namespace Go.Sh
open Go Go.RowKit
open Go.WideElems (Fit)
open Go.Maps (Keyed)

/- a map that stands in a block, as a partial function of keys -/
def anyV : Value → Option (DataW Unit × List MemPlace) := fun _ => some (.nil, [])
def MapT {K V : Type} (P : Program) (k : TypeId) (eK : K → Value) (eV : V → Value) (w : World) (b n : Nat) (f : K → Option V) : Prop :=
  ∃ es clock, w.heap[b]? = some (.map es clock) ∧ Fit P k anyV es clock ∧ es.size ≤ n ∧
    ∀ x, (f x = none ∧ ∀ e ∈ es.toList, e.key ≠ eK x) ∨ ∃ v, f x = some v ∧ ∃ e ∈ es.toList, e.key = eK x ∧ e.val = eV v

section
variable {K V : Type} {P : Program} {k t e : TypeId} {eK : K → Value} {eV : V → Value} {w w' : World} {b n : Nat} {f : K → Option V}
theorem MapT.made (w : World) : MapT P k eK eV (w.alloc (.map #[] 0)) w.heap.size 0 (fun _ => none) :=
  ⟨#[], 0, (MapKept.heap_alloc w _).1, ⟨by simp, MapKept.stamped_empty 0, by simp⟩, Nat.le_refl _, fun x => .inl ⟨rfl, by simp⟩⟩
theorem MapT.lt (h : MapT P k eK eV w b n f) : b < w.heap.size := by
  obtain ⟨es, clock, hb, _⟩ := h
  exact (Array.getElem?_eq_some_iff.1 hb).1
theorem MapT.keep (h : MapT P k eK eV w b n f) (hw : w'.heap[b]? = w.heap[b]?) : MapT P k eK eV w' b n f := by
  obtain ⟨es, clock, hb, h⟩ := h
  exact ⟨es, clock, hw.trans hb, h⟩
theorem MapT.ext (h : MapT P k eK eV w b n f) (hw : Ext w w') : MapT P k eK eV w' b n f := h.keep (hw.block b h.lt)
theorem MapT.chg {S : Nat → Prop} (h : MapT P k eK eV w b n f) (hw : Chg S w w') (hs : ¬ S b) : MapT P k eK eV w' b n f := h.keep (hw.block b h.lt hs)
theorem MapT.mono (h : MapT P k eK eV w b n f) {m : Nat} (hm : n ≤ m) : MapT P k eK eV w b m f := by
  obtain ⟨es, clock, hb, F, hs, h⟩ := h
  exact ⟨es, clock, hb, F, Nat.le_trans hs hm, h⟩
theorem MapT.congr {g : K → Option V} (h : MapT P k eK eV w b n f) (hg : ∀ x, f x = g x) : MapT P k eK eV w b n g := by
  rw [← (funext hg : f = g)]; exact h

theorem MapT.look (h : MapT P k eK eV w b n f) (Kd : Keyed P k) (ht : P.underlying t = some (.map k e)) {z : Value} (hz : (zeroValue e).run P w = .ok z w) {x : K} {kl : Lit} (hkey : keyOf P k (eK x) = some kl) :
    lkAt P t (.map (some b)) (eK x) w (((f x).map eV).getD z) := by
  obtain ⟨es, clock, hb, F, _, hf⟩ := h
  unfold lkAt
  rcases Maps.fit_look false Kd ht hz hb F hkey with ⟨hrun, hno, _⟩ | ⟨e0, y, h1, h2, hrun, _⟩
  · rcases hf x with ⟨h0, _⟩ | ⟨v, _, e1, he1, hk1, _⟩
    · rw [h0]; exact hrun
    · exact absurd hk1 (hno e1 he1)
  · rcases hf x with ⟨_, h0⟩ | ⟨v, hv, e1, he1, hk1, hv1⟩
    · exact absurd h2 (h0 e0 h1)
    · rw [hv]
      have : e0 = e1 := by
        have hn : es.toList.Pairwise (fun x y => x.key ≠ y.key) := ((MapKept.stamped_iff es clock).1 F.stamped).2.2
        obtain ⟨i, hi, rfl⟩ := List.getElem_of_mem h1
        obtain ⟨j, hj, rfl⟩ := List.getElem_of_mem he1
        have : i = j := by
          apply Classical.byContradiction
          intro hne
          rcases Nat.lt_or_gt_of_ne hne with hl | hl
          · exact List.pairwise_iff_getElem.1 hn i j hi hj hl (h2.trans hk1.symm)
          · exact List.pairwise_iff_getElem.1 hn j i hj hi hl (hk1.trans h2.symm)
        subst this; rfl
      subst this
      rw [hv1] at hrun
      simpa using hrun
end
end Go.Sh
namespace Go.Proofs
open Go Go.Sh Go.RowKit

/- collect: calling a function with each node of a kind -/
def ofK (kind : Int) (f : Fo) : List Nn := (nodesF f).filter fun x => decide (x.k = kind)
theorem ofK_cons (kind : Int) (k t n) (ps r : Fo) : ofK kind (.cons k t n ps r) = (if k = kind then [⟨k, t, n, ps⟩] else []) ++ (ofK kind ps ++ ofK kind r) := by
  unfold ofK
  rw [nodesF, List.filter_cons, List.filter_append]
  by_cases h : k = kind
  · simp [h]
  · simp [h]
/- Pages -/
end Go.Proofs
namespace Go.Proofs
open Go Go.Sh Go.RowKit

/- what is written -/
/- Written -/
/- the reference: the same, where nodes of texts and gaps have no parts -/
end Go.Proofs
namespace Go.Proofs
open Go Go.Sh Go.RowKit

abbrev Rw := List UInt8 × List UInt8
def encRw : Enc Rw := ⟨fun x => [.string ⟨⟨x.1⟩⟩, .string ⟨⟨x.2⟩⟩], 2, fun _ => rfl, by decide, by intro x v hv; simp only [List.mem_cons, List.not_mem_nil, or_false] at hv; rcases hv with rfl | rfl <;> rfl⟩
end Go.Proofs
namespace Go.Proofs
open Go Go.Sh Go.RowKit

/- slices of strings and of pairs, out of what a row says of the arguments -/
theorem row_build {α : Type} {E : Enc α} {w : World} {a : Addr} {len : Nat} (hel : ∀ i, i < len → ∃ x : α, ∀ j v, (E.enc x)[j]? = some v → w.cell? ((a.add (i * E.size)).add j) = some v) :
    ∃ L : List α, RowAt E (fun _ => True) w (some a) len L := by
  by_cases hl0 : len = 0
  · subst hl0; exact ⟨[], RowAt.nil _⟩
  obtain ⟨b, o, rfl⟩ : ∃ b o, a = ⟨b, o, none⟩ := by
    obtain ⟨x, hx⟩ := hel 0 (by omega)
    have hp := E.pos
    have h0 := hx 0 _ (List.getElem?_eq_getElem (by rw [E.len]; exact hp))
    obtain ⟨b, o, spot⟩ := a
    have hspot : spot = none := by simpa [Addr.add] using World.cell?_spot h0
    subst hspot
    exact ⟨b, o, rfl⟩
  have build : ∀ k, k ≤ len → ∃ L : List α, L.length = k ∧ ∀ j v, (E.row L)[j]? = some v → w.cell? ((⟨b, o, none⟩ : Addr).add j) = some v := by
    intro k
    induction k with
    | zero => exact fun _ => ⟨[], rfl, fun j v hj => by simp at hj⟩
    | succ k ihk =>
      intro hk
      obtain ⟨L, hL, hus⟩ := ihk (by omega)
      obtain ⟨x, hx⟩ := hel k (by omega)
      refine ⟨L ++ [x], by simp [hL], fun j v hj => ?_⟩
      rw [row_snoc] at hj
      by_cases hlt : j < (E.row L).length
      · rw [List.getElem?_append_left hlt] at hj
        exact hus j v hj
      · rw [List.getElem?_append_right (by omega)] at hj
        have := hx _ _ hj
        rw [add_none, add_none] at this
        rw [row_len, hL] at this hlt
        rw [add_none, show o + j = o + k * E.size + (j - k * E.size) by omega]
        exact this
  obtain ⟨L, hL, hus⟩ := build len (Nat.le_refl _)
  refine ⟨L, hL.symm, ?_⟩
  cases hr : E.row L with
  | nil => exact .inl rfl
  | cons u us =>
    rw [hr] at hus
    have h0 := hus 0 u rfl
    refine .inr ⟨b, o, rfl, trivial, ?_, fun j v hj => ?_⟩
    · have := World.block_lt_of_cell? w _ h0
      simpa [Addr.add] using this
    · have := hus j v hj
      rw [add_none] at this; exact this
theorem len2 {α : Type} {l : List α} (h : l.length = 2) : ∃ a b, l = [a, b] := by
  match l, h with
  | [a, b], _ => exact ⟨a, b, rfl⟩
set_option maxRecDepth 20000 in
theorem open_rws {H : Type} {enc : TypeId × Value → H} {w : World} {base : Nat} {sp : Nat → Bool} {hd : Bool} (fuel : Nat) (cs : List Value) (x : DataW H × List MemPlace) (h : DataW.trod enc Tryz.prog w base sp hd fuel 23 cs = some x) :
    ∃ (a : Option Addr) (n c : Nat) (L : List Rw), cs = [.slice a n c] ∧ RowAt encRw (fun _ => True) w a n L := by
  rcases DataW.trod_slice Tryz.underlying23 h with ⟨rfl, _⟩ | ⟨a, len, cap, elems, rest, n, rfl, rfl, _, hb, hl, hm, hel, hall, _⟩
  · exact ⟨none, 0, 0, [], rfl, RowAt.nil _⟩
  have h9 : Tryz.prog.cellsOf 9 = 1 := by kernel_rfl
  have h2 : Tryz.prog.cellsOf 91 = 2 := by kernel_rfl
  obtain ⟨L, hL⟩ := row_build (E := encRw) (w := w) (a := a) (len := len) fun i hi => by
    have hh := hall i hi
    rw [List.getElem?_eq_getElem (by omega)] at hh
    obtain ⟨cs', hc1, hc2⟩ := Option.bind_eq_some_iff.1 hh
    rw [h2] at hc1
    obtain ⟨_, hlen, hcell⟩ := World.cells?_some hc1
    obtain ⟨xs, n', rfl, _, hcl, hxl, hf⟩ := DataW.trod_struct Tryz.underlying91 hc2
    obtain ⟨v0, v1, rfl⟩ := len2 hlen
    obtain ⟨y0, y1, rfl⟩ := len2 (show xs.length = 2 from hxl)
    have g0 := hf 0 _ rfl
    have g1 := hf 1 _ rfl
    try dsimp only at g0
    try simp only [h9] at g0
    try dsimp only at g1
    try simp only [h9] at g1
    obtain ⟨t, e0, _, _⟩ := DataW.trod_string Tryz.underlying9 g0
    obtain ⟨u, e1, _, _⟩ := DataW.trod_string Tryz.underlying9 g1
    simp [h9] at e0 e1
    subst e0 e1
    refine ⟨(t.data.toList, u.data.toList), fun j v hj => ?_⟩
    have hj2 : j < 2 := (List.getElem?_eq_some_iff.1 hj).1
    rw [show i * encRw.size = i * 2 from rfl, hcell j hj2]
    exact hj
  exact ⟨some a, len, cap, L, rfl, hL⟩
end Go.Proofs
namespace Go.Proofs
open Go Go.Sh Go.RowKit

/- lexemes -/
end Go.Proofs
namespace Go.Proofs
open Go Go.Sh Go.RowKit

end Go.Proofs
namespace Go.Proofs
open Go Go.Sh Go.RowKit

/- the parts of a string: characters up to the next <, and what stands from < to the next > -/
end Go.Proofs
namespace Go.Proofs
open Go Go.Sh Go.RowKit

end Go.Proofs
namespace Go.Proofs
open Go Go.Sh Go.RowKit

/- the tags: name, whether it is empty, the function of its value -/
end Go.Proofs
namespace Go.Proofs
open Go Go.Sh Go.RowKit

end Go.Proofs
namespace Go.Proofs
open Go Go.Sh Go.RowKit

/- numbers from 1 to most -/
theorem atoi_dec : ∀ i : Nat, i < 64 → Lib.atoiAll (Lib.decDigits (i + 1)) = .ok ((i + 1 : Nat) : Int) := by decide +kernel
/- the reference's reading of a number -/
/- the tags' names, forms and values -/
/- what stands in values -/
end Go.Proofs
namespace Go.Proofs
open Go Go.Sh Go.RowKit

/- reading a tag -/
/- the first of the bytes space and slash -/
/- the lexeme of a part -/
/- why lexemes are not valid -/
/- the lexeme at an offset -/
end Go.Proofs
namespace Go.Proofs
open Go Go.Sh Go.RowKit

/- what is read is what stands there -/
/- the parts of what lexemes are printed as -/
/- tags -/
end Go.Proofs
namespace Go.Proofs
open Go Go.Sh Go.RowKit

/- lexemes and offsets -/
/- the last lexeme that begins at the offset or before it decides -/
/- two strings, one after the other -/
/- characters of two strings -/
/- stripped strings -/
end Go.Proofs
namespace Go.Proofs
open Go Go.Sh Go.RowKit

/- lexemes with their right offsets -/
/- nesting asks for kinds and names alone -/
/- an empty tag in place of a tag -/
/- one tag alone -/
end Go.Proofs
namespace Go.Proofs
open Go Go.Sh Go.RowKit Go.Lib

section
variable (r : Int) (w : World) (h1 : 128 ≤ r) (h2 : r ≠ 65533) (hv' : Lib.validRune r = true)
set_option maxHeartbeats 4000000 in
set_option maxRecDepth 1000000 in
include h1 h2 hv' in
set_option maxHeartbeats 4000000 in
set_option maxRecDepth 1000000 in
include h1 h2 hv' in
set_option maxHeartbeats 4000000 in
set_option maxRecDepth 1000000 in
include h1 h2 hv' in
end
/- what a decoded rune takes up -/
end Go.Proofs
namespace Go.Proofs
open Go Go.Sh Go.RowKit Go.Lib

end Go.Proofs
namespace Go.Proofs
open Go Go.Sh Go.RowKit

/- what the library reads of the world: the variables of strings.Cut and strconv.Atoi -/
def Mk (w : World) : Prop := (∃ m, w.cell? ⟨G_internal_bytealg_MaxLen, 0, none⟩ = some (.int .i64 m)) ∧ (∃ t p, w.cell? ⟨G_strconv_ErrSyntax, 0, none⟩ = some (.iface t p)) ∧ (∃ t p, w.cell? ⟨G_strconv_ErrRange, 0, none⟩ = some (.iface t p))
theorem cell_ext {w w' : World} {a : Addr} {v : Value} (h : w.cell? a = some v) (he : Ext w w') : w'.cell? a = some v := by
  rw [he.cell (World.block_lt_of_cell? w _ h)]; exact h
theorem Mk.ext {w w' : World} (h : Mk w) (he : Ext w w') : Mk w' := by
  obtain ⟨⟨m, h1⟩, ⟨t, p, h2⟩, ⟨t', p', h3⟩⟩ := h
  exact ⟨⟨m, cell_ext h1 he⟩, ⟨t, p, cell_ext h2 he⟩, ⟨t', p', cell_ext h3 he⟩⟩

theorem ifc_nil {K : Bool → Prop} (h : K true) : ifc .nilIface K := h
theorem ifc_some {K : Bool → Prop} {t : TypeId} {v : Value} (h : K false) : ifc (.iface t v) K := h
variable {R : Ending → World → Prop} {w : World}
end Go.Proofs
namespace Go.Sh
open Go Go.RowKit Go.ChangeShapes
section
variable {H : Type} {enc : TypeId × Value → H} {P : Program} {W W' : World}
theorem trodAll_carry {sp : Nat → Bool} : ∀ {ts : List TypeId} {vs : List Value} {ds : List (DataW H)} {ps : List MemPlace}, DataW.TrodAll enc P W 0 sp true ts vs ds ps → (∀ p ∈ ps, W.sameAt W' p) → DataW.TrodAll enc P W' 0 sp true ts vs ds ps
  | [], [], [], _, h, _ => h
  | _ :: _, _ :: _, _ :: _, _, ⟨p, q, ⟨n, hn⟩, h2, e⟩, hs =>
    ⟨p, q, ⟨n, DataW.trod_carry n _ _ _ hn fun x hx => hs x (by rw [e]; exact List.mem_append_left _ hx)⟩, trodAll_carry h2 (fun x hx => hs x (by rw [e]; exact List.mem_append_right _ hx)), e⟩
  | [], [], _ :: _, _, h, _ => h.elim
  | [], _ :: _, _, _, h, _ => h.elim
  | _ :: _, [], _, _, h, _ => h.elim
  | _ :: _, _ :: _, [], _, h, _ => h.elim
theorem trodAll_below (hl : laidOutB P = true) : ∀ {ts : List TypeId} {vs : List Value} {ds : List (DataW H)} {ps : List MemPlace}, (∀ t ∈ ts, P.readableRec t = true ∧ t < P.types.size) → DataW.TrodAll enc P W 0 (fun _ => true) true ts vs ds ps → Below W.heap.size W W' → (∀ x ∈ ps, x.block < W.heap.size) →
    DataW.TrodAll enc P W' 0 (fun b => decide (b < W.heap.size)) true ts vs ds ps
  | [], [], [], _, _, h, _, _ => h
  | _ :: _, _ :: _, _ :: _, _, ht, ⟨p, q, h1, h2, e⟩, hb, hlt =>
    ⟨p, q, Below.trod hl (ht _ (by simp)).1 (ht _ (by simp)).2 h1 hb (fun x hx => hlt x (by rw [e]; exact List.mem_append_left _ hx)),
      trodAll_below hl (fun t h => ht t (List.mem_cons_of_mem _ h)) h2 hb (fun x hx => hlt x (by rw [e]; exact List.mem_append_right _ hx)), e⟩
  | [], [], _ :: _, _, _, h, _, _ => h.elim
  | [], _ :: _, _, _, _, h, _, _ => h.elim
  | _ :: _, [], _, _, _, h, _, _ => h.elim
  | _ :: _, _ :: _, [], _, _, h, _, _ => h.elim

/- a law's 'post' where it answers true and what was there stands -/
theorem post_ext {f : Func} {s : ChangeSpec} {apart fresh handsOn again : Bool} {args : Array Value} {ds gs : List (DataW H)} {before : List MemPlace} {tb : TypeId} (hl : laidOutB P = true) (hts : ∀ t ∈ f.params.toList, P.readableRec t = true ∧ t < P.types.size) (hres : f.resultTypes = #[tb]) (htb : P.underlying tb = some .bool) (hvars : s.vars = [])
    (hW : DataW.Whole enc P f.params.toList s.vars apart W args.toList ds gs before) (hfn : s.fn H (ds ++ gs) = { results := [.lit (.bool true)], args := ds }) (he : Ext W W') :
    s.post enc P f apart fresh handsOn again W args (.bool true) W' := by
  have hlt := hW.lt
  have hW0 := hW
  obtain ⟨p, q, h1, h2, hpq, hz, hn⟩ := hW0
  rw [hvars] at h2
  obtain ⟨hg, hq⟩ := trodVars_none h2
  subst hg hq
  simp only [List.append_nil] at hpq
  subst hpq
  have hbool : ∀ (b : Nat) (sp : Nat → Bool) (hd : Bool), DataW.TrodAll enc P W' b sp hd f.resultTypes.toList ((Value.bool true).resultList f.resultTypes.size) [.lit (.bool true)] [] := by
    intro b sp hd
    rw [hres]
    exact trodAll_mk1 (shut_bool htb true)
  refine ⟨ds, [], before, [], before, [], hW, ?_, ?_, ?_, he.frame _, fun _ => ⟨ok_one hres rfl (okWide_bool_mk htb true), [.lit (.bool true)] ++ ds, [], [] ++ before, ⟨[] ++ before, [], ?_, ?_, by simp, ?_, ?_⟩, ?_⟩⟩
  · rw [hfn]; exact hbool _ _ _
  · rw [hfn]; exact trodAll_below hl hts h1 he hlt
  · rw [hfn, hvars]; rfl
  · exact trodAll_append (trodAll_carry h1 fun x hx => he.same (hlt x hx)) (hbool _ _ _)
  · rw [hvars]; rfl
  · intro b off hp
    simp only [List.nil_append] at hp
    rw [he.frozen (hlt _ hp)]
    exact hz b off hp
  · intro ha; simpa using hn ha
  · intro x hx _; simpa using hx
end
end Go.Sh
