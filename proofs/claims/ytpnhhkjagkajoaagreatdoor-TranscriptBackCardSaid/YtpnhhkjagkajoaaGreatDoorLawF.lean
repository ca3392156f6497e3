/- The contracts of the functions that the law reaches, one after the other, and at the end the law's card. -/
import Derived.Test.YtpnhhkjagkajoaaGreatDoorLawE
namespace Go.Proofs
open Go Go.Sh Go.RowKit

theorem Merge_spec' : ∀ (f : Fo) {R : Ending → World → Prop} {S : Nat → Prop} {w : World} {a : Option Addr} {n c : Nat}, f.size ≤ 1000000000 → tlen f ≤ 4611686018427387904 → SlF S w a n f →
    (∀ a' n' c' w', SlF (fun k => S k ∨ w.heap.size ≤ k) w' a' n' (mergeF f) → Ext w w' → R (.returned (.slice a' n' c')) w') → Calls Tryz.prog F_ref10_Merge ⟨[.slice a n c]⟩ w R := by
  intro f
  induction hz : f.size using Nat.strongRecOn generalizing f with
  | _ z ih =>
  intro R S w a n c hs ht hf0 h
  apply c_ref10_Merge
  have hn := hf0.1
  have hfl := f.len_le_size
  have hf : SlF (fun k => S k ∧ k < w.heap.size) w a n f := hf0.imp fun k hk hl => ⟨hk, hl⟩
  refine al_intro fun b0 w0 hb0 hB0 e0 s0 => ?_
  refine ⟨fun oa on oc i W m => ∃ (p r out : Fo), f = p.app r ∧ i = p.len ∧ m = r.len ∧ OwnF 35 (fun k => S k ∧ k < w.heap.size) w.heap.size W oa on oc out ∧ out.len ≤ p.len ∧ (∀ pre k t m ps, out = Fo.app pre (.one k t m ps) → t.length ≤ tlen p) ∧ Ext w W ∧ mergeF f = mgo r out,
    ⟨_, .nil, f, .nil, rfl, rfl, rfl, ⟨rfl, [], Owns.made hB0 (by omega), rfl⟩, by simp, ?_, e0, rfl⟩, ?_⟩
  · intro pre k t m ps he
    have := congrArg Fo.len he; simp [Fo.one] at this
  rintro oa on oc _ W m ⟨p, r, out, hpr, rfl, rfl, hout, holen, hlast, he, heq⟩ _
  have hon := hout.len
  have hwW := he.size
  refine br_split (fun hlt => ?_) (fun hge => ?_)
  · obtain ⟨k, t, mm, ps, r, rfl⟩ := Fo.next hpr (by omega)
    have hsl := Fo.sub_len hpr
    have hsz := Fo.sub_size hpr
    have htl : tlen f = tlen p + (t.length + tlen ps + tlen r) := by rw [hpr, tlen_app]; rfl
    have e1 : f = (p.app (.one k t mm ps)).app r := by rw [Fo.app_one_app]; exact hpr
    have i1 : IntKind.i64.wrap ((p.len : Int) + 1) = ((p.app (.one k t mm ps)).len : Int) := by rw [wrap_nat (by omega)]; simp [Fo.one]
    have t1 : tlen (p.app (.one k t mm ps)) = tlen p + (t.length + tlen ps) := by rw [tlen_app]; simp [Fo.one, tlen]
    rw [mgo] at heq
    have done : ∀ (oa' : Option Addr) (on' oc' : Nat) (W' : World), OwnF 35 (fun k => S k ∧ k < w.heap.size) w.heap.size W' oa' on' oc' (snocM out k t mm (mgo ps .nil)) → Ext w W' →
        ∃ m42, m42 < (Fo.cons k t mm ps r).len ∧ ∃ (p' r' out' : Fo), f = p'.app r' ∧ IntKind.i64.wrap ((p.len : Int) + 1) = p'.len ∧ m42 = r'.len ∧ OwnF 35 (fun k => S k ∧ k < w.heap.size) w.heap.size W' oa' on' oc' out' ∧ out'.len ≤ p'.len ∧ (∀ pre k t m ps, out' = Fo.app pre (.one k t m ps) → t.length ≤ tlen p') ∧ Ext w W' ∧ mergeF f = mgo r' out' := by
      intro oa' on' oc' W' ho' he'
      refine ⟨r.len, by simp, _, r, _, e1, i1, rfl, ho', ?_, ?_, he', heq⟩
      · have := snoc_len out k t mm (mgo ps .nil)
        simp [Fo.one]; omega
      · intro pre k1 t1' m1 ps1 hsn
        have := snoc_last hlast pre k1 t1' m1 ps1 hsn
        omega
    obtain ⟨q, a', c', hq, hSq, hql, hN⟩ := (hf.ext he).get hpr
    refine hq _ ⟨k, hN.kind, t, hN.text, mm, hN.num, a', ps.len, c', hN.parts, ?_⟩
    refine al_stL (by simp) (by intro u hu; simp only [List.mem_cons, List.not_mem_nil, or_false] at hu; rcases hu with rfl | rfl | rfl | rfl <;> rfl) fun bx w1 hbx hBx e2 s2 => ?_
    obtain ⟨x0, x1, x2, x3⟩ := blk4 hBx
    have E1 := ext_trans he e2
    have ho1 := hout.ext e2
    have hzz := e2.size
    intro K18 hK18
    have k18 : ¬ (k = 1 ∧ t = []) → K18 w1 := by
      intro hne
      refine hK18 _ fun _ => ?_
      intro K20 hK20
      -- the parts have been merged
      have k20 : ∀ (a3 : Option Addr) (c3 : Nat) (w4 : World), Ext W w4 → Blk w4 bx [.int .i64 k, .string ⟨⟨t⟩⟩, .int .i64 mm, .slice a3 (mergeF ps).len c3] 35 → SlF (fun j => (S j ∧ j < w.heap.size) ∨ w1.heap.size ≤ j) w4 a3 (mergeF ps).len (mergeF ps) → K20 w4 := by
        intro a3 c3 w4 EW4 b1 hp4
        obtain ⟨y0, y1, y2, y3⟩ := blk4 b1
        have E4 := ext_trans he EW4
        have ho4 := hout.ext EW4
        have z4 := EW4.size
        refine hK20 _ fun _ => ?_
        intro K22 hK22
        have k22 : ∀ g, g = decide (k = 1 ∧ lastT out = true) → K22 g w4 := by
          rintro _ rfl
          refine hK22 _ _ fun _ => br_split (fun g => ?_) (fun g => ?_)
          · have hsn : snocM out k t mm (mgo ps .nil) = addL out t := by unfold snocM; rw [if_neg hne, if_pos g]
            rcases Fo_view out with rfl | ⟨pre, k2, t2, n2, ps2, rfl⟩
            · simp [lastT] at g
            rw [addL_snoc] at hsn
            have hdr := ext_drew w4
            obtain ⟨q2, hq2, l0, l1, lst⟩ := (ho4.ext hdr).last
            have onl : on = pre.len + 1 := by rw [hon]; simp [Fo.one]
            have e : IntKind.i64.wrap ((on : Int) - 1) = (pre.len : Int) := by rw [wrap_pred (by omega) (by omega), onl]; simp
            have hl2 := hlast pre k2 t2 n2 ps2 rfl
            unfold drw
            rw [e]
            refine hq2 _ ⟨t2, l1, t, (blk4 (b1.ext hdr)).2.1, by omega, hq2 _ ⟨lst _ _ fun w5 ho5 hc5 => ?_, trivial⟩⟩
            refine done _ _ _ w5 (by rw [hsn]; exact ho5) ?_
            exact ext_chgS (ext_trans E4 hdr) hc5 fun j hj => ((ho4.ext hdr).bk hj).1
          · have hsn : snocM out k t mm (mgo ps .nil) = out.app (.one k t mm (mergeF ps)) := by unfold snocM; rw [if_neg hne, if_neg g]; rfl
            refine ⟨k, y0, t, y1, mm, y2, a3, _, c3, y3, ?_⟩
            refine OwnF.push slT_node ho4 (by omega) (own_parts hp4 (fun j hj => hj.2) hout (by omega) (by omega)) (by omega) (by omega) fun a5 n5 c5 w5 ho5 hc5 => ?_
            refine done a5 n5 c5 w5 (by rw [hsn]; exact ho5) ?_
            exact ext_chgS E4 hc5 fun j hj => (hout.bk hj).1
        rcases Fo_view out with hv | ⟨pre, k2, t2, m2, ps2, hv⟩
        · subst hv
          have : on = 0 := hon
          subst this
          refine ⟨k, y0, br_split (fun g => br_split (fun g2 => absurd g2 (by omega)) (fun g2 => k22 _ (by simp [lastT]))) (fun g => k22 _ (by simp [lastT]))⟩
        · have hl1 : lastT out = decide (k2 = 1) := by rw [hv, lastT_snoc]
          have hl2 : on = pre.len + 1 := by rw [hon, hv]; simp [Fo.one]
          have e : IntKind.i64.wrap ((on : Int) - 1) = (pre.len : Int) := by rw [wrap_pred (by omega) (by omega), hl2]; simp
          rw [e]
          refine ⟨k, y0, br_split (fun g2 => br_split (fun g => ?_) (fun g => absurd (by omega) g)) (fun g2 => k22 _ (by simp [g2]))⟩
          subst hv
          obtain ⟨q2, hq2, l0, l1, lst⟩ := ho4.last
          exact hq2 _ ⟨k2, l0, k22 _ (by rw [hl1]; simp [g2])⟩
      refine ⟨a', ps.len, c', x3, br_split (fun g => ⟨a', ps.len, c', x3, ?_⟩) (fun g => ?_)⟩
      · refine ih _ (hz ▸ hsz) ps rfl (S := fun k => S k ∧ k < w.heap.size) (by omega) (by omega) (hN.sl.ext e2) fun a3 n3 c3 w3 hsl3 e3 => ⟨_, _, _, rfl, ?_⟩
        have hBx3 := hBx.ext e3
        have hn3 := hsl3.1
        rw [add_none]
        refine stL_blk hBx3 (by simp) (by intro u hu; simp only [List.mem_singleton] at hu; subst hu; rfl) fun w4 b1 b2 b3 b4 b5 b6 => ?_
        simp only [putAt, List.set] at b1
        have hc4 : Chg (· = bx) w3 w4 := ⟨b4, b5, b6, by omega, fun k _ hk => b2 k hk⟩
        have EW4 : Ext W w4 := ext_chgS (ext_trans e2 e3) hc4 fun j hj => by omega
        have hp4 : SlF (fun j => (S j ∧ j < w.heap.size) ∨ w1.heap.size ≤ j) w4 a3 n3 (mergeF ps) := hsl3.chg hc4 fun j hj he => by
          subst he; rcases hj with hj | hj <;> omega
        subst hn3
        exact k20 a3 c3 w4 EW4 b1 hp4
      · have hp : ps = .nil := Fo.eq_nil_of_len (by omega)
        subst hp
        exact k20 a' c' w1 e2 hBx (SlF.nil a')
    refine ⟨k, x0, br_split (fun g => ⟨t, x1, br_split (fun g2 => ?_) (fun g2 => k18 fun hh => g2 hh.2)⟩) (fun g => k18 fun hh => g hh.1)⟩
    exact done oa on oc w1 (by unfold snocM; rw [if_pos ⟨g, g2⟩]; exact ho1) E1
  · obtain ⟨rfl, rfl⟩ := Fo.last hpr (by omega)
    rw [heq] at h
    refine h oa on oc W (hout.out.imp fun k hk _ => hk.imp (fun h => h.1) id) he
end Go.Proofs
namespace Go.Proofs
open Go Go.Sh Go.RowKit

/- tokens: lexemes without their places -/
structure Tk where
  k : Int
  nm : List UInt8
  vl : List UInt8
def tkX (x : Lx) : Tk := ⟨x.k, x.nm, x.vl⟩
def textT (x : Tk) : List UInt8 := textF ⟨x.k, x.nm, x.vl, 0⟩
theorem text_tk (x : Lx) : textF x = textT (tkX x) := rfl
theorem print_tk : ∀ L : List Lx, printX L = (L.map tkX).flatMap textT
  | [] => rfl
  | x :: r => by rw [print_cons, List.map_cons, List.flatMap_cons, print_tk r]; rfl
/- what stands as the value of a node's tag -/
def valT (k : Int) (t : List UInt8) (n : Int) : List UInt8 := if textsF k then t else if numsF k then Lib.decDigits n.toNat else []
/- the tokens of a list of nodes -/
def tksF : Fo → List Tk
  | .nil => []
  | .cons k t n ps r => (if k = 1 then [⟨1, [], t⟩] else if partsF k then ⟨2, tagF k, valT k t n⟩ :: (tksF ps ++ [⟨3, tagF k, []⟩]) else [⟨4, tagF k, valT k t n⟩]) ++ tksF r
theorem tksF_app (f g : Fo) : tksF (f.app g) = tksF f ++ tksF g := by
  induction f with
  | nil => rfl
  | cons k t n ps r _ ih => simp only [Fo.cons_app, tksF, ih, List.append_assoc]
/- the node of a lexeme -/
def kindN (nm : List UInt8) : Nat := match (List.range 12).find? fun i : Nat => decide (tagF (i : Int) = nm ∧ nm ≠ []) with
  | some i => i
  | none => 0
def numOf (v : List UInt8) : Int := match Lib.atoiAll v with
  | .ok n => n
  | _ => 0
structure Hd where
  k : Int
  t : List UInt8
  n : Int
def headF (x : Tk) : Hd := if x.k = 1 then ⟨1, x.vl, 0⟩ else ⟨kindN x.nm, if textsF (kindN x.nm) then x.vl else [], if textsF (kindN x.nm) then 0 else if numsF (kindN x.nm) then numOf x.vl else 0⟩
/- the nodes that are open, the innermost one first -/
structure Fr where
  h : Hd
  f : Fo
def Fr.add (r : Fr) (h : Hd) (ps : Fo) : Fr := ⟨r.h, r.f.app (.one h.k h.t h.n ps)⟩
def stepP (st : List Fr) (x : Tk) : List Fr :=
  if x.k = 2 then ⟨headF x, .nil⟩ :: st
  else if x.k = 3 then (match st with
    | f2 :: f1 :: r => f1.add f2.h f2.f :: r
    | st => st)
  else match st with
    | f :: r => f.add (headF x) .nil :: r
    | [] => []
def treeT (L : List Tk) : Fo := match L.foldl stepP [⟨⟨0, [], 0⟩, .nil⟩] with
  | f :: _ => f.f
  | [] => .nil
/- a node's fields that its lexeme gives back -/
def fieldsOk (k : Int) (t : List UInt8) (n : Int) : Prop := (k = 1 ∧ n = 0) ∨ (2 ≤ k ∧ k ≤ 11 ∧ (textsF k = false → t = []) ∧ (numsF k = false → n = 0) ∧ (numsF k = true → 1 ≤ n ∧ n ≤ 64))
theorem kind_tag : ∀ i : Nat, 2 ≤ i → i ≤ 11 → kindN (tagF i) = i := by
  intro i h1 h2
  have : ∀ j : Nat, j < 12 → 2 ≤ j → kindN (tagF j) = j := by decide +kernel
  exact this i (by omega) h1
theorem kind_tagI {k : Int} (h1 : 2 ≤ k) (h2 : k ≤ 11) : ((kindN (tagF k) : Nat) : Int) = k := by
  obtain ⟨i, rfl⟩ : ∃ i : Nat, k = i := ⟨k.toNat, by omega⟩
  rw [kind_tag i (by omega) (by omega)]
theorem num_dec {n : Int} (h1 : 1 ≤ n) (h2 : n ≤ 64) : numOf (Lib.decDigits n.toNat) = n := by
  have := atoi_dec (n.toNat - 1) (by omega)
  rw [show n.toNat - 1 + 1 = n.toNat by omega] at this
  unfold numOf
  rw [this]
  show ((n.toNat : Nat) : Int) = n
  omega
theorem head_tag {k : Int} {t : List UInt8} {n : Int} {c : Int} (hc : c ≠ 1) (h1 : k ≠ 1) (h : fieldsOk k t n) : headF ⟨c, tagF k, valT k t n⟩ = ⟨k, t, n⟩ := by
  rcases h with h | ⟨a1, a2, a3, a4, a5⟩
  · exact absurd h.1 h1
  unfold headF valT
  simp only [hc, if_false, kind_tagI a1 a2]
  by_cases ht : textsF k = true
  · have hn : numsF k = false := by
      have : k = 1 ∨ k = 3 ∨ k = 4 ∨ k = 10 ∨ k = 11 := by simpa [textsF] using ht
      unfold numsF; exact decide_eq_false (by omega)
    simp only [ht, if_true, a4 hn]
  · have ht : textsF k = false := by simpa using ht
    by_cases hn : numsF k = true
    · simp only [ht, hn, if_true, Bool.false_eq_true, if_false, a3 ht, num_dec (a5 hn).1 (a5 hn).2]
    · have hn : numsF k = false := by simpa using hn
      simp only [ht, hn, Bool.false_eq_true, if_false, a3 ht, a4 hn]
theorem head_text {t nm : List UInt8} : headF ⟨1, nm, t⟩ = ⟨1, t, 0⟩ := rfl
/- nodes whose fields come from their lexemes; parts only where tags close -/
def shapeF : Fo → Prop
  | .nil => True
  | .cons k t n ps r => fieldsOk k t n ∧ (partsF k = false → ps = .nil) ∧ shapeF ps ∧ shapeF r
theorem step_tks : ∀ (g : Fo) (fr : Fr) (st : List Fr), shapeF g → (tksF g).foldl stepP (fr :: st) = ⟨fr.h, fr.f.app g⟩ :: st
  | .nil, fr, st, _ => by rw [Fo.app_nil]; rfl
  | .cons k t n ps r, fr, st, ⟨h1, h2, h3, h4⟩ => by
    rw [tksF, List.foldl_append]
    have key : (if k = 1 then [⟨1, [], t⟩] else if partsF k then ⟨2, tagF k, valT k t n⟩ :: (tksF ps ++ [⟨3, tagF k, []⟩]) else [⟨4, tagF k, valT k t n⟩] : List Tk).foldl stepP (fr :: st) = fr.add ⟨k, t, n⟩ ps :: st := by
      by_cases hk : k = 1
      · subst hk
        rw [if_pos rfl]
        have hp : ps = .nil := h2 (by decide)
        have hn : n = 0 := by
          rcases h1 with h1 | h1
          · exact h1.2
          · omega
        subst hp hn
        rfl
      · rw [if_neg hk]
        by_cases hp : partsF k = true
        · rw [if_pos hp, List.foldl_cons, List.foldl_append]
          have e1 : stepP (fr :: st) ⟨2, tagF k, valT k t n⟩ = ⟨⟨k, t, n⟩, .nil⟩ :: fr :: st := by
            unfold stepP
            rw [if_pos rfl, head_tag (by decide) hk h1]
          rw [e1, step_tks ps _ _ h3]
          rfl
        · have hp : partsF k = false := by simpa using hp
          rw [if_neg (by rw [hp]; decide), h2 hp]
          show stepP (fr :: st) ⟨4, tagF k, valT k t n⟩ = _
          unfold stepP
          rw [if_neg (by show ¬ (4 : Int) = 2; decide), if_neg (by show ¬ (4 : Int) = 3; decide), head_tag (by decide) hk h1]
    rw [key, step_tks r _ _ h4]
    unfold Fr.add
    rw [Fo.app_one_app]
theorem tree_tks {g : Fo} (h : shapeF g) : treeT (tksF g) = g := by
  unfold treeT
  rw [step_tks g _ [] h]
  rfl
end Go.Proofs
namespace Go.Sh
open Go Go.RowKit

/- appending a row that stands in a block of its own to a slice variable; the new element and the variable are laid in either order -/
theorem app_cap2 {P : Program} {t ty e : TypeId} {size bytes : Nat} {z : Value} (hT : SlT P t e size bytes z) {B : Nat} {a : Option Addr} {n c : Nat} {xs : List Value} {w : World} {b bz : Nat} {Tv Tz : TypeId}
    (hown : Owns w B e size a n c xs) (hB : B ≤ w.heap.size) (hb : Blk w b [.slice a n c] Tv) (hnb : ¬ Sh.bk a b) (zc vs : List Value) (hbz : Blk w bz zc Tz) (hzc : zc.length = size) (hz1 : ∀ u ∈ zc, u.oneCell' = true) (hvs : vs.length = size) (hv1 : ∀ u ∈ vs, u.oneCell' = true)
    (hlen : n + 1 ≤ 4611686018427387904) (hbytes : (n + 1) * bytes ≤ 140737488355328) {K : World → Prop}
    (hk : ∀ a' c' w', Blk w' b [.slice a' (n + 1) c'] Tv → Owns w' B e size a' (n + 1) c' (xs ++ vs) → Chg (fun k => k = b ∨ Sh.bk a k) w w' → (∀ k, Sh.bk a' k → Sh.bk a k ∨ w.heap.size ≤ k) → K w') :
    app P [t, t] ty (.slice a n c) (.slice (some ⟨bz, 0, none⟩) 1 1) w fun a' n' c' w2 => idx a' n' (n : Int) size fun q =>
      (stL w2 q 0 vs fun w3 => (stL w3 ⟨b, 0, none⟩ 0 [.slice a' n' c'] fun w4 => K w4) ∧ True) ∧
      (stL w2 ⟨b, 0, none⟩ 0 [.slice a' n' c'] fun w3 => (stL w3 q 0 vs fun w4 => K w4) ∧ True) ∧ True := by
  refine app_own2 hT hown hB (S := fun _ => True) zc (by rw [hzc, Nat.one_mul]) (.inr ⟨bz, 0, rfl, trivial, hbz.lt, fun j v hj => by rw [Nat.zero_add, hbz.cell]; exact hj⟩) hz1 hlen hbytes fun a' c' w2 ho hc hn => ?_
  have l := hb.lt
  have hb2 : Blk w2 b [.slice a n c] Tv := hc.blk hb hnb
  have nb' : ¬ Sh.bk a' b := fun hh => (hn b hh).elim hnb (by omega)
  obtain ⟨g, ha, hidx, hst⟩ := ho.storeLast (vs := vs) hzc hvs hv1
  have sub : ∀ k, k < w.heap.size → Sh.bk a' k → Sh.bk a k := fun k hk hb' => (hn k hb').elim id (by omega)
  have tot : ∀ {S1 S2 : Nat → Prop} {w3 w4 : World}, Chg S1 w2 w3 → Chg S2 w3 w4 → (∀ k, S1 k → k = b ∨ Sh.bk a' k) → (∀ k, S2 k → k = b ∨ Sh.bk a' k) → Chg (fun k => k = b ∨ Sh.bk a k) w w4 := by
    intro S1 S2 w3 w4 c3 c4 h3 h4
    have z := hc.size
    have z3 := c3.size
    refine ⟨c4.os.trans (c3.os.trans hc.os), c4.tape.trans (c3.tape.trans hc.tape), c4.output.trans (c3.output.trans hc.output), Nat.le_trans z (Nat.le_trans z3 c4.size), fun k hk hn' => ?_⟩
    have no : ¬ (k = b ∨ Sh.bk a' k) := fun hh => hn' (hh.imp id (sub k hk))
    exact (c4.block k (by omega) fun hh => no (h4 k hh)).trans ((c3.block k (by omega) fun hh => no (h3 k hh)).trans (hc.block k hk fun hh => hn' (.inr hh)))
  refine hidx _ ⟨?_, ?_, trivial⟩
  · refine hst _ fun w3 ho3 hc3 z3 => ⟨?_, trivial⟩
    refine stL_blk (cs := [.slice a n c]) (T := Tv) (hc3.blk hb2 nb') (by simp) (by intro u hu; simp only [List.mem_singleton] at hu; subst hu; rfl) fun w4 b1 b2 b3 b4 b5 b6 => ?_
    have hc4 : Chg (fun k => k = b) w3 w4 := ⟨b4, b5, b6, by omega, fun k' _ hk => b2 k' hk⟩
    exact hk a' c' w4 b1 (ho3.chg hc4 fun k hk he => nb' (he ▸ hk)) (tot hc3 hc4 (fun k h => .inr h) fun k h => .inl h) hn
  · refine stL_blk (cs := [.slice a n c]) (T := Tv) hb2 (by simp) (by intro u hu; simp only [List.mem_singleton] at hu; subst hu; rfl) fun w3 b1 b2 b3 b4 b5 b6 => ⟨?_, trivial⟩
    have hc3 : Chg (fun k => k = b) w2 w3 := ⟨b4, b5, b6, by omega, fun k' _ hk => b2 k' hk⟩
    obtain ⟨g', ha', _, hst'⟩ := (ho.chg hc3 fun k hk he => nb' (he ▸ hk)).storeLast (vs := vs) hzc hvs hv1
    obtain rfl : g' = g := by rw [ha] at ha'; simpa using ha'.symm
    refine hst' _ fun w4 ho4 hc4 z4 => ?_
    exact hk a' c' w4 (hc4.blk b1 nb') ho4 (tot hc3 hc4 (fun k h => .inl h) fun k h => .inr h) hn

/- a list of nodes under way in a variable, its blocks named: S: what it may share, O: its own -/
def OwnG (e : TypeId) (S O : Nat → Prop) (B : Nat) (w : World) (a : Option Addr) (n c : Nat) (f : Fo) : Prop :=
  n = f.len ∧ (∀ k, bk a k → O k) ∧ (∀ k, O k → B ≤ k ∧ k < w.heap.size) ∧ ∃ xs, Owns w B e 4 a n c xs ∧ FoC (fun k => (S k ∨ O k) ∧ ¬ bk a k) w f xs
section
variable {S O : Nat → Prop} {w w' : World} {e : TypeId} {B : Nat} {a : Option Addr} {n c : Nat} {f : Fo}
theorem OwnG.nil (w : World) : OwnG e S (fun _ => False) B w none 0 0 .nil := ⟨rfl, fun k h => by simp [bk] at h, fun k h => h.elim, [], Owns.nil w B e 4, rfl⟩
theorem OwnG.len (h : OwnG e S O B w a n c f) : n = f.len := h.1
theorem OwnG.own (h : OwnG e S O B w a n c f) {k : Nat} (hk : O k) : B ≤ k ∧ k < w.heap.size := h.2.2.1 k hk
theorem OwnG.bk (h : OwnG e S O B w a n c f) {k : Nat} (hk : Sh.bk a k) : O k := h.2.1 k hk
theorem OwnG.chg {T : Nat → Prop} (h : OwnG e S O B w a n c f) (hc : Chg T w w') (hT : ∀ k, T k → k < w.heap.size → ¬ S k ∧ ¬ O k) : OwnG e S O B w' a n c f := by
  obtain ⟨h0, h1, h2, xs, h3, h4⟩ := h
  have z := hc.size
  refine ⟨h0, h1, fun k hk => ⟨(h2 k hk).1, by have := (h2 k hk).2; omega⟩, xs, ?_, h4.keep (fun k hk hl => ⟨hk, hc.block k hl fun ht => ?_⟩) z⟩
  · have h3' := Owns.chg (S := fun k => T k ∧ k < w.heap.size) h3 ⟨hc.os, hc.tape, hc.output, hc.size, fun k hk hn => hc.block k hk fun ht => hn ⟨ht, hk⟩⟩ fun k hk ht => (hT k ht.1 ht.2).2 (h1 k hk)
    exact h3'
  · rcases hk.1 with hh | hh
    · exact (hT k ht hl).1 hh
    · exact (hT k ht hl).2 hh
theorem OwnG.ext (h : OwnG e S O B w a n c f) (hc : Ext w w') : OwnG e S O B w' a n c f := h.chg (T := fun _ => False) (.of_ext hc) fun k h _ => h.elim
theorem OwnG.out (h : OwnG e S O B w a n c f) : SlF (fun k => S k ∨ O k) w a n f := by
  obtain ⟨h0, h1, h2, xs, h3, h4⟩ := h
  refine ⟨h0, xs, ?_, h4.keep (fun k hk _ => ⟨hk.1, rfl⟩) (Nat.le_refl _)⟩
  by_cases hn : 0 < n
  · obtain ⟨g, rfl, hg, hc⟩ := h3.cell hn
    exact .inr ⟨g, 0, rfl, .inr (h1 g (by simp [Sh.bk])), (h3.bk (by simp [Sh.bk])).2, fun j v hj => by rw [Nat.zero_add]; exact hc j v hj⟩
  · have hx : xs = [] := List.eq_nil_of_length_eq_zero (by rw [h3.len]; omega)
    exact .inl hx
/- one more node, out of a block that holds zeros -/
theorem OwnG.push {P : Program} {t ty : TypeId} {bytes : Nat} {z : Value} (hT : SlT P t e 4 bytes z) (h : OwnG e S O B w a n c f) (hB : B ≤ w.heap.size) {b bz : Nat} {Tv Tz : TypeId} {zc : List Value} (hb : Blk w b [.slice a n c] Tv) (hnb : ¬ O b)
    (hbz : Blk w bz zc Tz) (hzc : zc.length = 4) (hz1 : ∀ u ∈ zc, u.oneCell' = true) {k : Int} {s : List UInt8} {m : Int} {a' : Option Addr} {c' : Nat} {ps : Fo} {O2 : Nat → Prop}
    (hps : SlF (fun k => S k ∨ O2 k) w a' ps.len ps) (hO2 : ∀ k, O2 k → (B ≤ k ∧ k < w.heap.size) ∧ k ≠ b ∧ ¬ Sh.bk a k) (hSB : ∀ k, S k → k < B) (hlen : n + 1 ≤ 4611686018427387904) (hbytes : (n + 1) * bytes ≤ 140737488355328) (hBb : B ≤ b) {K : World → Prop}
    (hk : ∀ a'' n'' c'' w' (O' : Nat → Prop), Blk w' b [.slice a'' n'' c''] Tv → OwnG e S O' B w' a'' n'' c'' (f.app (.one k s m ps)) → Chg (fun j => j = b ∨ O j) w w' → (∀ j, O' j → O j ∨ O2 j ∨ (w.heap.size ≤ j ∧ j < w'.heap.size)) → K w') :
    app P [t, t] ty (.slice a n c) (.slice (some ⟨bz, 0, none⟩) 1 1) w fun a1 n1 c1 w2 => idx a1 n1 (n : Int) 4 fun q =>
      (stL w2 q 0 [.int .i64 k, .string ⟨⟨s⟩⟩, .int .i64 m, .slice a' ps.len c'] fun w3 => (stL w3 ⟨b, 0, none⟩ 0 [.slice a1 n1 c1] fun w4 => K w4) ∧ True) ∧
      (stL w2 ⟨b, 0, none⟩ 0 [.slice a1 n1 c1] fun w3 => (stL w3 q 0 [.int .i64 k, .string ⟨⟨s⟩⟩, .int .i64 m, .slice a' ps.len c'] fun w4 => K w4) ∧ True) ∧ True := by
  obtain ⟨h0, h1, h2, xs, h3, h4⟩ := h
  refine app_cap2 hT h3 hB hb (fun hh => hnb (h1 b hh)) zc [.int .i64 k, .string ⟨⟨s⟩⟩, .int .i64 m, .slice a' ps.len c'] hbz hzc hz1 rfl (by intro u hu; simp only [List.mem_cons, List.not_mem_nil, or_false] at hu; rcases hu with rfl | rfl | rfl | rfl <;> rfl) hlen hbytes
    fun a'' c'' w' hbl ho hc hn => hk a'' _ c'' w' (fun j => O j ∨ O2 j ∨ Sh.bk a'' j) hbl ⟨?_, fun j hj => .inr (.inr hj), fun j hj => ?_, _, ho, ?_⟩ (hc.mono fun j _ hj => hj.imp id (h1 j)) ?_
  · simp [Fo.one]; exact h0
  · have z := hc.size
    rcases hj with hj | hj | hj
    · exact ⟨(h2 j hj).1, by have := (h2 j hj).2; omega⟩
    · exact ⟨(hO2 j hj).1.1, by have := (hO2 j hj).1.2; omega⟩
    · exact ho.bk hj
  · obtain ⟨_, us, g3, g4⟩ := hps
    have na : ∀ j, j < w.heap.size → ¬ Sh.bk a j → ¬ Sh.bk a'' j := fun j hj hb' hh => (hn j hh).elim hb' (by omega)
    have hs : ∀ j, ((S j ∨ O j) ∧ ¬ Sh.bk a j) → j < w.heap.size → ((S j ∨ O j ∨ O2 j ∨ Sh.bk a'' j) ∧ ¬ Sh.bk a'' j) ∧ w'.heap[j]? = w.heap[j]? := fun j hj hl =>
      ⟨⟨hj.1.imp id fun h => .inl h, na j hl hj.2⟩, hc.block j hl fun hh => hh.elim (fun hb' => hj.1.elim (fun hs => by have := hSB j hs; omega) (fun ho => hnb (hb' ▸ ho))) hj.2⟩
    have hs2 : ∀ j, (S j ∨ O2 j) → j < w.heap.size → ((S j ∨ O j ∨ O2 j ∨ Sh.bk a'' j) ∧ ¬ Sh.bk a'' j) ∧ w'.heap[j]? = w.heap[j]? := fun j hj hl => by
      have nb : j ≠ b ∧ ¬ Sh.bk a j := hj.elim (fun h => ⟨by have := hSB j h; omega, fun hh => by have := (h2 j (h1 j hh)).1; have := hSB j h; omega⟩) (fun h => (hO2 j h).2)
      exact ⟨⟨hj.imp id fun h => .inr (.inl h), na j hl nb.2⟩, hc.block j hl fun hh => hh.elim nb.1 nb.2⟩
    exact (h4.keep hs hc.size).app ⟨a', c', us, [], rfl, g3.keep hs2 hc.size, g4.keep hs2 hc.size, rfl⟩
  · intro j hj
    rcases hj with hj | hj | hj
    · exact .inl hj
    · exact .inr (.inl hj)
    · rcases hn j hj with h' | h'
      · exact .inl (h1 j h')
      · exact .inr (.inr ⟨h', (ho.bk hj).2⟩)
end

/- the marks of ranges over functions, that a call lays down when it leaves -/
def marks (Dl : List Nat) : List Deferred := Dl.map fun D => { target := .collected D, args := #[] }
theorem retD_marks {K : World → Prop} : ∀ (Dl : List Nat) (W : World), Dl.Nodup → (∀ D ∈ Dl, W.heap[D]? = some (.deferred (some []))) → (∀ W', Chg (fun k => k ∈ Dl) W W' → K W') → retD (marks Dl) W K
  | [], W, _, _, h => h W (Chg.refl _ _)
  | D :: Dl, W, hn, hD, h => by
    rw [List.nodup_cons] at hn
    refine ⟨D, rfl, hD D (by simp), retD_marks Dl _ hn.2 (fun D' hD' => ?_) fun W' hc => h W' ?_⟩
    · rw [World.putObj_heap_other (fun e : D' = D => hn.1 (by rw [← e]; exact hD'))]; exact hD D' (by simp [hD'])
    · exact (Chg.put W D _ (by simp)).trans (hc.mono fun k _ hk => by simp [hk])
end Go.Sh
namespace Go.Proofs
open Go Go.Sh Go.RowKit

/- one cell of a row of our own -/
theorem owns_set {w : World} {B : Nat} {e : TypeId} {size : Nat} {a : Option Addr} {n c : Nat} {xs : List Value} (h : Owns w B e size a n c xs) {j : Nat} (hj : j < n * size) {v : Value} (hv : v.oneCell' = true) :
    ∃ g : Nat, a = some ⟨g, 0, none⟩ ∧ ∀ K : World → Prop, (∀ w', Owns w' B e size a n c (xs.set j v) → Chg (Sh.bk a) w w' → w'.heap.size = w.heap.size → K w') → stL w ⟨g, j, none⟩ 0 [v] K := by
  have hl := h.1
  rcases h.2 with h1 | ⟨g, cap, cur, e1, e2, e3, e4, e5, e6, e7⟩
  · have : n = 0 := by
      have := h1.1
      simp at this; omega
    subst this; omega
  obtain ⟨rfl, _, rfl⟩ : a = some ⟨g, 0, none⟩ ∧ True ∧ c = cap := by simpa using e1
  have hB : Blk w g cur.toList e := e3
  have hcl : cur.toList.length = c * size := by simpa using e6
  have hnc : n * size ≤ c * size := Nat.mul_le_mul_right _ e4
  refine ⟨g, rfl, fun K hK => ?_⟩
  refine stL_blk hB (by simp; omega) (fun u hu => by rw [List.mem_singleton.1 hu]; exact hv) fun w' b1 b2 b3 b4 b5 b6 => ?_
  have hc : Chg (Sh.bk (some (⟨g, 0, none⟩ : Addr))) w w' := ⟨b4, b5, b6, by omega, fun k' _ hk => b2 k' fun e => hk (by simp [Sh.bk, e])⟩
  have e : putAt cur.toList (j + 0) [v] = cur.toList.set j v := rfl
  rw [e] at b1
  refine hK w' ⟨by rw [List.length_set, hl], .inr ⟨g, c, ⟨_⟩, rfl, e2, b1, e4, e5, ?_, ?_⟩⟩ hc b3
  · show (cur.toList.set j v).length = c * size
    rw [List.length_set, hcl]
  · show List.take (n * size) (cur.toList.set j v) = xs.set j v
    rw [List.take_set, e7]
/- one more node at the end of a list of our own -/
theorem OwnG.pushA {P : Program} {t ty e : TypeId} {bytes : Nat} {z : Value} {S O : Nat → Prop} {B : Nat} {w : World} {a : Option Addr} {n c : Nat} {f : Fo} (hT : SlT P t e 4 bytes z) (h : OwnG e S O B w a n c f) (hB : B ≤ w.heap.size)
    {k : Int} {s : List UInt8} {m : Int} {a' : Option Addr} {c' : Nat} {ps : Fo} {O2 : Nat → Prop}
    (hps : SlF (fun k => S k ∨ O2 k) w a' ps.len ps) (hO2 : ∀ k, O2 k → (B ≤ k ∧ k < w.heap.size) ∧ ¬ Sh.bk a k) (hSB : ∀ k, S k → k < B) (hlen : n + 1 ≤ 4611686018427387904) (hbytes : (n + 1) * bytes ≤ 140737488355328) {K : Option Addr → Nat → Nat → World → Prop}
    (hk : ∀ a'' c'' w' (O' : Nat → Prop), OwnG e S O' B w' a'' (n + 1) c'' (f.app (.one k s m ps)) → Chg (Sh.bk a) w w' → (∀ j, O' j → O j ∨ O2 j ∨ (w.heap.size ≤ j ∧ j < w'.heap.size)) → K a'' (n + 1) c'' w') :
    al w e [.int .i64 k, .string ⟨⟨s⟩⟩, .int .i64 m, .slice a' ps.len c'] fun p w1 => app P [t, t] ty (.slice a n c) (.slice (some p) 1 1) w1 K := by
  obtain ⟨h0, h1, h2, xs, h3, h4⟩ := h
  refine app_one2 hT h3 hB [.int .i64 k, .string ⟨⟨s⟩⟩, .int .i64 m, .slice a' ps.len c'] rfl (by intro u hu; simp only [List.mem_cons, List.not_mem_nil, or_false] at hu; rcases hu with rfl | rfl | rfl | rfl <;> rfl) hlen hbytes
    fun a'' c'' w' ho hc hn => hk a'' c'' w' (fun j => O j ∨ O2 j ∨ Sh.bk a'' j) ⟨?_, fun j hj => .inr (.inr hj), fun j hj => ?_, _, ho, ?_⟩ hc ?_
  · simp [Fo.one]; exact h0
  · have z := hc.size
    rcases hj with hj | hj | hj
    · exact ⟨(h2 j hj).1, by have := (h2 j hj).2; omega⟩
    · exact ⟨(hO2 j hj).1.1, by have := (hO2 j hj).1.2; omega⟩
    · exact ho.bk hj
  · obtain ⟨_, us, g3, g4⟩ := hps
    have na : ∀ j, j < w.heap.size → ¬ Sh.bk a j → ¬ Sh.bk a'' j := fun j hj hb' hh => (hn j hh).elim hb' (by omega)
    have hs : ∀ j, ((S j ∨ O j) ∧ ¬ Sh.bk a j) → j < w.heap.size → ((S j ∨ O j ∨ O2 j ∨ Sh.bk a'' j) ∧ ¬ Sh.bk a'' j) ∧ w'.heap[j]? = w.heap[j]? := fun j hj hl =>
      ⟨⟨hj.1.imp id fun h => .inl h, na j hl hj.2⟩, hc.block j hl hj.2⟩
    have hs2 : ∀ j, (S j ∨ O2 j) → j < w.heap.size → ((S j ∨ O j ∨ O2 j ∨ Sh.bk a'' j) ∧ ¬ Sh.bk a'' j) ∧ w'.heap[j]? = w.heap[j]? := fun j hj hl => by
      have nb : ¬ Sh.bk a j := hj.elim (fun h => fun hh => by have := (h2 j (h1 j hh)).1; have := hSB j h; omega) (fun h => (hO2 j h).2)
      exact ⟨⟨hj.imp id fun h => .inr (.inl h), na j hl nb⟩, hc.block j hl nb⟩
    exact (h4.keep hs hc.size).app ⟨a', c', us, [], rfl, g3.keep hs2 hc.size, g4.keep hs2 hc.size, rfl⟩
  · intro j hj
    rcases hj with hj | hj | hj
    · exact .inl hj
    · exact .inr (.inl hj)
    · rcases hn j hj with h' | h'
      · exact .inl (h1 j h')
      · exact .inr (.inr ⟨h', (ho.bk hj).2⟩)
/- the open nodes in memory, each with its own list; the innermost one first -/
abbrev cellsH (h : Hd) (pa : Option Addr) (n c : Nat) : List Value := [.int .i64 h.k, .string ⟨⟨h.t⟩⟩, .int .i64 h.n, .slice pa n c]
def FrAt (e : TypeId) (B : Nat) (w : World) : List Fr → List Value → (Nat → Prop) → Prop
  | [], xs, O => xs = [] ∧ ∀ k, ¬ O k
  | f :: r, xs, O => ∃ pa pc O1 O2 ys, xs = ys ++ cellsH f.h pa f.f.len pc ∧ OwnG e (fun _ => False) O1 B w pa f.f.len pc f.f ∧ FrAt e B w r ys O2 ∧ (∀ k, O k ↔ O1 k ∨ O2 k) ∧ (∀ k, O1 k → ¬ O2 k)
theorem FrAt.len {e : TypeId} {B : Nat} {w : World} : ∀ {st : List Fr} {xs : List Value} {O : Nat → Prop}, FrAt e B w st xs O → xs.length = st.length * 4
  | [], xs, O, ⟨h, _⟩ => by rw [h]; rfl
  | f :: r, xs, O, ⟨pa, pc, O1, O2, ys, h1, h2, h3, _⟩ => by
    rw [h1, List.length_append, FrAt.len h3]
    show r.length * 4 + 4 = (r.length + 1) * 4
    omega
theorem FrAt.own {e : TypeId} {B : Nat} {w : World} : ∀ {st : List Fr} {xs : List Value} {O : Nat → Prop}, FrAt e B w st xs O → ∀ k, O k → B ≤ k ∧ k < w.heap.size
  | [], xs, O, ⟨_, h⟩, k, hk => absurd hk (h k)
  | f :: r, xs, O, ⟨pa, pc, O1, O2, ys, h1, h2, h3, h4, _⟩, k, hk => by
    rcases (h4 k).1 hk with hk | hk
    · exact h2.own hk
    · exact FrAt.own h3 k hk
theorem FrAt.chg {e : TypeId} {B : Nat} {w w' : World} {T : Nat → Prop} (hc : Chg T w w') : ∀ {st : List Fr} {xs : List Value} {O : Nat → Prop}, FrAt e B w st xs O → (∀ k, O k → ¬ T k) → FrAt e B w' st xs O
  | [], xs, O, h, _ => h
  | f :: r, xs, O, ⟨pa, pc, O1, O2, ys, h1, h2, h3, h4, h5⟩, hT =>
    ⟨pa, pc, O1, O2, ys, h1, h2.chg hc fun k hk _ => ⟨fun h => h, fun ho => hT k ((h4 k).2 (.inl ho)) hk⟩, FrAt.chg hc h3 fun k hk => hT k ((h4 k).2 (.inr hk)), h4, h5⟩
def StAt (e : TypeId) (B : Nat) (w : World) (a : Option Addr) (n c : Nat) (st : List Fr) (O : Nat → Prop) : Prop :=
  n = st.length ∧ ∃ xs, Owns w B e 4 a n c xs ∧ FrAt e B w st xs O ∧ ∀ k, O k → ¬ Sh.bk a k
section
variable {e : TypeId} {B : Nat} {w w' : World} {a : Option Addr} {n c : Nat} {st : List Fr} {O : Nat → Prop}
theorem StAt.bk (h : StAt e B w a n c st O) {k : Nat} (hk : Sh.bk a k) : B ≤ k ∧ k < w.heap.size := by
  obtain ⟨_, xs, h1, _⟩ := h
  exact h1.bk hk
theorem StAt.own (h : StAt e B w a n c st O) {k : Nat} (hk : O k) : B ≤ k ∧ k < w.heap.size := by
  obtain ⟨_, xs, _, h2, _⟩ := h
  exact h2.own k hk
theorem StAt.chg {T : Nat → Prop} (h : StAt e B w a n c st O) (hc : Chg T w w') (hT : ∀ k, T k → ¬ Sh.bk a k ∧ ¬ O k) : StAt e B w' a n c st O := by
  obtain ⟨h0, xs, h1, h2, h3⟩ := h
  exact ⟨h0, xs, h1.chg hc fun k hk ht => (hT k ht).1 hk, h2.chg hc fun k hk ht => (hT k ht).2 hk, h3⟩
theorem StAt.ext (h : StAt e B w a n c st O) (hc : Ext w w') : StAt e B w' a n c st O := h.chg (T := fun _ => False) (.of_ext hc) fun k h => h.elim
/- the cells of the open node at a height -/
theorem StAt.top {f : Fr} {r : List Fr} (h : StAt e B w a n c (f :: r) O) :
    ∃ (g : Nat) (pa : Option Addr) (pc : Nat) (O1 : Nat → Prop), a = some ⟨g, 0, none⟩ ∧ (∀ K : Addr → Prop, K ⟨g, r.length * 4, none⟩ → idx a n (r.length : Int) 4 K) ∧
      w.cell? ⟨g, r.length * 4, none⟩ = some (.int .i64 f.h.k) ∧ w.cell? ⟨g, r.length * 4 + 1, none⟩ = some (.string ⟨⟨f.h.t⟩⟩) ∧ w.cell? ⟨g, r.length * 4 + 2, none⟩ = some (.int .i64 f.h.n) ∧ w.cell? ⟨g, r.length * 4 + 3, none⟩ = some (.slice pa f.f.len pc) ∧
      OwnG e (fun _ => False) O1 B w pa f.f.len pc f.f ∧ (∀ k, O1 k → O k) := by
  obtain ⟨h0, xs, h1, ⟨pa, pc, O1, O2, ys, rfl, h2, h3, h4, h5⟩, h6⟩ := h
  obtain ⟨g, rfl, hg, hc⟩ := h1.cell (by rw [h0]; simp)
  have hl := h3.len
  have key : ∀ j v, (cellsH f.h pa f.f.len pc)[j]? = some v → w.cell? ⟨g, r.length * 4 + j, none⟩ = some v := fun j v hj => by
    refine hc _ _ ?_
    rw [List.getElem?_append_right (by omega), show r.length * 4 + j - ys.length = j by omega]; exact hj
  refine ⟨g, pa, pc, O1, rfl, fun K hK => ⟨by omega, by rw [h0, List.length_cons]; omega, ?_⟩, key 0 _ rfl, key 1 _ rfl, key 2 _ rfl, key 3 _ rfl, h2, fun k hk => (h4 k).2 (.inl hk)⟩
  show K _
  rw [add_none, Int.toNat_natCast, Nat.zero_add]; exact hK
/- one more open node -/
theorem StAt.push {P : Program} {t ty : TypeId} {bytes : Nat} {z : Value} (hT : SlT P t e 4 bytes z) (h : StAt e B w a n c st O) (hB : B ≤ w.heap.size) (hd : Hd) (hlen : n + 1 ≤ 4611686018427387904) (hbytes : (n + 1) * bytes ≤ 140737488355328) {K : Option Addr → Nat → Nat → World → Prop}
    (hk : ∀ a' c' w', StAt e B w' a' (n + 1) c' (⟨hd, .nil⟩ :: st) O → Chg (Sh.bk a) w w' → K a' (n + 1) c' w') :
    al w e (cellsH hd none 0 0) fun p w1 => app P [t, t] ty (.slice a n c) (.slice (some p) 1 1) w1 K := by
  obtain ⟨h0, xs, h1, h2, h3⟩ := h
  refine app_one2 hT h1 hB _ rfl (by intro u hu; simp only [List.mem_cons, List.not_mem_nil, or_false] at hu; rcases hu with rfl | rfl | rfl | rfl <;> rfl) hlen hbytes fun a' c' w' ho hc hn => hk a' c' w' ⟨by simp [h0], _, ho, ⟨none, 0, fun _ => False, O, xs, rfl, OwnG.nil w', h2.chg hc h3, fun k => by simp, fun k hk => hk.elim⟩, ?_⟩ hc
  intro k hk hb
  rcases hn k hb with h' | h'
  · exact h3 k hk h'
  · have := (h2.own k hk).2; omega
/- one more node in the list of the innermost open node -/
theorem StAt.addL {P : Program} {t ty : TypeId} {bytes : Nat} {z : Value} (hT : SlT P t e 4 bytes z) {f : Fr} {r : List Fr} (h : StAt e B w a n c (f :: r) O) (hB : B ≤ w.heap.size) {hd : Hd} {ps : Fo} {a' : Option Addr} {c' : Nat} {O2 : Nat → Prop}
    (hps : SlF O2 w a' ps.len ps) (hO2 : ∀ k, O2 k → (B ≤ k ∧ k < w.heap.size) ∧ ¬ O k ∧ ¬ Sh.bk a k) (hlen : f.f.len + 1 ≤ 4611686018427387904) (hbytes : (f.f.len + 1) * bytes ≤ 140737488355328) :
    ∃ (g : Nat) (pa : Option Addr) (pc : Nat), a = some ⟨g, 0, none⟩ ∧ w.cell? ⟨g, r.length * 4 + 3, none⟩ = some (.slice pa f.f.len pc) ∧
      ∀ K : World → Prop, (∀ w' O', StAt e B w' a n c (f.add hd ps :: r) O' → Chg (fun k => Sh.bk a k ∨ O k) w w' → (∀ k, O' k → O k ∨ O2 k ∨ (w.heap.size ≤ k ∧ k < w'.heap.size)) → K w') →
        al w e (cellsH hd a' ps.len c') fun p w1 => app P [t, t] ty (.slice pa f.f.len pc) (.slice (some p) 1 1) w1 fun a1 n1 c1 w2 => stL w2 ⟨g, r.length * 4 + 3, none⟩ 0 [.slice a1 n1 c1] K := by
  obtain ⟨h0, xs, h1, ⟨pa, pc, O0, Or, ys, rfl, h2, h3, h4, h5⟩, h6⟩ := h
  obtain ⟨g, ha, hg, hc⟩ := h1.cell (by rw [h0]; simp)
  have hl := h3.len
  have hn : n = r.length + 1 := by rw [h0, List.length_cons]
  have hcell : w.cell? ⟨g, r.length * 4 + 3, none⟩ = some (.slice pa f.f.len pc) := by
    refine hc _ _ ?_
    rw [List.getElem?_append_right (by omega), show r.length * 4 + 3 - ys.length = 3 by omega]; rfl
  refine ⟨g, pa, pc, ha, hcell, fun K hK => ?_⟩
  refine OwnG.pushA hT h2 hB (S := fun _ => False) (O2 := O2) (hps.imp fun k hk _ => .inr hk) (fun k hk => ⟨(hO2 k hk).1, fun hb => (hO2 k hk).2.1 ((h4 k).2 (.inl (h2.bk hb)))⟩) (fun k hk => hk.elim) hlen hbytes fun a1 c1 w2 O1' q5 q2 q4 => ?_
  have h1' : Owns w2 B e 4 a n c (ys ++ cellsH f.h pa f.f.len pc) := h1.chg q2 fun k hk hp => h6 k ((h4 k).2 (.inl (h2.bk hp))) hk
  obtain ⟨g', hg', hst⟩ := owns_set h1' (j := r.length * 4 + 3) (by omega) (v := .slice a1 (f.f.len + 1) c1) rfl
  obtain rfl : g' = g := by rw [ha] at hg'; simpa using hg'.symm
  refine hst K fun w' ho hcw hz => ?_
  have hset : (ys ++ cellsH f.h pa f.f.len pc).set (r.length * 4 + 3) (.slice a1 (f.f.len + 1) c1) = ys ++ cellsH f.h a1 (f.f.len + 1) c1 := by
    rw [List.set_append_right _ _ (by omega), show r.length * 4 + 3 - ys.length = 3 by omega]; rfl
  rw [hset] at ho
  have hlen' : (f.add hd ps).f.len = f.f.len + 1 := by unfold Fr.add; simp [Fo.one]
  have z := q2.size
  have nb : ∀ k, O1' k → ¬ Sh.bk a k := fun k hk hb => (q4 k hk).elim (fun h => h6 k ((h4 k).2 (.inl h)) hb) (fun h => h.elim (fun h => (hO2 k h).2.2 hb) (fun h => by have := (h1.bk hb).2; omega))
  refine hK w' (fun k => O1' k ∨ Or k) ⟨by rw [h0]; rfl, _, ho, ⟨a1, c1, O1', Or, ys, by rw [hlen']; rfl, ?_, ?_, fun k => Iff.rfl, ?_⟩, ?_⟩ ?_ ?_
  · rw [hlen']
    exact q5.chg hcw fun k hk _ => ⟨fun h => h, fun ho => nb k ho hk⟩
  · exact (h3.chg q2 fun k hk hp => h5 k (h2.bk hp) hk).chg hcw fun k hk hb => h6 k ((h4 k).2 (.inr hk)) hb
  · intro k hk h2'
    rcases q4 k hk with h | h | h
    · exact h5 k h h2'
    · exact (hO2 k h).2.1 ((h4 k).2 (.inr h2'))
    · have := (h3.own k h2').2; omega
  · intro k hk
    rcases hk with hk | hk
    · exact nb k hk
    · exact h6 k ((h4 k).2 (.inr hk))
  · exact (q2.mono fun k _ hk => .inr ((h4 k).2 (.inl (h2.bk hk)))).trans (hcw.mono fun k _ hk => .inl hk)
  · intro k hk
    rcases hk with hk | hk
    · rcases q4 k hk with h | h | h
      · exact .inl ((h4 k).2 (.inl h))
      · exact .inr (.inl h)
      · exact .inr (.inr ⟨h.1, by omega⟩)
    · exact .inl ((h4 k).2 (.inr hk))
/- the innermost open node closes: the others stay, its list stands apart -/
theorem StAt.pop {f : Fr} {r : List Fr} (h : StAt e B w a n c (f :: r) O) :
    ∃ (pa : Option Addr) (pc : Nat) (O1 O' : Nat → Prop), StAt e B w a r.length c r O' ∧ SlF O1 w pa f.f.len f.f ∧ (∀ k, O1 k → (B ≤ k ∧ k < w.heap.size) ∧ ¬ O' k ∧ ¬ Sh.bk a k) ∧ (∀ k, O1 k → O k) ∧ (∀ k, O' k → O k) ∧
      ∃ g : Nat, a = some ⟨g, 0, none⟩ ∧ w.cell? ⟨g, r.length * 4, none⟩ = some (.int .i64 f.h.k) ∧ w.cell? ⟨g, r.length * 4 + 1, none⟩ = some (.string ⟨⟨f.h.t⟩⟩) ∧ w.cell? ⟨g, r.length * 4 + 2, none⟩ = some (.int .i64 f.h.n) ∧ w.cell? ⟨g, r.length * 4 + 3, none⟩ = some (.slice pa f.f.len pc) := by
  obtain ⟨h0, xs, h1, ⟨pa, pc, O1, Or, ys, rfl, h2, h3, h4, h5⟩, h6⟩ := h
  obtain ⟨g, ha, hg, hc⟩ := h1.cell (by rw [h0]; simp)
  have hl := h3.len
  have hn : n = r.length + 1 := by rw [h0, List.length_cons]
  have key : ∀ j v, (cellsH f.h pa f.f.len pc)[j]? = some v → w.cell? ⟨g, r.length * 4 + j, none⟩ = some v := fun j v hj => by
    refine hc _ _ ?_
    rw [List.getElem?_append_right (by omega), show r.length * 4 + j - ys.length = j by omega]; exact hj
  have hcut := owns_cut h1 (m := r.length) (by omega)
  rw [List.take_left' hl] at hcut
  refine ⟨pa, pc, O1, Or, ⟨rfl, ys, hcut, h3, fun k hk => h6 k ((h4 k).2 (.inr hk))⟩, ?_, fun k hk => ⟨h2.own hk, h5 k hk, h6 k ((h4 k).2 (.inl hk))⟩, fun k hk => (h4 k).2 (.inl hk), fun k hk => (h4 k).2 (.inr hk), g, ha, key 0 _ rfl, key 1 _ rfl, key 2 _ rfl, key 3 _ rfl⟩
  exact h2.out.imp fun k hk _ => hk.elim (fun h => h.elim) id
end
end Go.Proofs
namespace Go.Proofs
open Go Go.Sh Go.RowKit

variable {e : TypeId} {B : Nat} {w w' : World} {a : Option Addr} {n c : Nat} {st : List Fr} {O : Nat → Prop}
/- one more node in the list of the innermost open node, the new element laid down after the row has grown, and the list's head before it or after it -/
theorem StAt.grow {P : Program} {t ty : TypeId} {bytes : Nat} {z : Value} (hT : SlT P t e 4 bytes z) {f : Fr} {r : List Fr} (h : StAt e B w a n c (f :: r) O) (hB : B ≤ w.heap.size) {bz : Nat} {Tz : TypeId} {zc : List Value} (hbz : Blk w bz zc Tz) (hzc : zc.length = 4) (hz1 : ∀ u ∈ zc, u.oneCell' = true)
    {hd : Hd} {ps : Fo} {a' : Option Addr} {c' : Nat} {O2 : Nat → Prop}
    (hps : SlF O2 w a' ps.len ps) (hO2 : ∀ k, O2 k → (B ≤ k ∧ k < w.heap.size) ∧ ¬ O k ∧ ¬ Sh.bk a k) (hlen : f.f.len + 1 ≤ 4611686018427387904) (hbytes : (f.f.len + 1) * bytes ≤ 140737488355328) {pa : Option Addr} {pc g : Nat} (ha : a = some ⟨g, 0, none⟩) (hcell : w.cell? ⟨g, r.length * 4 + 3, none⟩ = some (.slice pa f.f.len pc))
    {K4 : Option Addr → Nat → Nat → World → Prop}
    (hK : ∀ a1 c1 w2 (q : Addr), (∀ KK : Addr → Prop, KK q → idx a1 (f.f.len + 1) (f.f.len : Int) 4 KK) →
      (∀ K : World → Prop, (∀ w' O', StAt e B w' a n c (f.add hd ps :: r) O' → Chg (fun k => Sh.bk a k ∨ O k) w w' → (∀ k, O' k → O k ∨ O2 k ∨ (w.heap.size ≤ k ∧ k < w'.heap.size)) → K w') →
        (stL w2 q 0 (cellsH hd a' ps.len c') fun w3 => (stL w3 ⟨g, r.length * 4 + 3, none⟩ 0 [.slice a1 (f.f.len + 1) c1] K) ∧ True) ∧
        (stL w2 ⟨g, r.length * 4 + 3, none⟩ 0 [.slice a1 (f.f.len + 1) c1] fun w3 => (stL w3 q 0 (cellsH hd a' ps.len c') K) ∧ True) ∧
        (stL w2 ⟨g, r.length * 4 + 3, none⟩ 0 [.slice a1 (f.f.len + 1) c1] fun w3 => idx a1 (f.f.len + 1) (f.f.len : Int) 4 fun q => stL w3 q 0 (cellsH hd a' ps.len c') K) ∧
        (zc = cellsH hd a' ps.len c' → stL w2 ⟨g, r.length * 4 + 3, none⟩ 0 [.slice a1 (f.f.len + 1) c1] K)) → K4 a1 (f.f.len + 1) c1 w2) :
    app P [t, t] ty (.slice pa f.f.len pc) (.slice (some ⟨bz, 0, none⟩) 1 1) w K4 := by
  obtain ⟨h0, xs, h1, ⟨pa', pc', O0, Or, ys, rfl, h2, h3, h4, h5⟩, h6⟩ := h
  obtain ⟨g', ha', hg, hc⟩ := h1.cell (by rw [h0]; simp)
  obtain rfl : g' = g := by rw [ha] at ha'; simpa using ha'.symm
  have hl := h3.len
  have hn : n = r.length + 1 := by rw [h0, List.length_cons]
  have hcell' : w.cell? ⟨g', r.length * 4 + 3, none⟩ = some (.slice pa' f.f.len pc') := by
    refine hc _ _ ?_
    rw [List.getElem?_append_right (by omega), show r.length * 4 + 3 - ys.length = 3 by omega]; rfl
  obtain ⟨rfl, rfl⟩ : pa' = pa ∧ pc' = pc := by
    rw [hcell] at hcell'
    have := Value.slice.inj (Option.some.inj hcell')
    exact ⟨this.1.symm, this.2.2.symm⟩
  obtain ⟨_, o1, o2, px, q1, q2⟩ := h2
  refine app_own2 hT q1 hB (S := fun _ => True) zc (by rw [hzc, Nat.one_mul]) (.inr ⟨bz, 0, rfl, trivial, hbz.lt, fun j v hj => by rw [Nat.zero_add, hbz.cell]; exact hj⟩) hz1 hlen hbytes fun a1 c1 w2 ho hcw hnn => ?_
  have z := hcw.size
  obtain ⟨g1, ha1, hidx, hst⟩ := ho.storeLast (vs := cellsH hd a' ps.len c') hzc rfl (by intro u hu; simp only [List.mem_cons, List.not_mem_nil, or_false] at hu; rcases hu with rfl | rfl | rfl | rfl <;> rfl)
  have paO : ∀ k, Sh.bk pa' k → O k := fun k hk => (h4 k).2 (.inl (o1 k hk))
  have h1' : Owns w2 B e 4 a n c (ys ++ cellsH f.h pa' f.f.len pc') := h1.chg hcw fun k hk hp => h6 k (paO k hp) hk
  have na1 : ∀ k, Sh.bk a1 k → ¬ Sh.bk a k := fun k hk hb => (hnn k hk).elim (fun h => h6 k (paO k h) hb) (fun h => by have := (h1.bk hb).2; omega)
  have hset : (ys ++ cellsH f.h pa' f.f.len pc').set (r.length * 4 + 3) (.slice a1 (f.f.len + 1) c1) = ys ++ cellsH f.h a1 (f.f.len + 1) c1 := by
    rw [List.set_append_right _ _ (by omega), show r.length * 4 + 3 - ys.length = 3 by omega]; rfl
  have hlen' : (f.add hd ps).f.len = f.f.len + 1 := by unfold Fr.add; simp [Fo.one]
  have fin : ∀ w', Owns w' B e 4 a1 (f.f.len + 1) c1 (px ++ cellsH hd a' ps.len c') → Owns w' B e 4 a n c (ys ++ cellsH f.h a1 (f.f.len + 1) c1) → Chg (fun k => Sh.bk a1 k ∨ Sh.bk a k) w2 w' →
      StAt e B w' a n c (f.add hd ps :: r) (fun k => (O0 k ∨ O2 k ∨ Sh.bk a1 k) ∨ Or k) ∧ Chg (fun k => Sh.bk a k ∨ O k) w w' ∧ (∀ k, ((O0 k ∨ O2 k ∨ Sh.bk a1 k) ∨ Or k) → O k ∨ O2 k ∨ (w.heap.size ≤ k ∧ k < w'.heap.size)) := by
    intro w' x1 x2 x3
    have z3 := x3.size
    have own1 : ∀ k, (O0 k ∨ O2 k ∨ Sh.bk a1 k) → B ≤ k ∧ k < w'.heap.size := fun k hk => by
      rcases hk with hk | hk | hk
      · exact ⟨(o2 k hk).1, by have := (o2 k hk).2; omega⟩
      · exact ⟨(hO2 k hk).1.1, by have := (hO2 k hk).1.2; omega⟩
      · exact x1.bk hk
    have same : ∀ k, k < w.heap.size → ¬ Sh.bk pa' k → ¬ Sh.bk a k → ¬ Sh.bk a1 k ∧ w'.heap[k]? = w.heap[k]? := fun k hk n1 n2 => by
      have n3 : ¬ Sh.bk a1 k := fun hh => (hnn k hh).elim n1 (by omega)
      exact ⟨n3, (x3.block k (by omega) fun hh => hh.elim n3 n2).trans (hcw.block k hk n1)⟩
    refine ⟨⟨by rw [h0]; rfl, _, x2, ⟨a1, c1, _, Or, ys, by rw [hlen']; rfl, ?_, ?_, fun k => Iff.rfl, ?_⟩, ?_⟩, ?_, ?_⟩
    · rw [hlen']
      refine ⟨by show _ = (f.f.app _).len; simp [Fo.one], fun k hk => .inr (.inr hk), own1, _, x1, ?_⟩
      obtain ⟨_, us, g3, g4⟩ := hps
      have k1 : ∀ k, ((False ∨ O0 k) ∧ ¬ Sh.bk pa' k) → k < w.heap.size → ((False ∨ O0 k ∨ O2 k ∨ Sh.bk a1 k) ∧ ¬ Sh.bk a1 k) ∧ w'.heap[k]? = w.heap[k]? := fun k hk hl => by
        have ho : O0 k := hk.1.elim (fun h => h.elim) id
        obtain ⟨s1, s2⟩ := same k hl hk.2 (h6 k ((h4 k).2 (.inl ho)))
        exact ⟨⟨.inr (.inl ho), s1⟩, s2⟩
      have k2 : ∀ k, O2 k → k < w.heap.size → ((False ∨ O0 k ∨ O2 k ∨ Sh.bk a1 k) ∧ ¬ Sh.bk a1 k) ∧ w'.heap[k]? = w.heap[k]? := fun k hk hl => by
        obtain ⟨s1, s2⟩ := same k hl (fun hh => (hO2 k hk).2.1 (paO k hh)) (hO2 k hk).2.2
        exact ⟨⟨.inr (.inr (.inl hk)), s1⟩, s2⟩
      exact (q2.keep k1 (by omega)).app ⟨a', c', us, [], rfl, g3.keep k2 (by omega), g4.keep k2 (by omega), rfl⟩
    · exact (h3.chg hcw fun k hk hp => h5 k (o1 k hp) hk).chg x3 fun k hk hh => hh.elim (fun hb => (hnn k hb).elim (fun hp => h5 k (o1 k hp) hk) (fun hp => by have := (h3.own k hk).2; omega)) (h6 k ((h4 k).2 (.inr hk)))
    · intro k hk h2'
      rcases hk with hk | hk | hk
      · exact h5 k hk h2'
      · exact (hO2 k hk).2.1 ((h4 k).2 (.inr h2'))
      · rcases hnn k hk with hp | hp
        · exact h5 k (o1 k hp) h2'
        · have := (h3.own k h2').2; omega
    · intro k hk
      rcases hk with hk | hk
      · rcases hk with hk | hk | hk
        · exact h6 k ((h4 k).2 (.inl hk))
        · exact (hO2 k hk).2.2
        · exact na1 k hk
      · exact h6 k ((h4 k).2 (.inr hk))
    · refine ⟨x3.os.trans hcw.os, x3.tape.trans hcw.tape, x3.output.trans hcw.output, by omega, fun k hk hh => (same k hk (fun hp => hh (.inr (paO k hp))) (fun hb => hh (.inl hb))).2⟩
    · intro k hk
      rcases hk with hk | hk
      · rcases hk with hk | hk | hk
        · exact .inl ((h4 k).2 (.inl hk))
        · exact .inr (.inl hk)
        · rcases hnn k hk with hp | hp
          · exact .inl (paO k hp)
          · exact .inr (.inr ⟨hp, (x1.bk hk).2⟩)
      · exact .inl ((h4 k).2 (.inr hk))
  have seth : ∀ {W : World} {K : World → Prop}, Owns W B e 4 a n c (ys ++ cellsH f.h pa' f.f.len pc') → (∀ w', Owns w' B e 4 a n c (ys ++ cellsH f.h a1 (f.f.len + 1) c1) → Chg (Sh.bk a) W w' → w'.heap.size = W.heap.size → K w') → stL W ⟨g', r.length * 4 + 3, none⟩ 0 [.slice a1 (f.f.len + 1) c1] K := by
    intro W K hW hk
    obtain ⟨g2, hg2, hst2⟩ := owns_set hW (j := r.length * 4 + 3) (by omega) (v := .slice a1 (f.f.len + 1) c1) rfl
    obtain rfl : g2 = g' := by rw [ha] at hg2; simpa using hg2.symm
    refine hst2 K fun w' x1 x2 x3 => hk w' (by rw [← hset]; exact x1) x2 x3
  have sete : ∀ {W : World} {K : World → Prop}, Owns W B e 4 a1 (f.f.len + 1) c1 (px ++ zc) → (∀ w', Owns w' B e 4 a1 (f.f.len + 1) c1 (px ++ cellsH hd a' ps.len c') → Chg (Sh.bk a1) W w' → w'.heap.size = W.heap.size → K w') → stL W ⟨g1, f.f.len * 4, none⟩ 0 (cellsH hd a' ps.len c') K := by
    intro W K hW hk
    obtain ⟨g2, hg2, _, hst2⟩ := hW.storeLast (vs := cellsH hd a' ps.len c') hzc rfl (by intro u hu; simp only [List.mem_cons, List.not_mem_nil, or_false] at hu; rcases hu with rfl | rfl | rfl | rfl <;> rfl)
    obtain rfl : g2 = g1 := by rw [ha1] at hg2; simpa using hg2.symm
    exact hst2 K hk
  refine hK a1 c1 w2 ⟨g1, f.f.len * 4, none⟩ hidx fun K hk => ?_
  have eh : ∀ {K : World → Prop}, (∀ w' O', StAt e B w' a n c (f.add hd ps :: r) O' → Chg (fun k => Sh.bk a k ∨ O k) w w' → (∀ k, O' k → O k ∨ O2 k ∨ (w.heap.size ≤ k ∧ k < w'.heap.size)) → K w') → stL w2 ⟨g1, f.f.len * 4, none⟩ 0 (cellsH hd a' ps.len c') fun w3 => (stL w3 ⟨g', r.length * 4 + 3, none⟩ 0 [.slice a1 (f.f.len + 1) c1] K) ∧ True := by
    intro K hk
    refine sete ho fun w3 x1 x2 x3 => ⟨seth (h1'.chg x2 fun k hk hh => na1 k hh hk) fun w4 y1 y2 y3 => ?_, trivial⟩
    obtain ⟨f1, f2, f3⟩ := fin w4 (x1.chg y2 fun k hk hh => na1 k hk hh) y1 ((x2.mono fun k _ hk => .inl hk).trans (y2.mono fun k _ hk => .inr hk))
    exact hk w4 _ f1 f2 f3
  have he : ∀ {W : World} {K : World → Prop}, (∀ w' O', StAt e B w' a n c (f.add hd ps :: r) O' → Chg (fun k => Sh.bk a k ∨ O k) w w' → (∀ k, O' k → O k ∨ O2 k ∨ (w.heap.size ≤ k ∧ k < w'.heap.size)) → K w') → Owns W B e 4 a n c (ys ++ cellsH f.h a1 (f.f.len + 1) c1) → Chg (Sh.bk a) w2 W → stL W ⟨g1, f.f.len * 4, none⟩ 0 (cellsH hd a' ps.len c') K := by
    intro W K hk y1 y2
    refine sete (ho.chg y2 fun k hk hh => na1 k hk hh) fun w4 x1 x2 x3 => ?_
    obtain ⟨f1, f2, f3⟩ := fin w4 x1 (y1.chg x2 fun k hk hh => na1 k hh hk) ((y2.mono fun k _ hk => .inr hk).trans (x2.mono fun k _ hk => .inl hk))
    exact hk w4 _ f1 f2 f3
  refine ⟨eh hk, seth h1' fun w3 y1 y2 _ => ⟨he hk y1 y2, trivial⟩, seth h1' fun w3 y1 y2 _ => hidx _ (he hk y1 y2), fun hz => seth h1' fun w3 y1 y2 _ => ?_⟩
  obtain ⟨f1, f2, f3⟩ := fin w3 (by rw [← hz]; exact ho.chg y2 fun k hk hh => na1 k hk hh) y1 (y2.mono fun k _ hk => .inr hk)
  exact hk w3 _ f1 f2 f3
end Go.Proofs
namespace Go.Proofs
open Go Go.Sh Go.RowKit

/- tokens that are right alone -/
def tkOk (x : Tk) : Prop := (x.k = 1 ∧ x.nm = []) ∨ ((x.k = 2 ∨ x.k = 3 ∨ x.k = 4) ∧ knownB x.nm = true ∧ emptyB x.nm = decide (x.k = 4) ∧ (x.k = 3 → x.vl = []) ∧ (x.k ≠ 3 → valB x.nm x.vl = true))
theorem chk_tk {x : Lx} {pt : Bool} {at_ : Int} (h : chkOne x pt at_ = 0) : tkOk (tkX x) := by
  obtain ⟨h1, _, h3, _⟩ := chk_inv h
  unfold singleX at h1
  unfold tkOk tkX
  by_cases hk : x.k = 1
  · left
    rw [if_pos hk] at h1
    split at h1
    · cases h1
    · rename_i hn; exact ⟨hk, Classical.not_not.1 hn⟩
  · right
    rw [if_neg hk] at h1
    split at h1
    · rename_i hk2
      split at h1
      · rename_i hn
        have hr := h3 hk
        unfold rightX at hr
        refine ⟨hk2, hn.1, hn.2, fun h => ?_, fun h => ?_⟩
        · rw [if_pos h] at hr; exact of_decide_eq_true hr
        · rw [if_neg h] at hr; exact hr
      · cases h1
    · cases h1
theorem chkGo_tk : ∀ {L : List Lx} {pt : Bool} {at_ : Nat}, chkGo L pt at_ = 0 → ∀ x ∈ L, tkOk (tkX x)
  | [], _, _, _, x, hx => by cases hx
  | y :: r, pt, at_, h, x, hx => by
    obtain ⟨h1, h2⟩ := chkGo_cons.1 h
    rcases List.mem_cons.1 hx with rfl | hx
    · exact chk_tk h1
    · exact chkGo_tk h2 x hx
/- the node of an opening or an empty tag -/
theorem num_val {most : Nat} (hm : most ≤ 64) {v : List UInt8} (h : numV most v = true) : 1 ≤ numOf v ∧ numOf v ≤ 64 ∧ Lib.decDigits (numOf v).toNat = v := by
  obtain ⟨n, h1, h2, h3, h4⟩ := (numV_iff hm v).1 h
  unfold numOf
  rw [h1]
  exact ⟨by show (1 : Int) ≤ (n : Int); omega, by show (n : Int) ≤ 64; omega, h4⟩
theorem head_back {nm vl : List UInt8} {c : Int} (hc : c ≠ 1) (h1 : knownB nm = true) (h2 : valB nm vl = true) :
    let h := headF ⟨c, nm, vl⟩
    tagF h.k = nm ∧ valT h.k h.t h.n = vl ∧ fieldsOk h.k h.t h.n ∧ h.k ≠ 1 ∧ partsF h.k = !emptyB nm := by
  have hm : nm ∈ tagNames := of_decide_eq_true h1
  unfold headF
  simp only [hc, if_false]
  simp only [tagNames, List.mem_cons, List.not_mem_nil, or_false] at hm
  have sm : ∀ i : Nat, i < 12 → 2 ≤ i → (if textsF (i : Int) = true then vl else []) = (if textsF (i : Int) then vl else []) := fun _ _ _ => rfl
  rcases hm with rfl | rfl | rfl | rfl | rfl | rfl | rfl | rfl | rfl | rfl
  · rw [show kindN [97, 98] = 10 by decide +kernel]
    exact ⟨rfl, rfl, .inr ⟨by decide, by decide, fun hh => (by cases hh), fun _ => rfl, fun hh => (by cases hh)⟩, by decide, rfl⟩
  · rw [show kindN [97, 100, 100] = 8 by decide +kernel]
    obtain ⟨a, b, d⟩ := num_val (most := 8) (by omega) h2
    exact ⟨rfl, d, .inr ⟨by decide, by decide, fun _ => rfl, fun hh => (by cases hh), fun _ => ⟨a, b⟩⟩, by decide, rfl⟩
  · rw [show kindN [100, 101, 108] = 9 by decide +kernel]
    obtain ⟨a, b, d⟩ := num_val (most := 8) (by omega) h2
    exact ⟨rfl, d, .inr ⟨by decide, by decide, fun _ => rfl, fun hh => (by cases hh), fun _ => ⟨a, b⟩⟩, by decide, rfl⟩
  · rw [show kindN [103, 97, 112] = 6 by decide +kernel]
    obtain ⟨a, b, d⟩ := num_val (most := 64) (by omega) h2
    exact ⟨rfl, d, .inr ⟨by decide, by decide, fun _ => rfl, fun hh => (by cases hh), fun _ => ⟨a, b⟩⟩, by decide, rfl⟩
  · rw [show kindN [108, 98] = 2 by decide +kernel]
    exact ⟨rfl, (of_decide_eq_true h2).symm, .inr ⟨by decide, by decide, fun _ => rfl, fun _ => rfl, fun hh => (by cases hh)⟩, by decide, rfl⟩
  · rw [show kindN [110, 97, 109, 101] = 11 by decide +kernel]
    exact ⟨rfl, rfl, .inr ⟨by decide, by decide, fun hh => (by cases hh), fun _ => rfl, fun hh => (by cases hh)⟩, by decide, rfl⟩
  · rw [show kindN [112, 98] = 3 by decide +kernel]
    exact ⟨rfl, rfl, .inr ⟨by decide, by decide, fun hh => (by cases hh), fun _ => rfl, fun hh => (by cases hh)⟩, by decide, rfl⟩
  · rw [show kindN [115, 101, 99] = 4 by decide +kernel]
    exact ⟨rfl, rfl, .inr ⟨by decide, by decide, fun hh => (by cases hh), fun _ => rfl, fun hh => (by cases hh)⟩, by decide, rfl⟩
  · rw [show kindN [117, 110, 99, 108, 101, 97, 114] = 7 by decide +kernel]
    exact ⟨rfl, (of_decide_eq_true h2).symm, .inr ⟨by decide, by decide, fun _ => rfl, fun _ => rfl, fun hh => (by cases hh)⟩, by decide, rfl⟩
  · rw [show kindN [118] = 5 by decide +kernel]
    exact ⟨rfl, (of_decide_eq_true h2).symm, .inr ⟨by decide, by decide, fun _ => rfl, fun _ => rfl, fun hh => (by cases hh)⟩, by decide, rfl⟩
/- the tokens that lie in what is open -/
def hdTk (h : Hd) : Tk := ⟨2, tagF h.k, valT h.k h.t h.n⟩
def unp : List Fr → List Tk
  | [] => []
  | [f] => tksF f.f
  | f :: g :: r => unp (g :: r) ++ hdTk f.h :: tksF f.f
def hdOk (h : Hd) : Prop := fieldsOk h.k h.t h.n ∧ h.k ≠ 1 ∧ partsF h.k = true
def frOk : List Fr → Prop
  | [] => False
  | [f] => shapeF f.f
  | f :: g :: r => hdOk f.h ∧ shapeF f.f ∧ frOk (g :: r)
def namesF : List Fr → List (List UInt8)
  | [] => []
  | [_] => []
  | f :: g :: r => tagF f.h.k :: namesF (g :: r)
theorem shape_app {f g : Fo} : shapeF (f.app g) ↔ shapeF f ∧ shapeF g := by
  induction f with
  | nil => simp [shapeF]
  | cons k t n ps r _ ih => simp only [Fo.cons_app, shapeF, ih, and_assoc]
theorem unp_add (f : Fr) (h : Hd) (ps : Fo) (r : List Fr) : unp (f.add h ps :: r) = unp (f :: r) ++ tksF (.one h.k h.t h.n ps) := by
  cases r with
  | nil => exact tksF_app _ _
  | cons g r =>
    show unp (g :: r) ++ hdTk f.h :: tksF (f.f.app _) = (unp (g :: r) ++ hdTk f.h :: tksF f.f) ++ _
    rw [tksF_app]; simp
theorem fr_add {f : Fr} {h : Hd} {ps : Fo} {r : List Fr} (hf : frOk (f :: r)) (hs : shapeF (.one h.k h.t h.n ps)) : frOk (f.add h ps :: r) := by
  cases r with
  | nil => exact shape_app.2 ⟨hf, hs⟩
  | cons g r => exact ⟨hf.1, shape_app.2 ⟨hf.2.1, hs⟩, hf.2.2⟩
theorem names_add (f : Fr) (h : Hd) (ps : Fo) (r : List Fr) : namesF (f.add h ps :: r) = namesF (f :: r) := by
  cases r <;> rfl
theorem tks_one (h : Hd) (ps : Fo) : tksF (.one h.k h.t h.n ps) = (if h.k = 1 then [⟨1, [], h.t⟩] else if partsF h.k then ⟨2, tagF h.k, valT h.k h.t h.n⟩ :: (tksF ps ++ [⟨3, tagF h.k, []⟩]) else [⟨4, tagF h.k, valT h.k h.t h.n⟩]) := by
  unfold Fo.one
  rw [tksF, tksF, List.append_nil]
theorem parse_inv : ∀ (L : List Lx) (st : List Fr), frOk st → (∀ x ∈ L, tkOk (tkX x)) → nestGo L (namesF st) = 0 → ∃ fr : Fr, (L.map tkX).foldl stepP st = [fr] ∧ shapeF fr.f ∧ tksF fr.f = unp st ++ L.map tkX
  | [], st, hf, _, hn => by
    match st, hf with
    | [f], hf => exact ⟨f, rfl, hf, by simp [unp]⟩
    | f :: g :: r, hf =>
      rw [namesF, nestGo] at hn
      simp at hn
  | x :: L, st, hf, ht, hn => by
    have hx := ht x List.mem_cons_self
    have htl : ∀ y ∈ L, tkOk (tkX y) := fun y hy => ht y (List.mem_cons_of_mem _ hy)
    obtain ⟨f, r, rfl⟩ : ∃ f r, st = f :: r := by
      cases st with
      | nil => exact hf.elim
      | cons f r => exact ⟨f, r, rfl⟩
    rw [List.map_cons, List.foldl_cons]
    rw [nestGo] at hn
    have fin : ∀ st', stepP (f :: r) (tkX x) = st' → frOk st' → nestGo L (namesF st') = 0 → unp st' = unp (f :: r) ++ [tkX x] → ∃ fr : Fr, (L.map tkX).foldl stepP (stepP (f :: r) (tkX x)) = [fr] ∧ shapeF fr.f ∧ tksF fr.f = unp (f :: r) ++ tkX x :: L.map tkX := by
      intro st' h1 h2 h3 h4
      obtain ⟨fr, g1, g2, g3⟩ := parse_inv L st' h2 htl h3
      exact ⟨fr, by rw [h1]; exact g1, g2, by rw [g3, h4]; simp⟩
    by_cases h2 : x.k = 2
    · rw [if_pos h2] at hn
      split at hn
      · cases hn
      rcases hx with hx | ⟨_, hk, he, _, hv⟩
      · exact absurd (hx.1.symm.trans h2) (by decide)
      have hb := head_back (c := x.k) (by omega) hk (hv (by show x.k ≠ 3; omega))
      obtain ⟨b1, b2, b3, b4, b5⟩ := hb
      have hpt : partsF (headF (tkX x)).k = true := by
        rw [show partsF (headF (tkX x)).k = !emptyB x.nm from b5]
        have : emptyB x.nm = decide (x.k = 4) := he
        rw [this, decide_eq_false (by omega)]; rfl
      refine fin (⟨headF (tkX x), .nil⟩ :: f :: r) (by unfold stepP; rw [if_pos (show (tkX x).k = 2 from h2)]) ⟨⟨b3, b4, hpt⟩, trivial, hf⟩ ?_ ?_
      · show nestGo L (tagF (headF (tkX x)).k :: namesF (f :: r)) = 0
        rw [show tagF (headF (tkX x)).k = x.nm from b1]; exact hn
      · show unp (f :: r) ++ [hdTk (headF (tkX x))] = _
        have : hdTk (headF (tkX x)) = tkX x := by
          unfold hdTk
          rw [show tagF (headF (tkX x)).k = x.nm from b1, show valT (headF (tkX x)).k (headF (tkX x)).t (headF (tkX x)).n = x.vl from b2]
          unfold tkX; rw [h2]
        rw [this]
    · rw [if_neg h2] at hn
      by_cases h3 : x.k = 3
      · rw [if_pos h3] at hn
        cases r with
        | nil => simp [namesF, popS] at hn
        | cons f1 r =>
          rw [namesF] at hn
          by_cases he : tagF f.h.k = x.nm
          · rw [popS, if_pos he] at hn
            obtain ⟨⟨a1, a2, a3⟩, a4, a5⟩ := hf
            have hvl : x.vl = [] := by
              rcases hx with hx | ⟨_, _, _, hv, _⟩
              · exact absurd (hx.1.symm.trans h3) (by decide)
              · exact hv h3
            refine fin (f1.add f.h f.f :: r) ?_ (fr_add a5 ?_) (by rw [names_add]; exact hn) ?_
            · unfold stepP; rw [if_neg (show ¬ (tkX x).k = 2 from h2), if_pos (show (tkX x).k = 3 from h3)]
            · exact ⟨a1, fun hh => (by rw [a3] at hh; cases hh), a4, trivial⟩
            · rw [unp_add, tks_one, if_neg a2, if_pos a3]
              show _ = (unp (f1 :: r) ++ hdTk f.h :: tksF f.f) ++ [tkX x]
              have : tkX x = ⟨3, tagF f.h.k, []⟩ := by unfold tkX; rw [h3, he, hvl]
              rw [this]; simp [hdTk]
          · rw [popS, if_neg he] at hn
            simp at hn
      · rw [if_neg h3] at hn
        have hs : stepP (f :: r) (tkX x) = f.add (headF (tkX x)) .nil :: r := by
          unfold stepP; rw [if_neg (show ¬ (tkX x).k = 2 from h2), if_neg (show ¬ (tkX x).k = 3 from h3)]
        rcases hx with hx | ⟨hk4, hk, he, _, hv⟩
        · obtain ⟨k1, n0⟩ := hx
          have k1 : x.k = 1 := k1
          have n0 : x.nm = [] := n0
          have hh : headF (tkX x) = ⟨1, x.vl, 0⟩ := by unfold headF; rw [if_pos (show (tkX x).k = 1 from k1)]; rfl
          refine fin _ hs (fr_add hf ?_) (by rw [names_add]; exact hn) ?_
          · rw [hh]; exact ⟨.inl ⟨rfl, rfl⟩, fun _ => rfl, trivial, trivial⟩
          · rw [unp_add, tks_one, hh, if_pos rfl]
            unfold tkX; rw [k1, n0]
        · have k4 : x.k = 4 := by
            have : x.k = 2 ∨ x.k = 3 ∨ x.k = 4 := hk4
            omega
          obtain ⟨b1, b2, b3, b4, b5⟩ := head_back (c := x.k) (by omega) hk (hv (by show x.k ≠ 3; omega))
          have hpt : partsF (headF (tkX x)).k = false := by
            rw [show partsF (headF (tkX x)).k = !emptyB x.nm from b5]
            have : emptyB x.nm = decide (x.k = 4) := he
            rw [this, decide_eq_true k4]; rfl
          refine fin _ hs (fr_add hf ⟨b3, fun _ => rfl, trivial, trivial⟩) (by rw [names_add]; exact hn) ?_
          rw [unp_add, tks_one, if_neg (show ¬ (headF (tkX x)).k = 1 from b4), if_neg (by rw [hpt]; decide)]
          rw [show tagF (headF (tkX x)).k = x.nm from b1, show valT (headF (tkX x)).k (headF (tkX x)).t (headF (tkX x)).n = x.vl from b2]
          unfold tkX; rw [k4]
/- the list of nodes of lexemes that are nested -/
theorem tree_inv {L : List Lx} (h : nestX L = 0) : shapeF (treeT (L.map tkX)) ∧ tksF (treeT (L.map tkX)) = L.map tkX := by
  unfold nestX at h
  split at h
  · cases h
  rename_i hc
  obtain ⟨fr, h1, h2, h3⟩ := parse_inv L [⟨⟨0, [], 0⟩, .nil⟩] trivial (chkGo_tk (Classical.not_not.1 hc)) h
  unfold treeT
  rw [h1]
  exact ⟨h2, by rw [h3]; rfl⟩
end Go.Proofs
namespace Go.Proofs
open Go Go.Sh Go.RowKit

/- the lexemes of tokens that stand one after the other -/
def posL : List Tk → Nat → List Lx
  | [], _ => []
  | x :: r, at_ => ⟨x.k, x.nm, x.vl, at_⟩ :: posL r (at_ + (textT x).length)
theorem pos_tk : ∀ (l : List Tk) (at_ : Nat), (posL l at_).map tkX = l
  | [], _ => rfl
  | x :: r, at_ => by rw [posL, List.map_cons, pos_tk r]; rfl
theorem pos_app : ∀ (l m : List Tk) (at_ : Nat), posL (l ++ m) at_ = posL l at_ ++ posL m (at_ + (l.flatMap textT).length)
  | [], m, at_ => rfl
  | x :: r, m, at_ => by
    rw [List.cons_append, posL, pos_app r m, posL, List.cons_append, List.flatMap_cons, List.length_append, Nat.add_assoc]
/- a valid node and its tokens -/
theorem single_tok {k : Int} {t : List UInt8} {n : Int} {ps : Fo} {b w : Bool} (h : singleF k t n ps b w = 0) (hk : k ≠ 1) : knownB (tagF k) = true ∧ emptyB (tagF k) = !partsF k ∧ valB (tagF k) (valT k t n) = true ∧ fieldsOk k t n ∧ valF k t n = (if valT k t n ≠ [] then 32 :: valT k t n else []) := by
  unfold singleF at h
  split at h
  · cases h
  rename_i h1
  split at h
  · cases h
  rename_i h2
  have hk1 : 1 ≤ k := by omega
  have hk2 : k ≤ 11 := by omega
  have htx : textsF k = false → t = [] := fun hp => Classical.byContradiction fun hne => h1 (.inr (.inr (.inl ⟨hne, hp⟩)))
  have hnm : numsF k = false → n = 0 := fun hp => Classical.byContradiction fun hne => h1 (.inr (.inr (.inr (.inl ⟨hne, hp⟩))))
  have fo : (numsF k = true → 1 ≤ n ∧ n ≤ 64) → fieldsOk k t n := fun hh => .inr ⟨by omega, hk2, htx, hnm, hh⟩
  have nme : isNameF t = true → t ≠ [] := fun hh e => by rw [e] at hh; revert hh; decide +kernel
  have wme : isWordF t = true → t ≠ [] := fun hh e => by rw [e] at hh; revert hh; decide +kernel
  have dne : 1 ≤ n → n ≤ 64 → Lib.decDigits n.toNat ≠ [] := fun a b e => by
    have := (num_dec a b).symm
    rw [e] at this
    have h0 : numOf [] = 0 := by decide +kernel
    omega
  have nv : ∀ most : Nat, most ≤ 64 → 1 ≤ n → n ≤ most → numV most (Lib.decDigits n.toNat) = true := fun most hm a1 a2 => by
    refine (numV_iff hm _).2 ⟨n.toNat, ?_, by omega, by omega, rfl⟩
    have := atoi_dec (n.toNat - 1) (by omega)
    rwa [show n.toNat - 1 + 1 = n.toNat by omega] at this
  try rw [if_neg hk] at h
  rcases kind_cases hk1 hk2 with rfl | rfl | rfl | rfl | rfl | rfl | rfl | rfl | rfl | rfl | rfl
  · exact absurd rfl hk
  · exact ⟨by decide +kernel, by decide +kernel, rfl, fo (fun hh => (by cases hh)), rfl⟩
  · have hN : isNameF t = true := by cases hc : isNameF t with | true => rfl | false => rw [hc] at h; simp at h
    refine ⟨by decide +kernel, by decide +kernel, hN, fo (fun hh => (by cases hh)), ?_⟩
    show 32 :: t = if t ≠ [] then 32 :: t else []
    rw [if_pos (nme hN)]
  · have hN : isNameF t = true := by cases hc : isNameF t with | true => rfl | false => rw [hc] at h; simp at h
    refine ⟨by decide +kernel, by decide +kernel, hN, fo (fun hh => (by cases hh)), ?_⟩
    show 32 :: t = if t ≠ [] then 32 :: t else []
    rw [if_pos (nme hN)]
  · exact ⟨by decide +kernel, by decide +kernel, rfl, fo (fun hh => (by cases hh)), rfl⟩
  · have hn : 1 ≤ n ∧ n ≤ 64 := by simp at h; omega
    refine ⟨by decide +kernel, by decide +kernel, nv 64 (by omega) hn.1 hn.2, fo (fun _ => hn), ?_⟩
    show 32 :: Lib.decDigits n.toNat = if Lib.decDigits n.toNat ≠ [] then 32 :: Lib.decDigits n.toNat else []
    rw [if_pos (dne (by omega) (by omega))]
  · exact ⟨by decide +kernel, by decide +kernel, rfl, fo (fun hh => (by cases hh)), rfl⟩
  · have hn : 1 ≤ n ∧ n ≤ 8 := by simp at h; omega
    refine ⟨by decide +kernel, by decide +kernel, nv 8 (by omega) hn.1 hn.2, fo (fun _ => ⟨hn.1, by omega⟩), ?_⟩
    show 32 :: Lib.decDigits n.toNat = if Lib.decDigits n.toNat ≠ [] then 32 :: Lib.decDigits n.toNat else []
    rw [if_pos (dne (by omega) (by omega))]
  · have hn : 1 ≤ n ∧ n ≤ 8 := by simp at h; omega
    refine ⟨by decide +kernel, by decide +kernel, nv 8 (by omega) hn.1 hn.2, fo (fun _ => ⟨hn.1, by omega⟩), ?_⟩
    show 32 :: Lib.decDigits n.toNat = if Lib.decDigits n.toNat ≠ [] then 32 :: Lib.decDigits n.toNat else []
    rw [if_pos (dne (by omega) (by omega))]
  · have hW : isWordF t = true := by cases hc : isWordF t with | true => rfl | false => rw [hc] at h; simp at h
    refine ⟨by decide +kernel, by decide +kernel, hW, fo (fun hh => (by cases hh)), ?_⟩
    show 32 :: t = if t ≠ [] then 32 :: t else []
    rw [if_pos (wme hW)]
  · have hN : isNameF t = true := by cases hc : isNameF t with | true => rfl | false => rw [hc] at h; simp at h
    refine ⟨by decide +kernel, by decide +kernel, hN, fo (fun hh => (by cases hh)), ?_⟩
    show 32 :: t = if t ≠ [] then 32 :: t else []
    rw [if_pos (nme hN)]
theorem single_txt {t : List UInt8} {n : Int} {ps : Fo} {b w : Bool} (h : singleF 1 t n ps b w = 0) : t ≠ [] ∧ checkC t = 0 ∧ b = false ∧ n = 0 ∧ ps = .nil := by
  unfold singleF at h
  split at h
  · cases h
  rename_i h1
  split at h
  · cases h
  rename_i h2
  rw [if_pos rfl] at h
  split at h
  · cases h
  rename_i h3
  refine ⟨fun e => h2 (.inl ⟨rfl, e⟩), Classical.not_not.1 h3, ?_, ?_, ?_⟩
  · cases b with
    | false => rfl
    | true => cases h
  · exact Classical.byContradiction fun hne => h1 (.inr (.inr (.inr (.inl ⟨hne, rfl⟩))))
  · exact Fo.eq_nil_of_len (Classical.byContradiction fun hne => h1 (.inr (.inr (.inr (.inr ⟨by omega, rfl⟩)))))
theorem all_cons {k : Int} {t : List UInt8} {n : Int} {ps r : Fo} {b w : Bool} (h : allF (.cons k t n ps r) b w = 0) : singleF k t n ps b w = 0 ∧ allF ps false true = 0 ∧ allF r (decide (k = 1)) w = 0 := by
  rw [allF] at h
  split at h
  · rename_i h1; exact absurd h h1
  rename_i h1
  split at h
  · rename_i h2; exact absurd h h2
  rename_i h2
  exact ⟨Classical.not_not.1 h1, Classical.not_not.1 h2, h⟩
theorem partsOf_single {k : Int} {t : List UInt8} {n : Int} {ps : Fo} {b w : Bool} (h : singleF k t n ps b w = 0) : (partsF k = false → ps = .nil) ∧ (partsF k = true → 0 < ps.len) := by
  have := single_ok h
  exact ⟨fun hp => Fo.eq_nil_of_len (this.2.2.2.2.1 hp), this.2.2.2.2.2⟩
theorem valid_shape : ∀ {g : Fo} {b w : Bool}, allF g b w = 0 → shapeF g
  | .nil, _, _, _ => trivial
  | .cons k t n ps r, b, w, h => by
    obtain ⟨h1, h2, h3⟩ := all_cons h
    refine ⟨?_, (partsOf_single h1).1, valid_shape h2, valid_shape h3⟩
    by_cases hk : k = 1
    · subst hk; exact .inl ⟨rfl, (single_txt h1).2.2.2.1⟩
    · exact (single_tok h1 hk).2.2.2.1
theorem tks_print : ∀ {g : Fo} {b w : Bool}, allF g b w = 0 → (tksF g).flatMap textT = printF g
  | .nil, _, _, _ => rfl
  | .cons k t n ps r, b, w, h => by
    obtain ⟨h1, h2, h3⟩ := all_cons h
    rw [tksF, printF, List.flatMap_append, tks_print h3]
    congr 1
    unfold nodeF
    by_cases hk : k = 1
    · rw [if_pos hk, if_pos hk]
      simp [textT, textF]
    · rw [if_neg hk, if_neg hk]
      obtain ⟨_, _, _, _, hv⟩ := single_tok h1 hk
      have hi : innF (tagF k) (valT k t n) = tagF k ++ valF k t n := by
        unfold innF; rw [hv]; split <;> simp
      by_cases hp : partsF k = true
      · rw [if_pos hp, if_pos hp, List.flatMap_cons, List.flatMap_append, tks_print h2]
        simp only [List.flatMap_cons, List.flatMap_nil, textT, textF, hi]
        simp [innF]
      · rw [if_neg hp, if_neg hp]
        simp only [List.flatMap_cons, List.flatMap_nil, textT, textF, hi]
        simp
/- after a list: does characters stand last -/
def endB (g : Fo) (b : Bool) : Bool := match g with
  | .nil => b
  | .cons k _ _ _ r => endB r (decide (k = 1))
theorem go_pos {x : Tk} {l : List Tk} {pt : Bool} {at_ : Nat} (h1 : singleX ⟨x.k, x.nm, x.vl, at_⟩ = 0) (h2 : ¬ (x.k = 1 ∧ pt = true)) (h3 : x.k ≠ 1 → rightX ⟨x.k, x.nm, x.vl, at_⟩ = true) : chkGo (posL (x :: l) at_) pt at_ = chkGo (posL l (at_ + (textT x).length)) (decide (x.k = 1)) (at_ + (textT x).length) := by
  rw [posL, chkGo, chk_ok h1 h2 h3 rfl, if_neg (by simp)]
  rfl
theorem chk_tks : ∀ (g : Fo) (b w : Bool) (at_ : Nat) (ts : List Tk), allF g b w = 0 → chkGo (posL (tksF g ++ ts) at_) b at_ = chkGo (posL ts (at_ + ((tksF g).flatMap textT).length)) (endB g b) (at_ + ((tksF g).flatMap textT).length)
  | .nil, _, _, _, _, _ => rfl
  | .cons k t n ps r, b, w, at_, ts, h => by
    obtain ⟨h1, h2, h3⟩ := all_cons h
    rw [tksF, List.append_assoc, List.flatMap_append, List.length_append, ← Nat.add_assoc, endB]
    rw [← chk_tks r (decide (k = 1)) w _ ts h3]
    by_cases hk : k = 1
    · subst hk
      obtain ⟨a1, a2, a3, _, _⟩ := single_txt h1
      rw [if_pos rfl, List.cons_append, List.nil_append, go_pos (by unfold singleX; simp [a1, a2]) (by rw [a3]; simp) (fun hh => absurd rfl hh)]
      simp
    · rw [if_neg hk]
      obtain ⟨b1, b2, b3, _, _⟩ := single_tok h1 hk
      by_cases hp : partsF k = true
      · rw [if_pos hp]
        rw [hp] at b2
        have b2 : emptyB (tagF k) = false := b2
        have s2 : ∀ p : Int, singleX ⟨2, tagF k, valT k t n, p⟩ = 0 := fun p => by unfold singleX; simp [b1, b2]
        have s3 : ∀ p : Int, singleX ⟨3, tagF k, [], p⟩ = 0 := fun p => by unfold singleX; simp [b1, b2]
        rw [List.cons_append, go_pos (s2 _) (by simp) (fun _ => by unfold rightX; rw [if_neg (show ¬ (2 : Int) = 3 by decide)]; exact b3)]
        show chkGo (posL ((tksF ps ++ [⟨3, tagF k, []⟩]) ++ (tksF r ++ ts)) _) false _ = _
        rw [List.append_assoc, chk_tks ps false true _ _ h2, List.cons_append, List.nil_append]
        rw [go_pos (s3 _) (by simp) (fun _ => by unfold rightX; rw [if_pos rfl]; rfl)]
        rw [decide_eq_false hk, List.flatMap_cons, List.flatMap_append, List.length_append, List.length_append]
        simp only [List.flatMap_cons, List.flatMap_nil, List.append_nil, Nat.add_assoc]
        rfl
      · rw [if_neg hp]
        have hp : partsF k = false := by simpa using hp
        rw [hp] at b2
        have b2 : emptyB (tagF k) = true := b2
        rw [List.cons_append, List.nil_append, go_pos (by unfold singleX; simp [b1, b2]) (by simp) (fun _ => by unfold rightX; rw [if_neg (show ¬ (4 : Int) = 3 by decide)]; exact b3)]
        rw [decide_eq_false hk]
        simp
theorem nest_tks : ∀ (g : Fo) (b w : Bool) (at_ : Nat) (ts : List Tk) (st : List (List UInt8)), allF g b w = 0 → g.depth + st.length ≤ 16 → nestGo (posL (tksF g ++ ts) at_) st = nestGo (posL ts (at_ + ((tksF g).flatMap textT).length)) st
  | .nil, _, _, _, _, _, _, _ => rfl
  | .cons k t n ps r, b, w, at_, ts, st, h, hd => by
    obtain ⟨h1, h2, h3⟩ := all_cons h
    rw [Fo.depth_parts] at hd
    rw [tksF, List.append_assoc, List.flatMap_append, List.length_append, ← Nat.add_assoc]
    rw [← nest_tks r (decide (k = 1)) w _ ts st h3 (by omega)]
    by_cases hk : k = 1
    · rw [if_pos hk, List.cons_append, List.nil_append, posL, nestGo, if_neg (show ¬ (1 : Int) = 2 by decide), if_neg (show ¬ (1 : Int) = 3 by decide)]
      simp
    · rw [if_neg hk]
      by_cases hp : partsF k = true
      · have hpl := (partsOf_single h1).2 hp
        rw [if_neg (by omega)] at hd
        rw [if_pos hp, List.cons_append, posL, nestGo, if_pos rfl, if_neg (by omega)]
        rw [List.append_assoc, nest_tks ps false true _ _ _ h2 (by rw [List.length_cons]; omega), List.cons_append, List.nil_append, posL, nestGo, if_neg (show ¬ (3 : Int) = 2 by decide), if_pos rfl]
        have e : popS (tagF k) (tagF k :: st) = some st := by rw [popS, if_pos rfl]
        simp only [e]
        rw [List.flatMap_cons, List.flatMap_append, List.length_append, List.length_append]
        simp only [List.flatMap_cons, List.flatMap_nil, List.append_nil, Nat.add_assoc]
      · rw [if_neg hp, List.cons_append, List.nil_append, posL, nestGo, if_neg (show ¬ (4 : Int) = 2 by decide), if_neg (show ¬ (4 : Int) = 3 by decide)]
        simp
/- what is printed is read back -/
theorem back_print {g : Fo} (h : allF g false false = 0) (hd : g.depth ≤ 16) (hl : (printF g).length ≤ 65536) : chkX (posL (tksF g) 0) = 0 ∧ nestX (posL (tksF g) 0) = 0 ∧ scanF (printF g) = (posL (tksF g) 0, 0) := by
  have c : chkX (posL (tksF g) 0) = 0 := by
    unfold chkX
    have := chk_tks g false false 0 [] h
    rw [List.append_nil] at this
    rw [this, posL, chkGo, tks_print h, if_neg (by omega)]
  refine ⟨c, ?_, ?_⟩
  · unfold nestX
    rw [if_neg (by rw [c]; simp)]
    have := nest_tks g false false 0 [] [] h (by simpa using hd)
    rw [List.append_nil] at this
    rw [this, posL, nestGo, if_pos rfl]
  · have := print_scan c
    rwa [print_tk, pos_tk, tks_print h] at this
end Go.Proofs
namespace Go.Proofs
open Go Go.Sh Go.RowKit

variable {R : Ending → World → Prop} {w : World}
theorem setN {b i : Nat} {T : TypeId} {cs : List Value} {v : Value} {w : World} (hb : Blk w b cs T) (hi : i < cs.length) (hv : v.oneCell' = true) {K : World → Prop}
    (h : ∀ w', Blk w' b (cs.set i v) T → Chg (fun k => k = b) w w' → w'.heap.size = w.heap.size → K w') : stL w ((⟨b, 0, none⟩ : Addr).add i) 0 [v] K := by
  rw [add_none]
  refine stL_blk hb (by simp; omega) (by intro u hu; rw [List.mem_singleton.1 hu]; exact hv) fun w' b1 x2 x3 x4 x5 x6 => ?_
  have e : putAt cs (0 + i + 0) [v] = cs.set i v := by rw [Nat.zero_add, Nat.add_zero]; rfl
  rw [e] at b1
  exact h w' b1 ⟨x4, x5, x6, by omega, fun j _ hj => x2 j hj⟩ x3
/- the result of node: taken from one block, laid down in another, and taken up again -/
def lastN (R : Ending → World → Prop) (p7 : Addr) (w41 : World) : Prop :=
  ∃ (x42 : Int), World.cell? w41 (p7.add 0) = some (.int .i64 x42) ∧ (∃ (x43 : List UInt8), World.cell? w41 (p7.add 1) = some (.string ⟨⟨x43⟩⟩) ∧ (∃ (x44 : Int), World.cell? w41 (p7.add 2) = some (.int .i64 x44) ∧ (∃ (x45 : Option Addr) (x45n : Nat) (x45c : Nat), World.cell? w41 (p7.add 3) = some (.slice x45 x45n x45c) ∧ (R (.returned (.agg ⟨[.int .i64 x42, .string ⟨⟨x43⟩⟩, .int .i64 x44, .slice x45 x45n x45c]⟩)) w41))))
def outN (R : Ending → World → Prop) (p20 p7 : Addr) (w36 : World) : Prop :=
  ∃ (x37 : Int), World.cell? w36 (p20.add 0) = some (.int .i64 x37) ∧ (∃ (x38 : List UInt8), World.cell? w36 (p20.add 1) = some (.string ⟨⟨x38⟩⟩) ∧ (∃ (x39 : Int), World.cell? w36 (p20.add 2) = some (.int .i64 x39) ∧ (∃ (x40 : Option Addr) (x40n : Nat) (x40c : Nat), World.cell? w36 (p20.add 3) = some (.slice x40 x40n x40c) ∧ (stL w36 p7 0 [.int .i64 x37, .string ⟨⟨x38⟩⟩, .int .i64 x39, .slice x40 x40n x40c] fun w41 => lastN R p7 w41))))
theorem one4n {k n : Int} {t : List UInt8} {a : Option Addr} {l c : Nat} : ∀ u ∈ ([.int .i64 k, .string ⟨⟨t⟩⟩, .int .i64 n, .slice a l c] : List Value), u.oneCell' = true := by
  intro u hu; simp only [List.mem_cons, List.not_mem_nil, or_false] at hu; rcases hu with rfl | rfl | rfl | rfl <;> rfl
theorem st4n {b7 : Nat} {T' : TypeId} {cs : List Value} {w : World} {k n : Int} {t : List UInt8} (B7 : Blk w b7 cs T') (hl : cs.length = 4)
    (h : ∀ w', Chg (fun k => k = b7) w w' → R (.returned (.agg ⟨[.int .i64 k, .string ⟨⟨t⟩⟩, .int .i64 n, .slice none 0 0]⟩)) w') : stL w ⟨b7, 0, none⟩ 0 [.int .i64 k, .string ⟨⟨t⟩⟩, .int .i64 n, .slice none 0 0] fun w41 => lastN R ⟨b7, 0, none⟩ w41 := by
  refine stL_blk B7 (by simp [hl]) one4n fun w' b1 x2 x3 x4 x5 x6 => ?_
  rw [Nat.add_zero, putAt4 hl rfl] at b1
  obtain ⟨y0, y1, y2, y3⟩ := blk4 b1
  exact ⟨_, y0, _, y1, _, y2, _, _, _, y3, h w' ⟨x4, x5, x6, by omega, fun j _ hj => x2 j hj⟩⟩
theorem outN_ok {b20 b7 : Nat} {T T' : TypeId} {cs : List Value} {w : World} {k n : Int} {t : List UInt8} (B20 : Blk w b20 [.int .i64 k, .string ⟨⟨t⟩⟩, .int .i64 n, .slice none 0 0] T) (B7 : Blk w b7 cs T') (hl : cs.length = 4)
    (h : ∀ w', Chg (fun k => k = b7) w w' → R (.returned (.agg ⟨[.int .i64 k, .string ⟨⟨t⟩⟩, .int .i64 n, .slice none 0 0]⟩)) w') : outN R ⟨b20, 0, none⟩ ⟨b7, 0, none⟩ w := by
  obtain ⟨y0, y1, y2, y3⟩ := blk4 B20
  exact ⟨_, y0, _, y1, _, y2, _, _, _, y3, st4n B7 hl h⟩
/- the table -/
theorem forms_all : ∀ i : Nat, i < 12 → formsCells[i * 4]? = some (.string ⟨⟨tagF i⟩⟩) ∧ formsCells[i * 4 + 1]? = some (.bool (textsF i)) ∧ formsCells[i * 4 + 2]? = some (.bool (numsF i)) ∧ formsCells[i * 4 + 3]? = some (.bool (partsF i)) := by
  intro i hi
  match i, hi with
  | 0, _ => exact ⟨rfl, rfl, rfl, rfl⟩
  | 1, _ => exact ⟨rfl, rfl, rfl, rfl⟩
  | 2, _ => exact ⟨rfl, rfl, rfl, rfl⟩
  | 3, _ => exact ⟨rfl, rfl, rfl, rfl⟩
  | 4, _ => exact ⟨rfl, rfl, rfl, rfl⟩
  | 5, _ => exact ⟨rfl, rfl, rfl, rfl⟩
  | 6, _ => exact ⟨rfl, rfl, rfl, rfl⟩
  | 7, _ => exact ⟨rfl, rfl, rfl, rfl⟩
  | 8, _ => exact ⟨rfl, rfl, rfl, rfl⟩
  | 9, _ => exact ⟨rfl, rfl, rfl, rfl⟩
  | 10, _ => exact ⟨rfl, rfl, rfl, rfl⟩
  | 11, _ => exact ⟨rfl, rfl, rfl, rfl⟩
  | n + 12, h => omega
theorem Forms.at {w : World} (h : Forms w) {i : Nat} (hi : i < 12) :
    (∀ K : Addr → Prop, K ⟨0, i * 4, none⟩ → idx (some ⟨0, 0, none⟩) 12 (i : Int) 4 K) ∧ w.cell? ((⟨0, i * 4, none⟩ : Addr).add 0) = some (.string ⟨⟨tagF i⟩⟩) ∧ w.cell? ((⟨0, i * 4, none⟩ : Addr).add 1) = some (.bool (textsF i)) ∧ w.cell? ((⟨0, i * 4, none⟩ : Addr).add 2) = some (.bool (numsF i)) ∧ w.cell? ((⟨0, i * 4, none⟩ : Addr).add 3) = some (.bool (partsF i)) := by
  obtain ⟨f0, f1, f2, f3⟩ := forms_all i hi
  refine ⟨fun K hK => ⟨by omega, by omega, ?_⟩, ?_⟩
  · show K _
    rw [add_none, Int.toNat_natCast, Nat.zero_add]; exact hK
  · simp only [add_none]
    exact ⟨h.2 _ _ f0, h.2 _ _ f1, h.2 _ _ f2, h.2 _ _ f3⟩
theorem kindN_at {nm : List UInt8} (h : knownB nm = true) : 2 ≤ kindN nm ∧ kindN nm ≤ 11 ∧ ∀ i : Nat, i < 12 → i ≤ kindN nm → (decide (tagF i = nm ∧ tagF i ≠ []) = decide (i = kindN nm)) :=
  known_cases (C := fun nm => 2 ≤ kindN nm ∧ kindN nm ≤ 11 ∧ ∀ i : Nat, i < 12 → i ≤ kindN nm → (decide (tagF i = nm ∧ tagF i ≠ []) = decide (i = kindN nm))) h (by decide +kernel)
theorem node1_spec (tg nm : List UInt8) (b1 b2 b3 : Bool) (p : Addr) (hp : w.cell? (p.add 1) = some (.string ⟨⟨nm⟩⟩)) (h : ∀ w', Ext w w' → R (.returned (.bool (decide (tg = nm ∧ tg ≠ [])))) w') :
    Calls Tryz.prog F_transcript_node_1 ⟨[.agg ⟨[.string ⟨⟨tg⟩⟩, .bool b1, .bool b2, .bool b3]⟩, .pointer (some p)]⟩ w R := by
  apply c_transcript_node_1
  refine al_intro fun b6 w7 hb6 B6 e7 s7 => ?_
  have y0 : w7.cell? ((⟨b6, 0, none⟩ : Addr).add 0) = some (.string ⟨⟨tg⟩⟩) := by rw [add_none, B6.cell]; rfl
  refine ⟨_, y0, dr_ok ⟨_, cell_ext hp e7, br_split (fun g => ⟨_, y0, ?_⟩) (fun g => ?_)⟩⟩
  · have e : decide (tg = nm ∧ tg ≠ []) = decide (tg ≠ []) := decide_eq_decide.2 ⟨fun hh => hh.2, fun hh => ⟨g, hh⟩⟩
    rw [← e]; exact h w7 e7
  · have e : decide (tg = nm ∧ tg ≠ []) = false := decide_eq_false fun hh => g hh.1
    rw [← e]; exact h w7 e7
theorem IndexForm_spec (nm : List UInt8) (hk : knownB nm = true) (hF : Forms w) (p : Addr) (hp : w.cell? (p.add 1) = some (.string ⟨⟨nm⟩⟩)) (h : ∀ w', Ext w w' → R (.returned (.int .i64 (kindN nm : Int))) w') :
    Calls Tryz.prog F_slices_IndexFunc_of_transcript_form_transcript_form ⟨[.slice (some ⟨0, 0, none⟩) 12 12, .func (.func F_transcript_node_1) ⟨[]⟩ ⟨[.pointer (some p)]⟩]⟩ w R := by
  apply c_slices_IndexFunc_of_transcript_form_transcript_form
  obtain ⟨k1, k2, k3⟩ := kindN_at hk
  refine ⟨fun t W m => ∃ k : Nat, t = k ∧ k ≤ kindN nm ∧ m = 12 - k ∧ Ext w W, ⟨_, 0, rfl, by omega, rfl, Below.refl _ _⟩, ?_⟩
  rintro _ W m ⟨k, rfl, hkk, rfl, he⟩ _
  obtain ⟨hq, f0, f1, f2, f3⟩ := (hF.ext he).at (i := k) (by omega)
  refine br_split (fun hlt => hq _ ⟨_, f0, _, f1, _, f2, _, f3, ⟨by kernel_rfl, ?_⟩⟩) (fun hge => by omega)
  refine node1_spec (tagF k) nm _ _ _ p (cell_ext hp he) fun w14 e14 => ⟨_, rfl, ?_⟩
  rw [k3 k (by omega) hkk]
  refine br_split (fun g => ?_) (fun g => ?_)
  · rw [g]; exact h w14 (ext_trans he e14)
  · exact ⟨12 - (k + 1), by omega, k + 1, by rw [wrap_nat (by omega)], by omega, rfl, ext_trans he e14⟩
theorem num_ok {x : Tk} (h : tkOk x) (h1 : x.k ≠ 1) (h3 : x.k ≠ 3) (hn : numsF (kindN x.nm) = true) (ht : textsF (kindN x.nm) = false) : ∃ v : Int, Lib.atoiAll x.vl = .ok v ∧ numOf x.vl = v := by
  rcases h with h | ⟨_, hk, _, _, hv⟩
  · exact absurd h.1 h1
  have hb := head_back (c := x.k) h1 hk (hv h3)
  obtain ⟨b1, b2, b3, b4, b5⟩ := hb
  have e : headF ⟨x.k, x.nm, x.vl⟩ = ⟨kindN x.nm, [], numOf x.vl⟩ := by unfold headF; rw [if_neg h1]; simp only [ht, hn, Bool.false_eq_true, if_false, if_true]
  rw [e] at b3
  rcases b3 with b3 | ⟨_, _, _, _, b3⟩
  · rw [e] at b4; exact absurd b3.1 b4
  obtain ⟨c1, c2⟩ := b3 hn
  unfold numOf at c1 ⊢
  cases ha : Lib.atoiAll x.vl with
  | ok v => exact ⟨v, rfl, rfl⟩
  | _ => rw [ha] at c1; exact absurd (show (1 : Int) ≤ 0 from c1) (by omega)
set_option maxRecDepth 20000 in
theorem nodeT_spec (x : Lx) (hx : tkOk (tkX x)) (h3 : x.k ≠ 3) (hl : x.vl.length ≤ 1000000000) (hF : Forms w) (hM : Mk w)
    (h : ∀ w', Ext w w' → R (.returned (.agg ⟨cellsH (headF (tkX x)) none 0 0⟩)) w') : Calls Tryz.prog F_transcript_node ⟨[aggX x]⟩ w R := by
  apply c_transcript_node
  refine al_intro fun b5 w6 hb5 B5 e6 s6 => ?_
  refine al_intro fun b7 w8 hb7 B7 e8 s8 => ?_
  obtain ⟨c0, c1, c2, c3⟩ := blk4x (B5.ext e8)
  have E8 := ext_trans e6 e8
  have z6 := e6.size
  refine ⟨_, c0, br_split (fun g => ⟨_, c2, ?_⟩) (fun g => ?_)⟩
  · have e : headF (tkX x) = ⟨1, x.vl, 0⟩ := by unfold headF; rw [if_pos (show (tkX x).k = 1 from g)]; rfl
    rw [e] at h
    exact st4n B7 rfl fun w' hc => h w' (ext_two E8 hc (by omega))
  have hkn : knownB x.nm = true := by
    rcases hx with hx | hx
    · exact absurd hx.1 g
    · exact hx.2.1
  obtain ⟨k1, k2, _⟩ := kindN_at hkn
  have hsl : ∀ {K : Option Addr → Nat → Nat → Prop}, K (some ⟨0, 0, none⟩) 12 12 → sls (some (⟨0, 0, none⟩ : Addr)) 12 0 (12 : Nat) 4 K := fun {K} hK => sls_cut (m := 12) (by omega) (fun p hp => by rw [← Option.some.inj hp]; rfl) hK
  refine hsl ?_
  refine IndexForm_spec x.nm hkn (hF.ext E8) ⟨b5, 0, none⟩ c1 fun w18 e18 => ⟨_, rfl, ?_⟩
  refine al_stL rfl one4n fun b20 w22 hb20 B20 e22 s22 => ?_
  have E22 := ext_trans (ext_trans E8 e18) e22
  have B5a := ((B5.ext e8).ext e18).ext e22
  have B7a := (B7.ext e18).ext e22
  have z8 := e8.size
  have z18 := e18.size
  obtain ⟨_, _, d2, _⟩ := blk4x B5a
  obtain ⟨hq, f0, f1, f2, f3⟩ := (hF.ext E22).at (i := kindN x.nm) (by omega)
  have hh : headF (tkX x) = ⟨kindN x.nm, if textsF (kindN x.nm) then x.vl else [], if textsF (kindN x.nm) then 0 else if numsF (kindN x.nm) then numOf x.vl else 0⟩ := by unfold headF; rw [if_neg (show ¬ (tkX x).k = 1 from g)]; rfl
  rw [hh] at h
  refine br_split (fun gn => by omega) (fun _ => hq _ ⟨_, f1, br_cases (fun gt => ⟨_, d2, ?_⟩) (fun gt => hq _ ⟨_, f2, br_cases (fun gn => ⟨_, d2, ?_⟩) (fun gn => ?_)⟩)⟩)
  · simp only [gt, if_true] at h
    refine setN B20 (i := 1) (by simp) rfl fun w36 B36 c36 s36 => ?_
    exact outN_ok (t := x.vl) B36 (c36.blk B7a (by omega)) rfl fun w' hc => h w' (ext_two (ext_two E22 c36 (by omega)) hc (by omega))
  · simp only [gt, gn, Bool.false_eq_true, if_false, if_true] at h
    obtain ⟨v, hv, hnv⟩ := num_ok hx g h3 gn gt
    rw [show numOf x.vl = v from hnv] at h
    refine (Tryz.strconv_Atoi_ok ⟨⟨x.vl⟩⟩ (by show x.vl.length ≤ _; omega) v hv w22).mono ?_
    rintro e w50 ⟨rfl, hw⟩
    have he : Ext w22 w50 := by
      rcases hw with rfl | ⟨t, rfl⟩
      · exact Below.refl _ _
      · exact Joins.below_bytesWorld _ _ _ _ (Nat.le_refl _)
    have z50 := he.size
    refine ⟨v, .nilIface, rfl, ?_⟩
    refine setN (B20.ext he) (i := 2) (by simp) rfl fun w53 B53 c53 s53 => ?_
    exact outN_ok (n := v) B53 (c53.blk (B7a.ext he) (by omega)) rfl fun w' hc => h w' (ext_two (ext_two (ext_trans E22 he) c53 (by omega)) hc (by omega))
  · simp only [gt, gn, Bool.false_eq_true, if_false] at h
    exact outN_ok B20 B7a rfl fun w' hc => h w' (ext_two E22 hc (by omega))
end Go.Proofs
namespace Go.Proofs
open Go Go.Sh Go.RowKit

/- what remains without tags -/
def charT (g : Fo) : List UInt8 := match g with
  | .nil => []
  | .cons k t _ ps r => (if k = 1 then t else []) ++ charT ps ++ charT r
def stripT (l : List Tk) : List UInt8 := l.flatMap fun x => if x.k = 1 then x.vl else []
theorem strip_tk (L : List Lx) : stripX L = stripT (L.map tkX) := by
  unfold stripX stripT
  rw [List.flatMap_map]
  rfl
theorem stripT_app (l m : List Tk) : stripT (l ++ m) = stripT l ++ stripT m := by unfold stripT; rw [List.flatMap_append]
theorem strip_tks : ∀ {g : Fo}, shapeF g → stripT (tksF g) = charT g
  | .nil, _ => rfl
  | .cons k t n ps r, ⟨h1, h2, h3, h4⟩ => by
    rw [tksF, stripT_app, strip_tks h4, charT]
    congr 1
    by_cases hk : k = 1
    · subst hk
      rw [if_pos rfl, if_pos rfl, h2 (by decide)]
      simp [stripT, charT]
    · rw [if_neg hk, if_neg hk]
      by_cases hp : partsF k = true
      · rw [if_pos hp]
        have e : (⟨2, tagF k, valT k t n⟩ :: (tksF ps ++ [⟨3, tagF k, []⟩]) : List Tk) = [⟨2, tagF k, valT k t n⟩] ++ (tksF ps ++ [⟨3, tagF k, []⟩]) := rfl
        rw [e, stripT_app, stripT_app, strip_tks h3]
        simp [stripT]
      · have hp : partsF k = false := by simpa using hp
        rw [if_neg (by rw [hp]; decide), h2 hp]
        simp [stripT, charT]
/- as many nodes as tags that open or are empty, and characters -/
def wantT (l : List Tk) : Nat := (l.filter fun x => decide (x.k ≠ 3)).length
theorem wantT_app (l m : List Tk) : wantT (l ++ m) = wantT l + wantT m := by unfold wantT; rw [List.filter_append, List.length_append]
theorem want_tks : ∀ {g : Fo}, shapeF g → wantT (tksF g) = g.size
  | .nil, _ => rfl
  | .cons k t n ps r, ⟨h1, h2, h3, h4⟩ => by
    rw [tksF, wantT_app, want_tks h4, Fo.size]
    have key : wantT (if k = 1 then [⟨1, [], t⟩] else if partsF k then ⟨2, tagF k, valT k t n⟩ :: (tksF ps ++ [⟨3, tagF k, []⟩]) else [⟨4, tagF k, valT k t n⟩]) = ps.size + 1 := by
      by_cases hk : k = 1
      · subst hk
        rw [if_pos rfl, h2 (by decide)]
        simp [wantT, Fo.size]
      · rw [if_neg hk]
        by_cases hp : partsF k = true
        · rw [if_pos hp]
          have e : (⟨2, tagF k, valT k t n⟩ :: (tksF ps ++ [⟨3, tagF k, []⟩]) : List Tk) = [⟨2, tagF k, valT k t n⟩] ++ (tksF ps ++ [⟨3, tagF k, []⟩]) := rfl
          rw [e, wantT_app, wantT_app, want_tks h3]
          simp [wantT]
          omega
        · have hp : partsF k = false := by simpa using hp
          rw [if_neg (by rw [hp]; decide), h2 hp]
          simp [wantT, Fo.size]
    rw [key]; omega
/- how many nodes have a kind -/
def cntK (k : Int) : Fo → Nat
  | .nil => 0
  | .cons k' _ _ ps r => (if k' = k then 1 else 0) + cntK k ps + cntK k r
theorem cnt_app (k : Int) (f g : Fo) : cntK k (f.app g) = cntK k f + cntK k g := by
  induction f with
  | nil => simp [cntK]
  | cons k' t n ps r _ ih => simp only [Fo.cons_app, cntK, ih]; omega
theorem char_app (f g : Fo) : charT (f.app g) = charT f ++ charT g := by
  induction f with
  | nil => rfl
  | cons k' t n ps r _ ih => simp only [Fo.cons_app, charT, ih, List.append_assoc]
theorem dep_app (f g : Fo) : (f.app g).depth = max f.depth g.depth := by
  induction f with
  | nil => simp [Fo.depth]
  | cons k t n ps r _ ih => rw [Fo.cons_app, Fo.depth_parts, Fo.depth_parts, ih]; omega
theorem cnt_all : ∀ {g : Fo}, shapeF g → cntK 1 g + cntK 2 g + cntK 3 g + cntK 4 g + cntK 5 g + cntK 6 g + cntK 7 g + cntK 8 g + cntK 9 g + cntK 10 g + cntK 11 g = g.size
  | .nil, _ => rfl
  | .cons k t n ps r, ⟨h1, _, h3, h4⟩ => by
    have i1 := cnt_all h3
    have i2 := cnt_all h4
    have hk : 1 ≤ k ∧ k ≤ 11 := by
      rcases h1 with h1 | h1
      · rw [h1.1]; decide
      · omega
    simp only [cntK, Fo.size]
    rcases kind_cases hk.1 hk.2 with rfl | rfl | rfl | rfl | rfl | rfl | rfl | rfl | rfl | rfl | rfl <;> simp <;> omega
/- a list in a further node -/
def secF : Fo → Bool
  | .nil => false
  | .cons k _ _ _ r => decide (k = 4) || secF r
theorem single_with {k t n ps b} (h : singleF k t n ps b false = 0) : singleF k t n ps b true = if k = 4 then 12 else 0 := by
  unfold singleF at h ⊢
  split at h
  · cases h
  rename_i h1
  rw [if_neg h1]
  split at h
  · cases h
  rename_i h2
  rw [if_neg h2]
  by_cases hk : k = 1
  · subst hk
    rw [if_pos rfl] at h ⊢
    rw [h]; rfl
  · rw [if_neg hk] at h ⊢
    by_cases h3 : k = 3 ∨ k = 4 ∨ k = 11
    · rw [if_pos h3] at h ⊢
      split at h
      · cases h
      · rename_i hn
        rw [if_neg hn]
        by_cases h4 : k = 4
        · rw [if_pos ⟨rfl, h4⟩, if_pos h4]
        · rw [if_neg (fun hh => h4 hh.2), if_neg h4]
    · rw [if_neg h3] at h ⊢
      rw [h, if_neg (by omega)]
theorem all_with : ∀ {l : Fo} {b : Bool}, allF l b false = 0 → allF l b true = if secF l = true then 12 else 0
  | .nil, _, _ => rfl
  | .cons k t n ps r, b, h => by
    obtain ⟨h1, h2, h3⟩ := all_cons h
    rw [allF, single_with h1, h2, all_with h3, secF]
    by_cases hk : k = 4
    · simp [hk]
    · simp [hk]
end Go.Proofs
namespace Go.Proofs
open Go Go.Sh Go.RowKit

def brkF (k : Int) : Bool := decide (k = 2 ∨ k = 3 ∨ k = 4)
def breaksF : Fo → Fo
  | .nil => .nil
  | .cons k t n ps r => (if brkF k then .one k t n ps else breaksF ps).app (breaksF r)
def partF (k : Int) (t : List UInt8) (n : Int) (ps : Fo) : Fo := if ps.len = 0 then .nil else .one k t n ps
theorem breaksF_app (f g : Fo) : breaksF (f.app g) = (breaksF f).app (breaksF g) := by
  induction f with
  | nil => rfl
  | cons k t n ps r _ ih => simp only [Fo.cons_app, breaksF, ih, Fo.app_assoc]
theorem breaksF_size : ∀ f : Fo, (breaksF f).size ≤ f.size
  | .nil => Nat.le_refl _
  | .cons k t n ps r => by
    have h1 := breaksF_size ps
    have h2 := breaksF_size r
    simp only [breaksF, Fo.size_app, Fo.size]
    split
    · simp [Fo.one, Fo.size]; omega
    · omega

def resolveF : Fo → Int → Bool → Fo
  | .nil, _, _ => .nil
  | .cons k t n ps r, hand, adv =>
    (if k = 9 ∧ n ≤ hand then breaksF ps else if k = 8 ∧ n ≤ hand then resolveF ps hand adv else if (k = 8 ∨ k = 9) ∧ adv = true then partF k t n (resolveF ps hand adv) else if k = 8 then breaksF ps
     else if k = 9 then resolveF ps hand adv else if k = 7 ∨ k = 10 ∨ k = 11 then partF k t n (resolveF ps hand adv) else .one k t n ps).app (resolveF r hand adv)
theorem resolveF_app (f g : Fo) (hand : Int) (adv : Bool) : resolveF (f.app g) hand adv = (resolveF f hand adv).app (resolveF g hand adv) := by
  induction f with
  | nil => rfl
  | cons k t n ps r _ ih => simp only [Fo.cons_app, resolveF, ih, Fo.app_assoc]
theorem partF_size (k t n) (ps : Fo) : (partF k t n ps).size ≤ ps.size + 1 := by
  unfold partF
  split
  · simp [Fo.size]
  · simp [Fo.one, Fo.size]
theorem resolveF_size : ∀ (f : Fo) (hand : Int) (adv : Bool), (resolveF f hand adv).size ≤ f.size
  | .nil, _, _ => Nat.le_refl _
  | .cons k t n ps r, hand, adv => by
    have h1 := resolveF_size ps hand adv
    have h2 := resolveF_size r hand adv
    have h3 := breaksF_size ps
    have h4 := partF_size k t n (resolveF ps hand adv)
    simp only [resolveF, Fo.size_app, Fo.size]
    split
    · omega
    split
    · omega
    split
    · omega
    split
    · omega
    split
    · omega
    split
    · omega
    · simp [Fo.one, Fo.size]; omega
end Go.Proofs
namespace Go.Proofs
open Go Go.Sh Go.RowKit

end Go.Proofs
namespace Go.Proofs
open Go Go.Sh Go.RowKit

structure Nn where
  k : Int
  t : List UInt8
  n : Int
  ps : Fo
def nodesF : Fo → List Nn
  | .nil => []
  | .cons k t n ps r => ⟨k, t, n, ps⟩ :: (nodesF ps ++ nodesF r)
def NnE (T : Nat → Prop) (w0 : World) (x : Nn) (vs : List Value) : Prop :=
  ∃ a c, vs = [.agg ⟨[.int .i64 x.k, .string ⟨⟨x.t⟩⟩, .int .i64 x.n, .slice a x.ps.len c]⟩] ∧ SlF T w0 a x.ps.len x.ps

/- the breaks within a node, as the program gathers them -/
def pickB : List Nn → Fo
  | [] => .nil
  | x :: l => if brkF x.k then .cons x.k x.t x.n x.ps (pickB l) else pickB l
theorem pickB_app (l m : List Nn) : pickB (l ++ m) = (pickB l).app (pickB m) := by
  induction l with
  | nil => rfl
  | cons x l ih =>
    simp only [List.cons_append, pickB, ih]
    split <;> rfl
theorem pickB_len (l : List Nn) : (pickB l).len ≤ l.length := by
  induction l with
  | nil => simp [pickB]
  | cons x l ih => simp only [pickB]; split <;> simp <;> omega
theorem nodesF_len : ∀ f : Fo, (nodesF f).length = f.size
  | .nil => rfl
  | .cons k t n ps r => by simp [nodesF, Fo.size, nodesF_len ps, nodesF_len r]
theorem pick_breaks : ∀ (f : Fo), good f → pickB (nodesF f) = breaksF f
  | .nil, _ => rfl
  | .cons k t n ps r, h => by
    have h1 := pick_breaks ps h.2.1
    have h2 := pick_breaks r h.2.2
    simp only [nodesF, pickB, breaksF, pickB_app, h1, h2]
    by_cases hb : brkF k = true
    · have hk : k = 2 ∨ k = 3 ∨ k = 4 := by simpa [brkF] using hb
      have hp : ps.len = 0 := h.1.2.2.2.2.1 (by unfold partsF; simp; omega)
      have := Fo.eq_nil_of_len hp
      subst this
      simp [hb, Fo.one, breaksF]
    · simp [hb]
end Go.Proofs
namespace Go.Proofs
open Go Go.Sh Go.RowKit

end Go.Proofs
namespace Go.Proofs
open Go Go.Sh Go.RowKit

theorem good_nodes : ∀ (f : Fo), good f → ∀ x ∈ nodesF f, nodeOk x.k x.t x.n x.ps
  | .nil, _, x, hx => by simp [nodesF] at hx
  | .cons k t n ps r, h, x, hx => by
    simp only [nodesF, List.mem_cons, List.mem_append] at hx
    rcases hx with rfl | hx | hx
    · exact h.1
    · exact good_nodes ps h.2.1 x hx
    · exact good_nodes r h.2.2 x hx
theorem flat_pick : ∀ (l : List Nn), (∀ x ∈ l, nodeOk x.k x.t x.n x.ps) → flat (pickB l)
  | [], _ => trivial
  | x :: l, h => by
    have ih := flat_pick l fun y hy => h y (by simp [hy])
    simp only [pickB]
    split
    · rename_i hb
      have hk : x.k = 2 ∨ x.k = 3 ∨ x.k = 4 := by simpa [brkF] using hb
      have hp : x.ps.len = 0 := (h x (by simp)).2.2.2.2.1 (by unfold partsF; simp; omega)
      exact ⟨Fo.eq_nil_of_len hp, ih⟩
    · exact ih

theorem al_true {w : World} {T : TypeId} {cs : List Value} {A : Addr → World → Prop} (h : al w T cs A) : al w T cs fun p w1 => A p w1 ∧ True := ⟨h, trivial⟩

end Go.Proofs
namespace Go.Proofs
open Go Go.Sh Go.RowKit

def eachR (rep : Int → List UInt8 → Int → Fo → Fo → Fo) : Fo → Fo
  | .nil => .nil
  | .cons k t n ps r => (if k = 8 ∨ k = 9 then rep k t n ps (eachR rep ps) else if 0 < ps.len then partF k t n (eachR rep ps) else .one k t n ps).app (eachR rep r)
theorem eachR_app (rep) (f g : Fo) : eachR rep (f.app g) = (eachR rep f).app (eachR rep g) := by
  induction f with
  | nil => rfl
  | cons k t n ps r _ ih => simp only [Fo.cons_app, eachR, ih, Fo.app_assoc]
theorem eachR_size {rep : Int → List UInt8 → Int → Fo → Fo → Fo} (hrs : ∀ k t n ps ps', ps'.size ≤ ps.size → (rep k t n ps ps').size ≤ ps.size + 1) : ∀ f : Fo, (eachR rep f).size ≤ f.size
  | .nil => Nat.le_refl _
  | .cons k t n ps r => by
    have h1 := eachR_size hrs ps
    have h2 := eachR_size hrs r
    have h3 := hrs k t n ps _ h1
    have h4 := partF_size k t n (eachR rep ps)
    simp only [eachR, Fo.size_app, Fo.size]
    split
    · omega
    split
    · omega
    · simp [Fo.one, Fo.size]; omega

/- what calling the function of the parts gives -/
def PartsOK (pf : Value) (W : World) (S : Nat → Prop) (g : Fo) : Prop :=
  ∀ (W' : World) (R' : Ending → World → Prop), Ext W W' → (∀ a n c W'', SlF (fun k => S k ∨ W'.heap.size ≤ k) W'' a n g → Ext W' W'' → R' (.returned (.slice a n c)) W'') → CallV Tryz.prog pf [] W' R'
def RepOK (rep : Int → List UInt8 → Int → Fo → Fo → Fo) (rv : Value) (w0 : World) : Prop :=
  ∀ (W : World) (S : Nat → Prop) (R' : Ending → World → Prop) (k : Int) (t : List UInt8) (n : Int) (a : Option Addr) (c : Nat) (ps : Fo) (pf : Fn) (pa pb : Array Value), Ext w0 W → nodeOk k t n ps → good ps → ps.size ≤ 1000000000 → (k = 8 ∨ k = 9) → (∀ j, S j → j < W.heap.size) → SlF S W a ps.len ps →
    PartsOK (.func pf pa pb) W S (eachR rep ps) → (∀ a' n' c' W', SlF (fun k => S k ∨ W.heap.size ≤ k) W' a' n' (rep k t n ps (eachR rep ps)) → Ext W W' → R' (.returned (.slice a' n' c')) W') →
    CallV Tryz.prog rv [.agg ⟨[.int .i64 k, .string ⟨⟨t⟩⟩, .int .i64 n, .slice a ps.len c]⟩, .func pf pa pb] W R'

end Go.Proofs
namespace Go.Proofs
open Go Go.Sh Go.RowKit

def repR (hand : Int) (k : Int) (_t : List UInt8) (n : Int) (ps ps' : Fo) : Fo := if (decide (k = 8) = decide (n ≤ hand)) then ps' else breaksF ps
def repA (hand : Int) (k : Int) (t : List UInt8) (n : Int) (ps ps' : Fo) : Fo := if hand < n then partF k t n ps' else if k = 8 then ps' else breaksF ps
theorem repR_size (hand : Int) : ∀ k t n ps ps', Fo.size ps' ≤ Fo.size ps → (repR hand k t n ps ps').size ≤ ps.size + 1 := by
  intro k t n ps ps' h
  have := breaksF_size ps
  unfold repR; split <;> omega
theorem repA_size (hand : Int) : ∀ k t n ps ps', Fo.size ps' ≤ Fo.size ps → (repA hand k t n ps ps').size ≤ ps.size + 1 := by
  intro k t n ps ps' h
  have := breaksF_size ps
  have := partF_size k t n ps'
  unfold repA; split
  · omega
  · split <;> omega

/- the program's and the reference's are one -/
theorem each_resolve (hand : Int) : ∀ f : Fo, good f → eachR (repR hand) f = resolveF f hand false
  | .nil, _ => rfl
  | .cons k t n ps r, h => by
    have h1 := each_resolve hand ps h.2.1
    have h2 := each_resolve hand r h.2.2
    simp only [eachR, resolveF, h1, h2]
    congr 1
    by_cases g8 : k = 8
    · subst g8
      by_cases gn : n ≤ hand
      · simp [repR, gn]
      · simp [repR, gn]
    · by_cases g9 : k = 9
      · subst g9
        by_cases gn : n ≤ hand
        · simp [repR, gn]
        · simp [repR, gn]
      · simp only [g8, g9, false_and, if_false, false_or]
        obtain ⟨hk1, hk2, _, _, hp1, hp2⟩ := h.1
        by_cases gp : k = 7 ∨ k = 10 ∨ k = 11
        · rw [if_pos gp, if_pos (hp2 (by unfold partsF; simp; omega))]
        · rw [if_neg gp, if_neg (by have := hp1 (by unfold partsF; simp; omega); omega)]
theorem each_advance (hand : Int) : ∀ f : Fo, good f → eachR (repA hand) f = resolveF f hand true
  | .nil, _ => rfl
  | .cons k t n ps r, h => by
    have h1 := each_advance hand ps h.2.1
    have h2 := each_advance hand r h.2.2
    simp only [eachR, resolveF, h1, h2]
    congr 1
    by_cases g8 : k = 8
    · subst g8
      by_cases gn : n ≤ hand
      · simp [repA, gn] <;> omega
      · simp [repA, gn] <;> omega
    · by_cases g9 : k = 9
      · subst g9
        by_cases gn : n ≤ hand
        · simp [repA, gn] <;> omega
        · simp [repA, gn] <;> omega
      · simp only [g8, g9, false_and, if_false, false_or]
        obtain ⟨hk1, hk2, _, _, hp1, hp2⟩ := h.1
        by_cases gp : k = 7 ∨ k = 10 ∨ k = 11
        · rw [if_pos gp, if_pos (hp2 (by unfold partsF; simp; omega))]
        · rw [if_neg gp, if_neg (by have := hp1 (by unfold partsF; simp; omega); omega)]
end Go.Proofs
namespace Go.Proofs
open Go Go.Sh Go.RowKit

theorem tlen_good : ∀ f : Fo, good f → tlen f ≤ 65536 * f.size
  | .nil, _ => by simp [tlen]
  | .cons k t n ps r, h => by
    have h1 := tlen_good ps h.2.1
    have h2 := tlen_good r h.2.2
    have h3 := h.1.2.2.2.1
    simp only [tlen, Fo.size]; omega
theorem tlen_breaks : ∀ f : Fo, tlen (breaksF f) ≤ tlen f
  | .nil => Nat.le_refl _
  | .cons k t n ps r => by
    have h1 := tlen_breaks ps
    have h2 := tlen_breaks r
    simp only [breaksF, tlen_app, tlen]
    split
    · simp [Fo.one, tlen]; omega
    · omega
theorem tlen_part (k t n) (ps : Fo) : tlen (partF k t n ps) ≤ t.length + tlen ps := by
  unfold partF; split
  · simp [tlen]
  · simp [Fo.one, tlen]
theorem tlen_resolve : ∀ (f : Fo) (hand : Int) (adv : Bool), tlen (resolveF f hand adv) ≤ tlen f
  | .nil, _, _ => Nat.le_refl _
  | .cons k t n ps r, hand, adv => by
    have h1 := tlen_resolve ps hand adv
    have h2 := tlen_resolve r hand adv
    have h3 := tlen_breaks ps
    have h4 := tlen_part k t n (resolveF ps hand adv)
    simp only [resolveF, tlen_app, tlen]
    split
    · omega
    split
    · omega
    split
    · omega
    split
    · omega
    split
    · omega
    split
    · omega
    · simp [Fo.one, tlen]; omega
theorem check_zero {f : Fo} (h : checkT f = 0) : f.size ≤ 4096 ∧ good f ∧ tlen f ≤ 268435456 := by
  unfold checkT at h
  split at h
  · rename_i h1
    split at h
    · rename_i h2; exact absurd h h2
    · rename_i h2
      have hg := all_good f _ _ (Decidable.not_not.1 h2)
      have := tlen_good f hg
      exact ⟨h1.1, hg, by omega⟩
  · cases h
def errS (f : Fo) (hand : Int) : Int := if checkT f ≠ 0 then 1 else if hand < 0 ∨ 8 < hand then 13 else 0
def resS (f : Fo) (hand : Int) (adv : Bool) : Fo := if errS f hand = 0 then mergeF (resolveF f hand adv) else .nil

section
variable {R : Ending → World → Prop} {S : Nat → Prop} {w : World} {a : Option Addr} {n c : Nat}
end
end Go.Proofs
namespace Go.Proofs
open Go Go.Sh Go.RowKit

theorem at_blk {w : World} {b : Nat} {vs : List Value} {T : TypeId} (h : Blk w b vs T) : At (fun _ => True) w (some ⟨b, 0, none⟩) vs :=
  .inr ⟨b, 0, rfl, trivial, h.lt, fun j v hj => by rw [Nat.zero_add, h.cell]; exact hj⟩
def fA1 : Fo := .cons 1 [100, 101] 0 .nil (.cons 8 [] 1 (.one 1 [117] 0 .nil) (.one 1 [115] 0 .nil))
def fA2 : Fo := .cons 1 [97] 0 .nil (.one 9 [] 2 (.cons 1 [98] 0 .nil (.one 2 [] 0 .nil)))
theorem awake1 : errS fA1 0 = 0 ∧ errS fA1 1 = 0 ∧ errS fA2 2 = 0 ∧ resS fA1 0 false = .one 1 [100, 101, 115] 0 .nil ∧ resS fA1 1 false = .one 1 [100, 101, 117, 115] 0 .nil ∧ resS fA2 2 false = .cons 1 [97] 0 .nil (.one 2 [] 0 .nil) := by decide +kernel
theorem addL_size (f : Fo) (t) : (addL f t).size = f.size := by
  rcases Fo_view f with rfl | ⟨pre, k, s, n, ps, rfl⟩
  · rfl
  · rw [addL_snoc, Fo.size_app, Fo.size_app]; rfl
theorem snocM_size (out : Fo) (k t n ps) : (snocM out k t n ps).size ≤ out.size + ps.size + 1 := by
  unfold snocM
  split
  · omega
  · split
    · rw [addL_size]; omega
    · rw [Fo.size_app]; simp [Fo.one, Fo.size]; omega
theorem mgo_size : ∀ (f out : Fo), (mgo f out).size ≤ f.size + out.size
  | .nil, out => by simp [mgo]
  | .cons k t n ps r, out => by
    have h1 := mgo_size ps .nil
    have h2 := mgo_size r (snocM out k t n (mgo ps .nil))
    have h3 := snocM_size out k t n (mgo ps .nil)
    simp only [mgo, Fo.size] at *
    omega
theorem mergeF_size (f : Fo) : (mergeF f).size ≤ f.size := by
  have := mgo_size f .nil
  simpa [mergeF, Fo.size] using this

end Go.Proofs
