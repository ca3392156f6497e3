/- The contracts of the functions that the law reaches, one after the other, and at the end the law's card. -/
import Derived.Test.YtpnhhkjagkajoaaGreatDoorLawE
import Derived.Deep.Slices
import Derived.Test.YtpnhhkjagkajoaaGreatDoorCards
import Derived.Test.YtpnhhkjagkajoaaGreatDoorTie
import Derived.Deep.DeepHandedRow
import Derived.Lib.LaidTab
import Derived.Lib.LaidU8
import Derived.WalkKit
import Derived.ProofKit
import Derived.SizedLaws
namespace Go.Proofs
open Go Go.Sh Go.RowKit

variable {R : Ending → World → Prop} {w : World}
theorem idx_at {a : Option Addr} {g n i : Nat} (ha : a = some ⟨g, 0, none⟩) (hi : i < n) {K : Addr → Prop} (hK : K ⟨g, i * 4, none⟩) : idx a n (i : Int) 4 K := by
  subst ha
  refine ⟨by omega, by omega, ?_⟩
  show K _
  rw [add_none, Int.toNat_natCast, Nat.zero_add]; exact hK
/- the open nodes while parsing -/
abbrev init0 : List Fr := [⟨⟨0, [], 0⟩, .nil⟩]
theorem step_ne {st : List Fr} (h : st ≠ []) (x : Tk) : stepP st x ≠ [] := by
  cases st with
  | nil => exact absurd rfl h
  | cons f r =>
    unfold stepP
    split
    · simp
    · split
      · cases r with
        | nil => simp
        | cons f1 r => simp
      · simp
theorem step_len {st : List Fr} {x : Tk} {k : Nat} (h1 : st.length ≤ k) (h2 : ∀ f ∈ st, f.f.len ≤ k) : (stepP st x).length ≤ k + 1 ∧ ∀ f ∈ stepP st x, f.f.len ≤ k + 1 := by
  have hw : ∀ f ∈ st, f.f.len ≤ k + 1 := fun f hf => by have := h2 f hf; omega
  have hadd : ∀ (f : Fr) (h : Hd) (ps : Fo), f.f.len ≤ k → (f.add h ps).f.len ≤ k + 1 := fun f h ps hf => by unfold Fr.add; simp [Fo.one]; omega
  unfold stepP
  split
  · refine ⟨by rw [List.length_cons]; omega, fun f hf => ?_⟩
    rcases List.mem_cons.1 hf with rfl | hf
    · simp
    · exact hw f hf
  · split
    · cases st with
      | nil => exact ⟨by simp, fun f hf => by cases hf⟩
      | cons f2 st =>
        cases st with
        | nil => exact ⟨(show [f2].length ≤ k + 1 by omega), hw⟩
        | cons f1 r =>
          simp only [List.length_cons] at h1
          refine ⟨by rw [List.length_cons]; omega, fun f hf => ?_⟩
          rcases List.mem_cons.1 hf with rfl | hf
          · exact hadd _ _ _ (h2 f1 (by simp))
          · exact hw f (by simp [hf])
    · cases st with
      | nil => exact ⟨by simp, fun f hf => by cases hf⟩
      | cons f1 r =>
        simp only [List.length_cons] at h1
        refine ⟨by rw [List.length_cons]; omega, fun f hf => ?_⟩
        rcases List.mem_cons.1 hf with rfl | hf
        · exact hadd _ _ _ (h2 f1 (by simp))
        · exact hw f (by simp [hf])
theorem st_init {B b : Nat} (hb : Blk w b (cellsH ⟨0, [], 0⟩ none 0 0) 35) (hB : B ≤ b) : StAt 35 B w (some ⟨b, 0, none⟩) 1 1 init0 (fun _ => False) := by
  refine ⟨rfl, _, ⟨rfl, .inr ⟨b, 1, ⟨cellsH ⟨0, [], 0⟩ none 0 0⟩, rfl, hB, hb, Nat.le_refl _, by simp [maxLen], rfl, rfl⟩⟩, ⟨none, 0, fun _ => False, fun _ => False, [], rfl, OwnG.nil w, ⟨rfl, fun _ h => h⟩, fun k => by simp, fun k h => h.elim⟩, fun k h => h.elim⟩
theorem st_cap {e : TypeId} {B : Nat} {a : Option Addr} {n c : Nat} {st : List Fr} {O : Nat → Prop} (h : StAt e B w a n c st O) : n ≤ c := by
  obtain ⟨_, xs, h1, _⟩ := h
  exact owns_le h1
/- the default of parsing: one more node in the innermost list -/
theorem app_def {B : Nat} {oa : Option Addr} {on oc : Nat} {f : Fr} {r : List Fr} {O : Nat → Prop} {W : World} (hS : StAt 35 B W oa on oc (f :: r) O) (hB : B ≤ W.heap.size) {g : Nat} (hg : oa = some ⟨g, 0, none⟩) {pa : Option Addr} {pc : Nat} (hc : W.cell? ⟨g, r.length * 4 + 3, none⟩ = some (.slice pa f.f.len pc))
    {bz : Nat} (hz : Blk W bz (cellsH ⟨0, [], 0⟩ none 0 0) 35) (hd : Hd) (hl : f.f.len ≤ 1000000) {Fin : World → Prop}
    (hF : ∀ w' O', StAt 35 B w' oa on oc (f.add hd .nil :: r) O' → Chg (fun k => Sh.bk oa k ∨ O k) W w' → Fin w') {i : Int} (hi : i = (r.length : Int)) :
    app Tryz.prog [24, 24] 24 (.slice pa f.f.len pc) (.slice (some ⟨bz, 0, none⟩) 1 1) W fun a1 n1 c1 w2 => idx a1 n1 (f.f.len : Int) 4 fun p5 => idx oa on i 4 fun p6 =>
      (stL w2 p5 0 (cellsH hd none 0 0) fun w7 => (stL w7 (p6.add 3) 0 [.slice a1 n1 c1] Fin) ∧ True) ∧
      (stL w2 (p6.add 3) 0 [.slice a1 n1 c1] fun w7 => (stL w7 p5 0 (cellsH hd none 0 0) Fin) ∧ True) ∧ True := by
  subst hi
  have hn : on = r.length + 1 := hS.1
  refine StAt.grow slT_node hS hB hz rfl one4n (hd := hd) (ps := .nil) (a' := none) (c' := 0) (O2 := fun _ => False) (SlF.nil none) (fun k h => h.elim) (by omega) (by omega) hg hc fun a1 c1 w2 q hq ord => hq _ (idx_at hg (by omega) ?_)
  obtain ⟨o1, o2, _⟩ := ord Fin fun w' O' s1 s2 s3 => hF w' O' s1 s2
  rw [add_none]
  exact ⟨o1, o2, trivial⟩
set_option maxRecDepth 40000 in
theorem Parse_spec (s : List UInt8) (hF : Forms w) (hM : Mk w)
    (h : ∀ a n c w', n = (parseF s).1.len → SlF (fun _ => True) w' a n (parseF s).1 → Ext w w' → R (.returned (.tuple ⟨[.slice a n c, .int .i64 (parseF s).2]⟩)) w') : Calls Tryz.prog F_transcript_Parse ⟨[.string ⟨⟨s⟩⟩]⟩ w R := by
  apply c_transcript_Parse
  obtain ⟨hT, hll⟩ := scan_small s
  refine Scan_spec s hM fun a n c w3 hn hO e3 => ⟨_, _, _, _, rfl, ?_⟩
  have hL := OwnL.out hO
  refine br_split (fun g => ?_) (fun g => ?_)
  · have hp : parseF s = (.nil, (scanF s).2) := by unfold parseF; rw [if_pos g]
    rw [hp] at h
    exact h none 0 0 w3 rfl (SlF.nil _) e3
  refine Nested_spec (scanF s).1 hL hT (hM.ext e3) fun w7 e7 => ⟨_, rfl, ?_⟩
  have E7 := ext_trans e3 e7
  have hL7 := hL.ext e7
  refine br_split (fun g1 => ?_) (fun g1 => ?_)
  · have hp : parseF s = (.nil, nestX (scanF s).1) := by unfold parseF; rw [if_neg g, if_pos g1]
    rw [hp] at h
    exact h none 0 0 w7 rfl (SlF.nil _) E7
  have hne : nestX (scanF s).1 = 0 := Classical.not_not.1 g1
  have hp : parseF s = if checkT (treeT ((scanF s).1.map tkX)) ≠ 0 then (.nil, checkT (treeT ((scanF s).1.map tkX))) else (treeT ((scanF s).1.map tkX), 0) := by unfold parseF; rw [if_neg g, if_neg g1]
  have hck : chkX (scanF s).1 = 0 := by
    unfold nestX at hne
    split at hne
    · cases hne
    · rename_i hc; exact Classical.not_not.1 hc
  have htk := chkGo_tk hck
  obtain ⟨t1, t2⟩ := tree_inv hne
  obtain ⟨fr, u1, u2, u3⟩ := parse_inv (scanF s).1 init0 trivial htk (by
    unfold nestX at hne
    rw [if_neg (by rw [hck]; simp)] at hne
    exact hne)
  have htree : treeT ((scanF s).1.map tkX) = fr.f := by unfold treeT; rw [u1]
  have hsz : fr.f.size ≤ 65536 := by
    rw [htree] at t1 t2
    rw [← want_tks t1, t2]
    have : wantT ((scanF s).1.map tkX) ≤ ((scanF s).1.map tkX).length := List.length_filter_le _ _
    rw [List.length_map] at this; omega
  rw [hp, htree] at h
  generalize hLL : (scanF s).1 = L at *
  refine al_intro fun b9 w10 hb9 B9 e10 s10 => ?_
  have z10 := e10.size
  refine ⟨fun oa on oc t W m => ∃ (k : Nat) (st : List Fr) (O : Nat → Prop), t = k ∧ k ≤ n ∧ m = n - k ∧ st = ((L.map tkX).take k).foldl stepP init0 ∧ st ≠ [] ∧ st.length ≤ k + 1 ∧ (∀ f ∈ st, f.f.len ≤ k + 1) ∧ StAt 35 w7.heap.size W oa on oc st O ∧ Ext w7 W, ⟨_, 0, init0, _, rfl, by omega, rfl, rfl, by simp, by simp, fun f hf => by rw [List.mem_singleton.1 hf]; simp, st_init B9 (by omega), e10⟩, ?_⟩
  rintro oa on oc _ W m ⟨k, st, O, rfl, hk, rfl, hst, hne0, hsl, hfl, hS, he⟩ _
  have zW := he.size
  refine br_split (fun hlt => ?_) (fun hge => ?_)
  · have hkL : k < L.length := by omega
    obtain ⟨q, hq, c0, c1, c2, c3⟩ := get_lx (hL7.ext he) hkL
    have hx := totX_get hkL
    have htx := htk L[k] (List.getElem_mem hkL)
    have hstep : ((L.map tkX).take (k + 1)).foldl stepP init0 = stepP st (tkX L[k]) := by
      rw [List.take_succ_eq_append_getElem (by rw [List.length_map]; exact hkL), List.foldl_append, ← hst]
      simp
    have hls := step_len (x := tkX L[k]) hsl hfl
    have hne' := step_ne hne0 (tkX L[k])
    have next : ∀ oa' on' oc' O' v, StAt 35 w7.heap.size v oa' on' oc' (stepP st (tkX L[k])) O' → Ext w7 v → ∃ m40 : Nat, m40 < n - k ∧ ∃ (k' : Nat) (st : List Fr) (O : Nat → Prop), IntKind.i64.wrap ((k : Int) + 1) = k' ∧ k' ≤ n ∧ m40 = n - k' ∧ st = ((L.map tkX).take k').foldl stepP init0 ∧ st ≠ [] ∧ st.length ≤ k' + 1 ∧ (∀ f ∈ st, f.f.len ≤ k' + 1) ∧ StAt 35 w7.heap.size v oa' on' oc' st O ∧ Ext w7 v := by
      intro oa' on' oc' O' v h1 h2
      exact ⟨n - (k + 1), by omega, k + 1, _, O', by rw [wrap_nat (by omega)], by omega, rfl, hstep.symm, hne', hls.1, hls.2, h1, h2⟩
    refine hq _ ⟨_, c0, _, c1, _, c2, _, c3, ?_⟩
    refine al_stL rfl one4 fun b22 w24 hb22 B22 e24 s24 => ?_
    obtain ⟨d0, d1, d2, d3⟩ := blk4x (x := L[k]) B22
    have E24 := ext_trans he e24
    have S24 := hS.ext e24
    have EW : ∀ v, Ext w24 v → Ext w v := fun v ev => ext_trans E7 (ext_trans E24 ev)
    have FW : ∀ v, Ext w24 v → Forms v := fun v ev => hF.ext (EW v ev)
    have MW : ∀ v, Ext w24 v → Mk v := fun v ev => hM.ext (EW v ev)
    have z24 := e24.size
    generalize hxk : L[k] = x at *
    refine ⟨_, d0, br_split (fun g2 => ?_) (fun g2 => br_split (fun g3 => ?_) (fun g3 => ?_))⟩
    · -- an opening tag
      have hs2 : stepP st (tkX x) = ⟨headF (tkX x), .nil⟩ :: st := by unfold stepP; rw [if_pos (show (tkX x).k = 2 from g2)]
      rw [hs2] at next
      refine ⟨_, d0, _, d1, _, d2, _, d3, ?_⟩
      refine nodeT_spec x htx (by omega) (by omega) (FW _ (Below.refl _ _)) (MW _ (Below.refl _ _)) fun w31 e31 => ⟨_, _, _, _, _, _, rfl, ?_⟩
      have z31 := e31.size
      have hon : on = st.length := hS.1
      refine StAt.push slT_node (S24.ext e31) (by omega) (headF (tkX x)) (by omega) (by omega) fun a' c' w' o1 o2 => ?_
      exact next _ _ _ _ _ o1 (ext_chgS (ext_trans E24 e31) o2 fun j hj => (hS.bk hj).1)
    · -- a closing tag
      cases st with
      | nil => exact absurd rfl hne0
      | cons f2 st' =>
        cases st' with
        | nil =>
          have hon : on = 1 := hS.1
          have hs2 : stepP [f2] (tkX x) = [f2] := by unfold stepP; rw [if_neg (show ¬ (tkX x).k = 2 from g2), if_pos (show (tkX x).k = 3 from g3)]
          rw [hs2] at next
          rw [hon, show ((1 : Nat) : Int) - 1 = ((0 : Nat) : Int) by omega, wrap_id (by omega)]
          refine br_split (fun hh => absurd hh (by omega)) (fun _ => ?_)
          exact next oa 1 oc O w24 (hon ▸ S24) E24
        | cons f1 r =>
          have hon : on = r.length + 2 := hS.1
          have hs2 : stepP (f2 :: f1 :: r) (tkX x) = f1.add f2.h f2.f :: r := by unfold stepP; rw [if_neg (show ¬ (tkX x).k = 2 from g2), if_pos (show (tkX x).k = 3 from g3)]
          rw [hs2] at next
          have hfl1 := hfl f1 (by simp)
          have hfl2 := hfl f2 (by simp)
          simp only [List.length_cons] at hsl
          have i1 : IntKind.i64.wrap ((on : Int) - 1) = ((r.length + 1 : Nat) : Int) := by rw [wrap_id (by omega)]; omega
          have i2 : IntKind.i64.wrap (((r.length + 1 : Nat) : Int) - 1) = (r.length : Int) := by rw [wrap_id (by omega)]; omega
          rw [i1, i2]
          refine br_split (fun _ => ?_) (fun hh => absurd (by omega) hh)
          intro K41 hK41
          have k41 : ∀ (b : Bool) (v : World), Ext w24 v → K41 b v := by
            intro b v ev
            refine hK41 _ _ fun _ => ?_
            have Sd := (S24.ext ev).ext (ext_drew v)
            have Ed := ext_trans (ext_trans E24 ev) (ext_drew v)
            have zd := Ed.size
            have hcap := st_cap Sd
            obtain ⟨p2, q2, O1, O', S1, hsl2, hd1, hs1, hs1', g, hg, x0, x1, x2, x3⟩ := Sd.pop
            obtain ⟨g', pa, pc, _, hg', _, _, _, _, y3, _, _⟩ := S1.top
            obtain rfl : g' = g := by rw [hg] at hg'; simpa using hg'.symm
            simp only [List.length_cons] at x0 x1 x2 x3
            have fin : ∀ w' O'', StAt 35 w7.heap.size w' oa (f1 :: r).length oc (f1.add f2.h f2.f :: r) O'' → Ext w7 w' → sls oa oc 0 ((r.length + 1 : Nat) : Int) 4 fun a60 a60n a60c => ∃ m40 : Nat, m40 < n - k ∧ ∃ (k' : Nat) (st : List Fr) (O : Nat → Prop), IntKind.i64.wrap ((k : Int) + 1) = k' ∧ k' ≤ n ∧ m40 = n - k' ∧ st = ((L.map tkX).take k').foldl stepP init0 ∧ st ≠ [] ∧ st.length ≤ k' + 1 ∧ (∀ f ∈ st, f.f.len ≤ k' + 1) ∧ StAt 35 w7.heap.size w' a60 a60n a60c st O ∧ Ext w7 w' := by
              intro w' O'' h1 h2
              refine sls_cut (by omega) (fun p hp => by rw [hg] at hp; rw [← Option.some.inj hp]; rfl) ?_
              exact next oa (r.length + 1) oc O'' w' h1 h2
            have ex : ∀ {W' w' : World}, Ext w7 W' → Chg (fun k => Sh.bk oa k ∨ O' k) W' w' → Ext w7 w' := fun {W' w'} h1 h2 => ext_chgS h1 h2 fun j hj => hj.elim (fun hb => (Sd.bk hb).1) (fun ho => (S1.own ho).1)
            unfold drw
            cases b with
            | true =>
              rw [br_t]
              refine idx_at hg (by omega) ⟨_, _, _, by rw [add_none]; exact y3, idx_at hg (i := r.length + 1) (by omega) ⟨_, by rw [add_none, Nat.add_zero]; exact x0, _, by rw [add_none]; exact x1, _, by rw [add_none]; exact x2, _, _, _, by rw [add_none]; exact x3, ⟨?_, trivial⟩⟩⟩
              refine al_intro fun bz W' hbz Bz ez sz => ⟨?_, trivial⟩
              refine StAt.grow slT_node (S1.ext ez) (by omega) Bz rfl one4n (hd := f2.h) (ps := f2.f) (a' := p2) (c' := q2) (O2 := O1) (hsl2.ext ez) (fun j hj => ⟨⟨(hd1 j hj).1.1, by have := (hd1 j hj).1.2; omega⟩, (hd1 j hj).2⟩) (by omega) (by omega) hg (by rw [← y3]; exact cell_ext y3 ez ▸ y3.symm ▸ rfl) fun a1 c1 w2 qq hqq ord => ?_
              refine idx_at hg (by omega) ⟨?_, trivial⟩
              rw [add_none]
              exact (ord _ fun w' O'' s1 s2 s3 => fin w' O'' s1 (ex (ext_trans Ed ez) s2)).2.2.1
            | false =>
              rw [br_f]
              refine idx_at hg (by omega) ⟨_, _, _, by rw [add_none]; exact y3, idx_at hg (i := r.length + 1) (by omega) ⟨_, by rw [add_none, Nat.add_zero]; exact x0, _, by rw [add_none]; exact x1, _, by rw [add_none]; exact x2, _, _, _, by rw [add_none]; exact x3, ⟨?_, trivial⟩⟩⟩
              refine al_intro fun bz W' hbz Bz ez sz => ⟨?_, trivial⟩
              refine StAt.grow slT_node (S1.ext ez) (by omega) Bz rfl one4n (hd := f2.h) (ps := f2.f) (a' := p2) (c' := q2) (O2 := O1) (hsl2.ext ez) (fun j hj => ⟨⟨(hd1 j hj).1.1, by have := (hd1 j hj).1.2; omega⟩, (hd1 j hj).2⟩) (by omega) (by omega) hg (cell_ext y3 ez) fun a1 c1 w2 qq hqq ord => ?_
              refine idx_at hg (by omega) ⟨?_, trivial⟩
              rw [add_none]
              exact (ord _ fun w' O'' s1 s2 s3 => fin w' O'' s1 (ex (ext_trans Ed ez) s2)).2.2.2 rfl
          unfold drw
          have ed := ext_drew w24
          refine ⟨al_intro fun b79 w80 hb79 B79 e80 s80 => ⟨?_, ?_, trivial⟩, trivial⟩
          · refine stL_one B79 rfl fun w81 B81 c81 s81 => ⟨stL_one B81 rfl fun w82 B82 c82 s82 => ⟨_, by rw [B82.cell]; rfl, ?_⟩, trivial⟩
            exact k41 _ _ (ext_two (ext_two (ext_trans ed e80) c81 (by have := ed.size; omega)) c82 (by have := ed.size; omega))
          · refine stL_one B79 rfl fun w81 B81 c81 s81 => ⟨stL_one B81 rfl fun w82 B82 c82 s82 => ⟨_, by rw [B82.cell]; rfl, ?_⟩, trivial⟩
            exact k41 _ _ (ext_two (ext_two (ext_trans ed e80) c81 (by have := ed.size; omega)) c82 (by have := ed.size; omega))
    · -- characters, or an empty tag
      cases st with
      | nil => exact absurd rfl hne0
      | cons f r =>
        have hon : on = r.length + 1 := hS.1
        have hs2 : stepP (f :: r) (tkX x) = f.add (headF (tkX x)) .nil :: r := by unfold stepP; rw [if_neg (show ¬ (tkX x).k = 2 from g2), if_neg (show ¬ (tkX x).k = 3 from g3)]
        rw [hs2] at next
        have hfl1 := hfl f (by simp)
        simp only [List.length_cons] at hsl
        have i1 : IntKind.i64.wrap ((on : Int) - 1) = (r.length : Int) := by rw [wrap_id (by omega)]; omega
        rw [i1]
        unfold drw
        have ed := ext_drew w24
        have Sd := S24.ext ed
        have Ed := ext_trans E24 ed
        have zd := Ed.size
        obtain ⟨g, pa, pc, _, hg, _, _, _, _, y3, _, _⟩ := Sd.top
        have y3' : w24.drew.cell? ((⟨g, r.length * 4, none⟩ : Addr).add 3) = some (.slice pa f.f.len pc) := by rw [add_none]; exact y3
        have ap : ∀ (W' : World) (bz : Nat), Ext w24.drew W' → Blk W' bz (cellsH ⟨0, [], 0⟩ none 0 0) 35 → app Tryz.prog [24, 24] 24 (.slice pa f.f.len pc) (.slice (some ⟨bz, 0, none⟩) 1 1) W' fun a1 n1 c1 w2 => idx a1 n1 (f.f.len : Int) 4 fun p5 => idx oa on (r.length : Int) 4 fun p6 =>
            (stL w2 p5 0 (cellsH (headF (tkX x)) none 0 0) fun w7' => (stL w7' (p6.add 3) 0 [.slice a1 n1 c1] fun v => ∃ m40 : Nat, m40 < n - k ∧ ∃ (k' : Nat) (st : List Fr) (O : Nat → Prop), IntKind.i64.wrap ((k : Int) + 1) = k' ∧ k' ≤ n ∧ m40 = n - k' ∧ st = ((L.map tkX).take k').foldl stepP init0 ∧ st ≠ [] ∧ st.length ≤ k' + 1 ∧ (∀ f ∈ st, f.f.len ≤ k' + 1) ∧ StAt 35 w7.heap.size v oa on oc st O ∧ Ext w7 v) ∧ True) ∧
            (stL w2 (p6.add 3) 0 [.slice a1 n1 c1] fun w7' => (stL w7' p5 0 (cellsH (headF (tkX x)) none 0 0) fun v => ∃ m40 : Nat, m40 < n - k ∧ ∃ (k' : Nat) (st : List Fr) (O : Nat → Prop), IntKind.i64.wrap ((k : Int) + 1) = k' ∧ k' ≤ n ∧ m40 = n - k' ∧ st = ((L.map tkX).take k').foldl stepP init0 ∧ st ≠ [] ∧ st.length ≤ k' + 1 ∧ (∀ f ∈ st, f.f.len ≤ k' + 1) ∧ StAt 35 w7.heap.size v oa on oc st O ∧ Ext w7 v) ∧ True) ∧ True := by
          intro W' bz eW hz
          have zz := eW.size
          refine app_def (Sd.ext eW) (by omega) hg (cell_ext y3 eW) hz (headF (tkX x)) (by omega) (fun w' O' s1 s2 => ?_) rfl
          exact next oa on oc O' w' s1 (ext_chgS (ext_trans Ed eW) s2 fun j hj => hj.elim (fun hb => (Sd.bk hb).1) (fun ho => (Sd.own ho).1))
        have nd : ∀ (W' : World), Ext w24.drew W' → ∀ {K : Ending → World → Prop}, (∀ v, Ext W' v → K (.returned (.agg ⟨cellsH (headF (tkX x)) none 0 0⟩)) v) → Calls Tryz.prog F_transcript_node ⟨[aggX x]⟩ W' K := fun W' eW {K} hK =>
          nodeT_spec x htx g3 (by omega) (FW _ (ext_trans ed eW)) (MW _ (ext_trans ed eW)) hK
        have rr : Ext w24.drew w24.drew := Below.refl _ _
        refine idx_at hg (by omega) ⟨_, cell_ext d0 ed, _, cell_ext d1 ed, _, cell_ext d2 ed, _, cell_ext d3 ed, ?_⟩
        refine ⟨⟨_, _, _, y3', ?_, ?_, trivial⟩, ?_, ?_, trivial⟩
        · exact nd _ rr fun v ev => ⟨_, _, _, _, _, _, rfl, al_intro fun bz W' hbz Bz ez sz => ⟨ap W' bz (ext_trans ev ez) Bz, trivial⟩, trivial⟩
        · exact al_intro fun bz W' hbz Bz ez sz => ⟨nd _ ez fun v ev => ⟨_, _, _, _, _, _, rfl, ap v bz (ext_trans ez ev) (Bz.ext ev), trivial⟩, trivial⟩
        · exact nd _ rr fun v ev => ⟨_, _, _, _, _, _, rfl, _, _, _, cell_ext y3' ev, al_intro fun bz W' hbz Bz ez sz => ⟨ap W' bz (ext_trans ev ez) Bz, trivial⟩, trivial⟩
        · exact al_intro fun bz W' hbz Bz ez sz => ⟨nd _ ez fun v ev => ⟨_, _, _, _, _, _, rfl, _, _, _, cell_ext y3' (ext_trans ez ev), ap v bz (ext_trans ez ev) (Bz.ext ev), trivial⟩, trivial⟩
  · have hkn : k = L.length := by omega
    have hst' : st = [fr] := by rw [hst, hkn, List.take_of_length_le (by rw [List.length_map]; exact Nat.le_refl _), u1]
    subst hst'
    have hon : on = 1 := hS.1
    obtain ⟨g, pa, pc, O1, hg, _, _, _, _, y3, hG, _⟩ := hS.top
    have hi : idx oa on 0 4 = idx oa on ((0 : Nat) : Int) 4 := rfl
    rw [hi]
    refine idx_at hg (i := 0) (by omega) ⟨_, _, _, by rw [add_none]; exact y3, ?_⟩
    have hsl := hG.out
    refine Check22_spec fr.f (by unfold small; omega) hsl (hF.ext (ext_trans E7 he)) fun w172 e172 => ⟨_, rfl, br_split (fun gc => ?_) (fun gc => ?_)⟩
    · rw [if_pos gc] at h
      exact h none 0 0 w172 rfl (SlF.nil _) (ext_trans (ext_trans E7 he) e172)
    · rw [if_neg gc] at h
      exact h _ _ _ w172 rfl ((hsl.ext e172).imp fun _ _ _ => trivial) (ext_trans (ext_trans E7 he) e172)
end Go.Proofs
namespace Go.Proofs
open Go Go.Sh Go.RowKit

theorem PrintT_spec {R : Ending → World → Prop} {S : Nat → Prop} {w : World} {a : Option Addr} {n c : Nat} (f : Fo) (hs : small f) (hF : Forms w) (hf : SlF S w a n f)
    (h : ∀ w', Ext w w' → R (.returned (.tuple ⟨[.string ⟨⟨if checkT f ≠ 0 then [] else printF f⟩⟩, .int .i64 (if checkT f ≠ 0 then 1 else 0)]⟩)) w') : Calls Tryz.prog F_transcript_Print ⟨[.slice a n c]⟩ w R := by
  apply c_transcript_Print
  refine Check22_spec f hs hf hF fun w1 e1 => ⟨_, rfl, br_split (fun g => ?_) (fun g => ?_)⟩
  · rw [if_pos g, if_pos g] at h; exact h _ e1
  rw [if_neg g, if_neg g] at h
  obtain ⟨q1, q2, q3, q4⟩ := check_inv (Classical.not_not.1 g)
  refine marked_spec f (by omega) (all_good f _ _ q3) (hf.ext e1) (hF.ext e1) fun w2 e2 => ⟨_, rfl, h _ (ext_trans e1 e2)⟩
/- the depth over the places -/
def dstep (n : Nat) (x : Pl) : Nat := if 0 < x.ps.len then max n (x.d + 1) else n
def dmax (l : List Pl) : Nat := l.foldl dstep 0
theorem dmax_snoc (l : List Pl) (x : Pl) : dmax (l ++ [x]) = dstep (dmax l) x := by unfold dmax; rw [List.foldl_append]; rfl
theorem dmax_places : ∀ (f : Fo) (d n : Nat) (b : Bool), f.depth + d ≤ 16 → (placesF f d b).foldl dstep n = max n (if f.depth = 0 then 0 else d + f.depth)
  | .nil, d, n, b, _ => by simp [placesF, Fo.depth]
  | .cons k t m ps r, d, n, b, h => by
    rw [Fo.depth_parts] at h ⊢
    simp only [placesF]
    rw [if_pos (by omega), List.foldl_cons, List.foldl_append, dmax_places r d _ (decide (k = 1)) (by omega)]
    by_cases hp : ps.len = 0
    · have e' := Fo.eq_nil_of_len hp
      subst e'
      rw [if_pos hp]
      simp [placesF, dstep]
    · rw [if_neg hp] at h ⊢
      have hds : dstep n ⟨k, t, m, ps, d, b⟩ = max n (d + 1) := if_pos (show 0 < ps.len by omega)
      rw [dmax_places ps (d + 1) _ false (by omega), hds]
      split <;> split <;> split <;> omega
theorem dmax_eq {f : Fo} (h : f.depth ≤ 16) : dmax (placesF f 0 false) = f.depth := by
  unfold dmax
  rw [dmax_places f 0 0 false (by omega)]
  split <;> omega
theorem dmax_le : ∀ (l : List Pl), (∀ x ∈ l, x.d ≤ 17) → dmax l ≤ 18 := by
  have key : ∀ (l : List Pl) (n : Nat), n ≤ 18 → (∀ x ∈ l, x.d ≤ 17) → l.foldl dstep n ≤ 18 := by
    intro l
    induction l with
    | nil => intro n h _; exact h
    | cons x l ih =>
      intro n h hx
      rw [List.foldl_cons]
      refine ih _ ?_ fun y hy => hx y (List.mem_cons_of_mem _ hy)
      have := hx x List.mem_cons_self
      unfold dstep; split <;> omega
  exact fun l h => key l 0 (by omega) h
theorem places_d : ∀ (f : Fo) (d : Nat) (b : Bool), d ≤ 17 → ∀ x ∈ placesF f d b, x.d ≤ 17
  | .nil, d, b, _, x, hx => by simp [placesF] at hx
  | .cons k t m ps r, d, b, h, x, hx => by
    simp only [placesF, List.mem_cons, List.mem_append] at hx
    rcases hx with rfl | hx | hx
    · exact h
    · split at hx
      · exact places_d ps (d + 1) false (by omega) x hx
      · cases hx
    · exact places_d r d _ h x hx
theorem blk6b {w : World} {b : Nat} {v0 v1 v2 v3 v4 v5 : Value} {T : TypeId} (h : Blk w b [v0, v1, v2, v3, v4, v5] T) :
    w.cell? (((⟨b, 0, none⟩ : Addr).add 0).add 3) = some v3 ∧ w.cell? ((⟨b, 0, none⟩ : Addr).add 4) = some v4 ∧ w.cell? (((⟨b, 0, none⟩ : Addr).add 0).add 0) = some v0 := by
  simp only [add_none, h.cell]; exact ⟨rfl, rfl, rfl⟩
set_option maxRecDepth 20000 in
theorem Depth_spec {R : Ending → World → Prop} {S : Nat → Prop} {w : World} {a : Option Addr} {n c : Nat} (f : Fo) (hs : small f) (hF : Forms w) (hf0 : SlF S w a n f)
    (h : ∀ w', Ext w w' → R (.returned (.tuple ⟨[.int .i64 (if checkT f ≠ 0 then 0 else (f.depth : Int)), .int .i64 (if checkT f ≠ 0 then 1 else 0)]⟩)) w') :
    Calls Tryz.prog F_transcript_Depth ⟨[.slice a n c]⟩ w R := by
  apply c_transcript_Depth
  refine Check22_spec f hs hf0 hF fun w1 e1 => ⟨_, rfl, br_split (fun g => ?_) (fun g => ?_)⟩
  · rw [if_pos g, if_pos g] at h; exact h _ e1
  rw [if_neg g, if_neg g] at h
  obtain ⟨_, hdep, _, _⟩ := check_inv (Classical.not_not.1 g)
  have hdm := dmax_eq hdep
  refine al_intro fun b5 w2 hb5 B5 e2 s2 => ?_
  refine stL_one B5 rfl fun w3 B5b c3 s3 => ?_
  have z1 := e1.size
  have E3 : Ext w w3 := ext_two (ext_trans e1 e2) c3 (by omega)
  refine places_spec fun bs w4 Bs e4 hbs => ⟨_, _, _, rfl, fun base => ?_⟩
  have E4 := ext_trans E3 e4
  have z4 := E4.size
  have z34 := e4.size
  have ls := Bs.lt
  have hf : SlF (fun k => S k ∧ k < w.heap.size) w a n f := hf0.imp fun k hk hl => ⟨hk, hl⟩
  rw [cd_transcript_Depth_1]
  refine RFw_lawO anA_transcript_Depth_1 anB_transcript_Depth_1 (gf := F_transcript_places_1) rfl (by kernel_rfl) (xs := placesF f 0 false) (E := PlE (fun k => (S k ∧ k < w.heap.size) ∨ k = bs) w4) (Rd := fun k => (S k ∧ k < w.heap.size) ∨ k = bs)
    (fun v1 he => (places_iterO f hs bs v1 (fun k hk => by have := he.size; omega) (Bs.ext he) ((hf.ext (ext_trans E4 he)).imp fun k hk _ => .inl hk) (.inr rfl)).mono ?_) (fun y vs hE => by obtain ⟨a', c', rfl, _⟩ := hE; rfl) (by decide) (fun k hk => by omega) (fun k => k = b5) (fun k hk => by omega)
    (fun pre S1 W => Blk W b5 [.int .i64 (dmax pre : Int)] 3 ∧ (∀ k, S1 k ↔ k = b5) ∧ Ext w W) (fun _ _ => False) (fun _ _ => False)
    ?_ (fun _ _ _ h => h.elim) (fun _ _ _ h => h.elim) ⟨B5b.ext e4, fun k => Iff.rfl, E4⟩ ?_ ?_ (fun _ _ _ _ _ _ _ h => h.elim) (fun _ _ _ _ _ _ _ h => h.elim)
  · rintro x vs ⟨a', c', rfl, hsl⟩
    exact ⟨a', c', rfl, hsl.keep' fun k hk hl => ⟨hk, by omega, ((he.block k (by omega))).symm⟩⟩
  · rintro pre S1 W W' ⟨g1, g2, g3⟩ hc
    exact ⟨hc.blk g1 (fun hh => hh.2 ((g2 _).2 rfl)), g2, ext_chgS g3 hc (fun k hk => by omega)⟩
  · rintro pre ⟨k1, t1, m1, ps1, d1, x1⟩ vs S1 W l ⟨a', c', rfl, hsl⟩ hpre hl1 hl2 hl3 hS1 ⟨g1, g2, g3⟩
    refine Eq.mpr (er_transcript_Depth_1 base _ _ _ _ _ _ _ _ _ _ _ _ _ _ _ _ _ _ _) ?_
    refine al_stL (by simp) (by intro u hu; simp only [List.mem_cons, List.not_mem_nil, or_false] at hu; rcases hu with rfl | rfl | rfl | rfl | rfl | rfl <;> rfl) fun bx W1 hbx hBx ex sx => ?_
    refine ⟨ex, fun W2 hU => ?_⟩
    have zx := ex.size
    have zU := hU.size
    have hX2 := upd_blk hU hBx (by omega)
    obtain ⟨x3, x4, _⟩ := blk6b hX2
    have hUc : Chg (fun k => k = l) W1 W2 := ⟨hU.os, hU.tape, hU.output, by omega, fun k _ hk => hU.block k hk⟩
    have hWc : Chg (fun k => k = l) W W2 := (Chg.of_ext ex).trans hUc
    have nl : b5 ≠ l := fun he => hl3 (he ▸ (g2 b5).2 rfl)
    have h1 := hWc.blk g1 nl
    have E2' : Ext w W2 := ext_chgS g3 hWc fun k hk => by omega
    obtain ⟨rest, hrest⟩ := hpre
    have hd1 : d1 ≤ 17 := places_d f 0 false (by omega) ⟨k1, t1, m1, ps1, d1, x1⟩ (by rw [← hrest]; simp)
    have hdp : dmax pre ≤ 18 := dmax_le pre fun x hx => places_d f 0 false (by omega) x (by rw [← hrest]; simp [hx])
    refine ⟨_, _, _, x3, br_split (fun q => ?_) (fun q => ?_)⟩
    · refine dr_ok ⟨_, by rw [h1.cell]; rfl, _, x4, dr_ok ?_⟩
      refine stL_one h1 rfl fun w5 B5c c5 s5 => ?_
      refine ⟨c5.mono fun k _ hk => .inl ((g2 k).2 hk), fun k => k = b5, fun k hk => ⟨.inl ((g2 k).2 hk), by rw [hk]; exact B5c.lt⟩, ?_, fun k => Iff.rfl, ext_two E2' c5 (by omega)⟩
      have e : max (dmax pre : Int) (IntKind.i64.wrap ((d1 : Int) + 1)) = ((dmax (pre ++ [⟨k1, t1, m1, ps1, d1, x1⟩]) : Nat) : Int) := by
        rw [wrap_id (by omega), dmax_snoc]
        have hds : dstep (dmax pre) ⟨k1, t1, m1, ps1, d1, x1⟩ = max (dmax pre) (d1 + 1) := if_pos (by have q' : (0 : Int) < ((ps1.len : Nat) : Int) := q; show 0 < ps1.len; omega)
        rw [hds]
        omega
      rw [← e]; exact B5c
    · refine ⟨Chg.refl _ _, S1, fun k hk => ⟨.inl hk, by have := (hS1 k hk).1; omega⟩, ?_, g2, E2'⟩
      have e : dmax (pre ++ [⟨k1, t1, m1, ps1, d1, x1⟩]) = dmax pre := by
        rw [dmax_snoc]; exact if_neg (by have q' : ¬ (0 : Int) < ((ps1.len : Nat) : Int) := q; show ¬ 0 < ps1.len; omega)
      rw [e]; exact h1
  · rintro D S1 W hD1 hD2 hD3 hD4 ⟨g1, g2, g3⟩
    rw [hdm] at g1
    refine ⟨_, by rw [g1.cell]; rfl, retD_one (D := D) hD4 ?_⟩
    exact h _ (ext_put g3 (by omega) _)
/- how many of a kind, over the places -/
def cstep (k : Int) (l : List Pl) : Nat := (l.filter fun x => decide (x.k = k)).length
theorem cstep_snoc (k : Int) (l : List Pl) (x : Pl) : cstep k (l ++ [x]) = cstep k l + if x.k = k then 1 else 0 := by
  unfold cstep
  rw [List.filter_append, List.length_append]
  congr 1
  by_cases hk : x.k = k
  · simp [hk]
  · simp [hk]
theorem cstep_places (k : Int) : ∀ (f : Fo) (d : Nat) (b : Bool), f.depth + d ≤ 16 → cstep k (placesF f d b) = cntK k f
  | .nil, _, _, _ => rfl
  | .cons k' t n ps r, d, b, h => by
    rw [Fo.depth_parts] at h
    have i2 := cstep_places k r d (decide (k' = 1)) (by omega)
    simp only [placesF, cntK]
    rw [if_pos (by omega)]
    have e : cstep k (⟨k', t, n, ps, d, b⟩ :: (placesF ps (d + 1) false ++ placesF r d (decide (k' = 1)))) = (if k' = k then 1 else 0) + (cstep k (placesF ps (d + 1) false) + cstep k (placesF r d (decide (k' = 1)))) := by
      unfold cstep
      rw [List.filter_cons, List.filter_append]
      by_cases hk : k' = k
      · simp [hk]; omega
      · simp [hk]
    rw [e, i2]
    by_cases hp : ps.len = 0
    · have e' := Fo.eq_nil_of_len hp
      subst e'
      simp [placesF, cstep, cntK]
    · rw [if_neg hp] at h
      rw [cstep_places k ps (d + 1) false (by omega)]; omega
theorem cstep_le (k : Int) (l : List Pl) : cstep k l ≤ l.length := List.length_filter_le _ _
def cntR (f : Fo) (k : Int) : Int × Int := if checkT f ≠ 0 then (0, 1) else if k < 1 ∨ 11 < k then (0, 8) else (cntK k f, 0)
set_option maxRecDepth 20000 in
theorem Count_spec {R : Ending → World → Prop} {S : Nat → Prop} {w : World} {a : Option Addr} {n c : Nat} (f : Fo) (hs : small f) (hF : Forms w) (hf0 : SlF S w a n f) (kd : Int)
    (h : ∀ w', Ext w w' → R (.returned (.tuple ⟨[.int .i64 (cntR f kd).1, .int .i64 (cntR f kd).2]⟩)) w') :
    Calls Tryz.prog F_transcript_Count ⟨[.slice a n c, .int .i64 kd]⟩ w R := by
  apply c_transcript_Count
  refine al_intro fun b3 w0 hb3 B3 e0 s0 => ?_
  refine Check22_spec f hs (hf0.ext e0) (hF.ext e0) fun w1 e1 => ⟨_, rfl, br_split (fun g => ?_) (fun g => ?_)⟩
  · unfold cntR at h; rw [if_pos g] at h; exact h _ (ext_trans e0 e1)
  have E1 := ext_trans e0 e1
  have z1 := E1.size
  unfold cntR at h
  rw [if_neg g] at h
  obtain ⟨hsz, hdep, _, _⟩ := check_inv (Classical.not_not.1 g)
  have B3a := B3.ext e1
  have z01 := e1.size
  intro K8 hK8
  refine ⟨_, by rw [B3a.cell]; rfl, br_split (fun q1 => ?_) (fun q1 => ⟨_, by rw [B3a.cell]; rfl, br_split (fun q2 => ?_) (fun q2 => ?_)⟩)⟩
  · rw [if_pos (.inl q1)] at h; exact h _ E1
  · rw [if_pos (.inr q2)] at h; exact h _ E1
  rw [if_neg (by omega)] at h
  refine hK8 _ _ _ fun _ => ?_
  refine al_intro fun b5 w2 hb5 B5 e2 s2 => ?_
  refine stL_one B5 rfl fun w3 B5b c3 s3 => ?_
  have E3 : Ext w w3 := ext_two (ext_trans E1 e2) c3 (by omega)
  have B3b := c3.blk (B3a.ext e2) (by omega)
  refine places_spec fun bs w4 Bs e4 hbs => ⟨_, _, _, rfl, fun base => ?_⟩
  have E4 := ext_trans E3 e4
  have z4 := E4.size
  have z34 := e4.size
  have ls := Bs.lt
  have hf : SlF (fun k => S k ∧ k < w.heap.size) w a n f := hf0.imp fun k hk hl => ⟨hk, hl⟩
  have hpl := placesF_len f 0 false
  rw [cd_transcript_Count_1]
  refine RFw_lawO anA_transcript_Count_1 anB_transcript_Count_1 (gf := F_transcript_places_1) rfl (by kernel_rfl) (xs := placesF f 0 false) (E := PlE (fun k => (S k ∧ k < w.heap.size) ∨ k = bs) w4) (Rd := fun k => (S k ∧ k < w.heap.size) ∨ k = bs)
    (fun v1 he => (places_iterO f hs bs v1 (fun k hk => by have := he.size; omega) (Bs.ext he) ((hf.ext (ext_trans E4 he)).imp fun k hk _ => .inl hk) (.inr rfl)).mono ?_) (fun y vs hE => by obtain ⟨a', c', rfl, _⟩ := hE; rfl) (by decide) (fun k hk => by omega) (fun k => k = b5 ∨ k = b3) (fun k hk => by omega)
    (fun pre S1 W => Blk W b5 [.int .i64 (cstep kd pre : Int)] 3 ∧ Blk W b3 [.int .i64 kd] 3 ∧ (∀ k, S1 k ↔ k = b5 ∨ k = b3) ∧ Ext w W) (fun _ _ => False) (fun _ _ => False)
    ?_ (fun _ _ _ h => h.elim) (fun _ _ _ h => h.elim) ⟨B5b.ext e4, B3b.ext e4, fun k => Iff.rfl, E4⟩ ?_ ?_ (fun _ _ _ _ _ _ _ h => h.elim) (fun _ _ _ _ _ _ _ h => h.elim)
  · rintro x vs ⟨a', c', rfl, hsl⟩
    exact ⟨a', c', rfl, hsl.keep' fun k hk hl => ⟨hk, by omega, ((he.block k (by omega))).symm⟩⟩
  · rintro pre S1 W W' ⟨g1, g1', g2, g3⟩ hc
    exact ⟨hc.blk g1 (fun hh => hh.2 ((g2 _).2 (.inl rfl))), hc.blk g1' (fun hh => hh.2 ((g2 _).2 (.inr rfl))), g2, ext_chgS g3 hc (fun k hk => by omega)⟩
  · rintro pre ⟨k1, t1, m1, ps1, d1, x1⟩ vs S1 W l ⟨a', c', rfl, hsl⟩ hpre hl1 hl2 hl3 hS1 ⟨g1, g1', g2, g3⟩
    refine Eq.mpr (er_transcript_Count_1 base _ _ _ _ _ _ _ _ _ _ _ _ _ _ _ _ _ _ _ _) ?_
    refine al_stL (by simp) (by intro u hu; simp only [List.mem_cons, List.not_mem_nil, or_false] at hu; rcases hu with rfl | rfl | rfl | rfl | rfl | rfl <;> rfl) fun bx W1 hbx hBx ex sx => ?_
    refine ⟨ex, fun W2 hU => ?_⟩
    have zx := ex.size
    have zU := hU.size
    have hX2 := upd_blk hU hBx (by omega)
    obtain ⟨_, _, x0⟩ := blk6b hX2
    have hUc : Chg (fun k => k = l) W1 W2 := ⟨hU.os, hU.tape, hU.output, by omega, fun k _ hk => hU.block k hk⟩
    have hWc : Chg (fun k => k = l) W W2 := (Chg.of_ext ex).trans hUc
    have nl : ∀ k, S1 k → k ≠ l := fun k hk he => hl3 (he ▸ hk)
    have h1 := hWc.blk g1 (nl _ ((g2 b5).2 (.inl rfl)))
    have h1' := hWc.blk g1' (nl _ ((g2 b3).2 (.inr rfl)))
    have E2' : Ext w W2 := ext_chgS g3 hWc fun k hk => by omega
    have hpp : pre.length ≤ 4096 := by
      have := hpre.length_le
      rw [List.length_append] at this
      omega
    have hcp := cstep_le kd pre
    refine ⟨_, x0, dr_ok ⟨_, by rw [h1'.cell]; rfl, br_split (fun q => ?_) (fun q => ?_)⟩⟩
    · refine dr_ok ⟨_, by rw [h1.cell]; rfl, dr_ok ?_⟩
      refine stL_one h1 rfl fun w5 B5c c5 s5 => ?_
      refine ⟨c5.mono fun k _ hk => .inl ((g2 k).2 (.inl hk)), S1, fun k hk => ⟨.inl hk, by have := (hS1 k hk).1; omega⟩, ?_, c5.blk h1' (by omega), g2, ext_two E2' c5 (by omega)⟩
      rw [cstep_snoc, if_pos q]
      have e : IntKind.i64.wrap ((cstep kd pre : Int) + 1) = ((cstep kd pre + 1 : Nat) : Int) := by rw [wrap_id (by omega)]; omega
      rw [e] at B5c; exact B5c
    · refine ⟨Chg.refl _ _, S1, fun k hk => ⟨.inl hk, by have := (hS1 k hk).1; omega⟩, ?_, h1', g2, E2'⟩
      rw [cstep_snoc, if_neg q]; exact h1
  · rintro D S1 W hD1 hD2 hD3 hD4 ⟨g1, g1', g2, g3⟩
    rw [cstep_places kd f 0 false (by omega)] at g1
    refine ⟨_, by rw [g1.cell]; rfl, retD_one (D := D) hD4 ?_⟩
    exact h _ (ext_put g3 (by omega) _)
end Go.Proofs
namespace Go.Proofs
open Go Go.Sh Go.RowKit

set_option maxRecDepth 20000 in
theorem SameT_spec {S S' : Nat → Prop} : ∀ (f : Fo) {R : Ending → World → Prop} {w : World} {a b : Option Addr} {n c n' c' : Nat} {g : Fo} (hf : SlF S w a n f) (hg : SlF S' w b n' g) (hs : small f)
    (h : ∀ w', Ext w w' → R (.returned (.bool (decide (f = g)))) w'), Calls Tryz.prog F_transcript_Same ⟨[.slice a n c, .slice b n' c']⟩ w R := by
  intro f
  induction hz : f.size using Nat.strongRecOn generalizing f with
  | _ z ih =>
  intro R w a b n c n' c' g hf hg hs h
  apply c_transcript_Same
  have hr : ∀ v, Ext w v → ∀ x, x = decide (f = g) → ∃ x5 : Bool, Ending.returned (.bool x) = .returned (.bool x5) ∧ R (.returned (.bool x5)) v := fun v ev x hx => ⟨_, rfl, by rw [hx]; exact h v ev⟩
  apply c_slices_EqualFunc_of_api_Node_api_Node_api_Node_api_Node
  have hn := hf.1
  have hn' := hg.1
  refine br_split (fun h1 => ?_) (fun h1 => ?_)
  · exact hr w (Below.refl _ _) false (by rw [eq_comm, decide_eq_false_iff_not]; rintro rfl; omega)
  refine ⟨fun i W m => ∃ (p1 r1 p2 r2 : Fo), f = p1.app r1 ∧ g = p2.app r2 ∧ p1.len = p2.len ∧ i = p1.len ∧ m = r1.len ∧ Ext w W ∧ (f = g ↔ r1 = r2), ⟨_, .nil, f, .nil, g, rfl, rfl, rfl, rfl, rfl, Below.refl _ _, Iff.rfl⟩, ?_⟩
  rintro _ W m ⟨p1, r1, p2, r2, e1, e2, e3, rfl, rfl, he, hiff⟩ _
  refine br_split (fun hlt => ?_) (fun hge => ?_)
  · obtain ⟨k1, t1, m1, s1, r1, rfl⟩ := Fo.next e1 (by omega)
    obtain ⟨k2, t2, m2, s2, r2, rfl⟩ := Fo.next e2 (by omega)
    obtain ⟨q1, a1, c1, i1, _, l1, n1⟩ := (hf.ext he).get e1
    have hsub := Fo.sub_size e1
    have hsl := Fo.sub_len e1
    have hle := f.len_le_size
    simp only [Fo.cons.injEq] at hiff
    refine i1 _ ⟨_, n1.kind, _, n1.text, _, n1.num, _, _, _, n1.parts, ?_⟩
    refine al_stL rfl one4n fun b14 w16 hb14 B14 e16 s16 => ?_
    have E16 := ext_trans he e16
    obtain ⟨q2, a2, c2, i2, _, l2, n2⟩ := (hg.ext E16).get e2
    rw [← e3] at i2
    refine i2 _ ⟨_, n2.kind, _, n2.text, _, n2.num, _, _, _, n2.parts, ?_⟩
    refine al_stL rfl one4n fun b22 w24 hb22 B22 e24 s24 => ?_
    have E24 := ext_trans E16 e24
    obtain ⟨x0, x1, x2, x3⟩ := blk4 (B14.ext e24)
    obtain ⟨y0, y1, y2, y3⟩ := blk4 B22
    refine ⟨_, x0, _, x1, _, x2, _, _, _, x3, _, y0, _, y1, _, y2, _, _, _, y3, ⟨by kernel_rfl, ?_⟩⟩
    apply c_transcript_Same_1
    refine al_intro fun b9 w10 hb9 B9 e10 s10 => ?_
    refine al_intro fun b11 w12 hb11 B11 e12 s12 => ?_
    obtain ⟨u0, u1, u2, u3⟩ := blk4 (B9.ext e12)
    obtain ⟨v0, v1, v2, v3⟩ := blk4 B11
    have ec := ext_trans e10 e12
    have E12 := ext_trans E24 ec
    have no : f ≠ g → ∀ v, Ext w v → ∃ x35 : Bool, Ending.returned (.bool false) = .returned (.bool x35) ∧ br (!x35) (∃ x5 : Bool, Ending.returned (.bool false) = .returned (.bool x5) ∧ R (.returned (.bool x5)) v) (∃ m36 : Nat, m36 < (Fo.cons k1 t1 m1 s1 r1).len ∧ ∃ (p1' r1' p2' r2' : Fo), f = p1'.app r1' ∧ g = p2'.app r2' ∧ p1'.len = p2'.len ∧ IntKind.i64.wrap ((p1.len : Int) + 1) = p1'.len ∧ m36 = r1'.len ∧ Ext w v ∧ (f = g ↔ r1' = r2')) := fun hne v ev => by
      refine ⟨_, rfl, ?_⟩
      rw [Bool.not_false, br_t]
      exact hr v ev false (by rw [eq_comm, decide_eq_false_iff_not]; exact hne)
    refine ⟨_, u0, _, v0, br_split (fun d1 => ⟨_, u1, _, v1, br_split (fun d2 => ⟨_, u2, _, v2, br_split (fun d3 => ⟨_, _, _, u3, _, _, _, v3, ?_⟩) (fun d3 => ?_)⟩) (fun d2 => ?_)⟩) (fun d1 => ?_)⟩
    · refine ih _ (hz ▸ hsub) s1 rfl ((n1.sl.ext e16).ext (ext_trans e24 ec)) (n2.sl.ext (ext_trans e24 ec)) (by unfold small at hs ⊢; omega) fun w' he' => ⟨_, rfl, ?_⟩
      refine ⟨_, rfl, ?_⟩
      have hdd := ext_trans E12 he'
      refine br_cases (fun d4 => ?_) (fun d4 => ?_)
      · have d4 : s1 ≠ s2 := by simpa using d4
        exact hr w' hdd false (by rw [eq_comm, decide_eq_false_iff_not]; intro hh; exact d4 (hiff.1 hh).2.2.2.1)
      · have d5 : s1 = s2 := by simpa using d4
        refine ⟨r1.len, by simp, p1.app (.one k1 t1 m1 s1), r1, p2.app (.one k2 t2 m2 s2), r2, by rw [Fo.app_one_app]; exact e1, by rw [Fo.app_one_app]; exact e2, by simp [Fo.one]; exact e3, ?_, rfl, hdd, ?_⟩
        · rw [wrap_nat (by unfold small at hs; omega)]; simp [Fo.one]
        · rw [hiff]; simp [d1, d2, d3, d5]
    · exact no (fun hh => d3 (hiff.1 hh).2.2.1) _ E12
    · exact no (fun hh => d2 (hiff.1 hh).2.1) _ E12
    · exact no (fun hh => d1 (hiff.1 hh).1) _ E12
  · obtain ⟨rfl, rfl⟩ := Fo.last e1 (by omega)
    have := Fo.last e2 (by omega)
    exact hr W he true (by rw [eq_comm, decide_eq_true_iff]; exact hiff.2 this.1.symm)
/- the example of the chapter -/
def sampF : Fo := .cons 1 [100, 101] 0 .nil (.cons 8 [] 1 (.one 1 [117, 115] 0 .nil) (.one 2 [] 0 .nil))
def sampS : List UInt8 := [100, 101, 60, 97, 100, 100, 32, 49, 62, 117, 115, 60, 47, 97, 100, 100, 62, 60, 108, 98, 47, 62]
theorem samp_print : printF sampF = sampS := by decide +kernel
theorem samp_check : checkT sampF = 0 := by decide +kernel
theorem samp_parse : parseF sampS = (sampF, 0) := by rw [← samp_print]; exact parse_back samp_check
variable {R : Ending → World → Prop} {w : World}
theorem sample_spec (h : ∀ a c w', SlF (fun _ => True) w' a 3 sampF → Ext w w' → R (.returned (.slice a 3 c)) w') : Calls Tryz.prog F_law10_sample ⟨[]⟩ w R := by
  apply c_law10_sample
  refine al_intro fun b1 w2 hb1 B1 e2 s2 => ?_
  refine al_intro fun b3 w4 hb3 B3 e4 s4 => ?_
  refine h _ _ w4 ⟨rfl, _, .inr ⟨b3, 0, rfl, trivial, B3.lt, fun j v hj => by rw [Nat.zero_add, B3.cell]; exact hj⟩, ?_⟩ (ext_trans e2 e4)
  have at1 : At (fun _ => True) w4 (some ⟨b1, 0, none⟩) [.int .i64 1, .string ⟨⟨[117, 115]⟩⟩, .int .i64 0, .slice none 0 0] := .inr ⟨b1, 0, rfl, trivial, (B1.ext e4).lt, fun j v hj => by rw [Nat.zero_add, (B1.ext e4).cell]; exact hj⟩
  exact ⟨none, 0, [], _, rfl, .inl rfl, rfl, some ⟨b1, 0, none⟩, 1, _, _, rfl, at1, ⟨none, 0, [], [], rfl, .inl rfl, rfl, rfl⟩, none, 0, [], [], rfl, .inl rfl, rfl, rfl⟩
theorem zero_check : checkT (.one 0 [] 0 .nil) = 8 := by decide +kernel
set_option maxRecDepth 20000 in
theorem awakeT_spec (hF : Forms w) (hM : Mk w) (h : ∀ w', Ext w w' → R (.returned (.bool true)) w') : Calls Tryz.prog F_law10_awake ⟨[]⟩ w R := by
  apply c_law10_awake
  have hsm : small sampF := by unfold small; decide
  refine Parse_spec sampS hF hM fun a n c w2 hn hL e2 => ⟨_, _, _, _, rfl, ?_⟩
  rw [samp_parse] at hn hL ⊢
  refine sample_spec fun a1 c1 w6 h1 e6 => ⟨_, _, _, rfl, ?_⟩
  have E6 := ext_trans e2 e6
  refine PrintT_spec sampF hsm (hF.ext E6) h1 fun w9 e9 => ⟨_, _, rfl, ?_⟩
  rw [if_neg (fun hh => hh samp_check), if_neg (fun hh => hh samp_check), samp_print]
  have E9 := ext_trans E6 e9
  refine sample_spec fun a2 c2 w13 h2 e13 => ⟨_, _, _, rfl, ?_⟩
  have E13 := ext_trans E9 e13
  refine Characters_spec sampF hsm (hF.ext E13) h2 fun w16 e16 => ⟨_, _, rfl, ?_⟩
  rw [if_neg (fun hh => hh samp_check), if_neg (fun hh => hh samp_check)]
  have E16 := ext_trans E13 e16
  refine sample_spec fun a3 c3 w20 h3 e20 => ⟨_, _, _, rfl, ?_⟩
  have E20 := ext_trans E16 e20
  refine Depth_spec sampF hsm (hF.ext E20) h3 fun w23 e23 => ⟨_, _, rfl, ?_⟩
  rw [if_neg (fun hh => hh samp_check), if_neg (fun hh => hh samp_check)]
  have E23 := ext_trans E20 e23
  have hmax : max (max (max (0 : Int) 0) 0) 0 = 0 := by decide
  refine br_split (fun _ => ?_) (fun hh => absurd hmax hh)
  refine sample_spec fun a4 c4 w27 h4 e27 => ⟨_, _, _, rfl, ?_⟩
  have E27 := ext_trans E23 e27
  have hLx : ∀ v, Ext w2 v → SlF (fun _ => True) v a n sampF := fun v ev => hL.ext ev
  have E227 : Ext w2 w27 := ext_trans (ext_trans (ext_trans (ext_trans (ext_trans (ext_trans e6 e9) e13) e16) e20) e23) e27
  refine Same_spec sampF (hLx _ E227) h4 hsm fun w30 e30 => ⟨_, rfl, ?_⟩
  have E30 := ext_trans E27 e30
  rw [decide_eq_true rfl, br_t]
  refine br_split (fun _ => ?_) (fun hh => absurd rfl hh)
  refine br_split (fun _ => ?_) (fun hh => absurd (by decide +kernel) hh)
  refine br_split (fun _ => ?_) (fun hh => absurd (by decide +kernel) hh)
  refine sample_spec fun a5 c5 w33 h5 e33 => ⟨_, _, _, rfl, ?_⟩
  have E33 := ext_trans E30 e33
  refine SameT_spec sampF (hLx _ (ext_trans E227 (ext_trans e30 e33))) h5 hsm fun w36 e36 => ⟨_, rfl, ?_⟩
  have E36 := ext_trans E33 e36
  rw [decide_eq_true rfl, br_t]
  refine al_intro fun b38 w39 hb38 B38 e39 s39 => ?_
  have E39 := ext_trans E36 e39
  have hz : SlF (fun _ => True) w39 (some ⟨b38, 0, none⟩) 1 (.one 0 [] 0 .nil) := ⟨rfl, _, .inr ⟨b38, 0, rfl, trivial, B38.lt, fun j v hj => by rw [Nat.zero_add, B38.cell]; exact hj⟩, none, 0, [], [], rfl, .inl rfl, rfl, rfl⟩
  refine Check22_spec (.one 0 [] 0 .nil) (by unfold small; decide) hz (hF.ext E39) fun w41 e41 => ⟨_, rfl, ?_⟩
  rw [zero_check, decide_eq_true rfl]
  exact h w41 (ext_trans E39 e41)
end Go.Proofs
namespace Go.Proofs
open Go Go.Sh Go.RowKit

/- the five nodes of the law on wrapping -/
def wrapK : Nat → Hd
  | 0 => ⟨7, [], 0⟩
  | 1 => ⟨8, [], 8⟩
  | 2 => ⟨9, [], 1⟩
  | 3 => ⟨10, [113], 0⟩
  | _ => ⟨11, [82, 111, 109, 97], 0⟩
def wrapF (i : Nat) (l : Fo) : Fo := .one (wrapK i).k (wrapK i).t (wrapK i).n l
theorem wrap_cases {C : Hd → Prop} (i : Nat) (h : C ⟨7, [], 0⟩ ∧ C ⟨8, [], 8⟩ ∧ C ⟨9, [], 1⟩ ∧ C ⟨10, [113], 0⟩ ∧ C ⟨11, [82, 111, 109, 97], 0⟩) : C (wrapK i) := by
  obtain ⟨a, b, c, d, e⟩ := h
  match i with
  | 0 => exact a
  | 1 => exact b
  | 2 => exact c
  | 3 => exact d
  | _ + 4 => exact e
theorem wrap_single (i : Nat) {l : Fo} (h : 0 < l.len) : singleF (wrapK i).k (wrapK i).t (wrapK i).n l false false = 0 := by
  have hw : isWordF [113] = true := by decide +kernel
  have hn : isNameF [82, 111, 109, 97] = true := by decide +kernel
  have hl : ¬ l.len = 0 := by omega
  refine wrap_cases (C := fun h => singleF h.k h.t h.n l false false = 0) i ⟨?_, ?_, ?_, ?_, ?_⟩ <;> simp [singleF, textsF, numsF, partsF, hw, hn, hl]
theorem wrap_print (i : Nat) (l : Fo) : (printF (wrapF i l)).length ≤ (printF l).length + 40 := by
  have d8 : Lib.decDigits 8 = [56] := by decide +kernel
  have d1 : Lib.decDigits 1 = [49] := by decide +kernel
  refine wrap_cases (C := fun h => (printF (.one h.k h.t h.n l)).length ≤ (printF l).length + 40) i ⟨?_, ?_, ?_, ?_, ?_⟩ <;> simp [Fo.one, printF, nodeF, partsF, tagF, tagsL, valF, textsF, numsF, d8, d1] <;> omega
theorem wrap_ne (i : Nat) : (wrapK i).k ≠ 1 := wrap_cases (C := fun h => h.k ≠ 1) i ⟨by decide, by decide, by decide, by decide, by decide⟩
theorem wrap_check (i : Nat) {l : Fo} (hc : checkT l = 0) (hs : l.size ≤ 4000) (hp : (printF l).length ≤ 65000) : checkT (wrapF i l) = if l.len = 0 then 5 else if l.depth = 16 then 4 else if secF l = true then 12 else 0 := by
  obtain ⟨h1, h2, h3, h4⟩ := check_inv hc
  have hsz : (wrapF i l).size = l.size + 1 := by unfold wrapF Fo.one; simp [Fo.size]
  have hd : (wrapF i l).depth = if l.len = 0 then 0 else l.depth + 1 := by
    unfold wrapF Fo.one; rw [Fo.depth_parts]
    show max _ 0 = _
    omega
  by_cases h0 : l.len = 0
  · have := Fo.eq_nil_of_len h0
    subst this
    rw [if_pos (show Fo.nil.len = 0 from rfl)]
    refine wrap_cases (C := fun h => checkT (.one h.k h.t h.n .nil) = 5) i ⟨?_, ?_, ?_, ?_, ?_⟩ <;> decide +kernel
  · rw [if_neg h0] at hd ⊢
    by_cases h16 : l.depth = 16
    · rw [if_pos h16]
      unfold checkT
      rw [if_neg (by omega)]
    · rw [if_neg h16]
      have ha : allF (wrapF i l) false false = if secF l = true then 12 else 0 := by
        unfold wrapF Fo.one
        rw [allF, wrap_single i (by omega), all_with h3]
        cases hsec : secF l <;> simp [allF]
      have hl := wrap_print i l
      unfold checkT
      rw [if_pos (by omega), ha]
      by_cases hsec : secF l = true
      · rw [if_pos hsec, if_pos (by decide)]
      · rw [if_neg hsec, if_neg (by simp), if_neg (by omega)]
theorem wrap_char (i : Nat) (l : Fo) : charT (wrapF i l) = charT l := by
  unfold wrapF Fo.one
  rw [charT, if_neg (wrap_ne i), charT, List.nil_append, List.append_nil]
end Go.Proofs
namespace Go.Proofs
open Go Go.Sh Go.RowKit

variable {R : Ending → World → Prop} {w : World}
theorem cntK_le (k : Int) : ∀ f : Fo, cntK k f ≤ f.size
  | .nil => Nat.le_refl _
  | .cons k' t n ps r => by
    have h1 := cntK_le k ps
    have h2 := cntK_le k r
    simp only [cntK, Fo.size]
    split <;> omega
end Go.Proofs
namespace Go.Proofs.YtpnhhkjagkajoaaGreatDoor
open Go Go.Sh Go.RowKit Go.ChangeShapes Go.WideShapes Go.ChangeAt

theorem len4 {α : Type} {l : List α} (h : l.length = 4) : ∃ a b c d, l = [a, b, c, d] := by
  match l, h with
  | [a, b, c, d], _ => exact ⟨a, b, c, d, rfl⟩
theorem own : ownKnob Tryz.prog.godebug = none := by kernel_rfl
theorem laidOut : laidOutB Tryz.prog = true := by kernel_rfl
theorem form_row {W : World} {m : Nat} {cs : List Value} {x : DataW Unit × List MemPlace} {tag : List UInt8} {a b c : Bool} (h : DataW.trod (fun _ => ()) Tryz.prog W 0 (fun _ => true) false m 94 cs = some x)
    (hx : x.1 = .agg [.lit (.string tag), .lit (.bool a), .lit (.bool b), .lit (.bool c)]) : cs = [.string ⟨⟨tag⟩⟩, .bool a, .bool b, .bool c] := by
  have h96 : Tryz.prog.cellsOf 94 = 4 := by kernel_rfl
  have h9 : Tryz.prog.cellsOf 9 = 1 := by kernel_rfl
  have h4 : Tryz.prog.cellsOf 4 = 1 := by kernel_rfl
  obtain ⟨xs, n, rfl, rfl, hl, hxl, hf⟩ := DataW.trod_struct Tryz.underlying94 h
  rw [h96] at hl
  obtain ⟨v0, v1, v2, v3, rfl⟩ := len4 hl
  obtain ⟨y0, y1, y2, y3, rfl⟩ := len4 (show xs.length = 4 from hxl)
  simp only [List.map_cons, List.map_nil, DataW.agg.injEq, List.cons.injEq, and_true] at hx
  obtain ⟨z0, z1, z2, z3⟩ := hx
  have g0 := hf 0 _ rfl
  have g1 := hf 1 _ rfl
  have g2 := hf 2 _ rfl
  have g3 := hf 3 _ rfl
  obtain ⟨t, e0, f0, _⟩ := DataW.trod_string Tryz.underlying9 g0
  obtain ⟨b1, e1, f1⟩ := DataW.trod_bool Tryz.underlying4 g1
  obtain ⟨b2, e2, f2⟩ := DataW.trod_bool Tryz.underlying4 g2
  obtain ⟨b3, e3, f3⟩ := DataW.trod_bool Tryz.underlying4 g3
  simp [h9, h4] at e0 e1 e2 e3
  subst e0 e1 e2 e3
  try simp at f0 f1 f2 f3
  rw [f0] at z0
  rw [f1] at z1
  rw [f2] at z2
  rw [f3] at z3
  simp at z0 z1 z2 z3
  subst z0 z1 z2 z3
  rfl
set_option maxRecDepth 20000 in
theorem forms_of {W : World} (h : laidMetH Tryz.prog Rows.transcriptLexemesRow.laid W) : Forms W := by
  obtain ⟨ps, hv, _, _⟩ := (show laidMet Tryz.prog Rows.transcriptLexemesRow.laid W from h)
  obtain ⟨g1, t1, c1, f1, p1, q1, _, _, _, _, hv, _⟩ := hv
  obtain ⟨g2, t2, c2, f2, p2, q2, _, _, _, _, hv, _⟩ := hv
  obtain ⟨g3, t3, c3, f3, p3, q3, _, _, _, _, hv, _⟩ := hv
  obtain ⟨g5, t5, c5, f5, p5, q5, _, _, _, _, hv, _⟩ := hv
  obtain ⟨g6, t6, c6, f6, p6, q6, _, _, _, _, hv, _⟩ := hv
  obtain ⟨g4, t4, cs, f4, p4, q4, hg, ht, hvar, hd, hv, _⟩ := hv
  have hg0 : Tryz.prog.globalNamed "apograph/transcript.forms" = some 0 := by kernel_rfl
  have ht0 : (Tryz.prog.globals[0]?).map (·.type) = some 95 := by kernel_rfl
  obtain rfl := Option.some.inj (hg0.symm.trans hg)
  obtain rfl := Option.some.inj (ht0.symm.trans ht)
  have h96 : Tryz.prog.cellsOf 94 = 4 := by kernel_rfl
  have h97 : Tryz.prog.cellsOf 95 = 48 := by kernel_rfl
  obtain ⟨xs, m, rfl, hx, hl, hxl, hall⟩ := DataW.trod_array Tryz.underlying95 hd
  rw [h97] at hl
  rw [h96] at hall
  simp only [Prod.mk.injEq, Rows.laid_apograph_transcript_forms, DataW.agg.injEq] at hx
  obtain ⟨hm, _⟩ := hx
  have chunk : ∀ i, i < 12 → (cs.toList.drop (i * 4)).take 4 = (formsCells.drop (i * 4)).take 4 := by
    intro i hi
    have hh := hall i hi
    have hxi : (xs[i]?).map (·.1) = _ := (List.getElem?_map (f := (·.1)) (l := xs) (i := i)).symm.trans (by rw [← hm])
    rw [List.getElem?_eq_getElem (by omega)] at hh hxi
    simp only [Option.map_some] at hxi
    rcases (by omega : i = 0 ∨ i = 1 ∨ i = 2 ∨ i = 3 ∨ i = 4 ∨ i = 5 ∨ i = 6 ∨ i = 7 ∨ i = 8 ∨ i = 9 ∨ i = 10 ∨ i = 11) with rfl | rfl | rfl | rfl | rfl | rfl | rfl | rfl | rfl | rfl | rfl | rfl <;>
      exact form_row hh (Option.some.inj hxi)
  have hsz : 0 < W.heap.size := by
    simp only [World.var?, hg0, Option.bind_some] at hvar
    split at hvar
    · rename_i hh; exact (Array.getElem?_eq_some_iff.1 hh).1
    · cases hvar
  refine ⟨hsz, fun j v hj => ?_⟩
  have hj48 : j < 48 := by have := (List.getElem?_eq_some_iff.1 hj).1; exact this
  rw [World.var?_cell hg0 hvar j]
  have hc := chunk (j / 4) (by omega)
  have e : ∀ l : List Value, l[j]? = ((l.drop (j / 4 * 4)).take 4)[j - j / 4 * 4]? := fun l => by
    rw [List.getElem?_take, if_pos (by omega), List.getElem?_drop]
    congr 1; omega
  rw [← Array.getElem?_toList, e, hc, ← e]; exact hj

theorem trod_iface {P : Program} {W : World} {fuel : Nat} {t : TypeId} {cs : List Value} {ms : Array (String × TypeId)} {nm : String} {d : DataW Unit} {p : List MemPlace} (hu : P.underlying t = some (.interface ms)) (h : DataW.trod (fun _ => ()) P W 0 (fun _ => true) false fuel t cs = some (.iface nm d, p)) : ∃ u v, cs = [.iface u v] := by
  cases fuel with
  | zero => simp [DataW.trod] at h
  | succ n =>
    unfold DataW.trod at h
    rw [hu] at h
    split at h <;> simp_all
theorem err_of {W : World} {n : String} {nm : String} {d : DataW Unit} {g : Nat} {ti : TypeId} {ms : Array (String × TypeId)} (h : Go.Lib.VarReads Tryz.prog W n (.iface nm d)) (hg : Tryz.prog.globalNamed n = some g) (ht : (Tryz.prog.globals[g]?).map (·.type) = some ti) (hi : Tryz.prog.underlying ti = some (.interface ms)) :
    ∃ t p, W.cell? ⟨g, 0, none⟩ = some (.iface t p) := by
  obtain ⟨g', t', cs, fuel, p, hg', ht', hv, hd⟩ := h
  obtain rfl := Option.some.inj (hg.symm.trans hg')
  obtain rfl := Option.some.inj (ht.symm.trans ht')
  obtain ⟨u, v, hc⟩ := trod_iface hi hd
  refine ⟨u, v, ?_⟩
  rw [World.var?_cell hg hv 0]
  have := congrArg (fun l => l[0]?) hc
  simpa using this
theorem mk_of {W : World} (h : laidMetH Tryz.prog Rows.transcriptLexemesRow.laid W) (hSh : W.ShapedOpen Tryz.prog) : Mk W := by
  have h := (show laidMet Tryz.prog Rows.transcriptLexemesRow.laid W from h)
  have e1 := Go.Lib.laidMet.reads h (n := "strconv.ErrSyntax") (d := Rows.laid_strconv_ErrSyntax) (.tail _ (.tail _ (.tail _ (.tail _ (.head _)))))
  have e2 := Go.Lib.laidMet.reads h (n := "strconv.ErrRange") (d := Rows.laid_strconv_ErrRange) (.tail _ (.tail _ (.tail _ (.head _))))
  exact ⟨Tryz.laysM145.s1_3 W hSh, err_of e1 (by kernel_rfl) (by kernel_rfl) Tryz.underlying72, err_of e2 (by kernel_rfl) (by kernel_rfl) Tryz.underlying72⟩

/- slices of lexemes, out of what a row says of the arguments -/
theorem u8_wf {n : Int} (h : (Lit.int .u8 n).wf = true) : 0 ≤ n ∧ n < 256 := by
  simp [Lit.wf, IntKind.min, IntKind.max, IntKind.signed, IntKind.bits] at h
  omega
noncomputable def flatV : Nat → DataW Unit → List Value
  | n + 1, .agg l => l.flatMap (flatV n)
  | _, .lit (.int k n) => [.int k n]
  | _, .lit (.bool b) => [.bool b]
  | _, .lit (.string s) => [.string ⟨s.toArray⟩]
  | _, _ => []
noncomputable def putG (h : Array Obj) (g : Nat) (cs : List Value) : Array Obj := h.modify g fun
  | .cells _ t frozen => .cells ⟨cs⟩ t frozen
  | o => o
noncomputable def layOne (h : Array Obj) (g : Nat) (d : DataW Unit) : Array Obj := match d with
  | .iface _ (.ptr (.agg [.lit (.string t)])) => putG (h.push (.cells ⟨[.string ⟨t.toArray⟩]⟩ 165 (0, 0))) g [.iface 163 (.pointer (some ⟨h.size, 0, none⟩))]
  | d => putG h g (flatV 5 d)
noncomputable def layAll (laid : List (String × DataW Unit)) (h : Array Obj) : Array Obj :=
  laid.foldl (fun h x => match Tryz.prog.globalNamed x.1 with
    | some g => layOne h g x.2
    | none => h) h
noncomputable def laidWorldOf (laid : List (String × DataW Unit)) (os : Os) : World :=
  { World.holding Tryz.prog os ⟨#[], #[], []⟩ with heap := layAll laid (World.holding Tryz.prog os ⟨#[], #[], []⟩).heap }
end Go.Proofs.YtpnhhkjagkajoaaGreatDoor
namespace Go.Proofs
open Go Go.Sh Go.RowKit

theorem len4 {α : Type} {l : List α} (h : l.length = 4) : ∃ a b c d, l = [a, b, c, d] := by
  match l, h with
  | [a, b, c, d], _ => exact ⟨a, b, c, d, rfl⟩

set_option maxRecDepth 20000 in
theorem open_nodes {H : Type} {enc : TypeId × Value → H} {w : World} {base : Nat} {sp : Nat → Bool} {hd : Bool} : ∀ (fuel : Nat) (cs : List Value) (x : DataW H × List MemPlace), DataW.trod enc Tryz.prog w base sp hd fuel 24 cs = some x →
    ∃ (a : Option Addr) (n c : Nat) (f : Fo), cs = [.slice a n c] ∧ SlF (fun _ => True) w a n f := by
  intro fuel
  induction fuel using Nat.strongRecOn with
  | _ fuel ih =>
  intro cs x h
  rcases DataW.trod_slice Tryz.underlying24 h with ⟨rfl, _⟩ | ⟨a, len, cap, elems, rest, n, rfl, rfl, _, hb, hl, hm, hel, hall, _⟩
  · exact ⟨none, 0, 0, .nil, rfl, SlF.nil none⟩
  have h4 : Tryz.prog.cellsOf 35 = 4 := by kernel_rfl
  have h3 : Tryz.prog.cellsOf 3 = 1 := by kernel_rfl
  have h9 : Tryz.prog.cellsOf 9 = 1 := by kernel_rfl
  have h22 : Tryz.prog.cellsOf 24 = 1 := by kernel_rfl
  have node : ∀ i, i < len → ∃ (k : Int) (t : List UInt8) (m : Int) (a1 : Option Addr) (c1 : Nat) (ps : Fo), (∀ j v, ([.int .i64 k, .string ⟨⟨t⟩⟩, .int .i64 m, .slice a1 ps.len c1] : List Value)[j]? = some v → w.cell? ((a.add (i * 4)).add j) = some v) ∧ SlF (fun _ => True) w a1 ps.len ps := by
    intro i hi
    have hh := hall i hi
    rw [List.getElem?_eq_getElem (by omega)] at hh
    obtain ⟨cs', hc1, hc2⟩ := Option.bind_eq_some_iff.1 hh
    rw [h4] at hc1
    obtain ⟨_, hlen, hcell⟩ := World.cells?_some hc1
    obtain ⟨xs, n', rfl, _, hcl, hxl, hf⟩ := DataW.trod_struct Tryz.underlying35 hc2
    obtain ⟨v0, v1, v2, v3, rfl⟩ := len4 hlen
    obtain ⟨y0, y1, y2, y3, rfl⟩ := len4 (show xs.length = 4 from hxl)
    have g0 := hf 0 _ rfl
    have g1 := hf 1 _ rfl
    have g2 := hf 2 _ rfl
    have g3 := hf 3 _ rfl
    try dsimp only at g0
    try simp only [h3] at g0
    try dsimp only at g1
    try simp only [h9] at g1
    try dsimp only at g2
    try simp only [h3] at g2
    try dsimp only at g3
    try simp only [h22] at g3
    obtain ⟨k, e0, _, _⟩ := DataW.trod_int (k := .i64) Tryz.underlying3 g0
    obtain ⟨t, e1, _, _⟩ := DataW.trod_string Tryz.underlying9 g1
    obtain ⟨m, e2, _, _⟩ := DataW.trod_int (k := .i64) Tryz.underlying3 g2
    obtain ⟨a1, n1, c1, ps, e3, hs⟩ := ih n' (by omega) _ _ g3
    simp [h3, h9, h22] at e0 e1 e2 e3
    subst e0 e1 e2 e3
    have hn1 := hs.1
    subst hn1
    refine ⟨k, t.data.toList, m, a1, c1, ps, fun j v hj => ?_, hs⟩
    have hj4 : j < 4 := by have := (List.getElem?_eq_some_iff.1 hj).1; simpa using this
    rw [hcell j hj4]
    exact hj
  by_cases hl0 : len = 0
  · subst hl0
    exact ⟨some a, 0, cap, .nil, rfl, SlF.nil _⟩
  obtain ⟨b, o, rfl⟩ : ∃ b o, a = ⟨b, o, none⟩ := by
    obtain ⟨kd, t, m, a1, c1, ps, hcells, _⟩ := node 0 (by omega)
    have h0 := hcells 0 _ rfl
    obtain ⟨b, o, spot⟩ := a
    have hspot : spot = none := by simpa [Addr.add] using World.cell?_spot h0
    subst hspot
    exact ⟨b, o, rfl⟩
  have build : ∀ k, k ≤ len → ∃ (f : Fo) (us : List Value), f.len = k ∧ (∀ j v, us[j]? = some v → w.cell? ((⟨b, o, none⟩ : Addr).add j) = some v) ∧ FoC (fun _ => True) w f us := by
    intro k
    induction k with
    | zero => exact fun _ => ⟨.nil, [], rfl, fun j v hj => by simp at hj, rfl⟩
    | succ k ihk =>
      intro hk
      obtain ⟨f, us, hfl, hus, hF⟩ := ihk (by omega)
      obtain ⟨kd, t, m, a1, c1, ps, hcells, hm, vs, hat, hfo⟩ := node k (by omega)
      have hul := hF.len
      refine ⟨f.app (.one kd t m ps), us ++ [.int .i64 kd, .string ⟨⟨t⟩⟩, .int .i64 m, .slice a1 ps.len c1], by simp [Fo.one, hfl], fun j v hj => ?_, hF.app ⟨a1, c1, vs, [], rfl, hat, hfo, rfl⟩⟩
      by_cases hlt : j < us.length
      · rw [List.getElem?_append_left hlt] at hj
        exact hus j v hj
      · rw [List.getElem?_append_right (by omega)] at hj
        have := hcells _ _ hj
        have hadd : ((⟨b, o, none⟩ : Addr).add (k * 4)).add (j - us.length) = (⟨b, o, none⟩ : Addr).add j := by
          rw [add_none, add_none, add_none]
          have e : o + k * 4 + (j - us.length) = o + j := by omega
          rw [e]
        rw [hadd] at this; exact this
  obtain ⟨f, us, hfl, hus, hF⟩ := build len (Nat.le_refl _)
  refine ⟨some ⟨b, o, none⟩, len, cap, f, rfl, hfl.symm, us, ?_, hF⟩
  cases us with
  | nil => exact .inl rfl
  | cons u us =>
    have h0 := hus 0 u rfl
    refine .inr ⟨b, o, rfl, trivial, ?_, fun j v hj => ?_⟩
    · have := World.block_lt_of_cell? w _ h0
      simpa [Addr.add] using this
    · have := hus j v hj
      rw [add_none] at this; exact this
end Go.Proofs
namespace Go.Proofs
open Go Go.Sh Go.RowKit

variable {R : Ending → World → Prop} {w : World}
/- strings and depths that the statements do not examine -/
def badT (t : List UInt8) : Bool := (decide (60 < t.length) && decide (t.length ≤ 65536)) || decide (65540 < t.length)
def longF : Fo → Nat → Bool
  | .nil, _ => false
  | .cons _ t _ ps r, d => decide (d = 0) || badT t || longF ps (d - 1) || longF r d
def anyP : Fo → Bool
  | .nil => false
  | .cons _ _ _ ps r => decide (0 < ps.len) || anyP r
def great10 (f : Fo) : Bool := if f.len ≤ 4096 ∨ 4100 < f.len then (!decide (f.size ≤ 40 ∧ f.depth ≤ 20) || longF f 20) else (anyP f || longF f 20)
def fineB (f : Fo) : Bool := !great10 f && decide (checkT f = 0)
theorem anyP_size : ∀ f : Fo, anyP f = false → f.size = f.len
  | .nil, _ => rfl
  | .cons k t n ps r, h => by
    rw [anyP, Bool.or_eq_false_iff, decide_eq_false_iff_not] at h
    have := anyP_size r h.2
    have hp : ps = .nil := Fo.eq_nil_of_len (by omega)
    subst hp
    simp [Fo.size, this]
theorem fine_facts {f : Fo} (h : fineB f = true) : checkT f = 0 ∧ f.size ≤ 40 ∧ longF f 20 = false := by
  unfold fineB at h
  rw [Bool.and_eq_true, decide_eq_true_eq] at h
  obtain ⟨h1, h2⟩ := h
  have h1 : great10 f = false := by simpa using h1
  have hs := (check_inv h2).1
  have hl := f.len_le_size
  unfold great10 at h1
  rw [if_pos (.inl (by omega)), Bool.or_eq_false_iff] at h1
  refine ⟨h2, ?_, h1.2⟩
  have := h1.1
  simp at this
  exact this.1
theorem long_spec {S : Nat → Prop} : ∀ (f : Fo) {R : Ending → World → Prop} {w : World} {a : Option Addr} {n c : Nat} (d : Nat) (hd : d ≤ 1000) (hs : f.size ≤ 1000000000) (hf : SlF S w a n f)
    (h : ∀ w', Ext w w' → R (.returned (.bool (longF f d))) w'), Calls Tryz.prog F_ref10_long ⟨[.slice a n c, .int .i64 (d : Int)]⟩ w R := by
  intro f
  induction hz : f.size using Nat.strongRecOn generalizing f with
  | _ z ih =>
  intro R w a n c d hd hs hf h
  apply c_ref10_long
  have hn := hf.1
  have hfl := f.len_le_size
  refine ⟨fun i W m => ∃ p r : Fo, f = p.app r ∧ i = p.len ∧ m = r.len ∧ longF f d = longF r d ∧ Ext w W, ⟨_, .nil, f, rfl, rfl, rfl, rfl, Below.refl _ _⟩, ?_⟩
  rintro _ W m ⟨p, r, hpr, rfl, rfl, heq, he⟩ _
  refine br_split (fun hlt => ?_) (fun hge => ?_)
  · obtain ⟨k, t, mm, ps, r, rfl⟩ := Fo.next hpr (by omega)
    have hsl := Fo.sub_len hpr
    have hsz := Fo.sub_size hpr
    obtain ⟨q, a', c', hq, _, _, hN⟩ := (hf.ext he).get hpr
    rw [longF] at heq
    have bad : (d = 0 ∨ badT t = true ∨ longF ps (d - 1) = true) → ∀ v, Ext w v → R (.returned (.bool true)) v := by
      intro hh v ev
      have : longF f d = true := by
        rw [heq]
        rcases hh with hh | hh | hh
        · simp [hh]
        · simp [hh]
        · simp [hh]
      rw [← this]; exact h v ev
    refine hq _ ⟨_, hN.text, br_split (fun g0 => bad (.inl (by omega)) W he) (fun g0 => ?_)⟩
    have cont : badT t = false → ∀ v, Ext w v → longF ps (d - 1) = false → ∃ m15 : Nat, m15 < (Fo.cons k t mm ps r).len ∧ ∃ p' r' : Fo, f = p'.app r' ∧ IntKind.i64.wrap ((p.len : Int) + 1) = p'.len ∧ m15 = r'.len ∧ longF f d = longF r' d ∧ Ext w v := by
      intro hb v ev hl
      refine ⟨r.len, by simp, p.app (.one k t mm ps), r, by rw [Fo.app_one_app]; exact hpr, ?_, rfl, ?_, ev⟩
      · rw [wrap_nat (by omega)]; simp [Fo.one]
      · rw [heq, hb, hl, decide_eq_false (by omega)]; simp
    have wd : IntKind.i64.wrap ((d : Int) - 1) = ((d - 1 : Nat) : Int) := by rw [wrap_id (by omega)]; omega
    have recu : badT t = false → Calls Tryz.prog 52 ⟨[.slice a' ps.len c', .int .i64 (IntKind.i64.wrap ((d : Int) - 1))]⟩ W fun (e12 : Ending) (w13 : World) => ∃ (x14 : Bool), e12 = .returned (.bool x14) ∧ (br x14 (R (.returned (.bool true)) w13) (∃ m15 : Nat, m15 < (Fo.cons k t mm ps r).len ∧ ∃ p' r' : Fo, f = p'.app r' ∧ IntKind.i64.wrap ((p.len : Int) + 1) = p'.len ∧ m15 = r'.len ∧ longF f d = longF r' d ∧ Ext w w13)) := by
      intro hb
      rw [wd]
      refine ih _ (hz ▸ hsz) ps rfl (d - 1) (by omega) (by omega) hN.sl fun w13 e13 => ⟨_, rfl, br_cases (fun g => bad (.inr (.inr g)) _ (ext_trans he e13)) (fun g => cont hb _ (ext_trans he e13) g)⟩
    have hbt : badT t = ((decide (60 < t.length) && decide (t.length ≤ 65536)) || decide (65540 < t.length)) := rfl
    refine br_split (fun g1 => br_split (fun g2 => ?_) (fun g2 => br_split (fun g3 => ?_) (fun g3 => ?_))) (fun g1 => br_split (fun g3 => ?_) (fun g3 => ?_))
    · exact bad (.inr (.inl (by rw [hbt]; simp; omega))) W he
    · exact bad (.inr (.inl (by rw [hbt]; simp; omega))) W he
    · exact hq _ ⟨_, _, _, hN.parts, recu (by rw [hbt]; simp; omega)⟩
    · exact bad (.inr (.inl (by rw [hbt]; simp; omega))) W he
    · exact hq _ ⟨_, _, _, hN.parts, recu (by rw [hbt]; simp; omega)⟩
  · obtain ⟨rfl, rfl⟩ := Fo.last hpr (by omega)
    have hl : longF p d = false := by rw [heq]; rfl
    rw [hl] at h
    exact h W he
theorem Great10_spec {S : Nat → Prop} {a : Option Addr} {n c : Nat} (f : Fo) (hf : SlF S w a n f) (h : ∀ w', Ext w w' → R (.returned (.bool (great10 f))) w') : Calls Tryz.prog F_ref10_Great ⟨[.slice a n c]⟩ w R := by
  apply c_ref10_Great
  have hn := hf.1
  intro K2 hK2
  have k2 : K2 (decide (f.len ≤ 4096 ∨ 4100 < f.len)) w := by
    refine hK2 _ _ fun _ => br_split (fun g => ?_) (fun g => ?_)
    · unfold great10 at h
      rw [if_pos g] at h
      refine size10_spec f 20 40 (by omega) (by omega) hf fun w6 e6 => ?_
      by_cases hs : f.size ≤ 40 ∧ f.depth ≤ 20
      · rw [szF, if_pos hs]
        rw [decide_eq_true hs] at h
        refine ⟨_, _, _, rfl, ?_⟩
        simp only [Bool.not_true, br_f]
        refine long_spec f 20 (by omega) (by omega) (hf.ext e6) fun w11 e11 => ⟨_, rfl, ?_⟩
        exact h w11 (ext_trans e6 e11)
      · rw [szF, if_neg hs]
        rw [decide_eq_false hs] at h
        refine ⟨_, _, _, rfl, ?_⟩
        simp only [Bool.not_false, br_t]
        exact h w6 e6
    · unfold great10 at h
      rw [if_neg g] at h
      refine ⟨fun i W m => ∃ p r : Fo, f = p.app r ∧ i = p.len ∧ m = r.len ∧ anyP f = anyP r ∧ Ext w W, ⟨_, .nil, f, rfl, rfl, rfl, rfl, Below.refl _ _⟩, ?_⟩
      rintro _ W m ⟨p, r, hpr, rfl, rfl, heq, he⟩ _
      refine br_split (fun hlt => ?_) (fun hge => ?_)
      · obtain ⟨k, t, mm, ps, r, rfl⟩ := Fo.next hpr (by omega)
        have hsl := Fo.sub_len hpr
        obtain ⟨q, a', c', hq, _, _, hN⟩ := (hf.ext he).get hpr
        rw [anyP] at heq
        refine hq _ ⟨_, _, _, hN.parts, br_split (fun g1 => ?_) (fun g1 => ?_)⟩
        · have : anyP f = true := by rw [heq, decide_eq_true (by omega)]; rfl
          rw [this] at h
          exact h W he
        · refine ⟨r.len, by simp, p.app (.one k t mm ps), r, by rw [Fo.app_one_app]; exact hpr, ?_, rfl, ?_, he⟩
          · rw [wrap_nat (by omega)]; simp [Fo.one]
          · rw [heq, decide_eq_false (by omega)]; rfl
      · obtain ⟨rfl, rfl⟩ := Fo.last hpr (by omega)
        have ha : anyP p = false := by rw [heq]; rfl
        have hs := anyP_size p ha
        rw [ha] at h
        refine long_spec p 20 (by omega) (by omega) (hf.ext he) fun w22 e22 => ⟨_, rfl, ?_⟩
        exact h w22 (ext_trans he e22)
  refine br_split (fun g => ?_) (fun g => ?_)
  · rw [decide_eq_true (.inl (by omega))] at k2; exact k2
  · have e : decide ((4100 : Int) < (n : Int)) = decide (f.len ≤ 4096 ∨ 4100 < f.len) := decide_eq_decide.2 ⟨fun hh => .inr (by omega), fun hh => by omega⟩
    rw [e]; exact k2
theorem fine_spec {S : Nat → Prop} {a : Option Addr} {n c : Nat} (f : Fo) (hf : SlF S w a n f) (h : ∀ w', Ext w w' → R (.returned (.bool (fineB f))) w') : Calls Tryz.prog F_law10_fine ⟨[.slice a n c]⟩ w R := by
  apply c_law10_fine
  unfold fineB at h
  refine Great10_spec f hf fun w3 e3 => ⟨_, rfl, br_cases (fun g => ?_) (fun g => ?_)⟩
  · refine Check10_spec f (hf.ext e3) fun w6 e6 => ⟨_, rfl, ?_⟩
    have := h w6 (ext_trans e3 e6)
    rwa [g, Bool.true_and] at this
  · have := h w3 e3
    rwa [g, Bool.false_and] at this
end Go.Proofs
namespace Go.Proofs
open Go Go.Sh Go.RowKit

/- merging, whatever the nodes: nowhere an empty text, nor two side by side -/
def mrgd : Bool → Fo → Prop
  | _, .nil => True
  | b, .cons k t _ ps r => ¬ (k = 1 ∧ (t = [] ∨ b = true)) ∧ mrgd false ps ∧ mrgd (decide (k = 1)) r
theorem mrgd_weak {b : Bool} {r : Fo} (h : mrgd false r) (hh : ∀ k t n ps r', r = .cons k t n ps r' → ¬ (k = 1 ∧ b = true)) : mrgd b r := by
  cases r with
  | nil => trivial
  | cons k t n ps r' =>
    obtain ⟨h1, h2, h3⟩ := h
    refine ⟨fun hc => ?_, h2, h3⟩
    rcases hc.2 with ht | hb
    · exact h1 ⟨hc.1, .inl ht⟩
    · exact hh _ _ _ _ _ rfl ⟨hc.1, hb⟩
theorem consM_mrgd {k t n ps r} (hp : mrgd false ps) (hr : mrgd false r) : mrgd false (consM k t n ps r) := by
  unfold consM
  split
  · rename_i hk
    split
    · exact hr
    · rename_i ht
      cases r with
      | nil => exact ⟨fun hc => (by rcases hc.2 with h | h; exact ht h; cases h), hp, trivial⟩
      | cons k' t' n' ps' r' =>
        simp only
        obtain ⟨r1, r2, r3⟩ := hr
        split
        · rename_i hk'
          refine ⟨fun hc => ?_, hp, ?_⟩
          · rcases hc.2 with h | h
            · exact ht (List.append_eq_nil_iff.1 h).1
            · cases h
          · rw [hk'] at r3; rw [hk]; exact r3
        · rename_i hk'
          refine ⟨fun hc => (by rcases hc.2 with h | h; exact ht h; cases h), hp, mrgd_weak ⟨r1, r2, r3⟩ fun _ _ _ _ _ e => ?_⟩
          cases e
          exact fun hc => hk' hc.1
  · rename_i hk
    exact ⟨fun hc => hk hc.1, hp, mrgd_weak hr fun _ _ _ _ _ _ hc => by rw [decide_eq_false hk] at hc; cases hc.2⟩
theorem merge_mrgd : ∀ f : Fo, mrgd false (mergeR f)
  | .nil => trivial
  | .cons k t n ps r => consM_mrgd (merge_mrgd ps) (merge_mrgd r)
theorem mrgd_same : ∀ {b : Bool} {f : Fo}, mrgd b f → mergeR f = f
  | _, .nil, _ => rfl
  | b, .cons k t n ps r, ⟨m1, m2, m3⟩ => by
    simp only [mergeR, mrgd_same m2, mrgd_same m3]
    unfold consM
    split
    · rename_i hk
      subst hk
      rw [if_neg (fun e => m1 ⟨rfl, .inl e⟩)]
      cases r with
      | nil => rfl
      | cons k' t' n' ps' r' =>
        simp only
        rw [if_neg]
        intro e
        exact m3.1 ⟨e, .inr (by simp)⟩
    · rfl
theorem merge_merge (f : Fo) : mergeF (mergeF f) = mergeF f := by rw [mergeF_eq, mergeF_eq]; exact mrgd_same (merge_mrgd f)
theorem valid_mrgd : ∀ {f : Fo} {b w : Bool}, allF f b w = 0 → mrgd b f
  | .nil, _, _, _ => trivial
  | .cons k t n ps r, b, w, h => by
    obtain ⟨h1, h2, h3⟩ := all_cons h
    refine ⟨fun hc => ?_, valid_mrgd h2, valid_mrgd h3⟩
    obtain ⟨hk, hc⟩ := hc
    subst hk
    obtain ⟨a1, _, a3, _, _⟩ := single_txt h1
    rcases hc with hc | hc
    · exact a1 hc
    · rw [a3] at hc; cases hc
theorem merge_valid {f : Fo} (h : checkT f = 0) : mergeF f = f := by rw [mergeF_eq]; exact mrgd_same (valid_mrgd (check_inv h).2.2.1)
/- texts with parts -/
def nestT : Fo → Bool
  | .nil => false
  | .cons k _ _ ps r => (decide (k = 1 ∧ 0 < ps.len) || nestT ps) || nestT r
theorem nest_cons {k t n ps r} (h : nestT (.cons k t n ps r) = false) : (k = 1 → ps = .nil) ∧ nestT ps = false ∧ nestT r = false := by
  rw [nestT, Bool.or_eq_false_iff, Bool.or_eq_false_iff, decide_eq_false_iff_not] at h
  refine ⟨fun hk => Fo.eq_nil_of_len ?_, h.1.2, h.2⟩
  apply Classical.byContradiction
  intro hh
  exact h.1.1 ⟨hk, by omega⟩
theorem consM_nest {k t n ps r} (h : k = 1 → ps = .nil) (hp : nestT ps = false) (hr : nestT r = false) : nestT (consM k t n ps r) = false ∧ charT (consM k t n ps r) = (if k = 1 then t else []) ++ charT ps ++ charT r := by
  have mk : ∀ {t r}, nestT r = false → nestT (.cons k t n ps r) = false := fun {t r} hr => by
    rw [nestT, hp, hr, Bool.or_false, Bool.or_false, decide_eq_false_iff_not]
    rintro ⟨hk, hl⟩
    rw [h hk] at hl
    simp at hl
  unfold consM
  split
  · rename_i hk
    have hps := h hk
    split
    · rename_i ht
      exact ⟨hr, by simp [ht, hps, charT]⟩
    · cases r with
      | nil => exact ⟨mk hr, by simp [charT, hk]⟩
      | cons k' t' n' ps' r' =>
        simp only
        obtain ⟨n1, n2, n3⟩ := nest_cons hr
        split
        · rename_i hk'
          exact ⟨mk n3, by simp [charT, hk, hk', hps, n1 hk']⟩
        · exact ⟨mk hr, by simp [charT, hk]⟩
  · rename_i hk
    exact ⟨mk hr, by simp [charT, hk]⟩
theorem merge_nest : ∀ {f : Fo}, nestT f = false → nestT (mergeR f) = false ∧ charT (mergeR f) = charT f ∧ (f = .nil → mergeR f = .nil)
  | .nil, _ => ⟨rfl, rfl, fun _ => rfl⟩
  | .cons k t n ps r, h => by
    obtain ⟨h1, h2, h3⟩ := nest_cons h
    obtain ⟨a1, a2, a3⟩ := merge_nest h2
    obtain ⟨b1, b2, _⟩ := merge_nest h3
    obtain ⟨c1, c2⟩ := consM_nest (k := k) (t := t) (n := n) (fun hk => a3 (h1 hk)) a1 b1
    refine ⟨c1, ?_, fun e => by cases e⟩
    show charT (consM k t n (mergeR ps) (mergeR r)) = _
    rw [c2, a2, b2, charT]
theorem merge_char {f : Fo} (h : nestT f = false) : charT (mergeF f) = charT f := by rw [mergeF_eq]; exact (merge_nest h).2.1
end Go.Proofs
namespace Go.Proofs
open Go Go.Sh Go.RowKit

variable {R : Ending → World → Prop} {w : World}
theorem long_tlen : ∀ (f : Fo) (d : Nat), longF f d = false → tlen f ≤ 65540 * f.size
  | .nil, _, _ => by simp [tlen]
  | .cons k t n ps r, d, h => by
    rw [longF, Bool.or_eq_false_iff, Bool.or_eq_false_iff, Bool.or_eq_false_iff] at h
    obtain ⟨⟨⟨_, h2⟩, h3⟩, h4⟩ := h
    have i1 := long_tlen ps _ h3
    have i2 := long_tlen r _ h4
    have ht : t.length ≤ 65540 := by
      unfold badT at h2
      rw [Bool.or_eq_false_iff, decide_eq_false_iff_not] at h2
      omega
    simp only [tlen, Fo.size, Nat.mul_add, Nat.mul_one]; omega
theorem great10_facts {f : Fo} (h : great10 f = false) : f.size ≤ 4100 ∧ tlen f ≤ 300000000 := by
  unfold great10 at h
  split at h
  · rw [Bool.or_eq_false_iff] at h
    have h1 : f.size ≤ 40 ∧ f.depth ≤ 20 := by simpa using h.1
    have := long_tlen f 20 h.2
    omega
  · rename_i hl
    rw [Bool.or_eq_false_iff] at h
    have h1 := anyP_size f h.1
    have := long_tlen f 20 h.2
    omega
theorem size_consM (k t n ps r) : (consM k t n ps r).size ≤ ps.size + r.size + 1 := by
  unfold consM
  split
  · split
    · omega
    · cases r with
      | nil => simp [Fo.size]
      | cons k' t' n' ps' r' =>
        simp only
        split
        · simp only [Fo.size]; omega
        · simp only [Fo.size]; omega
  · simp only [Fo.size]; omega
theorem size_merge : ∀ f : Fo, (mergeR f).size ≤ f.size
  | .nil => Nat.le_refl _
  | .cons k t n ps r => by
    have h1 := size_merge ps
    have h2 := size_merge r
    have h3 := size_consM k t n (mergeR ps) (mergeR r)
    simp only [mergeR, Fo.size]; omega
theorem char_tlen (f : Fo) : (charT f).length ≤ tlen f := by rw [char_chars]; exact charsF_tlen f
theorem nestedL_spec {S : Nat → Prop} : ∀ (f : Fo) {R : Ending → World → Prop} {w : World} {a : Option Addr} {n c : Nat} (hs : f.size ≤ 1000000000) (hf : SlF S w a n f)
    (h : ∀ w', Ext w w' → R (.returned (.bool (nestT f))) w'), Calls Tryz.prog F_law10_nested ⟨[.slice a n c]⟩ w R := by
  intro f
  induction hz : f.size using Nat.strongRecOn generalizing f with
  | _ z ih =>
  intro R w a n c hs hf h
  apply c_law10_nested
  apply c_slices_ContainsFunc_of_api_Node_api_Node
  apply c_slices_IndexFunc_of_api_Node_api_Node
  have hn := hf.1
  have hfl := f.len_le_size
  have ret : ∀ (x : Int) v, Ext w v → decide ((0 : Int) ≤ x) = nestT f → ∃ x5 : Int, Ending.returned (.int .i64 x) = .returned (.int .i64 x5) ∧ (∃ x4 : Bool, Ending.returned (.bool (decide ((0 : Int) ≤ x5))) = .returned (.bool x4) ∧ R (.returned (.bool x4)) v) := fun x v ev hx => ⟨_, rfl, _, rfl, by rw [hx]; exact h v ev⟩
  refine ⟨fun i W m => ∃ p r : Fo, f = p.app r ∧ i = p.len ∧ m = r.len ∧ nestT f = nestT r ∧ Ext w W, ⟨_, .nil, f, rfl, rfl, rfl, rfl, Below.refl _ _⟩, ?_⟩
  rintro _ W m ⟨p, r, hpr, rfl, rfl, heq, he⟩ _
  refine br_split (fun hlt => ?_) (fun hge => ?_)
  · obtain ⟨k, t, mm, ps, r, rfl⟩ := Fo.next hpr (by omega)
    have hsl := Fo.sub_len hpr
    have hsz := Fo.sub_size hpr
    obtain ⟨q, a', c', hq, _, _, hN⟩ := (hf.ext he).get hpr
    rw [nestT] at heq
    have yes : (decide (k = 1 ∧ 0 < ps.len) || nestT ps) = true → ∀ v, Ext w v → ∃ x15 : Bool, Ending.returned (.bool true) = .returned (.bool x15) ∧ br x15 (∃ x5 : Int, Ending.returned (.int .i64 (p.len : Int)) = .returned (.int .i64 x5) ∧ (∃ x4 : Bool, Ending.returned (.bool (decide ((0 : Int) ≤ x5))) = .returned (.bool x4) ∧ R (.returned (.bool x4)) v))
        (∃ m16 : Nat, m16 < (Fo.cons k t mm ps r).len ∧ ∃ p' r' : Fo, f = p'.app r' ∧ IntKind.i64.wrap ((p.len : Int) + 1) = p'.len ∧ m16 = r'.len ∧ nestT f = nestT r' ∧ Ext w v) := by
      intro hh v ev
      refine ⟨_, rfl, ?_⟩
      rw [br_t]
      exact ret _ v ev (by rw [heq, hh, Bool.true_or, decide_eq_true (by omega)])
    have no : ∀ b, b = (decide (k = 1 ∧ 0 < ps.len) || nestT ps) → ∀ v, Ext w v → ∃ x15 : Bool, Ending.returned (.bool b) = .returned (.bool x15) ∧ br x15 (∃ x5 : Int, Ending.returned (.int .i64 (p.len : Int)) = .returned (.int .i64 x5) ∧ (∃ x4 : Bool, Ending.returned (.bool (decide ((0 : Int) ≤ x5))) = .returned (.bool x4) ∧ R (.returned (.bool x4)) v))
        (∃ m16 : Nat, m16 < (Fo.cons k t mm ps r).len ∧ ∃ p' r' : Fo, f = p'.app r' ∧ IntKind.i64.wrap ((p.len : Int) + 1) = p'.len ∧ m16 = r'.len ∧ nestT f = nestT r' ∧ Ext w v) := by
      intro b hb v ev
      cases b with
      | true => exact yes hb.symm v ev
      | false =>
        refine ⟨_, rfl, ?_⟩
        rw [br_f]
        refine ⟨r.len, by simp, p.app (.one k t mm ps), r, by rw [Fo.app_one_app]; exact hpr, ?_, rfl, ?_, ev⟩
        · rw [wrap_nat (by omega)]; simp [Fo.one]
        · rw [heq, ← hb, Bool.false_or]
    refine hq _ ⟨_, hN.kind, _, hN.text, _, hN.num, _, _, _, hN.parts, ⟨by kernel_rfl, ?_⟩⟩
    apply c_law10_nested_1
    refine al_intro fun b5 w6 hb5 B5 e6 s6 => ?_
    obtain ⟨y0, y1, y2, y3⟩ := blk4 B5
    have E6 := ext_trans he e6
    refine ⟨_, y0, br_split (fun g1 => ⟨_, _, _, y3, br_split (fun g2 => ?_) (fun g2 => ⟨_, _, _, y3, ?_⟩)⟩) (fun g1 => ⟨_, _, _, y3, ?_⟩)⟩
    · exact yes (by rw [decide_eq_true ⟨g1, by omega⟩]; rfl) w6 E6
    · refine ih _ (hz ▸ hsz) ps rfl (by omega) (hN.sl.ext e6) fun w11 e11 => ⟨_, rfl, ?_⟩
      exact no _ (by rw [decide_eq_false (fun hh => g2 (by have := hh.2; omega)), Bool.false_or]) w11 (ext_trans E6 e11)
    · refine ih _ (hz ▸ hsz) ps rfl (by omega) (hN.sl.ext e6) fun w11 e11 => ⟨_, rfl, ?_⟩
      exact no _ (by rw [decide_eq_false (fun hh => g1 hh.1), Bool.false_or]) w11 (ext_trans E6 e11)
  · obtain ⟨rfl, rfl⟩ := Fo.last hpr (by omega)
    exact ret _ W he (by rw [heq]; rfl)
theorem plain_spec {S : Nat → Prop} : ∀ (f : Fo) {R : Ending → World → Prop} {w : World} {a : Option Addr} {n c : Nat} (hs : f.size ≤ 1000000000) (ht : tlen f ≤ 1000000000) (hf : SlF S w a n f)
    (h : ∀ w', Ext w w' → R (.returned (.string ⟨⟨charT f⟩⟩)) w'), Calls Tryz.prog F_law10_plain ⟨[.slice a n c]⟩ w R := by
  intro f
  induction hz : f.size using Nat.strongRecOn generalizing f with
  | _ z ih =>
  intro R w a n c hs ht hf h
  apply c_law10_plain
  have hn := hf.1
  have hfl := f.len_le_size
  refine ⟨fun o i W m => ∃ p r : Fo, f = p.app r ∧ i = p.len ∧ m = r.len ∧ o = charT p ∧ Ext w W, ⟨_, .nil, f, rfl, rfl, rfl, rfl, Below.refl _ _⟩, ?_⟩
  rintro _ _ W m ⟨p, r, hpr, rfl, rfl, rfl, he⟩ _
  refine br_split (fun hlt => ?_) (fun hge => ?_)
  · obtain ⟨k, t, mm, ps, r, rfl⟩ := Fo.next hpr (by omega)
    have hsl := Fo.sub_len hpr
    have hsz := Fo.sub_size hpr
    have htl : tlen f = tlen p + (t.length + tlen ps + tlen r) := by rw [hpr, tlen_app]; rfl
    have hcp := char_tlen p
    have hcs := char_tlen ps
    obtain ⟨q, a', c', hq, _, _, hN⟩ := (hf.ext he).get hpr
    refine hq _ ⟨_, hN.kind, _, hN.text, _, hN.num, _, _, _, hN.parts, ?_⟩
    refine al_stL rfl one4n fun b13 w15 hb13 B13 e15 s15 => ?_
    obtain ⟨y0, y1, y2, y3⟩ := blk4 B13
    have E15 := ext_trans he e15
    intro K16 hK16
    have k16 : K16 (charT p ++ if k = 1 then t else []) w15 := by
      refine hK16 _ _ fun _ => ⟨_, _, _, y3, ?_⟩
      refine ih _ (hz ▸ hsz) ps rfl (by omega) (by omega) (hN.sl.ext e15) fun w21 e21 => ⟨_, rfl, ?_⟩
      refine ⟨by rw [List.length_append]; split <;> (try simp) <;> omega, r.len, by simp, p.app (.one k t mm ps), r, by rw [Fo.app_one_app]; exact hpr, ?_, rfl, ?_, ext_trans E15 e21⟩
      · rw [wrap_nat (by omega)]; simp [Fo.one]
      · rw [char_app]; unfold Fo.one; rw [charT, charT]; simp
    refine ⟨_, y0, br_split (fun g1 => ⟨_, y1, by omega, ?_⟩) (fun g1 => ?_)⟩
    · rw [if_pos g1] at k16; exact k16
    · rw [if_neg g1, List.append_nil] at k16; exact k16
  · obtain ⟨rfl, rfl⟩ := Fo.last hpr (by omega)
    exact h W he
theorem merged_spec {S : Nat → Prop} : ∀ (f : Fo) {R : Ending → World → Prop} {w : World} {a : Option Addr} {n c : Nat} (hs : f.size ≤ 1000000000) (hm : mrgd false f) (hf : SlF S w a n f)
    (h : ∀ w', Ext w w' → R (.returned (.bool true)) w'), Calls Tryz.prog F_law10_merged ⟨[.slice a n c]⟩ w R := by
  intro f
  induction hz : f.size using Nat.strongRecOn generalizing f with
  | _ z ih =>
  intro R w a n c hs hm hf h
  apply c_law10_merged
  have hn := hf.1
  have hfl := f.len_le_size
  refine ⟨fun i W m => ∃ p r : Fo, f = p.app r ∧ i = p.len ∧ m = r.len ∧ mrgd (lastT p) r ∧ Ext w W, ⟨_, .nil, f, rfl, rfl, rfl, hm, Below.refl _ _⟩, ?_⟩
  rintro _ W m ⟨p, r, hpr, rfl, rfl, hmr, he⟩ _
  refine br_split (fun hlt => ?_) (fun hge => h W he)
  obtain ⟨k, t, mm, ps, r, rfl⟩ := Fo.next hpr (by omega)
  have hsl := Fo.sub_len hpr
  have hsz := Fo.sub_size hpr
  obtain ⟨m1, m2, m3⟩ := hmr
  obtain ⟨q, a', c', hq, _, _, hN⟩ := (hf.ext he).get hpr
  refine hq _ ⟨_, hN.kind, _, hN.text, _, hN.num, _, _, _, hN.parts, ?_⟩
  refine al_stL rfl one4n fun b12 w14 hb12 B12 e14 s14 => ?_
  obtain ⟨y0, y1, y2, y3⟩ := blk4 B12
  have E14 := ext_trans he e14
  have go : ∃ (x19 : Option Addr) (x19n : Nat) (x19c : Nat), World.cell? w14 ((⟨b12, 0, none⟩ : Addr).add 3) = some (.slice x19 x19n x19c) ∧ (Calls Tryz.prog 27 ⟨[.slice x19 x19n x19c]⟩ w14 fun (e20 : Ending) (w21 : World) =>
      ∃ (x22 : Bool), e20 = .returned (.bool x22) ∧ (br (!x22) (R (.returned (.bool false)) w21) (∃ m23 : Nat, m23 < (Fo.cons k t mm ps r).len ∧ ∃ p' r' : Fo, f = p'.app r' ∧ IntKind.i64.wrap ((p.len : Int) + 1) = p'.len ∧ m23 = r'.len ∧ mrgd (lastT p') r' ∧ Ext w w21))) := by
    refine ⟨_, _, _, y3, ?_⟩
    refine ih _ (hz ▸ hsz) ps rfl (by omega) m2 (hN.sl.ext e14) fun w21 e21 => ⟨_, rfl, ?_⟩
    rw [Bool.not_true, br_f]
    refine ⟨r.len, by simp, p.app (.one k t mm ps), r, by rw [Fo.app_one_app]; exact hpr, ?_, rfl, ?_, ext_trans E14 e21⟩
    · rw [wrap_nat (by omega)]; simp [Fo.one]
    · rw [lastT_snoc]; exact m3
  refine ⟨_, y0, br_split (fun g1 => ⟨_, y1, br_split (fun g2 => absurd ⟨g1, .inl g2⟩ m1) (fun g2 => br_split (fun g3 => ?_) (fun _ => go))⟩) (fun _ => go)⟩
  rcases Fo_view p with rfl | ⟨pre, k0, t0, n0, ps0, rfl⟩
  · simp at g3
  · rw [lastT_snoc] at m1
    have hpl : (pre.app (.one k0 t0 n0 ps0)).len = pre.len + 1 := by simp [Fo.one]
    have hf2 : f = pre.app (.cons k0 t0 n0 ps0 (.cons k t mm ps r)) := by rw [hpr, Fo.app_one_app]
    obtain ⟨q', a2, c2, hq', _, _, hN'⟩ := (hf.ext E14).get hf2
    rw [hpl, show ((pre.len + 1 : Nat) : Int) - 1 = (pre.len : Int) by omega, wrap_id (by omega)]
    refine hq' _ ⟨_, hN'.kind, br_split (fun g4 => absurd ⟨g1, .inr (decide_eq_true g4)⟩ m1) (fun _ => ?_)⟩
    rw [hpl] at go
    exact go
set_option maxRecDepth 20000 in
theorem TranscriptMerges_spec {S : Nat → Prop} {a : Option Addr} {n c : Nat} (f : Fo) (hF : Forms w) (hM : Mk w) (hf : SlF S w a n f) (h : ∀ w', Ext w w' → R (.returned (.bool true)) w') :
    Calls Tryz.prog F_law10_TranscriptMerges ⟨[.slice a n c]⟩ w R := by
  apply c_law10_TranscriptMerges
  have aw : ∀ v, Ext w v → Calls Tryz.prog F_law10_awake ⟨[]⟩ v (fun e w' => ∃ x : Bool, e = .returned (.bool x) ∧ R (.returned (.bool x)) w') := fun v ev => awakeT_spec (hF.ext ev) (hM.ext ev) fun v' e' => ⟨_, rfl, h v' (ext_trans ev e')⟩
  refine Great10_spec f hf fun w3 e3 => ⟨_, rfl, br_cases (fun _ => aw w3 e3) (fun g => ?_)⟩
  obtain ⟨hsz, htl⟩ := great10_facts g
  have hms : (mergeF f).size ≤ 4100 := by rw [mergeF_eq]; exact Nat.le_trans (size_merge f) hsz
  have hmt : tlen (mergeF f) ≤ 300000000 := by rw [mergeF_eq]; exact Nat.le_trans (tlen_merge f) htl
  intro K8 hK8
  have k8 : ∀ v, Ext w v → K8 v := by
    intro v ev
    refine hK8 _ fun _ => ?_
    refine nestedL_spec f (by omega) (hf.ext ev) fun w11 e11 => ⟨_, rfl, br_cases (fun _ => aw w11 (ext_trans ev e11)) (fun gn => ?_)⟩
    have E11 := ext_trans ev e11
    refine Merge_spec f (by omega) (by omega) (hf.ext E11) fun a' n' c' w17 hL e17 => ⟨_, _, _, rfl, ?_⟩
    have E17 := ext_trans E11 e17
    refine plain_spec (mergeF f) (by omega) (by omega) hL fun w20 e20 => ⟨_, rfl, ?_⟩
    have E20 := ext_trans E17 e20
    refine plain_spec f (by omega) (by omega) (hf.ext E20) fun w23 e23 => ⟨_, rfl, ?_⟩
    have E23 := ext_trans E20 e23
    rw [merge_char gn, decide_eq_true rfl, br_t]
    have hL23 := (hL.ext e20).ext e23
    refine merged_spec (mergeF f) (by omega) (by rw [mergeF_eq]; exact merge_mrgd f) hL23 fun w26 e26 => ⟨_, rfl, ?_⟩
    rw [br_t]
    have E26 := ext_trans E23 e26
    refine Merge_spec (mergeF f) (by omega) (by omega) (hL23.ext e26) fun a2 n2 c2 w29 hL2 e29 => ⟨_, _, _, rfl, ?_⟩
    have E29 := ext_trans E26 e29
    rw [merge_merge] at hL2
    refine Same_spec (mergeF f) hL2 ((hL23.ext e26).ext e29) (by unfold small; omega) fun w32 e32 => ⟨_, rfl, ?_⟩
    rw [decide_eq_true rfl, br_t]
    exact aw w32 (ext_trans E29 e32)
  refine Check10_spec f (hf.ext e3) fun w38 e38 => ⟨_, rfl, br_split (fun gc => ?_) (fun gc => k8 w38 (ext_trans e3 e38))⟩
  have E38 := ext_trans e3 e38
  refine Merge_spec f (by omega) (by omega) (hf.ext E38) fun a' n' c' w41 hL e41 => ⟨_, _, _, rfl, ?_⟩
  have E41 := ext_trans E38 e41
  rw [merge_valid gc] at hL
  refine Same_spec f hL (hf.ext E41) (by unfold small; omega) fun w44 e44 => ⟨_, rfl, ?_⟩
  rw [decide_eq_true rfl, Bool.not_true, br_f]
  exact k8 w44 (ext_trans E41 e44)
end Go.Proofs
namespace Go.Proofs
open Go Go.Sh Go.RowKit

variable {R : Ending → World → Prop} {w : World}
theorem chars10_spec {S : Nat → Prop} : ∀ (f : Fo) {R : Ending → World → Prop} {w : World} {a : Option Addr} {n c : Nat} (hs : f.size ≤ 1000000000) (ht : tlen f ≤ 1000000000) (hf : SlF S w a n f)
    (h : ∀ w', Ext w w' → R (.returned (.string ⟨⟨charT f⟩⟩)) w'), Calls Tryz.prog F_ref10_characters ⟨[.slice a n c]⟩ w R := by
  intro f
  induction hz : f.size using Nat.strongRecOn generalizing f with
  | _ z ih =>
  intro R w a n c hs ht hf h
  apply c_ref10_characters
  have hn := hf.1
  have hfl := f.len_le_size
  refine ⟨fun o i W m => ∃ p r : Fo, f = p.app r ∧ i = p.len ∧ m = r.len ∧ o = charT p ∧ Ext w W, ⟨_, .nil, f, rfl, rfl, rfl, rfl, Below.refl _ _⟩, ?_⟩
  rintro _ _ W m ⟨p, r, hpr, rfl, rfl, rfl, he⟩ _
  refine br_split (fun hlt => ?_) (fun hge => ?_)
  · obtain ⟨k, t, mm, ps, r, rfl⟩ := Fo.next hpr (by omega)
    have hsl := Fo.sub_len hpr
    have hsz := Fo.sub_size hpr
    have htl : tlen f = tlen p + (t.length + tlen ps + tlen r) := by rw [hpr, tlen_app]; rfl
    have hcp := char_tlen p
    have hcs := char_tlen ps
    obtain ⟨q, a', c', hq, _, _, hN⟩ := (hf.ext he).get hpr
    intro K16 hK16
    have k16 : K16 (charT p ++ if k = 1 then t else []) W := by
      refine hK16 _ _ fun _ => hq _ ⟨_, _, _, hN.parts, ?_⟩
      refine ih _ (hz ▸ hsz) ps rfl (by omega) (by omega) hN.sl fun w21 e21 => ⟨_, rfl, ?_⟩
      refine ⟨by rw [List.length_append]; split <;> (try simp) <;> omega, r.len, by simp, p.app (.one k t mm ps), r, by rw [Fo.app_one_app]; exact hpr, ?_, rfl, ?_, ext_trans he e21⟩
      · rw [wrap_nat (by omega)]; simp [Fo.one]
      · rw [char_app]; unfold Fo.one; rw [charT, charT]; simp
    refine hq _ ⟨_, hN.kind, br_split (fun g1 => hq _ ⟨_, hN.text, by omega, ?_⟩) (fun g1 => ?_)⟩
    · rw [if_pos g1] at k16; exact k16
    · rw [if_neg g1, List.append_nil] at k16; exact k16
  · obtain ⟨rfl, rfl⟩ := Fo.last hpr (by omega)
    exact h W he
theorem count10_spec {S : Nat → Prop} (kd : Int) : ∀ (f : Fo) {R : Ending → World → Prop} {w : World} {a : Option Addr} {n c : Nat} (hs : f.size ≤ 1000000000) (hf : SlF S w a n f)
    (h : ∀ w', Ext w w' → R (.returned (.int .i64 (cntK kd f : Int))) w'), Calls Tryz.prog F_ref10_count ⟨[.slice a n c, .int .i64 kd]⟩ w R := by
  intro f
  induction hz : f.size using Nat.strongRecOn generalizing f with
  | _ z ih =>
  intro R w a n c hs hf h
  apply c_ref10_count
  have hn := hf.1
  have hfl := f.len_le_size
  refine ⟨fun o i W m => ∃ p r : Fo, f = p.app r ∧ i = p.len ∧ m = r.len ∧ o = (cntK kd p : Int) ∧ Ext w W, ⟨_, .nil, f, rfl, rfl, rfl, rfl, Below.refl _ _⟩, ?_⟩
  rintro _ _ W m ⟨p, r, hpr, rfl, rfl, rfl, he⟩ _
  refine br_split (fun hlt => ?_) (fun hge => ?_)
  · obtain ⟨k, t, mm, ps, r, rfl⟩ := Fo.next hpr (by omega)
    have hsl := Fo.sub_len hpr
    have hsz := Fo.sub_size hpr
    have hc1 := cntK_le kd f
    have hcs : cntK kd f = cntK kd p + ((if k = kd then 1 else 0) + cntK kd ps + cntK kd r) := by rw [hpr, cnt_app]; rfl
    obtain ⟨q, a', c', hq, _, _, hN⟩ := (hf.ext he).get hpr
    intro K9 hK9
    have k9 : K9 ((cntK kd p + (if k = kd then 1 else 0) : Nat) : Int) W := by
      refine hK9 _ _ fun _ => hq _ ⟨_, _, _, hN.parts, ?_⟩
      refine ih _ (hz ▸ hsz) ps rfl (by omega) hN.sl fun w15 e15 => ⟨_, rfl, ?_⟩
      refine ⟨r.len, by simp, p.app (.one k t mm ps), r, by rw [Fo.app_one_app]; exact hpr, ?_, rfl, ?_, ext_trans he e15⟩
      · rw [wrap_nat (by omega)]; simp [Fo.one]
      · rw [wrap_id (by omega), cnt_app]
        unfold Fo.one
        rw [cntK, cntK]
        omega
    refine hq _ ⟨_, hN.kind, br_split (fun g1 => ?_) (fun g1 => ?_)⟩
    · rw [if_pos g1] at k9 hcs
      rw [wrap_nat (by omega)]; exact k9
    · rw [if_neg g1] at k9
      exact k9
  · obtain ⟨rfl, rfl⟩ := Fo.last hpr (by omega)
    exact h W he
theorem Print10_spec {S : Nat → Prop} {a : Option Addr} {n c : Nat} (f : Fo) (hf : SlF S w a n f)
    (h : ∀ w', Ext w w' → R (.returned (.tuple ⟨[.string ⟨⟨if checkT f ≠ 0 then [] else printF f⟩⟩, .int .i64 (if checkT f ≠ 0 then 1 else 0)]⟩)) w') : Calls Tryz.prog F_ref10_Print ⟨[.slice a n c]⟩ w R := by
  apply c_ref10_Print
  refine Check10_spec f hf fun w1 e1 => ⟨_, rfl, br_split (fun g => ?_) (fun g => ?_)⟩
  · rw [if_pos g, if_pos g] at h; exact h _ e1
  rw [if_neg g, if_neg g] at h
  obtain ⟨q1, q2, q3, q4⟩ := check_inv (Classical.not_not.1 g)
  refine print_spec f (by omega) (all_good f _ _ q3) (hf.ext e1) fun w2 e2 => ⟨_, rfl, h _ (ext_trans e1 e2)⟩
theorem Characters10_spec {S : Nat → Prop} {a : Option Addr} {n c : Nat} (f : Fo) (ht : tlen f ≤ 1000000000) (hf : SlF S w a n f)
    (h : ∀ w', Ext w w' → R (.returned (.tuple ⟨[.string ⟨⟨if checkT f ≠ 0 then [] else charsF f⟩⟩, .int .i64 (if checkT f ≠ 0 then 1 else 0)]⟩)) w') : Calls Tryz.prog F_ref10_Characters ⟨[.slice a n c]⟩ w R := by
  apply c_ref10_Characters
  refine Check10_spec f hf fun w1 e1 => ⟨_, rfl, br_split (fun g => ?_) (fun g => ?_)⟩
  · rw [if_pos g, if_pos g] at h; exact h _ e1
  rw [if_neg g, if_neg g, ← char_chars] at h
  obtain ⟨q1, q2, q3, q4⟩ := check_inv (Classical.not_not.1 g)
  exact chars10_spec f (by omega) ht (hf.ext e1) fun w2 e2 => ⟨_, rfl, h _ (ext_trans e1 e2)⟩
theorem Count10_spec {S : Nat → Prop} {a : Option Addr} {n c : Nat} (f : Fo) (kd : Int) (hf : SlF S w a n f)
    (h : ∀ w', Ext w w' → R (.returned (.tuple ⟨[.int .i64 (cntR f kd).1, .int .i64 (cntR f kd).2]⟩)) w') : Calls Tryz.prog F_ref10_Count ⟨[.slice a n c, .int .i64 kd]⟩ w R := by
  apply c_ref10_Count
  unfold cntR at h
  refine Check10_spec f hf fun w1 e1 => ⟨_, rfl, br_split (fun g => ?_) (fun g => ?_)⟩
  · rw [if_pos g] at h; exact h _ e1
  rw [if_neg g] at h
  obtain ⟨q1, q2, q3, q4⟩ := check_inv (Classical.not_not.1 g)
  intro K6 hK6
  refine br_split (fun g1 => ?_) (fun g1 => br_split (fun g2 => ?_) (fun g2 => ?_))
  · rw [if_pos (.inl g1)] at h; exact h _ e1
  · rw [if_pos (.inr g2)] at h; exact h _ e1
  · rw [if_neg (by omega)] at h
    exact hK6 _ fun _ => count10_spec kd f (by omega) (hf.ext e1) fun w2 e2 => ⟨_, rfl, h _ (ext_trans e1 e2)⟩
theorem Depth10_spec {S : Nat → Prop} {a : Option Addr} {n c : Nat} (f : Fo) (hf : SlF S w a n f)
    (h : ∀ w', Ext w w' → R (.returned (.tuple ⟨[.int .i64 (if checkT f ≠ 0 then 0 else (f.depth : Int)), .int .i64 (if checkT f ≠ 0 then 1 else 0)]⟩)) w') : Calls Tryz.prog F_ref10_Depth ⟨[.slice a n c]⟩ w R := by
  apply c_ref10_Depth
  refine Check10_spec f hf fun w1 e1 => ⟨_, rfl, br_split (fun g => ?_) (fun g => ?_)⟩
  · rw [if_pos g, if_pos g] at h; exact h _ e1
  rw [if_neg g, if_neg g] at h
  obtain ⟨q1, q2, q3, q4⟩ := check_inv (Classical.not_not.1 g)
  refine size10_spec f 16 4096 (by omega) (by omega) (hf.ext e1) fun w6 e6 => ?_
  rw [szF, if_pos ⟨q1, q2⟩]
  exact ⟨_, _, _, rfl, h _ (ext_trans e1 e6)⟩
end Go.Proofs
namespace Go.Proofs
open Go Go.Sh Go.RowKit

variable {R : Ending → World → Prop} {w : World}
set_option maxRecDepth 20000 in
theorem TranscriptNodes_spec {S S' : Nat → Prop} {a b : Option Addr} {n n' c c' : Nat} (f g : Fo) (kd : Int) (hF : Forms w) (hM : Mk w) (hf : SlF S w a n f) (hg : SlF S' w b n' g) (h : ∀ w', Ext w w' → R (.returned (.bool true)) w') :
    Calls Tryz.prog F_law10_TranscriptNodes ⟨[.slice a n c, .slice b n' c', .int .i64 kd]⟩ w R := by
  apply c_law10_TranscriptNodes
  have aw : ∀ v, Ext w v → Calls Tryz.prog F_law10_awake ⟨[]⟩ v (fun e w' => ∃ x : Bool, e = .returned (.bool x) ∧ R (.returned (.bool x)) w') := fun v ev => awakeT_spec (hF.ext ev) (hM.ext ev) fun v' e' => ⟨_, rfl, h v' (ext_trans ev e')⟩
  intro K4 hK4
  have k4 : f.size ≤ 4100 → tlen f ≤ 300000000 → ∀ v, Ext w v → K4 v := by
    intro hsz htl v ev
    refine hK4 _ fun _ => ?_
    have hsm : small f := by unfold small; omega
    refine PrintT_spec f hsm (hF.ext ev) (hf.ext ev) fun w7 e7 => ⟨_, _, rfl, ?_⟩
    have E7 := ext_trans ev e7
    refine Print10_spec f (hf.ext E7) fun w11 e11 => ⟨_, _, rfl, ?_⟩
    have E11 := ext_trans E7 e11
    refine Characters_spec f hsm (hF.ext E11) (hf.ext E11) fun w15 e15 => ⟨_, _, rfl, ?_⟩
    have E15 := ext_trans E11 e15
    refine Characters10_spec f (by omega) (hf.ext E15) fun w19 e19 => ⟨_, _, rfl, ?_⟩
    have E19 := ext_trans E15 e19
    refine Count_spec f hsm (hF.ext E19) (hf.ext E19) kd fun w23 e23 => ⟨_, _, rfl, ?_⟩
    have E23 := ext_trans E19 e23
    refine Count10_spec f kd (hf.ext E23) fun w27 e27 => ⟨_, _, rfl, ?_⟩
    have E27 := ext_trans E23 e27
    refine Depth_spec f hsm (hF.ext E27) (hf.ext E27) fun w31 e31 => ⟨_, _, rfl, ?_⟩
    have E31 := ext_trans E27 e31
    refine Depth10_spec f (hf.ext E31) fun w35 e35 => ⟨_, _, rfl, ?_⟩
    have E35 := ext_trans E31 e35
    refine Check22_spec f hsm (hf.ext E35) (hF.ext E35) fun w39 e39 => ⟨_, rfl, ?_⟩
    have E39 := ext_trans E35 e39
    refine Check10_spec f (hf.ext E39) fun w42 e42 => ⟨_, rfl, ?_⟩
    have E42 := ext_trans E39 e42
    simp only [eq_self, decide_true, br_t]
    refine Merge_spec f (by omega) (by omega) (hf.ext E42) fun a1 n1 c1 w45 hL e45 => ⟨_, _, _, rfl, ?_⟩
    have E45 := ext_trans E42 e45
    refine Merge_spec' f (by omega) (by omega) (hf.ext E45) fun a2 n2 c2 w48 hL2 e48 => ⟨_, _, _, rfl, ?_⟩
    have E48 := ext_trans E45 e48
    have hms : (mergeF f).size ≤ 4100 := by rw [mergeF_eq]; exact Nat.le_trans (size_merge f) hsz
    refine Same_spec (mergeF f) (hL.ext e48) hL2 (by unfold small; omega) fun w51 e51 => ⟨_, rfl, ?_⟩
    have E51 := ext_trans E48 e51
    rw [decide_eq_true rfl, br_t]
    refine SameT_spec f (hf.ext E51) (hg.ext E51) hsm fun w54 e54 => ⟨_, rfl, ?_⟩
    have E54 := ext_trans E51 e54
    refine Same_spec f (hf.ext E54) (hg.ext E54) hsm fun w57 e57 => ⟨_, rfl, ?_⟩
    refine br_split (fun _ => aw w57 (ext_trans E54 e57)) (fun hh => absurd rfl hh)
  refine Great10_spec f hf fun w63 e63 => ⟨_, rfl, br_cases (fun _ => aw w63 e63) (fun gf => ?_)⟩
  obtain ⟨hsz, htl⟩ := great10_facts gf
  refine Great10_spec g (hg.ext e63) fun w69 e69 => ⟨_, rfl, br_cases (fun _ => aw w69 (ext_trans e63 e69)) (fun _ => k4 hsz htl w69 (ext_trans e63 e69))⟩
end Go.Proofs
namespace Go.Proofs
open Go Go.Sh Go.RowKit

variable {R : Ending → World → Prop} {w : World}
theorem long_tlen60 : ∀ (f : Fo) (d : Nat), good f → longF f d = false → tlen f ≤ 60 * f.size
  | .nil, _, _, _ => by simp [tlen]
  | .cons k t n ps r, d, hg, h => by
    rw [longF, Bool.or_eq_false_iff, Bool.or_eq_false_iff, Bool.or_eq_false_iff] at h
    obtain ⟨⟨⟨_, h2⟩, h3⟩, h4⟩ := h
    have i1 := long_tlen60 ps _ hg.2.1 h3
    have i2 := long_tlen60 r _ hg.2.2 h4
    have h65 := hg.1.2.2.2.1
    have ht : t.length ≤ 60 := by
      unfold badT at h2
      rw [Bool.or_eq_false_iff, Bool.and_eq_false_iff, decide_eq_false_iff_not, decide_eq_false_iff_not, decide_eq_false_iff_not] at h2
      omega
    simp only [tlen, Fo.size, Nat.mul_add, Nat.mul_one]; omega
theorem secW_spec {S : Nat → Prop} {a : Option Addr} {n c : Nat} (f : Fo) (hs : f.size ≤ 1000000000) (hf : SlF S w a n f) (h : ∀ w', Ext w w' → R (.returned (.bool (secF f))) w') :
    Calls Tryz.prog F_slices_ContainsFunc_of_api_Node_api_Node ⟨[.slice a n c, .func (.func 21) #[] #[]]⟩ w R := by
  apply c_slices_ContainsFunc_of_api_Node_api_Node
  apply c_slices_IndexFunc_of_api_Node_api_Node
  have hn := hf.1
  have hfl := f.len_le_size
  refine ⟨fun i W m => ∃ p r : Fo, f = p.app r ∧ i = p.len ∧ m = r.len ∧ secF f = secF r ∧ Ext w W, ⟨_, .nil, f, rfl, rfl, rfl, rfl, Below.refl _ _⟩, ?_⟩
  rintro _ W m ⟨p, r, hpr, rfl, rfl, heq, he⟩ _
  refine br_split (fun hlt => ?_) (fun hge => ?_)
  · obtain ⟨k, t, mm, ps, r, rfl⟩ := Fo.next hpr (by omega)
    have hsl := Fo.sub_len hpr
    obtain ⟨q, a', c', hq, _, _, hN⟩ := (hf.ext he).get hpr
    rw [secF] at heq
    refine hq _ ⟨_, hN.kind, _, hN.text, _, hN.num, _, _, _, hN.parts, ⟨by kernel_rfl, ?_⟩⟩
    apply c_law10_TranscriptWraps_1
    refine al_intro fun b5 w6 hb5 B5 e6 s6 => ?_
    obtain ⟨y0, y1, y2, y3⟩ := blk4 B5
    have E6 := ext_trans he e6
    refine ⟨_, y0, _, rfl, br_split (fun g => ?_) (fun g => ?_)⟩
    · refine ⟨_, rfl, ?_⟩
      rw [decide_eq_true (by omega)]
      have : secF f = true := by rw [heq, decide_eq_true g]; rfl
      rw [← this]; exact h w6 E6
    · refine ⟨r.len, by simp, p.app (.one k t mm ps), r, by rw [Fo.app_one_app]; exact hpr, ?_, rfl, ?_, E6⟩
      · rw [wrap_nat (by omega)]; simp [Fo.one]
      · rw [heq, decide_eq_false g, Bool.false_or]
  · obtain ⟨rfl, rfl⟩ := Fo.last hpr (by omega)
    refine ⟨_, rfl, ?_⟩
    have : secF p = false := by rw [heq]; rfl
    rw [this] at h
    exact h W he
def wrapCells (a : Option Addr) (n c : Nat) : List Value := [.int .i64 7, .string ⟨⟨[]⟩⟩, .int .i64 0, .slice a n c, .int .i64 8, .string ⟨⟨[]⟩⟩, .int .i64 8, .slice a n c, .int .i64 9, .string ⟨⟨[]⟩⟩, .int .i64 1, .slice a n c, .int .i64 10, .string ⟨⟨[113]⟩⟩, .int .i64 0, .slice a n c, .int .i64 11, .string ⟨⟨[82, 111, 109, 97]⟩⟩, .int .i64 0, .slice a n c]
theorem wrap_cells (a : Option Addr) (n c : Nat) : ∀ i : Nat, i < 5 → (wrapCells a n c)[i * 4]? = some (.int .i64 (wrapK i).k) ∧ (wrapCells a n c)[i * 4 + 1]? = some (.string ⟨⟨(wrapK i).t⟩⟩) ∧ (wrapCells a n c)[i * 4 + 2]? = some (.int .i64 (wrapK i).n) ∧ (wrapCells a n c)[i * 4 + 3]? = some (.slice a n c) := by
  intro i hi
  match i, hi with
  | 0, _ => exact ⟨rfl, rfl, rfl, rfl⟩
  | 1, _ => exact ⟨rfl, rfl, rfl, rfl⟩
  | 2, _ => exact ⟨rfl, rfl, rfl, rfl⟩
  | 3, _ => exact ⟨rfl, rfl, rfl, rfl⟩
  | 4, _ => exact ⟨rfl, rfl, rfl, rfl⟩
  | n + 5, h => omega
theorem wrap_size (i : Nat) (f : Fo) : (wrapF i f).size = f.size + 1 := by unfold wrapF Fo.one; simp [Fo.size]
theorem wrap_depth (i : Nat) (f : Fo) (h : f.len ≠ 0) : (wrapF i f).depth = f.depth + 1 := by
  unfold wrapF Fo.one; rw [Fo.depth_parts, if_neg h]
  show max _ 0 = _
  omega
set_option maxRecDepth 20000 in
theorem TranscriptWraps_spec {S : Nat → Prop} {a : Option Addr} {n c : Nat} (f : Fo) (kd : Int) (hkd : 0 ≤ kd ∧ kd < 256) (hF : Forms w) (hM : Mk w) (hf : SlF S w a n f) (h : ∀ w', Ext w w' → R (.returned (.bool true)) w') :
    Calls Tryz.prog F_law10_TranscriptWraps ⟨[.slice a n c, .int .u8 kd]⟩ w R := by
  apply c_law10_TranscriptWraps
  have aw : ∀ v, Ext w v → Calls Tryz.prog F_law10_awake ⟨[]⟩ v (fun e w' => ∃ x : Bool, e = .returned (.bool x) ∧ R (.returned (.bool x)) w') := fun v ev => awakeT_spec (hF.ext ev) (hM.ext ev) fun v' e' => ⟨_, rfl, h v' (ext_trans ev e')⟩
  refine fine_spec f hf fun w4 e4 => ⟨_, rfl, br_cases (fun _ => aw w4 e4) (fun g => ?_)⟩
  have g : fineB f = true := by simpa using g
  obtain ⟨hck, hsz, hlg⟩ := fine_facts g
  obtain ⟨q1, q2, q3, q4⟩ := check_inv hck
  have hgd := all_good f _ _ q3
  have htl := long_tlen60 f 20 hgd hlg
  have hps := print_short f hgd
  have hn := hf.1
  have hsm : small f := by unfold small; omega
  refine al_intro fun b9 w10 hb9 B9 e10 s10 => ?_
  have E10 := ext_trans e4 e10
  obtain ⟨i, hi, hki⟩ : ∃ i : Nat, i < 5 ∧ Int.tmod (IntKind.i64.wrap kd) 5 = (i : Int) := by
    refine ⟨kd.toNat % 5, by omega, ?_⟩
    rw [wrap_id (by omega), Int.tmod_eq_emod_of_nonneg hkd.1]
    omega
  rw [hki]
  obtain ⟨v0, v1, v2, v3⟩ := wrap_cells a n c i hi
  have B9' : Blk w10 b9 (wrapCells a n c) 35 := B9
  have cc : ∀ j v, (wrapCells a n c)[i * 4 + j]? = some v → w10.cell? ((⟨b9, i * 4, none⟩ : Addr).add j) = some v := fun j v hj => by rw [add_none, B9'.cell]; exact hj
  refine ⟨by decide, idx_at (g := b9) rfl hi ⟨_, cc 0 _ v0, _, cc 1 _ v1, _, cc 2 _ v2, _, _, _, cc 3 _ v3, ?_⟩⟩
  refine al_stL rfl one4n fun b16 w18 hb16 B16 e18 s18 => ?_
  obtain ⟨y0, y1, y2, y3⟩ := blk4 B16
  refine ⟨_, y0, _, y1, _, y2, _, _, _, y3, ?_⟩
  refine al_intro fun b23 w24 hb23 B23 e24 s24 => ?_
  have E24 := ext_trans (ext_trans E10 e18) e24
  have hz : SlF (fun _ => True) w24 (some ⟨b23, 0, none⟩) 1 (wrapF i f) := by
    obtain ⟨_, us, hat, hfo⟩ := (hf.ext E24).imp (S' := fun _ => True) fun _ _ _ => trivial
    subst hn
    exact ⟨rfl, _, .inr ⟨b23, 0, rfl, trivial, B23.lt, fun j v hj => by rw [Nat.zero_add, B23.cell]; exact hj⟩, a, c, us, [], rfl, hat, hfo, rfl⟩
  have hwc := wrap_check i hck (by omega) (by omega)
  have hws : small (wrapF i f) := by unfold small; rw [wrap_size]; omega
  refine Check22_spec (wrapF i f) hws hz (hF.ext E24) fun w26 e26 => ⟨_, rfl, ?_⟩
  have E26 := ext_trans E24 e26
  refine Depth_spec f hsm (hF.ext E26) (hf.ext E26) fun w29 e29 => ⟨_, _, rfl, ?_⟩
  have E29 := ext_trans E26 e29
  refine Characters_spec f hsm (hF.ext E29) (hf.ext E29) fun w33 e33 => ⟨_, _, rfl, ?_⟩
  have E33 := ext_trans E29 e33
  rw [if_neg (fun hh => hh hck), if_neg (fun hh => hh hck), if_neg (fun hh => hh hck)]
  intro K36 hK36
  have k36 : K36 w33 := by
    refine hK36 _ fun _ => br_split (fun g0 => ?_) (fun g0 => br_split (fun g16 => ?_) (fun g16 => ?_))
    · rw [if_pos (by omega)] at hwc
      rw [hwc]
      exact br_split (fun _ => aw w33 E33) (fun hh => absurd rfl hh)
    · rw [if_neg (by omega), if_pos (by omega)] at hwc
      rw [hwc]
      exact br_split (fun _ => aw w33 E33) (fun hh => absurd rfl hh)
    · rw [if_neg (by omega), if_neg (by omega)] at hwc
      refine secW_spec f (by omega) (hf.ext E33) fun w45 e45 => ⟨_, rfl, br_cases (fun gs => ?_) (fun gs => ?_)⟩
      · rw [if_pos gs] at hwc
        rw [hwc]
        exact br_split (fun _ => aw w45 (ext_trans E33 e45)) (fun hh => absurd rfl hh)
      · rw [if_neg (by rw [gs]; decide)] at hwc
        have E45 := ext_trans E33 e45
        have hzz := (((hz.ext e26).ext e29).ext e33).ext e45
        refine Depth_spec (wrapF i f) hws (hF.ext E45) hzz fun w51 e51 => ⟨_, _, rfl, ?_⟩
        have E51 := ext_trans E45 e51
        refine Characters_spec (wrapF i f) hws (hF.ext E51) (hzz.ext e51) fun w55 e55 => ⟨_, _, rfl, ?_⟩
        have E55 := ext_trans E51 e55
        rw [if_neg (fun hh => hh hwc), if_neg (fun hh => hh hwc), if_neg (fun hh => hh hwc), hwc, wrap_depth i f (by omega), ← char_chars, ← char_chars, wrap_char]
        refine br_split (fun _ => br_split (fun _ => br_split (fun _ => aw w55 E55) (fun hh => absurd rfl hh)) (fun hh => absurd ?_ hh)) (fun hh => absurd (by decide) hh)
        rw [wrap_id (by omega)]; omega
  refine br_split (fun hh => absurd rfl hh) (fun _ => br_split (fun hh => absurd rfl hh) (fun _ => k36))
end Go.Proofs
