/- The contracts of the functions that the law reaches, one after the other, and at the end the law's card. -/
import Derived.Test.YtncjonkmhfdabaaLawB
namespace Go.Sh
open Go Go.RowKit

/- appending a row that stands in a block of its own to a slice variable; the new element and the variable are laid in either order -/
theorem app_cap2 {P : Program} {t ty e : TypeId} {size bytes : Nat} {z : Value} (hT : SlT P t e size bytes z) {B : Nat} {a : Option Addr} {n c : Nat} {xs : List Value} {w : World} {b bz : Nat} {Tv Tz : TypeId}
    (hown : Owns w B e size a n c xs) (hB : B ≤ w.heap.size) (hb : Blk w b [.slice a n c] Tv) (hnb : ¬ Sh.bk a b) (zc vs : List Value) (hbz : Blk w bz zc Tz) (hzc : zc.length = size) (hz1 : ∀ u ∈ zc, u.oneCell' = true) (hvs : vs.length = size) (hv1 : ∀ u ∈ vs, u.oneCell' = true)
    (hlen : n + 1 ≤ 4611686018427387904) (hbytes : (n + 1) * bytes ≤ 140737488355328) {K : World → Prop}
    (hk : ∀ a' c' w', Blk w' b [.slice a' (n + 1) c'] Tv → Owns w' B e size a' (n + 1) c' (xs ++ vs) → Chg (fun k => k = b ∨ Sh.bk a k) w w' → (∀ k, Sh.bk a' k → Sh.bk a k ∨ w.heap.size ≤ k) → K w') :
    app P [t, t] ty (.slice a n c) (.slice (some ⟨bz, 0, none⟩) 1 1) w fun a' n' c' w2 => idx a' n' (n : Int) size fun q =>
      (stL w2 q 0 vs fun w3 => (stL w3 ⟨b, 0, none⟩ 0 [.slice a' n' c'] fun w4 => K w4) ∧ True) ∧
      (stL w2 ⟨b, 0, none⟩ 0 [.slice a' n' c'] fun w3 => (stL w3 q 0 vs fun w4 => K w4) ∧ True) ∧ True := by
  refine app_own2 hT hown hB (S := fun _ => True) zc (by rw [hzc, Nat.one_mul]) (.inr ⟨bz, 0, rfl, trivial, hbz.lt, fun j v hj => by rw [Nat.zero_add, hbz.cell]; exact hj⟩) hz1 hlen hbytes fun a' c' w2 ho hc hn => ?_
  have l := hb.lt
  have hb2 : Blk w2 b [.slice a n c] Tv := hc.blk hb hnb
  have nb' : ¬ Sh.bk a' b := fun hh => (hn b hh).elim hnb (by omega)
  obtain ⟨g, ha, hidx, hst⟩ := ho.storeLast (vs := vs) hzc hvs hv1
  have sub : ∀ k, k < w.heap.size → Sh.bk a' k → Sh.bk a k := fun k hk hb' => (hn k hb').elim id (by omega)
  have tot : ∀ {S1 S2 : Nat → Prop} {w3 w4 : World}, Chg S1 w2 w3 → Chg S2 w3 w4 → (∀ k, S1 k → k = b ∨ Sh.bk a' k) → (∀ k, S2 k → k = b ∨ Sh.bk a' k) → Chg (fun k => k = b ∨ Sh.bk a k) w w4 := by
    intro S1 S2 w3 w4 c3 c4 h3 h4
    have z := hc.size
    have z3 := c3.size
    refine ⟨c4.os.trans (c3.os.trans hc.os), c4.tape.trans (c3.tape.trans hc.tape), c4.output.trans (c3.output.trans hc.output), Nat.le_trans z (Nat.le_trans z3 c4.size), fun k hk hn' => ?_⟩
    have no : ¬ (k = b ∨ Sh.bk a' k) := fun hh => hn' (hh.imp id (sub k hk))
    exact (c4.block k (by omega) fun hh => no (h4 k hh)).trans ((c3.block k (by omega) fun hh => no (h3 k hh)).trans (hc.block k hk fun hh => hn' (.inr hh)))
  refine hidx _ ⟨?_, ?_, trivial⟩
  · refine hst _ fun w3 ho3 hc3 z3 => ⟨?_, trivial⟩
    refine stL_blk (cs := [.slice a n c]) (T := Tv) (hc3.blk hb2 nb') (by simp) (by intro u hu; simp only [List.mem_singleton] at hu; subst hu; rfl) fun w4 b1 b2 b3 b4 b5 b6 => ?_
    have hc4 : Chg (fun k => k = b) w3 w4 := ⟨b4, b5, b6, by omega, fun k' _ hk => b2 k' hk⟩
    exact hk a' c' w4 b1 (ho3.chg hc4 fun k hk he => nb' (he ▸ hk)) (tot hc3 hc4 (fun k h => .inr h) fun k h => .inl h) hn
  · refine stL_blk (cs := [.slice a n c]) (T := Tv) hb2 (by simp) (by intro u hu; simp only [List.mem_singleton] at hu; subst hu; rfl) fun w3 b1 b2 b3 b4 b5 b6 => ⟨?_, trivial⟩
    have hc3 : Chg (fun k => k = b) w2 w3 := ⟨b4, b5, b6, by omega, fun k' _ hk => b2 k' hk⟩
    obtain ⟨g', ha', _, hst'⟩ := (ho.chg hc3 fun k hk he => nb' (he ▸ hk)).storeLast (vs := vs) hzc hvs hv1
    obtain rfl : g' = g := by rw [ha] at ha'; simpa using ha'.symm
    refine hst' _ fun w4 ho4 hc4 z4 => ?_
    exact hk a' c' w4 (hc4.blk b1 nb') ho4 (tot hc3 hc4 (fun k h => .inl h) fun k h => .inr h) hn

/- a list of nodes under way in a variable, its blocks named: S: what it may share, O: its own -/
def OwnG (e : TypeId) (S O : Nat → Prop) (B : Nat) (w : World) (a : Option Addr) (n c : Nat) (f : Fo) : Prop :=
  n = f.len ∧ (∀ k, bk a k → O k) ∧ (∀ k, O k → B ≤ k ∧ k < w.heap.size) ∧ ∃ xs, Owns w B e 4 a n c xs ∧ FoC (fun k => (S k ∨ O k) ∧ ¬ bk a k) w f xs
section
variable {S O : Nat → Prop} {w w' : World} {e : TypeId} {B : Nat} {a : Option Addr} {n c : Nat} {f : Fo}
theorem OwnG.nil (w : World) : OwnG e S (fun _ => False) B w none 0 0 .nil := ⟨rfl, fun k h => by simp [bk] at h, fun k h => h.elim, [], Owns.nil w B e 4, rfl⟩
theorem OwnG.len (h : OwnG e S O B w a n c f) : n = f.len := h.1
theorem OwnG.own (h : OwnG e S O B w a n c f) {k : Nat} (hk : O k) : B ≤ k ∧ k < w.heap.size := h.2.2.1 k hk
theorem OwnG.bk (h : OwnG e S O B w a n c f) {k : Nat} (hk : Sh.bk a k) : O k := h.2.1 k hk
theorem OwnG.chg {T : Nat → Prop} (h : OwnG e S O B w a n c f) (hc : Chg T w w') (hT : ∀ k, T k → k < w.heap.size → ¬ S k ∧ ¬ O k) : OwnG e S O B w' a n c f := by
  obtain ⟨h0, h1, h2, xs, h3, h4⟩ := h
  have z := hc.size
  refine ⟨h0, h1, fun k hk => ⟨(h2 k hk).1, by have := (h2 k hk).2; omega⟩, xs, ?_, h4.keep (fun k hk hl => ⟨hk, hc.block k hl fun ht => ?_⟩) z⟩
  · have h3' := Owns.chg (S := fun k => T k ∧ k < w.heap.size) h3 ⟨hc.os, hc.tape, hc.output, hc.size, fun k hk hn => hc.block k hk fun ht => hn ⟨ht, hk⟩⟩ fun k hk ht => (hT k ht.1 ht.2).2 (h1 k hk)
    exact h3'
  · rcases hk.1 with hh | hh
    · exact (hT k ht hl).1 hh
    · exact (hT k ht hl).2 hh
theorem OwnG.ext (h : OwnG e S O B w a n c f) (hc : Ext w w') : OwnG e S O B w' a n c f := h.chg (T := fun _ => False) (.of_ext hc) fun k h _ => h.elim
theorem OwnG.out (h : OwnG e S O B w a n c f) : SlF (fun k => S k ∨ O k) w a n f := by
  obtain ⟨h0, h1, h2, xs, h3, h4⟩ := h
  refine ⟨h0, xs, ?_, h4.keep (fun k hk _ => ⟨hk.1, rfl⟩) (Nat.le_refl _)⟩
  by_cases hn : 0 < n
  · obtain ⟨g, rfl, hg, hc⟩ := h3.cell hn
    exact .inr ⟨g, 0, rfl, .inr (h1 g (by simp [Sh.bk])), (h3.bk (by simp [Sh.bk])).2, fun j v hj => by rw [Nat.zero_add]; exact hc j v hj⟩
  · have hx : xs = [] := List.eq_nil_of_length_eq_zero (by rw [h3.len]; omega)
    exact .inl hx
/- one more node, out of a block that holds zeros -/
theorem OwnG.push {P : Program} {t ty : TypeId} {bytes : Nat} {z : Value} (hT : SlT P t e 4 bytes z) (h : OwnG e S O B w a n c f) (hB : B ≤ w.heap.size) {b bz : Nat} {Tv Tz : TypeId} {zc : List Value} (hb : Blk w b [.slice a n c] Tv) (hnb : ¬ O b)
    (hbz : Blk w bz zc Tz) (hzc : zc.length = 4) (hz1 : ∀ u ∈ zc, u.oneCell' = true) {k : Int} {s : List UInt8} {m : Int} {a' : Option Addr} {c' : Nat} {ps : Fo} {O2 : Nat → Prop}
    (hps : SlF (fun k => S k ∨ O2 k) w a' ps.len ps) (hO2 : ∀ k, O2 k → (B ≤ k ∧ k < w.heap.size) ∧ k ≠ b ∧ ¬ Sh.bk a k) (hSB : ∀ k, S k → k < B) (hlen : n + 1 ≤ 4611686018427387904) (hbytes : (n + 1) * bytes ≤ 140737488355328) (hBb : B ≤ b) {K : World → Prop}
    (hk : ∀ a'' n'' c'' w' (O' : Nat → Prop), Blk w' b [.slice a'' n'' c''] Tv → OwnG e S O' B w' a'' n'' c'' (f.app (.one k s m ps)) → Chg (fun j => j = b ∨ O j) w w' → (∀ j, O' j → O j ∨ O2 j ∨ (w.heap.size ≤ j ∧ j < w'.heap.size)) → K w') :
    app P [t, t] ty (.slice a n c) (.slice (some ⟨bz, 0, none⟩) 1 1) w fun a1 n1 c1 w2 => idx a1 n1 (n : Int) 4 fun q =>
      (stL w2 q 0 [.int .i64 k, .string ⟨⟨s⟩⟩, .int .i64 m, .slice a' ps.len c'] fun w3 => (stL w3 ⟨b, 0, none⟩ 0 [.slice a1 n1 c1] fun w4 => K w4) ∧ True) ∧
      (stL w2 ⟨b, 0, none⟩ 0 [.slice a1 n1 c1] fun w3 => (stL w3 q 0 [.int .i64 k, .string ⟨⟨s⟩⟩, .int .i64 m, .slice a' ps.len c'] fun w4 => K w4) ∧ True) ∧ True := by
  obtain ⟨h0, h1, h2, xs, h3, h4⟩ := h
  refine app_cap2 hT h3 hB hb (fun hh => hnb (h1 b hh)) zc [.int .i64 k, .string ⟨⟨s⟩⟩, .int .i64 m, .slice a' ps.len c'] hbz hzc hz1 rfl (by intro u hu; simp only [List.mem_cons, List.not_mem_nil, or_false] at hu; rcases hu with rfl | rfl | rfl | rfl <;> rfl) hlen hbytes
    fun a'' c'' w' hbl ho hc hn => hk a'' _ c'' w' (fun j => O j ∨ O2 j ∨ Sh.bk a'' j) hbl ⟨?_, fun j hj => .inr (.inr hj), fun j hj => ?_, _, ho, ?_⟩ (hc.mono fun j _ hj => hj.imp id (h1 j)) ?_
  · simp [Fo.one]; exact h0
  · have z := hc.size
    rcases hj with hj | hj | hj
    · exact ⟨(h2 j hj).1, by have := (h2 j hj).2; omega⟩
    · exact ⟨(hO2 j hj).1.1, by have := (hO2 j hj).1.2; omega⟩
    · exact ho.bk hj
  · obtain ⟨_, us, g3, g4⟩ := hps
    have na : ∀ j, j < w.heap.size → ¬ Sh.bk a j → ¬ Sh.bk a'' j := fun j hj hb' hh => (hn j hh).elim hb' (by omega)
    have hs : ∀ j, ((S j ∨ O j) ∧ ¬ Sh.bk a j) → j < w.heap.size → ((S j ∨ O j ∨ O2 j ∨ Sh.bk a'' j) ∧ ¬ Sh.bk a'' j) ∧ w'.heap[j]? = w.heap[j]? := fun j hj hl =>
      ⟨⟨hj.1.imp id fun h => .inl h, na j hl hj.2⟩, hc.block j hl fun hh => hh.elim (fun hb' => hj.1.elim (fun hs => by have := hSB j hs; omega) (fun ho => hnb (hb' ▸ ho))) hj.2⟩
    have hs2 : ∀ j, (S j ∨ O2 j) → j < w.heap.size → ((S j ∨ O j ∨ O2 j ∨ Sh.bk a'' j) ∧ ¬ Sh.bk a'' j) ∧ w'.heap[j]? = w.heap[j]? := fun j hj hl => by
      have nb : j ≠ b ∧ ¬ Sh.bk a j := hj.elim (fun h => ⟨by have := hSB j h; omega, fun hh => by have := (h2 j (h1 j hh)).1; have := hSB j h; omega⟩) (fun h => (hO2 j h).2)
      exact ⟨⟨hj.imp id fun h => .inr (.inl h), na j hl nb.2⟩, hc.block j hl fun hh => hh.elim nb.1 nb.2⟩
    exact (h4.keep hs hc.size).app ⟨a', c', us, [], rfl, g3.keep hs2 hc.size, g4.keep hs2 hc.size, rfl⟩
  · intro j hj
    rcases hj with hj | hj | hj
    · exact .inl hj
    · exact .inr (.inl hj)
    · rcases hn j hj with h' | h'
      · exact .inl (h1 j h')
      · exact .inr (.inr ⟨h', (ho.bk hj).2⟩)
end

/- the marks of ranges over functions, that a call lays down when it leaves -/
def marks (Dl : List Nat) : List Deferred := Dl.map fun D => { target := .collected D, args := #[] }
theorem retD_marks {K : World → Prop} : ∀ (Dl : List Nat) (W : World), Dl.Nodup → (∀ D ∈ Dl, W.heap[D]? = some (.deferred (some []))) → (∀ W', Chg (fun k => k ∈ Dl) W W' → K W') → retD (marks Dl) W K
  | [], W, _, _, h => h W (Chg.refl _ _)
  | D :: Dl, W, hn, hD, h => by
    rw [List.nodup_cons] at hn
    refine ⟨D, rfl, hD D (by simp), retD_marks Dl _ hn.2 (fun D' hD' => ?_) fun W' hc => h W' ?_⟩
    · rw [World.putObj_heap_other (fun e : D' = D => hn.1 (by rw [← e]; exact hD'))]; exact hD D' (by simp [hD'])
    · exact (Chg.put W D _ (by simp)).trans (hc.mono fun k _ hk => by simp [hk])
end Go.Sh
namespace Go.Proofs
open Go Go.Sh Go.RowKit
/- the pages lead forward; potentials, one out of those behind it -/
theorem pageF_cost {hh gg : Int} {q : PQ} {fr to : Nat} (hp : pchk hh gg q = true) (h1 : fr ≤ to) (h2 : to ≤ q.L.length) : 0 ≤ (pageF hh gg q fr to).1 ∧ (pageF hh gg q fr to).1 ≤ 20000 := by
  obtain ⟨f1, f2, f3, f4, f5, f6, f7⟩ := pchk_facts hp
  unfold pageF
  split
  · exact ⟨by decide, by decide⟩
  split
  · exact ⟨by decide, by decide⟩
  split
  · exact ⟨by decide, by decide⟩
  rename_i g1 g2 g3
  split
  · exact ⟨by decide, by decide⟩
  rename_i g4
  have hb := badF_range (IntKind.i64.wrap (hh - hgtF q gg fr to)) hh
  have hN : to - 1 < q.N.length := by omega
  have h0 := (f6 _ (List.getElem_mem hN)).1
  rw [gI_at hN] at g4 ⊢
  rw [wrap_id (by omega)]
  show 0 ≤ badF _ _ + q.N[to - 1] ∧ badF _ _ + q.N[to - 1] ≤ 20000
  omega
theorem pgK_mem {s : SV} {q : SQ} {f : Spot} {i : Nat} {a : Int × Int} : ∀ {m k : Nat} {x : Spot × Int}, x ∈ pgK s q f i a m k → x.1 ≠ f ∧ x.1.1 = i ∧ k ≤ x.1.2 ∧ x.1.2 < k + m ∧ x.2 = IntKind.i64.wrap (a.1 + (pageF s.rt.h s.rt.g q.rt f.2 x.1.2).1)
  | 0, _, _, h => by cases h
  | m + 1, k, x, h => by
    rw [pgK] at h
    split at h
    · obtain ⟨h1, h2, h3, h4, h5⟩ := pgK_mem h
      exact ⟨h1, h2, by omega, by omega, h5⟩
    rename_i hne
    split at h
    · cases h
    rw [List.mem_append] at h
    rcases h with h | h
    · split at h
      · rw [List.mem_singleton] at h
        subst h
        exact ⟨hne, rfl, Nat.le_refl _, by show k < k + (m + 1); omega, rfl⟩
      · cases h
    · obtain ⟨h1, h2, h3, h4, h5⟩ := pgK_mem h
      exact ⟨h1, h2, by omega, by omega, h5⟩
theorem pgI_mem {s : SV} {q : SQ} {f : Spot} : ∀ {m i : Nat} {x : Spot × Int}, x ∈ pgI s q f m i → x.1 ≠ f ∧ i ≤ x.1.1 ∧ x.1.1 < i + m ∧ f.2 ≤ x.1.2 ∧ x.1.2 < f.2 + (q.rt.L.length + 1 - f.2) ∧ x.2 = IntKind.i64.wrap ((pageF s.lf.h s.lf.g q.lf f.1 x.1.1).1 + (pageF s.rt.h s.rt.g q.rt f.2 x.1.2).1)
  | 0, _, _, h => by cases h
  | m + 1, i, x, h => by
    rw [pgI] at h
    split at h
    · cases h
    rw [List.mem_append] at h
    rcases h with h | h
    · obtain ⟨h1, h2, h3, h4, h5⟩ := pgK_mem h
      exact ⟨h1, by omega, by omega, h3, h4, by rw [h2]; exact h5⟩
    · obtain ⟨h1, h2, h3, h4⟩ := pgI_mem h
      exact ⟨h1, by omega, by omega, h4⟩
abbrev lastS (q : SQ) : Spot := (q.lf.L.length, q.rt.L.length)
theorem pages_facts {s : SV} {q : SQ} (hok : SdOk s q) {f : Spot} {x : Spot × Int} (h : x ∈ pagesF s q f) : x.1 ≠ f ∧ f.1 ≤ x.1.1 ∧ f.2 ≤ x.1.2 ∧ x.1.1 ≤ q.lf.L.length ∧ x.1.2 ≤ q.rt.L.length ∧ 0 ≤ x.2 ∧ x.2 ≤ 40000 := by
  obtain ⟨h1, h2, h3, h4, h5, h6⟩ := pgI_mem h
  have c1 := pageF_cost hok.lf h2 (show x.1.1 ≤ q.lf.L.length by omega)
  have c2 := pageF_cost hok.rt h4 (show x.1.2 ≤ q.rt.L.length by omega)
  rw [wrap_id (by omega)] at h6
  exact ⟨h1, h2, h4, by omega, by omega, by omega, by omega⟩
theorem fwd_pages {s : SV} {q : SQ} (hok : SdOk s q) : Fwd (lastS q) (pagesF s q) :=
  ⟨fun f x h => (pages_facts hok h).2.2.2.2.2.1, fun f x h => by
    obtain ⟨h1, h2, h3, h4, h5, _⟩ := pages_facts hok h
    exact ⟨h1, h2, h3, h4, h5⟩⟩
/- the potential of a spot -/
def potS (s : SV) (q : SQ) (f : Spot) : Int := potA (lastS q) (pagesF s q) (spots q.A) f
theorem potS_last (s : SV) (q : SQ) : potS s q (lastS q) = 0 := by
  unfold potS potA
  cases (lastS q).1 + (lastS q).2 with
  | zero => rfl
  | succ n => rw [potF, if_pos rfl]
theorem potS_step {s : SV} {q : SQ} (hok : SdOk s q) {f : Spot} (h1 : f.1 ≤ q.lf.L.length) (h2 : f.2 ≤ q.rt.L.length) (hne : f ≠ lastS q) : potS s q f = leastP ((filA q f (pagesF s q f)).map fun x => (x.2, potS s q x.1)) (-1) := by
  have hd : 0 < dis (lastS q) f := by
    rcases Nat.eq_zero_or_pos (dis (lastS q) f) with hz | hz
    · exfalso
      unfold dis at hz
      exact hne (Prod.ext (by show f.1 = q.lf.L.length; simp only at hz; omega) (by show f.2 = q.rt.L.length; simp only at hz; omega))
    · exact hz
  have hle : dis (lastS q) f ≤ (lastS q).1 + (lastS q).2 := by unfold dis; omega
  obtain ⟨n, hn⟩ : ∃ n, (lastS q).1 + (lastS q).2 = n + 1 := ⟨(lastS q).1 + (lastS q).2 - 1, by omega⟩
  unfold potS potA
  rw [hn, potF, if_neg hne]
  unfold filA
  congr 1
  refine List.map_congr_left fun x hx => ?_
  have hxm := (List.mem_filter.1 hx).1
  obtain ⟨_, _, _, h4, h5, _⟩ := pages_facts hok hxm
  have hdx := (fwd_pages hok).dis hxm
  rw [pot_fuel (fwd_pages hok) n (n + 1) x.1 h4 h5 (by omega) (by omega)]
theorem leastP_snoc : ∀ (l : List (Int × Int)) (x : Int × Int) (m : Int), leastP (l ++ [x]) m = if 0 ≤ x.2 ∧ (leastP l m < 0 ∨ x.1 + x.2 < leastP l m) then x.1 + x.2 else leastP l m
  | [], x, m => by rw [List.nil_append, leastP, leastP, leastP]
  | y :: l, x, m => by rw [List.cons_append, leastP, leastP_snoc l x, leastP]
theorem leastP_le2 {C : Int} : ∀ {l : List (Int × Int)} {m : Int}, (∀ x ∈ l, x.2 < 0 ∨ x.1 + x.2 ≤ C) → m ≤ C → leastP l m ≤ C
  | [], _, _, h => h
  | x :: l, m, hl, h => by
    rw [leastP]
    refine leastP_le2 (fun y hy => hl y (List.mem_cons_of_mem _ hy)) ?_
    have := hl x (List.mem_cons_self ..)
    split <;> omega
theorem pot_bound {s : SV} {q : SQ} (hok : SdOk s q) : ∀ (n : Nat) (f : Spot), -1 ≤ potF (lastS q) (pagesF s q) (ancA (spots q.A)) n f ∧ potF (lastS q) (pagesF s q) (ancA (spots q.A)) n f ≤ 40000 * n
  | 0, f => by rw [potF]; omega
  | n + 1, f => by
    rw [potF]
    split
    · omega
    · have hc : ∀ x ∈ ((pagesF s q f).filter fun x => ancA (spots q.A) f x.1).map fun x => (x.2, potF (lastS q) (pagesF s q) (ancA (spots q.A)) n x.1), 0 ≤ x.1 ∧ x.1 ≤ 40000 ∧ x.2 ≤ 40000 * n := by
        intro y hy
        obtain ⟨x, hx, rfl⟩ := List.mem_map.1 hy
        obtain ⟨_, _, _, _, _, h6, h7⟩ := pages_facts hok (List.mem_filter.1 hx).1
        exact ⟨h6, h7, (pot_bound hok n x.1).2⟩
      exact ⟨leastP_ge (fun x hx => (hc x hx).1) (by omega), leastP_le2 (fun x hx => .inr (by have := hc x hx; omega)) (by omega)⟩
theorem potS_bound {s : SV} {q : SQ} (hok : SdOk s q) (f : Spot) : -1 ≤ potS s q f ∧ potS s q f ≤ 40000 * ((q.lf.L.length + q.rt.L.length : Nat) : Int) := pot_bound hok _ f
/- the table of potentials, from a row on -/
structure MatP (w : World) (bo : Nat) (r : Nat → Nat) (nL nR i : Nat) (F : Nat → Nat → Int) : Prop where
  top : Blk w bo (fC nL fun j => if i ≤ j then .slice (some ⟨r j, 0, none⟩) nR nR else .slice none 0 0) 27
  row : ∀ j, i ≤ j → j < nL → Blk w (r j) (fC nR fun k => .int .i64 (F j k)) 3
  inj : ∀ j j', i ≤ j → j < nL → i ≤ j' → j' < nL → j ≠ j' → r j ≠ r j'
theorem MatP.ext {w w' : World} {bo : Nat} {r : Nat → Nat} {nL nR i : Nat} {F : Nat → Nat → Int} (h : MatP w bo r nL nR i F) (he : Ext w w') : MatP w' bo r nL nR i F := ⟨h.top.ext he, fun j h1 h2 => (h.row j h1 h2).ext he, h.inj⟩
theorem blk_ne {w : World} {b b' : Nat} {cs cs' : List Value} {T T' : TypeId} (h : Blk w b cs T) (h' : Blk w b' cs' T') (hT : T ≠ T') : b ≠ b' := fun e => hT (Blk.ty h (e ▸ h'))
theorem MatP.chg {w w' : World} {bo : Nat} {r : Nat → Nat} {nL nR i : Nat} {F : Nat → Nat → Int} {T : Nat → Prop} (h : MatP w bo r nL nR i F) (hc : Chg T w w') (h1 : ¬ T bo) (h2 : ∀ j, i ≤ j → j < nL → ¬ T (r j)) : MatP w' bo r nL nR i F :=
  ⟨hc.blk h.top h1, fun j a b => hc.blk (h.row j a b) (h2 j a b), h.inj⟩
/- what is deferred -/
structure DefA (w : World) (W : World) (Dl : List Nat) : Prop where
  nd : Dl.Nodup
  at_ : ∀ D ∈ Dl, w.heap.size ≤ D ∧ D < W.heap.size ∧ W.heap[D]? = some (.deferred (some []))
theorem DefA.ext {w W W' : World} {Dl : List Nat} (h : DefA w W Dl) (he : Ext W W') : DefA w W' Dl :=
  ⟨h.nd, fun D hD => by obtain ⟨h1, h2, h3⟩ := h.at_ D hD; exact ⟨h1, Nat.lt_of_lt_of_le h2 he.size, (he.block D h2).trans h3⟩⟩
theorem DefA.chg {w W W' : World} {Dl : List Nat} {b : Nat} {cs : List Value} {T : TypeId} (h : DefA w W Dl) (hB : Blk W b cs T) (hc : Chg (fun k => k = b) W W') : DefA w W' Dl :=
  ⟨h.nd, fun D hD => by
    obtain ⟨h1, h2, h3⟩ := h.at_ D hD
    refine ⟨h1, Nat.lt_of_lt_of_le h2 hc.size, (hc.block D h2 fun e => ?_).trans h3⟩
    subst e
    have : W.heap[D]? = _ := hB
    rw [this] at h3; cases h3⟩
theorem DefA.cons {w W : World} {Dl : List Nat} {D : Nat} (h : DefA w W Dl) (hD : w.heap.size ≤ D ∧ D < W.heap.size ∧ W.heap[D]? = some (.deferred (some []))) (hn : D ∉ Dl) : DefA w W (D :: Dl) :=
  ⟨List.nodup_cons.2 ⟨hn, h.nd⟩, fun x hx => (List.mem_cons.1 hx).elim (fun e => e ▸ hD) (h.at_ x)⟩
end Go.Proofs
namespace Go.Proofs
open Go Go.Sh Go.RowKit
/- facing: the table of potentials -/
theorem MatP.congr {w : World} {bo : Nat} {r : Nat → Nat} {nL nR i : Nat} {F G : Nat → Nat → Int} (h : MatP w bo r nL nR i F) (hF : ∀ j k, i ≤ j → j < nL → k < nR → F j k = G j k) : MatP w bo r nL nR i G :=
  ⟨h.top, fun j h1 h2 => by
    have e : (fC nR fun k => Value.int .i64 (G j k)) = fC nR fun k => .int .i64 (F j k) := fC_congr fun k hk => by rw [hF j k h1 h2 hk]
    rw [e]; exact h.row j h1 h2, h.inj⟩
theorem chgT {S S' : Nat → Prop} {A B C : World} (h : Chg S A B) (k : Chg S' B C) (hs : ∀ i, i < A.heap.size → S' i → S i) : Chg S A C :=
  ⟨k.os.trans h.os, k.tape.trans h.tape, k.output.trans h.output, Nat.le_trans h.size k.size, fun i hi hn => (k.block i (Nat.lt_of_lt_of_le hi h.size) (fun hh => hn (hs i hi hh))).trans (h.block i hi hn)⟩
section
variable {R : Ending → World → Prop} {S : Nat → Prop} {w : World}
set_option maxRecDepth 20000 in
theorem potentials_spec {s : SV} {q : SQ} (hV : SdV S w s q) (hok : SdOk s q)
    (h : ∀ bo r w', Ext w w' → MatP w' bo r (q.lf.L.length + 1) (q.rt.L.length + 1) 0 (fun j k => potS s q (j, k)) → R (.returned (.slice (some ⟨bo, 0, none⟩) (q.lf.L.length + 1) (q.lf.L.length + 1))) w') :
    Calls Try.prog F_facing_sides_potentials ⟨[.agg ⟨s.cs⟩]⟩ w R := by
  apply c_facing_sides_potentials
  obtain ⟨f1, f2, f3, f4, f5, f6, f7⟩ := pchk_facts hok.lf
  obtain ⟨g1, g2, g3, g4, g5, g6, g7⟩ := pchk_facts hok.rt
  have hll := hV.lf.l.1
  have hrl := hV.rt.l.1
  refine al_intro fun b14 w15 hb14 B14 e15 s15 => ?_
  refine ⟨_, _, _, bat B14 rfl, _, _, _, bat B14 rfl, _, _, _, bat B14 rfl, _, bat B14 rfl, _, bat B14 rfl, _, _, _, bat B14 rfl, _, _, _, bat B14 rfl, _, _, _, bat B14 rfl, _, bat B14 rfl, _, bat B14 rfl, _, _, _, bat B14 rfl, _, _, _, bat B14 rfl, _, _, _, bat B14 rfl, ?_⟩
  refine end_spec (s := s) (q := q) hll hrl fun w30 e30 => ⟨_, _, rfl, ?_⟩
  refine al_stL (by simp) (by intro v hv; simp only [List.mem_cons, List.not_mem_nil, or_false] at hv; rcases hv with rfl | rfl <;> rfl) fun b33 w35 hb33 B33 e35 s35 => ?_
  refine ⟨_, bat B33 rfl, ?_⟩
  rw [wrap_nat (by omega), Int.toNat_natCast]
  refine mks_intro (l := q.lf.L.length + 1) (c := q.lf.L.length + 1) (Nat.le_refl _) (by omega) fun bo w38 hbo Bo e38 s38 => ?_
  rw [fC_rep] at Bo
  refine al_stL rfl (by intro v hv; simp only [List.mem_singleton] at hv; subst hv; rfl) fun b39 w41 hb39 B39 e41 s41 => ?_
  have e3541 := ext_trans e38 e41
  have e1541 := ext_trans e30 (ext_trans e35 e3541)
  have e041 := ext_trans e15 e1541
  have z15 := e15.size
  have z30 := e30.size
  have z35 := e35.size
  have z38 := e38.size
  have z41 := e41.size
  refine ⟨_, bat (B33.ext e3541) rfl, ?_⟩
  generalize hnl : q.lf.L.length = nl at *
  generalize hnr : q.rt.L.length = nr at *
  have hlast : lastS q = (nl, nr) := by unfold lastS; rw [hnl, hnr]
  refine ⟨fun i ds W m => ∃ (ii : Nat) (Dl : List Nat) (r : Nat → Nat), i = (ii : Int) - 1 ∧ ii ≤ nl + 1 ∧ m = ii ∧ ds = marks Dl ∧ DefA w W Dl ∧ Ext w W ∧ Blk W b14 s.cs 77 ∧ Blk W b33 [.int .i64 nl, .int .i64 nr] 79 ∧ Blk W b39 [.slice (some ⟨bo, 0, none⟩) (nl + 1) (nl + 1)] 24 ∧
      MatP W bo r (nl + 1) (nr + 1) ii (fun j k => potS s q (j, k)) ∧ (∀ j, ii ≤ j → j < nl + 1 → w.heap.size ≤ r j),
    ⟨_, nl + 1, [], fun _ => 0, by omega, by omega, rfl, rfl, ⟨List.nodup_nil, fun D hD => by cases hD⟩, e041, B14.ext e1541, B33.ext e3541, B39, ⟨?_, fun j h1 h2 => by omega, fun j j' h1 h2 => by omega⟩, fun j h1 h2 => by omega⟩, ?_⟩
  · have e : (fC (nl + 1) fun j => if nl + 1 ≤ j then Value.slice (some ⟨0, 0, none⟩) (nr + 1) (nr + 1) else .slice none 0 0) = fC (nl + 1) fun _ => .slice none 0 0 := fC_congr fun j hj => by rw [if_neg (by omega)]
    rw [e]; exact Bo.ext e41
  rintro _ _ W m ⟨ii, Dl, r, rfl, hii, hmm, rfl, hD, eW, C14, C33, C39, hM, hr⟩ _
  subst m
  refine br_split (fun hge => ?_) (fun hlt => ?_)
  · obtain ⟨i0, rfl⟩ : ∃ i0, ii = i0 + 1 := ⟨ii - 1, by omega⟩
    have hi0 : ((i0 + 1 : Nat) : Int) - 1 = (i0 : Int) := by omega
    rw [hi0] at *
    unfold drw
    have ed := ext_drew W
    have eD := ext_trans eW ed
    have hD := hD.ext ed
    have C14 := C14.ext ed
    have C33 := C33.ext ed
    have C39 := C39.ext ed
    have hM := hM.ext ed
    generalize W.drew = V at *
    refine ⟨_, _, _, C39.cell 0, _, bat C33 rfl, ?_⟩
    refine ⟨?_, trivial⟩
    rw [wrap_nat (by omega), Int.toNat_natCast]
    refine mks_intro (l := nr + 1) (c := nr + 1) (Nat.le_refl _) (by omega) fun b52 w53 hb52 B52 e53 s53 => ?_
    rw [fC_rep] at B52
    refine idx_b1 (show i0 < nl + 1 by omega) ⟨?_, trivial⟩
    have hM := hM.ext e53
    have zD := eD.size
    have z53 := e53.size
    refine stL_fC hM.top (by omega) rfl fun w55 C55 c55 s55 => ?_
    have nbo : ∀ j, i0 + 1 ≤ j → j < nl + 1 → ¬ r j = bo := fun j h1 h2 => blk_ne (hM.row j h1 h2) hM.top (by decide)
    have e055 : Ext w w55 := ext_chgS (ext_trans eD e53) c55 fun k hk => by omega
    have hD55 := (hD.ext e53).chg hM.top c55
    have C1455 := c55.blk (C14.ext e53) (by omega)
    have C3355 := c55.blk (C33.ext e53) (by omega)
    have C3955 := c55.blk (C39.ext e53) (by omega)
    have hM55 : MatP w55 bo (fun j => if j = i0 then b52 else r j) (nl + 1) (nr + 1) i0 (fun j k => if j = i0 ∧ k < nr + 1 then 0 else potS s q (j, k)) := by
      refine ⟨?_, fun j h1 h2 => ?_, fun j j' h1 h2 h3 h4 hne => ?_⟩
      · have e : (fC (nl + 1) fun j => if i0 ≤ j then Value.slice (some ⟨if j = i0 then b52 else r j, 0, none⟩) (nr + 1) (nr + 1) else .slice none 0 0) =
            fC (nl + 1) fun j => if j = i0 then .slice (some ⟨b52, 0, none⟩) (nr + 1) (nr + 1) else if i0 + 1 ≤ j then .slice (some ⟨r j, 0, none⟩) (nr + 1) (nr + 1) else .slice none 0 0 := fC_congr fun j hj => by
          by_cases e : j = i0
          · rw [if_pos (by omega), if_pos e, if_pos e]
          · rw [if_neg e, if_neg e]
            by_cases e2 : i0 + 1 ≤ j
            · rw [if_pos e2, if_pos (by omega)]
            · rw [if_neg e2, if_neg (by omega)]
        rw [e]; exact C55
      · by_cases e : j = i0
        · simp only [if_pos e]
          have e2 : (fC (nr + 1) fun k => Value.int .i64 (if j = i0 ∧ k < nr + 1 then 0 else potS s q (j, k))) = fC (nr + 1) fun _ => .int .i64 0 := fC_congr fun k hk => by rw [if_pos ⟨e, hk⟩]
          rw [e2]
          exact c55.blk B52 (by have := hM.top.lt; have := blk_ne B52 hM.top (by decide); omega)
        · simp only [if_neg e]
          have e2 : (fC (nr + 1) fun k => Value.int .i64 (if j = i0 ∧ k < nr + 1 then 0 else potS s q (j, k))) = fC (nr + 1) fun k => .int .i64 (potS s q (j, k)) := fC_congr fun k hk => by rw [if_neg (fun hh => e hh.1)]
          rw [e2]
          exact c55.blk (hM.row j (by omega) h2) (nbo j (by omega) h2)
      · by_cases e : j = i0
        · have hj' : j' ≠ i0 := fun e' => hne (e.trans e'.symm)
          simp only [if_pos e, if_neg hj']
          intro hh
          have := (hM.row j' (by omega) h4).lt
          have hnew : b52 < V.heap.size → False := fun hx => by omega
          have hrow := hM.row j' (by omega) h4
          rw [← hh] at hrow
          exact absurd (hr j' (by omega) h4) (fun _ => by
            have hlt := ‹∀ j, i0 + 1 ≤ j → j < nl + 1 → w.heap.size ≤ r j›
            exact hnew (by
              have := (‹MatP V bo r (nl + 1) (nr + 1) (i0 + 1) (fun j k => potS s q (j, k))›.row j' (by omega) h4).lt
              omega))
        · by_cases e' : j' = i0
          · simp only [if_neg e, if_pos e']
            intro hh
            have := (‹MatP V bo r (nl + 1) (nr + 1) (i0 + 1) (fun j k => potS s q (j, k))›.row j (by omega) h2).lt
            omega
          · simp only [if_neg e, if_neg e']
            exact hM.inj j j' (by omega) h2 (by omega) h4 hne
    have hr55 : ∀ j, i0 ≤ j → j < nl + 1 → w.heap.size ≤ (fun j => if j = i0 then b52 else r j) j := fun j h1 h2 => by
      by_cases e : j = i0
      · simp only [if_pos e]; omega
      · simp only [if_neg e]; exact hr j (by omega) h2
    generalize (fun j => if j = i0 then b52 else r j) = r5 at *
    refine ⟨_, bat C3355 rfl, ?_⟩
    refine ⟨fun k ds W m => ∃ (kk : Nat) (Dl : List Nat), k = (kk : Int) - 1 ∧ kk ≤ nr + 1 ∧ m = kk ∧ ds = marks Dl ∧ DefA w W Dl ∧ Ext w W ∧ Blk W b14 s.cs 77 ∧ Blk W b33 [.int .i64 nl, .int .i64 nr] 79 ∧ Blk W b39 [.slice (some ⟨bo, 0, none⟩) (nl + 1) (nl + 1)] 24 ∧
        MatP W bo r5 (nl + 1) (nr + 1) i0 (fun j k => if j = i0 ∧ k < kk then 0 else potS s q (j, k)),
      ⟨_, nr + 1, Dl, by omega, by omega, rfl, rfl, hD55, e055, C1455, C3355, C3955, hM55⟩, ?_⟩
    rintro _ _ W2 m ⟨kk, Dl2, rfl, hkk, hmm, rfl, hD2, eW2, C14, C33, C39, hM2⟩ _
    subst m
    refine br_split (fun hge2 => ?_) (fun hlt2 => ?_)
    · obtain ⟨k0, rfl⟩ : ∃ k0, kk = k0 + 1 := ⟨kk - 1, by omega⟩
      have hk0 : ((k0 + 1 : Nat) : Int) - 1 = (k0 : Int) := by omega
      rw [hk0] at *
      intro K63 hK63
      have k63 : (i0, k0) ≠ lastS q → K63 W2 := by
        intro hne
        refine hK63 _ fun _ => ?_
        refine al_stL rfl (by intro v hv; simp only [List.mem_singleton] at hv; subst hv; rfl) fun b65 w67 hb65 B65 e67 s67 => ?_
        have C14 := C14.ext e67
        have eW67 := ext_trans eW2 e67
        refine ⟨_, _, _, bat C14 rfl, _, _, _, bat C14 rfl, _, _, _, bat C14 rfl, _, bat C14 rfl, _, bat C14 rfl, _, _, _, bat C14 rfl, _, _, _, bat C14 rfl, _, _, _, bat C14 rfl, _, bat C14 rfl, _, bat C14 rfl, _, _, _, bat C14 rfl, _, _, _, bat C14 rfl, _, _, _, bat C14 rfl, ?_⟩
        apply c_facing_sides_pages
        refine al_intro fun bs wa hbs Bs ea sa => al_intro fun bf w82 hbf Bf eb sb => ⟨_, _, _, rfl, fun base => ?_⟩
        have e6782 := ext_trans ea eb
        have e282 := ext_trans e67 e6782
        have e082 := ext_trans eW2 e282
        have z67 := e67.size
        have za := ea.size
        have zb := eb.size
        have zW2 := eW2.size
        have B65' := B65.ext e6782
        have hM82 := hM2.ext e282
        have C14 := C14.ext e6782
        have C33 := C33.ext e282
        have C39 := C39.ext e282
        have hD82 := hD2.ext e282
        have l65 := B65.lt
        have lbs := Bs.lt
        have hV82 : SdV (fun k => S k ∧ k < w.heap.size) w82 s q := (hV.imp fun k hk hl => ⟨hk, hl⟩).ext e082
        rw [cd_facing_sides_potentials_1]
        have hread : ∀ (x : Spot × Int) (W : World), x ∈ pagesF s q (i0, k0) → Chg (fun k => k = b65) w82 W → ∃ b, (∀ K : Addr → Prop, K ⟨bo, x.1.1, none⟩ → idx (some ⟨bo, 0, none⟩) (nl + 1) (x.1.1 : Int) 1 K) ∧ W.cell? ⟨bo, x.1.1, none⟩ = some (.slice (some ⟨b, 0, none⟩) (nr + 1) (nr + 1)) ∧
            (∀ K : Addr → Prop, K ⟨b, x.1.2, none⟩ → idx (some ⟨b, 0, none⟩) (nr + 1) (x.1.2 : Int) 1 K) ∧ W.cell? ⟨b, x.1.2, none⟩ = some (.int .i64 (potS s q x.1)) := by
          intro x W hx hc
          obtain ⟨h1, h2, h3, h4, h5, _⟩ := pages_facts hok hx
          rw [hnl] at h4
          rw [hnr] at h5
          have h2 : i0 ≤ x.1.1 := h2
          have h3 : k0 ≤ x.1.2 := h3
          have hMW := hM82.chg hc (fun e => blk_ne hM82.top B65' (by decide) e) (fun j h1 h2 e => by
            have := (hM2.row j h1 h2).lt
            omega)
          refine ⟨r5 x.1.1, fun K hK => idx_b1 (by omega) hK, ?_, fun K hK => idx_b1 (by omega) hK, ?_⟩
          · rw [hMW.top.cell, fC_get (by omega), if_pos h2]
          · rw [(hMW.row x.1.1 h2 (by omega)).cell, fC_get (by omega), if_neg]
            rintro ⟨e1, e2⟩
            exact h1 (Prod.ext e1 (by show x.1.2 = k0; omega))
        refine RFw_lawO anA_facing_sides_potentials_1 anB_facing_sides_potentials_1 (gf := F_facing_sides_pages_1) rfl (by kernel_rfl) (xs := filA q (i0, k0) (pagesF s q (i0, k0))) (E := PgE) (Rd := fun k => k = bs ∨ k = bf ∨ (S k ∧ k < w.heap.size))
          (fun w1 hw1 => ?_) (fun y vs hE => by rw [show vs = _ from hE]; rfl) (by decide) (fun k hk => by rcases hk with rfl | rfl | hk <;> omega)
          (fun k => k = b65) (fun k hk => ⟨by omega, fun hh => by rcases hh with hh | hh | hh <;> omega⟩)
          (fun pre S1 W => (∀ k, S1 k ↔ k = b65) ∧ Chg (fun k => k = b65) w82 W ∧ Blk W b65 [.int .i64 (leastP (pre.map fun x => (x.2, potS s q x.1)) (-1))] 3)
          (fun _ _ => False) (fun _ _ => False) ?_ (fun _ _ _ h => h.elim) (fun _ _ _ h => h.elim) ⟨fun k => Iff.rfl, Chg.refl _ _, B65'⟩ ?_ ?_ (fun _ _ _ _ _ _ _ h => h.elim) (fun _ _ _ _ _ _ _ h => h.elim)
        · have eq : (fun k => k = bs ∨ k = bf ∨ ((S k ∧ k < w.heap.size) ∧ k < w1.heap.size)) = (fun k => k = bs ∨ k = bf ∨ (S k ∧ k < w.heap.size)) := by
            funext k
            have := hw1.size
            have := e082.size
            exact propext ⟨fun hh => hh.imp id (fun q => q.imp id (fun t => t.1)), fun hh => hh.imp id (fun q => q.imp id (fun t => ⟨t, by omega⟩))⟩
          have := pages_iterO (w := w1) (S := fun k => S k ∧ k < w.heap.size) (s := s) (q := q) (f := (i0, k0)) (hV82.ext hw1) hok ((Bs.ext eb).ext hw1) (Bf.ext hw1) (by show i0 ≤ _; omega) (by show k0 ≤ _; omega)
          rw [eq] at this; exact this
        · rintro pre S1 W W' ⟨i1, i2, i3⟩ hc
          refine ⟨i1, chgT i2 hc fun k hk hh => by omega, hc.blk i3 fun hh => hh.2 ((i1 _).2 rfl)⟩
        · rintro pre x vs S1 W l hE hpre hl1 hl2 hl3 hS1 ⟨i1, i2, i3⟩
          obtain rfl : vs = [.agg ⟨[.int .i64 x.1.1, .int .i64 x.1.2]⟩, .int .i64 x.2] := hE
          have hxm : x ∈ pagesF s q (i0, k0) := (List.mem_filter.1 (mem_of_prefix hpre)).1
          obtain ⟨x1, x2, x3, x4, x5, x6, x7⟩ := pages_facts hok hxm
          refine Eq.mpr (er_facing_sides_potentials_1 base _ _ _ _ _ _ _ _ _ _ _ _ _ _ _ _ _ _ _ _) ?_
          refine al_stL (by simp) (by intro v hv; simp only [List.mem_cons, List.not_mem_nil, or_false] at hv; rcases hv with rfl | rfl <;> rfl) fun bp W1 hbp Bp ep sp => ⟨ep, fun W2' hU => ?_⟩
          have zU := hU.size
          have zp := ep.size
          have hUc : Chg (fun k => k = l) W1 W2' := ⟨hU.os, hU.tape, hU.output, by omega, fun k _ hk => hU.block k hk⟩
          have zi := i2.size
          have c2 : Chg (fun k => k = b65) w82 W2' := chgT (chgT i2 (Chg.of_ext (S := fun _ => False) ep) fun k _ hh => hh.elim) hUc fun k hk hh => by omega
          have B2 := hUc.blk (i3.ext ep) (by omega)
          have Bp2 := hUc.blk Bp (by omega)
          unfold drw
          have ed := ext_drew W2'
          have c3 := c2.trans (.of_ext ed)
          have B3 := B2.ext ed
          have Bp3 := Bp2.ext ed
          have C393 : Blk W2'.drew b39 [.slice (some ⟨bo, 0, none⟩) (nl + 1) (nl + 1)] 24 := c3.blk C39 (by have := blk_ne C39 B65' (by decide); exact this)
          have zd := ed.size
          generalize W2'.drew = V3 at *
          obtain ⟨rb, hq1, d1, hq2, d2⟩ := hread x V3 hxm c3
          have hb := potS_bound hok x.1
          refine dr_ok ⟨_, _, _, C393.cell 0, _, bat Bp3 rfl, hq1 _ ⟨_, _, _, d1, _, bat Bp3 rfl, hq2 _ ⟨_, d2, ?_⟩⟩⟩
          have hsn : ((pre ++ [x]).map fun x => (x.2, potS s q x.1)) = (pre.map fun x => (x.2, potS s q x.1)) ++ [(x.2, potS s q x.1)] := by rw [List.map_append]; rfl
          have hw2 : IntKind.i64.wrap (x.2 + potS s q x.1) = x.2 + potS s q x.1 := wrap_id (by omega)
          generalize hm : leastP (pre.map fun x => (x.2, potS s q x.1)) (-1) = m0 at *
          have done : ∀ (W' : World), Chg (fun k => k = b65) V3 W' → Blk W' b65 [.int .i64 (if 0 ≤ potS s q x.1 ∧ (m0 < 0 ∨ x.2 + potS s q x.1 < m0) then x.2 + potS s q x.1 else m0)] 3 →
              Chg (fun k => S1 k ∨ W.heap.size ≤ k) W2' W' ∧ ∃ S' : Nat → Prop, (∀ k, S' k → (S1 k ∨ W.heap.size ≤ k) ∧ k < W'.heap.size) ∧ (∀ k, S' k ↔ k = b65) ∧ Chg (fun k => k = b65) w82 W' ∧ Blk W' b65 [.int .i64 (leastP ((pre ++ [x]).map fun x => (x.2, potS s q x.1)) (-1))] 3 := by
            intro W' hc hB
            have zz := hc.size
            refine ⟨(Chg.of_ext ed).trans (hc.mono fun k _ hk => .inl ((i1 k).2 hk)), S1, fun k hk => ⟨.inl hk, by have := (i1 k).1 hk; omega⟩, i1, c3.trans hc, ?_⟩
            rw [hsn, leastP_snoc, hm]; exact hB
          intro K128 hK128
          have k128 : ∀ b : Bool, b = decide (0 ≤ potS s q x.1 ∧ (m0 < 0 ∨ x.2 + potS s q x.1 < m0)) → K128 b V3 := by
            intro b hbb
            refine hK128 _ _ fun _ => br_cases (fun g => dr_ok ?_) (fun g => ?_)
            · rw [g] at hbb
              rw [hw2]
              refine stL_one B3 rfl fun w131 B131 c131 s131 => done w131 c131 ?_
              rw [if_pos (of_decide_eq_true hbb.symm)]; exact B131
            · rw [g] at hbb
              refine done V3 (Chg.refl _ _) ?_
              rw [if_neg (of_decide_eq_false hbb.symm)]; exact B3
          refine br_split (fun ga => dr_ok ⟨_, B3.cell 0, br_split (fun gb => k128 _ ?_) (fun gb => dr_ok ⟨_, B3.cell 0, k128 _ ?_⟩)⟩) (fun ga => k128 _ ?_)
          · rw [decide_eq_true ⟨ga, .inl gb⟩]
          · rw [hw2]
            refine decide_eq_decide.2 ⟨fun hh => ⟨ga, .inr hh⟩, fun hh => hh.2.resolve_left gb⟩
          · rw [decide_eq_false fun hh => ga hh.1]
        · rintro D S1 W hD1 hD2' hD3 hD4 ⟨i1, i2, i3⟩
          rw [← potS_step hok (by show i0 ≤ _; omega) (by show k0 ≤ _; omega) hne] at i3
          try unfold drw
          have ed := ext_drew W
          have i2 := i2.trans (.of_ext ed)
          have i3 := i3.ext ed
          have hD4 : W.drew.heap[D]? = some (.deferred (some [])) := hD4
          have zd := ed.size
          generalize W.drew = V7 at *
          have hMV := hM82.chg i2 (fun e => blk_ne hM82.top B65' (by decide) e) (fun j h1 h2 e => by
            have := (hM2.row j h1 h2).lt
            omega)
          have C39V := i2.blk C39 (by have := blk_ne C39 B65' (by decide); exact this)
          have C14V := i2.blk C14 (by have := blk_ne C14 B65' (by decide); exact this)
          have C33V := i2.blk C33 (by have := blk_ne C33 B65' (by decide); exact this)
          have hDV := hD82.chg B65' i2
          have hrowV := hMV.row i0 (Nat.le_refl _) (by omega)
          refine ⟨_, _, _, C39V.cell 0, idx_b1 (show i0 < nl + 1 by omega) ⟨_, _, _, by rw [hMV.top.cell, fC_get (by omega), if_pos (Nat.le_refl _)], _, i3.cell 0, idx_b1 (show k0 < nr + 1 by omega) ⟨?_, trivial⟩⟩⟩
          refine stL_fC hrowV (by omega) rfl fun w95 C95 c95 s95 => ?_
          have hri : w.heap.size ≤ r5 i0 := hr55 i0 (Nat.le_refl _) (by omega)
          refine ⟨k0, by omega, k0, D :: Dl2, by rw [wrap_id (by omega)], by omega, rfl, rfl, ?_, ?_, ?_, ?_, ?_, ?_⟩
          · refine DefA.chg ?_ hrowV c95
            refine hDV.cons ⟨by omega, by omega, hD4⟩ fun hm => ?_
            have := (hD82.at_ D hm).2.1
            omega
          · exact ext_chgS (ext_chgS e082 i2 fun k hk => by omega) c95 fun k hk => by omega
          · exact c95.blk C14V (blk_ne C14V hrowV (by decide))
          · exact c95.blk C33V (blk_ne C33V hrowV (by decide))
          · exact c95.blk C39V (blk_ne C39V hrowV (by decide))
          · refine ⟨c95.blk hMV.top (blk_ne hMV.top hrowV (by decide)), fun j h1 h2 => ?_, hMV.inj⟩
            by_cases e : j = i0
            · subst e
              have e2 : (fC (nr + 1) fun k => Value.int .i64 (if j = j ∧ k < k0 then 0 else potS s q (j, k))) = fC (nr + 1) fun k => if k = k0 then .int .i64 (potS s q (j, k0)) else .int .i64 (if j = j ∧ k < k0 + 1 then 0 else potS s q (j, k)) := fC_congr fun k hk => by
                by_cases e3 : k = k0
                · rw [if_pos e3, if_neg (by omega), e3]
                · rw [if_neg e3]
                  congr 1
                  by_cases e4 : k < k0
                  · rw [if_pos ⟨rfl, e4⟩, if_pos ⟨rfl, by omega⟩]
                  · rw [if_neg (by omega), if_neg (by omega)]
              rw [e2]; exact C95
            · have e2 : (fC (nr + 1) fun k => Value.int .i64 (if j = i0 ∧ k < k0 then 0 else potS s q (j, k))) = fC (nr + 1) fun k => .int .i64 (if j = i0 ∧ k < k0 + 1 then 0 else potS s q (j, k)) := fC_congr fun k hk => by
                rw [if_neg (fun hh => e hh.1), if_neg (fun hh => e hh.1)]
              rw [e2]
              exact c95.blk (hMV.row j h1 h2) (hMV.inj j i0 h1 h2 (Nat.le_refl _) (by omega) e)
      refine ⟨_, bat C33 rfl, br_split (fun ga => ⟨_, bat C33 rfl, br_split (fun gb => ?_) (fun gb => k63 ?_)⟩) (fun ga => k63 ?_)⟩
      · refine ⟨k0, by omega, k0, Dl2, by rw [wrap_id (by omega)], by omega, rfl, rfl, hD2, eW2, C14, C33, C39, hM2.congr fun j k h1 h2 h3 => ?_⟩
        by_cases e : j = i0 ∧ k < k0
        · rw [if_pos e, if_pos ⟨e.1, by omega⟩]
        · rw [if_neg e]
          by_cases e2 : j = i0 ∧ k < k0 + 1
          · rw [if_pos e2]
            have : (j, k) = lastS q := by rw [hlast]; exact Prod.ext (by show j = nl; omega) (by show k = nr; omega)
            rw [this, potS_last]
          · rw [if_neg e2]
      · rw [hlast]
        intro hh
        have := congrArg Prod.snd hh
        exact gb (by simp only at this; omega)
      · rw [hlast]
        intro hh
        have := congrArg Prod.fst hh
        exact ga (by simp only at this; omega)
    · have hk0 : kk = 0 := by omega
      subst hk0
      refine ⟨i0, by omega, i0, Dl2, r5, by rw [wrap_id (by omega)], by omega, rfl, rfl, hD2, eW2, C14, C33, C39, hM2.congr fun j k h1 h2 h3 => by rw [if_neg (by omega)], hr55⟩
  · have h0 : ii = 0 := by omega
    subst h0
    refine ⟨_, _, _, C39.cell 0, ?_⟩
    refine retD_marks Dl W hD.nd (fun D hm => (hD.at_ D hm).2.2) fun W' hc => ?_
    have hne : ∀ {b : Nat} {cs : List Value} {T : TypeId}, Blk W b cs T → ¬ b ∈ Dl := fun hB hm => by
      have h1 := (hD.at_ _ hm).2.2
      rw [show W.heap[_]? = _ from hB] at h1; cases h1
    refine h bo r W' (ext_chgS eW hc fun k hk => (hD.at_ k hk).1) (hM.chg hc (hne hM.top) fun j h1 h2 => hne (hM.row j h1 h2))
end
end Go.Proofs
namespace Go.Proofs
open Go Go.Sh Go.RowKit
/- facing.Check, Potentials -/
def ancR (nl nr : Nat) (l : List Int) : Bool := decide (0 ≤ gI l 0) && (decide (gI l 0 < nl) && (decide (0 ≤ gI l 1) && decide (gI l 1 < nr)))
def ancI (A : List (List Int)) (nl nr i : Nat) : Bool := decide ((A.getD i []).length = 2) && (ancR nl nr (A.getD i []) && (decide (i = 0) || (decide (gI (A.getD (i - 1) []) 0 < gI (A.getD i []) 0) && decide (gI (A.getD (i - 1) []) 1 < gI (A.getD i []) 1))))
def fchk (xl xr : PV) (q : SQ) : Bool := pchk xl.h xl.g q.lf && (pchk xr.h xr.g q.rt && (decide ((q.lf.L.length + 1) * (q.rt.L.length + 1) ≤ 65536) && (List.range q.A.length).all (ancI q.A q.lf.L.length q.rt.L.length)))
theorem fchk_facts {xl xr : PV} {q : SQ} (h : fchk xl xr q = true) : pchk xl.h xl.g q.lf = true ∧ pchk xr.h xr.g q.rt = true ∧ ∀ l ∈ q.A, l.length = 2 ∧ 0 ≤ gI l 0 ∧ gI l 0 < q.lf.L.length ∧ 0 ≤ gI l 1 ∧ gI l 1 < q.rt.L.length := by
  unfold fchk at h
  simp only [Bool.and_eq_true] at h
  obtain ⟨h1, h2, _, h4⟩ := h
  refine ⟨h1, h2, fun l hl => ?_⟩
  obtain ⟨i, hi, rfl⟩ := List.mem_iff_getElem.1 hl
  have := range_all.1 h4 i hi
  unfold ancI ancR at this
  rw [getD_at hi] at this
  simp only [Bool.and_eq_true, decide_eq_true_eq] at this
  obtain ⟨a, ⟨b, c, d, e⟩, _⟩ := this
  exact ⟨a, b, c, d, e⟩
section
variable {R : Ending → World → Prop} {S : Nat → Prop} {w : World}
set_option maxRecDepth 20000 in
theorem fCheck_spec {xl xr : PV} {an : Slv} {q : SQ} (hl : PrV S w xl q.lf) (hr : PrV S w xr q.rt) (hA : RowV vIs S w an.1 an.2.1 q.A) (hAl : q.A.length ≤ 1000000)
    (h : ∀ (e : Int) w', Ext w w' → decide (e = 0) = fchk xl xr q → R (.returned (.int .i64 e)) w') : Calls Try.prog F_facing_Check ⟨[.agg ⟨xl.cs⟩, .agg ⟨xr.cs⟩, .slice an.1 an.2.1 an.2.2]⟩ w R := by
  apply c_facing_Check
  have hll := hl.l.1
  have hrl := hr.l.1
  have hal := hA.1
  refine al_intro fun b12 w13 hb12 B12 e13 s13 => al_intro fun b14 w15 hb14 B14 e15 s15 => ?_
  have e015 := ext_trans e13 e15
  have B12 := B12.ext e15
  intro K16 hK16
  have k16 : ∀ V, Ext w15 V → pchk xl.h xl.g q.lf = true → pchk xr.h xr.g q.rt = true → K16 V := by
    intro V eV hp1 hp2
    obtain ⟨f1, _⟩ := pchk_facts hp1
    obtain ⟨g1, _⟩ := pchk_facts hp2
    have e0V := ext_trans e015 eV
    have B12 := B12.ext eV
    have B14 := B14.ext eV
    have no : ∀ (e : Int) W, Ext w W → e ≠ 0 → (decide ((q.lf.L.length + 1) * (q.rt.L.length + 1) ≤ 65536) && (List.range q.A.length).all (ancI q.A q.lf.L.length q.rt.L.length)) = false → R (.returned (.int .i64 e)) W := fun e W eW he hf => h e W eW (by
      unfold fchk
      rw [decide_eq_false he, hf, Bool.and_false, Bool.and_false])
    refine hK16 _ fun _ => ⟨_, _, _, bat B12 rfl, _, _, _, bat B14 rfl, ?_⟩
    have hmul : IntKind.i64.wrap (IntKind.i64.wrap ((xl.l.2.1 : Int) + 1) * IntKind.i64.wrap ((xr.l.2.1 : Int) + 1)) = (((q.lf.L.length + 1) * (q.rt.L.length + 1) : Nat) : Int) := by
      rw [wrap_nat (by omega), wrap_nat (by omega), ← Int.natCast_mul, hll, hrl]
      have : (q.lf.L.length + 1) * (q.rt.L.length + 1) ≤ 4097 * 4097 := Nat.mul_le_mul (by omega) (by omega)
      exact wrap_id (by omega)
    rw [hmul]
    refine br_split (fun g => no _ V e0V (by decide) (by rw [decide_eq_false (by omega), Bool.false_and])) (fun g => ?_)
    have hmok : decide ((q.lf.L.length + 1) * (q.rt.L.length + 1) ≤ 65536) = true := decide_eq_true (by omega)
    rw [hmok] at no
    refine ⟨fun i W m => ∃ k : Nat, i = k ∧ k ≤ an.2.1 ∧ m = an.2.1 - k ∧ (List.range k).all (ancI q.A q.lf.L.length q.rt.L.length) = true ∧ Ext V W, ⟨_, 0, rfl, by omega, rfl, rfl, Below.refl _ _⟩, ?_⟩
    rintro _ W m ⟨k, rfl, hk, rfl, hall, eW⟩ _
    have e0W := ext_trans e0V eW
    refine br_split (fun hlt => ?_) (fun hge => ?_)
    · have hkA : k < q.A.length := by omega
      have gA : q.A.getD k [] = q.A[k] := getD_at hkA _
      have no2 : ∀ (e : Int) W, Ext w W → e ≠ 0 → ancI q.A q.lf.L.length q.rt.L.length k = false → R (.returned (.int .i64 e)) W := fun e W eW he hf => no e W eW he (by rw [range_all_no hkA hf, Bool.and_false])
      obtain ⟨b14', o14, a15, c15, hq1, _, _, hc1, _, hrow⟩ := (hA.ext e0W).getS (List.getElem?_eq_getElem hkA)
      refine hq1 _ ⟨_, _, _, hc1, br_split (fun g2 => no2 _ W e0W (by decide) ?_) (fun g2 => ?_)⟩
      · unfold ancI
        rw [gA, decide_eq_false (by omega), Bool.false_and]
      have h2 : q.A[k].length = 2 := by omega
      have hI : ancI q.A q.lf.L.length q.rt.L.length k = (ancR q.lf.L.length q.rt.L.length q.A[k] && (decide (k = 0) || (decide (gI (q.A.getD (k - 1) []) 0 < gI q.A[k] 0) && decide (gI (q.A.getD (k - 1) []) 1 < gI q.A[k] 1)))) := by
        unfold ancI
        rw [gA, decide_eq_true h2, Bool.true_and]
      intro K27 hK27
      have k27 : ∀ (b : Bool) (W2 : World), Ext W W2 → b = !ancR q.lf.L.length q.rt.L.length q.A[k] → K27 b W2 := by
        intro b W2 eW2 hb
        have e0W2 := ext_trans e0W eW2
        refine hK27 _ _ fun _ => br_cases (fun gb => no2 _ W2 e0W2 (by decide) ?_) (fun gb => ?_)
        · rw [gb] at hb
          rw [hI, (by simpa using hb.symm : ancR q.lf.L.length q.rt.L.length q.A[k] = false), Bool.false_and]
        · rw [gb] at hb
          have hR : ancR q.lf.L.length q.rt.L.length q.A[k] = true := by simpa using hb.symm
          rw [hR, Bool.true_and] at hI
          unfold drw
          have ed := ext_drew W2
          have e0D := ext_trans e0W2 ed
          have hrowD := (hrow.ext eW2).ext ed
          have eVD := ext_trans (ext_trans eW eW2) ed
          generalize W2.drew = V30 at *
          have next : ∀ (hok : (decide (k = 0) || (decide (gI (q.A.getD (k - 1) []) 0 < gI q.A[k] 0) && decide (gI (q.A.getD (k - 1) []) 1 < gI q.A[k] 1))) = true), ∃ m43 : Nat, m43 < an.2.1 - k ∧ ∃ k' : Nat, IntKind.i64.wrap ((k : Int) + 1) = k' ∧ k' ≤ an.2.1 ∧ m43 = an.2.1 - k' ∧ (List.range k').all (ancI q.A q.lf.L.length q.rt.L.length) = true ∧ Ext V V30 := fun hok =>
            ⟨an.2.1 - (k + 1), by omega, k + 1, by rw [wrap_nat (by omega)], by omega, rfl, by rw [List.range_succ, List.all_append, hall, List.all_cons, List.all_nil, hI, hok]; rfl, eVD⟩
          refine br_split (fun g3 => ?_) (fun g3 => next (by rw [decide_eq_true (by omega)]; rfl))
          have hk1 : k - 1 < q.A.length := by omega
          have gA1 : q.A.getD (k - 1) [] = q.A[k - 1] := getD_at hk1 _
          have hprev : q.A[k - 1].length = 2 := by
            have := range_all.1 hall (k - 1) (by omega)
            unfold ancI at this
            rw [gA1] at this
            simp only [Bool.and_eq_true, decide_eq_true_eq] at this
            exact this.1
          obtain ⟨b15, o15, a16, c16, hq2, _, _, hc2, _, hrow2⟩ := (hA.ext e0D).getS (List.getElem?_eq_getElem hk1)
          obtain ⟨p0, hp0, d0⟩ := hrowD.int (k := 0) (by omega)
          obtain ⟨p1, hp1', d1⟩ := hrowD.int (k := 1) (by omega)
          obtain ⟨q0, hq0, c0⟩ := hrow2.int (k := 0) (by omega)
          obtain ⟨q1, hq1', c1⟩ := hrow2.int (k := 1) (by omega)
          rw [← gI_at (by omega)] at d0 d1 c0 c1
          rw [gA1] at hI next
          have hk0 : decide (k = 0) = false := decide_eq_false (by omega)
          rw [hk0, Bool.false_or] at hI next
          rw [wrap_id (by omega), show (k : Int) - 1 = ((k - 1 : Nat) : Int) by omega]
          refine hp0 _ ⟨_, d0, hq2 _ ⟨_, _, _, hc2, hq0 _ ⟨_, c0, br_split (fun g4 => no2 _ V30 e0D (by decide) (by rw [hI, decide_eq_false (by omega), Bool.false_and])) (fun g4 => ?_)⟩⟩⟩
          refine hp1' _ ⟨_, d1, hq2 _ ⟨_, _, _, hc2, hq1' _ ⟨_, c1, br_split (fun g5 => no2 _ V30 e0D (by decide) (by rw [hI, decide_eq_false (show ¬ gI q.A[k - 1] 1 < gI q.A[k] 1 by omega), Bool.and_false])) (fun g5 => ?_)⟩⟩⟩
          exact next (by rw [decide_eq_true (show gI q.A[k - 1] 0 < gI q.A[k] 0 by omega), decide_eq_true (show gI q.A[k - 1] 1 < gI q.A[k] 1 by omega)]; rfl)
      unfold drw
      have ed := ext_drew W
      have hrowD := hrow.ext ed
      have B12 := (B12.ext eW).ext ed
      have B14 := (B14.ext eW).ext ed
      generalize W.drew = V45 at *
      obtain ⟨p0, hp0, d0⟩ := hrowD.int (k := 0) (by omega)
      obtain ⟨p1, hp1', d1⟩ := hrowD.int (k := 1) (by omega)
      rw [← gI_at (by omega)] at d0 d1
      unfold ancR at k27
      refine hp0 _ ⟨_, d0, br_split (fun g3 => k27 _ _ ed (by rw [decide_eq_false (by omega)]; rfl)) (fun g3 => ?_)⟩
      refine hp0 _ ⟨_, d0, _, _, _, bat B12 rfl, br_split (fun g4 => k27 _ _ ed (by rw [decide_eq_false (show ¬ gI q.A[k] 0 < (q.lf.L.length : Int) by omega), Bool.false_and, Bool.and_false]; rfl)) (fun g4 => ?_)⟩
      refine hp1' _ ⟨_, d1, br_split (fun g5 => k27 _ _ ed (by rw [decide_eq_false (show ¬ 0 ≤ gI q.A[k] 1 by omega), Bool.false_and, Bool.and_false, Bool.and_false]; rfl)) (fun g5 => ?_)⟩
      refine hp1' _ ⟨_, d1, _, _, _, bat B14 rfl, k27 _ _ ed ?_⟩
      rw [decide_eq_true (show 0 ≤ gI q.A[k] 0 by omega), decide_eq_true (show gI q.A[k] 0 < (q.lf.L.length : Int) by omega), decide_eq_true (show 0 ≤ gI q.A[k] 1 by omega), Bool.true_and, Bool.true_and, Bool.true_and, ← decide_not]
      exact decide_eq_decide.2 (by omega)
    · refine h 0 W e0W ?_
      unfold fchk
      rw [hp1, hp2, hmok, show q.A.length = k by omega, hall]; rfl
  refine ⟨_, _, _, bat B12 rfl, _, _, _, bat B12 rfl, _, _, _, bat B12 rfl, _, bat B12 rfl, _, bat B12 rfl, ?_⟩
  refine pbCheck_spec (x := xl) (hl.ext e015) fun e1 w62 e62 he1 => ⟨_, rfl, ?_⟩
  have e062 := ext_trans e015 e62
  refine br_split (fun g => h _ _ e062 (by unfold fchk; rw [← he1, decide_eq_false g, Bool.false_and]; rfl)) (fun g => ?_)
  have g : e1 = 0 := Decidable.not_not.1 g
  rw [decide_eq_true g] at he1
  have B14a := B14.ext e62
  refine ⟨_, _, _, bat B14a rfl, _, _, _, bat B14a rfl, _, _, _, bat B14a rfl, _, bat B14a rfl, _, bat B14a rfl, ?_⟩
  refine pbCheck_spec (x := xr) (hr.ext e062) fun e2 w70 e70 he2 => ⟨_, rfl, ?_⟩
  refine br_split (fun g2 => h _ _ (ext_trans e062 e70) (by unfold fchk; rw [← he2, decide_eq_false g2, Bool.false_and, Bool.and_false]; rfl)) (fun g2 => ?_)
  have g2 : e2 = 0 := Decidable.not_not.1 g2
  rw [decide_eq_true g2] at he2
  exact k16 w70 (ext_trans e62 e70) he1.symm he2.symm
/- two sides, their pages priced -/
abbrev mkSV (xl xr : PV) (an : Slv) (bl br : Nat) (q : SQ) : SV := ⟨xl, xr, an, (some ⟨bl, 0, none⟩, q.lf.L.length + 1, q.lf.L.length + 1), (some ⟨br, 0, none⟩, q.rt.L.length + 1, q.rt.L.length + 1)⟩
theorem mkOk {xl xr : PV} {an : Slv} {q : SQ} (h : fchk xl xr q = true) (hAl : q.A.length ≤ 1000000) (bl br : Nat) : SdOk (mkSV xl xr an bl br q) q := by
  obtain ⟨h1, h2, h3⟩ := fchk_facts h
  exact ⟨h1, h2, fun l hl => ⟨(h3 l hl).1, (h3 l hl).2.1, (h3 l hl).2.2.2.1⟩, hAl⟩
theorem rd5 {w : World} {b : Nat} {x : PV} (B : Blk w b x.cs 47) {K : Option Addr → Nat → Nat → Option Addr → Nat → Nat → Option Addr → Nat → Nat → Int → Int → Prop} (h : K x.l.1 x.l.2.1 x.l.2.2 x.t.1 x.t.2.1 x.t.2.2 x.p.1 x.p.2.1 x.p.2.2 x.h x.g) :
    ∃ (a1 : Option Addr) (n1 c1 : Nat), World.cell? w ((⟨b, 0, none⟩ : Addr).add 0) = some (.slice a1 n1 c1) ∧ (∃ (a2 : Option Addr) (n2 c2 : Nat), World.cell? w ((⟨b, 0, none⟩ : Addr).add 1) = some (.slice a2 n2 c2) ∧ (∃ (a3 : Option Addr) (n3 c3 : Nat), World.cell? w ((⟨b, 0, none⟩ : Addr).add 2) = some (.slice a3 n3 c3) ∧
      (∃ (h : Int), World.cell? w ((⟨b, 0, none⟩ : Addr).add 3) = some (.int .i64 h) ∧ (∃ (g : Int), World.cell? w ((⟨b, 0, none⟩ : Addr).add 4) = some (.int .i64 g) ∧ K a1 n1 c1 a2 n2 c2 a3 n3 c3 h g)))) :=
  ⟨_, _, _, bat B rfl, _, _, _, bat B rfl, _, _, _, bat B rfl, _, bat B rfl, _, bat B rfl, h⟩
theorem prices_step {x : PV} {q : PQ} (hq : PrV S w x q) (hp : pchk x.h x.g q = true) {K : Option Addr → Nat → Nat → World → Prop}
    (h : ∀ bo w', Ext w w' → RowV (View.sl (View.enc encCh)) (fun _ => True) w' (some ⟨bo, 0, none⟩) (q.L.length + 1) ((List.range (q.L.length + 1)).map (rowP x.h x.g q)) → K (some ⟨bo, 0, none⟩) (q.L.length + 1) (q.L.length + 1) w') :
    Calls Try.prog 32 ⟨[.agg ⟨[.slice x.l.1 x.l.2.1 x.l.2.2, .slice x.t.1 x.t.2.1 x.t.2.2, .slice x.p.1 x.p.2.1 x.p.2.2, .int .i64 x.h, .int .i64 x.g]⟩]⟩ w fun (e : Ending) (w' : World) => ∃ (a : Option Addr) (n c : Nat), e = .returned (.slice a n c) ∧ K a n c w' :=
  prices_spec hq hp fun bo w' e' hR => ⟨_, _, _, rfl, h bo w' e' (hR.imp fun _ _ _ => trivial)⟩
set_option maxHeartbeats 4000000 in
set_option maxRecDepth 20000 in
theorem Potentials_spec {xl xr : PV} {an : Slv} {q : SQ} (hl : PrV S w xl q.lf) (hr : PrV S w xr q.rt) (hA : RowV vIs S w an.1 an.2.1 q.A) (hAl : q.A.length ≤ 1000000)
    (h : ∀ (e : Int) (bo : Option Addr) (n c : Nat) w', Ext w w' → decide (e = 0) = fchk xl xr q → (e = 0 → n = q.lf.L.length + 1 ∧ ∃ (b bl br : Nat) (r : Nat → Nat), bo = some ⟨b, 0, none⟩ ∧ MatP w' b r (q.lf.L.length + 1) (q.rt.L.length + 1) 0 (fun j k => potS (mkSV xl xr an bl br q) q (j, k))) → R (.returned (.tuple ⟨[.slice bo n c, .int .i64 e]⟩)) w') :
    Calls Try.prog F_facing_Potentials ⟨[.agg ⟨xl.cs⟩, .agg ⟨xr.cs⟩, .slice an.1 an.2.1 an.2.2]⟩ w R := by
  apply c_facing_Potentials
  refine al_intro fun b12 w13 hb12 B12 e13 s13 => al_intro fun b14 w15 hb14 B14 e15 s15 => ?_
  have e015 := ext_trans e13 e15
  have B12 := B12.ext e15
  refine ⟨_, _, _, bat B12 rfl, _, _, _, bat B12 rfl, _, _, _, bat B12 rfl, _, bat B12 rfl, _, bat B12 rfl, _, _, _, bat B14 rfl, _, _, _, bat B14 rfl, _, _, _, bat B14 rfl, _, bat B14 rfl, _, bat B14 rfl, ?_⟩
  refine fCheck_spec (xl := xl) (xr := xr) (an := an) (hl.ext e015) (hr.ext e015) (hA.ext e015) hAl fun e w27 e27 he => ⟨_, rfl, ?_⟩
  have e027 := ext_trans e015 e27
  refine br_split (fun g => h _ _ _ _ _ e027 he (fun hh => absurd hh g)) (fun g => ?_)
  have g : e = 0 := Decidable.not_not.1 g
  subst g
  have he' := he
  rw [decide_eq_true rfl] at he'
  obtain ⟨hpl, hpr, _⟩ := fchk_facts he'.symm
  have B12 := B12.ext e27
  have B14 := B14.ext e27
  have fin : ∀ (V : World) (bl br : Nat), Ext w V → RowV vPr (fun _ => True) V (some ⟨bl, 0, none⟩) (q.lf.L.length + 1) ((List.range (q.lf.L.length + 1)).map (rowP xl.h xl.g q.lf)) → RowV vPr (fun _ => True) V (some ⟨br, 0, none⟩) (q.rt.L.length + 1) ((List.range (q.rt.L.length + 1)).map (rowP xr.h xr.g q.rt)) →
      Calls Try.prog 56 ⟨[.agg ⟨(mkSV xl xr an bl br q).cs⟩]⟩ V fun (e154 : Ending) (w155 : World) => ∃ (x156 : Option Addr) (x156n : Nat) (x156c : Nat), e154 = .returned (.slice x156 x156n x156c) ∧ (R (.returned (.tuple ⟨[.slice x156 x156n x156c, .int .i64 0]⟩)) w155) := by
    intro V bl br eV h1 h2
    refine potentials_spec (s := mkSV xl xr an bl br q) (q := q) (S := fun _ => True) ⟨(hl.ext eV).imp fun _ _ _ => trivial, (hr.ext eV).imp fun _ _ _ => trivial, (hA.ext eV).imp fun _ _ _ => trivial, h1, h2⟩ (mkOk he'.symm hAl bl br) fun bo r w' e' hM => ⟨_, _, _, rfl, ?_⟩
    exact h 0 _ _ _ w' (ext_trans eV e') he fun _ => ⟨rfl, bo, bl, br, r, rfl, hM⟩
  unfold drw
  have ed := ext_drew w27
  have B12 := B12.ext ed
  have B14 := B14.ext ed
  have eD := ext_trans e027 ed
  generalize w27.drew = V at *
  repeat' first
    | with_reducible exact True.intro
    | with_reducible refine And.intro ?_ ?_
    | with_reducible refine rd5 B12 ?_
    | with_reducible refine rd5 B14 ?_
    | (with_reducible refine prices_step (x := xl) (hl.ext eD) hpl fun bl V' e' hRl => ?_
       have eD := ext_trans eD e'
       have B12 := B12.ext e'
       have B14 := B14.ext e')
    | (with_reducible refine prices_step (x := xr) (hr.ext eD) hpr fun br V' e' hRr => ?_
       have hRl := RowV.ext hRl e'
       have eD := ext_trans eD e'
       have B12 := B12.ext e'
       have B14 := B14.ext e')
    | exact fin _ _ _ eD hRl hRr
end
end Go.Proofs
namespace Go.Proofs
open Go Go.Sh Go.RowKit
/- facing.Break -/
theorem pgK_congr {s s' : SV} {q q' : SQ} (h1 : s.rt.h = s'.rt.h) (h2 : s.rt.g = s'.rt.g) (h3 : q.rt = q'.rt) {f : Spot} {i : Nat} {a : Int × Int} : ∀ m k, pgK s q f i a m k = pgK s' q' f i a m k
  | 0, _ => rfl
  | m + 1, k => by rw [pgK, pgK, h1, h2, h3, pgK_congr h1 h2 h3 m (k + 1)]
theorem pgI_congr {s s' : SV} {q q' : SQ} (h1 : s.rt.h = s'.rt.h) (h2 : s.rt.g = s'.rt.g) (h3 : q.rt = q'.rt) (h4 : s.lf.h = s'.lf.h) (h5 : s.lf.g = s'.lf.g) (h6 : q.lf = q'.lf) {f : Spot} : ∀ m i, pgI s q f m i = pgI s' q' f m i
  | 0, _ => rfl
  | m + 1, i => by rw [pgI, pgI, h4, h5, h6, h3, pgK_congr h1 h2 h3, pgI_congr h1 h2 h3 h4 h5 h6 m (i + 1)]
/- the pages, by the problems alone -/
def PG (xl xr : PV) (ql qr : PQ) : Spot → List (Spot × Int) := pagesF (mkSV xl xr (none, 0, 0) 0 0 ⟨ql, qr, []⟩) ⟨ql, qr, []⟩
theorem pages_PG (xl xr : PV) (an : Slv) (bl br : Nat) (q : SQ) : pagesF (mkSV xl xr an bl br q) q = PG xl xr q.lf q.rt := by
  funext f
  unfold PG pagesF
  exact pgI_congr (s := mkSV xl xr an bl br q) (s' := mkSV xl xr (none, 0, 0) 0 0 ⟨q.lf, q.rt, []⟩) (q := q) (q' := ⟨q.lf, q.rt, []⟩) rfl rfl rfl rfl rfl rfl _ _
def potP (xl xr : PV) (q : SQ) : Spot → Int := potA (lastS q) (PG xl xr q.lf q.rt) (spots q.A)
theorem potS_P (xl xr : PV) (an : Slv) (bl br : Nat) (q : SQ) : potS (mkSV xl xr an bl br q) q = potP xl xr q := by
  funext f
  unfold potS potP
  rw [pages_PG]
def endsP (xl xr : PV) (q : SQ) : List Spot := endsA (lastS q) (PG xl xr q.lf q.rt) (spots q.A)
def spl (t : Spot) : List Int := [(t.1 : Int), (t.2 : Int)]
theorem rowAt_b {α : Type} {E : Enc α} {w : World} {b : Nat} {l : List α} {T : TypeId} (h : Blk w b (E.row l) T) : RowAt E (fun k => k = b) w (some ⟨b, 0, none⟩) l.length l :=
  ⟨rfl, .inr ⟨b, 0, rfl, rfl, h.lt, fun j v hj => by rw [Nat.zero_add, h.cell]; exact hj⟩⟩
/- the ends of pages as they are found -/
def encId : Enc Nat := ⟨fun b => [.slice (some ⟨b, 0, none⟩) 2 2], 1, fun _ => rfl, by decide, by intro x v hv; simp only [List.mem_singleton] at hv; subst hv; rfl⟩
structure OutA (B : Nat) (W : World) (oa : Option Addr) (on oc : Nat) (ids : List Nat) (l : List Spot) : Prop where
  own : OwnL encId W B 27 oa on oc ids
  len : ids.length = l.length
  at_ : ∀ (j : Nat) (b : Nat) (t : Spot), ids[j]? = some b → l[j]? = some t → Blk W b [.int .i64 t.1, .int .i64 t.2] 3
theorem OutA.ext {B : Nat} {W W' : World} {oa : Option Addr} {on oc : Nat} {ids : List Nat} {l : List Spot} (h : OutA B W oa on oc ids l) (he : Ext W W') : OutA B W' oa on oc ids l := ⟨Owns.ext h.own he, h.len, fun j b t h1 h2 => (h.at_ j b t h1 h2).ext he⟩
theorem OutA.chg {B : Nat} {W W' : World} {oa : Option Addr} {on oc : Nat} {ids : List Nat} {l : List Spot} {T : Nat → Prop} (h : OutA B W oa on oc ids l) (hc : Chg T W W') (h1 : ∀ k, bk oa k → ¬ T k) (h2 : ∀ b ∈ ids, ¬ T b) : OutA B W' oa on oc ids l :=
  ⟨Owns.chg h.own hc h1, h.len, fun j b t a1 a2 => hc.blk (h.at_ j b t a1 a2) (h2 b (List.mem_of_getElem? a1))⟩
theorem OutA.put {B : Nat} {W W' : World} {oa : Option Addr} {on oc : Nat} {ids : List Nat} {l : List Spot} {b : Nat} {cs : List Value} {T : TypeId} (h : OutA B W oa on oc ids l) (hB : Blk W b cs T) (h3 : T ≠ 3) (h27 : T ≠ 27) (hc : Chg (fun k => k = b) W W') : OutA B W' oa on oc ids l :=
  h.chg hc (fun k hk e => h27 (own_ty h.own hk (e ▸ hB))) fun i hi e => by
    obtain ⟨j, hj, rfl⟩ := List.mem_iff_getElem.1 hi
    have hjl : j < l.length := by rw [← h.len]; exact hj
    exact h3 (Blk.ty (e ▸ hB : Blk W ids[j] cs T) (h.at_ j _ _ (List.getElem?_eq_getElem hj) (List.getElem?_eq_getElem hjl)))
theorem OutA.row {B : Nat} {W : World} {oa : Option Addr} {on oc : Nat} {ids : List Nat} {l : List Spot} (h : OutA B W oa on oc ids l) : RowV vIs (fun _ => True) W oa on (l.map spl) := by
  have hr := OwnL.out h.own
  refine ⟨by rw [List.length_map, ← h.len]; exact hr.1, _, hr.2.keep (fun k hk hl => ⟨trivial, rfl⟩) (Nat.le_refl _), ?_⟩
  have : ∀ {ids : List Nat} {l : List Spot}, ids.length = l.length → (∀ (j : Nat) (b : Nat) (t : Spot), ids[j]? = some b → l[j]? = some t → Blk W b [.int .i64 t.1, .int .i64 t.2] 3) → AllV vIs (fun _ => True) W (l.map spl) (encId.row ids) := by
    intro ids
    induction ids with
    | nil => intro l hl _; cases l with
      | nil => rfl
      | cons => simp at hl
    | cons b ids ih =>
      intro l hl hat
      cases l with
      | nil => simp at hl
      | cons t l =>
        have hB := hat 0 b t rfl rfl
        refine ⟨[.slice (some ⟨b, 0, none⟩) 2 2], encId.row ids, rfl, ⟨_, 2, rfl, Nat.le_refl _, rowV_enc.2 ((rowAt_b (E := Sh.encI) (l := spl t) hB).imp fun _ _ _ => trivial)⟩, ih (by simpa using hl) fun j b' t' h1 h2 => hat (j + 1) b' t' h1 h2⟩
  exact this h.len h.at_
theorem prices_step2 {S : Nat → Prop} {w : World} {x : PV} {q : PQ} (hq : PrV S w x q) (hp : pchk x.h x.g q = true) {K : Option Addr → Nat → Nat → World → Prop}
    (h : ∀ bo w', Ext w w' → RowV (View.sl (View.enc encCh)) (fun k => w.heap.size ≤ k ∧ k < w'.heap.size) w' (some ⟨bo, 0, none⟩) (q.L.length + 1) ((List.range (q.L.length + 1)).map (rowP x.h x.g q)) → K (some ⟨bo, 0, none⟩) (q.L.length + 1) (q.L.length + 1) w') :
    Calls Try.prog 32 ⟨[.agg ⟨[.slice x.l.1 x.l.2.1 x.l.2.2, .slice x.t.1 x.t.2.1 x.t.2.2, .slice x.p.1 x.p.2.1 x.p.2.2, .int .i64 x.h, .int .i64 x.g]⟩]⟩ w fun (e : Ending) (w' : World) => ∃ (a : Option Addr) (n c : Nat), e = .returned (.slice a n c) ∧ K a n c w' :=
  prices_spec hq hp fun bo w' e' hR => ⟨_, _, _, rfl, h bo w' e' hR⟩
theorem rd13 {w : World} {b : Nat} {s : SV} (B : Blk w b s.cs 77) {K : Option Addr → Nat → Nat → Option Addr → Nat → Nat → Option Addr → Nat → Nat → Int → Int → Option Addr → Nat → Nat → Option Addr → Nat → Nat → Option Addr → Nat → Nat → Int → Int → Option Addr → Nat → Nat → Option Addr → Nat → Nat → Option Addr → Nat → Nat → Prop}
    (h : K s.lf.l.1 s.lf.l.2.1 s.lf.l.2.2 s.lf.t.1 s.lf.t.2.1 s.lf.t.2.2 s.lf.p.1 s.lf.p.2.1 s.lf.p.2.2 s.lf.h s.lf.g s.rt.l.1 s.rt.l.2.1 s.rt.l.2.2 s.rt.t.1 s.rt.t.2.1 s.rt.t.2.2 s.rt.p.1 s.rt.p.2.1 s.rt.p.2.2 s.rt.h s.rt.g s.an.1 s.an.2.1 s.an.2.2 s.l.1 s.l.2.1 s.l.2.2 s.r.1 s.r.2.1 s.r.2.2) :
    ∃ (a1 : Option Addr) (n1 c1 : Nat), World.cell? w ((⟨b, 0, none⟩ : Addr).add 0) = some (.slice a1 n1 c1) ∧ (∃ (a2 : Option Addr) (n2 c2 : Nat), World.cell? w ((⟨b, 0, none⟩ : Addr).add 1) = some (.slice a2 n2 c2) ∧ (∃ (a3 : Option Addr) (n3 c3 : Nat), World.cell? w ((⟨b, 0, none⟩ : Addr).add 2) = some (.slice a3 n3 c3) ∧
      (∃ (h : Int), World.cell? w ((⟨b, 0, none⟩ : Addr).add 3) = some (.int .i64 h) ∧ (∃ (g : Int), World.cell? w ((⟨b, 0, none⟩ : Addr).add 4) = some (.int .i64 g) ∧
      (∃ (a5 : Option Addr) (n5 c5 : Nat), World.cell? w ((⟨b, 0, none⟩ : Addr).add 5) = some (.slice a5 n5 c5) ∧ (∃ (a6 : Option Addr) (n6 c6 : Nat), World.cell? w ((⟨b, 0, none⟩ : Addr).add 6) = some (.slice a6 n6 c6) ∧ (∃ (a7 : Option Addr) (n7 c7 : Nat), World.cell? w ((⟨b, 0, none⟩ : Addr).add 7) = some (.slice a7 n7 c7) ∧
      (∃ (h' : Int), World.cell? w ((⟨b, 0, none⟩ : Addr).add 8) = some (.int .i64 h') ∧ (∃ (g' : Int), World.cell? w ((⟨b, 0, none⟩ : Addr).add 9) = some (.int .i64 g') ∧
      (∃ (a10 : Option Addr) (n10 c10 : Nat), World.cell? w ((⟨b, 0, none⟩ : Addr).add 10) = some (.slice a10 n10 c10) ∧ (∃ (a11 : Option Addr) (n11 c11 : Nat), World.cell? w ((⟨b, 0, none⟩ : Addr).add 11) = some (.slice a11 n11 c11) ∧ (∃ (a12 : Option Addr) (n12 c12 : Nat), World.cell? w ((⟨b, 0, none⟩ : Addr).add 12) = some (.slice a12 n12 c12) ∧
        K a1 n1 c1 a2 n2 c2 a3 n3 c3 h g a5 n5 c5 a6 n6 c6 a7 n7 c7 h' g' a10 n10 c10 a11 n11 c11 a12 n12 c12)))))))))))) :=
  ⟨_, _, _, bat B rfl, _, _, _, bat B rfl, _, _, _, bat B rfl, _, bat B rfl, _, bat B rfl, _, _, _, bat B rfl, _, _, _, bat B rfl, _, _, _, bat B rfl, _, bat B rfl, _, bat B rfl, _, _, _, bat B rfl, _, _, _, bat B rfl, _, _, _, bat B rfl, h⟩
theorem rd2 {w : World} {b : Nat} {x y : Int} {T : TypeId} (B : Blk w b [.int .i64 x, .int .i64 y] T) {K : Int → Int → Prop} (h : K x y) : ∃ (a : Int), World.cell? w ((⟨b, 0, none⟩ : Addr).add 0) = some (.int .i64 a) ∧ (∃ (c : Int), World.cell? w ((⟨b, 0, none⟩ : Addr).add 1) = some (.int .i64 c) ∧ K a c) := ⟨_, bat B rfl, _, bat B rfl, h⟩
theorem end_step {w : World} {s : SV} {q : SQ} (h1 : s.lf.l.2.1 = q.lf.L.length) (h2 : s.rt.l.2.1 = q.rt.L.length) {K : Int → Int → World → Prop} (h : ∀ w', Ext w w' → K q.lf.L.length q.rt.L.length w') :
    Calls Try.prog 33 ⟨[.agg ⟨[.slice s.lf.l.1 s.lf.l.2.1 s.lf.l.2.2, .slice s.lf.t.1 s.lf.t.2.1 s.lf.t.2.2, .slice s.lf.p.1 s.lf.p.2.1 s.lf.p.2.2, .int .i64 s.lf.h, .int .i64 s.lf.g,
      .slice s.rt.l.1 s.rt.l.2.1 s.rt.l.2.2, .slice s.rt.t.1 s.rt.t.2.1 s.rt.t.2.2, .slice s.rt.p.1 s.rt.p.2.1 s.rt.p.2.2, .int .i64 s.rt.h, .int .i64 s.rt.g,
      .slice s.an.1 s.an.2.1 s.an.2.2, .slice s.l.1 s.l.2.1 s.l.2.2, .slice s.r.1 s.r.2.1 s.r.2.2]⟩]⟩ w fun (e : Ending) (w' : World) => ∃ (a c : Int), e = .returned (.agg ⟨[.int .i64 a, .int .i64 c]⟩) ∧ K a c w' :=
  end_spec (s := s) (q := q) h1 h2 fun w' e' => ⟨_, _, rfl, h w' e'⟩
theorem spot_eq (t l : Spot) : (!(decide ((t.1 : Int) = (l.1 : Int)) && (decide ((t.2 : Int) = (l.2 : Int)) && true))) = !decide (t = l) := by
  rw [Bool.and_true, ← Bool.decide_and]
  congr 1
  refine decide_eq_decide.2 ⟨fun hh => Prod.ext (by omega) (by omega), fun hh => by rw [hh]; exact ⟨rfl, rfl⟩⟩
/- what Break hands out -/
structure BrkRes (xl xr : PV) (q : SQ) (e n : Int) (oa : Option Addr) (on : Nat) (w : World) : Prop where
  no : fchk xl xr q = false → e ≠ 0
  bad : fchk xl xr q = true → e ≠ 0 → e = 23 ∧ potP xl xr q (0, 0) < 0
  yes : e = 0 → 0 ≤ potP xl xr q (0, 0) ∧ n = potP xl xr q (0, 0) ∧ RowV vIs (fun _ => True) w oa on ((endsP xl xr q).map spl)
section
variable {R : Ending → World → Prop} {S : Nat → Prop} {w : World}
set_option maxHeartbeats 4000000 in
set_option maxRecDepth 20000 in
theorem Break_spec {xl xr : PV} {an : Slv} {q : SQ} (hl : PrV S w xl q.lf) (hr : PrV S w xr q.rt) (hA : RowV vIs S w an.1 an.2.1 q.A) (hAl : q.A.length ≤ 1000000)
    (h : ∀ (e n : Int) (oa : Option Addr) (on oc : Nat) w', Ext w w' → BrkRes xl xr q e n oa on w' → R (.returned (.tuple ⟨[.slice oa on oc, .int .i64 n, .int .i64 e]⟩)) w') :
    Calls Try.prog F_facing_Break ⟨[.agg ⟨xl.cs⟩, .agg ⟨xr.cs⟩, .slice an.1 an.2.1 an.2.2]⟩ w R := by
  apply c_facing_Break
  refine al_intro fun b12 w13 hb12 B12 e13 s13 => al_intro fun b14 w15 hb14 B14 e15 s15 => ?_
  have e015 := ext_trans e13 e15
  have B12 := B12.ext e15
  refine rd5 B12 (rd5 B14 ?_)
  refine Potentials_spec (xl := xl) (xr := xr) (an := an) (hl.ext e015) (hr.ext e015) (hA.ext e015) hAl fun e bo n c w27 e27 he hM0 => ⟨_, _, _, _, rfl, ?_⟩
  have e027 := ext_trans e015 e27
  refine al_stL rfl (by intro v hv; simp only [List.mem_singleton] at hv; subst hv; rfl) fun b30 w32 hb30 B30 e32 s32 => ?_
  have e032 := ext_trans e027 e32
  refine br_split (fun g => h _ _ _ _ _ _ e032 ⟨fun _ => g, fun hf _ => absurd (of_decide_eq_true (he.trans hf)) g, fun hh => absurd hh g⟩) (fun g => ?_)
  have g : e = 0 := Decidable.not_not.1 g
  subst g
  rw [decide_eq_true rfl] at he
  have hf := he.symm
  obtain ⟨rfl, bm, bl0, br0, r, rfl, hM⟩ := hM0 rfl
  obtain ⟨hpl, hpr, hAf⟩ := fchk_facts hf
  obtain ⟨f1, _⟩ := pchk_facts hpl
  obtain ⟨g1, _⟩ := pchk_facts hpr
  rw [potS_P] at hM
  have hM32 := hM.ext e32
  have hll := hl.l.1
  have hrl := hr.l.1
  -- a cell of the table
  have hcell : ∀ (t : Spot) (W : World), t.1 ≤ q.lf.L.length → t.2 ≤ q.rt.L.length → MatP W bm r (q.lf.L.length + 1) (q.rt.L.length + 1) 0 (fun j k => potP xl xr q (j, k)) →
      ∃ b, (∀ K : Addr → Prop, K ⟨bm, t.1, none⟩ → idx (some ⟨bm, 0, none⟩) (q.lf.L.length + 1) (t.1 : Int) 1 K) ∧ W.cell? ⟨bm, t.1, none⟩ = some (.slice (some ⟨b, 0, none⟩) (q.rt.L.length + 1) (q.rt.L.length + 1)) ∧
        (∀ K : Addr → Prop, K ⟨b, t.2, none⟩ → idx (some ⟨b, 0, none⟩) (q.rt.L.length + 1) (t.2 : Int) 1 K) ∧ W.cell? ⟨b, t.2, none⟩ = some (.int .i64 (potP xl xr q t)) := by
    intro t W h1 h2 hMW
    refine ⟨r t.1, fun K hK => idx_b1 (by omega) hK, ?_, fun K hK => idx_b1 (by omega) hK, ?_⟩
    · rw [hMW.top.cell, fC_get (by omega), if_pos (Nat.zero_le _)]
    · rw [(hMW.row t.1 (Nat.zero_le _) (by omega)).cell, fC_get (by omega)]
  obtain ⟨rb0, hq1, d1, hq2, d2⟩ := hcell (0, 0) w32 (Nat.zero_le _) (Nat.zero_le _) hM32
  refine ⟨_, _, _, B30.cell 0, hq1 _ ⟨_, _, _, d1, hq2 _ ⟨_, d2, br_split (fun g => ?_) (fun g => ?_)⟩⟩⟩
  · exact h _ _ _ _ _ _ e032 ⟨fun hh => (by rw [hf] at hh; cases hh), fun _ _ => ⟨rfl, g⟩, fun hh => absurd hh (by decide)⟩
  have hp0 : 0 ≤ potP xl xr q (0, 0) := by omega
  have B12 := (B12.ext e27).ext e32
  have B14 := (B14.ext e27).ext e32
  intro K38 hK38
  have k38 : ∀ (b77 bl br : Nat) (V : World), Ext w32 V → w.heap.size ≤ b77 → Blk V b77 (mkSV xl xr an bl br q).cs 77 → RowV vPr (fun _ => True) V (some ⟨bl, 0, none⟩) (q.lf.L.length + 1) ((List.range (q.lf.L.length + 1)).map (rowP xl.h xl.g q.lf)) → RowV vPr (fun _ => True) V (some ⟨br, 0, none⟩) (q.rt.L.length + 1) ((List.range (q.rt.L.length + 1)).map (rowP xr.h xr.g q.rt)) → K38 (some ⟨b77, 0, none⟩) V := by
    intro b77 bl br V eV hb77 B77 hRl hRr
    refine hK38 _ _ fun _ => ?_
    have e0V := ext_trans e032 eV
    have hok := mkOk (an := an) hf hAl bl br
    have hFwd := fwd_pages hok
    have hstep : ∀ t : Spot, potS (mkSV xl xr an bl br q) q t = potP xl xr q t := fun t => by rw [potS_P]
    have hPG := pages_PG xl xr an bl br q
    have hsd : SdV (fun k => k < V.heap.size) V (mkSV xl xr an bl br q) q := ⟨((hl.ext e0V)).imp fun _ _ hl => hl, (hr.ext e0V).imp fun _ _ hl => hl, (hA.ext e0V).imp fun _ _ hl => hl, hRl.imp fun _ _ hl => hl, hRr.imp fun _ _ hl => hl⟩
    have zV := e0V.size
    refine al_intro fun b41 w42 hb41 B41 e42 s42 => ?_
    refine al_stL (by simp) (by intro v hv; simp only [List.mem_cons, List.not_mem_nil, or_false] at hv; rcases hv with rfl | rfl <;> rfl) fun b43 w45 hb43 B43 e45 s45 => ?_
    have e4245 := ext_trans e42 e45
    have z42 := e42.size
    have z45 := e45.size
    refine ⟨fun at_ ds W m => ∃ (ba : Nat) (t : Spot) (Dl : List Nat) (done : List Spot) (nf : Nat) (oa : Option Addr) (on oc : Nat) (ids : List Nat), at_ = some ⟨ba, 0, none⟩ ∧ ds = marks Dl ∧ m = dis (lastS q) t ∧ t.1 ≤ q.lf.L.length ∧ t.2 ≤ q.rt.L.length ∧ dis (lastS q) t ≤ nf ∧ done.length + nf ≤ q.lf.L.length + q.rt.L.length ∧
        0 ≤ potP xl xr q t ∧ done ++ (wayP (lastS q) (PG xl xr q.lf q.rt) (ancA (spots q.A)) (potP xl xr q) nf t).map (·.1) = endsP xl xr q ∧
        Blk W ba [.int .i64 t.1, .int .i64 t.2] 79 ∧ Blk W b41 [.slice oa on oc] 24 ∧ OutA w.heap.size W oa on oc ids done ∧ DefA w W Dl ∧ Ext V W ∧ V.heap.size ≤ ba ∧ (∀ k, bk oa k → V.heap.size ≤ k) ∧ ∀ b ∈ ids, V.heap.size ≤ b,
      ⟨_, b43, (0, 0), [], [], q.lf.L.length + q.rt.L.length, none, 0, 0, [], rfl, rfl, rfl, Nat.zero_le _, Nat.zero_le _, Nat.le_refl _, by simp, hp0, rfl, B43, B41.ext e45, ⟨Owns.nil _ _ _ _, rfl, fun j b t h1 h2 => by simp at h1⟩, ⟨List.nodup_nil, fun D hD => by cases hD⟩, e4245, by omega, fun k hk => by simp [bk] at hk, fun b hb => by cases hb⟩, ?_⟩
    rintro _ _ W m ⟨ba, t, Dl, done, nf, oa, on, oc, ids, rfl, rfl, hm, ht1, ht2, hnf, hdn, hpt, hway, Ba, Bo, hO, hD, eVW, hba, hoa, hids⟩ _
    have eW := ext_trans e0V eVW
    have zW := eVW.size
    have hsdW := hsd.ext eVW
    have BsW := B77.ext eVW
    have lb77 := B77.lt
    intro K52 hK52
    have k52 : ∀ W1, Ext W W1 → t ≠ lastS q → K52 W1 := by
      intro W1 eW1 hne
      refine hK52 _ fun _ => dr_ok ?_
      have BsW1 := BsW.ext eW1
      have Ba1 := Ba.ext eW1
      refine rd13 (s := mkSV xl xr an bl br q) BsW1 (dr_ok (rd2 Ba1 ?_))
      apply c_facing_sides_pages
      refine al_intro fun bs wa hbs Bs ea sa => al_intro fun bf w72 hbf Bf eb sb => ⟨_, _, _, rfl, fun base => ?_⟩
      have e172 := ext_trans ea eb
      have eW72 := ext_trans eW1 e172
      have eV72 := ext_trans eVW eW72
      have e072 := ext_trans eW eW72
      have Ba72 := Ba.ext eW72
      have Bo72 := Bo.ext eW72
      have hO72 := hO.ext eW72
      have hD72 := hD.ext eW72
      have hM72 := hM32.ext (ext_trans eV eV72)
      have zz := eW72.size
      have z1 := eW1.size
      have za := ea.size
      have zb := eb.size
      have lbs := Bs.lt
      have lba := Ba.lt
      have lbo := Bo.lt
      have hex := next_some hFwd (ok := ancA (spots q.A)) (F := (lastS q).1 + (lastS q).2) hne ht1 ht2 (by unfold dis; omega) (by show 0 ≤ potS (mkSV xl xr an bl br q) q t; rw [hstep]; exact hpt)
      obtain ⟨xn, hxn, hx1, hx2, hx3, hx4⟩ := hex
      have hpotfun : potF (lastS q) (pagesF (mkSV xl xr an bl br q) q) (ancA (spots q.A)) ((lastS q).1 + (lastS q).2) = potP xl xr q := by
        have := potS_P xl xr an bl br q
        exact this
      rw [hpotfun] at hxn hx3 hx4
      have hnext : ((filA q t (pagesF (mkSV xl xr an bl br q) q t)).find? fun x => decide (0 ≤ potP xl xr q x.1 ∧ x.2 + potP xl xr q x.1 = potP xl xr q t)) = some xn := hxn
      rw [cd_facing_Break_1]
      refine RFw_lawO anA_facing_Break_1 anB_facing_Break_1 (gf := F_facing_sides_pages_1) rfl (by kernel_rfl) (xs := filA q t (pagesF (mkSV xl xr an bl br q) q t)) (E := PgE) (Rd := fun k => k = bs ∨ k = bf ∨ k < V.heap.size)
        (fun w1 hw1 => ?_) (fun y vs hE => by rw [show vs = _ from hE]; rfl) (by decide) (fun k hk => by rcases hk with rfl | rfl | hk <;> omega)
        (fun k => k = ba ∨ k = b41 ∨ bk oa k) (fun k hk => ?_)
        (fun pre S1 W3 => (∀ k, S1 k ↔ k = ba ∨ k = b41 ∨ bk oa k) ∧ Ext w72 W3 ∧ ∀ y ∈ pre, decide (0 ≤ potP xl xr q y.1 ∧ y.2 + potP xl xr q y.1 = potP xl xr q t) = false)
        (fun _ _ => False)
        (fun S1 W3 => ∃ (oa' : Option Addr) (on' oc' : Nat) (ids' : List Nat), Chg (fun k => k = ba ∨ k = b41 ∨ bk oa k) w72 W3 ∧ Blk W3 ba [.int .i64 xn.1.1, .int .i64 xn.1.2] 79 ∧ Blk W3 b41 [.slice oa' on' oc'] 24 ∧ OutA w.heap.size W3 oa' on' oc' ids' (done ++ [xn.1]) ∧
          S1 ba ∧ S1 b41 ∧ (∀ k, bk oa' k → (k < w72.heap.size ∨ S1 k) ∧ V.heap.size ≤ k) ∧ ∀ b ∈ ids', (b < w72.heap.size ∨ S1 b) ∧ V.heap.size ≤ b)
        ?_ (fun _ _ _ h => h.elim) ?_ ⟨fun k => Iff.rfl, Below.refl _ _, fun y hy => by cases hy⟩ ?_ ?_ (fun _ _ _ _ _ _ _ h => h.elim) ?_
      · have eq : (fun k => k = bs ∨ k = bf ∨ (k < V.heap.size ∧ k < w1.heap.size)) = (fun k => k = bs ∨ k = bf ∨ k < V.heap.size) := by
          funext k
          have := hw1.size
          exact propext ⟨fun hh => hh.imp id (fun q => q.imp id (fun t => t.1)), fun hh => hh.imp id (fun q => q.imp id (fun t => ⟨t, by omega⟩))⟩
        have := pages_iterO (w := w1) (S := fun k => k < V.heap.size) (s := mkSV xl xr an bl br q) (q := q) (f := t) ((hsd.ext eV72).ext hw1) hok ((Bs.ext eb).ext hw1) (Bf.ext hw1) ht1 ht2
        rw [eq] at this; exact this
      · rcases hk with rfl | rfl | hk
        · exact ⟨by omega, fun hh => by rcases hh with hh | hh | hh <;> omega⟩
        · exact ⟨by omega, fun hh => by rcases hh with hh | hh | hh <;> omega⟩
        · have h1 := hoa k hk
          have h2 := (Owns.bk hO.own hk).2
          exact ⟨by omega, fun hh => by rcases hh with hh | hh | hh <;> omega⟩
      · rintro pre S1 W3 W4 ⟨i1, i2, i3⟩ hc
        exact ⟨i1, ext_chgS i2 hc fun k hk => hk.1, i3⟩
      · rintro S1 W3 W4 ⟨oa', on', oc', ids', j1, j2, j3, j4, j5, j6, j7, j8⟩ hc
        refine ⟨oa', on', oc', ids', chgT j1 hc fun k hk hh => by omega, hc.blk j2 fun hh => hh.2 j5, hc.blk j3 fun hh => hh.2 j6, j4.chg hc (fun k hk hh => ?_) (fun b hb hh => ?_), j5, j6, j7, j8⟩
        · rcases (j7 k hk).1 with h1 | h1
          · omega
          · exact hh.2 h1
        · rcases (j8 b hb).1 with h1 | h1
          · omega
          · exact hh.2 h1
      · rintro pre x vs S1 W3 l hE hpre hl1 hl2 hl3 hS1 ⟨i1, i2, i3⟩
        obtain rfl : vs = [.agg ⟨[.int .i64 x.1.1, .int .i64 x.1.2]⟩, .int .i64 x.2] := hE
        have hxm : x ∈ pagesF (mkSV xl xr an bl br q) q t := (List.mem_filter.1 (mem_of_prefix hpre)).1
        obtain ⟨x1, x2, x3, x4, x5, x6, x7⟩ := pages_facts hok hxm
        refine Eq.mpr (er_facing_Break_1 base _ _ _ _ _ _ _ _ _ _ _ _ _ _ _ _ _ _ _ _) ?_
        refine al_stL (by simp) (by intro v hv; simp only [List.mem_cons, List.not_mem_nil, or_false] at hv; rcases hv with rfl | rfl <;> rfl) fun bp W1' hbp Bp ep sp => ⟨ep, fun W2' hU => ?_⟩
        have zU := hU.size
        have zp := ep.size
        have zi := i2.size
        have hUc : Chg (fun k => k = l) W1' W2' := ⟨hU.os, hU.tape, hU.output, by omega, fun k _ hk => hU.block k hk⟩
        have e2 : Ext w72 W2' := ext_chgS (ext_trans i2 ep) hUc fun k hk => by omega
        have Bp2 := hUc.blk Bp (by omega)
        unfold drw
        have ed := ext_drew W2'
        have e3 := ext_trans e2 ed
        have Bp3 := Bp2.ext ed
        have zd := ed.size
        generalize W2'.drew = V3 at *
        have B303 : Blk V3 b30 [.slice (some ⟨bm, 0, none⟩) (q.lf.L.length + 1) c] 24 := B30.ext (ext_trans eV (ext_trans eV72 e3))
        have hM3 := hM72.ext e3
        obtain ⟨rb, hq1, d1, hq2, d2⟩ := hcell x.1 V3 x4 x5 hM3
        obtain ⟨rbt, hqt1, dt1, hqt2, dt2⟩ := hcell t V3 ht1 ht2 hM3
        refine dr_ok ⟨_, _, _, B303.cell 0, _, bat Bp3 rfl, hq1 _ ⟨_, _, _, d1, _, bat Bp3 rfl, hq2 _ ⟨_, d2, ?_⟩⟩⟩
        have hbnd : -1 ≤ potP xl xr q x.1 ∧ potP xl xr q x.1 ≤ 40000 * ((q.lf.L.length + q.rt.L.length : Nat) : Int) := by rw [← hstep]; exact potS_bound hok x.1
        have hwr : IntKind.i64.wrap (x.2 + potP xl xr q x.1) = x.2 + potP xl xr q x.1 := wrap_id (by omega)
        have Ba3 := Ba72.ext e3
        have Bo3 := Bo72.ext e3
        have hO3 := hO72.ext e3
        intro K903 hK903
        have k903 : ∀ (b : Bool) (V4 : World), Ext V3 V4 → b = decide (0 ≤ potP xl xr q x.1 ∧ x.2 + potP xl xr q x.1 = potP xl xr q t) → K903 b V4 := by
          intro b V4 e4 hb
          have z4 := e4.size
          have Bp4 := Bp3.ext e4
          have Ba4 := Ba3.ext e4
          have Bo4 := Bo3.ext e4
          have hO4 := hO3.ext e4
          refine hK903 _ _ fun _ => br_cases (fun gb => ?_) (fun gb => ?_)
          · rw [gb] at hb
            have hxeq : x = xn := by
              obtain ⟨rest, hrest⟩ := hpre
              have hf2 := hnext
              rw [← hrest, List.append_assoc, List.find?_append, List.find?_eq_none.2 (fun y hy => by rw [i3 y hy]; simp), Option.none_or, List.singleton_append, List.find?_cons, ← hb] at hf2
              exact Option.some.inj hf2
            subst hxeq
            refine dr_ok ⟨_, _, _, Bo4.cell 0, rd2 Bp4 ?_⟩
            refine al_intro fun b910 w911 hb910 B910 e911 s911 => ?_
            have hon := OwnL.length hO4.own
            have hol := hO4.len
            refine OwnL.push (E := encId) slT_ints (Owns.ext hO4.own e911) (by have := e072.size; have := e911.size; omega) b910 (by omega) (by omega) fun a' c' w915 ho hc915 hn915 => ?_
            have z911 := e911.size
            have z915 := hc915.size
            have nbt : ∀ {b' : Nat} {cs : List Value} {T : TypeId}, Blk w911 b' cs T → T ≠ 27 → Blk w915 b' cs T := fun hB hT => hc915.blk hB fun hh => hT (own_ty (Owns.ext hO4.own e911) hh hB)
            have Bo915 := nbt (Bo4.ext e911) (by decide)
            have Ba915 := nbt (Ba4.ext e911) (by decide)
            have Bp915 := nbt (Bp4.ext e911) (by decide)
            have B910' := nbt B910 (by decide)
            have hO915 : OutA w.heap.size w915 a' (on + 1) c' (ids ++ [b910]) (done ++ [x.1]) := by
              refine ⟨ho, by simp [hol], fun j b y h1 h2 => ?_⟩
              by_cases hj : j < ids.length
              · rw [List.getElem?_append_left hj] at h1
                rw [List.getElem?_append_left (by omega)] at h2
                exact nbt ((hO4.at_ j b y h1 h2).ext e911) (by decide)
              · have hj1 : j - ids.length = 0 := by
                  have := (List.getElem?_eq_some_iff.1 h1).1
                  simp at this; omega
                rw [List.getElem?_append_right (by omega), hj1] at h1
                rw [List.getElem?_append_right (by omega), show j - done.length = 0 by omega] at h2
                simp only [List.getElem?_cons_zero, Option.some.injEq] at h1 h2
                subst h1 h2
                exact B910'
            refine dr_ok (stL_one Bo915 rfl fun w916 Bo916 c916 s916 => ?_)
            have hO916 := hO915.put Bo915 (by decide) (by decide) c916
            have Bp916 := c916.blk Bp915 (blk_ne Bp915 Bo915 (by decide))
            have Ba916 := c916.blk Ba915 (blk_ne Ba915 Bo915 (by decide))
            refine rd2 Bp916 (dr_ok ?_)
            refine stL_blk Ba916 (by simp) (by intro v hv; simp only [List.mem_cons, List.not_mem_nil, or_false] at hv; rcases hv with rfl | rfl <;> rfl) fun w920 Ba920 y1 y2 y3 y4 y5 => ?_
            have c920 : Chg (fun k => k = ba) w916 w920 := ⟨y3, y4, y5, by omega, fun i _ hi => y1 i hi⟩
            have hO920 := hO916.put Ba916 (by decide) (by decide) c920
            have Bo920 := c920.blk Bo916 (blk_ne Bo916 Ba916 (by decide))
            have hcAll : Chg (fun k => k = ba ∨ k = b41 ∨ bk oa k) V3 w920 := ((Chg.of_ext (ext_trans e4 e911)).trans (hc915.mono fun k _ hk => .inr (.inr hk))).trans ((c916.mono fun k _ hk => .inr (.inl hk)).trans (c920.mono fun k _ hk => .inl hk))
            have zl := c920.size
            have zm := c916.size
            have zA := hcAll.size
            refine ⟨(Chg.of_ext ed).trans (hcAll.mono fun k _ hk => .inl ((i1 k).2 hk)), fun k => S1 k ∨ (W3.heap.size ≤ k ∧ k < w920.heap.size), fun k hk => ?_, a', on + 1, c', ids ++ [b910], ?_, Ba920, Bo920, hO920, .inl ((i1 _).2 (.inl rfl)), .inl ((i1 _).2 (.inr (.inl rfl))), fun k hk => ?_, fun b hb => ?_⟩
            · rcases hk with hk | hk
              · exact ⟨.inl hk, by have := (hS1 k hk).1; omega⟩
              · exact ⟨.inr hk.1, hk.2⟩
            · exact chgT (Chg.of_ext (S := fun k => k = ba ∨ k = b41 ∨ bk oa k) e3) hcAll fun k _ hk => hk
            · rcases hn915 k hk with h1 | h1
              · exact ⟨.inl (by have := (Owns.bk hO72.own h1).2; omega), hoa k h1⟩
              · exact ⟨.inr (.inr ⟨by omega, by have := (Owns.bk hO920.own hk).2; omega⟩), by omega⟩
            · rw [List.mem_append, List.mem_singleton] at hb
              rcases hb with hb | rfl
              · obtain ⟨j, hj, rfl⟩ := List.mem_iff_getElem.1 hb
                have := (hO72.at_ j _ _ (List.getElem?_eq_getElem hj) (List.getElem?_eq_getElem (show j < done.length by rw [← hO.len]; exact hj))).lt
                exact ⟨.inl this, hids _ (List.getElem_mem hj)⟩
              · have := B910'.lt
                exact ⟨.inr (.inr ⟨by omega, by omega⟩), by omega⟩
          · rw [gb] at hb
            refine ⟨Chg.of_ext (ext_trans ed e4), S1, fun k hk => ⟨.inl hk, by have := (hS1 k hk).1; omega⟩, i1, ext_trans e3 e4, fun y hy => ?_⟩
            rw [List.mem_append, List.mem_singleton] at hy
            rcases hy with hy | rfl
            · exact i3 y hy
            · exact hb.symm
        try unfold drw
        have ed5 := ext_drew V3
        have B305 := B303.ext ed5
        have Ba5 := Ba3.ext ed5
        have dt1' : (V3.drew).cell? ⟨bm, t.1, none⟩ = _ := dt1
        have dt2' : (V3.drew).cell? ⟨rbt, t.2, none⟩ = _ := dt2
        generalize V3.drew = V5 at *
        refine br_split (fun ga => ?_) (fun ga => k903 _ _ ed5 (by rw [decide_eq_false fun hh => ga hh.1]))
        refine dr_ok ⟨_, _, _, B305.cell 0, dr_ok ⟨_, bat Ba5 rfl, hqt1 _ ⟨_, _, _, dt1', dr_ok ⟨_, bat Ba5 rfl, hqt2 _ ⟨_, dt2', k903 _ _ ed5 ?_⟩⟩⟩⟩⟩
        rw [hwr]
        exact decide_eq_decide.2 ⟨fun hh => ⟨ga, hh⟩, fun hh => hh.2⟩
      · rintro D S1 W3 hD1 hD2 hD3 hD4 ⟨i1, i2, i3⟩
        exfalso
        rw [List.find?_eq_none.2 (fun y hy => by rw [i3 y hy]; simp)] at hnext
        cases hnext
      · rintro D S1 W3 hD1 hD2 hD3 hD4 ⟨oa', on', oc', ids', j1, j2, j3, j4, j5, j6, j7, j8⟩
        have zj := j1.size
        refine dr_ok (rd2 j2 ?_)
        refine al_stL (by simp) (by intro v hv; simp only [List.mem_cons, List.not_mem_nil, or_false] at hv; rcases hv with rfl | rfl <;> rfl) fun b80 w82 hb80 B80 e82 s82 => ?_
        obtain ⟨_, k2, k3, k4, k5, _⟩ := pages_facts hok hx1
        have hdis := hFwd.dis hx1
        obtain ⟨nf', rfl⟩ : ∃ nf', nf = nf' + 1 := ⟨nf - 1, by omega⟩
        have hway2 : wayP (lastS q) (PG xl xr q.lf q.rt) (ancA (spots q.A)) (potP xl xr q) (nf' + 1) t = xn :: wayP (lastS q) (PG xl xr q.lf q.rt) (ancA (spots q.A)) (potP xl xr q) nf' xn.1 := by
          rw [wayP, if_neg hne]
          rw [hPG] at hxn
          rw [hxn]
        rw [hway2, List.map_cons] at hway
        refine ⟨dis (lastS q) xn.1, by omega, b80, xn.1, D :: Dl, done ++ [xn.1], nf', oa', on', oc', ids', rfl, rfl, rfl, k4, k5, by omega, by simp; omega, hx3, by rw [List.append_assoc]; exact hway, B80, j3.ext e82, j4.ext e82, ?_, ?_, by omega, fun k hk => (j7 k hk).2, fun b hb => (j8 b hb).2⟩
        · refine DefA.ext ?_ e82
          have hDW : DefA w W3 Dl := ⟨hD72.nd, fun D' hD' => by
            obtain ⟨a1, a2, a3⟩ := hD72.at_ D' hD'
            refine ⟨a1, by omega, (j1.block D' a2 fun hh => ?_).trans a3⟩
            rcases hh with rfl | rfl | hh
            · rw [show w72.heap[D']? = _ from Ba72] at a3; cases a3
            · rw [show w72.heap[D']? = _ from Bo72] at a3; cases a3
            · rcases hO72.own.2 with hx | ⟨gx, cap, cur, ex1, ex2, ex3, _⟩
              · obtain ⟨rfl, _⟩ : oa = none ∧ on = 0 ∧ oc = 0 := by simpa using hx.1
                simp [bk] at hh
              · obtain ⟨rfl, _⟩ : oa = some ⟨gx, 0, none⟩ ∧ oc = cap := by simpa using ex1
                have hh : gx = D' := by simpa [bk] using hh
                subst hh
                rw [ex3] at a3; cases a3⟩
          refine hDW.cons ⟨by have := e072.size; omega, hD2, hD4⟩ fun hm => ?_
          have := (hD72.at_ D hm).2.1
          omega
        · exact ext_trans (ext_chgS eV72 j1 fun k hk => by
            rcases hk with rfl | rfl | hk
            · omega
            · omega
            · have := hoa k hk; omega) e82
    have fin : ∀ W1, Ext W W1 → t = lastS q → ∃ (x115 : Option Addr) (x115n : Nat) (x115c : Nat), World.cell? W1 ⟨b41, 0, none⟩ = some (.slice x115 x115n x115c) ∧ (∃ (x116 : Option Addr) (x116n : Nat) (x116c : Nat), World.cell? W1 ⟨b30, 0, none⟩ = some (.slice x116 x116n x116c) ∧ (idx x116 x116n 0 1 fun p117 =>
        ∃ (x118 : Option Addr) (x118n : Nat) (x118c : Nat), World.cell? W1 p117 = some (.slice x118 x118n x118c) ∧ (idx x118 x118n 0 1 fun p119 =>
        ∃ (x120 : Int), World.cell? W1 p119 = some (.int .i64 x120) ∧ (retD (marks Dl) W1 fun w121 =>
        R (.returned (.tuple ⟨[.slice x115 x115n x115c, .int .i64 x120, .int .i64 0]⟩)) w121)))) := by
      intro W1 eW1 hlast
      have Bo1 := Bo.ext eW1
      have B301 : Blk W1 b30 [.slice (some ⟨bm, 0, none⟩) (q.lf.L.length + 1) c] 24 := B30.ext (ext_trans eV (ext_trans eVW eW1))
      have hM1 := hM32.ext (ext_trans eV (ext_trans eVW eW1))
      obtain ⟨rb, hq1, d1, hq2, d2⟩ := hcell (0, 0) W1 (Nat.zero_le _) (Nat.zero_le _) hM1
      refine ⟨_, _, _, Bo1.cell 0, _, _, _, B301.cell 0, hq1 _ ⟨_, _, _, d1, hq2 _ ⟨_, d2, ?_⟩⟩⟩
      have hD1 := hD.ext eW1
      refine retD_marks Dl W1 hD1.nd (fun D hm => (hD1.at_ D hm).2.2) fun W' hc => ?_
      have hO1 := hO.ext eW1
      have hne : ∀ {b : Nat} {cs : List Value} {T : TypeId}, Blk W1 b cs T → ¬ b ∈ Dl := fun hB hm => by
        have h1 := (hD1.at_ _ hm).2.2
        rw [show W1.heap[_]? = _ from hB] at h1; cases h1
      have hO' : OutA w.heap.size W' oa on oc ids done := hO1.chg hc (fun k hk hm => by
        have h1 := (hD1.at_ _ hm).2.2
        rcases hO1.own.2 with hx | ⟨gx, cap, cur, ex1, ex2, ex3, _⟩
        · obtain ⟨rfl, _⟩ : oa = none ∧ on = 0 ∧ oc = 0 := by simpa using hx.1
          simp [bk] at hk
        · obtain ⟨rfl, _⟩ : oa = some ⟨gx, 0, none⟩ ∧ oc = cap := by simpa using ex1
          have hk : gx = k := by simpa [bk] using hk
          subst hk
          rw [ex3] at h1; cases h1) (fun b hb => by
        obtain ⟨j, hj, rfl⟩ := List.mem_iff_getElem.1 hb
        exact hne (hO1.at_ j _ _ (List.getElem?_eq_getElem hj) (List.getElem?_eq_getElem (show j < done.length by rw [← hO.len]; exact hj))))
      have hdone : done = endsP xl xr q := by
        rw [← hway, hlast]
        cases nf with
        | zero => rw [wayP]; simp
        | succ nf => rw [wayP, if_pos rfl]; simp
      refine h 0 _ _ _ _ W' (ext_chgS (ext_trans eW eW1) hc fun k hk => (hD1.at_ k hk).1) ⟨fun hh => (by rw [hf] at hh; cases hh), fun _ hh => absurd rfl hh, fun _ => ⟨hp0, rfl, ?_⟩⟩
      rw [← hdone]; exact hO'.row
    unfold drw
    have ed := ext_drew W
    have BsD := BsW.ext ed
    have BaD := Ba.ext ed
    generalize W.drew = WD at *
    have tail : ∀ (W1 : World), Ext W W1 → Go.Sh.br (!(decide ((t.1 : Int) = (q.lf.L.length : Int)) && (decide ((t.2 : Int) = (q.rt.L.length : Int)) && true))) (K52 W1) (∃ (x115 : Option Addr) (x115n : Nat) (x115c : Nat), World.cell? W1.drew ⟨b41, 0, none⟩ = some (.slice x115 x115n x115c) ∧ (∃ (x116 : Option Addr) (x116n : Nat) (x116c : Nat), World.cell? W1.drew ⟨b30, 0, none⟩ = some (.slice x116 x116n x116c) ∧ (idx x116 x116n 0 1 fun p117 =>
        ∃ (x118 : Option Addr) (x118n : Nat) (x118c : Nat), World.cell? W1.drew p117 = some (.slice x118 x118n x118c) ∧ (idx x118 x118n 0 1 fun p119 =>
        ∃ (x120 : Int), World.cell? W1.drew p119 = some (.int .i64 x120) ∧ (retD (marks Dl) W1.drew fun w121 =>
        R (.returned (.tuple ⟨[.slice x115 x115n x115c, .int .i64 x120, .int .i64 0]⟩)) w121))))) := by
      intro W1 eW1
      rw [spot_eq t (lastS q)]
      refine br_cases (fun gb => k52 W1 eW1 (by simpa using gb)) (fun gb => ?_)
      exact fin W1.drew (ext_trans eW1 (ext_drew W1)) (by simpa using gb)
    repeat' first
      | with_reducible exact True.intro
      | with_reducible refine And.intro ?_ ?_
      | with_reducible refine dr_ok ?_
      | with_reducible refine rd2 BaD ?_
      | with_reducible refine rd13 (s := mkSV xl xr an bl br q) BsD ?_
      | (with_reducible refine end_step (s := mkSV xl xr an bl br q) (q := q) hll hrl fun W' e' => ?_
         have ed := ext_trans ed e'
         have BsD := BsD.ext e'
         have BaD := BaD.ext e')
      | exact tail _ ed
  unfold drw
  have ed := ext_drew w32
  have B12 := B12.ext ed
  have B14 := B14.ext ed
  have z032 := e032.size
  generalize w32.drew = V at *
  have fin2 : ∀ (V' : World) (b77 bl br : Nat) (cs : List Value) (Sl Sr : Nat → Prop), Ext w32 V' → w32.heap.size ≤ b77 → Blk V' b77 cs 77 → cs.length = 13 → RowV vPr Sl V' (some ⟨bl, 0, none⟩) (q.lf.L.length + 1) ((List.range (q.lf.L.length + 1)).map (rowP xl.h xl.g q.lf)) → ¬ Sl b77 → RowV vPr Sr V' (some ⟨br, 0, none⟩) (q.rt.L.length + 1) ((List.range (q.rt.L.length + 1)).map (rowP xr.h xr.g q.rt)) → ¬ Sr b77 →
      stL V' ⟨b77, 0, none⟩ 0 (mkSV xl xr an bl br q).cs fun w1 => K38 (some ⟨b77, 0, none⟩) w1 := by
    intro V' b77 bl br cs Sl Sr e' hb hB hc hRl hnl hRr hnr
    refine stL_blk hB (by rw [hc]; simp) (by intro v hv; simp only [List.mem_cons, List.not_mem_nil, or_false] at hv; rcases hv with rfl | rfl | rfl | rfl | rfl | rfl | rfl | rfl | rfl | rfl | rfl | rfl | rfl <;> rfl) fun w1 B1 y1 y2 y3 y4 y5 => ?_
    have c1 : Chg (fun k => k = b77) V' w1 := ⟨y3, y4, y5, by omega, fun i _ hi => y1 i hi⟩
    have hput : putAt cs (0 + 0) (mkSV xl xr an bl br q).cs = (mkSV xl xr an bl br q).cs := by
      match cs, hc with
      | [_, _, _, _, _, _, _, _, _, _, _, _, _], _ => rfl
    rw [hput] at B1
    exact k38 b77 bl br w1 (ext_chgS e' c1 fun k hk => by omega) (by omega) B1 ((hRl.chg c1 fun k hk _ e => hnl (e ▸ hk)).imp fun _ _ _ => trivial) ((hRr.chg c1 fun k hk _ e => hnr (e ▸ hk)).imp fun _ _ _ => trivial)
  have eD := ext_trans e032 ed
  have zV := ed.size
  repeat' first
    | with_reducible exact True.intro
    | with_reducible refine And.intro ?_ ?_
    | with_reducible refine rd5 B12 ?_
    | with_reducible refine rd5 B14 ?_
    | (with_reducible refine prices_step2 (x := xl) (hl.ext eD) hpl fun bl V' e' hRl => ?_
       have zz := e'.size
       try have B77 := Blk.ext B77 e'
       have ed := ext_trans ed e'
       have eD := ext_trans eD e'
       have B12 := B12.ext e'
       have B14 := B14.ext e')
    | (with_reducible refine prices_step2 (x := xr) (hr.ext eD) hpr fun br V' e' hRr => ?_
       have zz := e'.size
       have hRl := RowV.ext hRl e'
       try have B77 := Blk.ext B77 e'
       have ed := ext_trans ed e'
       have eD := ext_trans eD e'
       have B12 := B12.ext e'
       have B14 := B14.ext e')
    | (with_reducible refine al_intro fun b77 V' hb77 B77 e' s' => ?_
       have zz := e'.size
       try have hRl := RowV.ext hRl e'
       try have hRr := RowV.ext hRr e'
       have ed := ext_trans ed e'
       have eD := ext_trans eD e'
       have B12 := B12.ext e'
       have B14 := B14.ext e')
    | exact fin2 _ _ _ _ _ _ _ ed (by omega) B77 rfl hRl (fun hh => by have h1 := hh.1; have h2 := hh.2; omega) hRr (fun hh => by have h1 := hh.1; have h2 := hh.2; omega)
end
end Go.Proofs
