/- The contracts of the functions that the law reaches, one after the other, and at the end the law's card. -/
import Derived.Test.YtcnlbobkjeiakaaGreatDoorLawD
import Derived.Maps.Own
import Derived.DeepKeys4
import Derived.Lib.Replace
import Derived.Lib.SliceRun
namespace Go.Proofs
open Go Go.Sh Go.RowKit

theorem longF_texts : ∀ (f : Fo) (d : Nat), longF f d = false → ∀ x ∈ nodesF f, x.t.length ≤ 60 ∨ 65536 < x.t.length
  | .nil, _, _, x, hx => by simp [nodesF] at hx
  | .cons k t n ps r, d, h, x, hx => by
    rw [longF] at h
    simp only [Bool.or_eq_false_iff, decide_eq_false_iff_not] at h
    obtain ⟨h1, h2, h3, h4, h5⟩ := h
    simp only [nodesF, List.mem_cons, List.mem_append] at hx
    rcases hx with rfl | hx | hx
    · show t.length ≤ 60 ∨ 65536 < t.length; omega
    · exact longF_texts ps (d - 1) h4 x hx
    · exact longF_texts r d h5 x hx
theorem flat_bound {α : Type} (q : α → List UInt8) (B : Nat) : ∀ (l : List α), (∀ x ∈ l, (q x).length ≤ B) → (l.flatMap q).length ≤ B * l.length
  | [], _ => by simp
  | x :: l, h => by
    have h1 := h x (by simp)
    have h2 := flat_bound q B l fun y hy => h y (by simp [hy])
    simp only [List.flatMap_cons, List.length_append, List.length_cons, Nat.mul_add, Nat.mul_one]; omega
theorem fin_small {f : Fo} (hg : great10 f = false) (hc : checkT f = 0) : f.size ≤ 40 ∧ (patF f).length ≤ 4000 := by
  obtain ⟨q1, q2, q3⟩ := check_zero hc
  have hl := f.len_le_size
  unfold great10 at hg
  rw [if_pos (by omega), Bool.or_eq_false_iff] at hg
  obtain ⟨h1, h2⟩ := hg
  have h1 : f.size ≤ 40 := by simp at h1; exact h1.1
  have ht := longF_texts f 20 h2
  have hn := good_nodes f q2
  refine ⟨h1, ?_⟩
  have := flat_bound patN 100 (nodesF f) fun x hx => by
    have a1 := hn x hx
    have a2 := ht x hx
    have a3 := a1.2.2.2.1
    unfold patN
    split
    · omega
    · split
      · rename_i h6
        have := a1.2.2.1 (by simp only [numsF]; rw [h6]; rfl)
        simp; omega
      · simp
  rw [nodesF_len] at this
  unfold patF
  omega
/- names of pages -/
theorem okF_pages : ∀ (f : Fo) (w : Bool), okF w f → ∀ x ∈ nodesF f, x.k = 3 → isNameF x.t = true
  | .nil, _, _, x, hx, _ => by simp [nodesF] at hx
  | .cons k t n ps r, w, h, x, hx, hk => by
    simp only [nodesF, List.mem_cons, List.mem_append] at hx
    rcases hx with rfl | hx | hx
    · have h1 := h.1
      have hk : k = 3 := hk
      subst hk
      unfold singleF at h1
      split at h1
      · cases h1
      · split at h1
        · cases h1
        · simp at h1
          show isNameF t = true
          cases hn : isNameF t with
          | true => rfl
          | false => simp [hn] at h1
    · exact okF_pages ps true h.2.1 x hx hk
    · exact okF_pages r w h.2.2 x hx hk
theorem endL_name : ∀ (l : List Nn) (p : Ps), (∀ x ∈ l, x.k = 3 → isNameF x.t = true) → (p.1 = [] ∨ isNameF p.1 = true) → ((endL p l).1 = [] ∨ isNameF (endL p l).1 = true)
  | [], _, _, h => h
  | x :: l, p, hl, h => by
    rw [endL]
    refine endL_name l _ (fun y hy => hl y (by simp [hy])) ?_
    unfold posN
    split
    · exact h
    · split
      · exact h
      · split
        · rename_i h3; exact .inr (hl x (by simp) h3)
        · split
          · exact h
          · exact h
end Go.Proofs
namespace Go.Proofs
open Go Go.Sh Go.RowKit

/- two lists with a verse between them -/
def vF : Fo := .one 5 [] 0 .nil
def xF : Fo := .one 1 [120] 0 .nil
theorem cleanF_app (f g : Fo) : cleanF (f.app g) = (cleanF f && cleanF g) := by unfold cleanF; rw [nodesF_appU, List.all_append]
theorem pat3 {f g : Fo} (hf : cleanF f = true) (hg : cleanF g = true) (hl : (patF f).length + (patF g).length ≤ 60000) : patE (f.app (vF.app g)) = 1 ∨ patE (f.app (vF.app g)) = 0 := by
  have hc : cleanF (f.app (vF.app g)) = true := by rw [cleanF_app, cleanF_app, hf, hg]; rfl
  have hp : (patF (f.app (vF.app g))).length ≤ 60000 := by
    rw [patF_app, patF_app, List.length_append, List.length_append]
    have : patF vF = [] := rfl
    rw [this]; simp; omega
  unfold patE errU
  rw [hc]
  by_cases h : checkT (f.app (vF.app g)) = 0
  · right
    simp only [h, ne_eq, not_true_eq_false, if_false, if_true]
    rw [if_neg (by omega)]
  · left
    simp [h]
theorem pos3 (s : Ps) (f g : Fo) : posL s (nodesF (f.app (vF.app g))) = posL s (nodesF f) ++ posL (endL s (nodesF f)) (nodesF g) := by
  rw [nodesF_appU, nodesF_appU, posL_app, posL_app]
  rfl
theorem size3 (f g : Fo) : (f.app (vF.app g)).size = f.size + g.size + 1 := by
  rw [Fo.size_app, Fo.size_app]; show f.size + (1 + g.size) = _; omega
theorem clean_fin {f : Fo} (h : fin13 f = true) : cleanF f = true ∧ f.size ≤ 40 ∧ (patF f).length ≤ 4000 ∧ (∀ x ∈ nodesF f, x.k = 3 → isNameF x.t = true) := by
  obtain ⟨h1, h2⟩ := fin13_true h
  obtain ⟨c0, c1, _⟩ := patE_zero h2
  obtain ⟨a, b⟩ := fin_small h1 c0
  refine ⟨c1, a, b, ?_⟩
  have hok : okF false f := by
    have : allF f false false = 0 := by
      unfold checkT at c0
      split at c0
      · split at c0
        · rename_i hh; exact absurd c0 hh
        · rename_i hh; exact Decidable.not_not.1 hh
      · cases c0
    exact ((all_split f false false).1 this).1
  exact okF_pages f _ hok

end Go.Proofs
namespace Go.Proofs
open Go Go.Sh Go.RowKit

end Go.Proofs
namespace Go.Sh
open Go Go.RowKit
open Go.WideElems (Fit)
open Go.Maps (Keyed)

/- a map that stands in a block, as a partial function of keys -/
def anyV : Value → Option (DataW Unit × List MemPlace) := fun _ => some (.nil, [])
def MapT {K V : Type} (P : Program) (k : TypeId) (eK : K → Value) (eV : V → Value) (w : World) (b n : Nat) (f : K → Option V) : Prop :=
  ∃ es clock, w.heap[b]? = some (.map es clock) ∧ Fit P k anyV es clock ∧ es.size ≤ n ∧
    ∀ x, (f x = none ∧ ∀ e ∈ es.toList, e.key ≠ eK x) ∨ ∃ v, f x = some v ∧ ∃ e ∈ es.toList, e.key = eK x ∧ e.val = eV v

section
variable {K V : Type} {P : Program} {k t e : TypeId} {eK : K → Value} {eV : V → Value} {w w' : World} {b n : Nat} {f : K → Option V}
theorem MapT.made (w : World) : MapT P k eK eV (w.alloc (.map #[] 0)) w.heap.size 0 (fun _ => none) :=
  ⟨#[], 0, (MapKept.heap_alloc w _).1, ⟨by simp, MapKept.stamped_empty 0, by simp⟩, Nat.le_refl _, fun x => .inl ⟨rfl, by simp⟩⟩
theorem MapT.lt (h : MapT P k eK eV w b n f) : b < w.heap.size := by
  obtain ⟨es, clock, hb, _⟩ := h
  exact (Array.getElem?_eq_some_iff.1 hb).1
theorem MapT.keep (h : MapT P k eK eV w b n f) (hw : w'.heap[b]? = w.heap[b]?) : MapT P k eK eV w' b n f := by
  obtain ⟨es, clock, hb, h⟩ := h
  exact ⟨es, clock, hw.trans hb, h⟩
theorem MapT.ext (h : MapT P k eK eV w b n f) (hw : Ext w w') : MapT P k eK eV w' b n f := h.keep (hw.block b h.lt)
theorem MapT.chg {S : Nat → Prop} (h : MapT P k eK eV w b n f) (hw : Chg S w w') (hs : ¬ S b) : MapT P k eK eV w' b n f := h.keep (hw.block b h.lt hs)
theorem MapT.mono (h : MapT P k eK eV w b n f) {m : Nat} (hm : n ≤ m) : MapT P k eK eV w b m f := by
  obtain ⟨es, clock, hb, F, hs, h⟩ := h
  exact ⟨es, clock, hb, F, Nat.le_trans hs hm, h⟩
theorem MapT.congr {g : K → Option V} (h : MapT P k eK eV w b n f) (hg : ∀ x, f x = g x) : MapT P k eK eV w b n g := by
  rw [← (funext hg : f = g)]; exact h

theorem MapT.look (h : MapT P k eK eV w b n f) (Kd : Keyed P k) (ht : P.underlying t = some (.map k e)) {z : Value} (hz : (zeroValue e).run P w = .ok z w) {x : K} {kl : Lit} (hkey : keyOf P k (eK x) = some kl) :
    lkAt P t (.map (some b)) (eK x) w (((f x).map eV).getD z) := by
  obtain ⟨es, clock, hb, F, _, hf⟩ := h
  unfold lkAt
  rcases Maps.fit_look false Kd ht hz hb F hkey with ⟨hrun, hno, _⟩ | ⟨e0, y, h1, h2, hrun, _⟩
  · rcases hf x with ⟨h0, _⟩ | ⟨v, _, e1, he1, hk1, _⟩
    · rw [h0]; exact hrun
    · exact absurd hk1 (hno e1 he1)
  · rcases hf x with ⟨_, h0⟩ | ⟨v, hv, e1, he1, hk1, hv1⟩
    · exact absurd h2 (h0 e0 h1)
    · rw [hv]
      have : e0 = e1 := by
        have hn : es.toList.Pairwise (fun x y => x.key ≠ y.key) := ((MapKept.stamped_iff es clock).1 F.stamped).2.2
        obtain ⟨i, hi, rfl⟩ := List.getElem_of_mem h1
        obtain ⟨j, hj, rfl⟩ := List.getElem_of_mem he1
        have : i = j := by
          apply Classical.byContradiction
          intro hne
          rcases Nat.lt_or_gt_of_ne hne with hl | hl
          · exact List.pairwise_iff_getElem.1 hn i j hi hj hl (h2.trans hk1.symm)
          · exact List.pairwise_iff_getElem.1 hn j i hj hi hl (hk1.trans h2.symm)
        subst this; rfl
      subst this
      rw [hv1] at hrun
      simpa using hrun
theorem MapT.look2 (h : MapT P k eK eV w b n f) (Kd : Keyed P k) (ht : P.underlying t = some (.map k e)) {z : Value} (hz : (zeroValue e).run P w = .ok z w) {x : K} {kl : Lit} (hkey : keyOf P k (eK x) = some kl) :
    lkAt2 P t (.map (some b)) (eK x) w (((f x).map eV).getD z) (f x).isSome := by
  obtain ⟨es, clock, hb, F, _, hf⟩ := h
  unfold lkAt2
  rcases Maps.fit_look true Kd ht hz hb F hkey with ⟨hrun, hno, _⟩ | ⟨e0, y, h1, h2, hrun, _⟩
  · rcases hf x with ⟨h0, _⟩ | ⟨v, _, e1, he1, hk1, _⟩
    · rw [h0]; exact hrun
    · exact absurd hk1 (hno e1 he1)
  · rcases hf x with ⟨_, h0⟩ | ⟨v, hv, e1, he1, hk1, hv1⟩
    · exact absurd h2 (h0 e0 h1)
    · rw [hv]
      have : e0 = e1 := by
        have hn : es.toList.Pairwise (fun x y => x.key ≠ y.key) := ((MapKept.stamped_iff es clock).1 F.stamped).2.2
        obtain ⟨i, hi, rfl⟩ := List.getElem_of_mem h1
        obtain ⟨j, hj, rfl⟩ := List.getElem_of_mem he1
        have : i = j := by
          apply Classical.byContradiction
          intro hne
          rcases Nat.lt_or_gt_of_ne hne with hl | hl
          · exact List.pairwise_iff_getElem.1 hn i j hi hj hl (h2.trans hk1.symm)
          · exact List.pairwise_iff_getElem.1 hn j i hj hi hl (hk1.trans h2.symm)
        subst this; rfl
      subst this
      rw [hv1] at hrun
      simpa using hrun
theorem MapT.update (h : MapT P k eK eV w b n f) (Kd : Keyed P k) (ht : P.underlying t = some (.map k e)) (hn : n < maxLen) {x : K} {v : V} {kl : Lit} (hkey : keyOf P k (eK x) = some kl) (hinj : ∀ y, eK y = eK x → y = x) {Q : World → Prop}
    (hq : ∀ (w' : World) (g : K → Option V), MapT P k eK eV w' b (n + 1) g → Chg (fun j => j = b) w w' → g x = some v → (∀ y, y ≠ x → g y = f y) → Q w') : mupd P t (.map (some b)) (eK x) (eV v) w Q := by
  have hlt := h.lt
  obtain ⟨es, clock, hb, F, hs, hf⟩ := h
  have hsz : es.size < maxLen := Nat.lt_of_le_of_lt hs hn
  have chg : ∀ o, Chg (fun j => j = b) w (ChangeMaps.setBlock w b o) := fun o => ⟨rfl, rfl, rfl, by simp [ChangeMaps.setBlock], fun i _ hi => ChangeMaps.heap_setBlock_other hb _ hi⟩
  have fin : ∀ es' clock', (Instr.mapUpdate t (.map (some b)) (eK x) (eV v)).run P w = .ok () (ChangeMaps.setBlock w b (.map es' clock')) → Fit P k anyV es' clock' → es'.size ≤ n + 1 →
      (∃ e1 ∈ es'.toList, e1.key = eK x ∧ e1.val = eV v) → (∀ e0 ∈ es.toList, e0.key ≠ eK x → e0 ∈ es'.toList) → (∀ e1 ∈ es'.toList, e1.key ≠ eK x → e1 ∈ es.toList) →
      mupd P t (.map (some b)) (eK x) (eV v) w Q := by
    intro es' clock' hrun F' hs' hnew hold hback
    classical
    refine ⟨_, hrun, hq _ (fun y => if y = x then some v else f y) ⟨es', clock', ChangeMaps.heap_setBlock_same hb _, F', hs', fun y => ?_⟩ (chg _) (by simp) (fun y hy => by simp [hy])⟩
    by_cases hy : y = x
    · subst hy
      obtain ⟨e1, h1, h2, h3⟩ := hnew
      exact .inr ⟨v, by simp, e1, h1, h2, h3⟩
    · have hne : eK y ≠ eK x := fun e => hy (hinj y e)
      rcases hf y with ⟨h0, h1⟩ | ⟨u, hu, e1, h1, h2, h3⟩
      · refine .inl ⟨by simp [hy, h0], fun e1 he1 hk => ?_⟩
        exact h1 e1 (hback e1 he1 (by rw [hk]; exact hne)) hk
      · exact .inr ⟨u, by simp [hy, hu], e1, hold e1 h1 (by rw [h2]; exact hne), h2, h3⟩
  rcases Kd.find w hkey es.toList F.keys with ⟨h1, h2⟩ | ⟨j, e0, h1, h2, h3⟩
  · refine fin (es.push ⟨eK x, eV v, clock⟩) (clock + 1) ?_ ⟨by simp; omega, MapKept.stamped_push F.stamped h2, ?_⟩ (by simp; omega) ⟨⟨eK x, eV v, clock⟩, by simp, rfl, rfl⟩ (fun e0 h0 _ => by simp at h0 ⊢; exact .inl h0) (fun e1 h1 hne => ?_)
    · simp [Instr.mapUpdate, run_underlying ht, MapKept.run_getObj_map hb, Kd.check w false hkey, h1, MapKept.run_setObj_map _ hb, Result.andThen, ChangeMaps.setBlock]
    · intro y hy
      simp only [Array.toList_push, List.mem_append, List.mem_singleton] at hy
      rcases hy with hy | rfl
      · exact F.reads y hy
      · exact ⟨_, WideElems.rd_mk hkey rfl⟩
    · simp only [Array.toList_push, List.mem_append, List.mem_singleton] at h1
      rcases h1 with h1 | rfl
      · exact h1
      · exact absurd rfl hne
  · have hj : es[j]? = some e0 := by simpa using h2
    have hjl : j < es.toList.length := (List.getElem?_eq_some_iff.1 h2).1
    have hkeyf : ∀ e', es[j]? = some e' → ({ e' with key := eK x, val := eV v } : MapEntry).key = e'.key := fun e' he' => by rw [hj] at he'; cases he'; exact h3.symm
    have hlist : (es.modify j (fun e' => { e' with key := eK x, val := eV v })).toList = es.toList.set j { e0 with key := eK x, val := eV v } := by
      apply List.ext_getElem?
      intro i
      simp only [Array.getElem?_toList, Array.getElem?_modify, List.getElem?_set]
      by_cases hi : j = i
      · subst hi; simp [hj]; exact (Array.getElem?_eq_some_iff.1 hj).1
      · simp [hi]
    refine fin (es.modify j (fun e' => { e' with key := eK x, val := eV v })) clock ?_ ⟨by simpa using F.size, MapKept.stamped_modify F.stamped _ _ (fun _ _ => rfl) (fun e' _ he' => hkeyf e' he'), ?_⟩ (by simp; omega) ?_ ?_ ?_
    · simp [Instr.mapUpdate, run_underlying ht, MapKept.run_getObj_map hb, Kd.check w false hkey, h1, hj, h3, Kd.stays w hkey, MapKept.run_setObj_map _ hb, Result.andThen, ChangeMaps.setBlock]
    · intro y hy
      rw [hlist] at hy
      rcases List.mem_or_eq_of_mem_set hy with hy | rfl
      · exact F.reads y hy
      · exact ⟨_, WideElems.rd_mk hkey rfl⟩
    · exact ⟨{ e0 with key := eK x, val := eV v }, by rw [hlist]; exact List.mem_iff_getElem.2 ⟨j, by simpa using hjl, by simp⟩, rfl, rfl⟩
    · intro y hy hne
      rw [hlist]
      obtain ⟨i, hi, rfl⟩ := List.getElem_of_mem hy
      have hij : j ≠ i := fun e => by
        subst e
        have : es.toList[j] = e0 := by rw [List.getElem?_eq_getElem hjl] at h2; exact Option.some.inj h2
        rw [this] at hne; exact hne h3
      exact List.mem_iff_getElem.2 ⟨i, by simpa using hi, by rw [List.getElem_set_ne hij]⟩
    · intro y hy hne
      rw [hlist] at hy
      rcases List.mem_or_eq_of_mem_set hy with hy | rfl
      · exact hy
      · exact absurd rfl hne
end
theorem mkm_intro {w : World} {K : Nat → World → Prop}
    (h : ∀ b w', b = w.heap.size → (∀ {A V : Type} (P : Program) (k : TypeId) (eK : A → Value) (eV : V → Value), MapT P k eK eV w' b 0 (fun _ => none)) → Ext w w' → w'.heap.size = b + 1 → K b w') : mkm w K :=
  h _ _ rfl (fun P k eK eV => MapT.made w) ((Below.refl _ w).alloc (Nat.le_refl _) _) (by simp)
end Go.Sh
namespace Go.Proofs
open Go Go.Sh Go.RowKit

/- collect: calling a function with each node of a kind -/
def ofK (kind : Int) (f : Fo) : List Nn := (nodesF f).filter fun x => decide (x.k = kind)
theorem ofK_cons (kind : Int) (k t n) (ps r : Fo) : ofK kind (.cons k t n ps r) = (if k = kind then [⟨k, t, n, ps⟩] else []) ++ (ofK kind ps ++ ofK kind r) := by
  unfold ofK
  rw [nodesF, List.filter_cons, List.filter_append]
  by_cases h : k = kind
  · simp [h]
  · simp [h]
theorem ofK_len (kind : Int) (f : Fo) : (ofK kind f).length ≤ f.size := by
  unfold ofK; rw [← nodesF_len]; exact List.length_filter_le _ _

/- Pages -/
def pgF (f : Fo) : List (List UInt8) := (ofK 3 f).map (·.t)
def pgE (f : Fo) : Int := if patE f ≠ 0 then patE f else if (pgF f).Nodup then 0 else 7
def pgR (f : Fo) : List (List UInt8) := if pgE f ≠ 0 then [] else pgF f
theorem slT_str : SlT Tryz.prog 23 9 1 16 (.string ⟨⟨[]⟩⟩) := ⟨by kernel_rfl, by kernel_rfl, rfl, by decide⟩
theorem kd9 : Maps.Keyed Tryz.prog 9 := Maps.string_keyed (by kernel_rfl)
abbrev eS (s : List UInt8) : Value := .string ⟨⟨s⟩⟩
abbrev eB (b : Bool) : Value := .bool b
theorem keyS {s : List UInt8} (h : s.length ≤ 4611686018427387904) : keyOf Tryz.prog 9 (eS s) = some (.string s) :=
  WideMaps.keyOf_string_mk (P := Tryz.prog) (by kernel_rfl) (show (⟨⟨s⟩⟩ : ByteArray).size ≤ maxLen by simp only [maxLen]; show s.length ≤ _; omega)
theorem zero_run {P : Program} {T : TypeId} {v : Value} (h : (P.info? T).bind (·.zero) = some v) (w : World) : (zeroValue T).run P w = .ok v w := by
  cases hi : P.info? T with
  | none => rw [hi] at h; cases h
  | some i =>
    rw [hi] at h
    have hz : i.zero = some v := h
    simp [zeroValue, typeInfo, hi, hz]

/- the state of the walk over the pages -/
def PgS (b6 b8 b10 b13 B : Nat) (W : World) (oa : Option Addr) (l : List (List UInt8)) : Prop :=
  ∃ oc fm, Blk W b13 [.bool (!decide l.Nodup)] 4 ∧ Blk W b10 [.map (some b8)] 68 ∧ MapT Tryz.prog 9 eS eB W b8 l.length fm ∧ (∀ t, fm t = if t ∈ l then some true else none) ∧
    Blk W b6 [.slice oa l.length oc] 23 ∧ OwnL encStr W B 9 oa l.length oc l
end Go.Proofs
namespace Go.Proofs
open Go Go.Sh Go.RowKit

/- what is written -/
def writN (k : Int) (t : List UInt8) (n : Int) (w : List UInt8) : List UInt8 := if k = 1 ∨ k = 10 then t else if k = 6 then List.replicate n.toNat 95 else w
def writF : Fo → List UInt8
  | .nil => []
  | .cons k t n ps r => writN k t n (writF ps) ++ writF r
theorem writF_app : ∀ (f g : Fo), writF (f.app g) = writF f ++ writF g
  | .nil, g => rfl
  | .cons k t n ps r, g => by simp only [Fo.cons_app, writF, writF_app r, List.append_assoc]
theorem writF_len : ∀ (f : Fo), good f → (writF f).length ≤ tlen f + 100 * f.size
  | .nil, _ => by simp [writF]
  | .cons k t n ps r, h => by
    have h1 := writF_len ps h.2.1
    have h2 := writF_len r h.2.2
    have h3 : (writN k t n (writF ps)).length ≤ t.length + 100 + (writF ps).length := by
      unfold writN
      split
      · omega
      · split
        · rename_i h6
          have := h.1.2.2.1 (by simp only [numsF]; rw [h6]; rfl)
          simp; omega
        · omega
    simp only [writF, List.length_append, tlen, Fo.size]; omega
set_option maxRecDepth 20000 in
theorem written_spec {S : Nat → Prop} : ∀ (f : Fo) {R : Ending → World → Prop} {w : World} {a : Option Addr} {n c : Nat} (hs : f.size ≤ 1000000000) (hg : good f) (hl : tlen f ≤ 100000000000) (hf : SlF S w a n f)
    (h : ∀ w', Ext w w' → R (.returned (.string ⟨⟨writF f⟩⟩)) w'), Calls Tryz.prog F_legibility_written ⟨[.slice a n c]⟩ w R := by
  intro f
  induction hz : f.size using Nat.strongRecOn generalizing f with
  | _ z ih =>
  intro R w a n c hs hg hl hf h
  apply c_legibility_written
  have hn := hf.1
  have hfl := f.len_le_size
  have hlen := writF_len f hg
  refine al_intro fun b2 w3 hb2 B2 e3 s3 => ?_
  have hbld : BldAt w3 b2 none [] := ⟨.pointer none, 0, B2, .inl rfl, Owns.nil _ _ _ _⟩
  refine ⟨fun i W m => ∃ (pr r : Fo) (bo : Option Addr), f = pr.app r ∧ i = pr.len ∧ m = r.len ∧ BldAt W b2 bo (writF pr) ∧ Ext w W, ⟨_, .nil, f, none, rfl, rfl, rfl, hbld, e3⟩, ?_⟩
  rintro _ W m ⟨pr, r, bo, hpr, rfl, rfl, hb, he⟩ _
  refine br_split (fun hlt => ?_) (fun hge => ?_)
  · obtain ⟨k, t, mm, ps, r, rfl⟩ := Fo.next hpr (by omega)
    have hsl := Fo.sub_len hpr
    have hsz := Fo.sub_size hpr
    have e1 : f = (pr.app (.one k t mm ps)).app r := by rw [Fo.app_one_app]; exact hpr
    have hG := hg
    rw [hpr, good_app] at hG
    obtain ⟨hgpr, hok, hgp, _⟩ := hG
    have htl : tlen (.cons k t mm ps r) ≤ tlen f := by rw [hpr, tlen_app]; omega
    simp only [tlen] at htl
    have hwl : (writF pr).length + (writN k t mm (writF ps)).length ≤ (writF f).length := by
      rw [hpr, writF_app, writF]; simp only [List.length_append]; omega
    have hw1 : writF (pr.app (.one k t mm ps)) = writF pr ++ writN k t mm (writF ps) := by rw [writF_app]; simp [Fo.one, writF]
    obtain ⟨q, a', c', hq, hSq, hql, hN⟩ := (hf.ext he).get hpr
    refine hq _ ⟨k, hN.kind, t, hN.text, mm, hN.num, a', ps.len, c', hN.parts, ?_⟩
    refine al_stL (by simp) (by intro u hu; simp only [List.mem_cons, List.not_mem_nil, or_false] at hu; rcases hu with rfl | rfl | rfl | rfl <;> rfl) fun bx w1 hbx hBx e2 s2 => ?_
    obtain ⟨x0, x1, x2, x3⟩ := blk4 hBx
    have he1 := ext_trans he e2
    have zz := he.size
    have wr : ∀ (s : List UInt8) (W3 : World) (K : Ending → World → Prop), s = writN k t mm (writF ps) → Ext w1 W3 → (∀ w'' (v : Int) (v2 : Value), (∃ m' : Nat, m' < (Fo.cons k t mm ps r).len ∧ ∃ (pr1 r1 : Fo) (bo1 : Option Addr), f = pr1.app r1 ∧ IntKind.i64.wrap ((pr.len : Int) + 1) = pr1.len ∧ m' = r1.len ∧ BldAt w'' b2 bo1 (writF pr1) ∧ Ext w w'') → K (.returned (.tuple ⟨[.int .i64 v, v2]⟩)) w'') →
        Calls Tryz.prog F_strings_Builder_WriteString ⟨[.pointer (some ⟨b2, 0, none⟩), .string ⟨⟨s⟩⟩]⟩ W3 K := by
      rintro s W3 K rfl e5 hK
      have z5 := e5.size
      have hb3 := (hb.ext e2).ext e5
      refine WriteString_spec hb3 (by omega) fun a'' w'' hb'' hk'' hc'' => ?_
      refine hK w'' _ _ ⟨r.len, by simp, pr.app (.one k t mm ps), r, a'', e1, by rw [wrap_nat (by omega)]; simp [Fo.one], rfl, by rw [hw1]; exact hb'', ?_⟩
      exact ext_chgS (ext_trans he1 e5) hc'' fun j hj => hj.elim (fun e => by omega) (fun e => by have := (hb3.bk e).1; omega)
    refine ⟨k, x0, ?_⟩
    intro K18 hK18
    have k18 : ∀ v, v = decide (k = 1 ∨ k = 10) → K18 v w1 := by
      rintro _ rfl
      refine hK18 _ _ fun _ => br_split (fun g => ?_) (fun g => br_split (fun g6 => ?_) (fun g6 => ?_))
      · exact ⟨t, x1, wr _ _ _ (by unfold writN; rw [if_pos g]) (Below.refl _ _) fun w'' v v2 hh => ⟨_, _, rfl, hh⟩⟩
      · have hm : 0 ≤ mm ∧ mm < 100 := hok.2.2.1 (by simp only [numsF]; rw [show k = 6 from g6]; rfl)
        refine ⟨mm, x2, ?_⟩
        rw [show mm = ((mm.toNat : Nat) : Int) by omega]
        refine Repeat_spec _ (by omega) fun W3 e5 => ⟨_, rfl, wr _ _ _ (by unfold writN; rw [if_neg g, if_pos g6]) e5 fun w'' v v2 hh => ⟨_, _, rfl, ?_⟩⟩
        rw [show ((mm.toNat : Nat) : Int) = mm by omega]
        exact hh
      · refine ⟨a', ps.len, c', x3, ?_⟩
        refine ih _ (hz ▸ hsz) ps rfl (by omega) hgp (by omega) (hN.sl.ext e2) fun W3 e5 => ⟨_, rfl, wr _ _ _ (by unfold writN; rw [if_neg g, if_neg g6]) e5 fun w'' v v2 hh => ⟨_, _, rfl, hh⟩⟩
    exact br_split (fun g => k18 _ (by simp [g])) (fun g => k18 _ (by simp [g]))
  · obtain ⟨rfl, rfl⟩ := Fo.last hpr (by omega)
    refine String_spec hb fun w5 hbel => ⟨_, rfl, h _ (he.trans (hbel.mono (by omega)))⟩

/- Written -/
def wriE (f : Fo) : Int := if errU f ≠ 0 then errU f else if 65536 < (writF f).length then 4 else 0
def wriS (f : Fo) : List UInt8 := if wriE f ≠ 0 then [] else writF f
theorem wriE_zero {f : Fo} (h : wriE f = 0) : errU f = 0 ∧ (writF f).length ≤ 65536 ∧ wriS f = writF f := by
  have h' := h
  unfold wriE at h
  split at h
  · rename_i hh; exact absurd h hh
  · rename_i hh
    split at h
    · cases h
    · exact ⟨Decidable.not_not.1 hh, by omega, by unfold wriS; rw [if_neg (by simp [h'])]⟩
theorem Written_spec {R : Ending → World → Prop} {S : Nat → Prop} {w : World} {a : Option Addr} {n c : Nat} (f : Fo) (hs : small f) (hF : Forms w) (hf0 : SlF S w a n f)
    (h : ∀ w', Ext w w' → R (.returned (.tuple ⟨[.string ⟨⟨wriS f⟩⟩, .int .i64 (wriE f)]⟩)) w') : Calls Tryz.prog F_legibility_Written ⟨[.slice a n c]⟩ w R := by
  apply c_legibility_Written
  unfold wriS wriE at h
  refine checkL_spec f hs hF hf0 fun w1 e1 => ⟨_, rfl, br_split (fun g => ?_) (fun g => ?_)⟩
  · simp only [if_pos g] at h; exact h _ e1
  simp only [if_neg g] at h
  obtain ⟨hc0, _⟩ := errU_zero (Decidable.not_not.1 g)
  obtain ⟨q1, q2, q3⟩ := check_zero hc0
  refine written_spec f (by omega) q2 (by omega) (hf0.ext e1) fun w2 e2 => ⟨_, rfl, ?_⟩
  apply c_legibility_limited
  have E := ext_trans e1 e2
  refine br_split (fun g1 => ⟨_, _, rfl, ?_⟩) (fun g1 => ⟨_, _, rfl, ?_⟩)
  · simp only [if_pos (show 65536 < (writF f).length by omega)] at h; exact h _ E
  · simp only [if_neg (show ¬ 65536 < (writF f).length by omega)] at h; exact h _ E

/- the reference: the same, where nodes of texts and gaps have no parts -/
theorem no_parts {k : Int} {t : List UInt8} {n : Int} {ps : Fo} (h : nodeOk k t n ps) (hk : k = 1 ∨ k = 6) : ps = .nil :=
  Fo.eq_nil_of_len (h.2.2.2.2.1 (by unfold partsF; rcases hk with rfl | rfl <;> rfl))
end Go.Proofs
namespace Go.Proofs
open Go Go.Sh Go.RowKit

abbrev Rw := List UInt8 × List UInt8
def encR : Enc Rw := ⟨fun x => [.string ⟨⟨x.1⟩⟩, .string ⟨⟨x.2⟩⟩], 2, fun _ => rfl, by decide, by intro x v hv; simp only [List.mem_cons, List.not_mem_nil, or_false] at hv; rcases hv with rfl | rfl <;> rfl⟩
theorem slT_rw : SlT Tryz.prog 24 47 2 32 (.agg ⟨[.string ⟨⟨[]⟩⟩, .string ⟨⟨[]⟩⟩]⟩) := ⟨by kernel_rfl, by kernel_rfl, rfl, by decide⟩
abbrev eR (p : Rw) : Value := .agg ⟨[.string ⟨⟨p.1⟩⟩, .string ⟨⟨p.2⟩⟩]⟩
theorem laidOutK : laidOutB Tryz.prog = true := by kernel_rfl
theorem kdRw : Maps.Keyed Tryz.prog 47 :=
  Maps.Keyed.of_law (deep_law_laid laidOutK (m := 3) (by omega) (of_decide_eq_true (by kernel_rfl)) (by kernel_rfl) (by kernel_rfl))
theorem keyRw {p : Rw} (h1 : p.1.length ≤ 4611686018427387904) (h2 : p.2.length ≤ 4611686018427387904) : ∃ kl, keyOf Tryz.prog 47 (eR p) = some kl := by
  obtain ⟨fs, hu⟩ : ∃ fs, Tryz.prog.underlying 47 = some (.struct fs) := ⟨_, Tryz.underlying47⟩
  have hk : Tryz.prog.keyType 47 = true := by kernel_rfl
  have hc : Tryz.prog.cellsOf 47 = 2 := by kernel_rfl
  have hf : (eR p).formed Tryz.prog 47 = true := by simp [Value.formed, hu, hc]
  obtain ⟨d, hd⟩ : ∃ d, Tryz.prog.types.size = d + 1 := ⟨Tryz.prog.types.size - 1, by
    have : 0 < Tryz.prog.types.size := of_decide_eq_true (by kernel_rfl)
    omega⟩
  unfold keyOf
  rw [hu]
  simp only [hk, hf, Bool.and_self, if_true]
  have hl : ∃ ls, Tryz.prog.keyLits (Tryz.prog.types.size + 1) 47 (eR p).cells.toList = some ls := by
    rw [hd]
    have s9 : Tryz.prog.cellsOf 9 = 1 := by kernel_rfl
    have u9 : Tryz.prog.underlying 9 = some .string := by kernel_rfl
    have a1 : (⟨⟨p.1⟩⟩ : ByteArray).size ≤ maxLen := by simp only [maxLen]; show p.1.length ≤ _; omega
    have a2 : (⟨⟨p.2⟩⟩ : ByteArray).size ≤ maxLen := by simp only [maxLen]; show p.2.length ≤ _; omega
    simp [Program.keyLits, Tryz.underlying47, Value.cells, hc, s9, u9, a1, a2]
  obtain ⟨ls, hl⟩ := hl
  exact ⟨_, by rw [hl]; rfl⟩
end Go.Proofs
namespace Go.Proofs
open Go Go.Sh Go.RowKit

/- abbreviations and what they stand for -/
def pairN (x : Nn) : List Rw := if x.k = 10 then [(x.t, patF x.ps)] else []
def pairP (l : List Nn) : List Rw := l.flatMap pairN
def pairL (f : Fo) : List Rw := pairP (nodesF f)
theorem pairP_app (l m : List Nn) : pairP (l ++ m) = pairP l ++ pairP m := by simp [pairP]
def memR (x : Rw) : List Rw → Bool
  | [] => false
  | y :: l => decide (x = y) || memR x l
theorem memR_iff (x : Rw) : ∀ l : List Rw, memR x l = true ↔ x ∈ l
  | [] => by simp [memR]
  | y :: l => by simp only [memR, Bool.or_eq_true, decide_eq_true_eq, List.mem_cons, memR_iff x l]
def dedup (l : List Rw) : List Rw := l.foldl (fun acc x => if memR x acc = true then acc else acc ++ [x]) []
theorem dedup_snoc (l : List Rw) (x : Rw) : dedup (l ++ [x]) = if memR x (dedup l) = true then dedup l else dedup l ++ [x] := by unfold dedup; rw [List.foldl_append]; rfl
theorem snoc_ind {α : Type} {Q : List α → Prop} (h0 : Q []) (h1 : ∀ l x, Q l → Q (l ++ [x])) (l : List α) : Q l := by
  obtain ⟨m, rfl⟩ : ∃ m : List α, l = m.reverse := ⟨l.reverse, by simp⟩
  induction m with
  | nil => exact h0
  | cons x m ih => rw [List.reverse_cons]; exact h1 _ _ ih
theorem mem_dedup (l : List Rw) : ∀ x : Rw, x ∈ dedup l ↔ x ∈ l := by
  refine snoc_ind (Q := fun l => ∀ x : Rw, x ∈ dedup l ↔ x ∈ l) (by simp [dedup]) (fun l y ih x => ?_) l
  rw [dedup_snoc]
  split
  · rename_i h
    rw [memR_iff] at h
    rw [ih, List.mem_append]
    constructor
    · exact .inl
    · rintro (h1 | h1)
      · exact h1
      · simp only [List.mem_singleton] at h1; subst h1; exact (ih _).1 h
  · simp [ih]
theorem dedup_len (l : List Rw) : (dedup l).length ≤ l.length := by
  refine snoc_ind (Q := fun l => (dedup l).length ≤ l.length) (by simp [dedup]) (fun l y ih => ?_) l
  rw [dedup_snoc]; split <;> simp <;> omega
theorem dedup_old {l : List Rw} {x : Rw} (h : x ∈ l) : dedup (l ++ [x]) = dedup l := by rw [dedup_snoc, if_pos ((memR_iff _ _).2 ((mem_dedup _ _).2 h))]
theorem dedup_new {l : List Rw} {x : Rw} (h : x ∉ l) : dedup (l ++ [x]) = dedup l ++ [x] := by rw [dedup_snoc, if_neg (fun hh => h ((mem_dedup _ _).1 ((memR_iff _ _).1 hh)))]
theorem dedup_nodup (l : List Rw) : (dedup l).Nodup := by
  refine snoc_ind (Q := fun l => (dedup l).Nodup) (by simp [dedup]) (fun l y ih => ?_) l
  by_cases h : y ∈ l
  · rw [dedup_old h]; exact ih
  · rw [dedup_new h, List.nodup_append]
    refine ⟨ih, by simp, fun a ha b hb e => ?_⟩
    simp only [List.mem_singleton] at hb
    subst hb e
    exact h ((mem_dedup _ _).1 ha)
theorem pairP_len (l : List Nn) : (pairP l).length ≤ l.length := by
  induction l with
  | nil => simp [pairP]
  | cons x l ih =>
    have e : pairP (x :: l) = pairN x ++ pairP l := rfl
    have : (pairN x).length ≤ 1 := by unfold pairN; split <;> simp
    rw [e, List.length_append, List.length_cons]; omega
def longB (p : Rw) : Bool := decide (65536 < p.2.length)
def pairE (f : Fo) : Int := if errU f ≠ 0 then errU f else if (pairL f).any longB then 4 else 0
def pairR (f : Fo) : List Rw := if pairE f ≠ 0 then [] else dedup (pairL f)
theorem sub_facts : ∀ (f : Fo) (x : Nn), x ∈ nodesF f → x.ps.size ≤ f.size ∧ tlen x.ps ≤ tlen f ∧ (good f → good x.ps) ∧ x.t.length ≤ tlen f
  | .nil, x, h => by simp [nodesF] at h
  | .cons k t n ps r, x, h => by
    simp only [nodesF, List.mem_cons, List.mem_append] at h
    simp only [Fo.size, tlen]
    rcases h with rfl | h | h
    · exact ⟨by show ps.size ≤ _; omega, by show tlen ps ≤ _; omega, fun h => h.2.1, by show t.length ≤ _; omega⟩
    · obtain ⟨a, b, c, d⟩ := sub_facts ps x h
      exact ⟨by omega, by omega, fun h => c h.2.1, by omega⟩
    · obtain ⟨a, b, c, d⟩ := sub_facts r x h
      exact ⟨by omega, by omega, fun h => c h.2.2, by omega⟩

/- the state of the walk -/
def PaS (b2 b4 b13 b15 b17 B : Nat) (W : World) (oa : Option Addr) (l : List Rw) : Prop :=
  ∃ oc fm, Blk W b13 [.slice oa (dedup l).length oc] 24 ∧ OwnL encR W B 47 oa (dedup l).length oc (dedup l) ∧ Blk W b17 [.map (some b15)] 72 ∧ MapT Tryz.prog 47 eR eB W b15 l.length fm ∧ (∀ p, fm p = if p ∈ l then some true else none) ∧
    (∃ v, Blk W b2 [v] 24) ∧ (∃ v, Blk W b4 [v] 30) ∧ (∀ p ∈ l, longB p = false)
theorem PaS.chg {b2 b4 b13 b15 b17 B : Nat} {W W' : World} {oa : Option Addr} {l : List Rw} {S : Nat → Prop} (h : PaS b2 b4 b13 b15 b17 B W oa l) (hc : Chg S W W') (hs : ∀ k, (k = b2 ∨ k = b4 ∨ k = b13 ∨ k = b15 ∨ k = b17 ∨ bk oa k) → ¬ S k) : PaS b2 b4 b13 b15 b17 B W' oa l := by
  obtain ⟨oc, fm, p1, p2, p3, p4, p5, ⟨v2, p6⟩, ⟨v4, p7⟩, p8⟩ := h
  exact ⟨oc, fm, hc.blk p1 (hs _ (by simp)), Owns.chg p2 hc (fun k hk => hs _ (by simp [hk])), hc.blk p3 (hs _ (by simp)), p4.chg hc (hs _ (by simp)), p5, ⟨v2, hc.blk p6 (hs _ (by simp))⟩, ⟨v4, hc.blk p7 (hs _ (by simp))⟩, p8⟩
theorem blk2' {w : World} {b : Nat} {v0 v1 : Value} {T : TypeId} (h : Blk w b [v0, v1] T) : w.cell? ((⟨b, 0, none⟩ : Addr).add 0) = some v0 ∧ w.cell? ((⟨b, 0, none⟩ : Addr).add 1) = some v1 := by
  simp only [add_none, h.cell]; exact ⟨rfl, rfl⟩

set_option maxRecDepth 20000 in
theorem Pairs_spec {R : Ending → World → Prop} {S : Nat → Prop} {w : World} {a : Option Addr} {n c : Nat} (f : Fo) (hs : small f) (hF : Forms w) (hf0 : SlF S w a n f)
    (h : ∀ a' c' w', RowAt encR (fun k => w.heap.size ≤ k) w' a' (pairR f).length (pairR f) → Ext w w' → R (.returned (.tuple ⟨[.slice a' (pairR f).length c', .int .i64 (pairE f)]⟩)) w') :
    Calls Tryz.prog F_legibility_Pairs ⟨[.slice a n c]⟩ w R := by
  apply c_legibility_Pairs
  refine al_intro fun b2 w3 hb2 B2 e3 s3 => ?_
  refine al_intro fun b4 w5 hb4 B4 e5 s5 => ?_
  have E5 := ext_trans e3 e5
  refine checkL_spec f hs (hF.ext E5) (hf0.ext E5) fun w7 e7 => ⟨_, rfl, ?_⟩
  have E7 := ext_trans E5 e7
  have z5 := E5.size
  have z7 := e7.size
  have B2' := (B2.ext e5).ext e7
  have B4' := B4.ext e7
  refine br_split (fun g => ?_) (fun g => ?_)
  · refine stL_one B2' rfl fun w9 q2 hc9 s9 => stL_one (hc9.blk B4' (by omega)) rfl fun w10 q4 hc10 s10 => ?_
    have q2' := hc10.blk q2 (by omega)
    have he : pairE f = errU f := by unfold pairE; rw [if_pos g]
    have hr : pairR f = [] := by unfold pairR; rw [if_pos (by rw [he]; exact g)]
    rw [hr, he] at h
    refine ⟨none, 0, 0, by rw [q2'.cell]; rfl, _, by rw [q4.cell]; rfl, ?_⟩
    exact h none 0 w10 (RowAt.nil _) (ext_chgS (ext_chgS E7 hc9 fun k hk => by omega) hc10 fun k hk => by omega)
  have he0 := Decidable.not_not.1 g
  obtain ⟨hc0, _⟩ := errU_zero he0
  obtain ⟨q1, q2, q3⟩ := check_zero hc0
  refine al_intro fun b13 w14 hb13 B13 e14 s14 => ?_
  refine mkm_intro fun b15 w16 hb15 M15 e16 s16 => ?_
  refine al_intro fun b17 w18 hb17 B17 e18 s18 => ?_
  refine stL_one B17 rfl fun w19 B19 hc19 s19 => ?_
  have e19 : Ext w16 w19 := ext_chgS e18 hc19 fun k hk => by omega
  refine allU_spec fun bs w21 Bs e21 hbs => ⟨_, _, _, rfl, fun base => ?_⟩
  have e1421 := ext_trans (ext_trans e16 e19) e21
  have e721 := ext_trans e14 e1421
  have E21 := ext_trans E7 e721
  have z21 := e721.size
  have zE := E21.size
  have ls := Bs.lt
  have hf : SlF (fun k => S k ∧ k < w.heap.size) w a n f := hf0.imp fun k hk hl => ⟨hk, hl⟩
  have hst : PaS b2 b4 b13 b15 b17 (b17 + 1) w21 none [] :=
    ⟨0, fun _ => none, B13.ext e1421, Owns.nil _ _ _ _, B19.ext e21, ((M15 _ _ _ _).ext e19).ext e21, fun p => by simp, ⟨_, B2'.ext e721⟩, ⟨_, B4'.ext e721⟩, fun p hp => by simp at hp⟩
  have hpl := pairP_len (nodesF f)
  rw [nodesF_len] at hpl
  rw [cd_legibility_Pairs_1]
  refine RFw_lawO anA_legibility_Pairs_1 anB_legibility_Pairs_1 (gf := F_legibility_all_1) rfl (by kernel_rfl) (xs := nodesU f false) (E := NuE (fun k => (S k ∧ k < w.heap.size) ∨ k = bs) w21) (Rd := fun k => (S k ∧ k < w.heap.size) ∨ k = bs)
    (fun v1 he => (all_iterO f hs bs v1 (fun k hk => by have := he.size; omega) (Bs.ext he) ((hf.ext (ext_trans E21 he)).imp fun k hk _ => .inl hk) (.inr rfl)).mono ?_) (fun y vs hE => by obtain ⟨a', c', rfl, _⟩ := hE; rfl) (by decide) (fun k hk => by omega)
    (fun k => k = b2 ∨ k = b4 ∨ k = b13 ∨ k = b15 ∨ k = b17) (fun k hk => by omega)
    (fun pre S1 W => ∃ oa, PaS b2 b4 b13 b15 b17 (b17 + 1) W oa (pairP (pre.map (·.1))) ∧ (∀ k, S1 k ↔ k = b2 ∨ k = b4 ∨ k = b13 ∨ k = b15 ∨ k = b17 ∨ bk oa k) ∧ Ext w W ∧ (∀ k, bk oa k → w21.heap.size ≤ k) ∧ Blk W bs [.slice a n c] 22)
    (fun S1 W => Blk W b2 [.slice none 0 0] 24 ∧ Blk W b4 [.int .i64 4] 30 ∧ S1 b2 ∧ S1 b4 ∧ Ext w W ∧ (pairL f).any longB = true) (fun _ _ => False)
    ?_ ?_ (fun _ _ _ h => h.elim) ⟨none, hst, fun k => by simp [bk], E21, (fun k hk => by simp [bk] at hk), Bs⟩ ?_ ?_ ?_ (fun _ _ _ _ _ _ _ h => h.elim)
  · rintro x vs ⟨a', c', rfl, hsl⟩
    exact ⟨a', c', rfl, hsl.keep' fun k hk hl => ⟨hk, by omega, ((he.block k (by omega))).symm⟩⟩
  · rintro pre S1 W W' ⟨oa, g1, g2, g3, g4, g5⟩ hc
    exact ⟨oa, g1.chg hc (fun k hk hh => hh.2 ((g2 k).2 hk)), g2, ext_chgS g3 hc (fun k hk => by omega), g4, hc.blk g5 (fun hh => by omega)⟩
  · rintro S1 W W' ⟨g1, g2, g3, g4, g5, g6⟩ hc
    exact ⟨hc.blk g1 (fun hh => hh.2 g3), hc.blk g2 (fun hh => hh.2 g4), g3, g4, ext_chgS g5 hc (fun k hk => by omega), g6⟩
  · rintro pre ⟨⟨k1, t1, m1, ps1⟩, u1⟩ vs S1 W l ⟨a', c', rfl, hsl⟩ hpre hl1 hl2 hl3 hS1 ⟨oa, g1, g2, g3, g4, g5⟩
    refine Eq.mpr (er_legibility_Pairs_1 base _ _ _ _ _ _ _ _ _ _ _ _ _ _ _ _ _ _ _) ?_
    refine round_in hl2 (by simp) (by intro u hu; simp only [List.mem_cons, List.not_mem_nil, or_false] at hu; rcases hu with rfl | rfl | rfl | rfl <;> rfl) fun bx W1 W2 hbx _ hX2 hc2 s2 => ?_
    obtain ⟨x0, x1, x2, x3⟩ := blk4 hX2
    have nl : ∀ k, S1 k → k ≠ l := fun k hk he => hl3 (he ▸ hk)
    have h1 := g1.chg hc2 (fun k hk => nl k ((g2 k).2 hk))
    have E2 : Ext w W2 := ext_chgS g3 hc2 fun k hk => by omega
    have gs := hc2.blk g5 (by omega)
    have hp := fst_prefix hpre
    have hmem : (⟨k1, t1, m1, ps1⟩ : Nn) ∈ nodesF f := hp.subset (by simp)
    obtain ⟨f1, f2, f3, f4⟩ := sub_facts f _ hmem
    simp only at f1 f2 f3 f4
    have hgp := f3 q2
    have hplen := patF_len ps1 hgp
    have hlp : (pairP (pre.map (·.1))).length ≤ f.size := by
      have h1 := pairP_len (pre.map (·.1))
      have h2 := hp.length_le
      rw [nodesF_len] at h2
      simp at h1 h2 ⊢; omega
    have hpp : pairP ((pre ++ [((⟨k1, t1, m1, ps1⟩ : Nn), u1)]).map (·.1)) = pairP (pre.map (·.1)) ++ pairN ⟨k1, t1, m1, ps1⟩ := by rw [List.map_append, pairP_app]; simp [pairP]
    have hdl := dedup_len (pairP (pre.map (·.1)))
    have same : ∀ W3, Ext W2 W3 → pairN ⟨k1, t1, m1, ps1⟩ = [] ∨ (∃ p, pairN ⟨k1, t1, m1, ps1⟩ = [p] ∧ p ∈ pairP (pre.map (·.1))) → Chg (fun k => S1 k ∨ W.heap.size ≤ k) W2 W3 ∧ ∃ S' : Nat → Prop, (∀ k, S' k → (S1 k ∨ W.heap.size ≤ k) ∧ k < W3.heap.size) ∧
        ∃ oa, PaS b2 b4 b13 b15 b17 (b17 + 1) W3 oa (pairP ((pre ++ [((⟨k1, t1, m1, ps1⟩ : Nn), u1)]).map (·.1))) ∧ (∀ k, S' k ↔ k = b2 ∨ k = b4 ∨ k = b13 ∨ k = b15 ∨ k = b17 ∨ bk oa k) ∧ Ext w W3 ∧ (∀ k, bk oa k → w21.heap.size ≤ k) ∧ Blk W3 bs [.slice a n c] 22 := by
      intro W3 e3 hh
      have z3 := e3.size
      have hP := h1.chg (S := fun _ => False) (.of_ext e3) (fun _ _ h => h)
      refine ⟨.of_ext e3, S1, fun k hk => ⟨.inl hk, by have := (hS1 k hk).1; omega⟩, oa, ?_, g2, ext_trans E2 e3, g4, gs.ext e3⟩
      rw [hpp]
      rcases hh with hh | ⟨p, hh, hm⟩
      · rw [hh, List.append_nil]; exact hP
      · rw [hh]
        obtain ⟨oc, fm, p1, p2, p3, p4, p5, p6, p7, p8⟩ := hP
        have hd := dedup_old hm
        refine ⟨oc, fm, by rw [hd]; exact p1, by rw [hd]; exact p2, p3, p4.mono (by simp), fun x => ?_, p6, p7, fun x hx => ?_⟩
        · rw [p5]
          by_cases hx : x ∈ pairP (pre.map (·.1))
          · simp [hx]
          · have : x ≠ p := fun e => hx (e ▸ hm)
            simp [hx, this]
        · rcases List.mem_append.1 hx with hx | hx
          · exact p8 x hx
          · simp only [List.mem_singleton] at hx; subst hx; exact p8 _ hm
    refine ⟨k1, x0, br_split (fun q => ?_) (fun q => ?_)⟩
    · exact same _ (Below.refl _ _) (.inl (by unfold pairN; rw [if_neg q]))
    have hk10 : k1 = 10 := Decidable.not_not.1 q
    have hpn : pairN ⟨k1, t1, m1, ps1⟩ = [(t1, patF ps1)] := by unfold pairN; rw [if_pos hk10]
    refine ⟨a', ps1.len, c', x3, ?_⟩
    have hslW : SlF (fun k => (S k ∧ k < w.heap.size) ∨ k = bs) W2 a' ps1.len ps1 := hsl.keep' fun k hk hl => ⟨hk, by have := hc2.size; omega, by
      rcases hk with hk | rfl
      · rw [E2.block k hk.2, E21.block k hk.2]
      · exact (show W2.heap[k]? = some _ from gs).trans (show w21.heap[k]? = some _ from Bs).symm⟩
    refine pattern_spec ps1 (by omega) hgp (by omega) hslW fun W3 e3 => ⟨_, rfl, ?_⟩
    apply c_legibility_limited
    have h3 := h1.chg (S := fun _ => False) (.of_ext e3) (fun _ _ h => h)
    have E3 := ext_trans E2 e3
    have z3 := e3.size
    have hmL : (t1, patF ps1) ∈ pairL f := by unfold pairL pairP; rw [List.mem_flatMap]; exact ⟨_, hmem, by rw [hpn]; simp⟩
    obtain ⟨oc, fm, p1, p2, p3, p4, p5, ⟨v2, p6⟩, ⟨v4, p7⟩, p8⟩ := h3
    refine br_split (fun gl => ⟨_, _, rfl, ?_⟩) (fun gl => ⟨_, _, rfl, ?_⟩)
    · refine br_split (fun _ => ?_) (fun hh => absurd (by decide) hh)
      refine dr_ok (stL_one p6 rfl fun W4 r2 hc4 s4 => dr_ok (stL_one (hc4.blk p7 (by omega)) rfl fun W5 r4 hc5 s5 => ?_))
      have hcc : Chg (fun k => k = b2 ∨ k = b4) W3 W5 := (hc4.mono fun k _ hk => .inl hk).trans (hc5.mono fun k _ hk => .inr hk)
      have m2 : S1 b2 := (g2 _).2 (by simp)
      have m4 : S1 b4 := (g2 _).2 (by simp)
      refine ⟨(Chg.of_ext e3).trans (hcc.mono fun k _ hk => .inl (hk.elim (fun e => e ▸ m2) (fun e => e ▸ m4))), fun k => k = b2 ∨ k = b4, fun k hk => ⟨.inl (hk.elim (fun e => e ▸ m2) (fun e => e ▸ m4)), by have := hcc.size; have := r4.lt; omega⟩, hc5.blk r2 (by omega), r4, .inl rfl, .inr rfl, ext_chgS E3 hcc fun k hk => by omega, ?_⟩
      rw [List.any_eq_true]
      exact ⟨_, hmL, by unfold longB; rw [decide_eq_true_eq]; show 65536 < (patF ps1).length; omega⟩
    · refine br_split (fun hh => absurd rfl hh) (fun _ => ?_)
      have hlb : longB (t1, patF ps1) = false := by unfold longB; simp; omega
      refine ⟨t1, (blk4 (hX2.ext e3)).2.1, ?_⟩
      refine al_stL (by simp) (by intro u hu; simp only [List.mem_cons, List.not_mem_nil, or_false] at hu; rcases hu with rfl | rfl <;> rfl) fun bp W4 hbp Bp e4 s4 => ?_
      have e34 := ext_trans e3 e4
      have z4 := e4.size
      obtain ⟨y0, y1⟩ := blk2' Bp
      obtain ⟨kl, hkl⟩ := keyRw (p := (t1, patF ps1)) (by show t1.length ≤ _; omega) (by show (patF ps1).length ≤ _; omega)
      refine dr_ok ⟨_, by rw [(p3.ext e4).cell]; rfl, t1, y0, patF ps1, y1, decide ((t1, patF ps1) ∈ pairP (pre.map (·.1))), ?_, ?_⟩
      · have hk := MapT.look (eV := eB) (p4.ext e4) kdRw (t := 72) (e := 4) (by kernel_rfl) (zero_run (v := .bool false) (by kernel_rfl) _) hkl
        rw [p5] at hk
        by_cases hm : (t1, patF ps1) ∈ pairP (pre.map (·.1))
        · rw [if_pos hm] at hk; rw [decide_eq_true hm]; exact hk
        · rw [if_neg hm] at hk; rw [decide_eq_false hm]; exact hk
      · refine br_cases (fun gm => ?_) (fun gm => ?_)
        · have hm : (t1, patF ps1) ∉ pairP (pre.map (·.1)) := by simpa using gm
          refine dr_ok ⟨_, by rw [(p3.ext e4).cell]; rfl, t1, y0, patF ps1, y1, ?_⟩
          refine MapT.update (eV := eB) (p4.ext e4) kdRw (t := 72) (e := 4) (by kernel_rfl) (by simp only [maxLen]; unfold small at hs; omega) hkl (fun y hy => by
            have := hy
            simp only [eR, Value.agg.injEq, Array.mk.injEq, List.cons.injEq, Value.string.injEq, ByteArray.mk.injEq, and_true] at this
            exact Prod.ext this.1 this.2) fun W5 fm' m5 hc5 hm1 hm2 => ?_
          have nb : ∀ {j}, bk oa j → b17 + 1 ≤ j ∧ j < W3.heap.size := fun hj => Owns.bk p2 hj
          have z5 := hc5.size
          have r13 := hc5.blk (p1.ext e4) (by omega)
          have rp := hc5.blk Bp (by omega)
          obtain ⟨y0', y1'⟩ := blk2' rp
          refine dr_ok ⟨_, _, _, by rw [r13.cell]; rfl, t1, y0', patF ps1, y1', ?_⟩
          have pL : OwnL encR W5 (b17 + 1) 47 oa (dedup (pairP (pre.map (·.1)))).length oc (dedup (pairP (pre.map (·.1)))) := Owns.chg (Owns.ext p2 e4) hc5 (fun k hk e => by have := nb hk; omega)
          unfold small at hs
          refine OwnL.push (E := encR) slT_rw pL (by omega) (t1, patF ps1) (by omega) (by omega) fun a'' c'' W6 ho hc6 hn6 => ?_
          have no : ∀ {j}, j ≤ b17 → ¬ bk oa j := fun hj hh => by have := nb hh; omega
          refine dr_ok (stL_one (hc6.blk r13 (no (by omega))) rfl fun W7 r13' hc7 s7 => ?_)
          have z6 := hc6.size
          have z7 := hc7.size
          have n13 : ∀ k, bk a'' k → ¬ k = b13 := fun k hk he => by have := (Owns.bk ho hk).1; omega
          have hcc : Chg (fun k => k = b15 ∨ bk oa k ∨ k = b13) W4 W7 := ((hc5.mono fun k _ hk => .inl hk).trans (hc6.mono fun k _ hk => .inr (.inl hk))).trans (hc7.mono fun k _ hk => .inr (.inr hk))
          have hsub : ∀ k, (k = b15 ∨ bk oa k ∨ k = b13) → S1 k := fun k hk => (g2 k).2 (by rcases hk with h | h | h <;> simp [h])
          have hdl1 : (dedup (pairP (pre.map (·.1)) ++ [(t1, patF ps1)])).length = (dedup (pairP (pre.map (·.1)))).length + 1 := by rw [dedup_new hm]; simp
          refine ⟨(Chg.of_ext e34).trans (hcc.mono fun k _ hk => .inl (hsub k hk)), fun k => k = b2 ∨ k = b4 ∨ k = b13 ∨ k = b15 ∨ k = b17 ∨ bk a'' k, fun k hk => ?_, a'', ?_, fun k => Iff.rfl, ext_chgS (ext_trans E3 e4) hcc fun k hk => ?_, fun k hk => ?_, ?_⟩
          · have zz := r13'.lt
            rcases hk with h | h | h | h | h | h
            · exact ⟨.inl ((g2 k).2 (by simp [h])), by omega⟩
            · exact ⟨.inl ((g2 k).2 (by simp [h])), by omega⟩
            · exact ⟨.inl ((g2 k).2 (by simp [h])), by omega⟩
            · exact ⟨.inl ((g2 k).2 (by simp [h])), by omega⟩
            · exact ⟨.inl ((g2 k).2 (by simp [h])), by omega⟩
            · exact ⟨(hn6 k h).elim (fun h => .inl ((g2 k).2 (by simp [h]))) (fun h => .inr (by have := hc2.size; omega)), by have := (Owns.bk ho h).2; omega⟩
          · rw [hpp, hpn]
            refine ⟨c'', fm', by rw [hdl1]; exact r13', by rw [hdl1, dedup_new hm]; exact Owns.chg ho hc7 n13, ?_, ?_, fun x => ?_, ⟨v2, ?_⟩, ⟨v4, ?_⟩, fun x hx => ?_⟩
            · exact hc7.blk (hc6.blk (hc5.blk (p3.ext e4) (by omega)) (no (by omega))) (by omega)
            · rw [List.length_append]; exact (m5.chg hc6 (no (by omega))).chg hc7 (by omega)
            · by_cases hx : x = (t1, patF ps1)
              · subst hx; rw [hm1]; simp
              · rw [hm2 x hx, p5]; simp [hx]
            · exact hc7.blk (hc6.blk (hc5.blk (p6.ext e4) (by omega)) (no (by omega))) (by omega)
            · exact hc7.blk (hc6.blk (hc5.blk (p7.ext e4) (by omega)) (no (by omega))) (by omega)
            · rcases List.mem_append.1 hx with hx | hx
              · exact p8 x hx
              · simp only [List.mem_singleton] at hx; subst hx; exact hlb
          · rcases hk with h | h | h
            · omega
            · have := g4 k h; omega
            · omega
          · exact (hn6 k hk).elim (g4 k) (fun h => by have := hc2.size; omega)
          · exact hcc.blk (gs.ext e34) (fun hk => hk.elim (fun h => by omega) (fun h => h.elim (fun h => by have := g4 _ h; omega) (fun h => by omega)))
        · have hm : (t1, patF ps1) ∈ pairP (pre.map (·.1)) := by simpa using gm
          exact same W4 e34 (.inr ⟨_, hpn, hm⟩)
  · rintro D S1 W hD1 hD2 hD3 hD4 ⟨oa, g1, g2, g3, g4, g5⟩
    rw [nodesU_fst] at g1
    obtain ⟨oc, fm, p1, p2, p3, p4, p5, ⟨v2, p6⟩, ⟨v4, p7⟩, p8⟩ := g1
    have nD : ∀ k, S1 k → k ≠ D := fun k hk he => hD3 (he ▸ hk)
    refine ⟨_, _, _, by rw [p1.cell]; rfl, ?_⟩
    refine stL_one p6 rfl fun W4 r2 hc4 s4 => stL_one (hc4.blk p7 (by omega)) rfl fun W5 r4 hc5 s5 => ?_
    have hcc : Chg (fun k => k = b2 ∨ k = b4) W W5 := (hc4.mono fun k _ hk => .inl hk).trans (hc5.mono fun k _ hk => .inr hk)
    have d2 := nD b2 ((g2 _).2 (by simp))
    have d4 := nD b4 ((g2 _).2 (by simp))
    refine retD_one ((hcc.block D hD2 (by omega)).trans hD4) ?_
    have r2' := blk_put (hc5.blk r2 (by omega)) d2 (.deferred none)
    have r4' := blk_put r4 d4 (.deferred none)
    refine ⟨_, _, _, by rw [r2'.cell]; rfl, _, by rw [r4'.cell]; rfl, ?_⟩
    have hany : (pairL f).any longB = false := by rw [List.any_eq_false]; exact fun x hx => by rw [p8 x hx]; simp
    have he : pairE f = 0 := by unfold pairE; rw [if_neg g, if_neg (by simp [hany])]
    have hr : pairR f = dedup (pairL f) := by unfold pairR; rw [if_neg (by simp [he])]
    rw [hr, he] at h
    have nb : ∀ {j}, bk oa j → w21.heap.size ≤ j := fun hj => g4 _ hj
    have p2' := Owns.chg p2 hcc (fun k hk hh => by have := g4 k hk; omega)
    have hput : Chg (fun k => k = D) W5 (W5.putObj D (.deferred none)) := Chg.put _ _ _ rfl
    have hnD : ∀ k, bk oa k → ¬ k = D := fun k hk => nD k ((g2 k).2 (by simp [hk]))
    have p2'' := Owns.chg p2' hput hnD
    refine h oa oc _ ?_ (ext_put (ext_chgS g3 hcc fun k hk => by omega) (by omega) _)
    exact (OwnL.out p2'').imp fun k hk _ => by have := g4 k hk; omega
  · rintro D S1 W hD1 hD2 hD3 hD4 ⟨g1, g2, g3, g4, g5, g6⟩
    have nD : ∀ k, S1 k → k ≠ D := fun k hk he => hD3 (he ▸ hk)
    have r2' := blk_put g1 (nD _ g3) (.deferred none)
    have r4' := blk_put g2 (nD _ g4) (.deferred none)
    refine retD_one hD4 ⟨_, _, _, by rw [r2'.cell]; rfl, _, by rw [r4'.cell]; rfl, ?_⟩
    have he : pairE f = 4 := by unfold pairE; rw [if_neg g, if_pos g6]
    have hr : pairR f = [] := by unfold pairR; rw [if_pos (by rw [he]; decide)]
    rw [hr, he] at h
    exact h none 0 _ (RowAt.nil _) (ext_put g5 (by omega) _)
end Go.Proofs
namespace Go.Proofs
open Go Go.Sh Go.RowKit

theorem pairL_cons (k t n) (ps r : Fo) : pairL (.cons k t n ps r) = pairN ⟨k, t, n, ps⟩ ++ (pairL ps ++ pairL r) := by
  unfold pairL; rw [nodesF, ← pairP_app]; rfl
theorem pairL_app (f g : Fo) : pairL (f.app g) = pairL f ++ pairL g := by unfold pairL; rw [nodesF_appU, pairP_app]
theorem pairL_len (f : Fo) : (pairL f).length ≤ f.size := by have := pairP_len (nodesF f); rw [nodesF_len] at this; exact this
theorem decRw (x y : Rw) : (decide (x.1 = y.1) && (decide (x.2 = y.2) && true)) = decide (x = y) := by
  rw [Bool.and_true, ← Bool.decide_and, decide_eq_decide, Prod.ext_iff]
theorem get_rw {S : Nat → Prop} {w : World} {a : Option Addr} {n : Nat} {L : List Rw} (h : RowAt encR S w a n L) {k : Nat} (hk : k < L.length) :
    ∃ q : Addr, (∀ K : Addr → Prop, K q → idx a n (k : Int) 2 K) ∧ w.cell? (q.add 0) = some (.string ⟨⟨L[k].1⟩⟩) ∧ w.cell? (q.add 1) = some (.string ⟨⟨L[k].2⟩⟩) := by
  obtain ⟨bb, o, hq, _, _, hc⟩ := h.get (i := k) (x := L[k]) (List.getElem?_eq_getElem hk)
  exact ⟨⟨bb, o, none⟩, hq, by rw [add_none]; exact hc 0 _ rfl, by rw [add_none]; exact hc 1 _ rfl⟩
set_option maxRecDepth 20000 in
theorem equalRw_sh {R : Ending → World → Prop} {S S' : Nat → Prop} {w : World} {a b : Option Addr} {n c n' c' : Nat} {L M : List Rw} (h1 : RowAt encR S w a n L) (h2 : RowAt encR S' w b n' M) (hs : n ≤ 4611686018427387904)
    (h : ∀ w', Ext w w' → R (.returned (.bool (decide (L = M)))) w') : sh_slices_Equal_of_api_Rewrite_api_Rewrite a n c b n' c' R w := by
  have e1 := h1.1
  have e2 := h2.1
  refine br_split (fun g => ?_) (fun g => ?_)
  · rw [show decide (L = M) = false by rw [decide_eq_false_iff_not]; rintro rfl; omega] at h
    exact h _ (Below.refl _ _)
  refine ⟨fun i W m => ∃ k : Nat, i = k ∧ k ≤ n ∧ m = n - k ∧ L.take k = M.take k ∧ Ext w W, ⟨_, 0, rfl, by omega, rfl, rfl, Below.refl _ _⟩, ?_⟩
  rintro _ W m ⟨k, rfl, hk, rfl, ht, he⟩ _
  refine br_split (fun hlt => ?_) (fun hge => ?_)
  · unfold drw
    have hd := ext_trans he (ext_drew W)
    have hkL : k < L.length := by omega
    have hkM : k < M.length := by omega
    have hx : L[k]? = some L[k] := by simp [hkL]
    have hy : M[k]? = some M[k] := by simp [hkM]
    obtain ⟨q, hq, c0, c1⟩ := get_rw (h1.ext hd) hkL
    obtain ⟨q', hq', d0, d1⟩ := get_rw (h2.ext hd) hkM
    refine hq _ ⟨_, c0, _, c1, hq' _ ⟨_, d0, _, d1, ?_⟩⟩
    rw [decRw L[k] M[k]]
    by_cases he' : L[k] = M[k]
    · rw [decide_eq_true he']
      refine ⟨n - (k + 1), by omega, k + 1, by rw [wrap_nat (by omega)], by omega, rfl, ?_, hd⟩
      rw [List.take_add_one, List.take_add_one, ht, hx, hy, he']
    · rw [decide_eq_false he']
      rw [show decide (L = M) = false by rw [decide_eq_false_iff_not]; rintro rfl; exact he' rfl] at h
      exact h _ hd
  · have : k = n := by omega
    subst this
    rw [List.take_of_length_le (by omega), List.take_of_length_le (by omega)] at ht
    rw [decide_eq_true ht] at h
    exact h _ he
theorem EqualRw_spec {R : Ending → World → Prop} {S S' : Nat → Prop} {w : World} {a b : Option Addr} {n c n' c' : Nat} {L M : List Rw} (h1 : RowAt encR S w a n L) (h2 : RowAt encR S' w b n' M) (hs : n ≤ 4611686018427387904)
    (h : ∀ w', Ext w w' → R (.returned (.bool (decide (L = M)))) w') : Calls Tryz.prog F_slices_Equal_of_api_Rewrite_api_Rewrite ⟨[.slice a n c, .slice b n' c']⟩ w R :=
  c_slices_Equal_of_api_Rewrite_api_Rewrite (equalRw_sh h1 h2 hs h)
theorem dedup_take {L : List Rw} {k : Nat} (hk : k < L.length) : dedup (L.take (k + 1)) = if L[k] ∈ L.take k then dedup (L.take k) else dedup (L.take k) ++ [L[k]] := by
  have e : L.take (k + 1) = L.take k ++ [L[k]] := by rw [List.take_add_one, List.getElem?_eq_getElem hk]; rfl
  rw [e]
  by_cases hm : L[k] ∈ L.take k
  · rw [if_pos hm, dedup_old hm]
  · rw [if_neg hm, dedup_new hm]
theorem take_len_le {α : Type} (L : List α) (k : Nat) : (L.take k).length ≤ L.length := by simp; omega
/- Fits -/
def fitB (p w : List UInt8) : Bool := decide (p.length = w.length) && (List.range w.length).all fun i => decide (w[i]? = p[i]?) || decide (p[i]? = some 95)
def fitE (p w : List UInt8) : Int := if 65536 < p.length ∨ 65536 < w.length then 4 else 0
def fitR (p w : List UInt8) : Bool := decide (fitE p w = 0) && fitB p w
theorem u8_int (a b : UInt8) : ((a.toNat : Int) = (b.toNat : Int)) ↔ a = b := by
  constructor
  · intro h; apply UInt8.toNat_inj.1; omega
  · rintro rfl; rfl
set_option maxRecDepth 20000 in
theorem Fits_spec {R : Ending → World → Prop} {w : World} (p s : List UInt8) (h : ∀ w', Ext w w' → R (.returned (.tuple ⟨[.bool (fitR p s), .int .i64 (fitE p s)]⟩)) w') :
    Calls Tryz.prog F_legibility_Fits ⟨[.string ⟨⟨p⟩⟩, .string ⟨⟨s⟩⟩]⟩ w R := by
  apply c_legibility_Fits
  intro K3 hK3
  unfold fitR at h
  have k3 : ¬ (65536 < p.length ∨ 65536 < s.length) → K3 w := by
    intro hno
    have he : fitE p s = 0 := by unfold fitE; rw [if_neg hno]
    rw [he] at h
    simp only [decide_true, Bool.true_and] at h
    refine hK3 _ fun _ => br_split (fun g => ?_) (fun g => ?_)
    · rw [show fitB p s = false by unfold fitB; rw [decide_eq_false (by omega)]; rfl] at h
      exact h _ (Below.refl _ _)
    have hl : p.length = s.length := by omega
    have hfb : fitB p s = (List.range s.length).all fun i => decide (s[i]? = p[i]?) || decide (p[i]? = some 95) := by unfold fitB; rw [decide_eq_true hl, Bool.true_and]
    refine ⟨fun i W m => ∃ k : Nat, i = k ∧ k ≤ s.length ∧ m = s.length - k ∧ (∀ j, j < k → s[j]? = p[j]? ∨ p[j]? = some 95) ∧ Ext w W, ⟨_, 0, rfl, by omega, rfl, fun j hj => by omega, Below.refl _ _⟩, ?_⟩
    rintro _ W m ⟨k, rfl, hk, rfl, hok, he'⟩ _
    refine br_split (fun hlt => ?_) (fun hge => ?_)
    · have hks : k < s.length := by omega
      have hkp : k < p.length := by omega
      unfold drw
      have ed := ext_trans he' (ext_drew W)
      have next : (s[k]? = p[k]? ∨ p[k]? = some 95) → ∃ m' : Nat, m' < s.length - k ∧ ∃ k1 : Nat, IntKind.i64.wrap ((k : Int) + 1) = k1 ∧ k1 ≤ s.length ∧ m' = s.length - k1 ∧ (∀ j, j < k1 → s[j]? = p[j]? ∨ p[j]? = some 95) ∧ Ext w W.drew := by
        intro hn
        refine ⟨s.length - (k + 1), by omega, k + 1, by rw [wrap_nat (by omega)], by omega, rfl, fun j hj => ?_, ed⟩
        rcases Nat.lt_or_ge j k with hh | hh
        · exact hok j hh
        · have : j = k := by omega
          subst this; exact hn
      have e1 : s[k]? = some s[k] := by simp [hks]
      have e2 : p[k]? = some p[k] := by simp [hkp]
      refine sidx_nat hks (sidx_nat hkp (br_split (fun g1 => ?_) (fun g1 => ?_)))
      · refine sidx_nat hkp ⟨by omega, 95, rfl, br_split (fun g2 => ?_) (fun g2 => ?_)⟩
        · rw [hfb, show ((List.range s.length).all fun i => decide (s[i]? = p[i]?) || decide (p[i]? = some 95)) = false by
            rw [List.all_eq_false]
            refine ⟨k, List.mem_range.2 hks, ?_⟩
            rw [e1, e2]
            simp only [Option.some.injEq, Bool.or_eq_true, decide_eq_true_eq, not_or]
            exact ⟨fun e => g1 ((u8_int _ _).2 e), fun e => g2 ((u8_int _ _).2 e)⟩] at h
          exact h _ ed
        · exact next (.inr (by rw [e2, (u8_int _ _).1 (Decidable.not_not.1 g2)]))
      · exact next (.inl (by rw [e1, e2, (u8_int _ _).1 (Decidable.not_not.1 g1)]))
    · have : k = s.length := by omega
      subst this
      rw [hfb, show ((List.range s.length).all fun i => decide (s[i]? = p[i]?) || decide (p[i]? = some 95)) = true by
        rw [List.all_eq_true]
        intro j hj
        rw [List.mem_range] at hj
        rw [Bool.or_eq_true, decide_eq_true_eq, decide_eq_true_eq]
        exact hok j hj] at h
      exact h _ he'
  have bad : (65536 < p.length ∨ 65536 < s.length) → R (.returned (.tuple ⟨[.bool false, .int .i64 4]⟩)) w := by
    intro hh
    have he : fitE p s = 4 := by unfold fitE; rw [if_pos hh]
    rw [he] at h
    exact h _ (Below.refl _ _)
  exact br_split (fun g => bad (.inl (by omega))) (fun g1 => br_split (fun g => bad (.inr (by omega))) (fun g2 => k3 (by omega)))
end Go.Proofs
namespace Go.Proofs
open Go Go.Sh Go.RowKit

/- the example of the chapter -/
def fS : Fo := .cons 1 [100] 0 .nil (.cons 10 [110, 115] 0 (.one 1 [111, 109, 105, 110, 117, 115] 0 .nil) (.one 6 [] 2 .nil))
theorem awakeK : patE fS = 0 ∧ patS fS = [100, 111, 109, 105, 110, 117, 115, 95, 95] ∧ wriE fS = 0 ∧ wriS fS = [100, 110, 115, 95, 95] ∧ pairE fS = 0 ∧ pairR fS = [([110, 115], [111, 109, 105, 110, 117, 115])] ∧
    fitR [100, 111, 109, 105, 110, 117, 115, 95, 95] [100, 111, 109, 105, 110, 117, 115, 109, 101] = true ∧ fitE [100, 111, 109, 105, 110, 117, 115, 95, 95] [100, 111, 109, 105, 110, 117, 115, 109, 101] = 0 := by decide +kernel
theorem sample_spec {R : Ending → World → Prop} {w : World} (h : ∀ a c w', SlF (fun _ => True) w' a 3 fS → Ext w w' → R (.returned (.slice a 3 c)) w') : Calls Tryz.prog F_law12_sample ⟨[]⟩ w R := by
  apply c_law12_sample
  refine al_intro fun b1 w2 hb1 B1 e2 s2 => ?_
  refine al_intro fun b3 w4 hb3 B3 e4 s4 => ?_
  have f1 : SlF (fun _ => True) w4 (some ⟨b3, 0, none⟩) 3 fS :=
    ⟨rfl, _, at_blk B3, none, 0, [], _, rfl, .inl rfl, rfl, _, 1, _, _, rfl, at_blk (B1.ext e4), ⟨none, 0, [], [], rfl, .inl rfl, rfl, rfl⟩, none, 0, [], [], rfl, .inl rfl, rfl, rfl⟩
  exact h _ 3 w4 f1 (ext_trans e2 e4)
set_option maxRecDepth 20000 in
theorem awake12_spec {R : Ending → World → Prop} {w : World} (hF : Forms w) (h : ∀ w', Ext w w' → R (.returned (.bool true)) w') : Calls Tryz.prog F_law12_awake ⟨[]⟩ w R := by
  obtain ⟨q1, q2, q3, q4, q5, q6, q7, q8⟩ := awakeK
  apply c_law12_awake
  refine sample_spec fun a1 c1 w2 f1 e2 => ⟨_, _, _, rfl, ?_⟩
  refine Pattern_spec fS (by decide) (hF.ext e2) f1 fun w5 e5 => ⟨_, _, rfl, ?_⟩
  have E5 := ext_trans e2 e5
  refine sample_spec fun a2 c2 w9 f2 e9 => ⟨_, _, _, rfl, ?_⟩
  have E9 := ext_trans E5 e9
  refine Written_spec fS (by decide) (hF.ext E9) f2 fun w12 e12 => ⟨_, _, rfl, ?_⟩
  have E12 := ext_trans E9 e12
  refine sample_spec fun a3 c3 w16 f3 e16 => ⟨_, _, _, rfl, ?_⟩
  have E16 := ext_trans E12 e16
  refine Pairs_spec fS (by decide) (hF.ext E16) f3 fun a4 c4 w19 hr4 e19 => ⟨_, _, _, _, rfl, ?_⟩
  have E19 := ext_trans E16 e19
  refine Fits_spec _ _ fun w23 e23 => ⟨_, _, rfl, ?_⟩
  have E23 := ext_trans E19 e23
  rw [q1, q2, q3, q4, q5, q7, q8]
  rw [q6] at hr4 ⊢
  simp only [Int.max_self, decide_true, br_t]
  refine al_intro fun b26 w27 hb26 B26 e27 s27 => ?_
  have hM : RowAt encR (fun _ => True) w27 (some ⟨b26, 0, none⟩) 1 [([110, 115], [111, 109, 105, 110, 117, 115])] := ⟨rfl, at_blk B26⟩
  refine EqualRw_spec ((hr4.ext e23).ext e27) hM (by decide) fun w29 e29 => ⟨_, rfl, ?_⟩
  rw [decide_eq_true rfl]
  exact h _ (ext_trans (ext_trans E23 e27) e29)

end Go.Proofs
namespace Go.Proofs
open Go Go.Sh Go.RowKit

theorem unL_chars : ∀ (f : Fo) (u : Bool), unL (nodesU f u) ≤ (charsF f).length
  | .nil, u => by simp [nodesU, unL, charsF]
  | .cons k t n ps r, u => by
    have h1 := unL_chars ps (u || decide (k = 7))
    have h2 := unL_chars r u
    have e : unL (nodesU (.cons k t n ps r) u) = unN (⟨k, t, n, ps⟩, u) + (unL (nodesU ps (u || decide (k = 7))) + unL (nodesU r u)) := by
      rw [nodesU, ← unL_app]; rfl
    have h3 : unN (⟨k, t, n, ps⟩, u) ≤ ((if k = 1 then t else [] : List UInt8).length : Int) := by
      unfold unN
      by_cases hk : k = 1
      · simp only [hk, if_true, true_and]; split <;> omega
      · simp [hk]
    rw [e]; simp only [charsF, List.length_append]; omega
theorem unL_true : ∀ (f : Fo), unL (nodesU f true) = (charsF f).length
  | .nil => by simp [nodesU, unL, charsF]
  | .cons k t n ps r => by
    have h1 := unL_true ps
    have h2 := unL_true r
    have e : unL (nodesU (.cons k t n ps r) true) = unN (⟨k, t, n, ps⟩, true) + (unL (nodesU ps true) + unL (nodesU r true)) := by
      rw [nodesU, ← unL_app]; rfl
    have h3 : unN (⟨k, t, n, ps⟩, true) = ((if k = 1 then t else [] : List UInt8).length : Int) := by
      unfold unN
      by_cases hk : k = 1 <;> simp [hk]
    rw [e, h1, h2, h3]; simp only [charsF, List.length_append]; omega
/- counting nodes of a kind -/
def cntP (kind : Int) (l : List Pl) : Int := ((l.filter fun x => decide (x.k = kind)).length : Int)
theorem cntP_snoc (kind : Int) (l : List Pl) (x : Pl) : cntP kind (l ++ [x]) = cntP kind l + if x.k = kind then 1 else 0 := by
  unfold cntP
  rw [List.filter_append]
  by_cases h : x.k = kind <;> simp [h]
def cntF (kind : Int) (f : Fo) : Nat := (ofK kind f).length
theorem cnt_places (kind : Int) : ∀ (f : Fo) (d : Nat) (b : Bool), f.depth + d ≤ 16 → cntP kind (placesF f d b) = cntF kind f
  | .nil, _, _, _ => rfl
  | .cons k t n ps r, d, b, h => by
    rw [Fo.depth_parts] at h
    have i2 := cnt_places kind r d (decide (k = 1)) (by omega)
    have i1 : cntP kind (placesF ps (d + 1) false) = cntF kind ps := by
      by_cases hp : ps.len = 0
      · rw [Fo.eq_nil_of_len hp]; rfl
      · rw [if_neg hp] at h
        exact cnt_places kind ps (d + 1) false (by omega)
    unfold cntF at i1 i2 ⊢
    rw [ofK_cons]
    simp only [placesF]
    rw [if_pos (by omega)]
    have e : ∀ (x : Pl) (l m : List Pl), cntP kind (x :: (l ++ m)) = (if x.k = kind then 1 else 0) + (cntP kind l + cntP kind m) := by
      intro x l m
      unfold cntP
      rw [List.filter_cons, List.filter_append]
      by_cases hx : x.k = kind <;> simp [hx] <;> omega
    rw [e, i1, i2]
    show (if k = kind then (1 : Int) else 0) + _ = _
    by_cases hk : k = kind
    · simp [hk]; omega
    · simp [hk]
def couE (kind : Int) (f : Fo) : Int := if checkT f ≠ 0 then 1 else if kind < 1 ∨ 11 < kind then 8 else 0
def couR (kind : Int) (f : Fo) : Int := if couE kind f ≠ 0 then 0 else cntF kind f
theorem couE_zero {kind : Int} {f : Fo} (h : couE kind f = 0) : checkT f = 0 ∧ 1 ≤ kind ∧ kind ≤ 11 := by
  unfold couE at h
  split at h
  · cases h
  · rename_i h1
    split at h
    · cases h
    · exact ⟨Decidable.not_not.1 h1, by omega, by omega⟩
end Go.Proofs
namespace Go.Proofs
open Go Go.Sh Go.RowKit

/- a piece of a list of nodes -/
theorem SlF.one {S : Nat → Prop} {w : World} {a : Option Addr} {n : Nat} {f pre r : Fo} {k t m ps} (h : SlF S w a n f) (hf : f = pre.app (.cons k t m ps r)) {c : Nat} (hc : n ≤ c) {K : Option Addr → Nat → Nat → Prop}
    (hk : ∀ a' c', SlF S w a' 1 (.one k t m ps) → K a' 1 c') : sls a c (pre.len : Int) ((pre.len + 1 : Nat) : Int) 4 K := by
  have hn := h.1
  have hl := Fo.sub_len hf
  refine ⟨by omega, by omega, by omega, ?_⟩
  rw [Int.toNat_natCast, Int.toNat_natCast, show pre.len + 1 - pre.len = 1 by omega]
  refine hk _ _ ?_
  obtain ⟨_, us, h2, h3⟩ := h
  rw [hf] at h3
  obtain ⟨xs, ys, rfl, g1, a', c', zs, vs', rfl, g2, g3, g4⟩ := h3.split
  have hxl := g1.len
  rcases h2 with h2 | ⟨b, o, rfl, hb, hbl, hcell⟩
  · simp at h2
  refine ⟨rfl, [.int .i64 k, .string ⟨⟨t⟩⟩, .int .i64 m, .slice a' ps.len c'], ?_, a', c', zs, [], rfl, g2, g3, rfl⟩
  have hsl : slA (some ⟨b, o, none⟩) c pre.len 4 = some ⟨b, o + pre.len * 4, none⟩ := by
    unfold slA
    rw [if_neg (by omega)]
    simp only [Option.map_some, add_none]
  rw [hsl]
  refine .inr ⟨b, o + pre.len * 4, rfl, hb, hbl, fun j v hj => ?_⟩
  have hj4 : j < 4 := by have := (List.getElem?_eq_some_iff.1 hj).1; simpa using this
  rw [Nat.add_assoc]
  refine hcell _ _ ?_
  rw [List.getElem?_append_right (by omega), show pre.len * 4 + j - xs.length = j by omega]
  rcases (by omega : j = 0 ∨ j = 1 ∨ j = 2 ∨ j = 3) with rfl | rfl | rfl | rfl <;> simpa using hj

/- a piece of a right list is right -/
theorem mgd_parts : ∀ {pre r : Fo} {k t m ps} {b : Bool}, mgd b (pre.app (.cons k t m ps r)) → mgd false ps
  | .nil, r, k, t, m, ps, b, h => h.2.1
  | .cons _ _ _ _ p, r, k, t, m, ps, b, h => mgd_parts (pre := p) h.2.2
theorem check_one {f pre r : Fo} {k t m ps} (hf : f = pre.app (.cons k t m ps r)) (h : checkT f = 0) : checkT (.one k t m ps) = 0 := by
  have e1 : f = (pre.app (.one k t m ps)).app r := by rw [Fo.app_one_app]; exact hf
  unfold checkT at h ⊢
  split at h
  case isFalse => cases h
  rename_i hd
  split at h
  · rename_i hh; exact absurd h hh
  rename_i hz
  split at h
  · cases h
  rename_i hl
  have hz' := Decidable.not_not.1 hz
  obtain ⟨o1, o2⟩ := (all_split f false false).1 hz'
  have hs1 : (Fo.one k t m ps).size ≤ f.size := by rw [e1, Fo.size_app, Fo.size_app]; omega
  have hd1 : (Fo.one k t m ps).depth ≤ f.depth := by rw [e1, depth_app, depth_app]; omega
  rw [if_pos ⟨by omega, by omega⟩]
  have ok1 : okF false (.one k t m ps) := by
    rw [e1, okF_app, okF_app] at o1
    exact o1.1.2
  have mg1 : mgd false (.one k t m ps) := by
    rw [hf] at o2
    exact ⟨by simp, mgd_parts o2, trivial⟩
  rw [if_neg (by simpa using (all_split _ false false).2 ⟨ok1, mg1⟩), if_neg]
  have : (printF (.one k t m ps)).length ≤ (printF f).length := by rw [e1, printF_app, printF_app]; simp only [List.length_append]; omega
  omega
theorem err_one {f pre r : Fo} {k t m ps} (hf : f = pre.app (.cons k t m ps r)) (h : errU f = 0) : errU (.one k t m ps) = 0 := by
  obtain ⟨h1, h2⟩ := errU_zero h
  have e1 : f = (pre.app (.one k t m ps)).app r := by rw [Fo.app_one_app]; exact hf
  rw [e1, cleanF_app, cleanF_app] at h2
  simp only [Bool.and_eq_true] at h2
  unfold errU
  rw [if_neg (by simp [check_one hf h1]), if_pos h2.1.2]
theorem no_abbr : ∀ (f : Fo), good f → cntF 10 f = 0 → patF f = writF f
  | .nil, _, _ => rfl
  | .cons k t n ps r, hg, h => by
    unfold cntF at h
    rw [ofK_cons] at h
    simp only [List.length_append] at h
    have h10 : k ≠ 10 := fun e => by rw [if_pos e] at h; simp at h
    have i1 := no_abbr ps hg.2.1 (by unfold cntF; omega)
    have i2 := no_abbr r hg.2.2 (by unfold cntF; omega)
    rw [patF_cons, writF, i1, i2, ← List.append_assoc]
    congr 1
    unfold patN writN
    by_cases h1 : k = 1
    · rw [no_parts hg.1 (.inl h1)]; simp [h1, writF]
    · by_cases h6 : k = 6
      · rw [no_parts hg.1 (.inr h6)]; simp [h6, writF]
      · rw [if_neg h1, if_neg h6, if_neg (by omega), if_neg h6] <;> rfl
theorem pref_app (x y : List UInt8) : Lib.hasPrefix (x ++ y) x = true := by
  unfold Lib.hasPrefix
  rw [List.isPrefixOf_iff_prefix]
  exact List.prefix_append x y

end Go.Proofs
namespace Go.Proofs
open Go Go.Sh Go.RowKit

/- the marks of loss in the pattern -/
theorem no_und {t : List UInt8} (h : checkC t = 0) : (95 : UInt8) ∉ t := by
  rw [checkC_eq] at h
  split at h
  · cases h
  split at h
  · rename_i h1 h2
    intro hm
    obtain ⟨i, hi, he⟩ := List.getElem_of_mem hm
    unfold okChars at h2
    rw [List.all_eq_true] at h2
    have := h2 i (List.mem_range.2 hi)
    unfold okAt at this
    rw [← kA_eq hi, he] at this
    revert this
    rw [show kd 95 = 0 by decide +kernel]
    simp
  · cases h
theorem no_und_all : ∀ (f : Fo) (b w : Bool), allF f b w = 0 → ∀ x ∈ nodesF f, x.k = 1 → (95 : UInt8) ∉ x.t
  | .nil, _, _, _, x, hx, _ => by simp [nodesF] at hx
  | .cons k t n ps r, b, w, h, x, hx, hk => by
    rw [allF] at h
    split at h
    · rename_i h1; exact absurd h h1
    rename_i h1
    split at h
    · rename_i h2; exact absurd h h2
    rename_i h2
    rw [nodesF, List.mem_cons, List.mem_append] at hx
    rcases hx with rfl | hx | hx
    · obtain rfl : k = 1 := hk
      exact no_und (single_text (Decidable.not_not.1 h1)).2.2.2
    · exact no_und_all ps _ _ (Decidable.not_not.1 h2) x hx hk
    · exact no_und_all r _ _ h x hx hk
theorem check_all {f : Fo} (h : checkT f = 0) : allF f false false = 0 := by
  unfold checkT at h
  split at h
  · split at h
    · rename_i h2; exact absurd h h2
    · rename_i h2; exact Decidable.not_not.1 h2
  · cases h
theorem und_count : ∀ (l : List Nn), (∀ x ∈ l, x.k = 1 → (95 : UInt8) ∉ x.t) → (∀ x ∈ l, x.k = 6 → 0 ≤ x.n ∧ x.n < 100) →
    (((l.flatMap patN).count 95 : Nat) : Int) = lostL l ∧ (l.flatMap patN).filter (fun c => decide (c ≠ 95)) = l.flatMap fun x => if x.k = 1 then x.t else []
  | [], _, _ => by simp [lostL]
  | x :: l, h1, h2 => by
    obtain ⟨i1, i2⟩ := und_count l (fun y hy => h1 y (by simp [hy])) (fun y hy => h2 y (by simp [hy]))
    have e : lostL (x :: l) = lostN x + lostL l := rfl
    rw [List.flatMap_cons, List.flatMap_cons, List.count_append, List.filter_append, i2, e]
    have a1 : (((patN x).count 95 : Nat) : Int) = lostN x ∧ (patN x).filter (fun c => decide (c ≠ 95)) = if x.k = 1 then x.t else [] := by
      unfold patN lostN
      by_cases k1 : x.k = 1
      · have hn := h1 x (by simp) k1
        rw [if_pos k1, if_pos k1, if_neg (by omega)]
        refine ⟨by rw [List.count_eq_zero.2 hn]; rfl, ?_⟩
        rw [List.filter_eq_self]
        intro c hc
        rw [decide_eq_true_eq]
        rintro rfl
        exact hn hc
      · rw [if_neg k1, if_neg k1]
        by_cases k6 : x.k = 6
        · have := h2 x (by simp) k6
          rw [if_pos k6, if_pos k6]
          refine ⟨by rw [List.count_replicate_self]; omega, ?_⟩
          rw [List.filter_eq_nil_iff]
          intro c hc
          have := List.eq_of_mem_replicate hc
          simp [this]
        · rw [if_neg k6, if_neg k6]; simp
    rw [a1.2]
    refine ⟨by rw [← i1, ← a1.1]; omega, rfl⟩
theorem chars_nodes : ∀ f : Fo, ((nodesF f).flatMap fun x => if x.k = 1 then x.t else []) = charsF f
  | .nil => rfl
  | .cons k t n ps r => by rw [nodesF, List.flatMap_cons, List.flatMap_append, chars_nodes ps, chars_nodes r, charsF, List.append_assoc]
theorem pat_und {f : Fo} (h : checkT f = 0) : (((patF f).count 95 : Nat) : Int) = lostF f ∧ (patF f).filter (fun c => decide (c ≠ 95)) = charsF f := by
  have := und_count (nodesF f) (no_und_all f _ _ (check_all h)) (good_num (check_zero h).2.1)
  rw [chars_nodes] at this
  exact this

/- replacing one byte by nothing -/
theorem replaceK_one (c : UInt8) : ∀ (k : Nat) (s : List UInt8), s.count c = k → Lib.replaceK [c] [] k s = s.filter fun x => decide (x ≠ c)
  | 0, s, h => by
    have hn := List.count_eq_zero.1 h
    rw [Lib.replaceK]
    symm
    rw [List.filter_eq_self]
    intro x hx
    rw [decide_eq_true_eq]
    rintro rfl
    exact hn hx
  | k + 1, s, h => by
    have h0 : 0 < Lib.count s [c] := by rw [Lib.count_one]; omega
    obtain ⟨i, hi⟩ := Lib.index_of_count h0
    rw [Lib.replaceK_hit [c] [] k s i hi]
    rw [Lib.index_one] at hi
    obtain ⟨g1, g2⟩ := Lib.indexByte_some hi
    obtain ⟨hl, g1'⟩ := List.getElem?_eq_some_iff.1 g1
    have e : s = s.take i ++ c :: s.drop (i + 1) := by
      rw [← g1', ← List.drop_eq_getElem_cons hl, List.take_append_drop]
    have hn : c ∉ s.take i := by
      intro hm
      obtain ⟨j, hj, he⟩ := List.getElem_of_mem hm
      rw [List.length_take] at hj
      rw [List.getElem_take] at he
      exact g2 j (by omega) (by rw [List.getElem?_eq_getElem (by omega), he])
    have hc : (s.drop (i + 1)).count c = k := by
      have := h
      rw [e, List.count_append, List.count_cons_self, List.count_eq_zero.2 hn] at this
      omega
    rw [show i + [c].length = i + 1 from rfl, replaceK_one c k _ hc]
    conv => rhs; rw [e]
    rw [List.filter_append, List.filter_cons]
    rw [if_neg (by simp), List.append_nil]
    congr 1
    symm
    rw [List.filter_eq_self]
    intro x hx
    rw [decide_eq_true_eq]
    rintro rfl
    exact hn hx
theorem replaceAll_one (c : UInt8) (s : List UInt8) : Lib.replaceAll s [c] [] = s.filter fun x => decide (x ≠ c) := by
  unfold Lib.replaceAll Lib.replace
  rw [if_neg (by simp), show Lib.replaceNum s [c] (-1) = s.count c by unfold Lib.replaceNum; rw [if_pos (.inl (by decide)), Lib.count_one]]
  exact replaceK_one c _ s rfl

end Go.Proofs
namespace Go.Sh
open Go Go.RowKit

/- clearing the end of a slice that the call has made, and cutting it off -/
theorem setCells_blk {T : TypeId} : ∀ {vs cs : List Value} {w : World} {b o : Nat}, Blk w b cs T →
    Blk (w.setCells b o vs) b (putAt cs o vs) T ∧ (∀ k, k ≠ b → (w.setCells b o vs).heap[k]? = w.heap[k]?) ∧ (w.setCells b o vs).heap.size = w.heap.size ∧
      (w.setCells b o vs).os = w.os ∧ (w.setCells b o vs).tape = w.tape ∧ (w.setCells b o vs).output = w.output
  | [], cs, w, b, o, h => ⟨h, fun _ _ => rfl, rfl, rfl, rfl, rfl⟩
  | v :: vs, cs, w, b, o, h => by
    obtain ⟨a1, a2, a3, a4, a5, a6⟩ := setCells_blk (vs := vs) (o := o + 1) (h.set o v)
    refine ⟨a1, fun k hk => (a2 k hk).trans ?_, a3.trans (by simp), a4, a5, a6⟩
    simp only [World.setCell, Array.getElem?_modify]
    rw [if_neg (fun e => hk e.symm)]
theorem slA_zero (a : Option Addr) (c : Nat) (ha : a = none ∨ ∃ g, a = some ⟨g, 0, none⟩) : slA a c 0 1 = a := by
  unfold slA
  split
  · rfl
  · rcases ha with rfl | ⟨g, rfl⟩
    · rfl
    · simp [add_none]
section
variable {α : Type} {E : Enc α} {w : World} {B : Nat} {e : TypeId} {a : Option Addr} {n c : Nat} {l : List α}
theorem clr_none {P : Program} {t ty : TypeId} {a : Option Addr} {c : Nat} {K : World → Prop} (ht : P.underlying t = some (.slice e)) (h : K w) : clr P [t] ty [.slice a 0 c] w K := by
  refine ⟨w, ?_, h⟩
  cases a <;> simp [Builtin.clear_, run_underlying ht]
theorem OwnL.cutClear {P : Program} {t ty : TypeId} {z : Value} (ht : P.underlying t = some (.slice e)) (hz : ∀ w, (zeroValue e).run P w = .ok z w) (hzc : z.cells = #[z]) (h1 : z.oneCell' = true) (hE : E.size = 1)
    (h : OwnL E w B e a n c l) {i : Nat} (hi : i ≤ n) {K : Option Addr → Nat → Nat → World → Prop} (hk : ∀ w', OwnL E w' B e a i c (l.take i) → Chg (bk a) w w' → w'.heap.size = w.heap.size → K a i c w') :
    sls a c (i : Int) (n : Int) 1 fun a' n' c' => clr P [t] ty [.slice a' n' c'] w fun w' => sls a c 0 (i : Int) 1 fun a'' n'' c'' => K a'' n'' c'' w' := by
  have hl := h.length
  have ho := h
  rcases h.2 with h0 | ⟨g, cap, cur, e1, e2, e3, e4, e5, e6, e7⟩
  · have hn : n = 0 := by omega
    subst hn
    obtain rfl : i = 0 := by omega
    have ha : a = none := (by simpa using h0.1 : a = none ∧ c = 0).1
    subst ha
    refine ⟨by omega, by omega, by omega, clr_none ht ⟨by omega, by omega, by omega, ?_⟩⟩
    rw [show (0 : Int).toNat = 0 from rfl]
    rw [slA_zero _ _ (.inl rfl)]
    refine hk w ?_ (Chg.refl _ _) rfl
    rw [List.take_of_length_le (by omega)]; exact ho
  · obtain ⟨rfl, _, rfl⟩ : a = some ⟨g, 0, none⟩ ∧ True ∧ c = cap := by simpa using e1
    have hB : Blk w g cur.toList e := e3
    rw [hE] at e6 e7
    have hcl : cur.toList.length = c := by simpa using e6
    have hrl : (E.row l).length = n := by rw [row_len, hE, hl]; omega
    have fin : ∀ w', Blk w' g (putAt cur.toList i (List.replicate (n - i) z)) e → Chg (bk (some (⟨g, 0, none⟩ : Addr))) w w' → w'.heap.size = w.heap.size → sls (some ⟨g, 0, none⟩) c 0 (i : Int) 1 fun a'' n'' c'' => K a'' n'' c'' w' := by
      intro w' b1 hc hs
      refine ⟨by omega, by omega, by omega, ?_⟩
      rw [show (0 : Int).toNat = 0 from rfl, slA_zero _ _ (.inr ⟨g, rfl⟩), Int.toNat_natCast, Nat.sub_zero, Nat.sub_zero]
      refine hk w' ⟨by rw [row_len, List.length_take, hl, hE]; omega, .inr ⟨g, c, ⟨_⟩, rfl, e2, b1, by omega, e5, ?_, ?_⟩⟩ hc hs
      · show (putAt _ _ _).length = c * E.size
        rw [putAt_length, hcl, hE]; omega
      · show List.take (i * E.size) (putAt _ _ _) = E.row (l.take i)
        rw [hE, Nat.mul_one]
        apply List.ext_getElem?
        intro j
        rw [List.getElem?_take, putAt_get]
        by_cases hj : j < i
        · rw [if_pos hj, if_neg (by omega)]
          have e7' : List.take (n * 1) cur.toList = E.row l := e7
          have q1 : cur.toList[j]? = (E.row l)[j]? := by rw [← e7', List.getElem?_take, if_pos (by omega)]
          have q2 : E.row l = E.row (l.take i) ++ E.row (l.drop i) := by rw [← row_app, List.take_append_drop]
          rw [q1, q2, List.getElem?_append_left (by rw [row_len, List.length_take, hE]; omega)]
        · rw [if_neg hj, List.getElem?_eq_none (by rw [row_len, List.length_take, hE]; omega)]
    refine ⟨by omega, by omega, by omega, ?_⟩
    rw [Int.toNat_natCast, Int.toNat_natCast]
    by_cases hni : i = n
    · subst hni
      rw [Nat.sub_self]
      refine clr_none ht (fin w ?_ (Chg.refl _ _) rfl)
      rw [Nat.sub_self]; exact hB
    · have hsl : slA (some (⟨g, 0, none⟩ : Addr)) c i 1 = some ⟨g, i, none⟩ := by
        unfold slA
        rw [if_neg (by omega)]
        simp [add_none]
      rw [hsl]
      obtain ⟨a1, a2, a3, a4, a5, a6⟩ := setCells_blk (vs := List.replicate (n - i) z) (o := i) hB
      refine ⟨w.setCells g i (List.replicate (n - i) z), ?_, fin _ a1 ⟨a4, a5, a6, by omega, fun k _ hk => a2 k fun e => hk (by simp [bk, e])⟩ a3⟩
      refine Lib.run_clear_slice w t e ty z ht hz hzc h1 g i (n - i) _ (by omega) (fun j hj => ?_) (fun j hj => ?_)
      · rw [hB.cell, List.getElem?_eq_getElem (by omega)]; rfl
      · exact hB.frozen _
end
end Go.Sh
namespace Go.Proofs
open Go Go.Sh Go.RowKit

/- slices.IndexFunc, DeleteFunc of strings -/
theorem zr9 (w : World) : (zeroValue 9).run Tryz.prog w = .ok (.string ⟨⟨[]⟩⟩) w := zero_run (by kernel_rfl) w
def idxF {α : Type} (q : α → Bool) (l : List α) : Int := if l.any q then (l.findIdx q : Int) else -1
def PredS (f : Fn) (fa fb : Array Value) (q : List UInt8 → Bool) (l : List (List UInt8)) (J : World → Prop) : Prop :=
  ∀ s ∈ l, ∀ (W : World) (K : Ending → World → Prop), J W → (∀ W', Ext W W' → K (.returned (.bool (q s))) W') → CallV Tryz.prog (.func f fa fb) [.string ⟨⟨s⟩⟩] W K
theorem get_str {S : Nat → Prop} {w : World} {a : Option Addr} {n : Nat} {L : List (List UInt8)} (h : RowAt encStr S w a n L) {k : Nat} (hk : k < L.length) :
    ∃ q : Addr, (∀ K : Addr → Prop, K q → idx a n (k : Int) 1 K) ∧ w.cell? q = some (.string ⟨⟨L[k]⟩⟩) := by
  obtain ⟨bb, o, hq, _, _, hc⟩ := h.get (i := k) (x := L[k]) (List.getElem?_eq_getElem hk)
  exact ⟨⟨bb, o, none⟩, hq, hc 0 _ rfl⟩
theorem findIdx_at {α : Type} {q : α → Bool} {l : List α} {k : Nat} (hk : k < l.length) (hq : q l[k] = true) (hno : ∀ j (h : j < k), q (l[j]'(by omega)) = false) : l.findIdx q = k := by
  rw [List.findIdx_eq hk]
  exact ⟨hq, fun j hj => by simp [hno j hj]⟩
set_option maxRecDepth 20000 in
theorem IndexFuncS_spec {R : Ending → World → Prop} {S : Nat → Prop} {w : World} {a : Option Addr} {n c : Nat} {f : Fn} {fa fb : Array Value} {q : List UInt8 → Bool} {L : List (List UInt8)} {J : World → Prop} (h1 : RowAt encStr S w a n L)
    (hs : n ≤ 4611686018427387904) (hp : PredS f fa fb q L J) (hJ0 : J w) (hJe : ∀ W W', J W → Ext W W' → J W')
    (h : ∀ w', Ext w w' → R (.returned (.int .i64 (idxF q L))) w') : Calls Tryz.prog F_slices_IndexFunc_of_string_string ⟨[.slice a n c, .func f fa fb]⟩ w R := by
  apply c_slices_IndexFunc_of_string_string
  have hn := h1.1
  refine ⟨fun i W m => ∃ k : Nat, i = k ∧ k ≤ n ∧ m = n - k ∧ (∀ j (hj : j < k) (hk : k ≤ L.length), q (L[j]'(by omega)) = false) ∧ Ext w W, ⟨_, 0, rfl, by omega, rfl, fun j hj => by omega, Below.refl _ _⟩, ?_⟩
  rintro _ W m ⟨k, rfl, hk, rfl, hno, he⟩ _
  refine br_split (fun hlt => ?_) (fun hge => ?_)
  · have hkL : k < L.length := by omega
    obtain ⟨p, hp1, hc⟩ := get_str (h1.ext he) hkL
    refine hp1 _ ⟨_, hc, hp _ (List.getElem_mem hkL) W _ (hJe _ _ hJ0 he) fun W' e' => ⟨_, rfl, br_cases (fun g => ?_) (fun g => ?_)⟩⟩
    · have := h W' (ext_trans he e')
      unfold idxF at this
      rw [if_pos (List.any_eq_true.2 ⟨_, List.getElem_mem hkL, g⟩), findIdx_at hkL g (fun j hj => hno j hj (by omega))] at this
      exact this
    · refine ⟨n - (k + 1), by omega, k + 1, by rw [wrap_nat (by omega)], by omega, rfl, fun j hj hk' => ?_, ext_trans he e'⟩
      by_cases hjk : j = k
      · subst hjk; exact g
      · exact hno j (by omega) (by omega)
  · have := h W he
    unfold idxF at this
    rw [if_neg] at this
    · exact this
    · rw [Bool.not_eq_true, List.any_eq_false]
      intro x hx
      obtain ⟨j, hj, rfl⟩ := List.getElem_of_mem hx
      rw [hno j (by omega) (by omega)]; simp
theorem filter_take_succ {α : Type} (p : α → Bool) {l : List α} {k : Nat} (hk : k < l.length) : (l.take (k + 1)).filter p = if p l[k] = true then (l.take k).filter p ++ [l[k]] else (l.take k).filter p := by
  rw [List.take_add_one, List.getElem?_eq_getElem hk, List.filter_append]
  by_cases h : p l[k] = true <;> simp [h]
set_option maxRecDepth 20000 in
theorem DeleteFuncS_spec {R : Ending → World → Prop} {w : World} {B : Nat} {a : Option Addr} {n c : Nat} {f : Fn} {fa fb : Array Value} {q : List UInt8 → Bool} {L : List (List UInt8)} {J : World → Prop} (h1 : OwnL encStr w B 9 a n c L)
    (hs : n ≤ 4611686018427387904) (hp : PredS f fa fb q L J) (hJ0 : J w) (hJe : ∀ W W', J W → Ext W W' → J W') (hJc : ∀ W W', J W → Chg (bk a) W W' → J W')
    (h : ∀ w' n', OwnL encStr w' B 9 a n' c (L.filter fun s => !q s) → Chg (bk a) w w' → R (.returned (.slice a n' c)) w') : Calls Tryz.prog F_slices_DeleteFunc_of_string_string ⟨[.slice a n c, .func f fa fb]⟩ w R := by
  apply c_slices_DeleteFunc_of_string_string
  have hn := h1.length
  refine IndexFuncS_spec h1.out hs hp hJ0 hJe fun w4 e4 => ⟨_, rfl, ?_⟩
  by_cases hany : L.any q = true
  · have hx : L.findIdx q < L.length := List.findIdx_lt_length_of_exists (List.any_eq_true.1 hany)
    unfold idxF
    rw [if_pos hany]
    generalize hi0 : L.findIdx q = i0 at hx ⊢
    have hq0 : q L[i0] = true := by subst hi0; exact List.findIdx_getElem
    have hlt0 : ∀ j (hj : j < i0), q (L[j]'(by omega)) = false := fun j hj => by
      have := List.not_of_lt_findIdx (p := q) (xs := L) (i := j) (by omega)
      simpa using this
    refine br_split (fun hh => by omega) (fun _ => ?_)
    have f0 : (L.take (i0 + 1)).filter (fun s => !q s) = L.take i0 := by
      rw [filter_take_succ _ hx, if_neg (by simp [hq0]), List.filter_eq_self]
      intro s hs
      obtain ⟨j, hj, rfl⟩ := List.getElem_of_mem hs
      rw [List.length_take] at hj
      rw [List.getElem_take, hlt0 j (by omega)]; rfl
    refine ⟨fun i j W m => ∃ (k : Nat) (M : List (List UInt8)) (i' : Nat), i = i' ∧ j = k ∧ k ≤ n ∧ m = n - k ∧ i' < k ∧ OwnL encStr W B 9 a n c M ∧ M.take i' = (L.take k).filter (fun s => !q s) ∧ M.drop k = L.drop k ∧ Chg (bk a) w W,
      ⟨_, i0 + 1, L, i0, rfl, by rw [wrap_nat (by omega)], by omega, rfl, by omega, h1.ext e4, f0.symm, rfl, .of_ext e4⟩, ?_⟩
    rintro _ _ W m ⟨k, M, i', rfl, rfl, hk, rfl, hik, hM, ht, hd, hc⟩ _
    have hml := hM.length
    refine br_split (fun hlt => ?_) (fun hge => ?_)
    · have hkM : k < M.length := by omega
      have hkL : k < L.length := by omega
      have hMk : M[k] = L[k] := by
        have : M.drop k = M[k] :: M.drop (k + 1) := List.drop_eq_getElem_cons hkM
        rw [hd, List.drop_eq_getElem_cons hkL] at this
        exact (List.cons.inj this).1.symm
      obtain ⟨p, hp1, hcl⟩ := get_str hM.out hkM
      rw [hMk] at hcl
      refine hp1 _ ⟨_, hcl, hp _ (List.getElem_mem hkL) W _ (hJc _ _ hJ0 hc) fun W' e' => ⟨_, rfl, ?_⟩⟩
      have hM' := hM.ext e'
      have hc' : Chg (bk a) w W' := hc.trans (.of_ext e')
      refine br_cases (fun g => ?_) (fun g => ?_)
      · have gq : q L[k] = false := by simpa using g
        obtain ⟨gg, rfl, hi1, hst⟩ := OwnL.store hM' (i := i') (by omega) L[k]
        refine hi1 _ (hst _ fun w18 hM18 hc18 s18 => ?_)
        refine ⟨n - (k + 1), by omega, k + 1, M.set i' L[k], i' + 1, by rw [wrap_nat (by omega)], by rw [wrap_nat (by omega)], by omega, rfl, by omega, hM18, ?_, ?_, hc'.trans hc18⟩
        · rw [filter_take_succ _ hkL, if_pos (by simp [gq]), ← ht]
          have hl2 : i' < (M.set i' L[k]).length := by simp; omega
          rw [List.take_add_one, List.getElem?_eq_getElem hl2, List.take_set_of_le (Nat.le_refl _)]
          simp
        · rw [List.drop_set_of_lt (by omega)]
          have : M.drop (k + 1) = (M.drop k).drop 1 := by rw [List.drop_drop]
          rw [this, hd, List.drop_drop]
      · have gq : q L[k] = true := by simpa using g
        refine ⟨n - (k + 1), by omega, k + 1, M, i', rfl, by rw [wrap_nat (by omega)], by omega, rfl, by omega, hM', ?_, ?_, hc'⟩
        · rw [filter_take_succ _ hkL, if_neg (by simp [gq]), ht]
        · have : M.drop (k + 1) = (M.drop k).drop 1 := by rw [List.drop_drop]
          rw [this, hd, List.drop_drop]
    · have hkn : k = n := by omega
      refine hM.cutClear (t := 23) (z := .string ⟨⟨[]⟩⟩) slT_str.under zr9 rfl rfl rfl (by omega) fun w22 h22 hc22 s22 => ?_
      rw [ht, hkn, List.take_of_length_le (by omega)] at h22
      exact h w22 _ h22 (hc.trans hc22)
  · unfold idxF
    rw [if_neg hany]
    refine br_split (fun _ => ?_) (fun hh => absurd rfl hh)
    have : L.filter (fun s => !q s) = L := by
      rw [List.filter_eq_self]
      intro s hs
      have := List.any_eq_false.1 (by simpa using hany) s hs
      simpa using this
    refine h w4 n ?_ (.of_ext e4)
    rw [this]; exact h1.ext e4
end Go.Proofs
namespace Go.Proofs
open Go Go.Sh Go.RowKit

/- forms in conflict -/
def firstE (l : List Rw) (s : List UInt8) : Option (List UInt8) := (l.find? fun p => decide (p.1 = s)).map (·.2)
def ordF (l : List Rw) : List (List UInt8) := l.foldl (fun acc x => if x.1 ∈ acc then acc else acc ++ [x.1]) []
def confB (l : List Rw) (s : List UInt8) : Bool := l.any fun p => decide (p.1 = s) && decide (firstE l s ≠ some p.2)
theorem firstE_none {l : List Rw} {s : List UInt8} : firstE l s = none ↔ ∀ p ∈ l, p.1 ≠ s := by
  unfold firstE
  rw [Option.map_eq_none_iff, List.find?_eq_none]
  simp
theorem firstE_snoc (l : List Rw) (x : Rw) (s : List UInt8) : firstE (l ++ [x]) s = (firstE l s).or (if x.1 = s then some x.2 else none) := by
  unfold firstE
  rw [List.find?_append]
  cases h : l.find? fun p => decide (p.1 = s) with
  | some y => simp
  | none =>
    by_cases hx : x.1 = s <;> simp [hx]
theorem firstE_old {l : List Rw} {x : Rw} {e : List UInt8} (h : firstE l x.1 = some e) (s : List UInt8) : firstE (l ++ [x]) s = firstE l s := by
  rw [firstE_snoc]
  by_cases hs : x.1 = s
  · subst hs; rw [h]; rfl
  · rw [if_neg hs]; cases firstE l s <;> rfl
theorem firstE_new {l : List Rw} {x : Rw} (h : firstE l x.1 = none) (s : List UInt8) : firstE (l ++ [x]) s = if s = x.1 then some x.2 else firstE l s := by
  rw [firstE_snoc]
  by_cases hs : x.1 = s
  · subst hs; rw [h]; simp
  · rw [if_neg hs, if_neg (Ne.symm hs)]; cases firstE l s <;> rfl
theorem mem_ordF (l : List Rw) : ∀ s, s ∈ ordF l ↔ firstE l s ≠ none := by
  induction l using snoc_ind with
  | h0 => intro s; simp [ordF, firstE]
  | h1 l x ih =>
    intro s
    have e : ordF (l ++ [x]) = if x.1 ∈ ordF l then ordF l else ordF l ++ [x.1] := by unfold ordF; rw [List.foldl_append]; rfl
    rw [e]
    cases hx : firstE l x.1 with
    | none =>
      have := mt (ih x.1).1 (by simp [hx])
      rw [if_neg this, firstE_new hx, List.mem_append, List.mem_singleton, ih s]
      by_cases hs : s = x.1 <;> simp [hs]
    | some v =>
      have := (ih x.1).2 (by simp [hx])
      rw [if_pos this, firstE_old hx, ih s]
theorem ordF_new {l : List Rw} {x : Rw} (h : firstE l x.1 = none) : ordF (l ++ [x]) = ordF l ++ [x.1] := by
  have e : ordF (l ++ [x]) = if x.1 ∈ ordF l then ordF l else ordF l ++ [x.1] := by unfold ordF; rw [List.foldl_append]; rfl
  rw [e, if_neg (mt (mem_ordF l x.1).1 (by simp [h]))]
theorem ordF_old {l : List Rw} {x : Rw} {v : List UInt8} (h : firstE l x.1 = some v) : ordF (l ++ [x]) = ordF l := by
  have e : ordF (l ++ [x]) = if x.1 ∈ ordF l then ordF l else ordF l ++ [x.1] := by unfold ordF; rw [List.foldl_append]; rfl
  rw [e, if_pos ((mem_ordF l x.1).2 (by simp [h]))]
theorem ordF_len (l : List Rw) : (ordF l).length ≤ l.length := by
  induction l using snoc_ind with
  | h0 => simp [ordF]
  | h1 l x ih =>
    cases hx : firstE l x.1 with
    | none => rw [ordF_new hx]; simp; omega
    | some v => rw [ordF_old hx]; simp; omega
theorem ordF_nodup (l : List Rw) : (ordF l).Nodup := by
  induction l using snoc_ind with
  | h0 => simp [ordF]
  | h1 l x ih =>
    cases hx : firstE l x.1 with
    | none =>
      rw [ordF_new hx, List.nodup_append]
      refine ⟨ih, by simp, ?_⟩
      intro a ha b hb
      rw [List.mem_singleton] at hb
      subst hb
      rintro rfl
      exact (mem_ordF l x.1).1 ha hx
    | some v => rw [ordF_old hx]; exact ih
theorem confB_new {l : List Rw} {x : Rw} (h : firstE l x.1 = none) (s : List UInt8) : confB (l ++ [x]) s = confB l s := by
  have hno := firstE_none.1 h
  unfold confB
  rw [List.any_append, firstE_new h]
  by_cases hs : s = x.1
  · subst hs
    rw [if_pos rfl]
    have a : (l.any fun p => decide (p.1 = x.1) && decide (some x.2 ≠ some p.2)) = false := by
      rw [List.any_eq_false]; intro p hp; simp [hno p hp]
    have b : (l.any fun p => decide (p.1 = x.1) && decide (firstE l x.1 ≠ some p.2)) = false := by
      rw [List.any_eq_false]; intro p hp; simp [hno p hp]
    rw [a, b]; simp
  · rw [if_neg hs]
    simp [Ne.symm hs]
theorem confB_old {l : List Rw} {x : Rw} {e : List UInt8} (h : firstE l x.1 = some e) (s : List UInt8) : confB (l ++ [x]) s = (confB l s || (decide (s = x.1) && decide (e ≠ x.2))) := by
  unfold confB
  rw [List.any_append, firstE_old h]
  congr 1
  by_cases hs : s = x.1
  · subst hs; simp [h]
  · simp [hs, Ne.symm hs]
def conE (l : List Rw) : Int := if 4096 < l.length then 4 else 0
def conR (l : List Rw) : List (List UInt8) := if 4096 < l.length then [] else (ordF l).filter (confB l)

set_option maxRecDepth 20000 in
theorem Conflicts_1_spec {R : Ending → World → Prop} {w : World} {b6 b4 n : Nat} {g : List UInt8 → Option Bool} (hb : Blk w b6 [.map (some b4)] 68) (hm : MapT Tryz.prog 9 eS eB w b4 n g) (s : List UInt8) (hs : s.length ≤ 4611686018427387904)
    (h : R (.returned (.bool (!((g s).getD false)))) w) : Calls Tryz.prog F_legibility_Conflicts_1 ⟨[.string ⟨⟨s⟩⟩, .pointer (some ⟨b6, 0, none⟩)]⟩ w R := by
  apply c_legibility_Conflicts_1
  refine dr_ok ⟨_, by rw [hb.cell]; rfl, (g s).getD false, ?_, h⟩
  have := hm.look kd9 Tryz.underlying68 (z := .bool false) (zero_run (by kernel_rfl) w) (keyS hs)
  cases hg : g s with
  | none => rw [hg] at this; exact this
  | some v => rw [hg] at this; exact this
set_option maxRecDepth 20000 in
theorem Conflicts_spec {R : Ending → World → Prop} {S : Nat → Prop} {w : World} {a : Option Addr} {n c : Nat} {L : List Rw} (h1 : RowAt encR S w a n L) (hl : ∀ p ∈ L, p.1.length ≤ 4611686018427387904)
    (h : ∀ a' n' c' w', RowAt encStr (fun k => w.heap.size ≤ k) w' a' n' (conR L) → n' ≤ c' → Ext w w' → R (.returned (.tuple ⟨[.slice a' n' c', .int .i64 (conE L)]⟩)) w') :
    Calls Tryz.prog F_legibility_Conflicts ⟨[.slice a n c]⟩ w R := by
  apply c_legibility_Conflicts
  have hn := h1.1
  unfold conR conE at h
  refine br_split (fun hg => ?_) (fun hg => ?_)
  · rw [if_pos (by omega), if_pos (by omega)] at h
    exact h none 0 0 w (RowAt.nil _) (Nat.le_refl _) (Below.refl _ _)
  rw [if_neg (by omega), if_neg (by omega)] at h
  refine mkm_intro fun b2 w3 hb2 M2 e3 s3 => ?_
  refine mkm_intro fun b4 w5 hb4 M4 e5 s5 => ?_
  refine al_intro fun b6 w7 hb6 B6 e7 s7 => ?_
  refine stL_one B6 rfl fun w8 B8 hc8 s8 => ?_
  have e58 : Ext w5 w8 := ext_chgS e7 hc8 fun k hk => by omega
  have E8 := ext_trans (ext_trans e3 e5) e58
  have z8 := E8.size
  have hM2 : MapT Tryz.prog 9 eS eS w8 b2 0 (fun _ => none) := ((M2 _ _ _ _).ext e5).ext e58
  have hM4 : MapT Tryz.prog 9 eS eB w8 b4 0 (fun _ => none) := (M4 _ _ _ _).ext e58
  refine ⟨fun oa on oc i W m => ∃ (k : Nat) (f2 : List UInt8 → Option (List UInt8)) (f4 : List UInt8 → Option Bool), i = k ∧ k ≤ n ∧ m = n - k ∧
      MapT Tryz.prog 9 eS eS W b2 k f2 ∧ (∀ s, f2 s = firstE (L.take k) s) ∧ MapT Tryz.prog 9 eS eB W b4 k f4 ∧ (∀ s, (f4 s).getD false = confB (L.take k) s) ∧
      Blk W b6 [.map (some b4)] 68 ∧ OwnL encStr W w8.heap.size 9 oa on oc (ordF (L.take k)) ∧ Ext w W ∧ w8.heap.size ≤ W.heap.size,
    ⟨_, 0, _, _, rfl, by omega, rfl, hM2, fun s => rfl, hM4, fun s => rfl, B8, Owns.nil _ _ _ _, E8, Nat.le_refl _⟩, ?_⟩
  rintro oa on oc _ W m ⟨k, f2, f4, rfl, hk, rfl, g2, g2', g4, g4', g6, go, ge, gz⟩ _
  refine br_split (fun hlt => ?_) (fun hge => ?_)
  · have hkL : k < L.length := by omega
    have htk : L.take (k + 1) = L.take k ++ [L[k]] := by rw [List.take_add_one, List.getElem?_eq_getElem hkL]; rfl
    have hlk := hl _ (List.getElem_mem hkL)
    obtain ⟨q, hq, c0, c1⟩ := get_rw (h1.ext ge) hkL
    refine hq _ ⟨_, c0, _, c1, ?_⟩
    refine al_intro fun b18 w19 hb18 B18 e19 s19 => ?_
    refine stL_blk B18 (by simp) (by intro v hv; simp only [List.mem_cons, List.not_mem_nil, or_false] at hv; rcases hv with rfl | rfl <;> rfl) fun w20 B20 hx20 hs20 x4 x5 x6 => ?_
    have hc20 : Chg (fun j => j = b18) w19 w20 := ⟨x4, x5, x6, by omega, fun j _ hj => hx20 j hj⟩
    have e20 : Ext W w20 := ext_chgS e19 hc20 fun j hj => by omega
    have B20' : Blk w20 b18 [.string ⟨⟨L[k].1⟩⟩, .string ⟨⟨L[k].2⟩⟩] 47 := B20
    obtain ⟨d0, d1⟩ := blk2' B20'
    have G2 := g2.ext e20
    have G4 := g4.ext e20
    have G6 := g6.ext e20
    have GO := Owns.ext go e20
    have GE := ext_trans ge e20
    have z20 := e20.size
    have l2 := g2.lt
    have l4 := g4.lt
    have l6 := g6.lt
    have hbo : ∀ j, bk oa j → w8.heap.size ≤ j ∧ j < W.heap.size := fun j hj => Owns.bk go hj
    refine ⟨_, d0, (firstE (L.take k) L[k].1).getD [], (firstE (L.take k) L[k].1).isSome, ?_, ?_⟩
    · have := G2.look2 kd9 Tryz.underlying61 (z := .string ⟨⟨[]⟩⟩) (zero_run (by kernel_rfl) w20) (keyS hlk)
      rw [g2'] at this
      cases hf : firstE (L.take k) L[k].1 with
      | none => rw [hf] at this; exact this
      | some v => rw [hf] at this; exact this
    cases hf : firstE (L.take k) L[k].1 with
    | none =>
      simp only [Option.isSome_none, Bool.not_false, br_t]
      refine ⟨_, d0, _, d1, ?_⟩
      refine MapT.update (eV := eS) G2 kd9 (t := 61) (e := 9) Tryz.underlying61 (by simp only [maxLen]; omega) (keyS hlk) (fun y hy => by simpa using hy) fun w26 g26 M26 hc26 hv26 ho26 => ?_
      have hc26' : Chg (fun j => j = b2) w20 w26 := hc26
      have B26 := hc26.blk B20' (by omega)
      obtain ⟨d0', d1'⟩ := blk2' B26
      refine ⟨_, d0', ?_⟩
      have e26 : Ext w w26 := ext_chgS GE hc26' fun j hj => by omega
      have hol := OwnL.length go
      have hof := ordF_len (L.take k)
      rw [List.length_take] at hof
      refine OwnL.push (E := encStr) slT_str (GO.chg hc26' fun j hj => by have := hbo j hj; omega) (by have := hc26'.size; omega) L[k].1 (by omega) (by omega) fun a30 c30 w31 ho31 hc31 hn31 => ?_
      refine ⟨n - (k + 1), by omega, k + 1, g26, f4, by rw [wrap_nat (by omega)], by omega, rfl, M26.chg hc31 (fun hh => by have := hbo _ hh; omega), ?_, ((G4.chg hc26' (by omega)).chg hc31 (fun hh => by have := hbo _ hh; omega)).mono (by omega), ?_, hc31.blk (hc26'.blk G6 (by omega)) (fun hh => by have := hbo _ hh; omega), ?_,
        ext_chgS e26 hc31 (fun j hj => by have := hbo _ hj; omega), by have := hc26'.size; have := hc31.size; omega⟩
      · intro s
        rw [htk, firstE_new hf]
        by_cases hs : s = L[k].1
        · subst hs; rw [if_pos rfl]; exact hv26
        · rw [if_neg hs, ho26 s hs, g2' s]
      · intro s
        rw [htk, confB_new hf]; exact g4' s
      · rw [htk, ordF_new hf]; exact ho31
    | some v =>
      simp only [Option.isSome_some, Bool.not_true, br_f, Option.getD_some]
      refine ⟨_, d1, ?_⟩
      refine br_split (fun hv => ?_) (fun hv => ?_)
      · refine ⟨_, by rw [G6.cell]; rfl, _, d0, ?_⟩
        refine MapT.update (eV := eB) (v := true) G4 kd9 (t := 68) (e := 4) Tryz.underlying68 (by simp only [maxLen]; omega) (keyS hlk) (fun y hy => by simpa using hy) fun w36 g36 M36 hc36 hv36 ho36 => ?_
        have hc36' : Chg (fun j => j = b4) w20 w36 := hc36
        refine ⟨n - (k + 1), by omega, k + 1, f2, g36, by rw [wrap_nat (by omega)], by omega, rfl, (G2.chg hc36' (by omega)).mono (by omega), ?_, M36, ?_, hc36'.blk G6 (by omega), ?_, ext_chgS GE hc36' (fun j hj => by omega), by have := hc36'.size; omega⟩
        · intro s; rw [htk, firstE_old hf]; exact g2' s
        · intro s
          rw [htk, confB_old hf]
          by_cases hs : s = L[k].1
          · subst hs; rw [hv36]; simp [hv]
          · rw [ho36 s hs, g4' s]; simp [hs]
        · rw [htk, ordF_old hf]; exact GO.chg hc36' fun j hj => by have := hbo j hj; omega
      · have hv' := Decidable.not_not.1 hv
        refine ⟨n - (k + 1), by omega, k + 1, f2, f4, by rw [wrap_nat (by omega)], by omega, rfl, G2.mono (by omega), ?_, G4.mono (by omega), ?_, G6, ?_, GE, by omega⟩
        · intro s; rw [htk, firstE_old hf]; exact g2' s
        · intro s; rw [htk, confB_old hf, g4' s]; simp [hv']
        · rw [htk, ordF_old hf]; exact GO
  · have hkn : k = n := by omega
    subst hkn
    rw [List.take_of_length_le (by omega)] at g2' g4' go
    have hol := OwnL.length go
    have hof := ordF_len L
    have hbo : ∀ j, bk oa j → w8.heap.size ≤ j ∧ j < W.heap.size := fun j hj => Owns.bk go hj
    have l4 := g4.lt
    have l6 := g6.lt
    refine DeleteFuncS_spec (q := fun s => !((f4 s).getD false)) (J := fun W => Blk W b6 [.map (some b4)] 68 ∧ MapT Tryz.prog 9 eS eB W b4 k f4) go (by omega) ?_ ⟨g6, g4⟩ (fun W1 W2 hj he => ⟨hj.1.ext he, hj.2.ext he⟩)
      (fun W1 W2 hj hc => ⟨hc.blk hj.1 (fun hh => by have := hbo _ hh; omega), hj.2.chg hc (fun hh => by have := hbo _ hh; omega)⟩) fun w40 n' ho40 hc40 => ⟨_, _, _, rfl, ?_⟩
    · intro s hs W1 K hj hK
      refine ⟨by kernel_rfl, ?_⟩
      refine Conflicts_1_spec hj.1 hj.2 s ?_ (hK _ (Below.refl _ _))
      have hm := (mem_ordF L s).1 hs
      cases hf : L.find? fun p => decide (p.1 = s) with
      | none => unfold firstE at hm; rw [hf] at hm; exact absurd rfl hm
      | some p =>
        have h1 := List.find?_some hf
        have h2 := List.mem_of_find?_eq_some hf
        simp only [decide_eq_true_eq] at h1
        rw [← h1]; exact hl p h2
    · have hfil : (ordF L).filter (fun s => !!((f4 s).getD false)) = (ordF L).filter (confB L) := by
        congr 1; funext s; rw [Bool.not_not, g4' s]
      rw [hfil] at ho40
      refine h oa n' oc w40 (ho40.out.imp fun j hj _ => ?_) ?_ (ext_chgS ge hc40 fun j hj => by have := hbo _ hj; omega)
      · have := hbo j hj; omega
      · rcases ho40.2 with h0 | ⟨g, cap, cur, e1, e2, e3, e4, _⟩
        · omega
        · have : oc = cap := (by simpa using e1 : oa = some ⟨g, 0, none⟩ ∧ oc = cap).2
          omega
end Go.Proofs
namespace Go.Proofs
open Go Go.Sh Go.RowKit

def PredR (f : Fn) (fa fb : Array Value) (q : Rw → Bool) (l : List Rw) (w : World) : Prop :=
  ∀ s ∈ l, ∀ (W : World) (K : Ending → World → Prop), Ext w W → (∀ W', Ext W W' → K (.returned (.bool (q s))) W') → CallV Tryz.prog (.func f fa fb) [.agg ⟨[.string ⟨⟨s.1⟩⟩, .string ⟨⟨s.2⟩⟩]⟩] W K
/- pairs with the same written form -/
def sameW (l : List Rw) (s : List UInt8) : List Rw := l.filter fun p => decide (p.1 = s)
theorem conf_count {L : List Rw} (hn : L.Nodup) (s : List UInt8) : confB L s = decide (1 < (sameW L s).length) := by
  have hh : (sameW L s).head? = L.find? fun p => decide (p.1 = s) := by unfold sameW; rw [List.head?_filter]
  have hnd : (sameW L s).Nodup := hn.filter _
  have hmem : ∀ p, p ∈ sameW L s ↔ p ∈ L ∧ p.1 = s := fun p => by unfold sameW; simp
  unfold confB firstE
  rw [← hh]
  cases hc : sameW L s with
  | nil =>
    rw [hc] at hmem
    rw [show decide (1 < ([] : List Rw).length) = false from rfl, List.any_eq_false]
    intro p hp
    have := mt (hmem p).2 (by simp)
    simp at this
    simp [this hp]
  | cons p0 rest =>
    rw [hc] at hmem hnd
    obtain ⟨m1, m2⟩ := (hmem p0).1 (by simp)
    cases rest with
    | nil =>
      rw [show decide (1 < [p0].length) = false from rfl, List.any_eq_false]
      intro p hp
      by_cases hs : p.1 = s
      · have := (hmem p).2 ⟨hp, hs⟩
        simp at this
        subst this
        simp
      · simp [hs]
    | cons q rest =>
      obtain ⟨n1, n2⟩ := (hmem q).1 (by simp)
      rw [decide_eq_true (by simp), List.any_eq_true]
      refine ⟨q, n1, ?_⟩
      have hne : p0 ≠ q := fun e => by rw [e] at hnd; simp at hnd
      have : p0.2 ≠ q.2 := fun e => hne (Prod.ext (m2.trans n2.symm) e)
      simp [n2, this]
theorem sameW_pos {L : List Rw} {s : List UInt8} : firstE L s ≠ none ↔ ∃ p ∈ L, p.1 = s := by
  rw [Ne, firstE_none]
  constructor
  · intro h
    apply Classical.byContradiction
    intro h2
    exact h fun p hp he => h2 ⟨p, hp, he⟩
  · rintro ⟨p, hp, he⟩ h
    exact h p hp he
theorem pairL_ofK (f : Fo) : (pairL f).length = cntF 10 f := by
  unfold pairL cntF ofK pairP
  induction nodesF f with
  | nil => rfl
  | cons x l ih =>
    rw [List.flatMap_cons, List.length_append, ih, List.filter_cons]
    unfold pairN
    by_cases h : x.k = 10
    · simp [h]; omega
    · simp [h]

end Go.Proofs
namespace Go.Proofs
open Go Go.Sh Go.RowKit

/- the part of a row ahead of an index -/
theorem RowAt.ahead {α : Type} {E : Enc α} (hE : E.size = 1) {S : Nat → Prop} {w : World} {a : Option Addr} {n c : Nat} {L : List α} (h : RowAt E S w a n L) (hc : n ≤ c) {k : Nat} (hk : k ≤ n) {K : Option Addr → Nat → Nat → Prop}
    (hK : ∀ a', RowAt E S w a' k (L.take k) → K a' k c) : sls a c 0 (k : Int) 1 K := by
  refine ⟨by omega, by omega, by omega, ?_⟩
  rw [show (0 : Int).toNat = 0 from rfl, Int.toNat_natCast, Nat.sub_zero, Nat.sub_zero]
  have hn := h.1
  have hl : k = (L.take k).length := by rw [List.length_take]; omega
  rcases h.2 with h0 | ⟨b, o, rfl, hb, hbl, hcl⟩
  · have : (L.take k) = [] := by
      have h1 := congrArg List.length h0
      rw [row_len, hE] at h1
      simp only [List.length_nil] at h1
      exact List.eq_nil_of_length_eq_zero (by rw [List.length_take]; omega)
    exact hK _ ⟨hl, .inl (by rw [this]; rfl)⟩
  · have ha : slA (some ⟨b, o, none⟩) c 0 1 = some ⟨b, o, none⟩ := by
      unfold slA; split
      · rfl
      · simp [add_none]
    rw [ha]
    refine hK _ ⟨hl, .inr ⟨b, o, rfl, hb, hbl, fun j v hj => hcl j v ?_⟩⟩
    have q : E.row L = E.row (L.take k) ++ E.row (L.drop k) := by rw [← row_app, List.take_append_drop]
    rw [q, List.getElem?_append_left (List.getElem?_eq_some_iff.1 hj).1]; exact hj
theorem pair_text {f : Fo} {p : Rw} (h : p ∈ pairL f) : p.1.length ≤ tlen f := by
  unfold pairL pairP at h
  obtain ⟨x, hx, hp⟩ := List.mem_flatMap.1 h
  obtain ⟨_, _, _, h4⟩ := sub_facts f x hx
  unfold pairN at hp
  split at hp
  · rw [List.mem_singleton] at hp; subst hp; exact h4
  · simp at hp
theorem sameW_take {L : List Rw} {s : List UInt8} {k : Nat} (hk : k < L.length) : sameW (L.take (k + 1)) s = if L[k].1 = s then sameW (L.take k) s ++ [L[k]] else sameW (L.take k) s := by
  unfold sameW
  rw [filter_take_succ _ hk]
  by_cases h : L[k].1 = s <;> simp [h]

end Go.Proofs
