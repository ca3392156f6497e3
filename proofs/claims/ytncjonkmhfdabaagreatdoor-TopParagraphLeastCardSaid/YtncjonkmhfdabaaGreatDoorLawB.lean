/- The contracts of the functions that the law reaches, one after the other, and at the end the law's card. -/
import Derived.Test.YtncjonkmhfdabaaGreatDoorLawA
import Derived.Lib.ConvBytes
import Derived.Maps.Own
import Derived.Lib.SliceRun
import Derived.Lib.AppendZerosOnto
namespace Go.Proofs
open Go Go.Sh Go.RowKit

def isWordF (s : List UInt8) : Bool := decide (1 ≤ s.length) && decide (s.length ≤ 64) && decide (checkC s = 0) && (match s with | [] => false | c :: _ => letB c) && s.all (fun c => decide (kd c ≤ 4))
theorem letB_iff (c : UInt8) : letB c = true ↔ kd c = 1 ∨ kd c = 3 := by simp [letB]
section
variable {R : Ending → World → Prop} {w : World}
theorem s2b_intro {l : List UInt8} {K : Option Addr → Nat → Nat → World → Prop}
    (h : ∀ c w', (∀ j (hj : j < l.length), w'.cell? ⟨w.heap.size, j, none⟩ = some (.int .u8 (l[j].toNat : Int))) → Ext w w' → K (some ⟨w.heap.size, 0, none⟩) l.length c w') : s2b Tryz.prog w 5 l K := by
  have hsh : ∀ c : Array Value, (w.drew.alloc (.cells c 5)).shape? w.heap.size = some (5, c.size) := by
    intro c
    simp [World.shape?, World.alloc, World.drew, -World.alloc_eq, -World.drew_eq]
  refine ⟨some ⟨w.heap.size, 0, none⟩, l.length, grownCap w l.length 0 5, Lib.bytesWorld w 5 ⟨⟨l⟩⟩, ?_, h _ _ (fun j hj => ?_) ?_⟩
  · have := hsh
    simp [Conv.stringToBytes, newRow, markStringish, Question.forced, Lib.bytesWorld, Lib.bytesCells, grownCap, hsh, Result.andThen, ByteArray.size]
  · have := Lib.bytesWorld_cell w 5 ⟨⟨l⟩⟩ j (by simpa [ByteArray.size] using hj)
    rw [this]; simp [List.getD, hj]
  · exact ⟨rfl, rfl, rfl, by rw [Lib.bytesWorld_size]; omega, fun k hk => Lib.bytesWorld_at_old w 5 _ k hk⟩

def psB (c : UInt8) : Bool := decide (4 < kd c)
theorem IsWord_1_spec (b : UInt8) (h : R (.returned (.bool (psB b))) w) : Calls Tryz.prog F_charset_IsWord_1 ⟨[.int .u8 (b.toNat : Int)]⟩ w R := by
  apply c_charset_IsWord_1
  refine Kind_spec _ ⟨_, rfl, ?_⟩
  have hk := kd_nonneg b
  refine br_split (fun h5 => ?_) (fun h5 => ?_)
  · rw [show true = psB b by simp [psB]; omega]; exact h
  · rw [show decide (kd b = 6) = psB b by unfold psB; rw [decide_eq_decide]; omega]; exact h

theorem IndexFunc_byte_spec {p : UInt8 → Bool} {g : FuncId} (hg : okFn Tryz.prog g = true) (hp : ∀ {R : Ending → World → Prop} {w : World} (b : UInt8), R (.returned (.bool (p b))) w → Calls Tryz.prog g ⟨[.int .u8 (b.toNat : Int)]⟩ w R)
    (l : List UInt8) (hl : l.length ≤ 9223372036854775806) {b c : Nat} (hc : ∀ j (hj : j < l.length), w.cell? ⟨b, j, none⟩ = some (.int .u8 (l[j].toNat : Int)))
    (h : ∀ i : Int, (0 ≤ i ↔ l.any p = true) → R (.returned (.int .i64 i)) w) :
    Calls Tryz.prog F_slices_IndexFunc_of_byte_byte ⟨[.slice (some ⟨b, 0, none⟩) l.length c, .func (.func g) #[] #[]]⟩ w R := by
  apply c_slices_IndexFunc_of_byte_byte
  refine ⟨fun i W m => W = w ∧ ∃ k : Nat, i = k ∧ k ≤ l.length ∧ m = l.length - k ∧ (l.take k).any p = false, ⟨_, rfl, 0, rfl, by omega, rfl, rfl⟩, ?_⟩
  rintro i W m ⟨rfl, k, rfl, hk, rfl, hany⟩ _
  refine br_split (fun hlt => ?_) (fun hge => ?_)
  · have hlt' : k < l.length := by omega
    refine ⟨by omega, by omega, ?_⟩
    refine dr_ok ⟨_, by rw [add_none]; simpa using hc k hlt', hg, hp _ ⟨_, rfl, ?_⟩⟩
    refine br_cases (fun hb => ?_) (fun hb => ?_)
    · refine h _ ⟨fun _ => ?_, fun _ => by omega⟩
      rw [List.any_eq_true]; exact ⟨l[k], by simp, hb⟩
    · refine ⟨l.length - (k + 1), by omega, rfl, k + 1, by rw [wrap_id (by omega)]; simp, by omega, rfl, ?_⟩
      rw [List.take_succ_eq_append_getElem hlt', List.any_append, hany]; simp [hb]
  · have : k = l.length := by omega
    subst this
    rw [List.take_length] at hany
    exact h _ ⟨fun hh => by omega, fun hh => by rw [hany] at hh; cases hh⟩

theorem IsWord_spec (s : List UInt8) (h : ∀ w', Ext w w' → R (.returned (.bool (isWordF s))) w') : Calls Tryz.prog F_charset_IsWord ⟨[.string ⟨⟨s⟩⟩]⟩ w R := by
  apply c_charset_IsWord
  intro K2 hK2
  refine br_split (fun h1 => ?_) (fun h1 => br_split (fun h2 => ?_) (fun h2 => ?_))
  · subst h1; exact h w (Below.refl _ _)
  · rw [show isWordF s = false by unfold isWordF; rw [show decide (s.length ≤ 64) = false by simp; omega]; simp] at h
    exact h w (Below.refl _ _)
  obtain ⟨c, t, rfl⟩ : ∃ c t, s = c :: t := by cases s with | nil => exact absurd rfl h1 | cons c t => exact ⟨c, t, rfl⟩
  refine Check_spec _ fun w1 he1 => ⟨_, rfl, br_split (fun h3 => ?_) (fun h3 => ?_)⟩
  · rw [show isWordF (c :: t) = false by unfold isWordF; rw [show decide (checkC (c :: t) = 0) = false by simpa using h3]; simp] at h
    exact h _ he1
  have h3 : checkC (c :: t) = 0 := Classical.byContradiction h3
  refine hK2 _ fun _ => ?_
  intro K4 hK4
  have fin : letB c = true → K4 w1 := fun hc => by
    refine hK4 _ fun _ => s2b_intro fun cp w2 hcells he2 => ?_
    apply c_slices_ContainsFunc_of_byte_byte
    refine IndexFunc_byte_spec (p := psB) (by kernel_rfl) (fun b hb => IsWord_1_spec b hb) _ (by omega) hcells fun i hi => ⟨_, rfl, _, rfl, ?_⟩
    have e : (!decide (0 ≤ i)) = isWordF (c :: t) := by
      have e1 : isWordF (c :: t) = !((c :: t).any psB) := by
        unfold isWordF
        rw [List.not_any_eq_all_not]
        have e2 : (c :: t).all (fun c => decide (kd c ≤ 4)) = (c :: t).all (fun x => !psB x) := by
          congr 1; funext x; unfold psB; rw [Bool.eq_iff_iff]; simp; 
        rw [e2, h3]
        have e3 : decide ((c :: t).length ≤ 64) = true := by simp only [decide_eq_true_eq]; omega
        rw [e3]
        simp [hc]
      rw [e1]
      cases ha : (c :: t).any psB with
      | true => simp [hi, ha]
      | false =>
        have : ¬ 0 ≤ i := fun hh => by rw [hi, ha] at hh; cases hh
        simp [this]
    rw [e]; exact h _ (ext_trans he1 he2)
  refine sidx_int 0 rfl (by simp) (Kind_spec _ ⟨_, rfl, br_split (fun h4 => br_split (fun h5 => ?_) (fun h5 => ?_)) (fun h4 => ?_)⟩)
  · simp only [List.getElem_cons_zero] at h4 h5
    rw [show isWordF (c :: t) = false by unfold isWordF; have : letB c = false := by (simp [letB]; exact ⟨h4, h5⟩)
                                         simp [this]] at h
    exact h _ he1
  · simp only [List.getElem_cons_zero] at h4 h5
    exact fin ((letB_iff c).2 (.inr (Classical.byContradiction h5)))
  · simp only [List.getElem_cons_zero] at h4
    exact fin ((letB_iff c).2 (.inl (Classical.byContradiction h4)))

end
end Go.Proofs
namespace Go.Proofs
open Go Go.Sh Go.RowKit

/- the reference's measure of a transcript -/
section
variable {R : Ending → World → Prop} {S : Nat → Prop}
end
end Go.Proofs
namespace Go.Proofs
open Go Go.Sh Go.RowKit

theorem ext_drew (W : World) : Ext W W.drew := ⟨rfl, rfl, rfl, Nat.le_refl _, fun _ _ => rfl⟩
theorem wrap_nat {n : Nat} (h : n ≤ 4611686018427387904) : IntKind.i64.wrap ((n : Int) + 1) = ((n + 1 : Nat) : Int) := by rw [wrap_id (by omega)]; omega

/- the fields of the kinds -/
section
variable {R : Ending → World → Prop} {w : World}
/- the error of a node alone -/
end

section
variable {R : Ending → World → Prop} {w : World}
end
end Go.Proofs
namespace Go.Sh
open Go Go.RowKit
open Go.WideElems (Fit)
open Go.Maps (Keyed)

/- a map that stands in a block, as a partial function of keys -/
def anyV : Value → Option (DataW Unit × List MemPlace) := fun _ => some (.nil, [])
def MapT {K V : Type} (P : Program) (k : TypeId) (eK : K → Value) (eV : V → Value) (w : World) (b n : Nat) (f : K → Option V) : Prop :=
  ∃ es clock, w.heap[b]? = some (.map es clock) ∧ Fit P k anyV es clock ∧ es.size ≤ n ∧
    ∀ x, (f x = none ∧ ∀ e ∈ es.toList, e.key ≠ eK x) ∨ ∃ v, f x = some v ∧ ∃ e ∈ es.toList, e.key = eK x ∧ e.val = eV v

section
variable {K V : Type} {P : Program} {k t e : TypeId} {eK : K → Value} {eV : V → Value} {w w' : World} {b n : Nat} {f : K → Option V}
theorem MapT.made (w : World) : MapT P k eK eV (w.alloc (.map #[] 0)) w.heap.size 0 (fun _ => none) :=
  ⟨#[], 0, (MapKept.heap_alloc w _).1, ⟨by simp, MapKept.stamped_empty 0, by simp⟩, Nat.le_refl _, fun x => .inl ⟨rfl, by simp⟩⟩
theorem MapT.lt (h : MapT P k eK eV w b n f) : b < w.heap.size := by
  obtain ⟨es, clock, hb, _⟩ := h
  exact (Array.getElem?_eq_some_iff.1 hb).1
theorem MapT.keep (h : MapT P k eK eV w b n f) (hw : w'.heap[b]? = w.heap[b]?) : MapT P k eK eV w' b n f := by
  obtain ⟨es, clock, hb, h⟩ := h
  exact ⟨es, clock, hw.trans hb, h⟩
theorem MapT.ext (h : MapT P k eK eV w b n f) (hw : Ext w w') : MapT P k eK eV w' b n f := h.keep (hw.block b h.lt)
theorem MapT.chg {S : Nat → Prop} (h : MapT P k eK eV w b n f) (hw : Chg S w w') (hs : ¬ S b) : MapT P k eK eV w' b n f := h.keep (hw.block b h.lt hs)
theorem MapT.mono (h : MapT P k eK eV w b n f) {m : Nat} (hm : n ≤ m) : MapT P k eK eV w b m f := by
  obtain ⟨es, clock, hb, F, hs, h⟩ := h
  exact ⟨es, clock, hb, F, Nat.le_trans hs hm, h⟩
theorem MapT.congr {g : K → Option V} (h : MapT P k eK eV w b n f) (hg : ∀ x, f x = g x) : MapT P k eK eV w b n g := by
  rw [← (funext hg : f = g)]; exact h

theorem MapT.look (h : MapT P k eK eV w b n f) (Kd : Keyed P k) (ht : P.underlying t = some (.map k e)) {z : Value} (hz : (zeroValue e).run P w = .ok z w) {x : K} {kl : Lit} (hkey : keyOf P k (eK x) = some kl) :
    lkAt P t (.map (some b)) (eK x) w (((f x).map eV).getD z) := by
  obtain ⟨es, clock, hb, F, _, hf⟩ := h
  unfold lkAt
  rcases Maps.fit_look false Kd ht hz hb F hkey with ⟨hrun, hno, _⟩ | ⟨e0, y, h1, h2, hrun, _⟩
  · rcases hf x with ⟨h0, _⟩ | ⟨v, _, e1, he1, hk1, _⟩
    · rw [h0]; exact hrun
    · exact absurd hk1 (hno e1 he1)
  · rcases hf x with ⟨_, h0⟩ | ⟨v, hv, e1, he1, hk1, hv1⟩
    · exact absurd h2 (h0 e0 h1)
    · rw [hv]
      have : e0 = e1 := by
        have hn : es.toList.Pairwise (fun x y => x.key ≠ y.key) := ((MapKept.stamped_iff es clock).1 F.stamped).2.2
        obtain ⟨i, hi, rfl⟩ := List.getElem_of_mem h1
        obtain ⟨j, hj, rfl⟩ := List.getElem_of_mem he1
        have : i = j := by
          apply Classical.byContradiction
          intro hne
          rcases Nat.lt_or_gt_of_ne hne with hl | hl
          · exact List.pairwise_iff_getElem.1 hn i j hi hj hl (h2.trans hk1.symm)
          · exact List.pairwise_iff_getElem.1 hn j i hj hi hl (hk1.trans h2.symm)
        subst this; rfl
      subst this
      rw [hv1] at hrun
      simpa using hrun
end
end Go.Sh
namespace Go.Sh
open Go Go.RowKit

/- clearing the end of a slice that the call has made, and cutting it off -/
section
variable {α : Type} {E : Enc α} {w : World} {B : Nat} {e : TypeId} {a : Option Addr} {n c : Nat} {l : List α}
end
end Go.Sh
namespace Go.Proofs
open Go Go.Sh Go.RowKit
/- slices of whole numbers and of strings: reading, Index, Contains, IndexFunc, ContainsFunc, Clone -/
def ixF {α : Type} (q : α → Bool) (l : List α) : Int := if l.any q then (l.findIdx q : Int) else -1
theorem ixF_ge {α : Type} (q : α → Bool) (l : List α) : decide ((0 : Int) ≤ ixF q l) = l.any q := by
  unfold ixF
  cases l.any q <;> simp
theorem ixF_at {α : Type} {q : α → Bool} {l : List α} {k : Nat} (hk : k < l.length) (hq : q l[k] = true) (hno : ∀ x ∈ l.take k, q x = false) : ixF q l = k := by
  unfold ixF
  rw [if_pos (List.any_eq_true.2 ⟨_, List.getElem_mem hk, hq⟩), List.findIdx_eq hk |>.2 ⟨hq, fun j hj => ?_⟩]
  have hjl : j < l.length := by omega
  have := hno l[j] (by rw [List.mem_take_iff_getElem]; exact ⟨j, by omega, rfl⟩)
  simp [this]
theorem ixF_no {α : Type} {q : α → Bool} {l : List α} (hno : ∀ x ∈ l, q x = false) : ixF q l = -1 := by
  unfold ixF
  rw [if_neg]
  rw [Bool.not_eq_true, List.any_eq_false]
  intro x hx; rw [hno x hx]; simp
theorem take_s {α : Type} {l : List α} {k : Nat} (h : k < l.length) : l.take (k + 1) = l.take k ++ [l[k]] := by rw [List.take_add_one, List.getElem?_eq_getElem h]; rfl
theorem no_take {α : Type} {q : α → Bool} {l : List α} {k : Nat} (h : k < l.length) (hq : q l[k] = false) (hno : ∀ x ∈ l.take k, q x = false) : ∀ x ∈ l.take (k + 1), q x = false := by
  intro x hx
  rw [take_s h, List.mem_append, List.mem_singleton] at hx
  rcases hx with hx | rfl
  · exact hno x hx
  · exact hq
section
variable {R : Ending → World → Prop} {S : Nat → Prop} {w : World} {a : Option Addr} {n c : Nat}
theorem IndexI_spec {L : List Int} (v : Int) (h1 : RowV vI S w a n L) (hs : n ≤ 4611686018427387904) (h : R (.returned (.int .i64 (ixF (fun x => decide (v = x)) L))) w) :
    Calls Tryz.prog F_slices_Index_of_int_int ⟨[.slice a n c, .int .i64 v]⟩ w R := by
  apply c_slices_Index_of_int_int
  have hn := h1.1
  refine ⟨fun i W m => ∃ k : Nat, i = k ∧ k ≤ n ∧ m = n - k ∧ (∀ x ∈ L.take k, decide (v = x) = false) ∧ W = w, ⟨_, 0, rfl, by omega, rfl, by simp, rfl⟩, ?_⟩
  rintro _ W m ⟨k, rfl, hk, rfl, hno, rfl⟩ _
  refine br_split (fun hlt => ?_) (fun hge => ?_)
  · have hkL : k < L.length := by omega
    obtain ⟨p, hp1, hc⟩ := h1.int hkL
    refine hp1 _ ⟨_, hc, br_split (fun g => ?_) (fun g => ?_)⟩
    · rw [ixF_at hkL (decide_eq_true g) hno] at h; exact h
    · exact ⟨n - (k + 1), by omega, k + 1, by rw [wrap_nat (by omega)], by omega, rfl, no_take hkL (decide_eq_false g) hno, rfl⟩
  · rw [List.take_of_length_le (by omega)] at hno
    rw [ixF_no hno] at h; exact h
theorem ContainsI_spec {L : List Int} (v : Int) (h1 : RowV vI S w a n L) (hs : n ≤ 4611686018427387904) (h : R (.returned (.bool (decide (v ∈ L)))) w) :
    Calls Tryz.prog F_slices_Contains_of_int_int ⟨[.slice a n c, .int .i64 v]⟩ w R := by
  apply c_slices_Contains_of_int_int
  refine IndexI_spec v h1 hs ⟨_, rfl, ?_⟩
  have e : L.any (fun x => decide (v = x)) = decide (v ∈ L) := by
    rw [Bool.eq_iff_iff, List.any_eq_true, decide_eq_true_iff]
    constructor
    · rintro ⟨x, hx, e⟩; have := of_decide_eq_true e; subst this; exact hx
    · intro hv; exact ⟨v, hv, by simp⟩
  rw [ixF_ge, e]; exact h
/- a predicate on numbers -/
def PredI (f : Fn) (fa fb : Array Value) (q : Int → Bool) (l : List Int) (J : World → Prop) : Prop :=
  ∀ s ∈ l, ∀ (W : World) (K : Ending → World → Prop), J W → (∀ W', Ext W W' → K (.returned (.bool (q s))) W') → CallV Tryz.prog (.func f fa fb) [.int .i64 s] W K
theorem IndexFuncI_spec {f : Fn} {fa fb : Array Value} {q : Int → Bool} {L : List Int} {J : World → Prop} (h1 : RowV vI S w a n L)
    (hs : n ≤ 4611686018427387904) (hp : PredI f fa fb q L J) (hJ0 : J w) (hJe : ∀ W W', J W → Ext W W' → J W')
    (h : ∀ w', Ext w w' → R (.returned (.int .i64 (ixF q L))) w') : Calls Tryz.prog F_slices_IndexFunc_of_int_int ⟨[.slice a n c, .func f fa fb]⟩ w R := by
  apply c_slices_IndexFunc_of_int_int
  have hn := h1.1
  refine ⟨fun i W m => ∃ k : Nat, i = k ∧ k ≤ n ∧ m = n - k ∧ (∀ x ∈ L.take k, q x = false) ∧ Ext w W, ⟨_, 0, rfl, by omega, rfl, by simp, Below.refl _ _⟩, ?_⟩
  rintro _ W m ⟨k, rfl, hk, rfl, hno, he⟩ _
  refine br_split (fun hlt => ?_) (fun hge => ?_)
  · have hkL : k < L.length := by omega
    obtain ⟨p, hp1, hc⟩ := (h1.ext he).int hkL
    refine hp1 _ ⟨_, hc, hp _ (List.getElem_mem hkL) W _ (hJe _ _ hJ0 he) fun W' e' => ⟨_, rfl, br_cases (fun g => ?_) (fun g => ?_)⟩⟩
    · have := h W' (ext_trans he e')
      rw [ixF_at hkL g hno] at this; exact this
    · exact ⟨n - (k + 1), by omega, k + 1, by rw [wrap_nat (by omega)], by omega, rfl, no_take hkL g hno, ext_trans he e'⟩
  · rw [List.take_of_length_le (by omega)] at hno
    have := h W he
    rw [ixF_no hno] at this; exact this
theorem ContainsFuncI_spec {f : Fn} {fa fb : Array Value} {q : Int → Bool} {L : List Int} {J : World → Prop} (h1 : RowV vI S w a n L)
    (hs : n ≤ 4611686018427387904) (hp : PredI f fa fb q L J) (hJ0 : J w) (hJe : ∀ W W', J W → Ext W W' → J W')
    (h : ∀ w', Ext w w' → R (.returned (.bool (L.any q))) w') : Calls Tryz.prog F_slices_ContainsFunc_of_int_int ⟨[.slice a n c, .func f fa fb]⟩ w R := by
  apply c_slices_ContainsFunc_of_int_int
  refine IndexFuncI_spec h1 hs hp hJ0 hJe fun w' e' => ⟨_, rfl, ?_⟩
  rw [ixF_ge]; exact h w' e'
theorem slT_int : SlT Tryz.prog 40 3 1 8 (.int .i64 0) := ⟨by kernel_rfl, by kernel_rfl, rfl, by decide⟩
theorem CloneI_spec {L : List Int} (h1 : RowV vI S w a n L) (hs : n ≤ 1000000000)
    (h : ∀ a' c' w', OwnV vI (fun _ => False) 3 w.heap.size w' a' n c' L → Ext w w' → R (.returned (.slice a' n c')) w') : Calls Tryz.prog F_slices_Clone_of_int_int ⟨[.slice a n c]⟩ w R := by
  apply c_slices_Clone_of_int_int
  have hn := h1.1
  refine br_cases (fun hz => ?_) (fun hz => ?_)
  · obtain rfl : a = none := by cases a <;> simp_all
    obtain rfl : L = [] := h1.isNone
    have hn0 : n = 0 := hn
    subst hn0
    exact h none 0 w (OwnV.nil w) (Below.refl _ _)
  · refine al_intro fun b w1 hb B1 e1 s1 => ?_
    have hO : OwnV vI (fun _ => False) 3 w.heap.size w1 (some ⟨b, 0, none⟩) 0 0 [] := ⟨rfl, [], Owns.made B1 (by omega), rfl⟩
    refine hO.pushAll slT_int (by omega) (h1.ext e1) allV_any (by omega) (by omega) fun a' c' w' ho hc hn' => ?_
    rw [Nat.zero_add] at ho ⊢
    exact h a' c' w' ho (ext_own e1 hc fun k hk => by simp [bk] at hk; omega)
end
end Go.Proofs
namespace Go.Proofs
open Go Go.Sh Go.RowKit
/- cells by a function; slices that grow, several of them in one block -/
theorem bat {w : World} {b : Nat} {cs : List Value} {T : TypeId} (h : Blk w b cs T) {i : Nat} {v : Value} (hv : cs[i]? = some v) : w.cell? ((⟨b, 0, none⟩ : Addr).add i) = some v := by
  rw [add_none, Nat.zero_add, h.cell, hv]
theorem bat2 {w : World} {b : Nat} {cs : List Value} {T : TypeId} (h : Blk w b cs T) {i j : Nat} {v : Value} (hv : cs[i + j]? = some v) : w.cell? (((⟨b, 0, none⟩ : Addr).add i).add j) = some v := by
  rw [add_none, add_none, Nat.zero_add, h.cell, hv]
def fC (m : Nat) (f : Nat → Value) : List Value := (List.range m).map f
theorem fC_len (m : Nat) (f : Nat → Value) : (fC m f).length = m := by simp [fC]
theorem fC_get {m : Nat} {f : Nat → Value} {j : Nat} (h : j < m) : (fC m f)[j]? = some (f j) := by
  unfold fC
  rw [List.getElem?_map, List.getElem?_range h]; rfl
theorem fC_set {m : Nat} {f : Nat → Value} {j : Nat} {v : Value} : (fC m f).set j v = fC m (fun i => if i = j then v else f i) := by
  refine List.ext_getElem? fun i => ?_
  rw [List.getElem?_set, fC_len]
  by_cases hi : i < m
  · rw [fC_get hi, fC_get hi]
    by_cases e : j = i
    · subst e; simp [hi]
    · rw [if_neg e, if_neg (fun q => e q.symm)]
  · rw [List.getElem?_eq_none (by rw [fC_len]; omega), List.getElem?_eq_none (by rw [fC_len]; omega)]
    by_cases e : j = i
    · rw [if_pos e, if_neg (by omega)]
    · rw [if_neg e]
theorem fC_congr {m : Nat} {f g : Nat → Value} (h : ∀ j, j < m → f j = g j) : fC m f = fC m g := by
  unfold fC
  exact List.map_congr_left fun j hj => h j (List.mem_range.1 hj)
theorem fC_rep (n : Nat) (v : Value) : (List.replicate n [v]).flatten = fC n (fun _ => v) := by
  unfold fC
  rw [List.map_const', List.length_range]
  induction n with
  | zero => rfl
  | succ n ih => rw [List.replicate_succ, List.replicate_succ, List.flatten_cons, ih]; rfl
/- storing one cell of such a block -/
theorem stL_fC {w : World} {b m : Nat} {f : Nat → Value} {T : TypeId} {j : Nat} {v : Value} {K : World → Prop} (h : Blk w b (fC m f) T) (hj : j < m) (hv : v.oneCell' = true)
    (hk : ∀ w', Blk w' b (fC m fun i => if i = j then v else f i) T → Chg (fun k => k = b) w w' → w'.heap.size = w.heap.size → K w') : stL w ⟨b, j, none⟩ 0 [v] K := by
  refine stL_blk h (by rw [fC_len]; simp; omega) (by simpa using hv) fun w' h1 h2 h3 h4 h5 h6 => hk w' ?_ ⟨h4, h5, h6, by omega, fun k _ hk => h2 k hk⟩ h3
  rw [← fC_set]; exact h1
abbrev Slv := Option Addr × Nat × Nat
def slC (s : Slv) : Value := .slice s.1 s.2.1 s.2.2
structure RowsG {α : Type} (E : Enc α) (e : TypeId) (B : Nat) (w : World) (m : Nat) (r : Nat → Slv) (F : Nat → List α) : Prop where
  own : ∀ j, j < m → OwnL E w B e (r j).1 (r j).2.1 (r j).2.2 (F j)
  dj : ∀ i j, i < m → j < m → i ≠ j → ∀ k, bk (r i).1 k → ¬ bk (r j).1 k
section
variable {α : Type} {E : Enc α} {e : TypeId} {B : Nat} {w w' : World} {m : Nat} {r : Nat → Slv} {F : Nat → List α}
theorem RowsG.chg {T : Nat → Prop} (h : RowsG E e B w m r F) (hc : Chg T w w') (hT : ∀ j, j < m → ∀ k, bk (r j).1 k → ¬ T k) : RowsG E e B w' m r F :=
  ⟨fun j hj => Owns.chg (h.own j hj) hc (hT j hj), h.dj⟩
theorem RowsG.ext (h : RowsG E e B w m r F) (hc : Ext w w') : RowsG E e B w' m r F := ⟨fun j hj => Owns.ext (h.own j hj) hc, h.dj⟩
theorem RowsG.bk (h : RowsG E e B w m r F) {j k : Nat} (hj : j < m) (hk : Sh.bk (r j).1 k) : B ≤ k ∧ k < w.heap.size := Owns.bk (h.own j hj) hk
theorem RowsG.nil (w : World) (m : Nat) : RowsG E e B w m (fun _ => (none, 0, 0)) (fun _ => []) := ⟨fun j _ => Owns.nil _ _ _ _, fun i j _ _ _ k hk => by simp [Sh.bk] at hk⟩
theorem RowsG.row (h : RowsG E e B w m r F) {j : Nat} (hj : j < m) : RowAt E (Sh.bk (r j).1) w (r j).1 (r j).2.1 (F j) := OwnL.out (h.own j hj)
theorem RowsG.len (h : RowsG E e B w m r F) {j : Nat} (hj : j < m) : (F j).length = (r j).2.1 := OwnL.length (h.own j hj)
theorem RowsG.cap (h : RowsG E e B w m r F) {j : Nat} (hj : j < m) : (r j).2.1 ≤ (r j).2.2 := ((ownV_enc (S := fun _ => True)).2 (h.own j hj)).cap
/- one row is another one now -/
theorem RowsG.put {j : Nat} {a : Option Addr} {n c : Nat} {l : List α} (h : RowsG E e B w m r F) (hj : j < m) (hO : OwnL E w' B e a n c l) (hc : Chg (Sh.bk (r j).1) w w') (ha : ∀ k, Sh.bk a k → Sh.bk (r j).1 k ∨ w.heap.size ≤ k) :
    RowsG E e B w' m (fun i => if i = j then (a, n, c) else r i) (fun i => if i = j then l else F i) := by
  refine ⟨fun i hi => ?_, fun i i' hi hi' hne k hk => ?_⟩
  · by_cases e : i = j
    · simp only [if_pos e]; exact hO
    · simp only [if_neg e]
      exact Owns.chg (h.own i hi) hc fun k hk => h.dj i j hi hj e k hk
  · by_cases e : i = j
    · by_cases e' : i' = j
      · exact absurd (e.trans e'.symm) hne
      · simp only [if_pos e] at hk
        simp only [if_neg e']
        intro hk'
        rcases ha k hk with h1 | h1
        · exact h.dj i' j hi' hj e' k hk' h1
        · have := (h.bk hi' hk').2; omega
    · simp only [if_neg e] at hk
      by_cases e' : i' = j
      · simp only [if_pos e']
        intro hk'
        rcases ha k hk' with h1 | h1
        · exact h.dj i j hi hj e k hk h1
        · have := (h.bk hi hk).2; omega
      · simp only [if_neg e']
        exact h.dj i i' hi hi' hne k hk
theorem RowsG.congr {F' : Nat → List α} (h : RowsG E e B w m r F) (hF : ∀ j, j < m → F j = F' j) : RowsG E e B w m r F' := ⟨fun j hj => by rw [← hF j hj]; exact h.own j hj, h.dj⟩
/- as a slice of slices, to be read -/
theorem RowsG.out {b : Nat} {T : TypeId} {S : Nat → Prop} (h : RowsG E e B w m r F) (hb : Blk w b (fC m fun j => slC (r j)) T) (hS : ∀ k, (k = b ∨ B ≤ k) → k < w.heap.size → S k) :
    RowV (View.sl (View.enc E)) S w (some ⟨b, 0, none⟩) m ((List.range m).map F) := by
  have hA : ∀ k, k ≤ m → AllV (View.sl (View.enc E)) S w ((List.range k).map F) (fC k fun j => slC (r j)) := by
    intro k
    induction k with
    | zero => exact fun _ => rfl
    | succ k ih =>
      intro hk
      have hkm : k < m := by omega
      unfold fC
      rw [List.range_succ, List.map_append, List.map_append]
      refine (ih (by omega)).app (AllV.single ⟨(r k).1, (r k).2.2, ?_, ?_, ?_⟩)
      · show [slC (r k)] = _
        rw [h.len hkm]; rfl
      · rw [h.len hkm]; exact h.cap hkm
      · rw [h.len hkm]
        exact rowV_enc.2 ((h.row hkm).imp fun q hq hl => hS q (.inr (h.bk hkm hq).1) hl)
  exact ⟨by simp, _, .inr ⟨b, 0, rfl, hS b (.inl rfl) hb.lt, hb.lt, fun j v hj => by rw [Nat.zero_add, hb.cell]; exact hj⟩, hA m (Nat.le_refl _)⟩
end
end Go.Proofs
namespace Go.Proofs
open Go Go.Sh Go.RowKit
/- contamination.Choices; slices.Equal of numbers; the sizes that are looked at -/
section
variable {R : Ending → World → Prop} {w : World} {S S2 : Nat → Prop}
theorem EqualI_spec {a b : Option Addr} {n c m d : Nat} {L M : List Int} (h1 : RowV vI S w a n L) (h2 : RowV vI S2 w b m M) (hs : n ≤ 4611686018427387904) (h : ∀ w', Ext w w' → R (.returned (.bool (decide (L = M)))) w') :
    Calls Tryz.prog F_slices_Equal_of_int_int ⟨[.slice a n c, .slice b m d]⟩ w R := by
  apply c_slices_Equal_of_int_int
  have hn := h1.1
  have hm := h2.1
  refine br_split (fun g => ?_) (fun g => ?_)
  · have := h w (Below.refl _ _)
    rw [decide_eq_false (fun hh => g (by rw [hh] at hn; omega))] at this; exact this
  refine ⟨fun i W m' => ∃ k : Nat, i = k ∧ k ≤ n ∧ m' = n - k ∧ L.take k = M.take k ∧ Ext w W, ⟨_, 0, rfl, by omega, rfl, rfl, Below.refl _ _⟩, ?_⟩
  rintro _ W m' ⟨k, rfl, hk, rfl, he, eW⟩ _
  refine br_split (fun hlt => ?_) (fun hge => ?_)
  · have hkL : k < L.length := by omega
    have hkM : k < M.length := by omega
    unfold drw
    have ed := ext_trans eW (ext_drew W)
    generalize W.drew = V at *
    obtain ⟨p, hp, d1⟩ := (h1.ext ed).int hkL
    obtain ⟨q, hq, d2⟩ := (h2.ext ed).int hkM
    refine hp _ ⟨_, d1, hq _ ⟨_, d2, br_split (fun g2 => ?_) (fun g2 => ?_)⟩⟩
    · have := h V ed
      rw [decide_eq_false (fun hh => g2 (by subst hh; rfl))] at this; exact this
    · refine ⟨n - (k + 1), by omega, k + 1, by rw [wrap_nat (by omega)], by omega, rfl, ?_, ed⟩
      rw [take_s hkL, take_s hkM, he, Decidable.not_not.1 g2]
  · rw [List.take_of_length_le (by omega), List.take_of_length_le (by omega)] at he
    have := h W eW
    rw [decide_eq_true he] at this; exact this
end
end Go.Proofs
namespace Go.Proofs
open Go Go.Sh Go.RowKit
/- cells and rows of blocks, indices, steps of regions, slices that grow at once -/
theorem idx_b {b n j sz : Nat} {K : Addr → Prop} (h : j < n) (hK : K ⟨b, j * sz, none⟩) : idx (some ⟨b, 0, none⟩) n (j : Int) sz K :=
  ⟨by omega, by omega, by show K _; rw [add_none, Int.toNat_natCast, Nat.zero_add]; exact hK⟩
theorem idx_b1 {b n j : Nat} {K : Addr → Prop} (h : j < n) (hK : K ⟨b, j, none⟩) : idx (some ⟨b, 0, none⟩) n (j : Int) 1 K := idx_b h (by rw [Nat.mul_one]; exact hK)
theorem rowAt_b {α : Type} {E : Enc α} {w : World} {b : Nat} {l : List α} {T : TypeId} (h : Blk w b (E.row l) T) : RowAt E (fun k => k = b) w (some ⟨b, 0, none⟩) l.length l :=
  ⟨rfl, .inr ⟨b, 0, rfl, rfl, h.lt, fun j v hj => by rw [Nat.zero_add, h.cell]; exact hj⟩⟩
theorem b0_cell {w : World} {b : Nat} {v : Value} {vs : List Value} {T : TypeId} (h : Blk w b (v :: vs) T) : w.cell? ⟨b, 0, none⟩ = some v := by rw [h.cell]; rfl
theorem grow_nilT {P : Program} {t tn ty e : TypeId} {size bytes : Nat} {z : Value} (hT : SlT P t e size bytes z) (htn : P.underlying tn = some (.int .i64)) {w : World} {B : Nat} (hB : B ≤ w.heap.size) (k : Nat) (h0 : 0 < k) (hb : k * bytes ≤ 140737488355328) (hk63 : k ≤ 4611686018427387904)
    {K : Option Addr → Nat → Nat → World → Prop} (hk : ∀ (c : Nat) w', Owns w' B e size (some ⟨w.heap.size, 0, none⟩) 0 c [] → Ext w w' → K (some ⟨w.heap.size, 0, none⟩) k c w') :
    app P [t, tn] ty (.slice none 0 0) (.int .i64 (k : Int)) w K := by
  obtain ⟨i, hi, hz, hs, hbb⟩ := hT.get
  have hpos := hT.pos
  have hr := Lib.run_append_grow_zeros (P := P) w t tn ty e i z .i64 .i64 hT.under htn hi hz none 0 0 [] (run_firstCells_none w.drew i.size 0 0 0) k h0 (by omega) (by omega) (by omega) (by rw [hbb]; omega) (by
    rw [hbb]; exact growslice_fits (by omega) (by rw [Nat.zero_add]; omega))
  rw [Nat.zero_add] at hr
  refine ⟨_, _, _, _, hr, hk _ _ ?_ (ext_trans (ext_drew w) ((Below.refl _ _).alloc (Nat.le_refl _) _))⟩
  refine ⟨by simp, .inr ⟨w.heap.size, _, #[] ++ Builtin.zeroCells z.cells k ++ Builtin.zeroCells z.cells (grownCap w k 0 e - k), rfl, hB, ?_, Nat.zero_le _, grownCap_le_maxLen w k 0 e (by simp only [maxLen]; omega), ?_, by simp⟩⟩
  · exact heap_alloc_new w.drew _
  · have hge := grownCap_ge w k 0 e
    have hzs : z.cells.size = i.size := by rw [hT.zs, hs]
    simp only [Builtin.zeroCells, Array.size_append, Array.size_map, Array.size_range, hzs, hs, List.size_toArray, List.length_nil, Nat.zero_add]
    rw [← Nat.add_mul]
    congr 1
    omega
section
variable {w : World}
theorem rowI_b {b n : Nat} {l : List Int} {T : TypeId} (h : Blk w b (Sh.encI.row l) T) (hn : n = l.length) : RowV vI (fun _ => True) w (some ⟨b, 0, none⟩) n l := by
  subst hn
  exact rowV_enc.2 ((rowAt_b (E := Sh.encI) h).imp fun _ _ _ => trivial)
theorem st_idiv {b : Int} {A : Prop} (hb : b ≠ 0) (h : A) : idiv b A := ⟨hb, h⟩
end
end Go.Proofs
namespace Go.Proofs
open Go Go.Sh Go.RowKit
/- fixedpoint.Badness: what it computes, as it computes it -/
def mulHi (x y : Int) : Int := IntKind.u64.wrap ((IntKind.u64.wrap ((IntKind.u64.wrap ((shR .u64 x 32) * (shR .u64 y 32))) + (shR .u64 (IntKind.u64.wrap ((IntKind.u64.wrap ((shR .u64 x 32) * (bitA .u64 y 4294967295))) + (shR .u64 (IntKind.u64.wrap ((bitA .u64 x 4294967295) * (bitA .u64 y 4294967295))) 32))) 32))) + (shR .u64 (IntKind.u64.wrap ((bitA .u64 (IntKind.u64.wrap ((IntKind.u64.wrap ((shR .u64 x 32) * (bitA .u64 y 4294967295))) + (shR .u64 (IntKind.u64.wrap ((bitA .u64 x 4294967295) * (bitA .u64 y 4294967295))) 32))) 4294967295) + (IntKind.u64.wrap ((bitA .u64 x 4294967295) * (shR .u64 y 32))))) 32))
def timesF (a : Int × Int) (n : Int) : Int × Int := (IntKind.u64.wrap (mulHi a.2 n + IntKind.u64.wrap (a.1 * n)), IntKind.u64.wrap (a.2 * n))
def aboveF (a b : Int × Int) : Bool := if a.1 ≠ b.1 then decide (b.1 < a.1) else if !(decide (a.1 = b.1) && (decide (a.2 = b.2) && true)) then decide (b.2 < a.2) else false
def searchF (cu li : Int × Int) : Nat → Nat → Nat → Nat
  | 0, lo, _ => lo
  | f + 1, lo, hi => if 1 < hi - lo then (if aboveF (timesF cu (((lo + hi) / 2 : Nat) : Int)) li then searchF cu li f lo ((lo + hi) / 2) else searchF cu li f ((lo + hi) / 2) hi) else lo
theorem search_fuel {cu li : Int × Int} : ∀ {f g lo hi : Nat}, hi - lo ≤ f → hi - lo ≤ g → searchF cu li f lo hi = searchF cu li g lo hi
  | 0, 0, _, _, _, _ => rfl
  | 0, g + 1, lo, hi, h, _ => by rw [searchF, searchF, if_neg (by omega)]
  | f + 1, 0, lo, hi, _, h => by rw [searchF, searchF, if_neg (by omega)]
  | f + 1, g + 1, lo, hi, h1, h2 => by
    rw [searchF, searchF]
    by_cases hc : 1 < hi - lo
    · rw [if_pos hc, if_pos hc, search_fuel (f := f) (g := g) (by omega) (by omega), search_fuel (f := f) (g := g) (by omega) (by omega)]
    · rw [if_neg hc, if_neg hc]
theorem search_le {cu li : Int × Int} : ∀ {f lo hi : Nat}, lo < hi → searchF cu li f lo hi < hi
  | 0, _, _, h => h
  | f + 1, lo, hi, h => by
    rw [searchF]
    split
    · split
      · have := search_le (cu := cu) (li := li) (f := f) (lo := lo) (hi := (lo + hi) / 2) (by omega); omega
      · exact search_le (by omega)
    · exact h
def absU (c : Int) : Int := min (if c < 0 then IntKind.u64.wrap (0 - IntKind.u64.wrap c) else IntKind.u64.wrap c) 1073741824
def badF (c t : Int) : Int :=
  if absU c = 0 then 0 else if t ≤ 0 then 10000 else
    (searchF (timesF (timesF (0, IntKind.u64.wrap (min t 1073741824)) (IntKind.u64.wrap (min t 1073741824))) (IntKind.u64.wrap (min t 1073741824))) (timesF (timesF (timesF (0, absU c) (absU c)) (absU c)) 100) 10001 0 10001 : Int)
theorem badF_range (c t : Int) : 0 ≤ badF c t ∧ badF c t ≤ 10000 := by
  unfold badF
  split
  · omega
  split
  · omega
  · have := search_le (cu := timesF (timesF (0, IntKind.u64.wrap (min t 1073741824)) (IntKind.u64.wrap (min t 1073741824))) (IntKind.u64.wrap (min t 1073741824))) (li := timesF (timesF (timesF (0, absU c) (absU c)) (absU c)) 100) (f := 10001) (lo := 0) (hi := 10001) (by decide)
    omega
theorem u64_id {n : Int} (h : 0 ≤ n ∧ n < 18446744073709551616) : IntKind.u64.wrap n = n := by simp [IntKind.wrap, IntKind.bits, IntKind.signed]; omega
theorem tdivN (a b : Nat) : Int.tdiv (a : Int) (b : Int) = ((a / b : Nat) : Int) := rfl
section
variable {R : Ending → World → Prop} {w : World}
theorem Mul64_spec (x y : Int) (h : R (.returned (.tuple ⟨[.int .u64 (mulHi x y), .int .u64 (IntKind.u64.wrap (x * y))]⟩)) w) : Calls Tryz.prog F_math_bits_Mul64 ⟨[.int .u64 x, .int .u64 y]⟩ w R := by
  apply c_math_bits_Mul64
  exact ⟨by decide, by decide, by decide, by decide, by decide, h⟩
theorem times_spec (a : Int × Int) (n : Int) (h : ∀ w', Ext w w' → R (.returned (.agg ⟨[.int .u64 (timesF a n).1, .int .u64 (timesF a n).2]⟩)) w') : Calls Tryz.prog F_fixedpoint_wide_times ⟨[.agg ⟨[.int .u64 a.1, .int .u64 a.2]⟩, .int .u64 n]⟩ w R := by
  apply c_fixedpoint_wide_times
  refine al_intro fun b4 w5 hb4 B4 e5 s5 => al_intro fun b6 w7 hb6 B6 e7 s7 => ?_
  refine ⟨_, bat (B4.ext e7) rfl, Mul64_spec _ _ ⟨_, _, rfl, _, bat (B4.ext e7) rfl, ?_⟩⟩
  refine stL_blk B6 (by simp) (by intro v hv; simp only [List.mem_cons, List.not_mem_nil, or_false] at hv; rcases hv with rfl | rfl <;> rfl) fun w14 B14 h1 h2 h3 h4 h5 => ?_
  have B14' : Blk w14 b6 [.int .u64 (timesF a n).1, .int .u64 (timesF a n).2] 238 := B14
  have hc : Chg (fun k => k = b6) w7 w14 := ⟨h3, h4, h5, by omega, fun j _ hj => h1 j hj⟩
  exact ⟨_, bat B14' rfl, _, bat B14' rfl, h w14 (ext_chgS (ext_trans e5 e7) hc fun k hk => by have := e5.size; omega)⟩
theorem above_spec (a b : Int × Int) (h : ∀ w', Ext w w' → R (.returned (.bool (aboveF a b))) w') : Calls Tryz.prog F_fixedpoint_wide_above ⟨[.agg ⟨[.int .u64 a.1, .int .u64 a.2]⟩, .agg ⟨[.int .u64 b.1, .int .u64 b.2]⟩]⟩ w R := by
  apply c_fixedpoint_wide_above
  refine al_intro fun b5 w6 hb5 B5 e6 s6 => al_intro fun b7 w8 hb7 B7 e8 s8 => ?_
  have e08 := ext_trans e6 e8
  have h := h w8 e08
  unfold aboveF at h
  have B5 := B5.ext e8
  refine ⟨_, bat B5 rfl, _, bat B7 rfl, br_split (fun g => ?_) (fun g => ?_)⟩
  · rw [if_pos g] at h
    exact ⟨_, bat B5 rfl, _, bat B7 rfl, h⟩
  · rw [if_neg g] at h
    refine ⟨_, bat B5 rfl, _, bat B5 rfl, _, bat B7 rfl, _, bat B7 rfl, br_cases (fun g2 => ?_) (fun g2 => ?_)⟩
    · rw [if_pos g2] at h
      exact ⟨_, bat B5 rfl, _, bat B7 rfl, h⟩
    · rw [if_neg (by rw [g2]; simp)] at h; exact h
set_option maxRecDepth 20000 in
theorem Badness_spec (c t : Int) (h : ∀ w', Ext w w' → R (.returned (.int .i64 (badF c t))) w') : Calls Tryz.prog F_fixedpoint_Badness ⟨[.int .i64 c, .int .i64 t]⟩ w R := by
  apply c_fixedpoint_Badness
  intro K3 hK3
  have k3 : ∀ c4 : Int, min c4 1073741824 = absU c → K3 c4 w := by
    intro c4 hc4
    refine hK3 _ _ fun _ => ?_
    rw [hc4]
    unfold badF at h
    refine br_split (fun g => ?_) (fun g => ?_)
    · have := h w (Below.refl _ _); rw [if_pos g] at this; exact this
    rw [if_neg g] at h
    refine br_split (fun g2 => ?_) (fun g2 => ?_)
    · have := h w (Below.refl _ _); rw [if_pos g2] at this; exact this
    rw [if_neg g2] at h
    generalize ht : IntKind.u64.wrap (min t 1073741824) = t' at *
    generalize absU c = c' at *
    refine times_spec (0, t') t' fun w7 e7 => ⟨_, _, rfl, times_spec _ t' fun w11 e11 => ⟨_, _, rfl, ?_⟩⟩
    generalize timesF (timesF (0, t') t') t' = cu at *
    refine al_stL (by simp) (by intro v hv; simp only [List.mem_cons, List.not_mem_nil, or_false] at hv; rcases hv with rfl | rfl <;> rfl) fun b14 w16 hb14 B14 e16 s16 => ?_
    refine times_spec (0, c') c' fun w18 e18 => ⟨_, _, rfl, times_spec _ c' fun w22 e22 => ⟨_, _, rfl, times_spec _ 100 fun w26 e26 => ⟨_, _, rfl, ?_⟩⟩⟩
    generalize timesF (timesF (timesF (0, c') c') c') 100 = li at *
    refine al_stL (by simp) (by intro v hv; simp only [List.mem_cons, List.not_mem_nil, or_false] at hv; rcases hv with rfl | rfl <;> rfl) fun b29 w31 hb29 B29 e31 s31 => ?_
    have e1631 := ext_trans e18 (ext_trans e22 (ext_trans e26 e31))
    have e031 := ext_trans e7 (ext_trans e11 (ext_trans e16 e1631))
    have B14 := B14.ext e1631
    refine ⟨fun low high W m => ∃ lo hi : Nat, low = lo ∧ high = hi ∧ lo < hi ∧ hi ≤ 10001 ∧ m = hi - lo ∧ searchF cu li 10001 0 10001 = searchF cu li 10001 lo hi ∧ Ext w31 W, ⟨_, 0, 10001, rfl, rfl, by decide, by decide, rfl, rfl, Below.refl _ _⟩, ?_⟩
    rintro _ _ W m ⟨lo, hi, rfl, rfl, hlt, hle, rfl, hs, eW⟩ _
    have B14 := B14.ext eW
    have B29 := B29.ext eW
    rw [wrap_id (by omega)]
    refine br_split (fun g3 => ⟨by decide, ?_⟩) (fun g3 => ?_)
    · have hm : IntKind.i64.wrap (Int.tdiv (IntKind.i64.wrap ((lo : Int) + (hi : Int))) 2) = (((lo + hi) / 2 : Nat) : Int) := by
        have e1 : IntKind.i64.wrap ((lo : Int) + (hi : Int)) = ((lo + hi : Nat) : Int) := by rw [wrap_id (by omega)]; omega
        rw [e1]
        show IntKind.i64.wrap (Int.tdiv ((lo + hi : Nat) : Int) ((2 : Nat) : Int)) = _
        rw [tdivN, wrap_id (by omega)]
      rw [hm, u64_id (by omega)]
      have hstep : searchF cu li 10001 lo hi = if aboveF (timesF cu (((lo + hi) / 2 : Nat) : Int)) li then searchF cu li 10001 lo ((lo + hi) / 2) else searchF cu li 10001 ((lo + hi) / 2) hi := by
        rw [search_fuel (f := 10001) (g := 10001 + 1) (by omega) (by omega), searchF, if_pos (by omega)]
      intro K38 hK38
      have k38 : ∀ V, Ext W V → K38 (aboveF (timesF cu (((lo + hi) / 2 : Nat) : Int)) li) V := by
        intro V eV
        refine hK38 _ _ fun _ => br_cases (fun gb => ?_) (fun gb => ?_)
        · refine ⟨(lo + hi) / 2 - lo, by omega, lo, (lo + hi) / 2, rfl, rfl, by omega, by omega, rfl, ?_, ext_trans eW eV⟩
          rw [hs, hstep, if_pos gb]
        · refine ⟨hi - (lo + hi) / 2, by omega, (lo + hi) / 2, hi, rfl, rfl, by omega, by omega, rfl, ?_, ext_trans eW eV⟩
          rw [hs, hstep, if_neg (by rw [gb]; simp)]
      unfold drw
      have ed := ext_drew W
      have B14 := B14.ext ed
      have B29 := B29.ext ed
      generalize W.drew = V at *
      repeat' first
        | exact True.intro
        | with_reducible refine And.intro ?_ ?_
        | refine ⟨_, bat B14 rfl, ?_⟩
        | refine ⟨_, bat B29 rfl, ?_⟩
        | (refine times_spec _ _ fun V' e' => ⟨_, _, rfl, ?_⟩
           have ed := ext_trans ed e'
           have B14 := B14.ext e'
           have B29 := B29.ext e')
        | (refine above_spec _ _ fun V' e' => ⟨_, rfl, ?_⟩
           exact k38 V' (ext_trans ed e'))
    · have := h W (ext_trans e031 eW)
      rw [hs, search_fuel (f := 10001) (g := 10001 + 1) (by omega) (by omega), searchF, if_neg (by omega)] at this
      exact this
  refine br_split (fun g => k3 _ ?_) (fun g => k3 _ ?_)
  · unfold absU; rw [if_pos g]
  · unfold absU; rw [if_neg g]
end
end Go.Proofs
namespace Go.Proofs
/- pairs of numbers of lines; pages from a pair on, with their costs -/
abbrev Spot := Nat × Nat
/- the least of n + p over those with p not negative; -1 if there is none -/
def leastP : List (Int × Int) → Int → Int
  | [], m => m
  | x :: r, m => leastP r (if 0 ≤ x.2 ∧ (m < 0 ∨ x.1 + x.2 < m) then x.1 + x.2 else m)
theorem leastP_ge : ∀ {l : List (Int × Int)} {m : Int}, (∀ x ∈ l, 0 ≤ x.1) → -1 ≤ m → -1 ≤ leastP l m
  | [], _, _, h => h
  | x :: l, m, hl, h => by
    rw [leastP]
    have h1 := hl x (List.mem_cons_self ..)
    refine leastP_ge (fun y hy => hl y (List.mem_cons_of_mem _ hy)) ?_
    split <;> omega
theorem leastP_le : ∀ {l : List (Int × Int)} {m : Int}, (∀ x ∈ l, 0 ≤ x.1) → (0 ≤ m → 0 ≤ leastP l m ∧ leastP l m ≤ m) ∧ ∀ x ∈ l, 0 ≤ x.2 → 0 ≤ leastP l m ∧ leastP l m ≤ x.1 + x.2
  | [], m, _ => ⟨fun h => ⟨h, Int.le_refl _⟩, fun x hx => by cases hx⟩
  | x :: l, m, hl => by
    rw [leastP]
    have h1 := hl x (List.mem_cons_self ..)
    obtain ⟨h2, h3⟩ := leastP_le (l := l) (m := if 0 ≤ x.2 ∧ (m < 0 ∨ x.1 + x.2 < m) then x.1 + x.2 else m) fun y hy => hl y (List.mem_cons_of_mem _ hy)
    refine ⟨fun hm => ?_, fun y hy h0 => ?_⟩
    · have := h2 (by split <;> omega)
      refine ⟨this.1, Int.le_trans this.2 ?_⟩
      split <;> omega
    · rcases List.mem_cons.1 hy with rfl | hy
      · have := h2 (by split <;> omega)
        refine ⟨this.1, Int.le_trans this.2 ?_⟩
        split <;> omega
      · exact h3 y hy h0
theorem leastP_at : ∀ {l : List (Int × Int)} {m : Int}, 0 ≤ leastP l m → leastP l m = m ∨ ∃ x ∈ l, 0 ≤ x.2 ∧ leastP l m = x.1 + x.2
  | [], m, _ => .inl rfl
  | x :: l, m, h => by
    rw [leastP] at h ⊢
    rcases leastP_at h with h1 | ⟨y, hy, h2⟩
    · by_cases hc : 0 ≤ x.2 ∧ (m < 0 ∨ x.1 + x.2 < m)
      · rw [if_pos hc] at h1 ⊢
        exact .inr ⟨x, List.mem_cons_self .., hc.1, h1⟩
      · rw [if_neg hc] at h1 ⊢
        exact .inl h1
    · exact .inr ⟨y, List.mem_cons_of_mem _ hy, h2⟩
/- potentials: by the distance to the last spot -/
section
variable (last : Spot) (pages : Spot → List (Spot × Int)) (ok : Spot → Spot → Bool)
/- pages lead forward, cost nothing negative, and stay within -/
structure Fwd : Prop where
  cost : ∀ s x, x ∈ pages s → 0 ≤ x.2
  less : ∀ s x, x ∈ pages s → x.1 ≠ s ∧ s.1 ≤ x.1.1 ∧ s.2 ≤ x.1.2 ∧ x.1.1 ≤ last.1 ∧ x.1.2 ≤ last.2
/- a way from a spot to the last one -/
def way : Spot → List (Spot × Int) → Prop
  | s, [] => s = last
  | s, x :: l => s ≠ last ∧ x ∈ pages s ∧ way x.1 l
end
variable {last : Spot} {pages : Spot → List (Spot × Int)} {ok ok' : Spot → Spot → Bool}
theorem Fwd.pairs (h : Fwd last pages) (f : Spot → Int) (s : Spot) : ∀ y ∈ ((pages s).filter fun x => ok s x.1).map fun x => (x.2, f x.1), 0 ≤ y.1 := by
  intro y hy
  obtain ⟨x, hx, rfl⟩ := List.mem_map.1 hy
  exact h.cost s x (List.mem_filter.1 hx).1
/- no way costs less than the potential -/
/- the fuel does not matter -/
end Go.Proofs
namespace Go.Proofs
/- anchors -/
variable {last : Spot} {pages : Spot → List (Spot × Int)}
/- what is found by following the potentials: the first page that fits, over and over -/
end Go.Proofs
namespace Go.Proofs
/- paragraphs: items, lines, breaks, with no program in sight -/
structure It where
  k : Int
  w : Int
  st : Int
  sh : Int
  pen : Int
  tx : List UInt8
def iD : It := ⟨0, 0, 0, 0, 0, []⟩
def gIt (l : List It) (i : Nat) : It := l.getD i iD
def forcedF (l : List It) (i : Nat) : Bool := decide (i < l.length) && (decide ((gIt l i).k = 3) && decide ((gIt l i).pen = -10000))
def endsF (l : List It) (i : Nat) : Bool := if i = l.length then true else if (gIt l i).k = 2 then decide (0 < i) && decide ((gIt l (i - 1)).k = 1) else if (gIt l i).k = 3 then decide ((gIt l i).pen ≠ 10000) else false
structure Ms where
  n : Int
  st : Int
  sh : Int
def Ms.add (m : Ms) (x : It) : Ms := if x.k = 3 then m else ⟨m.n + x.w, m.st + x.st, m.sh + x.sh⟩
def ms0 : Ms := ⟨0, 0, 0⟩
def sumI (l : List It) : Ms := l.foldl Ms.add ms0
def natF (l : List It) (m : Ms) (to_ : Nat) : Int := if to_ < l.length ∧ (gIt l to_).k = 3 then m.n + (gIt l to_).w else m.n
def fitF (l : List It) (width : Int) (m : Ms) (to_ : Nat) : Int × Int × Bool :=
  if 0 ≤ width - natF l m to_ then (if to_ = l.length ∨ forcedF l to_ = true then (0, 0, true) else (badF (width - natF l m to_) m.st, width - natF l m to_, true))
  else if -(width - natF l m to_) ≤ m.sh then (badF (-(width - natF l m to_)) m.sh, width - natF l m to_, true) else (0, 0, false)
theorem fitF_nn (l : List It) (width : Int) (m : Ms) (to_ : Nat) : 0 ≤ (fitF l width m to_).1 ∧ (fitF l width m to_).1 ≤ 10000 := by
  unfold fitF
  have h1 := badF_range (width - natF l m to_) m.st
  have h2 := badF_range (-(width - natF l m to_)) m.sh
  split
  · split
    · exact ⟨by decide, by decide⟩
    · exact h1
  · split
    · exact h2
    · exact ⟨by decide, by decide⟩
def penF (l : List It) (to_ : Nat) : Int := if to_ < l.length ∧ (gIt l to_).k = 3 ∧ forcedF l to_ = false then (gIt l to_).pen else 0
/- the first item of a line, looked for from an index on, at most n items -/
def begF (l : List It) : Nat → Nat → Nat
  | 0, from_ => from_
  | n + 1, from_ => if (gIt l from_).k = 2 then begF l n (from_ + 1) else from_
def beginF (l : List It) (from_ to_ : Nat) : Nat := begF l (to_ - from_) from_
theorem begF_ge (l : List It) : ∀ (n f : Nat), f ≤ begF l n f ∧ begF l n f ≤ f + n
  | 0, f => ⟨Nat.le_refl _, Nat.le_refl _⟩
  | n + 1, f => by
    rw [begF]
    split
    · have := begF_ge l n (f + 1); omega
    · omega
/- a glimpse of fewer items finds the same, or its end -/
theorem begF_min (l : List It) : ∀ (n m f : Nat), m ≤ n → begF l m f = min (begF l n f) (f + m)
  | n, 0, f, _ => by have := begF_ge l n f; rw [begF]; omega
  | 0, m + 1, f, h => by omega
  | n + 1, m + 1, f, h => by
    rw [begF, begF]
    split
    · rw [begF_min l n m (f + 1) (by omega)]; omega
    · omega
theorem begF_glue (l : List It) : ∀ (n f i : Nat), f ≤ i → i < begF l n f → (gIt l i).k = 2
  | 0, f, i, h1, h2 => by rw [begF] at h2; omega
  | n + 1, f, i, h1, h2 => by
    rw [begF] at h2
    split at h2
    · rename_i hk
      by_cases e : i = f
      · subst e; exact hk
      · exact begF_glue l n (f + 1) i (by omega) h2
    · omega
def cutI (l : List It) (from_ to_ : Nat) : List It := (l.drop (beginF l from_ to_)).take (to_ - beginF l from_ to_)
def msF (l : List It) (from_ to_ : Nat) : Ms := sumI (cutI l from_ to_)
/- the lines from an index on: where they end, what they cost -/
def linesG (l : List It) (width : Int) (first : Nat) : Nat → Nat → Ms → List (Nat × Int)
  | 0, _, _ => []
  | n + 1, to_, m => (if endsF l to_ = true ∧ (fitF l width m to_).2.2 = true then [(to_, (fitF l width m to_).1 + penF l to_)] else []) ++
      (if forcedF l to_ = true then [] else linesG l width first n (to_ + 1) (if to_ < l.length ∧ first ≤ to_ then m.add (gIt l to_) else m))
def linesF (l : List It) (width : Int) (from_ : Nat) : List (Nat × Int) := linesG l width (beginF l from_ l.length) (l.length + 1 - from_) from_ ms0
theorem gIt_at {l : List It} {i : Nat} (h : i < l.length) : gIt l i = l[i] := by
  unfold gIt
  rw [List.getD_eq_getElem?_getD, List.getElem?_eq_getElem h]; rfl
theorem beginF_min (l : List It) {from_ to_ : Nat} (h1 : from_ ≤ to_) (h2 : to_ ≤ l.length) : beginF l from_ to_ = min (beginF l from_ l.length) to_ := by
  unfold beginF
  rw [begF_min l (l.length - from_) (to_ - from_) from_ (by omega)]
  omega
theorem msF_step (l : List It) {from_ to_ : Nat} (h1 : from_ ≤ to_) (h2 : to_ < l.length) : msF l from_ (to_ + 1) = if beginF l from_ l.length ≤ to_ then (msF l from_ to_).add (gIt l to_) else msF l from_ to_ := by
  unfold msF cutI
  rw [beginF_min l (to_ := to_ + 1) (by omega) (by omega), beginF_min l h1 (by omega)]
  split
  · rename_i hb
    rw [Nat.min_eq_left (by omega), Nat.min_eq_left hb]
    rw [show to_ + 1 - beginF l from_ l.length = to_ - beginF l from_ l.length + 1 by omega]
    have hlt : to_ - beginF l from_ l.length < (l.drop (beginF l from_ l.length)).length := by rw [List.length_drop]; omega
    rw [List.take_succ_eq_append_getElem hlt]
    unfold sumI
    rw [List.foldl_append]
    show Ms.add _ _ = _
    rw [List.getElem_drop, gIt_at h2]
    congr 2; omega
  · rename_i hb
    rw [Nat.min_eq_right (by omega), Nat.min_eq_right (by omega), Nat.sub_self, Nat.sub_self, List.take_zero, List.take_zero]
theorem msF_self (l : List It) {from_ : Nat} (h : from_ ≤ l.length) : msF l from_ from_ = ms0 := by
  unfold msF cutI beginF
  rw [Nat.sub_self, begF, Nat.sub_self]; rfl
/- what a line is -/
structure Lin (l : List It) (width : Int) (from_ to_ : Nat) (c : Int) : Prop where
  lo : from_ ≤ to_
  hi : to_ ≤ l.length
  ends : endsF l to_ = true
  free : ∀ i, from_ ≤ i → i < to_ → forcedF l i = false
  fit : (fitF l width (msF l from_ to_) to_).2.2 = true
  cost : c = (fitF l width (msF l from_ to_) to_).1 + penF l to_
theorem linesG_iff (l : List It) (width : Int) {from_ : Nat} (hf : from_ ≤ l.length) : ∀ (n to_ : Nat), from_ ≤ to_ → to_ + n = l.length + 1 → (∀ i, from_ ≤ i → i < to_ → forcedF l i = false) →
    ∀ x, x ∈ linesG l width (beginF l from_ l.length) n to_ (msF l from_ to_) ↔ to_ ≤ x.1 ∧ Lin l width from_ x.1 x.2
  | 0, to_, h1, h2, _, x => by
    rw [linesG]
    refine ⟨fun h => (by cases h), fun h => ?_⟩
    have := h.1; have := h.2.hi
    omega
  | n + 1, to_, h1, h2, h3, x => by
    rw [linesG, List.mem_append]
    have rest : ∀ (hnf : forcedF l to_ = false), x ∈ linesG l width (beginF l from_ l.length) n (to_ + 1) (if to_ < l.length ∧ beginF l from_ l.length ≤ to_ then (msF l from_ to_).add (gIt l to_) else msF l from_ to_) ↔ to_ + 1 ≤ x.1 ∧ Lin l width from_ x.1 x.2 := by
      intro hnf
      by_cases hlt : to_ < l.length
      · have : (if to_ < l.length ∧ beginF l from_ l.length ≤ to_ then (msF l from_ to_).add (gIt l to_) else msF l from_ to_) = msF l from_ (to_ + 1) := by
          rw [msF_step l h1 hlt]
          by_cases hb : beginF l from_ l.length ≤ to_
          · rw [if_pos ⟨hlt, hb⟩, if_pos hb]
          · rw [if_neg (fun q => hb q.2), if_neg hb]
        rw [this]
        exact linesG_iff l width hf n (to_ + 1) (by omega) (by omega) (fun i hi1 hi2 => by
          by_cases e : i = to_
          · subst e; exact hnf
          · exact h3 i hi1 (by omega)) x
      · have hn : n = 0 := by omega
        subst hn
        rw [linesG]
        refine ⟨fun h => (by cases h), fun h => ?_⟩
        have := h.1; have := h.2.hi
        omega
    constructor
    · rintro (h | h)
      · split at h
        · rename_i hc
          rw [List.mem_singleton] at h
          subst h
          exact ⟨Nat.le_refl _, h1, by omega, hc.1, h3, hc.2, rfl⟩
        · cases h
      · split at h
        · cases h
        · rename_i hc
          have hc := Bool.eq_false_iff.2 hc
          have := (rest hc).1 h
          exact ⟨by omega, this.2⟩
    · rintro ⟨h4, h5⟩
      by_cases e : x.1 = to_
      · left
        rw [if_pos ⟨by rw [← e]; exact h5.ends, by rw [← e]; exact h5.fit⟩, List.mem_singleton]
        refine Prod.ext e ?_
        show x.2 = _
        rw [h5.cost, e]
      · right
        have hnf := h5.free to_ h1 (by omega)
        rw [if_neg (by rw [hnf]; decide)]
        exact (rest hnf).2 ⟨by omega, h5⟩
theorem linesF_iff (l : List It) (width : Int) {from_ : Nat} (hf : from_ ≤ l.length) (x : Nat × Int) : x ∈ linesF l width from_ ↔ Lin l width from_ x.1 x.2 := by
  unfold linesF
  rw [← msF_self l hf]
  rw [linesG_iff l width hf _ _ (Nat.le_refl _) (by omega) (fun i h1 h2 => by omega)]
  exact ⟨fun h => h.2, fun h => ⟨h.lo, h⟩⟩
end Go.Proofs
namespace Go.Proofs
/- potentials, the best breaks -/
def behF (len : Nat) (p : Nat → Int) (to_ : Nat) : Int := if to_ = len then 0 else p (to_ + 1)
def potG (l : List It) (width : Int) : Nat → Nat → Int
  | 0, _ => 0
  | n + 1, from_ => leastP ((linesF l width from_).map fun x => (x.2, behF l.length (potG l width n) x.1)) (-1)
def potL (l : List It) (width : Int) (from_ : Nat) : Int := potG l width (l.length + 1 - from_) from_
def itsOk (l : List It) : Prop := ∀ x ∈ l, (0 ≤ x.pen ∨ x.pen = -10000) ∧ x.pen ≤ 10000
theorem penF_nn {l : List It} (h : itsOk l) (to_ : Nat) : 0 ≤ penF l to_ ∧ penF l to_ ≤ 10000 := by
  unfold penF
  split
  · rename_i hc
    obtain ⟨h1, h2, h3⟩ := hc
    have := h _ (List.getElem_mem h1)
    rw [← gIt_at h1] at this
    obtain ⟨h4, h5⟩ := this
    refine ⟨?_, h5⟩
    rcases h4 with h4 | h4
    · exact h4
    · exfalso
      unfold forcedF at h3
      rw [decide_eq_true h1, decide_eq_true h2, decide_eq_true h4] at h3
      cases h3
  · omega
theorem Lin.nn {l : List It} (h : itsOk l) {width : Int} {f to_ : Nat} {c : Int} (hL : Lin l width f to_ c) : 0 ≤ c ∧ c ≤ 20000 := by
  rw [hL.cost]
  have := fitF_nn l width (msF l f to_) to_
  have := penF_nn h to_
  omega
theorem potG_fuel (l : List It) (width : Int) : ∀ (n m f : Nat), f ≤ l.length → l.length + 1 - f ≤ n → l.length + 1 - f ≤ m → potG l width n f = potG l width m f
  | 0, _, f, h1, h2, _ => by omega
  | _ + 1, 0, f, h1, _, h2 => by omega
  | n + 1, m + 1, f, h1, h2, h3 => by
    rw [potG, potG]
    congr 1
    refine List.map_congr_left fun x hx => ?_
    have hL := (linesF_iff l width h1 x).1 hx
    have := hL.lo; have := hL.hi
    unfold behF
    split
    · rfl
    · rw [potG_fuel l width n m (x.1 + 1) (by omega) (by omega) (by omega)]
theorem potL_eq (l : List It) (width : Int) {f : Nat} (hf : f ≤ l.length) : potL l width f = leastP ((linesF l width f).map fun x => (x.2, behF l.length (potL l width) x.1)) (-1) := by
  unfold potL
  rw [show l.length + 1 - f = (l.length - f) + 1 by omega, potG]
  congr 1
  refine List.map_congr_left fun x hx => ?_
  have hL := (linesF_iff l width hf x).1 hx
  have := hL.lo; have := hL.hi
  unfold behF
  split
  · rfl
  · rw [potG_fuel l width _ (l.length + 1 - (x.1 + 1)) (x.1 + 1) (by omega) (by omega) (by omega)]
theorem pairs_nn {l : List It} (h : itsOk l) (width : Int) {f : Nat} (hf : f ≤ l.length) (p : Nat → Int) : ∀ y ∈ (linesF l width f).map fun x => (x.2, p x.1), 0 ≤ y.1 := by
  intro y hy
  obtain ⟨x, hx, rfl⟩ := List.mem_map.1 hy
  exact (((linesF_iff l width hf x).1 hx).nn h).1
theorem potL_le {l : List It} (h : itsOk l) {width : Int} {f to_ : Nat} {c : Int} (hL : Lin l width f to_ c) (hp : 0 ≤ behF l.length (potL l width) to_) : 0 ≤ potL l width f ∧ potL l width f ≤ c + behF l.length (potL l width) to_ := by
  have hf : f ≤ l.length := Nat.le_trans hL.lo hL.hi
  rw [potL_eq l width hf]
  exact (leastP_le (m := -1) (pairs_nn h width hf _)).2 (c, behF l.length (potL l width) to_) (List.mem_map.2 ⟨(to_, c), (linesF_iff l width hf _).2 hL, rfl⟩) hp
/- breaks from an index on, with what they cost -/
def brk (l : List It) (width : Int) : Nat → List Nat → Int → Prop
  | f, [], c => f = l.length + 1 ∧ c = 0
  | f, k :: r, c => ∃ d, Lin l width f k d ∧ brk l width (k + 1) r (c - d)
theorem brk_least {l : List It} (h : itsOk l) {width : Int} : ∀ {r : List Nat} {f k : Nat} {c d : Int}, Lin l width f k d → brk l width (k + 1) r (c - d) → 0 ≤ potL l width f ∧ potL l width f ≤ c
  | [], f, k, c, d, hL, ⟨h1, h2⟩ => by
    have e : behF l.length (potL l width) k = 0 := if_pos (by omega)
    have := potL_le h hL (by omega)
    omega
  | k' :: r, f, k, c, d, hL, ⟨d', hL', hr⟩ => by
    have ih := brk_least h hL' hr
    have := hL'.lo; have := hL'.hi
    have e : behF l.length (potL l width) k = potL l width (k + 1) := if_neg (by omega)
    have := potL_le h hL (by omega)
    omega
def bestG (l : List It) (width : Int) (p : Nat → Int) : Nat → Nat → List Nat
  | 0, _ => []
  | n + 1, f => match (linesF l width f).find? fun x => decide (0 ≤ behF l.length p x.1 ∧ x.2 + behF l.length p x.1 = p f) with
    | none => []
    | some x => x.1 :: (if x.1 = l.length then [] else bestG l width p n (x.1 + 1))
theorem best_some {l : List It} {width : Int} {f : Nat} (hf : f ≤ l.length) (hp : 0 ≤ potL l width f) :
    ∃ x, (linesF l width f).find? (fun x => decide (0 ≤ behF l.length (potL l width) x.1 ∧ x.2 + behF l.length (potL l width) x.1 = potL l width f)) = some x ∧ Lin l width f x.1 x.2 ∧ 0 ≤ behF l.length (potL l width) x.1 ∧ x.2 + behF l.length (potL l width) x.1 = potL l width f := by
  have h1 := hp
  rw [potL_eq l width hf] at h1
  have hex : ∃ y ∈ linesF l width f, 0 ≤ behF l.length (potL l width) y.1 ∧ y.2 + behF l.length (potL l width) y.1 = potL l width f := by
    rcases leastP_at h1 with h2 | ⟨y, hy, h2, h3⟩
    · omega
    · obtain ⟨x, hx, rfl⟩ := List.mem_map.1 hy
      exact ⟨x, hx, h2, by rw [potL_eq l width hf, h3]⟩
  obtain ⟨y, hy, h2⟩ := hex
  cases hz : (linesF l width f).find? (fun x => decide (0 ≤ behF l.length (potL l width) x.1 ∧ x.2 + behF l.length (potL l width) x.1 = potL l width f)) with
  | none =>
    have := List.find?_eq_none.1 hz y hy
    exact absurd (decide_eq_true h2) this
  | some z =>
    have hm := List.mem_of_find?_eq_some hz
    have hd := List.find?_some hz
    have hd := of_decide_eq_true hd
    exact ⟨z, rfl, (linesF_iff l width hf z).1 hm, hd.1, hd.2⟩
theorem best_brk {l : List It} {width : Int} : ∀ (n f : Nat), f ≤ l.length → l.length + 1 - f ≤ n → 0 ≤ potL l width f → brk l width f (bestG l width (potL l width) n f) (potL l width f)
  | 0, f, h1, h2, _ => by omega
  | n + 1, f, h1, h2, hp => by
    obtain ⟨x, hx, hL, h3, h4⟩ := best_some h1 hp
    rw [bestG, hx]
    have := hL.lo; have := hL.hi
    refine ⟨x.2, hL, ?_⟩
    by_cases e : x.1 = l.length
    · show brk l width (x.1 + 1) (if x.1 = l.length then [] else bestG l width (potL l width) n (x.1 + 1)) _
      rw [if_pos e]
      have e2 : behF l.length (potL l width) x.1 = 0 := if_pos e
      exact ⟨by omega, by omega⟩
    · show brk l width (x.1 + 1) (if x.1 = l.length then [] else bestG l width (potL l width) n (x.1 + 1)) _
      rw [if_neg e]
      have e2 : behF l.length (potL l width) x.1 = potL l width (x.1 + 1) := if_neg e
      have := best_brk (l := l) (width := width) n (x.1 + 1) (by omega) (by omega) (by omega)
      rw [show potL l width f - x.2 = potL l width (x.1 + 1) by omega]
      exact this
/- breaks that the program takes for breaks, with lines that fit -/
def upB (l : List It) : Nat → List Nat → Prop
  | _, [] => True
  | f, k :: r => f ≤ k ∧ k ≤ l.length ∧ endsF l k = true ∧ upB l (k + 1) r
structure Brok (l : List It) (b : List Nat) : Prop where
  ne : b ≠ []
  last : b.getLast? = some l.length
  up : upB l 0 b
  forced : ∀ i, forcedF l i = true → i ∈ b
def fitL (l : List It) (width : Int) (f to_ : Nat) : Bool := (fitF l width (msF l f to_) to_).2.2
def fitsB (l : List It) (width : Int) : Nat → List Nat → Bool
  | _, [] => true
  | f, k :: r => fitL l width f k && fitsB l width (k + 1) r
def costB (l : List It) (width : Int) : Nat → List Nat → Int
  | _, [] => 0
  | f, k :: r => ((fitF l width (msF l f k) k).1 + penF l k) + costB l width (k + 1) r
theorem brk_of {l : List It} {width : Int} : ∀ {b : List Nat} {f : Nat}, upB l f b → fitsB l width f b = true → (∀ i, f ≤ i → forcedF l i = true → i ∈ b) → (b = [] → f = l.length + 1) → (b ≠ [] → b.getLast? = some l.length) → brk l width f b (costB l width f b)
  | [], f, _, _, _, h, _ => ⟨h rfl, rfl⟩
  | k :: r, f, ⟨h1, h2, h3, h4⟩, hf, hfo, _, hla => by
    unfold fitsB at hf
    rw [Bool.and_eq_true] at hf
    have hup : ∀ {r : List Nat} {g i : Nat}, upB l g r → i ∈ r → g ≤ i := by
      intro r
      induction r with
      | nil => intro g i _ h; cases h
      | cons a r ih =>
        intro g i h hi
        rcases List.mem_cons.1 hi with rfl | hi
        · exact h.1
        · have := ih h.2.2.2 hi
          have := h.1; omega
    refine ⟨_, ⟨h1, h2, h3, fun i hi1 hi2 => ?_, hf.1, rfl⟩, ?_⟩
    · cases hb : forcedF l i with
      | false => rfl
      | true =>
        rcases List.mem_cons.1 (hfo i hi1 hb) with rfl | hm
        · omega
        · have := hup h4 hm; omega
    · show brk l width (k + 1) r (((fitF l width (msF l f k) k).1 + penF l k) + costB l width (k + 1) r - _)
      rw [show ((fitF l width (msF l f k) k).1 + penF l k) + costB l width (k + 1) r - ((fitF l width (msF l f k) k).1 + penF l k) = costB l width (k + 1) r by omega]
      refine brk_of h4 hf.2 (fun i hi hb => ?_) (fun hr => ?_) (fun hr => ?_)
      · rcases List.mem_cons.1 (hfo i (by omega) hb) with rfl | hm
        · omega
        · exact hm
      · subst hr
        have := hla (by simp)
        simp at this
        omega
      · have := hla (by simp)
        cases r with
        | nil => exact absurd rfl hr
        | cons a r => simpa [List.getLast?_cons] using this
theorem of_brk {l : List It} {width : Int} : ∀ {b : List Nat} {f : Nat} {c : Int}, brk l width f b c → upB l f b ∧ fitsB l width f b = true ∧ (∀ i, f ≤ i → forcedF l i = true → i ∈ b) ∧ c = costB l width f b ∧ (b ≠ [] → b.getLast? = some l.length)
  | [], f, c, ⟨h1, h2⟩ => ⟨trivial, rfl, fun i hi hb => by
      unfold forcedF at hb
      simp only [Bool.and_eq_true, decide_eq_true_eq] at hb
      omega, h2, fun h => absurd rfl h⟩
  | k :: r, f, c, ⟨d, hL, hr⟩ => by
    obtain ⟨h1, h2, h3, h4, h5⟩ := of_brk hr
    refine ⟨⟨hL.lo, hL.hi, hL.ends, h1⟩, ?_, fun i hi hb => ?_, ?_, fun _ => ?_⟩
    · unfold fitsB
      rw [Bool.and_eq_true]
      exact ⟨hL.fit, h2⟩
    · by_cases e : i < k
      · have := hL.free i hi e
        rw [hb] at this; cases this
      · by_cases e2 : i = k
        · subst e2; exact List.mem_cons_self
        · exact List.mem_cons_of_mem _ (h3 i (by omega) hb)
    · show c = ((fitF l width (msF l f k) k).1 + penF l k) + costB l width (k + 1) r
      rw [← h4, ← hL.cost]; omega
    · cases r with
      | nil =>
        obtain ⟨h6, _⟩ := hr
        show some k = _
        congr 1; omega
      | cons a r =>
        rw [List.getLast?_cons_cons]
        exact h5 (by simp)
theorem brok_of {l : List It} {width : Int} {b : List Nat} {c : Int} (h : brk l width 0 b c) : Brok l b ∧ fitsB l width 0 b = true ∧ c = costB l width 0 b := by
  obtain ⟨h1, h2, h3, h4, h5⟩ := of_brk h
  have hne : b ≠ [] := fun hb => by
    subst hb
    have := h.1; omega
  exact ⟨⟨hne, h5 hne, h1, fun i hi => h3 i (Nat.zero_le _) hi⟩, h2, h4⟩
theorem least_of {l : List It} (h : itsOk l) {width : Int} {b : List Nat} (hb : Brok l b) (hf : fitsB l width 0 b = true) : 0 ≤ potL l width 0 ∧ potL l width 0 ≤ costB l width 0 b := by
  have := brk_of hb.up hf (fun i _ hi => hb.forced i hi) (fun he => absurd he hb.ne) (fun _ => hb.last)
  match b, hb.ne, this with
  | k :: r, _, ⟨d, hL, hr⟩ => exact brk_least h hL hr
end Go.Proofs
namespace Go.Proofs
/- the texts of lines -/
def itT (x : It) : List UInt8 := if x.k = 1 then x.tx else if x.k = 2 then [32] else []
def boxT (x : It) : List UInt8 := if x.k = 1 then x.tx else []
def lineT (l : List It) (f to_ : Nat) : List UInt8 := (cutI l f to_).flatMap itT ++ (if to_ < l.length ∧ (gIt l to_).k = 3 then (gIt l to_).tx else [])
def noSp (s : List UInt8) : List UInt8 := s.filter fun c => c != 32
/- items as they are made -/
structure MadeI (cl : List UInt8 → Nat) (le sp sh : Int) (x : It) : Prop where
  ok : (x.k = 1 ∧ x.w = le * (cl x.tx : Int) ∧ x.sh = 0 ∧ x.st = 0 ∧ x.pen = 0 ∧ (∀ c ∈ x.tx, c ≠ 32 ∧ c ≠ 61)) ∨ (x.k = 2 ∧ x.w = sp ∧ x.sh = sh ∧ x.pen = 0 ∧ x.tx = []) ∨ (x.k = 3 ∧ x.sh = 0 ∧ x.st = 0 ∧ ((x.w = le ∧ x.tx = [61]) ∨ (x.w = 0 ∧ x.tx = [])))
section
variable {cl : List UInt8 → Nat} {le sp sh : Int}
theorem noSp_app (a b : List UInt8) : noSp (a ++ b) = noSp a ++ noSp b := List.filter_append ..
theorem noSp_box {x : It} (h : MadeI cl le sp sh x) : noSp (itT x) = boxT x := by
  unfold itT boxT
  rcases h.ok with ⟨h1, _, _, _, _, h2⟩ | ⟨h1, _⟩ | ⟨h1, _⟩
  · rw [if_pos h1, if_pos h1]
    exact List.filter_eq_self.2 fun c hc => by simpa using (h2 c hc).1
  · rw [if_neg (by omega), if_pos h1, if_neg (by omega)]; rfl
  · rw [if_neg (by omega), if_neg (by omega), if_neg (by omega)]; rfl
theorem noSp_body : ∀ {l : List It}, (∀ x ∈ l, MadeI cl le sp sh x) → noSp (l.flatMap itT) = l.flatMap boxT
  | [], _ => rfl
  | x :: l, h => by
    rw [List.flatMap_cons, List.flatMap_cons, noSp_app, noSp_box (h x List.mem_cons_self), noSp_body fun y hy => h y (List.mem_cons_of_mem _ hy)]
/- no = in the body -/
theorem body_no61 : ∀ {l : List It}, (∀ x ∈ l, MadeI cl le sp sh x) → ∀ c ∈ l.flatMap itT, c ≠ 61
  | [], _, c, hc => by cases hc
  | x :: l, h, c, hc => by
    rw [List.flatMap_cons, List.mem_append] at hc
    rcases hc with hc | hc
    · unfold itT at hc
      rcases (h x List.mem_cons_self).ok with ⟨h1, _, _, _, _, h2⟩ | ⟨h1, _⟩ | ⟨h1, _⟩
      · rw [if_pos h1] at hc; exact (h2 c hc).2
      · rw [if_neg (by omega), if_pos h1, List.mem_singleton] at hc
        subst hc; decide
      · rw [if_neg (by omega), if_neg (by omega)] at hc; cases hc
    · exact body_no61 (fun y hy => h y (List.mem_cons_of_mem _ hy)) c hc
def trimE (s : List UInt8) : List UInt8 := if s.getLast? = some 61 then s.dropLast else s
theorem cut_mem {l : List It} {f to_ : Nat} : ∀ x ∈ cutI l f to_, x ∈ l := fun _ hx => List.mem_of_mem_drop (List.mem_of_mem_take hx)
theorem trim_line {l : List It} (h : ∀ x ∈ l, MadeI cl le sp sh x) (f to_ : Nat) : noSp (trimE (lineT l f to_)) = (cutI l f to_).flatMap boxT := by
  have hb := body_no61 (fun x hx => h x (cut_mem (l := l) (f := f) (to_ := to_) x hx))
  have hn := noSp_body (fun x hx => h x (cut_mem (l := l) (f := f) (to_ := to_) x hx))
  have hno : noSp (trimE ((cutI l f to_).flatMap itT)) = (cutI l f to_).flatMap boxT := by
    unfold trimE
    rw [if_neg (fun hl => hb 61 (List.mem_of_getLast? hl) rfl)]
    exact hn
  unfold lineT
  split
  · rename_i hc
    rcases (h (gIt l to_) (by rw [gIt_at hc.1]; exact List.getElem_mem hc.1)).ok with ⟨h1, _⟩ | ⟨h1, _⟩ | ⟨_, _, _, ⟨_, h2⟩ | ⟨_, h2⟩⟩
    · omega
    · omega
    · rw [h2]
      unfold trimE
      rw [if_pos (by simp), List.dropLast_concat]
      exact hn
    · rw [h2, List.append_nil]; exact hno
  · rw [List.append_nil]; exact hno
theorem last_line {l : List It} (h : ∀ x ∈ l, MadeI cl le sp sh x) (f : Nat) : noSp (lineT l f l.length) = (cutI l f l.length).flatMap boxT := by
  unfold lineT
  rw [if_neg (fun q => Nat.lt_irrefl _ q.1), List.append_nil]
  exact noSp_body fun x hx => h x (cut_mem x hx)
def textB (l : List It) : Nat → List Nat → List UInt8
  | _, [] => []
  | f, [k] => noSp (lineT l f k)
  | f, k :: r => noSp (trimE (lineT l f k)) ++ textB l (k + 1) r
/- glue before a line has no text -/
theorem cut_box {l : List It} {f to_ : Nat} (h1 : f ≤ to_) (h2 : to_ ≤ l.length) : (cutI l f to_).flatMap boxT = ((l.drop f).take (to_ - f)).flatMap boxT := by
  have hg := begF_ge l (to_ - f) f
  have hb : ∀ i, f ≤ i → i < beginF l f to_ → (gIt l i).k = 2 := fun i => begF_glue l (to_ - f) f i
  have hb1 : f ≤ beginF l f to_ ∧ beginF l f to_ ≤ to_ := by unfold beginF; omega
  have e : (l.drop f).take (to_ - f) = ((l.drop f).take (beginF l f to_ - f)) ++ cutI l f to_ := by
    unfold cutI
    rw [show to_ - f = (beginF l f to_ - f) + (to_ - beginF l f to_) by omega, List.take_add, List.drop_drop]
    rw [show f + (beginF l f to_ - f) = beginF l f to_ by omega]
  rw [e, List.flatMap_append]
  have : ((l.drop f).take (beginF l f to_ - f)).flatMap boxT = [] := by
    rw [List.flatMap_eq_nil_iff]
    intro x hx
    obtain ⟨i, hi, rfl⟩ := List.mem_iff_getElem.1 hx
    rw [List.length_take, List.length_drop] at hi
    rw [List.getElem_take, List.getElem_drop]
    have := hb (f + i) (by omega) (by omega)
    rw [gIt_at (by omega)] at this
    unfold boxT
    rw [if_neg (by omega)]
  rw [this, List.nil_append]
theorem text_all {l : List It} (h : ∀ x ∈ l, MadeI cl le sp sh x) {width : Int} : ∀ {b : List Nat} {f : Nat} {c : Int}, b ≠ [] → brk l width f b c → textB l f b = (l.drop f).flatMap boxT
  | [], _, _, hne, _ => absurd rfl hne
  | [k], f, c, _, ⟨d, hL, hr⟩ => by
    have hk : k = l.length := by have := hr.1; omega
    have := hL.lo
    subst hk
    rw [textB, last_line h, cut_box this (Nat.le_refl _), List.take_of_length_le (by rw [List.length_drop]; omega)]
  | k :: a :: r, f, c, _, ⟨d, hL, hr⟩ => by
    rw [textB, text_all h (by simp) hr, trim_line h, cut_box hL.lo hL.hi, ← List.flatMap_append]
    · have hk : k < l.length := by
        obtain ⟨d2, hL2, _⟩ := hr
        have := hL2.lo; have := hL2.hi; omega
      have := hL.lo
      have e : l.drop f = (l.drop f).take (k - f) ++ (l[k] :: l.drop (k + 1)) := by
        conv => lhs; rw [← List.take_append_drop (k - f) (l.drop f)]
        rw [List.drop_drop, show f + (k - f) = k by omega, List.drop_eq_getElem_cons hk]
      have hbx : boxT l[k] = [] := by
        have he := hL.ends
        unfold endsF at he
        rw [if_neg (by omega), gIt_at hk] at he
        unfold boxT
        rw [if_neg]
        intro h1
        rw [if_neg (by omega), if_neg (by omega)] at he
        cases he
      rw [e, List.flatMap_append, List.flatMap_append, List.flatMap_cons, hbx, List.nil_append]
      congr 2
      rw [List.take_left' (by rw [List.length_take, List.length_drop]; omega)]
    · simp
/- the width with all the glue shrunk -/
def cnt32 (s : List UInt8) : Nat := (s.filter fun c => c == 32).length
theorem cnt_app (a b : List UInt8) : cnt32 (a ++ b) = cnt32 a + cnt32 b := by unfold cnt32; rw [List.filter_append, List.length_append]
theorem cnt_it {x : It} (h : MadeI cl le sp sh x) : cnt32 (itT x) = if x.k = 2 then 1 else 0 := by
  unfold itT
  rcases h.ok with ⟨h1, _, _, _, _, h2⟩ | ⟨h1, _⟩ | ⟨h1, _⟩
  · rw [if_pos h1, if_neg (by omega)]
    unfold cnt32
    rw [List.filter_eq_nil_iff.2 fun c hc => by simpa using (h2 c hc).1]; rfl
  · rw [if_neg (by omega), if_pos h1, if_pos h1]; rfl
  · rw [if_neg (by omega), if_neg (by omega), if_neg (by omega)]; rfl
theorem sum_acc : ∀ (l : List It) (m : Ms), l.foldl Ms.add m = ⟨m.n + (sumI l).n, m.st + (sumI l).st, m.sh + (sumI l).sh⟩
  | [], m => by
    show m = ⟨m.n + 0, m.st + 0, m.sh + 0⟩
    cases m; simp
  | x :: l, m => by
    unfold sumI
    rw [List.foldl_cons, List.foldl_cons, sum_acc l (m.add x), sum_acc l (ms0.add x)]
    unfold Ms.add ms0
    split
    · simp
    · simp only [Ms.mk.injEq]; omega
theorem body_least (hcl : ∀ a b, cl (a ++ b) ≤ cl a + cl b) (hc0 : cl [] = 0) (hle : 0 ≤ le) : ∀ {l : List It}, (∀ x ∈ l, MadeI cl le sp sh x) →
    le * (cl (l.flatMap boxT) : Int) + (cnt32 (l.flatMap itT) : Int) * (sp - sh) ≤ (sumI l).n - (sumI l).sh ∧ (0 ≤ sh → 0 ≤ (sumI l).sh)
  | [], _ => by
    show le * (cl [] : Int) + (0 : Int) * (sp - sh) ≤ 0 - 0 ∧ (0 ≤ sh → 0 ≤ (0 : Int))
    rw [hc0]
    refine ⟨?_, fun _ => Int.le_refl _⟩
    simp
  | x :: l, h => by
    obtain ⟨ih1, ih2⟩ := body_least hcl hc0 hle (l := l) fun y hy => h y (List.mem_cons_of_mem _ hy)
    have hx := h x List.mem_cons_self
    have e : sumI (x :: l) = ⟨(ms0.add x).n + (sumI l).n, (ms0.add x).st + (sumI l).st, (ms0.add x).sh + (sumI l).sh⟩ := by
      show l.foldl Ms.add (ms0.add x) = _
      rw [sum_acc]
    rw [e, List.flatMap_cons, List.flatMap_cons, cnt_app, cnt_it hx]
    show le * (cl (boxT x ++ l.flatMap boxT) : Int) + (((if x.k = 2 then 1 else 0) + cnt32 (l.flatMap itT) : Nat) : Int) * (sp - sh) ≤ ((ms0.add x).n + (sumI l).n) - ((ms0.add x).sh + (sumI l).sh) ∧ (0 ≤ sh → 0 ≤ (ms0.add x).sh + (sumI l).sh)
    have hm : le * (cl (boxT x ++ l.flatMap boxT) : Int) ≤ le * (cl (boxT x) : Int) + le * (cl (l.flatMap boxT) : Int) := by
      rw [← Int.mul_add]
      refine Int.mul_le_mul_of_nonneg_left ?_ hle
      have := hcl (boxT x) (l.flatMap boxT)
      omega
    rcases hx.ok with ⟨h1, h2, h3, _⟩ | ⟨h1, h2, h3, _⟩ | ⟨h1, _⟩
    · have e1 : ms0.add x = ⟨x.w, x.st, x.sh⟩ := by unfold Ms.add ms0; rw [if_neg (by omega)]; simp
      have e2 : boxT x = x.tx := if_pos h1
      rw [if_neg (by omega), Nat.zero_add, e1]
      rw [e2] at hm ⊢
      dsimp only
      omega
    · have e1 : ms0.add x = ⟨x.w, x.st, x.sh⟩ := by unfold Ms.add ms0; rw [if_neg (by omega)]; simp
      have e2 : boxT x = [] := if_neg (by omega)
      rw [if_pos h1, e1]
      rw [e2, List.nil_append] at hm ⊢
      dsimp only
      rw [show ((1 + cnt32 (l.flatMap itT) : Nat) : Int) = 1 + (cnt32 (l.flatMap itT) : Int) by omega, Int.add_mul, Int.one_mul]
      omega
    · have e1 : ms0.add x = ms0 := if_pos h1
      have e2 : boxT x = [] := if_neg (by omega)
      rw [if_neg (by omega), Nat.zero_add, e1]
      rw [e2, List.nil_append] at hm ⊢
      show _ ≤ (0 + (sumI l).n) - (0 + (sumI l).sh) ∧ (0 ≤ sh → 0 ≤ 0 + (sumI l).sh)
      rw [Int.zero_add, Int.zero_add]
      exact ⟨ih1, ih2⟩
theorem line_least (hcl : ∀ a b, cl (a ++ b) ≤ cl a + cl b) (hc0 : cl [] = 0) (hc1 : cl [61] = 1) (hle : 0 ≤ le) (hsh : 0 ≤ sh) {l : List It} (h : ∀ x ∈ l, MadeI cl le sp sh x) {width : Int} {f to_ : Nat} (hf : fitL l width f to_ = true) :
    le * (cl (noSp (lineT l f to_)) : Int) + (cnt32 (lineT l f to_) : Int) * (sp - sh) ≤ width := by
  have hcut := fun x hx => h x (cut_mem (l := l) (f := f) (to_ := to_) x hx)
  obtain ⟨b1, b2⟩ := body_least hcl hc0 hle hcut
  have b2 := b2 hsh
  have hms : sumI (cutI l f to_) = msF l f to_ := rfl
  rw [hms] at b1 b2
  have hfit : natF l (msF l f to_) to_ - (msF l f to_).sh ≤ width := by
    unfold fitL fitF at hf
    split at hf
    · omega
    · split at hf
      · omega
      · cases hf
  have hn := noSp_body hcut
  unfold lineT
  unfold natF at hfit
  split
  · rename_i hc
    rw [if_pos hc] at hfit
    rw [noSp_app, cnt_app, hn]
    rcases (h (gIt l to_) (by rw [gIt_at hc.1]; exact List.getElem_mem hc.1)).ok with ⟨h1, _⟩ | ⟨h1, _⟩ | ⟨_, _, _, ⟨hw, h2⟩ | ⟨hw, h2⟩⟩
    · omega
    · omega
    · rw [h2]
      have e1 : noSp [61] = [61] := rfl
      have e2 : cnt32 [61] = 0 := rfl
      rw [e1, e2, Nat.add_zero]
      have : le * (cl ((cutI l f to_).flatMap boxT ++ [61]) : Int) ≤ le * (cl ((cutI l f to_).flatMap boxT) : Int) + le := by
        have h3 := hcl ((cutI l f to_).flatMap boxT) [61]
        rw [hc1] at h3
        have h4 : le * (cl ((cutI l f to_).flatMap boxT ++ [61]) : Int) ≤ le * ((cl ((cutI l f to_).flatMap boxT) : Int) + 1) := Int.mul_le_mul_of_nonneg_left (by omega) hle
        rw [Int.mul_add, Int.mul_one] at h4
        exact h4
      omega
    · rw [h2]
      have e1 : noSp [] = [] := rfl
      have e2 : cnt32 [] = 0 := rfl
      rw [e1, e2, Nat.add_zero, List.append_nil]
      omega
  · rename_i hc
    rw [if_neg hc] at hfit
    rw [List.append_nil, hn]
    omega
end
end Go.Proofs
namespace Go.Proofs
/- clusters, as a plain recursion -/
def clA : Bool → List UInt8 → List UInt8 → List (List UInt8)
  | _, cur, [] => [cur]
  | b, cur, c :: r => if kd c = 2 ∧ b = true then clA b (cur ++ [c]) r else cur :: clA (decide (kd c = 1)) [c] r
def clS : List UInt8 → List (List UInt8)
  | [] => []
  | c :: r => clA (decide (kd c = 1)) [c] r
theorem clGo_clA (s : List UInt8) : ∀ (m f i : Nat) (hf : f < s.length), f < i → i ≤ s.length → m = s.length + 1 - i → (clGo s m f i).map (·.2) = clA (decide (kd s[f] = 1)) ((s.take i).drop f) (s.drop i)
  | 0, f, i, _, _, h2, h3 => by omega
  | m + 1, f, i, hf, h1, h2, h3 => by
    have hff : s[f]? = some s[f] := List.getElem?_eq_getElem hf
    rw [clGo]
    by_cases hi : i < s.length
    · have hii : s[i]? = some s[i] := List.getElem?_eq_getElem hi
      rw [List.drop_eq_getElem_cons hi, clA]
      by_cases hc : kd s[i] = 2 ∧ kd s[f] = 1
      · rw [if_pos ⟨hi, by rw [hii]; simp [hc.1], by rw [hff]; simp [hc.2]⟩, if_pos ⟨hc.1, by simp [hc.2]⟩, clGo_clA s m f (i + 1) hf (by omega) (by omega) (by omega)]
        congr 1
        rw [List.take_succ_eq_append_getElem hi, List.drop_append_of_le_length (by rw [List.length_take]; omega)]
      · rw [if_neg (fun q => hc ⟨by have := q.2.1; rw [hii] at this; simpa using this, by have := q.2.2; rw [hff] at this; simpa using this⟩), if_neg (fun q => hc ⟨q.1, by simpa using q.2⟩), List.map_cons,
          clGo_clA s m i (i + 1) hi (by omega) (by omega) (by omega)]
        congr 2
        rw [List.take_succ_eq_append_getElem hi, List.drop_append_of_le_length (by rw [List.length_take]; omega), List.drop_of_length_le (by rw [List.length_take]; omega), List.nil_append]
    · have hm : m = 0 := by omega
      subst hm
      have e : s.drop i = [] := List.drop_of_length_le (by omega)
      rw [if_neg (fun q => hi q.1), clGo, e, clA]; rfl
theorem clusters_clS (s : List UInt8) : (clustersF s).map (·.2) = clS s := by
  unfold clustersF
  cases s with
  | nil => rfl
  | cons c r =>
    rw [clGo_clA (c :: r) (c :: r).length 0 1 (by simp) (by omega) (by simp) (by simp)]
    rfl
def cntB : Bool → List UInt8 → Nat
  | _, [] => 0
  | b, c :: r => if kd c = 2 ∧ b = true then cntB b r else 1 + cntB (decide (kd c = 1)) r
def clN (s : List UInt8) : Nat := (clS s).length
theorem clA_len : ∀ (b : Bool) (cur r : List UInt8), (clA b cur r).length = 1 + cntB b r
  | _, _, [] => rfl
  | b, cur, c :: r => by
    rw [clA, cntB]
    split
    · exact clA_len b _ r
    · rw [List.length_cons, clA_len _ _ r]; omega
theorem clN_cnt (s : List UInt8) : clN s = cntB false s := by
  unfold clN
  cases s with
  | nil => rfl
  | cons c r => rw [clS, clA_len, cntB, if_neg (fun q => by cases q.2)]
theorem cntB_mono : ∀ (s : List UInt8) (b : Bool), cntB b s ≤ cntB false s
  | [], _ => Nat.le_refl _
  | c :: r, b => by
    rw [cntB, cntB, if_neg (c := kd c = 2 ∧ false = true) (fun q => by cases q.2)]
    split
    · have := cntB_mono r b
      rename_i h
      rw [decide_eq_false (p := kd c = 1) (by omega)]; omega
    · exact Nat.le_refl _
theorem cntB_app : ∀ (a s : List UInt8) (b : Bool), cntB b (a ++ s) ≤ cntB b a + cntB false s
  | [], s, b => by
    show cntB b s ≤ 0 + _
    have := cntB_mono s b; omega
  | c :: r, s, b => by
    rw [List.cons_append, cntB, cntB]
    split
    · exact cntB_app r s b
    · have := cntB_app r s (decide (kd c = 1)); omega
theorem clN_app (a s : List UInt8) : clN (a ++ s) ≤ clN a + clN s := by
  rw [clN_cnt, clN_cnt, clN_cnt]; exact cntB_app a s false
theorem clA_flat : ∀ (b : Bool) (cur r : List UInt8), (clA b cur r).flatten = cur ++ r
  | _, cur, [] => by simp [clA]
  | b, cur, c :: r => by
    rw [clA]
    split
    · rw [clA_flat b _ r, List.append_assoc]; rfl
    · rw [List.flatten_cons, clA_flat _ _ r]; rfl
theorem clS_flat (s : List UInt8) : (clS s).flatten = s := by
  cases s with
  | nil => rfl
  | cons c r => rw [clS, clA_flat]; rfl
/- a change of bytes that keeps letters and marks keeps the clusters -/
theorem clA_map {g : UInt8 → UInt8} (h1 : ∀ c, kd (g c) = 1 ↔ kd c = 1) (h2 : ∀ c, kd (g c) = 2 ↔ kd c = 2) : ∀ (b : Bool) (cur r : List UInt8), (clA b (cur.map g) (r.map g)) = (clA b cur r).map (·.map g)
  | _, _, [] => rfl
  | b, cur, c :: r => by
    rw [List.map_cons, clA, clA]
    by_cases hc : kd c = 2 ∧ b = true
    · rw [if_pos ⟨(h2 c).2 hc.1, hc.2⟩, if_pos hc, ← clA_map h1 h2 b _ r, List.map_append]; rfl
    · rw [if_neg (fun q => hc ⟨(h2 c).1 q.1, q.2⟩), if_neg hc, List.map_cons, ← clA_map h1 h2 _ _ r, decide_eq_decide.2 (h1 c)]; rfl
theorem clS_map {g : UInt8 → UInt8} (h1 : ∀ c, kd (g c) = 1 ↔ kd c = 1) (h2 : ∀ c, kd (g c) = 2 ↔ kd c = 2) (s : List UInt8) : clS (s.map g) = (clS s).map (·.map g) := by
  cases s with
  | nil => rfl
  | cons c r => rw [List.map_cons, clS, clS, ← clA_map h1 h2, decide_eq_decide.2 (h1 c)]; rfl
theorem clN_map {g : UInt8 → UInt8} (h1 : ∀ c, kd (g c) = 1 ↔ kd c = 1) (h2 : ∀ c, kd (g c) = 2 ↔ kd c = 2) (s : List UInt8) : clN (s.map g) = clN s := by
  unfold clN
  rw [clS_map h1 h2, List.length_map]
theorem clN_nil : clN [] = 0 := rfl
theorem clN_eq61 : clN [61] = 1 := rfl
end Go.Proofs
namespace Go.Proofs
open Go Go.Sh Go.RowKit
/- paragraph: items as they lie, what is asked of one, Check -/
def encIt : Enc It := ⟨fun x => [.int .i64 x.k, .int .i64 x.w, .int .i64 x.st, .int .i64 x.sh, .int .i64 x.pen, .string ⟨⟨x.tx⟩⟩], 6, fun _ => rfl, by decide, by intro x v hv; simp only [List.mem_cons, List.not_mem_nil, or_false] at hv; rcases hv with rfl | rfl | rfl | rfl | rfl | rfl <;> rfl⟩
abbrev vIt : View It := View.enc encIt
abbrev It.cs (x : It) : List Value := [.int .i64 x.k, .int .i64 x.w, .int .i64 x.st, .int .i64 x.sh, .int .i64 x.pen, .string ⟨⟨x.tx⟩⟩]
structure ItAt (W : World) (p : Addr) (x : It) : Prop where
  k : W.cell? (p.add 0) = some (.int .i64 x.k)
  wd : W.cell? (p.add 1) = some (.int .i64 x.w)
  st : W.cell? (p.add 2) = some (.int .i64 x.st)
  sh : W.cell? (p.add 3) = some (.int .i64 x.sh)
  pen : W.cell? (p.add 4) = some (.int .i64 x.pen)
  tx : W.cell? (p.add 5) = some (.string ⟨⟨x.tx⟩⟩)
section
variable {R : Ending → World → Prop} {S : Nat → Prop} {w : World} {a : Option Addr} {n c : Nat} {l : List It}
theorem rowV_itm (h : RowV vIt S w a n l) {i : Nat} (hi : i < l.length) : ∃ p : Addr, (∀ K : Addr → Prop, K p → idx a n (i : Int) 6 K) ∧ ItAt w p (gIt l i) := by
  obtain ⟨b, o, us, h1, _, _, h2, h3⟩ := h.get (i := i) (x := gIt l i) (by rw [gIt_at hi]; exact List.getElem?_eq_getElem hi)
  have h2 : us = (gIt l i).cs := h2
  subst h2
  refine ⟨⟨b, o, none⟩, h1, ?_, ?_, ?_, ?_, ?_, ?_⟩
  · rw [add_none]; exact h3 0 _ rfl
  · rw [add_none]; exact h3 1 _ rfl
  · rw [add_none]; exact h3 2 _ rfl
  · rw [add_none]; exact h3 3 _ rfl
  · rw [add_none]; exact h3 4 _ rfl
  · rw [add_none]; exact h3 5 _ rfl
theorem forced_spec {i : Nat} (h1 : RowV vIt S w a n l) (h : R (.returned (.bool (forcedF l i))) w) : Calls Tryz.prog F_paragraph_forced ⟨[.slice a n c, .int .i64 (i : Int)]⟩ w R := by
  apply c_paragraph_forced
  have hn := h1.1
  unfold forcedF at h
  refine br_split (fun g => ?_) (fun g => ?_)
  · obtain ⟨p, hp, hI⟩ := rowV_itm h1 (i := i) (by omega)
    refine hp _ ⟨_, hI.k, br_split (fun g2 => ?_) (fun g2 => ?_)⟩
    · refine hp _ ⟨_, hI.pen, ?_⟩
      rw [decide_eq_true (by omega : i < l.length), decide_eq_true g2] at h
      exact h
    · rw [decide_eq_false g2, Bool.false_and, Bool.and_false] at h
      exact h
  · rw [decide_eq_false (by omega : ¬ i < l.length), Bool.false_and] at h
    exact h
theorem ends_spec {i : Nat} (h1 : RowV vIt S w a n l) (hi : i ≤ l.length) (hs : l.length ≤ 1000000000) (h : R (.returned (.bool (endsF l i))) w) : Calls Tryz.prog F_paragraph_ends ⟨[.slice a n c, .int .i64 (i : Int)]⟩ w R := by
  apply c_paragraph_ends
  have hn := h1.1
  unfold endsF at h
  refine br_split (fun g => ?_) (fun g => ?_)
  · rw [if_pos (by omega)] at h; exact h
  · rw [if_neg (by omega)] at h
    obtain ⟨p, hp, hI⟩ := rowV_itm h1 (i := i) (by omega)
    refine hp _ ⟨_, hI.k, br_split (fun g2 => ?_) (fun g2 => ?_)⟩
    · rw [if_pos g2] at h
      refine br_split (fun g3 => ?_) (fun g3 => ?_)
      · obtain ⟨p2, hp2, hI2⟩ := rowV_itm h1 (i := i - 1) (by omega)
        rw [wrap_id (by omega), show (i : Int) - 1 = ((i - 1 : Nat) : Int) by omega]
        rw [decide_eq_true (by omega : 0 < i), Bool.true_and] at h
        exact hp2 _ ⟨_, hI2.k, h⟩
      · rw [decide_eq_false (by omega : ¬ 0 < i), Bool.false_and] at h
        exact h
    · rw [if_neg g2] at h
      refine br_split (fun g3 => ?_) (fun g3 => ?_)
      · rw [if_pos g3] at h
        exact hp _ ⟨_, hI.pen, h⟩
      · rw [if_neg g3] at h; exact h
theorem penalty_spec {i : Nat} (h1 : RowV vIt S w a n l) (h : R (.returned (.int .i64 (penF l i))) w) : Calls Tryz.prog F_paragraph_penalty ⟨[.slice a n c, .int .i64 (i : Int)]⟩ w R := by
  apply c_paragraph_penalty
  have hn := h1.1
  intro K3 hK3
  have k3 : ∀ b : Bool, (b = true ↔ (i < l.length ∧ (gIt l i).k = 3 ∧ forcedF l i = false)) → K3 b w := by
    intro b hb
    refine hK3 _ _ fun _ => ?_
    unfold penF at h
    refine br_cases (fun g => ?_) (fun g => ?_)
    · have hc := hb.1 g
      rw [if_pos hc] at h
      obtain ⟨p, hp, hI⟩ := rowV_itm h1 (i := i) hc.1
      exact hp _ ⟨_, hI.pen, h⟩
    · rw [if_neg fun q => by rw [hb.2 q] at g; cases g] at h
      exact h
  refine br_split (fun g => ?_) (fun g => ?_)
  · obtain ⟨p, hp, hI⟩ := rowV_itm h1 (i := i) (by omega)
    refine hp _ ⟨_, hI.k, br_split (fun g2 => ?_) (fun g2 => ?_)⟩
    · refine forced_spec h1 ⟨_, rfl, k3 _ ?_⟩
      rw [Bool.not_eq_true']
      exact ⟨fun q => ⟨by omega, g2, q⟩, fun q => q.2.2⟩
    · exact k3 _ ⟨fun q => absurd q (by decide), fun q => absurd q.2.1 g2⟩
  · exact k3 _ ⟨fun q => absurd q (by decide), fun q => by omega⟩
theorem begin_spec {f t : Nat} (h1 : RowV vIt S w a n l) (ht : t ≤ l.length) (hs : l.length ≤ 1000000000) (hft : f ≤ t) (h : R (.returned (.int .i64 (beginF l f t))) w) : Calls Tryz.prog F_paragraph_begin ⟨[.slice a n c, .int .i64 (f : Int), .int .i64 (t : Int)]⟩ w R := by
  apply c_paragraph_begin
  have hn := h1.1
  refine ⟨fun i W m => ∃ k : Nat, i = k ∧ f ≤ k ∧ k ≤ t ∧ m = t - k ∧ W = w ∧ begF l (t - k) k = beginF l f t, ⟨_, f, rfl, Nat.le_refl _, hft, rfl, rfl, rfl⟩, ?_⟩
  rintro _ W m ⟨k, rfl, hk1, hk2, rfl, rfl, hb⟩ _
  refine br_split (fun g => ?_) (fun g => ?_)
  · obtain ⟨p, hp, hI⟩ := rowV_itm h1 (i := k) (by omega)
    rw [show t - k = (t - (k + 1)) + 1 by omega, begF] at hb
    refine hp _ ⟨_, hI.k, br_split (fun g2 => ?_) (fun g2 => ?_)⟩
    · rw [if_pos g2] at hb
      exact ⟨t - (k + 1), by omega, k + 1, by rw [wrap_nat (by omega)], by omega, by omega, rfl, rfl, hb⟩
    · rw [if_neg g2] at hb
      rw [hb]; exact h
  · rw [show t - k = 0 by omega, begF] at hb
    rw [hb]; exact h
abbrev okN (n : Int) : Prop := 0 ≤ n ∧ n ≤ 1073741824
theorem plength_spec (n : Int) (h : R (.returned (.bool (decide (okN n)))) w) : Calls Tryz.prog F_paragraph_length ⟨[.int .i64 n]⟩ w R := by
  apply c_paragraph_length
  refine br_split (fun g => ?_) (fun g => ?_)
  · rw [decide_eq_decide.2 (show okN n ↔ n ≤ 1073741824 from ⟨fun q => q.2, fun q => ⟨g, q⟩⟩)] at h; exact h
  · rw [decide_eq_false (fun q : okN n => g q.1)] at h; exact h
structure okP (x : It) : Prop where
  k : 1 ≤ x.k ∧ x.k ≤ 3
  w : okN x.w
  st : okN x.st
  sh : okN x.sh
  pen : x.pen = -10000 ∨ (0 ≤ x.pen ∧ x.pen ≤ 10000)
  glue : x.k = 2 ∨ (x.st = 0 ∧ x.sh = 0)
  pn : x.k = 3 ∨ x.pen = 0
  tx : x.k ≠ 2 ∨ x.tx.length = 0
theorem okP_iff (x : It) : okP x ↔ ((1 ≤ x.k ∧ x.k ≤ 3) ∧ okN x.w ∧ okN x.st ∧ okN x.sh ∧ (x.pen = -10000 ∨ (0 ≤ x.pen ∧ x.pen ≤ 10000)) ∧ (x.k = 2 ∨ (x.st = 0 ∧ x.sh = 0)) ∧ (x.k = 3 ∨ x.pen = 0) ∧ (x.k ≠ 2 ∨ x.tx.length = 0)) :=
  ⟨fun ⟨h1, h2, h3, h4, h5, h6, h7, h8⟩ => ⟨h1, h2, h3, h4, h5, h6, h7, h8⟩, fun ⟨h1, h2, h3, h4, h5, h6, h7, h8⟩ => ⟨h1, h2, h3, h4, h5, h6, h7, h8⟩⟩
instance (x : It) : Decidable (okP x) := decidable_of_iff _ (okP_iff x).symm
theorem br_str {s : List UInt8} {A B : Prop} (h1 : s.length ≠ 0 → A) (h2 : s.length = 0 → B) : br (decide (s ≠ [])) A B :=
  br_split (fun g => h1 fun q => g (List.eq_nil_of_length_eq_zero q)) (fun g => h2 (by rw [Decidable.not_not.1 g]; rfl))
theorem checkItem_spec (x : It) (h : ∀ (e : Int) w', Ext w w' → (e = 0 ↔ okP x) → R (.returned (.int .i64 e)) w') : Calls Tryz.prog F_paragraph_checkItem ⟨[.agg ⟨x.cs⟩]⟩ w R := by
  apply c_paragraph_checkItem
  refine al_intro fun b7 w8 hb7 B7 e7 s7 => ?_
  have ret := fun (e : Int) (he : e = 0 ↔ okP x) => h e w8 e7 he
  rw [okP_iff] at ret
  clear h
  intro K9 hK9
  have k9 : (1 ≤ x.k ∧ x.k ≤ 3) → okN x.w → okN x.st → okN x.sh → (x.pen = -10000 ∨ (0 ≤ x.pen ∧ x.pen ≤ 10000)) → K9 w8 := by
    intro g1 g2 g3 g4 g5
    refine hK9 _ fun _ => ?_
    repeat' first
      | exact ret _ (by omega)
      | refine ⟨_, bat B7 rfl, ?_⟩
      | refine br_str (fun _ => ?_) (fun _ => ?_)
      | refine br_split (fun _ => ?_) (fun _ => ?_)
  intro K26 hK26
  have k26 : ∀ b : Bool, (b = true ↔ ¬ (1 ≤ x.k ∧ x.k ≤ 3)) → K26 b w8 := by
    intro b hb
    refine hK26 _ _ fun _ => br_cases (fun g => ret _ ?_) (fun g => ?_)
    · have := hb.1 g; omega
    · have g1 : 1 ≤ x.k ∧ x.k ≤ 3 := Decidable.not_not.1 fun q => by rw [hb.2 q] at g; cases g
      intro K29 hK29
      have k29 : ∀ b : Bool, (b = true ↔ ¬ (okN x.w ∧ okN x.st ∧ okN x.sh)) → K29 b w8 := by
        intro b hb
        refine hK29 _ _ fun _ => br_cases (fun g => ret _ ?_) (fun g => ?_)
        · have := hb.1 g; omega
        · have g2 : okN x.w ∧ okN x.st ∧ okN x.sh := Decidable.not_not.1 fun q => by rw [hb.2 q] at g; cases g
          refine ⟨_, bat B7 rfl, br_split (fun g3 => ?_) (fun g3 => k9 g1 g2.1 g2.2.1 g2.2.2 (by omega))⟩
          refine ⟨_, bat B7 rfl, br_split (fun g4 => ret _ (by omega)) (fun g4 => ?_)⟩
          exact ⟨_, bat B7 rfl, br_split (fun g5 => ret _ (by omega)) (fun g5 => k9 g1 g2.1 g2.2.1 g2.2.2 (by omega))⟩
      refine ⟨_, bat B7 rfl, plength_spec _ ⟨_, rfl, br_cases (fun g => k29 _ ⟨fun _ q => ?_, fun _ => rfl⟩) (fun g => ?_)⟩⟩
      · rw [decide_eq_true q.1] at g; cases g
      have g2 : okN x.w := Decidable.byContradiction fun q => by rw [decide_eq_false q] at g; cases g
      refine ⟨_, bat B7 rfl, plength_spec _ ⟨_, rfl, br_cases (fun g => k29 _ ⟨fun _ q => ?_, fun _ => rfl⟩) (fun g => ?_)⟩⟩
      · rw [decide_eq_true q.2.1] at g; cases g
      have g3 : okN x.st := Decidable.byContradiction fun q => by rw [decide_eq_false q] at g; cases g
      refine ⟨_, bat B7 rfl, plength_spec _ ⟨_, rfl, k29 _ ?_⟩⟩
      rw [Bool.not_eq_true', decide_eq_false_iff_not]
      exact ⟨fun q r => q r.2.2, fun q r => q ⟨g2, g3, r⟩⟩
  refine ⟨_, bat B7 rfl, br_split (fun g => k26 _ ⟨fun _ => by omega, fun _ => rfl⟩) (fun g => ⟨_, bat B7 rfl, k26 _ ?_⟩)⟩
  rw [decide_eq_true_iff]; omega
/- Check -/
def sumN : List It → Int
  | [] => 0
  | x :: l => (x.w + x.st + x.sh) + sumN l
theorem sumN_app : ∀ (l m : List It), sumN (l ++ m) = sumN l + sumN m
  | [], m => by show sumN m = 0 + sumN m; omega
  | x :: l, m => by
    show (x.w + x.st + x.sh) + sumN (l ++ m) = (x.w + x.st + x.sh) + sumN l + sumN m
    rw [sumN_app l m]; omega
structure Its (l : List It) : Prop where
  len : l.length ≤ 4096
  ok : ∀ x ∈ l, okP x
  sum : sumN l ≤ 1073741824
theorem sumN_bd : ∀ {l : List It}, (∀ x ∈ l, okP x) → 0 ≤ sumN l ∧ sumN l ≤ 3221225472 * l.length
  | [], _ => ⟨Int.le_refl _, Int.le_refl _⟩
  | x :: l, h => by
    have := sumN_bd (l := l) fun y hy => h y (List.mem_cons_of_mem _ hy)
    obtain ⟨_, h1, h2, h3, _⟩ := h x List.mem_cons_self
    show 0 ≤ (x.w + x.st + x.sh) + sumN l ∧ (x.w + x.st + x.sh) + sumN l ≤ 3221225472 * ((l.length + 1 : Nat) : Int)
    omega
theorem rdIt {p : Addr} {x : It} (hI : ItAt w p x) {K : Int → Int → Int → Int → Int → List UInt8 → Prop} (h : K x.k x.w x.st x.sh x.pen x.tx) :
    ∃ (x9 : Int), World.cell? w (p.add 0) = some (.int .i64 x9) ∧ (∃ (x10 : Int), World.cell? w (p.add 1) = some (.int .i64 x10) ∧ (∃ (x11 : Int), World.cell? w (p.add 2) = some (.int .i64 x11) ∧ (∃ (x12 : Int), World.cell? w (p.add 3) = some (.int .i64 x12) ∧ (∃ (x13 : Int), World.cell? w (p.add 4) = some (.int .i64 x13) ∧ (∃ (x14 : List UInt8), World.cell? w (p.add 5) = some (.string ⟨⟨x14⟩⟩) ∧ K x9 x10 x11 x12 x13 x14))))) :=
  ⟨_, hI.k, _, hI.wd, _, hI.st, _, hI.sh, _, hI.pen, _, hI.tx, h⟩
theorem itAt_b {b : Nat} {x : It} {T : TypeId} (B : Blk w b x.cs T) : ItAt w ⟨b, 0, none⟩ x := ⟨bat B rfl, bat B rfl, bat B rfl, bat B rfl, bat B rfl, bat B rfl⟩
theorem one_it (x : It) : ∀ v ∈ x.cs, v.oneCell' = true := by
  intro v hv
  simp only [List.mem_cons, List.not_mem_nil, or_false] at hv
  rcases hv with rfl | rfl | rfl | rfl | rfl | rfl <;> rfl
theorem pCheck_spec (h1 : RowV vIt S w a n l) (h : ∀ (e : Int) w', Ext w w' → (e = 0 ↔ Its l) → R (.returned (.int .i64 e)) w') : Calls Tryz.prog F_paragraph_Check ⟨[.slice a n c]⟩ w R := by
  apply c_paragraph_Check
  have hn := h1.1
  refine br_split (fun g => h _ _ (Below.refl _ _) ⟨fun q => absurd q (by decide), fun q => by have := q.len; omega⟩) (fun g => ?_)
  refine ⟨fun s i W m => ∃ k : Nat, i = k ∧ k ≤ l.length ∧ m = l.length - k ∧ s = sumN (l.take k) ∧ (∀ x ∈ l.take k, okP x) ∧ Ext w W, ⟨_, 0, rfl, by omega, rfl, rfl, by simp, Below.refl _ _⟩, ?_⟩
  rintro _ _ W m ⟨k, rfl, hk, rfl, rfl, hok, eW⟩ _
  refine br_split (fun hlt => ?_) (fun hge => ?_)
  · have hkl : k < l.length := by omega
    obtain ⟨p, hp, hI⟩ := rowV_itm (h1.ext eW) hkl
    refine hp _ (rdIt hI ?_)
    refine al_stL rfl (one_it _) fun b15 w17 hb15 B15 e15 s15 => ?_
    have e17 := ext_trans eW e15
    refine rdIt (itAt_b B15) (checkItem_spec (gIt l k) fun e w25 e25 he => ⟨_, rfl, ?_⟩)
    have e025 := ext_trans e17 e25
    have hmem : gIt l k ∈ l := by rw [gIt_at hkl]; exact List.getElem_mem hkl
    refine br_split (fun g2 => h _ _ e025 ⟨fun q => absurd q g2, fun q => absurd (he.2 (q.ok _ hmem)) g2⟩) (fun g2 => ?_)
    have B25 := itAt_b (B15.ext e25)
    have hx := he.1 (Decidable.not_not.1 g2)
    have hx' := hx
    obtain ⟨_, y1, y2, y3, _⟩ := hx'
    have hsb := sumN_bd hok
    have hl1 : (l.take k).length ≤ 4096 := by rw [List.length_take]; omega
    refine ⟨_, B25.wd, _, B25.st, _, B25.sh, l.length - (k + 1), by omega, k + 1, by rw [wrap_nat (by omega)], by omega, rfl, ?_, fun x hxm => ?_, e025⟩
    · rw [List.take_succ_eq_append_getElem hkl, sumN_app, wrap_id (n := (gIt l k).w + (gIt l k).st) (by omega), wrap_id (n := (gIt l k).w + (gIt l k).st + (gIt l k).sh) (by omega), wrap_id (by omega), gIt_at hkl]
      show _ = sumN (l.take k) + ((l[k].w + l[k].st + l[k].sh) + 0)
      omega
    · rw [List.take_succ_eq_append_getElem hkl] at hxm
      rcases List.mem_append.1 hxm with hxm | hxm
      · exact hok x hxm
      · rw [List.mem_singleton] at hxm
        subst hxm
        rw [← gIt_at hkl]; exact hx
  · rw [List.take_of_length_le (by omega)] at hok ⊢
    refine br_split (fun g2 => h _ _ eW ⟨fun q => absurd q (by decide), fun q => by have := q.sum; omega⟩) (fun g2 => h _ _ eW ⟨fun _ => ⟨by omega, hok, by omega⟩, fun _ => rfl⟩)
def chkW (l : List It) (width : Int) : Prop := Its l ∧ okN width
theorem pcheck_spec {width : Int} (h1 : RowV vIt S w a n l) (h : ∀ (e : Int) w', Ext w w' → (e = 0 ↔ chkW l width) → R (.returned (.int .i64 e)) w') : Calls Tryz.prog F_paragraph_check ⟨[.slice a n c, .int .i64 width]⟩ w R := by
  apply c_paragraph_check
  refine pCheck_spec h1 fun e w4 e4 he => ⟨_, rfl, br_split (fun g => h _ _ e4 ⟨fun q => absurd q (by decide), fun q => absurd (he.2 q.1) g⟩) (fun g => ?_)⟩
  refine plength_spec _ ⟨_, rfl, br_cases (fun g2 => h _ _ e4 ⟨fun q => absurd q (by decide), fun q => ?_⟩) (fun g2 => h _ _ e4 ⟨fun _ => ⟨he.1 (Decidable.not_not.1 g), ?_⟩, fun _ => rfl⟩)⟩
  · rw [decide_eq_true q.2] at g2; cases g2
  · refine Decidable.byContradiction fun q => ?_
    rw [decide_eq_false q] at g2; cases g2
end
end Go.Proofs
