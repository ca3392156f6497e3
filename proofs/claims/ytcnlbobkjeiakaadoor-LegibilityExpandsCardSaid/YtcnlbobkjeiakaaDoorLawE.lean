/- The contracts of the functions that the law reaches, one after the other, and at the end the law's card. -/
import Derived.Test.YtcnlbobkjeiakaaDoorLawD
import Derived.Lib.AppendZerosOnto
import Derived.Maps.Own
import Derived.DeepKeys4
namespace Go.Proofs
open Go Go.Sh Go.RowKit

/- positions -/
abbrev Ps := List UInt8 × Int
def encP : Enc Ps := ⟨fun x => [.string ⟨⟨x.1⟩⟩, .int .i64 x.2], 2, fun _ => rfl, by decide, by intro x v hv; simp only [List.mem_cons, List.not_mem_nil, or_false] at hv; rcases hv with rfl | rfl <;> rfl⟩
def posN (at_ : Ps) (x : Nn) : Ps × Nat :=
  if x.k = 1 then (at_, x.t.length) else if x.k = 6 then (at_, x.n.toNat) else if x.k = 3 then ((x.t, 0), 0) else if x.k = 2 then ((at_.1, at_.2 + 1), 0) else (at_, 0)
def posL : Ps → List Nn → List Ps
  | _, [] => []
  | p, x :: l => List.replicate (posN p x).2 (posN p x).1 ++ posL (posN p x).1 l
def endL : Ps → List Nn → Ps
  | p, [] => p
  | p, x :: l => endL (posN p x).1 l
theorem posL_app : ∀ (l : List Nn) (p : Ps) (m : List Nn), posL p (l ++ m) = posL p l ++ posL (endL p l) m
  | [], _, _ => rfl
  | x :: l, p, m => by simp only [List.cons_append, posL, endL, posL_app l, List.append_assoc]
theorem endL_app : ∀ (l : List Nn) (p : Ps) (m : List Nn), endL p (l ++ m) = endL (endL p l) m
  | [], _, _ => rfl
  | x :: l, p, m => by simp only [List.cons_append, endL, endL_app l]
theorem posN_len (p : Ps) (x : Nn) : (posN p x).2 = (patN x).length := by
  unfold posN patN
  split
  · rfl
  · split
    · simp
    · split
      · rfl
      · split <;> rfl
theorem posL_len : ∀ (l : List Nn) (p : Ps), (posL p l).length = (l.flatMap patN).length
  | [], _ => rfl
  | x :: l, p => by simp only [posL, List.length_append, List.length_replicate, List.flatMap_cons, posL_len l, posN_len]
theorem posL_pat (p : Ps) (f : Fo) : (posL p (nodesF f)).length = (patF f).length := posL_len _ _
theorem endL_bd : ∀ (l : List Nn) (p : Ps) (B : Int), 0 ≤ p.2 → p.2 ≤ B → 0 ≤ B → 0 ≤ (endL p l).2 ∧ (endL p l).2 ≤ B + l.length
  | [], p, B, h0, h1, h2 => ⟨h0, by simp [endL]; omega⟩
  | x :: l, p, B, h0, h1, h2 => by
    rw [endL]
    have key : 0 ≤ (posN p x).1.2 ∧ (posN p x).1.2 ≤ B + 1 := by
      unfold posN
      split
      · exact ⟨h0, by show p.2 ≤ _; omega⟩
      · split
        · exact ⟨h0, by show p.2 ≤ _; omega⟩
        · split
          · exact ⟨Int.le_refl _, by show (0 : Int) ≤ _; omega⟩
          · split
            · exact ⟨by show 0 ≤ p.2 + 1; omega, by show p.2 + 1 ≤ _; omega⟩
            · exact ⟨h0, by show p.2 ≤ _; omega⟩
    have := endL_bd l (posN p x).1 (B + 1) key.1 key.2 (by omega)
    exact ⟨this.1, by simp only [List.length_cons]; omega⟩

structure PTo (b6 b10 : Nat) (oa : Option Addr) (W : World) (oa' : Option Addr) (W' : World) : Prop where
  chg : Chg (fun j => j = b6 ∨ j = b10 ∨ bk oa j) W W'
  bk : ∀ k, Sh.bk oa' k → Sh.bk oa k ∨ W.heap.size ≤ k
section
variable {b6 b10 B : Nat} {W W' W'' : World} {oa oa' oa'' : Option Addr} {L : List Ps} {p : Ps}
theorem PTo.refl (W : World) (oa : Option Addr) : PTo b6 b10 oa W oa W := ⟨Chg.refl _ _, fun _ h => .inl h⟩
theorem PTo.trans (h6 : b6 < W.heap.size) (h10 : b10 < W.heap.size) (h : PTo b6 b10 oa W oa' W') (k : PTo b6 b10 oa' W' oa'' W'') : PTo b6 b10 oa W oa'' W'' :=
  ⟨chg_then h.chg k.chg fun i hi hh => hh.elim .inl fun hh => hh.elim (fun e => .inr (.inl e)) fun hh => (h.bk i hh).elim (fun e => .inr (.inr e)) (fun e => by omega),
   fun j hj => (k.bk j hj).elim (h.bk j) (fun e => .inr (Nat.le_trans h.chg.size e))⟩
theorem PTo.ext (h : Ext W W') : PTo b6 b10 oa W oa W' := ⟨Chg.of_ext h, fun _ h => .inl h⟩
end

end Go.Proofs
namespace Go.Proofs
open Go Go.Sh Go.RowKit

theorem blk2 {w : World} {b : Nat} {v0 v1 : Value} {T : TypeId} (h : Blk w b [v0, v1] T) : w.cell? ((⟨b, 0, none⟩ : Addr).add 0) = some v0 ∧ w.cell? ((⟨b, 0, none⟩ : Addr).add 1) = some v1 := by
  simp only [add_none, h.cell]; exact ⟨rfl, rfl⟩

end Go.Proofs
namespace Go.Proofs
open Go Go.Sh Go.RowKit

/- rows of successive equal positions -/
def runGo (L : List Ps) (x : Ps) : Nat → Nat → Nat
  | 0, j => j
  | m + 1, j => if L[j]? = some x then runGo L x m (j + 1) else j
def runE (L : List Ps) (i : Nat) : Nat := match L[i]? with
  | some x => runGo L x (L.length - (i + 1)) (i + 1)
  | none => i + 1
def rowsGo (L : List Ps) : Nat → Nat → List (Nat × Nat)
  | 0, _ => []
  | m + 1, i => if i < L.length then (i, runE L i) :: rowsGo L m (runE L i) else []
def rowsF (L : List Ps) : List (Nat × Nat) := rowsGo L L.length 0
theorem runGo_spec (L : List Ps) (x : Ps) : ∀ (m j : Nat), j ≤ L.length → m = L.length - j → j ≤ runGo L x m j ∧ runGo L x m j ≤ L.length ∧ (∀ k, j ≤ k → k < runGo L x m j → L[k]? = some x) ∧ (runGo L x m j < L.length → L[runGo L x m j]? ≠ some x)
  | 0, j, hj, hm => ⟨Nat.le_refl _, by rw [runGo]; exact hj, fun k h1 h2 => by rw [runGo] at h2; omega, fun h => by rw [runGo] at h; omega⟩
  | m + 1, j, hj, hm => by
    rw [runGo]
    by_cases h : L[j]? = some x
    · rw [if_pos h]
      obtain ⟨a, b, c, d⟩ := runGo_spec L x m (j + 1) (by omega) (by omega)
      refine ⟨by omega, b, fun k h1 h2 => ?_, d⟩
      by_cases hk : k = j
      · rw [hk]; exact h
      · exact c k (by omega) h2
    · rw [if_neg h]
      exact ⟨Nat.le_refl _, hj, fun k h1 h2 => by omega, fun _ => h⟩
theorem runE_spec {L : List Ps} {i : Nat} (hi : i < L.length) : i < runE L i ∧ runE L i ≤ L.length ∧ (∀ k, i ≤ k → k < runE L i → L[k]? = L[i]?) ∧ (runE L i < L.length → L[runE L i]? ≠ L[i]?) := by
  have h : L[i]? = some L[i] := by simp [hi]
  unfold runE
  rw [h]
  simp only
  obtain ⟨a, b, c, d⟩ := runGo_spec L L[i] (L.length - (i + 1)) (i + 1) (by omega) rfl
  refine ⟨by omega, b, fun k h1 h2 => ?_, d⟩
  by_cases hk : k = i
  · rw [hk]; exact h
  · exact c k (by omega) h2
def RwE (x : Nat × Nat) (vs : List Value) : Prop := vs = [.int .i64 x.1, .int .i64 x.2]

/- where rows begin -/
def isStart (L : List Ps) (i : Nat) : Bool := decide (i = 0 ∨ L[i]? ≠ L[i - 1]?)
theorem rows_starts (L : List Ps) : ∀ (m i : Nat), i ≤ L.length → L.length ≤ m + i → isStart L i = true ∨ i = L.length → (rowsGo L m i).map (·.1) = (List.range' i (L.length - i)).filter (isStart L)
  | 0, i, hi, hm, _ => by rw [show L.length - i = 0 by omega]; rfl
  | m + 1, i, hi, hm, hst => by
    rw [rowsGo]
    by_cases hil : i < L.length
    · rw [if_pos hil, List.map_cons]
      obtain ⟨r1, r2, r3, r4⟩ := runE_spec hil
      have hst' : isStart L i = true := hst.resolve_right (by omega)
      have e1 : List.range' i (L.length - i) = i :: (List.range' (i + 1) (runE L i - (i + 1)) ++ List.range' (runE L i) (L.length - runE L i)) := by
        have e2 : L.length - i = (L.length - i - 1) + 1 := by omega
        rw [e2, List.range'_succ]
        congr 1
        have := List.range'_append (s := i + 1) (m := runE L i - (i + 1)) (n := L.length - runE L i) (step := 1)
        rw [show i + 1 + 1 * (runE L i - (i + 1)) = runE L i by omega] at this
        rw [this]
        congr 1
        omega
      rw [e1, List.filter_cons, if_pos hst', List.filter_append]
      congr 1
      have e3 : (List.range' (i + 1) (runE L i - (i + 1))).filter (isStart L) = [] := by
        rw [List.filter_eq_nil_iff]
        intro j hj
        rw [List.mem_range'_1] at hj
        have a1 := r3 j (by omega) (by omega)
        have a2 := r3 (j - 1) (by omega) (by omega)
        unfold isStart
        simp only [decide_eq_true_eq, not_or]
        exact ⟨by omega, fun h => h (a1.trans a2.symm)⟩
      rw [e3, List.nil_append]
      refine rows_starts L m (runE L i) r2 (by omega) ?_
      by_cases hr : runE L i < L.length
      · left
        have a2 := r3 (runE L i - 1) (by omega) (by omega)
        unfold isStart
        rw [decide_eq_true_eq]
        right
        rw [a2]; exact r4 hr
      · right; omega
    · rw [if_neg hil, show L.length - i = 0 by omega]; rfl
theorem rowsF_starts (L : List Ps) : (rowsF L).map (·.1) = (List.range L.length).filter (isStart L) := by
  rw [rowsF, rows_starts L L.length 0 (by omega) (by omega) (.inl (by simp [isStart])), List.range_eq_range']
  rfl

/- characters within words -/
def innB (b : UInt8) : Bool := decide (kd b = 1 ∨ kd b = 2 ∨ kd b = 3 ∨ kd b = 4 ∨ b = 95)
end Go.Proofs
namespace Go.Proofs
open Go Go.Sh Go.RowKit

def brkB (s : List UInt8) (i : Nat) : Bool := match s[i - 1]?, s[i]? with
  | some a, some b => decide (0 < i) && (innB a && innB b)
  | _, _ => false
def pickP (s : List UInt8) (l : List (Nat × Nat)) : List Int := ((l.map (·.1)).filter (brkB s)).map fun (i : Nat) => (i : Int)
def brkZ (L : List Ps) (s : List UInt8) : List Int := (((List.range L.length).filter (isStart L)).filter (brkB s)).map fun (i : Nat) => (i : Int)
theorem pickP_rows (L : List Ps) (s : List UInt8) : pickP s (rowsF L) = brkZ L s := by rw [pickP, rowsF_starts]; rfl
theorem pickP_snoc (s : List UInt8) (l : List (Nat × Nat)) (x : Nat × Nat) : pickP s (l ++ [x]) = pickP s l ++ if brkB s x.1 then [(x.1 : Int)] else [] := by
  simp only [pickP, List.map_append, List.filter_append, List.map_cons, List.map_nil, List.filter_cons, List.filter_nil]
  split <;> rfl
theorem pickP_len (s : List UInt8) (l : List (Nat × Nat)) : (pickP s l).length ≤ l.length := by
  unfold pickP
  rw [List.length_map]
  exact Nat.le_trans (List.length_filter_le _ _) (by simp)
theorem rowsGo_len (L : List Ps) : ∀ (m i : Nat), (rowsGo L m i).length ≤ m
  | 0, _ => Nat.le_refl _
  | m + 1, i => by
    rw [rowsGo]
    split
    · have := rowsGo_len L m (runE L i); simp only [List.length_cons]; omega
    · simp
theorem rows_lt (L : List Ps) {x : Nat × Nat} (h : x ∈ rowsF L) : x.1 < L.length := by
  have : x.1 ∈ (rowsF L).map (·.1) := List.mem_map.2 ⟨x, h, rfl⟩
  rw [rowsF_starts, List.mem_filter, List.mem_range] at this
  exact this.1

theorem posL_lit : encP.enc (([] : List UInt8), (0 : Int)) = [.string ⟨⟨[]⟩⟩, .int .i64 0] := rfl
def brkR (f : Fo) : List Int := if patE f ≠ 0 then [] else brkZ (posL ([], 0) (nodesF f)) (patF f)
theorem patE_zero {f : Fo} (h : patE f = 0) : checkT f = 0 ∧ cleanF f = true ∧ (patF f).length ≤ 65536 ∧ patS f = patF f := by
  have h' := h
  unfold patE at h
  split at h
  · rename_i hh; exact absurd h hh
  · rename_i hh
    obtain ⟨a, b⟩ := errU_zero (Decidable.not_not.1 hh)
    split at h
    · cases h
    · exact ⟨a, b, by omega, by unfold patS; rw [if_neg (by simp [h'])]⟩

end Go.Proofs
namespace Go.Proofs
open Go Go.Sh Go.RowKit

/- Positions -/
def posE (p : Ps) (f : Fo) : Int := if patE f ≠ 0 then patE f else if p.1 ≠ [] ∧ isNameF p.1 = false then 14 else if p.2 < 0 ∨ 4096 < p.2 then 2 else 0
def posR (p : Ps) (f : Fo) : List Ps := if posE p f ≠ 0 then [] else posL p (nodesF f)
theorem posE_zero {p : Ps} {f : Fo} (h : posE p f = 0) : patE f = 0 ∧ (p.1 = [] ∨ isNameF p.1 = true) ∧ 0 ≤ p.2 ∧ p.2 ≤ 4096 := by
  unfold posE at h
  split at h
  · rename_i hh; exact absurd h hh
  · split at h
    · cases h
    · split at h
      · cases h
      · rename_i h1 h2 h3
        refine ⟨Decidable.not_not.1 h1, ?_, by omega, by omega⟩
        by_cases hp : p.1 = []
        · exact .inl hp
        · right
          cases hn : isNameF p.1 with
          | true => rfl
          | false => exact absurd ⟨hp, hn⟩ h2
/- the example of the chapter -/
def fW : Fo := .cons 3 [49, 114] 0 .nil (.cons 2 [] 0 .nil (.cons 1 [100, 101] 0 .nil (.cons 2 [] 0 .nil (.one 1 [117, 115] 0 .nil))))
theorem awakeL1 : posE ([], 0) fW = 0 ∧ patE fW = 0 ∧ posR ([], 0) fW = [([49, 114], 1), ([49, 114], 1), ([49, 114], 2), ([49, 114], 2)] ∧ brkR fW = [2] := by decide +kernel
end Go.Proofs
namespace Go.Proofs
open Go Go.Sh Go.RowKit

def fin13 (f : Fo) : Bool := !great10 f && decide (patE f = 0)
theorem fin13_true {f : Fo} (h : fin13 f = true) : great10 f = false ∧ patE f = 0 := by
  unfold fin13 at h; simpa using h
/- whether a node of one of two kinds stands in a list -/
def hasN (a b : Int) (x : Nn) : Bool := decide (x.k = a) || decide (x.k = b)
def hasF (f : Fo) (a b : Int) : Bool := (nodesF f).any (hasN a b)
theorem hasF_cons (k t n) (ps r : Fo) (a b : Int) : hasF (.cons k t n ps r) a b = (hasN a b ⟨k, t, n, ps⟩ || (hasF ps a b || hasF r a b)) := by
  simp [hasF, nodesF, List.any_append]
/- without pages and lines all stands at one place -/
theorem posL_plain : ∀ (l : List Nn) (p : Ps), l.any (hasN 3 2) = false → (∀ x ∈ posL p l, x = p)
  | [], p, _ => by simp [posL]
  | x :: l, p, h => by
    rw [List.any_cons, Bool.or_eq_false_iff] at h
    have hx : ¬ x.k = 3 ∧ ¬ x.k = 2 := by simpa [hasN] using h.1
    have hp : (posN p x).1 = p := by
      unfold posN
      split
      · rfl
      · split
        · rfl
        · rw [if_neg hx.1, if_neg hx.2]
    intro y hy
    rw [posL, hp, List.mem_append] at hy
    rcases hy with hy | hy
    · exact (List.mem_replicate.1 hy).2
    · exact posL_plain l p h.2 y hy
theorem brkZ_plain {L : List Ps} {p : Ps} {s : List UInt8} (h : ∀ x ∈ L, x = p) : brkZ L s = [] := by
  unfold brkZ
  rw [List.map_eq_nil_iff, List.filter_eq_nil_iff]
  intro i hi
  rw [List.mem_filter, List.mem_range] at hi
  obtain ⟨hi, hs⟩ := hi
  have : i = 0 := by
    apply Classical.byContradiction
    intro h0
    unfold isStart at hs
    rw [decide_eq_true_eq] at hs
    refine hs.elim h0 fun hh => hh ?_
    have e1 : L[i]? = some L[i] := by simp [hi]
    have e2 : L[i - 1]? = some L[i - 1] := by rw [List.getElem?_eq_getElem (by omega)]
    rw [e1, e2, h _ (List.getElem_mem hi), h _ (List.getElem_mem (by omega))]
  subst this
  unfold brkB; split <;> simp
def brkTo (L : List Ps) (s : List UInt8) (k : Nat) : List Int := (((List.range k).filter (isStart L)).filter (brkB s)).map fun (i : Nat) => (i : Int)
theorem brkTo_succ (L : List Ps) (s : List UInt8) (k : Nat) : brkTo L s (k + 1) = brkTo L s k ++ if isStart L k && brkB s k then [(k : Int)] else [] := by
  unfold brkTo
  rw [List.range_succ, List.filter_append, List.filter_append, List.map_append]
  congr 1
  simp only [List.filter_cons, List.filter_nil]
  cases isStart L k <;> cases h2 : brkB s k <;> simp [h2]
theorem brkTo_one (L : List Ps) (s : List UInt8) : brkTo L s 1 = [] := by
  rw [brkTo_succ]
  have : brkB s 0 = false := by unfold brkB; split <;> simp
  simp [brkTo, this]
theorem brkTo_len (L : List Ps) (s : List UInt8) (k : Nat) : (brkTo L s k).length ≤ k := by
  unfold brkTo
  rw [List.length_map]
  have h1 := List.length_filter_le (brkB s) ((List.range k).filter (isStart L))
  have h2 := List.length_filter_le (isStart L) (List.range k)
  rw [List.length_range] at h2
  omega

end Go.Proofs
namespace Go.Proofs
open Go Go.Sh Go.RowKit

theorem posL_mono : ∀ (l : List Nn) (p : Ps), l.any (hasN 3 3) = false → (∀ x ∈ posL p l, p.2 ≤ x.2) ∧ (posL p l).Pairwise (fun a b => a.2 ≤ b.2)
  | [], p, _ => by simp [posL]
  | x :: l, p, h => by
    rw [List.any_cons, Bool.or_eq_false_iff] at h
    have hx : ¬ x.k = 3 := by simpa [hasN] using h.1
    have hp : p.2 ≤ (posN p x).1.2 := by
      unfold posN
      split
      · exact Int.le_refl _
      · split
        · exact Int.le_refl _
        · try rw [if_neg hx]
          split
          · show p.2 ≤ p.2 + 1; omega
          · exact Int.le_refl _
    obtain ⟨i1, i2⟩ := posL_mono l (posN p x).1 h.2
    rw [posL]
    refine ⟨fun y hy => ?_, ?_⟩
    · rw [List.mem_append] at hy
      rcases hy with hy | hy
      · rw [(List.mem_replicate.1 hy).2]; exact hp
      · exact Int.le_trans hp (i1 y hy)
    · rw [List.pairwise_append]
      refine ⟨?_, i2, fun y hy z hz => ?_⟩
      · rw [List.pairwise_replicate]; exact .inr (Int.le_refl _)
      · rw [(List.mem_replicate.1 hy).2]; exact i1 z hz

def startP (page line : Int) : Ps := if Int.tmod page 4 = 0 then ([], line) else ([112] ++ (Utf8.encode (IntKind.i32.wrap (IntKind.u8.wrap (48 + (Int.tmod page 4))))).data.toList, line)
theorem start_name {page line : Int} (h0 : 0 ≤ page) (hl : 0 ≤ line ∧ line < 256) {f : Fo} (hf : patE f = 0) : posE (startP page line) f = 0 := by
  have ht : Int.tmod page 4 = 0 ∨ Int.tmod page 4 = 1 ∨ Int.tmod page 4 = 2 ∨ Int.tmod page 4 = 3 := by
    rw [Int.tmod_eq_emod_of_nonneg h0]; omega
  have hn : ¬ ((startP page line).1 ≠ [] ∧ isNameF (startP page line).1 = false) := by
    have key : ∀ k : Int, (k = 1 ∨ k = 2 ∨ k = 3) → isNameF ([112] ++ (Utf8.encode (IntKind.i32.wrap (IntKind.u8.wrap (48 + k)))).data.toList) = true := by
      rintro k (rfl | rfl | rfl) <;> decide +kernel
    unfold startP
    rcases ht with e | e | e | e <;> rw [e]
    · simp
    · rw [if_neg (by decide)]; exact fun hh => absurd (key 1 (by decide)) (by rw [hh.2]; decide)
    · rw [if_neg (by decide)]; exact fun hh => absurd (key 2 (by decide)) (by rw [hh.2]; decide)
    · rw [if_neg (by decide)]; exact fun hh => absurd (key 3 (by decide)) (by rw [hh.2]; decide)
  have hl' : (startP page line).2 = line := by unfold startP; split <;> rfl
  unfold posE
  rw [if_neg (by simp [hf]), if_neg hn, if_neg (by rw [hl']; omega)]
end Go.Proofs
namespace Go.Proofs
open Go Go.Sh Go.RowKit

/- where the characters of a position stand -/
def findF (L : List Ps) (p : Ps) : Option (Nat × Nat) := (rowsF L).find? fun x => decide (L[x.1]? = some p)
def findR (p : Ps) (f : Fo) : Option (Nat × Nat) := if patE f ≠ 0 then none else findF (posL ([], 0) (nodesF f)) p
def fr1 : Option (Nat × Nat) → Int | some x => x.1 | none => 0
def fr2 : Option (Nat × Nat) → Int | some x => x.2 | none => 0
def findE (p : Ps) (f : Fo) : Int := if patE f ≠ 0 then patE f else match findR p f with | some _ => 0 | none => 6
theorem find_at {α : Type} {q : α → Bool} {pre xs : List α} {x : α} (hp : pre ++ [x] <+: xs) (h : ∀ y ∈ pre, q y = false) (hx : q x = true) : xs.find? q = some x := by
  obtain ⟨s, rfl⟩ := hp
  rw [List.append_assoc, List.find?_append]
  have : pre.find? q = none := by rw [List.find?_eq_none]; intro y hy; rw [h y hy]; simp
  rw [this]
  simp [hx]

end Go.Proofs
namespace Go.Proofs
open Go Go.Sh Go.RowKit

theorem rows_find (L : List Ps) (p : Ps) : ∀ (m i0 : Nat), L.length ≤ m + i0 →
    (∀ x, (rowsGo L m i0).find? (fun x => decide (L[x.1]? = some p)) = some x → i0 ≤ x.1 ∧ x.1 < L.length ∧ x.2 = runE L x.1 ∧ L[x.1]? = some p ∧ ∀ k, i0 ≤ k → k < x.1 → L[k]? ≠ some p) ∧
    ((rowsGo L m i0).find? (fun x => decide (L[x.1]? = some p)) = none → ∀ k, i0 ≤ k → L[k]? ≠ some p)
  | 0, i0, hm => by
    refine ⟨fun x h => by simp [rowsGo] at h, fun _ k hk h => ?_⟩
    have := (List.getElem?_eq_some_iff.1 h).1
    omega
  | m + 1, i0, hm => by
    rw [rowsGo]
    by_cases hi : i0 < L.length
    · rw [if_pos hi, List.find?_cons]
      obtain ⟨r1, r2, r3, r4⟩ := runE_spec hi
      by_cases hp : L[i0]? = some p
      · rw [decide_eq_true hp]
        refine ⟨fun x h => ?_, fun h => by cases h⟩
        obtain rfl := Option.some.inj h
        exact ⟨Nat.le_refl _, hi, rfl, hp, fun k h1 h2 => by omega⟩
      · rw [decide_eq_false hp]
        obtain ⟨a1, a2⟩ := rows_find L p m (runE L i0) (by omega)
        have skip : ∀ k, i0 ≤ k → k < runE L i0 → L[k]? ≠ some p := fun k h1 h2 => by rw [r3 k h1 h2]; exact hp
        refine ⟨fun x h => ?_, fun h k hk => ?_⟩
        · obtain ⟨b1, b2, b3, b4, b5⟩ := a1 x h
          refine ⟨by omega, b2, b3, b4, fun k h1 h2 => ?_⟩
          by_cases hk : k < runE L i0
          · exact skip k h1 hk
          · exact b5 k (by omega) h2
        · by_cases hk' : k < runE L i0
          · exact skip k hk hk'
          · exact a2 h k (by omega)
    · rw [if_neg hi]
      refine ⟨fun x h => by simp at h, fun _ k hk h => ?_⟩
      have := (List.getElem?_eq_some_iff.1 h).1
      omega
theorem findF_some {L : List Ps} {p : Ps} {x : Nat × Nat} (h : findF L p = some x) : x.1 < x.2 ∧ x.2 ≤ L.length ∧ (∀ k, x.1 ≤ k → k < x.2 → L[k]? = some p) ∧ (∀ k, k < x.1 → L[k]? ≠ some p) ∧ (x.2 < L.length → L[x.2]? ≠ some p) := by
  obtain ⟨b1, b2, b3, b4, b5⟩ := (rows_find L p L.length 0 (by omega)).1 x h
  obtain ⟨r1, r2, r3, r4⟩ := runE_spec b2
  rw [b3]
  refine ⟨r1, r2, fun k h1 h2 => (r3 k h1 h2).trans b4, fun k hk => b5 k (by omega) hk, fun hh => ?_⟩
  rw [b4] at r4
  exact r4 hh
theorem findF_none {L : List Ps} {p : Ps} (h : findF L p = none) : ∀ x ∈ L, x ≠ p := by
  intro x hx e
  obtain ⟨k, hk, rfl⟩ := List.mem_iff_getElem.1 hx
  exact (rows_find L p L.length 0 (by omega)).2 h k (by omega) (by simp [hk, e])

/- the characters of a position -/
def lineS (p : Ps) (f : Fo) : List UInt8 := match findR p f with | some x => ((patF f).take x.2).drop x.1 | none => []
def cmpF (x y : Int) : Int := if x < y then -1 else if y < x then 1 else 0
def cmpE (p q : Ps) (f : Fo) : Int := if findE p f ≠ 0 then findE p f else findE q f
def cmpR' (p q : Ps) (f : Fo) : Int := if cmpE p q f ≠ 0 then 0 else cmpF (fr1 (findR p f)) (fr1 (findR q f))
end Go.Proofs
namespace Go.Proofs
open Go Go.Sh Go.RowKit

end Go.Proofs
namespace Go.Proofs
open Go Go.Sh Go.RowKit

/- growing the nil slice: room is made, nothing is held -/
theorem grow_nil {P : Program} {t tn ty e : TypeId} {size bytes : Nat} {z : Value} (hT : SlT P t e size bytes z) (htn : P.underlying tn = some (.int .i64)) {w : World} {B : Nat} (hB : B ≤ w.heap.size) (k : Nat) (h0 : 0 < k) (hb : k * bytes ≤ 140737488355328) (hk63 : k ≤ 4611686018427387904)
    {K : Option Addr → Nat → Nat → World → Prop} (hk : ∀ (c : Nat) w', Owns w' B e size (some ⟨w.heap.size, 0, none⟩) 0 c [] → Ext w w' → K (some ⟨w.heap.size, 0, none⟩) k c w') :
    app P [t, tn] ty (.slice none 0 0) (.int .i64 (k : Int)) w K := by
  obtain ⟨i, hi, hz, hs, hbb⟩ := hT.get
  have hpos := hT.pos
  have hr := Lib.run_append_grow_zeros (P := P) w t tn ty e i z .i64 .i64 hT.under htn hi hz none 0 0 [] (run_firstCells_none w.drew i.size 0 0 0) k h0 (by omega) (by omega) (by omega) (by rw [hbb]; omega) (by
    rw [hbb]; exact growslice_fits (by omega) (by rw [Nat.zero_add]; omega))
  rw [Nat.zero_add] at hr
  refine ⟨_, _, _, _, hr, hk _ _ ?_ (ext_trans (ext_drew w) ((Below.refl _ _).alloc (Nat.le_refl _) _))⟩
  refine ⟨by simp, .inr ⟨w.heap.size, _, #[] ++ Builtin.zeroCells z.cells k ++ Builtin.zeroCells z.cells (grownCap w k 0 e - k), rfl, hB, ?_, Nat.zero_le _, grownCap_le_maxLen w k 0 e (by simp only [maxLen]; omega), ?_, by simp⟩⟩
  · exact heap_alloc_new w.drew _
  · have hge := grownCap_ge w k 0 e
    have hzs : z.cells.size = i.size := by rw [hT.zs, hs]
    simp only [Builtin.zeroCells, Array.size_append, Array.size_map, Array.size_range, hzs, hs, List.size_toArray, List.length_nil, Nat.zero_add]
    rw [← Nat.add_mul]
    congr 1
    omega
end Go.Proofs
namespace Go.Proofs
open Go Go.Sh Go.RowKit

theorem slA_zero (b c s : Nat) : slA (some ⟨b, 0, none⟩) c 0 s = some ⟨b, 0, none⟩ := by
  unfold slA; split <;> simp [Addr.add]
def encSl : Enc (Option Addr × Nat × Nat) := ⟨fun x => [.slice x.1 x.2.1 x.2.2], 1, fun _ => rfl, by decide, by intro x v hv; simp only [List.mem_singleton] at hv; subst hv; rfl⟩
def catF : List Fo → Fo
  | [] => .nil
  | g :: gs => g.app (catF gs)
theorem catF_snoc : ∀ (gs : List Fo) (g : Fo), catF (gs ++ [g]) = (catF gs).app g
  | [], g => by simp [catF]
  | x :: gs, g => by simp only [List.cons_append, catF, catF_snoc gs, Fo.app_assoc]
theorem catF_take {gs : List Fo} {k : Nat} {g : Fo} (h : gs[k]? = some g) : catF (gs.take (k + 1)) = (catF (gs.take k)).app g := by
  rw [List.take_add_one, h]; exact catF_snoc _ _
theorem catF_len : ∀ (gs : List Fo) (k : Nat), (catF (gs.take k)).len ≤ (catF gs).len
  | [], k => by simp [catF]
  | g :: gs, 0 => by simp [catF]
  | g :: gs, k + 1 => by
    have := catF_len gs k
    simp only [List.take_succ_cons, catF, Fo.len_app]; omega

end Go.Proofs
namespace Go.Proofs
open Go Go.Sh Go.RowKit

theorem flat_take {gs : List (List Ps)} {k : Nat} {g : List Ps} (h : gs[k]? = some g) : (gs.take (k + 1)).flatten = (gs.take k).flatten ++ g := by
  rw [List.take_add_one, h]; simp
theorem flat_len (gs : List (List Ps)) (k : Nat) : ((gs.take k).flatten).length ≤ gs.flatten.length := by
  have e : gs.flatten = (gs.take k).flatten ++ (gs.drop k).flatten := by rw [← List.flatten_append, List.take_append_drop]
  rw [e, List.length_append]; omega

end Go.Proofs
namespace Go.Proofs
open Go Go.Sh Go.RowKit

theorem longF_texts : ∀ (f : Fo) (d : Nat), longF f d = false → ∀ x ∈ nodesF f, x.t.length ≤ 60 ∨ 65536 < x.t.length
  | .nil, _, _, x, hx => by simp [nodesF] at hx
  | .cons k t n ps r, d, h, x, hx => by
    rw [longF] at h
    simp only [Bool.or_eq_false_iff, decide_eq_false_iff_not] at h
    obtain ⟨h1, h2, h3, h4, h5⟩ := h
    simp only [nodesF, List.mem_cons, List.mem_append] at hx
    rcases hx with rfl | hx | hx
    · show t.length ≤ 60 ∨ 65536 < t.length; omega
    · exact longF_texts ps (d - 1) h4 x hx
    · exact longF_texts r d h5 x hx
theorem flat_bound {α : Type} (q : α → List UInt8) (B : Nat) : ∀ (l : List α), (∀ x ∈ l, (q x).length ≤ B) → (l.flatMap q).length ≤ B * l.length
  | [], _ => by simp
  | x :: l, h => by
    have h1 := h x (by simp)
    have h2 := flat_bound q B l fun y hy => h y (by simp [hy])
    simp only [List.flatMap_cons, List.length_append, List.length_cons, Nat.mul_add, Nat.mul_one]; omega
theorem fin_small {f : Fo} (hg : great10 f = false) (hc : checkT f = 0) : f.size ≤ 40 ∧ (patF f).length ≤ 4000 := by
  obtain ⟨q1, q2, q3⟩ := check_zero hc
  have hl := f.len_le_size
  unfold great10 at hg
  rw [if_pos (by omega), Bool.or_eq_false_iff] at hg
  obtain ⟨h1, h2⟩ := hg
  have h1 : f.size ≤ 40 := by simp at h1; exact h1.1
  have ht := longF_texts f 20 h2
  have hn := good_nodes f q2
  refine ⟨h1, ?_⟩
  have := flat_bound patN 100 (nodesF f) fun x hx => by
    have a1 := hn x hx
    have a2 := ht x hx
    have a3 := a1.2.2.2.1
    unfold patN
    split
    · omega
    · split
      · rename_i h6
        have := a1.2.2.1 (by simp only [numsF]; rw [h6]; rfl)
        simp; omega
      · simp
  rw [nodesF_len] at this
  unfold patF
  omega
/- names of pages -/
theorem okF_pages : ∀ (f : Fo) (w : Bool), okF w f → ∀ x ∈ nodesF f, x.k = 3 → isNameF x.t = true
  | .nil, _, _, x, hx, _ => by simp [nodesF] at hx
  | .cons k t n ps r, w, h, x, hx, hk => by
    simp only [nodesF, List.mem_cons, List.mem_append] at hx
    rcases hx with rfl | hx | hx
    · have h1 := h.1
      have hk : k = 3 := hk
      subst hk
      unfold singleF at h1
      split at h1
      · cases h1
      · split at h1
        · cases h1
        · simp at h1
          show isNameF t = true
          cases hn : isNameF t with
          | true => rfl
          | false => simp [hn] at h1
    · exact okF_pages ps true h.2.1 x hx hk
    · exact okF_pages r w h.2.2 x hx hk
theorem endL_name : ∀ (l : List Nn) (p : Ps), (∀ x ∈ l, x.k = 3 → isNameF x.t = true) → (p.1 = [] ∨ isNameF p.1 = true) → ((endL p l).1 = [] ∨ isNameF (endL p l).1 = true)
  | [], _, _, h => h
  | x :: l, p, hl, h => by
    rw [endL]
    refine endL_name l _ (fun y hy => hl y (by simp [hy])) ?_
    unfold posN
    split
    · exact h
    · split
      · exact h
      · split
        · rename_i h3; exact .inr (hl x (by simp) h3)
        · split
          · exact h
          · exact h
end Go.Proofs
namespace Go.Proofs
open Go Go.Sh Go.RowKit

/- two lists with a verse between them -/
def vF : Fo := .one 5 [] 0 .nil
def xF : Fo := .one 1 [120] 0 .nil
theorem cleanF_app (f g : Fo) : cleanF (f.app g) = (cleanF f && cleanF g) := by unfold cleanF; rw [nodesF_appU, List.all_append]
theorem pat3 {f g : Fo} (hf : cleanF f = true) (hg : cleanF g = true) (hl : (patF f).length + (patF g).length ≤ 60000) : patE (f.app (vF.app g)) = 1 ∨ patE (f.app (vF.app g)) = 0 := by
  have hc : cleanF (f.app (vF.app g)) = true := by rw [cleanF_app, cleanF_app, hf, hg]; rfl
  have hp : (patF (f.app (vF.app g))).length ≤ 60000 := by
    rw [patF_app, patF_app, List.length_append, List.length_append]
    have : patF vF = [] := rfl
    rw [this]; simp; omega
  unfold patE errU
  rw [hc]
  by_cases h : checkT (f.app (vF.app g)) = 0
  · right
    simp only [h, ne_eq, not_true_eq_false, if_false, if_true]
    rw [if_neg (by omega)]
  · left
    simp [h]
theorem pos3 (s : Ps) (f g : Fo) : posL s (nodesF (f.app (vF.app g))) = posL s (nodesF f) ++ posL (endL s (nodesF f)) (nodesF g) := by
  rw [nodesF_appU, nodesF_appU, posL_app, posL_app]
  rfl
theorem size3 (f g : Fo) : (f.app (vF.app g)).size = f.size + g.size + 1 := by
  rw [Fo.size_app, Fo.size_app]; show f.size + (1 + g.size) = _; omega
theorem clean_fin {f : Fo} (h : fin13 f = true) : cleanF f = true ∧ f.size ≤ 40 ∧ (patF f).length ≤ 4000 ∧ (∀ x ∈ nodesF f, x.k = 3 → isNameF x.t = true) := by
  obtain ⟨h1, h2⟩ := fin13_true h
  obtain ⟨c0, c1, _⟩ := patE_zero h2
  obtain ⟨a, b⟩ := fin_small h1 c0
  refine ⟨c1, a, b, ?_⟩
  have hok : okF false f := by
    have : allF f false false = 0 := by
      unfold checkT at c0
      split at c0
      · split at c0
        · rename_i hh; exact absurd c0 hh
        · rename_i hh; exact Decidable.not_not.1 hh
      · cases c0
    exact ((all_split f false false).1 this).1
  exact okF_pages f _ hok

end Go.Proofs
namespace Go.Proofs
open Go Go.Sh Go.RowKit

end Go.Proofs
namespace Go.Sh
open Go Go.RowKit
open Go.WideElems (Fit)
open Go.Maps (Keyed)

/- a map that stands in a block, as a partial function of keys -/
def anyV : Value → Option (DataW Unit × List MemPlace) := fun _ => some (.nil, [])
def MapT {K V : Type} (P : Program) (k : TypeId) (eK : K → Value) (eV : V → Value) (w : World) (b n : Nat) (f : K → Option V) : Prop :=
  ∃ es clock, w.heap[b]? = some (.map es clock) ∧ Fit P k anyV es clock ∧ es.size ≤ n ∧
    ∀ x, (f x = none ∧ ∀ e ∈ es.toList, e.key ≠ eK x) ∨ ∃ v, f x = some v ∧ ∃ e ∈ es.toList, e.key = eK x ∧ e.val = eV v

section
variable {K V : Type} {P : Program} {k t e : TypeId} {eK : K → Value} {eV : V → Value} {w w' : World} {b n : Nat} {f : K → Option V}
theorem MapT.made (w : World) : MapT P k eK eV (w.alloc (.map #[] 0)) w.heap.size 0 (fun _ => none) :=
  ⟨#[], 0, (MapKept.heap_alloc w _).1, ⟨by simp, MapKept.stamped_empty 0, by simp⟩, Nat.le_refl _, fun x => .inl ⟨rfl, by simp⟩⟩
theorem MapT.lt (h : MapT P k eK eV w b n f) : b < w.heap.size := by
  obtain ⟨es, clock, hb, _⟩ := h
  exact (Array.getElem?_eq_some_iff.1 hb).1
theorem MapT.keep (h : MapT P k eK eV w b n f) (hw : w'.heap[b]? = w.heap[b]?) : MapT P k eK eV w' b n f := by
  obtain ⟨es, clock, hb, h⟩ := h
  exact ⟨es, clock, hw.trans hb, h⟩
theorem MapT.ext (h : MapT P k eK eV w b n f) (hw : Ext w w') : MapT P k eK eV w' b n f := h.keep (hw.block b h.lt)
theorem MapT.chg {S : Nat → Prop} (h : MapT P k eK eV w b n f) (hw : Chg S w w') (hs : ¬ S b) : MapT P k eK eV w' b n f := h.keep (hw.block b h.lt hs)
theorem MapT.mono (h : MapT P k eK eV w b n f) {m : Nat} (hm : n ≤ m) : MapT P k eK eV w b m f := by
  obtain ⟨es, clock, hb, F, hs, h⟩ := h
  exact ⟨es, clock, hb, F, Nat.le_trans hs hm, h⟩
theorem MapT.congr {g : K → Option V} (h : MapT P k eK eV w b n f) (hg : ∀ x, f x = g x) : MapT P k eK eV w b n g := by
  rw [← (funext hg : f = g)]; exact h

theorem MapT.look (h : MapT P k eK eV w b n f) (Kd : Keyed P k) (ht : P.underlying t = some (.map k e)) {z : Value} (hz : (zeroValue e).run P w = .ok z w) {x : K} {kl : Lit} (hkey : keyOf P k (eK x) = some kl) :
    lkAt P t (.map (some b)) (eK x) w (((f x).map eV).getD z) := by
  obtain ⟨es, clock, hb, F, _, hf⟩ := h
  unfold lkAt
  rcases Maps.fit_look false Kd ht hz hb F hkey with ⟨hrun, hno, _⟩ | ⟨e0, y, h1, h2, hrun, _⟩
  · rcases hf x with ⟨h0, _⟩ | ⟨v, _, e1, he1, hk1, _⟩
    · rw [h0]; exact hrun
    · exact absurd hk1 (hno e1 he1)
  · rcases hf x with ⟨_, h0⟩ | ⟨v, hv, e1, he1, hk1, hv1⟩
    · exact absurd h2 (h0 e0 h1)
    · rw [hv]
      have : e0 = e1 := by
        have hn : es.toList.Pairwise (fun x y => x.key ≠ y.key) := ((MapKept.stamped_iff es clock).1 F.stamped).2.2
        obtain ⟨i, hi, rfl⟩ := List.getElem_of_mem h1
        obtain ⟨j, hj, rfl⟩ := List.getElem_of_mem he1
        have : i = j := by
          apply Classical.byContradiction
          intro hne
          rcases Nat.lt_or_gt_of_ne hne with hl | hl
          · exact List.pairwise_iff_getElem.1 hn i j hi hj hl (h2.trans hk1.symm)
          · exact List.pairwise_iff_getElem.1 hn j i hj hi hl (hk1.trans h2.symm)
        subst this; rfl
      subst this
      rw [hv1] at hrun
      simpa using hrun
theorem MapT.look2 (h : MapT P k eK eV w b n f) (Kd : Keyed P k) (ht : P.underlying t = some (.map k e)) {z : Value} (hz : (zeroValue e).run P w = .ok z w) {x : K} {kl : Lit} (hkey : keyOf P k (eK x) = some kl) :
    lkAt2 P t (.map (some b)) (eK x) w (((f x).map eV).getD z) (f x).isSome := by
  obtain ⟨es, clock, hb, F, _, hf⟩ := h
  unfold lkAt2
  rcases Maps.fit_look true Kd ht hz hb F hkey with ⟨hrun, hno, _⟩ | ⟨e0, y, h1, h2, hrun, _⟩
  · rcases hf x with ⟨h0, _⟩ | ⟨v, _, e1, he1, hk1, _⟩
    · rw [h0]; exact hrun
    · exact absurd hk1 (hno e1 he1)
  · rcases hf x with ⟨_, h0⟩ | ⟨v, hv, e1, he1, hk1, hv1⟩
    · exact absurd h2 (h0 e0 h1)
    · rw [hv]
      have : e0 = e1 := by
        have hn : es.toList.Pairwise (fun x y => x.key ≠ y.key) := ((MapKept.stamped_iff es clock).1 F.stamped).2.2
        obtain ⟨i, hi, rfl⟩ := List.getElem_of_mem h1
        obtain ⟨j, hj, rfl⟩ := List.getElem_of_mem he1
        have : i = j := by
          apply Classical.byContradiction
          intro hne
          rcases Nat.lt_or_gt_of_ne hne with hl | hl
          · exact List.pairwise_iff_getElem.1 hn i j hi hj hl (h2.trans hk1.symm)
          · exact List.pairwise_iff_getElem.1 hn j i hj hi hl (hk1.trans h2.symm)
        subst this; rfl
      subst this
      rw [hv1] at hrun
      simpa using hrun
theorem MapT.update (h : MapT P k eK eV w b n f) (Kd : Keyed P k) (ht : P.underlying t = some (.map k e)) (hn : n < maxLen) {x : K} {v : V} {kl : Lit} (hkey : keyOf P k (eK x) = some kl) (hinj : ∀ y, eK y = eK x → y = x) {Q : World → Prop}
    (hq : ∀ (w' : World) (g : K → Option V), MapT P k eK eV w' b (n + 1) g → Chg (fun j => j = b) w w' → g x = some v → (∀ y, y ≠ x → g y = f y) → Q w') : mupd P t (.map (some b)) (eK x) (eV v) w Q := by
  have hlt := h.lt
  obtain ⟨es, clock, hb, F, hs, hf⟩ := h
  have hsz : es.size < maxLen := Nat.lt_of_le_of_lt hs hn
  have chg : ∀ o, Chg (fun j => j = b) w (ChangeMaps.setBlock w b o) := fun o => ⟨rfl, rfl, rfl, by simp [ChangeMaps.setBlock], fun i _ hi => ChangeMaps.heap_setBlock_other hb _ hi⟩
  have fin : ∀ es' clock', (Instr.mapUpdate t (.map (some b)) (eK x) (eV v)).run P w = .ok () (ChangeMaps.setBlock w b (.map es' clock')) → Fit P k anyV es' clock' → es'.size ≤ n + 1 →
      (∃ e1 ∈ es'.toList, e1.key = eK x ∧ e1.val = eV v) → (∀ e0 ∈ es.toList, e0.key ≠ eK x → e0 ∈ es'.toList) → (∀ e1 ∈ es'.toList, e1.key ≠ eK x → e1 ∈ es.toList) →
      mupd P t (.map (some b)) (eK x) (eV v) w Q := by
    intro es' clock' hrun F' hs' hnew hold hback
    classical
    refine ⟨_, hrun, hq _ (fun y => if y = x then some v else f y) ⟨es', clock', ChangeMaps.heap_setBlock_same hb _, F', hs', fun y => ?_⟩ (chg _) (by simp) (fun y hy => by simp [hy])⟩
    by_cases hy : y = x
    · subst hy
      obtain ⟨e1, h1, h2, h3⟩ := hnew
      exact .inr ⟨v, by simp, e1, h1, h2, h3⟩
    · have hne : eK y ≠ eK x := fun e => hy (hinj y e)
      rcases hf y with ⟨h0, h1⟩ | ⟨u, hu, e1, h1, h2, h3⟩
      · refine .inl ⟨by simp [hy, h0], fun e1 he1 hk => ?_⟩
        exact h1 e1 (hback e1 he1 (by rw [hk]; exact hne)) hk
      · exact .inr ⟨u, by simp [hy, hu], e1, hold e1 h1 (by rw [h2]; exact hne), h2, h3⟩
  rcases Kd.find w hkey es.toList F.keys with ⟨h1, h2⟩ | ⟨j, e0, h1, h2, h3⟩
  · refine fin (es.push ⟨eK x, eV v, clock⟩) (clock + 1) ?_ ⟨by simp; omega, MapKept.stamped_push F.stamped h2, ?_⟩ (by simp; omega) ⟨⟨eK x, eV v, clock⟩, by simp, rfl, rfl⟩ (fun e0 h0 _ => by simp at h0 ⊢; exact .inl h0) (fun e1 h1 hne => ?_)
    · simp [Instr.mapUpdate, run_underlying ht, MapKept.run_getObj_map hb, Kd.check w false hkey, h1, MapKept.run_setObj_map _ hb, Result.andThen, ChangeMaps.setBlock]
    · intro y hy
      simp only [Array.toList_push, List.mem_append, List.mem_singleton] at hy
      rcases hy with hy | rfl
      · exact F.reads y hy
      · exact ⟨_, WideElems.rd_mk hkey rfl⟩
    · simp only [Array.toList_push, List.mem_append, List.mem_singleton] at h1
      rcases h1 with h1 | rfl
      · exact h1
      · exact absurd rfl hne
  · have hj : es[j]? = some e0 := by simpa using h2
    have hjl : j < es.toList.length := (List.getElem?_eq_some_iff.1 h2).1
    have hkeyf : ∀ e', es[j]? = some e' → ({ e' with key := eK x, val := eV v } : MapEntry).key = e'.key := fun e' he' => by rw [hj] at he'; cases he'; exact h3.symm
    have hlist : (es.modify j (fun e' => { e' with key := eK x, val := eV v })).toList = es.toList.set j { e0 with key := eK x, val := eV v } := by
      apply List.ext_getElem?
      intro i
      simp only [Array.getElem?_toList, Array.getElem?_modify, List.getElem?_set]
      by_cases hi : j = i
      · subst hi; simp [hj]; exact (Array.getElem?_eq_some_iff.1 hj).1
      · simp [hi]
    refine fin (es.modify j (fun e' => { e' with key := eK x, val := eV v })) clock ?_ ⟨by simpa using F.size, MapKept.stamped_modify F.stamped _ _ (fun _ _ => rfl) (fun e' _ he' => hkeyf e' he'), ?_⟩ (by simp; omega) ?_ ?_ ?_
    · simp [Instr.mapUpdate, run_underlying ht, MapKept.run_getObj_map hb, Kd.check w false hkey, h1, hj, h3, Kd.stays w hkey, MapKept.run_setObj_map _ hb, Result.andThen, ChangeMaps.setBlock]
    · intro y hy
      rw [hlist] at hy
      rcases List.mem_or_eq_of_mem_set hy with hy | rfl
      · exact F.reads y hy
      · exact ⟨_, WideElems.rd_mk hkey rfl⟩
    · exact ⟨{ e0 with key := eK x, val := eV v }, by rw [hlist]; exact List.mem_iff_getElem.2 ⟨j, by simpa using hjl, by simp⟩, rfl, rfl⟩
    · intro y hy hne
      rw [hlist]
      obtain ⟨i, hi, rfl⟩ := List.getElem_of_mem hy
      have hij : j ≠ i := fun e => by
        subst e
        have : es.toList[j] = e0 := by rw [List.getElem?_eq_getElem hjl] at h2; exact Option.some.inj h2
        rw [this] at hne; exact hne h3
      exact List.mem_iff_getElem.2 ⟨i, by simpa using hi, by rw [List.getElem_set_ne hij]⟩
    · intro y hy hne
      rw [hlist] at hy
      rcases List.mem_or_eq_of_mem_set hy with hy | rfl
      · exact hy
      · exact absurd rfl hne
end
theorem mkm_intro {w : World} {K : Nat → World → Prop}
    (h : ∀ b w', b = w.heap.size → (∀ {A V : Type} (P : Program) (k : TypeId) (eK : A → Value) (eV : V → Value), MapT P k eK eV w' b 0 (fun _ => none)) → Ext w w' → w'.heap.size = b + 1 → K b w') : mkm w K :=
  h _ _ rfl (fun P k eK eV => MapT.made w) ((Below.refl _ w).alloc (Nat.le_refl _) _) (by simp)
end Go.Sh
namespace Go.Proofs
open Go Go.Sh Go.RowKit

/- collect: calling a function with each node of a kind -/
def ofK (kind : Int) (f : Fo) : List Nn := (nodesF f).filter fun x => decide (x.k = kind)
theorem ofK_cons (kind : Int) (k t n) (ps r : Fo) : ofK kind (.cons k t n ps r) = (if k = kind then [⟨k, t, n, ps⟩] else []) ++ (ofK kind ps ++ ofK kind r) := by
  unfold ofK
  rw [nodesF, List.filter_cons, List.filter_append]
  by_cases h : k = kind
  · simp [h]
  · simp [h]
theorem ofK_len (kind : Int) (f : Fo) : (ofK kind f).length ≤ f.size := by
  unfold ofK; rw [← nodesF_len]; exact List.length_filter_le _ _

/- Pages -/
def pgF (f : Fo) : List (List UInt8) := (ofK 3 f).map (·.t)
def pgE (f : Fo) : Int := if patE f ≠ 0 then patE f else if (pgF f).Nodup then 0 else 7
def pgR (f : Fo) : List (List UInt8) := if pgE f ≠ 0 then [] else pgF f
theorem slT_str : SlT Tryd.prog 38 9 1 16 (.string ⟨⟨[]⟩⟩) := ⟨by kernel_rfl, by kernel_rfl, rfl, by decide⟩
theorem kd9 : Maps.Keyed Tryd.prog 9 := Maps.string_keyed (by kernel_rfl)
abbrev eS (s : List UInt8) : Value := .string ⟨⟨s⟩⟩
abbrev eB (b : Bool) : Value := .bool b
theorem keyS {s : List UInt8} (h : s.length ≤ 4611686018427387904) : keyOf Tryd.prog 9 (eS s) = some (.string s) :=
  WideMaps.keyOf_string_mk (P := Tryd.prog) (by kernel_rfl) (show (⟨⟨s⟩⟩ : ByteArray).size ≤ maxLen by simp only [maxLen]; show s.length ≤ _; omega)
theorem zero_run {P : Program} {T : TypeId} {v : Value} (h : (P.info? T).bind (·.zero) = some v) (w : World) : (zeroValue T).run P w = .ok v w := by
  cases hi : P.info? T with
  | none => rw [hi] at h; cases h
  | some i =>
    rw [hi] at h
    have hz : i.zero = some v := h
    simp [zeroValue, typeInfo, hi, hz]

/- the state of the walk over the pages -/
def PgS (b6 b8 b10 b13 B : Nat) (W : World) (oa : Option Addr) (l : List (List UInt8)) : Prop :=
  ∃ oc fm, Blk W b13 [.bool (!decide l.Nodup)] 4 ∧ Blk W b10 [.map (some b8)] 91 ∧ MapT Tryd.prog 9 eS eB W b8 l.length fm ∧ (∀ t, fm t = if t ∈ l then some true else none) ∧
    Blk W b6 [.slice oa l.length oc] 38 ∧ OwnL encStr W B 9 oa l.length oc l
end Go.Proofs
namespace Go.Proofs
open Go Go.Sh Go.RowKit

/- what is written -/
def writN (k : Int) (t : List UInt8) (n : Int) (w : List UInt8) : List UInt8 := if k = 1 ∨ k = 10 then t else if k = 6 then List.replicate n.toNat 95 else w
def writF : Fo → List UInt8
  | .nil => []
  | .cons k t n ps r => writN k t n (writF ps) ++ writF r
theorem writF_app : ∀ (f g : Fo), writF (f.app g) = writF f ++ writF g
  | .nil, g => rfl
  | .cons k t n ps r, g => by simp only [Fo.cons_app, writF, writF_app r, List.append_assoc]
theorem writF_len : ∀ (f : Fo), good f → (writF f).length ≤ tlen f + 100 * f.size
  | .nil, _ => by simp [writF]
  | .cons k t n ps r, h => by
    have h1 := writF_len ps h.2.1
    have h2 := writF_len r h.2.2
    have h3 : (writN k t n (writF ps)).length ≤ t.length + 100 + (writF ps).length := by
      unfold writN
      split
      · omega
      · split
        · rename_i h6
          have := h.1.2.2.1 (by simp only [numsF]; rw [h6]; rfl)
          simp; omega
        · omega
    simp only [writF, List.length_append, tlen, Fo.size]; omega
set_option maxRecDepth 20000 in
theorem written_spec {S : Nat → Prop} : ∀ (f : Fo) {R : Ending → World → Prop} {w : World} {a : Option Addr} {n c : Nat} (hs : f.size ≤ 1000000000) (hg : good f) (hl : tlen f ≤ 100000000000) (hf : SlF S w a n f)
    (h : ∀ w', Ext w w' → R (.returned (.string ⟨⟨writF f⟩⟩)) w'), Calls Tryd.prog F_legibility_written ⟨[.slice a n c]⟩ w R := by
  intro f
  induction hz : f.size using Nat.strongRecOn generalizing f with
  | _ z ih =>
  intro R w a n c hs hg hl hf h
  apply c_legibility_written
  have hn := hf.1
  have hfl := f.len_le_size
  have hlen := writF_len f hg
  refine al_intro fun b2 w3 hb2 B2 e3 s3 => ?_
  have hbld : BldAt w3 b2 none [] := ⟨.pointer none, 0, B2, .inl rfl, Owns.nil _ _ _ _⟩
  refine ⟨fun i W m => ∃ (pr r : Fo) (bo : Option Addr), f = pr.app r ∧ i = pr.len ∧ m = r.len ∧ BldAt W b2 bo (writF pr) ∧ Ext w W, ⟨_, .nil, f, none, rfl, rfl, rfl, hbld, e3⟩, ?_⟩
  rintro _ W m ⟨pr, r, bo, hpr, rfl, rfl, hb, he⟩ _
  refine br_split (fun hlt => ?_) (fun hge => ?_)
  · obtain ⟨k, t, mm, ps, r, rfl⟩ := Fo.next hpr (by omega)
    have hsl := Fo.sub_len hpr
    have hsz := Fo.sub_size hpr
    have e1 : f = (pr.app (.one k t mm ps)).app r := by rw [Fo.app_one_app]; exact hpr
    have hG := hg
    rw [hpr, good_app] at hG
    obtain ⟨hgpr, hok, hgp, _⟩ := hG
    have htl : tlen (.cons k t mm ps r) ≤ tlen f := by rw [hpr, tlen_app]; omega
    simp only [tlen] at htl
    have hwl : (writF pr).length + (writN k t mm (writF ps)).length ≤ (writF f).length := by
      rw [hpr, writF_app, writF]; simp only [List.length_append]; omega
    have hw1 : writF (pr.app (.one k t mm ps)) = writF pr ++ writN k t mm (writF ps) := by rw [writF_app]; simp [Fo.one, writF]
    obtain ⟨q, a', c', hq, hSq, hql, hN⟩ := (hf.ext he).get hpr
    refine hq _ ⟨k, hN.kind, t, hN.text, mm, hN.num, a', ps.len, c', hN.parts, ?_⟩
    refine al_stL (by simp) (by intro u hu; simp only [List.mem_cons, List.not_mem_nil, or_false] at hu; rcases hu with rfl | rfl | rfl | rfl <;> rfl) fun bx w1 hbx hBx e2 s2 => ?_
    obtain ⟨x0, x1, x2, x3⟩ := blk4 hBx
    have he1 := ext_trans he e2
    have zz := he.size
    have wr : ∀ (s : List UInt8) (W3 : World) (K : Ending → World → Prop), s = writN k t mm (writF ps) → Ext w1 W3 → (∀ w'' (v : Int) (v2 : Value), (∃ m' : Nat, m' < (Fo.cons k t mm ps r).len ∧ ∃ (pr1 r1 : Fo) (bo1 : Option Addr), f = pr1.app r1 ∧ IntKind.i64.wrap ((pr.len : Int) + 1) = pr1.len ∧ m' = r1.len ∧ BldAt w'' b2 bo1 (writF pr1) ∧ Ext w w'') → K (.returned (.tuple ⟨[.int .i64 v, v2]⟩)) w'') →
        Calls Tryd.prog F_strings_Builder_WriteString ⟨[.pointer (some ⟨b2, 0, none⟩), .string ⟨⟨s⟩⟩]⟩ W3 K := by
      rintro s W3 K rfl e5 hK
      have z5 := e5.size
      have hb3 := (hb.ext e2).ext e5
      refine WriteString_spec hb3 (by omega) fun a'' w'' hb'' hk'' hc'' => ?_
      refine hK w'' _ _ ⟨r.len, by simp, pr.app (.one k t mm ps), r, a'', e1, by rw [wrap_nat (by omega)]; simp [Fo.one], rfl, by rw [hw1]; exact hb'', ?_⟩
      exact ext_chgS (ext_trans he1 e5) hc'' fun j hj => hj.elim (fun e => by omega) (fun e => by have := (hb3.bk e).1; omega)
    refine ⟨k, x0, ?_⟩
    intro K18 hK18
    have k18 : ∀ v, v = decide (k = 1 ∨ k = 10) → K18 v w1 := by
      rintro _ rfl
      refine hK18 _ _ fun _ => br_split (fun g => ?_) (fun g => br_split (fun g6 => ?_) (fun g6 => ?_))
      · exact ⟨t, x1, wr _ _ _ (by unfold writN; rw [if_pos g]) (Below.refl _ _) fun w'' v v2 hh => ⟨_, _, rfl, hh⟩⟩
      · have hm : 0 ≤ mm ∧ mm < 100 := hok.2.2.1 (by simp only [numsF]; rw [show k = 6 from g6]; rfl)
        refine ⟨mm, x2, ?_⟩
        rw [show mm = ((mm.toNat : Nat) : Int) by omega]
        refine Repeat_spec _ (by omega) fun W3 e5 => ⟨_, rfl, wr _ _ _ (by unfold writN; rw [if_neg g, if_pos g6]) e5 fun w'' v v2 hh => ⟨_, _, rfl, ?_⟩⟩
        rw [show ((mm.toNat : Nat) : Int) = mm by omega]
        exact hh
      · refine ⟨a', ps.len, c', x3, ?_⟩
        refine ih _ (hz ▸ hsz) ps rfl (by omega) hgp (by omega) (hN.sl.ext e2) fun W3 e5 => ⟨_, rfl, wr _ _ _ (by unfold writN; rw [if_neg g, if_neg g6]) e5 fun w'' v v2 hh => ⟨_, _, rfl, hh⟩⟩
    exact br_split (fun g => k18 _ (by simp [g])) (fun g => k18 _ (by simp [g]))
  · obtain ⟨rfl, rfl⟩ := Fo.last hpr (by omega)
    refine String_spec hb fun w5 hbel => ⟨_, rfl, h _ (he.trans (hbel.mono (by omega)))⟩

/- Written -/
def wriE (f : Fo) : Int := if errU f ≠ 0 then errU f else if 65536 < (writF f).length then 4 else 0
def wriS (f : Fo) : List UInt8 := if wriE f ≠ 0 then [] else writF f
theorem wriE_zero {f : Fo} (h : wriE f = 0) : errU f = 0 ∧ (writF f).length ≤ 65536 ∧ wriS f = writF f := by
  have h' := h
  unfold wriE at h
  split at h
  · rename_i hh; exact absurd h hh
  · rename_i hh
    split at h
    · cases h
    · exact ⟨Decidable.not_not.1 hh, by omega, by unfold wriS; rw [if_neg (by simp [h'])]⟩
theorem Written_spec {R : Ending → World → Prop} {S : Nat → Prop} {w : World} {a : Option Addr} {n c : Nat} (f : Fo) (hs : small f) (hF : Forms w) (hf0 : SlF S w a n f)
    (h : ∀ w', Ext w w' → R (.returned (.tuple ⟨[.string ⟨⟨wriS f⟩⟩, .int .i64 (wriE f)]⟩)) w') : Calls Tryd.prog F_legibility_Written ⟨[.slice a n c]⟩ w R := by
  apply c_legibility_Written
  unfold wriS wriE at h
  refine checkL_spec f hs hF hf0 fun w1 e1 => ⟨_, rfl, br_split (fun g => ?_) (fun g => ?_)⟩
  · simp only [if_pos g] at h; exact h _ e1
  simp only [if_neg g] at h
  obtain ⟨hc0, _⟩ := errU_zero (Decidable.not_not.1 g)
  obtain ⟨q1, q2, q3⟩ := check_zero hc0
  refine written_spec f (by omega) q2 (by omega) (hf0.ext e1) fun w2 e2 => ⟨_, rfl, ?_⟩
  apply c_legibility_limited
  have E := ext_trans e1 e2
  refine br_split (fun g1 => ⟨_, _, rfl, ?_⟩) (fun g1 => ⟨_, _, rfl, ?_⟩)
  · simp only [if_pos (show 65536 < (writF f).length by omega)] at h; exact h _ E
  · simp only [if_neg (show ¬ 65536 < (writF f).length by omega)] at h; exact h _ E

/- the reference: the same, where nodes of texts and gaps have no parts -/
theorem no_parts {k : Int} {t : List UInt8} {n : Int} {ps : Fo} (h : nodeOk k t n ps) (hk : k = 1 ∨ k = 6) : ps = .nil :=
  Fo.eq_nil_of_len (h.2.2.2.2.1 (by unfold partsF; rcases hk with rfl | rfl <;> rfl))
set_option maxRecDepth 20000 in
theorem written12_spec {S : Nat → Prop} : ∀ (f : Fo) {R : Ending → World → Prop} {w : World} {a : Option Addr} {n c : Nat} (hs : f.size ≤ 1000000000) (hg : good f) (hl : tlen f ≤ 100000000000) (hf : SlF S w a n f)
    (h : ∀ w', Ext w w' → R (.returned (.string ⟨⟨writF f⟩⟩)) w'), Calls Tryd.prog F_ref12_written ⟨[.slice a n c]⟩ w R := by
  intro f
  induction hz : f.size using Nat.strongRecOn generalizing f with
  | _ z ih =>
  intro R w a n c hs hg hl hf h
  apply c_ref12_written
  have hn := hf.1
  have hfl := f.len_le_size
  have hlen := writF_len f hg
  refine ⟨fun out i W m => ∃ (pr r : Fo), f = pr.app r ∧ i = pr.len ∧ m = r.len ∧ out = writF pr ∧ Ext w W, ⟨_, .nil, f, rfl, rfl, rfl, rfl, Below.refl _ _⟩, ?_⟩
  rintro _ _ W m ⟨pr, r, hpr, rfl, rfl, rfl, he⟩ _
  refine br_split (fun hlt => ?_) (fun hge => ?_)
  · obtain ⟨k, t, mm, ps, r, rfl⟩ := Fo.next hpr (by omega)
    have hsl := Fo.sub_len hpr
    have hsz := Fo.sub_size hpr
    have e1 : f = (pr.app (.one k t mm ps)).app r := by rw [Fo.app_one_app]; exact hpr
    have hG := hg
    rw [hpr, good_app] at hG
    obtain ⟨hgpr, hok, hgp, _⟩ := hG
    have htl : tlen (.cons k t mm ps r) ≤ tlen f := by rw [hpr, tlen_app]; omega
    simp only [tlen] at htl
    have hwl : (writF pr).length + (writN k t mm (writF ps)).length ≤ (writF f).length := by
      rw [hpr, writF_app, writF]; simp only [List.length_append]; omega
    have hw1 : writF (pr.app (.one k t mm ps)) = writF pr ++ writN k t mm (writF ps) := by rw [writF_app]; simp [Fo.one, writF]
    obtain ⟨q, a', c', hq, hSq, hql, hN⟩ := (hf.ext he).get hpr
    have fin : ∀ (o : List UInt8) W2, o = writF pr ++ writN k t mm (writF ps) → Ext W W2 → ∃ m' : Nat, m' < (Fo.cons k t mm ps r).len ∧ ∃ (pr1 r1 : Fo), f = pr1.app r1 ∧ IntKind.i64.wrap ((pr.len : Int) + 1) = pr1.len ∧ m' = r1.len ∧ o = writF pr1 ∧ Ext w W2 := by
      rintro _ W2 rfl e2
      exact ⟨r.len, by simp, pr.app (.one k t mm ps), r, e1, by rw [wrap_nat (by omega)]; simp [Fo.one], rfl, hw1.symm, ext_trans he e2⟩
    intro K8 hK8
    -- the text is added
    have k8 : ∀ o, o = writF pr ++ (if k = 1 ∨ k = 10 then t else []) → K8 o W := by
      rintro _ rfl
      refine hK8 _ _ fun _ => ?_
      intro K11 hK11
      have k11 : ∀ o W2, o = writF pr ++ (if k = 1 ∨ k = 10 then t else if k = 6 then List.replicate mm.toNat 95 else []) → Ext W W2 → K11 o W2 := by
        rintro _ W2 rfl e2
        refine hK11 _ _ fun _ => ?_
        obtain ⟨q', a'', c'', hq', hSq', hql', hN'⟩ := (hf.ext (ext_trans he e2)).get hpr
        refine hq' _ ⟨k, hN'.kind, br_split (fun g => ?_) (fun g => ?_)⟩
        · refine hq' _ ⟨a'', ps.len, c'', hN'.parts, ?_⟩
          refine ih _ (hz ▸ hsz) ps rfl (by omega) hgp (by omega) hN'.sl fun W3 e3 => ⟨_, rfl, ?_⟩
          have key : writF pr ++ (if k = 1 ∨ k = 10 then t else if k = 6 then List.replicate mm.toNat 95 else []) ++ writF ps = writF pr ++ writN k t mm (writF ps) := by
            rw [List.append_assoc]
            congr 1
            unfold writN
            by_cases g1 : k = 1
            · rw [no_parts hok (.inl g1)]; simp [g1, writF]
            · by_cases g6 : k = 6
              · rw [no_parts hok (.inr g6)]; simp [g6, writF]
              · rw [if_neg (by omega), if_neg g6, if_neg (by omega), if_neg g6]; rfl
          have kl := congrArg List.length key
          simp only [List.length_append] at kl
          refine ⟨by simp only [List.length_append]; omega, ?_⟩
          rw [key]
          exact fin _ _ rfl (ext_trans e2 e3)
        · have g10 := Decidable.not_not.1 g
          exact fin _ _ (by unfold writN; rw [if_pos (.inr g10), if_pos (.inr g10)]) e2
      refine hq _ ⟨k, hN.kind, br_split (fun g => ?_) (fun g => ?_)⟩
      · have hm : 0 ≤ mm ∧ mm < 100 := hok.2.2.1 (by simp only [numsF]; rw [show k = 6 from g]; rfl)
        refine hq _ ⟨mm, hN.num, ?_⟩
        rw [show mm = ((mm.toNat : Nat) : Int) by omega]
        refine lost12_spec _ (by omega) fun W3 e3 => ⟨_, rfl, ?_⟩
        rw [if_neg (by omega), List.append_nil]
        refine ⟨by simp; omega, k11 _ _ ?_ e3⟩
        rw [if_neg (by omega), if_pos g]
      · exact k11 _ _ (by rw [if_neg g]) (Below.refl _ _)
    intro K32 hK32
    have k32 : ∀ v, v = decide (k = 1 ∨ k = 10) → K32 v W := by
      rintro _ rfl
      refine hK32 _ _ fun _ => br_split (fun g => ?_) (fun g => ?_)
      · refine hq _ ⟨t, hN.text, by omega, ?_⟩
        exact k8 _ (by rw [if_pos g])
      · exact k8 _ (by rw [if_neg g, List.append_nil])
    refine hq _ ⟨k, hN.kind, br_split (fun g => k32 _ (by simp [g])) (fun g => ?_)⟩
    refine hq _ ⟨k, hN.kind, ?_⟩
    exact k32 _ (by simp [g])
  · obtain ⟨rfl, rfl⟩ := Fo.last hpr (by omega)
    exact h _ he
theorem Written12_spec {R : Ending → World → Prop} {S : Nat → Prop} {w : World} {a : Option Addr} {n c : Nat} (f : Fo) (hf0 : SlF S w a n f)
    (h : ∀ w', Ext w w' → R (.returned (.tuple ⟨[.string ⟨⟨wriS f⟩⟩, .int .i64 (wriE f)]⟩)) w') : Calls Tryd.prog F_ref12_Written ⟨[.slice a n c]⟩ w R := by
  apply c_ref12_Written
  unfold wriS wriE at h
  refine check12_spec f hf0 fun w1 e1 => ⟨_, rfl, br_split (fun g => ?_) (fun g => ?_)⟩
  · simp only [if_pos g] at h; exact h _ e1
  simp only [if_neg g] at h
  obtain ⟨hc0, _⟩ := errU_zero (Decidable.not_not.1 g)
  obtain ⟨q1, q2, q3⟩ := check_zero hc0
  refine written12_spec f (by omega) q2 (by omega) (hf0.ext e1) fun w2 e2 => ⟨_, rfl, ?_⟩
  have E := ext_trans e1 e2
  refine br_split (fun g1 => ?_) (fun g1 => ?_)
  · simp only [if_pos (show 65536 < (writF f).length by omega)] at h; exact h _ E
  · simp only [if_neg (show ¬ 65536 < (writF f).length by omega)] at h; exact h _ E
end Go.Proofs
namespace Go.Proofs
open Go Go.Sh Go.RowKit

abbrev Rw := List UInt8 × List UInt8
def encR : Enc Rw := ⟨fun x => [.string ⟨⟨x.1⟩⟩, .string ⟨⟨x.2⟩⟩], 2, fun _ => rfl, by decide, by intro x v hv; simp only [List.mem_cons, List.not_mem_nil, or_false] at hv; rcases hv with rfl | rfl <;> rfl⟩
theorem slT_rw : SlT Tryd.prog 32 42 2 32 (.agg ⟨[.string ⟨⟨[]⟩⟩, .string ⟨⟨[]⟩⟩]⟩) := ⟨by kernel_rfl, by kernel_rfl, rfl, by decide⟩
abbrev eR (p : Rw) : Value := .agg ⟨[.string ⟨⟨p.1⟩⟩, .string ⟨⟨p.2⟩⟩]⟩
theorem laidOutK : laidOutB Tryd.prog = true := by kernel_rfl
theorem kdRw : Maps.Keyed Tryd.prog 42 :=
  Maps.Keyed.of_law (deep_law_laid laidOutK (m := 3) (by omega) (of_decide_eq_true (by kernel_rfl)) (by kernel_rfl) (by kernel_rfl))
theorem keyRw {p : Rw} (h1 : p.1.length ≤ 4611686018427387904) (h2 : p.2.length ≤ 4611686018427387904) : ∃ kl, keyOf Tryd.prog 42 (eR p) = some kl := by
  obtain ⟨fs, hu⟩ : ∃ fs, Tryd.prog.underlying 42 = some (.struct fs) := ⟨_, Tryd.underlying42⟩
  have hk : Tryd.prog.keyType 42 = true := by kernel_rfl
  have hc : Tryd.prog.cellsOf 42 = 2 := by kernel_rfl
  have hf : (eR p).formed Tryd.prog 42 = true := by simp [Value.formed, hu, hc]
  obtain ⟨d, hd⟩ : ∃ d, Tryd.prog.types.size = d + 1 := ⟨Tryd.prog.types.size - 1, by
    have : 0 < Tryd.prog.types.size := of_decide_eq_true (by kernel_rfl)
    omega⟩
  unfold keyOf
  rw [hu]
  simp only [hk, hf, Bool.and_self, if_true]
  have hl : ∃ ls, Tryd.prog.keyLits (Tryd.prog.types.size + 1) 42 (eR p).cells.toList = some ls := by
    rw [hd]
    have s9 : Tryd.prog.cellsOf 9 = 1 := by kernel_rfl
    have u9 : Tryd.prog.underlying 9 = some .string := by kernel_rfl
    have a1 : (⟨⟨p.1⟩⟩ : ByteArray).size ≤ maxLen := by simp only [maxLen]; show p.1.length ≤ _; omega
    have a2 : (⟨⟨p.2⟩⟩ : ByteArray).size ≤ maxLen := by simp only [maxLen]; show p.2.length ≤ _; omega
    simp [Program.keyLits, Tryd.underlying42, Value.cells, hc, s9, u9, a1, a2]
  obtain ⟨ls, hl⟩ := hl
  exact ⟨_, by rw [hl]; rfl⟩
end Go.Proofs
namespace Go.Proofs
open Go Go.Sh Go.RowKit

/- abbreviations and what they stand for -/
def pairN (x : Nn) : List Rw := if x.k = 10 then [(x.t, patF x.ps)] else []
def pairP (l : List Nn) : List Rw := l.flatMap pairN
def pairL (f : Fo) : List Rw := pairP (nodesF f)
theorem pairP_app (l m : List Nn) : pairP (l ++ m) = pairP l ++ pairP m := by simp [pairP]
def memR (x : Rw) : List Rw → Bool
  | [] => false
  | y :: l => decide (x = y) || memR x l
theorem memR_iff (x : Rw) : ∀ l : List Rw, memR x l = true ↔ x ∈ l
  | [] => by simp [memR]
  | y :: l => by simp only [memR, Bool.or_eq_true, decide_eq_true_eq, List.mem_cons, memR_iff x l]
def dedup (l : List Rw) : List Rw := l.foldl (fun acc x => if memR x acc = true then acc else acc ++ [x]) []
theorem dedup_snoc (l : List Rw) (x : Rw) : dedup (l ++ [x]) = if memR x (dedup l) = true then dedup l else dedup l ++ [x] := by unfold dedup; rw [List.foldl_append]; rfl
theorem snoc_ind {α : Type} {Q : List α → Prop} (h0 : Q []) (h1 : ∀ l x, Q l → Q (l ++ [x])) (l : List α) : Q l := by
  obtain ⟨m, rfl⟩ : ∃ m : List α, l = m.reverse := ⟨l.reverse, by simp⟩
  induction m with
  | nil => exact h0
  | cons x m ih => rw [List.reverse_cons]; exact h1 _ _ ih
theorem mem_dedup (l : List Rw) : ∀ x : Rw, x ∈ dedup l ↔ x ∈ l := by
  refine snoc_ind (Q := fun l => ∀ x : Rw, x ∈ dedup l ↔ x ∈ l) (by simp [dedup]) (fun l y ih x => ?_) l
  rw [dedup_snoc]
  split
  · rename_i h
    rw [memR_iff] at h
    rw [ih, List.mem_append]
    constructor
    · exact .inl
    · rintro (h1 | h1)
      · exact h1
      · simp only [List.mem_singleton] at h1; subst h1; exact (ih _).1 h
  · simp [ih]
theorem dedup_len (l : List Rw) : (dedup l).length ≤ l.length := by
  refine snoc_ind (Q := fun l => (dedup l).length ≤ l.length) (by simp [dedup]) (fun l y ih => ?_) l
  rw [dedup_snoc]; split <;> simp <;> omega
theorem dedup_old {l : List Rw} {x : Rw} (h : x ∈ l) : dedup (l ++ [x]) = dedup l := by rw [dedup_snoc, if_pos ((memR_iff _ _).2 ((mem_dedup _ _).2 h))]
theorem dedup_new {l : List Rw} {x : Rw} (h : x ∉ l) : dedup (l ++ [x]) = dedup l ++ [x] := by rw [dedup_snoc, if_neg (fun hh => h ((mem_dedup _ _).1 ((memR_iff _ _).1 hh)))]
theorem dedup_nodup (l : List Rw) : (dedup l).Nodup := by
  refine snoc_ind (Q := fun l => (dedup l).Nodup) (by simp [dedup]) (fun l y ih => ?_) l
  by_cases h : y ∈ l
  · rw [dedup_old h]; exact ih
  · rw [dedup_new h, List.nodup_append]
    refine ⟨ih, by simp, fun a ha b hb e => ?_⟩
    simp only [List.mem_singleton] at hb
    subst hb e
    exact h ((mem_dedup _ _).1 ha)
theorem pairP_len (l : List Nn) : (pairP l).length ≤ l.length := by
  induction l with
  | nil => simp [pairP]
  | cons x l ih =>
    have e : pairP (x :: l) = pairN x ++ pairP l := rfl
    have : (pairN x).length ≤ 1 := by unfold pairN; split <;> simp
    rw [e, List.length_append, List.length_cons]; omega
def longB (p : Rw) : Bool := decide (65536 < p.2.length)
def pairE (f : Fo) : Int := if errU f ≠ 0 then errU f else if (pairL f).any longB then 4 else 0
def pairR (f : Fo) : List Rw := if pairE f ≠ 0 then [] else dedup (pairL f)
theorem sub_facts : ∀ (f : Fo) (x : Nn), x ∈ nodesF f → x.ps.size ≤ f.size ∧ tlen x.ps ≤ tlen f ∧ (good f → good x.ps) ∧ x.t.length ≤ tlen f
  | .nil, x, h => by simp [nodesF] at h
  | .cons k t n ps r, x, h => by
    simp only [nodesF, List.mem_cons, List.mem_append] at h
    simp only [Fo.size, tlen]
    rcases h with rfl | h | h
    · exact ⟨by show ps.size ≤ _; omega, by show tlen ps ≤ _; omega, fun h => h.2.1, by show t.length ≤ _; omega⟩
    · obtain ⟨a, b, c, d⟩ := sub_facts ps x h
      exact ⟨by omega, by omega, fun h => c h.2.1, by omega⟩
    · obtain ⟨a, b, c, d⟩ := sub_facts r x h
      exact ⟨by omega, by omega, fun h => c h.2.2, by omega⟩

/- the state of the walk -/
def PaS (b2 b4 b13 b15 b17 B : Nat) (W : World) (oa : Option Addr) (l : List Rw) : Prop :=
  ∃ oc fm, Blk W b13 [.slice oa (dedup l).length oc] 32 ∧ OwnL encR W B 42 oa (dedup l).length oc (dedup l) ∧ Blk W b17 [.map (some b15)] 79 ∧ MapT Tryd.prog 42 eR eB W b15 l.length fm ∧ (∀ p, fm p = if p ∈ l then some true else none) ∧
    (∃ v, Blk W b2 [v] 32) ∧ (∃ v, Blk W b4 [v] 25) ∧ (∀ p ∈ l, longB p = false)
theorem PaS.chg {b2 b4 b13 b15 b17 B : Nat} {W W' : World} {oa : Option Addr} {l : List Rw} {S : Nat → Prop} (h : PaS b2 b4 b13 b15 b17 B W oa l) (hc : Chg S W W') (hs : ∀ k, (k = b2 ∨ k = b4 ∨ k = b13 ∨ k = b15 ∨ k = b17 ∨ bk oa k) → ¬ S k) : PaS b2 b4 b13 b15 b17 B W' oa l := by
  obtain ⟨oc, fm, p1, p2, p3, p4, p5, ⟨v2, p6⟩, ⟨v4, p7⟩, p8⟩ := h
  exact ⟨oc, fm, hc.blk p1 (hs _ (by simp)), Owns.chg p2 hc (fun k hk => hs _ (by simp [hk])), hc.blk p3 (hs _ (by simp)), p4.chg hc (hs _ (by simp)), p5, ⟨v2, hc.blk p6 (hs _ (by simp))⟩, ⟨v4, hc.blk p7 (hs _ (by simp))⟩, p8⟩
theorem blk2' {w : World} {b : Nat} {v0 v1 : Value} {T : TypeId} (h : Blk w b [v0, v1] T) : w.cell? ((⟨b, 0, none⟩ : Addr).add 0) = some v0 ∧ w.cell? ((⟨b, 0, none⟩ : Addr).add 1) = some v1 := by
  simp only [add_none, h.cell]; exact ⟨rfl, rfl⟩

set_option maxRecDepth 20000 in
theorem Pairs_spec {R : Ending → World → Prop} {S : Nat → Prop} {w : World} {a : Option Addr} {n c : Nat} (f : Fo) (hs : small f) (hF : Forms w) (hf0 : SlF S w a n f)
    (h : ∀ a' c' w', RowAt encR (fun k => w.heap.size ≤ k) w' a' (pairR f).length (pairR f) → Ext w w' → R (.returned (.tuple ⟨[.slice a' (pairR f).length c', .int .i64 (pairE f)]⟩)) w') :
    Calls Tryd.prog F_legibility_Pairs ⟨[.slice a n c]⟩ w R := by
  apply c_legibility_Pairs
  refine al_intro fun b2 w3 hb2 B2 e3 s3 => ?_
  refine al_intro fun b4 w5 hb4 B4 e5 s5 => ?_
  have E5 := ext_trans e3 e5
  refine checkL_spec f hs (hF.ext E5) (hf0.ext E5) fun w7 e7 => ⟨_, rfl, ?_⟩
  have E7 := ext_trans E5 e7
  have z5 := E5.size
  have z7 := e7.size
  have B2' := (B2.ext e5).ext e7
  have B4' := B4.ext e7
  refine br_split (fun g => ?_) (fun g => ?_)
  · refine stL_one B2' rfl fun w9 q2 hc9 s9 => stL_one (hc9.blk B4' (by omega)) rfl fun w10 q4 hc10 s10 => ?_
    have q2' := hc10.blk q2 (by omega)
    have he : pairE f = errU f := by unfold pairE; rw [if_pos g]
    have hr : pairR f = [] := by unfold pairR; rw [if_pos (by rw [he]; exact g)]
    rw [hr, he] at h
    refine ⟨none, 0, 0, by rw [q2'.cell]; rfl, _, by rw [q4.cell]; rfl, ?_⟩
    exact h none 0 w10 (RowAt.nil _) (ext_chgS (ext_chgS E7 hc9 fun k hk => by omega) hc10 fun k hk => by omega)
  have he0 := Decidable.not_not.1 g
  obtain ⟨hc0, _⟩ := errU_zero he0
  obtain ⟨q1, q2, q3⟩ := check_zero hc0
  refine al_intro fun b13 w14 hb13 B13 e14 s14 => ?_
  refine mkm_intro fun b15 w16 hb15 M15 e16 s16 => ?_
  refine al_intro fun b17 w18 hb17 B17 e18 s18 => ?_
  refine stL_one B17 rfl fun w19 B19 hc19 s19 => ?_
  have e19 : Ext w16 w19 := ext_chgS e18 hc19 fun k hk => by omega
  refine allU_spec fun bs w21 Bs e21 hbs => ⟨_, _, _, rfl, fun base => ?_⟩
  have e1421 := ext_trans (ext_trans e16 e19) e21
  have e721 := ext_trans e14 e1421
  have E21 := ext_trans E7 e721
  have z21 := e721.size
  have zE := E21.size
  have ls := Bs.lt
  have hf : SlF (fun k => S k ∧ k < w.heap.size) w a n f := hf0.imp fun k hk hl => ⟨hk, hl⟩
  have hst : PaS b2 b4 b13 b15 b17 (b17 + 1) w21 none [] :=
    ⟨0, fun _ => none, B13.ext e1421, Owns.nil _ _ _ _, B19.ext e21, ((M15 _ _ _ _).ext e19).ext e21, fun p => by simp, ⟨_, B2'.ext e721⟩, ⟨_, B4'.ext e721⟩, fun p hp => by simp at hp⟩
  have hpl := pairP_len (nodesF f)
  rw [nodesF_len] at hpl
  rw [cd_legibility_Pairs_1]
  refine RFw_lawO anA_legibility_Pairs_1 anB_legibility_Pairs_1 (gf := F_legibility_all_1) rfl (by kernel_rfl) (xs := nodesU f false) (E := NuE (fun k => (S k ∧ k < w.heap.size) ∨ k = bs) w21) (Rd := fun k => (S k ∧ k < w.heap.size) ∨ k = bs)
    (fun v1 he => (all_iterO f hs bs v1 (fun k hk => by have := he.size; omega) (Bs.ext he) ((hf.ext (ext_trans E21 he)).imp fun k hk _ => .inl hk) (.inr rfl)).mono ?_) (fun y vs hE => by obtain ⟨a', c', rfl, _⟩ := hE; rfl) (by decide) (fun k hk => by omega)
    (fun k => k = b2 ∨ k = b4 ∨ k = b13 ∨ k = b15 ∨ k = b17) (fun k hk => by omega)
    (fun pre S1 W => ∃ oa, PaS b2 b4 b13 b15 b17 (b17 + 1) W oa (pairP (pre.map (·.1))) ∧ (∀ k, S1 k ↔ k = b2 ∨ k = b4 ∨ k = b13 ∨ k = b15 ∨ k = b17 ∨ bk oa k) ∧ Ext w W ∧ (∀ k, bk oa k → w21.heap.size ≤ k) ∧ Blk W bs [.slice a n c] 22)
    (fun S1 W => Blk W b2 [.slice none 0 0] 32 ∧ Blk W b4 [.int .i64 4] 25 ∧ S1 b2 ∧ S1 b4 ∧ Ext w W ∧ (pairL f).any longB = true) (fun _ _ => False)
    ?_ ?_ (fun _ _ _ h => h.elim) ⟨none, hst, fun k => by simp [bk], E21, (fun k hk => by simp [bk] at hk), Bs⟩ ?_ ?_ ?_ (fun _ _ _ _ _ _ _ h => h.elim)
  · rintro x vs ⟨a', c', rfl, hsl⟩
    exact ⟨a', c', rfl, hsl.keep' fun k hk hl => ⟨hk, by omega, ((he.block k (by omega))).symm⟩⟩
  · rintro pre S1 W W' ⟨oa, g1, g2, g3, g4, g5⟩ hc
    exact ⟨oa, g1.chg hc (fun k hk hh => hh.2 ((g2 k).2 hk)), g2, ext_chgS g3 hc (fun k hk => by omega), g4, hc.blk g5 (fun hh => by omega)⟩
  · rintro S1 W W' ⟨g1, g2, g3, g4, g5, g6⟩ hc
    exact ⟨hc.blk g1 (fun hh => hh.2 g3), hc.blk g2 (fun hh => hh.2 g4), g3, g4, ext_chgS g5 hc (fun k hk => by omega), g6⟩
  · rintro pre ⟨⟨k1, t1, m1, ps1⟩, u1⟩ vs S1 W l ⟨a', c', rfl, hsl⟩ hpre hl1 hl2 hl3 hS1 ⟨oa, g1, g2, g3, g4, g5⟩
    refine Eq.mpr (er_legibility_Pairs_1 base _ _ _ _ _ _ _ _ _ _ _ _ _ _ _ _ _ _ _) ?_
    refine round_in hl2 (by simp) (by intro u hu; simp only [List.mem_cons, List.not_mem_nil, or_false] at hu; rcases hu with rfl | rfl | rfl | rfl <;> rfl) fun bx W1 W2 hbx _ hX2 hc2 s2 => ?_
    obtain ⟨x0, x1, x2, x3⟩ := blk4 hX2
    have nl : ∀ k, S1 k → k ≠ l := fun k hk he => hl3 (he ▸ hk)
    have h1 := g1.chg hc2 (fun k hk => nl k ((g2 k).2 hk))
    have E2 : Ext w W2 := ext_chgS g3 hc2 fun k hk => by omega
    have gs := hc2.blk g5 (by omega)
    have hp := fst_prefix hpre
    have hmem : (⟨k1, t1, m1, ps1⟩ : Nn) ∈ nodesF f := hp.subset (by simp)
    obtain ⟨f1, f2, f3, f4⟩ := sub_facts f _ hmem
    simp only at f1 f2 f3 f4
    have hgp := f3 q2
    have hplen := patF_len ps1 hgp
    have hlp : (pairP (pre.map (·.1))).length ≤ f.size := by
      have h1 := pairP_len (pre.map (·.1))
      have h2 := hp.length_le
      rw [nodesF_len] at h2
      simp at h1 h2 ⊢; omega
    have hpp : pairP ((pre ++ [((⟨k1, t1, m1, ps1⟩ : Nn), u1)]).map (·.1)) = pairP (pre.map (·.1)) ++ pairN ⟨k1, t1, m1, ps1⟩ := by rw [List.map_append, pairP_app]; simp [pairP]
    have hdl := dedup_len (pairP (pre.map (·.1)))
    have same : ∀ W3, Ext W2 W3 → pairN ⟨k1, t1, m1, ps1⟩ = [] ∨ (∃ p, pairN ⟨k1, t1, m1, ps1⟩ = [p] ∧ p ∈ pairP (pre.map (·.1))) → Chg (fun k => S1 k ∨ W.heap.size ≤ k) W2 W3 ∧ ∃ S' : Nat → Prop, (∀ k, S' k → (S1 k ∨ W.heap.size ≤ k) ∧ k < W3.heap.size) ∧
        ∃ oa, PaS b2 b4 b13 b15 b17 (b17 + 1) W3 oa (pairP ((pre ++ [((⟨k1, t1, m1, ps1⟩ : Nn), u1)]).map (·.1))) ∧ (∀ k, S' k ↔ k = b2 ∨ k = b4 ∨ k = b13 ∨ k = b15 ∨ k = b17 ∨ bk oa k) ∧ Ext w W3 ∧ (∀ k, bk oa k → w21.heap.size ≤ k) ∧ Blk W3 bs [.slice a n c] 22 := by
      intro W3 e3 hh
      have z3 := e3.size
      have hP := h1.chg (S := fun _ => False) (.of_ext e3) (fun _ _ h => h)
      refine ⟨.of_ext e3, S1, fun k hk => ⟨.inl hk, by have := (hS1 k hk).1; omega⟩, oa, ?_, g2, ext_trans E2 e3, g4, gs.ext e3⟩
      rw [hpp]
      rcases hh with hh | ⟨p, hh, hm⟩
      · rw [hh, List.append_nil]; exact hP
      · rw [hh]
        obtain ⟨oc, fm, p1, p2, p3, p4, p5, p6, p7, p8⟩ := hP
        have hd := dedup_old hm
        refine ⟨oc, fm, by rw [hd]; exact p1, by rw [hd]; exact p2, p3, p4.mono (by simp), fun x => ?_, p6, p7, fun x hx => ?_⟩
        · rw [p5]
          by_cases hx : x ∈ pairP (pre.map (·.1))
          · simp [hx]
          · have : x ≠ p := fun e => hx (e ▸ hm)
            simp [hx, this]
        · rcases List.mem_append.1 hx with hx | hx
          · exact p8 x hx
          · simp only [List.mem_singleton] at hx; subst hx; exact p8 _ hm
    refine ⟨k1, x0, br_split (fun q => ?_) (fun q => ?_)⟩
    · exact same _ (Below.refl _ _) (.inl (by unfold pairN; rw [if_neg q]))
    have hk10 : k1 = 10 := Decidable.not_not.1 q
    have hpn : pairN ⟨k1, t1, m1, ps1⟩ = [(t1, patF ps1)] := by unfold pairN; rw [if_pos hk10]
    refine ⟨a', ps1.len, c', x3, ?_⟩
    have hslW : SlF (fun k => (S k ∧ k < w.heap.size) ∨ k = bs) W2 a' ps1.len ps1 := hsl.keep' fun k hk hl => ⟨hk, by have := hc2.size; omega, by
      rcases hk with hk | rfl
      · rw [E2.block k hk.2, E21.block k hk.2]
      · exact (show W2.heap[k]? = some _ from gs).trans (show w21.heap[k]? = some _ from Bs).symm⟩
    refine pattern_spec ps1 (by omega) hgp (by omega) hslW fun W3 e3 => ⟨_, rfl, ?_⟩
    apply c_legibility_limited
    have h3 := h1.chg (S := fun _ => False) (.of_ext e3) (fun _ _ h => h)
    have E3 := ext_trans E2 e3
    have z3 := e3.size
    have hmL : (t1, patF ps1) ∈ pairL f := by unfold pairL pairP; rw [List.mem_flatMap]; exact ⟨_, hmem, by rw [hpn]; simp⟩
    obtain ⟨oc, fm, p1, p2, p3, p4, p5, ⟨v2, p6⟩, ⟨v4, p7⟩, p8⟩ := h3
    refine br_split (fun gl => ⟨_, _, rfl, ?_⟩) (fun gl => ⟨_, _, rfl, ?_⟩)
    · refine br_split (fun _ => ?_) (fun hh => absurd (by decide) hh)
      refine dr_ok (stL_one p6 rfl fun W4 r2 hc4 s4 => dr_ok (stL_one (hc4.blk p7 (by omega)) rfl fun W5 r4 hc5 s5 => ?_))
      have hcc : Chg (fun k => k = b2 ∨ k = b4) W3 W5 := (hc4.mono fun k _ hk => .inl hk).trans (hc5.mono fun k _ hk => .inr hk)
      have m2 : S1 b2 := (g2 _).2 (by simp)
      have m4 : S1 b4 := (g2 _).2 (by simp)
      refine ⟨(Chg.of_ext e3).trans (hcc.mono fun k _ hk => .inl (hk.elim (fun e => e ▸ m2) (fun e => e ▸ m4))), fun k => k = b2 ∨ k = b4, fun k hk => ⟨.inl (hk.elim (fun e => e ▸ m2) (fun e => e ▸ m4)), by have := hcc.size; have := r4.lt; omega⟩, hc5.blk r2 (by omega), r4, .inl rfl, .inr rfl, ext_chgS E3 hcc fun k hk => by omega, ?_⟩
      rw [List.any_eq_true]
      exact ⟨_, hmL, by unfold longB; rw [decide_eq_true_eq]; show 65536 < (patF ps1).length; omega⟩
    · refine br_split (fun hh => absurd rfl hh) (fun _ => ?_)
      have hlb : longB (t1, patF ps1) = false := by unfold longB; simp; omega
      refine ⟨t1, (blk4 (hX2.ext e3)).2.1, ?_⟩
      refine al_stL (by simp) (by intro u hu; simp only [List.mem_cons, List.not_mem_nil, or_false] at hu; rcases hu with rfl | rfl <;> rfl) fun bp W4 hbp Bp e4 s4 => ?_
      have e34 := ext_trans e3 e4
      have z4 := e4.size
      obtain ⟨y0, y1⟩ := blk2' Bp
      obtain ⟨kl, hkl⟩ := keyRw (p := (t1, patF ps1)) (by show t1.length ≤ _; omega) (by show (patF ps1).length ≤ _; omega)
      refine dr_ok ⟨_, by rw [(p3.ext e4).cell]; rfl, t1, y0, patF ps1, y1, decide ((t1, patF ps1) ∈ pairP (pre.map (·.1))), ?_, ?_⟩
      · have hk := MapT.look (eV := eB) (p4.ext e4) kdRw (t := 79) (e := 4) (by kernel_rfl) (zero_run (v := .bool false) (by kernel_rfl) _) hkl
        rw [p5] at hk
        by_cases hm : (t1, patF ps1) ∈ pairP (pre.map (·.1))
        · rw [if_pos hm] at hk; rw [decide_eq_true hm]; exact hk
        · rw [if_neg hm] at hk; rw [decide_eq_false hm]; exact hk
      · refine br_cases (fun gm => ?_) (fun gm => ?_)
        · have hm : (t1, patF ps1) ∉ pairP (pre.map (·.1)) := by simpa using gm
          refine dr_ok ⟨_, by rw [(p3.ext e4).cell]; rfl, t1, y0, patF ps1, y1, ?_⟩
          refine MapT.update (eV := eB) (p4.ext e4) kdRw (t := 79) (e := 4) (by kernel_rfl) (by simp only [maxLen]; unfold small at hs; omega) hkl (fun y hy => by
            have := hy
            simp only [eR, Value.agg.injEq, Array.mk.injEq, List.cons.injEq, Value.string.injEq, ByteArray.mk.injEq, and_true] at this
            exact Prod.ext this.1 this.2) fun W5 fm' m5 hc5 hm1 hm2 => ?_
          have nb : ∀ {j}, bk oa j → b17 + 1 ≤ j ∧ j < W3.heap.size := fun hj => Owns.bk p2 hj
          have z5 := hc5.size
          have r13 := hc5.blk (p1.ext e4) (by omega)
          have rp := hc5.blk Bp (by omega)
          obtain ⟨y0', y1'⟩ := blk2' rp
          refine dr_ok ⟨_, _, _, by rw [r13.cell]; rfl, t1, y0', patF ps1, y1', ?_⟩
          have pL : OwnL encR W5 (b17 + 1) 42 oa (dedup (pairP (pre.map (·.1)))).length oc (dedup (pairP (pre.map (·.1)))) := Owns.chg (Owns.ext p2 e4) hc5 (fun k hk e => by have := nb hk; omega)
          unfold small at hs
          refine OwnL.push (E := encR) slT_rw pL (by omega) (t1, patF ps1) (by omega) (by omega) fun a'' c'' W6 ho hc6 hn6 => ?_
          have no : ∀ {j}, j ≤ b17 → ¬ bk oa j := fun hj hh => by have := nb hh; omega
          refine dr_ok (stL_one (hc6.blk r13 (no (by omega))) rfl fun W7 r13' hc7 s7 => ?_)
          have z6 := hc6.size
          have z7 := hc7.size
          have n13 : ∀ k, bk a'' k → ¬ k = b13 := fun k hk he => by have := (Owns.bk ho hk).1; omega
          have hcc : Chg (fun k => k = b15 ∨ bk oa k ∨ k = b13) W4 W7 := ((hc5.mono fun k _ hk => .inl hk).trans (hc6.mono fun k _ hk => .inr (.inl hk))).trans (hc7.mono fun k _ hk => .inr (.inr hk))
          have hsub : ∀ k, (k = b15 ∨ bk oa k ∨ k = b13) → S1 k := fun k hk => (g2 k).2 (by rcases hk with h | h | h <;> simp [h])
          have hdl1 : (dedup (pairP (pre.map (·.1)) ++ [(t1, patF ps1)])).length = (dedup (pairP (pre.map (·.1)))).length + 1 := by rw [dedup_new hm]; simp
          refine ⟨(Chg.of_ext e34).trans (hcc.mono fun k _ hk => .inl (hsub k hk)), fun k => k = b2 ∨ k = b4 ∨ k = b13 ∨ k = b15 ∨ k = b17 ∨ bk a'' k, fun k hk => ?_, a'', ?_, fun k => Iff.rfl, ext_chgS (ext_trans E3 e4) hcc fun k hk => ?_, fun k hk => ?_, ?_⟩
          · have zz := r13'.lt
            rcases hk with h | h | h | h | h | h
            · exact ⟨.inl ((g2 k).2 (by simp [h])), by omega⟩
            · exact ⟨.inl ((g2 k).2 (by simp [h])), by omega⟩
            · exact ⟨.inl ((g2 k).2 (by simp [h])), by omega⟩
            · exact ⟨.inl ((g2 k).2 (by simp [h])), by omega⟩
            · exact ⟨.inl ((g2 k).2 (by simp [h])), by omega⟩
            · exact ⟨(hn6 k h).elim (fun h => .inl ((g2 k).2 (by simp [h]))) (fun h => .inr (by have := hc2.size; omega)), by have := (Owns.bk ho h).2; omega⟩
          · rw [hpp, hpn]
            refine ⟨c'', fm', by rw [hdl1]; exact r13', by rw [hdl1, dedup_new hm]; exact Owns.chg ho hc7 n13, ?_, ?_, fun x => ?_, ⟨v2, ?_⟩, ⟨v4, ?_⟩, fun x hx => ?_⟩
            · exact hc7.blk (hc6.blk (hc5.blk (p3.ext e4) (by omega)) (no (by omega))) (by omega)
            · rw [List.length_append]; exact (m5.chg hc6 (no (by omega))).chg hc7 (by omega)
            · by_cases hx : x = (t1, patF ps1)
              · subst hx; rw [hm1]; simp
              · rw [hm2 x hx, p5]; simp [hx]
            · exact hc7.blk (hc6.blk (hc5.blk (p6.ext e4) (by omega)) (no (by omega))) (by omega)
            · exact hc7.blk (hc6.blk (hc5.blk (p7.ext e4) (by omega)) (no (by omega))) (by omega)
            · rcases List.mem_append.1 hx with hx | hx
              · exact p8 x hx
              · simp only [List.mem_singleton] at hx; subst hx; exact hlb
          · rcases hk with h | h | h
            · omega
            · have := g4 k h; omega
            · omega
          · exact (hn6 k hk).elim (g4 k) (fun h => by have := hc2.size; omega)
          · exact hcc.blk (gs.ext e34) (fun hk => hk.elim (fun h => by omega) (fun h => h.elim (fun h => by have := g4 _ h; omega) (fun h => by omega)))
        · have hm : (t1, patF ps1) ∈ pairP (pre.map (·.1)) := by simpa using gm
          exact same W4 e34 (.inr ⟨_, hpn, hm⟩)
  · rintro D S1 W hD1 hD2 hD3 hD4 ⟨oa, g1, g2, g3, g4, g5⟩
    rw [nodesU_fst] at g1
    obtain ⟨oc, fm, p1, p2, p3, p4, p5, ⟨v2, p6⟩, ⟨v4, p7⟩, p8⟩ := g1
    have nD : ∀ k, S1 k → k ≠ D := fun k hk he => hD3 (he ▸ hk)
    refine ⟨_, _, _, by rw [p1.cell]; rfl, ?_⟩
    refine stL_one p6 rfl fun W4 r2 hc4 s4 => stL_one (hc4.blk p7 (by omega)) rfl fun W5 r4 hc5 s5 => ?_
    have hcc : Chg (fun k => k = b2 ∨ k = b4) W W5 := (hc4.mono fun k _ hk => .inl hk).trans (hc5.mono fun k _ hk => .inr hk)
    have d2 := nD b2 ((g2 _).2 (by simp))
    have d4 := nD b4 ((g2 _).2 (by simp))
    refine retD_one ((hcc.block D hD2 (by omega)).trans hD4) ?_
    have r2' := blk_put (hc5.blk r2 (by omega)) d2 (.deferred none)
    have r4' := blk_put r4 d4 (.deferred none)
    refine ⟨_, _, _, by rw [r2'.cell]; rfl, _, by rw [r4'.cell]; rfl, ?_⟩
    have hany : (pairL f).any longB = false := by rw [List.any_eq_false]; exact fun x hx => by rw [p8 x hx]; simp
    have he : pairE f = 0 := by unfold pairE; rw [if_neg g, if_neg (by simp [hany])]
    have hr : pairR f = dedup (pairL f) := by unfold pairR; rw [if_neg (by simp [he])]
    rw [hr, he] at h
    have nb : ∀ {j}, bk oa j → w21.heap.size ≤ j := fun hj => g4 _ hj
    have p2' := Owns.chg p2 hcc (fun k hk hh => by have := g4 k hk; omega)
    have hput : Chg (fun k => k = D) W5 (W5.putObj D (.deferred none)) := Chg.put _ _ _ rfl
    have hnD : ∀ k, bk oa k → ¬ k = D := fun k hk => nD k ((g2 k).2 (by simp [hk]))
    have p2'' := Owns.chg p2' hput hnD
    refine h oa oc _ ?_ (ext_put (ext_chgS g3 hcc fun k hk => by omega) (by omega) _)
    exact (OwnL.out p2'').imp fun k hk _ => by have := g4 k hk; omega
  · rintro D S1 W hD1 hD2 hD3 hD4 ⟨g1, g2, g3, g4, g5, g6⟩
    have nD : ∀ k, S1 k → k ≠ D := fun k hk he => hD3 (he ▸ hk)
    have r2' := blk_put g1 (nD _ g3) (.deferred none)
    have r4' := blk_put g2 (nD _ g4) (.deferred none)
    refine retD_one hD4 ⟨_, _, _, by rw [r2'.cell]; rfl, _, by rw [r4'.cell]; rfl, ?_⟩
    have he : pairE f = 4 := by unfold pairE; rw [if_neg g, if_pos g6]
    have hr : pairR f = [] := by unfold pairR; rw [if_pos (by rw [he]; decide)]
    rw [hr, he] at h
    exact h none 0 _ (RowAt.nil _) (ext_put g5 (by omega) _)
end Go.Proofs
namespace Go.Proofs
open Go Go.Sh Go.RowKit

theorem pairL_cons (k t n) (ps r : Fo) : pairL (.cons k t n ps r) = pairN ⟨k, t, n, ps⟩ ++ (pairL ps ++ pairL r) := by
  unfold pairL; rw [nodesF, ← pairP_app]; rfl
theorem pairL_app (f g : Fo) : pairL (f.app g) = pairL f ++ pairL g := by unfold pairL; rw [nodesF_appU, pairP_app]
theorem pairL_len (f : Fo) : (pairL f).length ≤ f.size := by have := pairP_len (nodesF f); rw [nodesF_len] at this; exact this
set_option maxRecDepth 20000 in
theorem pairs12_spec {S : Nat → Prop} : ∀ (f : Fo) {R : Ending → World → Prop} {w : World} {a : Option Addr} {n c : Nat} (hs : f.size ≤ 1000000) (hg : good f) (hl : tlen f ≤ 100000000000) (hf : SlF S w a n f)
    (h : ∀ a' c' w', RowAt encR (fun k => w.heap.size ≤ k) w' a' (pairL f).length (pairL f) → Ext w w' → R (.returned (.slice a' (pairL f).length c')) w'),
    Calls Tryd.prog F_ref12_pairs ⟨[.slice a n c]⟩ w R := by
  intro f
  induction hz : f.size using Nat.strongRecOn generalizing f with
  | _ z ih =>
  intro R w a n c hs hg hl hf h
  apply c_ref12_pairs
  have hn := hf.1
  have hfl := f.len_le_size
  refine al_intro fun b2 w3 hb2 B2 e3 s3 => ?_
  refine ⟨fun oa on oc i W m => ∃ (pr r : Fo), f = pr.app r ∧ i = pr.len ∧ m = r.len ∧ OwnL encR W w.heap.size 42 oa on oc (pairL pr) ∧ Ext w W,
    ⟨_, .nil, f, rfl, rfl, rfl, Owns.made (B2) (by omega), e3⟩, ?_⟩
  rintro oa on oc _ W m ⟨pr, r, hpr, rfl, rfl, hL, he⟩ _
  refine br_split (fun hlt => ?_) (fun hge => ?_)
  · obtain ⟨k, t, mm, ps, r, rfl⟩ := Fo.next hpr (by omega)
    have hsl := Fo.sub_len hpr
    have hsz := Fo.sub_size hpr
    have e1 : f = (pr.app (.one k t mm ps)).app r := by rw [Fo.app_one_app]; exact hpr
    have hsz2 : (pr.app (.one k t mm ps)).size ≤ f.size := by have hh := Fo.size_app (pr.app (.one k t mm ps)) r; rw [← e1] at hh; omega
    have hG := hg
    rw [hpr, good_app] at hG
    obtain ⟨hgpr, hok, hgp, _⟩ := hG
    have htl : tlen (.cons k t mm ps r) ≤ tlen f := by rw [hpr, tlen_app]; omega
    simp only [tlen] at htl
    have p1 := pairL_len (pr.app (.one k t mm ps))
    have o1 : pairL (.one k t mm ps) = pairN ⟨k, t, mm, ps⟩ ++ pairL ps := by unfold Fo.one; rw [pairL_cons]; simp [pairL, nodesF, pairP]
    rw [pairL_app, List.length_append, o1, List.length_append] at p1
    obtain ⟨q, a', c', hq, hSq, hql, hN⟩ := (hf.ext he).get hpr
    intro K11 hK11
    have k11 : ∀ oa2 on2 oc2 W2, OwnL encR W2 w.heap.size 42 oa2 on2 oc2 (pairL pr ++ pairN ⟨k, t, mm, ps⟩) → Ext w W2 → K11 oa2 on2 oc2 W2 := by
      rintro oa2 on2 oc2 W2 hL2 he'
      refine hK11 _ _ _ _ fun _ => ?_
      obtain ⟨q', a'', c'', hq', hSq', hql', hN'⟩ := (hf.ext he').get hpr
      refine hq' _ ⟨a'', ps.len, c'', hN'.parts, ?_⟩
      refine ih _ (hz ▸ hsz) ps rfl (by omega) hgp (by omega) hN'.sl fun a3 c3 w18 hr3 e18 => ⟨_, _, _, rfl, ?_⟩
      have hl2 := OwnL.length hL2
      rw [List.length_append] at hl2
      refine OwnL.pushAll (E := encR) slT_rw (Owns.ext hL2 e18) (by have := he'.size; have := e18.size; omega) hr3 (by omega) (by omega) fun a4 c4 w22 ho hc22 hn22 => ?_
      refine ⟨r.len, by simp, pr.app (.one k t mm ps), r, e1, by rw [wrap_nat (by omega)]; simp [Fo.one], rfl, ?_, ?_⟩
      · rw [pairL_app, o1, ← List.append_assoc]; exact ho
      · exact ext_chgS (ext_trans he' e18) hc22 fun k hk => (Owns.bk hL2 hk).1
    have hl1 := OwnL.length hL
    have push : ∀ W2, Ext W W2 → k = 10 → al W2 42 [.string ⟨⟨t⟩⟩, .string ⟨⟨patF ps⟩⟩] fun p31 w32 => (app Tryd.prog [32, 32] 32 (.slice oa on oc) (.slice (some p31) 1 1) w32 fun a33 a33n a33c w34 => K11 a33 a33n a33c w34) := by
      intro W2 e2 g
      refine OwnL.push (E := encR) slT_rw (Owns.ext hL e2) (by have := he.size; have := e2.size; omega) (t, patF ps) (by omega) (by omega) fun a4 c4 w31 ho hc31 hn31 => ?_
      exact k11 _ _ _ _ (by unfold pairN; rw [if_pos g]; exact ho) (ext_chgS (ext_trans he e2) hc31 fun j hj => (Owns.bk hL hj).1)
    refine hq _ ⟨k, hN.kind, br_split (fun g => ?_) (fun g => ?_)⟩
    · unfold drw
      have ed := ext_trans he (ext_drew W)
      obtain ⟨q', a'', c'', hq', hSq', hql', hN'⟩ := (hf.ext ed).get hpr
      refine hq' _ (hq' _ ⟨a'', ps.len, c'', hN'.parts, ⟨⟨t, hN'.text, ?_, trivial⟩, ?_, trivial⟩⟩)
      · refine pattern12_spec ps (by omega) hgp (by omega) hN'.sl fun W2 e2 => ⟨_, rfl, ?_⟩
        exact ⟨⟨push W2 (ext_trans (ext_drew W) e2) g, trivial⟩, trivial⟩
      · refine pattern12_spec ps (by omega) hgp (by omega) hN'.sl fun W2 e2 => ⟨_, rfl, ?_⟩
        exact ⟨t, (hN'.ext hql' e2).text, ⟨⟨push W2 (ext_trans (ext_drew W) e2) g, trivial⟩, trivial⟩⟩
    · exact k11 _ _ _ _ (by unfold pairN; rw [if_neg g, List.append_nil]; exact hL) he
  · obtain ⟨rfl, rfl⟩ := Fo.last hpr (by omega)
    have hl := OwnL.length hL
    have ho := hL.out.imp (S' := fun k => w.heap.size ≤ k) fun k hk _ => (Owns.bk hL hk).1
    rw [← hl] at ho ⊢
    exact h oa oc W ho he

theorem decRw (x y : Rw) : (decide (x.1 = y.1) && (decide (x.2 = y.2) && true)) = decide (x = y) := by
  rw [Bool.and_true, ← Bool.decide_and, decide_eq_decide, Prod.ext_iff]
theorem get_rw {S : Nat → Prop} {w : World} {a : Option Addr} {n : Nat} {L : List Rw} (h : RowAt encR S w a n L) {k : Nat} (hk : k < L.length) :
    ∃ q : Addr, (∀ K : Addr → Prop, K q → idx a n (k : Int) 2 K) ∧ w.cell? (q.add 0) = some (.string ⟨⟨L[k].1⟩⟩) ∧ w.cell? (q.add 1) = some (.string ⟨⟨L[k].2⟩⟩) := by
  obtain ⟨bb, o, hq, _, _, hc⟩ := h.get (i := k) (x := L[k]) (List.getElem?_eq_getElem hk)
  exact ⟨⟨bb, o, none⟩, hq, by rw [add_none]; exact hc 0 _ rfl, by rw [add_none]; exact hc 1 _ rfl⟩
set_option maxRecDepth 20000 in
theorem equalRw_sh {R : Ending → World → Prop} {S S' : Nat → Prop} {w : World} {a b : Option Addr} {n c n' c' : Nat} {L M : List Rw} (h1 : RowAt encR S w a n L) (h2 : RowAt encR S' w b n' M) (hs : n ≤ 4611686018427387904)
    (h : ∀ w', Ext w w' → R (.returned (.bool (decide (L = M)))) w') : sh_slices_Equal_of_api_Rewrite_api_Rewrite a n c b n' c' R w := by
  have e1 := h1.1
  have e2 := h2.1
  refine br_split (fun g => ?_) (fun g => ?_)
  · rw [show decide (L = M) = false by rw [decide_eq_false_iff_not]; rintro rfl; omega] at h
    exact h _ (Below.refl _ _)
  refine ⟨fun i W m => ∃ k : Nat, i = k ∧ k ≤ n ∧ m = n - k ∧ L.take k = M.take k ∧ Ext w W, ⟨_, 0, rfl, by omega, rfl, rfl, Below.refl _ _⟩, ?_⟩
  rintro _ W m ⟨k, rfl, hk, rfl, ht, he⟩ _
  refine br_split (fun hlt => ?_) (fun hge => ?_)
  · unfold drw
    have hd := ext_trans he (ext_drew W)
    have hkL : k < L.length := by omega
    have hkM : k < M.length := by omega
    have hx : L[k]? = some L[k] := by simp [hkL]
    have hy : M[k]? = some M[k] := by simp [hkM]
    obtain ⟨q, hq, c0, c1⟩ := get_rw (h1.ext hd) hkL
    obtain ⟨q', hq', d0, d1⟩ := get_rw (h2.ext hd) hkM
    refine hq _ ⟨_, c0, _, c1, hq' _ ⟨_, d0, _, d1, ?_⟩⟩
    rw [decRw L[k] M[k]]
    by_cases he' : L[k] = M[k]
    · rw [decide_eq_true he']
      refine ⟨n - (k + 1), by omega, k + 1, by rw [wrap_nat (by omega)], by omega, rfl, ?_, hd⟩
      rw [List.take_add_one, List.take_add_one, ht, hx, hy, he']
    · rw [decide_eq_false he']
      rw [show decide (L = M) = false by rw [decide_eq_false_iff_not]; rintro rfl; exact he' rfl] at h
      exact h _ hd
  · have : k = n := by omega
    subst this
    rw [List.take_of_length_le (by omega), List.take_of_length_le (by omega)] at ht
    rw [decide_eq_true ht] at h
    exact h _ he
theorem EqualRw_spec {R : Ending → World → Prop} {S S' : Nat → Prop} {w : World} {a b : Option Addr} {n c n' c' : Nat} {L M : List Rw} (h1 : RowAt encR S w a n L) (h2 : RowAt encR S' w b n' M) (hs : n ≤ 4611686018427387904)
    (h : ∀ w', Ext w w' → R (.returned (.bool (decide (L = M)))) w') : Calls Tryd.prog F_slices_Equal_of_api_Rewrite_api_Rewrite ⟨[.slice a n c, .slice b n' c']⟩ w R :=
  c_slices_Equal_of_api_Rewrite_api_Rewrite (equalRw_sh h1 h2 hs h)
theorem SameRewrites_spec {R : Ending → World → Prop} {S S' : Nat → Prop} {w : World} {a b : Option Addr} {n c n' c' : Nat} {L M : List Rw} (h1 : RowAt encR S w a n L) (h2 : RowAt encR S' w b n' M) (hs : n ≤ 4611686018427387904)
    (h : ∀ w', Ext w w' → R (.returned (.bool (decide (L = M)))) w') : Calls Tryd.prog F_ref12_SameRewrites ⟨[.slice a n c, .slice b n' c']⟩ w R :=
  c_ref12_SameRewrites (show sh_slices_Equal_of_api_Rewrite_api_Rewrite a n c b n' c' R w from equalRw_sh h1 h2 hs h)

theorem dedup_take {L : List Rw} {k : Nat} (hk : k < L.length) : dedup (L.take (k + 1)) = if L[k] ∈ L.take k then dedup (L.take k) else dedup (L.take k) ++ [L[k]] := by
  have e : L.take (k + 1) = L.take k ++ [L[k]] := by rw [List.take_add_one, List.getElem?_eq_getElem hk]; rfl
  rw [e]
  by_cases hm : L[k] ∈ L.take k
  · rw [if_pos hm, dedup_old hm]
  · rw [if_neg hm, dedup_new hm]
theorem take_len_le {α : Type} (L : List α) (k : Nat) : (L.take k).length ≤ L.length := by simp; omega
set_option maxRecDepth 20000 in
theorem Pairs12_spec {R : Ending → World → Prop} {S : Nat → Prop} {w : World} {a : Option Addr} {n c : Nat} (f : Fo) (hf0 : SlF S w a n f)
    (h : ∀ a' c' w', RowAt encR (fun k => w.heap.size ≤ k) w' a' (pairR f).length (pairR f) → Ext w w' → R (.returned (.tuple ⟨[.slice a' (pairR f).length c', .int .i64 (pairE f)]⟩)) w') :
    Calls Tryd.prog F_ref12_Pairs ⟨[.slice a n c]⟩ w R := by
  apply c_ref12_Pairs
  have er : ∀ e w', pairE f = e → e ≠ 0 → Ext w w' → R (.returned (.tuple ⟨[.slice none 0 0, .int .i64 e]⟩)) w' := by
    intro e w' he h0 hx
    have hr : pairR f = [] := by unfold pairR; rw [if_pos (by rw [he]; exact h0)]
    rw [hr, he] at h
    exact h none 0 w' (RowAt.nil _) hx
  refine check12_spec f hf0 fun w3 e3 => ⟨_, rfl, br_split (fun g => er _ _ (by unfold pairE; rw [if_pos g]) g e3) (fun g => ?_)⟩
  have he0 := Decidable.not_not.1 g
  obtain ⟨hc0, _⟩ := errU_zero he0
  obtain ⟨q1, q2, q3⟩ := check_zero hc0
  refine pairs12_spec f (by omega) q2 (by omega) (hf0.ext e3) fun a6 c6 w6 hr6 e6 => ⟨_, _, _, rfl, ?_⟩
  have E6 := ext_trans e3 e6
  have hpl := pairL_len f
  have pe : pairE f = if (pairL f).any longB then 4 else 0 := by unfold pairE; rw [if_neg g]
  have pr : pairR f = if (pairL f).any longB then [] else dedup (pairL f) := by
    unfold pairR; rw [pe]
    cases (pairL f).any longB <;> simp
  rw [pe, pr] at h
  rw [pe] at er
  generalize pairL f = L at *
  refine al_intro fun b8 w9 hb8 B8 e9 s9 => ?_
  have z6 := E6.size
  refine ⟨fun oa on oc i W m => ∃ k : Nat, i = k ∧ k ≤ L.length ∧ m = L.length - k ∧ (∀ p ∈ L.take k, longB p = false) ∧ OwnL encR W w6.heap.size 42 oa on oc (dedup (L.take k)) ∧ Ext w6 W,
    ⟨_, 0, rfl, by omega, rfl, by simp, Owns.made B8 (by omega), e9⟩, ?_⟩
  rintro oa on oc _ W m ⟨k, rfl, hk, rfl, hlo, hL, he⟩ _
  have hol := OwnL.length hL
  have hdl := dedup_len (L.take k)
  have htl := take_len_le L k
  refine br_split (fun hlt => ?_) (fun hge => ?_)
  · have hkL : k < L.length := by omega
    obtain ⟨q, hq, c0, c1⟩ := get_rw (hr6.ext he) hkL
    refine hq _ ⟨_, c1, br_split (fun g1 => ?_) (fun g1 => ?_)⟩
    · refine er 4 _ ?_ (by decide) (ext_trans E6 he)
      rw [if_pos]
      rw [List.any_eq_true]
      exact ⟨L[k], List.getElem_mem hkL, by unfold longB; rw [decide_eq_true_eq]; omega⟩
    have hlb : longB L[k] = false := by unfold longB; rw [decide_eq_false_iff_not]; omega
    have hlo' : ∀ p ∈ L.take (k + 1), longB p = false := by
      intro p hp
      rw [List.take_add_one, List.getElem?_eq_getElem hkL] at hp
      rcases List.mem_append.1 hp with hp | hp
      · exact hlo p hp
      · simp at hp; subst hp; exact hlb
    refine ⟨fun fd j W2 m2 => ∃ l : Nat, j = l ∧ l ≤ k ∧ m2 = k - l ∧ fd = decide (L[k] ∈ L.take l) ∧ Ext W W2, ⟨_, 0, rfl, by omega, rfl, by simp, Below.refl _ _⟩, ?_⟩
    rintro _ _ W2 m2 ⟨l, rfl, hl, rfl, rfl, he2⟩ _
    refine br_split (fun hlt2 => ?_) (fun hge2 => ?_)
    · unfold drw
      have ed := ext_trans he2 (ext_drew W2)
      have hlL : l < L.length := by omega
      have mem1 : L[k] ∈ L.take (l + 1) ↔ L[k] ∈ L.take l ∨ L[l] = L[k] := by
        rw [List.take_add_one, List.getElem?_eq_getElem hlL, List.mem_append]
        simp only [Option.toList, List.mem_singleton, eq_comm]
      refine br_split (fun gf => ?_) (fun gf => ?_)
      · exact ⟨k - (l + 1), by omega, l + 1, by rw [wrap_nat (by omega)], by omega, rfl, by symm; rw [decide_eq_true_eq]; exact mem1.2 (.inl gf), ed⟩
      · obtain ⟨q1, hq1, d0, d1⟩ := get_rw ((hr6.ext he).ext ed) hlL
        obtain ⟨q2, hq2, f0, f1⟩ := get_rw ((hr6.ext he).ext ed) hkL
        refine hq1 _ ⟨_, d0, _, d1, hq2 _ ⟨_, f0, _, f1, ?_⟩⟩
        rw [decRw L[l] L[k]]
        exact ⟨k - (l + 1), by omega, l + 1, by rw [wrap_nat (by omega)], by omega, rfl, by rw [decide_eq_decide, mem1]; exact ⟨.inr, fun h => h.elim (fun h => absurd h gf) id⟩, ed⟩
    · have : l = k := by omega
      subst this
      have hd := dedup_take hkL
      refine br_cases (fun gf => ?_) (fun gf => ?_)
      · have hm : L[l] ∉ L.take l := by simpa using gf
        rw [if_neg hm] at hd
        obtain ⟨q2, hq2, f0, f1⟩ := get_rw ((hr6.ext he).ext he2) hkL
        refine hq2 _ ⟨_, f0, _, f1, ?_⟩
        refine OwnL.push (E := encR) slT_rw (Owns.ext hL he2) (by have := he.size; have := he2.size; omega) L[l] (by omega) (by omega) fun a4 c4 w31 ho hc31 hn31 => ?_
        exact ⟨L.length - (l + 1), by omega, l + 1, by rw [wrap_nat (by omega)], by omega, rfl, hlo', by rw [hd]; exact ho, ext_chgS (ext_trans he he2) hc31 fun j hj => (Owns.bk hL hj).1⟩
      · have hm : L[l] ∈ L.take l := by simpa using gf
        rw [if_pos hm] at hd
        exact ⟨L.length - (l + 1), by omega, l + 1, by rw [wrap_nat (by omega)], by omega, rfl, hlo', by rw [hd]; exact Owns.ext hL he2, ext_trans he he2⟩
  · have : k = L.length := by omega
    subst this
    rw [List.take_length] at hlo hL hol
    have hany : L.any longB = false := by rw [List.any_eq_false]; exact fun x hx => by rw [hlo x hx]; simp
    rw [hany] at h
    have ho := (OwnL.out hL).imp (S' := fun k => w.heap.size ≤ k) fun k hk _ => by have := (Owns.bk hL hk).1; omega
    rw [← hol] at ho ⊢
    exact h oa oc W ho (ext_trans E6 he)

/- Fits -/
def fitB (p w : List UInt8) : Bool := decide (p.length = w.length) && (List.range w.length).all fun i => decide (w[i]? = p[i]?) || decide (p[i]? = some 95)
def fitE (p w : List UInt8) : Int := if 65536 < p.length ∨ 65536 < w.length then 4 else 0
def fitR (p w : List UInt8) : Bool := decide (fitE p w = 0) && fitB p w
theorem u8_int (a b : UInt8) : ((a.toNat : Int) = (b.toNat : Int)) ↔ a = b := by
  constructor
  · intro h; apply UInt8.toNat_inj.1; omega
  · rintro rfl; rfl
set_option maxRecDepth 20000 in
theorem Fits_spec {R : Ending → World → Prop} {w : World} (p s : List UInt8) (h : ∀ w', Ext w w' → R (.returned (.tuple ⟨[.bool (fitR p s), .int .i64 (fitE p s)]⟩)) w') :
    Calls Tryd.prog F_legibility_Fits ⟨[.string ⟨⟨p⟩⟩, .string ⟨⟨s⟩⟩]⟩ w R := by
  apply c_legibility_Fits
  intro K3 hK3
  unfold fitR at h
  have k3 : ¬ (65536 < p.length ∨ 65536 < s.length) → K3 w := by
    intro hno
    have he : fitE p s = 0 := by unfold fitE; rw [if_neg hno]
    rw [he] at h
    simp only [decide_true, Bool.true_and] at h
    refine hK3 _ fun _ => br_split (fun g => ?_) (fun g => ?_)
    · rw [show fitB p s = false by unfold fitB; rw [decide_eq_false (by omega)]; rfl] at h
      exact h _ (Below.refl _ _)
    have hl : p.length = s.length := by omega
    have hfb : fitB p s = (List.range s.length).all fun i => decide (s[i]? = p[i]?) || decide (p[i]? = some 95) := by unfold fitB; rw [decide_eq_true hl, Bool.true_and]
    refine ⟨fun i W m => ∃ k : Nat, i = k ∧ k ≤ s.length ∧ m = s.length - k ∧ (∀ j, j < k → s[j]? = p[j]? ∨ p[j]? = some 95) ∧ Ext w W, ⟨_, 0, rfl, by omega, rfl, fun j hj => by omega, Below.refl _ _⟩, ?_⟩
    rintro _ W m ⟨k, rfl, hk, rfl, hok, he'⟩ _
    refine br_split (fun hlt => ?_) (fun hge => ?_)
    · have hks : k < s.length := by omega
      have hkp : k < p.length := by omega
      unfold drw
      have ed := ext_trans he' (ext_drew W)
      have next : (s[k]? = p[k]? ∨ p[k]? = some 95) → ∃ m' : Nat, m' < s.length - k ∧ ∃ k1 : Nat, IntKind.i64.wrap ((k : Int) + 1) = k1 ∧ k1 ≤ s.length ∧ m' = s.length - k1 ∧ (∀ j, j < k1 → s[j]? = p[j]? ∨ p[j]? = some 95) ∧ Ext w W.drew := by
        intro hn
        refine ⟨s.length - (k + 1), by omega, k + 1, by rw [wrap_nat (by omega)], by omega, rfl, fun j hj => ?_, ed⟩
        rcases Nat.lt_or_ge j k with hh | hh
        · exact hok j hh
        · have : j = k := by omega
          subst this; exact hn
      have e1 : s[k]? = some s[k] := by simp [hks]
      have e2 : p[k]? = some p[k] := by simp [hkp]
      refine sidx_nat hks (sidx_nat hkp (br_split (fun g1 => ?_) (fun g1 => ?_)))
      · refine sidx_nat hkp ⟨by omega, 95, rfl, br_split (fun g2 => ?_) (fun g2 => ?_)⟩
        · rw [hfb, show ((List.range s.length).all fun i => decide (s[i]? = p[i]?) || decide (p[i]? = some 95)) = false by
            rw [List.all_eq_false]
            refine ⟨k, List.mem_range.2 hks, ?_⟩
            rw [e1, e2]
            simp only [Option.some.injEq, Bool.or_eq_true, decide_eq_true_eq, not_or]
            exact ⟨fun e => g1 ((u8_int _ _).2 e), fun e => g2 ((u8_int _ _).2 e)⟩] at h
          exact h _ ed
        · exact next (.inr (by rw [e2, (u8_int _ _).1 (Decidable.not_not.1 g2)]))
      · exact next (.inl (by rw [e1, e2, (u8_int _ _).1 (Decidable.not_not.1 g1)]))
    · have : k = s.length := by omega
      subst this
      rw [hfb, show ((List.range s.length).all fun i => decide (s[i]? = p[i]?) || decide (p[i]? = some 95)) = true by
        rw [List.all_eq_true]
        intro j hj
        rw [List.mem_range] at hj
        rw [Bool.or_eq_true, decide_eq_true_eq, decide_eq_true_eq]
        exact hok j hj] at h
      exact h _ he'
  have bad : (65536 < p.length ∨ 65536 < s.length) → R (.returned (.tuple ⟨[.bool false, .int .i64 4]⟩)) w := by
    intro hh
    have he : fitE p s = 4 := by unfold fitE; rw [if_pos hh]
    rw [he] at h
    exact h _ (Below.refl _ _)
  exact br_split (fun g => bad (.inl (by omega))) (fun g1 => br_split (fun g => bad (.inr (by omega))) (fun g2 => k3 (by omega)))
end Go.Proofs
namespace Go.Proofs
open Go Go.Sh Go.RowKit

/- the example of the chapter -/
def fS : Fo := .cons 1 [100] 0 .nil (.cons 10 [110, 115] 0 (.one 1 [111, 109, 105, 110, 117, 115] 0 .nil) (.one 6 [] 2 .nil))
theorem awakeK : patE fS = 0 ∧ patS fS = [100, 111, 109, 105, 110, 117, 115, 95, 95] ∧ wriE fS = 0 ∧ wriS fS = [100, 110, 115, 95, 95] ∧ pairE fS = 0 ∧ pairR fS = [([110, 115], [111, 109, 105, 110, 117, 115])] ∧
    fitR [100, 111, 109, 105, 110, 117, 115, 95, 95] [100, 111, 109, 105, 110, 117, 115, 109, 101] = true ∧ fitE [100, 111, 109, 105, 110, 117, 115, 95, 95] [100, 111, 109, 105, 110, 117, 115, 109, 101] = 0 := by decide +kernel
theorem sample_spec {R : Ending → World → Prop} {w : World} (h : ∀ a c w', SlF (fun _ => True) w' a 3 fS → Ext w w' → R (.returned (.slice a 3 c)) w') : Calls Tryd.prog F_law12_sample ⟨[]⟩ w R := by
  apply c_law12_sample
  refine al_intro fun b1 w2 hb1 B1 e2 s2 => ?_
  refine al_intro fun b3 w4 hb3 B3 e4 s4 => ?_
  have f1 : SlF (fun _ => True) w4 (some ⟨b3, 0, none⟩) 3 fS :=
    ⟨rfl, _, at_blk B3, none, 0, [], _, rfl, .inl rfl, rfl, _, 1, _, _, rfl, at_blk (B1.ext e4), ⟨none, 0, [], [], rfl, .inl rfl, rfl, rfl⟩, none, 0, [], [], rfl, .inl rfl, rfl, rfl⟩
  exact h _ 3 w4 f1 (ext_trans e2 e4)
set_option maxRecDepth 20000 in
theorem awake12_spec {R : Ending → World → Prop} {w : World} (hF : Forms w) (h : ∀ w', Ext w w' → R (.returned (.bool true)) w') : Calls Tryd.prog F_law12_awake ⟨[]⟩ w R := by
  obtain ⟨q1, q2, q3, q4, q5, q6, q7, q8⟩ := awakeK
  apply c_law12_awake
  refine sample_spec fun a1 c1 w2 f1 e2 => ⟨_, _, _, rfl, ?_⟩
  refine Pattern_spec fS (by decide) (hF.ext e2) f1 fun w5 e5 => ⟨_, _, rfl, ?_⟩
  have E5 := ext_trans e2 e5
  refine sample_spec fun a2 c2 w9 f2 e9 => ⟨_, _, _, rfl, ?_⟩
  have E9 := ext_trans E5 e9
  refine Written_spec fS (by decide) (hF.ext E9) f2 fun w12 e12 => ⟨_, _, rfl, ?_⟩
  have E12 := ext_trans E9 e12
  refine sample_spec fun a3 c3 w16 f3 e16 => ⟨_, _, _, rfl, ?_⟩
  have E16 := ext_trans E12 e16
  refine Pairs_spec fS (by decide) (hF.ext E16) f3 fun a4 c4 w19 hr4 e19 => ⟨_, _, _, _, rfl, ?_⟩
  have E19 := ext_trans E16 e19
  refine Fits_spec _ _ fun w23 e23 => ⟨_, _, rfl, ?_⟩
  have E23 := ext_trans E19 e23
  rw [q1, q2, q3, q4, q5, q7, q8]
  rw [q6] at hr4 ⊢
  simp only [Int.max_self, decide_true, br_t]
  refine al_intro fun b26 w27 hb26 B26 e27 s27 => ?_
  have hM : RowAt encR (fun _ => True) w27 (some ⟨b26, 0, none⟩) 1 [([110, 115], [111, 109, 105, 110, 117, 115])] := ⟨rfl, at_blk B26⟩
  refine EqualRw_spec ((hr4.ext e23).ext e27) hM (by decide) fun w29 e29 => ⟨_, rfl, ?_⟩
  rw [decide_eq_true rfl]
  exact h _ (ext_trans (ext_trans E23 e27) e29)

set_option maxRecDepth 20000 in
theorem LegibilityReads_spec {R : Ending → World → Prop} {S : Nat → Prop} {w : World} {a : Option Addr} {n c : Nat} (f : Fo) (hF : Forms w) (hf0 : SlF S w a n f)
    (h : ∀ w', Ext w w' → R (.returned (.bool true)) w') : Calls Tryd.prog F_law12_LegibilityReads ⟨[.slice a n c]⟩ w R := by
  apply c_law12_LegibilityReads
  have aw : ∀ {K : Ending → World → Prop} W, Ext w W → (∀ w', Ext w w' → K (.returned (.bool true)) w') → Calls Tryd.prog F_law12_awake ⟨[]⟩ W fun e w' => ∃ x : Bool, e = .returned (.bool x) ∧ K (.returned (.bool x)) w' :=
    fun W hx hK => awake12_spec (hF.ext hx) fun w10 e10 => ⟨_, rfl, hK _ (ext_trans hx e10)⟩
  refine Great_spec hf0 fun w3 e3 => ⟨_, rfl, br_cases (fun _ => aw _ e3 h) (fun hgr => ?_)⟩
  have hs := great10_small hgr
  refine Pattern_spec f hs (hF.ext e3) (hf0.ext e3) fun w9 e9 => ⟨_, _, rfl, ?_⟩
  have E9 := ext_trans e3 e9
  refine Pattern12_spec f (hf0.ext E9) fun w13 e13 => ⟨_, _, rfl, ?_⟩
  have E13 := ext_trans E9 e13
  refine Written_spec f hs (hF.ext E13) (hf0.ext E13) fun w17 e17 => ⟨_, _, rfl, ?_⟩
  have E17 := ext_trans E13 e17
  refine Written12_spec f (hf0.ext E17) fun w21 e21 => ⟨_, _, rfl, ?_⟩
  have E21 := ext_trans E17 e21
  intro K24 hK24
  have k24 : K24 w21 := by
    refine hK24 _ fun _ => ?_
    refine Lost_spec f hs (hF.ext E21) (hf0.ext E21) fun w27 e27 => ⟨_, _, rfl, ?_⟩
    have E27 := ext_trans E21 e27
    refine Lost12_spec f (hf0.ext E27) fun w31 e31 => ⟨_, _, rfl, ?_⟩
    have E31 := ext_trans E27 e31
    refine Unclear_spec f hs (hF.ext E31) (hf0.ext E31) fun w35 e35 => ⟨_, _, rfl, ?_⟩
    have E35 := ext_trans E31 e35
    refine Unclear12_spec f (hf0.ext E35) fun w39 e39 => ⟨_, _, rfl, ?_⟩
    have E39 := ext_trans E35 e39
    refine Pairs_spec f hs (hF.ext E39) (hf0.ext E39) fun a1 c1 w43 hr1 e43 => ⟨_, _, _, _, rfl, ?_⟩
    have E43 := ext_trans E39 e43
    refine Pairs12_spec f (hf0.ext E43) fun a2 c2 w47 hr2 e47 => ⟨_, _, _, _, rfl, ?_⟩
    have E47 := ext_trans E43 e47
    have hlen : (pairR f).length ≤ 4611686018427387904 := by
      have h1 := pairL_len f
      have h2 := dedup_len (pairL f)
      unfold small at hs
      unfold pairR; split
      · simp
      · omega
    simp only [decide_true, br_t]
    refine SameRewrites_spec (hr1.ext e47) hr2 hlen fun w51 e51 => ⟨_, rfl, ?_⟩
    rw [decide_eq_true rfl]
    simp only [br_t]
    exact aw _ (ext_trans E47 e51) h
  simp only [ne_eq, not_true_eq_false, decide_false, br_f]
  exact k24

set_option maxRecDepth 20000 in
theorem LegibilityFits_spec {R : Ending → World → Prop} {w : World} (p s : List UInt8) (hF : Forms w) (h : ∀ w', Ext w w' → R (.returned (.bool true)) w') :
    Calls Tryd.prog F_law12_LegibilityFits ⟨[.string ⟨⟨p⟩⟩, .string ⟨⟨s⟩⟩]⟩ w R := by
  apply c_law12_LegibilityFits
  have aw : ∀ {K : Ending → World → Prop} W, Ext w W → (∀ w', Ext w w' → K (.returned (.bool true)) w') → Calls Tryd.prog F_law12_awake ⟨[]⟩ W fun e w' => ∃ x : Bool, e = .returned (.bool x) ∧ K (.returned (.bool x)) w' :=
    fun W hx hK => awake12_spec (hF.ext hx) fun w10 e10 => ⟨_, rfl, hK _ (ext_trans hx e10)⟩
  intro K3 hK3
  have k3 : p.length ≤ 100 → s.length ≤ 100 → K3 w := by
    intro hp hs
    refine hK3 _ fun _ => ?_
    have fe : ∀ {q : List UInt8}, q.length ≤ 100 → fitE q s = 0 ∧ fitR q s = fitB q s := fun {q} hq => by
      have : fitE q s = 0 := by unfold fitE; rw [if_neg (by omega)]
      exact ⟨this, by unfold fitR; rw [this]; rfl⟩
    obtain ⟨e1, e2⟩ := fe hp
    refine Fits_spec p s fun w6 e6 => ⟨_, _, rfl, ?_⟩
    intro K9 hK9
    have k9 : ∀ W, Ext w W → K9 (fitB p s) W := by
      intro W he
      refine hK9 _ _ fun _ => ?_
      refine Repeat_spec s.length (by omega) fun w13 e13 => ⟨_, rfl, ?_⟩
      obtain ⟨e3, e4⟩ := fe (q := List.replicate s.length 95) (by simp; exact hs)
      refine Fits_spec _ s fun w16 e16 => ⟨_, _, rfl, ?_⟩
      have E16 := ext_trans (ext_trans he e13) e16
      rw [e1, e2, e3, e4]
      have hall : fitB (List.replicate s.length 95) s = true := by
        unfold fitB
        simp only [List.length_replicate, decide_true, Bool.true_and]
        rw [List.all_eq_true]
        intro i hi
        rw [List.mem_range] at hi
        simp [hi]
      rw [hall]
      simp only [decide_true, br_t]
      refine (Tryd.strings_Contains_one ⟨⟨p⟩⟩ 95 w16).mono ?_
      rintro e w20 ⟨rfl, rfl⟩
      refine ⟨_, rfl, br_split (fun _ => aw _ E16 h) (fun hno => ?_)⟩
      have hno' : ∀ i : Nat, p[i]? ≠ some 95 := by
        have hge := Lib.indexByte_ge p 95
        have : Lib.indexByte p 95 = -1 := by
          have h0 : ¬ 0 ≤ Lib.indexByte p 95 := by simpa using hno
          omega
        exact Lib.indexByte_none this
      have heq : fitB p s = decide (p = s) := by
        by_cases hl : p.length = s.length
        · unfold fitB
          rw [decide_eq_true hl, Bool.true_and, Bool.eq_iff_iff, List.all_eq_true, decide_eq_true_eq]
          constructor
          · intro hh
            apply List.ext_getElem?
            intro i
            by_cases hi : i < s.length
            · have := hh i (List.mem_range.2 hi)
              rw [Bool.or_eq_true, decide_eq_true_eq, decide_eq_true_eq] at this
              exact (this.resolve_right (hno' i)).symm
            · rw [List.getElem?_eq_none (by omega), List.getElem?_eq_none (by omega)]
          · rintro rfl i _
            simp
        · unfold fitB
          rw [decide_eq_false hl, Bool.false_and]
          symm
          rw [decide_eq_false_iff_not]
          rintro rfl; exact hl rfl
      rw [heq]
      simp only [decide_true, br_t]
      exact aw _ E16 h
    let okB : Nat → Bool := fun i => decide (s[i]? = p[i]?) || decide (p[i]? = some 95)
    have hfb : fitB p s = (decide (p.length = s.length) && (List.range s.length).all okB) := rfl
    refine ⟨fun wa i W m => ∃ k : Nat, i = k ∧ k ≤ p.length ∧ m = p.length - k ∧ wa = (decide (p.length = s.length) && (List.range k).all okB) ∧ Ext w W, ⟨_, 0, rfl, by omega, rfl, ?_, e6⟩, ?_⟩
    · rw [List.range_zero, List.all_nil, Bool.and_true, decide_eq_decide]; omega
    rintro _ _ W m ⟨k, rfl, hk, rfl, rfl, he⟩ _
    have hno : (decide (p.length = s.length) && (List.range k).all okB) = false → fitB p s = false := by
      intro hh
      rw [hfb]
      by_cases hl : p.length = s.length
      · rw [decide_eq_true hl, Bool.true_and] at hh ⊢
        rw [List.all_eq_false] at hh ⊢
        obtain ⟨x, hx, hxx⟩ := hh
        exact ⟨x, List.mem_range.2 (by have := List.mem_range.1 hx; omega), hxx⟩
      · rw [decide_eq_false hl, Bool.false_and]
    intro K34 hK34
    refine br_cases (fun gw => br_split (fun hlt => ?_) (fun hge => ?_)) (fun gw => ?_)
    · have hkp : k < p.length := by omega
      have gw' := gw
      rw [Bool.and_eq_true, decide_eq_true_eq] at gw'
      have hks : k < s.length := by omega
      refine hK34 _ fun _ => ?_
      unfold drw
      have ed := ext_trans he (ext_drew W)
      have e1 : s[k]? = some s[k] := by simp [hks]
      have e2 : p[k]? = some p[k] := by simp [hkp]
      have hall : (List.range (k + 1)).all okB = okB k := by rw [List.range_succ, List.all_append, gw'.2]; simp
      refine sidx_nat hkp (sidx_nat hks (br_split (fun g1 => ?_) (fun g1 => ?_)))
      · refine ⟨p.length - (k + 1), by omega, k + 1, by rw [wrap_nat (by omega)], by omega, rfl, ?_, ed⟩
        rw [decide_eq_true gw'.1, Bool.true_and, hall]
        have : s[k] = p[k] := ((u8_int _ _).1 g1).symm
        show true = (decide (s[k]? = p[k]?) || decide (p[k]? = some 95))
        rw [e1, e2, this]; simp
      · refine sidx_nat hkp ⟨p.length - (k + 1), by omega, k + 1, by rw [wrap_nat (by omega)], by omega, rfl, ?_, ed⟩
        rw [decide_eq_true gw'.1, Bool.true_and, hall]
        have hne : s[k] ≠ p[k] := fun e => g1 ((u8_int _ _).2 e.symm)
        show _ = (decide (s[k]? = p[k]?) || decide (p[k]? = some 95))
        rw [e1, e2, show decide ((some s[k] : Option UInt8) = some p[k]) = false by rw [decide_eq_false_iff_not]; exact fun e => hne (Option.some.inj e), Bool.false_or, decide_eq_decide]
        exact ⟨fun e => by rw [(u8_int p[k] 95).1 e], fun e => (u8_int p[k] 95).2 (Option.some.inj e)⟩
    · have hkl : k = p.length := by omega
      have gw' := gw
      rw [Bool.and_eq_true, decide_eq_true_eq] at gw'
      have : (decide (p.length = s.length) && (List.range k).all okB) = fitB p s := by rw [hfb, hkl, gw'.1]
      rw [this]
      exact k9 _ he
    · have := hno gw
      rw [gw, ← this]
      exact k9 _ he
  refine br_split (fun _ => aw _ (Below.refl _ _) h) (fun g1 => br_split (fun _ => aw _ (Below.refl _ _) h) (fun g2 => k3 (by omega) (by omega)))
end Go.Proofs
