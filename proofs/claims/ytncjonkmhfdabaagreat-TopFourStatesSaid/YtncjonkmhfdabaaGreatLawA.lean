/- The contracts of the functions that the law reaches, one after the other, and at the end the law's card. -/
import Derived.Test.YtncjonkmhfdabaaGreatFnA
import Derived.Test.YtncjonkmhfdabaaGreatFnB
import Derived.Test.YtncjonkmhfdabaaGreatFnC
import Derived.Test.YtncjonkmhfdabaaGreatShelf
import Derived.Lib.ConvBytes
import Derived.Maps.Own
import Derived.Lib.SliceRun
namespace Go.Proofs
open Go Go.Sh Go.RowKit

def kindF (c : Int) : Int :=
  if (97 ≤ c ∧ c ≤ 122) ∨ (65 ≤ c ∧ c ≤ 90) then 1
  else if c = 94 ∨ c = 126 ∨ c = 37 then 2
  else if 48 ≤ c ∧ c ≤ 57 then 3
  else if c = 39 then 4
  else if c = 32 then 6
  else if c = 46 ∨ c = 44 ∨ c = 59 ∨ c = 58 ∨ c = 33 ∨ c = 63 ∨ c = 40 ∨ c = 41 ∨ c = 45 then 5
  else 0
def kd (b : UInt8) : Int := kindF b.toNat

theorem kinds_fin : ∀ n : Nat, n < 256 → (0 ≤ Lib.indexByte [46, 44, 59, 58, 33, 63, 40, 41, 45] n.toUInt8 ↔ (n = 46 ∨ n = 44 ∨ n = 59 ∨ n = 58 ∨ n = 33 ∨ n = 63 ∨ n = 40 ∨ n = 41 ∨ n = 45)) := by decide +kernel

theorem br_prop {b : Bool} {A B : Prop} (p : Prop) (hp : b = true ↔ p) (h1 : p → A) (h2 : ¬ p → B) : br b A B := by
  cases hb : b
  · exact h2 fun h => by have := hp.2 h; rw [hb] at this; cases this
  · exact h1 (hp.1 hb)

section
variable {R : Ending → World → Prop} {w : World}
theorem Kind_spec (b : UInt8) (h : R (.returned (.int .i64 (kd b))) w) : Calls Tryz.prog F_charset_Kind ⟨[.int .u8 (b.toNat : Int)]⟩ w R := by
  apply c_charset_Kind
  unfold sh_charset_Kind
  unfold kd at h
  have hlt : b.toNat < 256 := b.toNat_lt
  generalize b.toNat = n at h hlt
  intro K2 hK2
  simp only [br_K]
  refine hK2 _ _ fun _ => br_prop ((97 ≤ n ∧ n ≤ 122) ∨ (65 ≤ n ∧ n ≤ 90)) (by simp only [Bool.cond_decide]; (repeat' split) <;> simp <;> omega) (fun h1 => ?_) (fun h1 => ?_)
  · rw [kindF, if_pos (by omega)] at h; exact h
  intro K5 hK5
  simp only [br_K]
  refine hK5 _ _ fun _ => br_prop (n = 94 ∨ n = 126 ∨ n = 37) (by simp only [Bool.cond_decide]; (repeat' split) <;> simp <;> omega) (fun h2 => ?_) (fun h2 => ?_)
  · rw [kindF, if_neg (by omega), if_pos (by omega)] at h; exact h
  intro K8 hK8
  simp only [br_K]
  refine hK8 _ _ fun _ => br_prop (48 ≤ n ∧ n ≤ 57) (by simp only [Bool.cond_decide]; (repeat' split) <;> simp <;> omega) (fun h3 => ?_) (fun h3 => ?_)
  · rw [kindF, if_neg (by omega), if_neg (by omega), if_pos (by omega)] at h; exact h
  refine br_split (fun h4 => ?_) (fun h4 => br_split (fun h5 => ?_) (fun h5 => ?_))
  · rw [kindF, if_neg (by omega), if_neg (by omega), if_neg (by omega), if_pos (by omega)] at h; exact h
  · rw [kindF, if_neg (by omega), if_neg (by omega), if_neg (by omega), if_neg (by omega), if_pos (by omega)] at h; exact h
  have hk := kinds_fin n hlt
  refine br_split (fun h6 => ?_) (fun h6 => ?_)
  · refine (Tryz.strings_IndexByte _ _ _).mono ?_
    rintro _ _ ⟨rfl, rfl⟩
    refine ⟨_, rfl, br_split (fun h7 => ?_) (fun h7 => ?_)⟩
    · simp only [Int.toNat_natCast] at h7
      rw [kindF, if_neg (by omega), if_neg (by omega), if_neg (by omega), if_neg (by omega), if_neg (by omega), if_pos (by have := hk.1 h7; omega)] at h; exact h
    · simp only [Int.toNat_natCast] at h7
      rw [kindF, if_neg (by omega), if_neg (by omega), if_neg (by omega), if_neg (by omega), if_neg (by omega), if_neg (fun hh => by have := hk.2 (by omega); omega)] at h; exact h
  · rw [kindF, if_neg (by omega), if_neg (by omega), if_neg (by omega), if_neg (by omega), if_neg (by omega), if_neg (by omega)] at h; exact h
/- letters and digits -/
def letB (c : UInt8) : Bool := kd c == 1 || kd c == 3
def lettersF (s : List UInt8) : Nat := (s.filter letB).length
theorem lettersF_le (s : List UInt8) : lettersF s ≤ s.length := List.length_filter_le _ _
theorem lettersF_step (s : List UInt8) (k : Nat) (h : k < s.length) : lettersF (s.take (k + 1)) = lettersF (s.take k) + if kd s[k] = 1 ∨ kd s[k] = 3 then 1 else 0 := by
  unfold lettersF
  rw [List.take_succ_eq_append_getElem h, List.filter_append]
  by_cases hc : kd s[k] = 1 ∨ kd s[k] = 3
  · have : letB s[k] = true := by simp [letB]; exact hc
    simp [this, hc]
  · have : letB s[k] = false := by simp [letB]; exact ⟨fun h => hc (.inl h), fun h => hc (.inr h)⟩
    simp [this, hc]

theorem Letters_spec (s : List UInt8) (hs : s.length ≤ 9223372036854775806) (h : R (.returned (.int .i64 (lettersF s))) w) : Calls Tryz.prog F_charset_Letters ⟨[.string ⟨⟨s⟩⟩]⟩ w R := by
  apply c_charset_Letters
  refine ⟨fun n i w' m => w' = w ∧ ∃ k : Nat, i = k ∧ k ≤ s.length ∧ n = lettersF (s.take k) ∧ m = s.length - k, ⟨_, rfl, 0, rfl, by omega, rfl, rfl⟩, ?_⟩
  rintro n i w' m ⟨rfl, k, rfl, hk, rfl, rfl⟩ _
  have hle := lettersF_le (s.take k)
  have hle2 : (s.take k).length ≤ k := List.length_take_le _ _
  refine br_split (fun hlt => ?_) (fun hge => ?_)
  · have hlt' : k < s.length := by omega
    have hst := lettersF_step s k hlt'
    refine sidx_nat hlt' (Kind_spec _ ⟨_, rfl, ?_⟩)
    rw [wrap_id (by omega), wrap_id (by omega)]
    refine br_split (fun h1 => ?_) (fun h1 => br_split (fun h2 => ?_) (fun h2 => ?_))
    · exact ⟨_, Nat.sub_lt_sub_left hlt' (Nat.lt_succ_self k), rfl, k + 1, by simp, by omega, by rw [hst, if_pos (.inl h1)]; simp, rfl⟩
    · exact ⟨_, Nat.sub_lt_sub_left hlt' (Nat.lt_succ_self k), rfl, k + 1, by simp, by omega, by rw [hst, if_pos (.inr h2)]; simp, rfl⟩
    · exact ⟨_, Nat.sub_lt_sub_left hlt' (Nat.lt_succ_self k), rfl, k + 1, by simp, by omega, by rw [hst, if_neg (by simp [h1, h2])]; simp, rfl⟩
  · have : k = s.length := by omega
    subst this
    rw [List.take_length]; exact h
end
end Go.Proofs
namespace Go.Proofs
open Go Go.Sh Go.RowKit

/- the clusters of a string, from a place on: m more ends to look at -/
theorem dr_ok {p : Addr} {K : Addr → Prop} (h : K p) : dr (some p) K := h

theorem retD_one {D : Nat} {W : World} {K : World → Prop} (h : W.heap[D]? = some (.deferred (some []))) (hk : K (W.putObj D (.deferred none))) :
    retD [{ target := .collected D, args := #[] }] W K := ⟨D, rfl, h, hk⟩
theorem ext_chg {w W W' : World} {B : Nat} (h : Ext w W) (hc : Chg (fun k => B ≤ k) W W') (hB : w.heap.size ≤ B) : Ext w W' :=
  h.trans ⟨hc.os, hc.tape, hc.output, hc.size, fun k hk => hc.block k (Nat.lt_of_lt_of_le hk h.size) (by omega)⟩
theorem ext_chgS {w W W' : World} {S : Nat → Prop} (h : Ext w W) (hc : Chg S W W') (hS : ∀ k, S k → w.heap.size ≤ k) : Ext w W' :=
  h.trans ⟨hc.os, hc.tape, hc.output, hc.size, fun k hk => hc.block k (Nat.lt_of_lt_of_le hk h.size) (fun hh => by have := hS k hh; omega)⟩
theorem ext_trans {a b c : World} (h : Ext a b) (k : Ext b c) : Ext a c := h.trans (k.mono h.size)
theorem ext_put {w W : World} {D : Nat} (h : Ext w W) (hD : w.heap.size ≤ D) (o : Obj) : Ext w (W.putObj D o) := ext_chg (B := w.heap.size) h (Chg.put W D o hD) (Nat.le_refl _)
/- storing one cell of a block known whole -/
theorem stL_one {W : World} {b : Nat} {T : TypeId} {u v : Value} {K : World → Prop} (h : Blk W b [u] T) (ho : v.oneCell' = true)
    (hk : ∀ W', Blk W' b [v] T → Chg (· = b) W W' → W'.heap.size = W.heap.size → K W') : stL W ⟨b, 0, none⟩ 0 [v] K := by
  refine stL_blk h (by simp) (by simpa using ho) fun W' h1 h2 h3 h4 h5 h6 => ?_
  exact hk W' (by simpa [putAt] using h1) ⟨h4, h5, h6, by omega, fun k _ hk => h2 k hk⟩ h3
/- Check of the charset -/
theorem mem_of_prefix {α : Type} {pre xs : List α} {x : α} (h : pre ++ [x] <+: xs) : x ∈ xs := by
  obtain ⟨t, rfl⟩ := h; simp
end Go.Proofs
namespace Go.Sh
open Go Go.RowKit

/- the facts on a slice type that append wants -/
structure SlT (P : Program) (t e : TypeId) (size bytes : Nat) (z : Value) : Prop where
  under : P.underlying t = some (.slice e)
  info : (P.info? e).map (fun i => (i.zero, i.size, i.bytes)) = some (some z, size, bytes)
  zs : z.cells.size = size
  pos : 0 < size

theorem SlT.get {P : Program} {t e : TypeId} {size bytes : Nat} {z : Value} (h : SlT P t e size bytes z) : ∃ i, P.info? e = some i ∧ i.zero = some z ∧ i.size = size ∧ i.bytes = bytes := by
  have := h.info
  cases hi : P.info? e with
  | none => rw [hi] at this; simp at this
  | some i => rw [hi] at this; simp at this; exact ⟨i, rfl, this⟩

abbrev Owns (w : World) (B : Nat) (e : TypeId) (size : Nat) (a : Option Addr) (n c : Nat) (xs : List Value) : Prop := w.ownsRow B e size (.slice a n c) n xs
def bk (a : Option Addr) : Nat → Prop := fun k => a.map (·.block) = some k

theorem grown_chg {w w' : World} {a : Option Addr} {n c : Nat} (h : w.grownBy w' (Value.slice a n c).ownBlock) : Chg (bk a) w w' := by
  refine ⟨h.os, h.tape, h.output, h.size, fun k hk hn => h.block k hk fun e => hn ?_⟩
  cases a with
  | none => simp [Value.ownBlock] at e
  | some p => simp [Value.ownBlock] at e; simp [bk, e]

/- one new element, out of the block that the call has just laid -/
/- an owned row while other blocks turn -/
theorem Owns.chg {w w' : World} {B : Nat} {e : TypeId} {size : Nat} {a : Option Addr} {n c : Nat} {xs : List Value} {S : Nat → Prop} (h : Owns w B e size a n c xs) (hc : Chg S w w') (hS : ∀ k, bk a k → ¬ S k) : Owns w' B e size a n c xs := by
  refine ⟨h.1, ?_⟩
  rcases h.2 with h | ⟨g, cap, cur, e1, e2, e3, e4⟩
  · exact .inl h
  · refine .inr ⟨g, cap, cur, e1, e2, (hc.block g (Array.getElem?_eq_some_iff.1 e3).1 (hS g ?_)).trans e3, e4⟩
    simp at e1; simp [bk, e1.1]
theorem Owns.ext {w w' : World} {B : Nat} {e : TypeId} {size : Nat} {a : Option Addr} {n c : Nat} {xs : List Value} (h : Owns w B e size a n c xs) (hc : Ext w w') : Owns w' B e size a n c xs :=
  h.chg (S := fun _ => False) (.of_ext hc) fun _ _ h => h
theorem Owns.bk {w : World} {B : Nat} {e : TypeId} {size : Nat} {a : Option Addr} {n c : Nat} {xs : List Value} (h : Owns w B e size a n c xs) {k : Nat} (hk : bk a k) : B ≤ k ∧ k < w.heap.size := by
  rcases h.2 with h | ⟨g, cap, cur, e1, e2, e3, e4⟩
  · simp at h; rw [h.1.1] at hk; simp [Sh.bk] at hk
  · simp at e1; rw [e1.1] at hk; simp [Sh.bk] at hk; subst hk; exact ⟨e2, (Array.getElem?_eq_some_iff.1 e3).1⟩
theorem Owns.nil (w : World) (B : Nat) (e : TypeId) (size : Nat) : Owns w B e size none 0 0 [] := World.ownsRow_nil w B e size
theorem Owns.made {w : World} {b B : Nat} {T : TypeId} {size : Nat} (h : Blk w b [] T) (hB : B ≤ b) : Owns w B T size (some ⟨b, 0, none⟩) 0 0 [] :=
  ⟨by simp, .inr ⟨b, 0, #[], rfl, hB, h, Nat.le_refl _, by simp [maxLen], by simp, by simp⟩⟩
/- a cell of an owned row -/
theorem Owns.cell {w : World} {B : Nat} {e : TypeId} {size : Nat} {a : Option Addr} {n c : Nat} {xs : List Value} (h : Owns w B e size a n c xs) (hn : 0 < n) :
    ∃ g, a = some ⟨g, 0, none⟩ ∧ B ≤ g ∧ ∀ j v, xs[j]? = some v → w.cell? ⟨g, j, none⟩ = some v := by
  rcases h.2 with h | ⟨g, cap, cur, e1, e2, e3, e4, e5, e6, e7⟩
  · omega
  · simp at e1
    refine ⟨g, e1.1, e2, fun j v hj => ?_⟩
    have hj' : j < n * size := by
      have := (List.getElem?_eq_some_iff.1 hj).1
      rw [h.1] at this; exact this
    rw [← e7] at hj
    rw [List.getElem?_take] at hj
    rw [if_pos hj'] at hj
    simp [World.cell?, e3]
    simpa using hj
theorem Owns.len {w : World} {B : Nat} {e : TypeId} {size : Nat} {a : Option Addr} {n c : Nat} {xs : List Value} (h : Owns w B e size a n c xs) : xs.length = n * size := h.1
end Go.Sh
namespace Go.Proofs
open Go Go.Sh Go.RowKit

/- the reference's right and Check -/
end Go.Proofs
namespace Go.Proofs
open Go Go.Sh Go.RowKit

def isNameF (s : List UInt8) : Bool := decide (1 ≤ s.length) && decide (s.length ≤ 16) && decide (lettersF s = s.length)

section
variable {R : Ending → World → Prop} {w : World}
theorem IsName_spec (s : List UInt8) (h : R (.returned (.bool (isNameF s))) w) : Calls Tryz.prog F_charset_IsName ⟨[.string ⟨⟨s⟩⟩]⟩ w R := by
  apply c_charset_IsName
  refine br_split (fun h1 => br_split (fun h2 => ?_) (fun h2 => ?_)) (fun h1 => ?_)
  · refine Letters_spec s (by omega) ⟨_, rfl, ?_⟩
    have : s.length ≠ 0 := fun e => h1 (List.length_eq_zero_iff.1 e)
    have e : isNameF s = decide ((lettersF s : Int) = (s.length : Int)) := by
      unfold isNameF
      rw [Bool.eq_iff_iff]
      simp
      omega
    rw [← e]; exact h
  · have e : isNameF s = false := by unfold isNameF; rw [show decide (s.length ≤ 16) = false by simp; omega]; simp
    rw [e] at h; exact h
  · have e : isNameF s = false := by have : s = [] := Classical.byContradiction h1; subst this; rfl
    rw [e] at h; exact h

end
end Go.Proofs
namespace Go.Sh
open Go Go.RowKit

/- cells that stand at a place; none, where there are none -/
def At (S : Nat → Prop) (w : World) (a : Option Addr) (us : List Value) : Prop :=
  us = [] ∨ ∃ b o, a = some ⟨b, o, none⟩ ∧ S b ∧ b < w.heap.size ∧ ∀ j v, us[j]? = some v → w.cell? ⟨b, o + j, none⟩ = some v

theorem app_own2 {P : Program} {t ty e : TypeId} {size bytes : Nat} {z : Value} (hT : SlT P t e size bytes z) {B : Nat} {a : Option Addr} {n c : Nat} {xs : List Value} {w : World} (hown : Owns w B e size a n c xs) (hB : B ≤ w.heap.size)
    {S : Nat → Prop} {ad : Option Addr} {m c' : Nat} (news : List Value) (hl : news.length = m * size) (hnews : At S w ad news) (h1 : ∀ u ∈ news, u.oneCell' = true)
    (hlen : n + m ≤ 4611686018427387904) (hbytes : (n + m) * bytes ≤ 140737488355328) {K : Option Addr → Nat → Nat → World → Prop}
    (hk : ∀ a' c'' w', Owns w' B e size a' (n + m) c'' (xs ++ news) → Chg (bk a) w w' → (∀ k, bk a' k → bk a k ∨ w.heap.size ≤ k) → K a' (n + m) c'' w') :
    app P [t, t] ty (.slice a n c) (.slice ad m c') w K := by
  obtain ⟨i, hi, hz, hs, hb⟩ := hT.get
  by_cases hm : m = 0
  · subst hm
    have hn : news = [] := List.eq_nil_of_length_eq_zero (by simpa using hl)
    subst hn
    have hr : (Builtin.append_ #[t, t] ty #[.slice a n c, .slice ad 0 c']).run P w = .ok (.slice a n c) w := by
      rcases hown.2 with ⟨e1, rfl⟩ | ⟨g, cap, cur, e1, _, _, hnc, _⟩
      · obtain ⟨rfl, _, rfl⟩ : a = none ∧ True ∧ c = 0 := by simpa using e1
        cases ad <;> simp [Builtin.append_, run_underlying hT.under, sizeOf, typeInfo, hi, Builtin.lenOf, Builtin.firstCells, loadCells, loadCellsFrom]
      · obtain ⟨rfl, _, rfl⟩ : a = some ⟨g, 0, none⟩ ∧ True ∧ c = cap := by simpa using e1
        cases ad <;> simp [Builtin.append_, run_underlying hT.under, sizeOf, typeInfo, hi, Builtin.lenOf, Builtin.firstCells, hnc, storeCells, loadCells, loadCellsFrom]
    exact ⟨a, n, c, w, hr, hk a c w (by simpa using hown) (Chg.refl _ _) fun k h => .inl h⟩
  have hne : news ≠ [] := fun e => by
    rw [e, List.length_nil] at hl
    exact absurd hl.symm (Nat.mul_ne_zero hm (by have := hT.pos; omega))
  obtain ⟨b, o, rfl, hSb, hbl, hcell⟩ : ∃ b o, ad = some ⟨b, o, none⟩ ∧ S b ∧ b < w.heap.size ∧ ∀ j v, news[j]? = some v → w.cell? ⟨b, o + j, none⟩ = some v := by
    rcases hnews with h | h
    · exact absurd h hne
    · exact h
  have hnews' : ∀ j u, news[j]? = some u → w.cell? ((⟨b, o, none⟩ : Addr).add j) = some u := fun j u hj => by rw [add_none]; exact hcell j u hj
  have key : ∀ v' w', (Builtin.append_ #[t, t] ty #[.slice a n c, .slice (some ⟨b, o, none⟩) m c']).run P w = .ok v' w' → ∀ a' n' c'', v' = .slice a' n' c'' → ∀ k, bk a' k → bk a k ∨ w.heap.size ≤ k := by
    intro v' w' hr a' n' c'' hv k hk'
    rcases hown.2 with ⟨e1, rfl⟩ | ⟨g, cap, cur, e1, hbg, hg, hnc, hcm, hcs, htake⟩
    · obtain ⟨rfl, _, rfl⟩ : a = none ∧ True ∧ c = 0 := by simpa using e1
      have hr2 := run_append_nil (P := P) w t ty e i z hT.under hi hz ⟨b, o, none⟩ m c' news (by rw [hs]; exact hl) hnews' (by omega) (by omega) (by rw [hb]; simp only [Nat.zero_add] at hbytes; omega)
      rw [hr] at hr2
      simp only [Result.ok.injEq] at hr2
      rw [hr2.1] at hv
      simp only [Value.slice.injEq] at hv
      rw [← hv.1] at hk'
      simp [bk] at hk'
      right; omega
    · obtain ⟨rfl, _, rfl⟩ : a = some ⟨g, 0, none⟩ ∧ True ∧ c = cap := by simpa using e1
      by_cases hroom : n + m ≤ c
      · have hfit : n * i.size + news.length ≤ cur.size := by rw [hl, hcs, hs, ← Nat.add_mul]; exact Nat.mul_le_mul_right _ hroom
        have hr2 := run_append_room (P := P) w t ty e i hT.under hi g n c cur hg ⟨b, o, none⟩ m c' news (by rw [hs]; exact hl) hnews' h1 hroom hfit
        rw [hr] at hr2
        simp only [Result.ok.injEq] at hr2
        rw [hr2.1] at hv
        simp only [Value.slice.injEq] at hv
        rw [← hv.1] at hk'
        exact .inl hk'
      · have holds : ∀ j u, xs[j]? = some u → w.cell? ((⟨g, 0, none⟩ : Addr).add j) = some u := hown.cells (g := g) rfl
        have hr2 := run_append_grow (P := P) w t ty e i z hT.under hi hz ⟨g, 0, none⟩ n c xs (by rw [hs]; exact hown.1) holds ⟨b, o, none⟩ m c' news (by rw [hs]; exact hl) hnews' (by omega) (by omega) (growslice_fits (by omega) (by rw [hb]; exact hbytes))
        rw [hr] at hr2
        simp only [Result.ok.injEq] at hr2
        rw [hr2.1] at hv
        simp only [Value.slice.injEq] at hv
        rw [← hv.1] at hk'
        simp [bk] at hk'
        right; omega
  obtain ⟨v', w', hr, ho, hg, _⟩ := run_append_own w B t ty e i z size bytes hT.under hi hz hs hb hT.zs hT.pos _ n xs hown ⟨b, o, none⟩ m c' news hl hnews' h1 (by simp only [maxLen]; omega) hbytes hB
  have hkey := key v' w' hr
  rcases ho.2 with ⟨rfl, hn⟩ | ⟨g, cap, cur, rfl, h2⟩
  · omega
  · exact ⟨some ⟨g, 0, none⟩, n + m, cap, w', hr, hk _ _ _ ho (grown_chg hg) (hkey _ _ _ rfl)⟩

theorem At.keep {S S' : Nat → Prop} {w w' : World} {a : Option Addr} {us : List Value} (h : At S w a us) (hs : ∀ k, S k → k < w.heap.size → S' k ∧ w'.heap[k]? = w.heap[k]?) (hz : w.heap.size ≤ w'.heap.size) : At S' w' a us := by
  rcases h with h | ⟨b, o, rfl, hb, hl, hc⟩
  · exact .inl h
  · obtain ⟨h1, h2⟩ := hs b hb hl
    refine .inr ⟨b, o, rfl, h1, by omega, fun j v hj => ?_⟩
    have := hc j v hj
    unfold World.cell? at this ⊢
    rw [h2]; exact this

theorem app_one2 {P : Program} {t ty e : TypeId} {size bytes : Nat} {z : Value} (hT : SlT P t e size bytes z) {B : Nat} {a : Option Addr} {n c : Nat} {xs : List Value} {w : World} (hown : Owns w B e size a n c xs) (hB : B ≤ w.heap.size)
    (cs : List Value) (hl : cs.length = size) (h1 : ∀ u ∈ cs, u.oneCell' = true) (hlen : n + 1 ≤ 4611686018427387904) (hbytes : (n + 1) * bytes ≤ 140737488355328) {K : Option Addr → Nat → Nat → World → Prop}
    (hk : ∀ a' c'' w', Owns w' B e size a' (n + 1) c'' (xs ++ cs) → Chg (bk a) w w' → (∀ k, bk a' k → bk a k ∨ w.heap.size ≤ k) → K a' (n + 1) c'' w') :
    al w e cs fun p w1 => app P [t, t] ty (.slice a n c) (.slice (some p) 1 1) w1 K := by
  refine al_intro fun b w1 hb g1 g2 g3 => ?_
  refine app_own2 (S := fun _ => True) hT (hown.ext g2) (by omega) cs (by simp [hl]) (.inr ⟨b, 0, rfl, trivial, by omega, fun j u hj => ?_⟩) h1 hlen hbytes fun a' c'' w' ho hc hn => hk a' c'' w' ho ?_ fun k hk => (hn k hk).imp id fun h => by omega
  · rw [Nat.zero_add, g1.cell]; exact hj
  · exact (Chg.of_ext g2).trans hc
end Go.Sh
namespace Go.Sh
open Go Go.RowKit

/- a list of nodes -/
inductive Fo where
  | nil
  | cons (k : Int) (t : List UInt8) (n : Int) (ps rest : Fo)
namespace Fo
def beq : Fo → Fo → Bool
  | nil, nil => true
  | cons k t n ps r, cons k' t' n' ps' r' => decide (k = k') && decide (t = t') && decide (n = n') && ps.beq ps' && r.beq r'
  | _, _ => false
theorem beq_iff : ∀ f g : Fo, f.beq g = true ↔ f = g
  | nil, nil => by simp [beq]
  | nil, cons .. => by simp [beq]
  | cons .., nil => by simp [beq]
  | cons k t n ps r, cons k' t' n' ps' r' => by
    simp only [beq, Bool.and_eq_true, decide_eq_true_eq, beq_iff ps ps', beq_iff r r', cons.injEq, and_assoc]
instance (f g : Fo) : Decidable (f = g) := decidable_of_iff (f.beq g = true) (beq_iff f g)
def len : Fo → Nat
  | nil => 0
  | cons _ _ _ _ r => r.len + 1
def app : Fo → Fo → Fo
  | nil, g => g
  | cons k t n ps r, g => cons k t n ps (r.app g)
def one (k : Int) (t : List UInt8) (n : Int) (ps : Fo) : Fo := cons k t n ps nil
def size : Fo → Nat
  | nil => 0
  | cons _ _ _ ps r => ps.size + r.size + 1
@[simp] theorem len_nil : (nil : Fo).len = 0 := rfl
@[simp] theorem len_cons (k t n ps r) : (cons k t n ps r).len = r.len + 1 := rfl
@[simp] theorem nil_app (g : Fo) : nil.app g = g := rfl
@[simp] theorem cons_app (k t n ps r g) : (cons k t n ps r).app g = cons k t n ps (r.app g) := rfl
@[simp] theorem app_nil (f : Fo) : f.app nil = f := by
  induction f with
  | nil => rfl
  | cons k t n ps r _ ih => rw [cons_app, ih]
@[simp] theorem len_app (f g : Fo) : (f.app g).len = f.len + g.len := by
  induction f with
  | nil => simp
  | cons k t n ps r _ ih => simp only [cons_app, len_cons, ih]; omega
theorem eq_nil_of_len {f : Fo} (h : f.len = 0) : f = nil := by cases f with | nil => rfl | cons => simp at h
end Fo

/- the cells that a list of nodes stands in -/
def FoC (S : Nat → Prop) (w : World) : Fo → List Value → Prop
  | .nil, vs => vs = []
  | .cons k t n ps r, vs => ∃ a c us vs', vs = .int .i64 k :: .string ⟨⟨t⟩⟩ :: .int .i64 n :: .slice a ps.len c :: vs' ∧ At S w a us ∧ FoC S w ps us ∧ FoC S w r vs'
def SlF (S : Nat → Prop) (w : World) (a : Option Addr) (n : Nat) (f : Fo) : Prop := n = f.len ∧ ∃ us, At S w a us ∧ FoC S w f us

section
variable {S S' : Nat → Prop} {w w' : World}
theorem FoC.keep (hs : ∀ k, S k → k < w.heap.size → S' k ∧ w'.heap[k]? = w.heap[k]?) (hz : w.heap.size ≤ w'.heap.size) : ∀ {f : Fo} {vs : List Value}, FoC S w f vs → FoC S' w' f vs
  | .nil, vs, h => h
  | .cons k t n ps r, vs, ⟨a, c, us, vs', e, h1, h2, h3⟩ => ⟨a, c, us, vs', e, h1.keep hs hz, FoC.keep hs hz h2, FoC.keep hs hz h3⟩
theorem FoC.len : ∀ {f : Fo} {vs : List Value}, FoC S w f vs → vs.length = f.len * 4
  | .nil, vs, h => by subst h; rfl
  | .cons k t n ps r, vs, ⟨a, c, us, vs', e, h1, h2, h3⟩ => by subst e; simp only [List.length_cons, Fo.len_cons, FoC.len h3]; omega
theorem FoC.one : ∀ {f : Fo} {vs : List Value}, FoC S w f vs → ∀ u ∈ vs, u.oneCell' = true
  | .nil, vs, h => by subst h; simp
  | .cons k t n ps r, vs, ⟨a, c, us, vs', e, h1, h2, h3⟩ => by
    subst e
    intro u hu
    simp only [List.mem_cons] at hu
    rcases hu with rfl | rfl | rfl | rfl | hu
    · rfl
    · rfl
    · rfl
    · rfl
    · exact FoC.one h3 u hu
theorem FoC.app : ∀ {f g : Fo} {us vs : List Value}, FoC S w f us → FoC S w g vs → FoC S w (f.app g) (us ++ vs)
  | .nil, g, us, vs, h, hg => by subst h; exact hg
  | .cons k t n ps r, g, us, vs, ⟨a, c, xs, vs', e, h1, h2, h3⟩, hg => by
    subst e
    exact ⟨a, c, xs, vs' ++ vs, rfl, h1, h2, FoC.app h3 hg⟩
theorem FoC.split : ∀ {f g : Fo} {us : List Value}, FoC S w (f.app g) us → ∃ xs ys, us = xs ++ ys ∧ FoC S w f xs ∧ FoC S w g ys
  | .nil, g, us, h => ⟨[], us, rfl, rfl, h⟩
  | .cons k t n ps r, g, us, ⟨a, c, xs, vs', e, h1, h2, h3⟩ => by
    obtain ⟨x, y, rfl, h4, h5⟩ := FoC.split h3
    exact ⟨_ :: _ :: _ :: _ :: x, y, by rw [e]; rfl, ⟨a, c, xs, x, rfl, h1, h2, h4⟩, h5⟩

theorem SlF.keep {a : Option Addr} {n : Nat} {f : Fo} (h : SlF S w a n f) (hs : ∀ k, S k → k < w.heap.size → S' k ∧ w'.heap[k]? = w.heap[k]?) (hz : w.heap.size ≤ w'.heap.size) : SlF S' w' a n f := by
  obtain ⟨h1, us, h2, h3⟩ := h
  exact ⟨h1, us, h2.keep hs hz, h3.keep hs hz⟩
theorem SlF.ext {a : Option Addr} {n : Nat} {f : Fo} (h : SlF S w a n f) (he : Ext w w') : SlF S w' a n f := h.keep (fun k hk hl => ⟨hk, he.block k hl⟩) he.size
theorem SlF.chg {T : Nat → Prop} {a : Option Addr} {n : Nat} {f : Fo} (h : SlF S w a n f) (he : Chg T w w') (hd : ∀ k, S k → ¬ T k) : SlF S w' a n f := h.keep (fun k hk hl => ⟨hk, he.block k hl (hd k hk)⟩) he.size
theorem SlF.imp {a : Option Addr} {n : Nat} {f : Fo} (h : SlF S w a n f) (hs : ∀ k, S k → k < w.heap.size → S' k) : SlF S' w a n f := h.keep (fun k hk hl => ⟨hs k hk hl, rfl⟩) (Nat.le_refl _)
theorem SlF.nil (a : Option Addr) : SlF S w a 0 .nil := ⟨rfl, [], .inl rfl, rfl⟩

/- a node at a place -/
structure NodeIs (S : Nat → Prop) (w : World) (q : Addr) (k : Int) (t : List UInt8) (n : Int) (a : Option Addr) (c : Nat) (ps : Fo) : Prop where
  kind : w.cell? (q.add 0) = some (.int .i64 k)
  text : w.cell? (q.add 1) = some (.string ⟨⟨t⟩⟩)
  num : w.cell? (q.add 2) = some (.int .i64 n)
  parts : w.cell? (q.add 3) = some (.slice a ps.len c)
  sl : SlF S w a ps.len ps
theorem SlF.get {a : Option Addr} {n : Nat} {f : Fo} (h : SlF S w a n f) {pre r : Fo} {k : Int} {t : List UInt8} {m : Int} {ps : Fo} (hf : f = pre.app (.cons k t m ps r)) :
    ∃ q a' c', (∀ K : Addr → Prop, K q → idx a n (pre.len : Int) 4 K) ∧ S q.block ∧ q.block < w.heap.size ∧ NodeIs S w q k t m a' c' ps := by
  obtain ⟨h1, us, h2, h3⟩ := h
  subst hf
  obtain ⟨xs, ys, rfl, h4, a', c', zs, vs', rfl, h5, h6, h7⟩ := h3.split
  rcases h2 with h2 | ⟨b, o, rfl, hb, hbl, hc⟩
  · simp at h2
  have hl := h4.len
  have key : ∀ j v, (.int .i64 k :: .string ⟨⟨t⟩⟩ :: .int .i64 m :: .slice a' ps.len c' :: vs' : List Value)[j]? = some v → w.cell? ((⟨b, o + pre.len * 4, none⟩ : Addr).add j) = some v := by
    intro j v hj
    rw [add_none, Nat.add_assoc]
    refine hc _ _ ?_
    rw [List.getElem?_append_right (by omega), show pre.len * 4 + j - xs.length = j by omega]
    exact hj
  refine ⟨⟨b, o + pre.len * 4, none⟩, a', c', fun K hK => ⟨by omega, by simp only [Fo.len_app, Fo.len_cons] at h1; omega, ?_⟩, hb, hbl, ⟨key 0 _ rfl, key 1 _ rfl, key 2 _ rfl, key 3 _ rfl, rfl, zs, h5, h6⟩⟩
  show K _
  rw [add_none, Int.toNat_natCast]; exact hK
theorem NodeIs.ext {q : Addr} {k : Int} {t : List UInt8} {n : Int} {a : Option Addr} {c : Nat} {ps : Fo} (h : NodeIs S w q k t n a c ps) (hl : q.block < w.heap.size) (he : Ext w w') : NodeIs S w' q k t n a c ps := by
  have key : ∀ j, w'.cell? (q.add j) = w.cell? (q.add j) := fun j => by
    unfold World.cell?
    have : (q.add j).block = q.block := by unfold Addr.add; split <;> rfl
    rw [this, he.block _ hl]
  exact ⟨(key 0).trans h.kind, (key 1).trans h.text, (key 2).trans h.num, (key 3).trans h.parts, h.sl.ext he⟩
/- a list of nodes, as a loop goes over it -/
theorem Fo.next {f pre r : Fo} (hf : f = pre.app r) (h : pre.len < f.len) : ∃ k t m ps r', r = .cons k t m ps r' := by
  cases r with
  | nil => simp [hf] at h
  | cons k t m ps r' => exact ⟨k, t, m, ps, r', rfl⟩
theorem Fo.last {f pre r : Fo} (hf : f = pre.app r) (h : ¬ pre.len < f.len) : r = .nil ∧ pre = f := by
  have : r = .nil := Fo.eq_nil_of_len (by have := congrArg Fo.len hf; simp at this; omega)
  subst this
  exact ⟨rfl, by rw [hf, Fo.app_nil]⟩
end

/- a list under way -/
def OwnF (e : TypeId) (S : Nat → Prop) (B : Nat) (w : World) (a : Option Addr) (n c : Nat) (f : Fo) : Prop :=
  n = f.len ∧ ∃ xs, Owns w B e 4 a n c xs ∧ FoC (fun k => (S k ∨ B ≤ k) ∧ ¬ bk a k) w f xs
section
variable {S : Nat → Prop} {w w' : World} {e : TypeId} {B : Nat} {a : Option Addr} {n c : Nat} {f : Fo}
theorem OwnF.nil (w : World) : OwnF e S B w none 0 0 .nil := ⟨rfl, [], Owns.nil w B e 4, rfl⟩
theorem OwnF.len (h : OwnF e S B w a n c f) : n = f.len := h.1
theorem OwnF.bk (h : OwnF e S B w a n c f) {k : Nat} (hk : Sh.bk a k) : B ≤ k ∧ k < w.heap.size := by
  obtain ⟨_, xs, h1, _⟩ := h
  exact h1.bk hk
theorem OwnF.chg {T : Nat → Prop} (h : OwnF e S B w a n c f) (hc : Chg T w w') (hT : ∀ k, T k → ¬ S k ∧ k < B) : OwnF e S B w' a n c f := by
  obtain ⟨h0, xs, h1, h2⟩ := h
  refine ⟨h0, xs, h1.chg hc fun k hk ht => ?_, h2.keep (fun k hk hl => ⟨hk, hc.block k hl fun ht => ?_⟩) hc.size⟩
  · have := (h1.bk hk).1; have := (hT k ht).2; omega
  · rcases hk.1 with h | h
    · exact (hT k ht).1 h
    · have := (hT k ht).2; omega
theorem OwnF.ext (h : OwnF e S B w a n c f) (hc : Ext w w') : OwnF e S B w' a n c f :=
  h.chg (T := fun _ => False) (.of_ext hc) fun k h => h.elim
/- the world has changed in blocks that the list does not use -/
theorem OwnF.out (h : OwnF e S B w a n c f) : SlF (fun k => S k ∨ B ≤ k) w a n f := by
  obtain ⟨h0, xs, h1, h2⟩ := h
  refine ⟨h0, xs, ?_, h2.keep (fun k hk _ => ⟨hk.1, rfl⟩) (Nat.le_refl _)⟩
  by_cases hn : 0 < n
  · obtain ⟨g, rfl, hg, hc⟩ := h1.cell hn
    exact .inr ⟨g, 0, rfl, .inr hg, (h1.bk (by simp [Sh.bk])).2, fun j v hj => by rw [Nat.zero_add]; exact hc j v hj⟩
  · have hx : xs = [] := List.eq_nil_of_length_eq_zero (by rw [h1.len]; omega)
    exact .inl hx
theorem OwnF.push {P : Program} {t bytes : Nat} {z : Value} (hT : SlT P t e 4 bytes z) (h : OwnF e S B w a n c f) (hB : B ≤ w.heap.size) {k : Int} {s : List UInt8} {m : Int} {a' : Option Addr} {c' : Nat} {ps : Fo}
    (hps : SlF (fun k => (S k ∨ B ≤ k) ∧ ¬ Sh.bk a k) w a' ps.len ps) (hlen : n + 1 ≤ 4611686018427387904) (hbytes : (n + 1) * bytes ≤ 140737488355328) {ty : TypeId} {K : Option Addr → Nat → Nat → World → Prop}
    (hk : ∀ a'' n'' c'' w', OwnF e S B w' a'' n'' c'' (f.app (.one k s m ps)) → Chg (Sh.bk a) w w' → K a'' n'' c'' w') :
    al w e [.int .i64 k, .string ⟨⟨s⟩⟩, .int .i64 m, .slice a' ps.len c'] fun p w1 => app P [t, t] ty (.slice a n c) (.slice (some p) 1 1) w1 K := by
  obtain ⟨h0, xs, h1, h2⟩ := h
  refine app_one2 hT h1 hB [.int .i64 k, .string ⟨⟨s⟩⟩, .int .i64 m, .slice a' ps.len c'] rfl (by intro u hu; simp only [List.mem_cons, List.not_mem_nil, or_false] at hu; rcases hu with rfl | rfl | rfl | rfl <;> rfl) hlen hbytes fun a'' c'' w' ho hc hn => hk _ _ _ _ ⟨?_, _, ho, ?_⟩ hc
  · simp [Fo.one]; exact h0
  · obtain ⟨_, us, h3, h4⟩ := hps
    have hs : ∀ k, ((S k ∨ B ≤ k) ∧ ¬ Sh.bk a k) → k < w.heap.size → ((S k ∨ B ≤ k) ∧ ¬ Sh.bk a'' k) ∧ w'.heap[k]? = w.heap[k]? := fun k hk hl =>
      ⟨⟨hk.1, fun hb => (hn k hb).elim hk.2 (fun h => by omega)⟩, hc.block k hl hk.2⟩
    exact (h2.keep hs hc.size).app ⟨a', c', us, [], rfl, h3.keep hs hc.size, h4.keep hs hc.size, rfl⟩
theorem OwnF.pushAll {P : Program} {t bytes : Nat} {z : Value} (hT : SlT P t e 4 bytes z) (h : OwnF e S B w a n c f) (hB : B ≤ w.heap.size) {a' : Option Addr} {m c' : Nat} {g : Fo}
    (hg : SlF (fun k => (S k ∨ B ≤ k) ∧ ¬ Sh.bk a k) w a' m g) (hlen : n + m ≤ 4611686018427387904) (hbytes : (n + m) * bytes ≤ 140737488355328) {ty : TypeId} {K : Option Addr → Nat → Nat → World → Prop}
    (hk : ∀ a'' n'' c'' w', OwnF e S B w' a'' n'' c'' (f.app g) → Chg (Sh.bk a) w w' → K a'' n'' c'' w') :
    app P [t, t] ty (.slice a n c) (.slice a' m c') w K := by
  obtain ⟨h0, xs, h1, h2⟩ := h
  obtain ⟨hm, us, h3, h4⟩ := hg
  refine app_own2 hT h1 hB us (by rw [h4.len, hm]) h3 h4.one hlen hbytes fun a'' c'' w' ho hc hn => hk _ _ _ _ ⟨?_, _, ho, ?_⟩ hc
  · rw [Fo.len_app]; omega
  · have hs : ∀ k, ((S k ∨ B ≤ k) ∧ ¬ Sh.bk a k) → k < w.heap.size → ((S k ∨ B ≤ k) ∧ ¬ Sh.bk a'' k) ∧ w'.heap[k]? = w.heap[k]? := fun k hk hl =>
      ⟨⟨hk.1, fun hb => (hn k hb).elim hk.2 (fun h => by omega)⟩, hc.block k hl hk.2⟩
    exact (h2.keep hs hc.size).app (h4.keep hs hc.size)
end
namespace Fo
def depth : Fo → Nat
  | nil => 0
  | cons _ _ _ ps r => max (match ps with | nil => 0 | cons .. => ps.depth + 1) r.depth
end Fo
end Go.Sh
namespace Go.Proofs
open Go Go.Sh Go.RowKit

/- the reference's measure of a transcript -/
section
variable {R : Ending → World → Prop} {S : Nat → Prop}
end
end Go.Proofs
namespace Go.Proofs
open Go Go.Sh Go.RowKit

theorem ext_drew (W : World) : Ext W W.drew := ⟨rfl, rfl, rfl, Nat.le_refl _, fun _ _ => rfl⟩
abbrev small (f : Fo) : Prop := f.size ≤ 4611686018427387904
theorem wrap_nat {n : Nat} (h : n ≤ 4611686018427387904) : IntKind.i64.wrap ((n : Int) + 1) = ((n + 1 : Nat) : Int) := by rw [wrap_id (by omega)]; omega

/- the fields of the kinds -/
section
variable {R : Ending → World → Prop} {w : World}
/- the error of a node alone -/
end

section
variable {R : Ending → World → Prop} {w : World}
end
end Go.Proofs
namespace Go.Sh
open Go Go.RowKit

/- an iterator: whatever it is given to call, it calls it at the elements of xs, in their order, until it has said no.
   Rd: the blocks that it reads; S: those that its caller's body may write -/
def IterR {α : Type} (P : Program) (gf : FuncId) (cap : List Value) (xs : List α) (E : α → List Value → Prop) (Rd : Nat → Prop) (w : World) : Prop :=
  ∀ (yf : Fn) (ya yb : Array Value) (S : Nat → Prop) (J : List α → World → Prop) (Jx : World → Prop) (R : Ending → World → Prop),
    (∀ k, S k → k < w.heap.size ∧ ¬ Rd k) →
    (∀ pre W W', J pre W → Chg (fun k => w.heap.size ≤ k) W W' → J pre W') → (∀ W W', Jx W → Chg (fun k => w.heap.size ≤ k) W W' → Jx W') →
    (∀ pre x vs W, E x vs → pre ++ [x] <+: xs → w.heap.size ≤ W.heap.size → J pre W → CallV P (.func yf ya yb) vs W fun e W' => Chg S W W' ∧ ((e = .returned (.bool true) ∧ J (pre ++ [x]) W') ∨ (e = .returned (.bool false) ∧ Jx W'))) →
    J [] w → (∀ W, w.heap.size ≤ W.heap.size → J xs W → R (.returned (.tuple ⟨[]⟩)) W) → (∀ W, w.heap.size ≤ W.heap.size → Jx W → R (.returned (.tuple ⟨[]⟩)) W) →
    Calls P gf ⟨.func yf ya yb :: cap⟩ w R

end Go.Sh
namespace Go.Sh
open Go Go.RowKit

/- an iterator whose caller's body may write blocks of its own, new ones among them: S, as it stands -/
def IterO {α : Type} (P : Program) (gf : FuncId) (cap : List Value) (xs : List α) (E : α → List Value → Prop) (Rd : Nat → Prop) (w : World) : Prop :=
  ∀ (yf : Fn) (ya yb : Array Value) (S0 : Nat → Prop) (J : List α → (Nat → Prop) → World → Prop) (Jx : (Nat → Prop) → World → Prop) (R : Ending → World → Prop),
    (∀ k, S0 k → k < w.heap.size ∧ ¬ Rd k) →
    (∀ pre S W W', J pre S W → Chg (fun k => w.heap.size ≤ k ∧ ¬ S k) W W' → J pre S W') → (∀ S W W', Jx S W → Chg (fun k => w.heap.size ≤ k ∧ ¬ S k) W W' → Jx S W') →
    (∀ pre x vs S W, E x vs → pre ++ [x] <+: xs → w.heap.size ≤ W.heap.size → (∀ k, S k → k < W.heap.size ∧ ¬ Rd k) → J pre S W → CallV P (.func yf ya yb) vs W fun e W' => Chg S W W' ∧
      ∃ S' : Nat → Prop, (∀ k, S' k → (S k ∨ W.heap.size ≤ k) ∧ k < W'.heap.size) ∧ ((e = .returned (.bool true) ∧ J (pre ++ [x]) S' W') ∨ (e = .returned (.bool false) ∧ Jx S' W'))) →
    J [] S0 w → (∀ S W, w.heap.size ≤ W.heap.size → J xs S W → R (.returned (.tuple ⟨[]⟩)) W) → (∀ S W, w.heap.size ≤ W.heap.size → Jx S W → R (.returned (.tuple ⟨[]⟩)) W) →
    Calls P gf ⟨.func yf ya yb :: cap⟩ w R
theorem IterO.mono {α : Type} {P : Program} {gf : FuncId} {cap : List Value} {xs : List α} {E E' : α → List Value → Prop} {Rd : Nat → Prop} {w : World} (h : IterO P gf cap xs E Rd w) (hE : ∀ x vs, E x vs → E' x vs) : IterO P gf cap xs E' Rd w :=
  fun yf ya yb S0 J Jx R hS hJ hJx hbody h0 h1 h2 => h yf ya yb S0 J Jx R hS hJ hJx (fun pre x vs S W he => hbody pre x vs S W (hE _ _ he)) h0 h1 h2

theorem RFw_lawO {α : Type} {P : Program} {N : Nat} {g : Operand} {ps : Array Tmp} {assign body : Code} {env : Env} {ds : List Deferred} {w : World} {x : Nat} {Qn Qr Qx : List Deferred → World → Prop}
    (xA xB : Ann) {gf : FuncId} {cap : List Value} (hg : ev env g = .func (.func gf) ⟨[]⟩ ⟨cap⟩) (hok : okFn P gf = true)
    {xs : List α} {E : α → List Value → Prop} {Rd : Nat → Prop} (hit : ∀ w1, Ext w w1 → IterO P gf cap xs E Rd w1)
    (hps : ∀ y vs, E y vs → vs.length = ps.size) (hpN : ∀ p ∈ ps.toList, p < N)
    (hRd : ∀ k, Rd k → k < w.heap.size) (S0 : Nat → Prop) (hS : ∀ k, S0 k → k < w.heap.size ∧ ¬ Rd k)
    (I : List α → (Nat → Prop) → World → Prop) (Kr Kx : (Nat → Prop) → World → Prop)
    (hI : ∀ pre S W W', I pre S W → Chg (fun k => w.heap.size ≤ k ∧ ¬ S k) W W' → I pre S W')
    (hKr : ∀ S W W', Kr S W → Chg (fun k => w.heap.size ≤ k ∧ ¬ S k) W W' → Kr S W') (hKx : ∀ S W W', Kx S W → Chg (fun k => w.heap.size ≤ k ∧ ¬ S k) W W' → Kx S W')
    (h0 : I [] S0 w)
    (hround : ∀ pre y vs S W l, E y vs → pre ++ [y] <+: xs → w.heap.size ≤ l → l < W.heap.size → ¬ S l → (∀ k, S k → k < W.heap.size ∧ ¬ Rd k) → I pre S W →
      fragV P N xA xB assign body l x (fun W2 W' => Chg (fun k => S k ∨ W.heap.size ≤ k) W2 W' ∧ ∃ S' : Nat → Prop, (∀ k, S' k → (S k ∨ W.heap.size ≤ k) ∧ k < W'.heap.size) ∧ I (pre ++ [y]) S' W')
        (fun W2 W' => Chg (fun k => S k ∨ W.heap.size ≤ k) W2 W' ∧ ∃ S' : Nat → Prop, (∀ k, S' k → (S k ∨ W.heap.size ≤ k) ∧ k < W'.heap.size) ∧ Kr S' W')
        (fun W2 W' => Chg (fun k => S k ∨ W.heap.size ≤ k) W2 W' ∧ ∃ S' : Nat → Prop, (∀ k, S' k → (S k ∨ W.heap.size ≤ k) ∧ k < W'.heap.size) ∧ Kx S' W') (updPs ps.toList vs env) W)
    (hn : ∀ D S W, w.heap.size ≤ D → D < W.heap.size → ¬ S D → W.heap[D]? = some (.deferred (some [])) → I xs S W → Qn ({ target := .collected D, args := #[] } :: ds) W)
    (hr : ∀ D S W, w.heap.size ≤ D → D < W.heap.size → ¬ S D → W.heap[D]? = some (.deferred (some [])) → Kr S W → Qr ({ target := .collected D, args := #[] } :: ds) W)
    (hx : ∀ D S W, w.heap.size ≤ D → D < W.heap.size → ¬ S D → W.heap[D]? = some (.deferred (some [])) → Kx S W → Qx ({ target := .collected D, args := #[] } :: ds) W) :
    RFw P none N (.rangeFunc g ps assign body) env ds w x Qn Qr Qx := by
  intro a ha hd
  refine wpIn_rangeFunc fun fn _ => ?_
  let rec0 : Loop := { state := .ready, pending := none, fn, tmps := a.tmps, params := ps, assign, body, defers := w.heap.size }
  let w1 : World := (w.alloc (.deferred (some []))).alloc (.loop rec0)
  have hw1 : w1.heap.size = w.heap.size + 2 := by simp [w1]
  have hext : Ext w w1 := ((Below.refl _ w).alloc (Nat.le_refl _) _).alloc (by simp) _
  have hD1 : w1.heap[w.heap.size]? = some (.deferred (some [])) := by
    show ((w.alloc _).alloc _).heap[w.heap.size]? = _
    rw [Below.heap_alloc _ _ _ (by simp), World.alloc_heap_new]
  have hl1 : w1.heap[w.heap.size + 1]? = some (.loop rec0) := by
    have := World.alloc_heap_new (w.alloc (.deferred (some []))) (.loop rec0)
    simpa [w1] using this
  have hgv : a.eval g = .func (.func gf) ⟨[]⟩ ⟨cap⟩ := by rw [ha.ev]; exact hg
  refine ⟨w.heap.size + 1, [{ target := .collected w.heap.size, args := #[] }], w1, { target := .fn (.func gf) ⟨cap⟩, args := #[.func (.yield (w.heap.size + 1)) #[] #[]] }, w1, gf,
    ⟨.func (.yield (w.heap.size + 1)) #[] #[] :: cap⟩, w1, run_enterLoop_outer fn a.tmps ps assign body, ?_, fun _ _ => trivial, ?_, fun h => by simp [Fr, Fence.wide] at h, ?_⟩
  · have em : Array.map a.eval #[Operand.const (.func (.yield (w.heap.size + 1)) #[] #[])] = #[.func (.yield (w.heap.size + 1)) #[] #[]] := by simp [Act.eval]
    simp only [resolve, rangeCall, hgv, Deferred.ofValue, em]
    simp
  · have e : (#[.func (.yield (w.heap.size + 1)) #[] #[]] : Array Value) ++ (⟨cap⟩ : Array Value) = ⟨.func (.yield (w.heap.size + 1)) #[] #[] :: cap⟩ := by apply Array.ext'; simp
    simp only [invoke, e]
    exact callFunc_run _ w1 hok
  · show CallsIn Fence.wide 0 P gf _ w1 _
    refine callsIn_wide.2 ?_
    refine hit w1 hext (.yield (w.heap.size + 1)) #[] #[] (fun k => S0 k ∨ k = w.heap.size + 1)
      (fun pre S W => ∃ Sb : Nat → Prop, (∀ k, S k ↔ Sb k ∨ k = w.heap.size + 1) ∧ ¬ Sb (w.heap.size + 1) ∧ ¬ Sb w.heap.size ∧ I pre Sb W ∧ W.heap[w.heap.size + 1]? = some (.loop rec0) ∧ W.heap[w.heap.size]? = some (.deferred (some [])))
      (fun S W => ∃ Sb : Nat → Prop, (∀ k, S k ↔ Sb k ∨ k = w.heap.size + 1) ∧ ¬ Sb (w.heap.size + 1) ∧ ¬ Sb w.heap.size ∧ W.heap[w.heap.size]? = some (.deferred (some [])) ∧ ((W.heap[w.heap.size + 1]? = some (.loop { rec0 with state := .done, pending := some .ret }) ∧ Kr Sb W) ∨
        (W.heap[w.heap.size + 1]? = some (.loop { rec0 with state := .done, pending := some (.exit x) }) ∧ Kx Sb W)))
      _ (fun k hk => hk.elim (fun h => ⟨by have := (hS k h).1; omega, (hS k h).2⟩) (fun h => ⟨by omega, fun hr => by have := hRd k hr; omega⟩)) ?_ ?_ ?_
      ⟨S0, fun k => Iff.rfl, fun h => by have := (hS _ h).1; omega, fun h => by have := (hS _ h).1; omega, hI _ _ _ _ h0 (.of_ext hext), hl1, hD1⟩ ?_ ?_
    · rintro pre S W W' ⟨Sb, hb1, hb2, hb3, h1, h2, h3⟩ hc
      have hlt := (Array.getElem?_eq_some_iff.1 h2).1
      have hlt' := (Array.getElem?_eq_some_iff.1 h3).1
      exact ⟨Sb, hb1, hb2, hb3, hI _ _ _ _ h1 (hc.mono fun k _ hk => ⟨by omega, fun hh => hk.2 ((hb1 k).2 (.inl hh))⟩), (hc.block _ hlt (by omega)).trans h2, (hc.block _ hlt' (by omega)).trans h3⟩
    · rintro S W W' ⟨Sb, hb1, hb2, hb3, h3, h⟩ hc
      have hlt' := (Array.getElem?_eq_some_iff.1 h3).1
      have hc' : Chg (fun k => w.heap.size ≤ k ∧ ¬ Sb k) W W' := hc.mono fun k _ hk => ⟨by omega, fun hh => hk.2 ((hb1 k).2 (.inl hh))⟩
      refine ⟨Sb, hb1, hb2, hb3, (hc.block _ hlt' (by omega)).trans h3, ?_⟩
      rcases h with ⟨h1, h2⟩ | ⟨h1, h2⟩
      · exact .inl ⟨(hc.block _ (Array.getElem?_eq_some_iff.1 h1).1 (by omega)).trans h1, hKr _ _ _ h2 hc'⟩
      · exact .inr ⟨(hc.block _ (Array.getElem?_eq_some_iff.1 h1).1 (by omega)).trans h1, hKx _ _ _ h2 hc'⟩
    · rintro pre y vs S W hE hpre hsz hSW ⟨Sb, hb1, hb2, hb3, h1, h2, h3⟩
      have hlt := (Array.getElem?_eq_some_iff.1 h2).1
      have hlt' := (Array.getElem?_eq_some_iff.1 h3).1
      refine ⟨_, _, _, _, run_yield h2 (by simp [rec0, hps y vs hE]), ?_⟩
      have hfr := hround pre y vs Sb W (w.heap.size + 1) hE hpre (by omega) hlt hb2 (fun k hk => hSW k ((hb1 k).2 (.inl hk))) h1
      have hrep : Rep N (updPs ps.toList (vs) env) { tmps := (ps.toList.zip (vs)).foldl (fun t (p, v) => t.setIfInBounds p v) a.tmps, defers := [] } :=
        foldl_rep _ _ _ _ ⟨ha.1, ha.2⟩ hpN
      have ezip : (ps.zip (⟨(#[] : Array Value).toList ++ vs⟩ : Array Value)).foldl (fun t (x : Nat × Value) => t.setIfInBounds x.1 x.2) a.tmps = (ps.toList.zip (vs)).foldl (fun t (p, v) => t.setIfInBounds p v) a.tmps := by
        rw [← Array.foldl_toList]
        simp [Array.toList_zip]
      refine roundIn_of_wpIn (F := Fence.wide) (l := w.heap.size + 1) trivial ?_
      show assign.wpIn (Fr (some (w.heap.size + 1))) 0 P _ _ W
      have hva := vc_sound xA assign hfr hrep rfl
      refine wpIn_mono (Eq.mp (by rw [← ezip]) hva) fun e a1 W1 hh => ?_
      obtain ⟨env1, r1, q1, _⟩ := hh
      cases e with
      | normal =>
        obtain ⟨e1, q1⟩ := q1
        have hl' : W1.heap[w.heap.size + 1]? = some (.loop rec0) := (e1.block _ hlt).trans h2
        have hD' : W1.heap[w.heap.size]? = some (.deferred (some [])) := (e1.block _ hlt').trans h3
        refine ⟨_, run_beginRound hl' rfl, ?_⟩
        have hl2 : (W1.putObj (w.heap.size + 1) (.loop { rec0 with state := .busy })).heap[w.heap.size + 1]? = some (.loop { rec0 with state := .busy }) :=
          World.putObj_heap_same (Array.getElem?_eq_some_iff.1 hl').1
        have hD2 : (W1.putObj (w.heap.size + 1) (.loop { rec0 with state := .busy })).heap[w.heap.size]? = some (.deferred (some [])) := (World.putObj_heap_other (by omega)).trans hD'
        have hq := q1 _ (Upd.put (w.heap.size + 1) W1 (.loop { rec0 with state := .busy }))
        have hvb := vc_sound xB body hq r1 rfl
        have hlt1 := (Array.getElem?_eq_some_iff.1 hl').1
        have hWW2 : Chg S W (W1.putObj (w.heap.size + 1) (.loop { rec0 with state := .busy })) :=
          (Chg.of_ext e1).trans (Chg.put _ _ _ ((hb1 _).2 (.inr rfl)))
        generalize W1.putObj (w.heap.size + 1) (.loop { rec0 with state := .busy }) = W2 at hl2 hD2 hvb hWW2 ⊢
        refine wpIn_mono hvb fun e' a' W' hh' => ?_
        obtain ⟨env2, r2, q2, _⟩ := hh'
        have nS : ¬ (Sb (w.heap.size + 1) ∨ W.heap.size ≤ w.heap.size + 1) := fun h => h.elim hb2 (by omega)
        have nS' : ¬ (Sb w.heap.size ∨ W.heap.size ≤ w.heap.size) := fun h => h.elim hb3 (by omega)
        have fin : ∀ (jump : Option Code) (st : LoopState), Chg (fun k => Sb k ∨ W.heap.size ≤ k) W2 W' → ∀ S' : Nat → Prop, (∀ k, S' k → (Sb k ∨ W.heap.size ≤ k) ∧ k < W'.heap.size) → ∀ Z, Z = W'.putObj (w.heap.size + 1) (.loop { rec0 with state := st, pending := jump }) →
            Chg S W Z ∧ (∀ k, (S' k ∨ k = w.heap.size + 1) → (S k ∨ W.heap.size ≤ k) ∧ k < Z.heap.size) ∧ ¬ S' (w.heap.size + 1) ∧ ¬ S' w.heap.size ∧ Z.heap[w.heap.size + 1]? = some (.loop { rec0 with state := st, pending := jump }) ∧ Z.heap[w.heap.size]? = some (.deferred (some [])) ∧
            Chg (fun k => w.heap.size ≤ k ∧ ¬ S' k) W' Z := by
          intro jump st hc S' hS' Z hZ
          have hl3 := (hc.block _ (Array.getElem?_eq_some_iff.1 hl2).1 nS).trans hl2
          have hD3 := (hc.block _ (Array.getElem?_eq_some_iff.1 hD2).1 nS').trans hD2
          have n1 : ¬ S' (w.heap.size + 1) := fun hh => nS (hS' _ hh).1
          have n2 : ¬ S' w.heap.size := fun hh => nS' (hS' _ hh).1
          have l3 := (Array.getElem?_eq_some_iff.1 hl3).1
          subst hZ
          refine ⟨?_, ?_, n1, n2, World.putObj_heap_same l3, (World.putObj_heap_other (by omega)).trans hD3, Chg.put _ _ _ ⟨by omega, n1⟩⟩
          · have hW2' : Chg S W W' := ⟨hc.os.trans hWW2.os, hc.tape.trans hWW2.tape, hc.output.trans hWW2.output, Nat.le_trans hWW2.size hc.size,
              fun k hk hn => (hc.block k (Nat.lt_of_lt_of_le hk hWW2.size) (fun hh => hh.elim (fun h => hn ((hb1 k).2 (.inl h))) (fun h => by omega))).trans (hWW2.block k hk hn)⟩
            exact hW2'.trans (Chg.put _ _ _ ((hb1 _).2 (.inr rfl)))
          · rintro k (hk | rfl)
            · exact ⟨(hS' k hk).1.imp (fun h => (hb1 k).2 (.inl h)) id, by simpa using (hS' k hk).2⟩
            · exact ⟨.inl ((hb1 _).2 (.inr rfl)), by simpa using l3⟩
        have hrec : ∀ (jump : Option Code), Chg (fun k => Sb k ∨ W.heap.size ≤ k) W2 W' → (Instr.endRound (w.heap.size + 1) jump).run P W' = .ok (.bool jump.isNone) (W'.putObj (w.heap.size + 1) (.loop { rec0 with state := if jump.isNone then .ready else .done, pending := jump })) := by
          intro jump hc
          exact run_endRound (r := { rec0 with state := .busy }) jump ((hc.block _ (Array.getElem?_eq_some_iff.1 hl2).1 nS).trans hl2)
        cases e' with
        | normal =>
          obtain ⟨hc, S', hS', hi⟩ := q2
          obtain ⟨f1, f2, f3, f4, f5, f6, f7⟩ := fin none .ready hc S' hS' _ rfl
          exact ⟨_, _, hrec none hc, f1, _, f2, .inl ⟨rfl, S', fun k => Iff.rfl, f3, f4, hI _ _ _ _ hi f7, f5, f6⟩⟩
        | ret =>
          obtain ⟨hc, S', hS', hi⟩ := q2
          obtain ⟨f1, f2, f3, f4, f5, f6, f7⟩ := fin (some .ret) .done hc S' hS' _ rfl
          exact ⟨_, _, hrec (some .ret) hc, f1, _, f2, .inr ⟨rfl, S', fun k => Iff.rfl, f3, f4, f6, .inl ⟨f5, hKr _ _ _ hi f7⟩⟩⟩
        | exit i =>
          simp only [fragQ] at q2
          cases hb : Nat.beq i x <;> rw [hb] at q2
          · exact q2.elim
          have hix := Nat.eq_of_beq_eq_true hb
          subst hix
          obtain ⟨hc, S', hS', hi⟩ := q2
          obtain ⟨f1, f2, f3, f4, f5, f6, f7⟩ := fin (some (.exit i)) .done hc S' hS' _ rfl
          exact ⟨_, _, hrec (some (.exit i)) hc, f1, _, f2, .inr ⟨rfl, S', fun k => Iff.rfl, f3, f4, f6, .inr ⟨f5, hKx _ _ _ hi f7⟩⟩⟩
        | goto l => exact q2.elim
        | panic c => exact q2.elim
        | outgrown => exact q2.elim
      | exit i => exact q1.elim
      | ret => exact q1.elim
      | goto t => exact q1.elim
      | panic c => exact q1.elim
      | outgrown => exact q1.elim
    · rintro S W hsz ⟨Sb, hb1, hb2, hb3, h1, h2, h3⟩
      refine ⟨none, _, run_endLoop h2 (by simp [rec0]), ?_⟩
      have hlt := (Array.getElem?_eq_some_iff.1 h2).1
      refine ⟨rfl, ?_⟩
      show Qn (_ :: a.defers) _
      rw [hd]
      refine hn w.heap.size Sb _ (Nat.le_refl _) (by simp; omega) hb3 ((World.putObj_heap_other (by omega)).trans h3) (hI _ _ _ _ h1 (Chg.put _ _ _ ⟨by omega, hb2⟩))
    · rintro S W hsz ⟨Sb, hb1, hb2, hb3, h3, h⟩
      rcases h with ⟨h1, h2⟩ | ⟨h1, h2⟩
      · have hlt := (Array.getElem?_eq_some_iff.1 h1).1
        refine ⟨some .ret, _, run_endLoop h1 (by simp), ?_⟩
        refine wpIn_ret ⟨rfl, ?_⟩
        show Qr (_ :: a.defers) _
        rw [hd]
        exact hr w.heap.size Sb _ (Nat.le_refl _) (by simp; omega) hb3 ((World.putObj_heap_other (by omega)).trans h3) (hKr _ _ _ h2 (Chg.put _ _ _ ⟨by omega, hb2⟩))
      · have hlt := (Array.getElem?_eq_some_iff.1 h1).1
        refine ⟨some (.exit x), _, run_endLoop h1 (by simp), ?_⟩
        refine wpIn_exit ⟨rfl, rfl, ?_⟩
        show Qx (_ :: a.defers) _
        rw [hd]
        exact hx w.heap.size Sb _ (Nat.le_refl _) (by simp; omega) hb3 ((World.putObj_heap_other (by omega)).trans h3) (hKx _ _ _ h2 (Chg.put _ _ _ ⟨by omega, hb2⟩))
end Go.Sh
namespace Go.Sh
open Go Go.RowKit

/- an iterator whose caller's body may write blocks of its own, new ones among them: S, as it stands -/
def IterW {α : Type} (P : Program) (gf : FuncId) (cap : List Value) (xs : List α) (E : α → List Value → Prop) (Rd Wr : Nat → Prop) (w : World) : Prop :=
  ∀ (yf : Fn) (ya yb : Array Value) (S0 : Nat → Prop) (J : List α → (Nat → Prop) → World → Prop) (Jx : (Nat → Prop) → World → Prop) (R : Ending → World → Prop),
    (∀ k, S0 k → k < w.heap.size ∧ ¬ Rd k) →
    (∀ pre S W W', J pre S W → Chg (fun k => (w.heap.size ≤ k ∧ ¬ S k) ∨ Wr k) W W' → J pre S W') → (∀ S W W', Jx S W → Chg (fun k => (w.heap.size ≤ k ∧ ¬ S k) ∨ Wr k) W W' → Jx S W') →
    (∀ pre x vs S W, E x vs → pre ++ [x] <+: xs → w.heap.size ≤ W.heap.size → (∀ k, S k → k < W.heap.size ∧ ¬ Rd k) → J pre S W → CallV P (.func yf ya yb) vs W fun e W' => Chg S W W' ∧
      ∃ S' : Nat → Prop, (∀ k, S' k → (S k ∨ W.heap.size ≤ k) ∧ k < W'.heap.size) ∧ ((e = .returned (.bool true) ∧ J (pre ++ [x]) S' W') ∨ (e = .returned (.bool false) ∧ Jx S' W'))) →
    J [] S0 w → (∀ S W, w.heap.size ≤ W.heap.size → J xs S W → R (.returned (.tuple ⟨[]⟩)) W) → (∀ S W, w.heap.size ≤ W.heap.size → Jx S W → R (.returned (.tuple ⟨[]⟩)) W) →
    Calls P gf ⟨.func yf ya yb :: cap⟩ w R
theorem IterW.mono {α : Type} {P : Program} {gf : FuncId} {cap : List Value} {xs : List α} {E E' : α → List Value → Prop} {Rd Wr : Nat → Prop} {w : World} (h : IterW P gf cap xs E Rd Wr w) (hE : ∀ x vs, E x vs → E' x vs) : IterW P gf cap xs E' Rd Wr w :=
  fun yf ya yb S0 J Jx R hS hJ hJx hbody h0 h1 h2 => h yf ya yb S0 J Jx R hS hJ hJx (fun pre x vs S W he => hbody pre x vs S W (hE _ _ he)) h0 h1 h2

end Go.Sh
namespace Go.Sh
open Go Go.RowKit

/- as in the text before, what is handed out being read in memory: an iterator whose caller's body may write blocks of its own, new ones among them: S, as it stands -/
def IterC {α : Type} (P : Program) (gf : FuncId) (cap : List Value) (Fam : List α → Prop) (E : α → List Value → World → Prop) (Rd Wr : Nat → Prop) (w : World) : Prop :=
  ∀ (yf : Fn) (ya yb : Array Value) (S0 : Nat → Prop) (J : List α → (Nat → Prop) → World → Prop) (Jx : (Nat → Prop) → World → Prop) (R : Ending → World → Prop),
    (∀ k, S0 k → k < w.heap.size ∧ ¬ Rd k) →
    (∀ pre S W W', J pre S W → Chg (fun k => (w.heap.size ≤ k ∧ ¬ S k) ∨ Wr k) W W' → J pre S W') → (∀ S W W', Jx S W → Chg (fun k => (w.heap.size ≤ k ∧ ¬ S k) ∨ Wr k) W W' → Jx S W') →
    (∀ pre x vs S W, E x vs W → (∃ xs, Fam xs ∧ pre ++ [x] <+: xs) → w.heap.size ≤ W.heap.size → (∀ k, S k → k < W.heap.size ∧ ¬ Rd k) → J pre S W → CallV P (.func yf ya yb) vs W fun e W' => Chg S W W' ∧
      ∃ S' : Nat → Prop, (∀ k, S' k → (S k ∨ W.heap.size ≤ k) ∧ k < W'.heap.size) ∧ ((e = .returned (.bool true) ∧ J (pre ++ [x]) S' W') ∨ (e = .returned (.bool false) ∧ Jx S' W'))) →
    J [] S0 w → (∀ xs S W, Fam xs → w.heap.size ≤ W.heap.size → J xs S W → R (.returned (.tuple ⟨[]⟩)) W) → (∀ S W, w.heap.size ≤ W.heap.size → Jx S W → R (.returned (.tuple ⟨[]⟩)) W) →
    Calls P gf ⟨.func yf ya yb :: cap⟩ w R
theorem IterC.mono {α : Type} {P : Program} {gf : FuncId} {cap : List Value} {Fam : List α → Prop} {E E' : α → List Value → World → Prop} {Rd Wr : Nat → Prop} {w : World} (h : IterC P gf cap Fam E Rd Wr w) (hE : ∀ x vs W, E x vs W → E' x vs W) : IterC P gf cap Fam E' Rd Wr w :=
  fun yf ya yb S0 J Jx R hS hJ hJx hbody h0 h1 h2 => h yf ya yb S0 J Jx R hS hJ hJx (fun pre x vs S W he => hbody pre x vs S W (hE _ _ _ he)) h0 h1 h2

end Go.Sh
namespace Go.Sh
open Go Go.RowKit
section
variable {S S' : Nat → Prop} {w w' : World}
end
theorem IterR.mono {α : Type} {P : Program} {gf : FuncId} {cap : List Value} {xs : List α} {E E' : α → List Value → Prop} {Rd : Nat → Prop} {w : World} (h : IterR P gf cap xs E Rd w) (hE : ∀ x vs, E x vs → E' x vs) : IterR P gf cap xs E' Rd w :=
  fun yf ya yb S J Jx R hS hJ hJx hbody h0 h1 h2 => h yf ya yb S J Jx R hS hJ hJx (fun pre x vs W he => hbody pre x vs W (hE _ _ he)) h0 h1 h2
end Go.Sh
namespace Go.Sh
open Go Go.RowKit
section
variable {S : Nat → Prop} {w w' : World} {e : TypeId} {B : Nat} {a : Option Addr} {n c : Nat}
/- the text of the last node of a list under way, and writing it -/
theorem OwnF.last {pre : Fo} {k : Int} {t : List UInt8} {m : Int} {ps : Fo} (h : OwnF e S B w a n c (pre.app (.one k t m ps))) :
    ∃ q : Addr, (∀ K : Addr → Prop, K q → idx a n (pre.len : Int) 4 K) ∧ w.cell? (q.add 0) = some (.int .i64 k) ∧ w.cell? (q.add 1) = some (.string ⟨⟨t⟩⟩) ∧
      ∀ (t' : List UInt8) (K : World → Prop), (∀ w', OwnF e S B w' a n c (pre.app (.one k t' m ps)) → Chg (Sh.bk a) w w' → K w') → stL w (q.add 1) 0 [.string ⟨⟨t'⟩⟩] K := by
  obtain ⟨h0, xs, h1, h2⟩ := h
  obtain ⟨us, ys, rfl, f1, a', c', zs, vs', rfl, g1, g2, g3⟩ := h2.split
  have hvs : vs' = [] := g3
  subst hvs
  have hl := f1.len
  have hn : n = pre.len + 1 := by rw [h0]; simp [Fo.one]
  rcases h1.2 with h | ⟨g, cap, cur, e1, e2, e3, e4, e5, e6, e7⟩
  · omega
  obtain ⟨rfl, _, rfl⟩ : a = some ⟨g, 0, none⟩ ∧ True ∧ c = cap := by simpa using e1
  have hB : Blk w g cur.toList e := e3
  have hcl : cur.toList.length = c * 4 := by simpa using e6
  have hxl : n * 4 ≤ cur.toList.length := by rw [hcl]; omega
  have hget : ∀ j, j < n * 4 → cur.toList[j]? = (us ++ [.int .i64 k, .string ⟨⟨t⟩⟩, .int .i64 m, .slice a' ps.len c'])[j]? := fun j hj => by
    rw [← e7, List.getElem?_take, if_pos hj]
  have key : ∀ j, j < 4 → w.cell? ((⟨g, pre.len * 4, none⟩ : Addr).add j) = [Value.int .i64 k, .string ⟨⟨t⟩⟩, .int .i64 m, .slice a' ps.len c'][j]? := fun j hj => by
    rw [add_none, hB.cell, hget _ (by omega), List.getElem?_append_right (by omega), show pre.len * 4 + j - us.length = j by omega]
  refine ⟨⟨g, pre.len * 4, none⟩, fun K hK => ⟨by omega, by omega, ?_⟩, key 0 (by omega), key 1 (by omega), fun t' K hK => ?_⟩
  · show K _
    rw [add_none, Int.toNat_natCast, Nat.zero_add]; exact hK
  rw [add_none]
  refine stL_blk hB (by simp; omega) (by intro u hu; simp only [List.mem_singleton] at hu; subst hu; rfl) fun w' b1 b2 b3 b4 b5 b6 => ?_
  have hc : Chg (Sh.bk (some (⟨g, 0, none⟩ : Addr))) w w' := ⟨b4, b5, b6, by omega, fun k' _ hk => b2 k' fun e => hk (by simp [Sh.bk, e])⟩
  refine hK w' ⟨by simp [Fo.one]; exact hn, us ++ [.int .i64 k, .string ⟨⟨t'⟩⟩, .int .i64 m, .slice a' ps.len c'], ⟨by simp; omega, .inr ⟨g, c, ⟨putAt cur.toList (pre.len * 4 + 1 + 0) [.string ⟨⟨t'⟩⟩]⟩, rfl, e2, b1, e4, e5, ?_, ?_⟩⟩, ?_⟩ hc
  · simp [putAt]; omega
  · have hx : n * 4 = us.length + 4 := by omega
    simp only [putAt]
    show ((cur.toList.set (pre.len * 4 + 1 + 0) (.string ⟨⟨t'⟩⟩)).take (n * 4)) = _
    rw [List.take_set, e7, show pre.len * 4 + 1 + 0 = us.length + 1 by omega, List.set_append_right _ _ (by omega)]
    simp
  · have hs : ∀ j, ((S j ∨ B ≤ j) ∧ ¬ Sh.bk (some (⟨g, 0, none⟩ : Addr)) j) → j < w.heap.size → ((S j ∨ B ≤ j) ∧ ¬ Sh.bk (some (⟨g, 0, none⟩ : Addr)) j) ∧ w'.heap[j]? = w.heap[j]? := fun j hj hlt => ⟨hj, hc.block j hlt hj.2⟩
    exact (f1.keep hs hc.size).app ⟨a', c', zs, [], rfl, g1.keep hs hc.size, g2.keep hs hc.size, rfl⟩
end
end Go.Sh
namespace Go.Sh
open Go Go.RowKit
section
variable {S : Nat → Prop} {w w' : World} {e : TypeId} {B : Nat} {a : Option Addr} {n c : Nat}
/- the last node of a list under way, and laying it anew -/
end
end Go.Sh
namespace Go.Sh
open Go Go.RowKit
section
variable {S : Nat → Prop} {w w' : World} {e : TypeId} {B : Nat} {a : Option Addr} {n c : Nat} {f : Fo}
/- a list whose nodes have no parts hangs on no block but its own -/
end
end Go.Sh
namespace Go.Sh
open Go Go.RowKit
/- appending one element to a slice variable that lies in a block of its own: the new element and the variable are laid in either order -/
theorem putAt_get : ∀ (vs cs : List Value) (o i : Nat), (putAt cs o vs)[i]? = if o ≤ i ∧ i < o + vs.length ∧ i < cs.length then vs[i - o]? else cs[i]?
  | [], cs, o, i => by
    rw [if_neg (by simp; omega)]; rfl
  | v :: vs, cs, o, i => by
    rw [putAt, putAt_get vs (cs.set o v) (o + 1) i]
    simp only [List.length_set, List.length_cons]
    by_cases h1 : o + 1 ≤ i ∧ i < o + 1 + vs.length ∧ i < cs.length
    · rw [if_pos h1, if_pos (by omega), show i - o = (i - (o + 1)) + 1 by omega, List.getElem?_cons_succ]
    · rw [if_neg h1]
      by_cases h2 : i = o
      · subst h2
        by_cases h3 : i < cs.length
        · rw [if_pos (by omega)]; simp [h3]
        · rw [if_neg (by omega)]; rw [List.getElem?_eq_none (by simp; omega), List.getElem?_eq_none (by omega)]
      · rw [List.getElem?_set_ne (Ne.symm h2)]
        rw [if_neg (by omega)]
theorem putAt_last {cs xs zs vs : List Value} {m : Nat} (h : cs.take m = xs ++ zs) (hl : zs.length = vs.length) (hm : xs.length + vs.length = m) (hc : m ≤ cs.length) : (putAt cs xs.length vs).take m = xs ++ vs := by
  apply List.ext_getElem?
  intro i
  have hp := putAt_get vs cs xs.length i
  have hg : i < m → cs[i]? = (xs ++ zs)[i]? := fun hi => by rw [← h, List.getElem?_take, if_pos hi]
  rw [List.getElem?_take]
  by_cases hi : i < m
  · rw [if_pos hi, hp]
    by_cases h1 : xs.length ≤ i
    · rw [if_pos ⟨h1, by omega, by omega⟩, List.getElem?_append_right h1]
    · rw [if_neg (by omega), hg hi, List.getElem?_append_left (by omega), List.getElem?_append_left (by omega)]
  · rw [if_neg hi, List.getElem?_eq_none (by simp; omega)]

theorem Owns.storeLast {w : World} {B : Nat} {e : TypeId} {size : Nat} {a : Option Addr} {n c : Nat} {xs zs vs : List Value} (h : Owns w B e size a (n + 1) c (xs ++ zs)) (hz : zs.length = size) (hv : vs.length = size) (h1 : ∀ v ∈ vs, v.oneCell' = true) :
    ∃ g : Nat, a = some ⟨g, 0, none⟩ ∧ (∀ K : Addr → Prop, K ⟨g, n * size, none⟩ → idx a (n + 1) (n : Int) size K) ∧
      ∀ K : World → Prop, (∀ w', Owns w' B e size a (n + 1) c (xs ++ vs) → Chg (Sh.bk a) w w' → w'.heap.size = w.heap.size → K w') → stL w ⟨g, n * size, none⟩ 0 vs K := by
  have hl := h.1
  simp only [List.length_append, hz, Nat.add_mul, Nat.one_mul] at hl
  rcases h.2 with h | ⟨g, cap, cur, e1, e2, e3, e4, e5, e6, e7⟩
  · omega
  obtain ⟨rfl, _, rfl⟩ : a = some ⟨g, 0, none⟩ ∧ True ∧ c = cap := by simpa using e1
  have hB : Blk w g cur.toList e := e3
  have hcl : cur.toList.length = c * size := by simpa using e6
  have hxl : (n + 1) * size ≤ cur.toList.length := by rw [hcl]; exact Nat.mul_le_mul_right _ e4
  have hxe : xs.length = n * size := by omega
  refine ⟨g, rfl, fun K hK => ⟨by omega, by omega, ?_⟩, fun K hK => ?_⟩
  · show K _
    rw [add_none, Int.toNat_natCast, Nat.zero_add]; exact hK
  refine stL_blk hB (by rw [hv]; have : (n + 1) * size = n * size + size := by rw [Nat.add_mul, Nat.one_mul]
                        omega) h1 fun w' b1 b2 b3 b4 b5 b6 => ?_
  have hc : Chg (Sh.bk (some (⟨g, 0, none⟩ : Addr))) w w' := ⟨b4, b5, b6, by omega, fun k' _ hk => b2 k' fun e => hk (by simp [Sh.bk, e])⟩
  refine hK w' ⟨by simp only [List.length_append, hv, Nat.add_mul, Nat.one_mul]; omega, .inr ⟨g, c, ⟨_⟩, rfl, e2, b1, e4, e5, ?_, ?_⟩⟩ hc b3
  · have := putAt_length vs cur.toList (n * size + 0)
    simp only [List.size_toArray]; rw [this]; exact hcl
  · show (putAt cur.toList (n * size + 0) vs).take _ = _
    rw [Nat.add_zero, ← hxe]
    refine putAt_last e7 (by omega) ?_ hxl
    rw [hxe, hv, Nat.add_mul, Nat.one_mul]

end Go.Sh
namespace Go.Sh
open Go Go.RowKit

/- how the elements of a slice lie in cells -/
structure Enc (α : Type) where
  enc : α → List Value
  size : Nat
  len : ∀ x, (enc x).length = size
  pos : 0 < size
  one : ∀ x, ∀ v ∈ enc x, v.oneCell' = true
section
variable {α : Type} {E : Enc α}
def Enc.row (E : Enc α) (l : List α) : List Value := l.flatMap E.enc
@[simp] theorem row_nil : E.row [] = [] := rfl
theorem row_cons (x : α) (l : List α) : E.row (x :: l) = E.enc x ++ E.row l := rfl
theorem row_app (l m : List α) : E.row (l ++ m) = E.row l ++ E.row m := by simp [Enc.row]
theorem row_snoc (l : List α) (x : α) : E.row (l ++ [x]) = E.row l ++ E.enc x := by simp [Enc.row]
theorem row_len : ∀ l : List α, (E.row l).length = l.length * E.size
  | [] => by simp
  | x :: l => by rw [row_cons, List.length_append, E.len, row_len l, List.length_cons, Nat.add_mul, Nat.one_mul]; omega
theorem row_one (l : List α) : ∀ v ∈ E.row l, v.oneCell' = true := by
  intro v hv
  obtain ⟨x, _, hx⟩ := List.mem_flatMap.1 hv
  exact E.one x v hx
theorem row_get {x : α} : ∀ {l : List α} {i j : Nat}, l[i]? = some x → j < E.size → (E.row l)[i * E.size + j]? = (E.enc x)[j]?
  | [], i, j, h, _ => by simp at h
  | y :: l, 0, j, h, hj => by
    simp at h; subst h
    rw [row_cons, Nat.zero_mul, Nat.zero_add, List.getElem?_append_left (by rw [E.len]; exact hj)]
  | y :: l, i + 1, j, h, hj => by
    simp at h
    rw [row_cons, List.getElem?_append_right (by rw [E.len, Nat.add_mul, Nat.one_mul]; omega), E.len, show (i + 1) * E.size + j - E.size = i * E.size + j by rw [Nat.add_mul, Nat.one_mul]; omega]
    exact row_get h hj
theorem putAt_app : ∀ (vs : List Value) (a b : List Value) (o : Nat), putAt (a ++ b) (a.length + o) vs = a ++ putAt b o vs
  | [], a, b, o => rfl
  | v :: vs, a, b, o => by
    rw [putAt, putAt, List.set_append_right _ _ (by omega), show a.length + o - a.length = o by omega, Nat.add_assoc, putAt_app vs a (b.set o v) (o + 1)]
theorem putAt_head : ∀ (vs a : List Value) (rest : List Value), vs.length = a.length → putAt (a ++ rest) 0 vs = vs ++ rest := by
  intro vs a rest h
  apply List.ext_getElem?
  intro i
  rw [putAt_get]
  by_cases hi : i < vs.length
  · rw [if_pos ⟨by omega, by omega, by simp; omega⟩, List.getElem?_append_left (by omega)]; simp
  · rw [if_neg (by omega), List.getElem?_append_right (by omega), List.getElem?_append_right (by omega), h]
theorem row_put {x : α} {rest : List Value} : ∀ {l : List α} {i : Nat}, i < l.length → putAt (E.row l ++ rest) (i * E.size) (E.enc x) = E.row (l.set i x) ++ rest
  | [], i, h => by simp at h
  | y :: l, 0, h => by
    rw [Nat.zero_mul, row_cons, List.set_cons_zero, row_cons, List.append_assoc, putAt_head _ _ _ (by rw [E.len, E.len]), List.append_assoc]
  | y :: l, i + 1, h => by
    rw [row_cons, List.set_cons_succ, row_cons, List.append_assoc, List.append_assoc, show (i + 1) * E.size = (E.enc y).length + i * E.size by rw [E.len, Nat.add_mul, Nat.one_mul]; omega, putAt_app, row_put (by simpa using h)]

/- a slice that can be read -/
def RowAt (E : Enc α) (S : Nat → Prop) (w : World) (a : Option Addr) (n : Nat) (l : List α) : Prop := n = l.length ∧ At S w a (E.row l)
section
variable {S S' : Nat → Prop} {w w' : World} {a : Option Addr} {n : Nat} {l : List α}
theorem RowAt.keep (h : RowAt E S w a n l) (hs : ∀ k, S k → k < w.heap.size → S' k ∧ w'.heap[k]? = w.heap[k]?) (hz : w.heap.size ≤ w'.heap.size) : RowAt E S' w' a n l := ⟨h.1, h.2.keep hs hz⟩
theorem RowAt.ext (h : RowAt E S w a n l) (he : Ext w w') : RowAt E S w' a n l := h.keep (fun k hk hl => ⟨hk, he.block k hl⟩) he.size
theorem RowAt.chg {T : Nat → Prop} (h : RowAt E S w a n l) (he : Chg T w w') (hd : ∀ k, S k → ¬ T k) : RowAt E S w' a n l := h.keep (fun k hk hl => ⟨hk, he.block k hl (hd k hk)⟩) he.size
theorem RowAt.imp (h : RowAt E S w a n l) (hs : ∀ k, S k → k < w.heap.size → S' k) : RowAt E S' w a n l := h.keep (fun k hk hl => ⟨hs k hk hl, rfl⟩) (Nat.le_refl _)
theorem RowAt.nil (a : Option Addr) : RowAt E S w a 0 [] := ⟨rfl, .inl rfl⟩
theorem RowAt.get (h : RowAt E S w a n l) {i : Nat} {x : α} (hi : l[i]? = some x) :
    ∃ b o, (∀ K : Addr → Prop, K ⟨b, o, none⟩ → idx a n (i : Int) E.size K) ∧ S b ∧ b < w.heap.size ∧ ∀ j v, (E.enc x)[j]? = some v → w.cell? ⟨b, o + j, none⟩ = some v := by
  have hlt := (List.getElem?_eq_some_iff.1 hi).1
  have hn := h.1
  rcases h.2 with h2 | ⟨b, o, rfl, hb, hbl, hc⟩
  · have := congrArg List.length h2
    rw [row_len] at this
    simp only [List.length_nil] at this
    rcases Nat.mul_eq_zero.1 this with h | h
    · omega
    · have := E.pos; omega
  refine ⟨b, o + i * E.size, fun K hK => ⟨by omega, by omega, ?_⟩, hb, hbl, fun j v hj => ?_⟩
  · show K _
    rw [add_none, Int.toNat_natCast]; exact hK
  · rw [Nat.add_assoc]
    refine hc _ _ ?_
    rw [row_get hi (by have := (List.getElem?_eq_some_iff.1 hj).1; rw [E.len] at this; exact this)]; exact hj
end

/- a slice that the call has made -/
abbrev OwnL (E : Enc α) (w : World) (B : Nat) (e : TypeId) (a : Option Addr) (n c : Nat) (l : List α) : Prop := Owns w B e E.size a n c (E.row l)
section
variable {w w' : World} {B : Nat} {e : TypeId} {a : Option Addr} {n c : Nat} {l : List α}
theorem OwnL.length (h : OwnL E w B e a n c l) : l.length = n := by
  have := h.len
  rw [row_len] at this
  exact Nat.eq_of_mul_eq_mul_right E.pos this
theorem OwnL.out (h : OwnL E w B e a n c l) : RowAt E (bk a) w a n l := by
  refine ⟨h.length.symm, ?_⟩
  by_cases hn : 0 < n
  · obtain ⟨g, rfl, hg, hc⟩ := h.cell hn
    exact .inr ⟨g, 0, rfl, by simp [bk], (h.bk (by simp [bk])).2, fun j v hj => by rw [Nat.zero_add]; exact hc j v hj⟩
  · have hx : l = [] := List.eq_nil_of_length_eq_zero (by rw [h.length]; omega)
    subst hx
    exact .inl rfl
theorem OwnL.push {P : Program} {t ty : TypeId} {bytes : Nat} {z : Value} (hT : SlT P t e E.size bytes z) (h : OwnL E w B e a n c l) (hB : B ≤ w.heap.size) (x : α) (hlen : n + 1 ≤ 4611686018427387904) (hbytes : (n + 1) * bytes ≤ 140737488355328) {K : Option Addr → Nat → Nat → World → Prop}
    (hk : ∀ a' c'' w', OwnL E w' B e a' (n + 1) c'' (l ++ [x]) → Chg (bk a) w w' → (∀ k, bk a' k → bk a k ∨ w.heap.size ≤ k) → K a' (n + 1) c'' w') :
    al w e (E.enc x) fun p w1 => app P [t, t] ty (.slice a n c) (.slice (some p) 1 1) w1 K :=
  app_one2 hT h hB _ (E.len x) (E.one x) hlen hbytes fun a' c'' w' ho hc hn => hk a' c'' w' (by unfold OwnL; rw [row_snoc]; exact ho) hc hn
theorem OwnL.pushAll {P : Program} {t ty : TypeId} {bytes : Nat} {z : Value} (hT : SlT P t e E.size bytes z) (h : OwnL E w B e a n c l) (hB : B ≤ w.heap.size) {S : Nat → Prop} {a1 : Option Addr} {m c1 : Nat} {l' : List α} (hg : RowAt E S w a1 m l') (hlen : n + m ≤ 4611686018427387904) (hbytes : (n + m) * bytes ≤ 140737488355328) {K : Option Addr → Nat → Nat → World → Prop}
    (hk : ∀ a' c'' w', OwnL E w' B e a' (n + m) c'' (l ++ l') → Chg (bk a) w w' → (∀ k, bk a' k → bk a k ∨ w.heap.size ≤ k) → K a' (n + m) c'' w') :
    app P [t, t] ty (.slice a n c) (.slice a1 m c1) w K :=
  app_own2 hT h hB (E.row l') (by rw [row_len, ← hg.1]) hg.2 (row_one l') hlen hbytes fun a' c'' w' ho hc hn => hk a' c'' w' (by unfold OwnL; rw [row_app]; exact ho) hc hn
/- writing one element -/
theorem OwnL.store (h : OwnL E w B e a n c l) {i : Nat} (hi : i < n) (x : α) :
    ∃ g, a = some ⟨g, 0, none⟩ ∧ (∀ K : Addr → Prop, K ⟨g, i * E.size, none⟩ → idx a n (i : Int) E.size K) ∧
      ∀ K : World → Prop, (∀ w', OwnL E w' B e a n c (l.set i x) → Chg (bk a) w w' → w'.heap.size = w.heap.size → K w') → stL w ⟨g, i * E.size, none⟩ 0 (E.enc x) K := by
  have hl := h.length
  rcases h.2 with h1 | ⟨g, cap, cur, e1, e2, e3, e4, e5, e6, e7⟩
  · omega
  obtain ⟨rfl, _, rfl⟩ : a = some ⟨g, 0, none⟩ ∧ True ∧ c = cap := by simpa using e1
  have hB : Blk w g cur.toList e := e3
  have hcl : cur.toList.length = c * E.size := by simpa using e6
  have hcur : cur.toList = E.row l ++ cur.toList.drop (n * E.size) := by rw [← e7, List.take_append_drop]
  have hin : i * E.size + E.size ≤ n * E.size := by
    have : (i + 1) * E.size ≤ n * E.size := Nat.mul_le_mul_right _ hi
    rwa [Nat.add_mul, Nat.one_mul] at this
  have hnc : n * E.size ≤ c * E.size := Nat.mul_le_mul_right _ e4
  refine ⟨g, rfl, fun K hK => ⟨by omega, by omega, ?_⟩, fun K hK => ?_⟩
  · show K _
    rw [add_none, Int.toNat_natCast, Nat.zero_add]; exact hK
  refine stL_blk hB (by rw [E.len]; omega) (E.one x) fun w' b1 b2 b3 b4 b5 b6 => ?_
  have hc : Chg (bk (some (⟨g, 0, none⟩ : Addr))) w w' := ⟨b4, b5, b6, by omega, fun k' _ hk => b2 k' fun e => hk (by simp [bk, e])⟩
  rw [Nat.add_zero, hcur, row_put (by omega)] at b1
  refine hK w' ⟨by rw [row_len, List.length_set, hl], .inr ⟨g, c, ⟨_⟩, rfl, e2, b1, e4, e5, ?_, ?_⟩⟩ hc b3
  · show (E.row (l.set i x) ++ cur.toList.drop (n * E.size)).length = c * E.size
    rw [List.length_append, List.length_drop, hcl, row_len, List.length_set, hl]; omega
  · show List.take (n * E.size) (E.row (l.set i x) ++ _) = _
    rw [List.take_append_of_le_length (by rw [row_len, List.length_set, hl]; exact Nat.le_refl _), List.take_of_length_le (by rw [row_len, List.length_set, hl]; exact Nat.le_refl _)]
end

/- making a row of zeros -/
theorem mks_intro {w : World} {elem : TypeId} {bytes : Nat} {zero : List Value} {l c : Nat} {K : Addr → World → Prop} (hlc : l ≤ c) (hb : bytes * c ≤ 140737488355328)
    (h : ∀ b w', b = w.heap.size → Blk w' b (List.replicate c zero).flatten elem → Ext w w' → w'.heap.size = b + 1 → K ⟨b, 0, none⟩ w') : mks w elem bytes zero (l : Int) (c : Int) K := by
  refine ⟨by omega, by omega, by rw [← Int.natCast_mul]; exact Int.ofNat_le.2 hb, ?_⟩
  refine h _ _ rfl ?_ ((Below.refl _ w).alloc (Nat.le_refl _) _) (by simp)
  rw [Int.toNat_natCast]
  exact Blk.new w _ _
theorem row_replicate (x : α) (n : Nat) : E.row (List.replicate n x) = (List.replicate n (E.enc x)).flatten := by
  induction n with
  | zero => rfl
  | succ n ih => rw [List.replicate_succ, row_cons, ih, List.replicate_succ, List.flatten_cons]
theorem OwnL.made {w : World} {b B : Nat} {e : TypeId} {x : α} {n : Nat} (h : Blk w b (List.replicate n (E.enc x)).flatten e) (hB : B ≤ b) (hn : n ≤ maxLen) : OwnL E w B e (some ⟨b, 0, none⟩) n n (List.replicate n x) := by
  rw [← row_replicate] at h
  refine ⟨by rw [row_len, List.length_replicate], .inr ⟨b, n, _, rfl, hB, h, Nat.le_refl _, hn, ?_, ?_⟩⟩
  · show (E.row (List.replicate n x)).length = n * E.size
    rw [row_len, List.length_replicate]
  · show List.take _ (E.row _) = _
    rw [List.take_of_length_le (by rw [row_len, List.length_replicate]; exact Nat.le_refl _)]
end

/- the elements that occur -/
def encI : Enc Int := ⟨fun i => [.int .i64 i], 1, fun _ => rfl, by decide, by intro x v hv; simp only [List.mem_singleton] at hv; subst hv; rfl⟩
def encStr : Enc (List UInt8) := ⟨fun s => [.string ⟨⟨s⟩⟩], 1, fun _ => rfl, by decide, by intro x v hv; simp only [List.mem_singleton] at hv; subst hv; rfl⟩
end Go.Sh
namespace Go.Sh
open Go Go.RowKit
/- how a thing lies in cells, with what it points to: S: the blocks that it may point into -/
structure View (α : Type) where
  size : Nat
  C : (Nat → Prop) → World → α → List Value → Prop
  pos : 0 < size
  len : ∀ {S w x vs}, C S w x vs → vs.length = size
  one : ∀ {S w x vs}, C S w x vs → ∀ v ∈ vs, v.oneCell' = true
  keep : ∀ {S S' : Nat → Prop} {w w' : World} {x vs}, C S w x vs → (∀ k, S k → k < w.heap.size → S' k ∧ w'.heap[k]? = w.heap[k]?) → w.heap.size ≤ w'.heap.size → C S' w' x vs
section
variable {α β : Type} {V : View α} {S S' : Nat → Prop} {w w' : World}
def AllV (V : View α) (S : Nat → Prop) (w : World) : List α → List Value → Prop
  | [], vs => vs = []
  | x :: l, vs => ∃ us vs', vs = us ++ vs' ∧ V.C S w x us ∧ AllV V S w l vs'
theorem AllV.keep (hs : ∀ k, S k → k < w.heap.size → S' k ∧ w'.heap[k]? = w.heap[k]?) (hz : w.heap.size ≤ w'.heap.size) : ∀ {l : List α} {vs : List Value}, AllV V S w l vs → AllV V S' w' l vs
  | [], _, h => h
  | _ :: _, _, ⟨us, vs', h1, h2, h3⟩ => ⟨us, vs', h1, V.keep h2 hs hz, AllV.keep hs hz h3⟩
theorem AllV.len : ∀ {l : List α} {vs : List Value}, AllV V S w l vs → vs.length = l.length * V.size
  | [], vs, h => by rw [show vs = [] from h]; simp
  | _ :: l, _, ⟨us, vs', h1, h2, h3⟩ => by rw [h1, List.length_append, V.len h2, AllV.len h3, List.length_cons, Nat.add_mul, Nat.one_mul]; omega
theorem AllV.one : ∀ {l : List α} {vs : List Value}, AllV V S w l vs → ∀ v ∈ vs, v.oneCell' = true
  | [], vs, h, v, hv => by rw [show vs = [] from h] at hv; cases hv
  | _ :: _, _, ⟨us, vs', h1, h2, h3⟩, v, hv => by
    rw [h1, List.mem_append] at hv
    exact hv.elim (V.one h2 v) (AllV.one h3 v)
theorem AllV.app : ∀ {l m : List α} {us vs : List Value}, AllV V S w l us → AllV V S w m vs → AllV V S w (l ++ m) (us ++ vs)
  | [], _, us, _, h, k => by rw [show us = [] from h]; exact k
  | _ :: _, _, _, _, ⟨us, vs', h1, h2, h3⟩, k => ⟨us, vs' ++ _, by rw [h1, List.append_assoc], h2, AllV.app h3 k⟩
theorem AllV.single {x : α} {us : List Value} (h : V.C S w x us) : AllV V S w [x] us := ⟨us, [], by simp, h, rfl⟩
theorem AllV.split : ∀ {l m : List α} {vs : List Value}, AllV V S w (l ++ m) vs → ∃ us us', vs = us ++ us' ∧ AllV V S w l us ∧ AllV V S w m us'
  | [], _, vs, h => ⟨[], vs, rfl, rfl, h⟩
  | _ :: _, _, _, ⟨us, vs', h1, h2, h3⟩ => by
    obtain ⟨a, b, e1, e2, e3⟩ := AllV.split h3
    exact ⟨us ++ a, b, by rw [h1, e1, List.append_assoc], ⟨us, a, rfl, h2, e2⟩, e3⟩
theorem AllV.get {x : α} : ∀ {l : List α} {vs : List Value} {i : Nat}, AllV V S w l vs → l[i]? = some x → ∃ us, V.C S w x us ∧ ∀ j v, us[j]? = some v → vs[i * V.size + j]? = some v
  | [], _, i, _, h => by simp at h
  | y :: l, vs, 0, ⟨us, vs', h1, h2, _⟩, h => by
    simp only [List.getElem?_cons_zero, Option.some.injEq] at h
    subst h
    refine ⟨us, h2, fun j v hj => ?_⟩
    rw [h1, Nat.zero_mul, Nat.zero_add, List.getElem?_append_left (List.getElem?_eq_some_iff.1 hj).1]; exact hj
  | y :: l, vs, i + 1, ⟨us, vs', h1, h2, h3⟩, h => by
    simp only [List.getElem?_cons_succ] at h
    obtain ⟨u, e1, e2⟩ := AllV.get h3 h
    refine ⟨u, e1, fun j v hj => ?_⟩
    have hl := V.len h2
    rw [h1, List.getElem?_append_right (by rw [hl, Nat.add_mul, Nat.one_mul]; omega), hl, show (i + 1) * V.size + j - V.size = i * V.size + j by rw [Nat.add_mul, Nat.one_mul]; omega]
    exact e2 j v hj
theorem AllV.set {x : α} {us : List Value} (hx : V.C S w x us) : ∀ {l : List α} {vs rest : List Value} {i : Nat}, AllV V S w l vs → i < l.length → ∃ vs', putAt (vs ++ rest) (i * V.size) us = vs' ++ rest ∧ AllV V S w (l.set i x) vs'
  | [], _, _, i, _, h => by simp at h
  | y :: l, vs, rest, 0, ⟨u, vs', h1, h2, h3⟩, _ => by
    refine ⟨us ++ vs', ?_, us, vs', rfl, hx, h3⟩
    rw [h1, Nat.zero_mul, List.append_assoc, putAt_head _ _ _ (by rw [V.len hx, V.len h2]), List.append_assoc]
  | y :: l, vs, rest, i + 1, ⟨u, vs', h1, h2, h3⟩, h => by
    obtain ⟨z, e1, e2⟩ := AllV.set hx (rest := rest) h3 (by simpa using h)
    refine ⟨u ++ z, ?_, u, z, rfl, h2, e2⟩
    rw [h1, List.append_assoc, show (i + 1) * V.size = u.length + i * V.size by rw [V.len h2, Nat.add_mul, Nat.one_mul]; omega, putAt_app, e1, List.append_assoc]

/- a slice that can be read -/
def RowV (V : View α) (S : Nat → Prop) (w : World) (a : Option Addr) (n : Nat) (l : List α) : Prop := n = l.length ∧ ∃ vs, At S w a vs ∧ AllV V S w l vs
section
variable {a : Option Addr} {n c : Nat} {l : List α}
theorem RowV.keep (h : RowV V S w a n l) (hs : ∀ k, S k → k < w.heap.size → S' k ∧ w'.heap[k]? = w.heap[k]?) (hz : w.heap.size ≤ w'.heap.size) : RowV V S' w' a n l := by
  obtain ⟨h1, vs, h2, h3⟩ := h
  exact ⟨h1, vs, h2.keep hs hz, h3.keep hs hz⟩
theorem RowV.ext (h : RowV V S w a n l) (he : Ext w w') : RowV V S w' a n l := h.keep (fun k hk hl => ⟨hk, he.block k hl⟩) he.size
theorem RowV.chg {T : Nat → Prop} (h : RowV V S w a n l) (he : Chg T w w') (hd : ∀ k, S k → k < w.heap.size → ¬ T k) : RowV V S w' a n l := h.keep (fun k hk hl => ⟨hk, he.block k hl (hd k hk hl)⟩) he.size
theorem RowV.imp (h : RowV V S w a n l) (hs : ∀ k, S k → k < w.heap.size → S' k) : RowV V S' w a n l := h.keep (fun k hk hl => ⟨hs k hk hl, rfl⟩) (Nat.le_refl _)
theorem RowV.nil (a : Option Addr) : RowV V S w a 0 [] := ⟨rfl, [], .inl rfl, rfl⟩
theorem RowV.get (h : RowV V S w a n l) {i : Nat} {x : α} (hi : l[i]? = some x) :
    ∃ b o us, (∀ K : Addr → Prop, K ⟨b, o, none⟩ → idx a n (i : Int) V.size K) ∧ S b ∧ b < w.heap.size ∧ V.C S w x us ∧ ∀ j v, us[j]? = some v → w.cell? ⟨b, o + j, none⟩ = some v := by
  obtain ⟨h1, vs, h2, h3⟩ := h
  obtain ⟨us, g1, g2⟩ := h3.get hi
  have hlt := (List.getElem?_eq_some_iff.1 hi).1
  rcases h2 with h2 | ⟨b, o, rfl, hb, hbl, hc⟩
  · have := h3.len
    rw [h2, List.length_nil] at this
    rcases Nat.mul_eq_zero.1 this.symm with h | h
    · omega
    · have := V.pos; omega
  refine ⟨b, o + i * V.size, us, fun K hK => ⟨by omega, by omega, ?_⟩, hb, hbl, g1, fun j v hj => ?_⟩
  · show K _
    rw [add_none, Int.toNat_natCast]; exact hK
  · rw [Nat.add_assoc]; exact hc _ _ (g2 j v hj)
/- a part of a slice -/
theorem RowV.cut (h : RowV V S w a n l) (hc : n ≤ c) {i j : Nat} (hij : i ≤ j) (hj : j ≤ n) {K : Option Addr → Nat → Nat → Prop}
    (hK : ∀ a', RowV V S w a' (j - i) ((l.take j).drop i) → K a' (j - i) (c - i)) : sls a c (i : Int) (j : Int) V.size K := by
  obtain ⟨h1, vs, h2, h3⟩ := h
  refine ⟨by omega, by omega, by omega, ?_⟩
  rw [Int.toNat_natCast, Int.toNat_natCast]
  refine hK _ ⟨by rw [List.length_drop, List.length_take]; omega, ?_⟩
  have e : l = l.take i ++ ((l.take j).drop i ++ l.drop j) := by
    have e1 : l.take j = l.take i ++ (l.take j).drop i := by
      conv => lhs; rw [← List.take_append_drop i (l.take j)]
      rw [List.take_take, Nat.min_eq_left hij]
    rw [← List.append_assoc, ← e1, List.take_append_drop]
  rw [e] at h3
  obtain ⟨x1, y1, r1, r2, r3⟩ := AllV.split h3
  obtain ⟨x2, y2, r4, r5, r6⟩ := AllV.split r3
  refine ⟨x2, ?_, r5⟩
  by_cases hx : x2 = []
  · exact .inl hx
  rcases h2 with h2 | ⟨b, o, rfl, hb, hbl, hcl⟩
  · rw [r1, r4] at h2; simp at h2; exact .inl h2.2.1
  have hni : i ≠ c := by
    rintro rfl
    have := r5.len
    rw [List.length_drop, List.length_take] at this
    have : x2.length = 0 := by rw [this, show min j l.length - i = 0 by omega, Nat.zero_mul]
    exact hx (List.eq_nil_of_length_eq_zero this)
  refine .inr ⟨b, o + i * V.size, ?_, hb, hbl, fun k v hk => ?_⟩
  · unfold slA
    rw [if_neg (fun hh => hni hh.symm)]
    simp [add_none]
  · have hx1 : x1.length = i * V.size := by rw [r2.len, List.length_take, Nat.min_eq_left (by omega)]
    rw [Nat.add_assoc]
    refine hcl _ _ ?_
    rw [r1, r4, List.getElem?_append_right (by omega), hx1, Nat.add_sub_cancel_left, List.getElem?_append_left (List.getElem?_eq_some_iff.1 hk).1]; exact hk
end

/- views -/
def View.enc (E : Enc α) : View α := ⟨E.size, fun _ _ x vs => vs = E.enc x, E.pos, fun h => by rw [h]; exact E.len _, fun h v hv => by rw [h] at hv; exact E.one _ v hv, fun h _ _ => h⟩
def View.sl (V : View α) : View (List α) := ⟨1, fun S w l vs => ∃ a c, vs = [.slice a l.length c] ∧ l.length ≤ c ∧ RowV V S w a l.length l, Nat.one_pos, fun ⟨_, _, h, _⟩ => by rw [h]; rfl,
  fun ⟨_, _, h, _⟩ v hv => by rw [h] at hv; simp only [List.mem_singleton] at hv; subst hv; rfl, fun ⟨a, c, h1, h2, h3⟩ hs hz => ⟨a, c, h1, h2, h3.keep hs hz⟩⟩
def View.pair (V : View α) (U : View β) : View (α × β) := ⟨V.size + U.size, fun S w x vs => ∃ us ts, vs = us ++ ts ∧ V.C S w x.1 us ∧ U.C S w x.2 ts, Nat.add_pos_left V.pos _,
  fun ⟨_, _, h, h1, h2⟩ => by rw [h, List.length_append, V.len h1, U.len h2], fun ⟨_, _, h, h1, h2⟩ v hv => by
    rw [h, List.mem_append] at hv
    exact hv.elim (V.one h1 v) (U.one h2 v), fun ⟨us, ts, h, h1, h2⟩ hs hz => ⟨us, ts, h, V.keep h1 hs hz, U.keep h2 hs hz⟩⟩
theorem allV_enc {E : Enc α} : ∀ {l : List α} {vs : List Value}, AllV (View.enc E) S w l vs ↔ vs = E.row l
  | [], vs => Iff.rfl
  | x :: l, vs => by
    show (∃ us vs', vs = us ++ vs' ∧ us = E.enc x ∧ AllV (View.enc E) S w l vs') ↔ _
    rw [row_cons]
    constructor
    · rintro ⟨us, vs', rfl, rfl, h⟩; rw [allV_enc.1 h]
    · rintro rfl; exact ⟨_, _, rfl, rfl, allV_enc.2 rfl⟩
theorem rowV_enc {E : Enc α} {a : Option Addr} {n : Nat} {l : List α} : RowV (View.enc E) S w a n l ↔ RowAt E S w a n l := by
  constructor
  · rintro ⟨h1, vs, h2, h3⟩; rw [allV_enc.1 h3] at h2; exact ⟨h1, h2⟩
  · rintro ⟨h1, h2⟩; exact ⟨h1, _, h2, allV_enc.2 rfl⟩
/- an element that is a slice -/
theorem RowV.getS {a : Option Addr} {n : Nat} {A : List (List α)} (h : RowV (View.sl V) S w a n A) {i : Nat} {l : List α} (hi : A[i]? = some l) :
    ∃ b o a' c', (∀ K : Addr → Prop, K ⟨b, o, none⟩ → idx a n (i : Int) 1 K) ∧ S b ∧ b < w.heap.size ∧ w.cell? ⟨b, o, none⟩ = some (.slice a' l.length c') ∧ l.length ≤ c' ∧ RowV V S w a' l.length l := by
  obtain ⟨b, o, us, g1, g2, g3, ⟨a', c', rfl, g4, g5⟩, g6⟩ := h.get hi
  exact ⟨b, o, a', c', g1, g2, g3, g6 0 _ rfl, g4, g5⟩
/- an element of one cell -/
theorem RowV.get1 {E : Enc α} {a : Option Addr} {n : Nat} {l : List α} (h : RowV (View.enc E) S w a n l) {i : Nat} {x : α} (hi : l[i]? = some x) {v : Value} (hv : E.enc x = [v]) :
    ∃ b o, (∀ K : Addr → Prop, K ⟨b, o, none⟩ → idx a n (i : Int) E.size K) ∧ S b ∧ b < w.heap.size ∧ w.cell? ⟨b, o, none⟩ = some v := by
  obtain ⟨b, o, us, g1, g2, g3, g4, g6⟩ := h.get hi
  have g4 : us = E.enc x := g4
  exact ⟨b, o, g1, g2, g3, g6 0 v (by rw [g4, hv]; rfl)⟩

/- a list under way -/
def OwnV (V : View α) (S : Nat → Prop) (e : TypeId) (B : Nat) (w : World) (a : Option Addr) (n c : Nat) (l : List α) : Prop :=
  n = l.length ∧ ∃ xs, Owns w B e V.size a n c xs ∧ AllV V (fun k => S k ∧ ¬ bk a k) w l xs
section
variable {e : TypeId} {B : Nat} {a : Option Addr} {n c : Nat} {l : List α}
theorem OwnV.nil (w : World) : OwnV V S e B w none 0 0 [] := ⟨rfl, [], Owns.nil w B e V.size, rfl⟩
theorem OwnV.len (h : OwnV V S e B w a n c l) : n = l.length := h.1
theorem OwnV.bk (h : OwnV V S e B w a n c l) {k : Nat} (hk : Sh.bk a k) : B ≤ k ∧ k < w.heap.size := by
  obtain ⟨_, xs, h1, _⟩ := h
  exact h1.bk hk
theorem OwnV.cap (h : OwnV V S e B w a n c l) : n ≤ c := by
  obtain ⟨_, xs, ⟨_, h | ⟨g, cap, cur, h, _, _, h2, _⟩⟩, _⟩ := h
  · omega
  · simp only [Value.slice.injEq] at h; omega
theorem OwnV.imp (h : OwnV V S e B w a n c l) (hs : ∀ k, S k → k < w.heap.size → S' k) : OwnV V S' e B w a n c l := by
  obtain ⟨h0, xs, h1, h2⟩ := h
  exact ⟨h0, xs, h1, h2.keep (fun k hk hl => ⟨⟨hs k hk.1 hl, hk.2⟩, rfl⟩) (Nat.le_refl _)⟩
theorem OwnV.chg {T : Nat → Prop} (h : OwnV V S e B w a n c l) (hc : Chg T w w') (hT : ∀ k, T k → k < w.heap.size → ¬ S k ∧ ¬ Sh.bk a k) : OwnV V S e B w' a n c l := by
  obtain ⟨h0, xs, h1, h2⟩ := h
  refine ⟨h0, xs, h1.chg (S := fun k => T k ∧ k < w.heap.size) ⟨hc.os, hc.tape, hc.output, hc.size, fun k hl hk => hc.block k hl fun ht => hk ⟨ht, hl⟩⟩ fun k hk ht => (hT k ht.1 ht.2).2 hk, h2.keep (fun k hk hl => ⟨hk, hc.block k hl fun ht => (hT k ht hl).1 hk.1⟩) hc.size⟩
theorem OwnV.ext (h : OwnV V S e B w a n c l) (hc : Ext w w') : OwnV V S e B w' a n c l := h.chg (T := fun _ => False) (.of_ext hc) fun k h => h.elim
theorem OwnV.out (h : OwnV V S e B w a n c l) : RowV V (fun k => S k ∨ Sh.bk a k) w a n l := by
  obtain ⟨h0, xs, h1, h2⟩ := h
  refine ⟨h0, xs, ?_, h2.keep (fun k hk _ => ⟨.inl hk.1, rfl⟩) (Nat.le_refl _)⟩
  by_cases hn : 0 < n
  · obtain ⟨g, rfl, hg, hc⟩ := h1.cell hn
    exact .inr ⟨g, 0, rfl, .inr rfl, (h1.bk rfl).2, fun j v hj => by rw [Nat.zero_add]; exact hc j v hj⟩
  · have h9 : n = 0 := by omega
    have h8 := h1.len
    rw [h9, Nat.zero_mul] at h8
    exact .inl (List.eq_nil_of_length_eq_zero h8)
theorem OwnV.push {P : Program} {t ty bytes : Nat} {z : Value} (hT : SlT P t e V.size bytes z) (h : OwnV V S e B w a n c l) (hB : B ≤ w.heap.size) {x : α} {us : List Value}
    (hx : V.C (fun k => S k ∧ ¬ Sh.bk a k) w x us) (hlen : n + 1 ≤ 4611686018427387904) (hbytes : (n + 1) * bytes ≤ 140737488355328) {K : Option Addr → Nat → Nat → World → Prop}
    (hk : ∀ a' c' w', OwnV V S e B w' a' (n + 1) c' (l ++ [x]) → Chg (Sh.bk a) w w' → (∀ k, Sh.bk a' k → Sh.bk a k ∨ w.heap.size ≤ k) → K a' (n + 1) c' w') :
    al w e us fun p w1 => app P [t, t] ty (.slice a n c) (.slice (some p) 1 1) w1 K := by
  obtain ⟨h0, xs, h1, h2⟩ := h
  refine app_one2 hT h1 hB us (V.len hx) (V.one hx) hlen hbytes fun a' c' w' ho hc hn => hk _ _ _ ⟨?_, _, ho, ?_⟩ hc hn
  · simp; exact h0
  · have hs : ∀ k, (S k ∧ ¬ Sh.bk a k) → k < w.heap.size → (S k ∧ ¬ Sh.bk a' k) ∧ w'.heap[k]? = w.heap[k]? := fun k hk hl =>
      ⟨⟨hk.1, fun hb => (hn k hb).elim hk.2 (fun h => by omega)⟩, hc.block k hl hk.2⟩
    exact (h2.keep hs hc.size).app (.single (V.keep hx hs hc.size))
theorem OwnV.pushAll {P : Program} {t ty bytes : Nat} {z : Value} (hT : SlT P t e V.size bytes z) (h : OwnV V S e B w a n c l) (hB : B ≤ w.heap.size) {a1 : Option Addr} {m c1 : Nat} {l' : List α} {S1 : Nat → Prop}
    (hg : RowV V S1 w a1 m l') (hS : ∀ us, AllV V S1 w l' us → AllV V (fun k => S k ∧ ¬ Sh.bk a k) w l' us) (hlen : n + m ≤ 4611686018427387904) (hbytes : (n + m) * bytes ≤ 140737488355328) {K : Option Addr → Nat → Nat → World → Prop}
    (hk : ∀ a' c' w', OwnV V S e B w' a' (n + m) c' (l ++ l') → Chg (Sh.bk a) w w' → (∀ k, Sh.bk a' k → Sh.bk a k ∨ w.heap.size ≤ k) → K a' (n + m) c' w') :
    app P [t, t] ty (.slice a n c) (.slice a1 m c1) w K := by
  obtain ⟨h0, xs, h1, h2⟩ := h
  obtain ⟨hm, us, h3, h4⟩ := hg
  have h4 := hS us h4
  refine app_own2 hT h1 hB us (by rw [h4.len, hm]) h3 h4.one hlen hbytes fun a' c' w' ho hc hn => hk _ _ _ ⟨?_, _, ho, ?_⟩ hc hn
  · rw [List.length_append]; omega
  · have hs : ∀ k, (S k ∧ ¬ Sh.bk a k) → k < w.heap.size → (S k ∧ ¬ Sh.bk a' k) ∧ w'.heap[k]? = w.heap[k]? := fun k hk hl =>
      ⟨⟨hk.1, fun hb => (hn k hb).elim hk.2 (fun h => by omega)⟩, hc.block k hl hk.2⟩
    exact (h2.keep hs hc.size).app (h4.keep hs hc.size)
/- writing one element -/
theorem OwnV.store (h : OwnV V S e B w a n c l) {i : Nat} (hi : i < n) {x : α} {us : List Value} (hx : V.C (fun k => S k ∧ ¬ Sh.bk a k) w x us) :
    ∃ g, a = some ⟨g, 0, none⟩ ∧ (∀ K : Addr → Prop, K ⟨g, i * V.size, none⟩ → idx a n (i : Int) V.size K) ∧
      ∀ K : World → Prop, (∀ w', OwnV V S e B w' a n c (l.set i x) → Chg (Sh.bk a) w w' → w'.heap.size = w.heap.size → K w') → stL w ⟨g, i * V.size, none⟩ 0 us K := by
  obtain ⟨h0, xs, h1, h2⟩ := h
  rcases h1.2 with h3 | ⟨g, cap, cur, e1, e2, e3, e4, e5, e6, e7⟩
  · omega
  obtain ⟨rfl, _, rfl⟩ : a = some ⟨g, 0, none⟩ ∧ True ∧ c = cap := by simpa using e1
  have hB : Blk w g cur.toList e := e3
  have hcl : cur.toList.length = c * V.size := by simpa using e6
  have hcur : cur.toList = xs ++ cur.toList.drop (n * V.size) := by rw [← e7, List.take_append_drop]
  have hin : i * V.size + V.size ≤ n * V.size := by
    have : (i + 1) * V.size ≤ n * V.size := Nat.mul_le_mul_right _ hi
    rwa [Nat.add_mul, Nat.one_mul] at this
  have hnc : n * V.size ≤ c * V.size := Nat.mul_le_mul_right _ e4
  refine ⟨g, rfl, fun K hK => ⟨by omega, by omega, ?_⟩, fun K hK => ?_⟩
  · show K _
    rw [add_none, Int.toNat_natCast, Nat.zero_add]; exact hK
  refine stL_blk hB (by rw [V.len hx]; omega) (V.one hx) fun w' b1 b2 b3 b4 b5 b6 => ?_
  have hc : Chg (Sh.bk (some (⟨g, 0, none⟩ : Addr))) w w' := ⟨b4, b5, b6, by omega, fun k' _ hk => b2 k' fun e => hk (by simp [Sh.bk, e])⟩
  have hs : ∀ k, (S k ∧ ¬ Sh.bk (some (⟨g, 0, none⟩ : Addr)) k) → k < w.heap.size → (S k ∧ ¬ Sh.bk (some (⟨g, 0, none⟩ : Addr)) k) ∧ w'.heap[k]? = w.heap[k]? := fun k hk hl => ⟨hk, hc.block k hl hk.2⟩
  obtain ⟨vs', p1, p2⟩ := AllV.set (V.keep hx hs hc.size) (rest := cur.toList.drop (n * V.size)) (h2.keep hs hc.size) (i := i) (by omega)
  rw [Nat.add_zero, hcur, p1] at b1
  have hl' := p2.len
  rw [List.length_set, ← h0] at hl'
  refine hK w' ⟨by rw [List.length_set]; exact h0, vs', ⟨hl', .inr ⟨g, c, ⟨_⟩, rfl, e2, b1, e4, e5, ?_, ?_⟩⟩, p2⟩ hc b3
  · show (vs' ++ cur.toList.drop (n * V.size)).length = c * V.size
    rw [List.length_append, List.length_drop, hcl, hl']; omega
  · show List.take (n * V.size) (vs' ++ _) = _
    rw [List.take_append_of_le_length (by rw [hl']; exact Nat.le_refl _), List.take_of_length_le (by rw [hl']; exact Nat.le_refl _)]
theorem AllV.rep {x : α} {us : List Value} (h : V.C S w x us) : ∀ n : Nat, AllV V S w (List.replicate n x) (List.replicate n us).flatten
  | 0 => rfl
  | n + 1 => ⟨us, _, by rw [List.replicate_succ, List.flatten_cons], h, AllV.rep h n⟩
theorem OwnV.made {b : Nat} {x : α} {us : List Value} {n : Nat} (h : Blk w b (List.replicate n us).flatten e) (hB : B ≤ b) (hn : n ≤ maxLen) (hx : V.C (fun k => S k ∧ ¬ Sh.bk (some (⟨b, 0, none⟩ : Addr)) k) w x us) : OwnV V S e B w (some ⟨b, 0, none⟩) n n (List.replicate n x) := by
  have ha := AllV.rep hx n
  have hl := ha.len
  rw [List.length_replicate] at hl
  refine ⟨by rw [List.length_replicate], _, ⟨hl, .inr ⟨b, n, _, rfl, hB, h, Nat.le_refl _, hn, hl, ?_⟩⟩, ha⟩
  show List.take _ _ = _
  exact List.take_of_length_le (by rw [hl]; exact Nat.le_refl _)
end
theorem ext_own {w1 : World} {a : Option Addr} (he : Ext w w1) (hc : Chg (bk a) w1 w') (ha : ∀ k, bk a k → w.heap.size ≤ k) : Ext w w' :=
  ((Chg.of_ext (S := fun k => w.heap.size ≤ k) he).trans (hc.mono fun k _ hk => ha k hk)).ext fun k hk => by omega
end
theorem zeroRun {P : Program} {T : TypeId} {v : Value} (h : (P.info? T).bind (·.zero) = some v) (w : World) : (zeroValue T).run P w = .ok v w := by
  cases hi : P.info? T with
  | none => rw [hi] at h; cases h
  | some i =>
    rw [hi] at h
    have hz : i.zero = some v := h
    simp [zeroValue, typeInfo, hi, hz]
theorem ownV_enc {α : Type} {E : Enc α} {S : Nat → Prop} {e : TypeId} {B : Nat} {w : World} {a : Option Addr} {n c : Nat} {l : List α} : OwnV (View.enc E) S e B w a n c l ↔ OwnL E w B e a n c l := by
  constructor
  · rintro ⟨h1, xs, h2, h3⟩
    rw [allV_enc.1 h3] at h2; exact h2
  · intro h
    exact ⟨(OwnL.length h).symm, _, h, allV_enc.2 rfl⟩
/- numbers and strings -/
abbrev vI : View Int := View.enc Sh.encI
abbrev vS : View (List UInt8) := View.enc Sh.encStr
abbrev vIs : View (List Int) := View.sl vI
theorem RowV.int {S : Nat → Prop} {w : World} {a : Option Addr} {n : Nat} {L : List Int} (h : RowV vI S w a n L) {k : Nat} (hk : k < L.length) :
    ∃ q : Addr, (∀ K : Addr → Prop, K q → idx a n (k : Int) 1 K) ∧ w.cell? q = some (.int .i64 L[k]) := by
  obtain ⟨b, o, h1, _, _, h2⟩ := h.get1 (i := k) (x := L[k]) (List.getElem?_eq_getElem hk) (v := .int .i64 L[k]) rfl
  exact ⟨_, h1, h2⟩
theorem RowV.str {S : Nat → Prop} {w : World} {a : Option Addr} {n : Nat} {L : List (List UInt8)} (h : RowV vS S w a n L) {k : Nat} (hk : k < L.length) :
    ∃ q : Addr, (∀ K : Addr → Prop, K q → idx a n (k : Int) 1 K) ∧ w.cell? q = some (.string ⟨⟨L[k]⟩⟩) := by
  obtain ⟨b, o, h1, _, _, h2⟩ := h.get1 (i := k) (x := L[k]) (List.getElem?_eq_getElem hk) (v := .string ⟨⟨L[k]⟩⟩) rfl
  exact ⟨_, h1, h2⟩
theorem RowV.isNone {α : Type} {V : View α} {S : Nat → Prop} {w : World} {n : Nat} {L : List α} (h : RowV V S w none n L) : L = [] := by
  obtain ⟨_, vs, h2, h3⟩ := h
  rcases h2 with h2 | ⟨b, o, h2, _⟩
  · have := h3.len
    rw [h2, List.length_nil] at this
    rcases Nat.mul_eq_zero.1 this.symm with h | h
    · exact List.eq_nil_of_length_eq_zero h
    · have := V.pos; omega
  · cases h2
end Go.Sh
namespace Go.Sh
open Go Go.RowKit
open Go.WideElems (Fit)
open Go.Maps (Keyed)

/- a map that stands in a block, as a partial function of keys -/
def anyV : Value → Option (DataW Unit × List MemPlace) := fun _ => some (.nil, [])
def MapT {K V : Type} (P : Program) (k : TypeId) (eK : K → Value) (eV : V → Value) (w : World) (b n : Nat) (f : K → Option V) : Prop :=
  ∃ es clock, w.heap[b]? = some (.map es clock) ∧ Fit P k anyV es clock ∧ es.size ≤ n ∧
    ∀ x, (f x = none ∧ ∀ e ∈ es.toList, e.key ≠ eK x) ∨ ∃ v, f x = some v ∧ ∃ e ∈ es.toList, e.key = eK x ∧ e.val = eV v

section
variable {K V : Type} {P : Program} {k t e : TypeId} {eK : K → Value} {eV : V → Value} {w w' : World} {b n : Nat} {f : K → Option V}
theorem MapT.made (w : World) : MapT P k eK eV (w.alloc (.map #[] 0)) w.heap.size 0 (fun _ => none) :=
  ⟨#[], 0, (MapKept.heap_alloc w _).1, ⟨by simp, MapKept.stamped_empty 0, by simp⟩, Nat.le_refl _, fun x => .inl ⟨rfl, by simp⟩⟩
theorem MapT.lt (h : MapT P k eK eV w b n f) : b < w.heap.size := by
  obtain ⟨es, clock, hb, _⟩ := h
  exact (Array.getElem?_eq_some_iff.1 hb).1
theorem MapT.keep (h : MapT P k eK eV w b n f) (hw : w'.heap[b]? = w.heap[b]?) : MapT P k eK eV w' b n f := by
  obtain ⟨es, clock, hb, h⟩ := h
  exact ⟨es, clock, hw.trans hb, h⟩
theorem MapT.ext (h : MapT P k eK eV w b n f) (hw : Ext w w') : MapT P k eK eV w' b n f := h.keep (hw.block b h.lt)
theorem MapT.chg {S : Nat → Prop} (h : MapT P k eK eV w b n f) (hw : Chg S w w') (hs : ¬ S b) : MapT P k eK eV w' b n f := h.keep (hw.block b h.lt hs)
theorem MapT.mono (h : MapT P k eK eV w b n f) {m : Nat} (hm : n ≤ m) : MapT P k eK eV w b m f := by
  obtain ⟨es, clock, hb, F, hs, h⟩ := h
  exact ⟨es, clock, hb, F, Nat.le_trans hs hm, h⟩
theorem MapT.congr {g : K → Option V} (h : MapT P k eK eV w b n f) (hg : ∀ x, f x = g x) : MapT P k eK eV w b n g := by
  rw [← (funext hg : f = g)]; exact h

theorem MapT.look (h : MapT P k eK eV w b n f) (Kd : Keyed P k) (ht : P.underlying t = some (.map k e)) {z : Value} (hz : (zeroValue e).run P w = .ok z w) {x : K} {kl : Lit} (hkey : keyOf P k (eK x) = some kl) :
    lkAt P t (.map (some b)) (eK x) w (((f x).map eV).getD z) := by
  obtain ⟨es, clock, hb, F, _, hf⟩ := h
  unfold lkAt
  rcases Maps.fit_look false Kd ht hz hb F hkey with ⟨hrun, hno, _⟩ | ⟨e0, y, h1, h2, hrun, _⟩
  · rcases hf x with ⟨h0, _⟩ | ⟨v, _, e1, he1, hk1, _⟩
    · rw [h0]; exact hrun
    · exact absurd hk1 (hno e1 he1)
  · rcases hf x with ⟨_, h0⟩ | ⟨v, hv, e1, he1, hk1, hv1⟩
    · exact absurd h2 (h0 e0 h1)
    · rw [hv]
      have : e0 = e1 := by
        have hn : es.toList.Pairwise (fun x y => x.key ≠ y.key) := ((MapKept.stamped_iff es clock).1 F.stamped).2.2
        obtain ⟨i, hi, rfl⟩ := List.getElem_of_mem h1
        obtain ⟨j, hj, rfl⟩ := List.getElem_of_mem he1
        have : i = j := by
          apply Classical.byContradiction
          intro hne
          rcases Nat.lt_or_gt_of_ne hne with hl | hl
          · exact List.pairwise_iff_getElem.1 hn i j hi hj hl (h2.trans hk1.symm)
          · exact List.pairwise_iff_getElem.1 hn j i hj hi hl (hk1.trans h2.symm)
        subst this; rfl
      subst this
      rw [hv1] at hrun
      simpa using hrun
theorem MapT.update (h : MapT P k eK eV w b n f) (Kd : Keyed P k) (ht : P.underlying t = some (.map k e)) (hn : n < maxLen) {x : K} {v : V} {kl : Lit} (hkey : keyOf P k (eK x) = some kl) (hinj : ∀ y, eK y = eK x → y = x) {Q : World → Prop}
    (hq : ∀ (w' : World) (g : K → Option V), MapT P k eK eV w' b (n + 1) g → Chg (fun j => j = b) w w' → g x = some v → (∀ y, y ≠ x → g y = f y) → Q w') : mupd P t (.map (some b)) (eK x) (eV v) w Q := by
  have hlt := h.lt
  obtain ⟨es, clock, hb, F, hs, hf⟩ := h
  have hsz : es.size < maxLen := Nat.lt_of_le_of_lt hs hn
  have chg : ∀ o, Chg (fun j => j = b) w (ChangeMaps.setBlock w b o) := fun o => ⟨rfl, rfl, rfl, by simp [ChangeMaps.setBlock], fun i _ hi => ChangeMaps.heap_setBlock_other hb _ hi⟩
  have fin : ∀ es' clock', (Instr.mapUpdate t (.map (some b)) (eK x) (eV v)).run P w = .ok () (ChangeMaps.setBlock w b (.map es' clock')) → Fit P k anyV es' clock' → es'.size ≤ n + 1 →
      (∃ e1 ∈ es'.toList, e1.key = eK x ∧ e1.val = eV v) → (∀ e0 ∈ es.toList, e0.key ≠ eK x → e0 ∈ es'.toList) → (∀ e1 ∈ es'.toList, e1.key ≠ eK x → e1 ∈ es.toList) →
      mupd P t (.map (some b)) (eK x) (eV v) w Q := by
    intro es' clock' hrun F' hs' hnew hold hback
    classical
    refine ⟨_, hrun, hq _ (fun y => if y = x then some v else f y) ⟨es', clock', ChangeMaps.heap_setBlock_same hb _, F', hs', fun y => ?_⟩ (chg _) (by simp) (fun y hy => by simp [hy])⟩
    by_cases hy : y = x
    · subst hy
      obtain ⟨e1, h1, h2, h3⟩ := hnew
      exact .inr ⟨v, by simp, e1, h1, h2, h3⟩
    · have hne : eK y ≠ eK x := fun e => hy (hinj y e)
      rcases hf y with ⟨h0, h1⟩ | ⟨u, hu, e1, h1, h2, h3⟩
      · refine .inl ⟨by simp [hy, h0], fun e1 he1 hk => ?_⟩
        exact h1 e1 (hback e1 he1 (by rw [hk]; exact hne)) hk
      · exact .inr ⟨u, by simp [hy, hu], e1, hold e1 h1 (by rw [h2]; exact hne), h2, h3⟩
  rcases Kd.find w hkey es.toList F.keys with ⟨h1, h2⟩ | ⟨j, e0, h1, h2, h3⟩
  · refine fin (es.push ⟨eK x, eV v, clock⟩) (clock + 1) ?_ ⟨by simp; omega, MapKept.stamped_push F.stamped h2, ?_⟩ (by simp; omega) ⟨⟨eK x, eV v, clock⟩, by simp, rfl, rfl⟩ (fun e0 h0 _ => by simp at h0 ⊢; exact .inl h0) (fun e1 h1 hne => ?_)
    · simp [Instr.mapUpdate, run_underlying ht, MapKept.run_getObj_map hb, Kd.check w false hkey, h1, MapKept.run_setObj_map _ hb, Result.andThen, ChangeMaps.setBlock]
    · intro y hy
      simp only [Array.toList_push, List.mem_append, List.mem_singleton] at hy
      rcases hy with hy | rfl
      · exact F.reads y hy
      · exact ⟨_, WideElems.rd_mk hkey rfl⟩
    · simp only [Array.toList_push, List.mem_append, List.mem_singleton] at h1
      rcases h1 with h1 | rfl
      · exact h1
      · exact absurd rfl hne
  · have hj : es[j]? = some e0 := by simpa using h2
    have hjl : j < es.toList.length := (List.getElem?_eq_some_iff.1 h2).1
    have hkeyf : ∀ e', es[j]? = some e' → ({ e' with key := eK x, val := eV v } : MapEntry).key = e'.key := fun e' he' => by rw [hj] at he'; cases he'; exact h3.symm
    have hlist : (es.modify j (fun e' => { e' with key := eK x, val := eV v })).toList = es.toList.set j { e0 with key := eK x, val := eV v } := by
      apply List.ext_getElem?
      intro i
      simp only [Array.getElem?_toList, Array.getElem?_modify, List.getElem?_set]
      by_cases hi : j = i
      · subst hi; simp [hj]; exact (Array.getElem?_eq_some_iff.1 hj).1
      · simp [hi]
    refine fin (es.modify j (fun e' => { e' with key := eK x, val := eV v })) clock ?_ ⟨by simpa using F.size, MapKept.stamped_modify F.stamped _ _ (fun _ _ => rfl) (fun e' _ he' => hkeyf e' he'), ?_⟩ (by simp; omega) ?_ ?_ ?_
    · simp [Instr.mapUpdate, run_underlying ht, MapKept.run_getObj_map hb, Kd.check w false hkey, h1, hj, h3, Kd.stays w hkey, MapKept.run_setObj_map _ hb, Result.andThen, ChangeMaps.setBlock]
    · intro y hy
      rw [hlist] at hy
      rcases List.mem_or_eq_of_mem_set hy with hy | rfl
      · exact F.reads y hy
      · exact ⟨_, WideElems.rd_mk hkey rfl⟩
    · exact ⟨{ e0 with key := eK x, val := eV v }, by rw [hlist]; exact List.mem_iff_getElem.2 ⟨j, by simpa using hjl, by simp⟩, rfl, rfl⟩
    · intro y hy hne
      rw [hlist]
      obtain ⟨i, hi, rfl⟩ := List.getElem_of_mem hy
      have hij : j ≠ i := fun e => by
        subst e
        have : es.toList[j] = e0 := by rw [List.getElem?_eq_getElem hjl] at h2; exact Option.some.inj h2
        rw [this] at hne; exact hne h3
      exact List.mem_iff_getElem.2 ⟨i, by simpa using hi, by rw [List.getElem_set_ne hij]⟩
    · intro y hy hne
      rw [hlist] at hy
      rcases List.mem_or_eq_of_mem_set hy with hy | rfl
      · exact hy
      · exact absurd rfl hne
end
theorem mkm_intro {w : World} {K : Nat → World → Prop}
    (h : ∀ b w', b = w.heap.size → (∀ {A V : Type} (P : Program) (k : TypeId) (eK : A → Value) (eV : V → Value), MapT P k eK eV w' b 0 (fun _ => none)) → Ext w w' → w'.heap.size = b + 1 → K b w') : mkm w K :=
  h _ _ rfl (fun P k eK eV => MapT.made w) ((Below.refl _ w).alloc (Nat.le_refl _) _) (by simp)
end Go.Sh
namespace Go.Sh
open Go Go.RowKit

/- clearing the end of a slice that the call has made, and cutting it off -/
theorem setCells_blk {T : TypeId} : ∀ {vs cs : List Value} {w : World} {b o : Nat}, Blk w b cs T →
    Blk (w.setCells b o vs) b (putAt cs o vs) T ∧ (∀ k, k ≠ b → (w.setCells b o vs).heap[k]? = w.heap[k]?) ∧ (w.setCells b o vs).heap.size = w.heap.size ∧
      (w.setCells b o vs).os = w.os ∧ (w.setCells b o vs).tape = w.tape ∧ (w.setCells b o vs).output = w.output
  | [], cs, w, b, o, h => ⟨h, fun _ _ => rfl, rfl, rfl, rfl, rfl⟩
  | v :: vs, cs, w, b, o, h => by
    obtain ⟨a1, a2, a3, a4, a5, a6⟩ := setCells_blk (vs := vs) (o := o + 1) (h.set o v)
    refine ⟨a1, fun k hk => (a2 k hk).trans ?_, a3.trans (by simp), a4, a5, a6⟩
    simp only [World.setCell, Array.getElem?_modify]
    rw [if_neg (fun e => hk e.symm)]
theorem slA_zero (a : Option Addr) (c : Nat) (ha : a = none ∨ ∃ g, a = some ⟨g, 0, none⟩) : slA a c 0 1 = a := by
  unfold slA
  split
  · rfl
  · rcases ha with rfl | ⟨g, rfl⟩
    · rfl
    · simp [add_none]
section
variable {α : Type} {E : Enc α} {w : World} {B : Nat} {e : TypeId} {a : Option Addr} {n c : Nat} {l : List α}
theorem clr_none {P : Program} {t ty : TypeId} {a : Option Addr} {c : Nat} {K : World → Prop} (ht : P.underlying t = some (.slice e)) (h : K w) : clr P [t] ty [.slice a 0 c] w K := by
  refine ⟨w, ?_, h⟩
  cases a <;> simp [Builtin.clear_, run_underlying ht]
theorem OwnL.cutClear {P : Program} {t ty : TypeId} {z : Value} (ht : P.underlying t = some (.slice e)) (hz : ∀ w, (zeroValue e).run P w = .ok z w) (hzc : z.cells = #[z]) (h1 : z.oneCell' = true) (hE : E.size = 1)
    (h : OwnL E w B e a n c l) {i : Nat} (hi : i ≤ n) {K : Option Addr → Nat → Nat → World → Prop} (hk : ∀ w', OwnL E w' B e a i c (l.take i) → Chg (bk a) w w' → w'.heap.size = w.heap.size → K a i c w') :
    sls a c (i : Int) (n : Int) 1 fun a' n' c' => clr P [t] ty [.slice a' n' c'] w fun w' => sls a c 0 (i : Int) 1 fun a'' n'' c'' => K a'' n'' c'' w' := by
  have hl := h.length
  have ho := h
  rcases h.2 with h0 | ⟨g, cap, cur, e1, e2, e3, e4, e5, e6, e7⟩
  · have hn : n = 0 := by omega
    subst hn
    obtain rfl : i = 0 := by omega
    have ha : a = none := (by simpa using h0.1 : a = none ∧ c = 0).1
    subst ha
    refine ⟨by omega, by omega, by omega, clr_none ht ⟨by omega, by omega, by omega, ?_⟩⟩
    rw [show (0 : Int).toNat = 0 from rfl]
    rw [slA_zero _ _ (.inl rfl)]
    refine hk w ?_ (Chg.refl _ _) rfl
    rw [List.take_of_length_le (by omega)]; exact ho
  · obtain ⟨rfl, _, rfl⟩ : a = some ⟨g, 0, none⟩ ∧ True ∧ c = cap := by simpa using e1
    have hB : Blk w g cur.toList e := e3
    rw [hE] at e6 e7
    have hcl : cur.toList.length = c := by simpa using e6
    have hrl : (E.row l).length = n := by rw [row_len, hE, hl]; omega
    have fin : ∀ w', Blk w' g (putAt cur.toList i (List.replicate (n - i) z)) e → Chg (bk (some (⟨g, 0, none⟩ : Addr))) w w' → w'.heap.size = w.heap.size → sls (some ⟨g, 0, none⟩) c 0 (i : Int) 1 fun a'' n'' c'' => K a'' n'' c'' w' := by
      intro w' b1 hc hs
      refine ⟨by omega, by omega, by omega, ?_⟩
      rw [show (0 : Int).toNat = 0 from rfl, slA_zero _ _ (.inr ⟨g, rfl⟩), Int.toNat_natCast, Nat.sub_zero, Nat.sub_zero]
      refine hk w' ⟨by rw [row_len, List.length_take, hl, hE]; omega, .inr ⟨g, c, ⟨_⟩, rfl, e2, b1, by omega, e5, ?_, ?_⟩⟩ hc hs
      · show (putAt _ _ _).length = c * E.size
        rw [putAt_length, hcl, hE]; omega
      · show List.take (i * E.size) (putAt _ _ _) = E.row (l.take i)
        rw [hE, Nat.mul_one]
        apply List.ext_getElem?
        intro j
        rw [List.getElem?_take, putAt_get]
        by_cases hj : j < i
        · rw [if_pos hj, if_neg (by omega)]
          have e7' : List.take (n * 1) cur.toList = E.row l := e7
          have q1 : cur.toList[j]? = (E.row l)[j]? := by rw [← e7', List.getElem?_take, if_pos (by omega)]
          have q2 : E.row l = E.row (l.take i) ++ E.row (l.drop i) := by rw [← row_app, List.take_append_drop]
          rw [q1, q2, List.getElem?_append_left (by rw [row_len, List.length_take, hE]; omega)]
        · rw [if_neg hj, List.getElem?_eq_none (by rw [row_len, List.length_take, hE]; omega)]
    refine ⟨by omega, by omega, by omega, ?_⟩
    rw [Int.toNat_natCast, Int.toNat_natCast]
    by_cases hni : i = n
    · subst hni
      rw [Nat.sub_self]
      refine clr_none ht (fin w ?_ (Chg.refl _ _) rfl)
      rw [Nat.sub_self]; exact hB
    · have hsl : slA (some (⟨g, 0, none⟩ : Addr)) c i 1 = some ⟨g, i, none⟩ := by
        unfold slA
        rw [if_neg (by omega)]
        simp [add_none]
      rw [hsl]
      obtain ⟨a1, a2, a3, a4, a5, a6⟩ := setCells_blk (vs := List.replicate (n - i) z) (o := i) hB
      refine ⟨w.setCells g i (List.replicate (n - i) z), ?_, fin _ a1 ⟨a4, a5, a6, by omega, fun k _ hk => a2 k fun e => hk (by simp [bk, e])⟩ a3⟩
      refine Lib.run_clear_slice w t e ty z ht hz hzc h1 g i (n - i) _ (by omega) (fun j hj => ?_) (fun j hj => ?_)
      · rw [hB.cell, List.getElem?_eq_getElem (by omega)]; rfl
      · exact hB.frozen _
end
end Go.Sh
