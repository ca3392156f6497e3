/- The contracts of the functions that the law reaches, one after the other, and at the end the law's card. -/
import Derived.Test.YtcnlbobkjeiakaaDoorLawG
namespace Go.Proofs
open Go Go.Sh Go.RowKit

/- slices of strings and of pairs, out of what a row says of the arguments -/
theorem row_build {α : Type} {E : Enc α} {w : World} {a : Addr} {len : Nat} (hel : ∀ i, i < len → ∃ x : α, ∀ j v, (E.enc x)[j]? = some v → w.cell? ((a.add (i * E.size)).add j) = some v) :
    ∃ L : List α, RowAt E (fun _ => True) w (some a) len L := by
  by_cases hl0 : len = 0
  · subst hl0; exact ⟨[], RowAt.nil _⟩
  obtain ⟨b, o, rfl⟩ : ∃ b o, a = ⟨b, o, none⟩ := by
    obtain ⟨x, hx⟩ := hel 0 (by omega)
    have hp := E.pos
    have h0 := hx 0 _ (List.getElem?_eq_getElem (by rw [E.len]; exact hp))
    obtain ⟨b, o, spot⟩ := a
    have hspot : spot = none := by simpa [Addr.add] using World.cell?_spot h0
    subst hspot
    exact ⟨b, o, rfl⟩
  have build : ∀ k, k ≤ len → ∃ L : List α, L.length = k ∧ ∀ j v, (E.row L)[j]? = some v → w.cell? ((⟨b, o, none⟩ : Addr).add j) = some v := by
    intro k
    induction k with
    | zero => exact fun _ => ⟨[], rfl, fun j v hj => by simp at hj⟩
    | succ k ihk =>
      intro hk
      obtain ⟨L, hL, hus⟩ := ihk (by omega)
      obtain ⟨x, hx⟩ := hel k (by omega)
      refine ⟨L ++ [x], by simp [hL], fun j v hj => ?_⟩
      rw [row_snoc] at hj
      by_cases hlt : j < (E.row L).length
      · rw [List.getElem?_append_left hlt] at hj
        exact hus j v hj
      · rw [List.getElem?_append_right (by omega)] at hj
        have := hx _ _ hj
        rw [add_none, add_none] at this
        rw [row_len, hL] at this hlt
        rw [add_none, show o + j = o + k * E.size + (j - k * E.size) by omega]
        exact this
  obtain ⟨L, hL, hus⟩ := build len (Nat.le_refl _)
  refine ⟨L, hL.symm, ?_⟩
  cases hr : E.row L with
  | nil => exact .inl rfl
  | cons u us =>
    rw [hr] at hus
    have h0 := hus 0 u rfl
    refine .inr ⟨b, o, rfl, trivial, ?_, fun j v hj => ?_⟩
    · have := World.block_lt_of_cell? w _ h0
      simpa [Addr.add] using this
    · have := hus j v hj
      rw [add_none] at this; exact this
set_option maxRecDepth 20000 in
theorem open_strs {H : Type} {enc : TypeId × Value → H} {w : World} {base : Nat} {sp : Nat → Bool} {hd : Bool} (fuel : Nat) (cs : List Value) (x : DataW H × List MemPlace) (h : DataW.trod enc Tryd.prog w base sp hd fuel 38 cs = some x) :
    ∃ (a : Option Addr) (n c : Nat) (L : List (List UInt8)), cs = [.slice a n c] ∧ RowAt encStr (fun _ => True) w a n L ∧ n ≤ c := by
  rcases DataW.trod_slice Tryd.underlying38 h with ⟨rfl, _⟩ | ⟨a, len, cap, elems, rest, n, rfl, rfl, _, hb, hl, hm, hel, hall, _⟩
  · exact ⟨none, 0, 0, [], rfl, RowAt.nil _, Nat.le_refl _⟩
  have h9 : Tryd.prog.cellsOf 9 = 1 := by kernel_rfl
  obtain ⟨L, hL⟩ := row_build (E := encStr) (w := w) (a := a) (len := len) fun i hi => by
    have hh := hall i hi
    rw [List.getElem?_eq_getElem (by omega)] at hh
    obtain ⟨cs', hc1, hc2⟩ := Option.bind_eq_some_iff.1 hh
    rw [h9] at hc1
    obtain ⟨_, hlen, hcell⟩ := World.cells?_some hc1
    obtain ⟨t, e0, _, _⟩ := DataW.trod_string Tryd.underlying9 hc2
    subst e0
    refine ⟨t.data.toList, fun j v hj => ?_⟩
    have hj1 : j < 1 := (List.getElem?_eq_some_iff.1 hj).1
    rw [show i * encStr.size = i * 1 from rfl, hcell j hj1]
    exact hj
  exact ⟨some a, len, cap, L, rfl, hL, by omega⟩
theorem len2 {α : Type} {l : List α} (h : l.length = 2) : ∃ a b, l = [a, b] := by
  match l, h with
  | [a, b], _ => exact ⟨a, b, rfl⟩
set_option maxRecDepth 20000 in
theorem open_rws {H : Type} {enc : TypeId × Value → H} {w : World} {base : Nat} {sp : Nat → Bool} {hd : Bool} (fuel : Nat) (cs : List Value) (x : DataW H × List MemPlace) (h : DataW.trod enc Tryd.prog w base sp hd fuel 32 cs = some x) :
    ∃ (a : Option Addr) (n c : Nat) (L : List Rw), cs = [.slice a n c] ∧ RowAt encR (fun _ => True) w a n L := by
  rcases DataW.trod_slice Tryd.underlying32 h with ⟨rfl, _⟩ | ⟨a, len, cap, elems, rest, n, rfl, rfl, _, hb, hl, hm, hel, hall, _⟩
  · exact ⟨none, 0, 0, [], rfl, RowAt.nil _⟩
  have h9 : Tryd.prog.cellsOf 9 = 1 := by kernel_rfl
  have h2 : Tryd.prog.cellsOf 42 = 2 := by kernel_rfl
  obtain ⟨L, hL⟩ := row_build (E := encR) (w := w) (a := a) (len := len) fun i hi => by
    have hh := hall i hi
    rw [List.getElem?_eq_getElem (by omega)] at hh
    obtain ⟨cs', hc1, hc2⟩ := Option.bind_eq_some_iff.1 hh
    rw [h2] at hc1
    obtain ⟨_, hlen, hcell⟩ := World.cells?_some hc1
    obtain ⟨xs, n', rfl, _, hcl, hxl, hf⟩ := DataW.trod_struct Tryd.underlying42 hc2
    obtain ⟨v0, v1, rfl⟩ := len2 hlen
    obtain ⟨y0, y1, rfl⟩ := len2 (show xs.length = 2 from hxl)
    have g0 := hf 0 _ rfl
    have g1 := hf 1 _ rfl
    try dsimp only at g0
    try simp only [h9] at g0
    try dsimp only at g1
    try simp only [h9] at g1
    obtain ⟨t, e0, _, _⟩ := DataW.trod_string Tryd.underlying9 g0
    obtain ⟨u, e1, _, _⟩ := DataW.trod_string Tryd.underlying9 g1
    simp [h9] at e0 e1
    subst e0 e1
    refine ⟨(t.data.toList, u.data.toList), fun j v hj => ?_⟩
    have hj2 : j < 2 := (List.getElem?_eq_some_iff.1 hj).1
    rw [show i * encR.size = i * 2 from rfl, hcell j hj2]
    exact hj
  exact ⟨some a, len, cap, L, rfl, hL⟩
end Go.Proofs
