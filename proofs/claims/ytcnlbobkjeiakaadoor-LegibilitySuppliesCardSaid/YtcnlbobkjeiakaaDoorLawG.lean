/- The contracts of the functions that the law reaches, one after the other, and at the end the law's card. -/
import Derived.Test.YtcnlbobkjeiakaaDoorLawF
namespace Go.Proofs
open Go Go.Sh Go.RowKit

theorem join_flat : ∀ xs : List (List UInt8), Lib.join xs [] = xs.flatten
  | [] => rfl
  | x :: r => by
    rw [Lib.join_cons, List.flatten_cons]
    congr 1
    unfold Lib.joinTail
    simp
theorem JoinE_spec {R : Ending → World → Prop} {S : Nat → Prop} {w : World} {a : Option Addr} {n c : Nat} {L : List (List UInt8)} (h1 : RowAt encStr S w a n L) (hc : n ≤ c) (hn : n ≤ 1000000000) (hl : L.flatten.length ≤ 140737488355328)
    (h : ∀ w', Ext w w' → R (.returned (.string ⟨⟨L.flatten⟩⟩)) w') : Calls Tryd.prog F_strings_Join ⟨[.slice a n c, .string ⟨⟨[]⟩⟩]⟩ w R := by
  have hn1 := h1.1
  by_cases h0 : L = []
  · subst h0
    have : n = 0 := hn1
    subst this
    refine (Tryd.strings_Join_none a c ⟨⟨[]⟩⟩ w).mono ?_
    rintro e w' ⟨rfl, rfl⟩
    exact h _ (Below.refl _ _)
  · rcases h1.2 with h2 | ⟨b, o, rfl, hb, hbl, hcl⟩
    · have := congrArg List.length h2
      rw [row_len] at this
      simp [encStr] at this
      exact absurd this h0
    have hmap : ((L.map (fun s => (⟨⟨s⟩⟩ : ByteArray))).map (·.data.toList)) = L := by rw [List.map_map]; exact List.map_id' L
    have key := Tryd.strings_Join b o c (L.map fun s => (⟨⟨s⟩⟩ : ByteArray)) ⟨⟨[]⟩⟩ w (fun j x hx => by
      rw [List.getElem?_map, Option.map_eq_some_iff] at hx
      obtain ⟨s, hs, rfl⟩ := hx
      refine hcl j _ ?_
      have := row_get (E := encStr) (l := L) (i := j) (j := 0) (x := s) hs (by decide)
      rw [show j * encStr.size + 0 = j by simp [encStr]] at this
      rw [this]; rfl) hbl (by rw [List.length_map]; omega) (by rw [List.length_map]; omega) (by rw [hmap]; rw [join_flat]; exact hl)
    rw [hmap, List.length_map, ← hn1] at key
    refine key.mono ?_
    rintro e w' ⟨rfl, hbe⟩
    have := h w' hbe
    rw [join_flat]
    exact this

set_option maxRecDepth 20000 in
theorem ContainsFuncS_spec {R : Ending → World → Prop} {S : Nat → Prop} {w : World} {a : Option Addr} {n c : Nat} {f : Fn} {fa fb : Array Value} {q : List UInt8 → Bool} {L : List (List UInt8)} {J : World → Prop} (h1 : RowAt encStr S w a n L)
    (hs : n ≤ 4611686018427387904) (hp : PredS f fa fb q L J) (hJ0 : J w) (hJe : ∀ W W', J W → Ext W W' → J W')
    (h : ∀ w', Ext w w' → R (.returned (.bool (L.any q))) w') : Calls Tryd.prog F_slices_ContainsFunc_of_string_string ⟨[.slice a n c, .func f fa fb]⟩ w R := by
  apply c_slices_ContainsFunc_of_string_string
  refine IndexFuncS_spec h1 hs hp hJ0 hJe fun w' e' => ⟨_, rfl, ?_⟩
  have e : decide ((0 : Int) ≤ idxF q L) = L.any q := by
    unfold idxF
    cases L.any q <;> simp
  rw [e]; exact h w' e'
theorem flatten_len {L : List (List UInt8)} {b : Nat} (h : ∀ s ∈ L, s.length ≤ b) : L.flatten.length ≤ L.length * b := by
  induction L with
  | nil => simp
  | cons x r ih =>
    have := ih fun s hs => h s (by simp [hs])
    have := h x (by simp)
    simp only [List.flatten_cons, List.length_append, List.length_cons, Nat.add_mul, Nat.one_mul]; omega
theorem take_snoc {α : Type} {l : List α} {k : Nat} (h : k < l.length) : l.take (k + 1) = l.take k ++ [l[k]] := by rw [List.take_add_one, List.getElem?_eq_getElem h]; rfl

set_option maxRecDepth 20000 in
theorem LegibilitySupplies_spec {R : Ending → World → Prop} {S SW : Nat → Prop} {w : World} {a : Option Addr} {n c : Nat} {wa : Option Addr} {wn wc : Nat} (f : Fo) (ws : List (List UInt8)) (hcw : wn ≤ wc) (hF : Forms w) (hf0 : SlF S w a n f) (hW : RowAt encStr SW w wa wn ws)
    (h : ∀ w', Ext w w' → R (.returned (.bool true)) w') : Calls Tryd.prog F_law12_LegibilitySupplies ⟨[.slice a n c, .slice wa wn wc]⟩ w R := by
  apply c_law12_LegibilitySupplies
  have aw : ∀ {K : Ending → World → Prop} W, Ext w W → (∀ w', Ext w w' → K (.returned (.bool true)) w') → Calls Tryd.prog F_law12_awake ⟨[]⟩ W fun e w' => ∃ x : Bool, e = .returned (.bool x) ∧ K (.returned (.bool x)) w' :=
    fun W hx hK => awake12_spec (hF.ext hx) fun w10 e10 => ⟨_, rfl, hK _ (ext_trans hx e10)⟩
  have hwn := hW.1
  intro K3 hK3
  have k3 : ∀ W, Ext w W → great10 f = false → wn ≤ 8 → (∀ s ∈ ws, s.length ≤ 70) → K3 W := by
    intro W hE hgr h8 h70
    have hs := great10_small hgr
    refine hK3 _ fun _ => ?_
    refine Supply_spec f hs (hF.ext hE) (hf0.ext hE) (hW.ext hE) (by omega) fun a1 n1 c1 w6 hsl6 e6 => ⟨_, _, _, _, rfl, ?_⟩
    have E6 := ext_trans hE e6
    refine br_split (fun g => ?_) (fun g => ?_)
    · have hr : supR f ws = .nil := by unfold supR; rw [if_pos g]
      rw [hr] at hsl6
      have : n1 = 0 := hsl6.1
      exact br_split (fun _ => aw _ E6 h) (fun hh => absurd (by omega) hh)
    have h0 := Decidable.not_not.1 g
    have hr : supR f ws = mergeF (supG ws f 0 true).1 := by unfold supR; rw [if_neg g]
    rw [hr] at hsl6
    have heu : errU f = 0 := by unfold supE at h0; by_cases q : errU f = 0; exact q; rw [if_pos q] at h0; exact absurd h0 q
    have hok : (supG ws f 0 true).2.2 = true := by
      unfold supE at h0
      rw [if_neg (by simp [heu])] at h0
      cases hq : (supG ws f 0 true).2.2 with
      | true => rfl
      | false => rw [if_pos hq] at h0; cases h0
    have hcnt : ((supG ws f 0 true).2.1 : Int) = ws.length := by
      unfold supE at h0
      rw [if_neg (by simp [heu]), if_neg (by simp [hok])] at h0
      apply Classical.byContradiction
      intro hq
      rw [if_pos hq] at h0; cases h0
    have hcm : checkT (mergeF (supG ws f 0 true).1) = 0 := by
      unfold supE at h0
      rw [if_neg (by simp [heu]), if_neg (by simp [hok]), if_neg (by simp [hcnt])] at h0
      exact h0
    obtain ⟨hcf, hclean⟩ := errU_zero heu
    obtain ⟨q1, q2, q3⟩ := check_zero hcf
    obtain ⟨m1, m2, m3⟩ := check_zero hcm
    have htx : txF (supG ws f 0 true).1 := supG_tx ws f 0 true (good_tx f q2)
    obtain ⟨_, hlen, hfit, hcut⟩ := sup_sub ws f 0 true q2 (no_und_all f _ _ (check_all hcf)) hok
    rw [Nat.sub_zero, List.drop_zero, List.take_of_length_le (by omega)] at hcut
    have hpm : patF (mergeF (supG ws f 0 true).1) = patF (supG ws f 0 true).1 := by rw [mergeF_eq, patF_merge _ htx]
    rw [← hpm] at hlen hfit hcut
    have h6 : allK (fun k => decide (k ≠ 6)) (mergeF (supG ws f 0 true).1) = true := by
      rw [mergeF_eq]
      refine allK_merge (by decide) _ (supG_kinds (by decide) ws f 0 true ?_)
      have : ∀ f : Fo, allK (fun k => decide (k = 6) || decide (k ≠ 6)) f = true := by
        intro f
        induction f with
        | nil => rfl
        | cons k t n ps r i1 i2 => rw [allK, i1, i2]; simp
      exact this f
    obtain ⟨hlo, hpc⟩ := lost_none _ h6
    have hclm : cleanF (mergeF (supG ws f 0 true).1) = true := by
      rw [cleanF_all, mergeF_eq]
      refine allK_merge (by decide) _ (supG_kinds (by decide) ws f 0 true ?_)
      rw [cleanF_all] at hclean
      have : ∀ f : Fo, allK (fun k => !(decide (k = 8) || decide (k = 9))) f = true → allK (fun k => decide (k = 6) || !(decide (k = 8) || decide (k = 9))) f = true := by
        intro f
        induction f with
        | nil => exact fun _ => rfl
        | cons k t n ps r i1 i2 =>
          intro hh
          rw [allK, Bool.and_eq_true, Bool.and_eq_true] at hh
          rw [allK, i1 hh.2.1, i2 hh.2.2, hh.1]; simp
      exact this f hclean
    generalize hM : mergeF (supG ws f 0 true).1 = M at *
    have heM : errU M = 0 := by unfold errU; rw [if_neg (by simp [hcm]), if_pos hclm]
    have hpr : (printF M).length ≤ 65536 := by
      unfold checkT at hcm
      split at hcm
      · split at hcm
        · rename_i hh; exact absurd hcm hh
        · split at hcm
          · cases hcm
          · omega
      · cases hcm
    have hplM : (patF M).length ≤ 65536 := by have := chars_print M m2; rw [← hpc] at this; omega
    have pE1 : patE f = 0 := by unfold patE; rw [if_neg (by simp [heu]), if_neg (by omega)]
    have pE2 : patE M = 0 := by unfold patE; rw [if_neg (by simp [heM]), if_neg (by omega)]
    have pS1 : patS f = patF f := by unfold patS; rw [if_neg (by simp [pE1])]
    have pS2 : patS M = patF M := by unfold patS; rw [if_neg (by simp [pE2])]
    have hsM : small M := by unfold small; omega
    refine Pattern_spec f hs (hF.ext E6) (hf0.ext E6) fun w13 e13 => ⟨_, _, rfl, ?_⟩
    have E13 := ext_trans E6 e13
    refine Pattern_spec M hsM (hF.ext E13) (hsl6.ext e13) fun w17 e17 => ⟨_, _, rfl, ?_⟩
    have E17 := ext_trans E13 e17
    refine Lost_spec M hsM (hF.ext E17) (hsl6.ext (ext_trans e13 e17)) fun w21 e21 => ⟨_, _, rfl, ?_⟩
    have E21 := ext_trans E17 e21
    refine Fits_spec _ _ fun w25 e25 => ⟨_, _, rfl, ?_⟩
    have E25 := ext_trans E21 e25
    rw [pS1, pS2, pE1, pE2, heM]
    have fE : fitE (patF f) (patF M) = 0 := by unfold fitE; rw [if_neg (by omega)]
    have fR : fitR (patF f) (patF M) = true := by unfold fitR; rw [fE, fitB_of hfit]; rfl
    have lR : losR M = 0 := by unfold losR; rw [if_neg (by simp [heM]), hlo]
    rw [fE, fR, lR]
    intro K28 hK28
    have k28 : ∀ W, Ext w W → K28 W := by
      intro W hx
      refine hK28 _ fun _ => ?_
      generalize hP : patF f = P at *
      generalize hQ : patF M = Q at *
      refine ⟨fun cut i W m => ∃ k : Nat, i = k ∧ k ≤ P.length ∧ m = P.length - k ∧ cut = cutF (P.take k) (Q.take k) ∧ Ext w W, ⟨_, 0, rfl, by omega, rfl, by simp [cutF], hx⟩, ?_⟩
      rintro _ _ W2 m ⟨k, rfl, hk, rfl, rfl, he2⟩ _
      refine br_split (fun hlt => ?_) (fun hge => ?_)
      · have hkP : k < P.length := by omega
        have hkQ : k < Q.length := by omega
        have hst : cutF (P.take (k + 1)) (Q.take (k + 1)) = cutF (P.take k) (Q.take k) ++ if P[k] = 95 then [Q[k]] else [] := by
          rw [take_snoc hkP, take_snoc hkQ, cutF_app _ _ (by rw [List.length_take, List.length_take]; omega)]
          rfl
        have hcl : (cutF (P.take k) (Q.take k)).length ≤ 65536 := by
          have : ∀ p s : List UInt8, (cutF p s).length ≤ p.length := by
            intro p
            induction p with
            | nil => intro s; simp [cutF]
            | cons x p ih =>
              intro s
              cases s with
              | nil => simp [cutF]
              | cons y s =>
                rw [cutF]
                have := ih s
                split <;> simp <;> omega
          have := this (P.take k) (Q.take k)
          rw [List.length_take] at this
          omega
        refine sidx_nat hkP (br_split (fun g1 => ?_) (fun g1 => ?_))
        · have hp95 : P[k] = 95 := (u8_int P[k] 95).1 g1
          rw [wrap_nat (by omega)]
          refine ssl_nat (by omega) (by omega) ?_
          have hsub : (Q.take (k + 1)).drop k = [Q[k]] := by rw [take_snoc hkQ, List.drop_left' (by rw [List.length_take]; omega)]
          rw [hsub]
          refine ⟨by simp; omega, P.length - (k + 1), by omega, k + 1, rfl, by omega, rfl, ?_, he2⟩
          rw [hst, if_pos hp95]
        · refine ⟨P.length - (k + 1), by omega, k + 1, by rw [wrap_nat (by omega)], by omega, rfl, ?_, he2⟩
          rw [hst, if_neg (fun hh => g1 ((u8_int P[k] 95).2 hh)), List.append_nil]
      · have hkk : k = P.length := by omega
        rw [hkk, List.take_length, List.take_of_length_le (by omega)]
        refine JoinE_spec (hW.ext he2) hcw (by omega) (by have := flatten_len h70; omega) fun w42 e42 => ⟨_, rfl, ?_⟩
        rw [hcut]
        simp only [decide_true, br_t]
        exact aw _ (ext_trans he2 e42) h
    refine br_split (fun hh => absurd rfl hh) (fun _ => br_split (fun hh => absurd rfl hh) (fun _ => ?_))
    simp only [Bool.not_true, br_f]
    refine Check22_spec M hsM (hsl6.ext (ext_trans (ext_trans (ext_trans e13 e17) e21) e25)) (hF.ext E25) fun w48 e48 => ⟨_, rfl, ?_⟩
    rw [hcm]
    exact br_split (fun hh => absurd rfl hh) (fun _ => k28 _ (ext_trans E25 e48))
  refine Great_spec hf0 fun w51 e51 => ⟨_, rfl, br_cases (fun _ => aw _ e51 h) (fun hgr => ?_)⟩
  refine br_split (fun _ => aw _ e51 h) (fun g8 => ?_)
  refine ContainsFuncS_spec (q := fun s => decide ((70 : Int) < (s.length : Int))) (J := fun _ => True) (hW.ext e51) (by omega) ?_ trivial (fun _ _ _ _ => trivial) fun w60 e60 => ⟨_, rfl, br_cases (fun _ => aw _ (ext_trans e51 e60) h) (fun ga => ?_)⟩
  · intro s hs W K _ hK
    refine ⟨by kernel_rfl, ?_⟩
    exact c_law12_LegibilitySupplies_1 (hK _ (Below.refl _ _))
  · refine k3 _ (ext_trans e51 e60) hgr (by omega) fun s hs => ?_
    have := List.any_eq_false.1 ga s hs
    simp at this
    omega
end Go.Proofs
namespace Go.Proofs
open Go Go.Sh Go.RowKit

/- slices of strings and of pairs, out of what a row says of the arguments -/
theorem row_build {α : Type} {E : Enc α} {w : World} {a : Addr} {len : Nat} (hel : ∀ i, i < len → ∃ x : α, ∀ j v, (E.enc x)[j]? = some v → w.cell? ((a.add (i * E.size)).add j) = some v) :
    ∃ L : List α, RowAt E (fun _ => True) w (some a) len L := by
  by_cases hl0 : len = 0
  · subst hl0; exact ⟨[], RowAt.nil _⟩
  obtain ⟨b, o, rfl⟩ : ∃ b o, a = ⟨b, o, none⟩ := by
    obtain ⟨x, hx⟩ := hel 0 (by omega)
    have hp := E.pos
    have h0 := hx 0 _ (List.getElem?_eq_getElem (by rw [E.len]; exact hp))
    obtain ⟨b, o, spot⟩ := a
    have hspot : spot = none := by simpa [Addr.add] using World.cell?_spot h0
    subst hspot
    exact ⟨b, o, rfl⟩
  have build : ∀ k, k ≤ len → ∃ L : List α, L.length = k ∧ ∀ j v, (E.row L)[j]? = some v → w.cell? ((⟨b, o, none⟩ : Addr).add j) = some v := by
    intro k
    induction k with
    | zero => exact fun _ => ⟨[], rfl, fun j v hj => by simp at hj⟩
    | succ k ihk =>
      intro hk
      obtain ⟨L, hL, hus⟩ := ihk (by omega)
      obtain ⟨x, hx⟩ := hel k (by omega)
      refine ⟨L ++ [x], by simp [hL], fun j v hj => ?_⟩
      rw [row_snoc] at hj
      by_cases hlt : j < (E.row L).length
      · rw [List.getElem?_append_left hlt] at hj
        exact hus j v hj
      · rw [List.getElem?_append_right (by omega)] at hj
        have := hx _ _ hj
        rw [add_none, add_none] at this
        rw [row_len, hL] at this hlt
        rw [add_none, show o + j = o + k * E.size + (j - k * E.size) by omega]
        exact this
  obtain ⟨L, hL, hus⟩ := build len (Nat.le_refl _)
  refine ⟨L, hL.symm, ?_⟩
  cases hr : E.row L with
  | nil => exact .inl rfl
  | cons u us =>
    rw [hr] at hus
    have h0 := hus 0 u rfl
    refine .inr ⟨b, o, rfl, trivial, ?_, fun j v hj => ?_⟩
    · have := World.block_lt_of_cell? w _ h0
      simpa [Addr.add] using this
    · have := hus j v hj
      rw [add_none] at this; exact this
set_option maxRecDepth 20000 in
theorem open_strs {H : Type} {enc : TypeId × Value → H} {w : World} {base : Nat} {sp : Nat → Bool} {hd : Bool} (fuel : Nat) (cs : List Value) (x : DataW H × List MemPlace) (h : DataW.trod enc Tryd.prog w base sp hd fuel 38 cs = some x) :
    ∃ (a : Option Addr) (n c : Nat) (L : List (List UInt8)), cs = [.slice a n c] ∧ RowAt encStr (fun _ => True) w a n L ∧ n ≤ c := by
  rcases DataW.trod_slice Tryd.underlying38 h with ⟨rfl, _⟩ | ⟨a, len, cap, elems, rest, n, rfl, rfl, _, hb, hl, hm, hel, hall, _⟩
  · exact ⟨none, 0, 0, [], rfl, RowAt.nil _, Nat.le_refl _⟩
  have h9 : Tryd.prog.cellsOf 9 = 1 := by kernel_rfl
  obtain ⟨L, hL⟩ := row_build (E := encStr) (w := w) (a := a) (len := len) fun i hi => by
    have hh := hall i hi
    rw [List.getElem?_eq_getElem (by omega)] at hh
    obtain ⟨cs', hc1, hc2⟩ := Option.bind_eq_some_iff.1 hh
    rw [h9] at hc1
    obtain ⟨_, hlen, hcell⟩ := World.cells?_some hc1
    obtain ⟨t, e0, _, _⟩ := DataW.trod_string Tryd.underlying9 hc2
    subst e0
    refine ⟨t.data.toList, fun j v hj => ?_⟩
    have hj1 : j < 1 := (List.getElem?_eq_some_iff.1 hj).1
    rw [show i * encStr.size = i * 1 from rfl, hcell j hj1]
    exact hj
  exact ⟨some a, len, cap, L, rfl, hL, by omega⟩
theorem len2 {α : Type} {l : List α} (h : l.length = 2) : ∃ a b, l = [a, b] := by
  match l, h with
  | [a, b], _ => exact ⟨a, b, rfl⟩
set_option maxRecDepth 20000 in
theorem open_rws {H : Type} {enc : TypeId × Value → H} {w : World} {base : Nat} {sp : Nat → Bool} {hd : Bool} (fuel : Nat) (cs : List Value) (x : DataW H × List MemPlace) (h : DataW.trod enc Tryd.prog w base sp hd fuel 32 cs = some x) :
    ∃ (a : Option Addr) (n c : Nat) (L : List Rw), cs = [.slice a n c] ∧ RowAt encR (fun _ => True) w a n L := by
  rcases DataW.trod_slice Tryd.underlying32 h with ⟨rfl, _⟩ | ⟨a, len, cap, elems, rest, n, rfl, rfl, _, hb, hl, hm, hel, hall, _⟩
  · exact ⟨none, 0, 0, [], rfl, RowAt.nil _⟩
  have h9 : Tryd.prog.cellsOf 9 = 1 := by kernel_rfl
  have h2 : Tryd.prog.cellsOf 42 = 2 := by kernel_rfl
  obtain ⟨L, hL⟩ := row_build (E := encR) (w := w) (a := a) (len := len) fun i hi => by
    have hh := hall i hi
    rw [List.getElem?_eq_getElem (by omega)] at hh
    obtain ⟨cs', hc1, hc2⟩ := Option.bind_eq_some_iff.1 hh
    rw [h2] at hc1
    obtain ⟨_, hlen, hcell⟩ := World.cells?_some hc1
    obtain ⟨xs, n', rfl, _, hcl, hxl, hf⟩ := DataW.trod_struct Tryd.underlying42 hc2
    obtain ⟨v0, v1, rfl⟩ := len2 hlen
    obtain ⟨y0, y1, rfl⟩ := len2 (show xs.length = 2 from hxl)
    have g0 := hf 0 _ rfl
    have g1 := hf 1 _ rfl
    try dsimp only at g0
    try simp only [h9] at g0
    try dsimp only at g1
    try simp only [h9] at g1
    obtain ⟨t, e0, _, _⟩ := DataW.trod_string Tryd.underlying9 g0
    obtain ⟨u, e1, _, _⟩ := DataW.trod_string Tryd.underlying9 g1
    simp [h9] at e0 e1
    subst e0 e1
    refine ⟨(t.data.toList, u.data.toList), fun j v hj => ?_⟩
    have hj2 : j < 2 := (List.getElem?_eq_some_iff.1 hj).1
    rw [show i * encR.size = i * 2 from rfl, hcell j hj2]
    exact hj
  exact ⟨some a, len, cap, L, rfl, hL⟩
end Go.Proofs
