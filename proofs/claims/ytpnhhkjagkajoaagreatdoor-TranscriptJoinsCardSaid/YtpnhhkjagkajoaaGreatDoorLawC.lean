/- The contracts of the functions that the law reaches, one after the other, and at the end the law's card. -/
import Derived.Test.YtpnhhkjagkajoaaGreatDoorLawB
import Derived.Lib.OthersKept
import Derived.Deep.LoopGhost
import Derived.Laws.RangeAny
import Derived.Lib.SmallJoins
import Derived.Lib.AppendZerosOnto
namespace Go.Proofs
open Go Go.Sh Go.RowKit Go.Lib

theorem noany_span {s : ByteArray} {i n : Nat} (h : Lib.NoAny s.data.toList [32, 47] i) (hn : i + n ≤ s.size) (hs : ∀ k, k < n → 128 ≤ (s.get! (i + k)).toNat) : Lib.NoAny s.data.toList [32, 47] (i + n) := by
  intro j b hj hb
  by_cases hji : j < i
  · exact h j b hji hb
  · have hk := hs (j - i) (by omega)
    have hjs : j < s.size := by omega
    have e : s.get! (i + (j - i)) = b := by
      rw [show i + (j - i) = j by omega]
      have h1 := Lib.data_getElem? s j hjs
      rw [h1] at hb
      rw [← Option.some.inj hb]
      have := get_at s j hjs
      rwa [Nat.add_zero] at this
    rw [e] at hk
    have h1 : b ≠ 32 := by rintro rfl; exact absurd hk (by decide)
    have h2 : b ≠ 47 := by rintro rfl; exact absurd hk (by decide)
    simp [h1, h2]
set_option maxHeartbeats 8000000 in
set_option maxRecDepth 1000000 in
theorem IndexAny_short (s : ByteArray) (w : World) (h8 : s.size ≤ 8) :
    Calls Tryz.prog 90 #[.string s, .string ⟨#[32, 47]⟩] w fun e w' => e = .returned (.int .i64 (Lib.indexAny s.data.toList [32, 47])) ∧ Below w.heap.size w w' := by
  have h8z : decide ((8 : Int) < (s.size : Int)) = false := decide_eq_false (by omega)
  go_enter Tryz.func90, Tryz.ntmps90
  go_wp2_with (go_at_call 118; refine (Tryz.strings_shouldUseASCIISet _ _).mono ?_; rintro e w' ⟨rfl, hw⟩; rw [hw, h8z])
  subst hw
  go_loopg [9, 10] s.size (fun gf _ _ wx => ∃ pos : Nat, wx.heap[w'.heap.size]? = some (.stringIter s pos) ∧ Below w'.heap.size w' wx ∧ Aside (Lib.NoAny s.data.toList [32, 47] pos ∧ pos ≤ s.size) ∧ s.size ≤ pos + gf)
  case atStart => exact ⟨0, World.iter_heap w' s 0, (Below.refl _ w').alloc (Nat.le_refl _) _, ⟨Lib.NoAny.zero _ _, Nat.zero_le _⟩, by omega⟩
  case round =>
    obtain ⟨pos, hit, hbw, HN, hfu⟩ := hrel
    by_cases hps : pos < s.size
    · obtain ⟨g', rfl⟩ : ∃ g', gk = g' + 1 := ⟨gk - 1, by omega⟩
      have hnx : ∀ ty, (Instr.next (.pointer (some ⟨w'.heap.size, 0, none⟩)) true ty).run Tryz.prog wr = _ := fun ty => Lib.run_next_any_at wr w'.heap.size s pos ty hit hps
      have hle := decode_le s pos
      have HA : Aside ((s[pos]'hps).toNat < 128 → Utf8.decode s pos = ((s[pos]'hps).toNat, 1)) := decode_ascii s pos hps
      have HB : Aside (128 ≤ (s[pos]'hps).toNat → 128 ≤ (Utf8.decode s pos).1 ∧ ∃ n, (Utf8.decode s pos).2 = n ∧ 1 ≤ n ∧ pos + n ≤ s.size ∧ ∀ k, k < n → 128 ≤ (s.get! (pos + k)).toNat) := fun ha => ⟨(decode_high s pos hps ha).1, decode_span s pos hps ha⟩
      obtain ⟨R, hR⟩ : ∃ R, (Utf8.decode s pos).1 = R := ⟨_, rfl⟩
      obtain ⟨K, hK⟩ : ∃ K, (Utf8.decode s pos).2 = K := ⟨_, rfl⟩
      rw [hR, hK] at hnx
      rw [hR] at hle
      have hit2 := Lib.iterAt_heap wr w'.heap.size s pos (pos + K) hit
      have hbw2 := Lib.below_iterAt hbw (k := w'.heap.size) (Nat.le_refl _) s (pos + K)
      obtain ⟨W, hWd⟩ : ∃ W, wr.iterAt w'.heap.size s (pos + K) = W := ⟨_, rfl⟩
      rw [hWd] at hnx hit2 hbw2
      have hltW : w'.heap.size < W.heap.size := (Array.getElem?_eq_some_iff.1 hit2).1
      obtain ⟨x, hx⟩ : ∃ x : UInt8, s[pos]'hps = x := ⟨_, rfl⟩
      have Hx : Aside (s.data.toList[pos]? = some x) := by rw [← hx]; exact Lib.data_getElem? s pos hps
      by_cases hx128 : x.toNat < 128
      · have hd := HA.out (by rw [hx]; exact hx128)
        rw [hx] at hd
        obtain rfl : x.toNat = R := by rw [← hR, hd]
        obtain rfl : 1 = K := by rw [← hK, hd]
        clear HA HB hR hK hx hWd
        have hcon := Lib.contains_iff_indexByte [32, 47] x
        have hback : ((x.toNat : Int)).toNat.toUInt8 = x := by simp
        have c0 : Calls Tryz.prog 117 #[.string ⟨#[32, 47]⟩, .int .i32 (x.toNat : Int)] W fun e w' => e = .returned (.int .i64 (Lib.indexByte [32, 47] x)) ∧ w' = W := by
          refine (Tryz.strings_IndexRune_ascii ⟨#[32, 47]⟩ _ W (by omega) (by omega)).mono ?_
          rintro e w' ⟨rfl, hw⟩
          rw [hback]; exact ⟨rfl, hw⟩
        cases hin : ([32, 47] : List UInt8).contains x
        · rw [hin] at hcon
          have hlt : ¬ ((0 : Int) ≤ Lib.indexByte [32, 47] x) := of_decide_eq_false hcon.symm
          have HS : Aside (Lib.NoAny s.data.toList [32, 47] (pos + 1)) := HN.out.1.succ Hx.out hin
          clear hcon hin
          generalize Lib.indexByte [32, 47] x = q at c0 hlt
          go_wp2_with (go_at_call 117; refine c0.mono ?_; rintro e W' ⟨rfl, hbc⟩; rw [hbc])
          go_roundg g'
          case measure => omega
          case rel => exact ⟨pos + 1, hit2, hbw2, ⟨HS.out, by omega⟩, by omega⟩
        · rw [hin] at hcon
          have hge : (0 : Int) ≤ Lib.indexByte [32, 47] x := of_decide_eq_true hcon.symm
          have HS : Aside (Lib.indexAny s.data.toList [32, 47] = pos) := Lib.indexAny_hit HN.out.1 Hx.out hin
          clear hcon hin
          generalize Lib.indexByte [32, 47] x = q at c0 hge
          go_wp2_with (go_at_call 117; refine c0.mono ?_; rintro e W' ⟨rfl, hbc⟩; rw [hbc])
          go_ret
          exact ⟨by rw [HS.out]; rfl, hbw2⟩
      · obtain ⟨h128, n, hn, hn1, hn2, hn3⟩ := HB.out (by rw [hx]; omega)
        rw [hR] at h128
        rw [hK] at hn
        subst hn
        have HS : Aside (Lib.NoAny s.data.toList [32, 47] (pos + K)) := noany_span HN.out.1 hn2 hn3
        clear HA HB hR hK hx hWd hn3
        have c0 := IndexRune_any (R : Int) W (by omega) (by omega)
        go_wp2_with (go_at_call 117; refine c0.mono ?_; rintro e W' ⟨rfl, hbc⟩)
        go_roundg g'
        case measure => omega
        case rel => exact ⟨pos + K, (hbc.block _ hltW).trans hit2, hbw2.trans (hbc.mono hbw2.size), ⟨HS.out, hn2⟩, by omega⟩
    · have hnx : ∀ ty, (Instr.next (.pointer (some ⟨w'.heap.size, 0, none⟩)) true ty).run Tryz.prog wr = _ := fun ty => Lib.run_next_end_at wr w'.heap.size s pos ty hit hps
      go_wp2
      go_ret
      refine ⟨?_, hbw⟩
      obtain ⟨h1, h2⟩ := HN.out
      have hp : pos = s.data.toList.length := by rw [← Lib.size_eq]; omega
      rw [hp] at h1
      rw [Lib.indexAny_none h1]; rfl
theorem IndexAny_spec {R : Ending → World → Prop} {w : World} (s : List UInt8) (hs : s.length ≤ 4000000000) (h : ∀ w', Ext w w' → R (.returned (.int .i64 (Lib.indexAny s [32, 47]))) w') :
    Calls Tryz.prog F_strings_IndexAny ⟨[.string ⟨⟨s⟩⟩, .string ⟨⟨[32, 47]⟩⟩]⟩ w R := by
  have hz : (⟨⟨s⟩⟩ : ByteArray).size = s.length := rfl
  by_cases h8 : s.length ≤ 8
  · refine (IndexAny_short ⟨⟨s⟩⟩ w (by rw [hz]; exact h8)).mono ?_
    rintro e w' ⟨rfl, hb⟩
    exact h w' hb
  · refine (Tryz.strings_IndexAny_long (fun w => (Tryz.zeroValue130 w).trans (by rw [show Tryz.zeroCells130 = Array.replicate 256 (.bool false) by kernel_rfl])) ⟨⟨s⟩⟩ ⟨⟨[32, 47]⟩⟩ w (by decide) (by rw [hz]; omega) (by rw [hz]; omega) (by decide) ?_).mono ?_
    · intro j b hb
      have : b ∈ ([32, 47] : List UInt8) := List.mem_of_getElem? hb
      simp only [List.mem_cons, List.not_mem_nil, or_false] at this
      rcases this with rfl | rfl <;> decide
    · rintro e w' ⟨rfl, rfl⟩
      exact h _ (((Below.refl _ _).alloc (Nat.le_refl _) _).alloc (((Below.refl w.heap.size w).alloc (Nat.le_refl _) _).size) _)
end Go.Proofs
namespace Go.Proofs
open Go Go.Sh Go.RowKit

def tagsL : List (List UInt8) := [[], [], [108, 98], [112, 98], [115, 101, 99], [118], [103, 97, 112], [117, 110, 99, 108, 101, 97, 114], [97, 100, 100], [100, 101, 108], [97, 98], [110, 97, 109, 101]]
def tagF (k : Int) : List UInt8 := tagsL.getD k.toNat []
theorem kind_cases {k : Int} (h1 : 1 ≤ k) (h2 : k ≤ 11) : k = 1 ∨ k = 2 ∨ k = 3 ∨ k = 4 ∨ k = 5 ∨ k = 6 ∨ k = 7 ∨ k = 8 ∨ k = 9 ∨ k = 10 ∨ k = 11 := by omega
theorem tagF_len {k : Int} (h1 : 1 ≤ k) (h2 : k ≤ 11) : (tagF k).length ≤ 7 := by
  rcases kind_cases h1 h2 with rfl | rfl | rfl | rfl | rfl | rfl | rfl | rfl | rfl | rfl | rfl <;> decide
def valF (k : Int) (t : List UInt8) (n : Int) : List UInt8 := if textsF k then 32 :: t else if numsF k then 32 :: Lib.decDigits n.toNat else []
def nodeF (k : Int) (t : List UInt8) (n : Int) (inner : List UInt8) : List UInt8 :=
  if k = 1 then t else if partsF k then [60] ++ tagF k ++ valF k t n ++ [62] ++ inner ++ [60, 47] ++ tagF k ++ [62] else [60] ++ tagF k ++ valF k t n ++ [47, 62]
def printF : Fo → List UInt8
  | .nil => []
  | .cons k t n ps r => nodeF k t n (printF ps) ++ printF r
theorem printF_app (f g : Fo) : printF (f.app g) = printF f ++ printF g := by
  induction f with
  | nil => rfl
  | cons k t n ps r _ ih => simp only [Fo.cons_app, printF, ih, List.append_assoc]

/- nodes whose fields stand right -/
def nodeOk (k : Int) (t : List UInt8) (n : Int) (ps : Fo) : Prop := 1 ≤ k ∧ k ≤ 11 ∧ (numsF k = true → 0 ≤ n ∧ n < 100) ∧ t.length ≤ 65536 ∧ (partsF k = false → ps.len = 0) ∧ (partsF k = true → 0 < ps.len)
def good : Fo → Prop
  | .nil => True
  | .cons k t n ps r => nodeOk k t n ps ∧ good ps ∧ good r
theorem good_app {f g : Fo} : good (f.app g) ↔ good f ∧ good g := by
  induction f with
  | nil => simp [good]
  | cons k t n ps r _ ih => simp only [Fo.cons_app, good, ih, and_assoc]
theorem decDigits_len : ∀ n : Nat, n < 100 → (Lib.decDigits n).length ≤ 2 := by decide +kernel
theorem valF_len {k : Int} {t : List UInt8} {n : Int} {ps : Fo} (h : nodeOk k t n ps) : (valF k t n).length ≤ 65537 := by
  unfold valF
  split
  · have := h.2.2.2.1; simp; omega
  · split
    · rename_i h1 h2
      have := h.2.2.1 h2
      have := decDigits_len n.toNat (by omega)
      simp; omega
    · simp
theorem printF_len : ∀ (f : Fo), good f → (printF f).length ≤ 65600 * f.size
  | .nil, _ => by simp [printF, Fo.size]
  | .cons k t n ps r, h => by
    have h1 := printF_len ps h.2.1
    have h2 := printF_len r h.2.2
    have h3 := tagF_len h.1.1 h.1.2.1
    have h4 := valF_len h.1
    have h5 := h.1.2.2.2.1
    simp only [printF, Fo.size, List.length_append, nodeF]
    split
    · omega
    · split <;> simp only [List.length_append, List.length_cons, List.length_nil] <;> omega

def allF : Fo → Bool → Bool → Int
  | .nil, _, _ => 0
  | .cons k t n ps r, before, within => if singleF k t n ps before within ≠ 0 then singleF k t n ps before within else if allF ps false true ≠ 0 then allF ps false true else allF r (decide (k = 1)) within
theorem single_ok {k : Int} {t : List UInt8} {n : Int} {ps : Fo} {before within : Bool} (h : singleF k t n ps before within = 0) : nodeOk k t n ps := by
  unfold singleF at h
  split at h
  · cases h
  rename_i h1
  split at h
  · cases h
  rename_i h2
  have hk1 : 1 ≤ k := by omega
  have hk2 : k ≤ 11 := by omega
  have hp : partsF k = false → ps.len = 0 := fun hp => by
    apply Classical.byContradiction; intro hne
    exact h1 (.inr (.inr (.inr (.inr ⟨by omega, hp⟩))))
  have hp2 : partsF k = true → 0 < ps.len := fun hp => by
    apply Classical.byContradiction; intro hne
    exact h2 (.inr ⟨hp, by omega⟩)
  have htx : textsF k = false → t = [] := fun hp => by
    apply Classical.byContradiction; intro hne
    exact h1 (.inr (.inr (.inl ⟨hne, hp⟩)))
  have ht : t.length ≤ 65536 := by
    by_cases hb : textsF k = true
    · have hb' : k = 1 ∨ k = 3 ∨ k = 4 ∨ k = 10 ∨ k = 11 := by simpa [textsF] using hb
      have nm : isNameF t = true → t.length ≤ 65536 := fun h => by unfold isNameF at h; simp at h; omega
      rcases hb' with rfl | rfl | rfl | rfl | rfl
      · simp only [if_true] at h
        split at h
        · cases h
        · rename_i hc
          apply Classical.byContradiction; intro hne
          exact hc (by unfold checkC; rw [if_pos (by omega)]; decide)
      · simp at h; exact nm h
      · simp at h; exact nm (by cases hc : isNameF t with | true => rfl | false => rw [hc] at h; simp at h)
      · simp at h; unfold isWordF at h; simp at h; omega
      · simp at h; exact nm h
    · rw [htx (by simpa using hb)]; simp
  refine ⟨hk1, hk2, fun hn => ?_, ht, hp, hp2⟩
  have hn' : k = 6 ∨ k = 8 ∨ k = 9 := by simpa [numsF] using hn
  rcases hn' with rfl | rfl | rfl
  · simp at h; omega
  · simp at h; omega
  · simp at h; omega
theorem all_good : ∀ (f : Fo) (before within : Bool), allF f before within = 0 → good f
  | .nil, _, _, _ => trivial
  | .cons k t n ps r, before, within, h => by
    rw [allF] at h
    split at h
    · rename_i h1; exact absurd h h1
    rename_i h1
    split at h
    · rename_i h2; exact absurd h h2
    rename_i h2
    exact ⟨single_ok (Decidable.not_not.1 h1), all_good ps _ _ (Decidable.not_not.1 h2), all_good r _ _ h⟩
end Go.Proofs
namespace Go.Proofs
open Go Go.Sh Go.RowKit

/- what the library reads of the world: the variables of strings.Cut and strconv.Atoi -/
def Mk (w : World) : Prop := (∃ m, w.cell? ⟨G_internal_bytealg_MaxLen, 0, none⟩ = some (.int .i64 m)) ∧ (∃ t p, w.cell? ⟨G_strconv_ErrSyntax, 0, none⟩ = some (.iface t p)) ∧ (∃ t p, w.cell? ⟨G_strconv_ErrRange, 0, none⟩ = some (.iface t p))
theorem cell_ext {w w' : World} {a : Addr} {v : Value} (h : w.cell? a = some v) (he : Ext w w') : w'.cell? a = some v := by
  rw [he.cell (World.block_lt_of_cell? w _ h)]; exact h
theorem Mk.ext {w w' : World} (h : Mk w) (he : Ext w w') : Mk w' := by
  obtain ⟨⟨m, h1⟩, ⟨t, p, h2⟩, ⟨t', p', h3⟩⟩ := h
  exact ⟨⟨m, cell_ext h1 he⟩, ⟨t, p, cell_ext h2 he⟩, ⟨t', p', cell_ext h3 he⟩⟩

theorem ifc_nil {K : Bool → Prop} (h : K true) : ifc .nilIface K := h
theorem ifc_some {K : Bool → Prop} {t : TypeId} {v : Value} (h : K false) : ifc (.iface t v) K := h
variable {R : Ending → World → Prop} {w : World}
theorem number1_spec (s : List UInt8) (hs : s.length ≤ 1000000000000) (b most : Nat) (hm : most ≤ 64) (hb : w.cell? ⟨b, 0, none⟩ = some (.int .i64 most)) (hM : Mk w)
    (h : ∀ w', Ext w w' → R (.returned (.bool (numV most s))) w') : Calls Tryz.prog F_markup_number_1 ⟨[.string ⟨⟨s⟩⟩, .pointer (some ⟨b, 0, none⟩)]⟩ w R := by
  apply c_markup_number_1
  have hz : (⟨⟨s⟩⟩ : ByteArray).size = s.length := rfl
  obtain ⟨_, ⟨t, p, h2⟩, ⟨t', p', h3⟩⟩ := hM
  have bad : (∀ v, Lib.atoiAll s ≠ .ok v) → ∀ w', Ext w w' → R (.returned (.bool false)) w' := by
    intro hv w' he
    have : numV most s = false := by
      rw [Bool.eq_false_iff]
      intro hn
      obtain ⟨n, ha, _⟩ := (numV_iff hm s).1 hn
      exact hv _ ha
    rw [← this]; exact h w' he
  cases ha : Lib.atoiAll s
  · rename_i v
    refine (Tryz.strconv_Atoi_ok ⟨⟨s⟩⟩ (by rw [hz]; omega) v ha w).mono ?_
    rintro e w4 ⟨rfl, hw⟩
    have he : Ext w w4 := by
      rcases hw with rfl | ⟨t, rfl⟩
      · exact Below.refl _ _
      · exact Joins.below_bytesWorld _ _ _ _ (Nat.le_refl _)
    refine ⟨v, .nilIface, rfl, ?_⟩
    have no : (∀ n : Nat, v = n → 1 ≤ n → n ≤ most → Lib.decDigits n ≠ s) → R (.returned (.bool false)) w4 := by
      intro hn
      have : numV most s = false := by
        rw [Bool.eq_false_iff]
        intro hh
        obtain ⟨n, ha', h1, h2, h3⟩ := (numV_iff hm s).1 hh
        rw [ha] at ha'
        injection ha' with ha'
        exact hn n ha' h1 h2 h3
      rw [← this]; exact h w4 he
    refine ifc_nil ?_
    simp only [br_t]
    refine br_split (fun g => dr_ok ⟨_, cell_ext hb he, br_split (fun g2 => ?_) (fun g2 => ?_)⟩) (fun g => ?_)
    · obtain ⟨n, rfl⟩ : ∃ n : Nat, v = n := ⟨v.toNat, by omega⟩
      refine (Tryz.strconv_Itoa_small n (by omega) w4).mono ?_
      rintro _ _ ⟨rfl, rfl⟩
      refine ⟨_, rfl, ?_⟩
      have e : decide (Lib.decDigits n = s) = numV most s := by
        rw [Bool.eq_iff_iff, numV_iff hm, decide_eq_true_eq]
        constructor
        · intro hd; exact ⟨n, ha, by omega, by omega, hd⟩
        · rintro ⟨k, ha', _, _, hd⟩
          rw [ha] at ha'
          injection ha' with ha'
          have : n = k := by omega
          rw [this]; exact hd
      show R (.returned (.bool (decide (Lib.decDigits n = s)))) _
      rw [e]; exact h _ he
    · exact no fun n hn _ h2 => by omega
    · exact no fun n hn h1 _ => by omega
  · refine (Tryz.strconv_Atoi_syntax ⟨⟨s⟩⟩ (by rw [hz]; omega) ha _ w h2 (.inr ⟨_, _, rfl⟩)).mono ?_
    rintro e w4 ⟨N, rfl, _, _, he⟩
    refine ⟨_, _, rfl, ?_⟩
    refine ifc_some ?_
    simp only [br_f]
    exact bad (fun v hv => by rw [ha] at hv; cases hv) w4 he
  · refine (Tryz.strconv_Atoi_range ⟨⟨s⟩⟩ (by rw [hz]; omega) ha _ w h3 (.inr ⟨_, _, rfl⟩)).mono ?_
    rintro e w4 ⟨N, rfl, _, _, he⟩
    refine ⟨_, _, rfl, ?_⟩
    refine ifc_some ?_
    simp only [br_f]
    exact bad (fun v hv => by rw [ha] at hv; cases hv) w4 he

/- a tag's function of its value -/
theorem val_call {nm : List UInt8} {x : TagV} {b8 b64 : Nat} (ht : tagAt b8 b64 nm = some x) (B8 : Blk w b8 [.int .i64 8] 3) (B64 : Blk w b64 [.int .i64 64] 3) (hM : Mk w) (v : List UInt8) (hv : v.length ≤ 1000000000)
    (h : ∀ w', Ext w w' → R (.returned (.bool (valB nm v))) w') : CallV Tryz.prog (.func x.f x.fa x.fb) [.string ⟨⟨v⟩⟩] w R := by
  have hm := List.mem_of_find?_eq_some ht
  have hn : x.nm = nm := by simpa using List.find?_some ht
  have c8 : w.cell? ⟨b8, 0, none⟩ = some (.int .i64 ((8 : Nat) : Int)) := by rw [B8.cell]; rfl
  have c64 : w.cell? ⟨b64, 0, none⟩ = some (.int .i64 ((64 : Nat) : Int)) := by rw [B64.cell]; rfl
  simp only [tagsV, List.mem_cons, List.not_mem_nil, or_false] at hm
  rcases hm with rfl | rfl | rfl | rfl | rfl | rfl | rfl | rfl | rfl | rfl <;> subst hn
  · exact ⟨by kernel_rfl, IsWord_spec v fun w' he => h w' he⟩
  · exact ⟨by kernel_rfl, number1_spec v (by omega) b8 8 (by omega) c8 hM fun w' he => h w' he⟩
  · exact ⟨by kernel_rfl, number1_spec v (by omega) b8 8 (by omega) c8 hM fun w' he => h w' he⟩
  · exact ⟨by kernel_rfl, number1_spec v (by omega) b64 64 (by omega) c64 hM fun w' he => h w' he⟩
  · exact ⟨by kernel_rfl, none_spec v (h w (Below.refl _ _))⟩
  · exact ⟨by kernel_rfl, IsName_spec v (h w (Below.refl _ _))⟩
  · exact ⟨by kernel_rfl, IsName_spec v (h w (Below.refl _ _))⟩
  · exact ⟨by kernel_rfl, IsName_spec v (h w (Below.refl _ _))⟩
  · exact ⟨by kernel_rfl, none_spec v (h w (Below.refl _ _))⟩
  · exact ⟨by kernel_rfl, none_spec v (h w (Below.refl _ _))⟩
theorem tag_some {b8 b64 : Nat} {nm : List UInt8} {x : TagV} (h : tagAt b8 b64 nm = some x) : knownB nm = true ∧ x.em = emptyB nm := by
  have hm := List.mem_of_find?_eq_some h
  have hn : x.nm = nm := by simpa using List.find?_some h
  simp only [tagsV, List.mem_cons, List.not_mem_nil, or_false] at hm
  rcases hm with rfl | rfl | rfl | rfl | rfl | rfl | rfl | rfl | rfl | rfl <;> subst hn <;> exact ⟨by kernel_rfl, by kernel_rfl⟩
theorem tag_none {nm : List UInt8} (h : ∀ b8 b64, tagAt b8 b64 nm = none) : knownB nm = false := by
  have h0 := h 0 0
  unfold tagAt at h0
  rw [List.find?_eq_none] at h0
  unfold knownB
  rw [decide_eq_false_iff_not]
  intro hm
  have : nm ∈ (tagsV 0 0).map (·.nm) := hm
  obtain ⟨x, hx, hxn⟩ := List.mem_map.1 this
  exact h0 x hx (decide_eq_true hxn)

/- is the value of a tag right -/
theorem right_spec9 (x : Lx) (hk : x.k = 3 ∨ knownB x.nm = true) (hv : x.vl.length ≤ 1000000000) (hM : Mk w) (h : ∀ w', Ext w w' → R (.returned (.bool (rightX x))) w') : Calls Tryz.prog F_markup_right ⟨[aggX x]⟩ w R := by
  apply c_markup_right
  refine al_intro fun b5 w6 hb5 B5 e6 s6 => ?_
  obtain ⟨c0, c1, c2, c3⟩ := blk4x B5
  refine ⟨_, c0, br_split (fun g => ⟨_, c2, ?_⟩) (fun g => ⟨_, c1, ?_⟩)⟩
  · have e : rightX x = decide (x.vl = []) := by unfold rightX; rw [if_pos g]
    rw [← e]; exact h w6 e6
  · refine find_spec x.nm (fun b8 b64 w11 t hb8 hb64 B8 B64 ht e11 => ⟨_, _, _, _, rfl, ?_⟩) (fun w11 hn e11 => ?_)
    · refine al_stL (by simp) (by intro u hu; simp only [List.mem_cons, List.not_mem_nil, or_false] at hu; rcases hu with rfl | rfl | rfl <;> rfl) fun b16 w18 hb16 B16 e18 s18 => ?_
      obtain ⟨y0, y1, y2⟩ := blk3 B16
      refine ⟨_, _, _, y2, _, cell_ext (cell_ext c2 e11) e18, ?_⟩
      have E18 := ext_trans (ext_trans e6 e11) e18
      refine val_call ht (B8.ext e18) (B64.ext e18) (hM.ext E18) x.vl hv fun w22 e22 => ⟨_, rfl, ?_⟩
      have e : rightX x = valB x.nm x.vl := by unfold rightX; rw [if_neg g]
      rw [← e]; exact h w22 (ext_trans E18 e22)
    · exfalso
      rcases hk with hk | hk
      · exact g hk
      · rw [tag_none hn] at hk; cases hk

/- is a lexeme right but for its value -/
theorem single_spec9 (x : Lx) (h : ∀ w', Ext w w' → R (.returned (.int .i64 (singleX x))) w') : Calls Tryz.prog F_markup_single ⟨[aggX x]⟩ w R := by
  apply c_markup_single
  refine al_intro fun b5 w6 hb5 B5 e6 s6 => ?_
  obtain ⟨c0, c1, c2, c3⟩ := blk4x B5
  unfold singleX at h
  refine ⟨_, c0, br_split (fun g => ⟨_, c1, br_split (fun g1 => ?_) (fun g1 => ⟨_, c2, br_split (fun g2 => ?_) (fun g2 => ⟨_, c2, ?_⟩)⟩)⟩) (fun g => ?_)⟩
  · have := h w6 e6; rwa [if_pos g, if_pos g1] at this
  · have := h w6 e6; rwa [if_pos g, if_neg g1, if_pos g2] at this
  · refine Check_spec x.vl fun w12 e12 => ⟨_, rfl, br_split (fun g3 => ?_) (fun g3 => ?_)⟩
    · have := h w12 (ext_trans e6 e12); rwa [if_pos g, if_neg g1, if_neg g2, if_pos g3] at this
    · have := h w12 (ext_trans e6 e12); rwa [if_pos g, if_neg g1, if_neg g2, if_neg g3] at this
  · intro K hK
    have kT : (x.k = 2 ∨ x.k = 3 ∨ x.k = 4) → K true w6 := by
      intro hk
      refine hK _ _ fun _ => ?_
      show br true _ _
      rw [br_t]
      refine ⟨_, c1, find_spec x.nm (fun b8 b64 w19 t hb8 hb64 B8 B64 ht e19 => ⟨_, _, _, _, rfl, ?_⟩) (fun w19 hn e19 => ⟨_, _, _, _, rfl, ?_⟩)⟩
      · refine al_stL (by simp) (by intro u hu; simp only [List.mem_cons, List.not_mem_nil, or_false] at hu; rcases hu with rfl | rfl | rfl <;> rfl) fun b24 w26 hb24 B24 e26 s26 => ?_
        obtain ⟨y0, y1, y2⟩ := blk3 B24
        obtain ⟨t1, t2⟩ := tag_some ht
        have E := ext_trans (ext_trans e6 e19) e26
        have hr := h w26 E
        rw [if_neg g, if_pos hk] at hr
        simp only [Bool.not_true, br_f]
        refine ⟨_, y1, _, cell_ext (cell_ext c0 e19) e26, br_split (fun g3 => ?_) (fun g3 => ?_)⟩
        · rw [if_neg (fun hh => g3 (by rw [t2]; exact hh.2))] at hr; exact hr
        · rw [if_pos ⟨t1, by rw [← t2]; exact Classical.not_not.1 g3⟩] at hr; exact hr
      · refine al_stL (by simp) (by intro u hu; simp only [List.mem_cons, List.not_mem_nil, or_false] at hu; rcases hu with rfl | rfl | rfl <;> rfl) fun b24 w26 hb24 B24 e26 s26 => ?_
        simp only [Bool.not_false, br_t]
        have hr := h w26 (ext_trans (ext_trans e6 e19) e26)
        rw [if_neg g, if_pos hk, if_neg (fun hh => by rw [tag_none hn] at hh; cases hh.1)] at hr
        exact hr
    refine br_split (fun g2 => ?_) (fun g2 => br_split (fun g3 => ?_) (fun g3 => ?_))
    · rw [decide_eq_true g2]; exact kT (.inl g2)
    · rw [decide_eq_true g3]; exact kT (.inr (.inl g3))
    · by_cases g4 : x.k = 4
      · rw [decide_eq_true g4]; exact kT (.inr (.inr g4))
      · rw [decide_eq_false g4]
        refine hK _ _ fun _ => ?_
        show br false _ _
        rw [br_f]
        have hr := h w6 e6
        rw [if_neg g, if_neg (by omega)] at hr
        exact hr
end Go.Proofs
namespace Go.Proofs
open Go Go.Sh Go.RowKit

/- a lexeme laid down and taken up again -/
def putX (R : Ending → World → Prop) (p : Addr) (a : Int) (b c : List UInt8) (d e : Int) (w : World) : Prop :=
  stL w p 0 [.int .i64 a, .string ⟨⟨b⟩⟩, .string ⟨⟨c⟩⟩, .int .i64 d] fun w20 =>
  ∃ (x21 : Int), World.cell? w20 (p.add 0) = some (.int .i64 x21) ∧ (∃ (x22 : List UInt8), World.cell? w20 (p.add 1) = some (.string ⟨⟨x22⟩⟩) ∧ (∃ (x23 : List UInt8), World.cell? w20 (p.add 2) = some (.string ⟨⟨x23⟩⟩) ∧ (∃ (x24 : Int), World.cell? w20 (p.add 3) = some (.int .i64 x24) ∧ (R (.returned (.tuple ⟨[.agg ⟨[.int .i64 x21, .string ⟨⟨x22⟩⟩, .string ⟨⟨x23⟩⟩, .int .i64 x24]⟩, .int .i64 e]⟩)) w20))))
theorem one4 {a d : Int} {b c : List UInt8} : ∀ v ∈ ([.int .i64 a, .string ⟨⟨b⟩⟩, .string ⟨⟨c⟩⟩, .int .i64 d] : List Value), v.oneCell' = true := by
  intro v hv; simp only [List.mem_cons, List.not_mem_nil, or_false] at hv; rcases hv with rfl | rfl | rfl | rfl <;> rfl
theorem putAt4 {cs vs : List Value} (hc : cs.length = 4) (hv : vs.length = 4) : putAt cs 0 vs = vs := by
  obtain ⟨a, b, c, d, rfl⟩ : ∃ a b c d, cs = [a, b, c, d] := by
    match cs, hc with
    | [a, b, c, d], _ => exact ⟨a, b, c, d, rfl⟩
  obtain ⟨a, b, c, d, rfl⟩ : ∃ a b c d, vs = [a, b, c, d] := by
    match vs, hv with
    | [a, b, c, d], _ => exact ⟨a, b, c, d, rfl⟩
  rfl
theorem stX {b : Nat} {T : TypeId} {cs : List Value} {w : World} {a d : Int} {n v : List UInt8} (hb : Blk w b cs T) (hl : cs.length = 4) {K : World → Prop}
    (h : ∀ w', Blk w' b [.int .i64 a, .string ⟨⟨n⟩⟩, .string ⟨⟨v⟩⟩, .int .i64 d] T → Chg (fun k => k = b) w w' → w'.heap.size = w.heap.size → K w') : stL w ⟨b, 0, none⟩ 0 [.int .i64 a, .string ⟨⟨n⟩⟩, .string ⟨⟨v⟩⟩, .int .i64 d] K := by
  refine stL_blk hb (by simp [hl]) one4 fun w' b1 x2 x3 x4 x5 x6 => ?_
  rw [Nat.add_zero, putAt4 hl rfl] at b1
  exact h w' b1 ⟨x4, x5, x6, by omega, fun j _ hj => x2 j hj⟩ x3
theorem putX_ok {R : Ending → World → Prop} {b : Nat} {T : TypeId} {cs : List Value} {w : World} (hb : Blk w b cs T) (hl : cs.length = 4) (y : Lx) (e : Int)
    (h : ∀ w', Chg (fun k => k = b) w w' → R (.returned (.tuple ⟨[aggX y, .int .i64 e]⟩)) w') : putX R ⟨b, 0, none⟩ y.k y.nm y.vl y.pos e w := by
  refine stX hb hl fun w' b1 hc _ => ?_
  obtain ⟨c0, c1, c2, c3⟩ := blk4x (x := y) b1
  exact ⟨_, c0, _, c1, _, c2, _, c3, h w' hc⟩
/- one field -/
theorem setX0 {b : Nat} {T : TypeId} {w : World} {a a' d : Int} {n v : List UInt8} (hb : Blk w b [.int .i64 a, .string ⟨⟨n⟩⟩, .string ⟨⟨v⟩⟩, .int .i64 d] T) {K : World → Prop}
    (h : ∀ w', Blk w' b [.int .i64 a', .string ⟨⟨n⟩⟩, .string ⟨⟨v⟩⟩, .int .i64 d] T → Chg (fun k => k = b) w w' → w'.heap.size = w.heap.size → K w') : stL w ((⟨b, 0, none⟩ : Addr).add 0) 0 [.int .i64 a'] K := by
  rw [add_none]
  refine stL_blk hb (by simp) (by intro u hu; rw [List.mem_singleton.1 hu]; rfl) fun w' b1 x2 x3 x4 x5 x6 => ?_
  exact h w' b1 ⟨x4, x5, x6, by omega, fun j _ hj => x2 j hj⟩ x3
theorem setX2 {b : Nat} {T : TypeId} {w : World} {a d : Int} {n v v' : List UInt8} (hb : Blk w b [.int .i64 a, .string ⟨⟨n⟩⟩, .string ⟨⟨v⟩⟩, .int .i64 d] T) {K : World → Prop}
    (h : ∀ w', Blk w' b [.int .i64 a, .string ⟨⟨n⟩⟩, .string ⟨⟨v'⟩⟩, .int .i64 d] T → Chg (fun k => k = b) w w' → w'.heap.size = w.heap.size → K w') : stL w ((⟨b, 0, none⟩ : Addr).add 2) 0 [.string ⟨⟨v'⟩⟩] K := by
  rw [add_none]
  refine stL_blk hb (by simp) (by intro u hu; rw [List.mem_singleton.1 hu]; rfl) fun w' b1 x2 x3 x4 x5 x6 => ?_
  exact h w' b1 ⟨x4, x5, x6, by omega, fun j _ hj => x2 j hj⟩ x3
theorem setX3 {b : Nat} {T : TypeId} {w : World} {a d d' : Int} {n v : List UInt8} (hb : Blk w b [.int .i64 a, .string ⟨⟨n⟩⟩, .string ⟨⟨v⟩⟩, .int .i64 d] T) {K : World → Prop}
    (h : ∀ w', Blk w' b [.int .i64 a, .string ⟨⟨n⟩⟩, .string ⟨⟨v⟩⟩, .int .i64 d'] T → Chg (fun k => k = b) w w' → w'.heap.size = w.heap.size → K w') : stL w ((⟨b, 0, none⟩ : Addr).add 3) 0 [.int .i64 d'] K := by
  rw [add_none]
  refine stL_blk hb (by simp) (by intro u hu; rw [List.mem_singleton.1 hu]; rfl) fun w' b1 x2 x3 x4 x5 x6 => ?_
  exact h w' b1 ⟨x4, x5, x6, by omega, fun j _ hj => x2 j hj⟩ x3

/- the end of read: is the value right, and is the text the part -/
def readTail (R : Ending → World → Prop) (part : List UInt8) (b2 b26 : Nat) (w32 : World) : Prop :=
  ∃ (x40 : Int), World.cell? w32 ((⟨b26, 0, none⟩ : Addr).add 0) = some (.int .i64 x40) ∧ (∃ (x41 : List UInt8), World.cell? w32 ((⟨b26, 0, none⟩ : Addr).add 1) = some (.string ⟨⟨x41⟩⟩) ∧ (∃ (x42 : List UInt8), World.cell? w32 ((⟨b26, 0, none⟩ : Addr).add 2) = some (.string ⟨⟨x42⟩⟩) ∧ (∃ (x43 : Int), World.cell? w32 ((⟨b26, 0, none⟩ : Addr).add 3) = some (.int .i64 x43) ∧ (Calls Tryz.prog F_markup_right ⟨[.agg ⟨[.int .i64 x40, .string ⟨⟨x41⟩⟩, .string ⟨⟨x42⟩⟩, .int .i64 x43]⟩]⟩ w32 fun (e44 : Ending) (w45 : World) =>
  ∃ (x46 : Bool), e44 = .returned (.bool x46) ∧ (br (!x46) (putX R ⟨b2, 0, none⟩ 0 [] [] 0 3 w45) (∃ (x52 : Int), World.cell? w45 ((⟨b26, 0, none⟩ : Addr).add 0) = some (.int .i64 x52) ∧ (∃ (x53 : List UInt8), World.cell? w45 ((⟨b26, 0, none⟩ : Addr).add 1) = some (.string ⟨⟨x53⟩⟩) ∧ (∃ (x54 : List UInt8), World.cell? w45 ((⟨b26, 0, none⟩ : Addr).add 2) = some (.string ⟨⟨x54⟩⟩) ∧ (∃ (x55 : Int), World.cell? w45 ((⟨b26, 0, none⟩ : Addr).add 3) = some (.int .i64 x55) ∧ (Calls Tryz.prog F_markup_text ⟨[.agg ⟨[.int .i64 x52, .string ⟨⟨x53⟩⟩, .string ⟨⟨x54⟩⟩, .int .i64 x55]⟩]⟩ w45 fun (e56 : Ending) (w57 : World) =>
  ∃ (x58 : List UInt8), e56 = .returned (.string ⟨⟨x58⟩⟩) ∧ (br (decide ((x58 : List UInt8) ≠ part)) (putX R ⟨b2, 0, none⟩ 0 [] [] 0 3 w57) (∃ (x64 : Int), World.cell? w57 ((⟨b26, 0, none⟩ : Addr).add 0) = some (.int .i64 x64) ∧ (∃ (x65 : List UInt8), World.cell? w57 ((⟨b26, 0, none⟩ : Addr).add 1) = some (.string ⟨⟨x65⟩⟩) ∧ (∃ (x66 : List UInt8), World.cell? w57 ((⟨b26, 0, none⟩ : Addr).add 2) = some (.string ⟨⟨x66⟩⟩) ∧ (∃ (x67 : Int), World.cell? w57 ((⟨b26, 0, none⟩ : Addr).add 3) = some (.int .i64 x67) ∧ (putX R ⟨b2, 0, none⟩ x64 x65 x66 x67 0 w57))))))))))))))))
abbrev cellsX (x : Lx) : List Value := [.int .i64 x.k, .string ⟨⟨x.nm⟩⟩, .string ⟨⟨x.vl⟩⟩, .int .i64 x.pos]
theorem readTail_ok {R : Ending → World → Prop} {part : List UInt8} {b2 b26 : Nat} {w : World} (x : Lx) (B2 : Blk w b2 (cellsX zeroX) 48) (B26 : Blk w b26 (cellsX x) 48) (hk : x.k = 3 ∨ knownB x.nm = true) (hn : x.nm.length ≤ 1000000000) (hv : x.vl.length ≤ 1000000000) (hM : Mk w)
    (h : ∀ w1 w', Ext w w1 → Chg (fun k => k = b2) w1 w' → R (.returned (.tuple ⟨[aggX (if rightX x = true ∧ textF x = part then (x, 0) else (zeroX, 3) : Lx × Int).1, .int .i64 (if rightX x = true ∧ textF x = part then (x, 0) else (zeroX, 3) : Lx × Int).2]⟩)) w') :
    readTail R part b2 b26 w := by
  obtain ⟨c0, c1, c2, c3⟩ := blk4x B26
  refine ⟨_, c0, _, c1, _, c2, _, c3, right_spec9 x hk hv hM fun w45 e45 => ⟨_, rfl, ?_⟩⟩
  refine br_cases (fun g => ?_) (fun g => ?_)
  · have g : rightX x = false := by simpa using g
    have hi : (if rightX x = true ∧ textF x = part then (x, 0) else (zeroX, 3) : Lx × Int) = (zeroX, 3) := if_neg (fun hh => by rw [g] at hh; cases hh.1)
    rw [hi] at h
    exact putX_ok (B2.ext e45) rfl zeroX 3 fun w' hc => h w45 w' e45 hc
  · have g : rightX x = true := by simpa using g
    refine ⟨_, cell_ext c0 e45, _, cell_ext c1 e45, _, cell_ext c2 e45, _, cell_ext c3 e45, text_spec x hn hv fun w57 e57 => ⟨_, rfl, br_split (fun g2 => ?_) (fun g2 => ?_)⟩⟩
    · have hi : (if rightX x = true ∧ textF x = part then (x, 0) else (zeroX, 3) : Lx × Int) = (zeroX, 3) := if_neg (fun hh => g2 hh.2)
      rw [hi] at h
      exact putX_ok ((B2.ext e45).ext e57) rfl zeroX 3 fun w' hc => h w57 w' (ext_trans e45 e57) hc
    · have hi : (if rightX x = true ∧ textF x = part then (x, 0) else (zeroX, 3) : Lx × Int) = (x, 0) := if_pos ⟨g, Classical.not_not.1 g2⟩
      rw [hi] at h
      exact ⟨_, cell_ext (cell_ext c0 e45) e57, _, cell_ext (cell_ext c1 e45) e57, _, cell_ext (cell_ext c2 e45) e57, _, cell_ext (cell_ext c3 e45) e57, putX_ok ((B2.ext e45).ext e57) rfl x 0 fun w' hc => h w57 w' (ext_trans e45 e57) hc⟩
theorem trim_head (m : List UInt8) : Lib.trimPrefix m [47] = if m.head? = some 47 then m.drop 1 else m := by
  unfold Lib.trimPrefix Lib.hasPrefix
  cases m with
  | nil => rfl
  | cons a r =>
    by_cases h : a = 47
    · subst h; rfl
    · have h' : ¬ 47 = a := fun e => h e.symm
      simp [h, h']
theorem has_head (m : List UInt8) : Lib.hasPrefix m [47] = decide (m.head? = some 47) := by
  unfold Lib.hasPrefix
  cases m with
  | nil => rfl
  | cons a r =>
    by_cases h : a = 47
    · subst h; rfl
    · have h' : ¬ 47 = a := fun e => h e.symm
      rw [List.head?_cons, decide_eq_false (by simpa using h)]
      simp [List.isPrefixOf, h']
theorem index_any_le : ∀ b : List UInt8, Lib.indexAny b [32, 47] ≤ (b.length : Int)
  | [] => by simp [Lib.indexAny]
  | c :: l => by
    have ih := index_any_le l
    rw [Lib.indexAny, List.length_cons]
    split
    · omega
    · split
      · omega
      · omega
theorem ext_two {w w1 w2 : World} {b : Nat} (h : Ext w w1) (hc : Chg (fun k => k = b) w1 w2) (hb : w.heap.size ≤ b) : Ext w w2 := ext_chgS h hc fun k hk => by rw [hk]; exact hb
set_option maxRecDepth 20000 in
theorem read_spec {R : Ending → World → Prop} {w : World} (m : List UInt8) (hl : m.length ≤ 100000000) (hM : Mk w)
    (h : ∀ w', Ext w w' → R (.returned (.tuple ⟨[aggX (readF (60 :: (m ++ [62]))).1, .int .i64 (readF (60 :: (m ++ [62]))).2]⟩)) w') : Calls Tryz.prog F_markup_read ⟨[.string ⟨⟨60 :: (m ++ [62])⟩⟩]⟩ w R := by
  apply c_markup_read
  refine al_intro fun b2 w3 hb2 B2 e3 s3 => ?_
  have hlen : (60 :: (m ++ [62]) : List UInt8).length = m.length + 2 := by simp
  rw [hlen, show ((m.length + 2 : Nat) : Int) - 1 = ((m.length + 1 : Nat) : Int) by omega, wrap_id (by omega)]
  refine ssl_nat (i := 1) (by omega) (by rw [hlen]; omega) ?_
  have hin : ((60 :: (m ++ [62]) : List UInt8).take (m.length + 1)).drop 1 = m := by
    have := inner_two m
    unfold innerF at this
    rw [hlen] at this
    exact this
  rw [hin]
  have hz : (⟨⟨m⟩⟩ : ByteArray).size = m.length := rfl
  refine (Tryz.strings_TrimPrefix ⟨⟨m⟩⟩ ⟨⟨[47]⟩⟩ w3).mono ?_
  rintro _ w6 ⟨rfl, hw6⟩
  rw [hw6]
  refine ⟨Lib.trimPrefix m [47], rfl, ?_⟩
  intro K8 hK8
  have hb0 : (Lib.trimPrefix m [47]).length ≤ m.length := by
    rw [trim_head]; split
    · rw [List.length_drop]; omega
    · exact Nat.le_refl _
  have hn0 := name_le (Lib.trimPrefix m [47])
  have k8 : ∀ w10, Ext w3 w10 → K8 (nameF (Lib.trimPrefix m [47])) w10 := by
    intro w10 e10
    refine hK8 _ _ fun _ => ?_
    have hrd : readF (60 :: (m ++ [62])) = if knownB (nameF (Lib.trimPrefix m [47])) = false then (zeroX, 12) else if m.head? = some 47 then (if emptyB (nameF (Lib.trimPrefix m [47])) = false ∧ [60, 47] ++ nameF (Lib.trimPrefix m [47]) ++ [62] = 60 :: (m ++ [62]) then (⟨3, nameF (Lib.trimPrefix m [47]), [], 0⟩, 0) else (zeroX, 3))
        else accX (60 :: (m ++ [62])) (nameF (Lib.trimPrefix m [47])) (valueP m) := by
      unfold readF
      rw [inner_two, trim_head]
      by_cases hc : m.head? = some 47
      · simp only [hc, if_true]
      · simp only [hc, if_false]
        by_cases hk : knownB (nameF m) = false
        · rw [if_pos hk, if_pos hk]
        · rw [if_neg hk, if_neg hk]
          have := acc_PF (part := 60 :: (m ++ [62])) (nm := nameF m) (by simpa using hk)
          rw [inner_two] at this
          exact this.symm
    generalize hnm : nameF (Lib.trimPrefix m [47]) = nm at hrd hn0
    refine find_spec nm (fun b8 b64 w12 t hb8 hb64 B8 B64 ht e12 => ⟨_, _, _, _, rfl, ?_⟩) (fun w12 hno e12 => ⟨_, _, _, _, rfl, ?_⟩)
    · refine al_stL (by simp) (by intro u hu; simp only [List.mem_cons, List.not_mem_nil, or_false] at hu; rcases hu with rfl | rfl | rfl <;> rfl) fun b17 w19 hb17 B17 e19 s19 => ?_
      obtain ⟨t1, t2⟩ := tag_some ht
      obtain ⟨y0, y1, y2⟩ := blk3 B17
      have E19 := ext_trans (ext_trans e10 e12) e19
      have z19 := E19.size
      have B2' := B2.ext E19
      rw [if_neg (by rw [t1]; decide)] at hrd
      simp only [Bool.not_true, br_f]
      refine ⟨_, y0, ?_⟩
      refine al_stL rfl one4 fun b26 w28 hb26 B26 e28 s28 => ?_
      have z28 := e28.size
      intro K29 hK29
      have k29 : ∀ w30 (k : Int), k = (if emptyB nm = true then 4 else 2) → Ext w19 w30 → Blk w30 b26 [.int .i64 k, .string ⟨⟨nm⟩⟩, .string ⟨⟨[]⟩⟩, .int .i64 0] 48 → K29 w30 := by
        intro w30 k hk e30 B30
        refine hK29 _ fun _ => ?_
        intro K31 hK31
        have E30 := ext_trans (ext_trans e3 E19) e30
        have B2a := B2'.ext e30
        have z30 := e30.size
        have B17a := B17.ext e30
        have k3 : k ≠ 3 := by rw [hk]; split <;> decide
        refine (Tryz.strings_HasPrefix ⟨⟨m⟩⟩ ⟨⟨[47]⟩⟩ w30).mono ?_
        rintro _ w107 ⟨rfl, hw⟩
        rw [hw]
        refine ⟨_, rfl, ?_⟩
        show br (Lib.hasPrefix m [47]) _ _
        rw [has_head]
        refine br_split (fun hc => ?_) (fun hc => ?_)
        · rw [if_pos hc] at hrd
          refine setX0 B30 fun w32 B32 c32 s32 => hK31 _ fun _ => ?_
          obtain ⟨d0, d1, d2, d3⟩ := blk4x (x := ⟨3, nm, [], 0⟩) B32
          have B17b := c32.blk B17a (by omega)
          have B2b := c32.blk B2a (by omega)
          have E32 := ext_two E30 c32 (by omega)
          obtain ⟨_, y1', _⟩ := blk3 B17b
          refine ⟨_, d0, ?_⟩
          rw [decide_eq_true rfl, br_t]
          refine ⟨_, y1', ?_⟩
          rw [t2]
          refine br_cases (fun he => ?_) (fun he => ?_)
          · rw [if_neg (fun hh => by rw [he] at hh; cases hh.1)] at hrd
            refine putX_ok B2b rfl zeroX 3 fun w' hc' => ?_
            have := h w' (ext_two E32 hc' (by omega))
            rwa [hrd] at this
          · refine readTail_ok ⟨3, nm, [], 0⟩ B2b B32 (.inl rfl) (show nm.length ≤ _ by omega) (by simp) (hM.ext E32) fun w1 w' e1 c1 => ?_
            have := h w' (ext_two (ext_trans E32 e1) c1 (by omega))
            rw [hrd] at this
            have e1 : rightX ⟨3, nm, [], 0⟩ = true := rfl
            have e2 : textF ⟨3, nm, [], 0⟩ = [60, 47] ++ nm ++ [62] := rfl
            rw [e1, e2]
            by_cases hp : [60, 47] ++ nm ++ [62] = 60 :: (m ++ [62])
            · rw [if_pos ⟨he, hp⟩] at this; rw [if_pos ⟨rfl, hp⟩]; exact this
            · rw [if_neg (fun hh => hp hh.2)] at this; rw [if_neg (fun hh => hp hh.2)]; exact this
        · rw [if_neg hc] at hrd
          have k31 : ∀ w32, Ext w32 w32 → Ext w19 w32 → Blk w32 b26 [.int .i64 k, .string ⟨⟨nm⟩⟩, .string ⟨⟨valueP m⟩⟩, .int .i64 0] 48 → K31 w32 := by
            intro w32 _ e32 B32
            refine hK31 _ fun _ => ?_
            have E32 := ext_trans (ext_trans e3 E19) e32
            have B2b := B2'.ext e32
            have z32 := e32.size
            have hx : tagX nm (valueP m) = ⟨k, nm, valueP m, 0⟩ := by unfold tagX; rw [hk]
            obtain ⟨d0, d1, d2, d3⟩ := blk4x (x := ⟨k, nm, valueP m, 0⟩) B32
            refine ⟨_, d0, ?_⟩
            rw [decide_eq_false k3, br_f]
            have hvl : (valueP m).length ≤ 1000000000 := by
              unfold valueP Lib.cut Lib.trimSuffix
              split <;> split <;> simp <;> omega
            refine readTail_ok ⟨k, nm, valueP m, 0⟩ B2b B32 (.inr t1) (show nm.length ≤ _ by omega) hvl (hM.ext E32) fun w1 w' e1 c1 => ?_
            have := h w' (ext_two (ext_trans E32 e1) c1 (by omega))
            rw [hrd] at this
            unfold accX at this
            rw [hx] at this
            have er : rightX ⟨k, nm, valueP m, 0⟩ = valB nm (valueP m) := by unfold rightX; rw [if_neg k3]
            rw [er]; exact this
          refine (Tryz.strings_TrimSuffix ⟨⟨m⟩⟩ ⟨⟨[47]⟩⟩ w30 (by rw [hz]; omega)).mono ?_
          rintro _ w111 ⟨rfl, hw1⟩
          rw [hw1]
          refine ⟨Lib.trimSuffix m [47], rfl, ?_⟩
          obtain ⟨mm, hmm⟩ := (hM.ext E30).1
          have hts : (Lib.trimSuffix m [47]).length ≤ m.length := by
            unfold Lib.trimSuffix; split
            · rw [List.length_take]; omega
            · exact Nat.le_refl _
          have hzs : (⟨⟨Lib.trimSuffix m [47]⟩⟩ : ByteArray).size = (Lib.trimSuffix m [47]).length := rfl
          refine (Tryz.strings_Cut ⟨⟨Lib.trimSuffix m [47]⟩⟩ ⟨⟨[32]⟩⟩ mm w30 (by rw [hzs]; omega) hmm).mono ?_
          rintro _ w114 ⟨rfl, n, rfl⟩
          have ed : Ext w30 (w30.drewN n) := below_drewN (Below.refl _ _) n
          refine ⟨_, _, _, rfl, ?_⟩
          show br (Lib.cut (Lib.trimSuffix m [47]) [32]).2.2 _ _
          refine br_cases (fun hf => ?_) (fun hf => ?_)
          · refine setX2 (B30.ext ed) fun w32 B32 c32 s32 => k31 w32 (Below.refl _ _) (ext_two (ext_trans e30 ed) c32 (by omega)) B32
          · have hv : valueP m = [] := by
              unfold valueP
              unfold Lib.cut at hf ⊢
              split at hf
              · cases hf
              · rename_i hi; rw [if_neg hi]
            refine k31 _ (Below.refl _ _) (ext_trans e30 ed) ?_
            rw [hv]; exact B30.ext ed
      obtain ⟨v0, v1, v2⟩ := blk3 (B17.ext e28)
      refine ⟨_, v1, ?_⟩
      rw [t2]
      refine br_cases (fun he => ?_) (fun he => ?_)
      · refine setX0 B26 fun w120 B120 c120 s120 => k29 w120 4 (by rw [if_pos he]) (ext_two e28 c120 (by omega)) B120
      · exact k29 w28 2 (by rw [if_neg (by rw [he]; decide)]) e28 B26
    · refine al_stL (by simp) (by intro u hu; simp only [List.mem_cons, List.not_mem_nil, or_false] at hu; rcases hu with rfl | rfl | rfl <;> rfl) fun b17 w19 hb17 B17 e19 s19 => ?_
      simp only [Bool.not_false, br_t]
      have E19 := ext_trans (ext_trans e10 e12) e19
      rw [if_pos (tag_none hno)] at hrd
      refine putX_ok (B2.ext E19) rfl zeroX 12 fun w' hc' => ?_
      have := h w' (ext_two (ext_trans e3 E19) hc' (by omega))
      rwa [hrd] at this
  refine IndexAny_spec _ (by omega) fun w122 e122 => ⟨_, rfl, ?_⟩
  have ha := any_name (Lib.trimPrefix m [47])
  refine br_split (fun g => ?_) (fun g => ?_)
  · rw [if_pos g] at ha
    obtain ⟨i, hi⟩ : ∃ i : Nat, Lib.indexAny (Lib.trimPrefix m [47]) [32, 47] = i := ⟨(Lib.indexAny (Lib.trimPrefix m [47]) [32, 47]).toNat, by omega⟩
    rw [hi] at ha ⊢
    rw [Int.toNat_natCast] at ha
    have hil : i ≤ (Lib.trimPrefix m [47]).length := by
      apply Classical.byContradiction
      intro hh
      have := index_any_le (Lib.trimPrefix m [47])
      omega
    refine ssl_nat (i := 0) (by omega) hil ?_
    rw [List.drop_zero, ← ha]
    exact k8 w122 e122
  · rw [if_neg g] at ha
    have := k8 w122 e122
    rwa [ha] at this
end Go.Proofs
namespace Go.Sh
open Go Go.RowKit

/- entering a round: the loop's variable is laid, the record turns -/
/- a loop over an iterator that counts in one cell -/
end Go.Sh
namespace Go.Proofs
open Go Go.Sh Go.RowKit

set_option maxRecDepth 20000 in
theorem partsM_iterO (s : List UInt8) (hs : s.length ≤ 4611686018427387904) (b : Nat) (w : World) (hb : Blk w b [.string ⟨⟨s⟩⟩] 9) :
    IterO Tryz.prog F_markup_parts_1 [.pointer (some ⟨b, 0, none⟩)] (partsM s 0) (fun x vs => vs = [.int .i64 (x.1 : Int), .string ⟨⟨x.2⟩⟩]) (fun k => k = b) w := by
  intro yf ya yb S0 J Jx R hS hJ hJx hbody h0 hend hstop
  apply c_markup_parts_1
  have hbl := hb.lt
  refine ⟨fun i W m => ∃ (k : Nat) (pre : List (Nat × List UInt8)) (S : Nat → Prop), i = k ∧ k ≤ s.length ∧ m = s.length - k ∧ partsM s 0 = pre ++ partsM (s.drop k) k ∧ J pre S W ∧ Blk W b [.string ⟨⟨s⟩⟩] 9 ∧ w.heap.size ≤ W.heap.size ∧ (∀ j, S j → j < W.heap.size ∧ ¬ j = b), ⟨_, 0, [], S0, rfl, by omega, rfl, rfl, h0, hb, Nat.le_refl _, hS⟩, ?_⟩
  rintro _ W m ⟨k, pre, S, rfl, hk, rfl, heq, hj, hB, hW, hS⟩ _
  have cB : W.cell? ⟨b, 0, none⟩ = some (.string ⟨⟨s⟩⟩) := by rw [hB.cell]; rfl
  refine dr_ok ⟨_, cB, br_split (fun hlt => ?_) (fun hge => ?_)⟩
  · have hkl : k < s.length := by omega
    obtain ⟨c, r, hcr⟩ : ∃ c r, s.drop k = c :: r := ⟨s[k], s.drop (k + 1), List.drop_eq_getElem_cons hkl⟩
    have hck : s[k] = c := by have := List.drop_eq_getElem_cons hkl; rw [hcr] at this; exact (List.cons.inj this).1.symm
    obtain ⟨b1, b2⟩ := cutX_bd (c := c) (r := r)
    have hll : (c :: r).length = s.length - k := by rw [← hcr, List.length_drop]
    refine dr_ok ⟨_, cB, ?_⟩
    intro K12 hK12
    have k12 : K12 ((k + cutX (c :: r) : Nat) : Int) W := by
      refine hK12 _ _ fun _ => dr_ok ⟨_, cB, ?_⟩
      refine ssl_nat (by omega) (by omega) ?_
      have hsub : (s.take (k + cutX (c :: r))).drop k = (c :: r).take (cutX (c :: r)) := by rw [List.drop_take, hcr, Nat.add_sub_cancel_left]
      rw [hsub]
      have hp : partsM (s.drop k) k = (k, (c :: r).take (cutX (c :: r))) :: partsM (s.drop (k + cutX (c :: r))) (k + cutX (c :: r)) := by
        rw [hcr, partsM, ← hcr, List.drop_drop]
      refine CallV_mono (hbody pre (k, (c :: r).take (cutX (c :: r))) _ S W rfl (by rw [heq, hp]; exact ⟨partsM (s.drop (k + cutX (c :: r))) (k + cutX (c :: r)), by simp⟩) hW hS hj) ?_
      rintro e W3 ⟨hc3, S', hS', hh⟩
      have hS3 : ∀ j, S' j → j < W3.heap.size ∧ ¬ j = b := fun j hj => ⟨(hS' j hj).2, (hS' j hj).1.elim (fun h => (hS j h).2) (fun h => by have := hB.lt; omega)⟩
      have z3 := hc3.size
      have hB3 := hc3.blk hB (fun hh => (hS b hh).2 rfl)
      rcases hh with ⟨rfl, hj3⟩ | ⟨rfl, hj3⟩
      · refine ⟨true, rfl, ?_⟩
        simp only [Bool.not_true, br_f]
        exact ⟨s.length - (k + cutX (c :: r)), by omega, k + cutX (c :: r), pre ++ [(k, (c :: r).take (cutX (c :: r)))], S', rfl, by omega, rfl, by rw [heq, hp]; simp, hj3, hB3, by omega, hS3⟩
      · refine ⟨false, rfl, ?_⟩
        simp only [Bool.not_false, br_t]
        exact hstop S' W3 (by omega) hj3
    have hdd : (s.take s.length).drop k = c :: r := by rw [List.take_length, hcr]
    have lt : ∀ {x : UInt8}, 0 ≤ Lib.indexByte (c :: r) x → (Lib.indexByte (c :: r) x).toNat < (c :: r).length := fun {x} hx => by
      obtain ⟨h1, _⟩ := Lib.indexByte_some (l := c :: r) (c := x) (o := (Lib.indexByte (c :: r) x).toNat) (by omega)
      exact (List.getElem?_eq_some_iff.1 h1).1
    refine dr_ok ⟨_, cB, ?_⟩
    refine sidx_nat hkl ?_
    rw [hck]
    refine br_split (fun g => dr_ok ⟨_, cB, ?_⟩) (fun g => dr_ok ⟨_, cB, ?_⟩)
    · have hc60 : c = 60 := by
        have : c.toNat = 60 := by omega
        exact UInt8.toNat_inj.1 this
      refine ssl_nat (by omega) (Nat.le_refl _) ?_
      rw [hdd]
      refine (Tryz.strings_IndexByte ⟨⟨c :: r⟩⟩ 62 W).mono ?_
      rintro e w29 ⟨rfl, rfl⟩
      refine ⟨_, rfl, ?_⟩
      show br (decide (0 ≤ Lib.indexByte (c :: r) 62)) (K12 (IntKind.i64.wrap (IntKind.i64.wrap ((k : Int) + Lib.indexByte (c :: r) 62) + 1)) w29) (K12 (s.length : Int) w29)
      have hcx : cutX (c :: r) = if 0 ≤ Lib.indexByte (c :: r) 62 then (Lib.indexByte (c :: r) 62).toNat + 1 else (c :: r).length := by unfold cutX; rw [if_pos (by simp [hc60])]
      refine br_split (fun gi => ?_) (fun gi => ?_)
      · have := lt gi
        rw [if_pos gi] at hcx
        have e1 : IntKind.i64.wrap ((k : Int) + Lib.indexByte (c :: r) 62) = (k : Int) + Lib.indexByte (c :: r) 62 := wrap_id (by omega)
        rw [e1, wrap_id (by omega), show (k : Int) + Lib.indexByte (c :: r) 62 + 1 = ((k + cutX (c :: r) : Nat) : Int) by omega]
        exact k12
      · rw [if_neg gi] at hcx
        rw [show (s.length : Int) = ((k + cutX (c :: r) : Nat) : Int) by omega]
        exact k12
    · have hc60 : ¬ c = 60 := fun e => g (by rw [e]; rfl)
      refine ssl_nat (by omega) (Nat.le_refl _) ?_
      rw [hdd]
      refine (Tryz.strings_IndexByte ⟨⟨c :: r⟩⟩ 60 W).mono ?_
      rintro e w29 ⟨rfl, rfl⟩
      refine ⟨_, rfl, ?_⟩
      show br (decide (0 ≤ Lib.indexByte (c :: r) 60)) (K12 (IntKind.i64.wrap ((k : Int) + Lib.indexByte (c :: r) 60)) w29) (K12 (s.length : Int) w29)
      have hcx : cutX (c :: r) = if 0 ≤ Lib.indexByte (c :: r) 60 then (Lib.indexByte (c :: r) 60).toNat else (c :: r).length := by unfold cutX; rw [if_neg (by simp [hc60])]
      refine br_split (fun gi => ?_) (fun gi => ?_)
      · have := lt gi
        rw [if_pos gi] at hcx
        rw [wrap_id (by omega), show (k : Int) + Lib.indexByte (c :: r) 60 = ((k + cutX (c :: r) : Nat) : Int) by omega]
        exact k12
      · rw [if_neg gi] at hcx
        rw [show (s.length : Int) = ((k + cutX (c :: r) : Nat) : Int) by omega]
        exact k12
  · have hkk : k = s.length := by omega
    rw [hkk, List.drop_length, partsM, List.append_nil] at heq
    rw [heq] at hend
    exact hend S W hW hj
theorem parts_spec9 {R : Ending → World → Prop} {w : World} (s : List UInt8) (h : ∀ b w', b = w.heap.size → Blk w' b [.string ⟨⟨s⟩⟩] 9 → Ext w w' → w'.heap.size = b + 1 → R (.returned (.func (.func F_markup_parts_1) ⟨[]⟩ ⟨[.pointer (some ⟨b, 0, none⟩)]⟩)) w') :
    Calls Tryz.prog F_markup_parts ⟨[.string ⟨⟨s⟩⟩]⟩ w R := by
  apply c_markup_parts
  exact al_intro fun b w' hb B e sz => h b w' hb B e sz
theorem slT_lex : SlT Tryz.prog 43 48 4 48 (.agg #[.int .i64 0, .string ⟨#[]⟩, .string ⟨#[]⟩, .int .i64 0]) := ⟨Tryz.underlying43, by kernel_rfl, rfl, by decide⟩
theorem partsM_len : ∀ (n : Nat) (t : List UInt8) (at_ : Nat), t.length ≤ n → (partsM t at_).length ≤ t.length
  | n, [], _, _ => by rw [partsM]; exact Nat.le_refl _
  | 0, _ :: _, _, h => absurd h (by simp)
  | n + 1, c :: r, at_, h => by
    obtain ⟨b1, b2⟩ := cutX_bd (c := c) (r := r)
    have hdl : ((c :: r).drop (cutX (c :: r))).length = (c :: r).length - cutX (c :: r) := List.length_drop
    have := partsM_len n ((c :: r).drop (cutX (c :: r))) (at_ + cutX (c :: r)) (by omega)
    rw [partsM, List.length_cons]; omega
theorem scanL_len : ∀ {l : List (Nat × List UInt8)} {out : List Lx}, scanL l = (out, 0) → out.length = l.length
  | [], out, h => by rw [← (Prod.mk.inj h).1]; rfl
  | p :: r, out, h => by
    obtain ⟨x, l', rfl, _, hr⟩ := scanL_cons h
    rw [List.length_cons, scanL_len hr]; rfl
/- a part that begins with < and ends with > has something between -/
theorem part_mid {part : List UInt8} (h1 : part.head? = some 60) (h2 : part.getLast? = some 62) : ∃ m, part = 60 :: (m ++ [62]) := by
  cases part with
  | nil => cases h1
  | cons a r =>
    obtain rfl : a = 60 := by simpa using h1
    cases hr : r with
    | nil => subst hr; simp at h2
    | cons b t =>
      have hne : (60 :: b :: t : List UInt8) ≠ [] := by simp
      have hl : (b :: t : List UInt8).getLast? = some 62 := by rw [← hr]; rw [hr] at h2 ⊢; rwa [List.getLast?_cons_cons] at h2
      obtain ⟨ys, hys⟩ := List.getLast?_eq_some_iff.1 hl
      exact ⟨ys, by rw [hys]⟩
theorem parts_mem : ∀ (n : Nat) (t : List UInt8) (at_ : Nat), t.length ≤ n → ∀ p ∈ partsM t at_, p.2.length ≤ t.length ∧ p.2 ≠ [] ∧ p.1 ≤ at_ + t.length
  | n, [], _, _, p, hp => by rw [partsM] at hp; cases hp
  | 0, _ :: _, _, h, _, _ => absurd h (by simp)
  | n + 1, c :: r, at_, h, p, hp => by
    obtain ⟨b1, b2⟩ := cutX_bd (c := c) (r := r)
    have hdl : ((c :: r).drop (cutX (c :: r))).length = (c :: r).length - cutX (c :: r) := List.length_drop
    rw [partsM] at hp
    rcases List.mem_cons.1 hp with rfl | hp
    · have hl : ((c :: r).take (cutX (c :: r))).length = cutX (c :: r) := by rw [List.length_take]; omega
      refine ⟨by show ((c :: r).take (cutX (c :: r))).length ≤ _; omega, fun e => ?_, by show at_ ≤ _; omega⟩
      rw [show (c :: r).take (cutX (c :: r)) = [] from e] at hl
      simp at hl; omega
    · obtain ⟨q1, q2, q3⟩ := parts_mem n _ _ (by omega) p hp
      exact ⟨by omega, q2, by omega⟩
set_option maxRecDepth 20000 in
theorem Scan_spec {R : Ending → World → Prop} {w : World} (s : List UInt8) (hM : Mk w)
    (h : ∀ a n c w', n = (scanF s).1.length → OwnL encX w' w.heap.size 48 a n c (scanF s).1 → Ext w w' → R (.returned (.tuple ⟨[.slice a n c, .int .i64 (scanF s).2]⟩)) w') : Calls Tryz.prog F_markup_Scan ⟨[.string ⟨⟨s⟩⟩]⟩ w R := by
  apply c_markup_Scan
  refine al_intro fun b2 w3 hb2 B2 e3 s3 => ?_
  refine al_intro fun b4 w5 hb4 B4 e5 s5 => ?_
  have B2a := B2.ext e5
  have E5 := ext_trans e3 e5
  refine br_split (fun g => ?_) (fun g => ?_)
  · have hf : scanF s = ([], 4) := by unfold scanF; rw [if_pos (by omega)]
    rw [hf] at h
    refine stL_one B2a rfl fun w6 B2b c6 s6 => ?_
    refine stL_one (c6.blk B4 (by omega)) rfl fun w7 B4b c7 s7 => ?_
    have B2c := c7.blk B2b (by omega)
    refine ⟨_, _, _, by rw [B2c.cell]; rfl, _, by rw [B4b.cell]; rfl, ?_⟩
    exact h none 0 0 w7 rfl (Owns.nil _ _ _ _) (ext_two (ext_two E5 c6 (by omega)) c7 (by omega))
  have hs : s.length ≤ 65536 := by omega
  have hf : scanF s = scanL (partsM s 0) := by unfold scanF; rw [if_neg (by omega)]
  rw [hf] at h
  refine al_intro fun b10 w11 hb10 B10 e11 s11 => ?_
  refine parts_spec9 s fun bs w13 hbs Bs e13 s13 => ⟨_, _, _, rfl, fun base => ?_⟩
  have E11 := ext_trans E5 e11
  have E13 := ext_trans E11 e13
  have B2b := (B2a.ext e11).ext e13
  have B4b := (B4.ext e11).ext e13
  have B10b := B10.ext e13
  have hpl := partsM_len s.length s 0 (Nat.le_refl _)
  rw [cd_markup_Scan_1]
  refine RFw_lawO anA_markup_Scan_1 anB_markup_Scan_1 (gf := F_markup_parts_1) rfl (by kernel_rfl) (xs := partsM s 0) (E := fun x vs => vs = [.int .i64 (x.1 : Int), .string ⟨⟨x.2⟩⟩]) (Rd := fun k => k = bs)
    (fun v1 he => partsM_iterO s (by omega) bs v1 (Bs.ext he)) (fun y vs hE => by rw [hE]; rfl) (by decide) (fun k hk => by omega) (fun k => k = b2 ∨ k = b4 ∨ k = b10) (fun k hk => by omega)
    (fun pre S1 W => ∃ (oa : Option Addr) (on oc : Nat) (out : List Lx), Blk W b10 [.slice oa on oc] 43 ∧ Blk W b2 [.slice none 0 0] 43 ∧ Blk W b4 [.int .i64 0] 25 ∧ scanL pre = (out, 0) ∧ OwnL encX W w13.heap.size 48 oa on oc out ∧ (∀ k, S1 k ↔ k = b2 ∨ k = b4 ∨ k = b10 ∨ bk oa k) ∧ Ext w W)
    (fun S1 W => ∃ e : Int, scanL (partsM s 0) = ([], e) ∧ Blk W b2 [.slice none 0 0] 43 ∧ Blk W b4 [.int .i64 e] 25 ∧ Ext w W) (fun _ _ => False)
    ?_ ?_ (fun _ _ _ h => h.elim) ⟨none, 0, 0, [], B10b, B2b, B4b, rfl, Owns.nil _ _ _ _, fun k => by simp [bk], E13⟩ ?_ ?_ ?_ (fun _ _ _ _ _ _ _ h => h.elim)
  · rintro pre S1 W W' ⟨oa, on, oc, out, g1, g2, g3, g4, g5, g6, g7⟩ hc
    exact ⟨oa, on, oc, out, hc.blk g1 (fun hh => by omega), hc.blk g2 (fun hh => by omega), hc.blk g3 (fun hh => by omega), g4, g5.chg hc fun k hk hh => hh.2 ((g6 k).2 (.inr (.inr (.inr hk)))), g6, ext_chgS g7 hc fun k hk => by omega⟩
  · rintro S1 W W' ⟨e, g1, g2, g3, g4⟩ hc
    exact ⟨e, g1, hc.blk g2 (fun hh => by omega), hc.blk g3 (fun hh => by omega), ext_chgS g4 hc fun k hk => by omega⟩
  · rintro pre ⟨at_, part⟩ vs S1 W l rfl hpre hl1 hl2 hl3 hS1 ⟨oa, on, oc, out, g1, g2, g3, g4, g5, g6, g7⟩
    refine Eq.mpr (er_markup_Scan_1 base _ _ _ _ _ _ _ _ _ _ _ _ _) ?_
    refine ⟨Below.refl _ _, fun W2 hU => ?_⟩
    have zU := hU.size
    have hUc : Chg (fun k => k = l) W W2 := ⟨hU.os, hU.tape, hU.output, by omega, fun k _ hk => hU.block k hk⟩
    have nl : ¬ bk oa l := fun hh => hl3 ((g6 l).2 (.inr (.inr (.inr hh))))
    have h1 := hUc.blk g1 (by omega)
    have h2 := hUc.blk g2 (by omega)
    have h3 := hUc.blk g3 (by omega)
    have h5 := g5.chg hUc fun k hk hh => nl (hh ▸ hk)
    have E2 : Ext w W2 := ext_chgS g7 hUc fun k hk => by have := E13.size; omega
    obtain ⟨rest, hrest⟩ := hpre
    have hrest : partsM s 0 = pre ++ (at_, part) :: rest := by rw [← hrest]; simp
    have hpt : part.length ≤ 65536 ∧ part ≠ [] ∧ at_ ≤ 65536 := by
      have : part.length ≤ s.length ∧ part ≠ [] ∧ at_ ≤ 0 + s.length := parts_mem s.length s 0 (Nat.le_refl _) (at_, part) (by rw [hrest]; simp)
      exact ⟨by have := this.1; omega, this.2.1, by have := this.2.2; omega⟩
    have hbad : ∀ e : Int, e ≠ 0 → (lexP at_ part).2 = e → scanL (partsM s 0) = ([], e) := fun e he hl => by rw [hrest]; exact scanL_bad g4 hl he
    refine al_stL rfl one4 fun b40 w42 hb40 B40 e42 s42 => ?_
    have z42 := e42.size
    have E42 := ext_trans E2 e42
    have kr : ∀ (e : Int) (v : World), e ≠ 0 → (lexP at_ part).2 = e → Ext w42 v → (stL v ⟨b2, 0, none⟩ 0 [.slice none 0 0] fun w62 => dr (some ⟨b4, 0, none⟩) fun p65 => stL w62 p65 0 [.int .i64 e] fun w64 => Chg (fun k => S1 k ∨ W.heap.size ≤ k) W2 w64 ∧ ∃ S' : Nat → Prop, (∀ k, S' k → (S1 k ∨ W.heap.size ≤ k) ∧ k < w64.heap.size) ∧
        ∃ e : Int, scanL (partsM s 0) = ([], e) ∧ Blk w64 b2 [.slice none 0 0] 43 ∧ Blk w64 b4 [.int .i64 e] 25 ∧ Ext w w64) := by
      intro e v he hl ev
      have ez := ev.size
      refine stL_one ((h2.ext e42).ext ev) rfl fun w62 Ba ca sa => dr_ok ?_
      refine stL_one (ca.blk ((h3.ext e42).ext ev) (by omega)) rfl fun w64 Bb cb sb => ?_
      have E1 : Ext w w64 := ext_two (ext_two (ext_trans E42 ev) ca (by omega)) cb (by omega)
      refine ⟨?_, S1, fun k hk => ⟨.inl hk, by have := (hS1 k hk).1; omega⟩, e, hbad e he hl, cb.blk Ba (by omega), Bb, E1⟩
      refine (Chg.of_ext (ext_trans e42 ev)).trans ((ca.mono fun k _ hk => .inl ((g6 k).2 (.inl hk))).trans (cb.mono fun k _ hk => .inl ((g6 k).2 (.inr (.inl hk)))))
    have kn : ∀ (x : Lx) (v : World), lexP at_ part = ({ x with pos := at_ }, 0) → Ext w42 v ∨ (∃ v', Ext w42 v' ∧ Chg (fun k => k = b40) v' v) → Blk v b40 (cellsX x) 48 → (stL v ((⟨b40, 0, none⟩ : Addr).add 3) 0 [.int .i64 (at_ : Int)] fun w45 =>
        dr (some ⟨b10, 0, none⟩) fun p46 =>
        ∃ (x47 : Option Addr) (x47n : Nat) (x47c : Nat), World.cell? w45 p46 = some (.slice x47 x47n x47c) ∧ (∃ (x48 : Int), World.cell? w45 ((⟨b40, 0, none⟩ : Addr).add 0) = some (.int .i64 x48) ∧ (∃ (x49 : List UInt8), World.cell? w45 ((⟨b40, 0, none⟩ : Addr).add 1) = some (.string ⟨⟨x49⟩⟩) ∧ (∃ (x50 : List UInt8), World.cell? w45 ((⟨b40, 0, none⟩ : Addr).add 2) = some (.string ⟨⟨x50⟩⟩) ∧ (∃ (x51 : Int), World.cell? w45 ((⟨b40, 0, none⟩ : Addr).add 3) = some (.int .i64 x51) ∧ (al w45 48 [.int .i64 x48, .string ⟨⟨x49⟩⟩, .string ⟨⟨x50⟩⟩, .int .i64 x51] fun p52 w53 =>
        app Tryz.prog [43, 43] 43 (.slice x47 x47n x47c) (.slice (some p52) 1 1) w53 fun a54 a54n a54c w55 =>
        dr (some ⟨b10, 0, none⟩) fun p57 =>
        stL w55 p57 0 [.slice a54 a54n a54c] fun w56 =>
        Chg (fun k => S1 k ∨ W.heap.size ≤ k) W2 w56 ∧ ∃ S' : Nat → Prop, (∀ k, S' k → (S1 k ∨ W.heap.size ≤ k) ∧ k < w56.heap.size) ∧
          ∃ (oa : Option Addr) (on oc : Nat) (out : List Lx), Blk w56 b10 [.slice oa on oc] 43 ∧ Blk w56 b2 [.slice none 0 0] 43 ∧ Blk w56 b4 [.int .i64 0] 25 ∧ scanL (pre ++ [(at_, part)]) = (out, 0) ∧ OwnL encX w56 w13.heap.size 48 oa on oc out ∧ (∀ k, S' k ↔ k = b2 ∨ k = b4 ∨ k = b10 ∨ bk oa k) ∧ Ext w w56)))))) := by
      intro x v hx hv Bv
      have cv : Chg (fun k => k = b40) w42 v := by
        rcases hv with hv | ⟨v', hv, hc⟩
        · exact Chg.of_ext hv
        · exact (Chg.of_ext hv).trans hc
      have zv := cv.size
      refine setX3 Bv fun w45 B45 c45 s45 => dr_ok ?_
      have cc : Chg (fun k => k = b40) w42 w45 := cv.trans c45
      obtain ⟨d0, d1, d2, d3⟩ := blk4x (x := { x with pos := at_ }) B45
      have n40 : ¬ bk oa b40 := fun hh => by have := (h5.bk hh).2; omega
      have q10 := cc.blk (h1.ext e42) (by omega)
      have q2 := cc.blk (h2.ext e42) (by omega)
      have q4 := cc.blk (h3.ext e42) (by omega)
      have q5 := (h5.ext e42).chg cc fun k hk hh => n40 (hh ▸ hk)
      refine ⟨oa, on, oc, by rw [q10.cell]; rfl, _, d0, _, d1, _, d2, _, d3, ?_⟩
      have hlen : out.length ≤ 65536 := by
        rw [scanL_len g4]
        have : pre.length ≤ (partsM s 0).length := by rw [hrest]; simp
        omega
      have hon := OwnL.length q5
      refine OwnL.push slT_lex q5 (by omega) { x with pos := at_ } (by omega) (by omega) fun a54 c54 w55 o1 o2 o3 => dr_ok ?_
      have n10 : ∀ k, bk oa k → w13.heap.size ≤ k := fun k hk => (q5.bk hk).1
      refine stL_one (o2.blk q10 (fun hh => by have := n10 _ hh; omega)) rfl fun w56 B56 c56 s56 => ?_
      have n5 : ∀ k, bk a54 k → w13.heap.size ≤ k := fun k hk => (o1.bk hk).1
      have sub4 : ∀ j, bk a54 j → (S1 j ∨ W.heap.size ≤ j) := fun j hj => (o3 j hj).elim (fun h => .inl ((g6 j).2 (.inr (.inr (.inr h))))) (fun h => .inr (by omega))
      have e13s := E13.size
      refine ⟨?_, fun j => j = b2 ∨ j = b4 ∨ j = b10 ∨ bk a54 j, ?_, a54, on + 1, c54, out ++ [{ x with pos := at_ }], B56, ?_, ?_, ?_, ?_, fun k => Iff.rfl, ?_⟩
      · refine (Chg.of_ext e42).trans ((cc.mono fun k _ hk => .inr (by omega)).trans ((o2.mono fun k _ hk => .inl ((g6 k).2 (.inr (.inr (.inr hk))))).trans (c56.mono fun k _ hk => .inl ((g6 k).2 (.inr (.inr (.inl hk)))))))
      · intro k hk
        have zz := o2.size
        rcases hk with rfl | rfl | rfl | hk
        · exact ⟨.inl ((g6 _).2 (.inl rfl)), by omega⟩
        · exact ⟨.inl ((g6 _).2 (.inr (.inl rfl))), by omega⟩
        · exact ⟨.inl ((g6 _).2 (.inr (.inr (.inl rfl)))), by omega⟩
        · exact ⟨sub4 k hk, by have := (o1.bk hk).2; omega⟩
      · exact c56.blk (o2.blk q2 (fun hh => by have := n10 _ hh; omega)) (by omega)
      · exact c56.blk (o2.blk q4 (fun hh => by have := n10 _ hh; omega)) (by omega)
      · rw [scanL_app g4, scanL_one hx]; rfl
      · exact o1.chg c56 fun k hk hh => by have := n5 k hk; omega
      · refine ext_two (ext_chgS (ext_two (ext_trans E2 e42) cc (by omega)) o2 fun k hk => by have := n10 k hk; omega) c56 (by omega)
    intro K43 hK43
    have hpos : part.length ≠ 0 := fun hh => hpt.2.1 (List.length_eq_zero_iff.1 hh)
    obtain ⟨c0, r0, hcr⟩ : ∃ c0 r0, part = c0 :: r0 := by
      cases part with
      | nil => exact absurd rfl hpt.2.1
      | cons c0 r0 => exact ⟨c0, r0, rfl⟩
    refine sidx_int (l := part) 0 rfl (by omega) ?_
    have hp0 : part[0]'(by omega) = c0 := by simp [hcr]
    rw [hp0]
    have hhd : part.head? = some c0 := by rw [hcr]; rfl
    refine br_split (fun g60 => ?_) (fun g60 => ?_)
    · have hne : part.head? ≠ some 60 := by
        rw [hhd]; intro hh
        have : c0 = 60 := Option.some.inj hh
        exact g60 (by rw [this]; rfl)
      refine Check_spec part fun w60 e60 => ⟨_, rfl, br_split (fun gc => dr_ok ?_) (fun gc => ?_)⟩
      · exact kr 11 w60 (by decide) (by unfold lexP; rw [if_pos hne, if_neg gc]) e60
      · refine hK43 _ fun _ => kn ⟨1, [], part, 0⟩ w60 ?_ (.inl e60) (B40.ext e60)
        unfold lexP; rw [if_pos hne, if_pos (by simpa using gc)]
    · have h60 : c0 = 60 := by
        have : c0.toNat = 60 := by omega
        exact UInt8.toNat_inj.1 this
      have hhd' : part.head? = some 60 := by rw [hhd, h60]
      have hlast : part.getLast? = some (part[part.length - 1]'(by omega)) := by rw [List.getLast?_eq_getElem?, List.getElem?_eq_getElem]
      rw [show (((at_, part) : Nat × List UInt8).2.length : Int) - 1 = ((part.length - 1 : Nat) : Int) by show ((part.length : Int) - 1) = _; omega, wrap_id (by omega)]
      refine sidx_nat (l := part) (by omega) ?_
      refine br_split (fun g62 => dr_ok ?_) (fun g62 => ?_)
      · refine kr 3 w42 (by decide) ?_ (Below.refl _ _)
        unfold lexP
        rw [if_neg (by simpa using hhd'), if_pos]
        rw [hlast]; intro hh
        exact g62 (by rw [Option.some.inj hh]; rfl)
      · have hl62 : part.getLast? = some 62 := by
          have : (part[part.length - 1]'(by omega)) = 62 := UInt8.toNat_inj.1 (by show _ = 62; omega)
          rw [hlast, this]
        obtain ⟨m, hm⟩ := part_mid hhd' hl62
        have hlx : lexP at_ part = if (readF part).2 = 0 then ({ (readF part).1 with pos := at_ }, 0) else (zeroX, (readF part).2) := by
          unfold lexP; rw [if_neg (by simpa using hhd'), if_neg (by simpa using hl62)]
        have hml : m.length ≤ 100000000 := by
          have := congrArg List.length hm
          simp at this; omega
        have hrs := fun K hk => read_spec (R := K) m hml (hM.ext E42) hk
        rw [← hm] at hrs
        refine hrs _ fun w72 e72 => ⟨_, _, _, _, _, rfl, ?_⟩
        refine al_stL rfl one4 fun b78 w80 hb78 B78 e80 s80 => ?_
        have e4280 := ext_trans e72 e80
        have z80 := e4280.size
        refine br_split (fun ge => dr_ok ?_) (fun ge => ?_)
        · exact kr (readF part).2 w80 ge (by rw [hlx, if_neg ge]) e4280
        · obtain ⟨y0, y1, y2, y3⟩ := blk4x B78
          refine ⟨_, y0, _, y1, _, y2, _, y3, ?_⟩
          refine stX (B40.ext e4280) rfl fun w89 B89 c89 s89 => hK43 _ fun _ => kn (readF part).1 w89 ?_ (.inr ⟨w80, e4280, c89⟩) B89
          rw [hlx, if_pos (by simpa using ge)]
  · rintro D S1 W hD1 hD2 hD3 hD4 ⟨oa, on, oc, out, g1, g2, g3, g4, g5, g6, g7⟩
    rw [g4] at h
    have hDb : ¬ bk oa D := fun hh => hD3 ((g6 D).2 (.inr (.inr (.inr hh))))
    have e13s := E13.size
    refine ⟨oa, on, oc, by rw [g1.cell]; rfl, ?_⟩
    refine stL_one g2 rfl fun w25 Ba ca sa => ?_
    refine stL_one (ca.blk g3 (by omega)) rfl fun w26 Bb cb sb => ?_
    have hD4' : w26.heap[D]? = some (.deferred (some [])) := by rw [cb.block D (by omega) (by omega), ca.block D (by omega) (by omega)]; exact hD4
    refine retD_one hD4' ?_
    have hcp : Chg (fun k => k = D) w26 (w26.putObj D (.deferred none)) := Chg.put w26 D _ rfl
    have n10 : ∀ k, bk oa k → w13.heap.size ≤ k := fun k hk => (g5.bk hk).1
    have o1 := ((g5.chg ca fun k hk hh => by have := n10 k hk; omega).chg cb fun k hk hh => by have := n10 k hk; omega).chg hcp fun k hk hh => hDb (hh ▸ hk)
    have E26 : Ext w w26 := ext_two (ext_two g7 ca (by omega)) cb (by omega)
    refine ⟨oa, on, oc, by rw [(hcp.blk (cb.blk Ba (by omega)) (by omega)).cell]; rfl, 0, by rw [(hcp.blk Bb (by omega)).cell]; rfl, ?_⟩
    refine h oa on oc _ (OwnL.length g5).symm ⟨o1.1, o1.2.imp id ?_⟩ (ext_put E26 (by omega) _)
    rintro ⟨g, cap, cur, p1, p2, p3⟩
    exact ⟨g, cap, cur, p1, by omega, p3⟩
  · rintro D S1 W hD1 hD2 hD3 hD4 ⟨e, g1, g2, g3, g4⟩
    rw [g1] at h
    have e13s := E13.size
    refine retD_one hD4 ?_
    have hcp : Chg (fun k => k = D) W (W.putObj D (.deferred none)) := Chg.put W D _ rfl
    refine ⟨none, 0, 0, by rw [(hcp.blk g2 (by omega)).cell]; rfl, e, by rw [(hcp.blk g3 (by omega)).cell]; rfl, ?_⟩
    exact h none 0 0 _ rfl (Owns.nil _ _ _ _) (ext_put g4 (by omega) _)
end Go.Proofs
namespace Go.Proofs
open Go Go.Sh Go.RowKit

variable {R : Ending → World → Prop} {w : World}
theorem get_lx {S : Nat → Prop} {a : Option Addr} {n : Nat} {L : List Lx} (h : RowAt encX S w a n L) {k : Nat} (hk : k < L.length) :
    ∃ q : Addr, (∀ K : Addr → Prop, K q → idx a n (k : Int) 4 K) ∧ w.cell? (q.add 0) = some (.int .i64 L[k].k) ∧ w.cell? (q.add 1) = some (.string ⟨⟨L[k].nm⟩⟩) ∧ w.cell? (q.add 2) = some (.string ⟨⟨L[k].vl⟩⟩) ∧ w.cell? (q.add 3) = some (.int .i64 L[k].pos) := by
  obtain ⟨bb, o, hq, _, _, hc⟩ := h.get (i := k) (x := L[k]) (List.getElem?_eq_getElem hk)
  exact ⟨⟨bb, o, none⟩, hq, by rw [add_none]; exact hc 0 _ rfl, by rw [add_none]; exact hc 1 _ rfl, by rw [add_none]; exact hc 2 _ rfl, by rw [add_none]; exact hc 3 _ rfl⟩
/- how much lexemes hold -/
def totX : List Lx → Nat
  | [] => 0
  | x :: r => x.nm.length + x.vl.length + 4 + totX r
theorem text_le (x : Lx) : (textF x).length ≤ x.nm.length + x.vl.length + 4 := by
  have hi : (innF x.nm x.vl).length ≤ x.nm.length + x.vl.length + 1 := by unfold innF; split <;> first | omega | (simp; omega)
  unfold textF
  repeat' split
  all_goals first | omega | (simp; omega)
theorem print_le : ∀ l : List Lx, (printX l).length ≤ totX l
  | [] => Nat.le_refl _
  | x :: r => by
    have := print_le r
    have := text_le x
    rw [print_cons, List.length_append, totX]; omega
theorem totX_get : ∀ {l : List Lx} {k : Nat} (h : k < l.length), l[k].nm.length + l[k].vl.length + 4 ≤ totX l
  | x :: r, 0, _ => by rw [totX]; simp
  | x :: r, k + 1, h => by
    have := totX_get (l := r) (k := k) (by simpa using h)
    rw [totX]
    simp only [List.getElem_cons_succ]; omega
theorem totX_len : ∀ l : List Lx, l.length ≤ totX l
  | [] => Nat.le_refl _
  | x :: r => by have := totX_len r; rw [totX, List.length_cons]; omega
theorem print_take (l : List Lx) (k : Nat) : (printX (l.take k)).length ≤ totX l := by
  have h := print_le l
  have : printX l = printX (l.take k) ++ printX (l.drop k) := by rw [← print_app, List.take_append_drop]
  rw [this, List.length_append] at h; omega
theorem print_succ {l : List Lx} {k : Nat} (h : k < l.length) : printX (l.take (k + 1)) = printX (l.take k) ++ textF l[k] := by
  rw [List.take_succ_eq_append_getElem h, print_app, print_cons]
  show _ ++ (_ ++ []) = _
  rw [List.append_nil]
theorem lastK_succ {l : List Lx} {k : Nat} (h : k < l.length) (pt : Bool) : lastK pt (l.take (k + 1)) = decide (l[k].k = 1) := by
  unfold lastK
  rw [List.take_succ_eq_append_getElem h, List.getLast?_concat]

set_option maxRecDepth 20000 in
theorem Check_spec9 {S : Nat → Prop} {a : Option Addr} {n c : Nat} (L : List Lx) (hL : RowAt encX S w a n L) (hT : totX L ≤ 1000000000) (hM : Mk w) (h : ∀ w', Ext w w' → R (.returned (.int .i64 (chkX L))) w') :
    Calls Tryz.prog F_markup_Check ⟨[.slice a n c]⟩ w R := by
  apply c_markup_Check
  have hn : n = L.length := hL.1
  have hln := totX_len L
  refine ⟨fun at_ t W m => ∃ k : Nat, t = k ∧ k ≤ n ∧ m = n - k ∧ at_ = ((printX (L.take k)).length : Int) ∧ chkX L = chkGo (L.drop k) (lastK false (L.take k)) (printX (L.take k)).length ∧ Ext w W, ⟨_, 0, rfl, by omega, rfl, rfl, rfl, Below.refl _ _⟩, ?_⟩
  rintro _ _ W m ⟨k, rfl, hk, rfl, rfl, heq, he⟩ _
  have hpk := print_take L k
  refine br_split (fun hlt => ?_) (fun hge => ?_)
  · have hkL : k < L.length := by omega
    obtain ⟨q, hq, c0, c1, c2, c3⟩ := get_lx (hL.ext he) hkL
    have hx := totX_get hkL
    refine hq _ ⟨_, c0, _, c1, _, c2, _, c3, ?_⟩
    refine al_stL rfl one4 fun bx w15 hbx Bx e15 s15 => ?_
    obtain ⟨d0, d1, d2, d3⟩ := blk4x (x := L[k]) Bx
    refine ⟨_, d0, _, d1, _, d2, _, d3, ?_⟩
    have E15 := ext_trans he e15
    rw [List.drop_eq_getElem_cons hkL, chkGo] at heq
    generalize hxk : L[k] = x at *
    refine single_spec9 x fun w21 e21 => ⟨_, rfl, br_split (fun g1 => ?_) (fun g1 => ?_)⟩
    · have : chkOne x (lastK false (L.take k)) ((printX (L.take k)).length : Int) = singleX x := by unfold chkOne; rw [if_pos g1]
      rw [this, if_pos g1] at heq
      rw [← heq]; exact h w21 (ext_trans E15 e21)
    intro K23 hK23
    have hsx : singleX x = 0 := Classical.not_not.1 g1
    have k23 : ∀ w24, Ext w15 w24 → ¬ (x.k = 1 ∧ lastK false (L.take k) = true) → K23 w24 := by
      intro w24 e24 g2
      refine hK23 _ fun _ => ?_
      intro K25 hK25
      have k25 : ∀ w26, Ext w15 w26 → (x.k ≠ 1 → rightX x = true) → K25 w26 := by
        intro w26 e26 g3
        refine hK25 _ fun _ => ?_
        refine ⟨_, cell_ext d3 e26, br_split (fun g4 => ?_) (fun g4 => ?_)⟩
        · have : chkOne x (lastK false (L.take k)) ((printX (L.take k)).length : Int) = 9 := by
            unfold chkOne
            rw [if_neg (by simpa using hsx), if_neg g2, if_neg (fun hh => by rw [g3 hh.1] at hh; cases hh.2), if_pos g4]
          rw [this, if_pos (by decide)] at heq
          rw [← heq]; exact h w26 (ext_trans E15 e26)
        · have h0 : chkOne x (lastK false (L.take k)) ((printX (L.take k)).length : Int) = 0 := chk_ok hsx g2 g3 (Classical.not_not.1 g4)
          rw [h0, if_neg (by decide)] at heq
          refine ⟨_, cell_ext d0 e26, _, cell_ext d1 e26, _, cell_ext d2 e26, _, cell_ext d3 e26, ?_⟩
          refine text_spec x (by omega) (by omega) fun w33 e33 => ⟨_, rfl, ?_⟩
          have htl := text_le x
          refine ⟨n - (k + 1), by omega, k + 1, by rw [wrap_nat (by omega)], by omega, rfl, ?_, ?_, ext_trans E15 (ext_trans e26 e33)⟩
          · rw [print_succ hkL, hxk, List.length_append, wrap_id (by omega)]; omega
          · rw [heq, print_succ hkL, lastK_succ hkL, hxk, List.length_append]
      refine ⟨_, cell_ext d0 e24, br_split (fun gk => ?_) (fun gk => k25 w24 e24 (fun hh => absurd hh gk))⟩
      refine ⟨_, cell_ext d0 e24, _, cell_ext d1 e24, _, cell_ext d2 e24, _, cell_ext d3 e24, ?_⟩
      have hkn : x.k = 3 ∨ knownB x.nm = true := by
        right
        unfold singleX at hsx
        rw [if_neg gk] at hsx
        split at hsx
        · split at hsx
          · rename_i hh; exact hh.1
          · cases hsx
        · cases hsx
      refine right_spec9 x hkn (by omega) (hM.ext (ext_trans E15 e24)) fun w42 e42 => ⟨_, rfl, ?_⟩
      refine br_cases (fun g3 => ?_) (fun g3 => k25 w42 (ext_trans e24 e42) fun _ => by simpa using g3)
      have g3 : rightX x = false := by simpa using g3
      have : chkOne x (lastK false (L.take k)) ((printX (L.take k)).length : Int) = 3 := by
        unfold chkOne
        rw [if_neg (by simpa using hsx), if_neg g2, if_pos ⟨gk, g3⟩]
      rw [this, if_pos (by decide)] at heq
      rw [← heq]; exact h w42 (ext_trans E15 (ext_trans e24 e42))
    refine ⟨_, cell_ext d0 e21, br_split (fun gk => ?_) (fun gk => k23 w21 e21 (fun hh => gk hh.1))⟩
    refine br_split (fun gt => ?_) (fun gt => ?_)
    · obtain ⟨j, rfl⟩ : ∃ j, k = j + 1 := ⟨k - 1, by omega⟩
      have hj : j < L.length := by omega
      obtain ⟨q', hq', c0', _⟩ := get_lx (hL.ext (ext_trans E15 e21)) hj
      rw [show ((j + 1 : Nat) : Int) - 1 = (j : Int) by omega, wrap_id (by omega)]
      refine hq' _ ⟨_, c0', br_split (fun gj => ?_) (fun gj => ?_)⟩
      · have : chkOne x (lastK false (L.take (j + 1))) ((printX (L.take (j + 1))).length : Int) = 10 := by
          unfold chkOne
          rw [if_neg (by simpa using hsx), if_pos ⟨gk, by rw [lastK_succ hj]; exact decide_eq_true gj⟩]
        rw [this, if_pos (by decide)] at heq
        rw [← heq]; exact h w21 (ext_trans E15 e21)
      · exact k23 w21 e21 fun hh => by rw [lastK_succ hj] at hh; exact gj (of_decide_eq_true hh.2)
    · refine k23 w21 e21 fun hh => ?_
      have : k = 0 := by omega
      subst this
      rw [List.take_zero] at hh
      cases hh.2
  · have hkn : k = L.length := by omega
    subst hkn
    rw [List.drop_length, List.take_length, chkGo] at heq
    rw [List.take_length]
    refine br_split (fun g => ?_) (fun g => ?_)
    · rw [if_pos (by omega)] at heq; rw [← heq]; exact h W he
    · rw [if_neg (by omega)] at heq; rw [← heq]; exact h W he

/- what scanning yields holds no more than the string -/
theorem tot_scan : ∀ (l : List Lx) (pt : Bool) (at_ : Nat), chkGo l pt at_ = 0 → totX l ≤ 5 * (printX l).length + 4 * l.length
  | [], _, _, _ => Nat.zero_le _
  | x :: r, pt, at_, h => by
    have ih := tot_scan r _ _ (chkGo_cons.1 h).2
    have hx : x.nm.length + x.vl.length ≤ (textF x).length := by
      have hi : x.nm.length + x.vl.length ≤ (innF x.nm x.vl).length := by
        unfold innF; split
        · simp <;> omega
        · rename_i hv; have : x.vl = [] := by simpa using hv
          rw [this]; simp
      obtain ⟨a, _⟩ := chk_inv (chkGo_cons.1 h).1
      by_cases hk : x.k = 1
      · obtain ⟨e1, _, _, e4⟩ := text_form a hk
        rw [e4, e1]; simp
      · unfold singleX at a
        rw [if_neg hk] at a
        split at a
        · rename_i h3
          unfold textF
          rcases h3 with h3 | h3 | h3 <;> simp [h3] <;> omega
        · cases a
    rw [totX, print_cons, List.length_append, List.length_cons]; omega
theorem scan_small (s : List UInt8) : totX (scanF s).1 ≤ 1000000000 ∧ (scanF s).1.length ≤ 65536 := by
  by_cases h0 : (scanF s).2 = 0
  · have he : scanF s = ((scanF s).1, 0) := by rw [← h0]
    obtain ⟨h1, h2⟩ := scan_print he
    have h3 := tot_scan _ _ _ h1
    have hs : s.length ≤ 65536 := by
      unfold scanF at h0
      split at h0
      · cases h0
      · omega
    have h4 : (scanF s).1.length ≤ 65536 := by
      have e : scanL (partsM s 0) = ((scanF s).1, 0) := by
        have := he
        unfold scanF at this ⊢
        rw [if_neg (by omega)] at this ⊢
        exact this
      have := scanL_len e
      have := partsM_len s.length s 0 (Nat.le_refl _)
      omega
    rw [h2] at h3
    exact ⟨by omega, h4⟩
  · rw [scanF_err h0]; exact ⟨Nat.zero_le _, Nat.zero_le _⟩
end Go.Proofs
namespace Go.Proofs
open Go Go.Sh Go.RowKit

variable {R : Ending → World → Prop} {w : World}
theorem slT_strM : SlT Tryz.prog 52 9 1 16 (.string ⟨#[]⟩) := ⟨Tryz.underlying52, by kernel_rfl, rfl, by decide⟩
/- cutting the end off -/
theorem owns_cut {B : Nat} {e : TypeId} {size : Nat} {a : Option Addr} {n c : Nat} {xs : List Value} (h : Owns w B e size a n c xs) {m : Nat} (hm : m ≤ n) : Owns w B e size a m c (xs.take (m * size)) := by
  obtain ⟨h1, h2⟩ := h
  have hmn : m * size ≤ n * size := Nat.mul_le_mul_right _ hm
  refine ⟨by rw [List.length_take, h1]; omega, ?_⟩
  rcases h2 with ⟨e1, e2⟩ | ⟨g, cap, cur, e1, e2, e3, e4, e5, e6, e7⟩
  · have hm0 : m = 0 := by omega
    obtain ⟨rfl, _, rfl⟩ : a = none ∧ n = 0 ∧ c = 0 := by simpa using e1
    subst hm0
    exact .inl ⟨rfl, rfl⟩
  · obtain ⟨rfl, rfl⟩ : a = some ⟨g, 0, none⟩ ∧ c = cap := by simpa using e1
    refine .inr ⟨g, c, cur, rfl, e2, e3, by omega, e5, e6, ?_⟩
    rw [← e7, List.take_take, Nat.min_eq_left hmn]
theorem ownL_cut {α : Type} {E : Enc α} {B : Nat} {e : TypeId} {a : Option Addr} {n c : Nat} {l : List α} (h : OwnL E w B e a n c l) {m : Nat} (hm : m ≤ n) : OwnL E w B e a m c (l.take m) := by
  have h2 := owns_cut h hm
  have hl := OwnL.length h
  have : (E.row l).take (m * E.size) = E.row (l.take m) := by
    have hr : E.row l = E.row (l.take m) ++ E.row (l.drop m) := by rw [← row_app, List.take_append_drop]
    have hlen : (E.row (l.take m)).length = m * E.size := by rw [row_len, List.length_take, Nat.min_eq_left (by omega)]
    rw [hr, List.take_left' hlen]
  rwa [this] at h2
theorem owns_le {B : Nat} {e : TypeId} {size : Nat} {a : Option Addr} {n c : Nat} {xs : List Value} (h : Owns w B e size a n c xs) : n ≤ c := by
  rcases h.2 with ⟨e1, e2⟩ | ⟨g, cap, cur, e1, _, _, e4, _⟩
  · obtain ⟨_, h, h'⟩ : a = none ∧ n = 0 ∧ c = 0 := by simpa using e1
    omega
  · obtain ⟨_, h⟩ : a = some ⟨g, 0, none⟩ ∧ c = cap := by simpa using e1
    omega
theorem sls_cut {a : Option Addr} {c sz : Nat} {m : Nat} (hm : m ≤ c) (ha : ∀ p, a = some p → p.add 0 = p) {K : Option Addr → Nat → Nat → Prop} (h : K a m c) : sls a c 0 (m : Int) sz K := by
  refine ⟨by omega, by omega, by omega, ?_⟩
  have e : slA a c (0 : Int).toNat sz = a := by
    unfold slA
    split
    · rfl
    · cases a with
      | none => rfl
      | some p => show some (p.add (0 * sz)) = some p; rw [Nat.zero_mul, ha p rfl]
  rw [e]
  simpa using h
theorem get_str {S : Nat → Prop} {a : Option Addr} {n : Nat} {L : List (List UInt8)} (h : RowAt Sh.encStr S w a n L) {k : Nat} (hk : k < L.length) :
    ∃ q : Addr, (∀ K : Addr → Prop, K q → idx a n (k : Int) 1 K) ∧ w.cell? q = some (.string ⟨⟨L[k]⟩⟩) := by
  obtain ⟨bb, o, hq, _, _, hc⟩ := h.get (i := k) (x := L[k]) (List.getElem?_eq_getElem hk)
  exact ⟨⟨bb, o, none⟩, hq, by have := hc 0 _ rfl; rwa [Nat.add_zero] at this⟩

set_option maxRecDepth 20000 in
theorem Nested_spec {S : Nat → Prop} {a : Option Addr} {n c : Nat} (L : List Lx) (hL : RowAt encX S w a n L) (hT : totX L ≤ 1000000000) (hM : Mk w) (h : ∀ w', Ext w w' → R (.returned (.int .i64 (nestX L))) w') :
    Calls Tryz.prog F_markup_Nested ⟨[.slice a n c]⟩ w R := by
  apply c_markup_Nested
  have hn : n = L.length := hL.1
  have hln := totX_len L
  refine Check_spec9 L hL hT hM fun w3 e3 => ⟨_, rfl, br_split (fun g => ?_) (fun g => ?_)⟩
  · have := h w3 e3; unfold nestX at this; rwa [if_pos g] at this
  unfold nestX at h
  rw [if_neg g] at h
  have z3 := e3.size
  refine ⟨fun oa on oc t W m => ∃ (k : Nat) (st : List (List UInt8)), t = k ∧ k ≤ n ∧ m = n - k ∧ st.length ≤ 16 ∧ on = st.length ∧ OwnL Sh.encStr W w3.heap.size 9 oa on oc st.reverse ∧ nestGo L [] = nestGo (L.drop k) st ∧ Ext w3 W, ⟨_, 0, [], rfl, by omega, rfl, by simp, rfl, Owns.nil _ _ _ _, rfl, Below.refl _ _⟩, ?_⟩
  rintro oa on oc _ W m ⟨k, st, rfl, hk, rfl, hst, rfl, hO, heq, he⟩ _
  refine br_split (fun hlt => ?_) (fun hge => ?_)
  · have hkL : k < L.length := by omega
    obtain ⟨q, hq, c0, c1, c2, c3⟩ := get_lx (hL.ext (ext_trans e3 he)) hkL
    refine hq _ ⟨_, c0, _, c1, _, c2, _, c3, ?_⟩
    refine al_stL rfl one4 fun bx w18 hbx Bx e18 s18 => ?_
    obtain ⟨d0, d1, d2, d3⟩ := blk4x (x := L[k]) Bx
    rw [List.drop_eq_getElem_cons hkL, nestGo] at heq
    generalize hxk : L[k] = x at *
    have z := he.size
    have E18 := ext_trans (ext_trans e3 he) e18
    refine ⟨_, d0, br_split (fun g2 => ⟨_, d1, ?_⟩) (fun g2 => br_split (fun g3 => ?_) (fun g3 => ?_))⟩
    · rw [if_pos g2] at heq
      refine OwnL.push slT_strM (hO.ext e18) (by omega) x.nm (by omega) (by omega) fun a' c' w24 o1 o2 o3 => ?_
      have E24 : Ext w3 w24 := ext_chgS (ext_trans he e18) o2 fun j hj => ((hO.ext e18).bk hj).1
      refine br_split (fun g16 => ?_) (fun g16 => ?_)
      · rw [if_pos (by omega)] at heq
        rw [← heq]; exact h w24 (ext_trans e3 E24)
      · rw [if_neg (by omega)] at heq
        refine ⟨n - (k + 1), by omega, k + 1, x.nm :: st, by rw [wrap_nat (by omega)], by omega, rfl, by rw [List.length_cons]; omega, by rw [List.length_cons], ?_, heq, E24⟩
        rw [List.reverse_cons]; exact o1
    · rw [if_neg g2, if_pos g3] at heq
      intro K26 hK26
      have hOd := (hO.ext e18).ext (ext_drew w18)
      have Ed := ext_trans (ext_trans he e18) (ext_drew w18)
      unfold drw
      refine br_split (fun g4 => ?_) (fun g4 => ?_)
      · have hs0 : st = [] := List.length_eq_zero_iff.1 (by omega)
        subst hs0
        have hp : popS x.nm [] = none := rfl
        rw [hp] at heq
        have := h _ (ext_trans e3 Ed)
        rwa [heq] at this
      · obtain ⟨t, st', rfl⟩ : ∃ t st', st = t :: st' := by
          cases st with
          | nil => exact absurd rfl g4
          | cons t st' => exact ⟨t, st', rfl⟩
        have hlr : (t :: st').reverse.length = st'.length + 1 := by simp
        rw [List.length_cons] at *
        rw [show ((st'.length + 1 : Nat) : Int) - 1 = (st'.length : Int) by omega, wrap_id (by omega)]
        obtain ⟨q', hq', cq⟩ := get_str (OwnL.out hOd) (k := st'.length) (by rw [hlr]; omega)
        have hlast : (t :: st').reverse[st'.length]'(by rw [hlr]; omega) = t := by simp
        rw [hlast] at cq
        refine hq' _ ⟨_, cq, _, cell_ext d1 (ext_drew w18), br_split (fun g5 => ?_) (fun g5 => ?_)⟩
        · have hp : popS x.nm (t :: st') = none := if_neg g5
          rw [hp] at heq
          have := h _ (ext_trans e3 Ed)
          rwa [heq] at this
        · have hp : popS x.nm (t :: st') = some st' := if_pos (Classical.not_not.1 g5)
          rw [hp] at heq
          refine hK26 _ fun _ => ?_
          rw [show ((st'.length + 1 : Nat) : Int) - 1 = (st'.length : Int) by omega, wrap_id (by omega)]
          have hcut := ownL_cut hOd (m := st'.length) (by omega)
          rw [List.reverse_cons, List.take_left' (by simp)] at hcut
          have hle := owns_le hOd
          refine sls_cut (by omega) ?_ ?_
          · intro p hp
            rcases hOd.2 with ⟨_, e2⟩ | ⟨gg, cap, cur, e1, _⟩
            · exact absurd e2 (by omega)
            · have e1 := (Value.slice.inj e1).1
              rw [e1] at hp; rw [← Option.some.inj hp]; rfl
          · exact ⟨n - (k + 1), by omega, k + 1, st', by rw [wrap_nat (by omega)], by omega, rfl, by omega, rfl, hcut, heq, Ed⟩
    · rw [if_neg g2, if_neg g3] at heq
      exact ⟨n - (k + 1), by omega, k + 1, st, by rw [wrap_nat (by omega)], by omega, rfl, hst, rfl, hO.ext e18, heq, ext_trans he e18⟩
  · have hkn : k = L.length := by omega
    subst hkn
    rw [List.drop_length, nestGo] at heq
    refine br_split (fun g5 => ?_) (fun g5 => ?_)
    · rw [if_neg (fun hh => by rw [hh] at g5; simp at g5)] at heq
      rw [← heq]; exact h W (ext_trans e3 he)
    · have hs0 : st = [] := List.length_eq_zero_iff.1 (by omega)
      rw [if_pos hs0] at heq
      rw [← heq]; exact h W (ext_trans e3 he)
end Go.Proofs
namespace Go.Proofs
open Go Go.Sh Go.RowKit

end Go.Proofs
namespace Go.Proofs
open Go Go.Sh Go.RowKit

instance : DecidableEq Lx := fun a b => decidable_of_iff (a.k = b.k ∧ a.nm = b.nm ∧ a.vl = b.vl ∧ a.pos = b.pos) (by
  cases a; cases b; simp)
variable {R : Ending → World → Prop} {w : World}
/- lexemes that are more, or longer, than the statements examine -/
/- what lies in memory is not longer than memory -/
/- the example of the chapter -/
end Go.Proofs
namespace Go.Proofs
open Go Go.Sh Go.RowKit

/- growing the nil slice: room is made, nothing is held -/
theorem grow_nilM {P : Program} {t tn ty e : TypeId} {size bytes : Nat} {z : Value} (hT : SlT P t e size bytes z) (htn : P.underlying tn = some (.int .i64)) {w : World} {B : Nat} (hB : B ≤ w.heap.size) (k : Nat) (h0 : 0 < k) (hb : k * bytes ≤ 140737488355328) (hk63 : k ≤ 4611686018427387904)
    {K : Option Addr → Nat → Nat → World → Prop} (hk : ∀ (c : Nat) w', Owns w' B e size (some ⟨w.heap.size, 0, none⟩) 0 c [] → Ext w w' → K (some ⟨w.heap.size, 0, none⟩) k c w') :
    app P [t, tn] ty (.slice none 0 0) (.int .i64 (k : Int)) w K := by
  obtain ⟨i, hi, hz, hs, hbb⟩ := hT.get
  have hpos := hT.pos
  have hr := Lib.run_append_grow_zeros (P := P) w t tn ty e i z .i64 .i64 hT.under htn hi hz none 0 0 [] (run_firstCells_none w.drew i.size 0 0 0) k h0 (by omega) (by omega) (by omega) (by rw [hbb]; omega) (by
    rw [hbb]; exact growslice_fits (by omega) (by rw [Nat.zero_add]; omega))
  rw [Nat.zero_add] at hr
  refine ⟨_, _, _, _, hr, hk _ _ ?_ (ext_trans (ext_drew w) ((Below.refl _ _).alloc (Nat.le_refl _) _))⟩
  refine ⟨by simp, .inr ⟨w.heap.size, _, #[] ++ Builtin.zeroCells z.cells k ++ Builtin.zeroCells z.cells (grownCap w k 0 e - k), rfl, hB, ?_, Nat.zero_le _, grownCap_le_maxLen w k 0 e (by simp only [maxLen]; omega), ?_, by simp⟩⟩
  · exact heap_alloc_new w.drew _
  · have hge := grownCap_ge w k 0 e
    have hzs : z.cells.size = i.size := by rw [hT.zs, hs]
    simp only [Builtin.zeroCells, Array.size_append, Array.size_map, Array.size_range, hzs, hs, List.size_toArray, List.length_nil, Nat.zero_add]
    rw [← Nat.add_mul]
    congr 1
    omega
variable {R : Ending → World → Prop} {w : World}
/- writing an offset -/
/- lexemes with their right offsets -/
end Go.Proofs
namespace Go.Proofs
open Go Go.Sh Go.RowKit

variable {R : Ending → World → Prop} {w : World}
/- the form of a lexeme: what closes has no value -/
end Go.Proofs
namespace Go.Proofs
open Go Go.Sh Go.RowKit

variable {R : Ending → World → Prop} {w : World}
/- the rest of a tag, its slash taken off -/
end Go.Proofs
namespace Go.Proofs
open Go Go.Sh Go.RowKit

variable {R : Ending → World → Prop} {w : World}
/- the first of a byte, looked for one by one -/
/- no > in it: not a tag -/
/- taking out the tags -/
end Go.Proofs
namespace Go.Proofs
open Go Go.Sh Go.RowKit

variable {R : Ending → World → Prop} {w : World}
end Go.Proofs
namespace Go.Proofs
open Go Go.Sh Go.RowKit

variable {R : Ending → World → Prop} {w : World}
theorem kf {K : Bool → World → Prop} {w : World} {p : Prop} [Decidable p] (hk : K (decide p) w) (h : ¬ p) : K false w := by rw [decide_eq_false h] at hk; exact hk
/- the same reasons, in the order of the reference -/
end Go.Proofs
namespace Go.Proofs
open Go Go.Sh Go.RowKit

variable {R : Ending → World → Prop} {w : World}
/- lexemes that are checked have the form of their text -/
end Go.Proofs
namespace Go.Proofs
open Go Go.Sh Go.RowKit

theorem depth_app (f g : Fo) : (f.app g).depth = max f.depth g.depth := by
  induction f with
  | nil => simp [Fo.depth]
  | cons k t n ps r _ ih => simp only [Fo.cons_app, Fo.depth_parts, ih]; omega
def szF (f : Fo) (depth most : Nat) : List Value := if f.size ≤ most ∧ f.depth ≤ depth then [.int .i64 f.size, .int .i64 f.depth, .bool true] else [.int .i64 0, .int .i64 0, .bool false]

theorem size10_spec {S : Nat → Prop} : ∀ (f : Fo) {R : Ending → World → Prop} {w : World} {a : Option Addr} {n c : Nat} (d most : Nat) (hd : d ≤ 4611686018427387904) (hm : most ≤ 4611686018427387904) (hf : SlF S w a n f)
    (h : ∀ w', Ext w w' → R (.returned (.tuple ⟨szF f d most⟩)) w'), Calls Tryz.prog F_ref10_size ⟨[.slice a n c, .int .i64 (d : Int), .int .i64 (most : Int)]⟩ w R := by
  intro f
  induction hz : f.size using Nat.strongRecOn generalizing f with
  | _ z ih =>
  intro R w a n c d most hd hm hf h
  apply c_ref10_size
  have hn := hf.1
  refine ⟨fun k deep i W m => ∃ (pre r : Fo), f = pre.app r ∧ i = pre.len ∧ k = pre.size ∧ deep = pre.depth ∧ m = r.len ∧ Ext w W ∧ pre.size ≤ most ∧ pre.depth ≤ d, ⟨_, .nil, f, rfl, rfl, rfl, rfl, rfl, Below.refl _ _, by simp [Fo.size], by simp [Fo.depth]⟩, ?_⟩
  rintro _ _ _ W m ⟨pre, r, hpr, rfl, rfl, rfl, rfl, he, hs1, hs2⟩ _
  have hpl := pre.len_le_size
  refine br_split (fun hlt => ?_) (fun hge => ?_)
  · obtain ⟨kd, t, mm, ps, r, rfl⟩ := Fo.next hpr (by omega)
    have hsl := Fo.sub_len hpr
    have hsz : f.size = pre.size + (ps.size + r.size + 1) := by rw [hpr, Fo.size_app]; rfl
    have hdp : f.depth = max pre.depth (max (if ps.len = 0 then 0 else ps.depth + 1) r.depth) := by rw [hpr, depth_app, Fo.depth_parts]
    obtain ⟨q, a', c', hq, hSq, hql, hN⟩ := (hf.ext he).get hpr
    have fail : ¬ (f.size ≤ most ∧ f.depth ≤ d) → ∀ w', Ext w w' → R (.returned (.tuple ⟨[.int .i64 0, .int .i64 0, .bool false]⟩)) w' := fun hno w' he' => by
      have := h w' he'
      rw [szF, if_neg hno] at this; exact this
    rw [wrap_nat (by omega)]
    have i1 : IntKind.i64.wrap ((pre.len : Int) + 1) = ((pre.app (.one kd t mm ps)).len : Int) := by rw [wrap_nat (by omega)]; simp [Fo.one]
    have e1 : f = (pre.app (.one kd t mm ps)).app r := by rw [Fo.app_one_app]; exact hpr
    have z1 : (pre.app (.one kd t mm ps)).size = pre.size + (ps.size + 1) := by rw [Fo.size_app]; simp [Fo.one, Fo.size]
    have d1 : (pre.app (.one kd t mm ps)).depth = max pre.depth (if ps.len = 0 then 0 else ps.depth + 1) := by rw [depth_app, Fo.one, Fo.depth_parts]; simp [Fo.depth]
    refine br_split (fun h1 => ?_) (fun h1 => hq _ ⟨a', ps.len, c', hN.parts, ?_⟩)
    · exact fail (by omega) _ he
    refine br_split (fun h2 => ?_) (fun h2 => br_split (fun h3 => ?_) (fun h3 => hq _ ⟨a', ps.len, c', hN.parts, ?_⟩))
    · have hp0 : ps = .nil := Fo.eq_nil_of_len (by omega)
      subst hp0
      refine ⟨r.len, by simp, _, r, e1, i1, ?_, ?_, rfl, he, ?_, ?_⟩
      · rw [z1]; simp [Fo.size]
      · rw [d1]; simp
      · rw [z1]; simp [Fo.size]; omega
      · rw [d1]; simp; omega
    · refine fail ?_ _ he
      rw [hdp, if_neg (by omega)]; omega
    · rw [show IntKind.i64.wrap ((d : Int) - 1) = ((d - 1 : Nat) : Int) by rw [wrap_id (by omega)]; omega,
        show IntKind.i64.wrap ((most : Int) - ((pre.size + 1 : Nat) : Int)) = ((most - (pre.size + 1) : Nat) : Int) by rw [wrap_id (by omega)]; omega]
      have hne : ps.len ≠ 0 := by omega
      rw [if_neg hne] at hdp d1
      refine ih _ (hz ▸ Fo.sub_size hpr) ps rfl (d - 1) _ (by omega) (by omega) hN.sl fun w' he' => ?_
      by_cases hok : ps.size ≤ most - (pre.size + 1) ∧ ps.depth ≤ d - 1
      · rw [szF, if_pos hok]
        refine ⟨_, _, _, rfl, ?_⟩
        refine ⟨r.len, by simp, _, r, e1, i1, ?_, ?_, rfl, ext_trans he he', ?_, ?_⟩
        · rw [z1, wrap_id (by omega)]; omega
        · rw [d1, wrap_nat (by omega)]; omega
        · rw [z1]; omega
        · rw [d1]; omega
      · rw [szF, if_neg hok]
        refine ⟨_, _, _, rfl, ?_⟩
        exact fail (by omega) _ (ext_trans he he')
  · obtain ⟨rfl, rfl⟩ := Fo.last hpr (by omega)
    have := h _ he
    rw [szF, if_pos ⟨hs1, hs2⟩] at this
    exact this

theorem name_spec {R : Ending → World → Prop} {w : World} (k : Int) (h1 : 1 ≤ k) (h2 : k ≤ 11) (h : ∀ w', Ext w w' → R (.returned (.string ⟨⟨tagF k⟩⟩)) w') : Calls Tryz.prog F_ref10_name ⟨[.int .i64 k]⟩ w R := by
  apply c_ref10_name
  refine al_intro fun b w' hb g1 g2 g3 => ⟨by omega, by omega, dr_ok ⟨tagF k, ?_, h _ g2⟩⟩
  rw [add_none, g1.cell]
  rcases kind_cases h1 h2 with rfl | rfl | rfl | rfl | rfl | rfl | rfl | rfl | rfl | rfl | rfl <;> rfl

theorem all_spec {S : Nat → Prop} : ∀ (f : Fo) {R : Ending → World → Prop} {w : World} {a : Option Addr} {n c : Nat} (within : Bool) (hs : small f) (hf : SlF S w a n f)
    (h : ∀ w', Ext w w' → R (.returned (.int .i64 (allF f false within))) w'), Calls Tryz.prog F_ref10_all ⟨[.slice a n c, .bool within]⟩ w R := by
  intro f
  induction hz : f.size using Nat.strongRecOn generalizing f with
  | _ z ih =>
  intro R w a n c within hs hf h
  unfold small at hs
  apply c_ref10_all
  have hn := hf.1
  have hfl := f.len_le_size
  refine ⟨fun i W m => ∃ (pre r : Fo) (bf : Bool), f = pre.app r ∧ i = pre.len ∧ m = r.len ∧ Ext w W ∧ allF f false within = allF r bf within ∧ ((pre = .nil ∧ bf = false) ∨ ∃ (p1 : Fo) (k : Int) (t : List UInt8) (m : Int) (ps : Fo), pre = p1.app (.one k t m ps) ∧ bf = decide (k = 1)), ⟨_, .nil, f, false, rfl, rfl, rfl, Below.refl _ _, rfl, .inl ⟨rfl, rfl⟩⟩, ?_⟩
  rintro _ W m ⟨pre, r, bf, hpr, rfl, rfl, he, heq, hbf⟩ _
  rw [heq] at h
  refine br_split (fun hlt => ?_) (fun hge => ?_)
  · obtain ⟨kd, t, mm, ps, r, rfl⟩ := Fo.next hpr (by omega)
    have hsl := Fo.sub_len hpr
    have hsz := Fo.sub_size hpr
    intro K hK
    have hd := ext_trans he (ext_drew W)
    obtain ⟨q, a', c', hq, hSq, hql, hN⟩ := (hf.ext hd).get hpr
    have cont : ∀ w2, Ext W.drew w2 → K (singleF kd t mm ps bf within) w2 := fun w2 he2 => by
      refine hK _ _ fun _ => ?_
      rw [allF] at h heq
      have he3 := ext_trans hd he2
      refine br_split (fun g1 => ?_) (fun g1 => ?_)
      · rw [if_pos g1] at h; exact h _ he3
      · rw [if_neg g1] at h heq
        have hN2 := hN.ext hql he2
        refine hq _ ⟨a', ps.len, c', hN2.parts, ?_⟩
        refine ih _ (hz ▸ hsz) ps rfl true (by unfold small; omega) hN2.sl fun w3 he4 => ⟨_, rfl, ?_⟩
        refine br_split (fun g2 => ?_) (fun g2 => ?_)
        · rw [if_pos g2] at h; exact h _ (ext_trans he3 he4)
        · rw [if_neg g2] at h heq
          refine ⟨r.len, by simp, pre.app (.one kd t mm ps), r, decide (kd = 1), by rw [Fo.app_one_app]; exact hpr, ?_, rfl, ext_trans he3 he4, heq, .inr ⟨pre, kd, t, mm, ps, rfl, rfl⟩⟩
          rw [wrap_nat (by omega)]; simp [Fo.one]
    unfold drw
    refine hq _ ⟨kd, hN.kind, t, hN.text, mm, hN.num, a', ps.len, c', hN.parts, br_split (fun g1 => ?_) (fun g1 => ?_)⟩
    · rcases hbf with ⟨rfl, _⟩ | ⟨p1, k1, t1, m1, ps1, rfl, rfl⟩
      · simp at g1
      rw [Fo.app_one_app] at hpr
      obtain ⟨q1, a1, c1, hq1, _, _, hN1⟩ := (hf.ext hd).get hpr
      have e : IntKind.i64.wrap (((p1.app (.one k1 t1 m1 ps1)).len : Int) - 1) = (p1.len : Int) := by rw [wrap_id (by omega)]; simp [Fo.one]
      rw [e]
      refine hq1 _ ⟨k1, hN1.kind, ?_, trivial⟩
      exact single_spec kd t mm a' c' ps _ within fun w2 he2 => ⟨_, rfl, cont _ he2⟩
    · rcases hbf with ⟨rfl, rfl⟩ | ⟨p1, k1, t1, m1, ps1, rfl, rfl⟩
      · refine ⟨single_spec kd t mm a' c' ps _ within fun w2 he2 => ⟨_, rfl, cont _ he2⟩, trivial⟩
      · simp [Fo.one] at g1
  · obtain ⟨rfl, rfl⟩ := Fo.last hpr (by omega)
    exact h _ he
end Go.Proofs
namespace Go.Proofs
open Go Go.Sh Go.RowKit

theorem nums_texts {k : Int} (h : textsF k = true) : numsF k = false := by
  have h' : k = 1 ∨ k = 3 ∨ k = 4 ∨ k = 10 ∨ k = 11 := by simpa [textsF] using h
  rcases h' with rfl | rfl | rfl | rfl | rfl <;> decide
theorem print_spec {S : Nat → Prop} : ∀ (f : Fo) {R : Ending → World → Prop} {w : World} {a : Option Addr} {n c : Nat} (hs : f.size ≤ 1000000000) (hg : good f) (hf : SlF S w a n f)
    (h : ∀ w', Ext w w' → R (.returned (.string ⟨⟨printF f⟩⟩)) w'), Calls Tryz.prog F_ref10_print ⟨[.slice a n c]⟩ w R := by
  intro f
  induction hz : f.size using Nat.strongRecOn generalizing f with
  | _ z ih =>
  intro R w a n c hs hg hf h
  apply c_ref10_print
  have hn := hf.1
  have hfl := f.len_le_size
  refine ⟨fun out i W m => ∃ (pre r : Fo), f = pre.app r ∧ i = pre.len ∧ m = r.len ∧ Ext w W ∧ out = printF pre, ⟨_, .nil, f, rfl, rfl, rfl, Below.refl _ _, rfl⟩, ?_⟩
  rintro _ _ W m ⟨pre, r, hpr, rfl, rfl, he, rfl⟩ _
  refine br_split (fun hlt => ?_) (fun hge => ?_)
  · obtain ⟨k, t, mm, ps, r, rfl⟩ := Fo.next hpr (by omega)
    have hsl := Fo.sub_len hpr
    have hsz : f.size = pre.size + (ps.size + r.size + 1) := by rw [hpr, Fo.size_app]; rfl
    have hgg := hg
    rw [hpr, good_app] at hgg
    obtain ⟨hgp, hok, hgs, hgr⟩ := hgg
    have l1 := printF_len pre hgp
    have l2 := printF_len ps hgs
    have l3 := tagF_len hok.1 hok.2.1
    have l4 := valF_len hok
    have l5 := hok.2.2.2.1
    have e1 : f = (pre.app (.one k t mm ps)).app r := by rw [Fo.app_one_app]; exact hpr
    have i1 : IntKind.i64.wrap ((pre.len : Int) + 1) = ((pre.app (.one k t mm ps)).len : Int) := by rw [wrap_nat (by omega)]; simp [Fo.one]
    have p1 : printF (pre.app (.one k t mm ps)) = printF pre ++ nodeF k t mm (printF ps) := by rw [printF_app]; simp [Fo.one, printF]
    obtain ⟨q, a', c', hq, hSq, hql, hN⟩ := (hf.ext he).get hpr
    refine hq _ ⟨k, hN.kind, t, hN.text, mm, hN.num, a', ps.len, c', hN.parts, ?_⟩
    refine al_stL (by simp) (by intro u hu; simp only [List.mem_cons, List.not_mem_nil, or_false] at hu; rcases hu with rfl | rfl | rfl | rfl <;> rfl) fun b w1 hb hB g2 g3 => ?_
    obtain ⟨c0, c1, c2, c3⟩ := blk4 hB
    have he1 := ext_trans he g2
    refine ⟨k, c0, br_split (fun hk1 => ?_) (fun hk1 => ?_)⟩
    · refine ⟨t, c1, by omega, r.len, by simp, _, r, e1, i1, rfl, he1, ?_⟩
      rw [p1, nodeF, if_pos hk1]
    refine ⟨k, c0, name_spec k hok.1 hok.2.1 fun w2 he2 => ⟨_, rfl, by simp; omega, ?_⟩⟩
    have hB2 := hB.ext he2
    obtain ⟨c0', c1', c2', c3'⟩ := blk4 hB2
    have hE2 := ext_trans he1 he2
    intro K25 hK25
    have k25 : K25 ([60] ++ tagF k ++ (if textsF k then 32 :: t else [])) w2 := by
      refine hK25 _ _ fun _ => ?_
      intro K28 hK28
      have lt : (if textsF k then 32 :: t else ([] : List UInt8)).length ≤ 65537 := by split <;> simp; omega
      have k28 : K28 ([60] ++ tagF k ++ valF k t mm) w2 := by
        refine hK28 _ _ fun _ => ⟨k, c0', parts_spec k ⟨_, rfl, ?_⟩⟩
        refine br_cases (fun hp => ?_) (fun hp => ?_)
        · refine ⟨by simp only [List.length_append, List.length_cons, List.length_nil]; omega, by simp only [List.length_append, List.length_cons, List.length_nil]; omega, r.len, by simp, _, r, e1, i1, rfl, hE2, ?_⟩
          rw [p1, nodeF, if_neg hk1, if_neg (by simpa using hp)]
          simp
        · have hdr := ext_drew w2
          have hB3 := hB2.ext hdr
          obtain ⟨d0, d1, d2, d3⟩ := blk4 hB3
          have hE3 := ext_trans hE2 hdr
          have hsl3 := hN.sl.ext (ext_trans g2 (ext_trans he2 hdr))
          have sub : ∀ {R' : Ending → World → Prop}, (∀ w', Ext w2.drew w' → R' (.returned (.string ⟨⟨printF ps⟩⟩)) w') → Calls Tryz.prog F_ref10_print ⟨[.slice a' ps.len c']⟩ w2.drew R' := fun h' =>
            ih _ (hz ▸ Fo.sub_size hpr) ps rfl (by omega) hgs hsl3 h'
          have fin : ∀ w3, Ext w2.drew w3 → ∃ m53, m53 < (Fo.cons k t mm ps r).len ∧ ∃ (pre' r' : Fo), f = pre'.app r' ∧ IntKind.i64.wrap ((pre.len : Int) + 1) = pre'.len ∧ m53 = r'.len ∧ Ext w w3 ∧ printF pre ++ ([60] ++ tagF k ++ valF k t mm) ++ [62] ++ printF ps ++ [60, 47] ++ tagF k ++ [62] = printF pre' := fun w3 he3 =>
            ⟨r.len, by simp, _, r, e1, i1, rfl, ext_trans hE3 he3, by rw [p1, nodeF, if_neg hk1, if_pos (by simpa using hp)]; simp⟩
          unfold drw
          refine ⟨by simp only [List.length_append, List.length_cons, List.length_nil]; omega, by simp only [List.length_append, List.length_cons, List.length_nil]; omega, a', ps.len, c', d3, ?_⟩
          refine ⟨?_, ⟨?_, ⟨k, d0, ?_, trivial⟩, trivial⟩, trivial⟩
          · exact sub fun w3 he3 => ⟨_, rfl, by simp only [List.length_append, List.length_cons, List.length_nil]; omega, by simp only [List.length_append, List.length_cons, List.length_nil]; omega, k, (blk4 (hB3.ext he3)).1, name_spec k hok.1 hok.2.1 fun w4 he4 => ⟨_, rfl, by simp only [List.length_append, List.length_cons, List.length_nil]; omega, by simp only [List.length_append, List.length_cons, List.length_nil]; omega, fin _ (ext_trans he3 he4)⟩, trivial⟩
          · exact sub fun w3 he3 => ⟨_, rfl, by simp only [List.length_append, List.length_cons, List.length_nil]; omega, by simp only [List.length_append, List.length_cons, List.length_nil]; omega, k, (blk4 (hB3.ext he3)).1, name_spec k hok.1 hok.2.1 fun w4 he4 => ⟨_, rfl, by simp only [List.length_append, List.length_cons, List.length_nil]; omega, by simp only [List.length_append, List.length_cons, List.length_nil]; omega, fin _ (ext_trans he3 he4)⟩, trivial⟩
          · exact sub fun w3 he3 => ⟨_, rfl, by simp only [List.length_append, List.length_cons, List.length_nil]; omega, by simp only [List.length_append, List.length_cons, List.length_nil]; omega, name_spec k hok.1 hok.2.1 fun w4 he4 => ⟨_, rfl, by simp only [List.length_append, List.length_cons, List.length_nil]; omega, by simp only [List.length_append, List.length_cons, List.length_nil]; omega, fin _ (ext_trans he3 he4)⟩, trivial⟩
      refine ⟨k, c0', numbers_spec k ⟨_, rfl, br_cases (fun hnu => ?_) (fun hnu => ?_)⟩⟩
      · have htx : textsF k = false := by
          cases htx : textsF k with
          | false => rfl
          | true => rw [nums_texts htx] at hnu; cases hnu
        have hr := hok.2.2.1 hnu
        have e : valF k t mm = 32 :: Lib.decDigits mm.toNat := by unfold valF; rw [htx, hnu]; rfl
        rw [htx]
        rw [e] at k28
        have hdl := decDigits_len mm.toNat (by omega)
        refine ⟨by simp; omega, mm, c2', ?_⟩
        have hmm : mm = ((mm.toNat : Nat) : Int) := by omega
        rw [hmm]
        refine (Tryz.strconv_Itoa_small mm.toNat (by omega) _).mono ?_
        rintro _ _ ⟨rfl, rfl⟩
        refine ⟨_, rfl, by simp; omega, ?_⟩
        simpa using k28
      · have e : valF k t mm = if textsF k then 32 :: t else [] := by unfold valF; rw [hnu]; simp
        rw [e] at k28; exact k28
    refine ⟨k, c0', texts_spec k ⟨_, rfl, br_cases (fun htx => ?_) (fun htx => ?_)⟩⟩
    · rw [htx] at k25
      refine ⟨by simp; omega, t, c1', by simp; omega, ?_⟩
      simpa using k25
    · rw [htx] at k25
      simpa using k25
  · obtain ⟨rfl, rfl⟩ := Fo.last hpr (by omega)
    exact h _ he
end Go.Proofs
namespace Go.Proofs
open Go Go.Sh Go.RowKit

def checkT (f : Fo) : Int := if f.size ≤ 4096 ∧ f.depth ≤ 16 then (if allF f false false ≠ 0 then allF f false false else if 65536 < (printF f).length then 4 else 0) else 4
theorem Check10_spec {S : Nat → Prop} (f : Fo) {R : Ending → World → Prop} {w : World} {a : Option Addr} {n c : Nat} (hf : SlF S w a n f)
    (h : ∀ w', Ext w w' → R (.returned (.int .i64 (checkT f))) w') : Calls Tryz.prog F_ref10_Check ⟨[.slice a n c]⟩ w R := by
  apply c_ref10_Check
  unfold checkT at h
  refine size10_spec f 16 4096 (by omega) (by omega) hf fun w1 he1 => ?_
  by_cases h1 : f.size ≤ 4096 ∧ f.depth ≤ 16
  · rw [if_pos h1] at h
    rw [szF, if_pos h1]
    refine ⟨_, _, _, rfl, all_spec f false (by unfold small; omega) (hf.ext he1) fun w2 he2 => ⟨_, rfl, ?_⟩⟩
    have hE := ext_trans he1 he2
    refine br_split (fun h2 => ?_) (fun h2 => ?_)
    · rw [if_pos h2] at h; exact h _ hE
    · rw [if_neg h2] at h
      have hg := all_good f _ _ (Decidable.not_not.1 h2)
      refine print_spec f (by omega) hg (hf.ext hE) fun w3 he3 => ⟨_, rfl, ?_⟩
      have hE3 := ext_trans hE he3
      refine br_split (fun h3 => ?_) (fun h3 => ?_)
      · rw [if_pos (by omega)] at h; exact h _ hE3
      · rw [if_neg (by omega)] at h; exact h _ hE3
  · rw [if_neg h1] at h
    rw [szF, if_neg h1]
    exact ⟨_, _, _, rfl, h _ he1⟩

/- the table of the forms -/
def formsCells : List Value := [.string ⟨⟨[]⟩⟩, .bool false, .bool false, .bool false, .string ⟨⟨[]⟩⟩, .bool true, .bool false, .bool false, .string ⟨⟨[108, 98]⟩⟩, .bool false, .bool false, .bool false,
  .string ⟨⟨[112, 98]⟩⟩, .bool true, .bool false, .bool false, .string ⟨⟨[115, 101, 99]⟩⟩, .bool true, .bool false, .bool false, .string ⟨⟨[118]⟩⟩, .bool false, .bool false, .bool false,
  .string ⟨⟨[103, 97, 112]⟩⟩, .bool false, .bool true, .bool false, .string ⟨⟨[117, 110, 99, 108, 101, 97, 114]⟩⟩, .bool false, .bool false, .bool true, .string ⟨⟨[97, 100, 100]⟩⟩, .bool false, .bool true, .bool true,
  .string ⟨⟨[100, 101, 108]⟩⟩, .bool false, .bool true, .bool true, .string ⟨⟨[97, 98]⟩⟩, .bool true, .bool false, .bool true, .string ⟨⟨[110, 97, 109, 101]⟩⟩, .bool true, .bool false, .bool true]
def Forms (w : World) : Prop := 0 < w.heap.size ∧ ∀ j v, formsCells[j]? = some v → w.cell? ⟨0, j, none⟩ = some v
theorem Forms.keep {w w' : World} (h : Forms w) (he : w'.heap[0]? = w.heap[0]?) (hz : w.heap.size ≤ w'.heap.size) : Forms w' := by
  refine ⟨Nat.lt_of_lt_of_le h.1 hz, fun j v hj => ?_⟩
  have := h.2 j v hj
  unfold World.cell? at this ⊢
  rw [he]; exact this
theorem Forms.ext {w w' : World} (h : Forms w) (he : Ext w w') : Forms w' := h.keep (he.block 0 h.1) he.size
theorem Forms.chg {S : Nat → Prop} {w w' : World} (h : Forms w) (he : Chg S w w') (hS : ¬ S 0) : Forms w' := h.keep (he.block 0 h.1 hS) he.size
theorem Forms.get {w : World} (h : Forms w) {k : Int} (h1 : 1 ≤ k) (h2 : k ≤ 11) :
    ∃ q, (∀ K : Addr → Prop, K q → idx (some ⟨0, 0, none⟩) 12 k 4 K) ∧ w.cell? (q.add 0) = some (.string ⟨⟨tagF k⟩⟩) ∧ w.cell? (q.add 1) = some (.bool (textsF k)) ∧ w.cell? (q.add 2) = some (.bool (numsF k)) ∧ w.cell? (q.add 3) = some (.bool (partsF k)) := by
  refine ⟨⟨0, k.toNat * 4, none⟩, fun K hK => ⟨by omega, by omega, ?_⟩, ?_⟩
  · show K _
    rw [add_none, Nat.zero_add]; exact hK
  · simp only [add_none]
    rcases kind_cases h1 h2 with rfl | rfl | rfl | rfl | rfl | rfl | rfl | rfl | rfl | rfl | rfl <;>
      exact ⟨h.2 _ _ rfl, h.2 _ _ rfl, h.2 _ _ rfl, h.2 _ _ rfl⟩
end Go.Proofs
