/- The contracts of the functions that the law reaches, one after the other, and at the end the law's card. -/
import Derived.Test.YtpnhhkjagkajoaaGreatDoorLawC
namespace Go.Proofs
open Go Go.Sh Go.RowKit

def c8 (k : Int) (t : List UInt8) (n : Int) (ps : Fo) : Bool := decide ((textsF k = false ∧ t ≠ []) ∨ (numsF k = false ∧ n ≠ 0) ∨ (partsF k = false ∧ 0 < ps.len))
def c5 (k : Int) (t : List UInt8) (ps : Fo) : Bool := decide ((k = 1 ∧ t = []) ∨ (partsF k = true ∧ ps.len = 0))
def c11 (k : Int) (t : List UInt8) : Bool := decide (k = 1 ∧ checkC t ≠ 0)
def c14 (k : Int) (t : List UInt8) : Bool := decide ((k = 10 ∧ isWordF t = false) ∨ (textsF k = true ∧ k ≠ 1 ∧ k ≠ 10 ∧ isNameF t = false))
def c2 (k n : Int) : Bool := decide ((numsF k = true ∧ n < 1) ∨ (k = 6 ∧ 64 < n) ∨ (numsF k = true ∧ k ≠ 6 ∧ 8 < n))
def rightF (k : Int) (t : List UInt8) (n : Int) (ps : Fo) (before within : Bool) : Int :=
  if k < 1 ∨ 11 < k then 8 else if c8 k t n ps = true then 8 else if c5 k t ps = true then 5 else if c11 k t = true then 11 else if c14 k t = true then 14 else if c2 k n = true then 2
  else if k = 1 ∧ before = true then 10 else if k = 4 ∧ within = true then 12 else 0
theorem single_right (k : Int) (t : List UInt8) (n : Int) (ps : Fo) (before within : Bool) : singleF k t n ps before within = rightF k t n ps before within := by
  unfold rightF
  by_cases h1 : k < 1 ∨ 11 < k
  · rw [if_pos h1]; unfold singleF; rw [if_pos (by omega)]
  rw [if_neg h1]
  by_cases h3 : c8 k t n ps = true
  · rw [if_pos h3]
    unfold singleF
    rw [if_pos]
    rcases of_decide_eq_true h3 with ⟨a, b⟩ | ⟨a, b⟩ | ⟨a, b⟩
    · exact .inr (.inr (.inl ⟨b, a⟩))
    · exact .inr (.inr (.inr (.inl ⟨b, a⟩)))
    · exact .inr (.inr (.inr (.inr ⟨b, a⟩)))
  rw [if_neg h3]
  unfold singleF
  rw [if_neg]
  rotate_left
  · rintro (a | a | ⟨a, b⟩ | ⟨a, b⟩ | ⟨a, b⟩)
    · omega
    · omega
    · exact h3 (decide_eq_true (.inl ⟨b, a⟩))
    · exact h3 (decide_eq_true (.inr (.inl ⟨b, a⟩)))
    · exact h3 (decide_eq_true (.inr (.inr ⟨b, a⟩)))
  by_cases h4 : c5 k t ps = true
  · rw [if_pos h4, if_pos (of_decide_eq_true h4)]
  rw [if_neg h4, if_neg (fun hh => h4 (decide_eq_true hh))]
  unfold c11 c14 c2
  rcases kind_cases (k := k) (by omega) (by omega) with rfl | rfl | rfl | rfl | rfl | rfl | rfl | rfl | rfl | rfl | rfl <;> simp [textsF, numsF]

theorem right_tr_spec {R : Ending → World → Prop} {w : World} (hF : Forms w) (k : Int) (t : List UInt8) (n : Int) (a : Option Addr) (c : Nat) (ps : Fo) (d : Nat) (before : Bool)
    (h : ∀ w', Ext w w' → R (.returned (.int .i64 (singleF k t n ps before (decide (0 < d))))) w') :
    Calls Tryz.prog F_transcript_right ⟨[.agg ⟨[.int .i64 k, .string ⟨⟨t⟩⟩, .int .i64 n, .slice a ps.len c, .int .i64 (d : Int), .bool before]⟩]⟩ w R := by
  apply c_transcript_right
  rw [single_right] at h
  unfold rightF at h
  refine al_intro fun b0 w1 hb0 hB0 e1 _ => ?_
  have p0 : ∀ {v : World}, Blk v b0 [.int .i64 k, .string ⟨⟨t⟩⟩, .int .i64 n, .slice a ps.len c, .int .i64 (d : Int), .bool before] 65 → ∀ j, v.cell? (((⟨b0, 0, none⟩ : Addr).add 0).add j) = [Value.int .i64 k, .string ⟨⟨t⟩⟩, .int .i64 n, .slice a ps.len c, .int .i64 (d : Int), .bool before][j]? :=
    fun hB j => by rw [add_none, add_none, hB.cell]; simp
  refine ⟨k, p0 hB0 0, t, p0 hB0 1, n, p0 hB0 2, a, ps.len, c, p0 hB0 3, ?_⟩
  refine al_stL (by simp) (by intro u hu; simp only [List.mem_cons, List.not_mem_nil, or_false] at hu; rcases hu with rfl | rfl | rfl | rfl <;> rfl) fun b1 w2 hb1 hB1 e2 _ => ?_
  have E2 := ext_trans e1 e2
  obtain ⟨x0, x1, x2, x3⟩ := blk4 hB1
  intro K16 hK16
  have k16 : 1 ≤ k → k ≤ 11 → K16 w2 := by
    intro hk1 hk2
    rw [if_neg (by omega)] at h
    refine hK16 _ fun _ => ⟨k, x0, ?_⟩
    obtain ⟨q, hq, f0, f1, f2, f3⟩ := (hF.ext E2).get hk1 hk2
    refine hq _ ⟨_, f0, _, f1, _, f2, _, f3, ?_⟩
    refine al_stL (by simp) (by intro u hu; simp only [List.mem_cons, List.not_mem_nil, or_false] at hu; rcases hu with rfl | rfl | rfl | rfl <;> rfl) fun b2 v hb2 hB2 e3 _ => ?_
    have E3 := ext_trans E2 e3
    have hX := hB1.ext e3
    have hP := (hB0.ext e2).ext e3
    have X : ∀ {v' : World}, Ext v v' → ∀ j, v'.cell? ((⟨b1, 0, none⟩ : Addr).add j) = [Value.int .i64 k, .string ⟨⟨t⟩⟩, .int .i64 n, .slice a ps.len c][j]? := fun he j => by rw [add_none, (hX.ext he).cell]; simp
    have F : ∀ {v' : World}, Ext v v' → ∀ j, v'.cell? ((⟨b2, 0, none⟩ : Addr).add j) = [Value.string ⟨⟨tagF k⟩⟩, .bool (textsF k), .bool (numsF k), .bool (partsF k)][j]? := fun he j => by rw [add_none, (hB2.ext he).cell]; simp
    have Pl : ∀ {v' : World}, Ext v v' → ∀ j, v'.cell? ((⟨b0, 0, none⟩ : Addr).add j) = [Value.int .i64 k, .string ⟨⟨t⟩⟩, .int .i64 n, .slice a ps.len c, .int .i64 (d : Int), .bool before][j]? := fun he j => by rw [add_none, (hP.ext he).cell]; simp
    have r0 := Below.refl v.heap.size v
    refine ⟨k, X r0 0, ?_⟩
    intro K28 hK28
    have k28 : ∀ g, g = c8 k t n ps → K28 g v := by
      rintro _ rfl
      refine hK28 _ _ fun _ => br_cases (fun g8 => by rw [if_pos g8] at h; exact h _ E3) (fun g8 => ?_)
      rw [if_neg (by simp [g8])] at h
      intro K31 hK31
      have k31 : ∀ g, g = c5 k t ps → K31 g v := by
        rintro _ rfl
        refine hK31 _ _ fun _ => br_cases (fun g5 => by rw [if_pos g5] at h; exact h _ E3) (fun g5 => ?_)
        rw [if_neg (by simp [g5])] at h
        intro K34 hK34
        have k34 : ∀ v1, Ext v v1 → ∀ g, g = c11 k t → K34 g v1 := by
          rintro v1 E4 _ rfl
          refine hK34 _ _ fun _ => br_cases (fun g11 => by rw [if_pos g11] at h; exact h _ (ext_trans E3 E4)) (fun g11 => ?_)
          rw [if_neg (by simp [g11])] at h
          intro K37 hK37
          have k37 : ∀ v2, Ext v v2 → ∀ g, g = c14 k t → K37 g v2 := by
            rintro v2 E5 _ rfl
            refine hK37 _ _ fun _ => br_cases (fun g14 => by rw [if_pos g14] at h; exact h _ (ext_trans E3 E5)) (fun g14 => ?_)
            rw [if_neg (by simp [g14])] at h
            intro K40 hK40
            have k40 : ∀ g, g = c2 k n → K40 g v2 := by
              rintro _ rfl
              refine hK40 _ _ fun _ => br_cases (fun g2 => by rw [if_pos g2] at h; exact h _ (ext_trans E3 E5)) (fun g2 => ?_)
              rw [if_neg (by simp [g2])] at h
              intro K43 hK43
              have k43 : ∀ g, g = decide (k = 1 ∧ before = true) → K43 g v2 := by
                rintro _ rfl
                refine hK43 _ _ fun _ => br_split (fun g10 => by rw [if_pos g10] at h; exact h _ (ext_trans E3 E5)) (fun g10 => ?_)
                rw [if_neg g10] at h
                refine ⟨k, X E5 0, br_split (fun g4 => ⟨(d : Int), Pl E5 4, br_split (fun g5 => ?_) (fun g5 => ?_)⟩) (fun g4 => ?_)⟩
                · rw [if_pos ⟨g4, decide_eq_true (by omega)⟩] at h; exact h _ (ext_trans E3 E5)
                · rw [if_neg (by simp; omega)] at h; exact h _ (ext_trans E3 E5)
                · rw [if_neg (by simp [g4])] at h; exact h _ (ext_trans E3 E5)
              refine ⟨k, X E5 0, br_split (fun g1 => ⟨before, Pl E5 5, k43 _ (by simp [g1])⟩) (fun g1 => k43 _ (by simp [g1]))⟩
            intro K50 hK50
            have k50 : ∀ g, g = decide (numsF k = true ∧ n < 1) → K50 g v2 := by
              rintro _ rfl
              refine hK50 _ _ fun _ => br_split (fun gg => by rw [decide_eq_true gg]; exact k40 _ (by unfold c2; rw [decide_eq_true (.inl gg)])) (fun gg => ?_)
              intro K53 hK53
              have k53 : ∀ g, g = decide (k = 6 ∧ 64 < n) → K53 g v2 := by
                rintro _ rfl
                refine hK53 _ _ fun _ => br_split (fun gg2 => by rw [decide_eq_true gg2]; exact k40 _ (by unfold c2; rw [decide_eq_true (.inr (.inl gg2))])) (fun gg2 => ?_)
                have ec : c2 k n = decide (numsF k = true ∧ k ≠ 6 ∧ 8 < n) := by
                  unfold c2; rw [decide_eq_decide]
                  exact ⟨fun hh => hh.elim (fun h => absurd h gg) (fun h => h.elim (fun h => absurd h gg2) id), fun hh => .inr (.inr hh)⟩
                rw [ec] at k40
                refine ⟨numsF k, F E5 2, br_cases (fun q1 => br_cases (fun q2 => ⟨n, X E5 2, k40 _ ?_⟩) (fun q2 => k40 _ ?_)) (fun q1 => k40 _ ?_)⟩
                · have : k ≠ 6 := by simpa using q2
                  simp [q1, this]
                · have : k = 6 := by simpa using q2
                  simp [this]
                · simp [q1]
              refine br_split (fun q1 => ⟨n, X E5 2, k53 _ (by simp [q1])⟩) (fun q1 => k53 _ (by simp [q1]))
            refine ⟨numsF k, F E5 2, br_cases (fun q1 => ⟨n, X E5 2, k50 _ (by simp [q1])⟩) (fun q1 => k50 _ (by simp [q1]))⟩
          intro K61 hK61
          have k61 : ∀ v2, Ext v v2 → ∀ g, g = decide (k = 10 ∧ isWordF t = false) → K61 g v2 := by
            rintro v2 E5 _ rfl
            refine hK61 _ _ fun _ => br_split (fun gg => by rw [decide_eq_true gg]; exact k37 _ E5 _ (by unfold c14; rw [decide_eq_true (.inl gg)])) (fun gg => ?_)
            have ec : c14 k t = decide (textsF k = true ∧ k ≠ 1 ∧ k ≠ 10 ∧ isNameF t = false) := by
              unfold c14; rw [decide_eq_decide]
              exact ⟨fun hh => hh.elim (fun h => absurd h gg) id, fun hh => .inr hh⟩
            rw [ec] at k37
            refine ⟨textsF k, F E5 1, br_cases (fun q1 => ⟨k, X E5 0, br_split (fun q2 => ⟨k, X E5 0, br_split (fun q3 => ⟨t, X E5 1, IsName_spec t ⟨_, rfl, k37 _ E5 _ ?_⟩⟩) (fun q3 => k37 _ E5 _ ?_)⟩) (fun q2 => k37 _ E5 _ ?_)⟩) (fun q1 => k37 _ E5 _ ?_)⟩
            · simp [q1, q2, q3]
            · simp [Decidable.not_not.1 q3]
            · simp [Decidable.not_not.1 q2]
            · simp [q1]
          refine ⟨k, X E4 0, br_split (fun q1 => ⟨t, X E4 1, IsWord_spec t fun v2 E5 => ⟨_, rfl, k61 _ (ext_trans E4 E5) _ (by simp [q1])⟩⟩) (fun q1 => k61 _ E4 _ (by simp [q1]))⟩
        refine ⟨k, X r0 0, br_split (fun q1 => ⟨t, X r0 1, Check_spec t fun v2 E5 => ⟨_, rfl, k34 _ E5 _ (by unfold c11; simp [q1])⟩⟩) (fun q1 => k34 _ r0 _ (by unfold c11; simp [q1]))⟩
      have tail : ¬ (k = 1 ∧ t = []) → (∃ (x85 : Bool), World.cell? v ((⟨b2, 0, none⟩ : Addr).add 3) = some (.bool x85) ∧ (br x85 (∃ (x86 : Option Addr) (x86n : Nat) (x86c : Nat), World.cell? v ((⟨b1, 0, none⟩ : Addr).add 3) = some (.slice x86 x86n x86c) ∧ (K31 (decide ((((x86n : Int)) : Int) = 0)) v)) (K31 false v))) := by
        intro hno
        have ec : c5 k t ps = decide (partsF k = true ∧ ps.len = 0) := by
          unfold c5; rw [decide_eq_decide]
          exact ⟨fun hh => hh.elim (fun h => absurd h hno) id, fun hh => .inr hh⟩
        rw [ec] at k31
        exact ⟨partsF k, F r0 3, br_cases (fun q1 => ⟨a, ps.len, c, X r0 3, k31 _ (by simp [q1])⟩) (fun q1 => k31 _ (by simp [q1]))⟩
      refine ⟨k, X r0 0, br_split (fun q1 => ⟨t, X r0 1, br_split (fun q2 => k31 _ (by unfold c5; rw [decide_eq_true (.inl ⟨q1, q2⟩)])) (fun q2 => tail fun hh => q2 hh.2)⟩) (fun q1 => tail fun hh => q1 hh.1)⟩
    have t3 : ¬ (textsF k = false ∧ t ≠ []) → ¬ (numsF k = false ∧ n ≠ 0) → (∃ (x91 : Bool), World.cell? v ((⟨b2, 0, none⟩ : Addr).add 3) = some (.bool x91) ∧ (br (!x91) (∃ (x92 : Option Addr) (x92n : Nat) (x92c : Nat), World.cell? v ((⟨b1, 0, none⟩ : Addr).add 3) = some (.slice x92 x92n x92c) ∧ (K28 (decide ((0 : Int) < ((x92n : Int)))) v)) (K28 false v))) := by
      intro n1 n2
      have ec : c8 k t n ps = decide (partsF k = false ∧ 0 < ps.len) := by
        unfold c8; rw [decide_eq_decide]
        exact ⟨fun hh => hh.elim (fun h => absurd h n1) (fun h => h.elim (fun h => absurd h n2) id), fun hh => .inr (.inr hh)⟩
      rw [ec] at k28
      refine ⟨partsF k, F r0 3, br_cases (fun q1 => ⟨a, ps.len, c, X r0 3, k28 _ ?_⟩) (fun q1 => k28 _ ?_)⟩
      · have : partsF k = false := by simpa using q1
        simp [this]
      · have : partsF k = true := by simpa using q1
        simp [this]
    have t2 : ¬ (textsF k = false ∧ t ≠ []) → (∃ (x89 : Bool), World.cell? v ((⟨b2, 0, none⟩ : Addr).add 2) = some (.bool x89) ∧ (br (!x89) (∃ (x90 : Int), World.cell? v ((⟨b1, 0, none⟩ : Addr).add 2) = some (.int .i64 x90) ∧ (br (decide ((x90 : Int) ≠ 0)) (K28 true v) (∃ (x91 : Bool), World.cell? v ((⟨b2, 0, none⟩ : Addr).add 3) = some (.bool x91) ∧ (br (!x91) (∃ (x92 : Option Addr) (x92n : Nat) (x92c : Nat), World.cell? v ((⟨b1, 0, none⟩ : Addr).add 3) = some (.slice x92 x92n x92c) ∧ (K28 (decide ((0 : Int) < ((x92n : Int)))) v)) (K28 false v))))) (∃ (x93 : Bool), World.cell? v ((⟨b2, 0, none⟩ : Addr).add 3) = some (.bool x93) ∧ (br (!x93) (∃ (x94 : Option Addr) (x94n : Nat) (x94c : Nat), World.cell? v ((⟨b1, 0, none⟩ : Addr).add 3) = some (.slice x94 x94n x94c) ∧ (K28 (decide ((0 : Int) < ((x94n : Int)))) v)) (K28 false v))))) := by
      intro n1
      refine ⟨numsF k, F r0 2, br_cases (fun q1 => ⟨n, X r0 2, br_split (fun q2 => k28 _ ?_) (fun q2 => t3 n1 fun hh => q2 hh.2)⟩) (fun q1 => t3 n1 fun hh => ?_)⟩
      · unfold c8; rw [decide_eq_true (.inr (.inl ⟨by simpa using q1, q2⟩))]
      · rw [hh.1] at q1; cases q1
    refine ⟨textsF k, F r0 1, br_cases (fun q1 => ⟨t, X r0 1, br_split (fun q2 => k28 _ ?_) (fun q2 => t2 fun hh => q2 hh.2)⟩) (fun q1 => t2 fun hh => ?_)⟩
    · unfold c8; rw [decide_eq_true (.inl ⟨by simpa using q1, q2⟩)]
    · rw [hh.1] at q1; cases q1
  refine ⟨k, x0, br_split (fun q1 => ?_) (fun q1 => ⟨k, x0, br_split (fun q2 => ?_) (fun q2 => k16 (by omega) (by omega))⟩)⟩
  · rw [if_pos (.inl q1)] at h; exact h _ E2
  · rw [if_pos (.inr q2)] at h; exact h _ E2
end Go.Proofs
namespace Go.Proofs
open Go Go.Sh Go.RowKit

structure Pl where
  k : Int
  t : List UInt8
  n : Int
  ps : Fo
  d : Nat
  b : Bool
def placesF : Fo → Nat → Bool → List Pl
  | .nil, _, _ => []
  | .cons k t n ps r, d, b => ⟨k, t, n, ps, d, b⟩ :: ((if d ≤ 16 then placesF ps (d + 1) false else []) ++ placesF r d (decide (k = 1)))
def PlE (T : Nat → Prop) (w0 : World) (x : Pl) (vs : List Value) : Prop :=
  ∃ a c, vs = [.agg ⟨[.int .i64 x.k, .string ⟨⟨x.t⟩⟩, .int .i64 x.n, .slice a x.ps.len c, .int .i64 (x.d : Int), .bool x.b]⟩] ∧ SlF T w0 a x.ps.len x.ps

theorem places_walk {yf : Fn} {ya yb : Array Value} {S T : Nat → Prop} {J : List Pl → World → Prop} {Jx : World → Prop} {w0 : World} {xs : List Pl} {ty tw : Nat}
    (hS : ∀ k, S k → k < w0.heap.size ∧ ¬ T k)
    (hJ : ∀ pre W W', J pre W → Chg (fun k => w0.heap.size ≤ k) W W' → J pre W')
    (hbody : ∀ pre x vs W, PlE T w0 x vs → pre ++ [x] <+: xs → w0.heap.size ≤ W.heap.size → J pre W → CallV Tryz.prog (.func yf ya yb) vs W fun e W' => Chg S W W' ∧ ((e = .returned (.bool true) ∧ J (pre ++ [x]) W') ∨ (e = .returned (.bool false) ∧ Jx W')))
    (hty : w0.heap.size ≤ ty) (htw : w0.heap.size ≤ tw) :
    ∀ (f : Fo) {R : Ending → World → Prop} {w : World} {a : Option Addr} {n c : Nat} (d : Nat) (pre : List Pl), small f → d ≤ 17 → SlF T w0 a n f → Chg (fun k => S k ∨ w0.heap.size ≤ k) w0 w → Blk w ty [.func yf ya yb] 99 → Blk w tw [.func (.func 75) ⟨[]⟩ ⟨[.pointer (some ⟨ty, 0, none⟩), .pointer (some ⟨tw, 0, none⟩)]⟩] 79 →
      pre ++ placesF f d false <+: xs → J pre w → (∀ W', Chg S w W' → J (pre ++ placesF f d false) W' → R (.returned (.bool true)) W') → (∀ W', Chg S w W' → Jx W' → R (.returned (.bool false)) W') →
      Calls Tryz.prog F_transcript_places_1_1 ⟨[.slice a n c, .int .i64 (d : Int), .pointer (some ⟨ty, 0, none⟩), .pointer (some ⟨tw, 0, none⟩)]⟩ w R := by
  intro f
  induction hz : f.size using Nat.strongRecOn generalizing f with
  | _ z ih =>
  intro R w a n c d pre hs hd hf hc0 hBy hBw hpre hj hend hstop
  unfold small at hs
  apply c_transcript_places_1_1
  have hn := hf.1
  have hfl := f.len_le_size
  have nS : ∀ k, w0.heap.size ≤ k → ¬ S k := fun k hk h => by have := (hS k h).1; omega
  refine ⟨fun tx i W m => ∃ (p r : Fo) (ps : List Pl), f = p.app r ∧ i = p.len ∧ m = r.len ∧ Chg S w W ∧ J ps W ∧ pre ++ placesF f d false = ps ++ placesF r d tx, ⟨_, .nil, f, pre, rfl, rfl, rfl, Chg.refl _ _, hj, rfl⟩, ?_⟩
  rintro b _ W m ⟨p, r, xs', hpr, rfl, rfl, hcW, hjW, heq⟩ _
  refine br_split (fun hlt => ?_) (fun hge => ?_)
  · obtain ⟨k, t, mm, ps, r, rfl⟩ := Fo.next hpr (by omega)
    have hsl := Fo.sub_len hpr
    have hsz := Fo.sub_size hpr
    have e1 : f = (p.app (.one k t mm ps)).app r := by rw [Fo.app_one_app]; exact hpr
    have i1 : IntKind.i64.wrap ((p.len : Int) + 1) = ((p.app (.one k t mm ps)).len : Int) := by rw [wrap_nat (by omega)]; simp [Fo.one]
    have hc0W : Chg (fun k => S k ∨ w0.heap.size ≤ k) w0 W := hc0.trans (hcW.mono fun k _ h => .inl h)
    obtain ⟨q, a', c', hq, hTq, hql, hN0⟩ := hf.get hpr
    have hN : NodeIs T W q k t mm a' c' ps := by
      have key : ∀ j, W.cell? (q.add j) = w0.cell? (q.add j) := fun j => by
        unfold World.cell?
        have : (q.add j).block = q.block := by unfold Addr.add; split <;> rfl
        rw [this, hc0W.block _ hql (fun h => h.elim (fun h => (hS _ h).2 hTq) (fun h => by omega))]
      exact ⟨(key 0).trans hN0.kind, (key 1).trans hN0.text, (key 2).trans hN0.num, (key 3).trans hN0.parts, hN0.sl.keep (fun k hk hl => ⟨hk, hc0W.block k hl fun h => h.elim (fun h => (hS _ h).2 hk) (fun h => by omega)⟩) hc0W.size⟩
    refine hq _ ⟨k, hN.kind, t, hN.text, mm, hN.num, a', ps.len, c', hN.parts, ?_⟩
    refine al_stL (by simp) (by intro u hu; simp only [List.mem_cons, List.not_mem_nil, or_false] at hu; rcases hu with rfl | rfl | rfl | rfl <;> rfl) fun bx w1 hbx hBx e2 _ => ?_
    have hszW := hc0W.size
    have hc1 : Chg S W w1 := Chg.of_ext e2
    have hcw1 := hcW.trans hc1
    obtain ⟨x0, x1, x2, x3⟩ := blk4 hBx
    have hBy1 := hcw1.blk hBy (nS _ hty)
    have hBw1 := hcw1.blk hBw (nS _ htw)
    refine dr_ok ⟨_, _, _, by rw [hBy1.cell]; rfl, k, x0, t, x1, mm, x2, a', ps.len, c', x3, ?_⟩
    have hj1 : J xs' w1 := hJ _ _ _ hjW (Chg.of_ext e2)
    rw [placesF] at heq
    have hpx : xs' ++ [⟨k, t, mm, ps, d, b⟩] <+: xs := by
      refine List.IsPrefix.trans ?_ hpre
      rw [heq]
      exact ⟨_, by rw [List.append_assoc]; rfl⟩
    refine CallV_mono (hbody xs' ⟨k, t, mm, ps, d, b⟩ _ w1 ⟨a', c', rfl, hN0.sl⟩ hpx (by have := hc1.size; omega) hj1) ?_
    rintro e w2 ⟨hc2, ⟨rfl, hj2⟩ | ⟨rfl, hjx⟩⟩
    · refine ⟨true, rfl, ?_⟩
      have hcw2 := hcw1.trans hc2
      have hBx2 := hc2.blk hBx (nS _ (by omega))
      obtain ⟨y0, y1, y2, y3⟩ := blk4 hBx2
      refine br_split (fun hd16 => ?_) (fun hd16 => ?_)
      · have hd16' : d ≤ 16 := by omega
        rw [if_pos hd16'] at heq
        have hBw2 := hcw2.blk hBw (nS _ htw)
        have hBy2 := hcw2.blk hBy (nS _ hty)
        refine dr_ok ⟨.func 75, ⟨[]⟩, ⟨[.pointer (some ⟨ty, 0, none⟩), .pointer (some ⟨tw, 0, none⟩)]⟩, by rw [hBw2.cell]; rfl, a', ps.len, c', y3, by kernel_rfl, ?_⟩
        rw [wrap_nat (by omega)]
        refine ih _ (hz ▸ hsz) ps rfl (d + 1) (xs' ++ [⟨k, t, mm, ps, d, b⟩]) (by unfold small; omega) (by omega) hN0.sl (hc0.trans (hcw2.mono fun k _ h => .inl h)) hBy2 hBw2 ?_ hj2 (fun w3 hc3 hj3 => ?_) (fun w3 hc3 hjx => ?_)
        · refine List.IsPrefix.trans ?_ hpre
          rw [heq]
          exact ⟨placesF r d (decide (k = 1)), by simp⟩
        · refine ⟨true, rfl, ?_⟩
          have hBx3 := hc3.blk hBx2 (nS _ (by omega))
          refine ⟨k, (blk4 hBx3).1, r.len, by simp, _, r, _, e1, i1, rfl, hcw2.trans hc3, hj3, ?_⟩
          rw [heq]; simp
        · exact ⟨false, rfl, hstop _ (hcw2.trans hc3) hjx⟩
      · rw [if_neg (by omega)] at heq
        refine ⟨k, y0, r.len, by simp, _, r, _, e1, i1, rfl, hcw2, hj2, ?_⟩
        rw [heq]; simp
    · exact ⟨false, rfl, hstop _ (hcw1.trans hc2) hjx⟩
  · obtain ⟨rfl, rfl⟩ := Fo.last hpr (by omega)
    have e : xs' = pre ++ placesF p d false := by rw [heq]; simp [placesF]
    rw [e] at hjW
    exact hend _ hcW hjW

theorem places_iter {T : Nat → Prop} (f : Fo) (hs : small f) {a : Option Addr} {n c : Nat} (b : Nat) (w : World) (hb : Blk w b [.slice a n c] 24) (hf : SlF T w a n f) (hbT : T b) :
    IterR Tryz.prog F_transcript_places_1 [.pointer (some ⟨b, 0, none⟩)] (placesF f 0 false) (PlE T w) T w := by
  intro yf ya yb S J Jx R hS hJ hJx hbody h0 hend hstop
  apply c_transcript_places_1
  refine al_intro fun ty w1 hty hBy e1 s1 => ?_
  refine al_intro fun tw w1' htw hBw' e2' s2' => ?_
  refine stL_one hBw' rfl fun w2 hBw hcc hss => ?_
  have e2 : Ext w1 w2 := ext_chgS e2' hcc fun k hk => by omega
  have E := ext_trans e1 e2
  refine ⟨.func 75, ⟨[]⟩, ⟨[.pointer (some ⟨ty, 0, none⟩), .pointer (some ⟨tw, 0, none⟩)]⟩, by rw [hBw.cell]; rfl, dr_ok ⟨a, n, c, by rw [((hb.ext e1).ext e2).cell]; rfl, by kernel_rfl, ?_⟩⟩
  have hz := E.size
  have hz1 := e1.size
  have hch : Chg (fun k => w.heap.size ≤ k) w w2 := Chg.of_ext E
  refine places_walk (w0 := w) (xs := placesF f 0 false) hS hJ hbody (by omega) (by omega) f 0 [] hs (by omega) hf (Chg.of_ext E) (hBy.ext e2) hBw (List.prefix_refl _) (hJ _ _ _ h0 hch) (fun W' hc hj => ?_) (fun W' hc hjx => ?_)
  · exact ⟨_, rfl, hend _ (Nat.le_trans hz hc.size) hj⟩
  · exact ⟨_, rfl, hstop _ (Nat.le_trans hz hc.size) hjx⟩

theorem places_spec {R : Ending → World → Prop} {w : World} {a : Option Addr} {n c : Nat}
    (h : ∀ b w', Blk w' b [.slice a n c] 24 → Ext w w' → b = w.heap.size → R (.returned (.func (.func F_transcript_places_1) ⟨[]⟩ ⟨[.pointer (some ⟨b, 0, none⟩)]⟩)) w') :
    Calls Tryz.prog F_transcript_places ⟨[.slice a n c]⟩ w R := by
  apply c_transcript_places
  refine al_intro fun b w' hb h1 h2 h3 => ?_
  exact h b w' h1 h2 hb
end Go.Proofs
namespace Go.Proofs
open Go Go.Sh Go.RowKit

theorem value_spec {R : Ending → World → Prop} {w : World} (hF : Forms w) (k : Int) (t : List UInt8) (n : Int) (a : Option Addr) (c : Nat) (ps : Fo) (hok : nodeOk k t n ps)
    (h : ∀ w', Ext w w' → R (.returned (.string ⟨⟨valF k t n⟩⟩)) w') : Calls Tryz.prog F_transcript_value ⟨[.agg ⟨[.int .i64 k, .string ⟨⟨t⟩⟩, .int .i64 n, .slice a ps.len c]⟩]⟩ w R := by
  apply c_transcript_value
  refine al_intro fun b w1 hb hB e1 s1 => ?_
  obtain ⟨x0, x1, x2, x3⟩ := blk4 hB
  obtain ⟨q, hq, f0, f1, f2, f3⟩ := (hF.ext e1).get hok.1 hok.2.1
  refine ⟨k, x0, hq _ ⟨_, f0, _, f1, _, f2, _, f3, ?_⟩⟩
  refine al_stL (by simp) (by intro u hu; simp only [List.mem_cons, List.not_mem_nil, or_false] at hu; rcases hu with rfl | rfl | rfl | rfl <;> rfl) fun b2 v hb2 hB2 e2 s2 => ?_
  have E := ext_trans e1 e2
  have F : ∀ j, v.cell? ((⟨b2, 0, none⟩ : Addr).add j) = [Value.string ⟨⟨tagF k⟩⟩, .bool (textsF k), .bool (numsF k), .bool (partsF k)][j]? := fun j => by rw [add_none, hB2.cell]; simp
  obtain ⟨y0, y1, y2, y3⟩ := blk4 (hB.ext e2)
  have hl := hok.2.2.2.1
  refine ⟨_, F 1, br_cases (fun g => ⟨t, y1, by simp; omega, ?_⟩) (fun g => ⟨_, F 2, br_cases (fun g2 => ⟨n, y2, ?_⟩) (fun g2 => ?_)⟩)⟩
  · have e : valF k t n = [32] ++ t := by unfold valF; rw [g]; rfl
    rw [e] at h; exact h _ E
  · have hr := hok.2.2.1 g2
    have e : valF k t n = [32] ++ Lib.decDigits n.toNat := by unfold valF; rw [g, g2]; rfl
    rw [e] at h
    have hdl := decDigits_len n.toNat (by omega)
    have hmm : n = ((n.toNat : Nat) : Int) := by omega
    rw [hmm]
    refine (Tryz.strconv_Itoa_small n.toNat (by omega) _).mono ?_
    rintro _ _ ⟨rfl, rfl⟩
    exact ⟨_, rfl, by simp; omega, h _ E⟩
  · have e : valF k t n = [] := by unfold valF; rw [g, g2]; rfl
    rw [e] at h; exact h _ E

theorem chg_then {S S' : Nat → Prop} {A B C : World} (h : Chg S A B) (k : Chg S' B C) (hs : ∀ i, i < A.heap.size → S' i → S i) : Chg S A C :=
  ⟨k.os.trans h.os, k.tape.trans h.tape, k.output.trans h.output, Nat.le_trans h.size k.size, fun i hi hn => (k.block i (Nat.lt_of_lt_of_le hi h.size) (fun hh => hn (hs i hi hh))).trans (h.block i hi hn)⟩
theorem NodeIs.chg {S T : Nat → Prop} {w w' : World} {q : Addr} {k : Int} {t : List UInt8} {n : Int} {a : Option Addr} {c : Nat} {ps : Fo} (h : NodeIs S w q k t n a c ps) (hl : q.block < w.heap.size) (hq : S q.block) (he : Chg T w w') (hd : ∀ k, S k → ¬ T k) : NodeIs S w' q k t n a c ps := by
  have key : ∀ j, w'.cell? (q.add j) = w.cell? (q.add j) := fun j => by
    unfold World.cell?
    have : (q.add j).block = q.block := by unfold Addr.add; split <;> rfl
    rw [this, he.block _ hl (hd _ hq)]
  exact ⟨(key 0).trans h.kind, (key 1).trans h.text, (key 2).trans h.num, (key 3).trans h.parts, h.sl.chg he hd⟩

theorem write_walk {b tw : Nat} : ∀ (f : Fo) {R : Ending → World → Prop} {S : Nat → Prop} {w : World} {a : Option Addr} {n c : Nat} {bo : Option Addr} {acc : List UInt8}, f.size ≤ 1000000 → good f → SlF S w a n f → Forms w → 0 < b → BldAt w b bo acc →
    (∀ k, S k → k ≠ b ∧ ¬ bk bo k) → Blk w tw [.func (.func 72) ⟨[]⟩ ⟨[.pointer (some ⟨b, 0, none⟩), .pointer (some ⟨tw, 0, none⟩)]⟩] 97 → tw ≠ b → ¬ bk bo tw → acc.length + 65600 * f.size ≤ 100000000000 →
    (∀ bo' w', BldAt w' b bo' (acc ++ printF f) → (∀ k, bk bo' k → bk bo k ∨ w.heap.size ≤ k) → Chg (fun k => k = b ∨ bk bo k) w w' → R (.returned (.tuple ⟨[]⟩)) w') →
    Calls Tryz.prog F_transcript_marked_1 ⟨[.slice a n c, .pointer (some ⟨b, 0, none⟩), .pointer (some ⟨tw, 0, none⟩)]⟩ w R := by
  intro f
  induction hz : f.size using Nat.strongRecOn generalizing f with
  | _ z ih =>
  intro R S w a n c bo acc hs hg hf0 hF hb0 hbld hSd0 hBw htwb htwo hacc h
  apply c_transcript_marked_1
  have hn := hf0.1
  have hfl := f.len_le_size
  have hf : SlF (fun k => S k ∧ k < w.heap.size) w a n f := hf0.imp fun k hk hl => ⟨hk, hl⟩
  have hblt := hbld.lt
  have htlt := hBw.lt
  refine ⟨fun i W m => ∃ (p r : Fo) (bo1 : Option Addr), f = p.app r ∧ i = p.len ∧ m = r.len ∧ BldAt W b bo1 (acc ++ printF p) ∧ (∀ k, bk bo1 k → bk bo k ∨ w.heap.size ≤ k) ∧ Chg (fun k => k = b ∨ bk bo k) w W,
    ⟨_, .nil, f, bo, rfl, rfl, rfl, by simpa [printF] using hbld, fun k hk => .inl hk, Chg.refl _ _⟩, ?_⟩
  rintro _ W m ⟨p, r, bo1, hpr, rfl, rfl, hbW, hbk1, hcW⟩ _
  refine br_split (fun hlt => ?_) (fun hge => ?_)
  · obtain ⟨k, t, mm, ps, r, rfl⟩ := Fo.next hpr (by omega)
    have hsl := Fo.sub_len hpr
    have hsz : f.size = p.size + (ps.size + r.size + 1) := by rw [hpr, Fo.size_app]; rfl
    have hgg := hg
    rw [hpr, good_app] at hgg
    obtain ⟨hgp, hok, hgs, hgr⟩ := hgg
    have l1 := printF_len p hgp
    have l2 := printF_len ps hgs
    have l3 := tagF_len hok.1 hok.2.1
    have l4 := valF_len hok
    have l5 := hok.2.2.2.1
    have e1 : f = (p.app (.one k t mm ps)).app r := by rw [Fo.app_one_app]; exact hpr
    have i1 : IntKind.i64.wrap ((p.len : Int) + 1) = ((p.app (.one k t mm ps)).len : Int) := by rw [wrap_nat (by omega)]; simp [Fo.one]
    have p1 : printF (p.app (.one k t mm ps)) = printF p ++ nodeF k t mm (printF ps) := by rw [printF_app]; simp [Fo.one, printF]
    have hSd : ∀ k, (S k ∧ k < w.heap.size) → ¬ (k = b ∨ bk bo k) := fun k hk hh => hh.elim (hSd0 k hk.1).1 (hSd0 k hk.1).2
    obtain ⟨q, a', c', hq, hSq, hql, hN⟩ := (hf.chg hcW hSd).get hpr
    refine hq _ ⟨k, hN.kind, t, hN.text, mm, hN.num, a', ps.len, c', hN.parts, ?_⟩
    refine al_stL (by simp) (by intro u hu; simp only [List.mem_cons, List.not_mem_nil, or_false] at hu; rcases hu with rfl | rfl | rfl | rfl <;> rfl) fun bx w1 hbx hBx e2 s2 => ?_
    obtain ⟨x0, x1, x2, x3⟩ := blk4 hBx
    have hbS : ∀ k, bk bo k → b < k ∧ k < w.heap.size := fun k hk => hbld.bk hk
    have n0 : ¬ (0 = b ∨ bk bo 0) := fun hh => hh.elim (fun h => by omega) (fun h => by have := (hbS _ h).1; omega)
    have hFW := hF.chg hcW n0
    obtain ⟨qf, hqf, f0, f1, f2, f3⟩ := (hFW.ext e2).get hok.1 hok.2.1
    refine ⟨k, x0, hqf _ ⟨_, f0, _, f1, _, f2, _, f3, ?_⟩⟩
    refine al_stL (by simp) (by intro u hu; simp only [List.mem_cons, List.not_mem_nil, or_false] at hu; rcases hu with rfl | rfl | rfl | rfl <;> rfl) fun bf w2 hbf hBf e3 s3 => ?_
    have E := ext_trans e2 e3
    have hwW := hcW.size
    have hEz := E.size
    have FF : ∀ {v : World}, Blk v bf [Value.string ⟨⟨tagF k⟩⟩, .bool (textsF k), .bool (numsF k), .bool (partsF k)] 94 → ∀ j, v.cell? ((⟨bf, 0, none⟩ : Addr).add j) = [Value.string ⟨⟨tagF k⟩⟩, .bool (textsF k), .bool (numsF k), .bool (partsF k)][j]? := fun hB j => by rw [add_none, hB.cell]; simp
    have hX2 := hBx.ext e3
    obtain ⟨y0, y1, y2, y3⟩ := blk4 hX2
    have hF2 := hFW.ext E
    have hb2 := hbW.ext E
    have hc2 : Chg (fun k => k = b ∨ bk bo k) w w2 := hcW.trans (Chg.of_ext E)
    have hbW1 : ∀ k, bk bo1 k → k < W.heap.size := fun k hk => (hbW.bk hk).2
    refine ⟨k, y0, br_split (fun hk1 => ?_) (fun hk1 => ?_)⟩
    · refine ⟨t, y1, WriteString_spec hb2 (by simp; omega) fun bo3 w3 hb3 hk3 hc3 => ⟨_, _, rfl, r.len, by simp, _, r, bo3, e1, i1, rfl, ?_, ?_, ?_⟩⟩
      · rw [p1, nodeF, if_pos hk1, ← List.append_assoc]; exact hb3
      · exact fun j hj => (hk3 j hj).elim (fun h => hbk1 j h) (fun h => .inr (by omega))
      · exact chg_then hc2 hc3 fun j hj hh => hh.imp id fun h => (hbk1 j h).elim id fun h => by omega
    -- the writing of the tag
    have tagW : ∀ {R' : Ending → World → Prop} {v : World} (s : List UInt8), Ext w2 v → s.length ≤ 65600 →
        (∀ bo3 w3, BldAt w3 b bo3 (acc ++ printF p ++ s) → (∀ j, bk bo3 j → bk bo1 j ∨ w2.heap.size ≤ j) → Chg (fun j => j = b ∨ bk bo1 j) w2 w3 → R' (.returned (.tuple ⟨[.int .i64 s.length, .nilIface]⟩)) w3) →
        Calls Tryz.prog 48 ⟨[.pointer (some ⟨b, 0, none⟩), .string ⟨⟨s⟩⟩]⟩ v R' := by
      intro R' v s he hl hh
      refine WriteString_spec (hb2.ext he) (by simp; omega) fun bo3 w3 hb3 hk3 hc3 => hh bo3 w3 hb3 (fun j hj => (hk3 j hj).imp id fun h => by have := he.size; omega) ?_
      exact (Chg.of_ext he).trans hc3
    refine ⟨partsF k, FF hBf 3, br_cases (fun hp => ?_) (fun hp => ?_)⟩
    · intro K34 hK34
      have k34 : ∀ bo3 w3, BldAt w3 b bo3 (acc ++ printF p ++ ([60] ++ tagF k ++ valF k t mm ++ [62])) → (∀ j, bk bo3 j → bk bo1 j ∨ w2.heap.size ≤ j) → Chg (fun j => j = b ∨ bk bo1 j) w2 w3 → K34 w3 := by
        intro bo3 w3 hb3 hk3 hc3
        have nb : ∀ {j : Nat}, b < j → W.heap.size ≤ j → ¬ (j = b ∨ bk bo1 j) := fun hj1 hj2 hh => hh.elim (fun h => by omega) (fun h => by have := hbW1 _ h; omega)
        have hX3 := hc3.blk hX2 (nb (by omega) (by omega))
        have hBf3 := hc3.blk hBf (nb (by omega) (by omega))
        have hc03 : Chg (fun k => k = b ∨ bk bo k) w w3 := chg_then hc2 hc3 fun j hj hh => hh.imp id fun h => (hbk1 j h).elim id fun h => by omega
        have hBw3 := hc03.blk hBw (fun hh => hh.elim htwb htwo)
        have bo3bo : ∀ j, bk bo3 j → bk bo j ∨ w.heap.size ≤ j := fun j hj => (hk3 j hj).elim (fun h => hbk1 j h) (fun h => .inr (by omega))
        have hz3 := hc3.size
        refine hK34 _ fun _ => dr_ok ⟨.func 72, ⟨[]⟩, ⟨[.pointer (some ⟨b, 0, none⟩), .pointer (some ⟨tw, 0, none⟩)]⟩, by rw [hBw3.cell]; rfl, a', ps.len, c', (blk4 hX3).2.2.2, by kernel_rfl, ?_⟩
        have lens : ((acc ++ printF p ++ ([60] ++ tagF k ++ valF k t mm ++ [62])).length) ≤ acc.length + 65600 * p.size + 65600 := by
          simp only [List.length_append, List.length_cons, List.length_nil]; omega
        refine ih _ (hz ▸ Fo.sub_size hpr) ps rfl (S := fun k => S k ∧ k < w.heap.size) (by omega) hgs ((hN.sl.ext E).chg hc3 fun j hj hh => hh.elim (hSd0 j hj.1).1 fun h => (hbk1 j h).elim (hSd0 j hj.1).2 fun h => by have := hj.2; omega) (hF.chg hc03 n0) hb0 hb3 ?_ hBw3 htwb ?_ (by omega) fun bo4 w4 hb4 hk4 hc4 => ⟨rfl, ?_⟩
        · exact fun j hj => ⟨(hSd0 j hj.1).1, fun hh => (bo3bo j hh).elim (hSd0 j hj.1).2 fun h => by have := hj.2; omega⟩
        · exact fun hh => (bo3bo _ hh).elim htwo fun h => by omega
        have nb3 : ¬ (bf = b ∨ bk bo3 bf) := fun hh => hh.elim (fun h => by omega) (fun h => (hk3 _ h).elim (fun h => by have := hbW1 _ h; omega) (fun h => by omega))
        have hBf4 := hc4.blk hBf3 nb3
        have hc04 : Chg (fun k => k = b ∨ bk bo k) w w4 := chg_then hc03 hc4 fun j hj hh => hh.imp id fun h => (bo3bo j h).elim id fun h => by omega
        refine ⟨tagF k, FF hBf4 0, by simp; omega, by simp; omega, ?_⟩
        refine WriteString_spec hb4 (by simp only [List.length_append, List.length_cons, List.length_nil] at lens ⊢; omega) fun bo5 w5 hb5 hk5 hc5 => ⟨_, _, rfl, r.len, by simp, _, r, bo5, e1, i1, rfl, ?_, ?_, ?_⟩
        · rw [p1, nodeF, if_neg hk1, if_pos hp]
          simpa using hb5
        · exact fun j hj => (hk5 j hj).elim (fun h => (hk4 j h).elim (fun h => bo3bo j h) fun h => .inr (by omega)) (fun h => .inr (by have := hc4.size; omega))
        · exact chg_then hc04 hc5 fun j hj hh => hh.imp id fun h => (hk4 j h).elim (fun h => (bo3bo j h).elim id fun h => by omega) fun h => by omega
      have hdr := ext_drew w2
      obtain ⟨d0, d1, d2, d3⟩ := blk4 (hX2.ext hdr)
      have Fd := FF (hBf.ext hdr)
      unfold drw
      have L : ([60] ++ tagF k ++ valF k t mm ++ [62]).length ≤ 65600 := by simp; omega
      refine ⟨⟨tagF k, Fd 0, by simp; omega, k, d0, t, d1, mm, d2, a', ps.len, c', d3, ?_, trivial⟩, ⟨k, d0, t, d1, mm, d2, a', ps.len, c', d3, ⟨tagF k, Fd 0, by simp; omega, ?_, trivial⟩, ?_, trivial⟩, trivial⟩
      · exact value_spec (hF2.ext hdr) k t mm a' c' ps hok fun v he => ⟨_, rfl, by simp; omega, by simp; omega, tagW _ (ext_trans hdr he) L fun bo3 w3 h1 h2 h3 => ⟨_, _, rfl, k34 bo3 w3 h1 h2 h3⟩, trivial⟩
      · exact value_spec (hF2.ext hdr) k t mm a' c' ps hok fun v he => ⟨_, rfl, by simp; omega, by simp; omega, tagW _ (ext_trans hdr he) L fun bo3 w3 h1 h2 h3 => ⟨_, _, rfl, k34 bo3 w3 h1 h2 h3⟩, trivial⟩
      · exact value_spec (hF2.ext hdr) k t mm a' c' ps hok fun v he => ⟨_, rfl, tagF k, FF (hBf.ext (ext_trans hdr he)) 0, by simp; omega, by simp; omega, by simp; omega, tagW _ (ext_trans hdr he) L fun bo3 w3 h1 h2 h3 => ⟨_, _, rfl, k34 bo3 w3 h1 h2 h3⟩, trivial⟩
    · have fin : ∀ bo3 w3, BldAt w3 b bo3 (acc ++ printF p ++ ([60] ++ tagF k ++ valF k t mm ++ [47, 62])) → (∀ j, bk bo3 j → bk bo1 j ∨ w2.heap.size ≤ j) → Chg (fun j => j = b ∨ bk bo1 j) w2 w3 →
          ∃ m107, m107 < (Fo.cons k t mm ps r).len ∧ ∃ (p' r' : Fo) (bo1' : Option Addr), f = p'.app r' ∧ IntKind.i64.wrap ((p.len : Int) + 1) = p'.len ∧ m107 = r'.len ∧ BldAt w3 b bo1' (acc ++ printF p') ∧ (∀ k, bk bo1' k → bk bo k ∨ w.heap.size ≤ k) ∧ Chg (fun k => k = b ∨ bk bo k) w w3 := by
        intro bo3 w3 hb3 hk3 hc3
        refine ⟨r.len, by simp, _, r, bo3, e1, i1, rfl, ?_, ?_, ?_⟩
        · rw [p1, nodeF, if_neg hk1, if_neg (by simp [hp]), ← List.append_assoc]; exact hb3
        · exact fun j hj => (hk3 j hj).elim (fun h => hbk1 j h) (fun h => .inr (by omega))
        · exact chg_then hc2 hc3 fun j hj hh => hh.imp id fun h => (hbk1 j h).elim id fun h => by omega
      have hdr := ext_drew w2
      obtain ⟨d0, d1, d2, d3⟩ := blk4 (hX2.ext hdr)
      have Fd := FF (hBf.ext hdr)
      unfold drw
      have L : ([60] ++ tagF k ++ valF k t mm ++ [47, 62]).length ≤ 65600 := by simp; omega
      refine ⟨⟨tagF k, Fd 0, by simp; omega, k, d0, t, d1, mm, d2, a', ps.len, c', d3, ?_, trivial⟩, ⟨k, d0, t, d1, mm, d2, a', ps.len, c', d3, ⟨tagF k, Fd 0, by simp; omega, ?_, trivial⟩, ?_, trivial⟩, trivial⟩
      · exact value_spec (hF2.ext hdr) k t mm a' c' ps hok fun v he => ⟨_, rfl, by simp; omega, by simp; omega, tagW _ (ext_trans hdr he) L fun bo3 w3 h1 h2 h3 => ⟨_, _, rfl, fin bo3 w3 h1 h2 h3⟩, trivial⟩
      · exact value_spec (hF2.ext hdr) k t mm a' c' ps hok fun v he => ⟨_, rfl, by simp; omega, by simp; omega, tagW _ (ext_trans hdr he) L fun bo3 w3 h1 h2 h3 => ⟨_, _, rfl, fin bo3 w3 h1 h2 h3⟩, trivial⟩
      · exact value_spec (hF2.ext hdr) k t mm a' c' ps hok fun v he => ⟨_, rfl, tagF k, FF (hBf.ext (ext_trans hdr he)) 0, by simp; omega, by simp; omega, by simp; omega, tagW _ (ext_trans hdr he) L fun bo3 w3 h1 h2 h3 => ⟨_, _, rfl, fin bo3 w3 h1 h2 h3⟩, trivial⟩
  · obtain ⟨rfl, rfl⟩ := Fo.last hpr (by omega)
    exact h bo1 W hbW hbk1 hcW
end Go.Proofs
namespace Go.Proofs
open Go Go.Sh Go.RowKit

theorem marked_spec {R : Ending → World → Prop} {S : Nat → Prop} {w : World} {a : Option Addr} {n c : Nat} (f : Fo) (hs : f.size ≤ 1000000) (hg : good f) (hf : SlF S w a n f) (hF : Forms w)
    (h : ∀ w', Ext w w' → R (.returned (.string ⟨⟨printF f⟩⟩)) w') : Calls Tryz.prog F_transcript_marked ⟨[.slice a n c]⟩ w R := by
  apply c_transcript_marked
  refine al_intro fun b w1 hb hB e1 s1 => ?_
  refine al_intro fun tw w2 htw hBw e2 s2 => ?_
  refine stL_one hBw rfl fun w3 hBw3 hc3 hs3 => ?_
  have E2 := ext_trans e1 e2
  have E3 : Ext w w3 := ext_chgS E2 hc3 fun k hk => by omega
  refine ⟨.func 72, ⟨[]⟩, ⟨[.pointer (some ⟨b, 0, none⟩), .pointer (some ⟨tw, 0, none⟩)]⟩, by rw [hBw3.cell]; rfl, by kernel_rfl, ?_⟩
  have hbld : BldAt w3 b none [] := ⟨.pointer none, 0, hc3.blk (hB.ext e2) (by omega), .inl rfl, Owns.nil _ _ _ _⟩
  have hw := hF.1
  refine write_walk f (S := fun k => S k ∧ k < w.heap.size) (acc := []) hs hg ((hf.imp fun k hk hl => ⟨hk, hl⟩).ext E3) (hF.ext E3) (by omega) hbld (fun k hk => ⟨by omega, by simp [bk]⟩) hBw3 (by omega) (by simp [bk]) (by simp; omega) fun bo w4 hb4 hk4 hc4 => ⟨rfl, ?_⟩
  refine String_spec hb4 fun w5 hbel => ⟨_, rfl, ?_⟩
  have E4 : Ext w w4 := ext_chgS E3 hc4 fun k hk => hk.elim (fun h => by omega) (fun h => by simp [bk] at h)
  exact h w5 (E4.trans (hbel.mono (by omega)))

/- the two ranges over the places -/
theorem placesF_len : ∀ (f : Fo) (d : Nat) (b : Bool), (placesF f d b).length ≤ f.size
  | .nil, _, _ => by simp [placesF, Fo.size]
  | .cons k t n ps r, d, b => by
    have h1 := placesF_len ps (d + 1) false
    have h2 := placesF_len r d (decide (k = 1))
    simp only [placesF, Fo.size, List.length_cons, List.length_append]
    split
    · omega
    · simp; omega
theorem placesF_deep : ∀ (f : Fo) (d : Nat) (b : Bool), ∀ x ∈ placesF f d b, 0 < x.ps.len → x.d + 1 ≤ d + f.depth
  | .nil, _, _, x, hx, _ => by simp [placesF] at hx
  | .cons k t n ps r, d, b, x, hx, hp => by
    rw [Fo.depth_parts]
    simp only [placesF, List.mem_cons, List.mem_append] at hx
    rcases hx with rfl | hx | hx
    · simp only at hp ⊢
      rw [if_neg (by omega)]; omega
    · split at hx
      · have := placesF_deep ps (d + 1) false x hx hp
        have : ps.len ≠ 0 := fun e => by
          have e' := Fo.eq_nil_of_len e
          subst e'
          simp [placesF] at hx
        rw [if_neg this]; omega
      · simp at hx
    · have := placesF_deep r d _ x hx hp
      omega
theorem placesF_all : ∀ (f : Fo) (d : Nat) (b : Bool), d ≤ 16 → (∀ x ∈ placesF f d b, ¬ (16 ≤ x.d ∧ 0 < x.ps.len)) → (placesF f d b).length = f.size ∧ f.depth + d ≤ 16
  | .nil, _, _, hd, _ => ⟨rfl, by simp [Fo.depth]; omega⟩
  | .cons k t n ps r, d, b, hd, h => by
    rw [Fo.depth_parts]
    simp only [placesF, if_pos hd] at h ⊢
    have h1 : ¬ (16 ≤ d ∧ 0 < ps.len) := h ⟨k, t, n, ps, d, b⟩ (by simp)
    have i2 := placesF_all r d (decide (k = 1)) hd fun x hx => h x (by simp [hx])
    by_cases hp : ps.len = 0
    · have e' := Fo.eq_nil_of_len hp
      subst e'
      simp only [placesF, List.nil_append, List.length_cons, Fo.size, Fo.len_nil, if_true]
      omega
    · have i1 := placesF_all ps (d + 1) false (by omega) fun x hx => h x (by simp [hx])
      rw [if_neg hp]
      simp only [List.length_cons, List.length_append, Fo.size]
      omega
def errP (x : Pl) : Int := singleF x.k x.t x.n x.ps x.b (decide (0 < x.d))
def errs : List Pl → Int
  | [] => 0
  | x :: l => if errP x ≠ 0 then errP x else errs l
theorem errs_app (l m : List Pl) : errs (l ++ m) = if errs l ≠ 0 then errs l else errs m := by
  induction l with
  | nil => simp [errs]
  | cons x l ih =>
    simp only [List.cons_append, errs, ih]
    by_cases h : errP x ≠ 0
    · simp [h]
    · simp [h]
theorem errs_places : ∀ (f : Fo) (d : Nat) (b : Bool), f.depth + d ≤ 16 → errs (placesF f d b) = allF f b (decide (0 < d))
  | .nil, _, _, _ => rfl
  | .cons k t n ps r, d, b, h => by
    rw [Fo.depth_parts] at h
    have i2 := errs_places r d (decide (k = 1)) (by omega)
    simp only [placesF, allF]
    rw [if_pos (by omega)]
    simp only [errs, errs_app, i2]
    by_cases hp : ps.len = 0
    · have e' := Fo.eq_nil_of_len hp
      subst e'
      simp only [placesF, errs, allF]; rfl
    · rw [if_neg hp] at h
      rw [errs_places ps (d + 1) false (by omega)]
      simp only [Nat.zero_lt_succ, decide_true]
      rfl
theorem errs_stop {pre l : List Pl} {x : Pl} (h : pre ++ [x] <+: l) (hp : errs pre = 0) (hx : errP x ≠ 0) : errs l = errP x := by
  obtain ⟨t, rfl⟩ := h
  rw [errs_app, errs_app, hp]
  simp [errs, hx]
end Go.Proofs
namespace Go.Proofs
open Go Go.Sh Go.RowKit

theorem spend_spec {R : Ending → World → Prop} {W : World} {b4 : Nat} {x : Int} (hb : Blk W b4 [.int .i64 x] 3) (hx : -9223372036854775807 ≤ x ∧ x ≤ 9223372036854775807)
    (h : ∀ W', Blk W' b4 [.int .i64 (x - 1)] 3 → Chg (· = b4) W W' → R (.returned (.bool (decide (0 ≤ x - 1)))) W') : Calls Tryz.prog F_transcript_Check_1 ⟨[.pointer (some ⟨b4, 0, none⟩)]⟩ W R := by
  apply c_transcript_Check_1
  refine dr_ok ⟨x, hb.cell 0, dr_ok ?_⟩
  rw [wrap_id (by omega)]
  exact stL_one hb rfl fun W' h1 h2 h3 => dr_ok ⟨x - 1, h1.cell 0, h W' h1 h2⟩

def thirdQ (a : Option Addr) (n c b2 : Nat) (R : Ending → World → Prop) (ds : List Deferred) (W' : World) : Prop :=
  Calls Tryz.prog 44 ⟨[.slice a n c]⟩ W' fun (e39 : Ending) (w40 : World) =>
  ∃ (x41 : List UInt8), e39 = .returned (.string ⟨⟨x41⟩⟩) ∧ (br (decide ((65536 : Int) < ((List.length x41 : Int)))) (stL w40 (⟨b2, 0, none⟩ : Addr) 0 [.int .i64 4] fun w42 =>
  retD ds w42 fun w43 =>
  ∃ (x44 : Int), World.cell? w43 (⟨b2, 0, none⟩ : Addr) = some (.int .i64 x44) ∧ (R (.returned (.int .i64 x44)) w43)) (stL w40 (⟨b2, 0, none⟩ : Addr) 0 [.int .i64 0] fun w45 =>
  retD ds w45 fun w46 =>
  ∃ (x47 : Int), World.cell? w46 (⟨b2, 0, none⟩ : Addr) = some (.int .i64 x47) ∧ (R (.returned (.int .i64 x47)) w46)))
def secondQ (a : Option Addr) (n c b2 : Nat) (R : Ending → World → Prop) (ds : List Deferred) (W : World) : Prop :=
  Calls Tryz.prog 46 ⟨[.slice a n c]⟩ W fun (e33 : Ending) (w34 : World) =>
  ∃ (x35 : Fn) (x35a : Array Value) (x35b : Array Value), e33 = .returned (.func x35 x35a x35b) ∧ (∀ base36 : Env, RFw Tryz.prog none 39 (cdAt Tryz.f17 [1, 1, 1, 1, 0, 1, 2]) (upd (upd (upd base36 28 (.func x35 x35a x35b)) 2 (.pointer (some ⟨b2, 0, none⟩))) 0 (.slice a n c)) ds w34 0
    (fun ds37 w38 => thirdQ a n c b2 R ds37 w38) (fun ds37 w38 =>
  retD ds37 w38 fun w48 =>
  ∃ (x49 : Int), World.cell? w48 (⟨b2, 0, none⟩ : Addr) = some (.int .i64 x49) ∧ (R (.returned (.int .i64 x49)) w48)) (fun _ _ => False))

set_option maxRecDepth 20000 in
theorem Check22_spec {R : Ending → World → Prop} {S : Nat → Prop} {w : World} {a : Option Addr} {n c : Nat} (f : Fo) (hs : small f) (hf0 : SlF S w a n f) (hF : Forms w)
    (h : ∀ w', Ext w w' → R (.returned (.int .i64 (checkT f))) w') : Calls Tryz.prog F_transcript_Check ⟨[.slice a n c]⟩ w R := by
  apply c_transcript_Check
  refine al_intro fun b2 w1 hb2 B2 e1 s1 => ?_
  refine al_intro fun b4 w3 hb4 B4 e3 s3 => ?_
  refine stL_one B4 rfl fun w4 B4 hc4 s4 => ?_
  refine al_intro fun b7 w5 hb7 B7 e5 s5 => ?_
  refine stL_one B7 rfl fun w6 B7 hc6 s6 => ?_
  have z1 := e1.size
  have E3 := ext_trans e1 e3
  have E4 : Ext w w4 := ext_chgS E3 hc4 fun k hk => by omega
  have E6 : Ext w w6 := ext_chgS (ext_trans E4 e5) hc6 fun k hk => by omega
  have B2 := hc6.blk ((hc4.blk (B2.ext e3) (by omega)).ext e5) (by omega)
  have B4 := hc6.blk (B4.ext e5) (by omega)
  refine places_spec fun bs w7 Bs e7 hbs => ⟨_, _, _, rfl, fun base => ?_⟩
  have E7 := ext_trans E6 e7
  have B2 := B2.ext e7
  have B4 := B4.ext e7
  have B7 := B7.ext e7
  have l2 := B2.lt
  have l4 := B4.lt
  have l7 := B7.lt
  have ls := Bs.lt
  have hf : SlF (fun k => k < w.heap.size) w a n f := hf0.imp fun k _ hl => hl
  have z6 := E6.size
  have z7 := E7.size
  have hfw7 : SlF (fun k => k < w.heap.size ∨ k = bs) w7 a n f := (hf.ext E7).imp fun k hk _ => .inl hk
  -- the second range, once the first has ended
  have second : ∀ (D : Nat) (W : World), w7.heap.size ≤ D → D < W.heap.size → W.heap[D]? = some (.deferred (some [])) → Blk W b2 [.int .i64 0] 25 → Ext w W → (f.size ≤ 4096 ∧ f.depth ≤ 16) → secondQ a n c b2 R [{ target := .collected D, args := #[] }] W := by
    intro D W hD1 hD2 hD3 B2 EW hok
    have hfW := hf.ext EW
    have hck : checkT f = if allF f false false ≠ 0 then allF f false false else if 65536 < (printF f).length then 4 else 0 := by unfold checkT; rw [if_pos hok]
    have her := errs_places f 0 false (by omega)
    simp only [Nat.lt_irrefl, decide_false] at her
    rw [hck, ← her] at h
    refine places_spec fun bt v Bt ev hbt => ⟨_, _, _, rfl, fun base => ?_⟩
    have EV := ext_trans EW ev
    have zv := ev.size
    have zW := EW.size
    have l2 := B2.lt
    have hwz := E7.size
    rw [cd_transcript_Check_2]
    have lt := Bt.lt
    have hD4 : v.heap[D]? = some (.deferred (some [])) := (ev.block D hD2).trans hD3
    refine RFw_lawR anA_transcript_Check_2 anB_transcript_Check_2 (gf := F_transcript_places_1) rfl (by kernel_rfl) (xs := placesF f 0 false) (E := PlE (fun k => k < w.heap.size ∨ k = bt) v) (Rd := fun k => k < w.heap.size ∨ k = bt)
      (fun v1 he => (places_iter f hs bt v1 (Bt.ext he) ((hf.ext (ext_trans EV he)).imp fun k hk _ => .inl hk) (.inr rfl)).mono ?_) (fun y vs hE => by obtain ⟨a', c', rfl, _⟩ := hE; rfl) (by decide) (fun k hk => by omega) (· = b2) (fun k hk => by omega)
      (fun pre W' => Blk W' b2 [.int .i64 0] 25 ∧ errs pre = 0 ∧ Ext w W' ∧ W'.heap[D]? = some (.deferred (some []))) (fun W' => Blk W' b2 [.int .i64 (errs (placesF f 0 false))] 25 ∧ errs (placesF f 0 false) ≠ 0 ∧ Ext w W' ∧ W'.heap[D]? = some (.deferred (some []))) (fun _ => False)
      ?_ ?_ (fun _ _ h => h.elim) ⟨B2.ext ev, rfl, EV, hD4⟩ ?_ ?_ ?_ (fun _ _ _ _ _ h => h.elim)
    · rintro x vs ⟨a', c', rfl, hsl⟩
      exact ⟨a', c', rfl, hsl.keep' fun k hk hl => ⟨hk, by omega, ((he.block k (by omega))).symm⟩⟩
    · rintro pre W1 W2 ⟨g1, g2, g3, g4⟩ hc
      exact ⟨hc.blk g1 (by omega), g2, ext_chg g3 hc (by omega), (hc.block D (Array.getElem?_eq_some_iff.1 g4).1 (by omega)).trans g4⟩
    · rintro W1 W2 ⟨g1, g2, g3, g4⟩ hc
      exact ⟨hc.blk g1 (by omega), g2, ext_chg g3 hc (by omega), (hc.block D (Array.getElem?_eq_some_iff.1 g4).1 (by omega)).trans g4⟩
    · rintro pre ⟨k, t, m, ps, d, b⟩ vs W1 l ⟨a', c', rfl, hsl⟩ hpre hl1 hl2 ⟨g1, g2, g3, g4⟩
      refine Eq.mpr (er_transcript_Check_2 base _ _ _ _ _ _ _ _ _ _ _ _ _ _ _ _ _ _ _ _) ?_
      refine al_stL (by simp) (by intro u hu; simp only [List.mem_cons, List.not_mem_nil, or_false] at hu; rcases hu with rfl | rfl | rfl | rfl | rfl | rfl <;> rfl) fun bp W2 hbp Bp ep sp => ?_
      refine ⟨ep, fun W3 hU => ?_⟩
      have Bp3 := upd_blk hU Bp (by omega)
      have P3 : ∀ j, W3.cell? ((⟨bp, 0, none⟩ : Addr).add j) = [Value.int .i64 k, .string ⟨⟨t⟩⟩, .int .i64 m, .slice a' ps.len c', .int .i64 (d : Int), .bool b][j]? := fun j => by rw [add_none, Bp3.cell]; simp
      have E3 : Ext w W3 := ext_chg (ext_trans g3 ep) (upd_chg hU (Nat.le_refl l)) (by omega)
      have zz := ep.size
      have hD5 : W3.heap[D]? = some (.deferred (some [])) := by
        rw [hU.block D (by omega), ep.block D (Array.getElem?_eq_some_iff.1 g4).1]; exact g4
      have g1' := upd_blk hU (g1.ext ep) (by omega)
      refine ⟨k, P3 0, t, P3 1, m, P3 2, a', ps.len, c', P3 3, d, P3 4, b, P3 5, right_tr_spec (hF.ext E3) k t m a' c' ps d b fun W4 e4 => ⟨_, rfl, br_split (fun q => ?_) (fun q => ?_)⟩⟩
      · have hes := errs_stop hpre g2 (x := ⟨k, t, m, ps, d, b⟩) q
        refine dr_ok (stL_one (g1'.ext e4) rfl fun W5 q1 q2 q3 => ?_)
        have l2' := (g1'.ext e4).lt
        refine ⟨(Chg.of_ext e4).trans q2, ?_, ?_, ext_chgS (ext_trans E3 e4) q2 fun k hk => by omega, ?_⟩
        · rw [hes]; exact q1
        · rw [hes]; exact q
        · exact (q2.block D (Nat.lt_of_lt_of_le (Array.getElem?_eq_some_iff.1 hD5).1 e4.size) (by omega)).trans ((e4.block D (Array.getElem?_eq_some_iff.1 hD5).1).trans hD5)
      · refine ⟨Chg.of_ext e4, g1'.ext e4, ?_, ext_trans E3 e4, (e4.block D (Array.getElem?_eq_some_iff.1 hD5).1).trans hD5⟩
        rw [errs_app, g2]
        simp only [errs, ne_eq, not_true, if_false]
        exact if_neg (fun hh => q hh)
    · rintro D' W1 hD1' hD2' hD3' ⟨g1, g2, g3, g4⟩
      rw [g2] at h
      simp only [ne_eq, not_true, if_false] at h
      have hgood : good f := all_good f _ _ (by rw [← her]; exact g2)
      refine marked_spec f (by omega) hgood (hf.ext g3) (hF.ext g3) fun W2 e2 => ⟨_, rfl, ?_⟩
      have hne : D ≠ D' := by omega
      have tl : ∀ x : Int, checkT f = x → (stL W2 (⟨b2, 0, none⟩ : Addr) 0 [.int .i64 x] fun w42 =>
          retD [{ target := .collected D', args := #[] }, { target := .collected D, args := #[] }] w42 fun w43 => ∃ (x44 : Int), World.cell? w43 (⟨b2, 0, none⟩ : Addr) = some (.int .i64 x44) ∧ (R (.returned (.int .i64 x44)) w43)) := by
        intro x hx
        refine stL_one (g1.ext e2) rfl fun W3 q1 q2 q3 => ?_
        have l2' := (g1.ext e2).lt
        have dl := (Array.getElem?_eq_some_iff.1 g4).1
        have dl' := (Array.getElem?_eq_some_iff.1 hD3').1
        have z2 := e2.size
        have d1 : W3.heap[D']? = some (.deferred (some [])) := (q2.block D' (by omega) (by omega)).trans ((e2.block D' dl').trans hD3')
        have d2 : W3.heap[D]? = some (.deferred (some [])) := (q2.block D (by omega) (by omega)).trans ((e2.block D dl).trans g4)
        refine ⟨D', rfl, d1, ?_⟩
        refine retD_one ((World.putObj_heap_other hne).trans d2) ⟨x, (blk_put (blk_put q1 (by omega) _) (by omega) _).cell 0, ?_⟩
        have := h _ (ext_put (ext_put (ext_chgS (ext_trans g3 e2) q2 fun k hk => by omega) (D := D') (by omega) (.deferred none)) (D := D) (by omega) (.deferred none))
        rw [hck, if_neg (by rw [← her, g2]; simp)] at hx
        rw [hx] at this
        exact this
      refine br_split (fun q => tl 4 ?_) (fun q => tl 0 ?_)
      · rw [hck, ← her, g2]; simp only [ne_eq, not_true, if_false]; rw [if_pos (by omega)]
      · rw [hck, ← her, g2]; simp only [ne_eq, not_true, if_false]; rw [if_neg (by omega)]
    · rintro D' W1 hD1' hD2' hD3' ⟨g1, g2, g3, g4⟩
      rw [if_pos g2] at h
      have hne : D ≠ D' := by omega
      refine ⟨D', rfl, hD3', ?_⟩
      refine retD_one ((World.putObj_heap_other hne).trans g4) ⟨_, (blk_put (blk_put g1 (by omega) _) (by omega) _).cell 0, ?_⟩
      exact h _ (ext_put (ext_put g3 (D := D') (by omega) (.deferred none)) (D := D) (by omega) (.deferred none))
  rw [cd_transcript_Check_1]
  refine RFw_lawR anA_transcript_Check_1 anB_transcript_Check_1 (gf := F_transcript_places_1) rfl (by kernel_rfl) (xs := placesF f 0 false) (E := PlE (fun k => k < w.heap.size ∨ k = bs) w7) (Rd := fun k => k < w.heap.size ∨ k = bs)
    (fun v1 he => (places_iter f hs bs v1 (Bs.ext he) ((hf.ext (ext_trans E7 he)).imp fun k hk _ => .inl hk) (.inr rfl)).mono ?_) (fun y vs hE => by obtain ⟨a', c', rfl, _⟩ := hE; rfl) (by decide) (fun k hk => by omega) (fun k => k = b2 ∨ k = b4) (fun k hk => by omega)
    (fun pre W' => Blk W' b2 [.int .i64 0] 25 ∧ Blk W' b4 [.int .i64 (4096 - (pre.length : Int))] 3 ∧ Blk W' b7 [.func (.func 45) ⟨[]⟩ ⟨[.pointer (some ⟨b4, 0, none⟩)]⟩] 23 ∧ pre.length ≤ 4096 ∧ (∀ x ∈ pre, ¬ (16 ≤ x.d ∧ 0 < x.ps.len)) ∧ Ext w W')
    (fun W' => Blk W' b2 [.int .i64 4] 25 ∧ ¬ (f.size ≤ 4096 ∧ f.depth ≤ 16) ∧ Ext w W') (fun _ => False)
    ?_ ?_ (fun _ _ h => h.elim) ⟨B2, (by simpa using B4), B7, by simp, by simp, E7⟩ ?_ ?_ ?_ (fun _ _ _ _ _ h => h.elim)
  · rintro x vs ⟨a', c', rfl, hsl⟩
    exact ⟨a', c', rfl, hsl.keep' fun k hk hl => ⟨hk, by omega, ((he.block k (by omega))).symm⟩⟩
  · rintro pre W1 W2 ⟨g1, g2, g3, g4, g5, g6⟩ hc
    exact ⟨hc.blk g1 (by omega), hc.blk g2 (by omega), hc.blk g3 (by omega), g4, g5, ext_chg g6 hc (by omega)⟩
  · rintro W1 W2 ⟨g1, g2, g3⟩ hc
    exact ⟨hc.blk g1 (by omega), g2, ext_chg g3 hc (by omega)⟩
  · rintro pre ⟨k, t, m, ps, d, b⟩ vs W1 l ⟨a', c', rfl, hsl⟩ hpre hl1 hl2 ⟨g1, g2, g3, g4, g5, g6⟩
    refine Eq.mpr (er_transcript_Check_1 base _ _ _ _ _ _ _ _ _ _ _ _ _ _ _ _ _ _ _ _ _) ?_
    refine al_stL (by simp) (by intro u hu; simp only [List.mem_cons, List.not_mem_nil, or_false] at hu; rcases hu with rfl | rfl | rfl | rfl | rfl | rfl <;> rfl) fun bp W2 hbp Bp ep sp => ?_
    refine ⟨ep, fun W3 hU => ?_⟩
    have Bp3 := upd_blk hU Bp (by omega)
    have E3 : Ext w W3 := ext_chg (ext_trans g6 ep) (upd_chg hU (Nat.le_refl l)) (by omega)
    have zz := ep.size
    have h1 := upd_blk hU (g1.ext ep) (by omega)
    have h2 := upd_blk hU (g2.ext ep) (by omega)
    have h3 := upd_blk hU (g3.ext ep) (by omega)
    have lb4 := h2.lt
    refine dr_ok ⟨.func 45, ⟨[]⟩, ⟨[.pointer (some ⟨b4, 0, none⟩)]⟩, by rw [h3.cell]; rfl, by kernel_rfl, spend_spec h2 (by omega) fun W4 k4 kc => ⟨_, rfl, ?_⟩⟩
    have k1 := kc.blk h1 (by omega)
    have k3 := kc.blk h3 (by omega)
    have kp := kc.blk Bp3 (by omega)
    have E4 : Ext w W4 := ext_chgS E3 kc fun k hk => by omega
    have l2' := k1.lt
    have kc' : Chg (fun k => k = b2 ∨ k = b4) W3 W4 := kc.mono fun k _ h => .inr h
    have stop : ¬ (f.size ≤ 4096 ∧ f.depth ≤ 16) → dr (some ⟨b2, 0, none⟩) fun p72 => stL W4 p72 0 [.int .i64 4] fun w71 => Chg (fun k => k = b2 ∨ k = b4) W3 w71 ∧ Blk w71 b2 [.int .i64 4] 25 ∧ ¬ (f.size ≤ 4096 ∧ f.depth ≤ 16) ∧ Ext w w71 := by
      intro hno
      refine dr_ok (stL_one k1 rfl fun W5 q1 q2 q3 => ?_)
      exact ⟨kc'.trans (q2.mono fun k _ h => .inl h), q1, hno, ext_chgS E4 q2 fun k hk => by omega⟩
    have hplen : pre.length + 1 ≤ (placesF f 0 false).length := by
      have := hpre.length_le; simpa using this
    have hpl := placesF_len f 0 false
    have go : ¬ (16 ≤ d ∧ 0 < ps.len) → pre.length + 1 ≤ 4096 → Chg (fun k => k = b2 ∨ k = b4) W3 W4 ∧ Blk W4 b2 [.int .i64 0] 25 ∧ Blk W4 b4 [.int .i64 (4096 - ((pre ++ [(⟨k, t, m, ps, d, b⟩ : Pl)]).length : Int))] 3 ∧ Blk W4 b7 [.func (.func 45) ⟨[]⟩ ⟨[.pointer (some ⟨b4, 0, none⟩)]⟩] 23 ∧ (pre ++ [(⟨k, t, m, ps, d, b⟩ : Pl)]).length ≤ 4096 ∧ (∀ x ∈ (pre ++ [(⟨k, t, m, ps, d, b⟩ : Pl)]), ¬ (16 ≤ x.d ∧ 0 < x.ps.len)) ∧ Ext w W4 := by
      intro hn1 hn2
      refine ⟨kc', k1, ?_, k3, by simpa using hn2, ?_, E4⟩
      · have e : (4096 - ((pre ++ [(⟨k, t, m, ps, d, b⟩ : Pl)]).length : Int)) = 4096 - (pre.length : Int) - 1 := by simp; omega
        rw [e]; exact k4
      · intro x hx
        rw [List.mem_append, List.mem_singleton] at hx
        rcases hx with hx | rfl
        · exact g5 x hx
        · exact hn1
    refine br_cases (fun q => stop ?_) (fun q => ?_)
    · simp only [Bool.not_eq_true', decide_eq_false_iff_not] at q
      omega
    · simp only [Bool.not_eq_false', decide_eq_true_eq] at q
      refine ⟨d, by rw [add_none, kp.cell]; rfl, br_split (fun q2 => ⟨a', ps.len, c', by rw [add_none, add_none, kp.cell]; rfl, br_split (fun q3 => stop ?_) (fun q3 => go (by omega) (by omega))⟩) (fun q2 => go (by omega) (by omega))⟩
      have := placesF_deep f 0 false ⟨k, t, m, ps, d, b⟩ (mem_of_prefix hpre) (by simp only; omega)
      simp only at this
      omega
  · rintro D W hD1 hD2 hD3 ⟨g1, g2, g3, g4, g5, g6⟩
    have hall := placesF_all f 0 false (by omega) g5
    exact second D W (by omega) hD2 hD3 g1 g6 ⟨by omega, by omega⟩
  · rintro D W hD1 hD2 hD3 ⟨g1, g2, g3⟩
    refine retD_one hD3 ⟨4, (blk_put g1 (by omega) _).cell 0, ?_⟩
    have e : checkT f = 4 := by unfold checkT; rw [if_neg g2]
    rw [← e]
    exact h _ (ext_put g3 (by omega) _)
end Go.Proofs
namespace Go.Proofs
open Go Go.Sh Go.RowKit

def addL : Fo → List UInt8 → Fo
  | .nil, _ => .nil
  | .cons k t n ps r, s => match r with
    | .nil => .cons k (t ++ s) n ps .nil
    | .cons k' t' n' ps' r' => .cons k t n ps (addL (.cons k' t' n' ps' r') s)
def lastT : Fo → Bool
  | .nil => false
  | .cons k _ _ _ r => match r with
    | .nil => decide (k = 1)
    | .cons k' t' n' ps' r' => lastT (.cons k' t' n' ps' r')
theorem addL_snoc (pre : Fo) (k t n ps s) : addL (pre.app (.one k t n ps)) s = pre.app (.one k (t ++ s) n ps) := by
  induction pre with
  | nil => rfl
  | cons k1 t1 n1 ps1 r _ ih =>
    cases r with
    | nil => rfl
    | cons k2 t2 n2 ps2 r2 => simp only [Fo.cons_app, addL] at ih ⊢; rw [ih]
theorem lastT_snoc (pre : Fo) (k t n ps) : lastT (pre.app (.one k t n ps)) = decide (k = 1) := by
  induction pre with
  | nil => rfl
  | cons k1 t1 n1 ps1 r _ ih =>
    cases r with
    | nil => rfl
    | cons k2 t2 n2 ps2 r2 => simp only [Fo.cons_app, lastT] at ih ⊢; rw [ih]
theorem Fo_view : ∀ (f : Fo), f = .nil ∨ ∃ (pre : Fo) (k : Int) (t : List UInt8) (n : Int) (ps : Fo), f = pre.app (.one k t n ps)
  | .nil => .inl rfl
  | .cons k t n ps r => .inr (by
    rcases Fo_view r with rfl | ⟨pre, k1, t1, n1, ps1, rfl⟩
    · exact ⟨.nil, k, t, n, ps, rfl⟩
    · exact ⟨.cons k t n ps pre, k1, t1, n1, ps1, rfl⟩)
def tlen : Fo → Nat
  | .nil => 0
  | .cons _ t _ ps r => t.length + tlen ps + tlen r
theorem tlen_app (f g : Fo) : tlen (f.app g) = tlen f + tlen g := by
  induction f with
  | nil => simp [tlen]
  | cons k t n ps r _ ih => simp only [Fo.cons_app, tlen, ih]; omega
def snocM (out : Fo) (k : Int) (t : List UInt8) (n : Int) (ps : Fo) : Fo :=
  if k = 1 ∧ t = [] then out else if k = 1 ∧ lastT out = true then addL out t else out.app (.one k t n ps)
def mgo : Fo → Fo → Fo
  | .nil, out => out
  | .cons k t n ps r, out => mgo r (snocM out k t n (mgo ps .nil))
def mergeF (f : Fo) : Fo := mgo f .nil

theorem slT_node : SlT Tryz.prog 24 35 4 56 (.agg #[.int .i64 0, .string ⟨⟨[]⟩⟩, .int .i64 0, .slice none 0 0]) := ⟨by kernel_rfl, by kernel_rfl, rfl, by decide⟩
theorem own_parts {S : Nat → Prop} {e : TypeId} {B Z : Nat} {W W0 : World} {a a' : Option Addr} {n c m : Nat} {f ps : Fo} (h : SlF (fun k => S k ∨ Z ≤ k) W a' m ps) (hS : ∀ k, S k → k < B) (ho : OwnF e S B W0 a n c f) (hZ : W0.heap.size ≤ Z) (hB : B ≤ W0.heap.size) :
    SlF (fun k => (S k ∨ B ≤ k) ∧ ¬ bk a k) W a' m ps :=
  h.imp fun k hk _ => hk.elim (fun h => ⟨.inl h, fun hb => by have := (ho.bk hb).1; have := hS k h; omega⟩) (fun h => ⟨.inr (by omega), fun hb => by have := (ho.bk hb).2; omega⟩)
theorem snoc_len (out : Fo) (k t n ps) : (snocM out k t n ps).len ≤ out.len + 1 := by
  unfold snocM
  split
  · omega
  · split
    · rcases Fo_view out with rfl | ⟨pre, k1, t1, n1, ps1, rfl⟩
      · simp [addL]
      · rw [addL_snoc]; simp [Fo.one]
    · simp [Fo.one]
theorem snoc_last {out : Fo} {k t n ps} {L : Nat} (h : ∀ pre k t m ps, out = Fo.app pre (.one k t m ps) → t.length ≤ L) : ∀ (pre : Fo) (k1 : Int) (t1 : List UInt8) (m1 : Int) (ps1 : Fo), snocM out k t n ps = pre.app (.one k1 t1 m1 ps1) → t1.length ≤ L + t.length := by
  intro pre k1 t1 m1 ps1 he
  have inj : ∀ {p q : Fo} {k k' t t' n n' ps ps'}, p.app (.one k t n ps) = q.app (.one k' t' n' ps') → t = t' := by
    intro p
    induction p with
    | nil =>
      intro q k k' t t' n n' ps ps' h
      cases q with
      | nil => simp [Fo.one] at h; exact h.2.1
      | cons a b c d e => simp only [Fo.nil_app, Fo.one, Fo.cons_app, Fo.cons.injEq] at h; have := congrArg Fo.len h.2.2.2.2; simp [Fo.one] at this
    | cons a b c d e _ ih =>
      intro q k k' t t' n n' ps ps' h
      cases q with
      | nil => simp only [Fo.nil_app, Fo.one, Fo.cons_app, Fo.cons.injEq] at h; have := congrArg Fo.len h.2.2.2.2; simp [Fo.one] at this
      | cons a' b' c' d' e' => simp only [Fo.cons_app, Fo.cons.injEq] at h; exact ih h.2.2.2.2
  unfold snocM at he
  split at he
  · have := h _ _ _ _ _ he; omega
  · split at he
    · rcases Fo_view out with rfl | ⟨p2, k2, t2, n2, ps2, rfl⟩
      · simp [addL] at he
        have := congrArg Fo.len he; simp [Fo.one] at this
      · rw [addL_snoc] at he
        have e := inj he
        have := h p2 k2 t2 n2 ps2 rfl
        rw [← e]; simp; omega
    · have e := inj he
      rw [← e]; omega
theorem wrap_pred {n : Nat} (h : 0 < n) (h2 : n ≤ 4611686018427387904) : IntKind.i64.wrap ((n : Int) - 1) = ((n - 1 : Nat) : Int) := by rw [wrap_id (by omega)]; omega

theorem Merge_spec : ∀ (f : Fo) {R : Ending → World → Prop} {S : Nat → Prop} {w : World} {a : Option Addr} {n c : Nat}, f.size ≤ 1000000000 → tlen f ≤ 4611686018427387904 → SlF S w a n f →
    (∀ a' n' c' w', SlF (fun k => S k ∨ w.heap.size ≤ k) w' a' n' (mergeF f) → Ext w w' → R (.returned (.slice a' n' c')) w') → Calls Tryz.prog F_transcript_Merge ⟨[.slice a n c]⟩ w R := by
  intro f
  induction hz : f.size using Nat.strongRecOn generalizing f with
  | _ z ih =>
  intro R S w a n c hs ht hf0 h
  apply c_transcript_Merge
  have hn := hf0.1
  have hfl := f.len_le_size
  have hf : SlF (fun k => S k ∧ k < w.heap.size) w a n f := hf0.imp fun k hk hl => ⟨hk, hl⟩
  refine ⟨fun oa on oc i W m => ∃ (p r out : Fo), f = p.app r ∧ i = p.len ∧ m = r.len ∧ OwnF 35 (fun k => S k ∧ k < w.heap.size) w.heap.size W oa on oc out ∧ out.len ≤ p.len ∧ (∀ pre k t m ps, out = Fo.app pre (.one k t m ps) → t.length ≤ tlen p) ∧ Ext w W ∧ mergeF f = mgo r out,
    ⟨_, .nil, f, .nil, rfl, rfl, rfl, OwnF.nil w, by simp, ?_, Below.refl _ _, rfl⟩, ?_⟩
  · intro pre k t m ps he
    have := congrArg Fo.len he; simp [Fo.one] at this
  rintro oa on oc _ W m ⟨p, r, out, hpr, rfl, rfl, hout, holen, hlast, he, heq⟩ _
  have hon := hout.len
  have hwW := he.size
  refine br_split (fun hlt => ?_) (fun hge => ?_)
  · obtain ⟨k, t, mm, ps, r, rfl⟩ := Fo.next hpr (by omega)
    have hsl := Fo.sub_len hpr
    have hsz := Fo.sub_size hpr
    have htl : tlen f = tlen p + (t.length + tlen ps + tlen r) := by rw [hpr, tlen_app]; rfl
    have e1 : f = (p.app (.one k t mm ps)).app r := by rw [Fo.app_one_app]; exact hpr
    have i1 : IntKind.i64.wrap ((p.len : Int) + 1) = ((p.app (.one k t mm ps)).len : Int) := by rw [wrap_nat (by omega)]; simp [Fo.one]
    have t1 : tlen (p.app (.one k t mm ps)) = tlen p + (t.length + tlen ps) := by rw [tlen_app]; simp [Fo.one, tlen]
    rw [mgo] at heq
    -- what every way ends in
    have done : ∀ (oa' : Option Addr) (on' oc' : Nat) (W' : World), OwnF 35 (fun k => S k ∧ k < w.heap.size) w.heap.size W' oa' on' oc' (snocM out k t mm (mgo ps .nil)) → Ext w W' →
        ∃ m42, m42 < (Fo.cons k t mm ps r).len ∧ ∃ (p' r' out' : Fo), f = p'.app r' ∧ IntKind.i64.wrap ((p.len : Int) + 1) = p'.len ∧ m42 = r'.len ∧ OwnF 35 (fun k => S k ∧ k < w.heap.size) w.heap.size W' oa' on' oc' out' ∧ out'.len ≤ p'.len ∧ (∀ pre k t m ps, out' = Fo.app pre (.one k t m ps) → t.length ≤ tlen p') ∧ Ext w W' ∧ mergeF f = mgo r' out' := by
      intro oa' on' oc' W' ho' he'
      refine ⟨r.len, by simp, _, r, _, e1, i1, rfl, ho', ?_, ?_, he', heq⟩
      · have := snoc_len out k t mm (mgo ps .nil)
        simp [Fo.one]; omega
      · intro pre k1 t1' m1 ps1 hsn
        have := snoc_last hlast pre k1 t1' m1 ps1 hsn
        omega
    obtain ⟨q, a', c', hq, hSq, hql, hN⟩ := (hf.ext he).get hpr
    refine hq _ ⟨k, hN.kind, t, hN.text, mm, hN.num, a', ps.len, c', hN.parts, ?_⟩
    refine al_stL (by simp) (by intro u hu; simp only [List.mem_cons, List.not_mem_nil, or_false] at hu; rcases hu with rfl | rfl | rfl | rfl <;> rfl) fun bx w1 hbx hBx e2 s2 => ?_
    obtain ⟨x0, x1, x2, x3⟩ := blk4 hBx
    have E1 := ext_trans he e2
    have ho1 := hout.ext e2
    have hzz := e2.size
    intro K16 hK16
    have k16 : ¬ (k = 1 ∧ t = []) → K16 w1 := by
      intro hne
      refine hK16 _ fun _ => ?_
      intro K18 hK18
      have k18 : ∀ g, g = decide (k = 1 ∧ lastT out = true) → K18 g w1 := by
        rintro _ rfl
        refine hK18 _ _ fun _ => br_split (fun g => ?_) (fun g => ?_)
        · have hsn : snocM out k t mm (mgo ps .nil) = addL out t := by unfold snocM; rw [if_neg hne, if_pos g]
          rcases Fo_view out with rfl | ⟨pre, k2, t2, n2, ps2, rfl⟩
          · simp [lastT] at g
          rw [addL_snoc] at hsn
          have hdr := ext_drew w1
          obtain ⟨q2, hq2, l0, l1, lst⟩ := (ho1.ext hdr).last
          have onl : on = pre.len + 1 := by rw [hon]; simp [Fo.one]
          have e : IntKind.i64.wrap ((on : Int) - 1) = (pre.len : Int) := by rw [wrap_pred (by omega) (by omega), onl]; simp
          have hl2 := hlast pre k2 t2 n2 ps2 rfl
          unfold drw
          rw [e]
          refine hq2 _ ⟨t2, l1, t, (blk4 (hBx.ext hdr)).2.1, by omega, hq2 _ ⟨lst _ _ fun w3 ho3 hc3 => ?_, trivial⟩⟩
          refine done _ _ _ w3 (by rw [hsn]; exact ho3) ?_
          exact ext_chgS (ext_trans E1 hdr) hc3 fun j hj => ((ho1.ext hdr).bk hj).1
        · have hsn : snocM out k t mm (mgo ps .nil) = out.app (.one k t mm (mergeF ps)) := by unfold snocM; rw [if_neg hne, if_neg g]; rfl
          refine ⟨a', ps.len, c', x3, ?_⟩
          refine ih _ (hz ▸ hsz) ps rfl (S := fun k => S k ∧ k < w.heap.size) (by omega) (by omega) (hN.sl.ext e2) fun a3 n3 c3 w3 hsl3 e3 => ⟨_, _, _, rfl, ?_⟩
          have hBx3 := hBx.ext e3
          have hn3 := hsl3.1
          rw [add_none]
          refine stL_blk hBx3 (by simp) (by intro u hu; simp only [List.mem_singleton] at hu; subst hu; rfl) fun w4 b1 b2 b3 b4 b5 b6 => ?_
          simp only [putAt, List.set] at b1
          have hc4 : Chg (· = bx) w3 w4 := ⟨b4, b5, b6, by omega, fun k _ hk => b2 k hk⟩
          have E4 : Ext w w4 := ext_chgS (ext_trans E1 e3) hc4 fun j hj => by omega
          have z3 := e3.size
          have EW4 : Ext W w4 := ext_chgS (ext_trans e2 e3) hc4 fun j hj => by omega
          have ho4 := hout.ext EW4
          have z4 := EW4.size
          have hp4 : SlF (fun j => (S j ∧ j < w.heap.size) ∨ w1.heap.size ≤ j) w4 a3 n3 (mergeF ps) := hsl3.chg hc4 fun j hj he => by
            subst he; rcases hj with hj | hj <;> omega
          subst hn3
          obtain ⟨y0, y1, y2, y3⟩ := blk4 b1
          refine ⟨k, y0, t, y1, mm, y2, a3, _, c3, y3, ?_⟩
          refine OwnF.push slT_node ho4 (by omega) (own_parts hp4 (fun j hj => hj.2) hout (by omega) (by omega)) (by omega) (by omega) fun a5 n5 c5 w5 ho5 hc5 => ?_
          refine done a5 n5 c5 w5 (by rw [hsn]; exact ho5) ?_
          exact ext_chgS E4 hc5 fun j hj => (hout.bk hj).1
      have lt : ∀ (pre : Fo) (k2 : Int) (t2 : List UInt8) (m2 : Int) (ps2 : Fo), out = pre.app (.one k2 t2 m2 ps2) → lastT out = decide (k2 = 1) ∧ on = pre.len + 1 := fun pre k2 t2 m2 ps2 hv => by
        subst hv; exact ⟨lastT_snoc .., by rw [hon]; simp [Fo.one]⟩
      rcases Fo_view out with hv | ⟨pre, k2, t2, m2, ps2, hv⟩
      · subst hv
        have : on = 0 := hon
        subst this
        refine br_split (fun g => ?_) (fun g => k18 _ (by simp [lastT]))
        rw [wrap_id (by omega)] at g; simp at g
      · obtain ⟨hl1, hl2⟩ := lt _ _ _ _ _ hv
        have e : IntKind.i64.wrap ((on : Int) - 1) = (pre.len : Int) := by rw [wrap_pred (by omega) (by omega), hl2]; simp
        rw [e]
        refine br_split (fun g => ⟨k, x0, br_split (fun g2 => ?_) (fun g2 => k18 _ (by simp [g2]))⟩) (fun g => absurd (by omega) g)
        subst hv
        obtain ⟨q2, hq2, l0, l1, lst⟩ := ho1.last
        exact hq2 _ ⟨k2, l0, k18 _ (by rw [hl1]; simp [g2])⟩
    refine ⟨k, x0, br_split (fun g => ⟨t, x1, br_split (fun g2 => ?_) (fun g2 => k16 fun hh => g2 hh.2)⟩) (fun g => k16 fun hh => g hh.1)⟩
    exact done oa on oc w1 (by unfold snocM; rw [if_pos ⟨g, g2⟩]; exact ho1) E1
  · obtain ⟨rfl, rfl⟩ := Fo.last hpr (by omega)
    rw [heq] at h
    refine h oa on oc W (hout.out.imp fun k hk _ => hk.imp (fun h => h.1) id) he
end Go.Proofs
namespace Go.Proofs
open Go Go.Sh Go.RowKit

theorem Merge_spec' : ∀ (f : Fo) {R : Ending → World → Prop} {S : Nat → Prop} {w : World} {a : Option Addr} {n c : Nat}, f.size ≤ 1000000000 → tlen f ≤ 4611686018427387904 → SlF S w a n f →
    (∀ a' n' c' w', SlF (fun k => S k ∨ w.heap.size ≤ k) w' a' n' (mergeF f) → Ext w w' → R (.returned (.slice a' n' c')) w') → Calls Tryz.prog F_ref10_Merge ⟨[.slice a n c]⟩ w R := by
  intro f
  induction hz : f.size using Nat.strongRecOn generalizing f with
  | _ z ih =>
  intro R S w a n c hs ht hf0 h
  apply c_ref10_Merge
  have hn := hf0.1
  have hfl := f.len_le_size
  have hf : SlF (fun k => S k ∧ k < w.heap.size) w a n f := hf0.imp fun k hk hl => ⟨hk, hl⟩
  refine al_intro fun b0 w0 hb0 hB0 e0 s0 => ?_
  refine ⟨fun oa on oc i W m => ∃ (p r out : Fo), f = p.app r ∧ i = p.len ∧ m = r.len ∧ OwnF 35 (fun k => S k ∧ k < w.heap.size) w.heap.size W oa on oc out ∧ out.len ≤ p.len ∧ (∀ pre k t m ps, out = Fo.app pre (.one k t m ps) → t.length ≤ tlen p) ∧ Ext w W ∧ mergeF f = mgo r out,
    ⟨_, .nil, f, .nil, rfl, rfl, rfl, ⟨rfl, [], Owns.made hB0 (by omega), rfl⟩, by simp, ?_, e0, rfl⟩, ?_⟩
  · intro pre k t m ps he
    have := congrArg Fo.len he; simp [Fo.one] at this
  rintro oa on oc _ W m ⟨p, r, out, hpr, rfl, rfl, hout, holen, hlast, he, heq⟩ _
  have hon := hout.len
  have hwW := he.size
  refine br_split (fun hlt => ?_) (fun hge => ?_)
  · obtain ⟨k, t, mm, ps, r, rfl⟩ := Fo.next hpr (by omega)
    have hsl := Fo.sub_len hpr
    have hsz := Fo.sub_size hpr
    have htl : tlen f = tlen p + (t.length + tlen ps + tlen r) := by rw [hpr, tlen_app]; rfl
    have e1 : f = (p.app (.one k t mm ps)).app r := by rw [Fo.app_one_app]; exact hpr
    have i1 : IntKind.i64.wrap ((p.len : Int) + 1) = ((p.app (.one k t mm ps)).len : Int) := by rw [wrap_nat (by omega)]; simp [Fo.one]
    have t1 : tlen (p.app (.one k t mm ps)) = tlen p + (t.length + tlen ps) := by rw [tlen_app]; simp [Fo.one, tlen]
    rw [mgo] at heq
    have done : ∀ (oa' : Option Addr) (on' oc' : Nat) (W' : World), OwnF 35 (fun k => S k ∧ k < w.heap.size) w.heap.size W' oa' on' oc' (snocM out k t mm (mgo ps .nil)) → Ext w W' →
        ∃ m42, m42 < (Fo.cons k t mm ps r).len ∧ ∃ (p' r' out' : Fo), f = p'.app r' ∧ IntKind.i64.wrap ((p.len : Int) + 1) = p'.len ∧ m42 = r'.len ∧ OwnF 35 (fun k => S k ∧ k < w.heap.size) w.heap.size W' oa' on' oc' out' ∧ out'.len ≤ p'.len ∧ (∀ pre k t m ps, out' = Fo.app pre (.one k t m ps) → t.length ≤ tlen p') ∧ Ext w W' ∧ mergeF f = mgo r' out' := by
      intro oa' on' oc' W' ho' he'
      refine ⟨r.len, by simp, _, r, _, e1, i1, rfl, ho', ?_, ?_, he', heq⟩
      · have := snoc_len out k t mm (mgo ps .nil)
        simp [Fo.one]; omega
      · intro pre k1 t1' m1 ps1 hsn
        have := snoc_last hlast pre k1 t1' m1 ps1 hsn
        omega
    obtain ⟨q, a', c', hq, hSq, hql, hN⟩ := (hf.ext he).get hpr
    refine hq _ ⟨k, hN.kind, t, hN.text, mm, hN.num, a', ps.len, c', hN.parts, ?_⟩
    refine al_stL (by simp) (by intro u hu; simp only [List.mem_cons, List.not_mem_nil, or_false] at hu; rcases hu with rfl | rfl | rfl | rfl <;> rfl) fun bx w1 hbx hBx e2 s2 => ?_
    obtain ⟨x0, x1, x2, x3⟩ := blk4 hBx
    have E1 := ext_trans he e2
    have ho1 := hout.ext e2
    have hzz := e2.size
    intro K18 hK18
    have k18 : ¬ (k = 1 ∧ t = []) → K18 w1 := by
      intro hne
      refine hK18 _ fun _ => ?_
      intro K20 hK20
      -- the parts have been merged
      have k20 : ∀ (a3 : Option Addr) (c3 : Nat) (w4 : World), Ext W w4 → Blk w4 bx [.int .i64 k, .string ⟨⟨t⟩⟩, .int .i64 mm, .slice a3 (mergeF ps).len c3] 35 → SlF (fun j => (S j ∧ j < w.heap.size) ∨ w1.heap.size ≤ j) w4 a3 (mergeF ps).len (mergeF ps) → K20 w4 := by
        intro a3 c3 w4 EW4 b1 hp4
        obtain ⟨y0, y1, y2, y3⟩ := blk4 b1
        have E4 := ext_trans he EW4
        have ho4 := hout.ext EW4
        have z4 := EW4.size
        refine hK20 _ fun _ => ?_
        intro K22 hK22
        have k22 : ∀ g, g = decide (k = 1 ∧ lastT out = true) → K22 g w4 := by
          rintro _ rfl
          refine hK22 _ _ fun _ => br_split (fun g => ?_) (fun g => ?_)
          · have hsn : snocM out k t mm (mgo ps .nil) = addL out t := by unfold snocM; rw [if_neg hne, if_pos g]
            rcases Fo_view out with rfl | ⟨pre, k2, t2, n2, ps2, rfl⟩
            · simp [lastT] at g
            rw [addL_snoc] at hsn
            have hdr := ext_drew w4
            obtain ⟨q2, hq2, l0, l1, lst⟩ := (ho4.ext hdr).last
            have onl : on = pre.len + 1 := by rw [hon]; simp [Fo.one]
            have e : IntKind.i64.wrap ((on : Int) - 1) = (pre.len : Int) := by rw [wrap_pred (by omega) (by omega), onl]; simp
            have hl2 := hlast pre k2 t2 n2 ps2 rfl
            unfold drw
            rw [e]
            refine hq2 _ ⟨t2, l1, t, (blk4 (b1.ext hdr)).2.1, by omega, hq2 _ ⟨lst _ _ fun w5 ho5 hc5 => ?_, trivial⟩⟩
            refine done _ _ _ w5 (by rw [hsn]; exact ho5) ?_
            exact ext_chgS (ext_trans E4 hdr) hc5 fun j hj => ((ho4.ext hdr).bk hj).1
          · have hsn : snocM out k t mm (mgo ps .nil) = out.app (.one k t mm (mergeF ps)) := by unfold snocM; rw [if_neg hne, if_neg g]; rfl
            refine ⟨k, y0, t, y1, mm, y2, a3, _, c3, y3, ?_⟩
            refine OwnF.push slT_node ho4 (by omega) (own_parts hp4 (fun j hj => hj.2) hout (by omega) (by omega)) (by omega) (by omega) fun a5 n5 c5 w5 ho5 hc5 => ?_
            refine done a5 n5 c5 w5 (by rw [hsn]; exact ho5) ?_
            exact ext_chgS E4 hc5 fun j hj => (hout.bk hj).1
        rcases Fo_view out with hv | ⟨pre, k2, t2, m2, ps2, hv⟩
        · subst hv
          have : on = 0 := hon
          subst this
          refine ⟨k, y0, br_split (fun g => br_split (fun g2 => absurd g2 (by omega)) (fun g2 => k22 _ (by simp [lastT]))) (fun g => k22 _ (by simp [lastT]))⟩
        · have hl1 : lastT out = decide (k2 = 1) := by rw [hv, lastT_snoc]
          have hl2 : on = pre.len + 1 := by rw [hon, hv]; simp [Fo.one]
          have e : IntKind.i64.wrap ((on : Int) - 1) = (pre.len : Int) := by rw [wrap_pred (by omega) (by omega), hl2]; simp
          rw [e]
          refine ⟨k, y0, br_split (fun g2 => br_split (fun g => ?_) (fun g => absurd (by omega) g)) (fun g2 => k22 _ (by simp [g2]))⟩
          subst hv
          obtain ⟨q2, hq2, l0, l1, lst⟩ := ho4.last
          exact hq2 _ ⟨k2, l0, k22 _ (by rw [hl1]; simp [g2])⟩
      refine ⟨a', ps.len, c', x3, br_split (fun g => ⟨a', ps.len, c', x3, ?_⟩) (fun g => ?_)⟩
      · refine ih _ (hz ▸ hsz) ps rfl (S := fun k => S k ∧ k < w.heap.size) (by omega) (by omega) (hN.sl.ext e2) fun a3 n3 c3 w3 hsl3 e3 => ⟨_, _, _, rfl, ?_⟩
        have hBx3 := hBx.ext e3
        have hn3 := hsl3.1
        rw [add_none]
        refine stL_blk hBx3 (by simp) (by intro u hu; simp only [List.mem_singleton] at hu; subst hu; rfl) fun w4 b1 b2 b3 b4 b5 b6 => ?_
        simp only [putAt, List.set] at b1
        have hc4 : Chg (· = bx) w3 w4 := ⟨b4, b5, b6, by omega, fun k _ hk => b2 k hk⟩
        have EW4 : Ext W w4 := ext_chgS (ext_trans e2 e3) hc4 fun j hj => by omega
        have hp4 : SlF (fun j => (S j ∧ j < w.heap.size) ∨ w1.heap.size ≤ j) w4 a3 n3 (mergeF ps) := hsl3.chg hc4 fun j hj he => by
          subst he; rcases hj with hj | hj <;> omega
        subst hn3
        exact k20 a3 c3 w4 EW4 b1 hp4
      · have hp : ps = .nil := Fo.eq_nil_of_len (by omega)
        subst hp
        exact k20 a' c' w1 e2 hBx (SlF.nil a')
    refine ⟨k, x0, br_split (fun g => ⟨t, x1, br_split (fun g2 => ?_) (fun g2 => k18 fun hh => g2 hh.2)⟩) (fun g => k18 fun hh => g hh.1)⟩
    exact done oa on oc w1 (by unfold snocM; rw [if_pos ⟨g, g2⟩]; exact ho1) E1
  · obtain ⟨rfl, rfl⟩ := Fo.last hpr (by omega)
    rw [heq] at h
    refine h oa on oc W (hout.out.imp fun k hk _ => hk.imp (fun h => h.1) id) he
end Go.Proofs
namespace Go.Proofs
open Go Go.Sh Go.RowKit

/- tokens: lexemes without their places -/
structure Tk where
  k : Int
  nm : List UInt8
  vl : List UInt8
def tkX (x : Lx) : Tk := ⟨x.k, x.nm, x.vl⟩
def textT (x : Tk) : List UInt8 := textF ⟨x.k, x.nm, x.vl, 0⟩
theorem print_tk : ∀ L : List Lx, printX L = (L.map tkX).flatMap textT
  | [] => rfl
  | x :: r => by rw [print_cons, List.map_cons, List.flatMap_cons, print_tk r]; rfl
/- what stands as the value of a node's tag -/
def valT (k : Int) (t : List UInt8) (n : Int) : List UInt8 := if textsF k then t else if numsF k then Lib.decDigits n.toNat else []
/- the tokens of a list of nodes -/
def tksF : Fo → List Tk
  | .nil => []
  | .cons k t n ps r => (if k = 1 then [⟨1, [], t⟩] else if partsF k then ⟨2, tagF k, valT k t n⟩ :: (tksF ps ++ [⟨3, tagF k, []⟩]) else [⟨4, tagF k, valT k t n⟩]) ++ tksF r
theorem tksF_app (f g : Fo) : tksF (f.app g) = tksF f ++ tksF g := by
  induction f with
  | nil => rfl
  | cons k t n ps r _ ih => simp only [Fo.cons_app, tksF, ih, List.append_assoc]
/- the node of a lexeme -/
def kindN (nm : List UInt8) : Nat := match (List.range 12).find? fun i : Nat => decide (tagF (i : Int) = nm ∧ nm ≠ []) with
  | some i => i
  | none => 0
def numOf (v : List UInt8) : Int := match Lib.atoiAll v with
  | .ok n => n
  | _ => 0
structure Hd where
  k : Int
  t : List UInt8
  n : Int
def headF (x : Tk) : Hd := if x.k = 1 then ⟨1, x.vl, 0⟩ else ⟨kindN x.nm, if textsF (kindN x.nm) then x.vl else [], if textsF (kindN x.nm) then 0 else if numsF (kindN x.nm) then numOf x.vl else 0⟩
/- the nodes that are open, the innermost one first -/
structure Fr where
  h : Hd
  f : Fo
def Fr.add (r : Fr) (h : Hd) (ps : Fo) : Fr := ⟨r.h, r.f.app (.one h.k h.t h.n ps)⟩
def stepP (st : List Fr) (x : Tk) : List Fr :=
  if x.k = 2 then ⟨headF x, .nil⟩ :: st
  else if x.k = 3 then (match st with
    | f2 :: f1 :: r => f1.add f2.h f2.f :: r
    | st => st)
  else match st with
    | f :: r => f.add (headF x) .nil :: r
    | [] => []
def treeT (L : List Tk) : Fo := match L.foldl stepP [⟨⟨0, [], 0⟩, .nil⟩] with
  | f :: _ => f.f
  | [] => .nil
/- a node's fields that its lexeme gives back -/
def fieldsOk (k : Int) (t : List UInt8) (n : Int) : Prop := (k = 1 ∧ n = 0) ∨ (2 ≤ k ∧ k ≤ 11 ∧ (textsF k = false → t = []) ∧ (numsF k = false → n = 0) ∧ (numsF k = true → 1 ≤ n ∧ n ≤ 64))
theorem kind_tag : ∀ i : Nat, 2 ≤ i → i ≤ 11 → kindN (tagF i) = i := by
  intro i h1 h2
  have : ∀ j : Nat, j < 12 → 2 ≤ j → kindN (tagF j) = j := by decide +kernel
  exact this i (by omega) h1
theorem kind_tagI {k : Int} (h1 : 2 ≤ k) (h2 : k ≤ 11) : ((kindN (tagF k) : Nat) : Int) = k := by
  obtain ⟨i, rfl⟩ : ∃ i : Nat, k = i := ⟨k.toNat, by omega⟩
  rw [kind_tag i (by omega) (by omega)]
theorem num_dec {n : Int} (h1 : 1 ≤ n) (h2 : n ≤ 64) : numOf (Lib.decDigits n.toNat) = n := by
  have := atoi_dec (n.toNat - 1) (by omega)
  rw [show n.toNat - 1 + 1 = n.toNat by omega] at this
  unfold numOf
  rw [this]
  show ((n.toNat : Nat) : Int) = n
  omega
theorem head_tag {k : Int} {t : List UInt8} {n : Int} {c : Int} (hc : c ≠ 1) (h1 : k ≠ 1) (h : fieldsOk k t n) : headF ⟨c, tagF k, valT k t n⟩ = ⟨k, t, n⟩ := by
  rcases h with h | ⟨a1, a2, a3, a4, a5⟩
  · exact absurd h.1 h1
  unfold headF valT
  simp only [hc, if_false, kind_tagI a1 a2]
  by_cases ht : textsF k = true
  · have hn : numsF k = false := by
      have : k = 1 ∨ k = 3 ∨ k = 4 ∨ k = 10 ∨ k = 11 := by simpa [textsF] using ht
      unfold numsF; exact decide_eq_false (by omega)
    simp only [ht, if_true, a4 hn]
  · have ht : textsF k = false := by simpa using ht
    by_cases hn : numsF k = true
    · simp only [ht, hn, if_true, Bool.false_eq_true, if_false, a3 ht, num_dec (a5 hn).1 (a5 hn).2]
    · have hn : numsF k = false := by simpa using hn
      simp only [ht, hn, Bool.false_eq_true, if_false, a3 ht, a4 hn]
/- nodes whose fields come from their lexemes; parts only where tags close -/
def shapeF : Fo → Prop
  | .nil => True
  | .cons k t n ps r => fieldsOk k t n ∧ (partsF k = false → ps = .nil) ∧ shapeF ps ∧ shapeF r
theorem step_tks : ∀ (g : Fo) (fr : Fr) (st : List Fr), shapeF g → (tksF g).foldl stepP (fr :: st) = ⟨fr.h, fr.f.app g⟩ :: st
  | .nil, fr, st, _ => by rw [Fo.app_nil]; rfl
  | .cons k t n ps r, fr, st, ⟨h1, h2, h3, h4⟩ => by
    rw [tksF, List.foldl_append]
    have key : (if k = 1 then [⟨1, [], t⟩] else if partsF k then ⟨2, tagF k, valT k t n⟩ :: (tksF ps ++ [⟨3, tagF k, []⟩]) else [⟨4, tagF k, valT k t n⟩] : List Tk).foldl stepP (fr :: st) = fr.add ⟨k, t, n⟩ ps :: st := by
      by_cases hk : k = 1
      · subst hk
        rw [if_pos rfl]
        have hp : ps = .nil := h2 (by decide)
        have hn : n = 0 := by
          rcases h1 with h1 | h1
          · exact h1.2
          · omega
        subst hp hn
        rfl
      · rw [if_neg hk]
        by_cases hp : partsF k = true
        · rw [if_pos hp, List.foldl_cons, List.foldl_append]
          have e1 : stepP (fr :: st) ⟨2, tagF k, valT k t n⟩ = ⟨⟨k, t, n⟩, .nil⟩ :: fr :: st := by
            unfold stepP
            rw [if_pos rfl, head_tag (by decide) hk h1]
          rw [e1, step_tks ps _ _ h3]
          rfl
        · have hp : partsF k = false := by simpa using hp
          rw [if_neg (by rw [hp]; decide), h2 hp]
          show stepP (fr :: st) ⟨4, tagF k, valT k t n⟩ = _
          unfold stepP
          rw [if_neg (by show ¬ (4 : Int) = 2; decide), if_neg (by show ¬ (4 : Int) = 3; decide), head_tag (by decide) hk h1]
    rw [key, step_tks r _ _ h4]
    unfold Fr.add
    rw [Fo.app_one_app]
theorem tree_tks {g : Fo} (h : shapeF g) : treeT (tksF g) = g := by
  unfold treeT
  rw [step_tks g _ [] h]
  rfl
end Go.Proofs
namespace Go.Sh
open Go Go.RowKit

/- appending a row that stands in a block of its own to a slice variable; the new element and the variable are laid in either order -/
theorem app_cap2 {P : Program} {t ty e : TypeId} {size bytes : Nat} {z : Value} (hT : SlT P t e size bytes z) {B : Nat} {a : Option Addr} {n c : Nat} {xs : List Value} {w : World} {b bz : Nat} {Tv Tz : TypeId}
    (hown : Owns w B e size a n c xs) (hB : B ≤ w.heap.size) (hb : Blk w b [.slice a n c] Tv) (hnb : ¬ Sh.bk a b) (zc vs : List Value) (hbz : Blk w bz zc Tz) (hzc : zc.length = size) (hz1 : ∀ u ∈ zc, u.oneCell' = true) (hvs : vs.length = size) (hv1 : ∀ u ∈ vs, u.oneCell' = true)
    (hlen : n + 1 ≤ 4611686018427387904) (hbytes : (n + 1) * bytes ≤ 140737488355328) {K : World → Prop}
    (hk : ∀ a' c' w', Blk w' b [.slice a' (n + 1) c'] Tv → Owns w' B e size a' (n + 1) c' (xs ++ vs) → Chg (fun k => k = b ∨ Sh.bk a k) w w' → (∀ k, Sh.bk a' k → Sh.bk a k ∨ w.heap.size ≤ k) → K w') :
    app P [t, t] ty (.slice a n c) (.slice (some ⟨bz, 0, none⟩) 1 1) w fun a' n' c' w2 => idx a' n' (n : Int) size fun q =>
      (stL w2 q 0 vs fun w3 => (stL w3 ⟨b, 0, none⟩ 0 [.slice a' n' c'] fun w4 => K w4) ∧ True) ∧
      (stL w2 ⟨b, 0, none⟩ 0 [.slice a' n' c'] fun w3 => (stL w3 q 0 vs fun w4 => K w4) ∧ True) ∧ True := by
  refine app_own2 hT hown hB (S := fun _ => True) zc (by rw [hzc, Nat.one_mul]) (.inr ⟨bz, 0, rfl, trivial, hbz.lt, fun j v hj => by rw [Nat.zero_add, hbz.cell]; exact hj⟩) hz1 hlen hbytes fun a' c' w2 ho hc hn => ?_
  have l := hb.lt
  have hb2 : Blk w2 b [.slice a n c] Tv := hc.blk hb hnb
  have nb' : ¬ Sh.bk a' b := fun hh => (hn b hh).elim hnb (by omega)
  obtain ⟨g, ha, hidx, hst⟩ := ho.storeLast (vs := vs) hzc hvs hv1
  have sub : ∀ k, k < w.heap.size → Sh.bk a' k → Sh.bk a k := fun k hk hb' => (hn k hb').elim id (by omega)
  have tot : ∀ {S1 S2 : Nat → Prop} {w3 w4 : World}, Chg S1 w2 w3 → Chg S2 w3 w4 → (∀ k, S1 k → k = b ∨ Sh.bk a' k) → (∀ k, S2 k → k = b ∨ Sh.bk a' k) → Chg (fun k => k = b ∨ Sh.bk a k) w w4 := by
    intro S1 S2 w3 w4 c3 c4 h3 h4
    have z := hc.size
    have z3 := c3.size
    refine ⟨c4.os.trans (c3.os.trans hc.os), c4.tape.trans (c3.tape.trans hc.tape), c4.output.trans (c3.output.trans hc.output), Nat.le_trans z (Nat.le_trans z3 c4.size), fun k hk hn' => ?_⟩
    have no : ¬ (k = b ∨ Sh.bk a' k) := fun hh => hn' (hh.imp id (sub k hk))
    exact (c4.block k (by omega) fun hh => no (h4 k hh)).trans ((c3.block k (by omega) fun hh => no (h3 k hh)).trans (hc.block k hk fun hh => hn' (.inr hh)))
  refine hidx _ ⟨?_, ?_, trivial⟩
  · refine hst _ fun w3 ho3 hc3 z3 => ⟨?_, trivial⟩
    refine stL_blk (cs := [.slice a n c]) (T := Tv) (hc3.blk hb2 nb') (by simp) (by intro u hu; simp only [List.mem_singleton] at hu; subst hu; rfl) fun w4 b1 b2 b3 b4 b5 b6 => ?_
    have hc4 : Chg (fun k => k = b) w3 w4 := ⟨b4, b5, b6, by omega, fun k' _ hk => b2 k' hk⟩
    exact hk a' c' w4 b1 (ho3.chg hc4 fun k hk he => nb' (he ▸ hk)) (tot hc3 hc4 (fun k h => .inr h) fun k h => .inl h) hn
  · refine stL_blk (cs := [.slice a n c]) (T := Tv) hb2 (by simp) (by intro u hu; simp only [List.mem_singleton] at hu; subst hu; rfl) fun w3 b1 b2 b3 b4 b5 b6 => ⟨?_, trivial⟩
    have hc3 : Chg (fun k => k = b) w2 w3 := ⟨b4, b5, b6, by omega, fun k' _ hk => b2 k' hk⟩
    obtain ⟨g', ha', _, hst'⟩ := (ho.chg hc3 fun k hk he => nb' (he ▸ hk)).storeLast (vs := vs) hzc hvs hv1
    obtain rfl : g' = g := by rw [ha] at ha'; simpa using ha'.symm
    refine hst' _ fun w4 ho4 hc4 z4 => ?_
    exact hk a' c' w4 (hc4.blk b1 nb') ho4 (tot hc3 hc4 (fun k h => .inl h) fun k h => .inr h) hn

/- a list of nodes under way in a variable, its blocks named: S: what it may share, O: its own -/
def OwnG (e : TypeId) (S O : Nat → Prop) (B : Nat) (w : World) (a : Option Addr) (n c : Nat) (f : Fo) : Prop :=
  n = f.len ∧ (∀ k, bk a k → O k) ∧ (∀ k, O k → B ≤ k ∧ k < w.heap.size) ∧ ∃ xs, Owns w B e 4 a n c xs ∧ FoC (fun k => (S k ∨ O k) ∧ ¬ bk a k) w f xs
section
variable {S O : Nat → Prop} {w w' : World} {e : TypeId} {B : Nat} {a : Option Addr} {n c : Nat} {f : Fo}
theorem OwnG.nil (w : World) : OwnG e S (fun _ => False) B w none 0 0 .nil := ⟨rfl, fun k h => by simp [bk] at h, fun k h => h.elim, [], Owns.nil w B e 4, rfl⟩
theorem OwnG.len (h : OwnG e S O B w a n c f) : n = f.len := h.1
theorem OwnG.own (h : OwnG e S O B w a n c f) {k : Nat} (hk : O k) : B ≤ k ∧ k < w.heap.size := h.2.2.1 k hk
theorem OwnG.bk (h : OwnG e S O B w a n c f) {k : Nat} (hk : Sh.bk a k) : O k := h.2.1 k hk
theorem OwnG.chg {T : Nat → Prop} (h : OwnG e S O B w a n c f) (hc : Chg T w w') (hT : ∀ k, T k → k < w.heap.size → ¬ S k ∧ ¬ O k) : OwnG e S O B w' a n c f := by
  obtain ⟨h0, h1, h2, xs, h3, h4⟩ := h
  have z := hc.size
  refine ⟨h0, h1, fun k hk => ⟨(h2 k hk).1, by have := (h2 k hk).2; omega⟩, xs, ?_, h4.keep (fun k hk hl => ⟨hk, hc.block k hl fun ht => ?_⟩) z⟩
  · have h3' := Owns.chg (S := fun k => T k ∧ k < w.heap.size) h3 ⟨hc.os, hc.tape, hc.output, hc.size, fun k hk hn => hc.block k hk fun ht => hn ⟨ht, hk⟩⟩ fun k hk ht => (hT k ht.1 ht.2).2 (h1 k hk)
    exact h3'
  · rcases hk.1 with hh | hh
    · exact (hT k ht hl).1 hh
    · exact (hT k ht hl).2 hh
theorem OwnG.ext (h : OwnG e S O B w a n c f) (hc : Ext w w') : OwnG e S O B w' a n c f := h.chg (T := fun _ => False) (.of_ext hc) fun k h _ => h.elim
theorem OwnG.out (h : OwnG e S O B w a n c f) : SlF (fun k => S k ∨ O k) w a n f := by
  obtain ⟨h0, h1, h2, xs, h3, h4⟩ := h
  refine ⟨h0, xs, ?_, h4.keep (fun k hk _ => ⟨hk.1, rfl⟩) (Nat.le_refl _)⟩
  by_cases hn : 0 < n
  · obtain ⟨g, rfl, hg, hc⟩ := h3.cell hn
    exact .inr ⟨g, 0, rfl, .inr (h1 g (by simp [Sh.bk])), (h3.bk (by simp [Sh.bk])).2, fun j v hj => by rw [Nat.zero_add]; exact hc j v hj⟩
  · have hx : xs = [] := List.eq_nil_of_length_eq_zero (by rw [h3.len]; omega)
    exact .inl hx
/- one more node, out of a block that holds zeros -/
theorem OwnG.push {P : Program} {t ty : TypeId} {bytes : Nat} {z : Value} (hT : SlT P t e 4 bytes z) (h : OwnG e S O B w a n c f) (hB : B ≤ w.heap.size) {b bz : Nat} {Tv Tz : TypeId} {zc : List Value} (hb : Blk w b [.slice a n c] Tv) (hnb : ¬ O b)
    (hbz : Blk w bz zc Tz) (hzc : zc.length = 4) (hz1 : ∀ u ∈ zc, u.oneCell' = true) {k : Int} {s : List UInt8} {m : Int} {a' : Option Addr} {c' : Nat} {ps : Fo} {O2 : Nat → Prop}
    (hps : SlF (fun k => S k ∨ O2 k) w a' ps.len ps) (hO2 : ∀ k, O2 k → (B ≤ k ∧ k < w.heap.size) ∧ k ≠ b ∧ ¬ Sh.bk a k) (hSB : ∀ k, S k → k < B) (hlen : n + 1 ≤ 4611686018427387904) (hbytes : (n + 1) * bytes ≤ 140737488355328) (hBb : B ≤ b) {K : World → Prop}
    (hk : ∀ a'' n'' c'' w' (O' : Nat → Prop), Blk w' b [.slice a'' n'' c''] Tv → OwnG e S O' B w' a'' n'' c'' (f.app (.one k s m ps)) → Chg (fun j => j = b ∨ O j) w w' → (∀ j, O' j → O j ∨ O2 j ∨ (w.heap.size ≤ j ∧ j < w'.heap.size)) → K w') :
    app P [t, t] ty (.slice a n c) (.slice (some ⟨bz, 0, none⟩) 1 1) w fun a1 n1 c1 w2 => idx a1 n1 (n : Int) 4 fun q =>
      (stL w2 q 0 [.int .i64 k, .string ⟨⟨s⟩⟩, .int .i64 m, .slice a' ps.len c'] fun w3 => (stL w3 ⟨b, 0, none⟩ 0 [.slice a1 n1 c1] fun w4 => K w4) ∧ True) ∧
      (stL w2 ⟨b, 0, none⟩ 0 [.slice a1 n1 c1] fun w3 => (stL w3 q 0 [.int .i64 k, .string ⟨⟨s⟩⟩, .int .i64 m, .slice a' ps.len c'] fun w4 => K w4) ∧ True) ∧ True := by
  obtain ⟨h0, h1, h2, xs, h3, h4⟩ := h
  refine app_cap2 hT h3 hB hb (fun hh => hnb (h1 b hh)) zc [.int .i64 k, .string ⟨⟨s⟩⟩, .int .i64 m, .slice a' ps.len c'] hbz hzc hz1 rfl (by intro u hu; simp only [List.mem_cons, List.not_mem_nil, or_false] at hu; rcases hu with rfl | rfl | rfl | rfl <;> rfl) hlen hbytes
    fun a'' c'' w' hbl ho hc hn => hk a'' _ c'' w' (fun j => O j ∨ O2 j ∨ Sh.bk a'' j) hbl ⟨?_, fun j hj => .inr (.inr hj), fun j hj => ?_, _, ho, ?_⟩ (hc.mono fun j _ hj => hj.imp id (h1 j)) ?_
  · simp [Fo.one]; exact h0
  · have z := hc.size
    rcases hj with hj | hj | hj
    · exact ⟨(h2 j hj).1, by have := (h2 j hj).2; omega⟩
    · exact ⟨(hO2 j hj).1.1, by have := (hO2 j hj).1.2; omega⟩
    · exact ho.bk hj
  · obtain ⟨_, us, g3, g4⟩ := hps
    have na : ∀ j, j < w.heap.size → ¬ Sh.bk a j → ¬ Sh.bk a'' j := fun j hj hb' hh => (hn j hh).elim hb' (by omega)
    have hs : ∀ j, ((S j ∨ O j) ∧ ¬ Sh.bk a j) → j < w.heap.size → ((S j ∨ O j ∨ O2 j ∨ Sh.bk a'' j) ∧ ¬ Sh.bk a'' j) ∧ w'.heap[j]? = w.heap[j]? := fun j hj hl =>
      ⟨⟨hj.1.imp id fun h => .inl h, na j hl hj.2⟩, hc.block j hl fun hh => hh.elim (fun hb' => hj.1.elim (fun hs => by have := hSB j hs; omega) (fun ho => hnb (hb' ▸ ho))) hj.2⟩
    have hs2 : ∀ j, (S j ∨ O2 j) → j < w.heap.size → ((S j ∨ O j ∨ O2 j ∨ Sh.bk a'' j) ∧ ¬ Sh.bk a'' j) ∧ w'.heap[j]? = w.heap[j]? := fun j hj hl => by
      have nb : j ≠ b ∧ ¬ Sh.bk a j := hj.elim (fun h => ⟨by have := hSB j h; omega, fun hh => by have := (h2 j (h1 j hh)).1; have := hSB j h; omega⟩) (fun h => (hO2 j h).2)
      exact ⟨⟨hj.imp id fun h => .inr (.inl h), na j hl nb.2⟩, hc.block j hl fun hh => hh.elim nb.1 nb.2⟩
    exact (h4.keep hs hc.size).app ⟨a', c', us, [], rfl, g3.keep hs2 hc.size, g4.keep hs2 hc.size, rfl⟩
  · intro j hj
    rcases hj with hj | hj | hj
    · exact .inl hj
    · exact .inr (.inl hj)
    · rcases hn j hj with h' | h'
      · exact .inl (h1 j h')
      · exact .inr (.inr ⟨h', (ho.bk hj).2⟩)
end

/- the marks of ranges over functions, that a call lays down when it leaves -/
def marks (Dl : List Nat) : List Deferred := Dl.map fun D => { target := .collected D, args := #[] }
end Go.Sh
namespace Go.Proofs
open Go Go.Sh Go.RowKit

/- one cell of a row of our own -/
theorem owns_set {w : World} {B : Nat} {e : TypeId} {size : Nat} {a : Option Addr} {n c : Nat} {xs : List Value} (h : Owns w B e size a n c xs) {j : Nat} (hj : j < n * size) {v : Value} (hv : v.oneCell' = true) :
    ∃ g : Nat, a = some ⟨g, 0, none⟩ ∧ ∀ K : World → Prop, (∀ w', Owns w' B e size a n c (xs.set j v) → Chg (Sh.bk a) w w' → w'.heap.size = w.heap.size → K w') → stL w ⟨g, j, none⟩ 0 [v] K := by
  have hl := h.1
  rcases h.2 with h1 | ⟨g, cap, cur, e1, e2, e3, e4, e5, e6, e7⟩
  · have : n = 0 := by
      have := h1.1
      simp at this; omega
    subst this; omega
  obtain ⟨rfl, _, rfl⟩ : a = some ⟨g, 0, none⟩ ∧ True ∧ c = cap := by simpa using e1
  have hB : Blk w g cur.toList e := e3
  have hcl : cur.toList.length = c * size := by simpa using e6
  have hnc : n * size ≤ c * size := Nat.mul_le_mul_right _ e4
  refine ⟨g, rfl, fun K hK => ?_⟩
  refine stL_blk hB (by simp; omega) (fun u hu => by rw [List.mem_singleton.1 hu]; exact hv) fun w' b1 b2 b3 b4 b5 b6 => ?_
  have hc : Chg (Sh.bk (some (⟨g, 0, none⟩ : Addr))) w w' := ⟨b4, b5, b6, by omega, fun k' _ hk => b2 k' fun e => hk (by simp [Sh.bk, e])⟩
  have e : putAt cur.toList (j + 0) [v] = cur.toList.set j v := rfl
  rw [e] at b1
  refine hK w' ⟨by rw [List.length_set, hl], .inr ⟨g, c, ⟨_⟩, rfl, e2, b1, e4, e5, ?_, ?_⟩⟩ hc b3
  · show (cur.toList.set j v).length = c * size
    rw [List.length_set, hcl]
  · show List.take (n * size) (cur.toList.set j v) = xs.set j v
    rw [List.take_set, e7]
/- one more node at the end of a list of our own -/
theorem OwnG.pushA {P : Program} {t ty e : TypeId} {bytes : Nat} {z : Value} {S O : Nat → Prop} {B : Nat} {w : World} {a : Option Addr} {n c : Nat} {f : Fo} (hT : SlT P t e 4 bytes z) (h : OwnG e S O B w a n c f) (hB : B ≤ w.heap.size)
    {k : Int} {s : List UInt8} {m : Int} {a' : Option Addr} {c' : Nat} {ps : Fo} {O2 : Nat → Prop}
    (hps : SlF (fun k => S k ∨ O2 k) w a' ps.len ps) (hO2 : ∀ k, O2 k → (B ≤ k ∧ k < w.heap.size) ∧ ¬ Sh.bk a k) (hSB : ∀ k, S k → k < B) (hlen : n + 1 ≤ 4611686018427387904) (hbytes : (n + 1) * bytes ≤ 140737488355328) {K : Option Addr → Nat → Nat → World → Prop}
    (hk : ∀ a'' c'' w' (O' : Nat → Prop), OwnG e S O' B w' a'' (n + 1) c'' (f.app (.one k s m ps)) → Chg (Sh.bk a) w w' → (∀ j, O' j → O j ∨ O2 j ∨ (w.heap.size ≤ j ∧ j < w'.heap.size)) → K a'' (n + 1) c'' w') :
    al w e [.int .i64 k, .string ⟨⟨s⟩⟩, .int .i64 m, .slice a' ps.len c'] fun p w1 => app P [t, t] ty (.slice a n c) (.slice (some p) 1 1) w1 K := by
  obtain ⟨h0, h1, h2, xs, h3, h4⟩ := h
  refine app_one2 hT h3 hB [.int .i64 k, .string ⟨⟨s⟩⟩, .int .i64 m, .slice a' ps.len c'] rfl (by intro u hu; simp only [List.mem_cons, List.not_mem_nil, or_false] at hu; rcases hu with rfl | rfl | rfl | rfl <;> rfl) hlen hbytes
    fun a'' c'' w' ho hc hn => hk a'' c'' w' (fun j => O j ∨ O2 j ∨ Sh.bk a'' j) ⟨?_, fun j hj => .inr (.inr hj), fun j hj => ?_, _, ho, ?_⟩ hc ?_
  · simp [Fo.one]; exact h0
  · have z := hc.size
    rcases hj with hj | hj | hj
    · exact ⟨(h2 j hj).1, by have := (h2 j hj).2; omega⟩
    · exact ⟨(hO2 j hj).1.1, by have := (hO2 j hj).1.2; omega⟩
    · exact ho.bk hj
  · obtain ⟨_, us, g3, g4⟩ := hps
    have na : ∀ j, j < w.heap.size → ¬ Sh.bk a j → ¬ Sh.bk a'' j := fun j hj hb' hh => (hn j hh).elim hb' (by omega)
    have hs : ∀ j, ((S j ∨ O j) ∧ ¬ Sh.bk a j) → j < w.heap.size → ((S j ∨ O j ∨ O2 j ∨ Sh.bk a'' j) ∧ ¬ Sh.bk a'' j) ∧ w'.heap[j]? = w.heap[j]? := fun j hj hl =>
      ⟨⟨hj.1.imp id fun h => .inl h, na j hl hj.2⟩, hc.block j hl hj.2⟩
    have hs2 : ∀ j, (S j ∨ O2 j) → j < w.heap.size → ((S j ∨ O j ∨ O2 j ∨ Sh.bk a'' j) ∧ ¬ Sh.bk a'' j) ∧ w'.heap[j]? = w.heap[j]? := fun j hj hl => by
      have nb : ¬ Sh.bk a j := hj.elim (fun h => fun hh => by have := (h2 j (h1 j hh)).1; have := hSB j h; omega) (fun h => (hO2 j h).2)
      exact ⟨⟨hj.imp id fun h => .inr (.inl h), na j hl nb⟩, hc.block j hl nb⟩
    exact (h4.keep hs hc.size).app ⟨a', c', us, [], rfl, g3.keep hs2 hc.size, g4.keep hs2 hc.size, rfl⟩
  · intro j hj
    rcases hj with hj | hj | hj
    · exact .inl hj
    · exact .inr (.inl hj)
    · rcases hn j hj with h' | h'
      · exact .inl (h1 j h')
      · exact .inr (.inr ⟨h', (ho.bk hj).2⟩)
/- the open nodes in memory, each with its own list; the innermost one first -/
abbrev cellsH (h : Hd) (pa : Option Addr) (n c : Nat) : List Value := [.int .i64 h.k, .string ⟨⟨h.t⟩⟩, .int .i64 h.n, .slice pa n c]
def FrAt (e : TypeId) (B : Nat) (w : World) : List Fr → List Value → (Nat → Prop) → Prop
  | [], xs, O => xs = [] ∧ ∀ k, ¬ O k
  | f :: r, xs, O => ∃ pa pc O1 O2 ys, xs = ys ++ cellsH f.h pa f.f.len pc ∧ OwnG e (fun _ => False) O1 B w pa f.f.len pc f.f ∧ FrAt e B w r ys O2 ∧ (∀ k, O k ↔ O1 k ∨ O2 k) ∧ (∀ k, O1 k → ¬ O2 k)
theorem FrAt.len {e : TypeId} {B : Nat} {w : World} : ∀ {st : List Fr} {xs : List Value} {O : Nat → Prop}, FrAt e B w st xs O → xs.length = st.length * 4
  | [], xs, O, ⟨h, _⟩ => by rw [h]; rfl
  | f :: r, xs, O, ⟨pa, pc, O1, O2, ys, h1, h2, h3, _⟩ => by
    rw [h1, List.length_append, FrAt.len h3]
    show r.length * 4 + 4 = (r.length + 1) * 4
    omega
theorem FrAt.own {e : TypeId} {B : Nat} {w : World} : ∀ {st : List Fr} {xs : List Value} {O : Nat → Prop}, FrAt e B w st xs O → ∀ k, O k → B ≤ k ∧ k < w.heap.size
  | [], xs, O, ⟨_, h⟩, k, hk => absurd hk (h k)
  | f :: r, xs, O, ⟨pa, pc, O1, O2, ys, h1, h2, h3, h4, _⟩, k, hk => by
    rcases (h4 k).1 hk with hk | hk
    · exact h2.own hk
    · exact FrAt.own h3 k hk
theorem FrAt.chg {e : TypeId} {B : Nat} {w w' : World} {T : Nat → Prop} (hc : Chg T w w') : ∀ {st : List Fr} {xs : List Value} {O : Nat → Prop}, FrAt e B w st xs O → (∀ k, O k → ¬ T k) → FrAt e B w' st xs O
  | [], xs, O, h, _ => h
  | f :: r, xs, O, ⟨pa, pc, O1, O2, ys, h1, h2, h3, h4, h5⟩, hT =>
    ⟨pa, pc, O1, O2, ys, h1, h2.chg hc fun k hk _ => ⟨fun h => h, fun ho => hT k ((h4 k).2 (.inl ho)) hk⟩, FrAt.chg hc h3 fun k hk => hT k ((h4 k).2 (.inr hk)), h4, h5⟩
def StAt (e : TypeId) (B : Nat) (w : World) (a : Option Addr) (n c : Nat) (st : List Fr) (O : Nat → Prop) : Prop :=
  n = st.length ∧ ∃ xs, Owns w B e 4 a n c xs ∧ FrAt e B w st xs O ∧ ∀ k, O k → ¬ Sh.bk a k
section
variable {e : TypeId} {B : Nat} {w w' : World} {a : Option Addr} {n c : Nat} {st : List Fr} {O : Nat → Prop}
theorem StAt.bk (h : StAt e B w a n c st O) {k : Nat} (hk : Sh.bk a k) : B ≤ k ∧ k < w.heap.size := by
  obtain ⟨_, xs, h1, _⟩ := h
  exact h1.bk hk
theorem StAt.own (h : StAt e B w a n c st O) {k : Nat} (hk : O k) : B ≤ k ∧ k < w.heap.size := by
  obtain ⟨_, xs, _, h2, _⟩ := h
  exact h2.own k hk
theorem StAt.chg {T : Nat → Prop} (h : StAt e B w a n c st O) (hc : Chg T w w') (hT : ∀ k, T k → ¬ Sh.bk a k ∧ ¬ O k) : StAt e B w' a n c st O := by
  obtain ⟨h0, xs, h1, h2, h3⟩ := h
  exact ⟨h0, xs, h1.chg hc fun k hk ht => (hT k ht).1 hk, h2.chg hc fun k hk ht => (hT k ht).2 hk, h3⟩
theorem StAt.ext (h : StAt e B w a n c st O) (hc : Ext w w') : StAt e B w' a n c st O := h.chg (T := fun _ => False) (.of_ext hc) fun k h => h.elim
/- the cells of the open node at a height -/
theorem StAt.top {f : Fr} {r : List Fr} (h : StAt e B w a n c (f :: r) O) :
    ∃ (g : Nat) (pa : Option Addr) (pc : Nat) (O1 : Nat → Prop), a = some ⟨g, 0, none⟩ ∧ (∀ K : Addr → Prop, K ⟨g, r.length * 4, none⟩ → idx a n (r.length : Int) 4 K) ∧
      w.cell? ⟨g, r.length * 4, none⟩ = some (.int .i64 f.h.k) ∧ w.cell? ⟨g, r.length * 4 + 1, none⟩ = some (.string ⟨⟨f.h.t⟩⟩) ∧ w.cell? ⟨g, r.length * 4 + 2, none⟩ = some (.int .i64 f.h.n) ∧ w.cell? ⟨g, r.length * 4 + 3, none⟩ = some (.slice pa f.f.len pc) ∧
      OwnG e (fun _ => False) O1 B w pa f.f.len pc f.f ∧ (∀ k, O1 k → O k) := by
  obtain ⟨h0, xs, h1, ⟨pa, pc, O1, O2, ys, rfl, h2, h3, h4, h5⟩, h6⟩ := h
  obtain ⟨g, rfl, hg, hc⟩ := h1.cell (by rw [h0]; simp)
  have hl := h3.len
  have key : ∀ j v, (cellsH f.h pa f.f.len pc)[j]? = some v → w.cell? ⟨g, r.length * 4 + j, none⟩ = some v := fun j v hj => by
    refine hc _ _ ?_
    rw [List.getElem?_append_right (by omega), show r.length * 4 + j - ys.length = j by omega]; exact hj
  refine ⟨g, pa, pc, O1, rfl, fun K hK => ⟨by omega, by rw [h0, List.length_cons]; omega, ?_⟩, key 0 _ rfl, key 1 _ rfl, key 2 _ rfl, key 3 _ rfl, h2, fun k hk => (h4 k).2 (.inl hk)⟩
  show K _
  rw [add_none, Int.toNat_natCast, Nat.zero_add]; exact hK
/- one more open node -/
theorem StAt.push {P : Program} {t ty : TypeId} {bytes : Nat} {z : Value} (hT : SlT P t e 4 bytes z) (h : StAt e B w a n c st O) (hB : B ≤ w.heap.size) (hd : Hd) (hlen : n + 1 ≤ 4611686018427387904) (hbytes : (n + 1) * bytes ≤ 140737488355328) {K : Option Addr → Nat → Nat → World → Prop}
    (hk : ∀ a' c' w', StAt e B w' a' (n + 1) c' (⟨hd, .nil⟩ :: st) O → Chg (Sh.bk a) w w' → K a' (n + 1) c' w') :
    al w e (cellsH hd none 0 0) fun p w1 => app P [t, t] ty (.slice a n c) (.slice (some p) 1 1) w1 K := by
  obtain ⟨h0, xs, h1, h2, h3⟩ := h
  refine app_one2 hT h1 hB _ rfl (by intro u hu; simp only [List.mem_cons, List.not_mem_nil, or_false] at hu; rcases hu with rfl | rfl | rfl | rfl <;> rfl) hlen hbytes fun a' c' w' ho hc hn => hk a' c' w' ⟨by simp [h0], _, ho, ⟨none, 0, fun _ => False, O, xs, rfl, OwnG.nil w', h2.chg hc h3, fun k => by simp, fun k hk => hk.elim⟩, ?_⟩ hc
  intro k hk hb
  rcases hn k hb with h' | h'
  · exact h3 k hk h'
  · have := (h2.own k hk).2; omega
/- one more node in the list of the innermost open node -/
theorem StAt.addL {P : Program} {t ty : TypeId} {bytes : Nat} {z : Value} (hT : SlT P t e 4 bytes z) {f : Fr} {r : List Fr} (h : StAt e B w a n c (f :: r) O) (hB : B ≤ w.heap.size) {hd : Hd} {ps : Fo} {a' : Option Addr} {c' : Nat} {O2 : Nat → Prop}
    (hps : SlF O2 w a' ps.len ps) (hO2 : ∀ k, O2 k → (B ≤ k ∧ k < w.heap.size) ∧ ¬ O k ∧ ¬ Sh.bk a k) (hlen : f.f.len + 1 ≤ 4611686018427387904) (hbytes : (f.f.len + 1) * bytes ≤ 140737488355328) :
    ∃ (g : Nat) (pa : Option Addr) (pc : Nat), a = some ⟨g, 0, none⟩ ∧ w.cell? ⟨g, r.length * 4 + 3, none⟩ = some (.slice pa f.f.len pc) ∧
      ∀ K : World → Prop, (∀ w' O', StAt e B w' a n c (f.add hd ps :: r) O' → Chg (fun k => Sh.bk a k ∨ O k) w w' → (∀ k, O' k → O k ∨ O2 k ∨ (w.heap.size ≤ k ∧ k < w'.heap.size)) → K w') →
        al w e (cellsH hd a' ps.len c') fun p w1 => app P [t, t] ty (.slice pa f.f.len pc) (.slice (some p) 1 1) w1 fun a1 n1 c1 w2 => stL w2 ⟨g, r.length * 4 + 3, none⟩ 0 [.slice a1 n1 c1] K := by
  obtain ⟨h0, xs, h1, ⟨pa, pc, O0, Or, ys, rfl, h2, h3, h4, h5⟩, h6⟩ := h
  obtain ⟨g, ha, hg, hc⟩ := h1.cell (by rw [h0]; simp)
  have hl := h3.len
  have hn : n = r.length + 1 := by rw [h0, List.length_cons]
  have hcell : w.cell? ⟨g, r.length * 4 + 3, none⟩ = some (.slice pa f.f.len pc) := by
    refine hc _ _ ?_
    rw [List.getElem?_append_right (by omega), show r.length * 4 + 3 - ys.length = 3 by omega]; rfl
  refine ⟨g, pa, pc, ha, hcell, fun K hK => ?_⟩
  refine OwnG.pushA hT h2 hB (S := fun _ => False) (O2 := O2) (hps.imp fun k hk _ => .inr hk) (fun k hk => ⟨(hO2 k hk).1, fun hb => (hO2 k hk).2.1 ((h4 k).2 (.inl (h2.bk hb)))⟩) (fun k hk => hk.elim) hlen hbytes fun a1 c1 w2 O1' q5 q2 q4 => ?_
  have h1' : Owns w2 B e 4 a n c (ys ++ cellsH f.h pa f.f.len pc) := h1.chg q2 fun k hk hp => h6 k ((h4 k).2 (.inl (h2.bk hp))) hk
  obtain ⟨g', hg', hst⟩ := owns_set h1' (j := r.length * 4 + 3) (by omega) (v := .slice a1 (f.f.len + 1) c1) rfl
  obtain rfl : g' = g := by rw [ha] at hg'; simpa using hg'.symm
  refine hst K fun w' ho hcw hz => ?_
  have hset : (ys ++ cellsH f.h pa f.f.len pc).set (r.length * 4 + 3) (.slice a1 (f.f.len + 1) c1) = ys ++ cellsH f.h a1 (f.f.len + 1) c1 := by
    rw [List.set_append_right _ _ (by omega), show r.length * 4 + 3 - ys.length = 3 by omega]; rfl
  rw [hset] at ho
  have hlen' : (f.add hd ps).f.len = f.f.len + 1 := by unfold Fr.add; simp [Fo.one]
  have z := q2.size
  have nb : ∀ k, O1' k → ¬ Sh.bk a k := fun k hk hb => (q4 k hk).elim (fun h => h6 k ((h4 k).2 (.inl h)) hb) (fun h => h.elim (fun h => (hO2 k h).2.2 hb) (fun h => by have := (h1.bk hb).2; omega))
  refine hK w' (fun k => O1' k ∨ Or k) ⟨by rw [h0]; rfl, _, ho, ⟨a1, c1, O1', Or, ys, by rw [hlen']; rfl, ?_, ?_, fun k => Iff.rfl, ?_⟩, ?_⟩ ?_ ?_
  · rw [hlen']
    exact q5.chg hcw fun k hk _ => ⟨fun h => h, fun ho => nb k ho hk⟩
  · exact (h3.chg q2 fun k hk hp => h5 k (h2.bk hp) hk).chg hcw fun k hk hb => h6 k ((h4 k).2 (.inr hk)) hb
  · intro k hk h2'
    rcases q4 k hk with h | h | h
    · exact h5 k h h2'
    · exact (hO2 k h).2.1 ((h4 k).2 (.inr h2'))
    · have := (h3.own k h2').2; omega
  · intro k hk
    rcases hk with hk | hk
    · exact nb k hk
    · exact h6 k ((h4 k).2 (.inr hk))
  · exact (q2.mono fun k _ hk => .inr ((h4 k).2 (.inl (h2.bk hk)))).trans (hcw.mono fun k _ hk => .inl hk)
  · intro k hk
    rcases hk with hk | hk
    · rcases q4 k hk with h | h | h
      · exact .inl ((h4 k).2 (.inl h))
      · exact .inr (.inl h)
      · exact .inr (.inr ⟨h.1, by omega⟩)
    · exact .inl ((h4 k).2 (.inr hk))
/- the innermost open node closes: the others stay, its list stands apart -/
theorem StAt.pop {f : Fr} {r : List Fr} (h : StAt e B w a n c (f :: r) O) :
    ∃ (pa : Option Addr) (pc : Nat) (O1 O' : Nat → Prop), StAt e B w a r.length c r O' ∧ SlF O1 w pa f.f.len f.f ∧ (∀ k, O1 k → (B ≤ k ∧ k < w.heap.size) ∧ ¬ O' k ∧ ¬ Sh.bk a k) ∧ (∀ k, O1 k → O k) ∧ (∀ k, O' k → O k) ∧
      ∃ g : Nat, a = some ⟨g, 0, none⟩ ∧ w.cell? ⟨g, r.length * 4, none⟩ = some (.int .i64 f.h.k) ∧ w.cell? ⟨g, r.length * 4 + 1, none⟩ = some (.string ⟨⟨f.h.t⟩⟩) ∧ w.cell? ⟨g, r.length * 4 + 2, none⟩ = some (.int .i64 f.h.n) ∧ w.cell? ⟨g, r.length * 4 + 3, none⟩ = some (.slice pa f.f.len pc) := by
  obtain ⟨h0, xs, h1, ⟨pa, pc, O1, Or, ys, rfl, h2, h3, h4, h5⟩, h6⟩ := h
  obtain ⟨g, ha, hg, hc⟩ := h1.cell (by rw [h0]; simp)
  have hl := h3.len
  have hn : n = r.length + 1 := by rw [h0, List.length_cons]
  have key : ∀ j v, (cellsH f.h pa f.f.len pc)[j]? = some v → w.cell? ⟨g, r.length * 4 + j, none⟩ = some v := fun j v hj => by
    refine hc _ _ ?_
    rw [List.getElem?_append_right (by omega), show r.length * 4 + j - ys.length = j by omega]; exact hj
  have hcut := owns_cut h1 (m := r.length) (by omega)
  rw [List.take_left' hl] at hcut
  refine ⟨pa, pc, O1, Or, ⟨rfl, ys, hcut, h3, fun k hk => h6 k ((h4 k).2 (.inr hk))⟩, ?_, fun k hk => ⟨h2.own hk, h5 k hk, h6 k ((h4 k).2 (.inl hk))⟩, fun k hk => (h4 k).2 (.inl hk), fun k hk => (h4 k).2 (.inr hk), g, ha, key 0 _ rfl, key 1 _ rfl, key 2 _ rfl, key 3 _ rfl⟩
  exact h2.out.imp fun k hk _ => hk.elim (fun h => h.elim) id
end
end Go.Proofs
