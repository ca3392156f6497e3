/- The contracts of the functions that the law reaches, one after the other, and at the end the law's card. -/
import Derived.Test.YtlnpbjhhfffnmaaDoorLawC
import Derived.Deep.Slices
import Derived.Carry
import Derived.ChangeSame
import Derived.RowKit
import Derived.OpenShut
import Derived.Test.YtlnpbjhhfffnmaaDoorCards
import Derived.Test.YtlnpbjhhfffnmaaDoorTie
import Derived.Deep.DeepHandedRow
import Derived.Lib.LaidTab
import Derived.WalkKit
import Derived.ProofKit
namespace Go.Proofs
open Go Go.Sh Go.RowKit

theorem tlen_good : ∀ f : Fo, good f → tlen f ≤ 65536 * f.size
  | .nil, _ => by simp [tlen]
  | .cons k t n ps r, h => by
    have h1 := tlen_good ps h.2.1
    have h2 := tlen_good r h.2.2
    have h3 := h.1.2.2.2.1
    simp only [tlen, Fo.size]; omega
theorem tlen_breaks : ∀ f : Fo, tlen (breaksF f) ≤ tlen f
  | .nil => Nat.le_refl _
  | .cons k t n ps r => by
    have h1 := tlen_breaks ps
    have h2 := tlen_breaks r
    simp only [breaksF, tlen_app, tlen]
    split
    · simp [Fo.one, tlen]; omega
    · omega
theorem tlen_part (k t n) (ps : Fo) : tlen (partF k t n ps) ≤ t.length + tlen ps := by
  unfold partF; split
  · simp [tlen]
  · simp [Fo.one, tlen]
theorem tlen_resolve : ∀ (f : Fo) (hand : Int) (adv : Bool), tlen (resolveF f hand adv) ≤ tlen f
  | .nil, _, _ => Nat.le_refl _
  | .cons k t n ps r, hand, adv => by
    have h1 := tlen_resolve ps hand adv
    have h2 := tlen_resolve r hand adv
    have h3 := tlen_breaks ps
    have h4 := tlen_part k t n (resolveF ps hand adv)
    simp only [resolveF, tlen_app, tlen]
    split
    · omega
    split
    · omega
    split
    · omega
    split
    · omega
    split
    · omega
    split
    · omega
    · simp [Fo.one, tlen]; omega
theorem check_zero {f : Fo} (h : checkT f = 0) : f.size ≤ 4096 ∧ good f ∧ tlen f ≤ 268435456 := by
  unfold checkT at h
  split at h
  · rename_i h1
    split at h
    · rename_i h2; exact absurd h h2
    · rename_i h2
      have hg := all_good f _ _ (Decidable.not_not.1 h2)
      have := tlen_good f hg
      exact ⟨h1.1, hg, by omega⟩
  · cases h
def errS (f : Fo) (hand : Int) : Int := if checkT f ≠ 0 then 1 else if hand < 0 ∨ 8 < hand then 13 else 0
def resS (f : Fo) (hand : Int) (adv : Bool) : Fo := if errS f hand = 0 then mergeF (resolveF f hand adv) else .nil

section
variable {R : Ending → World → Prop} {S : Nat → Prop} {w : World} {a : Option Addr} {n c : Nat}
theorem check11_spec (f : Fo) (hand fr : Int) (hf : SlF S w a n f) (h : ∀ w', Ext w w' → R (.returned (.int .i64 (if checkT f ≠ 0 then 1 else if hand < fr ∨ 8 < hand then 13 else 0))) w') :
    Calls Tryd.prog F_ref11_check ⟨[.slice a n c, .int .i64 hand, .int .i64 fr]⟩ w R := by
  apply c_ref11_check
  refine Check10_spec f hf fun w1 e1 => ⟨_, rfl, br_split (fun g => ?_) (fun g => br_split (fun g2 => ?_) (fun g2 => br_split (fun g3 => ?_) (fun g3 => ?_)))⟩
  · rw [if_pos g] at h; exact h _ e1
  · rw [if_neg g, if_pos (.inl g2)] at h; exact h _ e1
  · rw [if_neg g, if_pos (.inr g3)] at h; exact h _ e1
  · rw [if_neg g, if_neg (by omega)] at h; exact h _ e1
theorem State11_spec (f : Fo) (hand : Int) (hf : SlF S w a n f) (h : ∀ a' n' c' w', SlF (fun k => S k ∨ w.heap.size ≤ k) w' a' n' (resS f hand false) → Ext w w' → R (.returned (.tuple ⟨[.slice a' n' c', .int .i64 (errS f hand)]⟩)) w') :
    Calls Tryd.prog F_ref11_State ⟨[.slice a n c, .int .i64 hand]⟩ w R := by
  apply c_ref11_State
  refine check11_spec f hand 0 hf fun w1 e1 => ⟨_, rfl, br_split (fun g => ?_) (fun g => ?_)⟩
  · refine h none 0 0 w1 ?_ e1
    unfold resS; rw [if_neg (show ¬ errS f hand = 0 from g)]; exact SlF.nil none
  · have g0 : errS f hand = 0 := Decidable.not_not.1 g
    have hc : checkT f = 0 := by unfold errS at g0; split at g0 <;> simp_all
    obtain ⟨c1, c2, c3⟩ := check_zero hc
    have z1 := e1.size
    have t2 := tlen_resolve f hand false
    have s2 := resolveF_size f hand false
    refine resolve_spec f hand false (by omega) (hf.ext e1) fun a2 n2 c2 w2 h2 e2 => ⟨_, _, _, rfl, ?_⟩
    have z2 := e2.size
    refine Merge_spec' _ (by omega) (by omega) h2 fun a3 n3 c3 w3 h3 e3 => ⟨_, _, _, rfl, ?_⟩
    have := h a3 n3 c3 w3 (by unfold resS; rw [if_pos g0]; exact h3.imp fun j hj _ => hj.elim (fun h => h.imp id fun h => by omega) fun h => .inr (by omega)) (ext_trans (ext_trans e1 e2) e3)
    rw [g0] at this; exact this
theorem Advance11_spec (f : Fo) (hand : Int) (hf : SlF S w a n f) (h : ∀ a' n' c' w', SlF (fun k => S k ∨ w.heap.size ≤ k) w' a' n' (resS f hand true) → Ext w w' → R (.returned (.tuple ⟨[.slice a' n' c', .int .i64 (errS f hand)]⟩)) w') :
    Calls Tryd.prog F_ref11_Advance ⟨[.slice a n c, .int .i64 hand]⟩ w R := by
  apply c_ref11_Advance
  refine check11_spec f hand 0 hf fun w1 e1 => ⟨_, rfl, br_split (fun g => ?_) (fun g => ?_)⟩
  · refine h none 0 0 w1 ?_ e1
    unfold resS; rw [if_neg (show ¬ errS f hand = 0 from g)]; exact SlF.nil none
  · have g0 : errS f hand = 0 := Decidable.not_not.1 g
    have hc : checkT f = 0 := by unfold errS at g0; split at g0 <;> simp_all
    obtain ⟨c1, c2, c3⟩ := check_zero hc
    have z1 := e1.size
    have t2 := tlen_resolve f hand true
    have s2 := resolveF_size f hand true
    refine resolve_spec f hand true (by omega) (hf.ext e1) fun a2 n2 c2 w2 h2 e2 => ⟨_, _, _, rfl, ?_⟩
    have z2 := e2.size
    refine Merge_spec' _ (by omega) (by omega) h2 fun a3 n3 c3 w3 h3 e3 => ⟨_, _, _, rfl, ?_⟩
    have := h a3 n3 c3 w3 (by unfold resS; rw [if_pos g0]; exact h3.imp fun j hj _ => hj.elim (fun h => h.imp id fun h => by omega) fun h => .inr (by omega)) (ext_trans (ext_trans e1 e2) e3)
    rw [g0] at this; exact this

theorem State_spec (f : Fo) (hand : Int) (hs : small f) (hF : Forms w) (hf : SlF S w a n f) (h : ∀ a' n' c' w', SlF (fun k => S k ∨ w.heap.size ≤ k) w' a' n' (resS f hand false) → Ext w w' → R (.returned (.tuple ⟨[.slice a' n' c', .int .i64 (errS f hand)]⟩)) w') :
    Calls Tryd.prog F_hands_State ⟨[.slice a n c, .int .i64 hand]⟩ w R := by
  apply c_hands_State
  refine Check22_spec f hs hf hF fun w1 e1 => ⟨_, rfl, br_split (fun g => ?_) (fun g => ?_)⟩
  · have e : errS f hand = 1 := by unfold errS; rw [if_pos g]
    have := h none 0 0 w1 (by unfold resS; rw [if_neg (by rw [e]; decide)]; exact SlF.nil none) e1
    rw [e] at this; exact this
  · have hc : checkT f = 0 := Decidable.not_not.1 g
    obtain ⟨c1, c2, c3⟩ := check_zero hc
    have z1 := e1.size
    intro K6 hK6
    have bad : (hand < 0 ∨ 8 < hand) → R (.returned (.tuple ⟨[.slice none 0 0, .int .i64 13]⟩)) w1 := fun hh => by
      have e : errS f hand = 13 := by unfold errS; rw [if_neg g, if_pos hh]
      have := h none 0 0 w1 (by unfold resS; rw [if_neg (by rw [e]; decide)]; exact SlF.nil none) e1
      rw [e] at this; exact this
    refine br_split (fun g2 => bad (.inl g2)) (fun g2 => br_split (fun g3 => bad (.inr g3)) (fun g3 => hK6 _ fun _ => ?_))
    have e : errS f hand = 0 := by unfold errS; rw [if_neg g, if_neg (by omega)]
    have er := each_resolve hand f c2
    have t2 := tlen_resolve f hand false
    refine resolved_spec f hand (by omega) c2 (by rw [er]; omega) (hf.ext e1) fun a2 n2 c2 w2 h2 e2 => ⟨_, _, _, rfl, ?_⟩
    rw [er] at h2
    have := h a2 n2 c2 w2 (by unfold resS; rw [if_pos e]; exact h2.imp fun j hj _ => hj.imp id fun h => by omega) (ext_trans e1 e2)
    rw [e] at this; exact this
theorem Advance_spec (f : Fo) (hand : Int) (hs : small f) (hF : Forms w) (hf : SlF S w a n f) (h : ∀ a' n' c' w', SlF (fun k => S k ∨ w.heap.size ≤ k) w' a' n' (resS f hand true) → Ext w w' → R (.returned (.tuple ⟨[.slice a' n' c', .int .i64 (errS f hand)]⟩)) w') :
    Calls Tryd.prog F_hands_Advance ⟨[.slice a n c, .int .i64 hand]⟩ w R := by
  apply c_hands_Advance
  refine Check22_spec f hs hf hF fun w1 e1 => ⟨_, rfl, br_split (fun g => ?_) (fun g => ?_)⟩
  · have e : errS f hand = 1 := by unfold errS; rw [if_pos g]
    have := h none 0 0 w1 (by unfold resS; rw [if_neg (by rw [e]; decide)]; exact SlF.nil none) e1
    rw [e] at this; exact this
  · have hc : checkT f = 0 := Decidable.not_not.1 g
    obtain ⟨c1, c2, c3⟩ := check_zero hc
    have z1 := e1.size
    intro K6 hK6
    have bad : (hand < 0 ∨ 8 < hand) → R (.returned (.tuple ⟨[.slice none 0 0, .int .i64 13]⟩)) w1 := fun hh => by
      have e : errS f hand = 13 := by unfold errS; rw [if_neg g, if_pos hh]
      have := h none 0 0 w1 (by unfold resS; rw [if_neg (by rw [e]; decide)]; exact SlF.nil none) e1
      rw [e] at this; exact this
    refine br_split (fun g2 => bad (.inl g2)) (fun g2 => br_split (fun g3 => bad (.inr g3)) (fun g3 => hK6 _ fun _ => ?_))
    have e : errS f hand = 0 := by unfold errS; rw [if_neg g, if_neg (by omega)]
    have er := each_advance hand f c2
    have t2 := tlen_resolve f hand true
    refine advanced_spec f hand (by omega) c2 (by rw [er]; omega) (hf.ext e1) fun a2 n2 c2 w2 h2 e2 => ⟨_, _, _, rfl, ?_⟩
    rw [er] at h2
    have := h a2 n2 c2 w2 (by unfold resS; rw [if_pos e]; exact h2.imp fun j hj _ => hj.imp id fun h => by omega) (ext_trans e1 e2)
    rw [e] at this; exact this
end
end Go.Proofs
namespace Go.Proofs
open Go Go.Sh Go.RowKit

theorem text_spec {R : Ending → World → Prop} {w : World} (s : List UInt8) (h : ∀ w', Ext w w' → R (.returned (.agg ⟨[.int .i64 1, .string ⟨⟨s⟩⟩, .int .i64 0, .slice none 0 0]⟩)) w') : Calls Tryd.prog F_law11_text ⟨[.string ⟨⟨s⟩⟩]⟩ w R := by
  apply c_law11_text
  refine al_stL (by simp) (by intro u hu; simp only [List.mem_cons, List.not_mem_nil, or_false] at hu; rcases hu with rfl | rfl | rfl | rfl <;> rfl) fun b w1 hb hB e1 s1 => ?_
  obtain ⟨x0, x1, x2, x3⟩ := blk4 hB
  exact ⟨1, x0, s, x1, 0, x2, none, 0, 0, x3, h _ e1⟩
theorem at_blk {w : World} {b : Nat} {vs : List Value} {T : TypeId} (h : Blk w b vs T) : At (fun _ => True) w (some ⟨b, 0, none⟩) vs :=
  .inr ⟨b, 0, rfl, trivial, h.lt, fun j v hj => by rw [Nat.zero_add, h.cell]; exact hj⟩
def fA1 : Fo := .cons 1 [100, 101] 0 .nil (.cons 8 [] 1 (.one 1 [117] 0 .nil) (.one 1 [115] 0 .nil))
def fA2 : Fo := .cons 1 [97] 0 .nil (.one 9 [] 2 (.cons 1 [98] 0 .nil (.one 2 [] 0 .nil)))
theorem awake1 : errS fA1 0 = 0 ∧ errS fA1 1 = 0 ∧ errS fA2 2 = 0 ∧ resS fA1 0 false = .one 1 [100, 101, 115] 0 .nil ∧ resS fA1 1 false = .one 1 [100, 101, 117, 115] 0 .nil ∧ resS fA2 2 false = .cons 1 [97] 0 .nil (.one 2 [] 0 .nil) := by decide +kernel
set_option maxRecDepth 20000 in
theorem awake_spec {R : Ending → World → Prop} {w : World} (hF : Forms w) (h : ∀ w', Ext w w' → R (.returned (.bool true)) w') : Calls Tryd.prog F_law11_awake ⟨[]⟩ w R := by
  obtain ⟨q1, q2, q3, q4, q5, q6⟩ := awake1
  apply c_law11_awake
  refine text_spec _ fun w1 e1 => ⟨_, _, _, _, _, _, rfl, text_spec _ fun w2 e2 => ⟨_, _, _, _, _, _, rfl, ?_⟩⟩
  refine al_intro fun b1 w3 hb1 B1 e3 s3 => ?_
  refine text_spec _ fun w4 e4 => ⟨_, _, _, _, _, _, rfl, ?_⟩
  refine al_intro fun b2 w5 hb2 B2 e5 s5 => ?_
  have E3 := ext_trans (ext_trans e1 e2) e3
  have E5 := ext_trans (ext_trans E3 e4) e5
  have f1 : SlF (fun _ => True) w5 (some ⟨b2, 0, none⟩) 3 fA1 :=
    ⟨rfl, _, at_blk B2, none, 0, [], _, rfl, .inl rfl, rfl, some ⟨b1, 0, none⟩, 1, _, _, rfl, at_blk ((B1.ext e4).ext e5), ⟨none, 0, [], [], rfl, .inl rfl, rfl, rfl⟩, none, 0, [], [], rfl, .inl rfl, rfl, rfl⟩
  refine State_spec fA1 0 (by decide) (hF.ext E5) f1 fun a6 n6 c6 w6 h6 e6 => ⟨_, _, _, _, rfl, ?_⟩
  have E6 := ext_trans E5 e6
  refine State_spec fA1 1 (by decide) (hF.ext E6) (f1.ext e6) fun a7 n7 c7 w7 h7 e7 => ⟨_, _, _, _, rfl, ?_⟩
  have E7 := ext_trans E6 e7
  refine text_spec _ fun w8 e8 => ⟨_, _, _, _, _, _, rfl, text_spec _ fun w9 e9 => ⟨_, _, _, _, _, _, rfl, ?_⟩⟩
  refine al_intro fun b3 w10 hb3 B3 e10 s10 => ?_
  refine al_intro fun b4 w11 hb4 B4 e11 s11 => ?_
  have E89 := ext_trans e8 e9
  have E811 := ext_trans (ext_trans E89 e10) e11
  have E11 := ext_trans E7 E811
  have f2 : SlF (fun _ => True) w11 (some ⟨b4, 0, none⟩) 2 fA2 :=
    ⟨rfl, _, at_blk B4, none, 0, [], _, rfl, .inl rfl, rfl, some ⟨b3, 0, none⟩, 2, _, _, rfl, at_blk (B3.ext e11), ⟨none, 0, [], _, rfl, .inl rfl, rfl, ⟨none, 0, [], [], rfl, .inl rfl, rfl, rfl⟩⟩, rfl⟩
  refine State_spec fA2 2 (by decide) (hF.ext E11) f2 fun a12 n12 c12 w12 h12 e12 => ⟨_, _, _, _, rfl, ?_⟩
  have E12 := ext_trans E11 e12
  rw [q1, q2, q3]
  rw [q4] at h6
  rw [q5] at h7
  rw [q6] at h12
  have hH6 := ((h6.ext e7).ext E811).ext e12
  have hH7 := (h7.ext E811).ext e12
  refine br_split (fun _ => ?_) (fun g => absurd (by decide) g)
  refine text_spec _ fun w13 e13 => ⟨_, _, _, _, _, _, rfl, al_intro fun b5 w14 hb5 B5 e14 s14 => ?_⟩
  have E14 := ext_trans e13 e14
  refine Same_spec _ (hH6.ext E14) (S' := fun _ => True) (g := .one 1 [100, 101, 115] 0 .nil) ⟨rfl, _, at_blk B5, none, 0, [], [], rfl, .inl rfl, rfl, rfl⟩ (by decide) fun w15 e15 => ⟨_, rfl, ?_⟩
  rw [decide_eq_true rfl]
  simp only [br_t]
  refine text_spec _ fun w16 e16 => ⟨_, _, _, _, _, _, rfl, al_intro fun b6 w17 hb6 B6 e17 s17 => ?_⟩
  have E17 := ext_trans (ext_trans (ext_trans E14 e15) e16) e17
  refine Same_spec _ (hH7.ext E17) (S' := fun _ => True) (g := .one 1 [100, 101, 117, 115] 0 .nil) ⟨rfl, _, at_blk B6, none, 0, [], [], rfl, .inl rfl, rfl, rfl⟩ (by decide) fun w18 e18 => ⟨_, rfl, ?_⟩
  rw [decide_eq_true rfl]
  simp only [br_t]
  refine text_spec _ fun w19 e19 => ⟨_, _, _, _, _, _, rfl, al_intro fun b7 w20 hb7 B7 e20 s20 => ?_⟩
  have E20 := ext_trans (ext_trans (ext_trans E17 e18) e19) e20
  refine Same_spec _ (h12.ext E20) (S' := fun _ => True) (g := .cons 1 [97] 0 .nil (.one 2 [] 0 .nil)) ⟨rfl, _, at_blk B7, none, 0, [], _, rfl, .inl rfl, rfl, none, 0, [], [], rfl, .inl rfl, rfl, rfl⟩ (by decide) fun w21 e21 => ⟨_, rfl, ?_⟩
  rw [decide_eq_true rfl]
  exact h _ (ext_trans (ext_trans E12 E20) e21)

theorem addL_size (f : Fo) (t) : (addL f t).size = f.size := by
  rcases Fo_view f with rfl | ⟨pre, k, s, n, ps, rfl⟩
  · rfl
  · rw [addL_snoc, Fo.size_app, Fo.size_app]; rfl
theorem snocM_size (out : Fo) (k t n ps) : (snocM out k t n ps).size ≤ out.size + ps.size + 1 := by
  unfold snocM
  split
  · omega
  · split
    · rw [addL_size]; omega
    · rw [Fo.size_app]; simp [Fo.one, Fo.size]; omega
theorem mgo_size : ∀ (f out : Fo), (mgo f out).size ≤ f.size + out.size
  | .nil, out => by simp [mgo]
  | .cons k t n ps r, out => by
    have h1 := mgo_size ps .nil
    have h2 := mgo_size r (snocM out k t n (mgo ps .nil))
    have h3 := snocM_size out k t n (mgo ps .nil)
    simp only [mgo, Fo.size] at *
    omega
theorem mergeF_size (f : Fo) : (mergeF f).size ≤ f.size := by
  have := mgo_size f .nil
  simpa [mergeF, Fo.size] using this

theorem HandsStates_spec {R : Ending → World → Prop} {S : Nat → Prop} {w : World} {a : Option Addr} {n c : Nat} (f : Fo) (hand : Int) (hF : Forms w) (hf : SlF S w a n f) (h : ∀ w', Ext w w' → R (.returned (.bool true)) w') :
    Calls Tryd.prog F_law11_HandsStates ⟨[.slice a n c, .int .i64 hand]⟩ w R := by
  apply c_law11_HandsStates
  refine Great_spec hf fun w1 e1 => ⟨_, rfl, br_cases (fun g => ?_) (fun g => ?_)⟩
  · exact awake_spec (hF.ext e1) fun w2 e2 => ⟨_, rfl, h _ (ext_trans e1 e2)⟩
  · obtain ⟨c1, c2, c3⟩ := great_small g
    have hs : small f := by unfold small; omega
    refine State_spec f hand hs (hF.ext e1) (hf.ext e1) fun a2 n2 c2 w2 h2 e2 => ⟨_, _, _, _, rfl, ?_⟩
    have E2 := ext_trans e1 e2
    refine State11_spec f hand (hf.ext E2) fun a3 n3 c3 w3 h3 e3 => ⟨_, _, _, _, rfl, ?_⟩
    have E3 := ext_trans E2 e3
    refine Advance_spec f hand hs (hF.ext E3) (hf.ext E3) fun a4 n4 c4 w4 h4 e4 => ⟨_, _, _, _, rfl, ?_⟩
    have E4 := ext_trans E3 e4
    refine Advance11_spec f hand (hf.ext E4) fun a5 n5 c5 w5 h5 e5 => ⟨_, _, _, _, rfl, ?_⟩
    have E5 := ext_trans E4 e5
    have sm : ∀ adv, small (resS f hand adv) := fun adv => by
      have h1 := mergeF_size (resolveF f hand adv)
      have h2 := resolveF_size f hand adv
      unfold small resS
      split
      · omega
      · simp [Fo.size]
    refine Same_spec _ (((h2.ext e3).ext e4).ext e5) ((h3.ext e4).ext e5) (sm false) fun w6 e6 => ⟨_, rfl, ?_⟩
    rw [decide_eq_true rfl]
    simp only [br_t]
    refine br_split (fun _ => ?_) (fun g => absurd (by first | exact trivial | rfl) g)
    refine Same_spec _ ((h4.ext e5).ext e6) (h5.ext e6) (sm true) fun w7 e7 => ⟨_, rfl, ?_⟩
    rw [decide_eq_true rfl]
    simp only [br_t]
    refine br_split (fun _ => ?_) (fun g => absurd (by first | exact trivial | rfl) g)
    have E7 := ext_trans (ext_trans E5 e6) e7
    exact awake_spec (hF.ext E7) fun w8 e8 => ⟨_, rfl, h _ (ext_trans E7 e8)⟩
end Go.Proofs
namespace Go.Proofs
open Go Go.Sh Go.RowKit

theorem len4 {α : Type} {l : List α} (h : l.length = 4) : ∃ a b c d, l = [a, b, c, d] := by
  match l, h with
  | [a, b, c, d], _ => exact ⟨a, b, c, d, rfl⟩

set_option maxRecDepth 20000 in
theorem open_nodes {H : Type} {enc : TypeId × Value → H} {w : World} {base : Nat} {sp : Nat → Bool} {hd : Bool} : ∀ (fuel : Nat) (cs : List Value) (x : DataW H × List MemPlace), DataW.trod enc Tryd.prog w base sp hd fuel 22 cs = some x →
    ∃ (a : Option Addr) (n c : Nat) (f : Fo), cs = [.slice a n c] ∧ SlF (fun _ => True) w a n f := by
  intro fuel
  induction fuel using Nat.strongRecOn with
  | _ fuel ih =>
  intro cs x h
  rcases DataW.trod_slice Tryd.underlying22 h with ⟨rfl, _⟩ | ⟨a, len, cap, elems, rest, n, rfl, rfl, _, hb, hl, hm, hel, hall, _⟩
  · exact ⟨none, 0, 0, .nil, rfl, SlF.nil none⟩
  have h4 : Tryd.prog.cellsOf 56 = 4 := by kernel_rfl
  have h3 : Tryd.prog.cellsOf 3 = 1 := by kernel_rfl
  have h9 : Tryd.prog.cellsOf 9 = 1 := by kernel_rfl
  have h22 : Tryd.prog.cellsOf 22 = 1 := by kernel_rfl
  have node : ∀ i, i < len → ∃ (k : Int) (t : List UInt8) (m : Int) (a1 : Option Addr) (c1 : Nat) (ps : Fo), (∀ j v, ([.int .i64 k, .string ⟨⟨t⟩⟩, .int .i64 m, .slice a1 ps.len c1] : List Value)[j]? = some v → w.cell? ((a.add (i * 4)).add j) = some v) ∧ SlF (fun _ => True) w a1 ps.len ps := by
    intro i hi
    have hh := hall i hi
    rw [List.getElem?_eq_getElem (by omega)] at hh
    obtain ⟨cs', hc1, hc2⟩ := Option.bind_eq_some_iff.1 hh
    rw [h4] at hc1
    obtain ⟨_, hlen, hcell⟩ := World.cells?_some hc1
    obtain ⟨xs, n', rfl, _, hcl, hxl, hf⟩ := DataW.trod_struct Tryd.underlying56 hc2
    obtain ⟨v0, v1, v2, v3, rfl⟩ := len4 hlen
    obtain ⟨y0, y1, y2, y3, rfl⟩ := len4 (show xs.length = 4 from hxl)
    have g0 := hf 0 _ rfl
    have g1 := hf 1 _ rfl
    have g2 := hf 2 _ rfl
    have g3 := hf 3 _ rfl
    try dsimp only at g0
    try simp only [h3] at g0
    try dsimp only at g1
    try simp only [h9] at g1
    try dsimp only at g2
    try simp only [h3] at g2
    try dsimp only at g3
    try simp only [h22] at g3
    obtain ⟨k, e0, _, _⟩ := DataW.trod_int (k := .i64) Tryd.underlying3 g0
    obtain ⟨t, e1, _, _⟩ := DataW.trod_string Tryd.underlying9 g1
    obtain ⟨m, e2, _, _⟩ := DataW.trod_int (k := .i64) Tryd.underlying3 g2
    obtain ⟨a1, n1, c1, ps, e3, hs⟩ := ih n' (by omega) _ _ g3
    simp [h3, h9, h22] at e0 e1 e2 e3
    subst e0 e1 e2 e3
    have hn1 := hs.1
    subst hn1
    refine ⟨k, t.data.toList, m, a1, c1, ps, fun j v hj => ?_, hs⟩
    have hj4 : j < 4 := by have := (List.getElem?_eq_some_iff.1 hj).1; simpa using this
    rw [hcell j hj4]
    exact hj
  by_cases hl0 : len = 0
  · subst hl0
    exact ⟨some a, 0, cap, .nil, rfl, SlF.nil _⟩
  obtain ⟨b, o, rfl⟩ : ∃ b o, a = ⟨b, o, none⟩ := by
    obtain ⟨kd, t, m, a1, c1, ps, hcells, _⟩ := node 0 (by omega)
    have h0 := hcells 0 _ rfl
    obtain ⟨b, o, spot⟩ := a
    have hspot : spot = none := by simpa [Addr.add] using World.cell?_spot h0
    subst hspot
    exact ⟨b, o, rfl⟩
  have build : ∀ k, k ≤ len → ∃ (f : Fo) (us : List Value), f.len = k ∧ (∀ j v, us[j]? = some v → w.cell? ((⟨b, o, none⟩ : Addr).add j) = some v) ∧ FoC (fun _ => True) w f us := by
    intro k
    induction k with
    | zero => exact fun _ => ⟨.nil, [], rfl, fun j v hj => by simp at hj, rfl⟩
    | succ k ihk =>
      intro hk
      obtain ⟨f, us, hfl, hus, hF⟩ := ihk (by omega)
      obtain ⟨kd, t, m, a1, c1, ps, hcells, hm, vs, hat, hfo⟩ := node k (by omega)
      have hul := hF.len
      refine ⟨f.app (.one kd t m ps), us ++ [.int .i64 kd, .string ⟨⟨t⟩⟩, .int .i64 m, .slice a1 ps.len c1], by simp [Fo.one, hfl], fun j v hj => ?_, hF.app ⟨a1, c1, vs, [], rfl, hat, hfo, rfl⟩⟩
      by_cases hlt : j < us.length
      · rw [List.getElem?_append_left hlt] at hj
        exact hus j v hj
      · rw [List.getElem?_append_right (by omega)] at hj
        have := hcells _ _ hj
        have hadd : ((⟨b, o, none⟩ : Addr).add (k * 4)).add (j - us.length) = (⟨b, o, none⟩ : Addr).add j := by
          rw [add_none, add_none, add_none]
          have e : o + k * 4 + (j - us.length) = o + j := by omega
          rw [e]
        rw [hadd] at this; exact this
  obtain ⟨f, us, hfl, hus, hF⟩ := build len (Nat.le_refl _)
  refine ⟨some ⟨b, o, none⟩, len, cap, f, rfl, hfl.symm, us, ?_, hF⟩
  cases us with
  | nil => exact .inl rfl
  | cons u us =>
    have h0 := hus 0 u rfl
    refine .inr ⟨b, o, rfl, trivial, ?_, fun j v hj => ?_⟩
    · have := World.block_lt_of_cell? w _ h0
      simpa [Addr.add] using this
    · have := hus j v hj
      rw [add_none] at this; exact this
end Go.Proofs
namespace Go.Sh
open Go Go.RowKit Go.ChangeShapes
section
variable {H : Type} {enc : TypeId × Value → H} {P : Program} {W W' : World}
theorem trodAll_carry {sp : Nat → Bool} : ∀ {ts : List TypeId} {vs : List Value} {ds : List (DataW H)} {ps : List MemPlace}, DataW.TrodAll enc P W 0 sp true ts vs ds ps → (∀ p ∈ ps, W.sameAt W' p) → DataW.TrodAll enc P W' 0 sp true ts vs ds ps
  | [], [], [], _, h, _ => h
  | _ :: _, _ :: _, _ :: _, _, ⟨p, q, ⟨n, hn⟩, h2, e⟩, hs =>
    ⟨p, q, ⟨n, DataW.trod_carry n _ _ _ hn fun x hx => hs x (by rw [e]; exact List.mem_append_left _ hx)⟩, trodAll_carry h2 (fun x hx => hs x (by rw [e]; exact List.mem_append_right _ hx)), e⟩
  | [], [], _ :: _, _, h, _ => h.elim
  | [], _ :: _, _, _, h, _ => h.elim
  | _ :: _, [], _, _, h, _ => h.elim
  | _ :: _, _ :: _, [], _, h, _ => h.elim
theorem trodAll_below (hl : laidOutB P = true) : ∀ {ts : List TypeId} {vs : List Value} {ds : List (DataW H)} {ps : List MemPlace}, (∀ t ∈ ts, P.readableRec t = true ∧ t < P.types.size) → DataW.TrodAll enc P W 0 (fun _ => true) true ts vs ds ps → Below W.heap.size W W' → (∀ x ∈ ps, x.block < W.heap.size) →
    DataW.TrodAll enc P W' 0 (fun b => decide (b < W.heap.size)) true ts vs ds ps
  | [], [], [], _, _, h, _, _ => h
  | _ :: _, _ :: _, _ :: _, _, ht, ⟨p, q, h1, h2, e⟩, hb, hlt =>
    ⟨p, q, Below.trod hl (ht _ (by simp)).1 (ht _ (by simp)).2 h1 hb (fun x hx => hlt x (by rw [e]; exact List.mem_append_left _ hx)),
      trodAll_below hl (fun t h => ht t (List.mem_cons_of_mem _ h)) h2 hb (fun x hx => hlt x (by rw [e]; exact List.mem_append_right _ hx)), e⟩
  | [], [], _ :: _, _, _, h, _, _ => h.elim
  | [], _ :: _, _, _, _, h, _, _ => h.elim
  | _ :: _, [], _, _, _, h, _, _ => h.elim
  | _ :: _, _ :: _, [], _, _, h, _, _ => h.elim

/- a law's 'post' where it answers true and what was there stands -/
theorem post_ext {f : Func} {s : ChangeSpec} {apart fresh handsOn again : Bool} {args : Array Value} {ds gs : List (DataW H)} {before : List MemPlace} {tb : TypeId} (hl : laidOutB P = true) (hts : ∀ t ∈ f.params.toList, P.readableRec t = true ∧ t < P.types.size) (hres : f.resultTypes = #[tb]) (htb : P.underlying tb = some .bool) (hvars : s.vars = [])
    (hW : DataW.Whole enc P f.params.toList s.vars apart W args.toList ds gs before) (hfn : s.fn H (ds ++ gs) = { results := [.lit (.bool true)], args := ds }) (he : Ext W W') :
    s.post enc P f apart fresh handsOn again W args (.bool true) W' := by
  have hlt := hW.lt
  have hW0 := hW
  obtain ⟨p, q, h1, h2, hpq, hz, hn⟩ := hW0
  rw [hvars] at h2
  obtain ⟨hg, hq⟩ := trodVars_none h2
  subst hg hq
  simp only [List.append_nil] at hpq
  subst hpq
  have hbool : ∀ (b : Nat) (sp : Nat → Bool) (hd : Bool), DataW.TrodAll enc P W' b sp hd f.resultTypes.toList ((Value.bool true).resultList f.resultTypes.size) [.lit (.bool true)] [] := by
    intro b sp hd
    rw [hres]
    exact trodAll_mk1 (shut_bool htb true)
  refine ⟨ds, [], before, [], before, [], hW, ?_, ?_, ?_, he.frame _, fun _ => ⟨ok_one hres rfl (okWide_bool_mk htb true), [.lit (.bool true)] ++ ds, [], [] ++ before, ⟨[] ++ before, [], ?_, ?_, by simp, ?_, ?_⟩, ?_⟩⟩
  · rw [hfn]; exact hbool _ _ _
  · rw [hfn]; exact trodAll_below hl hts h1 he hlt
  · rw [hfn, hvars]; rfl
  · exact trodAll_append (trodAll_carry h1 fun x hx => he.same (hlt x hx)) (hbool _ _ _)
  · rw [hvars]; rfl
  · intro b off hp
    simp only [List.nil_append] at hp
    rw [he.frozen (hlt _ hp)]
    exact hz b off hp
  · intro ha; simpa using hn ha
  · intro x hx _; simpa using hx
end
end Go.Sh
namespace Go.Proofs.YtlnpbjhhfffnmaaDoor
open Go Go.Sh Go.RowKit Go.ChangeShapes Go.WideShapes Go.ChangeAt

theorem own : ownKnob Tryd.prog.godebug = none := by kernel_rfl
theorem laidOut : laidOutB Tryd.prog = true := by kernel_rfl
theorem rec22 : Tryd.prog.readableRec 22 = true ∧ 22 < Tryd.prog.types.size := ⟨by kernel_rfl, of_decide_eq_true (by kernel_rfl)⟩
theorem rec3 : Tryd.prog.readableRec 3 = true ∧ 3 < Tryd.prog.types.size := ⟨by kernel_rfl, of_decide_eq_true (by kernel_rfl)⟩
theorem form_row {W : World} {m : Nat} {cs : List Value} {x : DataW Unit × List MemPlace} {tag : List UInt8} {a b c : Bool} (h : DataW.trod (fun _ => ()) Tryd.prog W 0 (fun _ => true) false m 96 cs = some x)
    (hx : x.1 = .agg [.lit (.string tag), .lit (.bool a), .lit (.bool b), .lit (.bool c)]) : cs = [.string ⟨⟨tag⟩⟩, .bool a, .bool b, .bool c] := by
  have h96 : Tryd.prog.cellsOf 96 = 4 := by kernel_rfl
  have h9 : Tryd.prog.cellsOf 9 = 1 := by kernel_rfl
  have h4 : Tryd.prog.cellsOf 4 = 1 := by kernel_rfl
  obtain ⟨xs, n, rfl, rfl, hl, hxl, hf⟩ := DataW.trod_struct Tryd.underlying96 h
  rw [h96] at hl
  obtain ⟨v0, v1, v2, v3, rfl⟩ := len4 hl
  obtain ⟨y0, y1, y2, y3, rfl⟩ := len4 (show xs.length = 4 from hxl)
  simp only [List.map_cons, List.map_nil, DataW.agg.injEq, List.cons.injEq, and_true] at hx
  obtain ⟨z0, z1, z2, z3⟩ := hx
  have g0 := hf 0 _ rfl
  have g1 := hf 1 _ rfl
  have g2 := hf 2 _ rfl
  have g3 := hf 3 _ rfl
  obtain ⟨t, e0, f0, _⟩ := DataW.trod_string Tryd.underlying9 g0
  obtain ⟨b1, e1, f1⟩ := DataW.trod_bool Tryd.underlying4 g1
  obtain ⟨b2, e2, f2⟩ := DataW.trod_bool Tryd.underlying4 g2
  obtain ⟨b3, e3, f3⟩ := DataW.trod_bool Tryd.underlying4 g3
  simp [h9, h4] at e0 e1 e2 e3
  subst e0 e1 e2 e3
  try simp at f0 f1 f2 f3
  rw [f0] at z0
  rw [f1] at z1
  rw [f2] at z2
  rw [f3] at z3
  simp at z0 z1 z2 z3
  subst z0 z1 z2 z3
  rfl
set_option maxRecDepth 20000 in
theorem forms_of {W : World} (h : laidMetH Tryd.prog Rows.handsStatesRow.laid W) : Forms W := by
  obtain ⟨ps, hv, _, _⟩ := (show laidMet Tryd.prog Rows.handsStatesRow.laid W from h)
  obtain ⟨g1, t1, c1, f1, p1, q1, _, _, _, _, hv, _⟩ := hv
  obtain ⟨g2, t2, c2, f2, p2, q2, _, _, _, _, hv, _⟩ := hv
  obtain ⟨g3, t3, c3, f3, p3, q3, _, _, _, _, hv, _⟩ := hv
  obtain ⟨g4, t4, cs, f4, p4, q4, hg, ht, hvar, hd, hv, _⟩ := hv
  have hg0 : Tryd.prog.globalNamed "apograph/transcript.forms" = some 0 := by kernel_rfl
  have ht0 : (Tryd.prog.globals[0]?).map (·.type) = some 97 := by kernel_rfl
  obtain rfl := Option.some.inj (hg0.symm.trans hg)
  obtain rfl := Option.some.inj (ht0.symm.trans ht)
  have h96 : Tryd.prog.cellsOf 96 = 4 := by kernel_rfl
  have h97 : Tryd.prog.cellsOf 97 = 48 := by kernel_rfl
  obtain ⟨xs, m, rfl, hx, hl, hxl, hall⟩ := DataW.trod_array Tryd.underlying97 hd
  rw [h97] at hl
  rw [h96] at hall
  simp only [Prod.mk.injEq, Rows.laid_apograph_transcript_forms, DataW.agg.injEq] at hx
  obtain ⟨hm, _⟩ := hx
  have chunk : ∀ i, i < 12 → (cs.toList.drop (i * 4)).take 4 = (formsCells.drop (i * 4)).take 4 := by
    intro i hi
    have hh := hall i hi
    have hxi : (xs[i]?).map (·.1) = _ := (List.getElem?_map (f := (·.1)) (l := xs) (i := i)).symm.trans (by rw [← hm])
    rw [List.getElem?_eq_getElem (by omega)] at hh hxi
    simp only [Option.map_some] at hxi
    rcases (by omega : i = 0 ∨ i = 1 ∨ i = 2 ∨ i = 3 ∨ i = 4 ∨ i = 5 ∨ i = 6 ∨ i = 7 ∨ i = 8 ∨ i = 9 ∨ i = 10 ∨ i = 11) with rfl | rfl | rfl | rfl | rfl | rfl | rfl | rfl | rfl | rfl | rfl | rfl <;>
      exact form_row hh (Option.some.inj hxi)
  have hsz : 0 < W.heap.size := by
    simp only [World.var?, hg0, Option.bind_some] at hvar
    split at hvar
    · rename_i hh; exact (Array.getElem?_eq_some_iff.1 hh).1
    · cases hvar
  refine ⟨hsz, fun j v hj => ?_⟩
  have hj48 : j < 48 := by have := (List.getElem?_eq_some_iff.1 hj).1; exact this
  rw [World.var?_cell hg0 hvar j]
  have hc := chunk (j / 4) (by omega)
  have e : ∀ l : List Value, l[j]? = ((l.drop (j / 4 * 4)).take 4)[j - j / 4 * 4]? := fun l => by
    rw [List.getElem?_take, if_pos (by omega), List.getElem?_drop]
    congr 1; omega
  rw [← Array.getElem?_toList, e, hc, ← e]; exact hj

set_option maxRecDepth 20000 in
theorem contract (H : Type) (enc : TypeId × Value → H) (W : World) (base : Nat) (args : Array Value) (ds gs : List (DataW H)) (before : List MemPlace)
    (hval : ∀ (j : Nat) t v, Tryd.f3.params[j]? = some t → args[j]? = some v → Value.okWide Tryd.prog W .any base t v)
    (hW : DataW.Whole enc Tryd.prog Tryd.f3.params.toList Rows.handsStatesSpec.vars false W args.toList ds gs before) (hL : laidMetH Tryd.prog Rows.handsStatesRow.laid W) :
    Calls Tryd.prog 3 args W fun e W' => ∃ v, e = .returned v ∧ Rows.handsStatesSpec.post enc Tryd.prog Tryd.f3 false true false false W args v W' := by
  have hW' := hW
  obtain ⟨p, q, hA0, hV, rfl, hfz, hnd⟩ := hW
  have hA : DataW.TrodAll enc Tryd.prog W 0 (fun _ => true) true Tryd.f3.params.toList args.toList ds p := hA0
  rw [Tryd.params3] at hA hval
  obtain ⟨v0, vs0, d0, ds0, p0, q0, hargs, rfl, rfl, h0, r0⟩ := trodAll_cons hA
  obtain ⟨v1, vs1, d1, ds1, p1, q1, rfl, rfl, rfl, h1, r1⟩ := trodAll_cons r0
  obtain ⟨rfl, rfl, rfl⟩ := trodAll_nil r1
  obtain rfl : args = #[v0, v1] := by cases args; simp_all
  obtain ⟨rfl, rfl⟩ := trodVars_none hV
  obtain ⟨fuel, hf0⟩ := h0
  obtain ⟨a, n, c, f, hc, hsl⟩ := open_nodes fuel _ _ hf0
  obtain ⟨hand, rfl, rfl, rfl, _⟩ := open_int Tryd.underlying3 (hval 1 3 v1 rfl rfl) h1
  obtain ⟨a', n', c', rfl⟩ := okWide_slice Tryd.underlying22 (hval 0 22 v0 rfl rfl)
  obtain ⟨rfl, rfl, rfl⟩ : a' = a ∧ n' = n ∧ c' = c := by simpa [Value.cells] using hc
  refine (HandsStates_spec f hand (forms_of hL) hsl fun w' he => ?_)
  exact ⟨_, rfl, post_ext laidOut (by rw [Tryd.params3]; intro t ht; simp only [List.mem_cons, List.not_mem_nil, or_false] at ht; rcases ht with rfl | rfl <;> first | exact rec22 | exact rec3) (by kernel_rfl) Tryd.underlying4 rfl hW' rfl he⟩
end Go.Proofs.YtlnpbjhhfffnmaaDoor
namespace Go.Proofs.YtlnpbjhhfffnmaaDoor
open Go Go.Sh Go.RowKit Go.ChangeShapes Go.WideShapes Go.ChangeAt

def litV : DataW Unit → List Value
  | .lit (.int k n) => [.int k n]
  | _ => []
def tabV : DataW Unit → List Value
  | .agg l => l.flatMap litV
  | _ => []
def putG (h : Array Obj) (g : Nat) (cs : List Value) : Array Obj := h.modify g fun
  | .cells _ t frozen => .cells ⟨cs⟩ t frozen
  | o => o
noncomputable def laidWorld (os : Os) : World :=
  { World.holding Tryd.prog os ⟨#[], #[], []⟩ with heap := putG (putG (putG (putG (World.holding Tryd.prog os ⟨#[], #[], []⟩).heap 0 formsCells) 2 (tabV Rows.laid_internal_strconv_uint64pow10)) 3 (tabV Rows.laid_math_bits_deBruijn32tab)) 4 (tabV Rows.laid_math_bits_deBruijn64tab) }
theorem laid_met (os : Os) : laidMet Tryd.prog Rows.handsStatesRow.laid ((laidWorld os).forCall (fun _ _ => 0) ⟨#[], #[.slice none 0 0, .int .i64 0], []⟩).memory :=
  laidMet_of_run' 8 (by kernel_rfl) (by kernel_rfl)
theorem reads (os : Os) {H : Type} (enc : TypeId × Value → H) : ∃ places, DataW.whole enc Tryd.prog ((laidWorld os).forCall (fun _ _ => 0) ⟨#[], #[.slice none 0 0, .int .i64 0], []⟩).memory Tryd.f3.params.toList Rows.handsStatesSpec.vars false #[Value.slice none 0 0, .int .i64 0].toList 8 = some ([.nil, .lit (.int .i64 0)], [], places) :=
  ⟨[], by kernel_rfl⟩

set_option maxRecDepth 100000 in
theorem lifted (os : Os) (started : os.Started) (H : Type) (enc : TypeId × Value → H) (F : Stop.Interp) :
    ReturnsInHanded {} Tryd.checked os 3 .any ((OpenSpec.ofChange Rows.handsStatesSpec).preRow enc Tryd.prog Tryd.f3 Rows.handsStatesRow.domain false Rows.handsStatesRow.laid) (((OpenSpec.ofChange Rows.handsStatesSpec).at F).post enc Tryd.prog Tryd.f3 false true false false) := by
  obtain ⟨places, hx⟩ := reads os enc
  refine returnsInHanded_of_row (C := Tryd.checked) (s := OpenSpec.ofChange Rows.handsStatesSpec) own started (by kernel_rfl) Tryd.func3
    (witness_row_at (enc := enc) (C := Tryd.checked) false (laidWorld os) #[.slice none 0 0, .int .i64 0] rfl (by kernel_rfl) (by kernel_rfl) (by kernel_rfl)
      (OpenSpec.preRow_of_cond 8 hx (by kernel_rfl) (fun k hk => by cases hk) (by kernel_rfl) (laid_met os))) ?_
  intro W base args ds gs before hval hW _ _ _ hL _ _
  exact contract H enc W base args ds gs before hval hW hL

theorem said : Rows.HandsStatesSaid :=
  OpenClaim.holds_of_cond 3 Tryd.f3 rfl rfl rfl rfl rfl rfl rfl ⟨rfl, rfl, rfl, rfl, rfl⟩ rfl rfl rfl rfl rfl (by kernel_rfl) Tryd.func3 (by kernel_rfl)
    (of_decide_eq_true (by kernel_rfl)) (by unfold Func.isWrapper; first | (rw [if_pos (by decide +kernel)]; kernel_rfl) | (rw [if_neg (by decide +kernel)]; exact ⟨rfl, rfl⟩))
    (fun os started H enc _ F => by rw [OpenClaim.pre_eq_preRow]; exact lifted os started H enc F)

theorem plain (f : FuncId) (fn : Func) (hf : Tryd.pinned.checked.prog.funcNamed "apograph/apographlaw11.HandsStates" = some f) (hfn : Tryd.pinned.checked.prog.funcs[f]? = some fn) :
    false = Tryd.pinned.checked.prog.looks [] ∧ ∀ (j : Nat) t, fn.params[j]? = some t → Tryd.pinned.checked.prog.wantsStandIn t = false := by
  obtain rfl : f = 3 := Option.some.inj ((show Tryd.prog.funcNamed "apograph/apographlaw11.HandsStates" = some 3 by kernel_rfl).symm.trans hf) |>.symm
  obtain rfl : fn = Tryd.f3 := (Option.some.inj (Tryd.func3.symm.trans hfn)).symm
  refine ⟨by kernel_rfl, fun j t ht => ?_⟩
  rw [Tryd.params3] at ht
  have hm : t = 22 ∨ t = 3 := by simpa using Array.mem_of_getElem? ht
  rcases hm with rfl | rfl
  · exact (show Tryd.prog.wantsStandIn 22 = false by kernel_rfl)
  · exact (show Tryd.prog.wantsStandIn 3 = false by kernel_rfl)

theorem card : Rows.HandsStatesCardSaid :=
  Claim7.holds_tied_plain_at .later [] _ _ _ _ said (fun _ h => by cases h) (by kernel_rfl) (fun _ h => by cases h) handsStates_row_tie rfl ⟨rfl, rfl⟩ (by kernel_rfl) rfl plain (by kernel_rfl)
end Go.Proofs.YtlnpbjhhfffnmaaDoor
