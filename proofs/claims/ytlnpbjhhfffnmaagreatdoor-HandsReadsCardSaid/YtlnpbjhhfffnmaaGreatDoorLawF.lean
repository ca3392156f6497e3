/- The contracts of the functions that the law reaches, one after the other, and at the end the law's card. -/
import Derived.Test.YtlnpbjhhfffnmaaGreatDoorLawE
namespace Go.Proofs
open Go Go.Sh Go.RowKit

theorem three_one (x y : Int) (t : List UInt8) : ∀ u ∈ [Value.int .i64 x, .int .i64 y, .string ⟨⟨t⟩⟩], u.oneCell' = true := by
  intro u hu; simp only [List.mem_cons, List.not_mem_nil, or_false] at hu; rcases hu with rfl | rfl | rfl <;> rfl
theorem one_row {w : World} {b B : Nat} {e : TypeId} (x : Edit) (h : Blk w b (encE.enc x) e) (hB : B ≤ b) : OwnL encE w B e (some ⟨b, 0, none⟩) 1 1 [x] := by
  have := owns_room (size := 3) (c := 1) h hB (by simp only [maxLen]; omega) rfl
  refine ⟨rfl, .inr ⟨b, 1, ⟨encE.enc x⟩, rfl, hB, h, Nat.le_refl _, by simp only [maxLen]; omega, rfl, ?_⟩⟩
  simp [Enc.row, encE]

set_option maxRecDepth 20000 in
theorem Script03_spec {R : Ending → World → Prop} {w : World} (a b : List UInt8) (ha : a.length ≤ 256) (hb : b.length ≤ 256)
    (h : ∀ oa on oc w', OwnL encE w' w.heap.size 62 oa on oc (trE a b (a.length + b.length) a.length b.length) → Ext w w' → R (.returned (.tuple ⟨[.slice oa on oc, .int .i64 0]⟩)) w') : Calls Tryz.prog F_ref03_Script ⟨[.string ⟨⟨a⟩⟩, .string ⟨⟨b⟩⟩]⟩ w R := by
  apply c_ref03_Script
  intro K3 hK3
  refine br_neg (by omega) (br_neg (by omega) (hK3 _ fun _ => ?_))
  refine bytes_spec a (by omega) fun a1 n1 c1 w1 o1 e1 => ⟨_, _, _, rfl, ?_⟩
  refine bytes_spec b (by omega) fun a2 n2 c2 w2 o2 e2 => ⟨_, _, _, rfl, ?_⟩
  refine table_spec a b ha hb ((OwnL.out o1).ext e2) (OwnL.out o2) fun da dn dc rs w3 hrs hT e3 => ⟨_, _, _, rfl, ?_⟩
  have E3 := ext_trans (ext_trans e1 e2) e3
  have z3 := E3.size
  refine ⟨fun la ln lc i k W' m => ∃ (x y : Nat) (l : List Edit), i = x ∧ k = y ∧ m = x + y ∧ x ≤ a.length ∧ y ≤ b.length ∧ OwnL encE W' w3.heap.size 62 la ln lc l ∧ trE a b (a.length + b.length) a.length b.length = trE a b (x + y) x y ++ l ∧ l.length + x + y ≤ a.length + b.length ∧ Ext w3 W',
    ⟨_, a.length, b.length, [], rfl, rfl, rfl, Nat.le_refl _, Nat.le_refl _, Owns.nil _ _ _ _, by simp, by simp, Below.refl _ _⟩, ?_⟩
  rintro la ln lc _ _ W m ⟨x, y, l, rfl, rfl, rfl, hx, hy, ho, htr, hll, hW⟩ _
  have hol := ho.length
  intro K21 hK21
  have k21 : ¬ (x = 0 ∧ y = 0) → K21 W := by
    intro h0
    have hun : trE a b (x + y) x y = trE a b (x + y - 1 + 1) x y := tr_fuel a b _ _ x y (by omega) (by omega)
    rw [trE, if_neg h0] at hun
    refine hK21 _ fun _ => al_intro fun bx w4 hbx Bx e4 s4 => ?_
    have zW := hW.size
    have lbx := Bx.lt
    intro K25 hK25
    have wx : ∀ z : Nat, 0 < z → z ≤ 256 → IntKind.i64.wrap ((z : Int) - 1) = ((z - 1 : Nat) : Int) := fun z h h2 => wrap_pred h (by omega)
    have X4 := ext_trans hW e4
    have read : ∀ (W2 : World), Ext w4 W2 → ∀ {i k : Nat} {K : Int → Prop} {i' k' : Int}, i' = (i : Int) → k' = (k : Int) → i ≤ a.length → k ≤ b.length → K (eqE a b i k) →
        idx da dn i' 1 fun p => ∃ (x : Option Addr) (xn xc : Nat), W2.cell? p = some (.slice x xn xc) ∧ idx x xn k' 1 fun q => ∃ v : Int, W2.cell? q = some (.int .i64 v) ∧ K v :=
      fun W2 hx i k K i' k' ei ek hi hk hK => (hT.ext (ext_trans X4 hx)).val (i := i) (k := k) (by omega) (by omega) hK ei ek
    have bnd := ed_le (eqB a b)
    have i1 : ∀ z : Nat, 0 < z → ((z - 1 : Nat) : Int) + 1 = (z : Int) := fun z hz => by omega
    -- an edit goes in ahead
    have add : ∀ (W2 : World) (e : Edit) (x' y' : Nat) (i' k' : Int), Ext w4 W2 → i' = x' → k' = y' → x' ≤ x → y' ≤ y → x' + y' < x + y → trE a b (x + y) x y = trE a b (x' + y') x' y' ++ [e] →
        stL W2 ⟨bx, 0, none⟩ 0 [.int .i64 e.at_, .int .i64 e.len, .string ⟨⟨e.text⟩⟩] fun w5 => K25 i' k' w5 := by
      intro W2 e x' y' i' k' hx2 hi' hk' hx' hy' hlt hte
      subst hi' hk'
      refine stL_blk (Bx.ext hx2) (by simp) (three_one _ _ _) fun w5 b1 b2 b3 b4 b5 b6 => ?_
      have hc : Chg (fun k => k = bx) W2 w5 := ⟨b4, b5, b6, by omega, fun k' _ hk => b2 k' hk⟩
      have hB5 : Blk w5 bx [.int .i64 e.at_, .int .i64 e.len, .string ⟨⟨e.text⟩⟩] 62 := b1
      have z2 := hx2.size
      have E5 : Ext w3 w5 := ext_chgS (ext_trans X4 hx2) hc fun j hj => by omega
      have o5 : OwnL encE w5 w3.heap.size 62 la ln lc l := (Owns.ext ho (ext_trans e4 hx2)).chg hc fun j hj he => by have := (ho.bk hj).2; omega
      refine hK25 _ _ _ fun _ => ⟨_, by rw [add_none, hB5.cell]; rfl, _, by rw [add_none, hB5.cell]; rfl, _, by rw [add_none, hB5.cell]; rfl, ?_⟩
      refine al_intro fun by' w6 hby By e6 s6 => ?_
      have z5 := E5.size
      refine OwnL.pushAll (E := encE) (P := Tryz.prog) (bytes := 32) (z := .agg #[.int .i64 0, .int .i64 0, .string ⟨⟨[]⟩⟩]) slT_edit (one_row e By (B := w3.heap.size) (by omega)) (by have := e6.size; omega) (OwnL.out (Owns.ext o5 e6)) (by omega) (by omega) fun a7 c7 w7 o7 ch7 n7 => ⟨x' + y', hlt, x', y', [e] ++ l, rfl, rfl, rfl, by omega, by omega, ?_, ?_, by simp; omega, ext_chgS (ext_trans E5 e6) ch7 fun j hj => by simp [bk] at hj; omega⟩
      · exact o7
      · rw [htr, hte]; simp
    intro K37 hK37
    have k37 : ∀ W2 g, Ext w4 W2 → g = decide (0 < x ∧ 0 < y ∧ eqB a b (x - 1) (y - 1) = true ∧ eqE a b x y = eqE a b (x - 1) (y - 1)) → K37 g W2 := by
      rintro W2 _ hx2 rfl
      refine hK37 _ _ fun _ => br_split (fun g => ?_) (fun g => ?_)
      · rw [if_pos g] at hun
        refine ⟨x - 1 + (y - 1), by omega, x - 1, y - 1, l, wx x g.1 (by omega), wx y g.2.1 (by omega), rfl, by omega, by omega, Owns.ext ho (ext_trans e4 hx2), ?_, by omega, ext_trans X4 hx2⟩
        rw [htr, hun, tr_fuel a b (x + y - 1) (x - 1 + (y - 1)) _ _ (by omega) (by omega)]
      rw [if_neg g] at hun
      intro K41 hK41
      have k41 : ∀ W3 g, Ext w4 W3 → g = decide (0 < x ∧ 0 < y ∧ eqE a b x y = eqE a b (x - 1) (y - 1) + 1) → K41 g W3 := by
        rintro W3 _ hx3 rfl
        refine hK41 _ _ fun _ => br_split (fun g2 => ?_) (fun g2 => ?_)
        · rw [if_pos g2] at hun
          rw [wx x g2.1 (by omega), wx y g2.2.1 (by omega), i1 y g2.2.1, wrap_id (by omega)]
          refine ssl_nat (by omega) (by omega) ?_
          have := add W3 ⟨(x : Int) - 1, 1, (b.take y).drop (y - 1)⟩ (x - 1) (y - 1) ((x - 1 : Nat) : Int) ((y - 1 : Nat) : Int) hx3 rfl rfl (by omega) (by omega) (by omega) (by rw [hun, tr_fuel a b (x + y - 1) (x - 1 + (y - 1)) _ _ (by omega) (by omega)])
          rw [show (x : Int) - 1 = ((x - 1 : Nat) : Int) by omega] at this
          exact this
        rw [if_neg g2] at hun
        intro K46 hK46
        have k46 : ∀ W4 g, Ext w4 W4 → g = decide (0 < x ∧ eqE a b x y = eqE a b (x - 1) y + 1) → K46 g W4 := by
          rintro W4 _ hx4 rfl
          refine hK46 _ _ fun _ => br_split (fun g3 => ?_) (fun g3 => ?_)
          · rw [if_pos g3] at hun
            rw [wx x g3.1 (by omega)]
            have := add W4 ⟨(x : Int) - 1, 1, []⟩ (x - 1) y ((x - 1 : Nat) : Int) (y : Int) hx4 rfl rfl (by omega) (by omega) (by omega) (by rw [hun, tr_fuel a b (x + y - 1) (x - 1 + y) _ _ (by omega) (by omega)])
            rw [show (x : Int) - 1 = ((x - 1 : Nat) : Int) by omega] at this
            exact this
          · rw [if_neg g3] at hun
            have h4 := tr_last a b x y h0 g g2 g3
            rw [wx y h4.1 (by omega), i1 y h4.1, wrap_id (by omega)]
            refine ssl_nat (by omega) (by omega) ?_
            exact add W4 ⟨x, 0, (b.take y).drop (y - 1)⟩ x (y - 1) (x : Int) ((y - 1 : Nat) : Int) hx4 rfl rfl (by omega) (by omega) (by omega) (by rw [hun, tr_fuel a b (x + y - 1) (x + (y - 1)) _ _ (by omega) (by omega)])
        unfold drw
        have hd := ext_trans hx3 (ext_drew W3)
        refine br_split (fun p1 => ?_) (fun p1 => k46 _ _ hd (by rw [Bool.eq_iff_iff]; simp; omega))
        refine read _ hd (i := x) (k := y) rfl rfl (by omega) (by omega) (read _ hd (i := x - 1) (k := y) (wx x (by omega) (by omega)) rfl (by omega) (by omega) (k46 _ _ hd ?_))
        have := bnd (x - 1) y
        rw [decide_eq_decide, wrap_id (by unfold eqE; omega)]; omega
      unfold drw
      have hd := ext_trans hx2 (ext_drew W2)
      refine br_split (fun p1 => br_split (fun p2 => ?_) (fun p2 => k41 _ _ hd (by rw [Bool.eq_iff_iff]; simp; omega))) (fun p1 => k41 _ _ hd (by rw [Bool.eq_iff_iff]; simp; omega))
      refine read _ hd (i := x) (k := y) rfl rfl (by omega) (by omega) (read _ hd (i := x - 1) (k := y - 1) (wx x (by omega) (by omega)) (wx y (by omega) (by omega)) (by omega) (by omega) (k41 _ _ hd ?_))
      have := bnd (x - 1) (y - 1)
      rw [decide_eq_decide, wrap_id (by unfold eqE; omega)]; omega
    unfold drw
    have hd := ext_drew w4
    refine br_split (fun p1 => br_split (fun p2 => ?_) (fun p2 => k37 _ _ hd (by rw [Bool.eq_iff_iff]; simp; omega))) (fun p1 => k37 _ _ hd (by rw [Bool.eq_iff_iff]; simp; omega))
    have hxa : x - 1 < a.length := by omega
    have hyb : y - 1 < b.length := by omega
    rw [wx x (by omega) (by omega), wx y (by omega) (by omega)]
    refine sidx_nat hxa (sidx_nat hyb ?_)
    rw [eqB_dec a b hxa hyb]
    refine br_cases (fun g => ?_) (fun g => k37 _ _ hd (by rw [Bool.eq_iff_iff]; simp [g]))
    refine read _ hd (i := x) (k := y) rfl rfl (by omega) (by omega) (read _ hd (i := x - 1) (k := y - 1) rfl rfl (by omega) (by omega) (k37 _ _ hd ?_))
    rw [decide_eq_decide]
    constructor
    · intro e; exact ⟨by omega, by omega, g, by omega⟩
    · intro e; omega
  refine br_split (fun p1 => k21 (by omega)) (fun p1 => br_split (fun p2 => k21 (by omega)) (fun p2 => ?_))
  obtain rfl : x = 0 := by omega
  obtain rfl : y = 0 := by omega
  refine h _ _ _ _ ?_ (ext_trans E3 hW)
  rw [htr]
  simp only [trE, List.nil_append]
  refine ⟨ho.1, ho.2.imp id ?_⟩
  rintro ⟨g, cap, cur, p1, p2, p3⟩
  exact ⟨g, cap, cur, p1, by omega, p3⟩

theorem get_edit' {S : Nat → Prop} {w : World} {a : Option Addr} {n : Nat} {l : List Edit} (h : RowAt encE S w a n l) {i : Nat} {x : Edit} (hi : l[i]? = some x) {K : Addr → Prop}
    (hK : ∀ p : Addr, w.cell? (p.add 0) = some (.int .i64 x.at_) → w.cell? (p.add 1) = some (.int .i64 x.len) → w.cell? (p.add 2) = some (.string ⟨⟨x.text⟩⟩) → K p) : idx a n (i : Int) 3 K := by
  obtain ⟨b, o, hidx, _, _, hc⟩ := h.get hi
  refine hidx K (hK _ ?_ ?_ ?_) <;> rw [add_none]
  · exact hc 0 _ rfl
  · exact hc 1 _ rfl
  · exact hc 2 _ rfl
/- two equal lists -/
theorem SameEdits_spec {R : Ending → World → Prop} {S S' : Nat → Prop} {w : World} {a b : Option Addr} {n c n' c' : Nat} (l : List Edit) (hl : l.length ≤ 4611686018427387904) (h1 : RowAt encE S w a n l) (h2 : RowAt encE S' w b n' l)
    (h : ∀ w', Ext w w' → R (.returned (.bool true)) w') : Calls Tryz.prog F_ref03_SameEdits ⟨[.slice a n c, .slice b n' c']⟩ w R := by
  apply c_ref03_SameEdits
  have e1 := h1.1
  have e2 := h2.1
  refine br_neg (by omega) ?_
  refine ⟨fun i W m => ∃ k : Nat, i = k ∧ k ≤ l.length ∧ m = l.length - k ∧ Ext w W, ⟨_, 0, rfl, by omega, rfl, Below.refl _ _⟩, ?_⟩
  rintro _ W m ⟨k, rfl, hk, rfl, he⟩ _
  refine br_split (fun hlt => ?_) (fun hge => h _ he)
  have hd := ext_trans he (ext_drew W)
  unfold drw
  have hx : l[k]? = some l[k] := List.getElem?_eq_getElem (by omega)
  refine get_edit' (h1.ext hd) hx fun p p0 p1 p2 => ⟨_, p0, _, p1, _, p2, get_edit' (h2.ext hd) hx fun q q0 q1 q2 => ⟨_, q0, _, q1, _, q2, ?_⟩⟩
  rw [show (!(decide (l[k].at_ = l[k].at_) && (decide (l[k].len = l[k].len) && (decide (l[k].text = l[k].text) && true)))) = false by simp]
  exact ⟨l.length - (k + 1), by omega, k + 1, wrap_nat (by omega), by omega, rfl, hd⟩
end Go.Proofs
namespace Go.Proofs
open Go Go.Sh Go.RowKit

theorem Changes11_spec {R : Ending → World → Prop} {S : Nat → Prop} {w : World} {a : Option Addr} {n c : Nat} (f : Fo) (hand : Int) (hfi : FineF f) (h1 : 1 ≤ hand) (h8 : hand ≤ 8) (hf : SlF S w a n f)
    (h : ∀ oa on oc w', OwnL encE w' w.heap.size 62 oa on oc (scrF (charsF (stF f (hand - 1))) (charsF (stF f hand))) → Ext w w' → R (.returned (.tuple ⟨[.slice oa on oc, .int .i64 0]⟩)) w') : Calls Tryz.prog F_ref11_Changes ⟨[.slice a n c, .int .i64 hand]⟩ w R := by
  apply c_ref11_Changes
  obtain ⟨f1, l1⟩ := stF_chars hfi (hand - 1)
  obtain ⟨f2, l2⟩ := stF_chars hfi hand
  unfold sh_ref11_Changes
  rw [wrap_id (show -9223372036854775808 ≤ hand - 1 ∧ hand - 1 ≤ 9223372036854775807 by omega)]
  refine check11_spec f hand 1 hf fun w1 e1 => ⟨_, rfl, ?_⟩
  rw [if_neg (by rw [hfi.check]; simp), if_neg (by omega)]
  refine br_neg (by simp) ?_
  refine State11_spec f (hand - 1) (hf.ext e1) fun a2 n2 c2 w2 h2 e2 => ⟨_, _, _, _, rfl, ?_⟩
  rw [resS_st hfi.check (by omega) (by omega)] at h2
  have E2 := ext_trans e1 e2
  refine State11_spec f hand (hf.ext E2) fun a3 n3 c3 w3 h3 e3 => ⟨_, _, _, _, rfl, ?_⟩
  rw [resS_st hfi.check (by omega) (by omega)] at h3
  have E3 := ext_trans E2 e3
  refine Characters10_spec _ (h2.ext e3) fun w4 e4 => ⟨_, _, rfl, ?_⟩
  rw [f1.check]
  simp only [ne_eq, not_true, if_false]
  refine br_neg (by simp) ?_
  have E4 := ext_trans E3 e4
  refine Characters10_spec _ (h3.ext e4) fun w5 e5 => ⟨_, _, rfl, ?_⟩
  rw [f2.check]
  simp only [ne_eq, not_true, if_false]
  refine br_neg (by simp) ?_
  have E5 := ext_trans E4 e5
  have z5 := E5.size
  refine Script03_spec _ _ (by omega) (by omega) fun oa on oc w6 o6 e6 => ⟨_, _, _, _, rfl, h _ _ _ _ ?_ (ext_trans E5 e6)⟩
  refine ⟨o6.1, o6.2.imp id ?_⟩
  rintro ⟨g, cap, cur, p1, p2, p3⟩
  exact ⟨g, cap, cur, p1, by omega, p3⟩
theorem Changes11_bad {R : Ending → World → Prop} {S : Nat → Prop} {w : World} {a : Option Addr} {n c : Nat} (f : Fo) (hand : Int) (hf : SlF S w a n f) (he : errT f hand ≠ 0)
    (h : ∀ w', Ext w w' → R (.returned (.tuple ⟨[.slice none 0 0, .int .i64 (errT f hand)]⟩)) w') : Calls Tryz.prog F_ref11_Changes ⟨[.slice a n c, .int .i64 hand]⟩ w R := by
  apply c_ref11_Changes
  refine check11_spec f hand 1 hf fun w1 e1 => ⟨_, rfl, ?_⟩
  show br (decide (errT f hand ≠ 0)) (R (.returned (.tuple ⟨[.slice none 0 0, .int .i64 (errT f hand)]⟩)) w1) _
  exact br_pos he (h _ e1)

theorem br_same_b {b : Bool} {A B : Prop} (h : A) : br (decide (b = b)) A B := br_pos rfl h
theorem br_same_i {b : Int} {A B : Prop} (h : A) : br (decide (b = b)) A B := br_pos rfl h
set_option maxRecDepth 20000 in
theorem HandsReads_spec {R : Ending → World → Prop} {S : Nat → Prop} {w : World} {a : Option Addr} {n c : Nat} (f : Fo) (hand : Int) (hF : Forms w) (hf : SlF S w a n f) (h : ∀ w', Ext w w' → R (.returned (.bool true)) w') :
    Calls Tryz.prog F_law11_HandsReads ⟨[.slice a n c, .int .i64 hand]⟩ w R := by
  apply c_law11_HandsReads
  refine Great_spec hf fun w1 e1 => ⟨_, rfl, br_cases (fun g => ?_) (fun g => ?_)⟩
  · exact awake_spec (hF.ext e1) fun w2 e2 => ⟨_, rfl, h _ (ext_trans e1 e2)⟩
  have hsz := (great_small g).1
  have hs : small f := by unfold small; omega
  have hfin : checkT f = 0 → FineF f := fun hc => fine_of g hc
  refine Count_spec f hs (hF.ext e1) (hf.ext e1) fun w2 e2 => ⟨_, _, rfl, ?_⟩
  have E2 := ext_trans e1 e2
  refine Count11_spec f (hf.ext E2) fun w3 e3 => ⟨_, _, rfl, ?_⟩
  have E3 := ext_trans E2 e3
  refine Clean_spec f hs (hF.ext E3) (hf.ext E3) fun w4 e4 => ⟨_, _, rfl, ?_⟩
  have E4 := ext_trans E3 e4
  refine Clean11_spec f hfin (hf.ext E4) fun w5 e5 => ⟨_, _, rfl, ?_⟩
  have E5 := ext_trans E4 e5
  -- Hands
  have hands : ∀ {R' : Ending → World → Prop}, (∀ a' n' c' w', Owns w' w5.heap.size 3 1 a' n' c' (intV (if checkT f ≠ 0 then [] else handsTo f 8)) → Ext w5 w' → R' (.returned (.tuple ⟨[.slice a' n' c', .int .i64 (if checkT f ≠ 0 then 1 else 0)]⟩)) w') → Calls Tryz.prog F_hands_Hands ⟨[.slice a n c]⟩ w5 R' := by
    intro R' hR
    by_cases hc : checkT f ≠ 0
    · rw [if_pos hc, if_pos hc] at hR
      exact HandsL_bad f hs (hF.ext E5) (hf.ext E5) hc fun w' he => hR none 0 0 w' (Owns.nil _ _ _ _) he
    · rw [if_neg hc, if_neg hc] at hR
      have hfi := hfin (Decidable.not_not.1 hc)
      have hm := hfi.most
      obtain ⟨most, hmost⟩ : ∃ most : Nat, mostN (nodesF f) = most := ⟨(mostN (nodesF f)).toNat, by omega⟩
      have eq8 := handsTo_most most hmost (8 - most)
      rw [show most + (8 - most) = 8 by omega] at eq8
      refine HandsL_spec f most hmost (by omega) hs (hF.ext E5) (hf.ext E5) hfi.check fun a7 n7 c7 w7 h7 e7 => hR _ _ _ _ ?_ e7
      rw [eq8]; exact h7
  refine hands fun a6 n6 c6 w6 h6 e6 => ⟨_, _, _, _, rfl, ?_⟩
  have E6 := ext_trans E5 e6
  refine Hands11_spec f (by omega) (hf.ext E6) fun a7 n7 c7 w7 h7 e7 => ⟨_, _, _, _, rfl, ?_⟩
  have E7 := ext_trans E6 e7
  refine Touches_spec f hand hs (hF.ext E7) (hf.ext E7) fun w8 e8 => ⟨_, _, rfl, ?_⟩
  have E8 := ext_trans E7 e8
  refine Touches11_spec f hand (hf.ext E8) fun w9 e9 => ⟨_, _, rfl, ?_⟩
  have E9 := ext_trans E8 e9
  -- Changes
  obtain ⟨L, hL⟩ : ∃ L : List Edit, L = if errT f hand ≠ 0 then [] else scrF (charsF (stF f (hand - 1))) (charsF (stF f hand)) := ⟨_, rfl⟩
  have hLl : L.length ≤ 1000 := by
    rw [hL]
    split
    · simp
    · rename_i g0
      obtain ⟨hc, h1, h8⟩ := errT_zero (Decidable.not_not.1 g0)
      have l1 := (stF_chars (hfin hc) (hand - 1)).2
      have l2 := (stF_chars (hfin hc) hand).2
      unfold scrF
      rw [tr_len _ _ _ _ _ (Nat.le_refl _)]
      have := ed_le (eqB (charsF (stF f (hand - 1))) (charsF (stF f hand))) (charsF (stF f (hand - 1))).length (charsF (stF f hand)).length
      unfold eqE; omega
  have chg : ∀ {R' : Ending → World → Prop}, (∀ oa on oc w', OwnL encE w' w9.heap.size 62 oa on oc L → Ext w9 w' → R' (.returned (.tuple ⟨[.slice oa on oc, .int .i64 (errT f hand)]⟩)) w') → Calls Tryz.prog F_hands_Changes ⟨[.slice a n c, .int .i64 hand]⟩ w9 R' := by
    intro R' hR
    by_cases he : errT f hand ≠ 0
    · rw [if_pos he] at hL
      subst hL
      exact Changes_bad f hand hs (hF.ext E9) (hf.ext E9) he fun w' hx => hR none 0 0 w' (Owns.nil _ _ _ _) hx
    · rw [if_neg he] at hL
      have h0 := Decidable.not_not.1 he
      obtain ⟨hc, h1, h8⟩ := errT_zero h0
      subst hL
      refine Changes_spec f hand (hfin hc) h1 h8 (hF.ext E9) (hf.ext E9) fun oa on oc w' o' e' => ?_
      have := hR oa on oc w' o' e'
      rw [h0] at this; exact this
  refine chg fun a10 n10 c10 w10 o10 e10 => ⟨_, _, _, _, rfl, ?_⟩
  have E10 := ext_trans E9 e10
  have chg' : ∀ {R' : Ending → World → Prop}, (∀ oa on oc w', OwnL encE w' w10.heap.size 62 oa on oc L → Ext w10 w' → R' (.returned (.tuple ⟨[.slice oa on oc, .int .i64 (errT f hand)]⟩)) w') → Calls Tryz.prog F_ref11_Changes ⟨[.slice a n c, .int .i64 hand]⟩ w10 R' := by
    intro R' hR
    by_cases he : errT f hand ≠ 0
    · rw [if_pos he] at hL
      subst hL
      exact Changes11_bad f hand (hf.ext E10) he fun w' hx => hR none 0 0 w' (Owns.nil _ _ _ _) hx
    · rw [if_neg he] at hL
      have h0 := Decidable.not_not.1 he
      obtain ⟨hc, h1, h8⟩ := errT_zero h0
      subst hL
      refine Changes11_spec f hand (hfin hc) h1 h8 (hf.ext E10) fun oa on oc w' o' e' => ?_
      have := hR oa on oc w' o' e'
      rw [h0] at this; exact this
  refine chg' fun a11 n11 c11 w11 o11 e11 => ⟨_, _, _, _, rfl, ?_⟩
  have E11 := ext_trans E10 e11
  refine br_same_i (br_same_i (br_same_b (br_same_i ?_)))
  have o6 := ((((h6.ext e7).ext e8).ext e9).ext e10).ext e11
  have o7 := (((h7.ext e8).ext e9).ext e10).ext e11
  have hn6 : n6 ≤ 4611686018427387904 := by
    have := h6.1
    rw [Nat.mul_one] at this
    rw [← this, List.length_map]
    split
    · simp
    · have := handsTo_len f 8; omega
  refine EqualI_spec o6 o7 hn6 fun w12 e12 => ⟨_, rfl, ?_⟩
  rw [decide_eq_true rfl]
  simp only [br_t]
  refine br_pos (by trivial) (br_pos (by trivial) (br_pos (by trivial) ?_))
  refine SameEdits_spec L (by omega) (OwnL.out ((Owns.ext o10 e11).ext e12)) (OwnL.out (Owns.ext o11 e12)) fun w13 e13 => ⟨_, rfl, ?_⟩
  simp only [br_t]
  refine br_pos (by trivial) ?_
  have E13 := ext_trans (ext_trans E11 e12) e13
  exact awake_spec (hF.ext E13) fun w14 e14 => ⟨_, rfl, h _ (ext_trans E13 e14)⟩
end Go.Proofs
