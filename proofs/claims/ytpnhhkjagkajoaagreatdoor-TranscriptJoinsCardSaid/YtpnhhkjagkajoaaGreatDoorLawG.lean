/- The contracts of the functions that the law reaches, one after the other, and at the end the law's card. -/
import Derived.Test.YtpnhhkjagkajoaaGreatDoorLawF
namespace Go.Proofs
open Go Go.Sh Go.RowKit

theorem slA_zero (b c s : Nat) : slA (some ⟨b, 0, none⟩) c 0 s = some ⟨b, 0, none⟩ := by
  unfold slA; split <;> simp [Addr.add]
theorem GrowN_spec {R : Ending → World → Prop} {w : World} {S : Nat → Prop} (k : Nat) (hk : k ≤ 1000000000000) (h : ∀ a c w', OwnF 35 S w.heap.size w' a 0 c .nil → Ext w w' → R (.returned (.slice a 0 c)) w') :
    Calls Tryz.prog F_slices_Grow_of_api_Node_api_Node ⟨[.slice none 0 0, .int .i64 (k : Int)]⟩ w R := by
  apply c_slices_Grow_of_api_Node_api_Node
  intro K3 hK3
  have k3 : K3 w := by
    refine hK3 _ fun _ => ?_
    have e0 : IntKind.i64.wrap ((k : Int) - IntKind.i64.wrap (((0 : Nat) : Int) - ((0 : Nat) : Int))) = (k : Int) := by
      rw [wrap_id (n := ((0 : Nat) : Int) - ((0 : Nat) : Int)) (by omega), wrap_id (by omega)]; omega
    rw [e0]
    refine br_split (fun g => ?_) (fun g => h none 0 w (OwnF.nil _) (Below.refl _ _))
    refine ⟨by simp, by simp, by simp, ?_⟩
    show app Tryz.prog [24, 3] 24 (.slice none 0 0) (.int .i64 (k : Int)) w _
    refine grow_nilM slT_node (by kernel_rfl) (Nat.le_refl _) k (by omega) (by omega) (by omega) fun c w' ho he => ?_
    refine ⟨by simp, by simp, by simp, ?_⟩
    show R (.returned (.slice (slA (some ⟨w.heap.size, 0, none⟩) c 0 4) 0 c)) w'
    rw [slA_zero]
    exact h _ c w' ⟨rfl, [], ho, rfl⟩ he
  exact br_split (fun hh => absurd hh (by omega)) (fun _ => k3)

def encSl : Enc (Option Addr × Nat × Nat) := ⟨fun x => [.slice x.1 x.2.1 x.2.2], 1, fun _ => rfl, by decide, by intro x v hv; simp only [List.mem_singleton] at hv; subst hv; rfl⟩
def catF : List Fo → Fo
  | [] => .nil
  | g :: gs => g.app (catF gs)
theorem catF_snoc : ∀ (gs : List Fo) (g : Fo), catF (gs ++ [g]) = (catF gs).app g
  | [], g => by simp [catF]
  | x :: gs, g => by simp only [List.cons_append, catF, catF_snoc gs, Fo.app_assoc]
theorem catF_take {gs : List Fo} {k : Nat} {g : Fo} (h : gs[k]? = some g) : catF (gs.take (k + 1)) = (catF (gs.take k)).app g := by
  rw [List.take_add_one, h]; exact catF_snoc _ _
theorem catF_len : ∀ (gs : List Fo) (k : Nat), (catF (gs.take k)).len ≤ (catF gs).len
  | [], k => by simp [catF]
  | g :: gs, 0 => by simp [catF]
  | g :: gs, k + 1 => by
    have := catF_len gs k
    simp only [List.take_succ_cons, catF, Fo.len_app]; omega

set_option maxRecDepth 20000 in
theorem ConcatN_spec {R : Ending → World → Prop} {w : World} {S S' : Nat → Prop} {sa : Option Addr} {sn sc : Nat} (xs : List (Option Addr × Nat × Nat)) (gs : List Fo) (hx : RowAt encSl S' w sa sn xs) (hl : xs.length = gs.length) (hn : gs.length ≤ 1000)
    (hg : ∀ (i : Nat) (x : Option Addr × Nat × Nat) (g : Fo), xs[i]? = some x → gs[i]? = some g → SlF S w x.1 x.2.1 g) (hsum : (catF gs).len ≤ 1000000000000)
    (h : ∀ a n c w', OwnF 35 (fun k => S k ∧ k < w.heap.size) w.heap.size w' a n c (catF gs) → Ext w w' → R (.returned (.slice a n c)) w') :
    Calls Tryz.prog F_slices_Concat_of_api_Node_api_Node ⟨[.slice sa sn sc]⟩ w R := by
  apply c_slices_Concat_of_api_Node_api_Node
  have hn0 := hx.1
  refine ⟨fun sz i W m => ∃ k : Nat, i = k ∧ k ≤ sn ∧ m = sn - k ∧ sz = (catF (gs.take k)).len ∧ W = w, ⟨_, 0, rfl, by omega, rfl, rfl, rfl⟩, ?_⟩
  rintro _ _ W m ⟨k, rfl, hk, rfl, rfl, rfl⟩ _
  refine br_split (fun g => ?_) (fun g => ?_)
  · have hkx : k < xs.length := by omega
    have hxk : xs[k]? = some xs[k] := by simp [hkx]
    have hgk : gs[k]? = some (gs[k]'(by omega)) := by simp
    obtain ⟨b, o, hq, _, _, hc⟩ := hx.get hxk
    have hsl := (hg k _ _ hxk hgk).1
    have ht := catF_take hgk
    have hle := catF_len gs (k + 1)
    rw [ht, Fo.len_app] at hle
    refine hq _ ⟨_, _, _, hc 0 _ rfl, ?_⟩
    have e0 : IntKind.i64.wrap ((((catF (gs.take k)).len : Nat) : Int) + ((xs[k].2.1 : Nat) : Int)) = (((catF (gs.take (k + 1))).len : Nat) : Int) := by
      rw [ht, Fo.len_app, ← hsl, wrap_id (by omega)]; omega
    rw [e0]
    refine br_split (fun hh => absurd hh (by omega)) (fun _ => ⟨sn - (k + 1), by omega, k + 1, by rw [wrap_nat (by omega)], by omega, rfl, rfl, rfl⟩)
  · have : k = sn := by omega
    subst this
    rw [List.take_of_length_le (by omega)]
    refine GrowN_spec (S := fun k => S k ∧ k < W.heap.size) (catF gs).len hsum fun a c w12 ho e12 => ⟨_, _, _, rfl, ?_⟩
    have z12 := e12.size
    refine ⟨fun oa on oc i W2 m => ∃ k2 : Nat, i = k2 ∧ k2 ≤ k ∧ m = k - k2 ∧ OwnF 35 (fun k => S k ∧ k < W.heap.size) W.heap.size W2 oa on oc (catF (gs.take k2)) ∧ Ext W W2, ⟨_, 0, rfl, by omega, rfl, ho, e12⟩, ?_⟩
    rintro oa on oc _ W2 m ⟨k2, rfl, hk2, rfl, ho2, he2⟩ _
    refine br_split (fun g2 => ?_) (fun g2 => ?_)
    · have hkx : k2 < xs.length := by omega
      have hxk : xs[k2]? = some xs[k2] := by simp [hkx]
      have hgk : gs[k2]? = some (gs[k2]'(by omega)) := by simp
      obtain ⟨b, o, hq, _, _, hc⟩ := (hx.ext he2).get hxk
      have hsl := (hg k2 _ _ hxk hgk)
      have hsl1 := hsl.1
      have ht := catF_take hgk
      have hle := catF_len gs (k2 + 1)
      rw [ht, Fo.len_app] at hle
      have hol := ho2.len
      have z2 := he2.size
      refine hq _ ⟨_, _, _, hc 0 _ rfl, ?_⟩
      refine OwnF.pushAll slT_node ho2 z2 (g := gs[k2]) ((hsl.imp fun j hj hlj => ⟨hj, hlj⟩).keep (S := fun j => S j ∧ j < W.heap.size) (fun j hj _ => ⟨⟨.inl hj, fun hb => by have := (ho2.bk hb).1; omega⟩, he2.block j hj.2⟩) z2) (by omega) (by omega) fun a'' n'' c'' w' ho' hc' => ?_
      refine ⟨k - (k2 + 1), by omega, k2 + 1, by rw [wrap_nat (by omega)], by omega, rfl, by rw [ht]; exact ho', ext_chgS he2 hc' fun j hj => (ho2.bk hj).1⟩
    · have : k2 = k := by omega
      subst this
      rw [List.take_of_length_le (by omega)] at ho2
      exact h _ _ _ _ ho2 he2
end Go.Proofs
namespace Go.Proofs
open Go Go.Sh Go.RowKit

variable {R : Ending → World → Prop} {w : World}
theorem slT_ints : SlT Tryz.prog 53 3 1 8 (.int .i64 0) := ⟨by kernel_rfl, by kernel_rfl, rfl, by decide⟩
theorem slT_strs : SlT Tryz.prog 52 9 1 16 (.string ⟨#[]⟩) := ⟨by kernel_rfl, by kernel_rfl, rfl, by decide⟩
theorem get_int {S : Nat → Prop} {w : World} {a : Option Addr} {n : Nat} {L : List Int} (h : RowAt encI S w a n L) {k : Nat} (hk : k < L.length) :
    ∃ q : Addr, (∀ K : Addr → Prop, K q → idx a n (k : Int) 1 K) ∧ w.cell? q = some (.int .i64 L[k]) := by
  obtain ⟨bb, o, hq, _, _, hc⟩ := h.get (i := k) (x := L[k]) (List.getElem?_eq_getElem hk)
  exact ⟨⟨bb, o, none⟩, hq, by have := hc 0 _ rfl; rwa [Nat.add_zero] at this⟩
set_option maxRecDepth 20000 in
theorem TranscriptJoins_spec {S S' : Nat → Prop} {a b : Option Addr} {n n' c c' : Nat} (f g : Fo) (kd : Int) (hkd : 0 ≤ kd ∧ kd < 256) (hF : Forms w) (hM : Mk w) (hf : SlF S w a n f) (hg : SlF S' w b n' g) (h : ∀ w', Ext w w' → R (.returned (.bool true)) w') :
    Calls Tryz.prog F_law10_TranscriptJoins ⟨[.slice a n c, .slice b n' c', .int .u8 kd]⟩ w R := by
  apply c_law10_TranscriptJoins
  have aw : ∀ v, Ext w v → Calls Tryz.prog F_law10_awake ⟨[]⟩ v (fun e w' => ∃ x : Bool, e = .returned (.bool x) ∧ R (.returned (.bool x)) w') := fun v ev => awakeT_spec (hF.ext ev) (hM.ext ev) fun v' e' => ⟨_, rfl, h v' (ext_trans ev e')⟩
  intro K4 hK4
  have k4 : fineB f = true → fineB g = true → ∀ v, Ext w v → K4 v := by
    intro gf gg v ev
    refine hK4 _ fun _ => ?_
    obtain ⟨cf, sf, _⟩ := fine_facts gf
    obtain ⟨cg, sg, _⟩ := fine_facts gg
    have lf := f.len_le_size
    have lg := g.len_le_size
    refine al_intro fun b6 w7 hb6 B6 e7 s7 => ?_
    have E7 := ext_trans ev e7
    have hx : RowAt encSl (fun _ => True) w7 (some ⟨b6, 0, none⟩) 2 [(a, n, c), (b, n', c')] := ⟨rfl, .inr ⟨b6, 0, rfl, trivial, B6.lt, fun j v hj => by rw [Nat.zero_add, B6.cell]; exact hj⟩⟩
    have hf7 : SlF (fun _ => True) w7 a n f := (hf.ext E7).imp fun _ _ _ => trivial
    have hg7 : SlF (fun _ => True) w7 b n' g := (hg.ext E7).imp fun _ _ _ => trivial
    refine ConcatN_spec [(a, n, c), (b, n', c')] [f, g] hx rfl (by simp) (S := fun _ => True) (fun i x y hx hy => ?_) (by simp [catF]; omega) fun xa xn xc w9 hO e9 => ⟨_, _, _, rfl, ?_⟩
    · match i with
      | 0 => obtain rfl := Option.some.inj hx; obtain rfl := Option.some.inj hy; exact hf7
      | 1 => obtain rfl := Option.some.inj hx; obtain rfl := Option.some.inj hy; exact hg7
      | i + 2 => simp at hx
    have E9 := ext_trans E7 e9
    have hcat : catF [f, g] = f.app g := by simp [catF]
    rw [hcat] at hO
    have hB9 : SlF (fun _ => True) w9 xa xn (f.app g) := hO.out.imp fun _ _ _ => trivial
    intro K11 hK11
    have k11 : checkT (f.app g) = 0 → ∀ u, Ext w9 u → K11 u := by
      intro cb u eu
      refine hK11 _ fun _ => ⟨by decide, ?_⟩
      have EU := ext_trans E9 eu
      refine al_intro fun b13 w14 hb13 B13 e14 s14 => ?_
      have E14 := ext_trans EU e14
      have hrow : RowAt encSl (fun _ => True) w14 (some ⟨b13, 0, none⟩) 3 [(a, n, c), (b, n', c'), (xa, xn, xc)] := ⟨rfl, .inr ⟨b13, 0, rfl, trivial, B13.lt, fun j v hj => by rw [Nat.zero_add, B13.cell]; exact hj⟩⟩
      obtain ⟨kk, hk1, hk11, hkk⟩ : ∃ kk : Int, 1 ≤ kk ∧ kk ≤ 11 ∧ IntKind.i64.wrap (Int.tmod (IntKind.i64.wrap kd) 11 + 1) = kk := by
        refine ⟨_, ?_, ?_, rfl⟩
        all_goals
          rw [wrap_id (n := kd) (by omega), Int.tmod_eq_emod_of_nonneg hkd.1, wrap_id (by omega)]
          omega
      rw [hkk]
      let Fs : List Fo := [f, g, f.app g]
      have hFs : ∀ i (hi : i < 3), ∃ (x : Option Addr × Nat × Nat) (y : Fo), [(a, n, c), (b, n', c'), (xa, xn, xc)][i]? = some x ∧ [f, g, f.app g][i]? = some y ∧ checkT y = 0 ∧ SlF (fun _ => True) w14 x.1 x.2.1 y := by
        intro i hi
        match i, hi with
        | 0, _ => exact ⟨_, _, rfl, rfl, cf, (hf.ext E14).imp fun _ _ _ => trivial⟩
        | 1, _ => exact ⟨_, _, rfl, rfl, cg, (hg.ext E14).imp fun _ _ _ => trivial⟩
        | 2, _ => exact ⟨_, _, rfl, rfl, cb, hB9.ext (ext_trans eu e14)⟩
        | i + 3, hh => omega
      have z14 := e14.size
      refine ⟨fun ta tn tc ca cn cc da dn dc t W m => ∃ k : Nat, t = k ∧ k ≤ 3 ∧ m = 3 - k ∧ OwnL Sh.encStr W w14.heap.size 9 ta tn tc (([f, g, f.app g].take k).map charT) ∧ OwnL encI W w14.heap.size 3 ca cn cc (([f, g, f.app g].take k).map fun y => (cntK kk y : Int)) ∧ OwnL encI W w14.heap.size 3 da dn dc (([f, g, f.app g].take k).map fun y => (y.depth : Int)) ∧
        (∀ j, bk ta j → ¬ bk ca j ∧ ¬ bk da j) ∧ (∀ j, bk ca j → ¬ bk da j) ∧ Ext w14 W, ⟨_, 0, rfl, by omega, rfl, Owns.nil _ _ _ _, Owns.nil _ _ _ _, Owns.nil _ _ _ _, fun j hj => by simp [bk] at hj, fun j hj => by simp [bk] at hj, Below.refl _ _⟩, ?_⟩
      rintro ta tn tc ca cn cc da dn dc _ W m ⟨k, rfl, hk3, rfl, hO1, hO2, hO3, hd1, hd2, he⟩ _
      have n1 := OwnL.length hO1
      have n2 := OwnL.length hO2
      have n3 := OwnL.length hO3
      have hlen : ([f, g, f.app g].take k).length = k := by rw [List.length_take]; simp; omega
      rw [List.length_map, hlen] at n1 n2 n3
      refine br_split (fun hlt => ?_) (fun hge => ?_)
      · have hk : k < 3 := by omega
        obtain ⟨x, y, hx1, hy1, cy, hsl⟩ := hFs k hk
        obtain ⟨bb, o, hq, _, _, hc⟩ := (hrow.ext he).get hx1
        refine hq _ ⟨_, _, _, hc 0 _ rfl, ?_⟩
        have EW := ext_trans E14 he
        have hsy := hsl.ext he
        obtain ⟨cy1, cy2, _, _⟩ := check_inv cy
        have hsm : small y := by unfold small; omega
        have hcl := cntK_le kk y
        have htk : [f, g, f.app g].take (k + 1) = [f, g, f.app g].take k ++ [y] := by rw [List.take_add_one, hy1]; rfl
        refine Characters_spec y hsm (hF.ext EW) hsy fun w26 e26 => ⟨_, _, rfl, ?_⟩
        refine Count_spec y hsm (hF.ext (ext_trans EW e26)) (hsy.ext e26) kk fun w30 e30 => ⟨_, _, rfl, ?_⟩
        have e2630 := ext_trans e26 e30
        refine Depth_spec y hsm (hF.ext (ext_trans EW e2630)) (hsy.ext e2630) fun w34 e34 => ⟨_, _, rfl, ?_⟩
        have e34' := ext_trans e2630 e34
        have hcr : cntR y kk = ((cntK kk y : Int), 0) := by unfold cntR; rw [if_neg (fun hh => hh cy), if_neg (by omega)]
        rw [hcr, if_neg (fun hh => hh cy), if_neg (fun hh => hh cy), if_neg (fun hh => hh cy), ← char_chars]
        have z34 := (ext_trans he e34').size
        refine br_split (fun hh => absurd (show max (max (0 : Int) 0) 0 = 0 by decide) hh) (fun _ => ?_)
        have P1 := hO1.ext e34'
        have P2 := hO2.ext e34'
        have P3 := hO3.ext e34'
        refine OwnL.push slT_strs P1 (by omega) (charT y) (by omega) (by omega) fun ta' tc' w40 o1 c1 b1 => ?_
        have P2a := P2.chg c1 fun j hj hh => (hd1 j hh).1 hj
        have P3a := P3.chg c1 fun j hj hh => (hd1 j hh).2 hj
        have z40 := c1.size
        refine OwnL.push slT_ints P2a (by omega) (cntK kk y : Int) (by omega) (by omega) fun ca' cc' w44 o2 c2 b2 => ?_
        have D1 : ∀ j, bk ta' j → ¬ bk ca j ∧ ¬ bk da j := fun j hj => (b1 j hj).elim (hd1 j) fun hh => ⟨fun hb => by have := (P2.bk hb).2; omega, fun hb => by have := (P3.bk hb).2; omega⟩
        have Q1 := o1.chg c2 fun j hj hh => (D1 j hj).1 hh
        have Q3 := P3a.chg c2 fun j hj hh => hd2 j hh hj
        have z44 := c2.size
        refine OwnL.push slT_ints Q3 (by omega) (y.depth : Int) (by omega) (by omega) fun da' dc' w48 o3 c3 b3 => ?_
        have D2 : ∀ j, bk ca' j → ¬ bk da j := fun j hj => (b2 j hj).elim (hd2 j) fun hh hb => by have := (P3a.bk hb).2; omega
        have D12 : ∀ j, bk ta' j → ¬ bk ca' j := fun j hj hb => (b2 j hb).elim (D1 j hj).1 fun hh => by have := (o1.bk hj).2; omega
        have z48 := c3.size
        refine ⟨3 - (k + 1), by omega, k + 1, by rw [wrap_nat (by omega)], by omega, rfl, ?_, ?_, ?_, ?_, ?_, ?_⟩
        · rw [htk, List.map_append, ← n1]; subst n1; exact Q1.chg c3 fun j hj hh => (D1 j hj).2 hh
        · rw [htk, List.map_append]; exact o2.chg c3 fun j hj hh => D2 j hj hh
        · rw [htk, List.map_append]; exact o3
        · exact fun j hj => ⟨D12 j hj, fun hb => (b3 j hb).elim (D1 j hj).2 fun hh => by have := (Q1.bk hj).2; omega⟩
        · exact fun j hj hb => (b3 j hb).elim (D2 j hj) fun hh => by have := (o2.bk hj).2; omega
        · exact ext_chgS (ext_chgS (ext_chgS (ext_trans he e34') c1 fun j hj => (P1.bk hj).1) c2 fun j hj => (P2a.bk hj).1) c3 fun j hj => (Q3.bk hj).1
      · have hk : k = 3 := by omega
        subst hk
        have ed := ext_drew W
        have T := OwnL.out (hO1.ext ed)
        have C := OwnL.out (hO2.ext ed)
        have D := OwnL.out (hO3.ext ed)
        have s1 := char_tlen f
        unfold drw
        obtain ⟨t0, i0, x0⟩ := get_str T (k := 0) (by simp)
        obtain ⟨t1, i1, x1⟩ := get_str T (k := 1) (by simp)
        obtain ⟨t2, i2, x2⟩ := get_str T (k := 2) (by simp)
        obtain ⟨u0, j0, y0⟩ := get_int C (k := 0) (by simp)
        obtain ⟨u1, j1, y1⟩ := get_int C (k := 1) (by simp)
        obtain ⟨u2, j2, y2⟩ := get_int C (k := 2) (by simp)
        obtain ⟨v0, l0, r0⟩ := get_int D (k := 0) (by simp)
        obtain ⟨v1, l1, r1⟩ := get_int D (k := 1) (by simp)
        obtain ⟨v2, l2, r2⟩ := get_int D (k := 2) (by simp)
        have EWd := ext_trans (ext_trans E14 he) ed
        obtain ⟨tf, _⟩ := check_zero cf |>.2
        have hcf := (check_zero cf).2.2
        have hcg := (check_zero cg).2.2
        have hlf := char_tlen f
        have hlg := char_tlen g
        have kf := cntK_le kk f
        have kg := cntK_le kk g
        refine i2 _ ⟨_, x2, i0 _ ⟨_, x0, i1 _ ⟨_, x1, by simp; omega, ?_⟩⟩⟩
        refine br_split (fun _ => ?_) (fun hh => absurd (by simp [char_app]) hh)
        refine j2 _ ⟨_, y2, j0 _ ⟨_, y0, j1 _ ⟨_, y1, ?_⟩⟩⟩
        refine br_split (fun _ => ?_) (fun hh => absurd (by simp [cnt_app]; rw [wrap_id (by omega)]) hh)
        refine l2 _ ⟨_, r2, l0 _ ⟨_, r0, l1 _ ⟨_, r1, ?_, trivial⟩⟩⟩
        refine br_split (fun _ => aw _ EWd) (fun hh => absurd (by simp [dep_app]; omega) hh)
    refine Great10_spec (f.app g) hB9 fun w74 e74 => ⟨_, rfl, br_cases (fun _ => aw w74 (ext_trans E9 e74)) (fun gb => ?_)⟩
    obtain ⟨hbs, _⟩ := great10_facts gb
    refine Check22_spec (f.app g) (by unfold small; omega) (hB9.ext e74) (hF.ext (ext_trans E9 e74)) fun w80 e80 => ⟨_, rfl, br_split (fun _ => aw w80 (ext_trans E9 (ext_trans e74 e80))) (fun gc => ?_)⟩
    exact k11 (Classical.not_not.1 gc) w80 (ext_trans e74 e80)
  refine fine_spec f hf fun w86 e86 => ⟨_, rfl, br_cases (fun _ => aw w86 e86) (fun gf => ?_)⟩
  refine fine_spec g (hg.ext e86) fun w92 e92 => ⟨_, rfl, br_cases (fun _ => aw w92 (ext_trans e86 e92)) (fun gg => ?_)⟩
  exact k4 (by simpa using gf) (by simpa using gg) w92 (ext_trans e86 e92)
end Go.Proofs
