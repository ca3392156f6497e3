/- The contracts of the functions that the law reaches, one after the other, and at the end the law's card. -/
import Derived.Test.YtlnpbjhhfffnmaaDoorLawE
import Derived.Laws.IdiomStrings
namespace Go.Proofs
open Go Go.Sh Go.RowKit

theorem Mt.val {w : World} {B bd n m t : Nat} {c : Nat → Nat} {D : Nat → Nat → Int} (h : Mt w B bd n m c t D) {i k : Nat} (hi : i < t) (hk : k < c i) (hc : c i ≤ m) {K : Int → Prop} (hK : K (D i k)) :
    idx (some ⟨bd, 0, none⟩) n (i : Int) 1 fun p => ∃ (x : Option Addr) (xn xc : Nat), w.cell? p = some (.slice x xn xc) ∧ idx x xn (k : Int) 1 fun q => ∃ v : Int, w.cell? q = some (.int .i64 v) ∧ K v := by
  obtain ⟨r, h1, h2, _⟩ := h.row hi
  exact h1 _ fun p hp => ⟨_, _, _, hp, h2.get hk hc fun q hq => ⟨_, hq, hK⟩⟩
/- reading while other things are read -/
theorem Mt.val' {w : World} {B bd n m t : Nat} {c : Nat → Nat} {D : Nat → Nat → Int} (h : Mt w B bd n m c t D) {i k : Nat} (hi : i < t) (hk : k < c i) (hc : c i ≤ m) {K : Int → Prop} (hK : K (D i k)) {i' k' : Int} (ei : i' = (i : Int)) (ek : k' = (k : Int)) :
    idx (some ⟨bd, 0, none⟩) n i' 1 fun p => ∃ (x : Option Addr) (xn xc : Nat), w.cell? p = some (.slice x xn xc) ∧ idx x xn k' 1 fun q => ∃ v : Int, w.cell? q = some (.int .i64 v) ∧ K v := by
  subst ei ek; exact h.val hi hk hc hK
theorem flat_one (x : Value) : ∀ n : Nat, (List.replicate n [x]).flatten = List.replicate n x
  | 0 => rfl
  | n + 1 => by rw [List.replicate_succ, List.flatten_cons, flat_one x n]; rfl
theorem eqB_dec (a b : List UInt8) {i k : Nat} (hi : i < a.length) (hk : k < b.length) : decide (((a[i]).toNat : Int) = ((b[k]).toNat : Int)) = eqB a b i k := by
  unfold eqB
  rw [decide_eq_decide]
  simp only [List.getD_eq_getElem?_getD, List.getElem?_eq_getElem hi, List.getElem?_eq_getElem hk, Option.getD_some]
  constructor
  · intro hh; exact UInt8.toNat_inj.1 (by omega)
  · intro hh; rw [hh]

set_option maxRecDepth 20000 in
theorem Script_spec {R : Ending → World → Prop} {w : World} (a b : List UInt8) (ha : a.length ≤ 256) (hb : b.length ≤ 256)
    (h : ∀ oa on oc w', OwnL encE w' w.heap.size 85 oa on oc (trE a b (a.length + b.length) a.length b.length) → Ext w w' → R (.returned (.tuple ⟨[.slice oa on oc, .int .i64 0]⟩)) w') : Calls Tryd.prog F_editdistance_Script ⟨[.string ⟨⟨a⟩⟩, .string ⟨⟨b⟩⟩]⟩ w R := by
  apply c_editdistance_Script
  have ea : IntKind.i64.wrap ((a.length : Int) + 1) = ((a.length + 1 : Nat) : Int) := wrap_nat (by omega)
  have eb : IntKind.i64.wrap ((b.length : Int) + 1) = ((b.length + 1 : Nat) : Int) := wrap_nat (by omega)
  unfold sh_editdistance_Script
  rw [ea, eb]
  simp only [Int.toNat_natCast]
  refine long_spec _ _ ⟨_, rfl, br_neg (by omega) ?_⟩
  refine mks_intro (Nat.le_refl _) (by omega) fun bd w7 hbd Bd e7 s7 => ?_
  rw [flat_one] at Bd
  have hM0 : Mt w7 w.heap.size bd (a.length + 1) (b.length + 1) (fun _ => b.length + 1) 0 (fun i k => (eqE a b i k : Int)) :=
    ⟨[], rfl, by omega, List.nodup_nil, by simpa using Bd, by omega, fun i r hr => by simp at hr⟩
  refine ⟨fun i W m => ∃ t : Nat, i = t ∧ t ≤ a.length + 1 ∧ m = a.length + 1 - t ∧ Mt W w.heap.size bd (a.length + 1) (b.length + 1) (fun _ => b.length + 1) t (fun i k => (eqE a b i k : Int)) ∧ Ext w W, ⟨_, 0, rfl, by omega, rfl, hM0, e7⟩, ?_⟩
  rintro _ W m ⟨t, rfl, ht, rfl, hM, he⟩ _
  refine br_split (fun hlt => ?_) (fun hge => ?_)
  · -- a row
    refine mks_intro (Nat.le_refl _) (by omega) fun r w14 hr Br e14 s14 => ?_
    have zW := he.size
    have hrow : FnRow w14 w.heap.size r (b.length + 1) 0 (fun k => (eqE a b t k : Int)) := ⟨_, OwnL.made (E := encI) (x := 0) Br (by omega) (by simp only [maxLen]; omega), fun j hj => by omega⟩
    refine Mt.push hM e14 (by omega) hrow (by omega) (by omega) fun w16 hM16 hc16 z16 => ?_
    have zr := hM16
    obtain ⟨rs0, _, _, _, hbl, hB', _⟩ := hM16
    have he16 : Ext w w16 := ext_chgS (ext_trans he e14) hc16 fun k hk => by omega
    obtain ⟨r', hr1, hr2, hr3⟩ := zr.row (i := t) (by omega)
    refine hr1 _ fun p hp => ⟨_, _, _, hp, ?_⟩
    refine ⟨fun k W m => ∃ c : Nat, k = c ∧ c ≤ b.length + 1 ∧ m = b.length + 1 - c ∧ Mt W w.heap.size bd (a.length + 1) (b.length + 1) (fun j => if j = t then c else b.length + 1) (t + 1) (fun i k => (eqE a b i k : Int)) ∧ Ext w W, ⟨_, 0, rfl, by omega, rfl, zr, he16⟩, ?_⟩
    clear hp p
    rintro _ W m ⟨c, rfl, hc, rfl, hM, he⟩ _
    refine br_split (fun hlt2 => ?_) (fun hge2 => ?_)
    · have c1 : IntKind.i64.wrap ((c : Int) + 1) = ((c + 1 : Nat) : Int) := wrap_nat (by omega)
      have bnd := ed_le (eqB a b)
      -- a number goes in
      have put : ∀ (W' : World) (v : Int), Ext W W' → v = (eqE a b t c : Int) → ∀ Q : World → Prop, (∀ w2, (∃ c' : Nat, ((c + 1 : Nat) : Int) = (c' : Int) ∧ c' ≤ b.length + 1 ∧ b.length + 1 - (c + 1) = b.length + 1 - c' ∧ Mt w2 w.heap.size bd (a.length + 1) (b.length + 1) (fun j => if j = t then c' else b.length + 1) (t + 1) (fun i k => (eqE a b i k : Int)) ∧ Ext w w2) → Q w2) →
          ∃ r, (∀ K : Addr → Prop, (∀ p, W'.cell? p = some (.slice (some ⟨r, 0, none⟩) (b.length + 1) (b.length + 1)) → K p) → idx (some ⟨bd, 0, none⟩) (a.length + 1) (t : Int) 1 K) ∧
            (idx (some ⟨r, 0, none⟩) (b.length + 1) (c : Int) 1 fun p => stL W' p 0 [.int .i64 v] Q) := by
        intro W' v hx hv Q hQ
        have hM' := hM.ext hx
        obtain ⟨r, q1, q2, q3⟩ := hM'.row (i := t) (by omega)
        rw [if_pos rfl] at q2
        refine ⟨r, q1, q2.set (by omega) hv fun w2 f2 ch2 z2 => hQ w2 ⟨c + 1, rfl, by omega, rfl, ?_, ?_⟩⟩
        · exact (q3 w2 (c + 1) f2 ch2).congr fun j _ => by by_cases e : j = t <;> simp [e]
        · exact ext_chgS (ext_trans he hx) ch2 fun j hj => by have := (q2.lt (by omega)).1; omega
      intro K24 hK24
      have k24 : ∀ g, g = decide (t = 0 ∨ c = 0) → K24 g W := by
        rintro _ rfl
        refine hK24 _ _ fun _ => br_split (fun g => ?_) (fun g => ?_)
        · obtain ⟨r, q1, q2⟩ := put W (IntKind.i64.wrap ((t : Int) + c)) (Below.refl _ _) (by
            rw [wrap_id (by omega)]
            rcases g with rfl | rfl
            · simp [eqE, ed]
            · simp [eqE, ed_zero]) (fun w2 => ∃ m31 : Nat, m31 < b.length + 1 - c ∧ ∃ c' : Nat, IntKind.i64.wrap ((c : Int) + 1) = (c' : Int) ∧ c' ≤ b.length + 1 ∧ m31 = b.length + 1 - c' ∧ Mt w2 w.heap.size bd (a.length + 1) (b.length + 1) (fun j => if j = t then c' else b.length + 1) (t + 1) (fun i k => (eqE a b i k : Int)) ∧ Ext w w2)
            (fun w2 ⟨c', x1, x2, x3, x4, x5⟩ => ⟨b.length + 1 - (c + 1), by omega, c', by rw [c1]; exact x1, x2, x3, x4, x5⟩)
          exact q1 _ fun p hp => ⟨_, _, _, hp, q2⟩
        · obtain ⟨t', rfl⟩ : ∃ t', t = t' + 1 := ⟨t - 1, by omega⟩
          obtain ⟨c', rfl⟩ : ∃ c', c = c' + 1 := ⟨c - 1, by omega⟩
          have t1 : IntKind.i64.wrap (((t' + 1 : Nat) : Int) - 1) = (t' : Int) := by rw [wrap_id (by omega)]; omega
          have c2 : IntKind.i64.wrap (((c' + 1 : Nat) : Int) - 1) = (c' : Int) := by rw [wrap_id (by omega)]; omega
          have hta : t' < a.length := by omega
          have hcb : c' < b.length := by omega
          rw [t1, c2]
          unfold drw
          have hd := ext_trans (ext_drew W) (ext_drew W.drew)
          have hMd := hM.ext hd
          have b1 := bnd t' c'
          have b2 := bnd t' (c' + 1)
          have b3 := bnd (t' + 1) c'
          have st := ed_step (eqB a b) t' c'
          refine sidx_nat hta (sidx_nat hcb ?_)
          rw [eqB_dec a b hta hcb]
          have v1 : ∀ {K : Int → Prop}, K (eqE a b t' c') → idx (some ⟨bd, 0, none⟩) (a.length + 1) (t' : Int) 1 fun p => ∃ (x : Option Addr) (xn xc : Nat), W.drew.drew.cell? p = some (.slice x xn xc) ∧ idx x xn (c' : Int) 1 fun q => ∃ v : Int, W.drew.drew.cell? q = some (.int .i64 v) ∧ K v :=
            fun hK => hMd.val (i := t') (k := c') (by omega) (by rw [if_neg (by omega)]; omega) (by rw [if_neg (by omega)]; omega) hK
          have v2 : ∀ {K : Int → Prop}, K (eqE a b t' (c' + 1)) → idx (some ⟨bd, 0, none⟩) (a.length + 1) (t' : Int) 1 fun p => ∃ (x : Option Addr) (xn xc : Nat), W.drew.drew.cell? p = some (.slice x xn xc) ∧ idx x xn ((c' + 1 : Nat) : Int) 1 fun q => ∃ v : Int, W.drew.drew.cell? q = some (.int .i64 v) ∧ K v :=
            fun hK => hMd.val (i := t') (k := c' + 1) (by omega) (by rw [if_neg (by omega)]; omega) (by rw [if_neg (by omega)]; omega) hK
          have v3 : ∀ {K : Int → Prop}, K (eqE a b (t' + 1) c') → idx (some ⟨bd, 0, none⟩) (a.length + 1) ((t' + 1 : Nat) : Int) 1 fun p => ∃ (x : Option Addr) (xn xc : Nat), W.drew.drew.cell? p = some (.slice x xn xc) ∧ idx x xn (c' : Int) 1 fun q => ∃ v : Int, W.drew.drew.cell? q = some (.int .i64 v) ∧ K v :=
            fun hK => hMd.val (i := t' + 1) (k := c') (by omega) (by rw [if_pos rfl]; omega) (by rw [if_pos rfl]; omega) hK
          have fin := fun v hv => put W.drew.drew v hd hv (fun w2 => ∃ m31 : Nat, m31 < b.length + 1 - (c' + 1) ∧ ∃ c'' : Nat, IntKind.i64.wrap (((c' + 1 : Nat) : Int) + 1) = (c'' : Int) ∧ c'' ≤ b.length + 1 ∧ m31 = b.length + 1 - c'' ∧ Mt w2 w.heap.size bd (a.length + 1) (b.length + 1) (fun j => if j = t' + 1 then c'' else b.length + 1) (t' + 1 + 1) (fun i k => (eqE a b i k : Int)) ∧ Ext w w2)
            (fun w2 ⟨c'', x1, x2, x3, x4, x5⟩ => ⟨b.length + 1 - (c' + 1 + 1), by omega, c'', by rw [c1]; exact x1, x2, x3, x4, x5⟩)
          unfold eqE at *
          refine br_cases (fun g => ?_) (fun g => ?_)
          · rw [g] at st
            obtain ⟨r, q1, q2⟩ := fin (min (min (ed (eqB a b) t' c' : Int) ((ed (eqB a b) t' (c' + 1) : Int) + 1)) ((ed (eqB a b) (t' + 1) c' : Int) + 1)) (by rw [st]; simp only [if_true]; omega)
            refine q1 _ fun p hp => ⟨_, _, _, hp, v1 (v2 (v3 ?_))⟩
            rw [wrap_id (by omega), wrap_id (by omega)]
            obtain ⟨y1, y2, y3⟩ := q2
            exact ⟨y1, y2, y3, trivial⟩
          · rw [g] at st
            obtain ⟨r, q1, q2⟩ := fin (1 + min (min (ed (eqB a b) t' c' : Int) (ed (eqB a b) t' (c' + 1) : Int)) (ed (eqB a b) (t' + 1) c' : Int)) (by rw [st]; simp only [Bool.false_eq_true, if_false]; omega)
            refine q1 _ fun p hp => ⟨_, _, _, hp, v1 (v2 (v3 ?_))⟩
            rw [wrap_id (by omega)]
            obtain ⟨y1, y2, y3⟩ := q2
            exact ⟨y1, y2, y3, trivial⟩
      exact br_split (fun g => k24 _ (by simp; omega)) (fun g => k24 _ (by rw [decide_eq_decide]; omega))
    · have : c = b.length + 1 := by omega
      subst this
      exact ⟨a.length + 1 - (t + 1), by omega, t + 1, wrap_nat (by omega), by omega, rfl, hM.congr fun j _ => by by_cases e : j = t <;> simp [e], he⟩
  · -- the way back
    have : t = a.length + 1 := by omega
    subst this
    intro K72 hK72
    refine ⟨fun oa on oc i k W' m => ∃ (x y : Nat) (l : List Edit), i = x ∧ k = y ∧ m = x + y ∧ x ≤ a.length ∧ y ≤ b.length ∧ OwnL encE W' W.heap.size 85 oa on oc l ∧ trE a b (a.length + b.length) a.length b.length = trE a b (x + y) x y ++ l.reverse ∧ l.length + x + y ≤ a.length + b.length ∧ Ext W W',
      ⟨_, a.length, b.length, [], rfl, rfl, rfl, Nat.le_refl _, Nat.le_refl _, Owns.nil _ _ _ _, by simp, by simp, Below.refl _ _⟩, ?_⟩
    rintro oa on oc _ _ W' m ⟨x, y, l, rfl, rfl, rfl, hx, hy, ho, htr, hll, hW⟩ _
    have hol := ho.length
    intro K84 hK84
    have k84 : ¬ (x = 0 ∧ y = 0) → K84 W' := by
      intro h0
      have hun : trE a b (x + y) x y = trE a b (x + y - 1 + 1) x y := tr_fuel a b _ _ x y (by omega) (by omega)
      rw [trE, if_neg h0] at hun
      refine hK84 _ fun _ => ?_
      intro K86 hK86
      have wx : ∀ z : Nat, 0 < z → z ≤ 256 → IntKind.i64.wrap ((z : Int) - 1) = ((z - 1 : Nat) : Int) := fun z h h2 => wrap_pred h (by omega)
      have read : ∀ (W2 : World), Ext W' W2 → ∀ {i k : Nat} {K : Int → Prop} {i' k' : Int}, i' = (i : Int) → k' = (k : Int) → i ≤ a.length → k ≤ b.length → K (eqE a b i k) →
          idx (some ⟨bd, 0, none⟩) (a.length + 1) i' 1 fun p => ∃ (x : Option Addr) (xn xc : Nat), W2.cell? p = some (.slice x xn xc) ∧ idx x xn k' 1 fun q => ∃ v : Int, W2.cell? q = some (.int .i64 v) ∧ K v :=
        fun W2 hx i k K i' k' ei ek hi hk hK => (hM.ext (ext_trans hW hx)).val' (i := i) (k := k) (by omega) (by omega) (Nat.le_refl _) hK ei ek
      have bnd := ed_le (eqB a b)
      have i1 : ∀ z : Nat, 0 < z → ((z - 1 : Nat) : Int) + 1 = (z : Int) := fun z hz => by omega
      have subT : 0 < y → ((b.take y).drop (y - 1)).length ≤ 1 := fun hy => by simp; omega
      -- the edits that are added
      have add : ∀ (W2 : World) (e : Edit) (x' y' : Nat), Ext W' W2 → x' ≤ x → y' ≤ y → x' + y' < x + y → trE a b (x + y) x y = trE a b (x' + y') x' y' ++ [e] →
          al W2 85 [.int .i64 e.at_, .int .i64 e.len, .string ⟨⟨e.text⟩⟩] fun p w1 => app Tryd.prog [48, 48] 48 (.slice oa on oc) (.slice (some p) 1 1) w1 fun a4 n4 c4 w4 => ∃ m : Nat, m < x + y ∧ ∃ (x2 y2 : Nat) (l : List Edit), (x' : Int) = (x2 : Nat) ∧ (y' : Int) = (y2 : Nat) ∧ m = x2 + y2 ∧ x2 ≤ a.length ∧ y2 ≤ b.length ∧ OwnL encE w4 W.heap.size 85 a4 n4 c4 l ∧ trE a b (a.length + b.length) a.length b.length = trE a b (x2 + y2) x2 y2 ++ l.reverse ∧ l.length + x2 + y2 ≤ a.length + b.length ∧ Ext W w4 := by
        intro W2 e x' y' hx2 hx' hy' hlt hte
        have hz := (ext_trans hW hx2).size
        refine OwnL.push (E := encE) slT_edit (Owns.ext ho hx2) hz e (by omega) (by omega) fun a4 c4 w4 o4 ch4 n4 => ⟨x' + y', hlt, x', y', l ++ [e], rfl, rfl, rfl, by omega, by omega, o4, ?_, by simp; omega, ext_chgS (ext_trans hW hx2) ch4 fun j hj => (ho.bk hj).1⟩
        rw [htr, hte]; simp
      have k86 : ∀ W2 g, Ext W' W2 → g = decide (0 < x ∧ 0 < y ∧ eqB a b (x - 1) (y - 1) = true ∧ eqE a b x y = eqE a b (x - 1) (y - 1)) → K86 g W2 := by
        rintro W2 _ hx2 rfl
        refine hK86 _ _ fun _ => br_split (fun g => ?_) (fun g => ?_)
        · rw [if_pos g] at hun
          refine ⟨x - 1 + (y - 1), by omega, x - 1, y - 1, l, wx x g.1 (by omega), wx y g.2.1 (by omega), rfl, by omega, by omega, Owns.ext ho hx2, ?_, by omega, ext_trans hW hx2⟩
          rw [htr, hun, tr_fuel a b (x + y - 1) (x - 1 + (y - 1)) _ _ (by omega) (by omega)]
        rw [if_neg g] at hun
        intro K90 hK90
        have k90 : ∀ W3 g, Ext W' W3 → g = decide (0 < x ∧ 0 < y ∧ eqE a b x y = eqE a b (x - 1) (y - 1) + 1) → K90 g W3 := by
          rintro W3 _ hx3 rfl
          refine hK90 _ _ fun _ => br_split (fun g2 => ?_) (fun g2 => ?_)
          · rw [if_pos g2] at hun
            rw [wx x g2.1 (by omega), wx y g2.2.1 (by omega), i1 y g2.2.1, wrap_id (by omega)]
            refine ssl_nat (by omega) (by omega) ?_
            rw [← wx x g2.1 (by omega), wrap_id (by omega)]
            have := add W3 ⟨(x : Int) - 1, 1, (b.take y).drop (y - 1)⟩ (x - 1) (y - 1) hx3 (by omega) (by omega) (by omega) (by rw [hun, tr_fuel a b (x + y - 1) (x - 1 + (y - 1)) _ _ (by omega) (by omega)])
            rw [show ((x - 1 : Nat) : Int) = (x : Int) - 1 by omega] at this
            exact this
          rw [if_neg g2] at hun
          intro K99 hK99
          have k99 : ∀ W4 g, Ext W' W4 → g = decide (0 < x ∧ eqE a b x y = eqE a b (x - 1) y + 1) → K99 g W4 := by
            rintro W4 _ hx4 rfl
            refine hK99 _ _ fun _ => br_split (fun g3 => ?_) (fun g3 => ?_)
            · rw [if_pos g3] at hun
              rw [wrap_id (by omega)]
              have := add W4 ⟨(x : Int) - 1, 1, []⟩ (x - 1) y hx4 (by omega) (by omega) (by omega) (by rw [hun, tr_fuel a b (x + y - 1) (x - 1 + y) _ _ (by omega) (by omega)])
              rw [show ((x - 1 : Nat) : Int) = (x : Int) - 1 by omega] at this
              exact this
            · rw [if_neg g3] at hun
              have h4 := tr_last a b x y h0 g g2 g3
              rw [wx y h4.1 (by omega), i1 y h4.1, wrap_id (by omega)]
              refine ssl_nat (by omega) (by omega) ?_
              exact add W4 ⟨x, 0, (b.take y).drop (y - 1)⟩ x (y - 1) hx4 (by omega) (by omega) (by omega) (by rw [hun, tr_fuel a b (x + y - 1) (x + (y - 1)) _ _ (by omega) (by omega)])
          unfold drw
          have hd := ext_trans hx3 (ext_drew W3)
          refine br_split (fun p1 => ?_) (fun p1 => k99 _ _ hd (by rw [Bool.eq_iff_iff]; simp; omega))
          refine read _ hd (i := x) (k := y) rfl rfl (by omega) (by omega) (read _ hd (i := x - 1) (k := y) (wx x (by omega) (by omega)) rfl (by omega) (by omega) (k99 _ _ hd ?_))
          have := bnd (x - 1) y
          rw [decide_eq_decide, wrap_id (by unfold eqE; omega)]; omega
        unfold drw
        have hd := ext_trans hx2 (ext_drew W2)
        refine br_split (fun p1 => br_split (fun p2 => ?_) (fun p2 => k90 _ _ hd (by rw [Bool.eq_iff_iff]; simp; omega))) (fun p1 => k90 _ _ hd (by rw [Bool.eq_iff_iff]; simp; omega))
        refine read _ hd (i := x) (k := y) rfl rfl (by omega) (by omega) (read _ hd (i := x - 1) (k := y - 1) (wx x (by omega) (by omega)) (wx y (by omega) (by omega)) (by omega) (by omega) (k90 _ _ hd ?_))
        have := bnd (x - 1) (y - 1)
        rw [decide_eq_decide, wrap_id (by unfold eqE; omega)]; omega
      unfold drw
      have hd := ext_drew W'
      refine br_split (fun p1 => br_split (fun p2 => ?_) (fun p2 => k86 _ _ hd (by rw [Bool.eq_iff_iff]; simp; omega))) (fun p1 => k86 _ _ hd (by rw [Bool.eq_iff_iff]; simp; omega))
      have hxa : x - 1 < a.length := by omega
      have hyb : y - 1 < b.length := by omega
      rw [wx x (by omega) (by omega), wx y (by omega) (by omega)]
      refine sidx_nat hxa (sidx_nat hyb ?_)
      rw [eqB_dec a b hxa hyb]
      refine br_cases (fun g => ?_) (fun g => k86 _ _ hd (by rw [Bool.eq_iff_iff]; simp [g]))
      refine read _ hd (i := x) (k := y) rfl rfl (by omega) (by omega) (read _ hd (i := x - 1) (k := y - 1) rfl rfl (by omega) (by omega) (k86 _ _ hd ?_))
      rw [decide_eq_decide]
      constructor
      · intro e; exact ⟨by omega, by omega, g, by omega⟩
      · intro e; omega
    refine br_split (fun p1 => k84 (by omega)) (fun p1 => br_split (fun p2 => k84 (by omega)) (fun p2 => ?_))
    obtain rfl : x = 0 := by omega
    obtain rfl : y = 0 := by omega
    refine hK72 _ _ _ _ fun _ => ?_
    have hz := he.size
    refine Reverse_spec l (by omega) ho fun w5 o5 c5 => ⟨rfl, h _ _ _ _ ?_ (ext_chgS (ext_trans he hW) c5 fun j hj => by have := (ho.bk hj).1; omega)⟩
    rw [htr]
    simp only [trE, List.nil_append]
    refine ⟨o5.1, o5.2.imp id ?_⟩
    rintro ⟨g, cap, cur, p1, p2, p3⟩
    exact ⟨g, cap, cur, p1, by omega, p3⟩
end Go.Proofs
namespace Go.Proofs
open Go Go.Sh Go.RowKit

theorem b2s_intro {w : World} {B : Nat} {a : Option Addr} {n c : Nat} {l : List UInt8} {K : List UInt8 → Prop} (h : Owns w B 5 1 a n c (Lib.byteCells l)) (hK : K l) : b2s Tryd.prog w a n c K := by
  have hl : l.length = n := by have := h.1; simpa [Lib.byteCells] using this
  refine ⟨l, ?_, hK⟩
  by_cases hn : 0 < n
  · obtain ⟨g, rfl, _, hc⟩ := h.cell hn
    have := run_convert_bytes_back (P := Tryd.prog) w 74 9 5 ⟨g, 0, none⟩ c l (by kernel_rfl) (by kernel_rfl) (by kernel_rfl) (fun j hj => by rw [add_none, Nat.zero_add]; exact hc j _ (by simp [Lib.byteCells, hj]))
    rw [run_convert_bytes_string w 74 9 5 _ _ _ (by kernel_rfl) (by kernel_rfl) (by kernel_rfl), hl] at this
    exact this
  · have hl0 : l = [] := List.eq_nil_of_length_eq_zero (by omega)
    subst hl0
    obtain rfl : n = 0 := by omega
    cases a with
    | none => simp [Conv.bytesToString]; rfl
    | some p =>
      have := run_convert_bytes_back (P := Tryd.prog) w 74 9 5 p c [] (by kernel_rfl) (by kernel_rfl) (by kernel_rfl) (fun j hj => by simp at hj)
      rw [run_convert_bytes_string w 74 9 5 _ _ _ (by kernel_rfl) (by kernel_rfl) (by kernel_rfl)] at this
      exact this
theorem owns_room {w : World} {b B : Nat} {e : TypeId} {size : Nat} {cs : List Value} {c : Nat} (h : Blk w b cs e) (hB : B ≤ b) (hc : c ≤ maxLen) (hl : cs.length = c * size) : Owns w B e size (some ⟨b, 0, none⟩) 0 c [] :=
  ⟨by simp, .inr ⟨b, c, ⟨cs⟩, rfl, hB, h, Nat.zero_le _, hc, by simpa using hl, by simp⟩⟩
/- where the edits before a place have brought -/
theorem okE_app {n : Nat} : ∀ {l l' : List Edit} {e : Int}, okE n (l ++ l') e ↔ okE n l e ∧ okE n l' (endE l e)
  | [], l', e => by simp [okE, endE]
  | x :: l, l', e => by simp only [List.cons_append, okE, endE, okE_app (l := l), and_assoc]
theorem runE_app (a : List UInt8) : ∀ (l l' : List Edit) (out : List UInt8) (at_ : Nat), runE a (l ++ l') out at_ = runE a l' (runE a l out at_).1 (runE a l out at_).2
  | [], _, _, _ => rfl
  | x :: l, l', out, at_ => by simp only [List.cons_append, runE]; exact runE_app a l l' _ _
theorem end_le {n : Nat} : ∀ {l : List Edit} {e : Int}, okE n l e → 0 ≤ e → e ≤ n → 0 ≤ endE l e ∧ endE l e ≤ n
  | [], e, _, h0, h1 => ⟨h0, h1⟩
  | x :: l, e, ⟨g1, g2, g3, g4, g5⟩, h0, h1 => end_le (l := l) (e := x.at_ + x.len) g5 (by omega) g3
theorem out_len (a : List UInt8) : ∀ (l : List Edit) (out : List UInt8) (at_ : Nat), okE a.length l at_ → at_ ≤ a.length → out.length ≤ (runE a l out at_).1.length
  | [], _, _, _, _ => Nat.le_refl _
  | x :: l, out, at_, ⟨g1, g2, g3, g4, g5⟩, h => by
    have e : ((x.at_ + x.len).toNat : Int) = x.at_ + x.len := by omega
    have := out_len a l (out ++ (a.take x.at_.toNat).drop at_ ++ x.text) (x.at_ + x.len).toNat (by rw [e]; exact g5) (by omega)
    simp only [runE]
    simp only [List.length_append] at this
    omega

set_option maxRecDepth 20000 in
theorem Apply_spec {R : Ending → World → Prop} {S : Nat → Prop} {w : World} (a : List UInt8) (l : List Edit) {la : Option Addr} {ln lc : Nat} (ha : a.length ≤ 256) (hll : l.length ≤ 1000) (ht : ∀ x ∈ l, x.text.length ≤ 1000) (hl : RowAt encE S w la ln l) (hok : okE a.length l 0)
    (res : List UInt8) (hres : (runE a l [] 0).1 ++ a.drop (runE a l [] 0).2 = res) (hrl : res.length ≤ 65536)
    (h : ∀ w', Ext w w' → R (.returned (.tuple ⟨[.string ⟨⟨res⟩⟩, .int .i64 0]⟩)) w') : Calls Tryd.prog F_editdistance_Apply ⟨[.string ⟨⟨a⟩⟩, .slice la ln lc]⟩ w R := by
  apply c_editdistance_Apply
  have hn := hl.1
  refine br_neg (by omega) ?_
  have three : ∀ (x y : Int) (t : List UInt8), ∀ u ∈ [Value.int .i64 x, .int .i64 y, .string ⟨⟨t⟩⟩], u.oneCell' = true := by
    intro x y t u hu; simp only [List.mem_cons, List.not_mem_nil, or_false] at hu; rcases hu with rfl | rfl | rfl <;> rfl
  -- the state behind the first edits
  have stt : ∀ p r, l = p ++ r → okE a.length p 0 ∧ okE a.length r (endE p 0) ∧ ((runE a p [] 0).2 : Int) = endE p 0 ∧ endE p 0 ≤ a.length ∧ (runE a p [] 0).1.length ≤ 65536 := by
    intro p r hp
    have h1 := hok
    rw [hp, okE_app] at h1
    have h2 := end_le h1.1 (Int.le_refl 0) (by omega)
    have h3 := run_end a p [] 0 h1.1
    simp only [Int.ofNat_zero, Int.natCast_zero] at h3
    refine ⟨h1.1, h1.2, h3, h2.2, ?_⟩
    have h4 := out_len a r (runE a p [] 0).1 (runE a p [] 0).2 (by rw [h3]; exact h1.2) (by omega)
    rw [← runE_app, ← hp] at h4
    have := congrArg List.length hres
    simp only [List.length_append] at this
    omega
  refine ⟨fun en le i W m => ∃ p r, l = p ++ r ∧ i = (p.length : Int) ∧ m = r.length ∧ en = endE p 0 ∧ le = ((runE a p [] 0).1.length : Int) + a.length - (runE a p [] 0).2 ∧ Ext w W,
    ⟨_, [], l, rfl, rfl, rfl, rfl, by simp [runE], Below.refl _ _⟩, ?_⟩
  rintro _ _ _ W m ⟨p, r, hp, rfl, rfl, rfl, rfl, he⟩ _
  have hlen : l.length = p.length + r.length := by rw [hp]; simp
  obtain ⟨s1, s2, s3, s4, s5⟩ := stt p r hp
  refine br_split (fun hlt => ?_) (fun hge => ?_)
  · obtain ⟨x, r, rfl⟩ : ∃ x r', r = x :: r' := by cases r with | nil => simp at hlen; omega | cons x r => exact ⟨x, r, rfl⟩
    obtain ⟨g1, g2, g3, g4, g5⟩ := s2
    have hp' : l = (p ++ [x]) ++ r := by rw [hp]; simp
    obtain ⟨t1, t2, t3, t4, t5⟩ := stt (p ++ [x]) r hp'
    have htx := ht x (by rw [hp]; simp)
    have hget : l[p.length]? = some x := by rw [hp, List.getElem?_append_right (Nat.le_refl _), Nat.sub_self]; rfl
    obtain ⟨b, o, hidx, hb, hbl, hc⟩ := (hl.ext he).get hget
    refine hidx _ ⟨_, by rw [add_none]; exact hc 0 _ rfl, _, by rw [add_none]; exact hc 1 _ rfl, _, by rw [add_none]; exact hc 2 _ rfl, al_stL (by simp) (three _ _ _) fun b1 w1 hb1 B1 e1 z1 => ?_⟩
    have c0 : w1.cell? ((⟨b1, 0, none⟩ : Addr).add 0) = some (.int .i64 x.at_) := by rw [add_none, B1.cell]; rfl
    have c1 : w1.cell? ((⟨b1, 0, none⟩ : Addr).add 1) = some (.int .i64 x.len) := by rw [add_none, B1.cell]; rfl
    have c2 : w1.cell? ((⟨b1, 0, none⟩ : Addr).add 2) = some (.string ⟨⟨x.text⟩⟩) := by rw [add_none, B1.cell]; rfl
    intro K17 hK17
    have k17 : K17 false w1 := by
      refine hK17 _ _ fun _ => ?_
      simp only [br_f]
      refine ⟨_, c0, br_neg (by omega) ⟨_, c0, _, c1, _, c2, _, c1, ⟨r.length, by simp, p ++ [x], r, hp', ?_, rfl, ?_, ?_, ext_trans he e1⟩⟩⟩
      · rw [wrap_nat (by omega)]; simp
      · rw [endE_snoc, wrap_id (by omega)]
      · rw [runE_snoc]
        have e2 : ((x.at_ + x.len).toNat : Int) = x.at_ + x.len := by omega
        have e3 : (x.at_.toNat : Int) = x.at_ := by omega
        simp only [List.length_append, List.length_drop, List.length_take]
        have w2 : IntKind.i64.wrap ((x.text.length : Int) - x.len) = (x.text.length : Int) - x.len := wrap_id (by omega)
        rw [w2, wrap_id (by omega)]
        omega
    refine ⟨_, c0, br_neg (by omega) ⟨_, c1, br_neg (by omega) ⟨_, c0, br_neg (by omega) ⟨_, c1, _, c0, ?_⟩⟩⟩⟩
    rw [show decide (IntKind.i64.wrap ((a.length : Int) - x.at_) < x.len) = false by rw [wrap_id (by omega)]; simp; omega]
    exact k17
  -- the string is laid
  have hr0 : r = [] := List.eq_nil_of_length_eq_zero (by omega)
  subst hr0
  rw [List.append_nil] at hp
  subst hp
  have hres' := congrArg List.length hres
  simp only [List.length_append, List.length_drop] at hres'
  have hlr : ((runE a l [] 0).1.length : Int) + a.length - (runE a l [] 0).2 = (res.length : Int) := by omega
  rw [hlr]
  refine br_neg (by omega) ?_
  have z0 := he.size
  refine mks_intro (l := 0) (Nat.zero_le _) (by omega) fun ob w1 hob Ob e1 z1 => ?_
  simp only [Int.toNat_natCast, Int.toNat_zero, Int.natCast_zero]
  have ho0 : Owns w1 w.heap.size 5 1 (some ⟨ob, 0, none⟩) 0 res.length (Lib.byteCells []) := owns_room Ob (by omega) (by simp only [maxLen]; omega) (by simp)
  refine ⟨fun oa on oc at_ i W m => ∃ p r, l = p ++ r ∧ i = (p.length : Int) ∧ m = r.length ∧ at_ = ((runE a p [] 0).2 : Int) ∧ on = (runE a p [] 0).1.length ∧ Owns W w.heap.size 5 1 oa on oc (Lib.byteCells (runE a p [] 0).1) ∧ Ext w W,
    ⟨_, [], l, rfl, rfl, rfl, rfl, rfl, ho0, ext_trans he e1⟩, ?_⟩
  clear Ob ho0 e1 z1
  rintro oa on oc _ _ W m ⟨p, r, hp, rfl, rfl, rfl, rfl, ho, he⟩ _
  have hlen : l.length = p.length + r.length := by rw [hp]; simp
  obtain ⟨s1, s2, s3, s4, s5⟩ := stt p r hp
  have zW := he.size
  refine br_split (fun hlt => ?_) (fun hge => ?_)
  · obtain ⟨x, r, rfl⟩ : ∃ x r', r = x :: r' := by cases r with | nil => simp at hlen; omega | cons x r => exact ⟨x, r, rfl⟩
    obtain ⟨g1, g2, g3, g4, g5⟩ := s2
    have hp' : l = (p ++ [x]) ++ r := by rw [hp]; simp
    obtain ⟨t1, t2, t3, t4, t5⟩ := stt (p ++ [x]) r hp'
    have htx := ht x (by rw [hp]; simp)
    have hget : l[p.length]? = some x := by rw [hp, List.getElem?_append_right (Nat.le_refl _), Nat.sub_self]; rfl
    obtain ⟨b, o, hidx, hb, hbl, hc⟩ := (hl.ext he).get hget
    refine hidx _ ⟨_, by rw [add_none]; exact hc 0 _ rfl, _, by rw [add_none]; exact hc 1 _ rfl, _, by rw [add_none]; exact hc 2 _ rfl, al_stL (by simp) (three _ _ _) fun b1 w1 hb1 B1 e1 z1 => ?_⟩
    have hd := ext_drew w1
    have B1d := B1.ext hd
    have E1 := ext_trans (ext_trans he e1) hd
    have ho1 := ho.ext (ext_trans e1 hd)
    have zd : w1.drew.heap.size = w1.heap.size := rfl
    have ze := e1.size
    have cel : ∀ W2, Chg (bk oa) w1.drew W2 → W2.cell? ((⟨b1, 0, none⟩ : Addr).add 0) = some (.int .i64 x.at_) ∧ W2.cell? ((⟨b1, 0, none⟩ : Addr).add 1) = some (.int .i64 x.len) ∧ W2.cell? ((⟨b1, 0, none⟩ : Addr).add 2) = some (.string ⟨⟨x.text⟩⟩) := by
      intro W2 hc
      have := hc.blk B1d (fun hh => by have := (ho.bk hh).2; omega)
      simp only [add_none, this.cell]; exact ⟨rfl, rfl, rfl⟩
    intro K47 hK47
    have e3 : (x.at_.toNat : Int) = x.at_ := by omega
    have rs := runE_snoc a x p [] 0
    -- both strings go in
    have go2 : ∀ (Q : Option Addr → Nat → Nat → World → Prop), (∀ a4 n4 c4 w4, K47 a4 n4 c4 w4 → Q a4 n4 c4 w4) →
        app Tryd.prog [74, 9] 74 (.slice oa (runE a p [] 0).1.length oc) (.string ⟨⟨(a.take x.at_.toNat).drop (runE a p [] 0).2⟩⟩) w1.drew fun a5 n5 c5 w5 => w5.cell? ((⟨b1, 0, none⟩ : Addr).add 2) = some (.string ⟨⟨x.text⟩⟩) ∧ app Tryd.prog [74, 9] 74 (.slice a5 n5 c5) (.string ⟨⟨x.text⟩⟩) w5 Q := by
      intro Q hQ
      refine app_str slT_byte (by kernel_rfl) ho1 (by omega) _ (by simp; omega) fun a5 c5 w5 o5 ch5 n5 => ⟨(cel w5 ch5).2.2, ?_⟩
      have z5 := ch5.size
      refine app_str slT_byte (by kernel_rfl) o5 (by omega) _ (by simp; omega) fun a6 c6 w6 o6 ch6 n6 => hQ _ _ _ _ (hK47 _ _ _ _ fun _ => ?_)
      have nb : ¬ bk a5 b1 := fun hh => (n5 b1 hh).elim (fun h => by have := (ho.bk h).2; omega) (fun h => by omega)
      have B6 := ch6.blk (ch5.blk B1d (fun hh => by have := (ho.bk hh).2; omega)) nb
      refine ⟨_, by rw [add_none, B6.cell]; rfl, _, by rw [add_none, B6.cell]; rfl, ⟨r.length, by simp, p ++ [x], r, hp', ?_, rfl, ?_, ?_, ?_, ?_⟩⟩
      · rw [wrap_nat (by omega)]; simp
      · rw [rs, wrap_id (by omega)]; simp only; omega
      · rw [rs]; simp; omega
      · rw [rs]
        simp only
        have : Lib.byteCells ((runE a p [] 0).1 ++ List.drop (runE a p [] 0).2 (List.take x.at_.toNat a) ++ x.text) = Lib.byteCells (runE a p [] 0).1 ++ Lib.byteCells (List.drop (runE a p [] 0).2 (List.take x.at_.toNat a)) ++ Lib.byteCells x.text := by simp [Lib.byteCells]
        rw [this]; exact o6
      · exact ext_chgS (ext_chgS E1 ch5 fun j hj => (ho1.bk hj).1) ch6 fun j hj => (o5.bk hj).1
    obtain ⟨d0, d1, d2⟩ := cel w1.drew (Chg.refl _ _)
    unfold drw
    refine ⟨_, d0, ?_⟩
    rw [← e3]
    have v := go2 _ (fun a4 n4 c4 w4 h => h)
    refine ssl_nat (by omega) (by omega) ?_
    obtain ⟨a5, n5, c5, w5, v1, v2, a6, n6, c6, w6, v3, v4⟩ := v
    exact ⟨⟨a5, n5, c5, w5, v1, _, v2, ⟨a6, n6, c6, w6, v3, v4⟩, trivial⟩, ⟨⟨a5, n5, c5, w5, v1, _, v2, ⟨a6, n6, c6, w6, v3, v4⟩, trivial⟩, ⟨_, d2, ⟨a5, n5, c5, w5, v1, ⟨a6, n6, c6, w6, v3, v4⟩, trivial⟩, trivial⟩, trivial⟩, trivial⟩
  have hr0 : r = [] := List.eq_nil_of_length_eq_zero (by omega)
  subst hr0
  rw [List.append_nil] at hp
  subst hp
  refine ssl_nat (by omega) (Nat.le_refl _) ?_
  rw [List.take_length]
  refine app_str slT_byte (by kernel_rfl) ho (by omega) _ (by simp; omega) fun a5 c5 w5 o5 ch5 n5 => ?_
  refine b2s_intro (B := w.heap.size) (l := res) ?_ (h _ (ext_chgS he ch5 fun j hj => (ho.bk hj).1))
  rw [← hres, show Lib.byteCells ((runE a l [] 0).1 ++ a.drop (runE a l [] 0).2) = Lib.byteCells (runE a l [] 0).1 ++ Lib.byteCells (a.drop (runE a l [] 0).2) by simp [Lib.byteCells]]
  exact o5
end Go.Proofs
namespace Go.Proofs
open Go Go.Sh Go.RowKit

theorem stF_chars {f : Fo} (h : FineF f) (hand : Int) : FineF (stF f hand) ∧ (charsF (stF f hand)).length ≤ 192 := by
  have h1 := h.res hand false
  have h2 := charsF_tlen (mergeF (resolveF f hand false))
  have h3 := h1.tl
  exact ⟨h1, by unfold stF; omega⟩
def scrF (s t : List UInt8) : List Edit := trE s t (s.length + t.length) s.length t.length
theorem scr_texts (a b : List UInt8) : ∀ (f i k : Nat), ∀ x ∈ trE a b f i k, x.text.length ≤ b.length
  | 0, _, _, x, hx => by simp [trE] at hx
  | f + 1, i, k, x, hx => by
    unfold trE at hx
    split at hx
    · simp at hx
    split at hx
    · exact scr_texts a b f _ _ x hx
    split at hx
    · rw [List.mem_append] at hx
      rcases hx with hx | hx
      · exact scr_texts a b f _ _ x hx
      · simp only [List.mem_singleton] at hx; subst hx; simp; omega
    split at hx
    · rw [List.mem_append] at hx
      rcases hx with hx | hx
      · exact scr_texts a b f _ _ x hx
      · simp only [List.mem_singleton] at hx; subst hx; simp
    · rw [List.mem_append] at hx
      rcases hx with hx | hx
      · exact scr_texts a b f _ _ x hx
      · simp only [List.mem_singleton] at hx; subst hx; simp; omega
theorem Changes_spec {R : Ending → World → Prop} {S : Nat → Prop} {w : World} {a : Option Addr} {n c : Nat} (f : Fo) (hand : Int) (hfi : FineF f) (h1 : 1 ≤ hand) (h8 : hand ≤ 8) (hF : Forms w) (hf : SlF S w a n f)
    (h : ∀ oa on oc w', OwnL encE w' w.heap.size 85 oa on oc (scrF (charsF (stF f (hand - 1))) (charsF (stF f hand))) → Ext w w' → R (.returned (.tuple ⟨[.slice oa on oc, .int .i64 0]⟩)) w') : Calls Tryd.prog F_hands_Changes ⟨[.slice a n c, .int .i64 hand]⟩ w R := by
  apply c_hands_Changes
  have hg := okF_good hfi.ok
  have hsz := hfi.size
  have htl := hfi.tl
  have t1 := tlen_resolve f (hand - 1) false
  have t2 := tlen_resolve f hand false
  have q1 := each_resolve (hand - 1) f hg
  have q2 := each_resolve hand f hg
  obtain ⟨f1, l1⟩ := stF_chars hfi (hand - 1)
  obtain ⟨f2, l2⟩ := stF_chars hfi hand
  unfold sh_hands_Changes
  rw [wrap_id (show -9223372036854775808 ≤ hand - 1 ∧ hand - 1 ≤ 9223372036854775807 by omega)]
  refine hcheck_spec f hand hfi.small hF hf fun w1 e1 => ⟨_, rfl, ?_⟩
  have et : errT f hand = 0 := by unfold errT; rw [hfi.check, if_neg (by simp), if_neg (by omega)]
  rw [et]
  refine br_neg (by simp) ?_
  refine resolved_spec f (hand - 1) (by omega) hg (by rw [q1]; omega) (hf.ext e1) fun a2 n2 c2 w2 h2 e2 => ⟨_, _, _, rfl, ?_⟩
  rw [q1] at h2
  have h2 : SlF _ w2 a2 n2 (stF f (hand - 1)) := h2
  have E2 := ext_trans e1 e2
  refine Characters_spec _ f1.small (hF.ext E2) h2 fun w3 e3 => ⟨_, _, rfl, ?_⟩
  rw [f1.check]
  simp only [ne_eq, not_true, if_false]
  refine br_neg (by simp) ?_
  have E3 := ext_trans E2 e3
  refine resolved_spec f hand (by omega) hg (by rw [q2]; omega) (hf.ext E3) fun a4 n4 c4 w4 h4 e4 => ⟨_, _, _, rfl, ?_⟩
  rw [q2] at h4
  have h4 : SlF _ w4 a4 n4 (stF f hand) := h4
  have E4 := ext_trans E3 e4
  refine Characters_spec _ f2.small (hF.ext E4) h4 fun w5 e5 => ⟨_, _, rfl, ?_⟩
  rw [f2.check]
  simp only [ne_eq, not_true, if_false]
  refine br_neg (by simp) ?_
  have E5 := ext_trans E4 e5
  have z5 := E5.size
  refine Script_spec _ _ (by omega) (by omega) fun oa on oc w6 o6 e6 => ⟨_, _, _, _, rfl, h _ _ _ _ ?_ (ext_trans E5 e6)⟩
  refine ⟨o6.1, o6.2.imp id ?_⟩
  rintro ⟨g, cap, cur, p1, p2, p3⟩
  exact ⟨g, cap, cur, p1, by omega, p3⟩

theorem HandsChanges_spec {R : Ending → World → Prop} {S : Nat → Prop} {w : World} {a : Option Addr} {n c : Nat} (f : Fo) (x : Int) (hx : 0 ≤ x ∧ x < 256) (hF : Forms w) (hf : SlF S w a n f) (h : ∀ w', Ext w w' → R (.returned (.bool true)) w') :
    Calls Tryd.prog F_law11_HandsChanges ⟨[.slice a n c, .int .u8 x]⟩ w R := by
  apply c_law11_HandsChanges
  have x1 : IntKind.i64.wrap x = x := wrap_id (by omega)
  have y0 : 0 ≤ x.tmod 8 := Int.tmod_nonneg _ hx.1
  have y1 : x.tmod 8 < 8 := Int.tmod_lt_of_pos x (by decide)
  have x2 : IntKind.i64.wrap (x.tmod 8 + 1) = x.tmod 8 + 1 := wrap_id (by omega)
  have x3 : IntKind.i64.wrap (x.tmod 8 + 1 - 1) = x.tmod 8 + 1 - 1 := wrap_id (by omega)
  simp only [sh_law11_HandsChanges, x1, x2, x3]
  refine fine_spec f hF hf fun b w1 hb e1 => ⟨_, rfl, br_cases (fun g => ?_) (fun g => ?_)⟩
  · exact awake_spec (hF.ext e1) fun w2 e2 => ⟨_, rfl, h _ (ext_trans e1 e2)⟩
  have hfi := hb (by simpa using g)
  obtain ⟨hand, hh⟩ : ∃ hand, hand = x.tmod 8 + 1 := ⟨_, rfl⟩
  simp only [← hh]
  have h1 : 1 ≤ hand := by omega
  have h8 : hand ≤ 8 := by omega
  obtain ⟨f1, l1⟩ := stF_chars hfi (hand - 1)
  obtain ⟨f2, l2⟩ := stF_chars hfi hand
  refine ⟨by decide, State_spec f _ hfi.small (hF.ext e1) (hf.ext e1) fun a2 n2 c2 w2 h2 e2 => ⟨_, _, _, _, rfl, ?_⟩⟩
  rw [hfi.resS false (by omega) (by omega)] at h2
  have h2 : SlF _ w2 a2 n2 (stF f (hand - 1)) := h2
  have E2 := ext_trans e1 e2
  refine State_spec f _ hfi.small (hF.ext E2) (hf.ext E2) fun a3 n3 c3 w3 h3 e3 => ⟨_, _, _, _, rfl, ?_⟩
  rw [hfi.resS false (by omega) (by omega)] at h3
  have h3 : SlF _ w3 a3 n3 (stF f hand) := h3
  have E3 := ext_trans E2 e3
  refine Characters_spec _ f1.small (hF.ext E3) (h2.ext e3) fun w4 e4 => ⟨_, _, rfl, ?_⟩
  have E4 := ext_trans E3 e4
  refine Characters_spec _ f2.small (hF.ext E4) (h3.ext e4) fun w5 e5 => ⟨_, _, rfl, ?_⟩
  have E5 := ext_trans E4 e5
  rw [f1.check, f2.check]
  simp only [ne_eq, not_true, if_false]
  refine Changes_spec f hand hfi h1 h8 (hF.ext E5) (hf.ext E5) fun oa on oc w6 o6 e6 => ⟨_, _, _, _, rfl, ?_⟩
  have E6 := ext_trans E5 e6
  rw [hfi.err (by omega) (by omega), hfi.err (by omega) (by omega)]
  refine br_neg (by decide) ?_
  generalize hs : charsF (stF f (hand - 1)) = s at *
  generalize ht : charsF (stF f hand) = t at *
  obtain ⟨r1, r2, r3⟩ := tr_run s t (s.length + t.length) s.length t.length (Nat.le_refl _) (Nat.le_refl _) (Nat.le_refl _)
  rw [List.take_length, List.take_length] at r3
  have rl := tr_len s t (s.length + t.length) s.length t.length (Nat.le_refl _)
  have bnd := ed_le (eqB s t) s.length t.length
  have hlen := o6.length
  refine Apply_spec s (scrF s t) (by omega) (by unfold scrF; rw [rl]; unfold eqE; omega) (fun x hx => by have := scr_texts s t _ _ _ x hx; omega) (OwnL.out o6) r1 t r3 (by omega) fun w7 e7 => ⟨_, _, rfl, ?_⟩
  refine Distance_spec s t (by omega) (by omega) fun w8 e8 => ⟨_, _, rfl, ?_⟩
  refine br_pos rfl (br_pos rfl (br_pos rfl (br_pos ?_ ?_)))
  · rw [← hlen]; unfold scrF; rw [rl]; rfl
  have E8 := ext_trans (ext_trans E6 e7) e8
  exact awake_spec (hF.ext E8) fun w9 e9 => ⟨_, rfl, h _ (ext_trans E8 e9)⟩
end Go.Proofs
