/- The contracts of the functions that the law reaches, one after the other, and at the end the law's card. -/
import Derived.Test.YtpnhhkjagkajoaaGreatDoorLawG
import Derived.Deep.Slices
import Derived.Test.YtpnhhkjagkajoaaGreatDoorCards
import Derived.Test.YtpnhhkjagkajoaaGreatDoorTie
import Derived.Deep.DeepHandedRow
import Derived.Lib.LaidTab
import Derived.Lib.LaidU8
import Derived.WalkKit
import Derived.ProofKit
import Derived.SizedLaws
namespace Go.Proofs
open Go Go.Sh Go.RowKit

variable {R : Ending → World → Prop} {w : World}
theorem want_take {L : List Lx} {k : Nat} (h : k < L.length) : wantT ((L.map tkX).take (k + 1)) = wantT ((L.map tkX).take k) + if L[k].k ≠ 3 then 1 else 0 := by
  rw [List.take_succ_eq_append_getElem (by rw [List.length_map]; exact h), wantT_app]
  congr 1
  rw [List.getElem_map]
  unfold wantT tkX
  by_cases hk : L[k].k = 3
  · simp [hk]
  · simp [hk]
def cntSum (f : Fo) : Nat → Nat
  | 0 => 0
  | n + 1 => cntSum f n + cntK ((n + 1 : Nat) : Int) f
theorem cntK_le (k : Int) : ∀ f : Fo, cntK k f ≤ f.size
  | .nil => Nat.le_refl _
  | .cons k' t n ps r => by
    have h1 := cntK_le k ps
    have h2 := cntK_le k r
    simp only [cntK, Fo.size]
    split <;> omega
theorem cntSum_le (f : Fo) : ∀ n : Nat, cntSum f n ≤ n * f.size
  | 0 => by simp [cntSum]
  | n + 1 => by
    have h1 := cntSum_le f n
    have h2 := cntK_le ((n + 1 : Nat) : Int) f
    rw [cntSum, Nat.add_mul, Nat.one_mul]; omega
set_option maxRecDepth 20000 in
theorem TranscriptLexemes_spec (s : List UInt8) (hF : Forms w) (hM : Mk w) (h : ∀ w', Ext w w' → R (.returned (.bool true)) w') :
    Calls Tryz.prog F_law10_TranscriptLexemes ⟨[.string ⟨⟨s⟩⟩]⟩ w R := by
  apply c_law10_TranscriptLexemes
  have aw : ∀ v, Ext w v → Calls Tryz.prog F_law10_awake ⟨[]⟩ v (fun e w' => ∃ x : Bool, e = .returned (.bool x) ∧ R (.returned (.bool x)) w') := fun v ev => awakeT_spec (hF.ext ev) (hM.ext ev) fun v' e' => ⟨_, rfl, h v' (ext_trans ev e')⟩
  refine GreatS_spec s fun b => ⟨_, rfl, br_cases (fun _ => aw w (Below.refl _ _)) (fun _ => ?_)⟩
  refine Parse_spec s hF hM fun a n c w9 hn hL e9 => ⟨_, _, _, _, rfl, ?_⟩
  refine br_split (fun _ => aw w9 e9) (fun g => ?_)
  have g0 : (parseF s).2 = 0 := Classical.not_not.1 g
  have hp : parseF s = ((parseF s).1, 0) := by rw [← g0]
  obtain ⟨p1, p2, p3, p4⟩ := parse_inv2 hp
  obtain ⟨l1, l2⟩ := parse_lex hp
  generalize (parseF s).1 = f at *
  obtain ⟨q1, q2, q3, q4⟩ := check_inv p3
  have hsm : small f := by unfold small; omega
  obtain ⟨hT, hll⟩ := scan_small s
  refine Scan_spec s (hM.ext e9) fun xa xn xc w16 hxn hO e16 => ⟨_, _, _, _, rfl, ?_⟩
  have E16 := ext_trans e9 e16
  have hX := OwnL.out hO
  refine Strip_spec s (hM.ext E16) fun w20 e20 => ⟨_, _, rfl, ?_⟩
  have E20 := ext_trans E16 e20
  refine Characters_spec f hsm (hF.ext E20) ((hL.ext e16).ext e20) fun w24 e24 => ⟨_, _, rfl, ?_⟩
  have E24 := ext_trans E20 e24
  rw [if_neg (fun hh => hh p3), if_neg (fun hh => hh p3), p1, l1, char_chars]
  have hX24 := (hX.ext e20).ext e24
  have hL24 := ((hL.ext e16).ext e20).ext e24
  generalize hLL : (scanF s).1 = L at *
  intro K27 hK27
  have k27 : K27 w24 := by
    refine hK27 _ fun _ => ?_
    refine ⟨fun wt t W m => ∃ k : Nat, t = k ∧ k ≤ xn ∧ m = xn - k ∧ wt = (wantT ((L.map tkX).take k) : Int) ∧ Ext w24 W, ⟨_, 0, rfl, by omega, rfl, rfl, Below.refl _ _⟩, ?_⟩
    rintro _ _ W m ⟨k, rfl, hk, rfl, rfl, he⟩ _
    have hwl : wantT ((L.map tkX).take k) ≤ k := Nat.le_trans (List.length_filter_le _ _) (by rw [List.length_take]; omega)
    refine br_split (fun hlt => ?_) (fun hge => ?_)
    · have hkL : k < L.length := by omega
      have hws := want_take hkL
      obtain ⟨q, hq, c0, c1, c2, c3⟩ := get_lx (hX24.ext he) hkL
      refine hq _ ⟨_, c0, _, c1, _, c2, _, c3, ?_⟩
      refine al_stL rfl one4 fun b40 w42 hb40 B40 e42 s42 => ?_
      obtain ⟨d0, _, _, _⟩ := blk4x (x := L[k]) B40
      refine ⟨_, d0, br_split (fun g3 => ?_) (fun g3 => ?_)⟩
      · rw [if_pos g3] at hws
        exact ⟨xn - (k + 1), by omega, k + 1, by rw [wrap_nat (by omega)], by omega, rfl, by rw [wrap_id (by omega)]; omega, ext_trans he e42⟩
      · rw [if_neg g3, Nat.add_zero] at hws
        exact ⟨xn - (k + 1), by omega, k + 1, by rw [wrap_nat (by omega)], by omega, rfl, (by rw [hws]; rfl), ext_trans he e42⟩
    · have hkn : (L.map tkX).take k = L.map tkX := List.take_of_length_le (by rw [List.length_map]; omega)
      rw [hkn, l2]
      refine ⟨fun sm t W2 m2 => ∃ k2 : Nat, t = ((k2 + 1 : Nat) : Int) ∧ k2 ≤ 11 ∧ m2 = 11 - k2 ∧ sm = (cntSum f k2 : Int) ∧ Ext w24 W2, ⟨_, 0, rfl, by omega, rfl, rfl, he⟩, ?_⟩
      rintro _ _ W2 m2 ⟨k2, rfl, hk2, rfl, rfl, he2⟩ _
      have hcs := cntSum_le f k2
      have hcs2 : k2 * f.size ≤ 11 * 4096 := Nat.mul_le_mul hk2 q1
      refine br_split (fun h11 => ?_) (fun h11 => ?_)
      · refine Count_spec f hsm (hF.ext (ext_trans E24 he2)) (hL24.ext he2) ((k2 + 1 : Nat) : Int) fun w53 e53 => ⟨_, _, rfl, ?_⟩
        have hcr : cntR f ((k2 + 1 : Nat) : Int) = ((cntK ((k2 + 1 : Nat) : Int) f : Int), 0) := by unfold cntR; rw [if_neg (fun hh => hh p3), if_neg (by omega)]
        rw [hcr]
        have hck := cntK_le ((k2 + 1 : Nat) : Int) f
        refine br_split (fun hh => absurd rfl hh) (fun _ => ?_)
        refine ⟨11 - (k2 + 1), by omega, k2 + 1, ?_, by omega, rfl, ?_, ext_trans he2 e53⟩
        · rw [wrap_nat (by omega)]
        · rw [wrap_id (by omega), cntSum]; omega
      · have hk11 : k2 = 11 := by omega
        subst hk11
        have hall := cnt_all (valid_shape q3)
        have hsum : cntSum f 11 = f.size := by
          rw [← hall]
          simp only [cntSum, Nat.zero_add]
          rfl
        rw [hsum]
        refine br_split (fun _ => aw W2 (ext_trans E24 he2)) (fun hh => absurd rfl hh)
  have hmax : max (max (0 : Int) 0) 0 = 0 := by decide
  refine br_split (fun hh => absurd hmax hh) (fun _ => br_split (fun hh => absurd rfl hh) (fun _ => k27))
end Go.Proofs
namespace Go.Proofs.YtpnhhkjagkajoaaGreatDoor
open Go Go.Sh Go.RowKit Go.ChangeShapes Go.WideShapes Go.ChangeAt

theorem len4 {α : Type} {l : List α} (h : l.length = 4) : ∃ a b c d, l = [a, b, c, d] := by
  match l, h with
  | [a, b, c, d], _ => exact ⟨a, b, c, d, rfl⟩
theorem own : ownKnob Tryz.prog.godebug = none := by kernel_rfl
theorem laidOut : laidOutB Tryz.prog = true := by kernel_rfl
theorem form_row {W : World} {m : Nat} {cs : List Value} {x : DataW Unit × List MemPlace} {tag : List UInt8} {a b c : Bool} (h : DataW.trod (fun _ => ()) Tryz.prog W 0 (fun _ => true) false m 94 cs = some x)
    (hx : x.1 = .agg [.lit (.string tag), .lit (.bool a), .lit (.bool b), .lit (.bool c)]) : cs = [.string ⟨⟨tag⟩⟩, .bool a, .bool b, .bool c] := by
  have h96 : Tryz.prog.cellsOf 94 = 4 := by kernel_rfl
  have h9 : Tryz.prog.cellsOf 9 = 1 := by kernel_rfl
  have h4 : Tryz.prog.cellsOf 4 = 1 := by kernel_rfl
  obtain ⟨xs, n, rfl, rfl, hl, hxl, hf⟩ := DataW.trod_struct Tryz.underlying94 h
  rw [h96] at hl
  obtain ⟨v0, v1, v2, v3, rfl⟩ := len4 hl
  obtain ⟨y0, y1, y2, y3, rfl⟩ := len4 (show xs.length = 4 from hxl)
  simp only [List.map_cons, List.map_nil, DataW.agg.injEq, List.cons.injEq, and_true] at hx
  obtain ⟨z0, z1, z2, z3⟩ := hx
  have g0 := hf 0 _ rfl
  have g1 := hf 1 _ rfl
  have g2 := hf 2 _ rfl
  have g3 := hf 3 _ rfl
  obtain ⟨t, e0, f0, _⟩ := DataW.trod_string Tryz.underlying9 g0
  obtain ⟨b1, e1, f1⟩ := DataW.trod_bool Tryz.underlying4 g1
  obtain ⟨b2, e2, f2⟩ := DataW.trod_bool Tryz.underlying4 g2
  obtain ⟨b3, e3, f3⟩ := DataW.trod_bool Tryz.underlying4 g3
  simp [h9, h4] at e0 e1 e2 e3
  subst e0 e1 e2 e3
  try simp at f0 f1 f2 f3
  rw [f0] at z0
  rw [f1] at z1
  rw [f2] at z2
  rw [f3] at z3
  simp at z0 z1 z2 z3
  subst z0 z1 z2 z3
  rfl
set_option maxRecDepth 20000 in
theorem forms_of {W : World} (h : laidMetH Tryz.prog Rows.transcriptLexemesRow.laid W) : Forms W := by
  obtain ⟨ps, hv, _, _⟩ := (show laidMet Tryz.prog Rows.transcriptLexemesRow.laid W from h)
  obtain ⟨g1, t1, c1, f1, p1, q1, _, _, _, _, hv, _⟩ := hv
  obtain ⟨g2, t2, c2, f2, p2, q2, _, _, _, _, hv, _⟩ := hv
  obtain ⟨g3, t3, c3, f3, p3, q3, _, _, _, _, hv, _⟩ := hv
  obtain ⟨g5, t5, c5, f5, p5, q5, _, _, _, _, hv, _⟩ := hv
  obtain ⟨g6, t6, c6, f6, p6, q6, _, _, _, _, hv, _⟩ := hv
  obtain ⟨g4, t4, cs, f4, p4, q4, hg, ht, hvar, hd, hv, _⟩ := hv
  have hg0 : Tryz.prog.globalNamed "apograph/transcript.forms" = some 0 := by kernel_rfl
  have ht0 : (Tryz.prog.globals[0]?).map (·.type) = some 95 := by kernel_rfl
  obtain rfl := Option.some.inj (hg0.symm.trans hg)
  obtain rfl := Option.some.inj (ht0.symm.trans ht)
  have h96 : Tryz.prog.cellsOf 94 = 4 := by kernel_rfl
  have h97 : Tryz.prog.cellsOf 95 = 48 := by kernel_rfl
  obtain ⟨xs, m, rfl, hx, hl, hxl, hall⟩ := DataW.trod_array Tryz.underlying95 hd
  rw [h97] at hl
  rw [h96] at hall
  simp only [Prod.mk.injEq, Rows.laid_apograph_transcript_forms, DataW.agg.injEq] at hx
  obtain ⟨hm, _⟩ := hx
  have chunk : ∀ i, i < 12 → (cs.toList.drop (i * 4)).take 4 = (formsCells.drop (i * 4)).take 4 := by
    intro i hi
    have hh := hall i hi
    have hxi : (xs[i]?).map (·.1) = _ := (List.getElem?_map (f := (·.1)) (l := xs) (i := i)).symm.trans (by rw [← hm])
    rw [List.getElem?_eq_getElem (by omega)] at hh hxi
    simp only [Option.map_some] at hxi
    rcases (by omega : i = 0 ∨ i = 1 ∨ i = 2 ∨ i = 3 ∨ i = 4 ∨ i = 5 ∨ i = 6 ∨ i = 7 ∨ i = 8 ∨ i = 9 ∨ i = 10 ∨ i = 11) with rfl | rfl | rfl | rfl | rfl | rfl | rfl | rfl | rfl | rfl | rfl | rfl <;>
      exact form_row hh (Option.some.inj hxi)
  have hsz : 0 < W.heap.size := by
    simp only [World.var?, hg0, Option.bind_some] at hvar
    split at hvar
    · rename_i hh; exact (Array.getElem?_eq_some_iff.1 hh).1
    · cases hvar
  refine ⟨hsz, fun j v hj => ?_⟩
  have hj48 : j < 48 := by have := (List.getElem?_eq_some_iff.1 hj).1; exact this
  rw [World.var?_cell hg0 hvar j]
  have hc := chunk (j / 4) (by omega)
  have e : ∀ l : List Value, l[j]? = ((l.drop (j / 4 * 4)).take 4)[j - j / 4 * 4]? := fun l => by
    rw [List.getElem?_take, if_pos (by omega), List.getElem?_drop]
    congr 1; omega
  rw [← Array.getElem?_toList, e, hc, ← e]; exact hj

theorem trod_iface {P : Program} {W : World} {fuel : Nat} {t : TypeId} {cs : List Value} {ms : Array (String × TypeId)} {nm : String} {d : DataW Unit} {p : List MemPlace} (hu : P.underlying t = some (.interface ms)) (h : DataW.trod (fun _ => ()) P W 0 (fun _ => true) false fuel t cs = some (.iface nm d, p)) : ∃ u v, cs = [.iface u v] := by
  cases fuel with
  | zero => simp [DataW.trod] at h
  | succ n =>
    unfold DataW.trod at h
    rw [hu] at h
    split at h <;> simp_all
theorem err_of {W : World} {n : String} {nm : String} {d : DataW Unit} {g : Nat} {ti : TypeId} {ms : Array (String × TypeId)} (h : Go.Lib.VarReads Tryz.prog W n (.iface nm d)) (hg : Tryz.prog.globalNamed n = some g) (ht : (Tryz.prog.globals[g]?).map (·.type) = some ti) (hi : Tryz.prog.underlying ti = some (.interface ms)) :
    ∃ t p, W.cell? ⟨g, 0, none⟩ = some (.iface t p) := by
  obtain ⟨g', t', cs, fuel, p, hg', ht', hv, hd⟩ := h
  obtain rfl := Option.some.inj (hg.symm.trans hg')
  obtain rfl := Option.some.inj (ht.symm.trans ht')
  obtain ⟨u, v, hc⟩ := trod_iface hi hd
  refine ⟨u, v, ?_⟩
  rw [World.var?_cell hg hv 0]
  have := congrArg (fun l => l[0]?) hc
  simpa using this
theorem mk_of {W : World} (h : laidMetH Tryz.prog Rows.transcriptLexemesRow.laid W) (hSh : W.ShapedOpen Tryz.prog) : Mk W := by
  have h := (show laidMet Tryz.prog Rows.transcriptLexemesRow.laid W from h)
  have e1 := Go.Lib.laidMet.reads h (n := "strconv.ErrSyntax") (d := Rows.laid_strconv_ErrSyntax) (.tail _ (.tail _ (.tail _ (.tail _ (.head _)))))
  have e2 := Go.Lib.laidMet.reads h (n := "strconv.ErrRange") (d := Rows.laid_strconv_ErrRange) (.tail _ (.tail _ (.tail _ (.head _))))
  exact ⟨Tryz.laysM145.s1_3 W hSh, err_of e1 (by kernel_rfl) (by kernel_rfl) Tryz.underlying72, err_of e2 (by kernel_rfl) (by kernel_rfl) Tryz.underlying72⟩

/- slices of lexemes, out of what a row says of the arguments -/
theorem row_buildQ {α : Type} {E : Enc α} {Q : α → Prop} {w : World} {a : Addr} {len : Nat} (hel : ∀ i, i < len → ∃ x : α, Q x ∧ ∀ j v, (E.enc x)[j]? = some v → w.cell? ((a.add (i * E.size)).add j) = some v) :
    ∃ L : List α, RowAt E (fun _ => True) w (some a) len L ∧ ∀ x ∈ L, Q x := by
  by_cases hl0 : len = 0
  · subst hl0; exact ⟨[], RowAt.nil _, fun x hx => by cases hx⟩
  obtain ⟨b, o, rfl⟩ : ∃ b o, a = ⟨b, o, none⟩ := by
    obtain ⟨x, _, hx⟩ := hel 0 (by omega)
    have hp := E.pos
    have h0 := hx 0 _ (List.getElem?_eq_getElem (by rw [E.len]; exact hp))
    obtain ⟨b, o, spot⟩ := a
    have hspot : spot = none := by simpa [Addr.add] using World.cell?_spot h0
    subst hspot
    exact ⟨b, o, rfl⟩
  have build : ∀ k, k ≤ len → ∃ L : List α, L.length = k ∧ (∀ j v, (E.row L)[j]? = some v → w.cell? ((⟨b, o, none⟩ : Addr).add j) = some v) ∧ ∀ x ∈ L, Q x := by
    intro k
    induction k with
    | zero => exact fun _ => ⟨[], rfl, fun j v hj => by simp at hj, fun x hx => by cases hx⟩
    | succ k ihk =>
      intro hk
      obtain ⟨L, hL, hus, hq⟩ := ihk (by omega)
      obtain ⟨x, hQ, hx⟩ := hel k (by omega)
      refine ⟨L ++ [x], by simp [hL], fun j v hj => ?_, fun y hy => ?_⟩
      · rw [row_snoc] at hj
        by_cases hlt : j < (E.row L).length
        · rw [List.getElem?_append_left hlt] at hj
          exact hus j v hj
        · rw [List.getElem?_append_right (by omega)] at hj
          have := hx _ _ hj
          rw [add_none, add_none] at this
          rw [row_len, hL] at this hlt
          rw [add_none, show o + j = o + k * E.size + (j - k * E.size) by omega]
          exact this
      · rcases List.mem_append.1 hy with hy | hy
        · exact hq y hy
        · rw [List.mem_singleton.1 hy]; exact hQ
  obtain ⟨L, hL, hus, hq⟩ := build len (Nat.le_refl _)
  refine ⟨L, ⟨hL.symm, ?_⟩, hq⟩
  cases hr : E.row L with
  | nil => exact .inl rfl
  | cons u us =>
    rw [hr] at hus
    have h0 := hus 0 u rfl
    refine .inr ⟨b, o, rfl, trivial, ?_, fun j v hj => ?_⟩
    · have := World.block_lt_of_cell? w _ h0
      simpa [Addr.add] using this
    · have := hus j v hj
      rw [add_none] at this; exact this
theorem weightsAll_mem {H : Type} {P : Program} {e : TypeId} : ∀ {ds : List (DataW H)} {d : DataW H} {m : Nat}, d ∈ ds → m ∈ d.weights P e → m ∈ DataW.weightsAll P e ds
  | d0 :: ds, d, m, hd, hm => by
    rw [DataW.weightsAll, List.mem_append]
    rcases List.mem_cons.1 hd with rfl | hd
    · exact .inl hm
    · exact .inr (weightsAll_mem hd hm)
set_option maxRecDepth 20000 in
theorem open_lexs {H : Type} {enc : TypeId × Value → H} {w : World} {base : Nat} {sp : Nat → Bool} {hd : Bool} (fuel : Nat) (cs : List Value) (x : DataW H × List MemPlace) (hz : ∀ m ∈ x.1.weights Tryz.prog 43, m ≤ reachBytes) (h : DataW.trod enc Tryz.prog w base sp hd fuel 43 cs = some x) :
    ∃ (a : Option Addr) (n c : Nat) (L : List Lx), cs = [.slice a n c] ∧ RowAt encX (fun _ => True) w a n L ∧ BigX L := by
  rcases DataW.trod_slice Tryz.underlying43 h with ⟨rfl, _⟩ | ⟨a, len, cap, elems, rest, n, rfl, rfl, hx, hb, hl, hm, hel, hall, _⟩
  · exact ⟨none, 0, 0, [], rfl, RowAt.nil _, by simp, fun x hx => by cases hx⟩
  have hr : reachBytes = 140737488351232 := rfl
  have hbz : Tryz.prog.bytesOf 48 = 48 := by kernel_rfl
  have hw : x.1.weights Tryz.prog 43 = (elems.length + rest.length) * 48 :: (DataW.weightsAll Tryz.prog 48 (elems.map (·.1)) ++ DataW.weightsAll Tryz.prog 48 (rest.map (·.1))) := by
    rw [hx]
    simp only [DataW.weights, Tryz.underlying43, hbz, List.length_map]
  rw [hw] at hz
  have hlen : len ≤ 140737488355328 := by
    have := hz _ List.mem_cons_self
    omega
  have h9 : Tryz.prog.cellsOf 9 = 1 := by kernel_rfl
  have h3 : Tryz.prog.cellsOf 3 = 1 := by kernel_rfl
  have h4 : Tryz.prog.cellsOf 48 = 4 := by kernel_rfl
  obtain ⟨L, hL, hq⟩ := row_buildQ (E := encX) (Q := fun x : Lx => x.nm.length ≤ 140737488355328 ∧ x.vl.length ≤ 140737488355328) (w := w) (a := a) (len := len) fun i hi => by
    have hh := hall i hi
    have hei : elems[i]? = some (elems[i]'(by omega)) := List.getElem?_eq_getElem (by omega)
    rw [hei] at hh
    obtain ⟨cs', hc1, hc2⟩ := Option.bind_eq_some_iff.1 hh
    rw [h4] at hc1
    obtain ⟨_, hlen, hcell⟩ := World.cells?_some hc1
    obtain ⟨xs, n', rfl, hxx, hcl, hxl, hf⟩ := DataW.trod_struct Tryz.underlying48 hc2
    obtain ⟨v0, v1, v2, v3, rfl⟩ := len4 hlen
    obtain ⟨y0, y1, y2, y3, rfl⟩ := len4 (show xs.length = 4 from hxl)
    have g0 := hf 0 _ rfl
    have g1 := hf 1 _ rfl
    have g2 := hf 2 _ rfl
    have g3 := hf 3 _ rfl
    try dsimp only at g0
    try simp only [h3] at g0
    try dsimp only at g1
    try simp only [h9] at g1
    try dsimp only at g2
    try simp only [h9] at g2
    try dsimp only at g3
    try simp only [h3] at g3
    obtain ⟨k, e0, z0, _⟩ := DataW.trod_int (k := .i64) Tryz.underlying3 g0
    obtain ⟨t, e1, z1, _⟩ := DataW.trod_string Tryz.underlying9 g1
    obtain ⟨u, e2, z2, _⟩ := DataW.trod_string Tryz.underlying9 g2
    obtain ⟨m, e3, z3, _⟩ := DataW.trod_int (k := .i64) Tryz.underlying3 g3
    simp [h9, h3] at e0 e1 e2 e3
    subst e0 e1 e2 e3
    have hwe : ∀ q ∈ (elems[i]'(by omega)).1.weights Tryz.prog 48, q ≤ reachBytes := fun q hq => hz q (List.mem_cons_of_mem _ (List.mem_append_left _ (weightsAll_mem (List.mem_map_of_mem (List.getElem_mem (by omega))) hq)))
    rw [hxx, z0, z1, z2, z3] at hwe
    have w1 := hwe t.data.toList.length (by simp [DataW.weights, Tryz.underlying48, DataW.weightsEach])
    have w2 := hwe u.data.toList.length (by simp [DataW.weights, Tryz.underlying48, DataW.weightsEach])
    refine ⟨⟨k, t.data.toList, u.data.toList, m⟩, ⟨by show t.data.toList.length ≤ _; omega, by show u.data.toList.length ≤ _; omega⟩, fun j v hj => ?_⟩
    have hj4 : j < 4 := (List.getElem?_eq_some_iff.1 hj).1
    rw [show i * encX.size = i * 4 from rfl, hcell j hj4]
    exact hj
  exact ⟨some a, len, cap, L, rfl, hL, by have := hL.1; omega, hq⟩
theorem u8_wf {n : Int} (h : (Lit.int .u8 n).wf = true) : 0 ≤ n ∧ n < 256 := by
  simp [Lit.wf, IntKind.min, IntKind.max, IntKind.signed, IntKind.bits] at h
  omega
noncomputable def flatV : Nat → DataW Unit → List Value
  | n + 1, .agg l => l.flatMap (flatV n)
  | _, .lit (.int k n) => [.int k n]
  | _, .lit (.bool b) => [.bool b]
  | _, .lit (.string s) => [.string ⟨s.toArray⟩]
  | _, _ => []
noncomputable def putG (h : Array Obj) (g : Nat) (cs : List Value) : Array Obj := h.modify g fun
  | .cells _ t frozen => .cells ⟨cs⟩ t frozen
  | o => o
noncomputable def layOne (h : Array Obj) (g : Nat) (d : DataW Unit) : Array Obj := match d with
  | .iface _ (.ptr (.agg [.lit (.string t)])) => putG (h.push (.cells ⟨[.string ⟨t.toArray⟩]⟩ 165 (0, 0))) g [.iface 163 (.pointer (some ⟨h.size, 0, none⟩))]
  | d => putG h g (flatV 5 d)
noncomputable def layAll (laid : List (String × DataW Unit)) (h : Array Obj) : Array Obj :=
  laid.foldl (fun h x => match Tryz.prog.globalNamed x.1 with
    | some g => layOne h g x.2
    | none => h) h
noncomputable def laidWorldOf (laid : List (String × DataW Unit)) (os : Os) : World :=
  { World.holding Tryz.prog os ⟨#[], #[], []⟩ with heap := layAll laid (World.holding Tryz.prog os ⟨#[], #[], []⟩).heap }
end Go.Proofs.YtpnhhkjagkajoaaGreatDoor
namespace Go.Proofs
open Go Go.Sh Go.RowKit

variable {R : Ending → World → Prop} {w : World}
theorem kindN_eq {nm : List UInt8} (h : knownB nm = true) : ∀ i : Nat, i < 12 → 2 ≤ i → (decide (tagF i = nm) = decide (i = kindN nm)) :=
  known_cases (C := fun nm => ∀ i : Nat, i < 12 → 2 ≤ i → (decide (tagF i = nm) = decide (i = kindN nm))) h (by decide +kernel)
set_option maxRecDepth 20000 in
theorem nodeR_spec (x : Lx) (hx : tkOk (tkX x)) (h3 : x.k ≠ 3) (hl : x.vl.length ≤ 1000000000)
    (h : ∀ w', Ext w w' → R (.returned (.agg ⟨cellsH (headF (tkX x)) none 0 0⟩)) w') : Calls Tryz.prog F_ref10_node ⟨[aggX x]⟩ w R := by
  apply c_ref10_node
  refine al_intro fun b5 w6 hb5 B5 e6 s6 => ?_
  refine al_intro fun b7 w8 hb7 B7 e8 s8 => ?_
  obtain ⟨c0, c1, c2, c3⟩ := blk4x (B5.ext e8)
  have E8 := ext_trans e6 e8
  have z6 := e6.size
  refine ⟨_, c0, br_split (fun g => ⟨_, c2, ?_⟩) (fun g => ?_)⟩
  · have e : headF (tkX x) = ⟨1, x.vl, 0⟩ := by unfold headF; rw [if_pos (show (tkX x).k = 1 from g)]; rfl
    rw [e] at h
    exact st4n B7 rfl fun w' hc => h w' (ext_two E8 hc (by omega))
  have hkn : knownB x.nm = true := by
    rcases hx with hx | hx
    · exact absurd hx.1 g
    · exact hx.2.1
  obtain ⟨k1, k2, _⟩ := kindN_at hkn
  have hke := kindN_eq hkn
  have hh : headF (tkX x) = ⟨kindN x.nm, if textsF (kindN x.nm) then x.vl else [], if textsF (kindN x.nm) then 0 else if numsF (kindN x.nm) then numOf x.vl else 0⟩ := by unfold headF; rw [if_neg (show ¬ (tkX x).k = 1 from g)]; rfl
  rw [hh] at h
  refine al_stL rfl one4n fun b16 w18 hb16 B16 e18 s18 => ?_
  have z8 := e8.size
  have E18 := ext_trans E8 e18
  refine ⟨fun t W m => ∃ k : Nat, t = k ∧ 2 ≤ k ∧ k ≤ 12 ∧ m = 12 - k ∧ Blk W b16 [.int .i64 (if kindN x.nm < k then (kindN x.nm : Int) else 0), .string ⟨⟨[]⟩⟩, .int .i64 0, .slice none 0 0] 35 ∧ Ext w8 W, ⟨_, 2, rfl, by omega, by omega, rfl, by rw [if_neg (by omega)]; exact B16, e18⟩, ?_⟩
  rintro _ W m ⟨k, rfl, hk2, hk12, rfl, BW, he⟩ _
  have zW := he.size
  refine br_split (fun hlt => ?_) (fun hge => ?_)
  · unfold drw
    have Ed := ext_trans he (ext_drew W)
    have go : ∀ v, Ext W.drew v → br (decide (tagF (k : Int) = x.nm)) (stL v ((⟨b16, 0, none⟩ : Addr).add 0) 0 [.int .i64 (k : Int)] fun w29 => ∃ m30 : Nat, m30 < 12 - k ∧ ∃ k' : Nat, IntKind.i64.wrap ((k : Int) + 1) = k' ∧ 2 ≤ k' ∧ k' ≤ 12 ∧ m30 = 12 - k' ∧ Blk w29 b16 [.int .i64 (if kindN x.nm < k' then (kindN x.nm : Int) else 0), .string ⟨⟨[]⟩⟩, .int .i64 0, .slice none 0 0] 35 ∧ Ext w8 w29)
        (∃ m30 : Nat, m30 < 12 - k ∧ ∃ k' : Nat, IntKind.i64.wrap ((k : Int) + 1) = k' ∧ 2 ≤ k' ∧ k' ≤ 12 ∧ m30 = 12 - k' ∧ Blk v b16 [.int .i64 (if kindN x.nm < k' then (kindN x.nm : Int) else 0), .string ⟨⟨[]⟩⟩, .int .i64 0, .slice none 0 0] 35 ∧ Ext w8 v) := by
      intro v ev
      rw [hke k (by omega) hk2]
      have Bv := (BW.ext (ext_drew W)).ext ev
      have Ev := ext_trans Ed ev
      refine br_split (fun g1 => ?_) (fun g1 => ?_)
      · refine setN Bv (i := 0) (by simp) rfl fun w29 B29 c29 s29 => ?_
        refine ⟨12 - (k + 1), by omega, k + 1, by rw [wrap_nat (by omega)], by omega, by omega, rfl, ?_, ext_two Ev c29 (by omega)⟩
        rw [if_pos (by omega), ← g1]; exact B29
      · refine ⟨12 - (k + 1), by omega, k + 1, by rw [wrap_nat (by omega)], by omega, by omega, rfl, ?_, Ev⟩
        have e : (if kindN x.nm < k + 1 then (kindN x.nm : Int) else 0) = (if kindN x.nm < k then (kindN x.nm : Int) else 0) := by
          by_cases hq : kindN x.nm < k
          · rw [if_pos hq, if_pos (by omega)]
          · rw [if_neg hq, if_neg (by omega)]
        rw [e]; exact Bv
    have c1d : ∀ v, Ext W.drew v → v.cell? ((⟨b5, 0, none⟩ : Addr).add 1) = some (.string ⟨⟨x.nm⟩⟩) := fun v ev => cell_ext c1 (ext_trans Ed ev)
    have nm : ∀ {K : Ending → World → Prop}, (∀ v, Ext W.drew v → K (.returned (.string ⟨⟨tagF (k : Int)⟩⟩)) v) → Calls Tryz.prog F_ref10_name ⟨[.int .i64 (k : Int)]⟩ W.drew K := fun hK => name_spec (k : Int) (by omega) (by omega) hK
    exact ⟨nm fun v ev => ⟨_, rfl, _, c1d v ev, go v ev⟩, ⟨nm fun v ev => ⟨_, rfl, _, c1d v ev, go v ev⟩, ⟨_, c1d _ (Below.refl _ _), nm fun v ev => ⟨_, rfl, go v ev⟩, trivial⟩, trivial⟩, trivial⟩
  · have hk : k = 12 := by omega
    subst hk
    rw [if_pos (by omega)] at BW
    have EW := ext_trans E8 he
    have B5w := (B5.ext e8).ext he
    have B7w := B7.ext he
    obtain ⟨_, _, d2, _⟩ := blk4x B5w
    obtain ⟨y0, y1, y2, y3⟩ := blk4 BW
    intro K46 hK46
    have k46 : ∀ (v : World) (t : List UInt8), t = (if textsF (kindN x.nm) then x.vl else []) → Blk v b16 [.int .i64 (kindN x.nm : Int), .string ⟨⟨t⟩⟩, .int .i64 0, .slice none 0 0] 35 → Ext w8 v → K46 v := by
      intro v t ht Bv ev
      refine hK46 _ fun _ => ?_
      obtain ⟨u0, u1, u2, u3⟩ := blk4 Bv
      have zv := ev.size
      have B7v := B7.ext ev
      refine ⟨_, u0, numbers_spec _ ⟨_, rfl, br_cases (fun gn => ?_) (fun gn => ?_)⟩⟩
      · have gt : textsF (kindN x.nm) = false := by
          cases hc : textsF (kindN x.nm) with
          | false => rfl
          | true =>
            have h1 : ((kindN x.nm : Nat) : Int) = 1 ∨ ((kindN x.nm : Nat) : Int) = 3 ∨ ((kindN x.nm : Nat) : Int) = 4 ∨ ((kindN x.nm : Nat) : Int) = 10 ∨ ((kindN x.nm : Nat) : Int) = 11 := by simpa [textsF] using hc
            have h2 : ((kindN x.nm : Nat) : Int) = 6 ∨ ((kindN x.nm : Nat) : Int) = 8 ∨ ((kindN x.nm : Nat) : Int) = 9 := by simpa [numsF] using gn
            omega
        obtain ⟨vv, hv, hnv⟩ := num_ok hx g h3 gn gt
        have d2v : v.cell? ((⟨b5, 0, none⟩ : Addr).add 2) = some (.string ⟨⟨x.vl⟩⟩) := cell_ext c2 ev
        refine ⟨_, d2v, (Tryz.strconv_Atoi_ok ⟨⟨x.vl⟩⟩ (by show x.vl.length ≤ _; omega) vv hv v).mono ?_⟩
        rintro e w54 ⟨rfl, hw⟩
        have he5 : Ext v w54 := by
          rcases hw with rfl | ⟨t, rfl⟩
          · exact Below.refl _ _
          · exact Joins.below_bytesWorld _ _ _ _ (Nat.le_refl _)
        refine ⟨vv, .nilIface, rfl, ?_⟩
        have z54 := he5.size
        refine setN (Bv.ext he5) (i := 2) (by simp) rfl fun w57 B57 c57 s57 => ?_
        simp only [gt, gn, Bool.false_eq_true, if_false, if_true] at h ht
        rw [show numOf x.vl = vv from hnv] at h
        subst ht
        exact outN_ok (n := vv) B57 (c57.blk (B7v.ext he5) (by omega)) rfl fun w' hc => h w' (ext_two (ext_two (ext_trans (ext_trans E8 ev) he5) c57 (by omega)) hc (by omega))
      · have hn0 : (if textsF (kindN x.nm) then (0 : Int) else if numsF (kindN x.nm) then numOf x.vl else 0) = 0 := by rw [gn]; simp
        rw [hn0, ← ht] at h
        exact outN_ok Bv B7v rfl fun w' hc => h w' (ext_two (ext_trans E8 ev) hc (by omega))
    refine ⟨_, y0, texts_spec _ ⟨_, rfl, br_cases (fun gt => ⟨_, d2, ?_⟩) (fun gt => ?_)⟩⟩
    · refine setN BW (i := 1) (by simp) rfl fun w81 B81 c81 s81 => ?_
      exact k46 w81 x.vl (by rw [gt]; rfl) B81 (ext_two he c81 (by omega))
    · exact k46 W [] (by rw [gt]; rfl) BW he
/- the tokens of a node, the first one first -/
theorem tks_cons (k : Int) (t : List UInt8) (n : Int) (ps r : Fo) : tksF (.cons k t n ps r) = tksF (.one k t n ps) ++ tksF r := by
  have : Fo.cons k t n ps r = (Fo.one k t n ps).app r := rfl
  rw [this, tksF_app]
set_option maxRecDepth 20000 in
theorem listR_spec {S : Nat → Prop} {a : Option Addr} {n c : Nat} (L : List Lx) (hT : totX L ≤ 1000000000) (htk : ∀ x ∈ L, tkOk (tkX x)) (hll : L.length ≤ 65536) : ∀ (g : Fo) {R : Ending → World → Prop} {w : World} (pre rest : List Tk) (hL : RowAt encX S w a n L) (heq : L.map tkX = pre ++ (tksF g ++ rest)) (hg : shapeF g) (hr : rest = [] ∨ ∃ x r, rest = x :: r ∧ x.k = 3)
    (h : ∀ a' n' c' w', n' = g.len → SlF (fun j => w.heap.size ≤ j) w' a' n' g → Ext w w' → R (.returned (.tuple ⟨[.slice a' n' c', .int .i64 ((pre.length + (tksF g).length : Nat) : Int)]⟩)) w'),
    Calls Tryz.prog F_ref10_list ⟨[.slice a n c, .int .i64 (pre.length : Int)]⟩ w R := by
  intro g
  induction hz : g.size using Nat.strongRecOn generalizing g with
  | _ z ih =>
  intro R w pre rest hL heq hg hr h
  apply c_ref10_list
  have hn : n = L.length := hL.1
  have hlen : L.length = pre.length + ((tksF g).length + rest.length) := by
    have := congrArg List.length heq
    simpa using this
  refine al_intro fun b3 w4 hb3 B3 e4 s4 => ?_
  refine ⟨fun i oa on oc W m => ∃ (g1 g2 : Fo), g = g1.app g2 ∧ i = ((pre.length + (tksF g1).length : Nat) : Int) ∧ m = g2.len ∧ OwnF 35 (fun _ => False) w.heap.size W oa on oc g1 ∧ Ext w W, ⟨_, .nil, g, rfl, rfl, rfl, ⟨rfl, [], Owns.made B3 (by omega), rfl⟩, e4⟩, ?_⟩
  rintro _ oa on oc W m ⟨g1, g2, hg12, rfl, rfl, hO, he⟩ _
  have hlg : (tksF g).length = (tksF g1).length + (tksF g2).length := by rw [hg12, tksF_app, List.length_append]
  have zW := he.size
  have fin : g2 = .nil → R (.returned (.tuple ⟨[.slice oa on oc, .int .i64 ((pre.length + (tksF g1).length : Nat) : Int)]⟩)) W := by
    intro hn0
    subst hn0
    rw [Fo.app_nil] at hg12
    subst hg12
    exact h oa on oc W hO.len (hO.out.imp fun k hk _ => hk.elim (fun h => h.elim) id) he
  intro K11 hK11
  cases g2 with
  | nil =>
    rw [show tksF .nil = [] from rfl, List.length_nil] at hlg
    rcases hr with hr | ⟨x, r, hr, hx3⟩
    · subst hr
      rw [List.length_nil] at hlen
      refine br_split (fun hh => absurd hh (by omega)) (fun _ => fin rfl)
    · have hi : pre.length + (tksF g1).length < L.length := by rw [hr, List.length_cons] at hlen; omega
      have htok : tkX (L[pre.length + (tksF g1).length]'hi) = x := by
        have h1 : (L.map tkX)[pre.length + (tksF g1).length]? = some (tkX (L[pre.length + (tksF g1).length]'hi)) := by rw [List.getElem?_map, List.getElem?_eq_getElem hi]; rfl
        rw [heq, ← List.append_assoc, List.getElem?_append_right (by rw [List.length_append]; omega), hr] at h1
        rw [show pre.length + (tksF g1).length - (pre ++ tksF g).length = 0 by rw [List.length_append]; omega] at h1
        exact (Option.some.inj h1).symm
      obtain ⟨q, hq, c0, _⟩ := get_lx (hL.ext he) hi
      refine br_split (fun _ => hq _ ⟨_, c0, br_split (fun g3 => absurd (show (L[pre.length + (tksF g1).length]'hi).k = 3 from (show (tkX _).k = 3 by rw [htok]; exact hx3)) g3) (fun _ => fin rfl)⟩) (fun hh => absurd (by omega) hh)
  | cons k t nn ps r =>
    have hsh : shapeF (.cons k t nn ps r) := (shape_app.1 (hg12 ▸ hg)).2
    obtain ⟨s1, s2, s3, s4⟩ := hsh
    have hsub := Fo.sub_size hg12
    have hsl := Fo.sub_len hg12
    have hlg2 : (tksF (.cons k t nn ps r)).length = (tksF (.one k t nn ps)).length + (tksF r).length := by rw [tks_cons, List.length_append]
    have hone : tksF (.one k t nn ps) = (if k = 1 then [⟨1, [], t⟩] else if partsF k then ⟨2, tagF k, valT k t nn⟩ :: (tksF ps ++ [⟨3, tagF k, []⟩]) else [⟨4, tagF k, valT k t nn⟩]) := tks_one ⟨k, t, nn⟩ ps
    have hpos : 0 < (tksF (.one k t nn ps)).length := by rw [hone]; split <;> (try split) <;> simp
    have hi : pre.length + (tksF g1).length < L.length := by omega
    have hgl := g.len_le_size
    have hgz : g.len ≤ 65536 := by
      have h1 : ∀ f : Fo, shapeF f → f.len ≤ (tksF f).length := by
        intro f
        induction f with
        | nil => intro _; exact Nat.le_refl _
        | cons k t n ps r _ ih2 =>
          intro hf
          have := ih2 hf.2.2.2
          rw [tksF, List.length_append, Fo.len_cons]
          have : 1 ≤ (if k = 1 then [⟨1, [], t⟩] else if partsF k then ⟨2, tagF k, valT k t n⟩ :: (tksF ps ++ [⟨3, tagF k, []⟩]) else [⟨4, tagF k, valT k t n⟩] : List Tk).length := by split <;> (try split) <;> simp
          omega
      have := h1 g hg
      omega
    have heq2 : L.map tkX = (pre ++ tksF g1) ++ (tksF (.one k t nn ps) ++ (tksF r ++ rest)) := by
      rw [heq, hg12, tksF_app, tks_cons]; simp
    have htok : ∀ x l, tksF (.one k t nn ps) = x :: l → tkX (L[pre.length + (tksF g1).length]'hi) = x := by
      intro x l hx
      have h1 : (L.map tkX)[pre.length + (tksF g1).length]? = some (tkX (L[pre.length + (tksF g1).length]'hi)) := by rw [List.getElem?_map, List.getElem?_eq_getElem hi]; rfl
      rw [heq2, List.getElem?_append_right (by rw [List.length_append]; omega), hx] at h1
      rw [show pre.length + (tksF g1).length - (pre ++ tksF g1).length = 0 by rw [List.length_append]; omega] at h1
      exact (Option.some.inj h1).symm
    obtain ⟨q, hq, c0, c1, c2, c3⟩ := get_lx (hL.ext he) hi
    have hx := totX_get hi
    have htx := htk _ (List.getElem_mem hi)
    generalize hxk : L[pre.length + (tksF g1).length]'hi = x at *
    -- the head of the node, and what its token is
    have hhd : headF (tkX x) = ⟨k, t, nn⟩ ∧ x.k ≠ 3 ∧ (x.k = 2 ↔ partsF k = true) := by
      by_cases hk : k = 1
      · rw [if_pos hk] at hone
        have e := htok _ _ hone
        have hn0 : nn = 0 := by
          rcases s1 with s1 | s1
          · exact s1.2
          · omega
        have ek : x.k = 1 := congrArg Tk.k e
        rw [e, hn0, hk]
        refine ⟨rfl, by omega, ?_⟩
        rw [ek]
        exact ⟨fun hh => absurd hh (by decide), fun hh => (by cases hh)⟩
      · rw [if_neg hk] at hone
        by_cases hp : partsF k = true
        · rw [if_pos hp] at hone
          have e := htok _ _ hone
          have ek : x.k = 2 := congrArg Tk.k e
          rw [e]
          exact ⟨head_tag (by decide) hk s1, by omega, fun _ => hp, fun _ => ek⟩
        · rw [if_neg hp] at hone
          have e := htok _ _ hone
          have ek : x.k = 4 := congrArg Tk.k e
          rw [e]
          exact ⟨head_tag (by decide) hk s1, by omega, fun hh => absurd (ek.symm.trans hh) (by decide), fun hh => absurd hh hp⟩
    obtain ⟨hhd, hx3, hx2⟩ := hhd
    have k11 : K11 W := by
      refine hK11 _ fun _ => ?_
      refine hq _ ⟨_, c0, _, c1, _, c2, _, c3, ?_⟩
      refine nodeR_spec x htx hx3 (by omega) fun w19 e19 => ⟨_, _, _, _, _, _, rfl, ?_⟩
      rw [hhd]
      refine al_stL rfl one4n fun b24 w26 hb24 B24 e26 s26 => ?_
      have E26 := ext_trans (ext_trans he e19) e26
      have EW := ext_trans e19 e26
      have z19 := e19.size
      have z26 := e26.size
      have hO26 := hO.ext EW
      intro K27 hK27
      have k27 : ∀ (i' : Nat) (v : World) (a' : Option Addr) (c' : Nat), i' + 1 = pre.length + (tksF g1).length + (tksF (.one k t nn ps)).length → Blk v b24 [.int .i64 k, .string ⟨⟨t⟩⟩, .int .i64 nn, .slice a' ps.len c'] 35 → SlF (fun j => w26.heap.size ≤ j) v a' ps.len ps → Ext W v → K27 (i' : Int) v := by
        intro i' v a' c' hi' Bv hps ev
        refine hK27 _ _ fun _ => ?_
        obtain ⟨y0, y1, y2, y3⟩ := blk4 Bv
        have zv := ev.size
        refine ⟨_, y0, _, y1, _, y2, _, _, _, y3, ?_⟩
        have hOv := hO.ext ev
        have zE := E26.size
        have zEW := EW.size
        have hps' : SlF (fun j => ((fun _ : Nat => False) j ∨ w.heap.size ≤ j) ∧ ¬ Sh.bk oa j) v a' ps.len ps := hps.imp fun j hj _ => ⟨.inr (by omega), fun hb => by have := (hO.bk hb).2; omega⟩
        refine OwnF.push slT_node hOv (by omega) hps' (by have := hO.len; omega) (by have := hO.len; omega) fun a'' n'' c'' w' o1 o2 => ?_
        refine ⟨r.len, by simp, g1.app (.one k t nn ps), r, by rw [Fo.app_one_app]; exact hg12, ?_, rfl, o1, ext_chgS (ext_trans he ev) o2 fun j hj => (hO.bk hj).1⟩
        rw [wrap_nat (by omega), tksF_app, List.length_append]
        omega
      refine hq _ ⟨_, cell_ext c0 EW, br_split (fun g2 => ?_) (fun g2 => ?_)⟩
      · have hp := hx2.1 g2
        have hk : k ≠ 1 := fun e => by rw [e] at hp; cases hp
        rw [if_neg hk, if_pos hp] at hone
        have hlen1 : (tksF (.one k t nn ps)).length = (tksF ps).length + 2 := by rw [hone]; simp
        rw [wrap_nat (by omega)]
        have hpre : ((pre ++ tksF g1) ++ [(⟨2, tagF k, valT k t nn⟩ : Tk)]).length = pre.length + (tksF g1).length + 1 := by simp; omega
        have hcall := ih ps.size (hz ▸ hsub) ps rfl (R := fun e41 w42 => ∃ (x43 : Option Addr) (x43n : Nat) (x43c : Nat) (x44 : Int), e41 = .returned (.tuple ⟨[.slice x43 x43n x43c, .int .i64 x44]⟩) ∧ (stL w42 ((⟨b24, 0, none⟩ : Addr).add 3) 0 [.slice x43 x43n x43c] fun w45 => K27 x44 w45)) (w := w26)
          ((pre ++ tksF g1) ++ [⟨2, tagF k, valT k t nn⟩]) (⟨3, tagF k, []⟩ :: (tksF r ++ rest)) (hL.ext E26) (by rw [heq2, hone]; simp) s3 (.inr ⟨_, _, rfl, rfl⟩) (fun a' n' c' w42 hn' hsl' e42 => ⟨_, _, _, _, rfl, ?_⟩)
        · rw [hpre] at hcall
          exact hcall
        · have z42 := e42.size
          refine setN (B24.ext e42) (i := 3) (by simp) rfl fun w45 B45 c45 s45 => ?_
          subst hn'
          refine k27 _ w45 a' c' (by rw [hpre, hlen1]; omega) B45 (hsl'.chg c45 fun j hj hh => by omega) (ext_two (ext_trans EW e42) c45 (by omega))
      · have hp : partsF k = false := by
          cases hc : partsF k with
          | false => rfl
          | true => exact absurd (hx2.2 hc) g2
        have hps := s2 hp
        subst hps
        have hlen1 : (tksF (.one k t nn .nil)).length = 1 := by
          rw [hone]
          by_cases hk : k = 1
          · rw [if_pos hk]; rfl
          · rw [if_neg hk, if_neg (by rw [hp]; decide)]; rfl
        exact k27 _ w26 none 0 (by rw [hlen1]) B24 (SlF.nil _) EW
    refine br_split (fun _ => hq _ ⟨_, c0, br_split (fun _ => k11) (fun g3 => absurd hx3 g3)⟩) (fun hh => absurd (by omega) hh)
set_option maxRecDepth 20000 in
theorem ParseR_spec (s : List UInt8)
    (h : ∀ a n c w', n = (parseF s).1.len → SlF (fun _ => True) w' a n (parseF s).1 → Ext w w' → R (.returned (.tuple ⟨[.slice a n c, .int .i64 (parseF s).2]⟩)) w') : Calls Tryz.prog F_ref10_Parse ⟨[.string ⟨⟨s⟩⟩]⟩ w R := by
  apply c_ref10_Parse
  obtain ⟨hT, hll⟩ := scan_small s
  refine ScanR_spec s fun a n c w3 hn hL e3 => ⟨_, _, _, _, rfl, ?_⟩
  refine br_split (fun g => ?_) (fun g => ?_)
  · have hp : parseF s = (.nil, (scanF s).2) := by unfold parseF; rw [if_pos g]
    rw [hp] at h
    exact h none 0 0 w3 rfl (SlF.nil _) e3
  refine NestedR_spec (scanF s).1 hL hT fun w7 e7 => ⟨_, rfl, ?_⟩
  have E7 := ext_trans e3 e7
  refine br_split (fun g1 => ?_) (fun g1 => ?_)
  · have hp : parseF s = (.nil, nestX (scanF s).1) := by unfold parseF; rw [if_neg g, if_pos g1]
    rw [hp] at h
    exact h none 0 0 w7 rfl (SlF.nil _) E7
  have hne : nestX (scanF s).1 = 0 := Classical.not_not.1 g1
  have hp : parseF s = if checkT (treeT ((scanF s).1.map tkX)) ≠ 0 then (.nil, checkT (treeT ((scanF s).1.map tkX))) else (treeT ((scanF s).1.map tkX), 0) := by unfold parseF; rw [if_neg g, if_neg g1]
  have hck : chkX (scanF s).1 = 0 := by
    unfold nestX at hne
    split at hne
    · cases hne
    · rename_i hc; exact Classical.not_not.1 hc
  obtain ⟨t1, t2⟩ := tree_inv hne
  rw [hp] at h
  refine listR_spec (scanF s).1 hT (chkGo_tk hck) hll (treeT ((scanF s).1.map tkX)) [] [] (hL.ext e7) (by rw [t2]; simp) t1 (.inl rfl) fun a' n' c' w10 hn' hsl e10 => ⟨_, _, _, _, rfl, ?_⟩
  have E10 := ext_trans E7 e10
  refine Check10_spec _ hsl fun w14 e14 => ⟨_, rfl, br_split (fun gc => ?_) (fun gc => ?_)⟩
  · rw [if_pos gc] at h
    exact h none 0 0 w14 rfl (SlF.nil _) (ext_trans E10 e14)
  · rw [if_neg gc] at h
    exact h a' n' c' w14 hn' ((hsl.ext e14).imp fun _ _ _ => trivial) (ext_trans E10 e14)
set_option maxRecDepth 20000 in
theorem TranscriptReads_spec (s : List UInt8) (hF : Forms w) (hM : Mk w) (h : ∀ w', Ext w w' → R (.returned (.bool true)) w') :
    Calls Tryz.prog F_law10_TranscriptReads ⟨[.string ⟨⟨s⟩⟩]⟩ w R := by
  apply c_law10_TranscriptReads
  have aw : ∀ v, Ext w v → Calls Tryz.prog F_law10_awake ⟨[]⟩ v (fun e w' => ∃ x : Bool, e = .returned (.bool x) ∧ R (.returned (.bool x)) w') := fun v ev => awakeT_spec (hF.ext ev) (hM.ext ev) fun v' e' => ⟨_, rfl, h v' (ext_trans ev e')⟩
  refine GreatS_spec s fun b => ⟨_, rfl, br_cases (fun _ => aw w (Below.refl _ _)) (fun _ => ?_)⟩
  refine Parse_spec s hF hM fun a n c w9 hn hL e9 => ⟨_, _, _, _, rfl, ?_⟩
  refine ParseR_spec s fun a' n' c' w13 hn' hL' e13 => ⟨_, _, _, _, rfl, ?_⟩
  have E13 := ext_trans e9 e13
  have hsm : small (parseF s).1 := by
    by_cases h0 : (parseF s).2 = 0
    · have := (check_inv (parse_inv2 (s := s) (g := (parseF s).1) (by rw [← h0])).2.2.1).1
      unfold small; omega
    · rw [parse_err h0]; unfold small; decide
  refine Same_spec (parseF s).1 (hL.ext e13) hL' hsm fun w17 e17 => ⟨_, rfl, ?_⟩
  simp only [eq_self, decide_true, br_t]
  exact aw w17 (ext_trans E13 e17)
end Go.Proofs
namespace Go.Proofs
open Go Go.Sh Go.RowKit

theorem len4 {α : Type} {l : List α} (h : l.length = 4) : ∃ a b c d, l = [a, b, c, d] := by
  match l, h with
  | [a, b, c, d], _ => exact ⟨a, b, c, d, rfl⟩

set_option maxRecDepth 20000 in
theorem open_nodes {H : Type} {enc : TypeId × Value → H} {w : World} {base : Nat} {sp : Nat → Bool} {hd : Bool} : ∀ (fuel : Nat) (cs : List Value) (x : DataW H × List MemPlace), DataW.trod enc Tryz.prog w base sp hd fuel 24 cs = some x →
    ∃ (a : Option Addr) (n c : Nat) (f : Fo), cs = [.slice a n c] ∧ SlF (fun _ => True) w a n f := by
  intro fuel
  induction fuel using Nat.strongRecOn with
  | _ fuel ih =>
  intro cs x h
  rcases DataW.trod_slice Tryz.underlying24 h with ⟨rfl, _⟩ | ⟨a, len, cap, elems, rest, n, rfl, rfl, _, hb, hl, hm, hel, hall, _⟩
  · exact ⟨none, 0, 0, .nil, rfl, SlF.nil none⟩
  have h4 : Tryz.prog.cellsOf 35 = 4 := by kernel_rfl
  have h3 : Tryz.prog.cellsOf 3 = 1 := by kernel_rfl
  have h9 : Tryz.prog.cellsOf 9 = 1 := by kernel_rfl
  have h22 : Tryz.prog.cellsOf 24 = 1 := by kernel_rfl
  have node : ∀ i, i < len → ∃ (k : Int) (t : List UInt8) (m : Int) (a1 : Option Addr) (c1 : Nat) (ps : Fo), (∀ j v, ([.int .i64 k, .string ⟨⟨t⟩⟩, .int .i64 m, .slice a1 ps.len c1] : List Value)[j]? = some v → w.cell? ((a.add (i * 4)).add j) = some v) ∧ SlF (fun _ => True) w a1 ps.len ps := by
    intro i hi
    have hh := hall i hi
    rw [List.getElem?_eq_getElem (by omega)] at hh
    obtain ⟨cs', hc1, hc2⟩ := Option.bind_eq_some_iff.1 hh
    rw [h4] at hc1
    obtain ⟨_, hlen, hcell⟩ := World.cells?_some hc1
    obtain ⟨xs, n', rfl, _, hcl, hxl, hf⟩ := DataW.trod_struct Tryz.underlying35 hc2
    obtain ⟨v0, v1, v2, v3, rfl⟩ := len4 hlen
    obtain ⟨y0, y1, y2, y3, rfl⟩ := len4 (show xs.length = 4 from hxl)
    have g0 := hf 0 _ rfl
    have g1 := hf 1 _ rfl
    have g2 := hf 2 _ rfl
    have g3 := hf 3 _ rfl
    try dsimp only at g0
    try simp only [h3] at g0
    try dsimp only at g1
    try simp only [h9] at g1
    try dsimp only at g2
    try simp only [h3] at g2
    try dsimp only at g3
    try simp only [h22] at g3
    obtain ⟨k, e0, _, _⟩ := DataW.trod_int (k := .i64) Tryz.underlying3 g0
    obtain ⟨t, e1, _, _⟩ := DataW.trod_string Tryz.underlying9 g1
    obtain ⟨m, e2, _, _⟩ := DataW.trod_int (k := .i64) Tryz.underlying3 g2
    obtain ⟨a1, n1, c1, ps, e3, hs⟩ := ih n' (by omega) _ _ g3
    simp [h3, h9, h22] at e0 e1 e2 e3
    subst e0 e1 e2 e3
    have hn1 := hs.1
    subst hn1
    refine ⟨k, t.data.toList, m, a1, c1, ps, fun j v hj => ?_, hs⟩
    have hj4 : j < 4 := by have := (List.getElem?_eq_some_iff.1 hj).1; simpa using this
    rw [hcell j hj4]
    exact hj
  by_cases hl0 : len = 0
  · subst hl0
    exact ⟨some a, 0, cap, .nil, rfl, SlF.nil _⟩
  obtain ⟨b, o, rfl⟩ : ∃ b o, a = ⟨b, o, none⟩ := by
    obtain ⟨kd, t, m, a1, c1, ps, hcells, _⟩ := node 0 (by omega)
    have h0 := hcells 0 _ rfl
    obtain ⟨b, o, spot⟩ := a
    have hspot : spot = none := by simpa [Addr.add] using World.cell?_spot h0
    subst hspot
    exact ⟨b, o, rfl⟩
  have build : ∀ k, k ≤ len → ∃ (f : Fo) (us : List Value), f.len = k ∧ (∀ j v, us[j]? = some v → w.cell? ((⟨b, o, none⟩ : Addr).add j) = some v) ∧ FoC (fun _ => True) w f us := by
    intro k
    induction k with
    | zero => exact fun _ => ⟨.nil, [], rfl, fun j v hj => by simp at hj, rfl⟩
    | succ k ihk =>
      intro hk
      obtain ⟨f, us, hfl, hus, hF⟩ := ihk (by omega)
      obtain ⟨kd, t, m, a1, c1, ps, hcells, hm, vs, hat, hfo⟩ := node k (by omega)
      have hul := hF.len
      refine ⟨f.app (.one kd t m ps), us ++ [.int .i64 kd, .string ⟨⟨t⟩⟩, .int .i64 m, .slice a1 ps.len c1], by simp [Fo.one, hfl], fun j v hj => ?_, hF.app ⟨a1, c1, vs, [], rfl, hat, hfo, rfl⟩⟩
      by_cases hlt : j < us.length
      · rw [List.getElem?_append_left hlt] at hj
        exact hus j v hj
      · rw [List.getElem?_append_right (by omega)] at hj
        have := hcells _ _ hj
        have hadd : ((⟨b, o, none⟩ : Addr).add (k * 4)).add (j - us.length) = (⟨b, o, none⟩ : Addr).add j := by
          rw [add_none, add_none, add_none]
          have e : o + k * 4 + (j - us.length) = o + j := by omega
          rw [e]
        rw [hadd] at this; exact this
  obtain ⟨f, us, hfl, hus, hF⟩ := build len (Nat.le_refl _)
  refine ⟨some ⟨b, o, none⟩, len, cap, f, rfl, hfl.symm, us, ?_, hF⟩
  cases us with
  | nil => exact .inl rfl
  | cons u us =>
    have h0 := hus 0 u rfl
    refine .inr ⟨b, o, rfl, trivial, ?_, fun j v hj => ?_⟩
    · have := World.block_lt_of_cell? w _ h0
      simpa [Addr.add] using this
    · have := hus j v hj
      rw [add_none] at this; exact this
theorem nodes_cap {H : Type} {enc : TypeId × Value → H} {w : World} {base : Nat} {sp : Nat → Bool} {hd : Bool} {fuel : Nat} {cs : List Value} {x : DataW H × List MemPlace} (h : DataW.trod enc Tryz.prog w base sp hd fuel 24 cs = some x)
    {a : Option Addr} {n c : Nat} (hc : cs = [.slice a n c]) : n ≤ c := by
  rcases DataW.trod_slice Tryz.underlying24 h with ⟨rfl, _⟩ | ⟨a, len, cap, elems, rest, n, rfl, rfl, _, hb, hl, hm, hel, hall, _⟩
  · simp only [List.cons.injEq, Value.slice.injEq, and_true] at hc; omega
  · simp only [List.cons.injEq, Value.slice.injEq, and_true] at hc; omega

end Go.Proofs
namespace Go.Proofs
open Go Go.Sh Go.RowKit

variable {R : Ending → World → Prop} {w : World}
/- strings and depths that the statements do not examine -/
def badT (t : List UInt8) : Bool := (decide (60 < t.length) && decide (t.length ≤ 65536)) || decide (65540 < t.length)
def longF : Fo → Nat → Bool
  | .nil, _ => false
  | .cons _ t _ ps r, d => decide (d = 0) || badT t || longF ps (d - 1) || longF r d
def anyP : Fo → Bool
  | .nil => false
  | .cons _ _ _ ps r => decide (0 < ps.len) || anyP r
def great10 (f : Fo) : Bool := if f.len ≤ 4096 ∨ 4100 < f.len then (!decide (f.size ≤ 40 ∧ f.depth ≤ 20) || longF f 20) else (anyP f || longF f 20)
def fineB (f : Fo) : Bool := !great10 f && decide (checkT f = 0)
theorem anyP_size : ∀ f : Fo, anyP f = false → f.size = f.len
  | .nil, _ => rfl
  | .cons k t n ps r, h => by
    rw [anyP, Bool.or_eq_false_iff, decide_eq_false_iff_not] at h
    have := anyP_size r h.2
    have hp : ps = .nil := Fo.eq_nil_of_len (by omega)
    subst hp
    simp [Fo.size, this]
theorem fine_facts {f : Fo} (h : fineB f = true) : checkT f = 0 ∧ f.size ≤ 40 ∧ longF f 20 = false := by
  unfold fineB at h
  rw [Bool.and_eq_true, decide_eq_true_eq] at h
  obtain ⟨h1, h2⟩ := h
  have h1 : great10 f = false := by simpa using h1
  have hs := (check_inv h2).1
  have hl := f.len_le_size
  unfold great10 at h1
  rw [if_pos (.inl (by omega)), Bool.or_eq_false_iff] at h1
  refine ⟨h2, ?_, h1.2⟩
  have := h1.1
  simp at this
  exact this.1
theorem long_spec {S : Nat → Prop} : ∀ (f : Fo) {R : Ending → World → Prop} {w : World} {a : Option Addr} {n c : Nat} (d : Nat) (hd : d ≤ 1000) (hs : f.size ≤ 1000000000) (hf : SlF S w a n f)
    (h : ∀ w', Ext w w' → R (.returned (.bool (longF f d))) w'), Calls Tryz.prog F_ref10_long ⟨[.slice a n c, .int .i64 (d : Int)]⟩ w R := by
  intro f
  induction hz : f.size using Nat.strongRecOn generalizing f with
  | _ z ih =>
  intro R w a n c d hd hs hf h
  apply c_ref10_long
  have hn := hf.1
  have hfl := f.len_le_size
  refine ⟨fun i W m => ∃ p r : Fo, f = p.app r ∧ i = p.len ∧ m = r.len ∧ longF f d = longF r d ∧ Ext w W, ⟨_, .nil, f, rfl, rfl, rfl, rfl, Below.refl _ _⟩, ?_⟩
  rintro _ W m ⟨p, r, hpr, rfl, rfl, heq, he⟩ _
  refine br_split (fun hlt => ?_) (fun hge => ?_)
  · obtain ⟨k, t, mm, ps, r, rfl⟩ := Fo.next hpr (by omega)
    have hsl := Fo.sub_len hpr
    have hsz := Fo.sub_size hpr
    obtain ⟨q, a', c', hq, _, _, hN⟩ := (hf.ext he).get hpr
    rw [longF] at heq
    have bad : (d = 0 ∨ badT t = true ∨ longF ps (d - 1) = true) → ∀ v, Ext w v → R (.returned (.bool true)) v := by
      intro hh v ev
      have : longF f d = true := by
        rw [heq]
        rcases hh with hh | hh | hh
        · simp [hh]
        · simp [hh]
        · simp [hh]
      rw [← this]; exact h v ev
    refine hq _ ⟨_, hN.text, br_split (fun g0 => bad (.inl (by omega)) W he) (fun g0 => ?_)⟩
    have cont : badT t = false → ∀ v, Ext w v → longF ps (d - 1) = false → ∃ m15 : Nat, m15 < (Fo.cons k t mm ps r).len ∧ ∃ p' r' : Fo, f = p'.app r' ∧ IntKind.i64.wrap ((p.len : Int) + 1) = p'.len ∧ m15 = r'.len ∧ longF f d = longF r' d ∧ Ext w v := by
      intro hb v ev hl
      refine ⟨r.len, by simp, p.app (.one k t mm ps), r, by rw [Fo.app_one_app]; exact hpr, ?_, rfl, ?_, ev⟩
      · rw [wrap_nat (by omega)]; simp [Fo.one]
      · rw [heq, hb, hl, decide_eq_false (by omega)]; simp
    have wd : IntKind.i64.wrap ((d : Int) - 1) = ((d - 1 : Nat) : Int) := by rw [wrap_id (by omega)]; omega
    have recu : badT t = false → Calls Tryz.prog 52 ⟨[.slice a' ps.len c', .int .i64 (IntKind.i64.wrap ((d : Int) - 1))]⟩ W fun (e12 : Ending) (w13 : World) => ∃ (x14 : Bool), e12 = .returned (.bool x14) ∧ (br x14 (R (.returned (.bool true)) w13) (∃ m15 : Nat, m15 < (Fo.cons k t mm ps r).len ∧ ∃ p' r' : Fo, f = p'.app r' ∧ IntKind.i64.wrap ((p.len : Int) + 1) = p'.len ∧ m15 = r'.len ∧ longF f d = longF r' d ∧ Ext w w13)) := by
      intro hb
      rw [wd]
      refine ih _ (hz ▸ hsz) ps rfl (d - 1) (by omega) (by omega) hN.sl fun w13 e13 => ⟨_, rfl, br_cases (fun g => bad (.inr (.inr g)) _ (ext_trans he e13)) (fun g => cont hb _ (ext_trans he e13) g)⟩
    have hbt : badT t = ((decide (60 < t.length) && decide (t.length ≤ 65536)) || decide (65540 < t.length)) := rfl
    refine br_split (fun g1 => br_split (fun g2 => ?_) (fun g2 => br_split (fun g3 => ?_) (fun g3 => ?_))) (fun g1 => br_split (fun g3 => ?_) (fun g3 => ?_))
    · exact bad (.inr (.inl (by rw [hbt]; simp; omega))) W he
    · exact bad (.inr (.inl (by rw [hbt]; simp; omega))) W he
    · exact hq _ ⟨_, _, _, hN.parts, recu (by rw [hbt]; simp; omega)⟩
    · exact bad (.inr (.inl (by rw [hbt]; simp; omega))) W he
    · exact hq _ ⟨_, _, _, hN.parts, recu (by rw [hbt]; simp; omega)⟩
  · obtain ⟨rfl, rfl⟩ := Fo.last hpr (by omega)
    have hl : longF p d = false := by rw [heq]; rfl
    rw [hl] at h
    exact h W he
theorem Great10_spec {S : Nat → Prop} {a : Option Addr} {n c : Nat} (f : Fo) (hf : SlF S w a n f) (h : ∀ w', Ext w w' → R (.returned (.bool (great10 f))) w') : Calls Tryz.prog F_ref10_Great ⟨[.slice a n c]⟩ w R := by
  apply c_ref10_Great
  have hn := hf.1
  intro K2 hK2
  have k2 : K2 (decide (f.len ≤ 4096 ∨ 4100 < f.len)) w := by
    refine hK2 _ _ fun _ => br_split (fun g => ?_) (fun g => ?_)
    · unfold great10 at h
      rw [if_pos g] at h
      refine size10_spec f 20 40 (by omega) (by omega) hf fun w6 e6 => ?_
      by_cases hs : f.size ≤ 40 ∧ f.depth ≤ 20
      · rw [szF, if_pos hs]
        rw [decide_eq_true hs] at h
        refine ⟨_, _, _, rfl, ?_⟩
        simp only [Bool.not_true, br_f]
        refine long_spec f 20 (by omega) (by omega) (hf.ext e6) fun w11 e11 => ⟨_, rfl, ?_⟩
        exact h w11 (ext_trans e6 e11)
      · rw [szF, if_neg hs]
        rw [decide_eq_false hs] at h
        refine ⟨_, _, _, rfl, ?_⟩
        simp only [Bool.not_false, br_t]
        exact h w6 e6
    · unfold great10 at h
      rw [if_neg g] at h
      refine ⟨fun i W m => ∃ p r : Fo, f = p.app r ∧ i = p.len ∧ m = r.len ∧ anyP f = anyP r ∧ Ext w W, ⟨_, .nil, f, rfl, rfl, rfl, rfl, Below.refl _ _⟩, ?_⟩
      rintro _ W m ⟨p, r, hpr, rfl, rfl, heq, he⟩ _
      refine br_split (fun hlt => ?_) (fun hge => ?_)
      · obtain ⟨k, t, mm, ps, r, rfl⟩ := Fo.next hpr (by omega)
        have hsl := Fo.sub_len hpr
        obtain ⟨q, a', c', hq, _, _, hN⟩ := (hf.ext he).get hpr
        rw [anyP] at heq
        refine hq _ ⟨_, _, _, hN.parts, br_split (fun g1 => ?_) (fun g1 => ?_)⟩
        · have : anyP f = true := by rw [heq, decide_eq_true (by omega)]; rfl
          rw [this] at h
          exact h W he
        · refine ⟨r.len, by simp, p.app (.one k t mm ps), r, by rw [Fo.app_one_app]; exact hpr, ?_, rfl, ?_, he⟩
          · rw [wrap_nat (by omega)]; simp [Fo.one]
          · rw [heq, decide_eq_false (by omega)]; rfl
      · obtain ⟨rfl, rfl⟩ := Fo.last hpr (by omega)
        have ha : anyP p = false := by rw [heq]; rfl
        have hs := anyP_size p ha
        rw [ha] at h
        refine long_spec p 20 (by omega) (by omega) (hf.ext he) fun w22 e22 => ⟨_, rfl, ?_⟩
        exact h w22 (ext_trans he e22)
  refine br_split (fun g => ?_) (fun g => ?_)
  · rw [decide_eq_true (.inl (by omega))] at k2; exact k2
  · have e : decide ((4100 : Int) < (n : Int)) = decide (f.len ≤ 4096 ∨ 4100 < f.len) := decide_eq_decide.2 ⟨fun hh => .inr (by omega), fun hh => by omega⟩
    rw [e]; exact k2
theorem fine_spec {S : Nat → Prop} {a : Option Addr} {n c : Nat} (f : Fo) (hf : SlF S w a n f) (h : ∀ w', Ext w w' → R (.returned (.bool (fineB f))) w') : Calls Tryz.prog F_law10_fine ⟨[.slice a n c]⟩ w R := by
  apply c_law10_fine
  unfold fineB at h
  refine Great10_spec f hf fun w3 e3 => ⟨_, rfl, br_cases (fun g => ?_) (fun g => ?_)⟩
  · refine Check10_spec f (hf.ext e3) fun w6 e6 => ⟨_, rfl, ?_⟩
    have := h w6 (ext_trans e3 e6)
    rwa [g, Bool.true_and] at this
  · have := h w3 e3
    rwa [g, Bool.false_and] at this
set_option maxRecDepth 20000 in
theorem TranscriptBack_spec {S : Nat → Prop} {a : Option Addr} {n c : Nat} (f : Fo) (s : List UInt8) (hF : Forms w) (hM : Mk w) (hf : SlF S w a n f) (h : ∀ w', Ext w w' → R (.returned (.bool true)) w') :
    Calls Tryz.prog F_law10_TranscriptBack ⟨[.slice a n c, .string ⟨⟨s⟩⟩]⟩ w R := by
  apply c_law10_TranscriptBack
  have aw : ∀ v, Ext w v → Calls Tryz.prog F_law10_awake ⟨[]⟩ v (fun e w' => ∃ x : Bool, e = .returned (.bool x) ∧ R (.returned (.bool x)) w') := fun v ev => awakeT_spec (hF.ext ev) (hM.ext ev) fun v' e' => ⟨_, rfl, h v' (ext_trans ev e')⟩
  intro K3 hK3
  have k3 : ∀ v, Ext w v → K3 v := by
    intro v ev
    refine hK3 _ fun _ => ?_
    refine GreatS_spec s fun b => ⟨_, rfl, br_cases (fun _ => aw v ev) (fun _ => ?_)⟩
    refine Parse_spec s (hF.ext ev) (hM.ext ev) fun a' n' c' w12 hn' hL e12 => ⟨_, _, _, _, rfl, ?_⟩
    have E12 := ext_trans ev e12
    refine br_split (fun g => ?_) (fun g => ?_)
    · rw [parse_err g] at hn'
      subst hn'
      refine br_split (fun _ => aw w12 E12) (fun hh => absurd rfl hh)
    have g0 : (parseF s).2 = 0 := Classical.not_not.1 g
    have hp : parseF s = ((parseF s).1, 0) := by rw [← g0]
    obtain ⟨p1, p2, p3, p4⟩ := parse_inv2 hp
    have hpr := print_parse hp
    generalize (parseF s).1 = m at *
    have hsm : small m := by have := (check_inv p3).1; unfold small; omega
    refine PrintT_spec m hsm (hF.ext E12) hL fun w19 e19 => ⟨_, _, rfl, ?_⟩
    rw [if_neg (fun hh => hh p3), if_neg (fun hh => hh p3), hpr]
    have E19 := ext_trans E12 e19
    simp only [eq_self, decide_true, br_t]
    refine Check22_spec m hsm (hL.ext e19) (hF.ext E19) fun w23 e23 => ⟨_, rfl, ?_⟩
    rw [p3, decide_eq_true rfl, br_t]
    exact aw w23 (ext_trans E19 e23)
  refine fine_spec f hf fun w29 e29 => ⟨_, rfl, br_cases (fun g => ?_) (fun g => k3 w29 e29)⟩
  obtain ⟨hck, hsz, _⟩ := fine_facts g
  have hsm : small f := by unfold small; omega
  refine PrintT_spec f hsm (hF.ext e29) (hf.ext e29) fun w32 e32 => ⟨_, _, rfl, ?_⟩
  rw [if_neg (fun hh => hh hck), if_neg (fun hh => hh hck)]
  have E32 := ext_trans e29 e32
  refine Parse_spec (printF f) (hF.ext E32) (hM.ext E32) fun a' n' c' w36 hn' hL e36 => ⟨_, _, _, _, rfl, ?_⟩
  have E36 := ext_trans E32 e36
  rw [parse_back hck] at hn' hL ⊢
  refine br_split (fun hh => absurd rfl hh) (fun _ => br_split (fun hh => absurd rfl hh) (fun _ => ?_))
  refine Same_spec f hL (hf.ext E36) hsm fun w40 e40 => ⟨_, rfl, ?_⟩
  rw [decide_eq_true rfl, Bool.not_true, br_f]
  have E40 := ext_trans E36 e40
  refine Check22_spec f hsm (hf.ext E40) (hF.ext E40) fun w43 e43 => ⟨_, rfl, ?_⟩
  rw [hck]
  exact br_split (fun hh => absurd rfl hh) (fun _ => k3 w43 (ext_trans E40 e43))
end Go.Proofs
