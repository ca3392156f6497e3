/- The contracts of the functions that the law reaches, one after the other, and at the end the law's card. -/
import Derived.Test.YtpnhhkjagkajoaaGreatDoorLawG
import Derived.Deep.Slices
import Derived.Test.YtpnhhkjagkajoaaGreatDoorCards
import Derived.Test.YtpnhhkjagkajoaaGreatDoorTie
import Derived.Deep.DeepHandedRow
import Derived.Lib.LaidTab
import Derived.Lib.LaidU8
import Derived.WalkKit
import Derived.ProofKit
import Derived.SizedLaws
namespace Go.Proofs
open Go Go.Sh Go.RowKit

variable {R : Ending → World → Prop} {w : World}
theorem want_take {L : List Lx} {k : Nat} (h : k < L.length) : wantT ((L.map tkX).take (k + 1)) = wantT ((L.map tkX).take k) + if L[k].k ≠ 3 then 1 else 0 := by
  rw [List.take_succ_eq_append_getElem (by rw [List.length_map]; exact h), wantT_app]
  congr 1
  rw [List.getElem_map]
  unfold wantT tkX
  by_cases hk : L[k].k = 3
  · simp [hk]
  · simp [hk]
def cntSum (f : Fo) : Nat → Nat
  | 0 => 0
  | n + 1 => cntSum f n + cntK ((n + 1 : Nat) : Int) f
theorem cntK_le (k : Int) : ∀ f : Fo, cntK k f ≤ f.size
  | .nil => Nat.le_refl _
  | .cons k' t n ps r => by
    have h1 := cntK_le k ps
    have h2 := cntK_le k r
    simp only [cntK, Fo.size]
    split <;> omega
theorem cntSum_le (f : Fo) : ∀ n : Nat, cntSum f n ≤ n * f.size
  | 0 => by simp [cntSum]
  | n + 1 => by
    have h1 := cntSum_le f n
    have h2 := cntK_le ((n + 1 : Nat) : Int) f
    rw [cntSum, Nat.add_mul, Nat.one_mul]; omega
set_option maxRecDepth 20000 in
theorem TranscriptLexemes_spec (s : List UInt8) (hF : Forms w) (hM : Mk w) (h : ∀ w', Ext w w' → R (.returned (.bool true)) w') :
    Calls Tryz.prog F_law10_TranscriptLexemes ⟨[.string ⟨⟨s⟩⟩]⟩ w R := by
  apply c_law10_TranscriptLexemes
  have aw : ∀ v, Ext w v → Calls Tryz.prog F_law10_awake ⟨[]⟩ v (fun e w' => ∃ x : Bool, e = .returned (.bool x) ∧ R (.returned (.bool x)) w') := fun v ev => awakeT_spec (hF.ext ev) (hM.ext ev) fun v' e' => ⟨_, rfl, h v' (ext_trans ev e')⟩
  refine GreatS_spec s fun b => ⟨_, rfl, br_cases (fun _ => aw w (Below.refl _ _)) (fun _ => ?_)⟩
  refine Parse_spec s hF hM fun a n c w9 hn hL e9 => ⟨_, _, _, _, rfl, ?_⟩
  refine br_split (fun _ => aw w9 e9) (fun g => ?_)
  have g0 : (parseF s).2 = 0 := Classical.not_not.1 g
  have hp : parseF s = ((parseF s).1, 0) := by rw [← g0]
  obtain ⟨p1, p2, p3, p4⟩ := parse_inv2 hp
  obtain ⟨l1, l2⟩ := parse_lex hp
  generalize (parseF s).1 = f at *
  obtain ⟨q1, q2, q3, q4⟩ := check_inv p3
  have hsm : small f := by unfold small; omega
  obtain ⟨hT, hll⟩ := scan_small s
  refine Scan_spec s (hM.ext e9) fun xa xn xc w16 hxn hO e16 => ⟨_, _, _, _, rfl, ?_⟩
  have E16 := ext_trans e9 e16
  have hX := OwnL.out hO
  refine Strip_spec s (hM.ext E16) fun w20 e20 => ⟨_, _, rfl, ?_⟩
  have E20 := ext_trans E16 e20
  refine Characters_spec f hsm (hF.ext E20) ((hL.ext e16).ext e20) fun w24 e24 => ⟨_, _, rfl, ?_⟩
  have E24 := ext_trans E20 e24
  rw [if_neg (fun hh => hh p3), if_neg (fun hh => hh p3), p1, l1, char_chars]
  have hX24 := (hX.ext e20).ext e24
  have hL24 := ((hL.ext e16).ext e20).ext e24
  generalize hLL : (scanF s).1 = L at *
  intro K27 hK27
  have k27 : K27 w24 := by
    refine hK27 _ fun _ => ?_
    refine ⟨fun wt t W m => ∃ k : Nat, t = k ∧ k ≤ xn ∧ m = xn - k ∧ wt = (wantT ((L.map tkX).take k) : Int) ∧ Ext w24 W, ⟨_, 0, rfl, by omega, rfl, rfl, Below.refl _ _⟩, ?_⟩
    rintro _ _ W m ⟨k, rfl, hk, rfl, rfl, he⟩ _
    have hwl : wantT ((L.map tkX).take k) ≤ k := Nat.le_trans (List.length_filter_le _ _) (by rw [List.length_take]; omega)
    refine br_split (fun hlt => ?_) (fun hge => ?_)
    · have hkL : k < L.length := by omega
      have hws := want_take hkL
      obtain ⟨q, hq, c0, c1, c2, c3⟩ := get_lx (hX24.ext he) hkL
      refine hq _ ⟨_, c0, _, c1, _, c2, _, c3, ?_⟩
      refine al_stL rfl one4 fun b40 w42 hb40 B40 e42 s42 => ?_
      obtain ⟨d0, _, _, _⟩ := blk4x (x := L[k]) B40
      refine ⟨_, d0, br_split (fun g3 => ?_) (fun g3 => ?_)⟩
      · rw [if_pos g3] at hws
        exact ⟨xn - (k + 1), by omega, k + 1, by rw [wrap_nat (by omega)], by omega, rfl, by rw [wrap_id (by omega)]; omega, ext_trans he e42⟩
      · rw [if_neg g3, Nat.add_zero] at hws
        exact ⟨xn - (k + 1), by omega, k + 1, by rw [wrap_nat (by omega)], by omega, rfl, (by rw [hws]; rfl), ext_trans he e42⟩
    · have hkn : (L.map tkX).take k = L.map tkX := List.take_of_length_le (by rw [List.length_map]; omega)
      rw [hkn, l2]
      refine ⟨fun sm t W2 m2 => ∃ k2 : Nat, t = ((k2 + 1 : Nat) : Int) ∧ k2 ≤ 11 ∧ m2 = 11 - k2 ∧ sm = (cntSum f k2 : Int) ∧ Ext w24 W2, ⟨_, 0, rfl, by omega, rfl, rfl, he⟩, ?_⟩
      rintro _ _ W2 m2 ⟨k2, rfl, hk2, rfl, rfl, he2⟩ _
      have hcs := cntSum_le f k2
      have hcs2 : k2 * f.size ≤ 11 * 4096 := Nat.mul_le_mul hk2 q1
      refine br_split (fun h11 => ?_) (fun h11 => ?_)
      · refine Count_spec f hsm (hF.ext (ext_trans E24 he2)) (hL24.ext he2) ((k2 + 1 : Nat) : Int) fun w53 e53 => ⟨_, _, rfl, ?_⟩
        have hcr : cntR f ((k2 + 1 : Nat) : Int) = ((cntK ((k2 + 1 : Nat) : Int) f : Int), 0) := by unfold cntR; rw [if_neg (fun hh => hh p3), if_neg (by omega)]
        rw [hcr]
        have hck := cntK_le ((k2 + 1 : Nat) : Int) f
        refine br_split (fun hh => absurd rfl hh) (fun _ => ?_)
        refine ⟨11 - (k2 + 1), by omega, k2 + 1, ?_, by omega, rfl, ?_, ext_trans he2 e53⟩
        · rw [wrap_nat (by omega)]
        · rw [wrap_id (by omega), cntSum]; omega
      · have hk11 : k2 = 11 := by omega
        subst hk11
        have hall := cnt_all (valid_shape q3)
        have hsum : cntSum f 11 = f.size := by
          rw [← hall]
          simp only [cntSum, Nat.zero_add]
          rfl
        rw [hsum]
        refine br_split (fun _ => aw W2 (ext_trans E24 he2)) (fun hh => absurd rfl hh)
  have hmax : max (max (0 : Int) 0) 0 = 0 := by decide
  refine br_split (fun hh => absurd hmax hh) (fun _ => br_split (fun hh => absurd rfl hh) (fun _ => k27))
end Go.Proofs
namespace Go.Proofs.YtpnhhkjagkajoaaGreatDoor
open Go Go.Sh Go.RowKit Go.ChangeShapes Go.WideShapes Go.ChangeAt

theorem len4 {α : Type} {l : List α} (h : l.length = 4) : ∃ a b c d, l = [a, b, c, d] := by
  match l, h with
  | [a, b, c, d], _ => exact ⟨a, b, c, d, rfl⟩
theorem own : ownKnob Tryz.prog.godebug = none := by kernel_rfl
theorem laidOut : laidOutB Tryz.prog = true := by kernel_rfl
theorem form_row {W : World} {m : Nat} {cs : List Value} {x : DataW Unit × List MemPlace} {tag : List UInt8} {a b c : Bool} (h : DataW.trod (fun _ => ()) Tryz.prog W 0 (fun _ => true) false m 94 cs = some x)
    (hx : x.1 = .agg [.lit (.string tag), .lit (.bool a), .lit (.bool b), .lit (.bool c)]) : cs = [.string ⟨⟨tag⟩⟩, .bool a, .bool b, .bool c] := by
  have h96 : Tryz.prog.cellsOf 94 = 4 := by kernel_rfl
  have h9 : Tryz.prog.cellsOf 9 = 1 := by kernel_rfl
  have h4 : Tryz.prog.cellsOf 4 = 1 := by kernel_rfl
  obtain ⟨xs, n, rfl, rfl, hl, hxl, hf⟩ := DataW.trod_struct Tryz.underlying94 h
  rw [h96] at hl
  obtain ⟨v0, v1, v2, v3, rfl⟩ := len4 hl
  obtain ⟨y0, y1, y2, y3, rfl⟩ := len4 (show xs.length = 4 from hxl)
  simp only [List.map_cons, List.map_nil, DataW.agg.injEq, List.cons.injEq, and_true] at hx
  obtain ⟨z0, z1, z2, z3⟩ := hx
  have g0 := hf 0 _ rfl
  have g1 := hf 1 _ rfl
  have g2 := hf 2 _ rfl
  have g3 := hf 3 _ rfl
  obtain ⟨t, e0, f0, _⟩ := DataW.trod_string Tryz.underlying9 g0
  obtain ⟨b1, e1, f1⟩ := DataW.trod_bool Tryz.underlying4 g1
  obtain ⟨b2, e2, f2⟩ := DataW.trod_bool Tryz.underlying4 g2
  obtain ⟨b3, e3, f3⟩ := DataW.trod_bool Tryz.underlying4 g3
  simp [h9, h4] at e0 e1 e2 e3
  subst e0 e1 e2 e3
  try simp at f0 f1 f2 f3
  rw [f0] at z0
  rw [f1] at z1
  rw [f2] at z2
  rw [f3] at z3
  simp at z0 z1 z2 z3
  subst z0 z1 z2 z3
  rfl
set_option maxRecDepth 20000 in
theorem forms_of {W : World} (h : laidMetH Tryz.prog Rows.transcriptLexemesRow.laid W) : Forms W := by
  obtain ⟨ps, hv, _, _⟩ := (show laidMet Tryz.prog Rows.transcriptLexemesRow.laid W from h)
  obtain ⟨g1, t1, c1, f1, p1, q1, _, _, _, _, hv, _⟩ := hv
  obtain ⟨g2, t2, c2, f2, p2, q2, _, _, _, _, hv, _⟩ := hv
  obtain ⟨g3, t3, c3, f3, p3, q3, _, _, _, _, hv, _⟩ := hv
  obtain ⟨g5, t5, c5, f5, p5, q5, _, _, _, _, hv, _⟩ := hv
  obtain ⟨g6, t6, c6, f6, p6, q6, _, _, _, _, hv, _⟩ := hv
  obtain ⟨g4, t4, cs, f4, p4, q4, hg, ht, hvar, hd, hv, _⟩ := hv
  have hg0 : Tryz.prog.globalNamed "apograph/transcript.forms" = some 0 := by kernel_rfl
  have ht0 : (Tryz.prog.globals[0]?).map (·.type) = some 95 := by kernel_rfl
  obtain rfl := Option.some.inj (hg0.symm.trans hg)
  obtain rfl := Option.some.inj (ht0.symm.trans ht)
  have h96 : Tryz.prog.cellsOf 94 = 4 := by kernel_rfl
  have h97 : Tryz.prog.cellsOf 95 = 48 := by kernel_rfl
  obtain ⟨xs, m, rfl, hx, hl, hxl, hall⟩ := DataW.trod_array Tryz.underlying95 hd
  rw [h97] at hl
  rw [h96] at hall
  simp only [Prod.mk.injEq, Rows.laid_apograph_transcript_forms, DataW.agg.injEq] at hx
  obtain ⟨hm, _⟩ := hx
  have chunk : ∀ i, i < 12 → (cs.toList.drop (i * 4)).take 4 = (formsCells.drop (i * 4)).take 4 := by
    intro i hi
    have hh := hall i hi
    have hxi : (xs[i]?).map (·.1) = _ := (List.getElem?_map (f := (·.1)) (l := xs) (i := i)).symm.trans (by rw [← hm])
    rw [List.getElem?_eq_getElem (by omega)] at hh hxi
    simp only [Option.map_some] at hxi
    rcases (by omega : i = 0 ∨ i = 1 ∨ i = 2 ∨ i = 3 ∨ i = 4 ∨ i = 5 ∨ i = 6 ∨ i = 7 ∨ i = 8 ∨ i = 9 ∨ i = 10 ∨ i = 11) with rfl | rfl | rfl | rfl | rfl | rfl | rfl | rfl | rfl | rfl | rfl | rfl <;>
      exact form_row hh (Option.some.inj hxi)
  have hsz : 0 < W.heap.size := by
    simp only [World.var?, hg0, Option.bind_some] at hvar
    split at hvar
    · rename_i hh; exact (Array.getElem?_eq_some_iff.1 hh).1
    · cases hvar
  refine ⟨hsz, fun j v hj => ?_⟩
  have hj48 : j < 48 := by have := (List.getElem?_eq_some_iff.1 hj).1; exact this
  rw [World.var?_cell hg0 hvar j]
  have hc := chunk (j / 4) (by omega)
  have e : ∀ l : List Value, l[j]? = ((l.drop (j / 4 * 4)).take 4)[j - j / 4 * 4]? := fun l => by
    rw [List.getElem?_take, if_pos (by omega), List.getElem?_drop]
    congr 1; omega
  rw [← Array.getElem?_toList, e, hc, ← e]; exact hj

theorem trod_iface {P : Program} {W : World} {fuel : Nat} {t : TypeId} {cs : List Value} {ms : Array (String × TypeId)} {nm : String} {d : DataW Unit} {p : List MemPlace} (hu : P.underlying t = some (.interface ms)) (h : DataW.trod (fun _ => ()) P W 0 (fun _ => true) false fuel t cs = some (.iface nm d, p)) : ∃ u v, cs = [.iface u v] := by
  cases fuel with
  | zero => simp [DataW.trod] at h
  | succ n =>
    unfold DataW.trod at h
    rw [hu] at h
    split at h <;> simp_all
theorem err_of {W : World} {n : String} {nm : String} {d : DataW Unit} {g : Nat} {ti : TypeId} {ms : Array (String × TypeId)} (h : Go.Lib.VarReads Tryz.prog W n (.iface nm d)) (hg : Tryz.prog.globalNamed n = some g) (ht : (Tryz.prog.globals[g]?).map (·.type) = some ti) (hi : Tryz.prog.underlying ti = some (.interface ms)) :
    ∃ t p, W.cell? ⟨g, 0, none⟩ = some (.iface t p) := by
  obtain ⟨g', t', cs, fuel, p, hg', ht', hv, hd⟩ := h
  obtain rfl := Option.some.inj (hg.symm.trans hg')
  obtain rfl := Option.some.inj (ht.symm.trans ht')
  obtain ⟨u, v, hc⟩ := trod_iface hi hd
  refine ⟨u, v, ?_⟩
  rw [World.var?_cell hg hv 0]
  have := congrArg (fun l => l[0]?) hc
  simpa using this
theorem mk_of {W : World} (h : laidMetH Tryz.prog Rows.transcriptLexemesRow.laid W) (hSh : W.ShapedOpen Tryz.prog) : Mk W := by
  have h := (show laidMet Tryz.prog Rows.transcriptLexemesRow.laid W from h)
  have e1 := Go.Lib.laidMet.reads h (n := "strconv.ErrSyntax") (d := Rows.laid_strconv_ErrSyntax) (.tail _ (.tail _ (.tail _ (.tail _ (.head _)))))
  have e2 := Go.Lib.laidMet.reads h (n := "strconv.ErrRange") (d := Rows.laid_strconv_ErrRange) (.tail _ (.tail _ (.tail _ (.head _))))
  exact ⟨Tryz.laysM145.s1_3 W hSh, err_of e1 (by kernel_rfl) (by kernel_rfl) Tryz.underlying72, err_of e2 (by kernel_rfl) (by kernel_rfl) Tryz.underlying72⟩

/- slices of lexemes, out of what a row says of the arguments -/
theorem row_buildQ {α : Type} {E : Enc α} {Q : α → Prop} {w : World} {a : Addr} {len : Nat} (hel : ∀ i, i < len → ∃ x : α, Q x ∧ ∀ j v, (E.enc x)[j]? = some v → w.cell? ((a.add (i * E.size)).add j) = some v) :
    ∃ L : List α, RowAt E (fun _ => True) w (some a) len L ∧ ∀ x ∈ L, Q x := by
  by_cases hl0 : len = 0
  · subst hl0; exact ⟨[], RowAt.nil _, fun x hx => by cases hx⟩
  obtain ⟨b, o, rfl⟩ : ∃ b o, a = ⟨b, o, none⟩ := by
    obtain ⟨x, _, hx⟩ := hel 0 (by omega)
    have hp := E.pos
    have h0 := hx 0 _ (List.getElem?_eq_getElem (by rw [E.len]; exact hp))
    obtain ⟨b, o, spot⟩ := a
    have hspot : spot = none := by simpa [Addr.add] using World.cell?_spot h0
    subst hspot
    exact ⟨b, o, rfl⟩
  have build : ∀ k, k ≤ len → ∃ L : List α, L.length = k ∧ (∀ j v, (E.row L)[j]? = some v → w.cell? ((⟨b, o, none⟩ : Addr).add j) = some v) ∧ ∀ x ∈ L, Q x := by
    intro k
    induction k with
    | zero => exact fun _ => ⟨[], rfl, fun j v hj => by simp at hj, fun x hx => by cases hx⟩
    | succ k ihk =>
      intro hk
      obtain ⟨L, hL, hus, hq⟩ := ihk (by omega)
      obtain ⟨x, hQ, hx⟩ := hel k (by omega)
      refine ⟨L ++ [x], by simp [hL], fun j v hj => ?_, fun y hy => ?_⟩
      · rw [row_snoc] at hj
        by_cases hlt : j < (E.row L).length
        · rw [List.getElem?_append_left hlt] at hj
          exact hus j v hj
        · rw [List.getElem?_append_right (by omega)] at hj
          have := hx _ _ hj
          rw [add_none, add_none] at this
          rw [row_len, hL] at this hlt
          rw [add_none, show o + j = o + k * E.size + (j - k * E.size) by omega]
          exact this
      · rcases List.mem_append.1 hy with hy | hy
        · exact hq y hy
        · rw [List.mem_singleton.1 hy]; exact hQ
  obtain ⟨L, hL, hus, hq⟩ := build len (Nat.le_refl _)
  refine ⟨L, ⟨hL.symm, ?_⟩, hq⟩
  cases hr : E.row L with
  | nil => exact .inl rfl
  | cons u us =>
    rw [hr] at hus
    have h0 := hus 0 u rfl
    refine .inr ⟨b, o, rfl, trivial, ?_, fun j v hj => ?_⟩
    · have := World.block_lt_of_cell? w _ h0
      simpa [Addr.add] using this
    · have := hus j v hj
      rw [add_none] at this; exact this
theorem weightsAll_mem {H : Type} {P : Program} {e : TypeId} : ∀ {ds : List (DataW H)} {d : DataW H} {m : Nat}, d ∈ ds → m ∈ d.weights P e → m ∈ DataW.weightsAll P e ds
  | d0 :: ds, d, m, hd, hm => by
    rw [DataW.weightsAll, List.mem_append]
    rcases List.mem_cons.1 hd with rfl | hd
    · exact .inl hm
    · exact .inr (weightsAll_mem hd hm)
set_option maxRecDepth 20000 in
theorem open_lexs {H : Type} {enc : TypeId × Value → H} {w : World} {base : Nat} {sp : Nat → Bool} {hd : Bool} (fuel : Nat) (cs : List Value) (x : DataW H × List MemPlace) (hz : ∀ m ∈ x.1.weights Tryz.prog 43, m ≤ reachBytes) (h : DataW.trod enc Tryz.prog w base sp hd fuel 43 cs = some x) :
    ∃ (a : Option Addr) (n c : Nat) (L : List Lx), cs = [.slice a n c] ∧ RowAt encX (fun _ => True) w a n L ∧ BigX L := by
  rcases DataW.trod_slice Tryz.underlying43 h with ⟨rfl, _⟩ | ⟨a, len, cap, elems, rest, n, rfl, rfl, hx, hb, hl, hm, hel, hall, _⟩
  · exact ⟨none, 0, 0, [], rfl, RowAt.nil _, by simp, fun x hx => by cases hx⟩
  have hr : reachBytes = 140737488351232 := rfl
  have hbz : Tryz.prog.bytesOf 48 = 48 := by kernel_rfl
  have hw : x.1.weights Tryz.prog 43 = (elems.length + rest.length) * 48 :: (DataW.weightsAll Tryz.prog 48 (elems.map (·.1)) ++ DataW.weightsAll Tryz.prog 48 (rest.map (·.1))) := by
    rw [hx]
    simp only [DataW.weights, Tryz.underlying43, hbz, List.length_map]
  rw [hw] at hz
  have hlen : len ≤ 140737488355328 := by
    have := hz _ List.mem_cons_self
    omega
  have h9 : Tryz.prog.cellsOf 9 = 1 := by kernel_rfl
  have h3 : Tryz.prog.cellsOf 3 = 1 := by kernel_rfl
  have h4 : Tryz.prog.cellsOf 48 = 4 := by kernel_rfl
  obtain ⟨L, hL, hq⟩ := row_buildQ (E := encX) (Q := fun x : Lx => x.nm.length ≤ 140737488355328 ∧ x.vl.length ≤ 140737488355328) (w := w) (a := a) (len := len) fun i hi => by
    have hh := hall i hi
    have hei : elems[i]? = some (elems[i]'(by omega)) := List.getElem?_eq_getElem (by omega)
    rw [hei] at hh
    obtain ⟨cs', hc1, hc2⟩ := Option.bind_eq_some_iff.1 hh
    rw [h4] at hc1
    obtain ⟨_, hlen, hcell⟩ := World.cells?_some hc1
    obtain ⟨xs, n', rfl, hxx, hcl, hxl, hf⟩ := DataW.trod_struct Tryz.underlying48 hc2
    obtain ⟨v0, v1, v2, v3, rfl⟩ := len4 hlen
    obtain ⟨y0, y1, y2, y3, rfl⟩ := len4 (show xs.length = 4 from hxl)
    have g0 := hf 0 _ rfl
    have g1 := hf 1 _ rfl
    have g2 := hf 2 _ rfl
    have g3 := hf 3 _ rfl
    try dsimp only at g0
    try simp only [h3] at g0
    try dsimp only at g1
    try simp only [h9] at g1
    try dsimp only at g2
    try simp only [h9] at g2
    try dsimp only at g3
    try simp only [h3] at g3
    obtain ⟨k, e0, z0, _⟩ := DataW.trod_int (k := .i64) Tryz.underlying3 g0
    obtain ⟨t, e1, z1, _⟩ := DataW.trod_string Tryz.underlying9 g1
    obtain ⟨u, e2, z2, _⟩ := DataW.trod_string Tryz.underlying9 g2
    obtain ⟨m, e3, z3, _⟩ := DataW.trod_int (k := .i64) Tryz.underlying3 g3
    simp [h9, h3] at e0 e1 e2 e3
    subst e0 e1 e2 e3
    have hwe : ∀ q ∈ (elems[i]'(by omega)).1.weights Tryz.prog 48, q ≤ reachBytes := fun q hq => hz q (List.mem_cons_of_mem _ (List.mem_append_left _ (weightsAll_mem (List.mem_map_of_mem (List.getElem_mem (by omega))) hq)))
    rw [hxx, z0, z1, z2, z3] at hwe
    have w1 := hwe t.data.toList.length (by simp [DataW.weights, Tryz.underlying48, DataW.weightsEach])
    have w2 := hwe u.data.toList.length (by simp [DataW.weights, Tryz.underlying48, DataW.weightsEach])
    refine ⟨⟨k, t.data.toList, u.data.toList, m⟩, ⟨by show t.data.toList.length ≤ _; omega, by show u.data.toList.length ≤ _; omega⟩, fun j v hj => ?_⟩
    have hj4 : j < 4 := (List.getElem?_eq_some_iff.1 hj).1
    rw [show i * encX.size = i * 4 from rfl, hcell j hj4]
    exact hj
  exact ⟨some a, len, cap, L, rfl, hL, by have := hL.1; omega, hq⟩
theorem u8_wf {n : Int} (h : (Lit.int .u8 n).wf = true) : 0 ≤ n ∧ n < 256 := by
  simp [Lit.wf, IntKind.min, IntKind.max, IntKind.signed, IntKind.bits] at h
  omega
noncomputable def flatV : Nat → DataW Unit → List Value
  | n + 1, .agg l => l.flatMap (flatV n)
  | _, .lit (.int k n) => [.int k n]
  | _, .lit (.bool b) => [.bool b]
  | _, .lit (.string s) => [.string ⟨s.toArray⟩]
  | _, _ => []
noncomputable def putG (h : Array Obj) (g : Nat) (cs : List Value) : Array Obj := h.modify g fun
  | .cells _ t frozen => .cells ⟨cs⟩ t frozen
  | o => o
noncomputable def layOne (h : Array Obj) (g : Nat) (d : DataW Unit) : Array Obj := match d with
  | .iface _ (.ptr (.agg [.lit (.string t)])) => putG (h.push (.cells ⟨[.string ⟨t.toArray⟩]⟩ 165 (0, 0))) g [.iface 163 (.pointer (some ⟨h.size, 0, none⟩))]
  | d => putG h g (flatV 5 d)
noncomputable def layAll (laid : List (String × DataW Unit)) (h : Array Obj) : Array Obj :=
  laid.foldl (fun h x => match Tryz.prog.globalNamed x.1 with
    | some g => layOne h g x.2
    | none => h) h
noncomputable def laidWorldOf (laid : List (String × DataW Unit)) (os : Os) : World :=
  { World.holding Tryz.prog os ⟨#[], #[], []⟩ with heap := layAll laid (World.holding Tryz.prog os ⟨#[], #[], []⟩).heap }
end Go.Proofs.YtpnhhkjagkajoaaGreatDoor
