/- The contracts of the functions that the law reaches, one after the other, and at the end the law's card. -/
import Derived.Test.YtcnlbobkjeiakaaGreatDoorLawE
import Derived.Lib.Join
namespace Go.Proofs
open Go Go.Sh Go.RowKit

/- supplying what is lost -/
def wrdOk (ws : List (List UInt8)) (i : Nat) (n : Int) : Bool := match ws[i]? with | some s => decide ((s.length : Int) = n) | none => false
def supG (ws : List (List UInt8)) : Fo → Nat → Bool → Fo × Nat × Bool
  | .nil, i, ok => (.nil, i, ok)
  | .cons k t n ps r, i, ok =>
    if k ≠ 6 then ((.cons k t n (supG ws ps i ok).1 (supG ws r (supG ws ps i ok).2.1 (supG ws ps i ok).2.2).1), (supG ws r (supG ws ps i ok).2.1 (supG ws ps i ok).2.2).2)
    else if wrdOk ws i n = true then (.cons 1 (ws[i]?.getD []) 0 .nil (supG ws r (i + 1) ok).1, (supG ws r (i + 1) ok).2)
    else supG ws r (i + 1) false
theorem supG_size (ws) : ∀ (f : Fo) (i : Nat) (ok : Bool), (supG ws f i ok).1.size ≤ f.size ∧ (supG ws f i ok).2.1 ≤ i + f.size ∧ (supG ws f i ok).1.len ≤ f.len
  | .nil, i, ok => by simp [supG, Fo.size]
  | .cons k t n ps r, i, ok => by
    have h1 := supG_size ws ps i ok
    have h2 := supG_size ws r (supG ws ps i ok).2.1 (supG ws ps i ok).2.2
    have h3 := supG_size ws r (i + 1) ok
    have h4 := supG_size ws r (i + 1) false
    rw [supG]
    simp only [Fo.size, Fo.len_cons]
    split
    · simp only [Fo.size, Fo.len_cons]; omega
    · split
      · simp only [Fo.size, Fo.len_cons]; omega
      · omega

set_option maxRecDepth 20000 in
theorem Supply_1_spec {b14 b8 b3 b10 : Nat} {ws : List (List UInt8)} {wa : Option Addr} {wn wc : Nat} {SW : Nat → Prop} (d1 : b14 ≠ b8) (d2 : b14 ≠ b10) (d3 : b8 ≠ b10) (d4 : b3 ≠ b8) (d5 : b3 ≠ b10) (hSW : ∀ j, SW j → j ≠ b8 ∧ j ≠ b10) :
    ∀ (f : Fo) {R : Ending → World → Prop} {S : Nat → Prop} {w : World} {a : Option Addr} {n c : Nat} (i0 : Nat) (ok0 : Bool) (hs : i0 + f.size ≤ 1000000000) (hf0 : SlF S w a n f) (hS : ∀ j, S j → j ≠ b8 ∧ j ≠ b10)
    (B14 : Blk w b14 [.func (.func 28) ⟨[]⟩ ⟨[.pointer (some ⟨b14, 0, none⟩), .pointer (some ⟨b8, 0, none⟩), .pointer (some ⟨b3, 0, none⟩), .pointer (some ⟨b10, 0, none⟩)]⟩] 56) (B3 : Blk w b3 [.slice wa wn wc] 23) (hW : RowAt encStr SW w wa wn ws) (hwn : wn ≤ 1000000000)
    (B8 : Blk w b8 [.int .i64 (i0 : Int)] 3) (B10 : Blk w b10 [.bool ok0] 4)
    (h : ∀ a' n' c' w', SlF (fun k => S k ∨ w.heap.size ≤ k) w' a' n' (supG ws f i0 ok0).1 → Chg (fun k => k = b8 ∨ k = b10) w w' → Blk w' b8 [.int .i64 ((supG ws f i0 ok0).2.1 : Int)] 3 → Blk w' b10 [.bool (supG ws f i0 ok0).2.2] 4 → R (.returned (.slice a' n' c')) w'),
    Calls Tryz.prog F_legibility_Supply_1 ⟨[.slice a n c, .pointer (some ⟨b14, 0, none⟩), .pointer (some ⟨b8, 0, none⟩), .pointer (some ⟨b3, 0, none⟩), .pointer (some ⟨b10, 0, none⟩)]⟩ w R := by
  intro f
  induction hz : f.size using Nat.strongRecOn generalizing f with
  | _ z ih =>
  intro R S w a n c i0 ok0 hs hf0 hS B14 B3 hW hwn B8 B10 h
  apply c_legibility_Supply_1
  have hn := hf0.1
  have hfl := f.len_le_size
  have l8 := B8.lt
  have l10 := B10.lt
  have hf : SlF (fun k => S k ∧ k < w.heap.size) w a n f := hf0.imp fun k hk hl => ⟨hk, hl⟩
  have hwl := hW.1
  refine ⟨fun oa on oc i W m => ∃ (p r out : Fo) (i1 : Nat) (ok1 : Bool), f = p.app r ∧ i = p.len ∧ m = r.len ∧ OwnF 45 (fun k => S k ∧ k < w.heap.size) w.heap.size W oa on oc out ∧ out.len ≤ p.len ∧ i1 + r.size ≤ i0 + f.size ∧ Chg (fun k => k = b8 ∨ k = b10) w W ∧
      Blk W b8 [.int .i64 (i1 : Int)] 3 ∧ Blk W b10 [.bool ok1] 4 ∧ supG ws f i0 ok0 = (out.app (supG ws r i1 ok1).1, (supG ws r i1 ok1).2),
    ⟨_, .nil, f, .nil, i0, ok0, rfl, rfl, rfl, OwnF.nil w, by simp, by omega, Chg.refl _ _, B8, B10, by simp⟩, ?_⟩
  rintro oa on oc _ W m ⟨p, r, out, i1, ok1, hpr, rfl, rfl, hout, holen, hi1, he, G8, G10, heq⟩ _
  have hon := hout.len
  have hwW := he.size
  have hTb : ∀ j, (j = b8 ∨ j = b10) → ¬ (S j ∧ j < w.heap.size) ∧ j < w.heap.size := fun j hj => ⟨fun hh => by have := hS j hh.1; omega, by omega⟩
  refine br_split (fun hlt => ?_) (fun hge => ?_)
  · obtain ⟨k, t, mm, ps, r, rfl⟩ := Fo.next hpr (by omega)
    have hsl := Fo.sub_len hpr
    have hsz := Fo.sub_size hpr
    have e1 : f = (p.app (.one k t mm ps)).app r := by rw [Fo.app_one_app]; exact hpr
    have hfs : f.size = p.size + (ps.size + r.size + 1) := by rw [hpr, Fo.size_app]; rfl
    have i1' : IntKind.i64.wrap ((p.len : Int) + 1) = ((p.app (.one k t mm ps)).len : Int) := by rw [wrap_nat (by omega)]; simp [Fo.one]
    simp only [Fo.size] at hi1
    obtain ⟨q, a', c', hq, hSq, hql, hN⟩ := (hf.chg he fun j hj hh => (hTb j hh).1 hj).get hpr
    refine hq _ ⟨k, hN.kind, t, hN.text, mm, hN.num, a', ps.len, c', hN.parts, ?_⟩
    refine al_stL (by simp) (by intro u hu; simp only [List.mem_cons, List.not_mem_nil, or_false] at hu; rcases hu with rfl | rfl | rfl | rfl <;> rfl) fun bx w1 hbx hBx e2 s2 => ?_
    obtain ⟨x0, x1, x2, x3⟩ := blk4 hBx
    have H1 : Chg (fun k => k = b8 ∨ k = b10) w w1 := he.trans (.of_ext e2)
    have ho1 := hout.ext e2
    have zz := e2.size
    have nb : ∀ j, (j = b8 ∨ j = b10) → j ≠ b14 ∧ j ≠ b3 := fun j hj => by omega
    have K14 := H1.blk B14 (by omega)
    have K3 := H1.blk B3 (by omega)
    have KW := hW.chg H1 (fun j hj hh => by have := hSW j hj; omega)
    have K8 := G8.ext e2
    have K10 := G10.ext e2
    refine ⟨k, x0, br_split (fun g => ?_) (fun g => ?_)⟩
    · -- any other node
      rw [supG, if_pos g] at heq
      refine dr_ok ⟨.func 28, ⟨[]⟩, ⟨[.pointer (some ⟨b14, 0, none⟩), .pointer (some ⟨b8, 0, none⟩), .pointer (some ⟨b3, 0, none⟩), .pointer (some ⟨b10, 0, none⟩)]⟩, by rw [K14.cell]; rfl, a', ps.len, c', x3, by kernel_rfl, ?_⟩
      refine ih _ (hz ▸ hsz) ps rfl (S := fun k => S k ∧ k < w.heap.size) i1 ok1 (by omega) (hN.sl.ext e2) (fun j hj => hS j hj.1) K14 K3 KW hwn K8 K10 fun a3 n3 c3 w3 hsl3 hc3 D8 D10 => ⟨_, _, _, rfl, ?_⟩
      have hn3 := hsl3.1
      have z3 := hc3.size
      have hBx3 := hc3.blk hBx (by omega)
      have hss := supG_size ws ps i1 ok1
      rw [add_none]
      refine stL_blk hBx3 (by simp) (by intro u hu; simp only [List.mem_singleton] at hu; subst hu; rfl) fun w4 b1 b2 b3' b4 b5 b6 => ?_
      simp only [putAt, List.set] at b1
      have hc4 : Chg (· = bx) w3 w4 := ⟨b4, b5, b6, by omega, fun k _ hk => b2 k hk⟩
      have hcW4 : Chg (fun k => k = b8 ∨ k = b10) W w4 := chg_then (chg_then (Chg.of_ext (S := fun k => k = b8 ∨ k = b10) e2) hc3 fun i _ h => h) hc4 fun i hi hh => by omega
      have ho4 := hout.chg hcW4 hTb
      have z4 := hcW4.size
      have hp4 : SlF (fun j => (S j ∧ j < w.heap.size) ∨ w1.heap.size ≤ j) w4 a3 n3 (supG ws ps i1 ok1).1 := hsl3.chg hc4 fun j hj he => by
        subst he; rcases hj with hj | hj <;> omega
      subst hn3
      obtain ⟨y0, y1, y2, y3⟩ := blk4 b1
      refine ⟨k, y0, t, y1, mm, y2, a3, _, c3, y3, ?_⟩
      refine OwnF.push slT_node ho4 (by omega) (own_parts hp4 (fun j hj => hj.2) hout (by omega) (by omega)) (by omega) (by omega) fun a5 n5 c5 w5 ho5 hc5 => ?_
      have nbk : ∀ j, bk oa j → j ≠ b8 ∧ j ≠ b10 := fun j hj => by have := (hout.bk hj).1; omega
      refine ⟨r.len, by simp, _, r, _, (supG ws ps i1 ok1).2.1, (supG ws ps i1 ok1).2.2, e1, i1', rfl, ho5, by simp [Fo.one]; omega, by omega, ?_, ?_, ?_, ?_⟩
      · exact chg_then (chg_then he hcW4 fun i _ h => h) hc5 fun i hi hh => by have := (hout.bk hh).1; omega
      · exact hc5.blk (hc4.blk D8 (by omega)) fun hh => by have := nbk _ hh; omega
      · exact hc5.blk (hc4.blk D10 (by omega)) fun hh => by have := nbk _ hh; omega
      · rw [heq, Fo.app_one_app]
    · -- a gap
      have g6 : k = 6 := Decidable.not_not.1 g
      rw [supG, if_neg g] at heq
      unfold drw
      have ed := ext_drew w1
      generalize w1.drew = wd at ed ⊢
      have zd := ed.size
      have L14 := K14.ext ed
      have L3 := K3.ext ed
      have LW := KW.ext ed
      have L8 := K8.ext ed
      have L10 := K10.ext ed
      obtain ⟨x0', x1', x2', x3'⟩ := blk4 (hBx.ext ed)
      have Ed : Ext W wd := ext_trans e2 ed
      have hod := hout.ext Ed
      have Hd : Chg (fun k => k = b8 ∨ k = b10) w wd := he.trans (.of_ext Ed)
      have ii : IntKind.i64.wrap ((i1 : Int) + 1) = ((i1 + 1 : Nat) : Int) := wrap_nat (by omega)
      intro K37 hK37
      have kF : ¬ wrdOk ws i1 mm = true → K37 true wd := by
        intro hw
        rw [if_neg hw] at heq
        refine hK37 _ _ fun _ => ?_
        simp only [br_t]
        refine dr_ok (stL_one L10 rfl fun w40 M10 hc40 s40 => ?_)
        have M8 := hc40.blk L8 (by omega)
        refine dr_ok ⟨_, by rw [M8.cell]; rfl, dr_ok ?_⟩
        rw [ii]
        refine stL_one M8 rfl fun w44 N8 hc44 s44 => ?_
        have hcW : Chg (fun k => k = b8 ∨ k = b10) wd w44 := (hc40.mono fun k _ hk => .inr hk).trans (hc44.mono fun k _ hk => .inl hk)
        exact ⟨r.len, by simp, _, r, out, i1 + 1, false, e1, i1', rfl, hod.chg hcW hTb, by simp [Fo.one]; omega, by omega, Hd.trans hcW, N8, hc44.blk M10 (by omega), heq⟩
      have kT : wrdOk ws i1 mm = true → K37 false wd := by
        intro hw
        rw [if_pos hw] at heq
        refine hK37 _ _ fun _ => ?_
        simp only [br_f]
        have hil : i1 < ws.length := by
          unfold wrdOk at hw
          cases hg : ws[i1]? with
          | none => rw [hg] at hw; cases hw
          | some s => exact (List.getElem?_eq_some_iff.1 hg).1
        refine dr_ok ⟨wa, wn, wc, by rw [L3.cell]; rfl, dr_ok ⟨_, by rw [L8.cell]; rfl, ?_⟩⟩
        obtain ⟨q2, hq2, c2⟩ := get_str LW hil
        refine hq2 _ ⟨_, c2, ?_⟩
        refine OwnF.push (ps := .nil) slT_node hod (by omega) (SlF.nil none) (by omega) (by omega) fun a5 n5 c5 w5 ho5 hc5 => ?_
        have nbk : ∀ j, bk oa j → j ≠ b8 ∧ j ≠ b10 := fun j hj => by have := (hout.bk hj).1; omega
        have M8 := hc5.blk L8 (fun hh => by have := nbk _ hh; omega)
        have M10 := hc5.blk L10 (fun hh => by have := nbk _ hh; omega)
        refine dr_ok ⟨_, by rw [M8.cell]; rfl, dr_ok ?_⟩
        rw [ii]
        refine stL_one M8 rfl fun w59 N8 hc59 s59 => ?_
        have hcW : Chg (fun k => k = b8 ∨ k = b10) w5 w59 := hc59.mono fun k _ hk => .inl hk
        have hws : ws[i1]?.getD [] = ws[i1] := by rw [List.getElem?_eq_getElem hil]; rfl
        refine ⟨r.len, by simp, _, r, out.app (.one 1 ws[i1] 0 .nil), i1 + 1, ok1, e1, i1', rfl, ho5.chg hcW hTb, by simp [Fo.one]; omega, by omega, ?_, N8, hc59.blk M10 (by omega), ?_⟩
        · exact chg_then (chg_then Hd hc5 fun i hi hh => by have := (hout.bk hh).1; omega) hcW fun i _ h => h
        · rw [heq, Fo.app_one_app, hws]
      refine dr_ok ⟨_, by rw [L8.cell]; rfl, dr_ok ⟨wa, wn, wc, by rw [L3.cell]; rfl, br_split (fun hge2 => kF ?_) (fun hlt2 => ?_)⟩⟩
      · unfold wrdOk
        rw [List.getElem?_eq_none (by omega)]; simp
      · have hil : i1 < ws.length := by omega
        refine dr_ok ⟨wa, wn, wc, by rw [L3.cell]; rfl, dr_ok ⟨_, by rw [L8.cell]; rfl, ?_⟩⟩
        obtain ⟨q2, hq2, c2⟩ := get_str LW hil
        refine hq2 _ ⟨_, c2, mm, x2', ?_⟩
        by_cases hh : ((ws[i1].length : Int)) = mm
        · rw [show decide (((ws[i1].length : Int)) ≠ mm) = false by simp [hh]]
          exact kT (by unfold wrdOk; rw [List.getElem?_eq_getElem hil]; simp [hh])
        · rw [show decide (((ws[i1].length : Int)) ≠ mm) = true by simp [hh]]
          exact kF (by unfold wrdOk; rw [List.getElem?_eq_getElem hil]; simp [hh])
  · obtain ⟨rfl, rfl⟩ := Fo.last hpr (by omega)
    rw [heq] at h
    simp only [supG, Fo.app_nil] at h
    exact h oa on oc W (hout.out.imp fun k hk _ => hk.imp (fun h => h.1) id) he G8 G10
end Go.Proofs
namespace Go.Proofs
open Go Go.Sh Go.RowKit

def supE (f : Fo) (ws : List (List UInt8)) : Int :=
  if errU f ≠ 0 then errU f else if (supG ws f 0 true).2.2 = false then 9 else if ((supG ws f 0 true).2.1 : Int) ≠ ws.length then 9 else checkT (mergeF (supG ws f 0 true).1)
def supR (f : Fo) (ws : List (List UInt8)) : Fo := if supE f ws ≠ 0 then .nil else mergeF (supG ws f 0 true).1
theorem supG_tlen (ws) : ∀ (f : Fo) (i : Nat) (ok : Bool), good f → tlen (supG ws f i ok).1 ≤ tlen f + 100 * f.size
  | .nil, i, ok, _ => by simp [supG, tlen]
  | .cons k t n ps r, i, ok, hg => by
    have h1 := supG_tlen ws ps i ok hg.2.1
    have h2 := supG_tlen ws r (supG ws ps i ok).2.1 (supG ws ps i ok).2.2 hg.2.2
    have h3 := supG_tlen ws r (i + 1) ok hg.2.2
    have h4 := supG_tlen ws r (i + 1) false hg.2.2
    rw [supG]
    simp only [Fo.size, tlen]
    split
    · simp only [tlen]; omega
    · rename_i hk
      have h6 : k = 6 := Decidable.not_not.1 hk
      have := hg.1.2.2.1 (by simp only [numsF]; rw [h6]; rfl)
      split
      · rename_i hw
        simp only [tlen]
        unfold wrdOk at hw
        cases hq : ws[i]? with
        | none => rw [hq] at hw; cases hw
        | some s =>
          rw [hq] at hw
          simp only [decide_eq_true_eq] at hw
          simp only [Option.getD_some]; omega
      · omega
set_option maxRecDepth 20000 in
theorem Supply_spec {R : Ending → World → Prop} {S SW : Nat → Prop} {w : World} {a : Option Addr} {n c : Nat} {wa : Option Addr} {wn wc : Nat} {ws : List (List UInt8)} (f : Fo) (hs : small f) (hF : Forms w) (hf0 : SlF S w a n f) (hW0 : RowAt encStr SW w wa wn ws) (hwn : wn ≤ 1000000000)
    (h : ∀ a' n' c' w', SlF (fun k => S k ∨ w.heap.size ≤ k) w' a' n' (supR f ws) → Ext w w' → R (.returned (.tuple ⟨[.slice a' n' c', .int .i64 (supE f ws)]⟩)) w') : Calls Tryz.prog F_legibility_Supply ⟨[.slice a n c, .slice wa wn wc]⟩ w R := by
  apply c_legibility_Supply
  have er : ∀ e w', supE f ws = e → e ≠ 0 → Ext w w' → R (.returned (.tuple ⟨[.slice none 0 0, .int .i64 e]⟩)) w' := by
    intro e w' he h0 hx
    have hr : supR f ws = .nil := by unfold supR; rw [if_pos (by rw [he]; exact h0)]
    rw [hr, he] at h
    exact h none 0 0 w' (SlF.nil _) hx
  have hf : SlF (fun k => S k ∧ k < w.heap.size) w a n f := hf0.imp fun k hk hl => ⟨hk, hl⟩
  have hW : RowAt encStr (fun k => SW k ∧ k < w.heap.size) w wa wn ws := hW0.imp fun k hk hl => ⟨hk, hl⟩
  refine al_intro fun b3 w4 hb3 B3 e4 s4 => ?_
  refine checkL_spec f hs (hF.ext e4) (hf.ext e4) fun w6 e6 => ⟨_, rfl, br_split (fun g => er _ _ (by unfold supE; rw [if_pos g]) g (ext_trans e4 e6)) (fun g => ?_)⟩
  have E6 := ext_trans e4 e6
  have he0 := Decidable.not_not.1 g
  obtain ⟨hc0, _⟩ := errU_zero he0
  obtain ⟨q1, q2, q3⟩ := check_zero hc0
  refine al_intro fun b8 w9 hb8 B8 e9 s9 => ?_
  refine al_intro fun b10 w11 hb10 B10 e11 s11 => ?_
  refine stL_one (B8.ext e11) rfl fun w12 C8 hc12 s12 => ?_
  refine stL_one (hc12.blk B10 (by omega)) rfl fun w13 C10 hc13 s13 => ?_
  refine al_intro fun b14 w15 hb14 B14 e15 s15 => ?_
  refine stL_one B14 rfl fun w16 C14 hc16 s16 => ?_
  have z6 := E6.size
  have z4 := e4.size
  have z46 := e6.size
  have e611 := ext_trans e9 e11
  have e612 := ext_chgS e611 hc12 fun k hk => by omega
  have e613 := ext_chgS e612 hc13 fun k hk => by omega
  have e615 := ext_trans e613 e15
  have e616 := ext_chgS e615 hc16 fun k hk => by omega
  have E16 := ext_trans E6 e616
  have D8 := hc16.blk ((hc13.blk C8 (by omega)).ext e15) (by omega)
  have D10 := hc16.blk (C10.ext e15) (by omega)
  have D3 := (B3.ext e6).ext e616
  have z16 := E16.size
  refine ⟨.func 28, ⟨[]⟩, ⟨[.pointer (some ⟨b14, 0, none⟩), .pointer (some ⟨b8, 0, none⟩), .pointer (some ⟨b3, 0, none⟩), .pointer (some ⟨b10, 0, none⟩)]⟩, by rw [C14.cell]; rfl, by kernel_rfl, ?_⟩
  unfold small at hs
  refine Supply_1_spec (by omega) (by omega) (by omega) (by omega) (by omega) (SW := fun k => SW k ∧ k < w.heap.size) (fun j hj => by omega) f 0 true (by omega) (hf.ext E16) (fun j hj => by omega) C14 D3 (hW.ext E16) hwn D8 D10 fun a2 n2 c2 w19 hsl19 hc19 G8 G10 => ⟨_, _, _, rfl, ?_⟩
  have E19 : Ext w w19 := ext_chgS E16 hc19 fun j hj => by omega
  have z19 := hc19.size
  have hgs := supG_size ws f 0 true
  have hgt := supG_tlen ws f 0 true q2
  intro K21 hK21
  have k21 : (supG ws f 0 true).2.2 = true → ((supG ws f 0 true).2.1 : Int) = ws.length → K21 w19 := by
    intro h1 h2
    refine hK21 _ fun _ => ?_
    have hE : supE f ws = checkT (mergeF (supG ws f 0 true).1) := by unfold supE; rw [if_neg g, if_neg (by simp [h1]), if_neg (by simp [h2])]
    refine Merge_spec (supG ws f 0 true).1 (by omega) (by omega) hsl19 fun a3 n3 c3 w24 hsl24 e24 => ⟨_, _, _, rfl, ?_⟩
    have E24 := ext_trans E19 e24
    have hms := mergeF_size (supG ws f 0 true).1
    refine Check22_spec _ (by unfold small; omega) hsl24 (hF.ext E24) fun w27 e27 => ⟨_, rfl, br_split (fun gg => ?_) (fun gg => ?_)⟩
    · exact er _ _ hE gg (ext_trans E24 e27)
    · have h0 := Decidable.not_not.1 gg
      have hr : supR f ws = mergeF (supG ws f 0 true).1 := by unfold supR; rw [if_neg (by rw [hE]; exact gg)]
      have := h a3 n3 c3 w27 (by
        rw [hr]
        refine (hsl24.ext e27).imp fun j hj hl => ?_
        rcases hj with (hj | hj) | hj
        · exact .inl hj.1
        · exact .inr (by omega)
        · exact .inr (by omega)) (ext_trans E24 e27)
      rw [hE, h0] at this
      exact this
  refine ⟨_, by rw [G10.cell]; rfl, br_cases (fun gg => er 9 _ ?_ (by decide) E19) (fun gg => ⟨_, by rw [G8.cell]; rfl, wa, wn, wc, by rw [(hc19.blk D3 (by omega)).cell]; rfl, br_split (fun gn => er 9 _ ?_ (by decide) E19) (fun gn => ?_)⟩)⟩
  · unfold supE; rw [if_neg g, if_pos (by simpa using gg)]
  · have : (supG ws f 0 true).2.2 = true := by simpa using gg
    unfold supE; rw [if_neg g, if_neg (by simp [this]), if_pos (by rw [← hW.1]; exact gn)]
  · exact k21 (by simpa using gg) (by rw [← hW.1]; exact Decidable.not_not.1 gn)
end Go.Proofs
namespace Go.Proofs
open Go Go.Sh Go.RowKit

/- what was supplied at the gaps -/
def cutF : List UInt8 → List UInt8 → List UInt8
  | p :: ps, s :: ss => if p = 95 then s :: cutF ps ss else cutF ps ss
  | _, _ => []
def fitL : List UInt8 → List UInt8 → Bool
  | [], [] => true
  | p :: ps, s :: ss => (decide (s = p) || decide (p = 95)) && fitL ps ss
  | _, _ => false
theorem cutF_app : ∀ {p s : List UInt8} (p' s' : List UInt8), p.length = s.length → cutF (p ++ p') (s ++ s') = cutF p s ++ cutF p' s'
  | [], [], p', s', _ => by simp [cutF]
  | a :: p, b :: s, p', s', h => by
    simp only [List.cons_append, cutF]
    rw [cutF_app p' s' (by simpa using h)]
    split <;> simp
  | [], b :: s, _, _, h => by simp at h
  | a :: p, [], _, _, h => by simp at h
theorem fitL_app : ∀ {p s : List UInt8} (p' s' : List UInt8), p.length = s.length → fitL (p ++ p') (s ++ s') = (fitL p s && fitL p' s')
  | [], [], p', s', _ => by simp [fitL]
  | a :: p, b :: s, p', s', h => by
    simp only [List.cons_append, fitL]
    rw [fitL_app p' s' (by simpa using h), Bool.and_assoc]
  | [], b :: s, _, _, h => by simp at h
  | a :: p, [], _, _, h => by simp at h
theorem fitL_same : ∀ t : List UInt8, fitL t t = true
  | [] => rfl
  | a :: t => by simp [fitL, fitL_same t]
theorem cutF_same : ∀ t : List UInt8, (95 : UInt8) ∉ t → cutF t t = []
  | [], _ => rfl
  | a :: t, h => by
    simp only [List.mem_cons, not_or] at h
    rw [cutF, if_neg (Ne.symm h.1), cutF_same t h.2]
theorem fitL_rep : ∀ s : List UInt8, fitL (List.replicate s.length 95) s = true
  | [] => rfl
  | a :: s => by simp [List.replicate_succ, fitL, fitL_rep s]
theorem cutF_rep : ∀ s : List UInt8, cutF (List.replicate s.length 95) s = s
  | [] => rfl
  | a :: s => by simp [List.replicate_succ, cutF, cutF_rep s]
theorem fitL_get : ∀ {p s : List UInt8}, fitL p s = true → p.length = s.length ∧ ∀ i : Nat, s[i]? = p[i]? ∨ p[i]? = some 95
  | [], [], _ => ⟨rfl, fun i => .inl rfl⟩
  | a :: p, b :: s, h => by
    rw [fitL, Bool.and_eq_true, Bool.or_eq_true, decide_eq_true_eq, decide_eq_true_eq] at h
    obtain ⟨h1, h2⟩ := fitL_get h.2
    refine ⟨by simp [h1], fun i => ?_⟩
    cases i with
    | zero => simpa using h.1
    | succ i => simpa using h2 i
  | [], b :: s, h => by simp [fitL] at h
  | a :: p, [], h => by simp [fitL] at h
theorem fitB_of {p s : List UInt8} (h : fitL p s = true) : fitB p s = true := by
  obtain ⟨h1, h2⟩ := fitL_get h
  unfold fitB
  rw [Bool.and_eq_true, decide_eq_true_eq, List.all_eq_true]
  refine ⟨h1, fun i _ => ?_⟩
  rw [Bool.or_eq_true, decide_eq_true_eq, decide_eq_true_eq]
  exact h2 i

/- the kinds of nodes -/
def allK (q : Int → Bool) : Fo → Bool
  | .nil => true
  | .cons k _ _ ps r => q k && (allK q ps && allK q r)
def txF : Fo → Prop
  | .nil => True
  | .cons k _ _ ps r => (k = 1 → ps = .nil) ∧ txF ps ∧ txF r
theorem cleanF_all : ∀ f : Fo, cleanF f = allK (fun k => !(decide (k = 8) || decide (k = 9))) f
  | .nil => rfl
  | .cons k t n ps r => by rw [cleanF_cons, cleanF_all ps, cleanF_all r]; rfl
theorem allK_merge {q : Int → Bool} (h1 : q 1 = true) : ∀ f : Fo, allK q f = true → allK q (mergeR f) = true
  | .nil, _ => rfl
  | .cons k t n ps r, h => by
    rw [allK, Bool.and_eq_true, Bool.and_eq_true] at h
    have i1 := allK_merge h1 ps h.2.1
    have i2 := allK_merge h1 r h.2.2
    rw [mergeR]
    unfold consM
    by_cases hk : k = 1
    · rw [if_pos hk]
      by_cases ht : t = []
      · rw [if_pos ht]; exact i2
      · rw [if_neg ht]
        cases hr : mergeR r with
        | nil => simp [allK, hk, h1, i1]
        | cons k' t' n' ps' r' =>
          rw [hr, allK, Bool.and_eq_true, Bool.and_eq_true] at i2
          by_cases hk' : k' = 1
          · simp [allK, hk, hk', h1, i1, i2.2.2]
          · simp [allK, hk, hk', h1, i1, i2.1, i2.2.1, i2.2.2]
    · rw [if_neg hk]; simp [allK, h.1, i1, i2]
theorem txF_merge : ∀ f : Fo, txF f → txF (mergeR f)
  | .nil, _ => trivial
  | .cons k t n ps r, ⟨h1, h2, h3⟩ => by
    have i1 := txF_merge ps h2
    have i2 := txF_merge r h3
    rw [mergeR]
    unfold consM
    by_cases hk : k = 1
    · have hp := h1 hk
      subst hp
      rw [if_pos hk]
      by_cases ht : t = []
      · rw [if_pos ht]; exact i2
      · rw [if_neg ht]
        cases hr : mergeR r with
        | nil => exact ⟨fun _ => rfl, trivial, trivial⟩
        | cons k' t' n' ps' r' =>
          rw [hr] at i2
          by_cases hk' : k' = 1
          · simp only [hk', if_true]
            exact ⟨fun _ => rfl, trivial, i2.2.2⟩
          · simp only [hk', if_false]
            exact ⟨fun _ => rfl, trivial, i2⟩
    · rw [if_neg hk]
      exact ⟨fun h => absurd h hk, i1, i2⟩
theorem patF_merge : ∀ f : Fo, txF f → patF (mergeR f) = patF f
  | .nil, _ => rfl
  | .cons k t n ps r, ⟨h1, h2, h3⟩ => by
    have i1 := patF_merge ps h2
    have i2 := patF_merge r h3
    have x2 := txF_merge r h3
    rw [mergeR]
    unfold consM
    by_cases hk : k = 1
    · have hp := h1 hk
      subst hp
      rw [if_pos hk]
      have e : patF (.cons k t n .nil r) = t ++ patF r := by rw [patF_cons]; simp [patN, hk, patF, nodesF]
      rw [e]
      by_cases ht : t = []
      · rw [if_pos ht, i2, ht]; rfl
      · rw [if_neg ht]
        cases hr : mergeR r with
        | nil =>
          rw [hr] at i2
          rw [← i2]
          show patF (.cons k t n .nil .nil) = _
          rw [patF_cons]; simp [patN, hk, patF, nodesF]
        | cons k' t' n' ps' r' =>
          rw [hr] at i2 x2
          by_cases hk' : k' = 1
          · have hp' := x2.1 hk'
            subst hp'
            rw [← i2]
            simp only [hk', if_true]
            rw [patF_cons, patF_cons]
            simp [patN, hk, mergeR, patF, nodesF]
          · simp only [hk', if_false]
            show patF (.cons k t n .nil (.cons k' t' n' ps' r')) = _
            rw [patF_cons, i2]
            simp [patN, hk, patF, nodesF]
    · rw [if_neg hk, patF_cons, patF_cons, i1, i2]; rfl
theorem chars_print : ∀ f : Fo, good f → (charsF f).length ≤ (printF f).length
  | .nil, _ => Nat.le_refl _
  | .cons k t n ps r, h => by
    have i1 := chars_print ps h.2.1
    have i2 := chars_print r h.2.2
    rw [charsF, printF]
    simp only [List.length_append]
    unfold nodeF
    by_cases hk : k = 1
    · have hp : ps.len = 0 := h.1.2.2.2.2.1 (by rw [hk]; decide)
      rw [Fo.eq_nil_of_len hp, if_pos hk, if_pos hk]
      simp only [charsF, List.length_nil]; omega
    · rw [if_neg hk, if_neg hk]
      by_cases hp : partsF k = true
      · rw [if_pos hp]
        simp only [List.length_append, List.length_nil]; omega
      · have : ps.len = 0 := h.1.2.2.2.2.1 (by simpa using hp)
        rw [Fo.eq_nil_of_len this]
        simp only [charsF, List.length_nil]; omega

/- what supplying gives -/
theorem supG_kinds {q : Int → Bool} (h1 : q 1 = true) (ws) : ∀ (f : Fo) (i : Nat) (ok : Bool), allK (fun k => decide (k = 6) || q k) f = true → allK q (supG ws f i ok).1 = true
  | .nil, _, _, _ => rfl
  | .cons k t n ps r, i, ok, h => by
    rw [allK, Bool.and_eq_true, Bool.and_eq_true] at h
    have i1 := supG_kinds h1 ws ps i ok h.2.1
    have i2 := supG_kinds h1 ws r (supG ws ps i ok).2.1 (supG ws ps i ok).2.2 h.2.2
    have i3 := supG_kinds h1 ws r (i + 1) ok h.2.2
    have i4 := supG_kinds h1 ws r (i + 1) false h.2.2
    rw [supG]
    by_cases hk : k = 6
    · rw [if_neg (by simp [hk])]
      by_cases hw : wrdOk ws i n = true
      · rw [if_pos hw]; simp [allK, h1, i3]
      · rw [if_neg hw]; exact i4
    · rw [if_pos hk]
      have := h.1
      simp [hk] at this
      simp [allK, this, i1, i2]
theorem supG_tx (ws) : ∀ (f : Fo) (i : Nat) (ok : Bool), txF f → txF (supG ws f i ok).1
  | .nil, _, _, _ => trivial
  | .cons k t n ps r, i, ok, ⟨h1, h2, h3⟩ => by
    have i1 := supG_tx ws ps i ok h2
    have i2 := supG_tx ws r (supG ws ps i ok).2.1 (supG ws ps i ok).2.2 h3
    have i3 := supG_tx ws r (i + 1) ok h3
    have i4 := supG_tx ws r (i + 1) false h3
    rw [supG]
    by_cases hk : k = 6
    · rw [if_neg (by simp [hk])]
      by_cases hw : wrdOk ws i n = true
      · rw [if_pos hw]; exact ⟨fun _ => rfl, trivial, i3⟩
      · rw [if_neg hw]; exact i4
    · rw [if_pos hk]
      refine ⟨fun h => ?_, i1, i2⟩
      rw [h1 h]; rfl
theorem good_tx : ∀ f : Fo, good f → txF f
  | .nil, _ => trivial
  | .cons k t n ps r, h => ⟨fun hk => Fo.eq_nil_of_len (h.1.2.2.2.2.1 (by rw [hk]; decide)), good_tx ps h.2.1, good_tx r h.2.2⟩
theorem supG_ok (ws) : ∀ (f : Fo) (i : Nat) (ok : Bool), (supG ws f i ok).2.2 = true → ok = true
  | .nil, _, _, h => h
  | .cons k t n ps r, i, ok, h => by
    rw [supG] at h
    split at h
    · exact supG_ok ws ps i ok (supG_ok ws r _ _ h)
    · split at h
      · exact supG_ok ws r _ _ h
      · have := supG_ok ws r _ _ h; cases this
theorem cat_step {ws : List (List UInt8)} {i j : Nat} (hi : i < ws.length) (hj : i + 1 ≤ j) : ((ws.drop i).take (j - i)).flatten = ws[i] ++ ((ws.drop (i + 1)).take (j - (i + 1))).flatten := by
  rw [List.drop_eq_getElem_cons hi, show j - i = (j - (i + 1)) + 1 by omega, List.take_succ_cons, List.flatten_cons]
theorem cat_two {ws : List (List UInt8)} {i j k : Nat} (h1 : i ≤ j) (h2 : j ≤ k) : ((ws.drop i).take (k - i)).flatten = ((ws.drop i).take (j - i)).flatten ++ ((ws.drop j).take (k - j)).flatten := by
  have e : (ws.drop i).take (k - i) = (ws.drop i).take (j - i) ++ (ws.drop j).take (k - j) := by
    rw [show k - i = (j - i) + (k - j) by omega, List.take_add, List.drop_drop, show i + (j - i) = j by omega]
  rw [e, List.flatten_append]
theorem sup_sub (ws) : ∀ (f : Fo) (i : Nat) (ok : Bool), good f → (∀ x ∈ nodesF f, x.k = 1 → (95 : UInt8) ∉ x.t) → (supG ws f i ok).2.2 = true →
    i ≤ (supG ws f i ok).2.1 ∧ (patF f).length = (patF (supG ws f i ok).1).length ∧ fitL (patF f) (patF (supG ws f i ok).1) = true ∧ cutF (patF f) (patF (supG ws f i ok).1) = ((ws.drop i).take ((supG ws f i ok).2.1 - i)).flatten
  | .nil, i, ok, _, _, _ => by simp [supG, patF, nodesF, fitL, cutF]
  | .cons k t n ps r, i, ok, hg, hu, h => by
    have up : ∀ x ∈ nodesF ps, x.k = 1 → (95 : UInt8) ∉ x.t := fun x hx => hu x (by rw [nodesF]; simp [hx])
    have ur : ∀ x ∈ nodesF r, x.k = 1 → (95 : UInt8) ∉ x.t := fun x hx => hu x (by rw [nodesF]; simp [hx])
    rw [supG] at h ⊢
    by_cases hk : k = 6
    · rw [if_neg (by simp [hk])] at h ⊢
      have hn := hg.1.2.2.1 (by simp only [numsF]; rw [hk]; rfl)
      have hp : ps = .nil := Fo.eq_nil_of_len (hg.1.2.2.2.2.1 (by rw [hk]; decide))
      subst hp
      by_cases hw : wrdOk ws i n = true
      · rw [if_pos hw] at h ⊢
        obtain ⟨j1, j2, j3, j4⟩ := sup_sub ws r (i + 1) ok hg.2.2 ur h
        have hil : i < ws.length ∧ ((ws[i]?.getD []).length : Int) = n := by
          unfold wrdOk at hw
          cases hq : ws[i]? with
          | none => rw [hq] at hw; cases hw
          | some s => rw [hq] at hw; exact ⟨(List.getElem?_eq_some_iff.1 hq).1, by simpa using hw⟩
        have hws : ws[i]?.getD [] = ws[i] := by rw [List.getElem?_eq_getElem hil.1]; rfl
        rw [hws] at hil ⊢
        have e1 : patF (.cons k t n .nil r) = List.replicate ws[i].length 95 ++ patF r := by
          rw [patF_cons]
          have : n.toNat = ws[i].length := by omega
          simp [patN, hk, this, patF, nodesF]
        have e2 : patF (.cons 1 ws[i] 0 .nil (supG ws r (i + 1) ok).1) = ws[i] ++ patF (supG ws r (i + 1) ok).1 := by rw [patF_cons]; simp [patN, patF, nodesF]
        have hl : (List.replicate ws[i].length (95 : UInt8)).length = ws[i].length := List.length_replicate
        rw [e1, e2]
        refine ⟨by show i ≤ (supG ws r (i + 1) ok).2.1; omega, by rw [List.length_append, List.length_append, hl, j2], by rw [fitL_app _ _ hl, fitL_rep, j3]; rfl, ?_⟩
        rw [cutF_app _ _ hl, cutF_rep, j4]
        exact (cat_step hil.1 j1).symm
      · rw [if_neg hw] at h
        have := supG_ok ws r _ _ h; cases this
    · rw [if_pos hk] at h ⊢
      have hok := supG_ok ws r _ _ h
      obtain ⟨j1, j2, j3, j4⟩ := sup_sub ws r _ _ hg.2.2 ur h
      obtain ⟨i1, i2, i3, i4⟩ := sup_sub ws ps i ok hg.2.1 up hok
      have hx : patN ⟨k, t, n, (supG ws ps i ok).1⟩ = patN ⟨k, t, n, ps⟩ := rfl
      have hs : fitL (patN ⟨k, t, n, ps⟩) (patN ⟨k, t, n, ps⟩) = true := fitL_same _
      have hc : cutF (patN ⟨k, t, n, ps⟩) (patN ⟨k, t, n, ps⟩) = [] := by
        refine cutF_same _ ?_
        unfold patN
        rw [if_neg hk]
        by_cases h1 : k = 1
        · rw [if_pos h1]; exact hu ⟨k, t, n, ps⟩ (by rw [nodesF]; simp) h1
        · rw [if_neg h1]; simp
      rw [patF_cons, patF_cons, hx]
      refine ⟨by show i ≤ (supG ws r _ _).2.1; omega, by simp only [List.length_append]; omega, ?_, ?_⟩
      · rw [fitL_app _ _ rfl, fitL_app _ _ i2, hs, i3, j3]; rfl
      · rw [cutF_app _ _ rfl, cutF_app _ _ i2, hc, i4, j4]
        exact (cat_two i1 j1).symm
theorem lost_none : ∀ f : Fo, allK (fun k => decide (k ≠ 6)) f = true → lostF f = 0 ∧ patF f = charsF f
  | .nil, _ => ⟨rfl, rfl⟩
  | .cons k t n ps r, h => by
    rw [allK, Bool.and_eq_true, Bool.and_eq_true, decide_eq_true_eq] at h
    obtain ⟨a1, a2⟩ := lost_none ps h.2.1
    obtain ⟨b1, b2⟩ := lost_none r h.2.2
    unfold lostF at a1 b1 ⊢
    refine ⟨?_, ?_⟩
    · rw [nodesF]
      have e : lostL (⟨k, t, n, ps⟩ :: (nodesF ps ++ nodesF r)) = lostN ⟨k, t, n, ps⟩ + lostL (nodesF ps ++ nodesF r) := rfl
      rw [e, lostL_app, a1, b1]
      simp [lostN, h.1]
    · rw [patF_cons, charsF, a2, b2, List.append_assoc]
      congr 1
      simp [patN, h.1]
end Go.Proofs
namespace Go.Proofs
open Go Go.Sh Go.RowKit

theorem join_flat : ∀ xs : List (List UInt8), Lib.join xs [] = xs.flatten
  | [] => rfl
  | x :: r => by
    rw [Lib.join_cons, List.flatten_cons]
    congr 1
    unfold Lib.joinTail
    simp
set_option maxRecDepth 20000 in
theorem ContainsFuncS_spec {R : Ending → World → Prop} {S : Nat → Prop} {w : World} {a : Option Addr} {n c : Nat} {f : Fn} {fa fb : Array Value} {q : List UInt8 → Bool} {L : List (List UInt8)} {J : World → Prop} (h1 : RowAt encStr S w a n L)
    (hs : n ≤ 4611686018427387904) (hp : PredS f fa fb q L J) (hJ0 : J w) (hJe : ∀ W W', J W → Ext W W' → J W')
    (h : ∀ w', Ext w w' → R (.returned (.bool (L.any q))) w') : Calls Tryz.prog F_slices_ContainsFunc_of_string_string ⟨[.slice a n c, .func f fa fb]⟩ w R := by
  apply c_slices_ContainsFunc_of_string_string
  refine IndexFuncS_spec h1 hs hp hJ0 hJe fun w' e' => ⟨_, rfl, ?_⟩
  have e : decide ((0 : Int) ≤ idxF q L) = L.any q := by
    unfold idxF
    cases L.any q <;> simp
  rw [e]; exact h w' e'
theorem flatten_len {L : List (List UInt8)} {b : Nat} (h : ∀ s ∈ L, s.length ≤ b) : L.flatten.length ≤ L.length * b := by
  induction L with
  | nil => simp
  | cons x r ih =>
    have := ih fun s hs => h s (by simp [hs])
    have := h x (by simp)
    simp only [List.flatten_cons, List.length_append, List.length_cons, Nat.add_mul, Nat.one_mul]; omega
theorem take_snoc {α : Type} {l : List α} {k : Nat} (h : k < l.length) : l.take (k + 1) = l.take k ++ [l[k]] := by rw [List.take_add_one, List.getElem?_eq_getElem h]; rfl

end Go.Proofs
namespace Go.Sh
open Go Go.RowKit

/- an iterator whose caller's body may write blocks of its own, new ones among them: S, as it stands -/
def IterW {α : Type} (P : Program) (gf : FuncId) (cap : List Value) (xs : List α) (E : α → List Value → Prop) (Rd Wr : Nat → Prop) (w : World) : Prop :=
  ∀ (yf : Fn) (ya yb : Array Value) (S0 : Nat → Prop) (J : List α → (Nat → Prop) → World → Prop) (Jx : (Nat → Prop) → World → Prop) (R : Ending → World → Prop),
    (∀ k, S0 k → k < w.heap.size ∧ ¬ Rd k) →
    (∀ pre S W W', J pre S W → Chg (fun k => (w.heap.size ≤ k ∧ ¬ S k) ∨ Wr k) W W' → J pre S W') → (∀ S W W', Jx S W → Chg (fun k => (w.heap.size ≤ k ∧ ¬ S k) ∨ Wr k) W W' → Jx S W') →
    (∀ pre x vs S W, E x vs → pre ++ [x] <+: xs → w.heap.size ≤ W.heap.size → (∀ k, S k → k < W.heap.size ∧ ¬ Rd k) → J pre S W → CallV P (.func yf ya yb) vs W fun e W' => Chg S W W' ∧
      ∃ S' : Nat → Prop, (∀ k, S' k → (S k ∨ W.heap.size ≤ k) ∧ k < W'.heap.size) ∧ ((e = .returned (.bool true) ∧ J (pre ++ [x]) S' W') ∨ (e = .returned (.bool false) ∧ Jx S' W'))) →
    J [] S0 w → (∀ S W, w.heap.size ≤ W.heap.size → J xs S W → R (.returned (.tuple ⟨[]⟩)) W) → (∀ S W, w.heap.size ≤ W.heap.size → Jx S W → R (.returned (.tuple ⟨[]⟩)) W) →
    Calls P gf ⟨.func yf ya yb :: cap⟩ w R
theorem IterW.mono {α : Type} {P : Program} {gf : FuncId} {cap : List Value} {xs : List α} {E E' : α → List Value → Prop} {Rd Wr : Nat → Prop} {w : World} (h : IterW P gf cap xs E Rd Wr w) (hE : ∀ x vs, E x vs → E' x vs) : IterW P gf cap xs E' Rd Wr w :=
  fun yf ya yb S0 J Jx R hS hJ hJx hbody h0 h1 h2 => h yf ya yb S0 J Jx R hS hJ hJx (fun pre x vs S W he => hbody pre x vs S W (hE _ _ he)) h0 h1 h2

theorem RFw_lawW {α : Type} {P : Program} {N : Nat} {g : Operand} {ps : Array Tmp} {assign body : Code} {env : Env} {ds : List Deferred} {w : World} {x : Nat} {Qn Qr Qx : List Deferred → World → Prop}
    (xA xB : Ann) {gf : FuncId} {cap : List Value} (hg : ev env g = .func (.func gf) ⟨[]⟩ ⟨cap⟩) (hok : okFn P gf = true)
    {xs : List α} {E : α → List Value → Prop} {Rd Wr : Nat → Prop} (hWR : ∀ k, Wr k → Rd k) (hit : ∀ w1, Ext w w1 → IterW P gf cap xs E Rd Wr w1)
    (hps : ∀ y vs, E y vs → vs.length = ps.size) (hpN : ∀ p ∈ ps.toList, p < N)
    (hRd : ∀ k, Rd k → k < w.heap.size) (S0 : Nat → Prop) (hS : ∀ k, S0 k → k < w.heap.size ∧ ¬ Rd k)
    (I : List α → (Nat → Prop) → World → Prop) (Kr Kx : (Nat → Prop) → World → Prop)
    (hI : ∀ pre S W W', I pre S W → Chg (fun k => (w.heap.size ≤ k ∧ ¬ S k) ∨ Wr k) W W' → I pre S W')
    (hKr : ∀ S W W', Kr S W → Chg (fun k => (w.heap.size ≤ k ∧ ¬ S k) ∨ Wr k) W W' → Kr S W') (hKx : ∀ S W W', Kx S W → Chg (fun k => (w.heap.size ≤ k ∧ ¬ S k) ∨ Wr k) W W' → Kx S W')
    (h0 : I [] S0 w)
    (hround : ∀ pre y vs S W l, E y vs → pre ++ [y] <+: xs → w.heap.size ≤ l → l < W.heap.size → ¬ S l → (∀ k, S k → k < W.heap.size ∧ ¬ Rd k) → I pre S W →
      fragV P N xA xB assign body l x (fun W2 W' => Chg (fun k => S k ∨ W.heap.size ≤ k) W2 W' ∧ ∃ S' : Nat → Prop, (∀ k, S' k → (S k ∨ W.heap.size ≤ k) ∧ k < W'.heap.size) ∧ I (pre ++ [y]) S' W')
        (fun W2 W' => Chg (fun k => S k ∨ W.heap.size ≤ k) W2 W' ∧ ∃ S' : Nat → Prop, (∀ k, S' k → (S k ∨ W.heap.size ≤ k) ∧ k < W'.heap.size) ∧ Kr S' W')
        (fun W2 W' => Chg (fun k => S k ∨ W.heap.size ≤ k) W2 W' ∧ ∃ S' : Nat → Prop, (∀ k, S' k → (S k ∨ W.heap.size ≤ k) ∧ k < W'.heap.size) ∧ Kx S' W') (updPs ps.toList vs env) W)
    (hn : ∀ D S W, w.heap.size ≤ D → D < W.heap.size → ¬ S D → W.heap[D]? = some (.deferred (some [])) → I xs S W → Qn ({ target := .collected D, args := #[] } :: ds) W)
    (hr : ∀ D S W, w.heap.size ≤ D → D < W.heap.size → ¬ S D → W.heap[D]? = some (.deferred (some [])) → Kr S W → Qr ({ target := .collected D, args := #[] } :: ds) W)
    (hx : ∀ D S W, w.heap.size ≤ D → D < W.heap.size → ¬ S D → W.heap[D]? = some (.deferred (some [])) → Kx S W → Qx ({ target := .collected D, args := #[] } :: ds) W) :
    RFw P none N (.rangeFunc g ps assign body) env ds w x Qn Qr Qx := by
  intro a ha hd
  refine wpIn_rangeFunc fun fn _ => ?_
  let rec0 : Loop := { state := .ready, pending := none, fn, tmps := a.tmps, params := ps, assign, body, defers := w.heap.size }
  let w1 : World := (w.alloc (.deferred (some []))).alloc (.loop rec0)
  have hw1 : w1.heap.size = w.heap.size + 2 := by simp [w1]
  have hext : Ext w w1 := ((Below.refl _ w).alloc (Nat.le_refl _) _).alloc (by simp) _
  have hD1 : w1.heap[w.heap.size]? = some (.deferred (some [])) := by
    show ((w.alloc _).alloc _).heap[w.heap.size]? = _
    rw [Below.heap_alloc _ _ _ (by simp), World.alloc_heap_new]
  have hl1 : w1.heap[w.heap.size + 1]? = some (.loop rec0) := by
    have := World.alloc_heap_new (w.alloc (.deferred (some []))) (.loop rec0)
    simpa [w1] using this
  have hgv : a.eval g = .func (.func gf) ⟨[]⟩ ⟨cap⟩ := by rw [ha.ev]; exact hg
  refine ⟨w.heap.size + 1, [{ target := .collected w.heap.size, args := #[] }], w1, { target := .fn (.func gf) ⟨cap⟩, args := #[.func (.yield (w.heap.size + 1)) #[] #[]] }, w1, gf,
    ⟨.func (.yield (w.heap.size + 1)) #[] #[] :: cap⟩, w1, run_enterLoop_outer fn a.tmps ps assign body, ?_, fun _ _ => trivial, ?_, fun h => by simp [Fr, Fence.wide] at h, ?_⟩
  · have em : Array.map a.eval #[Operand.const (.func (.yield (w.heap.size + 1)) #[] #[])] = #[.func (.yield (w.heap.size + 1)) #[] #[]] := by simp [Act.eval]
    simp only [resolve, rangeCall, hgv, Deferred.ofValue, em]
    simp
  · have e : (#[.func (.yield (w.heap.size + 1)) #[] #[]] : Array Value) ++ (⟨cap⟩ : Array Value) = ⟨.func (.yield (w.heap.size + 1)) #[] #[] :: cap⟩ := by apply Array.ext'; simp
    simp only [invoke, e]
    exact callFunc_run _ w1 hok
  · show CallsIn Fence.wide 0 P gf _ w1 _
    refine callsIn_wide.2 ?_
    refine hit w1 hext (.yield (w.heap.size + 1)) #[] #[] (fun k => S0 k ∨ k = w.heap.size + 1)
      (fun pre S W => ∃ Sb : Nat → Prop, (∀ k, S k ↔ Sb k ∨ k = w.heap.size + 1) ∧ ¬ Sb (w.heap.size + 1) ∧ ¬ Sb w.heap.size ∧ I pre Sb W ∧ W.heap[w.heap.size + 1]? = some (.loop rec0) ∧ W.heap[w.heap.size]? = some (.deferred (some [])))
      (fun S W => ∃ Sb : Nat → Prop, (∀ k, S k ↔ Sb k ∨ k = w.heap.size + 1) ∧ ¬ Sb (w.heap.size + 1) ∧ ¬ Sb w.heap.size ∧ W.heap[w.heap.size]? = some (.deferred (some [])) ∧ ((W.heap[w.heap.size + 1]? = some (.loop { rec0 with state := .done, pending := some .ret }) ∧ Kr Sb W) ∨
        (W.heap[w.heap.size + 1]? = some (.loop { rec0 with state := .done, pending := some (.exit x) }) ∧ Kx Sb W)))
      _ (fun k hk => hk.elim (fun h => ⟨by have := (hS k h).1; omega, (hS k h).2⟩) (fun h => ⟨by omega, fun hr => by have := hRd k hr; omega⟩)) ?_ ?_ ?_
      ⟨S0, fun k => Iff.rfl, fun h => by have := (hS _ h).1; omega, fun h => by have := (hS _ h).1; omega, hI _ _ _ _ h0 (.of_ext hext), hl1, hD1⟩ ?_ ?_
    · rintro pre S W W' ⟨Sb, hb1, hb2, hb3, h1, h2, h3⟩ hc
      have hlt := (Array.getElem?_eq_some_iff.1 h2).1
      have hlt' := (Array.getElem?_eq_some_iff.1 h3).1
      exact ⟨Sb, hb1, hb2, hb3, hI _ _ _ _ h1 (hc.mono fun k _ hk => hk.imp (fun hk => ⟨by omega, fun hh => hk.2 ((hb1 k).2 (.inl hh))⟩) id), (hc.block _ hlt (fun hh => hh.elim (fun h => by omega) (fun hw => by have := hRd _ (hWR _ hw); omega))).trans h2, (hc.block _ hlt' (fun hh => hh.elim (fun h => by omega) (fun hw => by have := hRd _ (hWR _ hw); omega))).trans h3⟩
    · rintro S W W' ⟨Sb, hb1, hb2, hb3, h3, h⟩ hc
      have hlt' := (Array.getElem?_eq_some_iff.1 h3).1
      have hc' : Chg (fun k => (w.heap.size ≤ k ∧ ¬ Sb k) ∨ Wr k) W W' := hc.mono fun k _ hk => hk.imp (fun hk => ⟨by omega, fun hh => hk.2 ((hb1 k).2 (.inl hh))⟩) id
      have nb : ∀ {j}, w.heap.size ≤ j → j < w1.heap.size → ¬ ((w1.heap.size ≤ j ∧ ¬ S j) ∨ Wr j) := fun h1 h2 hh => hh.elim (fun h => by omega) (fun hw => by have := hRd _ (hWR _ hw); omega)
      refine ⟨Sb, hb1, hb2, hb3, (hc.block _ hlt' (nb (by omega) (by omega))).trans h3, ?_⟩
      rcases h with ⟨h1, h2⟩ | ⟨h1, h2⟩
      · exact .inl ⟨(hc.block _ (Array.getElem?_eq_some_iff.1 h1).1 (nb (by omega) (by omega))).trans h1, hKr _ _ _ h2 hc'⟩
      · exact .inr ⟨(hc.block _ (Array.getElem?_eq_some_iff.1 h1).1 (nb (by omega) (by omega))).trans h1, hKx _ _ _ h2 hc'⟩
    · rintro pre y vs S W hE hpre hsz hSW ⟨Sb, hb1, hb2, hb3, h1, h2, h3⟩
      have hlt := (Array.getElem?_eq_some_iff.1 h2).1
      have hlt' := (Array.getElem?_eq_some_iff.1 h3).1
      refine ⟨_, _, _, _, run_yield h2 (by simp [rec0, hps y vs hE]), ?_⟩
      have hfr := hround pre y vs Sb W (w.heap.size + 1) hE hpre (by omega) hlt hb2 (fun k hk => hSW k ((hb1 k).2 (.inl hk))) h1
      have hrep : Rep N (updPs ps.toList (vs) env) { tmps := (ps.toList.zip (vs)).foldl (fun t (p, v) => t.setIfInBounds p v) a.tmps, defers := [] } :=
        foldl_rep _ _ _ _ ⟨ha.1, ha.2⟩ hpN
      have ezip : (ps.zip (⟨(#[] : Array Value).toList ++ vs⟩ : Array Value)).foldl (fun t (x : Nat × Value) => t.setIfInBounds x.1 x.2) a.tmps = (ps.toList.zip (vs)).foldl (fun t (p, v) => t.setIfInBounds p v) a.tmps := by
        rw [← Array.foldl_toList]
        simp [Array.toList_zip]
      refine roundIn_of_wpIn (F := Fence.wide) (l := w.heap.size + 1) trivial ?_
      show assign.wpIn (Fr (some (w.heap.size + 1))) 0 P _ _ W
      have hva := vc_sound xA assign hfr hrep rfl
      refine wpIn_mono (Eq.mp (by rw [← ezip]) hva) fun e a1 W1 hh => ?_
      obtain ⟨env1, r1, q1, _⟩ := hh
      cases e with
      | normal =>
        obtain ⟨e1, q1⟩ := q1
        have hl' : W1.heap[w.heap.size + 1]? = some (.loop rec0) := (e1.block _ hlt).trans h2
        have hD' : W1.heap[w.heap.size]? = some (.deferred (some [])) := (e1.block _ hlt').trans h3
        refine ⟨_, run_beginRound hl' rfl, ?_⟩
        have hl2 : (W1.putObj (w.heap.size + 1) (.loop { rec0 with state := .busy })).heap[w.heap.size + 1]? = some (.loop { rec0 with state := .busy }) :=
          World.putObj_heap_same (Array.getElem?_eq_some_iff.1 hl').1
        have hD2 : (W1.putObj (w.heap.size + 1) (.loop { rec0 with state := .busy })).heap[w.heap.size]? = some (.deferred (some [])) := (World.putObj_heap_other (by omega)).trans hD'
        have hq := q1 _ (Upd.put (w.heap.size + 1) W1 (.loop { rec0 with state := .busy }))
        have hvb := vc_sound xB body hq r1 rfl
        have hlt1 := (Array.getElem?_eq_some_iff.1 hl').1
        have hWW2 : Chg S W (W1.putObj (w.heap.size + 1) (.loop { rec0 with state := .busy })) :=
          (Chg.of_ext e1).trans (Chg.put _ _ _ ((hb1 _).2 (.inr rfl)))
        generalize W1.putObj (w.heap.size + 1) (.loop { rec0 with state := .busy }) = W2 at hl2 hD2 hvb hWW2 ⊢
        refine wpIn_mono hvb fun e' a' W' hh' => ?_
        obtain ⟨env2, r2, q2, _⟩ := hh'
        have nS : ¬ (Sb (w.heap.size + 1) ∨ W.heap.size ≤ w.heap.size + 1) := fun h => h.elim hb2 (by omega)
        have nS' : ¬ (Sb w.heap.size ∨ W.heap.size ≤ w.heap.size) := fun h => h.elim hb3 (by omega)
        have fin : ∀ (jump : Option Code) (st : LoopState), Chg (fun k => Sb k ∨ W.heap.size ≤ k) W2 W' → ∀ S' : Nat → Prop, (∀ k, S' k → (Sb k ∨ W.heap.size ≤ k) ∧ k < W'.heap.size) → ∀ Z, Z = W'.putObj (w.heap.size + 1) (.loop { rec0 with state := st, pending := jump }) →
            Chg S W Z ∧ (∀ k, (S' k ∨ k = w.heap.size + 1) → (S k ∨ W.heap.size ≤ k) ∧ k < Z.heap.size) ∧ ¬ S' (w.heap.size + 1) ∧ ¬ S' w.heap.size ∧ Z.heap[w.heap.size + 1]? = some (.loop { rec0 with state := st, pending := jump }) ∧ Z.heap[w.heap.size]? = some (.deferred (some [])) ∧
            Chg (fun k => (w.heap.size ≤ k ∧ ¬ S' k) ∨ Wr k) W' Z := by
          intro jump st hc S' hS' Z hZ
          have hl3 := (hc.block _ (Array.getElem?_eq_some_iff.1 hl2).1 nS).trans hl2
          have hD3 := (hc.block _ (Array.getElem?_eq_some_iff.1 hD2).1 nS').trans hD2
          have n1 : ¬ S' (w.heap.size + 1) := fun hh => nS (hS' _ hh).1
          have n2 : ¬ S' w.heap.size := fun hh => nS' (hS' _ hh).1
          have l3 := (Array.getElem?_eq_some_iff.1 hl3).1
          subst hZ
          refine ⟨?_, ?_, n1, n2, World.putObj_heap_same l3, (World.putObj_heap_other (by omega)).trans hD3, Chg.put _ _ _ (.inl ⟨by omega, n1⟩)⟩
          · have hW2' : Chg S W W' := ⟨hc.os.trans hWW2.os, hc.tape.trans hWW2.tape, hc.output.trans hWW2.output, Nat.le_trans hWW2.size hc.size,
              fun k hk hn => (hc.block k (Nat.lt_of_lt_of_le hk hWW2.size) (fun hh => hh.elim (fun h => hn ((hb1 k).2 (.inl h))) (fun h => by omega))).trans (hWW2.block k hk hn)⟩
            exact hW2'.trans (Chg.put _ _ _ ((hb1 _).2 (.inr rfl)))
          · rintro k (hk | rfl)
            · exact ⟨(hS' k hk).1.imp (fun h => (hb1 k).2 (.inl h)) id, by simpa using (hS' k hk).2⟩
            · exact ⟨.inl ((hb1 _).2 (.inr rfl)), by simpa using l3⟩
        have hrec : ∀ (jump : Option Code), Chg (fun k => Sb k ∨ W.heap.size ≤ k) W2 W' → (Instr.endRound (w.heap.size + 1) jump).run P W' = .ok (.bool jump.isNone) (W'.putObj (w.heap.size + 1) (.loop { rec0 with state := if jump.isNone then .ready else .done, pending := jump })) := by
          intro jump hc
          exact run_endRound (r := { rec0 with state := .busy }) jump ((hc.block _ (Array.getElem?_eq_some_iff.1 hl2).1 nS).trans hl2)
        cases e' with
        | normal =>
          obtain ⟨hc, S', hS', hi⟩ := q2
          obtain ⟨f1, f2, f3, f4, f5, f6, f7⟩ := fin none .ready hc S' hS' _ rfl
          exact ⟨_, _, hrec none hc, f1, _, f2, .inl ⟨rfl, S', fun k => Iff.rfl, f3, f4, hI _ _ _ _ hi f7, f5, f6⟩⟩
        | ret =>
          obtain ⟨hc, S', hS', hi⟩ := q2
          obtain ⟨f1, f2, f3, f4, f5, f6, f7⟩ := fin (some .ret) .done hc S' hS' _ rfl
          exact ⟨_, _, hrec (some .ret) hc, f1, _, f2, .inr ⟨rfl, S', fun k => Iff.rfl, f3, f4, f6, .inl ⟨f5, hKr _ _ _ hi f7⟩⟩⟩
        | exit i =>
          simp only [fragQ] at q2
          cases hb : Nat.beq i x <;> rw [hb] at q2
          · exact q2.elim
          have hix := Nat.eq_of_beq_eq_true hb
          subst hix
          obtain ⟨hc, S', hS', hi⟩ := q2
          obtain ⟨f1, f2, f3, f4, f5, f6, f7⟩ := fin (some (.exit i)) .done hc S' hS' _ rfl
          exact ⟨_, _, hrec (some (.exit i)) hc, f1, _, f2, .inr ⟨rfl, S', fun k => Iff.rfl, f3, f4, f6, .inr ⟨f5, hKx _ _ _ hi f7⟩⟩⟩
        | goto l => exact q2.elim
        | panic c => exact q2.elim
        | outgrown => exact q2.elim
      | exit i => exact q1.elim
      | ret => exact q1.elim
      | goto t => exact q1.elim
      | panic c => exact q1.elim
      | outgrown => exact q1.elim
    · rintro S W hsz ⟨Sb, hb1, hb2, hb3, h1, h2, h3⟩
      refine ⟨none, _, run_endLoop h2 (by simp [rec0]), ?_⟩
      have hlt := (Array.getElem?_eq_some_iff.1 h2).1
      refine ⟨rfl, ?_⟩
      show Qn (_ :: a.defers) _
      rw [hd]
      refine hn w.heap.size Sb _ (Nat.le_refl _) (by simp; omega) hb3 ((World.putObj_heap_other (by omega)).trans h3) (hI _ _ _ _ h1 (Chg.put _ _ _ (.inl ⟨by omega, hb2⟩)))
    · rintro S W hsz ⟨Sb, hb1, hb2, hb3, h3, h⟩
      rcases h with ⟨h1, h2⟩ | ⟨h1, h2⟩
      · have hlt := (Array.getElem?_eq_some_iff.1 h1).1
        refine ⟨some .ret, _, run_endLoop h1 (by simp), ?_⟩
        refine wpIn_ret ⟨rfl, ?_⟩
        show Qr (_ :: a.defers) _
        rw [hd]
        exact hr w.heap.size Sb _ (Nat.le_refl _) (by simp; omega) hb3 ((World.putObj_heap_other (by omega)).trans h3) (hKr _ _ _ h2 (Chg.put _ _ _ (.inl ⟨by omega, hb2⟩)))
      · have hlt := (Array.getElem?_eq_some_iff.1 h1).1
        refine ⟨some (.exit x), _, run_endLoop h1 (by simp), ?_⟩
        refine wpIn_exit ⟨rfl, rfl, ?_⟩
        show Qx (_ :: a.defers) _
        rw [hd]
        exact hx w.heap.size Sb _ (Nat.le_refl _) (by simp; omega) hb3 ((World.putObj_heap_other (by omega)).trans h3) (hKx _ _ _ h2 (Chg.put _ _ _ (.inl ⟨by omega, hb2⟩)))
end Go.Sh
namespace Go.Proofs
open Go Go.Sh Go.RowKit

/- the parts of a text: what can, and what cannot, belong to words -/
theorem dropWhile_len {α : Type} (p : α → Bool) : ∀ l : List α, (l.dropWhile p).length ≤ l.length
  | [] => by simp
  | x :: l => by
    have := dropWhile_len p l
    rw [List.dropWhile_cons]
    split
    · simp only [List.length_cons]; omega
    · exact Nat.le_refl _
def inW (c : UInt8) : Bool := decide (kd c = 1) || decide (kd c = 2) || decide (kd c = 3) || decide (kd c = 4)
def chunks : List UInt8 → List (List UInt8)
  | [] => []
  | c :: r => (c :: r.takeWhile fun x => inW x == inW c) :: chunks (r.dropWhile fun x => inW x == inW c)
  termination_by l => l.length
  decreasing_by
    have := dropWhile_len (fun x => inW x == inW c) r
    simp only [List.length_cons]; omega
theorem while_at {p : UInt8 → Bool} : ∀ {r : List UInt8} {m : Nat}, m ≤ r.length → (∀ j (h : j < m) (h2 : m ≤ r.length), p (r[j]'(by omega)) = true) → (∀ h : m < r.length, p r[m] = false) → r.takeWhile p = r.take m ∧ r.dropWhile p = r.drop m
  | [], m, h, _, _ => by simp
  | c :: r, 0, _, _, h3 => by
    have := h3 (by simp)
    simp only [List.getElem_cons_zero] at this
    simp [this]
  | c :: r, m + 1, h1, h2, h3 => by
    have hc := h2 0 (by omega) h1
    simp only [List.getElem_cons_zero] at hc
    obtain ⟨i1, i2⟩ := while_at (p := p) (r := r) (m := m) (by simpa using h1) (fun j hj _ => by simpa using h2 (j + 1) (by omega) h1) (fun h => by have := h3 (by simp only [List.length_cons]; omega); simpa only [List.getElem_cons_succ] using this)
    simp [hc, i1, i2]
theorem chunks_flat (s : List UInt8) : (chunks s).flatten = s := by
  induction hz : s.length using Nat.strongRecOn generalizing s with
  | _ z ih =>
  cases s with
  | nil => simp [chunks]
  | cons c r =>
    rw [chunks, List.flatten_cons, ih _ (by rw [← hz]; have := dropWhile_len (fun x => inW x == inW c) r; simp only [List.length_cons]; omega) _ rfl, List.cons_append, List.takeWhile_append_dropWhile]
section
variable {R : Ending → World → Prop} {w : World}
theorem inWord_spec (b : UInt8) (h : R (.returned (.bool (inW b))) w) : Calls Tryz.prog F_legibility_inWord ⟨[.int .u8 (b.toNat : Int)]⟩ w R := by
  apply c_legibility_inWord
  refine Kind_spec b ⟨_, rfl, ?_⟩
  unfold inW at h
  refine br_split (fun g => ?_) (fun g1 => br_split (fun g => ?_) (fun g2 => br_split (fun g => ?_) (fun g3 => ?_)))
  · simp only [g, decide_true, Bool.true_or] at h; exact h
  · simp only [g, decide_true, Bool.true_or, Bool.or_true] at h; exact h
  · simp only [g, decide_true, Bool.true_or, Bool.or_true] at h; exact h
  · simp only [g1, g2, g3, decide_false, Bool.false_or] at h; exact h
end
set_option maxRecDepth 20000 in
theorem parts_iter (s : List UInt8) (hs : s.length ≤ 4611686018427387904) (b : Nat) (w : World) (hb : Blk w b [.string ⟨⟨s⟩⟩] 9) :
    IterW Tryz.prog F_legibility_parts_1 [.pointer (some ⟨b, 0, none⟩)] (chunks s) (fun x vs => vs = [.string ⟨⟨x⟩⟩]) (fun k => k = b) (fun k => k = b) w := by
  intro yf ya yb S0 J Jx R hS hJ hJx hbody h0 hend hstop
  apply c_legibility_parts_1
  refine ⟨fun W m => ∃ (pre : List (List UInt8)) (t : List UInt8) (S : Nat → Prop), chunks s = pre ++ chunks t ∧ m = t.length ∧ t.length ≤ s.length ∧ Blk W b [.string ⟨⟨t⟩⟩] 9 ∧ J pre S W ∧ (∀ k, S k → k < W.heap.size ∧ k ≠ b) ∧ w.heap.size ≤ W.heap.size,
    ⟨_, [], s, S0, rfl, rfl, Nat.le_refl _, hb, h0, hS, Nat.le_refl _⟩, ?_⟩
  rintro W m ⟨pre, t, S, heq, rfl, hts, hB, hj, hSW, hW⟩ _
  refine dr_ok ⟨t, by rw [hB.cell]; rfl, br_split (fun hlt => ?_) (fun hge => ?_)⟩
  · obtain ⟨c, r, rfl⟩ : ∃ c r, t = c :: r := by
      cases t with
      | nil => simp at hlt
      | cons c r => exact ⟨c, r, rfl⟩
    intro K9 hK9
    have k9 : ∀ (k : Nat) (W2 : World), 1 ≤ k → k ≤ (c :: r).length → (∀ j (hj : j < k) (h2 : k ≤ (c :: r).length), inW ((c :: r)[j]'(by omega)) = inW c) → (∀ h : k < (c :: r).length, inW (c :: r)[k] ≠ inW c) →
        Blk W2 b [.string ⟨⟨c :: r⟩⟩] 9 → J pre S W2 → (∀ k, S k → k < W2.heap.size ∧ k ≠ b) → w.heap.size ≤ W2.heap.size → K9 (k : Int) W2 := by
      intro k W2 hk1 hk2 hall hno hB2 hj2 hS2 hW2
      refine hK9 _ _ fun _ => dr_ok ⟨_, by rw [hB2.cell]; rfl, ?_⟩
      obtain ⟨k, rfl⟩ : ∃ k', k = k' + 1 := ⟨k - 1, by omega⟩
      have hch : chunks (c :: r) = (c :: r).take (k + 1) :: chunks ((c :: r).drop (k + 1)) := by
        obtain ⟨q1, q2⟩ := while_at (p := fun x => inW x == inW c) (r := r) (m := k) (by simpa using hk2) (fun j hj _ => by
          have := hall (j + 1) (by omega) hk2
          simpa using this) (fun h => by
          have := hno (by simpa using h)
          simpa using this)
        rw [chunks, q1, q2]; rfl
      have hl : ((0 : Nat) : Int) = 0 := rfl
      rw [← hl]
      refine ssl_nat (by omega) hk2 ?_
      rw [List.drop_zero]
      refine CallV_mono (hbody pre ((c :: r).take (k + 1)) _ S W2 rfl (by rw [heq, hch]; exact ⟨chunks ((c :: r).drop (k + 1)), by simp⟩) hW2 (fun j hj => hS2 j hj) hj2) ?_
      rintro e W3 ⟨hc3, S', hS', hh⟩
      have z3 := hc3.size
      have hB3 := hc3.blk hB2 (fun hh => (hS2 b hh).2 rfl)
      rcases hh with ⟨rfl, hj3⟩ | ⟨rfl, hj3⟩
      · refine ⟨true, rfl, ?_⟩
        simp only [Bool.not_true, br_f]
        refine dr_ok ⟨_, by rw [hB3.cell]; rfl, ?_⟩
        refine ssl_nat hk2 (Nat.le_refl _) (dr_ok ?_)
        refine stL_one hB3 rfl fun W4 hB4 hc4 s4 => ?_
        rw [List.take_length] at hB4
        have hl4 := hB4.lt
        refine ⟨((c :: r).drop (k + 1)).length, by rw [List.length_drop]; simp only [List.length_cons] at *; omega, pre ++ [(c :: r).take (k + 1)], (c :: r).drop (k + 1), S', by rw [heq, hch]; simp, rfl, by rw [List.length_drop]; omega, hB4,
          hJ _ _ _ _ hj3 (hc4.mono fun j _ hj => .inr hj), fun j hj => ⟨by have := (hS' j hj).2; omega, ?_⟩, by omega⟩
        rcases (hS' j hj).1 with h | h
        · exact (hS2 j h).2
        · have := hB2.lt; omega
      · refine ⟨false, rfl, ?_⟩
        simp only [Bool.not_false, br_t]
        exact hstop S' W3 (by omega) hj3
    have h00 : ∀ j (hj : j < 1) (h2 : 1 ≤ (c :: r).length), inW ((c :: r)[j]'(by omega)) = inW c := by
      intro j hj _
      have : j = 0 := by omega
      subst this
      rfl
    refine ⟨fun i W2 m => ∃ k : Nat, i = k ∧ 1 ≤ k ∧ k ≤ (c :: r).length ∧ m = (c :: r).length - k ∧ (∀ j (hj : j < k) (h2 : k ≤ (c :: r).length), inW ((c :: r)[j]'(by omega)) = inW c) ∧
        Blk W2 b [.string ⟨⟨c :: r⟩⟩] 9 ∧ J pre S W2 ∧ (∀ k, S k → k < W2.heap.size ∧ k ≠ b) ∧ w.heap.size ≤ W2.heap.size,
      ⟨_, 1, rfl, by omega, by simp, rfl, h00, hB, hj, hSW, hW⟩, ?_⟩
    rintro _ W2 m ⟨k, rfl, hk1, hk2, rfl, hall, hB2, hj2, hS2, hW2⟩ _
    have ed := ext_drew W2
    unfold drw
    have hBd := hB2.ext ed
    have hjd : J pre S W2.drew := hJ _ _ _ _ hj2 (Chg.drew W2)
    have hSd : ∀ k, S k → k < W2.drew.heap.size ∧ k ≠ b := fun k hk => by have := hS2 k hk; exact this
    have hWd : w.heap.size ≤ W2.drew.heap.size := hW2
    generalize W2.drew = Wd at *
    refine dr_ok ⟨_, by rw [hBd.cell]; rfl, br_split (fun hl2 => ?_) (fun hg2 => ?_)⟩
    · have hkl : k < (c :: r).length := by omega
      have fin : ∀ {A B : Prop}, ((inW (c :: r)[k] = inW c) → A) → (inW (c :: r)[k] ≠ inW c → B) → br (decide (inW (c :: r)[k] = inW (c :: r)[0])) A B := fun h1 h2 => br_split (fun g => h1 g) (fun g => h2 g)
      have step : br (decide (inW (c :: r)[k] = inW (c :: r)[0])) (∃ m', m' < (c :: r).length - k ∧ ∃ k' : Nat, IntKind.i64.wrap ((k : Int) + 1) = k' ∧ 1 ≤ k' ∧ k' ≤ (c :: r).length ∧ m' = (c :: r).length - k' ∧ (∀ j (hj : j < k') (h2 : k' ≤ (c :: r).length), inW ((c :: r)[j]'(by omega)) = inW c) ∧
          Blk Wd b [.string ⟨⟨c :: r⟩⟩] 9 ∧ J pre S Wd ∧ (∀ k, S k → k < Wd.heap.size ∧ k ≠ b) ∧ w.heap.size ≤ Wd.heap.size) (K9 (k : Int) Wd) := by
        refine fin (fun g => ?_) (fun g => ?_)
        · refine ⟨(c :: r).length - (k + 1), by omega, k + 1, by rw [wrap_nat (by omega)], by omega, by omega, rfl, fun j hj h2 => ?_, hBd, hjd, hSd, hWd⟩
          by_cases hjk : j = k
          · subst hjk; exact g
          · exact hall j (by omega) (by omega)
        · exact k9 k Wd hk1 hk2 hall (fun _ => g) hBd hjd hSd hWd
      have z0 : ((0 : Nat) : Int) = 0 := rfl
      have hl0 : 0 < (c :: r).length := by simp
      have c1 : Wd.cell? ⟨b, 0, none⟩ = some (.string ⟨⟨c :: r⟩⟩) := by rw [hBd.cell]; rfl
      refine dr_ok ⟨_, c1, ?_⟩
      refine sidx_nat hkl ?_
      refine ⟨?_, ?_, trivial⟩
      · refine inWord_spec _ ⟨_, rfl, dr_ok ⟨_, c1, ?_⟩⟩
        rw [← z0]
        refine sidx_nat hl0 ?_
        refine ⟨?_, trivial⟩
        refine inWord_spec _ ?_
        exact ⟨_, rfl, step⟩
      · refine dr_ok ⟨_, c1, ?_⟩
        rw [← z0]
        refine ⟨?_, ?_, trivial⟩
        · refine inWord_spec _ ⟨_, rfl, ?_⟩
          refine sidx_nat hl0 ?_
          refine ⟨?_, trivial⟩
          refine inWord_spec _ ?_
          exact ⟨_, rfl, step⟩
        · refine sidx_nat hl0 ?_
          refine ⟨?_, trivial⟩
          refine inWord_spec _ ⟨_, rfl, ?_⟩
          refine ⟨?_, trivial⟩
          refine inWord_spec _ ?_
          exact ⟨_, rfl, step⟩
    · have hkl : k = (c :: r).length := by omega
      have := k9 k Wd hk1 hk2 hall (fun h => absurd h (by omega)) hBd hjd hSd hWd
      exact ⟨⟨this, trivial⟩, ⟨⟨this, trivial⟩, ⟨⟨this, trivial⟩, trivial⟩, trivial⟩, trivial⟩
  · have ht : t = [] := by
      cases t with
      | nil => rfl
      | cons c r => simp at hge
    subst ht
    have : chunks s = pre := by rw [heq, chunks]; simp
    rw [this] at hend
    exact hend S W hW hj
end Go.Proofs
namespace Go.Sh
open Go Go.RowKit

/- appending a row that stands in a block of its own to a slice variable; the new element and the variable are laid in either order -/
theorem app_cap2 {P : Program} {t ty e : TypeId} {size bytes : Nat} {z : Value} (hT : SlT P t e size bytes z) {B : Nat} {a : Option Addr} {n c : Nat} {xs : List Value} {w : World} {b bz : Nat} {Tv Tz : TypeId}
    (hown : Owns w B e size a n c xs) (hB : B ≤ w.heap.size) (hb : Blk w b [.slice a n c] Tv) (hnb : ¬ Sh.bk a b) (zc vs : List Value) (hbz : Blk w bz zc Tz) (hzc : zc.length = size) (hz1 : ∀ u ∈ zc, u.oneCell' = true) (hvs : vs.length = size) (hv1 : ∀ u ∈ vs, u.oneCell' = true)
    (hlen : n + 1 ≤ 4611686018427387904) (hbytes : (n + 1) * bytes ≤ 140737488355328) {K : World → Prop}
    (hk : ∀ a' c' w', Blk w' b [.slice a' (n + 1) c'] Tv → Owns w' B e size a' (n + 1) c' (xs ++ vs) → Chg (fun k => k = b ∨ Sh.bk a k) w w' → (∀ k, Sh.bk a' k → Sh.bk a k ∨ w.heap.size ≤ k) → K w') :
    app P [t, t] ty (.slice a n c) (.slice (some ⟨bz, 0, none⟩) 1 1) w fun a' n' c' w2 => idx a' n' (n : Int) size fun q =>
      (stL w2 q 0 vs fun w3 => (stL w3 ⟨b, 0, none⟩ 0 [.slice a' n' c'] fun w4 => K w4) ∧ True) ∧
      (stL w2 ⟨b, 0, none⟩ 0 [.slice a' n' c'] fun w3 => (stL w3 q 0 vs fun w4 => K w4) ∧ True) ∧ True := by
  refine app_own2 hT hown hB (S := fun _ => True) zc (by rw [hzc, Nat.one_mul]) (.inr ⟨bz, 0, rfl, trivial, hbz.lt, fun j v hj => by rw [Nat.zero_add, hbz.cell]; exact hj⟩) hz1 hlen hbytes fun a' c' w2 ho hc hn => ?_
  have l := hb.lt
  have hb2 : Blk w2 b [.slice a n c] Tv := hc.blk hb hnb
  have nb' : ¬ Sh.bk a' b := fun hh => (hn b hh).elim hnb (by omega)
  obtain ⟨g, ha, hidx, hst⟩ := ho.storeLast (vs := vs) hzc hvs hv1
  have sub : ∀ k, k < w.heap.size → Sh.bk a' k → Sh.bk a k := fun k hk hb' => (hn k hb').elim id (by omega)
  have tot : ∀ {S1 S2 : Nat → Prop} {w3 w4 : World}, Chg S1 w2 w3 → Chg S2 w3 w4 → (∀ k, S1 k → k = b ∨ Sh.bk a' k) → (∀ k, S2 k → k = b ∨ Sh.bk a' k) → Chg (fun k => k = b ∨ Sh.bk a k) w w4 := by
    intro S1 S2 w3 w4 c3 c4 h3 h4
    have z := hc.size
    have z3 := c3.size
    refine ⟨c4.os.trans (c3.os.trans hc.os), c4.tape.trans (c3.tape.trans hc.tape), c4.output.trans (c3.output.trans hc.output), Nat.le_trans z (Nat.le_trans z3 c4.size), fun k hk hn' => ?_⟩
    have no : ¬ (k = b ∨ Sh.bk a' k) := fun hh => hn' (hh.imp id (sub k hk))
    exact (c4.block k (by omega) fun hh => no (h4 k hh)).trans ((c3.block k (by omega) fun hh => no (h3 k hh)).trans (hc.block k hk fun hh => hn' (.inr hh)))
  refine hidx _ ⟨?_, ?_, trivial⟩
  · refine hst _ fun w3 ho3 hc3 z3 => ⟨?_, trivial⟩
    refine stL_blk (cs := [.slice a n c]) (T := Tv) (hc3.blk hb2 nb') (by simp) (by intro u hu; simp only [List.mem_singleton] at hu; subst hu; rfl) fun w4 b1 b2 b3 b4 b5 b6 => ?_
    have hc4 : Chg (fun k => k = b) w3 w4 := ⟨b4, b5, b6, by omega, fun k' _ hk => b2 k' hk⟩
    exact hk a' c' w4 b1 (ho3.chg hc4 fun k hk he => nb' (he ▸ hk)) (tot hc3 hc4 (fun k h => .inr h) fun k h => .inl h) hn
  · refine stL_blk (cs := [.slice a n c]) (T := Tv) hb2 (by simp) (by intro u hu; simp only [List.mem_singleton] at hu; subst hu; rfl) fun w3 b1 b2 b3 b4 b5 b6 => ⟨?_, trivial⟩
    have hc3 : Chg (fun k => k = b) w2 w3 := ⟨b4, b5, b6, by omega, fun k' _ hk => b2 k' hk⟩
    obtain ⟨g', ha', _, hst'⟩ := (ho.chg hc3 fun k hk he => nb' (he ▸ hk)).storeLast (vs := vs) hzc hvs hv1
    obtain rfl : g' = g := by rw [ha] at ha'; simpa using ha'.symm
    refine hst' _ fun w4 ho4 hc4 z4 => ?_
    exact hk a' c' w4 (hc4.blk b1 nb') ho4 (tot hc3 hc4 (fun k h => .inl h) fun k h => .inr h) hn

/- a list of nodes under way in a variable, its blocks named: S: what it may share, O: its own -/
def OwnG (e : TypeId) (S O : Nat → Prop) (B : Nat) (w : World) (a : Option Addr) (n c : Nat) (f : Fo) : Prop :=
  n = f.len ∧ (∀ k, bk a k → O k) ∧ (∀ k, O k → B ≤ k ∧ k < w.heap.size) ∧ ∃ xs, Owns w B e 4 a n c xs ∧ FoC (fun k => (S k ∨ O k) ∧ ¬ bk a k) w f xs
section
variable {S O : Nat → Prop} {w w' : World} {e : TypeId} {B : Nat} {a : Option Addr} {n c : Nat} {f : Fo}
theorem OwnG.nil (w : World) : OwnG e S (fun _ => False) B w none 0 0 .nil := ⟨rfl, fun k h => by simp [bk] at h, fun k h => h.elim, [], Owns.nil w B e 4, rfl⟩
theorem OwnG.len (h : OwnG e S O B w a n c f) : n = f.len := h.1
theorem OwnG.own (h : OwnG e S O B w a n c f) {k : Nat} (hk : O k) : B ≤ k ∧ k < w.heap.size := h.2.2.1 k hk
theorem OwnG.bk (h : OwnG e S O B w a n c f) {k : Nat} (hk : Sh.bk a k) : O k := h.2.1 k hk
theorem OwnG.chg {T : Nat → Prop} (h : OwnG e S O B w a n c f) (hc : Chg T w w') (hT : ∀ k, T k → k < w.heap.size → ¬ S k ∧ ¬ O k) : OwnG e S O B w' a n c f := by
  obtain ⟨h0, h1, h2, xs, h3, h4⟩ := h
  have z := hc.size
  refine ⟨h0, h1, fun k hk => ⟨(h2 k hk).1, by have := (h2 k hk).2; omega⟩, xs, ?_, h4.keep (fun k hk hl => ⟨hk, hc.block k hl fun ht => ?_⟩) z⟩
  · have h3' := Owns.chg (S := fun k => T k ∧ k < w.heap.size) h3 ⟨hc.os, hc.tape, hc.output, hc.size, fun k hk hn => hc.block k hk fun ht => hn ⟨ht, hk⟩⟩ fun k hk ht => (hT k ht.1 ht.2).2 (h1 k hk)
    exact h3'
  · rcases hk.1 with hh | hh
    · exact (hT k ht hl).1 hh
    · exact (hT k ht hl).2 hh
theorem OwnG.ext (h : OwnG e S O B w a n c f) (hc : Ext w w') : OwnG e S O B w' a n c f := h.chg (T := fun _ => False) (.of_ext hc) fun k h _ => h.elim
theorem OwnG.out (h : OwnG e S O B w a n c f) : SlF (fun k => S k ∨ O k) w a n f := by
  obtain ⟨h0, h1, h2, xs, h3, h4⟩ := h
  refine ⟨h0, xs, ?_, h4.keep (fun k hk _ => ⟨hk.1, rfl⟩) (Nat.le_refl _)⟩
  by_cases hn : 0 < n
  · obtain ⟨g, rfl, hg, hc⟩ := h3.cell hn
    exact .inr ⟨g, 0, rfl, .inr (h1 g (by simp [Sh.bk])), (h3.bk (by simp [Sh.bk])).2, fun j v hj => by rw [Nat.zero_add]; exact hc j v hj⟩
  · have hx : xs = [] := List.eq_nil_of_length_eq_zero (by rw [h3.len]; omega)
    exact .inl hx
/- one more node, out of a block that holds zeros -/
theorem OwnG.push {P : Program} {t ty : TypeId} {bytes : Nat} {z : Value} (hT : SlT P t e 4 bytes z) (h : OwnG e S O B w a n c f) (hB : B ≤ w.heap.size) {b bz : Nat} {Tv Tz : TypeId} {zc : List Value} (hb : Blk w b [.slice a n c] Tv) (hnb : ¬ O b)
    (hbz : Blk w bz zc Tz) (hzc : zc.length = 4) (hz1 : ∀ u ∈ zc, u.oneCell' = true) {k : Int} {s : List UInt8} {m : Int} {a' : Option Addr} {c' : Nat} {ps : Fo} {O2 : Nat → Prop}
    (hps : SlF (fun k => S k ∨ O2 k) w a' ps.len ps) (hO2 : ∀ k, O2 k → (B ≤ k ∧ k < w.heap.size) ∧ k ≠ b ∧ ¬ Sh.bk a k) (hSB : ∀ k, S k → k < B) (hlen : n + 1 ≤ 4611686018427387904) (hbytes : (n + 1) * bytes ≤ 140737488355328) (hBb : B ≤ b) {K : World → Prop}
    (hk : ∀ a'' n'' c'' w' (O' : Nat → Prop), Blk w' b [.slice a'' n'' c''] Tv → OwnG e S O' B w' a'' n'' c'' (f.app (.one k s m ps)) → Chg (fun j => j = b ∨ O j) w w' → (∀ j, O' j → O j ∨ O2 j ∨ (w.heap.size ≤ j ∧ j < w'.heap.size)) → K w') :
    app P [t, t] ty (.slice a n c) (.slice (some ⟨bz, 0, none⟩) 1 1) w fun a1 n1 c1 w2 => idx a1 n1 (n : Int) 4 fun q =>
      (stL w2 q 0 [.int .i64 k, .string ⟨⟨s⟩⟩, .int .i64 m, .slice a' ps.len c'] fun w3 => (stL w3 ⟨b, 0, none⟩ 0 [.slice a1 n1 c1] fun w4 => K w4) ∧ True) ∧
      (stL w2 ⟨b, 0, none⟩ 0 [.slice a1 n1 c1] fun w3 => (stL w3 q 0 [.int .i64 k, .string ⟨⟨s⟩⟩, .int .i64 m, .slice a' ps.len c'] fun w4 => K w4) ∧ True) ∧ True := by
  obtain ⟨h0, h1, h2, xs, h3, h4⟩ := h
  refine app_cap2 hT h3 hB hb (fun hh => hnb (h1 b hh)) zc [.int .i64 k, .string ⟨⟨s⟩⟩, .int .i64 m, .slice a' ps.len c'] hbz hzc hz1 rfl (by intro u hu; simp only [List.mem_cons, List.not_mem_nil, or_false] at hu; rcases hu with rfl | rfl | rfl | rfl <;> rfl) hlen hbytes
    fun a'' c'' w' hbl ho hc hn => hk a'' _ c'' w' (fun j => O j ∨ O2 j ∨ Sh.bk a'' j) hbl ⟨?_, fun j hj => .inr (.inr hj), fun j hj => ?_, _, ho, ?_⟩ (hc.mono fun j _ hj => hj.imp id (h1 j)) ?_
  · simp [Fo.one]; exact h0
  · have z := hc.size
    rcases hj with hj | hj | hj
    · exact ⟨(h2 j hj).1, by have := (h2 j hj).2; omega⟩
    · exact ⟨(hO2 j hj).1.1, by have := (hO2 j hj).1.2; omega⟩
    · exact ho.bk hj
  · obtain ⟨_, us, g3, g4⟩ := hps
    have na : ∀ j, j < w.heap.size → ¬ Sh.bk a j → ¬ Sh.bk a'' j := fun j hj hb' hh => (hn j hh).elim hb' (by omega)
    have hs : ∀ j, ((S j ∨ O j) ∧ ¬ Sh.bk a j) → j < w.heap.size → ((S j ∨ O j ∨ O2 j ∨ Sh.bk a'' j) ∧ ¬ Sh.bk a'' j) ∧ w'.heap[j]? = w.heap[j]? := fun j hj hl =>
      ⟨⟨hj.1.imp id fun h => .inl h, na j hl hj.2⟩, hc.block j hl fun hh => hh.elim (fun hb' => hj.1.elim (fun hs => by have := hSB j hs; omega) (fun ho => hnb (hb' ▸ ho))) hj.2⟩
    have hs2 : ∀ j, (S j ∨ O2 j) → j < w.heap.size → ((S j ∨ O j ∨ O2 j ∨ Sh.bk a'' j) ∧ ¬ Sh.bk a'' j) ∧ w'.heap[j]? = w.heap[j]? := fun j hj hl => by
      have nb : j ≠ b ∧ ¬ Sh.bk a j := hj.elim (fun h => ⟨by have := hSB j h; omega, fun hh => by have := (h2 j (h1 j hh)).1; have := hSB j h; omega⟩) (fun h => (hO2 j h).2)
      exact ⟨⟨hj.imp id fun h => .inr (.inl h), na j hl nb.2⟩, hc.block j hl fun hh => hh.elim nb.1 nb.2⟩
    exact (h4.keep hs hc.size).app ⟨a', c', us, [], rfl, g3.keep hs2 hc.size, g4.keep hs2 hc.size, rfl⟩
  · intro j hj
    rcases hj with hj | hj | hj
    · exact .inl hj
    · exact .inr (.inl hj)
    · rcases hn j hj with h' | h'
      · exact .inl (h1 j h')
      · exact .inr (.inr ⟨h', (ho.bk hj).2⟩)
end

/- the marks of ranges over functions, that a call lays down when it leaves -/
def marks (Dl : List Nat) : List Deferred := Dl.map fun D => { target := .collected D, args := #[] }
theorem retD_marks {K : World → Prop} : ∀ (Dl : List Nat) (W : World), Dl.Nodup → (∀ D ∈ Dl, W.heap[D]? = some (.deferred (some []))) → (∀ W', Chg (fun k => k ∈ Dl) W W' → K W') → retD (marks Dl) W K
  | [], W, _, _, h => h W (Chg.refl _ _)
  | D :: Dl, W, hn, hD, h => by
    rw [List.nodup_cons] at hn
    refine ⟨D, rfl, hD D (by simp), retD_marks Dl _ hn.2 (fun D' hD' => ?_) fun W' hc => h W' ?_⟩
    · rw [World.putObj_heap_other (fun e : D' = D => hn.1 (by rw [← e]; exact hD'))]; exact hD D' (by simp [hD'])
    · exact (Chg.put W D _ (by simp)).trans (hc.mono fun k _ hk => by simp [hk])
end Go.Sh
namespace Go.Proofs
open Go Go.Sh Go.RowKit

/- words that are abbreviations -/
def flushF (f : Fo) (rest : List UInt8) : Fo := if rest = [] then f else f.app (.one 1 rest 0 .nil)
def stepD (full : List UInt8 → Option (List UInt8)) (st : Fo × List UInt8) (x : List UInt8) : Fo × List UInt8 := match full x with
  | none => (st.1, st.2 ++ x)
  | some u => ((flushF st.1 st.2).app (.one 10 x 0 (.one 1 u 0 .nil)), [])
def divS (full : List UInt8 → Option (List UInt8)) (f : Fo) (l : List (List UInt8)) : Fo × List UInt8 := l.foldl (stepD full) (f, [])
def divT (full : List UInt8 → Option (List UInt8)) (f : Fo) (t : List UInt8) : Fo := flushF (divS full f (chunks t)).1 (divS full f (chunks t)).2
def expA (full : List UInt8 → Option (List UInt8)) : Fo → Fo → Fo
  | .nil, out => out
  | .cons k t n ps r, out => expA full r (if k ≠ 1 then out.app (.one k t n (if k ≠ 10 then expA full ps .nil else ps)) else divT full out t)
theorem divS_snoc (full) (f : Fo) (l : List (List UInt8)) (x : List UInt8) : divS full f (l ++ [x]) = stepD full (divS full f l) x := by unfold divS; rw [List.foldl_append]; rfl
theorem divS_rest (full) (f : Fo) (l : List (List UInt8)) : (divS full f l).2.length ≤ l.flatten.length := by
  induction l using snoc_ind with
  | h0 => simp [divS]
  | h1 l x ih =>
    rw [divS_snoc]
    rw [List.flatten_append, List.length_append]
    unfold stepD
    split
    · simp only [List.length_append, List.flatten_cons, List.flatten_nil, List.append_nil]; omega
    · simp only [List.length_nil]; omega
theorem divS_len (full) (f : Fo) (l : List (List UInt8)) : (divS full f l).1.len ≤ f.len + 2 * l.length := by
  induction l using snoc_ind with
  | h0 => simp [divS]
  | h1 l x ih =>
    rw [divS_snoc]
    unfold stepD
    split
    · simp; omega
    · simp only [flushF]
      split <;> simp [Fo.one] <;> omega

/- the list under way and the text that is left -/
def StX (S O : Nat → Prop) (B b48 b4 : Nat) (W : World) (f : Fo) (rest : List UInt8) : Prop :=
  ∃ oa oc, Blk W b48 [.string ⟨⟨rest⟩⟩] 9 ∧ Blk W b4 [.slice oa f.len oc] 22 ∧ OwnG 45 S O B W oa f.len oc f ∧ ¬ O b48 ∧ ¬ O b4
theorem StX.chg {S O : Nat → Prop} {B b48 b4 : Nat} {W W' : World} {f : Fo} {rest : List UInt8} {T : Nat → Prop} (h : StX S O B b48 b4 W f rest) (hc : Chg T W W') (hT : ∀ k, T k → k < W.heap.size → k ≠ b48 ∧ k ≠ b4 ∧ ¬ S k ∧ ¬ O k) : StX S O B b48 b4 W' f rest := by
  obtain ⟨oa, oc, h1, h2, h3, h4, h5⟩ := h
  exact ⟨oa, oc, hc.blk h1 (fun hh => (hT _ hh h1.lt).1 rfl), hc.blk h2 (fun hh => (hT _ hh h2.lt).2.1 rfl), h3.chg hc fun k hk hl => (hT k hk hl).2.2, h4, h5⟩
theorem zero4 : ∀ u ∈ ([.int .i64 0, .string ⟨⟨[]⟩⟩, .int .i64 0, .slice none 0 0] : List Value), u.oneCell' = true := by
  intro u hu; simp only [List.mem_cons, List.not_mem_nil, or_false] at hu; rcases hu with rfl | rfl | rfl | rfl <;> rfl

set_option maxRecDepth 20000 in
theorem flush_spec {R : Ending → World → Prop} {S O : Nat → Prop} {B b48 b4 : Nat} {W : World} {f : Fo} {rest : List UInt8} (h : StX S O B b48 b4 W f rest) (hSB : ∀ k, S k → k < B) (hB4 : B ≤ b4) (hB48 : B ≤ b48) (hne : b4 ≠ b48) (hlen : f.len ≤ 1000000000)
    (hk : ∀ W' (O' : Nat → Prop), StX S O' B b48 b4 W' (flushF f rest) [] → Chg (fun j => j = b48 ∨ j = b4 ∨ O j) W W' → (∀ j, O' j → O j ∨ (W.heap.size ≤ j ∧ j < W'.heap.size)) → R (.returned (.tuple ⟨[]⟩)) W') :
    Calls Tryz.prog F_legibility_Expand_1_1 ⟨[.pointer (some ⟨b48, 0, none⟩), .pointer (some ⟨b4, 0, none⟩)]⟩ W R := by
  obtain ⟨oa, oc, h1, h2, h3, h4, h5⟩ := h
  apply c_legibility_Expand_1_1
  refine dr_ok ⟨_, by rw [h1.cell]; rfl, br_split (fun g => ?_) (fun g => ?_)⟩
  · unfold drw
    have ed := ext_drew W
    have zd : W.drew.heap.size = W.heap.size := rfl
    have k1 := h1.ext ed
    have k2 := h2.ext ed
    have k3 := h3.ext ed
    have hcd : Chg (fun j => j = b48 ∨ j = b4 ∨ O j) W W.drew := .of_ext ed
    generalize W.drew = Wd at *
    have l4 := k2.lt
    have l48 := k1.lt
    refine dr_ok ⟨_, _, _, by rw [k2.cell]; rfl, dr_ok ⟨_, by rw [k1.cell]; rfl, ?_, trivial⟩⟩
    refine al_intro fun b10 w11 hb10 B10 e11 s11 => ?_
    refine ⟨?_, trivial⟩
    refine OwnG.push (ps := .nil) (O2 := fun _ => False) slT_node (k3.ext e11) (by omega) (k2.ext e11) h5 B10 rfl zero4 (SlF.nil none) (fun k hk => hk.elim) hSB (by omega) (by omega) hB4 fun a'' n'' c'' w' O' g1 g2 g3 g4 => ?_
    have q48 : ¬ O' b48 := fun hh => (g4 b48 hh).elim h4 fun hh => hh.elim (fun h => h.elim) (fun h => by omega)
    have q4 : ¬ O' b4 := fun hh => (g4 b4 hh).elim h5 fun hh => hh.elim (fun h => h.elim) (fun h => by omega)
    have r1 := g3.blk (k1.ext e11) (fun hh => hh.elim (fun h => hne h.symm) h4)
    have hn := g2.len
    refine dr_ok (stL_one r1 rfl fun W5 r1' hc5 s5 => ?_)
    have hfl : flushF f rest = f.app (.one 1 rest 0 .nil) := by unfold flushF; rw [if_neg g]
    have z5 := g3.size
    refine hk W5 O' ⟨a'', c'', r1', ?_, ?_, q48, q4⟩ ?_ ?_
    · rw [hfl, ← hn]; exact hc5.blk g1 hne
    · rw [hfl, ← hn]; exact g2.chg hc5 fun k hk _ => ⟨fun hs => by have := hSB k hs; omega, fun ho => q48 (by rw [← hk]; exact ho)⟩
    · exact ((hcd.trans (.of_ext e11)).trans (g3.mono fun k _ hk => .inr hk)).trans (hc5.mono fun k _ hk => .inl hk)
    · intro j hj
      rcases g4 j hj with h | h | h
      · exact .inl h
      · exact h.elim
      · exact .inr ⟨by omega, by omega⟩
  · have g' : rest = [] := Decidable.not_not.1 g
    refine dr_ok (stL_one h1 rfl fun W5 r1' hc5 s5 => ?_)
    have hfl : flushF f rest = f := by unfold flushF; rw [if_pos g']
    refine hk W5 O ⟨oa, oc, r1', hc5.blk (by rw [hfl]; exact h2) hne, ?_, h4, h5⟩ (hc5.mono fun k _ hk => .inl hk) fun j hj => .inl hj
    rw [hfl]
    exact h3.chg hc5 fun k hk _ => ⟨fun hs => by have := hSB k hs; omega, fun ho => h4 (by rw [← hk]; exact ho)⟩
end Go.Proofs
namespace Go.Proofs
open Go Go.Sh Go.RowKit

theorem chunks_len (s : List UInt8) : (chunks s).length ≤ s.length := by
  induction hz : s.length using Nat.strongRecOn generalizing s with
  | _ z ih =>
  cases s with
  | nil => simp [chunks]
  | cons c r =>
    have h1 := dropWhile_len (fun x => inW x == inW c) r
    have h2 := ih _ (by rw [← hz]; simp only [List.length_cons]; omega) (r.dropWhile fun x => inW x == inW c) rfl
    rw [chunks, List.length_cons, ← hz, List.length_cons]; omega
theorem divT_len (full) (f : Fo) (t : List UInt8) : (divT full f t).len ≤ f.len + 2 * t.length + 1 := by
  have h1 := divS_len full f (chunks t)
  have h2 := chunks_len t
  unfold divT flushF
  split
  · omega
  · simp [Fo.one]; omega
theorem prefix_flat {l m : List (List UInt8)} {x : List UInt8} (h : l ++ [x] <+: m) : l.flatten.length + x.length ≤ m.flatten.length := by
  obtain ⟨s, rfl⟩ := h
  simp only [List.flatten_append, List.length_append, List.flatten_cons, List.flatten_nil, List.append_nil]; omega

set_option maxRecDepth 20000 in
theorem Expand_1_spec {full : List UInt8 → Option (List UInt8)} {b43 b8 bm m0 : Nat} :
    ∀ (f : Fo) {R : Ending → World → Prop} {S : Nat → Prop} {w : World} {a : Option Addr} {n c : Nat} (hs : f.size ≤ 1000000) (ht : tlen f ≤ 300000000) (hf0 : SlF S w a n f)
    (B43 : Blk w b43 [.func (.func 38) ⟨[]⟩ ⟨[.pointer (some ⟨b43, 0, none⟩), .pointer (some ⟨b8, 0, none⟩)]⟩] 56) (B8 : Blk w b8 [.map (some bm)] 61) (hM : MapT Tryz.prog 9 eS eS w bm m0 full)
    (h : ∀ a' n' c' w', SlF (fun k => S k ∨ w.heap.size ≤ k) w' a' n' (expA full f .nil) → Ext w w' → R (.returned (.slice a' n' c')) w'),
    Calls Tryz.prog F_legibility_Expand_1 ⟨[.slice a n c, .pointer (some ⟨b43, 0, none⟩), .pointer (some ⟨b8, 0, none⟩)]⟩ w R := by
  intro f
  induction hz : f.size using Nat.strongRecOn generalizing f with
  | _ z ih =>
  intro R S w a n c hs ht hf0 B43 B8 hM h
  apply c_legibility_Expand_1
  have hn := hf0.1
  have hfl := f.len_le_size
  have hf : SlF (fun k => S k ∧ k < w.heap.size) w a n f := hf0.imp fun k hk hl => ⟨hk, hl⟩
  have l43 := B43.lt
  have l8 := B8.lt
  have lm := hM.lt
  refine al_intro fun b4 w5 hb4 B4 e5 s5 => ?_
  refine ⟨fun i ds W m => ∃ (p r out : Fo) (O : Nat → Prop) (oa : Option Addr) (oc : Nat) (Dl : List Nat), f = p.app r ∧ i = p.len ∧ m = r.len ∧ ds = marks Dl ∧ Dl.Nodup ∧ (∀ D ∈ Dl, w.heap.size ≤ D ∧ D ≠ b4 ∧ ¬ O D ∧ W.heap[D]? = some (.deferred (some []))) ∧
      Blk W b4 [.slice oa out.len oc] 22 ∧ OwnG 45 (fun k => S k ∧ k < w.heap.size) O w.heap.size W oa out.len oc out ∧ ¬ O b4 ∧ Ext w W ∧ out.len ≤ 2 * tlen p + 2 * p.len ∧ expA full f .nil = expA full r out,
    ⟨_, .nil, f, .nil, fun _ => False, none, 0, [], rfl, rfl, rfl, rfl, List.nodup_nil, fun D hD => by simp at hD, B4, OwnG.nil w5, id, e5, by simp, rfl⟩, ?_⟩
  rintro _ _ W m ⟨p, r, out, O, oa, oc, Dl, hpr, rfl, rfl, rfl, hDn, hD, G4, hG, hO4, he, hlen, heq⟩ _
  have hwW := he.size
  have hSB : ∀ k, (S k ∧ k < w.heap.size) → k < w.heap.size := fun k hk => hk.2
  have l4 := G4.lt
  refine br_split (fun hlt => ?_) (fun hge => ?_)
  · obtain ⟨k, t, mm, ps, r, rfl⟩ := Fo.next hpr (by omega)
    have hsl := Fo.sub_len hpr
    have hsz := Fo.sub_size hpr
    have htl : tlen f = tlen p + (t.length + tlen ps + tlen r) := by rw [hpr, tlen_app]; rfl
    have e1 : f = (p.app (.one k t mm ps)).app r := by rw [Fo.app_one_app]; exact hpr
    have i1 : IntKind.i64.wrap ((p.len : Int) + 1) = ((p.app (.one k t mm ps)).len : Int) := by rw [wrap_nat (by omega)]; simp [Fo.one]
    have t1 : tlen (p.app (.one k t mm ps)) = tlen p + (t.length + tlen ps) := by rw [tlen_app]; simp [Fo.one, tlen]
    rw [expA] at heq
    obtain ⟨q, a', c', hq, hSq, hql, hN⟩ := (hf.ext he).get hpr
    refine hq _ ⟨k, hN.kind, t, hN.text, mm, hN.num, a', ps.len, c', hN.parts, ?_⟩
    refine al_stL (by simp) (by intro u hu; simp only [List.mem_cons, List.not_mem_nil, or_false] at hu; rcases hu with rfl | rfl | rfl | rfl <;> rfl) fun bx w19 hbx hBx e2 s2 => ?_
    obtain ⟨x0, x1, x2, x3⟩ := blk4 hBx
    have E19 := ext_trans he e2
    have z19 := e2.size
    have nOx : ¬ O bx := fun hh => by have := hG.own hh; omega
    refine ⟨k, x0, br_split (fun g => ?_) (fun g => ?_)⟩
    · rw [if_pos g] at heq
      intro K21 hK21
      -- appending the node
      have k21 : ∀ (W3 : World) (a3 : Option Addr) (c3 : Nat) (ps3 : Fo) (O2 : Nat → Prop), Blk W3 bx [.int .i64 k, .string ⟨⟨t⟩⟩, .int .i64 mm, .slice a3 ps3.len c3] 45 → Ext W W3 → SlF (fun k => (S k ∧ k < w.heap.size) ∨ O2 k) W3 a3 ps3.len ps3 →
          (∀ j, O2 j → W.heap.size ≤ j ∧ j < W3.heap.size) → expA full f .nil = expA full r (out.app (.one k t mm ps3)) → K21 W3 := by
        intro W3 a3 c3 ps3 O2 hB3 he3 hsl3 hO2 heq3
        refine hK21 _ fun _ => ?_
        unfold drw
        have ed := ext_trans he3 (ext_drew W3)
        have zd : W3.drew.heap.size = W3.heap.size := rfl
        have hBd := hB3.ext (ext_drew W3)
        have hsd := hsl3.ext (ext_drew W3)
        generalize W3.drew = Wd at *
        obtain ⟨y0, y1, y2, y3⟩ := blk4 hBd
        have Gd := G4.ext ed
        have zz := ed.size
        refine ⟨oa, _, oc, by rw [Gd.cell]; rfl, k, y0, t, y1, mm, y2, a3, _, c3, y3, ?_, trivial⟩
        refine al_intro fun b29 w30 hb29 B29 e30 s30 => ?_
        refine ⟨?_, trivial⟩
        refine OwnG.push (ps := ps3) (O2 := O2) slT_node ((hG.ext ed).ext e30) (by omega) (Gd.ext e30) hO4 B29 rfl zero4 (hsd.ext e30) (fun j hj => ⟨⟨by have := hO2 j hj; omega, by have := hO2 j hj; omega⟩, by have := hO2 j hj; omega, fun hh => by have := hG.own (hG.bk hh); have := hO2 j hj; omega⟩) hSB (by omega) (by omega) (by omega) fun a5 n5 c5 w5' O' f1 f2 f3 f4 => ?_
        have hn5 := f2.len
        subst hn5
        have ee30 := ext_trans ed e30
        have zf3 := f3.size
        refine ⟨r.len, by simp, _, r, _, O', a5, c5, Dl, e1, i1, rfl, rfl, hDn, fun D hDD => ?_, f1, f2, ?_, ?_, ?_, heq3⟩
        · obtain ⟨d1, d2, d3, d4⟩ := hD D hDD
          have dl := (Array.getElem?_eq_some_iff.1 d4).1
          refine ⟨d1, d2, fun hh => ?_, ?_⟩
          · rcases f4 D hh with h' | h' | h'
            · exact d3 h'
            · have := hO2 D h'; omega
            · omega
          · rw [f3.block D (by have := ee30.size; omega) (fun hh => hh.elim d2 d3), ee30.block D dl]; exact d4
        · intro hh
          rcases f4 _ hh with h' | h' | h'
          · exact hO4 h'
          · have := hO2 _ h'; omega
          · omega
        · exact ext_chgS (ext_trans he ee30) f3 fun j hj => hj.elim (fun e => by omega) fun ho => (hG.own ho).1
        · rw [t1]; simp [Fo.one]; omega
      refine ⟨k, x0, br_split (fun g10 => ?_) (fun g10 => ?_)⟩
      · rw [if_pos g10] at heq
        refine dr_ok ⟨.func 38, ⟨[]⟩, ⟨[.pointer (some ⟨b43, 0, none⟩), .pointer (some ⟨b8, 0, none⟩)]⟩, by rw [(B43.ext E19).cell]; rfl, a', ps.len, c', x3, by kernel_rfl, ?_⟩
        refine ih _ (hz ▸ hsz) ps rfl (S := fun k => S k ∧ k < w.heap.size) (by omega) (by omega) (hN.sl.ext e2) (B43.ext E19) (B8.ext E19) (hM.ext E19) fun a3 n3 c3 w45 hsl3 e45 => ⟨_, _, _, rfl, ?_⟩
        have hn3 := hsl3.1
        subst hn3
        have hBx3 := hBx.ext e45
        rw [add_none]
        refine stL_blk hBx3 (by simp) (by intro u hu; simp only [List.mem_singleton] at hu; subst hu; rfl) fun w47 b1 b2 b3' b4' b5 b6 => ?_
        simp only [putAt, List.set] at b1
        have hc47 : Chg (· = bx) w45 w47 := ⟨b4', b5, b6, by omega, fun k _ hk => b2 k hk⟩
        have z45 := e45.size
        have z47 := hc47.size
        refine k21 w47 a3 c3 _ (fun j => w19.heap.size ≤ j ∧ j < w47.heap.size) b1 (ext_chgS (ext_trans e2 e45) hc47 fun j hj => by omega) ?_ (fun j hj => ⟨by omega, hj.2⟩) heq
        have := hsl3.chg hc47 (fun j hj he => by subst he; rcases hj with hj | hj <;> omega)
        exact this.imp fun j hj hl => hj.imp id fun h' => ⟨h', hl⟩
      · rw [if_neg g10] at heq
        exact k21 w19 a' c' ps (fun _ => False) hBx e2 ((hN.sl.ext e2).imp fun j hj _ => .inl hj) (fun j hj => hj.elim) heq
    · -- a text
      rw [if_neg g] at heq
      refine al_intro fun b48 w49 hb48 B48 e49 s49 => ?_
      refine stL_one B48 rfl fun w50 C48 hc50 s50 => ?_
      refine al_intro fun b51 w52 hb51 B51 e52 s52 => ?_
      refine stL_one B51 rfl fun w53 C51 hc53 s53 => ?_
      have e50 : Ext w19 w50 := ext_chgS e49 hc50 fun k hk => by omega
      have e52' := ext_trans e50 e52
      have e53 : Ext w19 w53 := ext_chgS e52' hc53 fun k hk => by have := e50.size; omega
      have D48 := hc53.blk (C48.ext e52) (by omega)
      refine ⟨t, by rw [add_none, (hBx.ext e53).cell]; rfl, ?_⟩
      apply c_legibility_parts
      refine al_intro fun bp w56 hbp Bp e56 s56 => ?_
      refine ⟨.func 61, ⟨[]⟩, ⟨[.pointer (some ⟨bp, 0, none⟩)]⟩, rfl, fun base => ?_⟩
      have F56 := ext_trans e53 e56
      have FW := ext_trans e2 F56
      have Fw := ext_trans he FW
      have H48 := D48.ext e56
      have H51 := C51.ext e56
      have H4 := G4.ext FW
      have HG := hG.ext FW
      have z1 := e2.size
      have z2 := F56.size
      have z3 := e53.size
      have z4 := e50.size
      have z56 := e56.size
      have n48 : ¬ O b48 := fun hh => by have := hG.own hh; omega
      have lbp := Bp.lt
      have l48 := H48.lt
      have l51 := H51.lt
      rw [cd_legibility_Expand_1_1]
      refine RFw_lawW anA_legibility_Expand_1_1 anB_legibility_Expand_1_1 (gf := F_legibility_parts_1) rfl (by kernel_rfl) (xs := chunks t) (E := fun x vs => vs = [.string ⟨⟨x⟩⟩]) (Rd := fun k => k = bp) (Wr := fun k => k = bp) (fun k hk => hk)
        (fun w1 hw1 => parts_iter t (by omega) bp w1 (Bp.ext hw1)) (fun y vs hE => by rw [hE]; rfl) (by decide) (fun k hk => by omega)
        (fun k => k = b48 ∨ k = b4 ∨ O k) (fun k hk => ?_)
        (fun pre S1 W1 => ∃ O1 : Nat → Prop, StX (fun k => S k ∧ k < w.heap.size) O1 w.heap.size b48 b4 W1 (divS full out pre).1 (divS full out pre).2 ∧ (∀ k, S1 k ↔ k = b48 ∨ k = b4 ∨ O1 k) ∧
          Chg (fun k => k = b48 ∨ k = b4 ∨ O k ∨ k = bp ∨ w56.heap.size ≤ k) w56 W1 ∧ (∀ k, O1 k → O k ∨ w56.heap.size ≤ k))
        (fun _ _ => False) (fun _ _ => False) ?_ (fun _ _ _ h => h.elim) (fun _ _ _ h => h.elim) ⟨O, ⟨oa, oc, H48, H4, HG, n48, hO4⟩, fun k => Iff.rfl, Chg.refl _ _, fun k hk => .inl hk⟩ ?_ ?_ (fun _ _ _ _ _ _ _ h => h.elim) (fun _ _ _ _ _ _ _ h => h.elim)
      · rcases hk with rfl | rfl | hk
        · exact ⟨by omega, by omega⟩
        · exact ⟨by omega, by omega⟩
        · have := hG.own hk; exact ⟨by omega, by omega⟩
      · rintro pre S1 W1 W2 ⟨O1, g1, g2, g3, g4⟩ hc
        refine ⟨O1, g1.chg hc fun k hk hl => ?_, g2, chg_then g3 hc fun k hk hh => ?_, g4⟩
        · rcases hk with hk | hk
          · have := mt (g2 k).2 hk.2
            simp only [not_or] at this
            exact ⟨this.1, this.2.1, fun hs => by omega, this.2.2⟩
          · refine ⟨by omega, by omega, fun hs => by omega, fun ho => ?_⟩
            rcases g4 k ho with h' | h'
            · have := hG.own h'; omega
            · omega
        · rcases hh with hh | hh
          · omega
          · exact .inr (.inr (.inr (.inl hh)))
      · rintro pre x vs S1 W1 l rfl hpre hl1 hl2 hl3 hS1 ⟨O1, g1, g2, g3, g4⟩
        have hpf := prefix_flat hpre
        rw [chunks_flat] at hpf
        have hrest := divS_rest full out pre
        have hdl := divS_len full out pre
        have hpl : pre.length ≤ t.length := by have h1 := hpre.length_le; have h2 := chunks_len t; simp at h1; omega
        refine Eq.mpr (er_legibility_Expand_1_1 base _ _ _ _ _ _ _ _ _ _ _ _ _ _ _ _ _ _ _ _ _ _) ?_
        refine ⟨Below.refl _ _, fun w81 hU => ?_⟩
        have hUc : Chg (fun k => k = l) W1 w81 := ⟨hU.os, hU.tape, hU.output, by rw [hU.size]; exact Nat.le_refl _, fun k _ hk => hU.block k hk⟩
        have nl := mt (g2 l).2 hl3
        simp only [not_or] at nl
        have g1' : StX (fun k => S k ∧ k < w.heap.size) O1 w.heap.size b48 b4 w81 (divS full out pre).1 (divS full out pre).2 := g1.chg hUc fun k hk _ => by subst hk; exact ⟨nl.1, nl.2.1, fun hs => by omega, nl.2.2⟩
        have g3' := chg_then g3 hUc fun k hk hh => by omega
        have zU : w81.heap.size = W1.heap.size := hU.size
        have zg3 := g3.size
        have k51 := g3'.blk H51 (fun hh => by rcases hh with h' | h' | h' | h' | h' <;> first | omega | (have := hG.own h'; omega))
        have k8 := g3'.blk (B8.ext Fw) (fun hh => by rcases hh with h' | h' | h' | h' | h' <;> first | omega | (have := hG.own h'; omega))
        have km := (hM.ext Fw).chg g3' (fun hh => by rcases hh with h' | h' | h' | h' | h' <;> first | omega | (have := hG.own h'; omega))
        -- what every way ends in
        have fin : ∀ (W' : World) (O' : Nat → Prop), StX (fun k => S k ∧ k < w.heap.size) O' w.heap.size b48 b4 W' (stepD full (divS full out pre) x).1 (stepD full (divS full out pre) x).2 → Chg (fun j => j = b48 ∨ j = b4 ∨ O1 j) w81 W' → (∀ j, O' j → O1 j ∨ (w81.heap.size ≤ j ∧ j < W'.heap.size)) →
            Chg (fun k => S1 k ∨ W1.heap.size ≤ k) w81 W' ∧ ∃ S' : Nat → Prop, (∀ k, S' k → (S1 k ∨ W1.heap.size ≤ k) ∧ k < W'.heap.size) ∧ ∃ O2 : Nat → Prop, StX (fun k => S k ∧ k < w.heap.size) O2 w.heap.size b48 b4 W' (divS full out (pre ++ [x])).1 (divS full out (pre ++ [x])).2 ∧ (∀ k, S' k ↔ k = b48 ∨ k = b4 ∨ O2 k) ∧
              Chg (fun k => k = b48 ∨ k = b4 ∨ O k ∨ k = bp ∨ w56.heap.size ≤ k) w56 W' ∧ (∀ k, O2 k → O k ∨ w56.heap.size ≤ k) := by
          intro W' O' hst hc hO'
          have zc := hc.size
          refine ⟨hc.mono fun k _ hk => .inl ((g2 k).2 hk), fun k => k = b48 ∨ k = b4 ∨ O' k, fun k hk => ?_, O', by rw [divS_snoc]; exact hst, fun k => Iff.rfl, chg_then g3' hc fun k hk hh => ?_, fun k hk => ?_⟩
          · rcases hk with rfl | rfl | hk
            · exact ⟨.inl ((g2 _).2 (.inl rfl)), by omega⟩
            · exact ⟨.inl ((g2 _).2 (.inr (.inl rfl))), by omega⟩
            · rcases hO' k hk with h' | h'
              · have hh := hS1 k ((g2 k).2 (.inr (.inr h')))
                exact ⟨.inl ((g2 k).2 (.inr (.inr h'))), by omega⟩
              · exact ⟨.inr (by omega), h'.2⟩
          · rcases hh with h' | h' | h'
            · exact .inl h'
            · exact .inr (.inl h')
            · rcases g4 k h' with h'' | h''
              · exact .inr (.inr (.inl h''))
              · exact .inr (.inr (.inr (.inr h'')))
          · rcases hO' k hk with h' | h'
            · exact g4 k h'
            · exact .inr (by omega)
        have hxl : x.length ≤ 4611686018427387904 := by omega
        refine dr_ok ⟨_, by rw [k8.cell]; rfl, (full x).getD [], (full x).isSome, ?_, ?_⟩
        · have := km.look2 kd9 Tryz.underlying61 (z := .string ⟨⟨[]⟩⟩) (zero_run (by kernel_rfl) w81) (keyS hxl)
          cases hf : full x with
          | none => rw [hf] at this; exact this
          | some v => rw [hf] at this; exact this
        cases hfx : full x with
        | none =>
          simp only [Option.isSome_none, Bool.not_false, br_t]
          obtain ⟨oa1, oc1, h1, h2, h3, h4, h5⟩ := g1'
          refine dr_ok ⟨_, by rw [h1.cell]; rfl, by omega, dr_ok (stL_one h1 rfl fun W' h1' hc' s' => ?_)⟩
          refine fin W' O1 ?_ (hc'.mono fun j _ hj => .inl hj) (fun j hj => .inl hj)
          have : stepD full (divS full out pre) x = ((divS full out pre).1, (divS full out pre).2 ++ x) := by unfold stepD; rw [hfx]
          rw [this]
          exact ⟨oa1, oc1, h1', hc'.blk h2 (by omega), h3.chg hc' fun k hk _ => ⟨fun hs => by omega, fun ho => h4 (by rw [← hk]; exact ho)⟩, h4, h5⟩
        | some u =>
          simp only [Option.isSome_some, Bool.not_true, br_f, Option.getD_some]
          refine dr_ok ⟨.func 39, ⟨[]⟩, ⟨[.pointer (some ⟨b48, 0, none⟩), .pointer (some ⟨b4, 0, none⟩)]⟩, by rw [k51.cell]; rfl, by kernel_rfl, ?_⟩
          refine flush_spec g1' hSB (by omega) (by omega) (by omega) (by omega) fun w94 O3 hst hc94 hO3 => ⟨rfl, ?_⟩
          have hfll : (flushF (divS full out pre).1 (divS full out pre).2).len ≤ (divS full out pre).1.len + 1 := by unfold flushF; split <;> simp [Fo.one]
          unfold drw
          have ed := ext_drew w94
          have zd : w94.drew.heap.size = w94.heap.size := rfl
          have hst' := hst.chg (Chg.of_ext (S := fun _ => False) ed) fun k hk _ => hk.elim
          have hc95 : Chg (fun j => j = b48 ∨ j = b4 ∨ O1 j) w81 w94.drew := hc94.trans (.of_ext ed)
          generalize w94.drew = w95 at *
          obtain ⟨oa1, oc1, h1, h2, h3, h4, h5⟩ := hst'
          have z95 := hc95.size
          have hstep : stepD full (divS full out pre) x = ((flushF (divS full out pre).1 (divS full out pre).2).app (.one 10 x 0 (.one 1 u 0 .nil)), []) := by unfold stepD; rw [hfx]
          have l95 := h2.lt
          refine dr_ok ⟨_, _, _, by rw [h2.cell]; rfl, ?_, ?_, trivial⟩
          · refine al_intro fun b98 w99 hb98 B98 e99 s99 => ?_
            refine ⟨?_, trivial⟩
            refine al_intro fun b100 w101 hb100 B100 e101 s101 => ?_
            refine ⟨?_, trivial⟩
            have ee := ext_trans e99 e101
            have hps : SlF (fun k => (S k ∧ k < w.heap.size) ∨ k = b98) w101 (some ⟨b98, 0, none⟩) (Fo.one 1 u 0 .nil).len (.one 1 u 0 .nil) :=
              ⟨rfl, _, .inr ⟨b98, 0, rfl, .inr rfl, (B98.ext e101).lt, fun j v hj => by rw [Nat.zero_add, (B98.ext e101).cell]; exact hj⟩, none, 0, [], [], rfl, .inl rfl, rfl, rfl⟩
            refine OwnG.push (ps := .one 1 u 0 .nil) (O2 := fun k => k = b98) slT_node (h3.ext ee) (by omega) (h2.ext ee) h5 B100 rfl zero4 hps (fun j hj => ⟨⟨by omega, by omega⟩, by omega, fun hh => by have := h3.own (h3.bk hh); omega⟩) hSB (by omega) (by omega) (by omega) fun a5 n5 c5 w6 O' f1 f2 f3 f4 => ?_
            have hn5 := f2.len
            subst hn5
            have zf := f3.size
            refine fin w6 O' ?_ ?_ ?_
            · rw [hstep]
              refine ⟨a5, c5, f3.blk (h1.ext ee) (fun hh => hh.elim (fun h => by omega) h4), f1, f2, fun hh => ?_, fun hh => ?_⟩
              · rcases f4 _ hh with h' | h' | h'
                · exact h4 h'
                · omega
                · omega
              · rcases f4 _ hh with h' | h' | h'
                · exact h5 h'
                · omega
                · omega
            · refine chg_then (hc95.trans (.of_ext ee)) f3 fun k hk hh => ?_
              rcases hh with h' | h'
              · exact .inr (.inl h')
              · rcases hO3 k h' with h'' | h''
                · exact .inr (.inr h'')
                · omega
            · intro j hj
              rcases f4 j hj with h' | h' | h'
              · rcases hO3 j h' with h'' | h''
                · exact .inl h''
                · exact .inr ⟨by omega, by omega⟩
              · exact .inr ⟨by omega, by omega⟩
              · exact .inr ⟨by omega, by omega⟩
          · refine al_intro fun b111 w112 hb111 B111 e112 s112 => ?_
            refine ⟨?_, trivial⟩
            refine al_intro fun b98 w101 hb98 B98 e101 s101 => ?_
            refine ⟨?_, trivial⟩
            have ee := ext_trans e112 e101
            have hps : SlF (fun k => (S k ∧ k < w.heap.size) ∨ k = b98) w101 (some ⟨b98, 0, none⟩) (Fo.one 1 u 0 .nil).len (.one 1 u 0 .nil) :=
              ⟨rfl, _, .inr ⟨b98, 0, rfl, .inr rfl, B98.lt, fun j v hj => by rw [Nat.zero_add, B98.cell]; exact hj⟩, none, 0, [], [], rfl, .inl rfl, rfl, rfl⟩
            have zz := e112.size
            refine OwnG.push (ps := .one 1 u 0 .nil) (O2 := fun k => k = b98) slT_node (h3.ext ee) (by omega) (h2.ext ee) h5 (B111.ext e101) rfl zero4 hps (fun j hj => ⟨⟨by omega, by omega⟩, by omega, fun hh => by have := h3.own (h3.bk hh); omega⟩) hSB (by omega) (by omega) (by omega) fun a5 n5 c5 w6 O' f1 f2 f3 f4 => ?_
            have hn5 := f2.len
            subst hn5
            have zf := f3.size
            refine fin w6 O' ?_ ?_ ?_
            · rw [hstep]
              refine ⟨a5, c5, f3.blk (h1.ext ee) (fun hh => hh.elim (fun h => by omega) h4), f1, f2, fun hh => ?_, fun hh => ?_⟩
              · rcases f4 _ hh with h' | h' | h'
                · exact h4 h'
                · omega
                · omega
              · rcases f4 _ hh with h' | h' | h'
                · exact h5 h'
                · omega
                · omega
            · refine chg_then (hc95.trans (.of_ext ee)) f3 fun k hk hh => ?_
              rcases hh with h' | h'
              · exact .inr (.inl h')
              · rcases hO3 k h' with h'' | h''
                · exact .inr (.inr h'')
                · omega
            · intro j hj
              rcases f4 j hj with h' | h' | h'
              · rcases hO3 j h' with h'' | h''
                · exact .inl h''
                · exact .inr ⟨by omega, by omega⟩
              · exact .inr ⟨by omega, by omega⟩
              · exact .inr ⟨by omega, by omega⟩
      · rintro D S1 W1 hD1 hD2 hD3 hD4 ⟨O1, g1, g2, g3, g4⟩
        have nD := mt (g2 D).2 hD3
        simp only [not_or] at nD
        have zg3 := g3.size
        have k51 := g3.blk H51 (fun hh => by rcases hh with h' | h' | h' | h' | h' <;> first | omega | (have := hG.own h'; omega))
        have hdl := divS_len full out (chunks t)
        have hcl := chunks_len t
        have hdt := divT_len full out t
        refine ⟨.func 39, ⟨[]⟩, ⟨[.pointer (some ⟨b48, 0, none⟩), .pointer (some ⟨b4, 0, none⟩)]⟩, by rw [k51.cell]; rfl, by kernel_rfl, ?_⟩
        refine flush_spec g1 hSB (by omega) (by omega) (by omega) (by omega) fun w64 O3 hst hc64 hO3 => ⟨rfl, ?_⟩
        obtain ⟨oa1, oc1, h1, h2, h3, h4, h5⟩ := hst
        have hall := chg_then g3 hc64 fun k hk hh => show k = b48 ∨ k = b4 ∨ O k ∨ k = bp ∨ w56.heap.size ≤ k by
          rcases hh with h' | h' | h'
          · exact .inl h'
          · exact .inr (.inl h')
          · rcases g4 k h' with h'' | h''
            · exact .inr (.inr (.inl h''))
            · exact .inr (.inr (.inr (.inr h'')))
        have hO3' : ∀ k, O3 k → O k ∨ w56.heap.size ≤ k := fun k hk => by
          rcases hO3 k hk with h' | h'
          · exact g4 k h'
          · exact .inr (by omega)
        refine ⟨r.len, by simp, _, r, _, O3, oa1, oc1, D :: Dl, e1, i1, rfl, rfl, ?_, fun D' hD' => ?_, h2, h3, h5, ?_, ?_, ?_⟩
        · rw [List.nodup_cons]
          refine ⟨fun hm => ?_, hDn⟩
          have := (Array.getElem?_eq_some_iff.1 (hD D hm).2.2.2).1
          omega
        · rcases List.mem_cons.1 hD' with rfl | hD'
          · refine ⟨by omega, by omega, fun hh => ?_, ?_⟩
            · rcases hO3 _ hh with h' | h'
              · exact nD.2.2 h'
              · omega
            · rw [hc64.block _ hD2 (fun hh => by rcases hh with h' | h' | h'; exact nD.1 h'; exact nD.2.1 h'; exact nD.2.2 h')]; exact hD4
          · obtain ⟨d1, d2, d3, d4⟩ := hD D' hD'
            have dl := (Array.getElem?_eq_some_iff.1 d4).1
            refine ⟨d1, d2, fun hh => ?_, ?_⟩
            · rcases hO3' _ hh with h' | h'
              · exact d3 h'
              · omega
            · rw [hall.block _ (by omega) (fun hh => by rcases hh with h' | h' | h' | h' | h' <;> first | omega | exact d3 h'), FW.block _ dl]; exact d4
        · exact ext_chgS Fw hall fun k hk => by
            rcases hk with h' | h' | h' | h' | h'
            · omega
            · omega
            · exact (hG.own h').1
            · omega
            · omega
        · show (divT full out t).len ≤ _
          rw [t1]; simp [Fo.one]; omega
        · exact heq
  · obtain ⟨rfl, rfl⟩ := Fo.last hpr (by omega)
    simp only [expA] at heq
    refine ⟨oa, _, oc, by rw [G4.cell]; rfl, ?_⟩
    refine retD_marks Dl W hDn (fun D hDD => (hD D hDD).2.2.2) fun W' hc => ?_
    have ho := (hG.chg hc fun k hk _ => ⟨fun hs => by have := (hD k hk).1; omega, (hD k hk).2.2.1⟩).out
    rw [← heq] at ho
    have hln : out.len = (expA full p .nil).len := by rw [heq]
    rw [← heq]
    refine h oa _ oc W' (ho.imp fun k hk _ => ?_) (ext_chgS he hc fun k hk => (hD k hk).1)
    rcases hk with hk | hk
    · exact .inl hk.1
    · exact .inr (hG.own hk).1
end Go.Proofs
