/- The contracts of the functions that the law reaches, one after the other, and at the end the law's card. -/
import Derived.Test.YtncjonkmhfdabaaGreatDoorLawB
import Derived.WalkKit
import Derived.ProofKit
import Derived.Lib.Builder
import Derived.Lib.Walk
import Derived.Shelf.RegionOpenPlain
import Derived.Laws.Externs
import Derived.Test.YtncjonkmhfdabaaGreatDoorShelf
namespace Go.Proofs
open Go Go.Sh Go.RowKit
/- paragraph: measures, fit, the lines from an index on -/
abbrev msC (m : Ms) : List Value := [.int .i64 m.n, .int .i64 m.st, .int .i64 m.sh]
structure MsB (t : Nat) (m : Ms) : Prop where
  n : 0 ≤ m.n ∧ m.n ≤ 1073741824 * t
  st : 0 ≤ m.st ∧ m.st ≤ 1073741824 * t
  sh : 0 ≤ m.sh ∧ m.sh ≤ 1073741824 * t
theorem MsB.add {t : Nat} {m : Ms} (h : MsB t m) {x : It} (hx : okP x) : MsB (t + 1) (m.add x) := by
  obtain ⟨h1, h2, h3⟩ := h
  obtain ⟨_, g1, g2, g3, _⟩ := hx
  unfold Ms.add
  split
  · exact ⟨by omega, by omega, by omega⟩
  · refine ⟨?_, ?_, ?_⟩
    · show 0 ≤ m.n + x.w ∧ m.n + x.w ≤ _
      omega
    · show 0 ≤ m.st + x.st ∧ m.st + x.st ≤ _
      omega
    · show 0 ≤ m.sh + x.sh ∧ m.sh + x.sh ≤ _
      omega
theorem MsB.mono {t u : Nat} {m : Ms} (h : MsB t m) (hu : t ≤ u) : MsB u m := by
  obtain ⟨h1, h2, h3⟩ := h
  exact ⟨by omega, by omega, by omega⟩
theorem MsB.zero : MsB 0 ms0 := ⟨⟨Int.le_refl _, Int.le_refl _⟩, ⟨Int.le_refl _, Int.le_refl _⟩, ⟨Int.le_refl _, Int.le_refl _⟩⟩
theorem msB_fold : ∀ {l : List It} {t : Nat} {m : Ms}, MsB t m → (∀ x ∈ l, okP x) → MsB (t + l.length) (l.foldl Ms.add m)
  | [], _, _, h, _ => h
  | x :: l, t, m, h, hx => by
    have := msB_fold (l := l) (h.add (hx x List.mem_cons_self)) fun y hy => hx y (List.mem_cons_of_mem _ hy)
    rw [List.length_cons, show t + (l.length + 1) = t + 1 + l.length by omega]
    exact this
theorem msB_sum {l : List It} (hx : ∀ x ∈ l, okP x) : MsB l.length (sumI l) := by
  have := msB_fold (l := l) MsB.zero hx
  rwa [Nat.zero_add] at this
section
variable {R : Ending → World → Prop} {S : Nat → Prop} {w : World} {a : Option Addr} {n c : Nat} {l : List It}
theorem madd_spec {b t : Nat} {m : Ms} {x : It} (hB : Blk w b (msC m) 152) (hm : MsB t m) (ht : t ≤ 1000000) (hx : okP x) (h : ∀ w', Chg (fun k => k = b) w w' → Blk w' b (msC (m.add x)) 152 → R (.returned (.tuple ⟨[]⟩)) w') :
    Calls Tryz.prog F_paragraph_measure_add ⟨[.pointer (some ⟨b, 0, none⟩), .agg ⟨x.cs⟩]⟩ w R := by
  apply c_paragraph_measure_add
  have lb := hB.lt
  obtain ⟨h1, h2, h3⟩ := hm
  obtain ⟨_, g1, g2, g3, _⟩ := hx
  refine al_intro fun b8 w9 hb8 B8 e9 s9 => ?_
  have hB := hB.ext e9
  refine ⟨_, bat B8 rfl, br_split (fun g => ?_) (fun g => ?_)⟩
  · have e1 : m.add x = ⟨m.n + x.w, m.st + x.st, m.sh + x.sh⟩ := if_neg g
    rw [e1] at h
    unfold drw
    have ed := ext_drew w9
    have hB := hB.ext ed
    have B8 := B8.ext ed
    have c0 : Chg (fun k => k = b) w w9.drew := .of_ext (ext_trans e9 ed)
    generalize w9.drew = w11 at *
    refine dr_ok ⟨_, bat hB rfl, _, bat B8 rfl, dr_ok ⟨?_, trivial⟩⟩
    rw [add_none, Nat.zero_add, wrap_id (by omega)]
    refine stL_blk hB (by simp) (by intro v hv; simp only [List.mem_singleton] at hv; subst hv; rfl) fun w16 B16 y1 y2 y3 y4 y5 => ?_
    have c16 : Chg (fun k => k = b) w11 w16 := ⟨y3, y4, y5, by omega, fun j _ hj => y1 j hj⟩
    have B16 : Blk w16 b [.int .i64 (m.n + x.w), .int .i64 m.st, .int .i64 m.sh] 152 := B16
    have B8 := c16.blk B8 (by omega)
    try unfold drw
    have ed := ext_drew w16
    have B16 := B16.ext ed
    have B8 := B8.ext ed
    have c17 := (c0.trans c16).trans (.of_ext ed)
    generalize w16.drew = w17 at *
    refine dr_ok ⟨_, bat B16 rfl, _, bat B8 rfl, dr_ok ⟨?_, trivial⟩⟩
    rw [add_none, Nat.zero_add, wrap_id (by omega)]
    refine stL_blk B16 (by simp) (by intro v hv; simp only [List.mem_singleton] at hv; subst hv; rfl) fun w22 B22 y1 y2 y3 y4 y5 => ?_
    have c22 : Chg (fun k => k = b) w17 w22 := ⟨y3, y4, y5, by omega, fun j _ hj => y1 j hj⟩
    have B22 : Blk w22 b [.int .i64 (m.n + x.w), .int .i64 (m.st + x.st), .int .i64 m.sh] 152 := B22
    have B8 := c22.blk B8 (by omega)
    try unfold drw
    have ed := ext_drew w22
    have B22 := B22.ext ed
    have B8 := B8.ext ed
    have c23 := (c17.trans c22).trans (.of_ext ed)
    generalize w22.drew = w23 at *
    refine dr_ok ⟨_, bat B22 rfl, _, bat B8 rfl, dr_ok ⟨?_, trivial⟩⟩
    rw [add_none, Nat.zero_add, wrap_id (by omega)]
    refine stL_blk B22 (by simp) (by intro v hv; simp only [List.mem_singleton] at hv; subst hv; rfl) fun w28 B28 y1 y2 y3 y4 y5 => ?_
    have c28 : Chg (fun k => k = b) w23 w28 := ⟨y3, y4, y5, by omega, fun j _ hj => y1 j hj⟩
    exact h w28 (c23.trans c28) B28
  · have e1 : m.add x = m := if_pos (Decidable.not_not.1 g)
    rw [e1] at h
    exact h w9 (.of_ext e9) hB
theorem its_it (h : Its l) {i : Nat} (hi : i < l.length) : okP (gIt l i) := h.ok _ (by rw [gIt_at hi]; exact List.getElem_mem hi)
theorem fit_spec {t u : Nat} {width : Int} {m : Ms} (h1 : RowV vIt S w a n l) (hI : Its l) (hw : okN width) (hm : MsB u m) (hu : u ≤ 1000000) (ht : t ≤ l.length)
    (h : ∀ w', Ext w w' → R (.returned (.tuple ⟨[.int .i64 (fitF l width m t).1, .int .i64 (fitF l width m t).2.1, .bool (fitF l width m t).2.2]⟩)) w') :
    Calls Tryz.prog F_paragraph_fit ⟨[.slice a n c, .int .i64 width, .agg ⟨msC m⟩, .int .i64 (t : Int)]⟩ w R := by
  apply c_paragraph_fit
  have hn := h1.1
  obtain ⟨m1, m2, m3⟩ := hm
  refine al_intro fun b7 w8 hb7 B7 e7 s7 => ?_
  have h1' := h1.ext e7
  have hnat : 0 ≤ natF l m t ∧ natF l m t ≤ 1073741824 * 1000001 := by
    unfold natF
    split
    · rename_i hc
      have := (its_it hI hc.1).w
      omega
    · omega
  intro K9 hK9
  have k9 : ∀ V, Ext w V → Blk V b7 [.int .i64 (natF l m t), .int .i64 m.st, .int .i64 m.sh] 152 → K9 V := by
    intro V eV BV
    refine hK9 V fun _ => ⟨_, bat BV rfl, ?_⟩
    rw [wrap_id (by omega), wrap_id (by omega)]
    unfold fitF at h
    intro K12 hK12
    have k12 : ∀ b : Bool, (b = true ↔ (0 ≤ width - natF l m t ∧ (t = l.length ∨ forcedF l t = true))) → K12 b V := by
      intro b hb
      refine hK12 _ _ fun _ => br_cases (fun g => ?_) (fun g => ?_)
      · have := hb.1 g
        rw [if_pos this.1, if_pos this.2] at h
        exact h V eV
      · have hb : ¬ (0 ≤ width - natF l m t ∧ (t = l.length ∨ forcedF l t = true)) := fun q => by rw [hb.2 q] at g; cases g
        refine br_split (fun g2 => ?_) (fun g2 => ?_)
        · rw [if_pos g2, if_neg fun q => hb ⟨g2, q⟩] at h
          exact ⟨_, bat BV rfl, Badness_spec _ _ fun w17 e17 => ⟨_, rfl, h _ (ext_trans eV e17)⟩⟩
        · rw [if_neg g2, show -(width - natF l m t) = 0 - (width - natF l m t) by omega] at h
          refine ⟨_, bat BV rfl, br_split (fun g3 => ?_) (fun g3 => ?_)⟩
          · rw [if_pos g3] at h
            exact ⟨_, bat BV rfl, Badness_spec _ _ fun w17 e17 => ⟨_, rfl, h _ (ext_trans eV e17)⟩⟩
          · rw [if_neg g3] at h
            exact h V eV
    refine br_split (fun g => ?_) (fun g => k12 _ ⟨fun q => absurd q (by decide), fun q => absurd q.1 g⟩)
    refine br_split (fun g2 => k12 _ ⟨fun _ => ⟨g, .inl (by omega)⟩, fun _ => rfl⟩) (fun g2 => ?_)
    refine forced_spec (h1.ext eV) ⟨_, rfl, k12 _ ⟨fun q => ⟨g, .inr q⟩, fun q => q.2.resolve_left (by omega)⟩⟩
  intro K27 hK27
  have k27 : ∀ b : Bool, (b = true ↔ (t < l.length ∧ (gIt l t).k = 3)) → K27 b w8 := by
    intro b hb
    refine hK27 _ _ fun _ => br_cases (fun g => ?_) (fun g => ?_)
    · have hc := hb.1 g
      unfold drw
      have ed := ext_drew w8
      have B7 := B7.ext ed
      have e07 := ext_trans e7 ed
      generalize w8.drew = w30 at *
      obtain ⟨p, hp, hIt⟩ := rowV_itm (h1.ext e07) hc.1
      refine ⟨_, bat B7 rfl, hp _ ⟨_, hIt.wd, ?_, trivial⟩⟩
      have hwi := (its_it hI hc.1).w
      have en : natF l m t = m.n + (gIt l t).w := if_pos hc
      rw [add_none, Nat.zero_add, wrap_id (by omega), ← en]
      refine stL_blk B7 (by simp) (by intro v hv; simp only [List.mem_singleton] at hv; subst hv; rfl) fun w34 B34 y1 y2 y3 y4 y5 => ?_
      have c34 : Chg (fun k => k = b7) w30 w34 := ⟨y3, y4, y5, by omega, fun j _ hj => y1 j hj⟩
      exact k9 w34 (ext_chgS e07 c34 fun k hk => by omega) B34
    · have en : natF l m t = m.n := if_neg fun q => by rw [hb.2 q] at g; cases g
      refine k9 w8 e7 ?_
      rw [en]; exact B7
  refine br_split (fun g => ?_) (fun g => k27 _ ⟨fun q => absurd q (by decide), fun q => by omega⟩)
  obtain ⟨p, hp, hIt⟩ := rowV_itm h1' (i := t) (by omega)
  refine hp _ ⟨_, hIt.k, k27 _ ?_⟩
  rw [decide_eq_true_iff]
  exact ⟨fun q => ⟨by omega, q⟩, fun q => q.2⟩
end
def LnE (x : Nat × Int) (vs : List Value) : Prop := vs = [.int .i64 x.1, .int .i64 x.2]
set_option maxRecDepth 20000 in
theorem lines_iterO {w : World} {S : Nat → Prop} {a : Option Addr} {n c : Nat} {l : List It} {width : Int} {f b4 b6 b8 : Nat} (hV : RowV vIt S w a n l) (hI : Its l) (hw : okN width) (hf : f ≤ l.length)
    (B4 : Blk w b4 [.slice a n c] 31) (B8 : Blk w b8 [.int .i64 (f : Int)] 3) (B6 : Blk w b6 [.int .i64 width] 3) :
    IterO Tryz.prog F_paragraph_lines_1 [.pointer (some ⟨b4, 0, none⟩), .pointer (some ⟨b8, 0, none⟩), .pointer (some ⟨b6, 0, none⟩)] (linesF l width f) LnE (fun k => k = b4 ∨ k = b6 ∨ k = b8 ∨ (S k ∧ k < w.heap.size)) w := by
  intro yf ya yb S0 J Jx R hS0 hJ hJx hbody h0 hend hstop
  apply c_paragraph_lines_1
  have hn := hV.1
  subst hn
  have hlen := hI.len
  have l4 := B4.lt
  have l6 := B6.lt
  have l8 := B8.lt
  have rd : ∀ {W : World}, Chg (fun k => S0 k ∨ w.heap.size ≤ k) w W → RowV vIt S W a l.length l ∧ Blk W b4 [.slice a l.length c] 31 ∧ Blk W b8 [.int .i64 (f : Int)] 3 ∧ Blk W b6 [.int .i64 width] 3 := by
    intro W hc
    refine ⟨((hV.imp (S' := fun k => S k ∧ k < w.heap.size) fun k hk hl => ⟨hk, hl⟩).chg hc fun k hk hl hh => ?_).imp fun k hk _ => hk.1, hc.blk B4 fun hh => ?_, hc.blk B8 fun hh => ?_, hc.blk B6 fun hh => ?_⟩
    · rcases hh with hh | hh
      · exact (hS0 _ hh).2 (.inr (.inr (.inr hk)))
      · omega
    · rcases hh with hh | hh
      · exact (hS0 _ hh).2 (.inl rfl)
      · omega
    · rcases hh with hh | hh
      · exact (hS0 _ hh).2 (.inr (.inr (.inl rfl)))
      · omega
    · rcases hh with hh | hh
      · exact (hS0 _ hh).2 (.inr (.inl rfl))
      · omega
  refine al_intro fun b5 w6 hb5 B5 e5 s5 => ?_
  have B5 : Blk w6 b5 (msC ms0) 152 := B5
  have z5 := e5.size
  have hJ0 := hJ _ _ _ _ h0 (.of_ext e5)
  refine dr_ok ⟨_, _, _, b0_cell (B4.ext e5), dr_ok ⟨_, b0_cell (B8.ext e5), dr_ok ⟨_, _, _, b0_cell (B4.ext e5), ?_⟩⟩⟩
  refine begin_spec (hV.ext e5) (Nat.le_refl _) (by omega) hf ⟨_, rfl, ?_⟩
  refine dr_ok ⟨_, b0_cell (B8.ext e5), ?_⟩
  refine ⟨fun i W m => ∃ (t : Nat) (S1 : Nat → Prop) (pre : List (Nat × Int)) (mm : Ms), i = t ∧ f ≤ t ∧ t ≤ l.length + 1 ∧ m = l.length + 1 - t ∧ J pre S1 W ∧ pre ++ linesG l width (beginF l f l.length) (l.length + 1 - t) t mm = linesF l width f ∧ MsB t mm ∧
      Chg (fun k => S0 k ∨ w.heap.size ≤ k) w W ∧ (∀ k, S1 k → (S0 k ∨ w.heap.size ≤ k) ∧ k < W.heap.size) ∧ ¬ S1 b5 ∧ Blk W b5 (msC mm) 152,
    ⟨_, f, S0, [], ms0, rfl, Nat.le_refl _, by omega, rfl, hJ0, rfl, MsB.zero.mono (Nat.zero_le _), .of_ext e5, fun k hk => ⟨.inl hk, by have := (hS0 k hk).1; omega⟩, fun hh => by have := (hS0 _ hh).1; omega, B5⟩, ?_⟩
  rintro _ W m ⟨t, S1, pre, mm, rfl, ht1, ht2, rfl, hj, hpre, hmm, hc, hS1, n5, C5⟩ _
  obtain ⟨hVW, B4W, B8W, B6W⟩ := rd hc
  have zW := hc.size
  refine dr_ok ⟨_, _, _, b0_cell B4W, br_split (fun hle => ?_) (fun hgt => ?_)⟩
  · have htl : t ≤ l.length := by omega
    rw [show l.length + 1 - t = (l.length + 1 - (t + 1)) + 1 by omega, linesG] at hpre
    intro K25 hK25
    have k25 : ∀ (V : World) (S' : Nat → Prop) (pre' : List (Nat × Int)), J pre' S' V → pre' ++ (if forcedF l t = true then [] else linesG l width (beginF l f l.length) (l.length + 1 - (t + 1)) (t + 1) (if t < l.length ∧ beginF l f l.length ≤ t then mm.add (gIt l t) else mm)) = linesF l width f →
        Chg (fun k => S0 k ∨ w.heap.size ≤ k) w V → (∀ k, S' k → (S0 k ∨ w.heap.size ≤ k) ∧ k < V.heap.size) → ¬ S' b5 → Blk V b5 (msC mm) 152 → K25 V := by
      intro V S' pre' hj' hpre' hcV hSV nV CV
      have zV := hcV.size
      obtain ⟨hVV, B4V, B8V, B6V⟩ := rd hcV
      refine hK25 V fun _ => dr_ok ⟨_, _, _, b0_cell B4V, forced_spec hVV ⟨_, rfl, br_cases (fun g => ?_) (fun g => ?_)⟩⟩
      · rw [if_pos g, List.append_nil] at hpre'
        subst hpre'
        exact hend S' V zV hj'
      · rw [if_neg (by rw [g]; decide)] at hpre'
        intro K32 hK32
        have k32 : ∀ b : Bool, (b = true ↔ (t < l.length ∧ beginF l f l.length ≤ t)) → K32 b V := by
          intro b hb
          refine hK32 _ _ fun _ => br_cases (fun g => ?_) (fun g => ?_)
          · have hcn := hb.1 g
            rw [if_pos hcn] at hpre'
            obtain ⟨p, hp, hIt⟩ := rowV_itm hVV hcn.1
            refine dr_ok ⟨_, _, _, b0_cell B4V, hp _ (rdIt hIt (madd_spec CV hmm (by omega) (its_it hI hcn.1) fun w45 c45 B45 => ⟨rfl, ?_⟩))⟩
            have z45 := c45.size
            have ht0 : t + 1 ≤ l.length + 1 := by omega
            refine ⟨l.length + 1 - (t + 1), by omega, t + 1, S', pre', mm.add (gIt l t), by rw [wrap_nat (by omega)], by omega, ht0, rfl, hJ _ _ _ _ hj' (c45.mono fun k _ hk => by subst hk; exact ⟨by omega, nV⟩), hpre', hmm.add (its_it hI hcn.1), hcV.trans (c45.mono fun k _ hk => .inr (by omega)), fun k hk => ⟨(hSV k hk).1, by have := (hSV k hk).2; omega⟩, nV, B45⟩
          · have hcn : ¬ (t < l.length ∧ beginF l f l.length ≤ t) := fun q => by rw [hb.2 q] at g; cases g
            rw [if_neg hcn] at hpre'
            exact ⟨l.length + 1 - (t + 1), by omega, t + 1, S', pre', mm, by rw [wrap_nat (by omega)], by omega, by omega, rfl, hj', hpre', hmm.mono (by omega), hcV, hSV, nV, CV⟩
        refine dr_ok ⟨_, _, _, b0_cell B4V, br_split (fun g2 => k32 _ ?_) (fun g2 => k32 _ ⟨fun q => absurd q (by decide), fun q => by omega⟩)⟩
        rw [decide_eq_true_iff]
        omega
    refine dr_ok ⟨_, _, _, b0_cell B4W, ends_spec hVW htl (by omega) ⟨_, rfl, br_cases (fun ge => ?_) (fun ge => ?_)⟩⟩
    · refine dr_ok ⟨_, _, _, b0_cell B4W, dr_ok ⟨_, b0_cell B6W, _, bat C5 rfl, _, bat C5 rfl, _, bat C5 rfl, ?_⟩⟩
      refine fit_spec hVW hI hw hmm (by omega) htl fun w63 e63 => ⟨_, _, _, rfl, ?_⟩
      have hj3 := hJ _ _ _ _ hj (.of_ext e63)
      have hc3 := hc.trans (.of_ext e63)
      have C53 := C5.ext e63
      have z63 := e63.size
      have hS3 : ∀ k, S1 k → (S0 k ∨ w.heap.size ≤ k) ∧ k < w63.heap.size := fun k hk => ⟨(hS1 k hk).1, by have := (hS1 k hk).2; omega⟩
      obtain ⟨hV3, B43, B83, B63⟩ := rd hc3
      refine br_cases (fun gf => ?_) (fun gf => ?_)
      · rw [if_pos ⟨ge, gf⟩, ← List.append_assoc] at hpre
        refine dr_ok ⟨_, _, _, b0_cell B43, penalty_spec hV3 ⟨_, rfl, ?_⟩⟩
        have hfn := fitF_nn l width mm t
        have hpn := penF_nn (l := l) (fun x hx => by
          have := (hI.ok x hx).pen
          omega) t
        rw [wrap_id (by omega)]
        refine CallV_mono (hbody pre (t, (fitF l width mm t).1 + penF l t) _ S1 w63 rfl ⟨_, hpre⟩ (by omega) (fun j hj' => ⟨(hS3 j hj').2, fun hh => ?_⟩) hj3) ?_
        · rcases (hS3 j hj').1 with h1 | h1
          · exact (hS0 _ h1).2 hh
          · rcases hh with hh | hh | hh | hh <;> omega
        · rintro e72 w73 ⟨hcb, S', hS', hres⟩
          have zb := hcb.size
          have hc4 : Chg (fun k => S0 k ∨ w.heap.size ≤ k) w w73 := hc3.trans (hcb.mono fun j _ hj' => (hS3 j hj').1)
          rcases hres with ⟨rfl, hjn⟩ | ⟨rfl, hjx⟩
          · refine ⟨_, rfl, br_cases (fun q => absurd q (by decide)) (fun _ => ?_)⟩
            refine k25 w73 S' _ hjn hpre hc4 (fun j hj' => ⟨?_, (hS' j hj').2⟩) (fun hh => ?_) (hcb.blk C53 n5)
            · rcases (hS' j hj').1 with h1 | h1
              · exact (hS3 j h1).1
              · exact .inr (by omega)
            · rcases (hS' _ hh).1 with h1 | h1
              · exact n5 h1
              · have := C53.lt; omega
          · exact ⟨_, rfl, br_cases (fun _ => hstop S' w73 (by omega) hjx) (fun q => absurd q (by decide))⟩
      · rw [if_neg (fun q => by rw [gf] at q; cases q.2), List.nil_append] at hpre
        exact k25 w63 S1 pre hj3 hpre hc3 hS3 n5 C53
    · rw [if_neg (fun q => by rw [ge] at q; cases q.1), List.nil_append] at hpre
      exact k25 W S1 pre hj hpre hc hS1 n5 C5
  · rw [show l.length + 1 - t = 0 by omega, linesG, List.append_nil] at hpre
    subst hpre
    exact hend S1 W zW hj
end Go.Proofs
namespace Go.Proofs
open Go Go.Sh Go.RowKit

theorem sem_bind {α β : Type} (x : Sem α) (f : α → Sem β) : x.bind f = (x >>= f) := rfl
theorem sem_pure {α : Type} (x : α) : (Sem.pure x : Sem α) = pure x := rfl
section
attribute [local irreducible] World.shape?
set_option maxRecDepth 20000 in
theorem conv_to {w : World} {b : Nat} {j : TypeInfo} (hj : Tryz.prog.info? 160 = some j) (hjs : j.size = 2) (hsh : w.shape? b = some (160, 2)) :
    (convert 157 241 (.pointer (some ⟨b, 0, none⟩))).run Tryz.prog w = .ok (.pointer (some ⟨b, 0, none⟩)) w := by
  simp [convert, run_underlying Tryz.underlying157, run_underlying Tryz.underlying241]
  conv => lhs; whnf
  simp [sem_bind, sem_pure, hsh, cellsIn, sizeOf, typeInfo, hj, hjs]
set_option maxRecDepth 20000 in
theorem conv_from {w : World} {b : Nat} {j : TypeInfo} (hj : Tryz.prog.info? 160 = some j) (hsh : w.shape? b = some (160, 2)) :
    (convert 241 157 (.pointer (some ⟨b, 0, none⟩))).run Tryz.prog w = .ok (.pointer (some ⟨b, 0, none⟩)) w := by
  have hl : liesAt Tryz.prog Tryz.prog.depth 160 (2 / Tryz.prog.cellsOf 160) 0 160 1 = true := by kernel_rfl
  simp [convert, run_underlying Tryz.underlying157, run_underlying Tryz.underlying241]
  conv => lhs; whnf
  simp [sem_bind, sem_pure, hsh, sizeOf, typeInfo, hj, variablesAt, hl]
end
set_option maxRecDepth 100000 in
theorem copyCheck_used (b : Nat) (w : World) (h0 : w.cell? ⟨b, 0, none⟩ = some (.pointer (some ⟨b, 0, none⟩))) :
    Calls Tryz.prog 129 #[.pointer (some ⟨b, 0, none⟩)] w fun e w' => e = .returned (.tuple #[]) ∧ w' = w := by
  obtain ⟨j, hj, _⟩ := Option.map_eq_some_iff.1 (show (Tryz.prog.info? 160).map (·.size) = some 2 by kernel_rfl)
  go_enter Tryz.func129, Tryz.ntmps129
  go_wp2
  rw [Lib.run_neq_ptr_same w _ Tryz.underlying157 hj]
  go_wp2
  go_end0
  exact ⟨rfl, rfl⟩
set_option maxRecDepth 100000 in
theorem copyCheck_fresh (b : Nat) (w : World) (h0 : w.cell? ⟨b, 0, none⟩ = some (.pointer none)) (hsh : w.shape? b = some (160, 2)) (hfz : w.frozen? ⟨b, 0, none⟩ = false) :
    Calls Tryz.prog 129 #[.pointer (some ⟨b, 0, none⟩)] w fun e w' => e = .returned (.tuple #[]) ∧ w' = w.setCell ⟨b, 0, none⟩ (.pointer (some ⟨b, 0, none⟩)) := by
  obtain ⟨j, hj, hjs⟩ := Option.map_eq_some_iff.1 (show (Tryz.prog.info? 160).map (·.size) = some 2 by kernel_rfl)
  go_enter Tryz.func129, Tryz.ntmps129
  go_wp2
  rw [conv_to hj hjs hsh]
  simp only [Result.andThen]
  rw [Oper.upon_value]
  go_wp2
  rw [run_callFunc_extern Tryz.func177 (by kernel_rfl) (by kernel_rfl) (by kernel_rfl) (e := Extern.AbiNoEscape.same) (by kernel_rfl)]
  rw [Lib.run_noEscape]
  simp only [Result.andThen]
  rw [Oper.upon_value]
  go_wp2
  rw [conv_from hj hsh]
  simp only [Result.andThen]
  rw [Oper.upon_value]
  go_wp2
  go_end0
  exact ⟨rfl, rfl⟩

/- appending a string's bytes -/
theorem app_str {P : Program} {t u ty e : TypeId} (hT : SlT P t e 1 1 (.int .u8 0)) (hu : P.underlying u = some .string) {B : Nat} {a : Option Addr} {n c : Nat} {xs : List Value} {w : World} (hown : Owns w B e 1 a n c xs) (hB : B ≤ w.heap.size)
    (s : List UInt8) (hbytes : n + s.length ≤ 140737488355328) {K : Option Addr → Nat → Nat → World → Prop}
    (hk : ∀ a' c'' w', Owns w' B e 1 a' (n + s.length) c'' (xs ++ Lib.byteCells s) → Chg (bk a) w w' → (∀ k, bk a' k → bk a k ∨ w.heap.size ≤ k) → K a' (n + s.length) c'' w') :
    app P [t, u] ty (.slice a n c) (.string ⟨⟨s⟩⟩) w K := by
  obtain ⟨i, hi, hz, hs, hb⟩ := hT.get
  have hss : (⟨⟨s⟩⟩ : ByteArray).size = s.length := rfl
  have key : ∀ v' w', (Builtin.append_ #[t, u] ty #[.slice a n c, .string ⟨⟨s⟩⟩]).run P w = .ok v' w' → ∀ a' n' c'', v' = .slice a' n' c'' → ∀ k, bk a' k → bk a k ∨ w.heap.size ≤ k := by
    intro v' w' hr a' n' c'' hv k hk'
    rcases hown.2 with ⟨e1, rfl⟩ | ⟨g, cap, cur, e1, hbg, hg, hnc, hcm, hcs, htake⟩
    · obtain ⟨rfl, _, rfl⟩ : a = none ∧ True ∧ c = 0 := by simpa using e1
      by_cases hm : s.length = 0
      · have hf := Lib.run_firstCells_string (P := P) w 1 ⟨⟨s⟩⟩
        have hn : s = [] := List.eq_nil_of_length_eq_zero hm
        subst hn
        have hr2 : (Builtin.append_ #[t, u] ty #[.slice none 0 0, .string ⟨⟨[]⟩⟩]).run P w = .ok (.slice none 0 0) w := by
          simp [Builtin.append_, run_underlying hT.under, run_underlying hu, sizeOf, typeInfo, hi, Builtin.lenOf, Builtin.firstCells, ByteArray.size]
        rw [hr] at hr2
        simp only [Result.ok.injEq] at hr2
        rw [hr2.1] at hv
        simp only [Value.slice.injEq] at hv
        rw [← hv.1] at hk'
        simp [bk] at hk'
      · have hr2 := run_append_nil_string (P := P) w t u ty e i _ hT.under hu hi hz ⟨⟨s⟩⟩ (by rw [hss]; omega) (by rw [hss]; omega) (by rw [hb, hss]; omega)
        rw [hr] at hr2
        simp only [Result.ok.injEq] at hr2
        rw [hr2.1] at hv
        simp only [Value.slice.injEq] at hv
        rw [← hv.1] at hk'
        simp [bk] at hk'
        right; omega
    · obtain ⟨rfl, _, rfl⟩ : a = some ⟨g, 0, none⟩ ∧ True ∧ c = cap := by simpa using e1
      by_cases hroom : n + s.length ≤ c
      · have hr2 := Lib.run_append_room_string (P := P) w t u ty e i hT.under hu hi hs g n c cur hg ⟨⟨s⟩⟩ hroom (by rw [hss, hcs]; omega)
        rw [hr] at hr2
        simp only [Result.ok.injEq] at hr2
        rw [hr2.1] at hv
        simp only [Value.slice.injEq] at hv
        rw [← hv.1] at hk'
        exact .inl hk'
      · have holds : ∀ j u, xs[j]? = some u → w.cell? ((⟨g, 0, none⟩ : Addr).add j) = some u := hown.cells (g := g) rfl
        have hr2 := Lib.run_append_grow_string (P := P) w t u ty e i _ hT.under hu hi hz ⟨g, 0, none⟩ n c xs (by rw [hs]; exact hown.1) holds ⟨⟨s⟩⟩ (by rw [hss]; omega) (by rw [hss]; omega)
          (growslice_fits (by rw [hss]; omega) (by rw [hb, hss]; omega))
        rw [hr] at hr2
        simp only [Result.ok.injEq] at hr2
        rw [hr2.1] at hv
        simp only [Value.slice.injEq] at hv
        rw [← hv.1] at hk'
        simp [bk] at hk'
        right; omega
  obtain ⟨v', w', hr, ho, hg, hnn⟩ := Lib.run_append_own_string w B t u ty e i hT.under hu hi hz hs hb _ n xs hown ⟨⟨s⟩⟩ (by simp only [maxLen]; rw [hss]; omega) (by rw [hss]; omega) hB
  have hkey := key v' w' hr
  rw [show Lib.strCells ⟨⟨s⟩⟩ = Lib.byteCells s from rfl] at ho
  rcases ho.2 with ⟨rfl, hn⟩ | ⟨g, cap, cur, rfl, h2⟩
  · refine ⟨none, 0, 0, w', hr, ?_⟩
    have hn' : n + s.length = 0 := hn
    have := hk none 0 w' (by rw [hn']; rw [hn] at ho; exact ho) (grown_chg hg) (hkey _ _ _ rfl)
    rwa [hn'] at this
  · exact ⟨some ⟨g, 0, none⟩, n + s.length, cap, w', hr, hk _ _ _ ho (grown_chg hg) (hkey _ _ _ rfl)⟩

/- a builder in its own block, and where its bytes lie -/
def BldAt (w : World) (b : Nat) (a : Option Addr) (l : List UInt8) : Prop :=
  ∃ p c, Blk w b [p, .slice a l.length c] 160 ∧ (p = .pointer none ∨ p = .pointer (some ⟨b, 0, none⟩)) ∧ Owns w (b + 1) 5 1 a l.length c (Lib.byteCells l)
theorem BldAt.lt {w : World} {b : Nat} {a : Option Addr} {l : List UInt8} (h : BldAt w b a l) : b < w.heap.size := by
  obtain ⟨p, c, h1, _⟩ := h; exact h1.lt
theorem BldAt.bk {w : World} {b : Nat} {a : Option Addr} {l : List UInt8} (h : BldAt w b a l) {k : Nat} (hk : Sh.bk a k) : b < k ∧ k < w.heap.size := by
  obtain ⟨p, c, h1, _, h2⟩ := h
  have := h2.bk hk; omega
theorem BldAt.chg {S : Nat → Prop} {w w' : World} {b : Nat} {a : Option Addr} {l : List UInt8} (h : BldAt w b a l) (hc : Chg S w w') (h1 : ¬ S b) (h2 : ∀ k, Sh.bk a k → ¬ S k) : BldAt w' b a l := by
  obtain ⟨p, c, g1, g2, g3⟩ := h
  exact ⟨p, c, hc.blk g1 h1, g2, g3.chg hc h2⟩
theorem BldAt.ext {w w' : World} {b : Nat} {a : Option Addr} {l : List UInt8} (h : BldAt w b a l) (hc : Ext w w') : BldAt w' b a l :=
  h.chg (S := fun _ => False) (.of_ext hc) (fun h => h) fun _ _ h => h
theorem BldAt.isB {w : World} {b : Nat} {a : Option Addr} {l : List UInt8} (h : BldAt w b a l) : Lib.IsBuilder 160 5 b b (Lib.byteCells l) w := by
  obtain ⟨p, c, g1, g2, g3⟩ := h
  have hne : (Value.slice a l.length c).ownBlock ≠ some b := by
    cases a with
    | none => simp [Value.ownBlock]
    | some p => simp [Value.ownBlock]; intro e; have := (g3.bk (k := b) (by simp [Sh.bk, e])).1; omega
  have hlen : (Lib.byteCells l).length = l.length := Lib.byteCells_length l
  have hb : Lib.BuilderAt 160 5 b b p (Lib.byteCells l) w := by
    refine ⟨Nat.le_refl _, .slice a l.length c, g1, ?_, hne⟩
    rw [hlen]
    refine ⟨g3.1, ?_⟩
    rcases g3.2 with h | ⟨g, cap, cur, e1, e2, h⟩
    · exact .inl h
    · exact .inr ⟨g, cap, cur, e1, by omega, h⟩
  rcases g2 with rfl | rfl
  · exact .inl hb
  · exact .inr hb
theorem slT_byte : SlT Tryz.prog 158 5 1 1 (.int .u8 0) := ⟨by kernel_rfl, by kernel_rfl, rfl, by decide⟩
section
variable {R : Ending → World → Prop} {w : World}
theorem String_spec {b : Nat} {a : Option Addr} {l : List UInt8} (h : BldAt w b a l) (hk : ∀ w', Below b w w' → R (.returned (.string ⟨⟨l⟩⟩)) w') : Calls Tryz.prog F_strings_Builder_String ⟨[.pointer (some ⟨b, 0, none⟩)]⟩ w R := by
  refine (Tryz.Builder_String_any b b l w h.isB (by have := h.lt; omega)).mono ?_
  rintro e w' ⟨rfl, hb⟩
  exact hk w' hb
theorem WriteString_spec {b : Nat} {a : Option Addr} {l s : List UInt8} (h : BldAt w b a l) (hlen : l.length + s.length ≤ 140737488355328)
    (hk : ∀ a' w', BldAt w' b a' (l ++ s) → (∀ k, bk a' k → bk a k ∨ w.heap.size ≤ k) → Chg (fun k => k = b ∨ bk a k) w w' → R (.returned (.tuple ⟨[.int .i64 s.length, .nilIface]⟩)) w') :
    Calls Tryz.prog F_strings_Builder_WriteString ⟨[.pointer (some ⟨b, 0, none⟩), .string ⟨⟨s⟩⟩]⟩ w R := by
  apply c_strings_Builder_WriteString
  obtain ⟨p, c, g1, g2, g3⟩ := h
  have hbl := g1.lt
  have hnb : ¬ bk a b := fun hb => by have := (g3.bk hb).1; omega
  have main : ∀ w1, Blk w1 b [.pointer (some ⟨b, 0, none⟩), .slice a l.length c] 160 → Owns w1 (b + 1) 5 1 a l.length c (Lib.byteCells l) → Chg (· = b) w w1 → w1.heap.size = w.heap.size →
      (dr (some ⟨b, 0, none⟩) fun p5 =>
  ∃ (x6 : Option Addr) (x6n : Nat) (x6c : Nat), World.cell? w1 (p5.add 1) = some (.slice x6 x6n x6c) ∧ (app Tryz.prog [158, 9] 158 (.slice x6 x6n x6c) (.string ⟨⟨s⟩⟩) w1 fun a7 a7n a7c w8 =>
  dr (some ⟨b, 0, none⟩) fun p9 =>
  stL w8 (p9.add 1) 0 [.slice a7 a7n a7c] fun w10 =>
  R (.returned (.tuple ⟨[.int .i64 ((List.length s : Int)), .nilIface]⟩)) w10)) := by
    intro w1 q1 q2 q3 q4
    refine dr_ok ⟨a, l.length, c, by rw [add_none, q1.cell]; rfl, app_str slT_byte (by kernel_rfl) q2 (by omega) s hlen fun a' c'' w2 ho hc hn => dr_ok ?_⟩
    have q5 : Blk w2 b [.pointer (some ⟨b, 0, none⟩), .slice a l.length c] 160 := hc.blk q1 hnb
    rw [add_none]
    refine stL_blk q5 (by simp) (by simp [Value.oneCell']) fun w3 r1 r2 r3 r4 r5 r6 => ?_
    have hw23 : Chg (· = b) w2 w3 := ⟨r4, r5, r6, by omega, fun k _ hk => r2 k hk⟩
    have hnb' : ∀ k, bk a' k → ¬ k = b := fun k hk he => by have := (ho.bk hk).1; omega
    have e : (l ++ s).length = l.length + s.length := by simp
    refine hk a' w3 ⟨.pointer (some ⟨b, 0, none⟩), c'', ?_, .inr rfl, ?_⟩ (fun k hk => (hn k hk).imp id (by omega)) ?_
    · rw [e]; exact r1
    · rw [e, show Lib.byteCells (l ++ s) = Lib.byteCells l ++ Lib.byteCells s by simp [Lib.byteCells]]
      exact ho.chg hw23 hnb'
    · exact ((q3.mono fun k _ h => .inl h).trans (hc.mono fun k _ h => .inr h)).trans (hw23.mono fun k _ h => .inl h)
  rcases g2 with rfl | rfl
  · refine (copyCheck_fresh b w (by rw [g1.cell]; rfl) (by simp [World.shape?, show w.heap[b]? = _ from g1]) (g1.frozen 0)).mono ?_
    rintro e w' ⟨rfl, rfl⟩
    have hset := g1.set 0 (.pointer (some ⟨b, 0, none⟩))
    have hc : Chg (· = b) w (w.setCell ⟨b, 0, none⟩ (.pointer (some ⟨b, 0, none⟩))) :=
      ⟨rfl, rfl, rfl, by simp, fun k _ hk => by simp only [World.setCell, Array.getElem?_modify]; rw [if_neg (fun e => hk e.symm)]⟩
    exact ⟨rfl, main _ hset (g3.chg hc fun k hk he => hnb (he ▸ hk)) hc (by simp)⟩
  · refine (copyCheck_used b w (by rw [g1.cell]; rfl)).mono ?_
    rintro e w' ⟨rfl, rfl⟩
    exact ⟨rfl, main _ g1 g3 (Chg.refl _ _) rfl⟩
end
end Go.Proofs
namespace Go.Proofs
open Go Go.Sh Go.RowKit
/- a part of a row; a line -/
theorem rowAt_sls {α : Type} {E : Enc α} {S : Nat → Prop} {w : World} {a : Option Addr} {n c f t : Nat} {l : List α} (h : RowAt E S w a n l) (hc : n ≤ c) (h1 : f ≤ t) (h2 : t ≤ n) {K : Option Addr → Nat → Nat → Prop}
    (hk : ∀ a', RowAt E S w a' (t - f) ((l.drop f).take (t - f)) → K a' (t - f) (c - f)) : sls a c (f : Int) (t : Int) E.size K := by
  refine ⟨by omega, by omega, by omega, ?_⟩
  rw [Int.toNat_natCast, Int.toNat_natCast]
  refine hk _ ?_
  obtain ⟨hn, hA⟩ := h
  refine ⟨by rw [List.length_take, List.length_drop]; omega, ?_⟩
  have nil : (l.drop f).take (t - f) = [] → At S w (slA a c f E.size) (E.row ((l.drop f).take (t - f))) := fun e => .inl (by rw [e]; rfl)
  by_cases hft : f = t
  · exact nil (by rw [hft, Nat.sub_self, List.take_zero])
  rcases hA with hA | ⟨b, o, rfl, hb, hbl, hcell⟩
  · have hl : l = [] := by
      have := row_len (E := E) l
      rw [hA] at this
      have hp := E.pos
      cases l with
      | nil => rfl
      | cons x l =>
        rw [List.length_nil, List.length_cons, Nat.add_mul] at this; omega
    subst hl
    exact nil (by simp)
  · have e : slA (some (⟨b, o, none⟩ : Addr)) c f E.size = some ⟨b, o + f * E.size, none⟩ := by
      unfold slA
      rw [if_neg (by omega)]
      show some ((⟨b, o, none⟩ : Addr).add (f * E.size)) = _
      rw [add_none]
    rw [e]
    refine .inr ⟨b, _, rfl, hb, hbl, fun j v hj => ?_⟩
    rw [Nat.add_assoc]
    refine hcell _ _ ?_
    have e1 : l = l.take f ++ ((l.drop f).take (t - f) ++ (l.drop f).drop (t - f)) := by rw [List.take_append_drop, List.take_append_drop]
    have hlen : (E.row (l.take f)).length = f * E.size := by rw [row_len, List.length_take, Nat.min_eq_left (by omega)]
    rw [e1, row_app, row_app, List.getElem?_append_right (by rw [hlen]; omega), hlen, Nat.add_sub_cancel_left, List.getElem?_append_left (by exact (List.getElem?_eq_some_iff.1 hj).1)]
    exact hj
section
variable {R : Ending → World → Prop} {S : Nat → Prop} {w : World} {a : Option Addr} {n c : Nat} {l : List It}
theorem WriteByteB_spec {b : Nat} {a : Option Addr} {l : List UInt8} (h : BldAt w b a l) (x : UInt8) (hlen : l.length ≤ 1000000000000)
    (hk : ∀ a' w', BldAt w' b a' (l ++ [x]) → (∀ k, bk a' k → bk a k ∨ w.heap.size ≤ k) → Chg (fun k => k = b ∨ bk a k) w w' → R (.returned .nilIface) w') :
    Calls Tryz.prog F_strings_Builder_WriteByte ⟨[.pointer (some ⟨b, 0, none⟩), .int .u8 (x.toNat : Int)]⟩ w R := by
  apply c_strings_Builder_WriteByte
  obtain ⟨p, c, g1, g2, g3⟩ := h
  have hbl := g1.lt
  have hnb : ¬ bk a b := fun hb => by have := (g3.bk hb).1; omega
  have main : ∀ w1, Blk w1 b [.pointer (some ⟨b, 0, none⟩), .slice a l.length c] 160 → Owns w1 (b + 1) 5 1 a l.length c (Lib.byteCells l) → Chg (· = b) w w1 → w1.heap.size = w.heap.size →
      (dr (some ⟨b, 0, none⟩) fun p5 =>
  ∃ (x6 : Option Addr) (x6n : Nat) (x6c : Nat), World.cell? w1 (p5.add 1) = some (.slice x6 x6n x6c) ∧ (al w1 5 [.int .u8 (x.toNat : Int)] fun p7 w8 =>
  app Tryz.prog [158, 158] 158 (.slice x6 x6n x6c) (.slice (some p7) 1 1) w8 fun a9 a9n a9c w10 =>
  dr (some ⟨b, 0, none⟩) fun p11 =>
  stL w10 (p11.add 1) 0 [.slice a9 a9n a9c] fun w12 =>
  R (.returned (.nilIface)) w12)) := by
    intro w1 q1 q2 q3 q4
    refine dr_ok ⟨a, l.length, c, by rw [add_none, q1.cell]; rfl, ?_⟩
    refine app_one2 slT_byte q2 (by omega) [.int .u8 (x.toNat : Int)] rfl (by intro u hu; rw [List.mem_singleton.1 hu]; rfl) (by omega) (by omega) fun a' c'' w2 ho hc hn => dr_ok ?_
    have q5 : Blk w2 b [.pointer (some ⟨b, 0, none⟩), .slice a l.length c] 160 := hc.blk q1 hnb
    have e : l.length + 1 = (l ++ [x]).length := by simp
    have eb : Lib.byteCells (l ++ [x]) = Lib.byteCells l ++ [.int .u8 (x.toNat : Int)] := by simp [Lib.byteCells]
    rw [add_none]
    refine stL_blk q5 (by simp) (by simp [Value.oneCell']) fun w3 r1 r2 r3 r4 r5 r6 => ?_
    have hw23 : Chg (· = b) w2 w3 := ⟨r4, r5, r6, by omega, fun k _ hk => r2 k hk⟩
    have hnb' : ∀ k, bk a' k → ¬ k = b := fun k hk he => by have := (ho.bk hk).1; omega
    refine hk a' w3 ⟨.pointer (some ⟨b, 0, none⟩), c'', ?_, .inr rfl, ?_⟩ (fun k hk => (hn k hk).imp id (by omega)) ?_
    · rw [← e]; exact r1
    · rw [← e, eb]; exact ho.chg hw23 hnb'
    · exact ((q3.mono fun k _ h => .inl h).trans (hc.mono fun k _ h => .inr h)).trans (hw23.mono fun k _ h => .inl h)
  rcases g2 with rfl | rfl
  · refine (copyCheck_fresh b w (by rw [g1.cell]; rfl) (by simp [World.shape?, show w.heap[b]? = _ from g1]) (g1.frozen 0)).mono ?_
    rintro e w' ⟨rfl, rfl⟩
    have hset := g1.set 0 (.pointer (some ⟨b, 0, none⟩))
    have hc : Chg (· = b) w (w.setCell ⟨b, 0, none⟩ (.pointer (some ⟨b, 0, none⟩))) :=
      ⟨rfl, rfl, rfl, by simp, fun k _ hk => by simp only [World.setCell, Array.getElem?_modify]; rw [if_neg (fun e => hk e.symm)]⟩
    exact ⟨rfl, main _ hset (g3.chg hc fun k hk he => hnb (he ▸ hk)) hc (by simp)⟩
  · refine (copyCheck_used b w (by rw [g1.cell]; rfl)).mono ?_
    rintro e w' ⟨rfl, rfl⟩
    exact ⟨rfl, main _ g1 g3 (Chg.refl _ _) rfl⟩
theorem bld_new {b : Nat} (B : Blk w b [.pointer none, .slice none 0 0] 160) : BldAt w b none [] := ⟨_, 0, B, .inl rfl, Owns.nil w (b + 1) 5 1⟩
abbrev txB (l : List It) : Prop := ∀ x ∈ l, x.tx.length ≤ 1000
theorem itT_len : ∀ {l : List It}, txB l → (l.flatMap itT).length ≤ 1000 * l.length
  | [], _ => Nat.le_refl _
  | x :: l, h => by
    have := itT_len (l := l) fun y hy => h y (List.mem_cons_of_mem _ hy)
    have hx := h x List.mem_cons_self
    rw [List.flatMap_cons, List.length_append, List.length_cons]
    have : (itT x).length ≤ 1000 := by
      unfold itT
      split
      · exact hx
      · split
        · exact (by decide : (1 : Nat) ≤ 1000)
        · exact Nat.zero_le _
    omega
abbrev lineC (l : List It) (width : Int) (f t : Nat) : List Value := [.int .i64 (beginF l f t), .int .i64 t, .int .i64 (fitF l width (msF l f t) t).1, .int .i64 (fitF l width (msF l f t) t).2.1, .string ⟨⟨lineT l f t⟩⟩]
set_option maxRecDepth 20000 in
theorem line_spec {width : Int} {f t : Nat} (h1 : RowV vIt S w a n l) (hcap : n ≤ c) (hI : Its l) (hT : txB l) (hw : okN width) (hft : f ≤ t) (ht : t ≤ l.length)
    (h : ∀ w', Ext w w' → R (.returned (.tuple ⟨[.agg ⟨lineC l width f t⟩, .bool (fitL l width f t)]⟩)) w') : Calls Tryz.prog F_paragraph_line ⟨[.slice a n c, .int .i64 width, .int .i64 (f : Int), .int .i64 (t : Int)]⟩ w R := by
  apply c_paragraph_line
  have hn := h1.1
  have hlen := hI.len
  refine al_intro fun b5 w6 hb5 B5 e5 s5 => ?_
  refine begin_spec (h1.ext e5) ht (by omega) hft ⟨_, rfl, ?_⟩
  have hbg := begF_ge l (t - f) f
  have hbe : f ≤ beginF l f t ∧ beginF l f t ≤ t := by unfold beginF; omega
  refine al_intro fun b10 w11 hb10 B10 e10 s10 => al_intro fun b12 w13 hb12 B12 e12 s12 => ?_
  have e013 := ext_trans e5 (ext_trans e10 e12)
  have B10 : Blk w13 b10 (msC ms0) 152 := B10.ext e12
  have D12 := bld_new B12
  have B5 := B5.ext (ext_trans e10 e12)
  have hrow := (rowV_enc.1 ((h1.imp (S' := fun k => S k ∧ k < w.heap.size) fun k hk hl => ⟨hk, hl⟩).ext e013))
  have hz := e013.size
  refine rowAt_sls (E := encIt) hrow hcap hbe.2 (by omega) fun a14 hsub => ?_
  have hsub : RowV vIt (fun k => S k ∧ k < w.heap.size) w13 a14 (t - beginF l f t) (cutI l f t) := rowV_enc.2 hsub
  have hcl := hsub.1
  have hcok : ∀ x ∈ cutI l f t, okP x := fun x hx => hI.ok x (cut_mem x hx)
  have hctx : txB (cutI l f t) := fun x hx => hT x (cut_mem x hx)
  refine ⟨fun i W m => ∃ (k : Nat) (ab : Option Addr), i = k ∧ k ≤ (cutI l f t).length ∧ m = (cutI l f t).length - k ∧ Blk W b10 (msC (sumI ((cutI l f t).take k))) 152 ∧ BldAt W b12 ab (((cutI l f t).take k).flatMap itT) ∧ Chg (fun k => b10 ≤ k) w13 W,
    ⟨_, 0, none, rfl, by omega, rfl, B10, D12, Chg.refl _ _⟩, ?_⟩
  rintro _ W m ⟨k, ab, rfl, hk, rfl, C10, D12, hc⟩ _
  have zW := hc.size
  have hrd : ∀ {V : World}, Chg (fun k => b10 ≤ k) w13 V → Ext w V ∧ RowV vIt (fun k => S k ∧ k < w.heap.size) V a14 (t - beginF l f t) (cutI l f t) := fun hcV =>
    ⟨ext_chgS e013 hcV fun k hk => by omega, hsub.chg hcV fun k hk hl hh => by omega⟩
  obtain ⟨eW, hsW⟩ := hrd hc
  have hbkd := D12.lt
  refine br_split (fun hlt => ?_) (fun hge => ?_)
  · have hkl : k < (cutI l f t).length := by omega
    obtain ⟨p, hp, hIt⟩ := rowV_itm hsW hkl
    have hgm : gIt (cutI l f t) k ∈ cutI l f t := by rw [gIt_at hkl]; exact List.getElem_mem hkl
    refine hp _ (rdIt hIt ?_)
    refine al_stL rfl (one_it _) fun b27 w29 hb27 B27 e27 s27 => ?_
    have z27 := e27.size
    have hms : MsB k (sumI ((cutI l f t).take k)) := (msB_sum fun x hx => hcok x (List.mem_of_mem_take hx)).mono (by rw [List.length_take]; omega)
    have hkk : k ≤ 1000000 := by
      have : (cutI l f t).length ≤ l.length := by unfold cutI; rw [List.length_take, List.length_drop]; omega
      omega
    have l10 := C10.lt
    refine rdIt (itAt_b B27) (madd_spec (C10.ext e27) hms hkk (hcok _ hgm) fun w37 c37 C37 => ⟨rfl, ?_⟩)
    have z37 := c37.size
    have B37 := c37.blk B27 (by omega)
    have D37 := (D12.ext e27).chg c37 (by omega) fun k hk hh => by have := ((D12.ext e27).bk hk).1; omega
    have hc37 : Chg (fun k => b10 ≤ k) w13 w37 := (hc.trans (.of_ext e27)).trans (c37.mono fun k _ hk => by omega)
    have l37 := C37.lt
    have esum : sumI ((cutI l f t).take (k + 1)) = (sumI ((cutI l f t).take k)).add (gIt (cutI l f t) k) := by
      rw [List.take_succ_eq_append_getElem hkl, gIt_at hkl]
      unfold sumI
      rw [List.foldl_append]; rfl
    have etx : ((cutI l f t).take (k + 1)).flatMap itT = ((cutI l f t).take k).flatMap itT ++ itT (gIt (cutI l f t) k) := by
      rw [List.take_succ_eq_append_getElem hkl, gIt_at hkl, List.flatMap_append]; simp
    have hlt1 : (((cutI l f t).take k).flatMap itT).length ≤ 1000 * k := Nat.le_trans (itT_len fun x hx => hctx x (List.mem_of_mem_take hx)) (by rw [List.length_take]; exact Nat.mul_le_mul_left _ (Nat.min_le_left _ _))
    have hltx := hctx _ hgm
    have next : ∀ (V : World) (ab' : Option Addr), Blk V b10 (msC (sumI ((cutI l f t).take (k + 1)))) 152 → BldAt V b12 ab' (((cutI l f t).take (k + 1)).flatMap itT) → Chg (fun k => b10 ≤ k) w13 V →
        ∃ m44 : Nat, m44 < (cutI l f t).length - k ∧ ∃ (k' : Nat) (ab : Option Addr), IntKind.i64.wrap ((k : Int) + 1) = k' ∧ k' ≤ (cutI l f t).length ∧ m44 = (cutI l f t).length - k' ∧ Blk V b10 (msC (sumI ((cutI l f t).take k'))) 152 ∧ BldAt V b12 ab (((cutI l f t).take k').flatMap itT) ∧ Chg (fun k => b10 ≤ k) w13 V := fun V ab' q1 q2 q3 =>
      ⟨(cutI l f t).length - (k + 1), by omega, k + 1, ab', by rw [wrap_nat (by omega)], by omega, rfl, q1, q2, q3⟩
    have C37' := C37
    rw [← esum] at C37
    refine ⟨_, bat B37 rfl, br_split (fun g1 => ?_) (fun g1 => ?_)⟩
    · refine ⟨_, bat B37 rfl, WriteString_spec D37 (by omega) fun a' w41 D41 hbk41 c41 => ⟨_, _, rfl, ?_⟩⟩
      have e1 : itT (gIt (cutI l f t) k) = (gIt (cutI l f t) k).tx := if_pos g1
      refine next w41 a' (c41.blk C37 fun hh => ?_) (by rw [etx, e1]; exact D41) (hc37.trans (c41.mono fun j _ hj => ?_))
      · rcases hh with hh | hh
        · omega
        · have := (D37.bk hh).1; omega
      · rcases hj with hj | hj
        · omega
        · have := (D37.bk hj).1; omega
    · refine br_split (fun g2 => ?_) (fun g2 => ?_)
      · refine WriteByteB_spec D37 32 (by omega) fun a' w41 D41 hbk41 c41 => ⟨_, rfl, ?_⟩
        have e1 : itT (gIt (cutI l f t) k) = [32] := by unfold itT; rw [if_neg g1, if_pos g2]
        refine next w41 a' (c41.blk C37 fun hh => ?_) (by rw [etx, e1]; exact D41) (hc37.trans (c41.mono fun j _ hj => ?_))
        · rcases hh with hh | hh
          · omega
          · have := (D37.bk hh).1; omega
        · rcases hj with hj | hj
          · omega
          · have := (D37.bk hj).1; omega
      · have e1 : itT (gIt (cutI l f t) k) = [] := by unfold itT; rw [if_neg g1, if_neg g2]
        exact next w37 ab C37 (by rw [etx, e1, List.append_nil]; exact D37) hc37
  · have hkl : k = (cutI l f t).length := by omega
    subst hkl
    rw [List.take_length] at C10 D12
    have hms : MsB l.length (msF l f t) := (msB_sum hcok).mono (by unfold cutI; rw [List.length_take, List.length_drop]; omega)
    have hlt1 : ((cutI l f t).flatMap itT).length ≤ 1000 * l.length := Nat.le_trans (itT_len hctx) (Nat.mul_le_mul_left _ (by unfold cutI; rw [List.length_take, List.length_drop]; omega))
    intro K50 hK50
    have k50 : ∀ (V : World) (ab' : Option Addr), Chg (fun k => b10 ≤ k) w13 V → Blk V b10 (msC (msF l f t)) 152 → BldAt V b12 ab' (lineT l f t) → K50 V := by
      intro V ab' hcV CV DV
      obtain ⟨eV, _⟩ := hrd hcV
      refine hK50 V fun _ => ⟨_, bat CV rfl, _, bat CV rfl, _, bat CV rfl, ?_⟩
      refine fit_spec (h1.ext eV) hI hw hms (by omega) ht fun w56 e56 => ⟨_, _, _, rfl, ?_⟩
      refine String_spec (DV.ext e56) fun w61 c61 => ⟨_, rfl, ?_⟩
      have B5V := (hcV.blk B5 (by omega)).ext e56
      have zV := hcV.size
      have z56 := e56.size
      have B561 : Blk w61 b5 [.int .i64 0, .int .i64 0, .int .i64 0, .int .i64 0, .string ⟨⟨[]⟩⟩] 53 := by
        have := c61.block b5 (by omega)
        exact this.trans B5V
      have c61' : Ext w w61 := ⟨c61.os.trans ((ext_trans eV e56).os), c61.tape.trans ((ext_trans eV e56).tape), c61.output.trans ((ext_trans eV e56).output), Nat.le_trans (ext_trans eV e56).size c61.size, fun k hk => (c61.block k (by omega)).trans ((ext_trans eV e56).block k hk)⟩
      refine stL_blk B561 (by simp) (by intro v hv; simp only [List.mem_cons, List.not_mem_nil, or_false] at hv; rcases hv with rfl | rfl | rfl | rfl | rfl <;> rfl) fun w63 B63 y1 y2 y3 y4 y5 => ?_
      have c63 : Chg (fun k => k = b5) w61 w63 := ⟨y3, y4, y5, by omega, fun j _ hj => y1 j hj⟩
      have B63 : Blk w63 b5 (lineC l width f t) 53 := B63
      exact ⟨_, bat B63 rfl, _, bat B63 rfl, _, bat B63 rfl, _, bat B63 rfl, _, bat B63 rfl, h w63 (ext_chgS c61' c63 fun k hk => by omega)⟩
    intro K69 hK69
    have k69 : ∀ b : Bool, (b = true ↔ (t < l.length ∧ (gIt l t).k = 3)) → K69 b W := by
      intro b hb
      refine hK69 _ _ fun _ => br_cases (fun g => ?_) (fun g => ?_)
      · have hcn := hb.1 g
        obtain ⟨p, hp, hIt⟩ := rowV_itm (h1.ext eW) hcn.1
        have hltx := hT (gIt l t) (by rw [gIt_at hcn.1]; exact List.getElem_mem hcn.1)
        refine hp _ ⟨_, hIt.tx, WriteString_spec D12 (by omega) fun a' w41 D41 hbk41 c41 => ⟨_, _, rfl, ?_⟩⟩
        refine k50 w41 a' (hc.trans (c41.mono fun j _ hj => ?_)) (c41.blk C10 fun hh => ?_) ?_
        · rcases hj with hj | hj
          · omega
          · have := (D12.bk hj).1; omega
        · rcases hh with hh | hh
          · omega
          · have := (D12.bk hh).1; omega
        · have : lineT l f t = (cutI l f t).flatMap itT ++ (gIt l t).tx := by unfold lineT; rw [if_pos hcn]
          rw [this]; exact D41
      · have : lineT l f t = (cutI l f t).flatMap itT := by
          unfold lineT
          rw [if_neg (fun q => by rw [hb.2 q] at g; cases g), List.append_nil]
        refine k50 W ab hc C10 ?_
        rw [this]; exact D12
    refine br_split (fun g => ?_) (fun g => k69 _ ⟨fun q => absurd q (by decide), fun q => by omega⟩)
    obtain ⟨p, hp, hIt⟩ := rowV_itm (h1.ext eW) (i := t) (by omega)
    refine hp _ ⟨_, hIt.k, k69 _ ?_⟩
    rw [decide_eq_true_iff]
    exact ⟨fun q => ⟨by omega, q⟩, fun q => q.2⟩
end
end Go.Proofs
namespace Go.Proofs
open Go Go.Sh Go.RowKit
/- lists of breaks; their lines; what they cost -/
def gN (b : List Nat) (i : Nat) : Nat := b.getD i 0
theorem upB_at {l : List It} : ∀ {b : List Nat} {f : Nat}, upB l f b → ∀ i, i < b.length → gN b i ≤ l.length ∧ endsF l (gN b i) = true ∧ (i = 0 → f ≤ gN b i) ∧ (0 < i → gN b (i - 1) < gN b i)
  | [], _, _, i, hi => by simp at hi
  | k :: r, f, ⟨h1, h2, h3, h4⟩, 0, _ => ⟨h2, h3, fun _ => h1, fun q => by omega⟩
  | k :: r, f, ⟨h1, h2, h3, h4⟩, i + 1, hi => by
    obtain ⟨g1, g2, g3, g4⟩ := upB_at h4 i (by simpa using hi)
    refine ⟨g1, g2, fun q => by omega, fun _ => ?_⟩
    cases i with
    | zero =>
      have := g3 rfl
      show k < gN r 0
      omega
    | succ i => exact g4 (by omega)
theorem upB_of {l : List It} : ∀ {b : List Nat} {f : Nat}, (∀ i, i < b.length → gN b i ≤ l.length ∧ endsF l (gN b i) = true ∧ (i = 0 → f ≤ gN b i) ∧ (0 < i → gN b (i - 1) < gN b i)) → upB l f b
  | [], _, _ => trivial
  | k :: r, f, h => by
    obtain ⟨h1, h2, h3, _⟩ := h 0 (by simp)
    refine ⟨h3 rfl, h1, h2, upB_of fun i hi => ?_⟩
    obtain ⟨g1, g2, g3, g4⟩ := h (i + 1) (by simpa using hi)
    refine ⟨g1, g2, fun q => ?_, fun q => ?_⟩
    · subst q
      have : k < gN r 0 := g4 (by omega)
      omega
    · have := g4 (by omega)
      rw [show i + 1 - 1 = (i - 1) + 1 by omega] at this
      exact this
def ofN (b : List Nat) : List Int := b.map fun k : Nat => (k : Int)
theorem ofN_get {b : List Nat} {i : Nat} (h : i < b.length) : (ofN b)[i]'(by unfold ofN; rw [List.length_map]; exact h) = (gN b i : Int) := by
  unfold ofN gN
  rw [List.getElem_map, List.getD_eq_getElem?_getD, List.getElem?_eq_getElem h]; rfl
def BrokI (l : List It) (B : List Int) : Prop := ∃ b, B = ofN b ∧ Brok l b
structure Ln where
  f : Nat
  t : Nat
  bad : Int
  ch : Int
  tx : List UInt8
def encLn : Enc Ln := ⟨fun x => [.int .i64 x.f, .int .i64 x.t, .int .i64 x.bad, .int .i64 x.ch, .string ⟨⟨x.tx⟩⟩], 5, fun _ => rfl, by decide, by intro x v hv; simp only [List.mem_cons, List.not_mem_nil, or_false] at hv; rcases hv with rfl | rfl | rfl | rfl | rfl <;> rfl⟩
def lnOf (l : List It) (width : Int) (f k : Nat) : Ln := ⟨beginF l f k, k, (fitF l width (msF l f k) k).1, (fitF l width (msF l f k) k).2.1, lineT l f k⟩
def lnsB (l : List It) (width : Int) : Nat → List Nat → List Ln
  | _, [] => []
  | f, k :: r => lnOf l width f k :: lnsB l width (k + 1) r
def sumLn (l : List It) : List Ln → Int
  | [] => 0
  | x :: r => (x.bad + penF l x.t) + sumLn l r
theorem sumLn_cost (l : List It) (width : Int) : ∀ (b : List Nat) (f : Nat), sumLn l (lnsB l width f b) = costB l width f b
  | [], _ => rfl
  | k :: r, f => by
    show ((fitF l width (msF l f k) k).1 + penF l k) + sumLn l (lnsB l width (k + 1) r) = ((fitF l width (msF l f k) k).1 + penF l k) + costB l width (k + 1) r
    rw [sumLn_cost l width r (k + 1)]
theorem lnsB_len (l : List It) (width : Int) : ∀ (b : List Nat) (f : Nat), (lnsB l width f b).length = b.length
  | [], _ => rfl
  | k :: r, f => by rw [lnsB, List.length_cons, lnsB_len l width r, List.length_cons]
theorem upB_len {l : List It} : ∀ {b : List Nat} {f : Nat}, upB l f b → b.length + f ≤ l.length + 1 ∨ b = []
  | [], _, _ => .inr rfl
  | k :: r, f, ⟨h1, h2, _, h4⟩ => by
    left
    rcases upB_len h4 with h | h
    · rw [List.length_cons]; omega
    · subst h; simp; omega
theorem its_pen {l : List It} (hI : Its l) : itsOk l := fun x hx => by
  have := (hI.ok x hx).pen
  omega
section
variable {R : Ending → World → Prop} {S S2 : Nat → Prop} {w : World} {a a2 : Option Addr} {n c n2 c2 : Nat} {l : List It} {B : List Int}
theorem broken_spec (h1 : RowV vIt S w a n l) (hI : Its l) (h2 : RowV vI S2 w a2 n2 B) (hs : n2 ≤ 1000000000) (h : ∀ v : Bool, (v = true ↔ BrokI l B) → R (.returned (.bool v)) w) :
    Calls Tryz.prog F_paragraph_broken ⟨[.slice a n c, .slice a2 n2 c2]⟩ w R := by
  apply c_paragraph_broken
  have hn := h1.1
  have hn2 := h2.1
  have hlen := hI.len
  have no : ¬ BrokI l B → R (.returned (.bool false)) w := fun q => h false ⟨fun r => absurd r (by decide), fun r => absurd r q⟩
  intro K3 hK3
  -- what a list of breaks says of a place
  have at_ : BrokI l B → ∀ i (hi : i < B.length), 0 ≤ B[i] ∧ B[i] ≤ l.length ∧ endsF l B[i].toNat = true ∧ (0 < i → B[i - 1]'(by omega) < B[i]) := by
    rintro ⟨b, rfl, hb⟩ i hi
    have hi' : i < b.length := by unfold ofN at hi; rw [List.length_map] at hi; exact hi
    obtain ⟨g1, g2, _, g4⟩ := upB_at hb.up i hi'
    rw [ofN_get hi']
    refine ⟨by omega, by omega, by rw [Int.toNat_natCast]; exact g2, fun q => ?_⟩
    rw [ofN_get (by omega : i - 1 < b.length)]
    have := g4 q
    omega
  have k3 : B ≠ [] → (∀ hne : 0 < B.length, B[B.length - 1]'(by omega) = l.length) → K3 w := by
    intro hne hlast
    have hpos : 0 < B.length := List.length_pos_iff.2 hne
    refine hK3 w fun _ => ?_
    refine ⟨fun i W m => ∃ k : Nat, i = k ∧ k ≤ n2 ∧ m = n2 - k ∧ W = w ∧ (∀ j (hj : j < B.length), j < k → 0 ≤ B[j] ∧ B[j] ≤ l.length ∧ endsF l B[j].toNat = true ∧ (0 < j → B[j - 1]'(by omega) < B[j])), ⟨_, 0, rfl, by omega, rfl, rfl, fun j _ hj => by omega⟩, ?_⟩
    rintro _ W m ⟨k, rfl, hk, rfl, rfl, hall⟩ _
    refine br_split (fun hlt => ?_) (fun hge => ?_)
    · have hkB : k < B.length := by omega
      obtain ⟨p, hp, d⟩ := h2.int hkB
      refine hp _ ⟨_, d, br_split (fun g => no fun q => by have := (at_ q k hkB).1; omega) (fun g1 => br_split (fun g => no fun q => by have := (at_ q k hkB).2.1; omega) (fun g2 => ?_))⟩
      have hcast : B[k] = ((B[k].toNat : Nat) : Int) := by omega
      have next : endsF l B[k].toNat = true → (0 < k → B[k - 1]'(by omega) < B[k]) → ∃ m17 : Nat, m17 < n2 - k ∧ ∃ k' : Nat, IntKind.i64.wrap ((k : Int) + 1) = k' ∧ k' ≤ n2 ∧ m17 = n2 - k' ∧ W = W ∧ (∀ j (hj : j < B.length), j < k' → 0 ≤ B[j] ∧ B[j] ≤ l.length ∧ endsF l B[j].toNat = true ∧ (0 < j → B[j - 1]'(by omega) < B[j])) := fun q1 q2 =>
        ⟨n2 - (k + 1), by omega, k + 1, by rw [wrap_nat (by omega)], by omega, rfl, rfl, fun j hj hjk => by
          by_cases e : j = k
          · subst e; exact ⟨by omega, by omega, q1, q2⟩
          · exact hall j hj (by omega)⟩
      have hb31 : B[k].toNat ≤ l.length := by omega
      refine br_split (fun g3 => ?_) (fun g3 => ?_)
      · obtain ⟨p2, hp2, d2⟩ := h2.int (k := k - 1) (by omega)
        rw [wrap_id (by omega), show (k : Int) - 1 = ((k - 1 : Nat) : Int) by omega]
        refine hp2 _ ⟨_, d2, br_split (fun g => no fun q => by have := (at_ q k hkB).2.2.2 (by omega); omega) (fun g4 => ?_)⟩
        rw [hcast]
        refine ends_spec h1 hb31 (by omega) ⟨_, rfl, br_cases (fun g5 => no fun q => ?_) (fun g5 => next ?_ fun _ => by omega)⟩
        · have := (at_ q k hkB).2.2.1
          rw [this] at g5; cases g5
        · cases hx : endsF l B[k].toNat with
          | true => rfl
          | false => rw [hx] at g5; cases g5
      · rw [hcast]
        refine ends_spec h1 hb31 (by omega) ⟨_, rfl, br_cases (fun g5 => no fun q => ?_) (fun g5 => next ?_ fun q => by omega)⟩
        · have := (at_ q k hkB).2.2.1
          rw [this] at g5; cases g5
        · cases hx : endsF l B[k].toNat with
          | true => rfl
          | false => rw [hx] at g5; cases g5
    · have hkk : k = B.length := by omega
      subst hkk
      have hall := fun j hj => hall j hj hj
      have e0 : B = ofN (B.map Int.toNat) := by
        unfold ofN
        rw [List.map_map]
        conv => lhs; rw [← List.map_id B]
        refine List.map_congr_left fun x hx => ?_
        obtain ⟨i, hi, rfl⟩ := List.mem_iff_getElem.1 hx
        have := (hall i hi).1
        show B[i] = ((B[i].toNat : Nat) : Int)
        omega
      have hg : ∀ i (hi : i < B.length), gN (B.map Int.toNat) i = B[i].toNat := fun i hi => by
        unfold gN
        rw [List.getD_eq_getElem?_getD, List.getElem?_map, List.getElem?_eq_getElem hi]; rfl
      have hup : upB l 0 (B.map Int.toNat) := upB_of fun i hi => by
        rw [List.length_map] at hi
        obtain ⟨q1, q2, q3, q4⟩ := hall i hi
        rw [hg i hi]
        refine ⟨by omega, q3, fun _ => Nat.zero_le _, fun q => ?_⟩
        rw [hg (i - 1) (by omega)]
        have := q4 q
        have := (hall (i - 1) (by omega)).1
        omega
      refine ⟨fun i V m => ∃ k : Nat, i = k ∧ k ≤ l.length ∧ m = l.length - k ∧ V = W ∧ (∀ j, j < k → forcedF l j = true → (j : Int) ∈ B), ⟨_, 0, rfl, by omega, rfl, rfl, fun j hj => by omega⟩, ?_⟩
      rintro _ V m ⟨k, rfl, hk, rfl, rfl, hfo⟩ _
      refine br_split (fun hlt => ?_) (fun hge => ?_)
      · have next : (forcedF l k = true → (k : Int) ∈ B) → ∃ m33 : Nat, m33 < l.length - k ∧ ∃ k' : Nat, IntKind.i64.wrap ((k : Int) + 1) = k' ∧ k' ≤ l.length ∧ m33 = l.length - k' ∧ V = V ∧ (∀ j, j < k' → forcedF l j = true → (j : Int) ∈ B) := fun q =>
          ⟨l.length - (k + 1), by omega, k + 1, by rw [wrap_nat (by omega)], by omega, rfl, rfl, fun j hj => by
            by_cases e : j = k
            · subst e; exact q
            · exact hfo j (by omega)⟩
        refine forced_spec h1 ⟨_, rfl, br_cases (fun g => ?_) (fun g => next fun q => by rw [g] at q; cases q)⟩
        refine ContainsI_spec (k : Int) h2 (by omega) ⟨_, rfl, br_cases (fun g2 => no ?_) (fun g2 => next fun _ => ?_)⟩
        · rintro ⟨b, rfl, hb⟩
          have := hb.forced k g
          rw [decide_eq_true (show (k : Int) ∈ ofN b from List.mem_map.2 ⟨k, this, rfl⟩)] at g2; cases g2
        · refine Decidable.byContradiction fun q => ?_
          rw [decide_eq_false q] at g2; cases g2
      · refine h true ⟨fun _ => ⟨B.map Int.toNat, e0, ⟨fun q => hne (List.map_eq_nil_iff.1 q), ?_, hup, fun i hi => ?_⟩⟩, fun _ => rfl⟩
        · rw [List.getLast?_map, List.getLast?_eq_getElem?, List.getElem?_eq_getElem (by omega : B.length - 1 < B.length)]
          show some (B[B.length - 1].toNat) = _
          rw [hlast hpos, Int.toNat_natCast]
        · have hil : i < l.length := by
            unfold forcedF at hi
            simp only [Bool.and_eq_true, decide_eq_true_eq] at hi
            exact hi.1
          exact List.mem_map.2 ⟨(i : Int), hfo i (by omega) hi, Int.toNat_natCast i⟩
  refine br_split (fun g => no ?_) (fun g => ?_)
  · rintro ⟨b, rfl, hb⟩
    have := hb.ne
    unfold ofN at hn2
    rw [List.length_map] at hn2
    exact this (List.eq_nil_of_length_eq_zero (by omega))
  · have hpos : 0 < B.length := by omega
    obtain ⟨p, hp, d⟩ := h2.int (k := n2 - 1) (by omega)
    rw [wrap_id (by omega), show (n2 : Int) - 1 = ((n2 - 1 : Nat) : Int) by omega]
    have hd : B[n2 - 1]'(by omega) = B[B.length - 1]'(by omega) := by congr 1; omega
    refine hp _ ⟨_, d, br_split (fun g2 => no ?_) (fun g2 => k3 (fun q => by rw [q] at hpos; simp at hpos) fun _ => ?_)⟩
    · rintro ⟨b, rfl, hb⟩
      rw [hn] at g2
      apply g2
      have hl := hb.last
      have hbl : (ofN b).length = b.length := by unfold ofN; rw [List.length_map]
      rw [hd, ofN_get (by omega : (ofN b).length - 1 < b.length)]
      rw [List.getLast?_eq_getElem?] at hl
      unfold gN
      rw [List.getD_eq_getElem?_getD, hbl, hl]; rfl
    · rw [← hd]
      have := Decidable.not_not.1 g2
      omega
end
end Go.Proofs
namespace Go.Proofs
open Go Go.Sh Go.RowKit
/- Lines, Cost -/
abbrev vLn : View Ln := View.enc encLn
abbrev Ln.cs (x : Ln) : List Value := [.int .i64 x.f, .int .i64 x.t, .int .i64 x.bad, .int .i64 x.ch, .string ⟨⟨x.tx⟩⟩]
theorem slT_ln : SlT Tryz.prog 46 53 5 48 (.agg ⟨[.int .i64 0, .int .i64 0, .int .i64 0, .int .i64 0, .string ⟨⟨[]⟩⟩]⟩) := ⟨by kernel_rfl, by kernel_rfl, rfl, by decide⟩
theorem one_ln (x : Ln) : ∀ v ∈ x.cs, v.oneCell' = true := by
  intro v hv
  simp only [List.mem_cons, List.not_mem_nil, or_false] at hv
  rcases hv with rfl | rfl | rfl | rfl | rfl <;> rfl
structure GoodB (l : List It) (width : Int) (b : List Nat) : Prop where
  brok : Brok l b
  fits : fitsB l width 0 b = true
theorem ofN_inj : ∀ {b b' : List Nat}, ofN b = ofN b' → b = b'
  | [], [], _ => rfl
  | [], _ :: _, h => by cases h
  | _ :: _, [], h => by cases h
  | x :: b, y :: b', h => by
    have h : (x : Int) :: ofN b = (y : Int) :: ofN b' := h
    rw [List.cons.injEq] at h
    rw [ofN_inj h.2]
    congr 1; omega
theorem drop_cons {b : List Nat} {k : Nat} (h : k < b.length) : b.drop k = gN b k :: b.drop (k + 1) := by
  rw [List.drop_eq_getElem_cons h]
  unfold gN
  rw [List.getD_eq_getElem?_getD, List.getElem?_eq_getElem h]; rfl
theorem lnsB_mem {l : List It} {width : Int} : ∀ {b : List Nat} {f : Nat} {x : Ln}, x ∈ lnsB l width f b → (0 ≤ x.bad ∧ x.bad ≤ 10000)
  | [], _, _, h => by cases h
  | k :: r, f, x, h => by
    rcases List.mem_cons.1 h with rfl | h
    · exact fitF_nn l width (msF l f k) k
    · exact lnsB_mem h
section
variable {R : Ending → World → Prop} {S S2 : Nat → Prop} {w : World} {a a2 : Option Addr} {n c n2 c2 : Nat} {l : List It} {B : List Int}
theorem Lines_spec {width : Int} (h1 : RowV vIt S w a n l) (hcap : n ≤ c) (hT : txB l) (h2 : RowV vI S2 w a2 n2 B) (hs : n2 ≤ 1000000)
    (h : ∀ (e : Int) (a' : Option Addr) (n' c' : Nat) w', Ext w w' → (e = 0 ↔ (chkW l width ∧ ∃ b, B = ofN b ∧ GoodB l width b)) → (∀ b, e = 0 → B = ofN b → RowV vLn (fun _ => True) w' a' n' (lnsB l width 0 b)) → R (.returned (.tuple ⟨[.slice a' n' c', .int .i64 e]⟩)) w') :
    Calls Tryz.prog F_paragraph_Lines ⟨[.slice a n c, .int .i64 width, .slice a2 n2 c2]⟩ w R := by
  apply c_paragraph_Lines
  have hn2 := h2.1
  refine pcheck_spec h1 fun e w5 e5 he => ⟨_, rfl, br_split (fun g => h _ _ _ _ _ e5 ⟨fun q => absurd q g, fun q => absurd (he.2 q.1) g⟩ (fun b q => absurd q g)) (fun g => ?_)⟩
  have hW := he.1 (Decidable.not_not.1 g)
  have no : ∀ (e : Int) V, Ext w V → e ≠ 0 → (∀ b, B = ofN b → ¬ GoodB l width b) → R (.returned (.tuple ⟨[.slice none 0 0, .int .i64 e]⟩)) V := fun e V eV hne hno =>
    h e none 0 0 V eV ⟨fun q => absurd q hne, fun q => by obtain ⟨_, b, q1, q2⟩ := q; exact absurd q2 (hno b q1)⟩ fun b q => absurd q hne
  refine broken_spec (h1.ext e5) hW.1 (h2.ext e5) (by omega) fun v hv => ⟨_, rfl, br_cases (fun g2 => no _ _ e5 (by decide) fun b hb hg => ?_) (fun g2 => ?_)⟩
  · rw [hv.2 ⟨b, hb, hg.brok⟩] at g2; cases g2
  have hv' : v = true := by
    cases v with
    | true => rfl
    | false => cases g2
  obtain ⟨b, rfl, hb⟩ := hv.1 hv'
  have hbn : (ofN b).length = b.length := by unfold ofN; rw [List.length_map]
  refine ⟨fun oa on oc fr i W m => ∃ (k f : Nat) (O : List Ln), i = k ∧ fr = f ∧ k ≤ b.length ∧ m = b.length - k ∧ O.length = k ∧ lnsB l width 0 b = O ++ lnsB l width f (b.drop k) ∧ fitsB l width 0 b = fitsB l width f (b.drop k) ∧ upB l f (b.drop k) ∧ OwnL encLn W w.heap.size 53 oa on oc O ∧ Ext w W,
    ⟨_, 0, 0, [], rfl, rfl, Nat.zero_le _, rfl, rfl, rfl, rfl, hb.up, Owns.nil w5 w.heap.size 53 5, e5⟩, ?_⟩
  rintro oa on oc _ _ W m ⟨k, f, O, rfl, rfl, hk, rfl, hO, hln, hfi, hup, hOw, eW⟩ _
  have zW := eW.size
  have hon : O.length = on := OwnL.length hOw
  refine br_split (fun hlt => ?_) (fun hge => ?_)
  · have hkb : k < b.length := by omega
    obtain ⟨p, hp, d⟩ := (h2.ext eW).int (k := k) (by omega)
    rw [ofN_get hkb] at d
    rw [drop_cons hkb] at hln hfi hup
    obtain ⟨u1, u2, u3, u4⟩ := hup
    refine hp _ ⟨_, d, line_spec (h1.ext eW) hcap hW.1 hT hW.2 u1 u2 fun w20 e20 => ⟨_, _, _, _, _, _, rfl, ?_⟩⟩
    have e020 := ext_trans eW e20
    refine al_stL rfl (one_ln (lnOf l width f (gN b k))) fun b27 w29 hb27 B27 e27 s27 => ?_
    have e029 := ext_trans e020 e27
    rw [fitsB] at hfi
    refine br_cases (fun g3 => no _ _ e029 (by decide) fun b' hb' hg => ?_) (fun g3 => ?_)
    · have := ofN_inj hb'
      subst this
      have hff := hg.fits
      rw [hfi, Bool.and_eq_true] at hff
      rw [hff.1] at g3; cases g3
    · have hft : fitL l width f (gN b k) = true := by
        cases hx : fitL l width f (gN b k) with
        | true => rfl
        | false => rw [hx] at g3; cases g3
      rw [hft, Bool.true_and] at hfi
      have B27 : Blk w29 b27 (lnOf l width f (gN b k)).cs 53 := B27
      refine ⟨_, bat B27 rfl, _, bat B27 rfl, _, bat B27 rfl, _, bat B27 rfl, _, bat B27 rfl, ?_⟩
      have z29 := e029.size
      refine OwnL.push (E := encLn) slT_ln (Owns.ext (Owns.ext hOw e20) e27) z29 (lnOf l width f (gN b k)) (by omega) (by omega) fun a' c' w38 ho hcc hn' => ?_
      refine ⟨b.length - (k + 1), by omega, k + 1, gN b k + 1, _, by rw [wrap_nat (by omega)], by rw [wrap_nat (by have := hW.1.len; omega)], by omega, rfl, by rw [List.length_append, hO]; rfl, ?_, hfi, u4, ho, ext_own e029 hcc fun j hj => (Owns.bk hOw hj).1⟩
      rw [hln, lnsB, List.append_assoc]; rfl
  · have hkk : k = b.length := by omega
    subst hkk
    rw [List.drop_length] at hln hfi
    refine h 0 oa on oc W eW ⟨fun _ => ⟨hW, b, rfl, hb, by rw [hfi]; rfl⟩, fun _ => rfl⟩ fun b' _ hb' => ?_
    have := ofN_inj hb'
    subst this
    rw [hln, lnsB, List.append_nil]
    exact (rowV_enc.2 (OwnL.out hOw)).imp fun _ _ _ => trivial
theorem Cost_spec {width : Int} (h1 : RowV vIt S w a n l) (hcap : n ≤ c) (hT : txB l) (h2 : RowV vI S2 w a2 n2 B) (hs : n2 ≤ 1000000)
    (h : ∀ (e v : Int) w', Ext w w' → (e = 0 ↔ (chkW l width ∧ ∃ b, B = ofN b ∧ GoodB l width b)) → (∀ b, e = 0 → B = ofN b → v = costB l width 0 b) → R (.returned (.tuple ⟨[.int .i64 v, .int .i64 e]⟩)) w') :
    Calls Tryz.prog F_paragraph_Cost ⟨[.slice a n c, .int .i64 width, .slice a2 n2 c2]⟩ w R := by
  apply c_paragraph_Cost
  have hn2 := h2.1
  refine Lines_spec h1 hcap hT h2 hs fun e a' n' c' w5 e5 he hr => ⟨_, _, _, _, rfl, br_split (fun g => h _ _ _ e5 he fun b q => absurd q g) (fun g => ?_)⟩
  have he0 := Decidable.not_not.1 g
  subst he0
  obtain ⟨hW, b, rfl, hg⟩ := he.1 rfl
  have hrow := hr b rfl rfl
  have hrn := hrow.1
  have hbn : (ofN b).length = b.length := by unfold ofN; rw [List.length_map]
  rw [lnsB_len] at hrn
  have hpen := its_pen hW.1
  refine ⟨fun s i W m => ∃ k : Nat, i = k ∧ k ≤ b.length ∧ m = b.length - k ∧ (0 ≤ s ∧ s ≤ 20000 * k) ∧ costB l width 0 b = s + sumLn l ((lnsB l width 0 b).drop k) ∧ Ext w5 W, ⟨_, 0, rfl, Nat.zero_le _, rfl, ⟨Int.le_refl _, by decide⟩, by rw [List.drop_zero, sumLn_cost]; omega, Below.refl _ _⟩, ?_⟩
  rintro s _ W m ⟨k, rfl, hk, rfl, hs1, hsum, e5W⟩ _
  have eW := ext_trans e5 e5W
  refine br_split (fun hlt => ?_) (fun hge => ?_)
  · have hkl : k < (lnsB l width 0 b).length := by rw [lnsB_len]; omega
    obtain ⟨b', o', us, hp, _, _, hus, hd⟩ := (hrow.ext e5W).get (List.getElem?_eq_getElem hkl)
    have hus : us = ((lnsB l width 0 b)[k]).cs := hus
    have hbad := lnsB_mem (List.getElem_mem hkl)
    rw [List.drop_eq_getElem_cons hkl, sumLn] at hsum
    generalize (lnsB l width 0 b)[k] = x at *
    subst hus
    refine hp _ ⟨_, by rw [add_none]; exact hd 0 _ rfl, _, by rw [add_none]; exact hd 1 _ rfl, _, by rw [add_none]; exact hd 2 _ rfl, _, by rw [add_none]; exact hd 3 _ rfl, _, by rw [add_none]; exact hd 4 _ rfl, ?_⟩
    refine al_stL rfl (one_ln x) fun b20 w22 hb20 B20 e22 s22 => ?_
    unfold drw
    have ed := ext_drew w22
    have B20 : Blk w22.drew b20 x.cs 53 := B20.ext ed
    have e523 := ext_trans e5W (ext_trans e22 ed)
    generalize w22.drew = w23 at *
    have hpn := penF_nn hpen x.t
    have h1' := h1.ext (ext_trans e5 e523)
    have fin : ∃ m29 : Nat, m29 < b.length - k ∧ ∃ k' : Nat, IntKind.i64.wrap ((k : Int) + 1) = k' ∧ k' ≤ b.length ∧ m29 = b.length - k' ∧ (0 ≤ IntKind.i64.wrap (s + IntKind.i64.wrap (x.bad + penF l x.t)) ∧ IntKind.i64.wrap (s + IntKind.i64.wrap (x.bad + penF l x.t)) ≤ 20000 * k') ∧ costB l width 0 b = IntKind.i64.wrap (s + IntKind.i64.wrap (x.bad + penF l x.t)) + sumLn l ((lnsB l width 0 b).drop k') ∧ Ext w5 w23 := by
      rw [wrap_id (n := x.bad + penF l x.t) (by omega), wrap_id (n := s + (x.bad + penF l x.t)) (by omega)]
      exact ⟨b.length - (k + 1), by omega, k + 1, by rw [wrap_nat (by omega)], by omega, rfl, by omega, by rw [hsum]; omega, e523⟩
    refine ⟨_, bat B20 rfl, ⟨_, bat B20 rfl, penalty_spec h1' ⟨_, rfl, fin⟩, trivial⟩, penalty_spec h1' ⟨_, rfl, _, bat B20 rfl, fin⟩, trivial⟩
  · have hkk : k = b.length := by omega
    rw [List.drop_of_length_le (by rw [lnsB_len]; omega)] at hsum
    exact h _ _ _ eW he fun b' _ hb' => by rw [← ofN_inj hb', hsum]; show s = s + 0; omega
end
end Go.Proofs
namespace Go.Sh
open Go Go.RowKit

/- appending a row that stands in a block of its own to a slice variable; the new element and the variable are laid in either order -/
theorem app_cap2 {P : Program} {t ty e : TypeId} {size bytes : Nat} {z : Value} (hT : SlT P t e size bytes z) {B : Nat} {a : Option Addr} {n c : Nat} {xs : List Value} {w : World} {b bz : Nat} {Tv Tz : TypeId}
    (hown : Owns w B e size a n c xs) (hB : B ≤ w.heap.size) (hb : Blk w b [.slice a n c] Tv) (hnb : ¬ Sh.bk a b) (zc vs : List Value) (hbz : Blk w bz zc Tz) (hzc : zc.length = size) (hz1 : ∀ u ∈ zc, u.oneCell' = true) (hvs : vs.length = size) (hv1 : ∀ u ∈ vs, u.oneCell' = true)
    (hlen : n + 1 ≤ 4611686018427387904) (hbytes : (n + 1) * bytes ≤ 140737488355328) {K : World → Prop}
    (hk : ∀ a' c' w', Blk w' b [.slice a' (n + 1) c'] Tv → Owns w' B e size a' (n + 1) c' (xs ++ vs) → Chg (fun k => k = b ∨ Sh.bk a k) w w' → (∀ k, Sh.bk a' k → Sh.bk a k ∨ w.heap.size ≤ k) → K w') :
    app P [t, t] ty (.slice a n c) (.slice (some ⟨bz, 0, none⟩) 1 1) w fun a' n' c' w2 => idx a' n' (n : Int) size fun q =>
      (stL w2 q 0 vs fun w3 => (stL w3 ⟨b, 0, none⟩ 0 [.slice a' n' c'] fun w4 => K w4) ∧ True) ∧
      (stL w2 ⟨b, 0, none⟩ 0 [.slice a' n' c'] fun w3 => (stL w3 q 0 vs fun w4 => K w4) ∧ True) ∧ True := by
  refine app_own2 hT hown hB (S := fun _ => True) zc (by rw [hzc, Nat.one_mul]) (.inr ⟨bz, 0, rfl, trivial, hbz.lt, fun j v hj => by rw [Nat.zero_add, hbz.cell]; exact hj⟩) hz1 hlen hbytes fun a' c' w2 ho hc hn => ?_
  have l := hb.lt
  have hb2 : Blk w2 b [.slice a n c] Tv := hc.blk hb hnb
  have nb' : ¬ Sh.bk a' b := fun hh => (hn b hh).elim hnb (by omega)
  obtain ⟨g, ha, hidx, hst⟩ := ho.storeLast (vs := vs) hzc hvs hv1
  have sub : ∀ k, k < w.heap.size → Sh.bk a' k → Sh.bk a k := fun k hk hb' => (hn k hb').elim id (by omega)
  have tot : ∀ {S1 S2 : Nat → Prop} {w3 w4 : World}, Chg S1 w2 w3 → Chg S2 w3 w4 → (∀ k, S1 k → k = b ∨ Sh.bk a' k) → (∀ k, S2 k → k = b ∨ Sh.bk a' k) → Chg (fun k => k = b ∨ Sh.bk a k) w w4 := by
    intro S1 S2 w3 w4 c3 c4 h3 h4
    have z := hc.size
    have z3 := c3.size
    refine ⟨c4.os.trans (c3.os.trans hc.os), c4.tape.trans (c3.tape.trans hc.tape), c4.output.trans (c3.output.trans hc.output), Nat.le_trans z (Nat.le_trans z3 c4.size), fun k hk hn' => ?_⟩
    have no : ¬ (k = b ∨ Sh.bk a' k) := fun hh => hn' (hh.imp id (sub k hk))
    exact (c4.block k (by omega) fun hh => no (h4 k hh)).trans ((c3.block k (by omega) fun hh => no (h3 k hh)).trans (hc.block k hk fun hh => hn' (.inr hh)))
  refine hidx _ ⟨?_, ?_, trivial⟩
  · refine hst _ fun w3 ho3 hc3 z3 => ⟨?_, trivial⟩
    refine stL_blk (cs := [.slice a n c]) (T := Tv) (hc3.blk hb2 nb') (by simp) (by intro u hu; simp only [List.mem_singleton] at hu; subst hu; rfl) fun w4 b1 b2 b3 b4 b5 b6 => ?_
    have hc4 : Chg (fun k => k = b) w3 w4 := ⟨b4, b5, b6, by omega, fun k' _ hk => b2 k' hk⟩
    exact hk a' c' w4 b1 (ho3.chg hc4 fun k hk he => nb' (he ▸ hk)) (tot hc3 hc4 (fun k h => .inr h) fun k h => .inl h) hn
  · refine stL_blk (cs := [.slice a n c]) (T := Tv) hb2 (by simp) (by intro u hu; simp only [List.mem_singleton] at hu; subst hu; rfl) fun w3 b1 b2 b3 b4 b5 b6 => ⟨?_, trivial⟩
    have hc3 : Chg (fun k => k = b) w2 w3 := ⟨b4, b5, b6, by omega, fun k' _ hk => b2 k' hk⟩
    obtain ⟨g', ha', _, hst'⟩ := (ho.chg hc3 fun k hk he => nb' (he ▸ hk)).storeLast (vs := vs) hzc hvs hv1
    obtain rfl : g' = g := by rw [ha] at ha'; simpa using ha'.symm
    refine hst' _ fun w4 ho4 hc4 z4 => ?_
    exact hk a' c' w4 (hc4.blk b1 nb') ho4 (tot hc3 hc4 (fun k h => .inl h) fun k h => .inr h) hn

/- a list of nodes under way in a variable, its blocks named: S: what it may share, O: its own -/
def OwnG (e : TypeId) (S O : Nat → Prop) (B : Nat) (w : World) (a : Option Addr) (n c : Nat) (f : Fo) : Prop :=
  n = f.len ∧ (∀ k, bk a k → O k) ∧ (∀ k, O k → B ≤ k ∧ k < w.heap.size) ∧ ∃ xs, Owns w B e 4 a n c xs ∧ FoC (fun k => (S k ∨ O k) ∧ ¬ bk a k) w f xs
section
variable {S O : Nat → Prop} {w w' : World} {e : TypeId} {B : Nat} {a : Option Addr} {n c : Nat} {f : Fo}
theorem OwnG.nil (w : World) : OwnG e S (fun _ => False) B w none 0 0 .nil := ⟨rfl, fun k h => by simp [bk] at h, fun k h => h.elim, [], Owns.nil w B e 4, rfl⟩
theorem OwnG.len (h : OwnG e S O B w a n c f) : n = f.len := h.1
theorem OwnG.own (h : OwnG e S O B w a n c f) {k : Nat} (hk : O k) : B ≤ k ∧ k < w.heap.size := h.2.2.1 k hk
theorem OwnG.bk (h : OwnG e S O B w a n c f) {k : Nat} (hk : Sh.bk a k) : O k := h.2.1 k hk
theorem OwnG.chg {T : Nat → Prop} (h : OwnG e S O B w a n c f) (hc : Chg T w w') (hT : ∀ k, T k → k < w.heap.size → ¬ S k ∧ ¬ O k) : OwnG e S O B w' a n c f := by
  obtain ⟨h0, h1, h2, xs, h3, h4⟩ := h
  have z := hc.size
  refine ⟨h0, h1, fun k hk => ⟨(h2 k hk).1, by have := (h2 k hk).2; omega⟩, xs, ?_, h4.keep (fun k hk hl => ⟨hk, hc.block k hl fun ht => ?_⟩) z⟩
  · have h3' := Owns.chg (S := fun k => T k ∧ k < w.heap.size) h3 ⟨hc.os, hc.tape, hc.output, hc.size, fun k hk hn => hc.block k hk fun ht => hn ⟨ht, hk⟩⟩ fun k hk ht => (hT k ht.1 ht.2).2 (h1 k hk)
    exact h3'
  · rcases hk.1 with hh | hh
    · exact (hT k ht hl).1 hh
    · exact (hT k ht hl).2 hh
theorem OwnG.ext (h : OwnG e S O B w a n c f) (hc : Ext w w') : OwnG e S O B w' a n c f := h.chg (T := fun _ => False) (.of_ext hc) fun k h _ => h.elim
theorem OwnG.out (h : OwnG e S O B w a n c f) : SlF (fun k => S k ∨ O k) w a n f := by
  obtain ⟨h0, h1, h2, xs, h3, h4⟩ := h
  refine ⟨h0, xs, ?_, h4.keep (fun k hk _ => ⟨hk.1, rfl⟩) (Nat.le_refl _)⟩
  by_cases hn : 0 < n
  · obtain ⟨g, rfl, hg, hc⟩ := h3.cell hn
    exact .inr ⟨g, 0, rfl, .inr (h1 g (by simp [Sh.bk])), (h3.bk (by simp [Sh.bk])).2, fun j v hj => by rw [Nat.zero_add]; exact hc j v hj⟩
  · have hx : xs = [] := List.eq_nil_of_length_eq_zero (by rw [h3.len]; omega)
    exact .inl hx
/- one more node, out of a block that holds zeros -/
theorem OwnG.push {P : Program} {t ty : TypeId} {bytes : Nat} {z : Value} (hT : SlT P t e 4 bytes z) (h : OwnG e S O B w a n c f) (hB : B ≤ w.heap.size) {b bz : Nat} {Tv Tz : TypeId} {zc : List Value} (hb : Blk w b [.slice a n c] Tv) (hnb : ¬ O b)
    (hbz : Blk w bz zc Tz) (hzc : zc.length = 4) (hz1 : ∀ u ∈ zc, u.oneCell' = true) {k : Int} {s : List UInt8} {m : Int} {a' : Option Addr} {c' : Nat} {ps : Fo} {O2 : Nat → Prop}
    (hps : SlF (fun k => S k ∨ O2 k) w a' ps.len ps) (hO2 : ∀ k, O2 k → (B ≤ k ∧ k < w.heap.size) ∧ k ≠ b ∧ ¬ Sh.bk a k) (hSB : ∀ k, S k → k < B) (hlen : n + 1 ≤ 4611686018427387904) (hbytes : (n + 1) * bytes ≤ 140737488355328) (hBb : B ≤ b) {K : World → Prop}
    (hk : ∀ a'' n'' c'' w' (O' : Nat → Prop), Blk w' b [.slice a'' n'' c''] Tv → OwnG e S O' B w' a'' n'' c'' (f.app (.one k s m ps)) → Chg (fun j => j = b ∨ O j) w w' → (∀ j, O' j → O j ∨ O2 j ∨ (w.heap.size ≤ j ∧ j < w'.heap.size)) → K w') :
    app P [t, t] ty (.slice a n c) (.slice (some ⟨bz, 0, none⟩) 1 1) w fun a1 n1 c1 w2 => idx a1 n1 (n : Int) 4 fun q =>
      (stL w2 q 0 [.int .i64 k, .string ⟨⟨s⟩⟩, .int .i64 m, .slice a' ps.len c'] fun w3 => (stL w3 ⟨b, 0, none⟩ 0 [.slice a1 n1 c1] fun w4 => K w4) ∧ True) ∧
      (stL w2 ⟨b, 0, none⟩ 0 [.slice a1 n1 c1] fun w3 => (stL w3 q 0 [.int .i64 k, .string ⟨⟨s⟩⟩, .int .i64 m, .slice a' ps.len c'] fun w4 => K w4) ∧ True) ∧ True := by
  obtain ⟨h0, h1, h2, xs, h3, h4⟩ := h
  refine app_cap2 hT h3 hB hb (fun hh => hnb (h1 b hh)) zc [.int .i64 k, .string ⟨⟨s⟩⟩, .int .i64 m, .slice a' ps.len c'] hbz hzc hz1 rfl (by intro u hu; simp only [List.mem_cons, List.not_mem_nil, or_false] at hu; rcases hu with rfl | rfl | rfl | rfl <;> rfl) hlen hbytes
    fun a'' c'' w' hbl ho hc hn => hk a'' _ c'' w' (fun j => O j ∨ O2 j ∨ Sh.bk a'' j) hbl ⟨?_, fun j hj => .inr (.inr hj), fun j hj => ?_, _, ho, ?_⟩ (hc.mono fun j _ hj => hj.imp id (h1 j)) ?_
  · simp [Fo.one]; exact h0
  · have z := hc.size
    rcases hj with hj | hj | hj
    · exact ⟨(h2 j hj).1, by have := (h2 j hj).2; omega⟩
    · exact ⟨(hO2 j hj).1.1, by have := (hO2 j hj).1.2; omega⟩
    · exact ho.bk hj
  · obtain ⟨_, us, g3, g4⟩ := hps
    have na : ∀ j, j < w.heap.size → ¬ Sh.bk a j → ¬ Sh.bk a'' j := fun j hj hb' hh => (hn j hh).elim hb' (by omega)
    have hs : ∀ j, ((S j ∨ O j) ∧ ¬ Sh.bk a j) → j < w.heap.size → ((S j ∨ O j ∨ O2 j ∨ Sh.bk a'' j) ∧ ¬ Sh.bk a'' j) ∧ w'.heap[j]? = w.heap[j]? := fun j hj hl =>
      ⟨⟨hj.1.imp id fun h => .inl h, na j hl hj.2⟩, hc.block j hl fun hh => hh.elim (fun hb' => hj.1.elim (fun hs => by have := hSB j hs; omega) (fun ho => hnb (hb' ▸ ho))) hj.2⟩
    have hs2 : ∀ j, (S j ∨ O2 j) → j < w.heap.size → ((S j ∨ O j ∨ O2 j ∨ Sh.bk a'' j) ∧ ¬ Sh.bk a'' j) ∧ w'.heap[j]? = w.heap[j]? := fun j hj hl => by
      have nb : j ≠ b ∧ ¬ Sh.bk a j := hj.elim (fun h => ⟨by have := hSB j h; omega, fun hh => by have := (h2 j (h1 j hh)).1; have := hSB j h; omega⟩) (fun h => (hO2 j h).2)
      exact ⟨⟨hj.imp id fun h => .inr (.inl h), na j hl nb.2⟩, hc.block j hl fun hh => hh.elim nb.1 nb.2⟩
    exact (h4.keep hs hc.size).app ⟨a', c', us, [], rfl, g3.keep hs2 hc.size, g4.keep hs2 hc.size, rfl⟩
  · intro j hj
    rcases hj with hj | hj | hj
    · exact .inl hj
    · exact .inr (.inl hj)
    · rcases hn j hj with h' | h'
      · exact .inl (h1 j h')
      · exact .inr (.inr ⟨h', (ho.bk hj).2⟩)
end

/- the marks of ranges over functions, that a call lays down when it leaves -/
def marks (Dl : List Nat) : List Deferred := Dl.map fun D => { target := .collected D, args := #[] }
theorem retD_marks {K : World → Prop} : ∀ (Dl : List Nat) (W : World), Dl.Nodup → (∀ D ∈ Dl, W.heap[D]? = some (.deferred (some []))) → (∀ W', Chg (fun k => k ∈ Dl) W W' → K W') → retD (marks Dl) W K
  | [], W, _, _, h => h W (Chg.refl _ _)
  | D :: Dl, W, hn, hD, h => by
    rw [List.nodup_cons] at hn
    refine ⟨D, rfl, hD D (by simp), retD_marks Dl _ hn.2 (fun D' hD' => ?_) fun W' hc => h W' ?_⟩
    · rw [World.putObj_heap_other (fun e : D' = D => hn.1 (by rw [← e]; exact hD'))]; exact hD D' (by simp [hD'])
    · exact (Chg.put W D _ (by simp)).trans (hc.mono fun k _ hk => by simp [hk])
end Go.Sh
namespace Go.Proofs
open Go Go.Sh Go.RowKit
/- potentials -/
theorem leastP_snoc : ∀ (l : List (Int × Int)) (x : Int × Int) (m : Int), leastP (l ++ [x]) m = if 0 ≤ x.2 ∧ (leastP l m < 0 ∨ x.1 + x.2 < leastP l m) then x.1 + x.2 else leastP l m
  | [], x, m => by rw [List.nil_append, leastP, leastP, leastP]
  | y :: l, x, m => by rw [List.cons_append, leastP, leastP_snoc l x, leastP]
theorem leastP_le2 {C : Int} : ∀ {l : List (Int × Int)} {m : Int}, (∀ x ∈ l, x.2 < 0 ∨ x.1 + x.2 ≤ C) → m ≤ C → leastP l m ≤ C
  | [], _, _, h => h
  | x :: l, m, hl, h => by
    rw [leastP]
    refine leastP_le2 (fun y hy => hl y (List.mem_cons_of_mem _ hy)) ?_
    have := hl x (List.mem_cons_self ..)
    split <;> omega
theorem blk_ty {w : World} {b : Nat} {cs cs' : List Value} {T T' : TypeId} (h : Blk w b cs T) (h' : Blk w b cs' T') : T = T' := by
  unfold Blk at h h'
  rw [h] at h'
  simp only [Option.some.injEq, Obj.cells.injEq] at h'
  exact h'.2.1
theorem blk_ne {w : World} {b b' : Nat} {cs cs' : List Value} {T T' : TypeId} (h : Blk w b cs T) (h' : Blk w b' cs' T') (hT : T ≠ T') : b ≠ b' := fun e => hT (blk_ty h (e ▸ h'))
structure DefA (w : World) (W : World) (Dl : List Nat) : Prop where
  nd : Dl.Nodup
  at_ : ∀ D ∈ Dl, w.heap.size ≤ D ∧ D < W.heap.size ∧ W.heap[D]? = some (.deferred (some []))
theorem DefA.ext {w W W' : World} {Dl : List Nat} (h : DefA w W Dl) (he : Ext W W') : DefA w W' Dl :=
  ⟨h.nd, fun D hD => by obtain ⟨h1, h2, h3⟩ := h.at_ D hD; exact ⟨h1, Nat.lt_of_lt_of_le h2 he.size, (he.block D h2).trans h3⟩⟩
theorem DefA.chg {w W W' : World} {Dl : List Nat} {b : Nat} {cs : List Value} {T : TypeId} (h : DefA w W Dl) (hB : Blk W b cs T) (hc : Chg (fun k => k = b) W W') : DefA w W' Dl :=
  ⟨h.nd, fun D hD => by
    obtain ⟨h1, h2, h3⟩ := h.at_ D hD
    refine ⟨h1, Nat.lt_of_lt_of_le h2 hc.size, (hc.block D h2 fun e => ?_).trans h3⟩
    subst e
    have : W.heap[D]? = _ := hB
    rw [this] at h3; cases h3⟩
theorem DefA.cons {w W : World} {Dl : List Nat} {D : Nat} (h : DefA w W Dl) (hD : w.heap.size ≤ D ∧ D < W.heap.size ∧ W.heap[D]? = some (.deferred (some []))) (hn : D ∉ Dl) : DefA w W (D :: Dl) :=
  ⟨List.nodup_cons.2 ⟨hn, h.nd⟩, fun x hx => (List.mem_cons.1 hx).elim (fun e => e ▸ hD) (h.at_ x)⟩
theorem DefA.ne {w W : World} {Dl : List Nat} (h : DefA w W Dl) {b : Nat} {cs : List Value} {T : TypeId} (hB : Blk W b cs T) : ¬ b ∈ Dl := fun hm => by
  have h1 := (h.at_ _ hm).2.2
  rw [show W.heap[_]? = _ from hB] at h1; cases h1
theorem chgT {S S' : Nat → Prop} {A B C : World} (h : Chg S A B) (k : Chg S' B C) (hs : ∀ i, i < A.heap.size → S' i → S i) : Chg S A C :=
  ⟨k.os.trans h.os, k.tape.trans h.tape, k.output.trans h.output, Nat.le_trans h.size k.size, fun i hi hn => (k.block i (Nat.lt_of_lt_of_le hi h.size) (fun hh => hn (hs i hi hh))).trans (h.block i hi hn)⟩
theorem potG_le {l : List It} (hI : itsOk l) (width : Int) : ∀ (n f : Nat), f ≤ l.length → -1 ≤ potG l width n f ∧ potG l width n f ≤ 20000 * n
  | 0, f, _ => by rw [potG]; omega
  | n + 1, f, hf => by
    rw [potG]
    refine ⟨leastP_ge (pairs_nn hI width hf _) (by omega), leastP_le2 (fun y hy => ?_) (by omega)⟩
    obtain ⟨x, hx, rfl⟩ := List.mem_map.1 hy
    have hL := (linesF_iff l width hf x).1 hx
    have h1 := hL.nn hI
    have h2 : behF l.length (potG l width n) x.1 ≤ 20000 * n := by
      unfold behF
      split
      · omega
      · have := hL.hi
        exact (potG_le hI width n (x.1 + 1) (by omega)).2
    right
    show x.2 + behF l.length (potG l width n) x.1 ≤ _
    omega
theorem potL_bd {l : List It} (hI : Its l) (width : Int) {f : Nat} (hf : f ≤ l.length) : -1 ≤ potL l width f ∧ potL l width f ≤ 81940000 := by
  have := potG_le (its_pen hI) width (l.length + 1 - f) f hf
  have := hI.len
  unfold potL
  omega
theorem behF_bd {l : List It} (hI : Its l) (width : Int) {t : Nat} (ht : t ≤ l.length) : -1 ≤ behF l.length (potL l width) t ∧ behF l.length (potL l width) t ≤ 81940000 := by
  unfold behF
  split
  · omega
  · exact potL_bd hI width (by omega)
section
variable {R : Ending → World → Prop} {S S2 : Nat → Prop} {w : World} {a a2 : Option Addr} {n c n2 c2 : Nat} {l : List It}
theorem behind_spec {b k t cc : Nat} {g : Nat → Int} {T : TypeId} (hB : Blk w b (fC (k + 1) fun j => .int .i64 (g j)) T) (hk : k ≤ 1000000) (ht : t ≤ k) (h : R (.returned (.int .i64 (behF k g t))) w) :
    Calls Tryz.prog F_paragraph_behind ⟨[.slice (some ⟨b, 0, none⟩) (k + 1) cc, .int .i64 (t : Int)]⟩ w R := by
  apply c_paragraph_behind
  unfold behF at h
  unfold sh_paragraph_behind
  rw [wrap_id (by omega)]
  refine br_split (fun g1 => ?_) (fun g1 => ?_)
  · rw [if_pos (by omega)] at h; exact h
  · rw [if_neg (by omega)] at h
    rw [wrap_nat (by omega)]
    exact idx_b1 (by omega) ⟨_, by rw [hB.cell, fC_get (by omega)], h⟩
set_option maxHeartbeats 1000000 in
set_option maxRecDepth 20000 in
theorem potentials_spec {width : Int} (h1 : RowV vIt S w a n l) (hI : Its l) (hw : okN width)
    (h : ∀ bo w', Ext w w' → w.heap.size ≤ bo → Blk w' bo (fC (l.length + 1) fun j => .int .i64 (potL l width j)) 3 → R (.returned (.slice (some ⟨bo, 0, none⟩) (l.length + 1) (l.length + 1))) w') :
    Calls Tryz.prog F_paragraph_potentials ⟨[.slice a n c, .int .i64 width]⟩ w R := by
  apply c_paragraph_potentials
  have hn := h1.1
  subst hn
  have hlen := hI.len
  unfold sh_paragraph_potentials
  rw [wrap_nat (by omega), Int.toNat_natCast]
  refine mks_intro (l := l.length + 1) (c := l.length + 1) (Nat.le_refl _) (by omega) fun bo w4 hbo Bo e4 s4 => ?_
  rw [fC_rep] at Bo
  refine al_stL rfl (by intro v hv; simp only [List.mem_singleton] at hv; subst hv; rfl) fun b5 w7 hb5 B5 e5 s5 => ?_
  have e07 := ext_trans e4 e5
  have Bo := Bo.ext e5
  have z7 := e07.size
  refine ⟨fun k ds W m => ∃ (kk : Nat) (Dl : List Nat), k = (kk : Int) - 1 ∧ kk ≤ l.length + 1 ∧ m = kk ∧ ds = marks Dl ∧ DefA w W Dl ∧ Ext w W ∧ Blk W b5 [.slice (some ⟨bo, 0, none⟩) (l.length + 1) (l.length + 1)] 40 ∧
        Blk W bo (fC (l.length + 1) fun j => .int .i64 (if kk ≤ j then potL l width j else 0)) 3,
      ⟨_, l.length + 1, [], by omega, by omega, rfl, rfl, ⟨List.nodup_nil, fun D hD => by cases hD⟩, e07, B5, ?_⟩, ?_⟩
  · rw [fC_congr (g := fun _ => .int .i64 0) fun j hj => by rw [if_neg (by omega)]]
    exact Bo
  rintro _ _ W m ⟨kk, Dl, rfl, hkk, hmm, rfl, hD, eW, C5, Co⟩ _
  subst m
  refine br_split (fun hge => ?_) (fun hlt => ?_)
  · obtain ⟨k0, rfl⟩ : ∃ k0, kk = k0 + 1 := ⟨kk - 1, by omega⟩
    have hk0 : ((k0 + 1 : Nat) : Int) - 1 = (k0 : Int) := by omega
    rw [hk0] at *
    refine al_stL rfl (by intro v hv; simp only [List.mem_singleton] at hv; subst hv; rfl) fun b14 w16 hb14 B14 e16 s16 => ?_
    apply c_paragraph_lines
    refine al_intro fun b4 wa hb4 B4 ea sa => al_intro fun b6 wb hb6 B6 eb sb => al_intro fun b8 w82 hb8 B8 ec sc => ⟨_, _, _, rfl, fun base => ?_⟩
    have eW16 := ext_trans eW e16
    have e1682 := ext_trans ea (ext_trans eb ec)
    have eW82 := ext_trans e16 e1682
    have e082 := ext_trans eW eW82
    have zW := eW.size
    have z16 := e16.size
    have za := ea.size
    have zb := eb.size
    have zc := ec.size
    have lo := Co.lt
    have l5 := C5.lt
    have Co := Co.ext eW82
    have C5 := C5.ext eW82
    have B14 := B14.ext e1682
    have hD := hD.ext eW82
    rw [cd_paragraph_potentials_1]
    have hkl : k0 ≤ l.length := by omega
    refine RFw_lawO anA_paragraph_potentials_1 anB_paragraph_potentials_1 (gf := F_paragraph_lines_1) rfl (by kernel_rfl) (xs := linesF l width k0) (E := LnE) (Rd := fun k => k = b4 ∨ k = b6 ∨ k = b8 ∨ (S k ∧ k < w.heap.size))
      (fun w1 hw1 => ?_) (fun y vs hE => by rw [show vs = _ from hE]; rfl) (by decide) (fun k hk => by rcases hk with rfl | rfl | rfl | hk <;> omega)
      (fun k => k = b14) (fun k hk => ⟨by omega, fun hh => by rcases hh with hh | hh | hh | hh <;> omega⟩)
      (fun pre S1 V => (∀ k, S1 k ↔ k = b14) ∧ Chg (fun k => k = b14) w82 V ∧ Blk V b14 [.int .i64 (leastP (pre.map fun x => (x.2, behF l.length (potL l width) x.1)) (-1))] 3)
      (fun _ _ => False) (fun _ _ => False) ?_ (fun _ _ _ h => h.elim) (fun _ _ _ h => h.elim) ⟨fun k => Iff.rfl, Chg.refl _ _, B14⟩ ?_ ?_ (fun _ _ _ _ _ _ _ h => h.elim) (fun _ _ _ _ _ _ _ h => h.elim)
    · have eq : (fun k => k = b4 ∨ k = b6 ∨ k = b8 ∨ ((S k ∧ k < w.heap.size) ∧ k < w1.heap.size)) = (fun k => k = b4 ∨ k = b6 ∨ k = b8 ∨ (S k ∧ k < w.heap.size)) := by
        funext k
        have := hw1.size
        have := e082.size
        exact propext ⟨fun hh => hh.imp id (fun q => q.imp id (fun q => q.imp id (fun t => t.1))), fun hh => hh.imp id (fun q => q.imp id (fun q => q.imp id (fun t => ⟨t, by omega⟩)))⟩
      have := lines_iterO (w := w1) (S := fun k => S k ∧ k < w.heap.size) (((h1.imp (S' := fun k => S k ∧ k < w.heap.size) fun k hk hl => ⟨hk, hl⟩).ext e082).ext hw1) hI hw hkl ((B4.ext (ext_trans eb ec)).ext hw1) (B8.ext hw1) ((B6.ext ec).ext hw1)
      rw [eq] at this; exact this
    · rintro pre S1 V V' ⟨i1, i2, i3⟩ hc
      refine ⟨i1, chgT i2 hc fun k hk hh => by omega, hc.blk i3 fun hh => hh.2 ((i1 _).2 rfl)⟩
    · rintro pre x vs S1 V L hE hpre hl1 hl2 hl3 hS1 ⟨i1, i2, i3⟩
      obtain rfl : vs = [.int .i64 x.1, .int .i64 x.2] := hE
      have hxm : x ∈ linesF l width k0 := mem_of_prefix hpre
      have hL := (linesF_iff l width hkl x).1 hxm
      have hnn := hL.nn (its_pen hI)
      refine Eq.mpr (er_paragraph_potentials_1 base _ _ _ _ _ _ _ _ _ _ _ _ _ _ _ _ _ _ _ _) ?_
      refine ⟨Below.refl _ _, fun V2 hU => ?_⟩
      have zU := hU.size
      have hUc : Chg (fun k => k = L) V V2 := ⟨hU.os, hU.tape, hU.output, by omega, fun k _ hk => hU.block k hk⟩
      have zi := i2.size
      have c2 : Chg (fun k => k = b14) w82 V2 := chgT i2 hUc fun k hk hh => by omega
      have hne14 : ¬ b14 = L := fun e => hl3 ((i1 L).2 e.symm)
      have B2 := hUc.blk i3 hne14
      have C52 := c2.blk C5 (by omega)
      have Co2 := c2.blk Co (by omega)
      refine dr_ok ⟨_, _, _, b0_cell C52, behind_spec Co2 (by omega) hL.hi ⟨_, rfl, ?_⟩⟩
      have hbe : behF l.length (fun j => if k0 + 1 ≤ j then potL l width j else 0) x.1 = behF l.length (potL l width) x.1 := by
        unfold behF
        have := hL.lo
        split
        · rfl
        · show (if k0 + 1 ≤ x.1 + 1 then potL l width (x.1 + 1) else 0) = _
          rw [if_pos (by omega)]
      rw [hbe]
      have hbd := behF_bd hI width hL.hi
      have hw2 : IntKind.i64.wrap (x.2 + behF l.length (potL l width) x.1) = x.2 + behF l.length (potL l width) x.1 := wrap_id (by omega)
      have hsn : ((pre ++ [x]).map fun x => (x.2, behF l.length (potL l width) x.1)) = (pre.map fun x => (x.2, behF l.length (potL l width) x.1)) ++ [(x.2, behF l.length (potL l width) x.1)] := by rw [List.map_append]; rfl
      generalize hm : leastP (pre.map fun x => (x.2, behF l.length (potL l width) x.1)) (-1) = m0 at *
      generalize hv : behF l.length (potL l width) x.1 = v at *
      have done : ∀ (W' : World), Chg (fun k => k = b14) V2 W' → Blk W' b14 [.int .i64 (if 0 ≤ v ∧ (m0 < 0 ∨ x.2 + v < m0) then x.2 + v else m0)] 3 →
          Chg (fun k => S1 k ∨ V.heap.size ≤ k) V2 W' ∧ ∃ S' : Nat → Prop, (∀ k, S' k → (S1 k ∨ V.heap.size ≤ k) ∧ k < W'.heap.size) ∧ (∀ k, S' k ↔ k = b14) ∧ Chg (fun k => k = b14) w82 W' ∧ Blk W' b14 [.int .i64 (leastP ((pre ++ [x]).map fun x => (x.2, behF l.length (potL l width) x.1)) (-1))] 3 := by
        intro W' hc hB
        have zz := hc.size
        refine ⟨hc.mono fun k _ hk => .inl ((i1 k).2 hk), S1, fun k hk => ⟨.inl hk, by have := (i1 k).1 hk; omega⟩, i1, c2.trans hc, ?_⟩
        rw [hsn, leastP_snoc, hm]; exact hB
      intro K48 hK48
      have k48 : ∀ b : Bool, b = decide (0 ≤ v ∧ (m0 < 0 ∨ x.2 + v < m0)) → K48 b V2 := by
        intro b hbb
        refine hK48 _ _ fun _ => br_cases (fun g => dr_ok ?_) (fun g => ?_)
        · rw [g] at hbb
          rw [hw2]
          refine stL_one B2 rfl fun w131 B131 c131 s131 => done w131 c131 ?_
          rw [if_pos (of_decide_eq_true hbb.symm)]; exact B131
        · rw [g] at hbb
          refine done V2 (Chg.refl _ _) ?_
          rw [if_neg (of_decide_eq_false hbb.symm)]; exact B2
      refine br_split (fun ga => dr_ok ⟨_, b0_cell B2, br_split (fun gb => k48 _ ?_) (fun gb => dr_ok ⟨_, b0_cell B2, k48 _ ?_⟩)⟩) (fun ga => k48 _ ?_)
      · rw [decide_eq_true ⟨ga, .inl gb⟩]
      · rw [hw2]
        refine decide_eq_decide.2 ⟨fun hh => ⟨ga, .inr hh⟩, fun hh => hh.2.resolve_left gb⟩
      · rw [decide_eq_false fun hh => ga hh.1]
    · rintro D S1 V hD1 hD2' hD3 hD4 ⟨i1, i2, i3⟩
      rw [← potL_eq l width hkl] at i3
      have C5V := i2.blk C5 (by omega)
      have CoV := i2.blk Co (by omega)
      have hDV := hD.chg B14 i2
      refine ⟨_, _, _, b0_cell C5V, _, b0_cell i3, idx_b1 (show k0 < l.length + 1 by omega) ?_⟩
      refine stL_fC CoV (by omega) rfl fun w28 C28 c28 s28 => ?_
      have zi := i2.size
      refine ⟨k0, by omega, k0, D :: Dl, by rw [wrap_id (by omega)], by omega, rfl, rfl, ?_, ?_, ?_, ?_⟩
      · refine DefA.chg ?_ CoV c28
        refine hDV.cons ⟨by omega, by omega, hD4⟩ fun hm => ?_
        have := (hD.at_ D hm).2.1
        omega
      · exact ext_chgS (ext_chgS e082 i2 fun k hk => by omega) c28 fun k hk => by omega
      · exact c28.blk C5V (blk_ne C5V CoV (by decide))
      · rw [fC_congr (g := fun i => if i = k0 then .int .i64 (potL l width k0) else .int .i64 (if k0 + 1 ≤ i then potL l width i else 0)) fun j hj => ?_]
        · exact C28
        · by_cases e : j = k0
          · rw [if_pos e, if_pos (by omega), e]
          · rw [if_neg e]
            by_cases e2 : k0 + 1 ≤ j
            · rw [if_pos e2, if_pos (by omega)]
            · rw [if_neg e2, if_neg (by omega)]
  · have h0 : kk = 0 := by omega
    subst h0
    refine ⟨_, _, _, b0_cell C5, ?_⟩
    refine retD_marks Dl W hD.nd (fun D hm => (hD.at_ D hm).2.2) fun W' hc => ?_
    refine h bo W' (ext_chgS eW hc fun k hk => (hD.at_ k hk).1) (by omega) ?_
    have := hc.blk Co (hD.ne Co)
    rw [fC_congr (g := fun j => .int .i64 (potL l width j)) fun j hj => by rw [if_pos (Nat.zero_le _)]] at this
    exact this
theorem Potentials_spec {width : Int} (h1 : RowV vIt S w a n l) (hW : chkW l width)
    (h : ∀ bo w', Ext w w' → w.heap.size ≤ bo → Blk w' bo (fC (l.length + 1) fun j => .int .i64 (potL l width j)) 3 → R (.returned (.tuple ⟨[.slice (some ⟨bo, 0, none⟩) (l.length + 1) (l.length + 1), .int .i64 0]⟩)) w') :
    Calls Tryz.prog F_paragraph_Potentials ⟨[.slice a n c, .int .i64 width]⟩ w R := by
  apply c_paragraph_Potentials
  refine pcheck_spec h1 fun e w4 e4 he => ⟨_, rfl, br_split (fun g => absurd (he.2 hW) g) (fun _ => ?_)⟩
  refine potentials_spec (h1.ext e4) hW.1 hW.2 fun bo w7 e7 hb B7 => ⟨_, _, _, rfl, ?_⟩
  have := h bo w7 (ext_trans e4 e7) (by have := e4.size; omega) B7
  exact this
end
end Go.Proofs
namespace Go.Proofs
open Go Go.Sh Go.RowKit
/- Break -/
theorem slT_i : SlT Tryz.prog 40 3 1 8 (.int .i64 0) := ⟨by kernel_rfl, by kernel_rfl, rfl, by decide⟩
theorem own_blk {w : World} {B : Nat} {e : TypeId} {size : Nat} {a : Option Addr} {n c : Nat} {xs : List Value} (h : Owns w B e size a n c xs) {k : Nat} (hk : bk a k) : ∃ cs, Blk w k cs e := by
  rcases h.2 with h1 | ⟨g, cap, cur, e1, e2, e3, _⟩
  · obtain ⟨rfl, _⟩ : a = none ∧ n = 0 ∧ c = 0 := by simpa using h1.1
    simp [bk] at hk
  · obtain ⟨rfl, _⟩ : a = some ⟨g, 0, none⟩ ∧ c = cap := by simpa using e1
    have hk : g = k := by simpa [bk] using hk
    subst hk
    exact ⟨cur.toList, e3⟩
theorem ofN_snoc (O : List Nat) (k : Nat) : ofN (O ++ [k]) = ofN O ++ [(k : Int)] := by unfold ofN; rw [List.map_append]; rfl
theorem ofN_len (O : List Nat) : (ofN O).length = O.length := by unfold ofN; rw [List.length_map]
section
variable {R : Ending → World → Prop} {S S2 : Nat → Prop} {w : World} {a a2 : Option Addr} {n c n2 c2 : Nat} {l : List It}
def matL (l : List It) (width : Int) (f : Nat) (x : Nat × Int) : Bool := decide (0 ≤ behF l.length (potL l width) x.1 ∧ x.2 + behF l.length (potL l width) x.1 = potL l width f)
theorem find_at {α : Type} {q : α → Bool} : ∀ {l pre : List α} {x : α}, pre ++ [x] <+: l → (∀ y ∈ pre, q y = false) → q x = true → l.find? q = some x
  | l, pre, x, ⟨s, hs⟩, h1, h2 => by
    subst hs
    rw [List.append_assoc, List.find?_append, List.find?_eq_none.2 fun y hy => by rw [h1 y hy]; decide]
    simp [h2]
def bestL (l : List It) (width : Int) : List Nat := bestG l width (potL l width) (l.length + 1) 0
structure BrkI (l : List It) (width : Int) (O : List Nat) (f : Nat) : Prop where
  le : f ≤ l.length + 1
  pot : f ≤ l.length → 0 ≤ potL l width f
  last : (O = [] ∧ f = 0) ∨ ∃ k, O.getLast? = some k ∧ f = k + 1
  rest : ∃ nn, l.length + 1 - f ≤ nn ∧ bestL l width = O ++ (if f = l.length + 1 then [] else bestG l width (potL l width) nn f)
  len : O.length ≤ f
theorem BrkI.next {width : Int} {O : List Nat} {f : Nat} (h : BrkI l width O f) (hf : f ≤ l.length) {x : Nat × Int} (hx : (linesF l width f).find? (matL l width f) = some x) : BrkI l width (O ++ [x.1]) (x.1 + 1) := by
  have hL := (linesF_iff l width hf x).1 (List.mem_of_find?_eq_some hx)
  have hm0 := List.find?_some hx
  unfold matL at hm0
  have hm := of_decide_eq_true hm0
  have h1 := hL.lo
  have h2 := hL.hi
  obtain ⟨nn, g1, g2⟩ := h.rest
  obtain ⟨n', rfl⟩ : ∃ n', nn = n' + 1 := ⟨nn - 1, by omega⟩
  refine ⟨by omega, fun hq => ?_, .inr ⟨x.1, by simp, rfl⟩, ⟨n', by omega, ?_⟩, by rw [List.length_append]; have := h.len; simp; omega⟩
  · have := hm.1
    unfold behF at this
    rwa [if_neg (by omega)] at this
  · rw [g2, if_neg (by omega), bestG]
    have hx : (linesF l width f).find? (fun x => decide (0 ≤ behF l.length (potL l width) x.1 ∧ x.2 + behF l.length (potL l width) x.1 = potL l width f)) = some x := hx
    rw [hx, List.append_assoc]
    congr 1
    show x.1 :: (if x.1 = l.length then [] else bestG l width (potL l width) n' (x.1 + 1)) = [x.1] ++ _
    by_cases e : x.1 = l.length
    · rw [if_pos e, if_pos (by omega)]; rfl
    · rw [if_neg e, if_neg (by omega)]; rfl
set_option maxHeartbeats 1000000 in
set_option maxRecDepth 20000 in
theorem pBreak_spec {width : Int} (h1 : RowV vIt S w a n l) (hW : chkW l width)
    (h : ∀ (e v : Int) (oa : Option Addr) (on oc : Nat) w', Ext w w' → (potL l width 0 < 0 → e ≠ 0) → (0 ≤ potL l width 0 → e = 0 ∧ v = potL l width 0 ∧ RowV vI (fun _ => True) w' oa on (ofN (bestL l width))) → R (.returned (.tuple ⟨[.slice oa on oc, .int .i64 v, .int .i64 e]⟩)) w') :
    Calls Tryz.prog F_paragraph_Break ⟨[.slice a n c, .int .i64 width]⟩ w R := by
  apply c_paragraph_Break
  have hn := h1.1
  subst hn
  have hI := hW.1
  have hlen := hI.len
  refine pcheck_spec h1 fun e w4 e4 he => ⟨_, rfl, br_split (fun g => absurd (he.2 hW) g) (fun _ => ?_)⟩
  have z4 := e4.size
  refine potentials_spec (h1.ext e4) hI hW.2 fun bo w7 e7 hbo Bo => ⟨_, _, _, rfl, ?_⟩
  have lbo := Bo.lt
  refine al_stL rfl (by intro v hv; simp only [List.mem_singleton] at hv; subst hv; rfl) fun b9 w11 hb9 B9 e9 s9 => ?_
  have e711 := e9
  have e011 := ext_trans e4 (ext_trans e7 e9)
  have Bo := Bo.ext e9
  refine ⟨_, _, _, b0_cell B9, idx_b1 (j := 0) (by omega) ⟨_, by rw [Bo.cell, fC_get (by omega)], ?_⟩⟩
  refine br_split (fun g => h _ _ _ _ _ _ e011 (fun _ => by decide) (fun q => by omega)) (fun g => ?_)
  have hp0 : 0 ≤ potL l width 0 := by omega
  refine al_intro fun b15 w16 hb15 B15 e15 s15 => ?_
  refine al_stL rfl (by intro v hv; simp only [List.mem_singleton] at hv; subst hv; rfl) fun b17 w19 hb17 B17 e17 s17 => ?_
  have z7 := e7.size
  have z9 := e9.size
  have e1119 := ext_trans e15 e17
  have e019 := ext_trans e011 e1119
  refine ⟨fun fr ds W m => ∃ (O Dl : List Nat) (f bf : Nat) (oa : Option Addr) (on oc : Nat), fr = some ⟨bf, 0, none⟩ ∧ m = l.length + 1 - f ∧ ds = marks Dl ∧ BrkI l width O f ∧ DefA w W Dl ∧ Ext w W ∧ w.heap.size ≤ bf ∧ b15 < bf ∧ Blk W bf [.int .i64 f] 3 ∧ Blk W b15 [.slice oa on oc] 40 ∧ OwnL Sh.encI W (b15 + 1) 3 oa on oc (ofN O) ∧ ¬ bk oa bf ∧
      Blk W b9 [.slice (some ⟨bo, 0, none⟩) (l.length + 1) (l.length + 1)] 40 ∧ Blk W bo (fC (l.length + 1) fun j => .int .i64 (potL l width j)) 3,
    ⟨_, [], [], 0, b17, none, 0, 0, rfl, rfl, rfl, ⟨Nat.zero_le _, fun _ => hp0, .inl ⟨rfl, rfl⟩, ⟨l.length + 1, by omega, by rw [if_neg (by omega)]; rfl⟩, Nat.le_refl _⟩, ⟨List.nodup_nil, fun D hD => by cases hD⟩, e019, by omega, by omega, B17, B15.ext e17, Owns.nil _ _ 3 1, fun hh => (by cases hh), B9.ext e1119, Bo.ext e1119⟩, ?_⟩
  rintro _ _ W m ⟨O, Dl, f, bf, oa, on, oc, rfl, rfl, rfl, hB, hD, eW, hbf, hb15f, Cf, C15, hO, hnb, C9, Co⟩ _
  have zW := eW.size
  have hon : (ofN O).length = on := OwnL.length hO
  rw [ofN_len] at hon
  have hOl := hB.len
  have hfl := hB.le
  intro K26 hK26
  have k26 : f ≤ l.length → K26 W := by
    intro hf
    refine hK26 W fun _ => dr_ok ⟨_, b0_cell Cf, ?_⟩
    apply c_paragraph_lines
    refine al_intro fun b4 wa hb4 B4 ea sa => al_intro fun b6 wb hb6 B6 eb sb => al_intro fun b8 w82 hb8 B8 ec sc => ⟨_, _, _, rfl, fun base => ?_⟩
    have eW82 := ext_trans ea (ext_trans eb ec)
    have e082 := ext_trans eW eW82
    have za := ea.size
    have zb := eb.size
    have zc := ec.size
    have lf := Cf.lt
    have l15 := C15.lt
    have l9 := C9.lt
    have lo := Co.lt
    have hbko : ∀ k, bk oa k → b15 + 1 ≤ k ∧ k < W.heap.size := fun k hk => Owns.bk hO hk
    have Cf := Cf.ext eW82
    have C15 := C15.ext eW82
    have C9 := C9.ext eW82
    have Co := Co.ext eW82
    have hO := Owns.ext hO eW82
    have hD := hD.ext eW82
    rw [cd_paragraph_Break_1]
    have hS0 : ∀ k, (k = b15 ∨ k = bf ∨ bk oa k) → k < w82.heap.size ∧ ¬ (k = b4 ∨ k = b6 ∨ k = b8 ∨ (S k ∧ k < w.heap.size)) := fun k hk => by
      have hb : w.heap.size ≤ k ∧ k < W.heap.size := by
        rcases hk with rfl | rfl | hk
        · omega
        · omega
        · have := hbko k hk; omega
      exact ⟨by omega, fun hh => by rcases hh with hh | hh | hh | hh <;> omega⟩
    refine RFw_lawO anA_paragraph_Break_1 anB_paragraph_Break_1 (gf := F_paragraph_lines_1) rfl (by kernel_rfl) (xs := linesF l width f) (E := LnE) (Rd := fun k => k = b4 ∨ k = b6 ∨ k = b8 ∨ (S k ∧ k < w.heap.size))
      (fun w1 hw1 => ?_) (fun y vs hE => by rw [show vs = _ from hE]; rfl) (by decide) (fun k hk => by rcases hk with rfl | rfl | rfl | hk <;> omega)
      (fun k => k = b15 ∨ k = bf ∨ bk oa k) hS0
      (fun pre S1 V => (∀ k, S1 k ↔ (k = b15 ∨ k = bf ∨ bk oa k)) ∧ Ext w82 V ∧ ∀ y ∈ pre, matL l width f y = false)
      (fun _ _ => False)
      (fun S1 V => ∃ (x : Nat × Int) (oa' : Option Addr) (oc' : Nat), (linesF l width f).find? (matL l width f) = some x ∧ (∀ k, S1 k ↔ (k = b15 ∨ k = bf ∨ bk oa k ∨ bk oa' k)) ∧ Chg (fun k => k = b15 ∨ k = bf ∨ bk oa k) w82 V ∧ ¬ bk oa' bf ∧
        Blk V bf [.int .i64 ((x.1 + 1 : Nat) : Int)] 3 ∧ Blk V b15 [.slice oa' (on + 1) oc'] 40 ∧ OwnL Sh.encI V (b15 + 1) 3 oa' (on + 1) oc' (ofN (O ++ [x.1])))
      ?_ (fun _ _ _ h => h.elim) ?_ ⟨fun k => Iff.rfl, Below.refl _ _, fun y hy => by cases hy⟩ ?_ ?_ (fun _ _ _ _ _ _ _ h => h.elim) ?_
    · have eq : (fun k => k = b4 ∨ k = b6 ∨ k = b8 ∨ ((S k ∧ k < w.heap.size) ∧ k < w1.heap.size)) = (fun k => k = b4 ∨ k = b6 ∨ k = b8 ∨ (S k ∧ k < w.heap.size)) := by
        funext k
        have := hw1.size
        have := e082.size
        exact propext ⟨fun hh => hh.imp id (fun q => q.imp id (fun q => q.imp id (fun t => t.1))), fun hh => hh.imp id (fun q => q.imp id (fun q => q.imp id (fun t => ⟨t, by omega⟩)))⟩
      have := lines_iterO (w := w1) (S := fun k => S k ∧ k < w.heap.size) (((h1.imp (S' := fun k => S k ∧ k < w.heap.size) fun k hk hl => ⟨hk, hl⟩).ext e082).ext hw1) hI hW.2 hf ((B4.ext (ext_trans eb ec)).ext hw1) (B8.ext hw1) ((B6.ext ec).ext hw1)
      rw [eq] at this; exact this
    · rintro pre S1 V V' ⟨i1, i2, i3⟩ hc
      exact ⟨i1, ext_chgS i2 hc fun k hk => hk.1, i3⟩
    · rintro S1 V V' ⟨x, oa', oc', i1, i2, i3, i4, i5, i6, i7⟩ hc
      refine ⟨x, oa', oc', i1, i2, chgT i3 hc fun k hk hh => by omega, i4, hc.blk i5 fun hh => hh.2 ((i2 _).2 (.inr (.inl rfl))), hc.blk i6 fun hh => hh.2 ((i2 _).2 (.inl rfl)), Owns.chg i7 hc fun k hk hh => hh.2 ((i2 _).2 (.inr (.inr (.inr hk))))⟩
    · rintro pre x vs S1 V L hE hpre hl1 hl2 hl3 hS1 ⟨i1, i2, i3⟩
      obtain rfl : vs = [.int .i64 x.1, .int .i64 x.2] := hE
      have hxm : x ∈ linesF l width f := mem_of_prefix hpre
      have hL := (linesF_iff l width hf x).1 hxm
      have hnn := hL.nn (its_pen hI)
      refine Eq.mpr (er_paragraph_Break_1 base _ _ _ _ _ _ _ _ _ _ _ _ _ _ _ _ _ _ _ _ _ _) ?_
      refine ⟨Below.refl _ _, fun V2 hU => ?_⟩
      have zU := hU.size
      have hUc : Chg (fun k => k = L) V V2 := ⟨hU.os, hU.tape, hU.output, by omega, fun k _ hk => hU.block k hk⟩
      have zi := i2.size
      have e2 : Ext w82 V2 := ext_chgS i2 hUc fun k hk => by omega
      have C92 := C9.ext e2
      have Co2 := Co.ext e2
      have C152 := C15.ext e2
      have Cf2 := Cf.ext e2
      have hO2 := Owns.ext hO e2
      refine dr_ok ⟨_, _, _, b0_cell C92, behind_spec Co2 (by omega) hL.hi ⟨_, rfl, ?_⟩⟩
      have hbd := behF_bd hI width hL.hi
      have hw2 : IntKind.i64.wrap (x.2 + behF l.length (potL l width) x.1) = x.2 + behF l.length (potL l width) x.1 := wrap_id (by omega)
      intro K77 hK77
      have k77 : ∀ b : Bool, b = matL l width f x → K77 b V2 := by
        intro b hbb
        refine hK77 _ _ fun _ => br_cases (fun g => dr_ok ⟨_, _, _, b0_cell C152, ?_⟩) (fun g => ?_)
        · rw [g] at hbb
          have hfind := find_at hpre i3 hbb.symm
          refine OwnL.push (E := Sh.encI) slT_i hO2 (by have := e2.size; omega) (x.1 : Int) (by omega) (by omega) fun a' c' w85 ho hcc hn' => dr_ok ?_
          have hcb := hcc.blk C152 fun hh => by have := hbko _ hh; omega
          have z85 := hcc.size
          have z2 := e2.size
          refine stL_one hcb rfl fun w86 C86 c86 s86 => dr_ok ?_
          have Cf86 := c86.blk (hcc.blk Cf2 hnb) (by omega)
          rw [wrap_nat (by have := hL.hi; omega)]
          refine stL_one Cf86 rfl fun w88 C88 c88 s88 => ?_
          have hbk' : ∀ k, bk a' k → bk oa k ∨ V2.heap.size ≤ k := hn'
          have hnbf' : ¬ bk a' bf := fun hh => (hbk' _ hh).elim hnb (fun q => by omega)
          have hnb15' : ¬ bk a' b15 := fun hh => by have := (Owns.bk ho hh).1; omega
          have hc28 : Chg (fun k => k = b15 ∨ k = bf ∨ bk oa k) V2 w88 := ((hcc.mono fun k _ hk => .inr (.inr hk)).trans (c86.mono fun k _ hk => .inl hk)).trans (c88.mono fun k _ hk => .inr (.inl hk))
          refine ⟨hc28.mono fun k _ hk => .inl ((i1 k).2 hk), fun k => k = b15 ∨ k = bf ∨ bk oa k ∨ bk a' k, fun k hk => ?_, x, a', c', hfind, fun k => Iff.rfl, chgT (Chg.of_ext (S := fun k => k = b15 ∨ k = bf ∨ bk oa k) e2) hc28 fun k _ hk => hk, hnbf', C88, c88.blk C86 (by omega), ?_⟩
          · rcases hk with hk | hk | hk | hk
            · exact ⟨.inl ((i1 k).2 (.inl hk)), by omega⟩
            · exact ⟨.inl ((i1 k).2 (.inr (.inl hk))), by omega⟩
            · exact ⟨.inl ((i1 k).2 (.inr (.inr hk))), by have := hbko _ hk; omega⟩
            · have h85 := (Owns.bk ho hk).2
              refine ⟨(hbk' k hk).imp (fun q => (i1 k).2 (.inr (.inr q))) (fun q => by omega), by omega⟩
          · rw [ofN_snoc]
            refine Owns.chg (Owns.chg ho c86 fun k hk hh => hnb15' (hh ▸ hk)) c88 fun k hk hh => hnbf' (hh ▸ hk)
        · rw [g] at hbb
          refine ⟨Chg.refl _ _, S1, fun k hk => ⟨.inl hk, by have := (hS1 k hk).1; omega⟩, i1, e2, fun y hy => ?_⟩
          rcases List.mem_append.1 hy with hy | hy
          · exact i3 y hy
          · rw [List.mem_singleton] at hy
            subst hy; exact hbb.symm
      refine br_split (fun ga => dr_ok ⟨_, _, _, b0_cell C92, dr_ok ⟨_, b0_cell Cf2, idx_b1 (by omega) ⟨_, by rw [Co2.cell, fC_get (by omega)], k77 _ ?_⟩⟩⟩) (fun ga => k77 _ ?_)
      · rw [hw2]
        unfold matL
        exact decide_eq_decide.2 ⟨fun hh => ⟨ga, hh⟩, fun hh => hh.2⟩
      · unfold matL
        rw [decide_eq_false fun hh => ga hh.1]
    · rintro D S1 V hD1 hD2' hD3 hD4 ⟨i1, i2, i3⟩
      exfalso
      obtain ⟨x, hx, _⟩ := best_some (width := width) hf (hB.pot hf)
      have := i3 x (List.mem_of_find?_eq_some hx)
      have h2 := List.find?_some hx
      unfold matL at this
      rw [this] at h2; cases h2
    · rintro D S1 V hD1 hD2' hD3 hD4 ⟨x, oa', oc', i1, i2, i3, i4, i5, i6, i7⟩
      refine dr_ok ⟨_, b0_cell i5, ?_⟩
      refine al_stL rfl (by intro v hv; simp only [List.mem_singleton] at hv; subst hv; rfl) fun b38 w40 hb38 B38 e38 s38 => ?_
      have zi := i3.size
      have z38 := e38.size
      have hL := (linesF_iff l width hf x).1 (List.mem_of_find?_eq_some i1)
      have q1 := hL.lo
      have q2 := hL.hi
      have hbn := hB.next hf i1
      have hCh : ∀ {b : Nat} {cs : List Value} {T : TypeId}, Blk w82 b cs T → b < b15 → Blk V b cs T := fun hb hlt => i3.blk hb fun hh => by
        rcases hh with hh | hh | hh
        · omega
        · omega
        · have := hbko _ hh; omega
      have hDV : DefA w V Dl := ⟨hD.nd, fun D' hD' => by
        obtain ⟨p1, p2, p3⟩ := hD.at_ D' hD'
        refine ⟨p1, by omega, (i3.block D' p2 fun hh => ?_).trans p3⟩
        rcases hh with hh | hh | hh
        · subst hh; exact hD.ne C15 hD'
        · subst hh; exact hD.ne Cf hD'
        · obtain ⟨cs, hcs⟩ := own_blk hO hh
          exact hD.ne hcs hD'⟩
      refine ⟨l.length + 1 - (x.1 + 1), by omega, O ++ [x.1], D :: Dl, x.1 + 1, b38, oa', on + 1, oc', rfl, rfl, rfl, hbn, (hDV.cons ⟨by omega, by omega, hD4⟩ fun hm => ?_).ext e38, ext_trans (ext_chgS e082 i3 fun k hk => ?_) e38, by omega, by omega, B38, i6.ext e38, Owns.ext i7 e38, fun hh => ?_, (hCh C9 (by omega)).ext e38, (hCh Co (by omega)).ext e38⟩
      · have := (hD.at_ D hm).2.1
        omega
      · rcases hk with hk | hk | hk
        · omega
        · omega
        · have := hbko _ hk; omega
      · have := (Owns.bk i7 hh).2; omega
  refine ⟨_, _, _, b0_cell C15, br_split (fun g1 => k26 ?_) (fun g1 => ?_)⟩
  · rcases hB.last with ⟨hO0, hf0⟩ | ⟨k, hk, hfk⟩
    · omega
    · cases O with
      | nil => cases hk
      | cons y O => simp at hon; omega
  · have hon0 : 0 < O.length := by omega
    obtain ⟨k, hk, hfk⟩ : ∃ k, O.getLast? = some k ∧ f = k + 1 := by
      rcases hB.last with ⟨hO0, _⟩ | hh
      · rw [hO0] at hon0; simp at hon0
      · exact hh
    have hrow : RowV vI (fun k => bk oa k) W oa on (ofN O) := rowV_enc.2 (OwnL.out hO)
    have hlast : (ofN O)[on - 1]'(by rw [ofN_len]; omega) = (k : Int) := by
      rw [ofN_get (by omega : on - 1 < O.length)]
      rw [List.getLast?_eq_getElem?] at hk
      unfold gN
      rw [List.getD_eq_getElem?_getD, ← hon, hk]; rfl
    obtain ⟨p, hp, d⟩ := hrow.int (k := on - 1) (by rw [ofN_len]; omega)
    rw [hlast] at d
    refine ⟨_, _, _, b0_cell C15, _, _, _, b0_cell C15, ?_⟩
    rw [wrap_id (by have := hB.le; omega), show (on : Int) - 1 = ((on - 1 : Nat) : Int) by omega]
    refine hp _ ⟨_, d, br_split (fun g2 => k26 (by omega)) (fun g2 => ?_)⟩
    have hfe : f = l.length + 1 := by have := hB.le; omega
    obtain ⟨nn, _, hbest⟩ := hB.rest
    rw [if_pos hfe, List.append_nil] at hbest
    try unfold drw
    have ed := ext_drew W
    have ed' := ed
    have hD := hD.ext ed
    have C15 := C15.ext ed
    have C9 := C9.ext ed
    have Co := Co.ext ed
    have hrow := hrow.ext ed
    have eV := ext_trans eW ed
    generalize W.drew = V at *
    refine ⟨_, _, _, b0_cell C15, _, _, _, b0_cell C9, idx_b1 (j := 0) (by omega) ⟨_, by rw [Co.cell, fC_get (by omega)], ?_⟩⟩
    refine retD_marks Dl V hD.nd (fun D hm => (hD.at_ D hm).2.2) fun W' hc => ?_
    refine h _ _ _ _ _ W' (ext_chgS eV hc fun k hk => (hD.at_ k hk).1) (fun q => by omega) fun _ => ⟨rfl, rfl, ?_⟩
    rw [hbest]
    refine (hrow.chg hc fun k hk hl hm => ?_).imp fun _ _ _ => trivial
    obtain ⟨cs, hcs⟩ := own_blk (Owns.ext hO ed') hk
    exact hD.ne hcs hm
end
end Go.Proofs
