/- The contracts of the functions that the law reaches, one after the other, and at the end the law's card. -/
import Derived.Test.YtcnlbobkjeiakaaDoorLawF
import Derived.Lib.Join
namespace Go.Proofs
open Go Go.Sh Go.RowKit

theorem join_flat : ∀ xs : List (List UInt8), Lib.join xs [] = xs.flatten
  | [] => rfl
  | x :: r => by
    rw [Lib.join_cons, List.flatten_cons]
    congr 1
    unfold Lib.joinTail
    simp
theorem JoinE_spec {R : Ending → World → Prop} {S : Nat → Prop} {w : World} {a : Option Addr} {n c : Nat} {L : List (List UInt8)} (h1 : RowAt encStr S w a n L) (hc : n ≤ c) (hn : n ≤ 1000000000) (hl : L.flatten.length ≤ 140737488355328)
    (h : ∀ w', Ext w w' → R (.returned (.string ⟨⟨L.flatten⟩⟩)) w') : Calls Tryd.prog F_strings_Join ⟨[.slice a n c, .string ⟨⟨[]⟩⟩]⟩ w R := by
  have hn1 := h1.1
  by_cases h0 : L = []
  · subst h0
    have : n = 0 := hn1
    subst this
    refine (Tryd.strings_Join_none a c ⟨⟨[]⟩⟩ w).mono ?_
    rintro e w' ⟨rfl, rfl⟩
    exact h _ (Below.refl _ _)
  · rcases h1.2 with h2 | ⟨b, o, rfl, hb, hbl, hcl⟩
    · have := congrArg List.length h2
      rw [row_len] at this
      simp [encStr] at this
      exact absurd this h0
    have hmap : ((L.map (fun s => (⟨⟨s⟩⟩ : ByteArray))).map (·.data.toList)) = L := by rw [List.map_map]; exact List.map_id' L
    have key := Tryd.strings_Join b o c (L.map fun s => (⟨⟨s⟩⟩ : ByteArray)) ⟨⟨[]⟩⟩ w (fun j x hx => by
      rw [List.getElem?_map, Option.map_eq_some_iff] at hx
      obtain ⟨s, hs, rfl⟩ := hx
      refine hcl j _ ?_
      have := row_get (E := encStr) (l := L) (i := j) (j := 0) (x := s) hs (by decide)
      rw [show j * encStr.size + 0 = j by simp [encStr]] at this
      rw [this]; rfl) hbl (by rw [List.length_map]; omega) (by rw [List.length_map]; omega) (by rw [hmap]; rw [join_flat]; exact hl)
    rw [hmap, List.length_map, ← hn1] at key
    refine key.mono ?_
    rintro e w' ⟨rfl, hbe⟩
    have := h w' hbe
    rw [join_flat]
    exact this

set_option maxRecDepth 20000 in
theorem ContainsFuncS_spec {R : Ending → World → Prop} {S : Nat → Prop} {w : World} {a : Option Addr} {n c : Nat} {f : Fn} {fa fb : Array Value} {q : List UInt8 → Bool} {L : List (List UInt8)} {J : World → Prop} (h1 : RowAt encStr S w a n L)
    (hs : n ≤ 4611686018427387904) (hp : PredS f fa fb q L J) (hJ0 : J w) (hJe : ∀ W W', J W → Ext W W' → J W')
    (h : ∀ w', Ext w w' → R (.returned (.bool (L.any q))) w') : Calls Tryd.prog F_slices_ContainsFunc_of_string_string ⟨[.slice a n c, .func f fa fb]⟩ w R := by
  apply c_slices_ContainsFunc_of_string_string
  refine IndexFuncS_spec h1 hs hp hJ0 hJe fun w' e' => ⟨_, rfl, ?_⟩
  have e : decide ((0 : Int) ≤ idxF q L) = L.any q := by
    unfold idxF
    cases L.any q <;> simp
  rw [e]; exact h w' e'
theorem flatten_len {L : List (List UInt8)} {b : Nat} (h : ∀ s ∈ L, s.length ≤ b) : L.flatten.length ≤ L.length * b := by
  induction L with
  | nil => simp
  | cons x r ih =>
    have := ih fun s hs => h s (by simp [hs])
    have := h x (by simp)
    simp only [List.flatten_cons, List.length_append, List.length_cons, Nat.add_mul, Nat.one_mul]; omega
theorem take_snoc {α : Type} {l : List α} {k : Nat} (h : k < l.length) : l.take (k + 1) = l.take k ++ [l[k]] := by rw [List.take_add_one, List.getElem?_eq_getElem h]; rfl

set_option maxRecDepth 20000 in
theorem LegibilitySupplies_spec {R : Ending → World → Prop} {S SW : Nat → Prop} {w : World} {a : Option Addr} {n c : Nat} {wa : Option Addr} {wn wc : Nat} (f : Fo) (ws : List (List UInt8)) (hcw : wn ≤ wc) (hF : Forms w) (hf0 : SlF S w a n f) (hW : RowAt encStr SW w wa wn ws)
    (h : ∀ w', Ext w w' → R (.returned (.bool true)) w') : Calls Tryd.prog F_law12_LegibilitySupplies ⟨[.slice a n c, .slice wa wn wc]⟩ w R := by
  apply c_law12_LegibilitySupplies
  have aw : ∀ {K : Ending → World → Prop} W, Ext w W → (∀ w', Ext w w' → K (.returned (.bool true)) w') → Calls Tryd.prog F_law12_awake ⟨[]⟩ W fun e w' => ∃ x : Bool, e = .returned (.bool x) ∧ K (.returned (.bool x)) w' :=
    fun W hx hK => awake12_spec (hF.ext hx) fun w10 e10 => ⟨_, rfl, hK _ (ext_trans hx e10)⟩
  have hwn := hW.1
  intro K3 hK3
  have k3 : ∀ W, Ext w W → great10 f = false → wn ≤ 8 → (∀ s ∈ ws, s.length ≤ 70) → K3 W := by
    intro W hE hgr h8 h70
    have hs := great10_small hgr
    refine hK3 _ fun _ => ?_
    refine Supply_spec f hs (hF.ext hE) (hf0.ext hE) (hW.ext hE) (by omega) fun a1 n1 c1 w6 hsl6 e6 => ⟨_, _, _, _, rfl, ?_⟩
    have E6 := ext_trans hE e6
    refine br_split (fun g => ?_) (fun g => ?_)
    · have hr : supR f ws = .nil := by unfold supR; rw [if_pos g]
      rw [hr] at hsl6
      have : n1 = 0 := hsl6.1
      exact br_split (fun _ => aw _ E6 h) (fun hh => absurd (by omega) hh)
    have h0 := Decidable.not_not.1 g
    have hr : supR f ws = mergeF (supG ws f 0 true).1 := by unfold supR; rw [if_neg g]
    rw [hr] at hsl6
    have heu : errU f = 0 := by unfold supE at h0; by_cases q : errU f = 0; exact q; rw [if_pos q] at h0; exact absurd h0 q
    have hok : (supG ws f 0 true).2.2 = true := by
      unfold supE at h0
      rw [if_neg (by simp [heu])] at h0
      cases hq : (supG ws f 0 true).2.2 with
      | true => rfl
      | false => rw [if_pos hq] at h0; cases h0
    have hcnt : ((supG ws f 0 true).2.1 : Int) = ws.length := by
      unfold supE at h0
      rw [if_neg (by simp [heu]), if_neg (by simp [hok])] at h0
      apply Classical.byContradiction
      intro hq
      rw [if_pos hq] at h0; cases h0
    have hcm : checkT (mergeF (supG ws f 0 true).1) = 0 := by
      unfold supE at h0
      rw [if_neg (by simp [heu]), if_neg (by simp [hok]), if_neg (by simp [hcnt])] at h0
      exact h0
    obtain ⟨hcf, hclean⟩ := errU_zero heu
    obtain ⟨q1, q2, q3⟩ := check_zero hcf
    obtain ⟨m1, m2, m3⟩ := check_zero hcm
    have htx : txF (supG ws f 0 true).1 := supG_tx ws f 0 true (good_tx f q2)
    obtain ⟨_, hlen, hfit, hcut⟩ := sup_sub ws f 0 true q2 (no_und_all f _ _ (check_all hcf)) hok
    rw [Nat.sub_zero, List.drop_zero, List.take_of_length_le (by omega)] at hcut
    have hpm : patF (mergeF (supG ws f 0 true).1) = patF (supG ws f 0 true).1 := by rw [mergeF_eq, patF_merge _ htx]
    rw [← hpm] at hlen hfit hcut
    have h6 : allK (fun k => decide (k ≠ 6)) (mergeF (supG ws f 0 true).1) = true := by
      rw [mergeF_eq]
      refine allK_merge (by decide) _ (supG_kinds (by decide) ws f 0 true ?_)
      have : ∀ f : Fo, allK (fun k => decide (k = 6) || decide (k ≠ 6)) f = true := by
        intro f
        induction f with
        | nil => rfl
        | cons k t n ps r i1 i2 => rw [allK, i1, i2]; simp
      exact this f
    obtain ⟨hlo, hpc⟩ := lost_none _ h6
    have hclm : cleanF (mergeF (supG ws f 0 true).1) = true := by
      rw [cleanF_all, mergeF_eq]
      refine allK_merge (by decide) _ (supG_kinds (by decide) ws f 0 true ?_)
      rw [cleanF_all] at hclean
      have : ∀ f : Fo, allK (fun k => !(decide (k = 8) || decide (k = 9))) f = true → allK (fun k => decide (k = 6) || !(decide (k = 8) || decide (k = 9))) f = true := by
        intro f
        induction f with
        | nil => exact fun _ => rfl
        | cons k t n ps r i1 i2 =>
          intro hh
          rw [allK, Bool.and_eq_true, Bool.and_eq_true] at hh
          rw [allK, i1 hh.2.1, i2 hh.2.2, hh.1]; simp
      exact this f hclean
    generalize hM : mergeF (supG ws f 0 true).1 = M at *
    have heM : errU M = 0 := by unfold errU; rw [if_neg (by simp [hcm]), if_pos hclm]
    have hpr : (printF M).length ≤ 65536 := by
      unfold checkT at hcm
      split at hcm
      · split at hcm
        · rename_i hh; exact absurd hcm hh
        · split at hcm
          · cases hcm
          · omega
      · cases hcm
    have hplM : (patF M).length ≤ 65536 := by have := chars_print M m2; rw [← hpc] at this; omega
    have pE1 : patE f = 0 := by unfold patE; rw [if_neg (by simp [heu]), if_neg (by omega)]
    have pE2 : patE M = 0 := by unfold patE; rw [if_neg (by simp [heM]), if_neg (by omega)]
    have pS1 : patS f = patF f := by unfold patS; rw [if_neg (by simp [pE1])]
    have pS2 : patS M = patF M := by unfold patS; rw [if_neg (by simp [pE2])]
    have hsM : small M := by unfold small; omega
    refine Pattern_spec f hs (hF.ext E6) (hf0.ext E6) fun w13 e13 => ⟨_, _, rfl, ?_⟩
    have E13 := ext_trans E6 e13
    refine Pattern_spec M hsM (hF.ext E13) (hsl6.ext e13) fun w17 e17 => ⟨_, _, rfl, ?_⟩
    have E17 := ext_trans E13 e17
    refine Lost_spec M hsM (hF.ext E17) (hsl6.ext (ext_trans e13 e17)) fun w21 e21 => ⟨_, _, rfl, ?_⟩
    have E21 := ext_trans E17 e21
    refine Fits_spec _ _ fun w25 e25 => ⟨_, _, rfl, ?_⟩
    have E25 := ext_trans E21 e25
    rw [pS1, pS2, pE1, pE2, heM]
    have fE : fitE (patF f) (patF M) = 0 := by unfold fitE; rw [if_neg (by omega)]
    have fR : fitR (patF f) (patF M) = true := by unfold fitR; rw [fE, fitB_of hfit]; rfl
    have lR : losR M = 0 := by unfold losR; rw [if_neg (by simp [heM]), hlo]
    rw [fE, fR, lR]
    intro K28 hK28
    have k28 : ∀ W, Ext w W → K28 W := by
      intro W hx
      refine hK28 _ fun _ => ?_
      generalize hP : patF f = P at *
      generalize hQ : patF M = Q at *
      refine ⟨fun cut i W m => ∃ k : Nat, i = k ∧ k ≤ P.length ∧ m = P.length - k ∧ cut = cutF (P.take k) (Q.take k) ∧ Ext w W, ⟨_, 0, rfl, by omega, rfl, by simp [cutF], hx⟩, ?_⟩
      rintro _ _ W2 m ⟨k, rfl, hk, rfl, rfl, he2⟩ _
      refine br_split (fun hlt => ?_) (fun hge => ?_)
      · have hkP : k < P.length := by omega
        have hkQ : k < Q.length := by omega
        have hst : cutF (P.take (k + 1)) (Q.take (k + 1)) = cutF (P.take k) (Q.take k) ++ if P[k] = 95 then [Q[k]] else [] := by
          rw [take_snoc hkP, take_snoc hkQ, cutF_app _ _ (by rw [List.length_take, List.length_take]; omega)]
          rfl
        have hcl : (cutF (P.take k) (Q.take k)).length ≤ 65536 := by
          have : ∀ p s : List UInt8, (cutF p s).length ≤ p.length := by
            intro p
            induction p with
            | nil => intro s; simp [cutF]
            | cons x p ih =>
              intro s
              cases s with
              | nil => simp [cutF]
              | cons y s =>
                rw [cutF]
                have := ih s
                split <;> simp <;> omega
          have := this (P.take k) (Q.take k)
          rw [List.length_take] at this
          omega
        refine sidx_nat hkP (br_split (fun g1 => ?_) (fun g1 => ?_))
        · have hp95 : P[k] = 95 := (u8_int P[k] 95).1 g1
          rw [wrap_nat (by omega)]
          refine ssl_nat (by omega) (by omega) ?_
          have hsub : (Q.take (k + 1)).drop k = [Q[k]] := by rw [take_snoc hkQ, List.drop_left' (by rw [List.length_take]; omega)]
          rw [hsub]
          refine ⟨by simp; omega, P.length - (k + 1), by omega, k + 1, rfl, by omega, rfl, ?_, he2⟩
          rw [hst, if_pos hp95]
        · refine ⟨P.length - (k + 1), by omega, k + 1, by rw [wrap_nat (by omega)], by omega, rfl, ?_, he2⟩
          rw [hst, if_neg (fun hh => g1 ((u8_int P[k] 95).2 hh)), List.append_nil]
      · have hkk : k = P.length := by omega
        rw [hkk, List.take_length, List.take_of_length_le (by omega)]
        refine JoinE_spec (hW.ext he2) hcw (by omega) (by have := flatten_len h70; omega) fun w42 e42 => ⟨_, rfl, ?_⟩
        rw [hcut]
        simp only [decide_true, br_t]
        exact aw _ (ext_trans he2 e42) h
    refine br_split (fun hh => absurd rfl hh) (fun _ => br_split (fun hh => absurd rfl hh) (fun _ => ?_))
    simp only [Bool.not_true, br_f]
    refine Check22_spec M hsM (hsl6.ext (ext_trans (ext_trans (ext_trans e13 e17) e21) e25)) (hF.ext E25) fun w48 e48 => ⟨_, rfl, ?_⟩
    rw [hcm]
    exact br_split (fun hh => absurd rfl hh) (fun _ => k28 _ (ext_trans E25 e48))
  refine Great_spec hf0 fun w51 e51 => ⟨_, rfl, br_cases (fun _ => aw _ e51 h) (fun hgr => ?_)⟩
  refine br_split (fun _ => aw _ e51 h) (fun g8 => ?_)
  refine ContainsFuncS_spec (q := fun s => decide ((70 : Int) < (s.length : Int))) (J := fun _ => True) (hW.ext e51) (by omega) ?_ trivial (fun _ _ _ _ => trivial) fun w60 e60 => ⟨_, rfl, br_cases (fun _ => aw _ (ext_trans e51 e60) h) (fun ga => ?_)⟩
  · intro s hs W K _ hK
    refine ⟨by kernel_rfl, ?_⟩
    exact c_law12_LegibilitySupplies_1 (hK _ (Below.refl _ _))
  · refine k3 _ (ext_trans e51 e60) hgr (by omega) fun s hs => ?_
    have := List.any_eq_false.1 ga s hs
    simp at this
    omega
end Go.Proofs
namespace Go.Sh
open Go Go.RowKit

/- an iterator whose caller's body may write blocks of its own, new ones among them: S, as it stands -/
def IterW {α : Type} (P : Program) (gf : FuncId) (cap : List Value) (xs : List α) (E : α → List Value → Prop) (Rd Wr : Nat → Prop) (w : World) : Prop :=
  ∀ (yf : Fn) (ya yb : Array Value) (S0 : Nat → Prop) (J : List α → (Nat → Prop) → World → Prop) (Jx : (Nat → Prop) → World → Prop) (R : Ending → World → Prop),
    (∀ k, S0 k → k < w.heap.size ∧ ¬ Rd k) →
    (∀ pre S W W', J pre S W → Chg (fun k => (w.heap.size ≤ k ∧ ¬ S k) ∨ Wr k) W W' → J pre S W') → (∀ S W W', Jx S W → Chg (fun k => (w.heap.size ≤ k ∧ ¬ S k) ∨ Wr k) W W' → Jx S W') →
    (∀ pre x vs S W, E x vs → pre ++ [x] <+: xs → w.heap.size ≤ W.heap.size → (∀ k, S k → k < W.heap.size ∧ ¬ Rd k) → J pre S W → CallV P (.func yf ya yb) vs W fun e W' => Chg S W W' ∧
      ∃ S' : Nat → Prop, (∀ k, S' k → (S k ∨ W.heap.size ≤ k) ∧ k < W'.heap.size) ∧ ((e = .returned (.bool true) ∧ J (pre ++ [x]) S' W') ∨ (e = .returned (.bool false) ∧ Jx S' W'))) →
    J [] S0 w → (∀ S W, w.heap.size ≤ W.heap.size → J xs S W → R (.returned (.tuple ⟨[]⟩)) W) → (∀ S W, w.heap.size ≤ W.heap.size → Jx S W → R (.returned (.tuple ⟨[]⟩)) W) →
    Calls P gf ⟨.func yf ya yb :: cap⟩ w R
theorem IterW.mono {α : Type} {P : Program} {gf : FuncId} {cap : List Value} {xs : List α} {E E' : α → List Value → Prop} {Rd Wr : Nat → Prop} {w : World} (h : IterW P gf cap xs E Rd Wr w) (hE : ∀ x vs, E x vs → E' x vs) : IterW P gf cap xs E' Rd Wr w :=
  fun yf ya yb S0 J Jx R hS hJ hJx hbody h0 h1 h2 => h yf ya yb S0 J Jx R hS hJ hJx (fun pre x vs S W he => hbody pre x vs S W (hE _ _ he)) h0 h1 h2

theorem RFw_lawW {α : Type} {P : Program} {N : Nat} {g : Operand} {ps : Array Tmp} {assign body : Code} {env : Env} {ds : List Deferred} {w : World} {x : Nat} {Qn Qr Qx : List Deferred → World → Prop}
    (xA xB : Ann) {gf : FuncId} {cap : List Value} (hg : ev env g = .func (.func gf) ⟨[]⟩ ⟨cap⟩) (hok : okFn P gf = true)
    {xs : List α} {E : α → List Value → Prop} {Rd Wr : Nat → Prop} (hWR : ∀ k, Wr k → Rd k) (hit : ∀ w1, Ext w w1 → IterW P gf cap xs E Rd Wr w1)
    (hps : ∀ y vs, E y vs → vs.length = ps.size) (hpN : ∀ p ∈ ps.toList, p < N)
    (hRd : ∀ k, Rd k → k < w.heap.size) (S0 : Nat → Prop) (hS : ∀ k, S0 k → k < w.heap.size ∧ ¬ Rd k)
    (I : List α → (Nat → Prop) → World → Prop) (Kr Kx : (Nat → Prop) → World → Prop)
    (hI : ∀ pre S W W', I pre S W → Chg (fun k => (w.heap.size ≤ k ∧ ¬ S k) ∨ Wr k) W W' → I pre S W')
    (hKr : ∀ S W W', Kr S W → Chg (fun k => (w.heap.size ≤ k ∧ ¬ S k) ∨ Wr k) W W' → Kr S W') (hKx : ∀ S W W', Kx S W → Chg (fun k => (w.heap.size ≤ k ∧ ¬ S k) ∨ Wr k) W W' → Kx S W')
    (h0 : I [] S0 w)
    (hround : ∀ pre y vs S W l, E y vs → pre ++ [y] <+: xs → w.heap.size ≤ l → l < W.heap.size → ¬ S l → (∀ k, S k → k < W.heap.size ∧ ¬ Rd k) → I pre S W →
      fragV P N xA xB assign body l x (fun W2 W' => Chg (fun k => S k ∨ W.heap.size ≤ k) W2 W' ∧ ∃ S' : Nat → Prop, (∀ k, S' k → (S k ∨ W.heap.size ≤ k) ∧ k < W'.heap.size) ∧ I (pre ++ [y]) S' W')
        (fun W2 W' => Chg (fun k => S k ∨ W.heap.size ≤ k) W2 W' ∧ ∃ S' : Nat → Prop, (∀ k, S' k → (S k ∨ W.heap.size ≤ k) ∧ k < W'.heap.size) ∧ Kr S' W')
        (fun W2 W' => Chg (fun k => S k ∨ W.heap.size ≤ k) W2 W' ∧ ∃ S' : Nat → Prop, (∀ k, S' k → (S k ∨ W.heap.size ≤ k) ∧ k < W'.heap.size) ∧ Kx S' W') (updPs ps.toList vs env) W)
    (hn : ∀ D S W, w.heap.size ≤ D → D < W.heap.size → ¬ S D → W.heap[D]? = some (.deferred (some [])) → I xs S W → Qn ({ target := .collected D, args := #[] } :: ds) W)
    (hr : ∀ D S W, w.heap.size ≤ D → D < W.heap.size → ¬ S D → W.heap[D]? = some (.deferred (some [])) → Kr S W → Qr ({ target := .collected D, args := #[] } :: ds) W)
    (hx : ∀ D S W, w.heap.size ≤ D → D < W.heap.size → ¬ S D → W.heap[D]? = some (.deferred (some [])) → Kx S W → Qx ({ target := .collected D, args := #[] } :: ds) W) :
    RFw P none N (.rangeFunc g ps assign body) env ds w x Qn Qr Qx := by
  intro a ha hd
  refine wpIn_rangeFunc fun fn _ => ?_
  let rec0 : Loop := { state := .ready, pending := none, fn, tmps := a.tmps, params := ps, assign, body, defers := w.heap.size }
  let w1 : World := (w.alloc (.deferred (some []))).alloc (.loop rec0)
  have hw1 : w1.heap.size = w.heap.size + 2 := by simp [w1]
  have hext : Ext w w1 := ((Below.refl _ w).alloc (Nat.le_refl _) _).alloc (by simp) _
  have hD1 : w1.heap[w.heap.size]? = some (.deferred (some [])) := by
    show ((w.alloc _).alloc _).heap[w.heap.size]? = _
    rw [Below.heap_alloc _ _ _ (by simp), World.alloc_heap_new]
  have hl1 : w1.heap[w.heap.size + 1]? = some (.loop rec0) := by
    have := World.alloc_heap_new (w.alloc (.deferred (some []))) (.loop rec0)
    simpa [w1] using this
  have hgv : a.eval g = .func (.func gf) ⟨[]⟩ ⟨cap⟩ := by rw [ha.ev]; exact hg
  refine ⟨w.heap.size + 1, [{ target := .collected w.heap.size, args := #[] }], w1, { target := .fn (.func gf) ⟨cap⟩, args := #[.func (.yield (w.heap.size + 1)) #[] #[]] }, w1, gf,
    ⟨.func (.yield (w.heap.size + 1)) #[] #[] :: cap⟩, w1, run_enterLoop_outer fn a.tmps ps assign body, ?_, fun _ _ => trivial, ?_, fun h => by simp [Fr, Fence.wide] at h, ?_⟩
  · have em : Array.map a.eval #[Operand.const (.func (.yield (w.heap.size + 1)) #[] #[])] = #[.func (.yield (w.heap.size + 1)) #[] #[]] := by simp [Act.eval]
    simp only [resolve, rangeCall, hgv, Deferred.ofValue, em]
    simp
  · have e : (#[.func (.yield (w.heap.size + 1)) #[] #[]] : Array Value) ++ (⟨cap⟩ : Array Value) = ⟨.func (.yield (w.heap.size + 1)) #[] #[] :: cap⟩ := by apply Array.ext'; simp
    simp only [invoke, e]
    exact callFunc_run _ w1 hok
  · show CallsIn Fence.wide 0 P gf _ w1 _
    refine callsIn_wide.2 ?_
    refine hit w1 hext (.yield (w.heap.size + 1)) #[] #[] (fun k => S0 k ∨ k = w.heap.size + 1)
      (fun pre S W => ∃ Sb : Nat → Prop, (∀ k, S k ↔ Sb k ∨ k = w.heap.size + 1) ∧ ¬ Sb (w.heap.size + 1) ∧ ¬ Sb w.heap.size ∧ I pre Sb W ∧ W.heap[w.heap.size + 1]? = some (.loop rec0) ∧ W.heap[w.heap.size]? = some (.deferred (some [])))
      (fun S W => ∃ Sb : Nat → Prop, (∀ k, S k ↔ Sb k ∨ k = w.heap.size + 1) ∧ ¬ Sb (w.heap.size + 1) ∧ ¬ Sb w.heap.size ∧ W.heap[w.heap.size]? = some (.deferred (some [])) ∧ ((W.heap[w.heap.size + 1]? = some (.loop { rec0 with state := .done, pending := some .ret }) ∧ Kr Sb W) ∨
        (W.heap[w.heap.size + 1]? = some (.loop { rec0 with state := .done, pending := some (.exit x) }) ∧ Kx Sb W)))
      _ (fun k hk => hk.elim (fun h => ⟨by have := (hS k h).1; omega, (hS k h).2⟩) (fun h => ⟨by omega, fun hr => by have := hRd k hr; omega⟩)) ?_ ?_ ?_
      ⟨S0, fun k => Iff.rfl, fun h => by have := (hS _ h).1; omega, fun h => by have := (hS _ h).1; omega, hI _ _ _ _ h0 (.of_ext hext), hl1, hD1⟩ ?_ ?_
    · rintro pre S W W' ⟨Sb, hb1, hb2, hb3, h1, h2, h3⟩ hc
      have hlt := (Array.getElem?_eq_some_iff.1 h2).1
      have hlt' := (Array.getElem?_eq_some_iff.1 h3).1
      exact ⟨Sb, hb1, hb2, hb3, hI _ _ _ _ h1 (hc.mono fun k _ hk => hk.imp (fun hk => ⟨by omega, fun hh => hk.2 ((hb1 k).2 (.inl hh))⟩) id), (hc.block _ hlt (fun hh => hh.elim (fun h => by omega) (fun hw => by have := hRd _ (hWR _ hw); omega))).trans h2, (hc.block _ hlt' (fun hh => hh.elim (fun h => by omega) (fun hw => by have := hRd _ (hWR _ hw); omega))).trans h3⟩
    · rintro S W W' ⟨Sb, hb1, hb2, hb3, h3, h⟩ hc
      have hlt' := (Array.getElem?_eq_some_iff.1 h3).1
      have hc' : Chg (fun k => (w.heap.size ≤ k ∧ ¬ Sb k) ∨ Wr k) W W' := hc.mono fun k _ hk => hk.imp (fun hk => ⟨by omega, fun hh => hk.2 ((hb1 k).2 (.inl hh))⟩) id
      have nb : ∀ {j}, w.heap.size ≤ j → j < w1.heap.size → ¬ ((w1.heap.size ≤ j ∧ ¬ S j) ∨ Wr j) := fun h1 h2 hh => hh.elim (fun h => by omega) (fun hw => by have := hRd _ (hWR _ hw); omega)
      refine ⟨Sb, hb1, hb2, hb3, (hc.block _ hlt' (nb (by omega) (by omega))).trans h3, ?_⟩
      rcases h with ⟨h1, h2⟩ | ⟨h1, h2⟩
      · exact .inl ⟨(hc.block _ (Array.getElem?_eq_some_iff.1 h1).1 (nb (by omega) (by omega))).trans h1, hKr _ _ _ h2 hc'⟩
      · exact .inr ⟨(hc.block _ (Array.getElem?_eq_some_iff.1 h1).1 (nb (by omega) (by omega))).trans h1, hKx _ _ _ h2 hc'⟩
    · rintro pre y vs S W hE hpre hsz hSW ⟨Sb, hb1, hb2, hb3, h1, h2, h3⟩
      have hlt := (Array.getElem?_eq_some_iff.1 h2).1
      have hlt' := (Array.getElem?_eq_some_iff.1 h3).1
      refine ⟨_, _, _, _, run_yield h2 (by simp [rec0, hps y vs hE]), ?_⟩
      have hfr := hround pre y vs Sb W (w.heap.size + 1) hE hpre (by omega) hlt hb2 (fun k hk => hSW k ((hb1 k).2 (.inl hk))) h1
      have hrep : Rep N (updPs ps.toList (vs) env) { tmps := (ps.toList.zip (vs)).foldl (fun t (p, v) => t.setIfInBounds p v) a.tmps, defers := [] } :=
        foldl_rep _ _ _ _ ⟨ha.1, ha.2⟩ hpN
      have ezip : (ps.zip (⟨(#[] : Array Value).toList ++ vs⟩ : Array Value)).foldl (fun t (x : Nat × Value) => t.setIfInBounds x.1 x.2) a.tmps = (ps.toList.zip (vs)).foldl (fun t (p, v) => t.setIfInBounds p v) a.tmps := by
        rw [← Array.foldl_toList]
        simp [Array.toList_zip]
      refine roundIn_of_wpIn (F := Fence.wide) (l := w.heap.size + 1) trivial ?_
      show assign.wpIn (Fr (some (w.heap.size + 1))) 0 P _ _ W
      have hva := vc_sound xA assign hfr hrep rfl
      refine wpIn_mono (Eq.mp (by rw [← ezip]) hva) fun e a1 W1 hh => ?_
      obtain ⟨env1, r1, q1, _⟩ := hh
      cases e with
      | normal =>
        obtain ⟨e1, q1⟩ := q1
        have hl' : W1.heap[w.heap.size + 1]? = some (.loop rec0) := (e1.block _ hlt).trans h2
        have hD' : W1.heap[w.heap.size]? = some (.deferred (some [])) := (e1.block _ hlt').trans h3
        refine ⟨_, run_beginRound hl' rfl, ?_⟩
        have hl2 : (W1.putObj (w.heap.size + 1) (.loop { rec0 with state := .busy })).heap[w.heap.size + 1]? = some (.loop { rec0 with state := .busy }) :=
          World.putObj_heap_same (Array.getElem?_eq_some_iff.1 hl').1
        have hD2 : (W1.putObj (w.heap.size + 1) (.loop { rec0 with state := .busy })).heap[w.heap.size]? = some (.deferred (some [])) := (World.putObj_heap_other (by omega)).trans hD'
        have hq := q1 _ (Upd.put (w.heap.size + 1) W1 (.loop { rec0 with state := .busy }))
        have hvb := vc_sound xB body hq r1 rfl
        have hlt1 := (Array.getElem?_eq_some_iff.1 hl').1
        have hWW2 : Chg S W (W1.putObj (w.heap.size + 1) (.loop { rec0 with state := .busy })) :=
          (Chg.of_ext e1).trans (Chg.put _ _ _ ((hb1 _).2 (.inr rfl)))
        generalize W1.putObj (w.heap.size + 1) (.loop { rec0 with state := .busy }) = W2 at hl2 hD2 hvb hWW2 ⊢
        refine wpIn_mono hvb fun e' a' W' hh' => ?_
        obtain ⟨env2, r2, q2, _⟩ := hh'
        have nS : ¬ (Sb (w.heap.size + 1) ∨ W.heap.size ≤ w.heap.size + 1) := fun h => h.elim hb2 (by omega)
        have nS' : ¬ (Sb w.heap.size ∨ W.heap.size ≤ w.heap.size) := fun h => h.elim hb3 (by omega)
        have fin : ∀ (jump : Option Code) (st : LoopState), Chg (fun k => Sb k ∨ W.heap.size ≤ k) W2 W' → ∀ S' : Nat → Prop, (∀ k, S' k → (Sb k ∨ W.heap.size ≤ k) ∧ k < W'.heap.size) → ∀ Z, Z = W'.putObj (w.heap.size + 1) (.loop { rec0 with state := st, pending := jump }) →
            Chg S W Z ∧ (∀ k, (S' k ∨ k = w.heap.size + 1) → (S k ∨ W.heap.size ≤ k) ∧ k < Z.heap.size) ∧ ¬ S' (w.heap.size + 1) ∧ ¬ S' w.heap.size ∧ Z.heap[w.heap.size + 1]? = some (.loop { rec0 with state := st, pending := jump }) ∧ Z.heap[w.heap.size]? = some (.deferred (some [])) ∧
            Chg (fun k => (w.heap.size ≤ k ∧ ¬ S' k) ∨ Wr k) W' Z := by
          intro jump st hc S' hS' Z hZ
          have hl3 := (hc.block _ (Array.getElem?_eq_some_iff.1 hl2).1 nS).trans hl2
          have hD3 := (hc.block _ (Array.getElem?_eq_some_iff.1 hD2).1 nS').trans hD2
          have n1 : ¬ S' (w.heap.size + 1) := fun hh => nS (hS' _ hh).1
          have n2 : ¬ S' w.heap.size := fun hh => nS' (hS' _ hh).1
          have l3 := (Array.getElem?_eq_some_iff.1 hl3).1
          subst hZ
          refine ⟨?_, ?_, n1, n2, World.putObj_heap_same l3, (World.putObj_heap_other (by omega)).trans hD3, Chg.put _ _ _ (.inl ⟨by omega, n1⟩)⟩
          · have hW2' : Chg S W W' := ⟨hc.os.trans hWW2.os, hc.tape.trans hWW2.tape, hc.output.trans hWW2.output, Nat.le_trans hWW2.size hc.size,
              fun k hk hn => (hc.block k (Nat.lt_of_lt_of_le hk hWW2.size) (fun hh => hh.elim (fun h => hn ((hb1 k).2 (.inl h))) (fun h => by omega))).trans (hWW2.block k hk hn)⟩
            exact hW2'.trans (Chg.put _ _ _ ((hb1 _).2 (.inr rfl)))
          · rintro k (hk | rfl)
            · exact ⟨(hS' k hk).1.imp (fun h => (hb1 k).2 (.inl h)) id, by simpa using (hS' k hk).2⟩
            · exact ⟨.inl ((hb1 _).2 (.inr rfl)), by simpa using l3⟩
        have hrec : ∀ (jump : Option Code), Chg (fun k => Sb k ∨ W.heap.size ≤ k) W2 W' → (Instr.endRound (w.heap.size + 1) jump).run P W' = .ok (.bool jump.isNone) (W'.putObj (w.heap.size + 1) (.loop { rec0 with state := if jump.isNone then .ready else .done, pending := jump })) := by
          intro jump hc
          exact run_endRound (r := { rec0 with state := .busy }) jump ((hc.block _ (Array.getElem?_eq_some_iff.1 hl2).1 nS).trans hl2)
        cases e' with
        | normal =>
          obtain ⟨hc, S', hS', hi⟩ := q2
          obtain ⟨f1, f2, f3, f4, f5, f6, f7⟩ := fin none .ready hc S' hS' _ rfl
          exact ⟨_, _, hrec none hc, f1, _, f2, .inl ⟨rfl, S', fun k => Iff.rfl, f3, f4, hI _ _ _ _ hi f7, f5, f6⟩⟩
        | ret =>
          obtain ⟨hc, S', hS', hi⟩ := q2
          obtain ⟨f1, f2, f3, f4, f5, f6, f7⟩ := fin (some .ret) .done hc S' hS' _ rfl
          exact ⟨_, _, hrec (some .ret) hc, f1, _, f2, .inr ⟨rfl, S', fun k => Iff.rfl, f3, f4, f6, .inl ⟨f5, hKr _ _ _ hi f7⟩⟩⟩
        | exit i =>
          simp only [fragQ] at q2
          cases hb : Nat.beq i x <;> rw [hb] at q2
          · exact q2.elim
          have hix := Nat.eq_of_beq_eq_true hb
          subst hix
          obtain ⟨hc, S', hS', hi⟩ := q2
          obtain ⟨f1, f2, f3, f4, f5, f6, f7⟩ := fin (some (.exit i)) .done hc S' hS' _ rfl
          exact ⟨_, _, hrec (some (.exit i)) hc, f1, _, f2, .inr ⟨rfl, S', fun k => Iff.rfl, f3, f4, f6, .inr ⟨f5, hKx _ _ _ hi f7⟩⟩⟩
        | goto l => exact q2.elim
        | panic c => exact q2.elim
        | outgrown => exact q2.elim
      | exit i => exact q1.elim
      | ret => exact q1.elim
      | goto t => exact q1.elim
      | panic c => exact q1.elim
      | outgrown => exact q1.elim
    · rintro S W hsz ⟨Sb, hb1, hb2, hb3, h1, h2, h3⟩
      refine ⟨none, _, run_endLoop h2 (by simp [rec0]), ?_⟩
      have hlt := (Array.getElem?_eq_some_iff.1 h2).1
      refine ⟨rfl, ?_⟩
      show Qn (_ :: a.defers) _
      rw [hd]
      refine hn w.heap.size Sb _ (Nat.le_refl _) (by simp; omega) hb3 ((World.putObj_heap_other (by omega)).trans h3) (hI _ _ _ _ h1 (Chg.put _ _ _ (.inl ⟨by omega, hb2⟩)))
    · rintro S W hsz ⟨Sb, hb1, hb2, hb3, h3, h⟩
      rcases h with ⟨h1, h2⟩ | ⟨h1, h2⟩
      · have hlt := (Array.getElem?_eq_some_iff.1 h1).1
        refine ⟨some .ret, _, run_endLoop h1 (by simp), ?_⟩
        refine wpIn_ret ⟨rfl, ?_⟩
        show Qr (_ :: a.defers) _
        rw [hd]
        exact hr w.heap.size Sb _ (Nat.le_refl _) (by simp; omega) hb3 ((World.putObj_heap_other (by omega)).trans h3) (hKr _ _ _ h2 (Chg.put _ _ _ (.inl ⟨by omega, hb2⟩)))
      · have hlt := (Array.getElem?_eq_some_iff.1 h1).1
        refine ⟨some (.exit x), _, run_endLoop h1 (by simp), ?_⟩
        refine wpIn_exit ⟨rfl, rfl, ?_⟩
        show Qx (_ :: a.defers) _
        rw [hd]
        exact hx w.heap.size Sb _ (Nat.le_refl _) (by simp; omega) hb3 ((World.putObj_heap_other (by omega)).trans h3) (hKx _ _ _ h2 (Chg.put _ _ _ (.inl ⟨by omega, hb2⟩)))
end Go.Sh
namespace Go.Proofs
open Go Go.Sh Go.RowKit

/- the parts of a text: what can, and what cannot, belong to words -/
theorem dropWhile_len {α : Type} (p : α → Bool) : ∀ l : List α, (l.dropWhile p).length ≤ l.length
  | [] => by simp
  | x :: l => by
    have := dropWhile_len p l
    rw [List.dropWhile_cons]
    split
    · simp only [List.length_cons]; omega
    · exact Nat.le_refl _
def inW (c : UInt8) : Bool := decide (kd c = 1) || decide (kd c = 2) || decide (kd c = 3) || decide (kd c = 4)
def chunks : List UInt8 → List (List UInt8)
  | [] => []
  | c :: r => (c :: r.takeWhile fun x => inW x == inW c) :: chunks (r.dropWhile fun x => inW x == inW c)
  termination_by l => l.length
  decreasing_by
    have := dropWhile_len (fun x => inW x == inW c) r
    simp only [List.length_cons]; omega
theorem while_at {p : UInt8 → Bool} : ∀ {r : List UInt8} {m : Nat}, m ≤ r.length → (∀ j (h : j < m) (h2 : m ≤ r.length), p (r[j]'(by omega)) = true) → (∀ h : m < r.length, p r[m] = false) → r.takeWhile p = r.take m ∧ r.dropWhile p = r.drop m
  | [], m, h, _, _ => by simp
  | c :: r, 0, _, _, h3 => by
    have := h3 (by simp)
    simp only [List.getElem_cons_zero] at this
    simp [this]
  | c :: r, m + 1, h1, h2, h3 => by
    have hc := h2 0 (by omega) h1
    simp only [List.getElem_cons_zero] at hc
    obtain ⟨i1, i2⟩ := while_at (p := p) (r := r) (m := m) (by simpa using h1) (fun j hj _ => by simpa using h2 (j + 1) (by omega) h1) (fun h => by have := h3 (by simp only [List.length_cons]; omega); simpa only [List.getElem_cons_succ] using this)
    simp [hc, i1, i2]
theorem chunks_flat (s : List UInt8) : (chunks s).flatten = s := by
  induction hz : s.length using Nat.strongRecOn generalizing s with
  | _ z ih =>
  cases s with
  | nil => simp [chunks]
  | cons c r =>
    rw [chunks, List.flatten_cons, ih _ (by rw [← hz]; have := dropWhile_len (fun x => inW x == inW c) r; simp only [List.length_cons]; omega) _ rfl, List.cons_append, List.takeWhile_append_dropWhile]
section
variable {R : Ending → World → Prop} {w : World}
theorem inWord_spec (b : UInt8) (h : R (.returned (.bool (inW b))) w) : Calls Tryd.prog F_legibility_inWord ⟨[.int .u8 (b.toNat : Int)]⟩ w R := by
  apply c_legibility_inWord
  refine Kind_spec b ⟨_, rfl, ?_⟩
  unfold inW at h
  refine br_split (fun g => ?_) (fun g1 => br_split (fun g => ?_) (fun g2 => br_split (fun g => ?_) (fun g3 => ?_)))
  · simp only [g, decide_true, Bool.true_or] at h; exact h
  · simp only [g, decide_true, Bool.true_or, Bool.or_true] at h; exact h
  · simp only [g, decide_true, Bool.true_or, Bool.or_true] at h; exact h
  · simp only [g1, g2, g3, decide_false, Bool.false_or] at h; exact h
end
set_option maxRecDepth 20000 in
theorem parts_iter (s : List UInt8) (hs : s.length ≤ 4611686018427387904) (b : Nat) (w : World) (hb : Blk w b [.string ⟨⟨s⟩⟩] 9) :
    IterW Tryd.prog F_legibility_parts_1 [.pointer (some ⟨b, 0, none⟩)] (chunks s) (fun x vs => vs = [.string ⟨⟨x⟩⟩]) (fun k => k = b) (fun k => k = b) w := by
  intro yf ya yb S0 J Jx R hS hJ hJx hbody h0 hend hstop
  apply c_legibility_parts_1
  refine ⟨fun W m => ∃ (pre : List (List UInt8)) (t : List UInt8) (S : Nat → Prop), chunks s = pre ++ chunks t ∧ m = t.length ∧ t.length ≤ s.length ∧ Blk W b [.string ⟨⟨t⟩⟩] 9 ∧ J pre S W ∧ (∀ k, S k → k < W.heap.size ∧ k ≠ b) ∧ w.heap.size ≤ W.heap.size,
    ⟨_, [], s, S0, rfl, rfl, Nat.le_refl _, hb, h0, hS, Nat.le_refl _⟩, ?_⟩
  rintro W m ⟨pre, t, S, heq, rfl, hts, hB, hj, hSW, hW⟩ _
  refine dr_ok ⟨t, by rw [hB.cell]; rfl, br_split (fun hlt => ?_) (fun hge => ?_)⟩
  · obtain ⟨c, r, rfl⟩ : ∃ c r, t = c :: r := by
      cases t with
      | nil => simp at hlt
      | cons c r => exact ⟨c, r, rfl⟩
    intro K9 hK9
    have k9 : ∀ (k : Nat) (W2 : World), 1 ≤ k → k ≤ (c :: r).length → (∀ j (hj : j < k) (h2 : k ≤ (c :: r).length), inW ((c :: r)[j]'(by omega)) = inW c) → (∀ h : k < (c :: r).length, inW (c :: r)[k] ≠ inW c) →
        Blk W2 b [.string ⟨⟨c :: r⟩⟩] 9 → J pre S W2 → (∀ k, S k → k < W2.heap.size ∧ k ≠ b) → w.heap.size ≤ W2.heap.size → K9 (k : Int) W2 := by
      intro k W2 hk1 hk2 hall hno hB2 hj2 hS2 hW2
      refine hK9 _ _ fun _ => dr_ok ⟨_, by rw [hB2.cell]; rfl, ?_⟩
      obtain ⟨k, rfl⟩ : ∃ k', k = k' + 1 := ⟨k - 1, by omega⟩
      have hch : chunks (c :: r) = (c :: r).take (k + 1) :: chunks ((c :: r).drop (k + 1)) := by
        obtain ⟨q1, q2⟩ := while_at (p := fun x => inW x == inW c) (r := r) (m := k) (by simpa using hk2) (fun j hj _ => by
          have := hall (j + 1) (by omega) hk2
          simpa using this) (fun h => by
          have := hno (by simpa using h)
          simpa using this)
        rw [chunks, q1, q2]; rfl
      have hl : ((0 : Nat) : Int) = 0 := rfl
      rw [← hl]
      refine ssl_nat (by omega) hk2 ?_
      rw [List.drop_zero]
      refine CallV_mono (hbody pre ((c :: r).take (k + 1)) _ S W2 rfl (by rw [heq, hch]; exact ⟨chunks ((c :: r).drop (k + 1)), by simp⟩) hW2 (fun j hj => hS2 j hj) hj2) ?_
      rintro e W3 ⟨hc3, S', hS', hh⟩
      have z3 := hc3.size
      have hB3 := hc3.blk hB2 (fun hh => (hS2 b hh).2 rfl)
      rcases hh with ⟨rfl, hj3⟩ | ⟨rfl, hj3⟩
      · refine ⟨true, rfl, ?_⟩
        simp only [Bool.not_true, br_f]
        refine dr_ok ⟨_, by rw [hB3.cell]; rfl, ?_⟩
        refine ssl_nat hk2 (Nat.le_refl _) (dr_ok ?_)
        refine stL_one hB3 rfl fun W4 hB4 hc4 s4 => ?_
        rw [List.take_length] at hB4
        have hl4 := hB4.lt
        refine ⟨((c :: r).drop (k + 1)).length, by rw [List.length_drop]; simp only [List.length_cons] at *; omega, pre ++ [(c :: r).take (k + 1)], (c :: r).drop (k + 1), S', by rw [heq, hch]; simp, rfl, by rw [List.length_drop]; omega, hB4,
          hJ _ _ _ _ hj3 (hc4.mono fun j _ hj => .inr hj), fun j hj => ⟨by have := (hS' j hj).2; omega, ?_⟩, by omega⟩
        rcases (hS' j hj).1 with h | h
        · exact (hS2 j h).2
        · have := hB2.lt; omega
      · refine ⟨false, rfl, ?_⟩
        simp only [Bool.not_false, br_t]
        exact hstop S' W3 (by omega) hj3
    have h00 : ∀ j (hj : j < 1) (h2 : 1 ≤ (c :: r).length), inW ((c :: r)[j]'(by omega)) = inW c := by
      intro j hj _
      have : j = 0 := by omega
      subst this
      rfl
    refine ⟨fun i W2 m => ∃ k : Nat, i = k ∧ 1 ≤ k ∧ k ≤ (c :: r).length ∧ m = (c :: r).length - k ∧ (∀ j (hj : j < k) (h2 : k ≤ (c :: r).length), inW ((c :: r)[j]'(by omega)) = inW c) ∧
        Blk W2 b [.string ⟨⟨c :: r⟩⟩] 9 ∧ J pre S W2 ∧ (∀ k, S k → k < W2.heap.size ∧ k ≠ b) ∧ w.heap.size ≤ W2.heap.size,
      ⟨_, 1, rfl, by omega, by simp, rfl, h00, hB, hj, hSW, hW⟩, ?_⟩
    rintro _ W2 m ⟨k, rfl, hk1, hk2, rfl, hall, hB2, hj2, hS2, hW2⟩ _
    have ed := ext_drew W2
    unfold drw
    have hBd := hB2.ext ed
    have hjd : J pre S W2.drew := hJ _ _ _ _ hj2 (Chg.drew W2)
    have hSd : ∀ k, S k → k < W2.drew.heap.size ∧ k ≠ b := fun k hk => by have := hS2 k hk; exact this
    have hWd : w.heap.size ≤ W2.drew.heap.size := hW2
    generalize W2.drew = Wd at *
    refine dr_ok ⟨_, by rw [hBd.cell]; rfl, br_split (fun hl2 => ?_) (fun hg2 => ?_)⟩
    · have hkl : k < (c :: r).length := by omega
      have fin : ∀ {A B : Prop}, ((inW (c :: r)[k] = inW c) → A) → (inW (c :: r)[k] ≠ inW c → B) → br (decide (inW (c :: r)[k] = inW (c :: r)[0])) A B := fun h1 h2 => br_split (fun g => h1 g) (fun g => h2 g)
      have step : br (decide (inW (c :: r)[k] = inW (c :: r)[0])) (∃ m', m' < (c :: r).length - k ∧ ∃ k' : Nat, IntKind.i64.wrap ((k : Int) + 1) = k' ∧ 1 ≤ k' ∧ k' ≤ (c :: r).length ∧ m' = (c :: r).length - k' ∧ (∀ j (hj : j < k') (h2 : k' ≤ (c :: r).length), inW ((c :: r)[j]'(by omega)) = inW c) ∧
          Blk Wd b [.string ⟨⟨c :: r⟩⟩] 9 ∧ J pre S Wd ∧ (∀ k, S k → k < Wd.heap.size ∧ k ≠ b) ∧ w.heap.size ≤ Wd.heap.size) (K9 (k : Int) Wd) := by
        refine fin (fun g => ?_) (fun g => ?_)
        · refine ⟨(c :: r).length - (k + 1), by omega, k + 1, by rw [wrap_nat (by omega)], by omega, by omega, rfl, fun j hj h2 => ?_, hBd, hjd, hSd, hWd⟩
          by_cases hjk : j = k
          · subst hjk; exact g
          · exact hall j (by omega) (by omega)
        · exact k9 k Wd hk1 hk2 hall (fun _ => g) hBd hjd hSd hWd
      have z0 : ((0 : Nat) : Int) = 0 := rfl
      have hl0 : 0 < (c :: r).length := by simp
      have c1 : Wd.cell? ⟨b, 0, none⟩ = some (.string ⟨⟨c :: r⟩⟩) := by rw [hBd.cell]; rfl
      refine dr_ok ⟨_, c1, ?_⟩
      refine sidx_nat hkl ?_
      refine ⟨?_, ?_, trivial⟩
      · refine inWord_spec _ ⟨_, rfl, dr_ok ⟨_, c1, ?_⟩⟩
        rw [← z0]
        refine sidx_nat hl0 ?_
        refine ⟨?_, trivial⟩
        refine inWord_spec _ ?_
        exact ⟨_, rfl, step⟩
      · refine dr_ok ⟨_, c1, ?_⟩
        rw [← z0]
        refine ⟨?_, ?_, trivial⟩
        · refine inWord_spec _ ⟨_, rfl, ?_⟩
          refine sidx_nat hl0 ?_
          refine ⟨?_, trivial⟩
          refine inWord_spec _ ?_
          exact ⟨_, rfl, step⟩
        · refine sidx_nat hl0 ?_
          refine ⟨?_, trivial⟩
          refine inWord_spec _ ⟨_, rfl, ?_⟩
          refine ⟨?_, trivial⟩
          refine inWord_spec _ ?_
          exact ⟨_, rfl, step⟩
    · have hkl : k = (c :: r).length := by omega
      have := k9 k Wd hk1 hk2 hall (fun h => absurd h (by omega)) hBd hjd hSd hWd
      exact ⟨⟨this, trivial⟩, ⟨⟨this, trivial⟩, ⟨⟨this, trivial⟩, trivial⟩, trivial⟩, trivial⟩
  · have ht : t = [] := by
      cases t with
      | nil => rfl
      | cons c r => simp at hge
    subst ht
    have : chunks s = pre := by rw [heq, chunks]; simp
    rw [this] at hend
    exact hend S W hW hj
end Go.Proofs
namespace Go.Sh
open Go Go.RowKit

/- appending a row that stands in a block of its own to a slice variable; the new element and the variable are laid in either order -/
theorem app_cap2 {P : Program} {t ty e : TypeId} {size bytes : Nat} {z : Value} (hT : SlT P t e size bytes z) {B : Nat} {a : Option Addr} {n c : Nat} {xs : List Value} {w : World} {b bz : Nat} {Tv Tz : TypeId}
    (hown : Owns w B e size a n c xs) (hB : B ≤ w.heap.size) (hb : Blk w b [.slice a n c] Tv) (hnb : ¬ Sh.bk a b) (zc vs : List Value) (hbz : Blk w bz zc Tz) (hzc : zc.length = size) (hz1 : ∀ u ∈ zc, u.oneCell' = true) (hvs : vs.length = size) (hv1 : ∀ u ∈ vs, u.oneCell' = true)
    (hlen : n + 1 ≤ 4611686018427387904) (hbytes : (n + 1) * bytes ≤ 140737488355328) {K : World → Prop}
    (hk : ∀ a' c' w', Blk w' b [.slice a' (n + 1) c'] Tv → Owns w' B e size a' (n + 1) c' (xs ++ vs) → Chg (fun k => k = b ∨ Sh.bk a k) w w' → (∀ k, Sh.bk a' k → Sh.bk a k ∨ w.heap.size ≤ k) → K w') :
    app P [t, t] ty (.slice a n c) (.slice (some ⟨bz, 0, none⟩) 1 1) w fun a' n' c' w2 => idx a' n' (n : Int) size fun q =>
      (stL w2 q 0 vs fun w3 => (stL w3 ⟨b, 0, none⟩ 0 [.slice a' n' c'] fun w4 => K w4) ∧ True) ∧
      (stL w2 ⟨b, 0, none⟩ 0 [.slice a' n' c'] fun w3 => (stL w3 q 0 vs fun w4 => K w4) ∧ True) ∧ True := by
  refine app_own2 hT hown hB (S := fun _ => True) zc (by rw [hzc, Nat.one_mul]) (.inr ⟨bz, 0, rfl, trivial, hbz.lt, fun j v hj => by rw [Nat.zero_add, hbz.cell]; exact hj⟩) hz1 hlen hbytes fun a' c' w2 ho hc hn => ?_
  have l := hb.lt
  have hb2 : Blk w2 b [.slice a n c] Tv := hc.blk hb hnb
  have nb' : ¬ Sh.bk a' b := fun hh => (hn b hh).elim hnb (by omega)
  obtain ⟨g, ha, hidx, hst⟩ := ho.storeLast (vs := vs) hzc hvs hv1
  have sub : ∀ k, k < w.heap.size → Sh.bk a' k → Sh.bk a k := fun k hk hb' => (hn k hb').elim id (by omega)
  have tot : ∀ {S1 S2 : Nat → Prop} {w3 w4 : World}, Chg S1 w2 w3 → Chg S2 w3 w4 → (∀ k, S1 k → k = b ∨ Sh.bk a' k) → (∀ k, S2 k → k = b ∨ Sh.bk a' k) → Chg (fun k => k = b ∨ Sh.bk a k) w w4 := by
    intro S1 S2 w3 w4 c3 c4 h3 h4
    have z := hc.size
    have z3 := c3.size
    refine ⟨c4.os.trans (c3.os.trans hc.os), c4.tape.trans (c3.tape.trans hc.tape), c4.output.trans (c3.output.trans hc.output), Nat.le_trans z (Nat.le_trans z3 c4.size), fun k hk hn' => ?_⟩
    have no : ¬ (k = b ∨ Sh.bk a' k) := fun hh => hn' (hh.imp id (sub k hk))
    exact (c4.block k (by omega) fun hh => no (h4 k hh)).trans ((c3.block k (by omega) fun hh => no (h3 k hh)).trans (hc.block k hk fun hh => hn' (.inr hh)))
  refine hidx _ ⟨?_, ?_, trivial⟩
  · refine hst _ fun w3 ho3 hc3 z3 => ⟨?_, trivial⟩
    refine stL_blk (cs := [.slice a n c]) (T := Tv) (hc3.blk hb2 nb') (by simp) (by intro u hu; simp only [List.mem_singleton] at hu; subst hu; rfl) fun w4 b1 b2 b3 b4 b5 b6 => ?_
    have hc4 : Chg (fun k => k = b) w3 w4 := ⟨b4, b5, b6, by omega, fun k' _ hk => b2 k' hk⟩
    exact hk a' c' w4 b1 (ho3.chg hc4 fun k hk he => nb' (he ▸ hk)) (tot hc3 hc4 (fun k h => .inr h) fun k h => .inl h) hn
  · refine stL_blk (cs := [.slice a n c]) (T := Tv) hb2 (by simp) (by intro u hu; simp only [List.mem_singleton] at hu; subst hu; rfl) fun w3 b1 b2 b3 b4 b5 b6 => ⟨?_, trivial⟩
    have hc3 : Chg (fun k => k = b) w2 w3 := ⟨b4, b5, b6, by omega, fun k' _ hk => b2 k' hk⟩
    obtain ⟨g', ha', _, hst'⟩ := (ho.chg hc3 fun k hk he => nb' (he ▸ hk)).storeLast (vs := vs) hzc hvs hv1
    obtain rfl : g' = g := by rw [ha] at ha'; simpa using ha'.symm
    refine hst' _ fun w4 ho4 hc4 z4 => ?_
    exact hk a' c' w4 (hc4.blk b1 nb') ho4 (tot hc3 hc4 (fun k h => .inl h) fun k h => .inr h) hn

/- a list of nodes under way in a variable, its blocks named: S: what it may share, O: its own -/
def OwnG (e : TypeId) (S O : Nat → Prop) (B : Nat) (w : World) (a : Option Addr) (n c : Nat) (f : Fo) : Prop :=
  n = f.len ∧ (∀ k, bk a k → O k) ∧ (∀ k, O k → B ≤ k ∧ k < w.heap.size) ∧ ∃ xs, Owns w B e 4 a n c xs ∧ FoC (fun k => (S k ∨ O k) ∧ ¬ bk a k) w f xs
section
variable {S O : Nat → Prop} {w w' : World} {e : TypeId} {B : Nat} {a : Option Addr} {n c : Nat} {f : Fo}
theorem OwnG.nil (w : World) : OwnG e S (fun _ => False) B w none 0 0 .nil := ⟨rfl, fun k h => by simp [bk] at h, fun k h => h.elim, [], Owns.nil w B e 4, rfl⟩
theorem OwnG.len (h : OwnG e S O B w a n c f) : n = f.len := h.1
theorem OwnG.own (h : OwnG e S O B w a n c f) {k : Nat} (hk : O k) : B ≤ k ∧ k < w.heap.size := h.2.2.1 k hk
theorem OwnG.bk (h : OwnG e S O B w a n c f) {k : Nat} (hk : Sh.bk a k) : O k := h.2.1 k hk
theorem OwnG.chg {T : Nat → Prop} (h : OwnG e S O B w a n c f) (hc : Chg T w w') (hT : ∀ k, T k → k < w.heap.size → ¬ S k ∧ ¬ O k) : OwnG e S O B w' a n c f := by
  obtain ⟨h0, h1, h2, xs, h3, h4⟩ := h
  have z := hc.size
  refine ⟨h0, h1, fun k hk => ⟨(h2 k hk).1, by have := (h2 k hk).2; omega⟩, xs, ?_, h4.keep (fun k hk hl => ⟨hk, hc.block k hl fun ht => ?_⟩) z⟩
  · have h3' := Owns.chg (S := fun k => T k ∧ k < w.heap.size) h3 ⟨hc.os, hc.tape, hc.output, hc.size, fun k hk hn => hc.block k hk fun ht => hn ⟨ht, hk⟩⟩ fun k hk ht => (hT k ht.1 ht.2).2 (h1 k hk)
    exact h3'
  · rcases hk.1 with hh | hh
    · exact (hT k ht hl).1 hh
    · exact (hT k ht hl).2 hh
theorem OwnG.ext (h : OwnG e S O B w a n c f) (hc : Ext w w') : OwnG e S O B w' a n c f := h.chg (T := fun _ => False) (.of_ext hc) fun k h _ => h.elim
theorem OwnG.out (h : OwnG e S O B w a n c f) : SlF (fun k => S k ∨ O k) w a n f := by
  obtain ⟨h0, h1, h2, xs, h3, h4⟩ := h
  refine ⟨h0, xs, ?_, h4.keep (fun k hk _ => ⟨hk.1, rfl⟩) (Nat.le_refl _)⟩
  by_cases hn : 0 < n
  · obtain ⟨g, rfl, hg, hc⟩ := h3.cell hn
    exact .inr ⟨g, 0, rfl, .inr (h1 g (by simp [Sh.bk])), (h3.bk (by simp [Sh.bk])).2, fun j v hj => by rw [Nat.zero_add]; exact hc j v hj⟩
  · have hx : xs = [] := List.eq_nil_of_length_eq_zero (by rw [h3.len]; omega)
    exact .inl hx
/- one more node, out of a block that holds zeros -/
theorem OwnG.push {P : Program} {t ty : TypeId} {bytes : Nat} {z : Value} (hT : SlT P t e 4 bytes z) (h : OwnG e S O B w a n c f) (hB : B ≤ w.heap.size) {b bz : Nat} {Tv Tz : TypeId} {zc : List Value} (hb : Blk w b [.slice a n c] Tv) (hnb : ¬ O b)
    (hbz : Blk w bz zc Tz) (hzc : zc.length = 4) (hz1 : ∀ u ∈ zc, u.oneCell' = true) {k : Int} {s : List UInt8} {m : Int} {a' : Option Addr} {c' : Nat} {ps : Fo} {O2 : Nat → Prop}
    (hps : SlF (fun k => S k ∨ O2 k) w a' ps.len ps) (hO2 : ∀ k, O2 k → (B ≤ k ∧ k < w.heap.size) ∧ k ≠ b ∧ ¬ Sh.bk a k) (hSB : ∀ k, S k → k < B) (hlen : n + 1 ≤ 4611686018427387904) (hbytes : (n + 1) * bytes ≤ 140737488355328) (hBb : B ≤ b) {K : World → Prop}
    (hk : ∀ a'' n'' c'' w' (O' : Nat → Prop), Blk w' b [.slice a'' n'' c''] Tv → OwnG e S O' B w' a'' n'' c'' (f.app (.one k s m ps)) → Chg (fun j => j = b ∨ O j) w w' → (∀ j, O' j → O j ∨ O2 j ∨ (w.heap.size ≤ j ∧ j < w'.heap.size)) → K w') :
    app P [t, t] ty (.slice a n c) (.slice (some ⟨bz, 0, none⟩) 1 1) w fun a1 n1 c1 w2 => idx a1 n1 (n : Int) 4 fun q =>
      (stL w2 q 0 [.int .i64 k, .string ⟨⟨s⟩⟩, .int .i64 m, .slice a' ps.len c'] fun w3 => (stL w3 ⟨b, 0, none⟩ 0 [.slice a1 n1 c1] fun w4 => K w4) ∧ True) ∧
      (stL w2 ⟨b, 0, none⟩ 0 [.slice a1 n1 c1] fun w3 => (stL w3 q 0 [.int .i64 k, .string ⟨⟨s⟩⟩, .int .i64 m, .slice a' ps.len c'] fun w4 => K w4) ∧ True) ∧ True := by
  obtain ⟨h0, h1, h2, xs, h3, h4⟩ := h
  refine app_cap2 hT h3 hB hb (fun hh => hnb (h1 b hh)) zc [.int .i64 k, .string ⟨⟨s⟩⟩, .int .i64 m, .slice a' ps.len c'] hbz hzc hz1 rfl (by intro u hu; simp only [List.mem_cons, List.not_mem_nil, or_false] at hu; rcases hu with rfl | rfl | rfl | rfl <;> rfl) hlen hbytes
    fun a'' c'' w' hbl ho hc hn => hk a'' _ c'' w' (fun j => O j ∨ O2 j ∨ Sh.bk a'' j) hbl ⟨?_, fun j hj => .inr (.inr hj), fun j hj => ?_, _, ho, ?_⟩ (hc.mono fun j _ hj => hj.imp id (h1 j)) ?_
  · simp [Fo.one]; exact h0
  · have z := hc.size
    rcases hj with hj | hj | hj
    · exact ⟨(h2 j hj).1, by have := (h2 j hj).2; omega⟩
    · exact ⟨(hO2 j hj).1.1, by have := (hO2 j hj).1.2; omega⟩
    · exact ho.bk hj
  · obtain ⟨_, us, g3, g4⟩ := hps
    have na : ∀ j, j < w.heap.size → ¬ Sh.bk a j → ¬ Sh.bk a'' j := fun j hj hb' hh => (hn j hh).elim hb' (by omega)
    have hs : ∀ j, ((S j ∨ O j) ∧ ¬ Sh.bk a j) → j < w.heap.size → ((S j ∨ O j ∨ O2 j ∨ Sh.bk a'' j) ∧ ¬ Sh.bk a'' j) ∧ w'.heap[j]? = w.heap[j]? := fun j hj hl =>
      ⟨⟨hj.1.imp id fun h => .inl h, na j hl hj.2⟩, hc.block j hl fun hh => hh.elim (fun hb' => hj.1.elim (fun hs => by have := hSB j hs; omega) (fun ho => hnb (hb' ▸ ho))) hj.2⟩
    have hs2 : ∀ j, (S j ∨ O2 j) → j < w.heap.size → ((S j ∨ O j ∨ O2 j ∨ Sh.bk a'' j) ∧ ¬ Sh.bk a'' j) ∧ w'.heap[j]? = w.heap[j]? := fun j hj hl => by
      have nb : j ≠ b ∧ ¬ Sh.bk a j := hj.elim (fun h => ⟨by have := hSB j h; omega, fun hh => by have := (h2 j (h1 j hh)).1; have := hSB j h; omega⟩) (fun h => (hO2 j h).2)
      exact ⟨⟨hj.imp id fun h => .inr (.inl h), na j hl nb.2⟩, hc.block j hl fun hh => hh.elim nb.1 nb.2⟩
    exact (h4.keep hs hc.size).app ⟨a', c', us, [], rfl, g3.keep hs2 hc.size, g4.keep hs2 hc.size, rfl⟩
  · intro j hj
    rcases hj with hj | hj | hj
    · exact .inl hj
    · exact .inr (.inl hj)
    · rcases hn j hj with h' | h'
      · exact .inl (h1 j h')
      · exact .inr (.inr ⟨h', (ho.bk hj).2⟩)
end

/- the marks of ranges over functions, that a call lays down when it leaves -/
def marks (Dl : List Nat) : List Deferred := Dl.map fun D => { target := .collected D, args := #[] }
theorem retD_marks {K : World → Prop} : ∀ (Dl : List Nat) (W : World), Dl.Nodup → (∀ D ∈ Dl, W.heap[D]? = some (.deferred (some []))) → (∀ W', Chg (fun k => k ∈ Dl) W W' → K W') → retD (marks Dl) W K
  | [], W, _, _, h => h W (Chg.refl _ _)
  | D :: Dl, W, hn, hD, h => by
    rw [List.nodup_cons] at hn
    refine ⟨D, rfl, hD D (by simp), retD_marks Dl _ hn.2 (fun D' hD' => ?_) fun W' hc => h W' ?_⟩
    · rw [World.putObj_heap_other (fun e : D' = D => hn.1 (by rw [← e]; exact hD'))]; exact hD D' (by simp [hD'])
    · exact (Chg.put W D _ (by simp)).trans (hc.mono fun k _ hk => by simp [hk])
end Go.Sh
namespace Go.Proofs
open Go Go.Sh Go.RowKit

/- words that are abbreviations -/
def flushF (f : Fo) (rest : List UInt8) : Fo := if rest = [] then f else f.app (.one 1 rest 0 .nil)
def stepD (full : List UInt8 → Option (List UInt8)) (st : Fo × List UInt8) (x : List UInt8) : Fo × List UInt8 := match full x with
  | none => (st.1, st.2 ++ x)
  | some u => ((flushF st.1 st.2).app (.one 10 x 0 (.one 1 u 0 .nil)), [])
def divS (full : List UInt8 → Option (List UInt8)) (f : Fo) (l : List (List UInt8)) : Fo × List UInt8 := l.foldl (stepD full) (f, [])
def divT (full : List UInt8 → Option (List UInt8)) (f : Fo) (t : List UInt8) : Fo := flushF (divS full f (chunks t)).1 (divS full f (chunks t)).2
def expA (full : List UInt8 → Option (List UInt8)) : Fo → Fo → Fo
  | .nil, out => out
  | .cons k t n ps r, out => expA full r (if k ≠ 1 then out.app (.one k t n (if k ≠ 10 then expA full ps .nil else ps)) else divT full out t)
theorem divS_snoc (full) (f : Fo) (l : List (List UInt8)) (x : List UInt8) : divS full f (l ++ [x]) = stepD full (divS full f l) x := by unfold divS; rw [List.foldl_append]; rfl
theorem divS_rest (full) (f : Fo) (l : List (List UInt8)) : (divS full f l).2.length ≤ l.flatten.length := by
  induction l using snoc_ind with
  | h0 => simp [divS]
  | h1 l x ih =>
    rw [divS_snoc]
    rw [List.flatten_append, List.length_append]
    unfold stepD
    split
    · simp only [List.length_append, List.flatten_cons, List.flatten_nil, List.append_nil]; omega
    · simp only [List.length_nil]; omega
theorem divS_len (full) (f : Fo) (l : List (List UInt8)) : (divS full f l).1.len ≤ f.len + 2 * l.length := by
  induction l using snoc_ind with
  | h0 => simp [divS]
  | h1 l x ih =>
    rw [divS_snoc]
    unfold stepD
    split
    · simp; omega
    · simp only [flushF]
      split <;> simp [Fo.one] <;> omega

/- the list under way and the text that is left -/
def StX (S O : Nat → Prop) (B b48 b4 : Nat) (W : World) (f : Fo) (rest : List UInt8) : Prop :=
  ∃ oa oc, Blk W b48 [.string ⟨⟨rest⟩⟩] 9 ∧ Blk W b4 [.slice oa f.len oc] 22 ∧ OwnG 37 S O B W oa f.len oc f ∧ ¬ O b48 ∧ ¬ O b4
theorem StX.chg {S O : Nat → Prop} {B b48 b4 : Nat} {W W' : World} {f : Fo} {rest : List UInt8} {T : Nat → Prop} (h : StX S O B b48 b4 W f rest) (hc : Chg T W W') (hT : ∀ k, T k → k < W.heap.size → k ≠ b48 ∧ k ≠ b4 ∧ ¬ S k ∧ ¬ O k) : StX S O B b48 b4 W' f rest := by
  obtain ⟨oa, oc, h1, h2, h3, h4, h5⟩ := h
  exact ⟨oa, oc, hc.blk h1 (fun hh => (hT _ hh h1.lt).1 rfl), hc.blk h2 (fun hh => (hT _ hh h2.lt).2.1 rfl), h3.chg hc fun k hk hl => (hT k hk hl).2.2, h4, h5⟩
theorem zero4 : ∀ u ∈ ([.int .i64 0, .string ⟨⟨[]⟩⟩, .int .i64 0, .slice none 0 0] : List Value), u.oneCell' = true := by
  intro u hu; simp only [List.mem_cons, List.not_mem_nil, or_false] at hu; rcases hu with rfl | rfl | rfl | rfl <;> rfl

set_option maxRecDepth 20000 in
theorem flush_spec {R : Ending → World → Prop} {S O : Nat → Prop} {B b48 b4 : Nat} {W : World} {f : Fo} {rest : List UInt8} (h : StX S O B b48 b4 W f rest) (hSB : ∀ k, S k → k < B) (hB4 : B ≤ b4) (hB48 : B ≤ b48) (hne : b4 ≠ b48) (hlen : f.len ≤ 1000000000)
    (hk : ∀ W' (O' : Nat → Prop), StX S O' B b48 b4 W' (flushF f rest) [] → Chg (fun j => j = b48 ∨ j = b4 ∨ O j) W W' → (∀ j, O' j → O j ∨ (W.heap.size ≤ j ∧ j < W'.heap.size)) → R (.returned (.tuple ⟨[]⟩)) W') :
    Calls Tryd.prog F_legibility_Expand_1_1 ⟨[.pointer (some ⟨b48, 0, none⟩), .pointer (some ⟨b4, 0, none⟩)]⟩ W R := by
  obtain ⟨oa, oc, h1, h2, h3, h4, h5⟩ := h
  apply c_legibility_Expand_1_1
  refine dr_ok ⟨_, by rw [h1.cell]; rfl, br_split (fun g => ?_) (fun g => ?_)⟩
  · unfold drw
    have ed := ext_drew W
    have zd : W.drew.heap.size = W.heap.size := rfl
    have k1 := h1.ext ed
    have k2 := h2.ext ed
    have k3 := h3.ext ed
    have hcd : Chg (fun j => j = b48 ∨ j = b4 ∨ O j) W W.drew := .of_ext ed
    generalize W.drew = Wd at *
    have l4 := k2.lt
    have l48 := k1.lt
    refine dr_ok ⟨_, _, _, by rw [k2.cell]; rfl, dr_ok ⟨_, by rw [k1.cell]; rfl, ?_, trivial⟩⟩
    refine al_intro fun b10 w11 hb10 B10 e11 s11 => ?_
    refine ⟨?_, trivial⟩
    refine OwnG.push (ps := .nil) (O2 := fun _ => False) slT_node (k3.ext e11) (by omega) (k2.ext e11) h5 B10 rfl zero4 (SlF.nil none) (fun k hk => hk.elim) hSB (by omega) (by omega) hB4 fun a'' n'' c'' w' O' g1 g2 g3 g4 => ?_
    have q48 : ¬ O' b48 := fun hh => (g4 b48 hh).elim h4 fun hh => hh.elim (fun h => h.elim) (fun h => by omega)
    have q4 : ¬ O' b4 := fun hh => (g4 b4 hh).elim h5 fun hh => hh.elim (fun h => h.elim) (fun h => by omega)
    have r1 := g3.blk (k1.ext e11) (fun hh => hh.elim (fun h => hne h.symm) h4)
    have hn := g2.len
    refine dr_ok (stL_one r1 rfl fun W5 r1' hc5 s5 => ?_)
    have hfl : flushF f rest = f.app (.one 1 rest 0 .nil) := by unfold flushF; rw [if_neg g]
    have z5 := g3.size
    refine hk W5 O' ⟨a'', c'', r1', ?_, ?_, q48, q4⟩ ?_ ?_
    · rw [hfl, ← hn]; exact hc5.blk g1 hne
    · rw [hfl, ← hn]; exact g2.chg hc5 fun k hk _ => ⟨fun hs => by have := hSB k hs; omega, fun ho => q48 (by rw [← hk]; exact ho)⟩
    · exact ((hcd.trans (.of_ext e11)).trans (g3.mono fun k _ hk => .inr hk)).trans (hc5.mono fun k _ hk => .inl hk)
    · intro j hj
      rcases g4 j hj with h | h | h
      · exact .inl h
      · exact h.elim
      · exact .inr ⟨by omega, by omega⟩
  · have g' : rest = [] := Decidable.not_not.1 g
    refine dr_ok (stL_one h1 rfl fun W5 r1' hc5 s5 => ?_)
    have hfl : flushF f rest = f := by unfold flushF; rw [if_pos g']
    refine hk W5 O ⟨oa, oc, r1', hc5.blk (by rw [hfl]; exact h2) hne, ?_, h4, h5⟩ (hc5.mono fun k _ hk => .inl hk) fun j hj => .inl hj
    rw [hfl]
    exact h3.chg hc5 fun k hk _ => ⟨fun hs => by have := hSB k hs; omega, fun ho => h4 (by rw [← hk]; exact ho)⟩
end Go.Proofs
namespace Go.Proofs
open Go Go.Sh Go.RowKit

theorem chunks_len (s : List UInt8) : (chunks s).length ≤ s.length := by
  induction hz : s.length using Nat.strongRecOn generalizing s with
  | _ z ih =>
  cases s with
  | nil => simp [chunks]
  | cons c r =>
    have h1 := dropWhile_len (fun x => inW x == inW c) r
    have h2 := ih _ (by rw [← hz]; simp only [List.length_cons]; omega) (r.dropWhile fun x => inW x == inW c) rfl
    rw [chunks, List.length_cons, ← hz, List.length_cons]; omega
theorem divT_len (full) (f : Fo) (t : List UInt8) : (divT full f t).len ≤ f.len + 2 * t.length + 1 := by
  have h1 := divS_len full f (chunks t)
  have h2 := chunks_len t
  unfold divT flushF
  split
  · omega
  · simp [Fo.one]; omega
theorem prefix_flat {l m : List (List UInt8)} {x : List UInt8} (h : l ++ [x] <+: m) : l.flatten.length + x.length ≤ m.flatten.length := by
  obtain ⟨s, rfl⟩ := h
  simp only [List.flatten_append, List.length_append, List.flatten_cons, List.flatten_nil, List.append_nil]; omega

set_option maxRecDepth 20000 in
theorem Expand_1_spec {full : List UInt8 → Option (List UInt8)} {b43 b8 bm m0 : Nat} :
    ∀ (f : Fo) {R : Ending → World → Prop} {S : Nat → Prop} {w : World} {a : Option Addr} {n c : Nat} (hs : f.size ≤ 1000000) (ht : tlen f ≤ 300000000) (hf0 : SlF S w a n f)
    (B43 : Blk w b43 [.func (.func 69) ⟨[]⟩ ⟨[.pointer (some ⟨b43, 0, none⟩), .pointer (some ⟨b8, 0, none⟩)]⟩] 97) (B8 : Blk w b8 [.map (some bm)] 90) (hM : MapT Tryd.prog 9 eS eS w bm m0 full)
    (h : ∀ a' n' c' w', SlF (fun k => S k ∨ w.heap.size ≤ k) w' a' n' (expA full f .nil) → Ext w w' → R (.returned (.slice a' n' c')) w'),
    Calls Tryd.prog F_legibility_Expand_1 ⟨[.slice a n c, .pointer (some ⟨b43, 0, none⟩), .pointer (some ⟨b8, 0, none⟩)]⟩ w R := by
  intro f
  induction hz : f.size using Nat.strongRecOn generalizing f with
  | _ z ih =>
  intro R S w a n c hs ht hf0 B43 B8 hM h
  apply c_legibility_Expand_1
  have hn := hf0.1
  have hfl := f.len_le_size
  have hf : SlF (fun k => S k ∧ k < w.heap.size) w a n f := hf0.imp fun k hk hl => ⟨hk, hl⟩
  have l43 := B43.lt
  have l8 := B8.lt
  have lm := hM.lt
  refine al_intro fun b4 w5 hb4 B4 e5 s5 => ?_
  refine ⟨fun i ds W m => ∃ (p r out : Fo) (O : Nat → Prop) (oa : Option Addr) (oc : Nat) (Dl : List Nat), f = p.app r ∧ i = p.len ∧ m = r.len ∧ ds = marks Dl ∧ Dl.Nodup ∧ (∀ D ∈ Dl, w.heap.size ≤ D ∧ D ≠ b4 ∧ ¬ O D ∧ W.heap[D]? = some (.deferred (some []))) ∧
      Blk W b4 [.slice oa out.len oc] 22 ∧ OwnG 37 (fun k => S k ∧ k < w.heap.size) O w.heap.size W oa out.len oc out ∧ ¬ O b4 ∧ Ext w W ∧ out.len ≤ 2 * tlen p + 2 * p.len ∧ expA full f .nil = expA full r out,
    ⟨_, .nil, f, .nil, fun _ => False, none, 0, [], rfl, rfl, rfl, rfl, List.nodup_nil, fun D hD => by simp at hD, B4, OwnG.nil w5, id, e5, by simp, rfl⟩, ?_⟩
  rintro _ _ W m ⟨p, r, out, O, oa, oc, Dl, hpr, rfl, rfl, rfl, hDn, hD, G4, hG, hO4, he, hlen, heq⟩ _
  have hwW := he.size
  have hSB : ∀ k, (S k ∧ k < w.heap.size) → k < w.heap.size := fun k hk => hk.2
  have l4 := G4.lt
  refine br_split (fun hlt => ?_) (fun hge => ?_)
  · obtain ⟨k, t, mm, ps, r, rfl⟩ := Fo.next hpr (by omega)
    have hsl := Fo.sub_len hpr
    have hsz := Fo.sub_size hpr
    have htl : tlen f = tlen p + (t.length + tlen ps + tlen r) := by rw [hpr, tlen_app]; rfl
    have e1 : f = (p.app (.one k t mm ps)).app r := by rw [Fo.app_one_app]; exact hpr
    have i1 : IntKind.i64.wrap ((p.len : Int) + 1) = ((p.app (.one k t mm ps)).len : Int) := by rw [wrap_nat (by omega)]; simp [Fo.one]
    have t1 : tlen (p.app (.one k t mm ps)) = tlen p + (t.length + tlen ps) := by rw [tlen_app]; simp [Fo.one, tlen]
    rw [expA] at heq
    obtain ⟨q, a', c', hq, hSq, hql, hN⟩ := (hf.ext he).get hpr
    refine hq _ ⟨k, hN.kind, t, hN.text, mm, hN.num, a', ps.len, c', hN.parts, ?_⟩
    refine al_stL (by simp) (by intro u hu; simp only [List.mem_cons, List.not_mem_nil, or_false] at hu; rcases hu with rfl | rfl | rfl | rfl <;> rfl) fun bx w19 hbx hBx e2 s2 => ?_
    obtain ⟨x0, x1, x2, x3⟩ := blk4 hBx
    have E19 := ext_trans he e2
    have z19 := e2.size
    have nOx : ¬ O bx := fun hh => by have := hG.own hh; omega
    refine ⟨k, x0, br_split (fun g => ?_) (fun g => ?_)⟩
    · rw [if_pos g] at heq
      intro K21 hK21
      -- appending the node
      have k21 : ∀ (W3 : World) (a3 : Option Addr) (c3 : Nat) (ps3 : Fo) (O2 : Nat → Prop), Blk W3 bx [.int .i64 k, .string ⟨⟨t⟩⟩, .int .i64 mm, .slice a3 ps3.len c3] 37 → Ext W W3 → SlF (fun k => (S k ∧ k < w.heap.size) ∨ O2 k) W3 a3 ps3.len ps3 →
          (∀ j, O2 j → W.heap.size ≤ j ∧ j < W3.heap.size) → expA full f .nil = expA full r (out.app (.one k t mm ps3)) → K21 W3 := by
        intro W3 a3 c3 ps3 O2 hB3 he3 hsl3 hO2 heq3
        refine hK21 _ fun _ => ?_
        unfold drw
        have ed := ext_trans he3 (ext_drew W3)
        have zd : W3.drew.heap.size = W3.heap.size := rfl
        have hBd := hB3.ext (ext_drew W3)
        have hsd := hsl3.ext (ext_drew W3)
        generalize W3.drew = Wd at *
        obtain ⟨y0, y1, y2, y3⟩ := blk4 hBd
        have Gd := G4.ext ed
        have zz := ed.size
        refine ⟨oa, _, oc, by rw [Gd.cell]; rfl, k, y0, t, y1, mm, y2, a3, _, c3, y3, ?_, trivial⟩
        refine al_intro fun b29 w30 hb29 B29 e30 s30 => ?_
        refine ⟨?_, trivial⟩
        refine OwnG.push (ps := ps3) (O2 := O2) slT_node ((hG.ext ed).ext e30) (by omega) (Gd.ext e30) hO4 B29 rfl zero4 (hsd.ext e30) (fun j hj => ⟨⟨by have := hO2 j hj; omega, by have := hO2 j hj; omega⟩, by have := hO2 j hj; omega, fun hh => by have := hG.own (hG.bk hh); have := hO2 j hj; omega⟩) hSB (by omega) (by omega) (by omega) fun a5 n5 c5 w5' O' f1 f2 f3 f4 => ?_
        have hn5 := f2.len
        subst hn5
        have ee30 := ext_trans ed e30
        have zf3 := f3.size
        refine ⟨r.len, by simp, _, r, _, O', a5, c5, Dl, e1, i1, rfl, rfl, hDn, fun D hDD => ?_, f1, f2, ?_, ?_, ?_, heq3⟩
        · obtain ⟨d1, d2, d3, d4⟩ := hD D hDD
          have dl := (Array.getElem?_eq_some_iff.1 d4).1
          refine ⟨d1, d2, fun hh => ?_, ?_⟩
          · rcases f4 D hh with h' | h' | h'
            · exact d3 h'
            · have := hO2 D h'; omega
            · omega
          · rw [f3.block D (by have := ee30.size; omega) (fun hh => hh.elim d2 d3), ee30.block D dl]; exact d4
        · intro hh
          rcases f4 _ hh with h' | h' | h'
          · exact hO4 h'
          · have := hO2 _ h'; omega
          · omega
        · exact ext_chgS (ext_trans he ee30) f3 fun j hj => hj.elim (fun e => by omega) fun ho => (hG.own ho).1
        · rw [t1]; simp [Fo.one]; omega
      refine ⟨k, x0, br_split (fun g10 => ?_) (fun g10 => ?_)⟩
      · rw [if_pos g10] at heq
        refine dr_ok ⟨.func 69, ⟨[]⟩, ⟨[.pointer (some ⟨b43, 0, none⟩), .pointer (some ⟨b8, 0, none⟩)]⟩, by rw [(B43.ext E19).cell]; rfl, a', ps.len, c', x3, by kernel_rfl, ?_⟩
        refine ih _ (hz ▸ hsz) ps rfl (S := fun k => S k ∧ k < w.heap.size) (by omega) (by omega) (hN.sl.ext e2) (B43.ext E19) (B8.ext E19) (hM.ext E19) fun a3 n3 c3 w45 hsl3 e45 => ⟨_, _, _, rfl, ?_⟩
        have hn3 := hsl3.1
        subst hn3
        have hBx3 := hBx.ext e45
        rw [add_none]
        refine stL_blk hBx3 (by simp) (by intro u hu; simp only [List.mem_singleton] at hu; subst hu; rfl) fun w47 b1 b2 b3' b4' b5 b6 => ?_
        simp only [putAt, List.set] at b1
        have hc47 : Chg (· = bx) w45 w47 := ⟨b4', b5, b6, by omega, fun k _ hk => b2 k hk⟩
        have z45 := e45.size
        have z47 := hc47.size
        refine k21 w47 a3 c3 _ (fun j => w19.heap.size ≤ j ∧ j < w47.heap.size) b1 (ext_chgS (ext_trans e2 e45) hc47 fun j hj => by omega) ?_ (fun j hj => ⟨by omega, hj.2⟩) heq
        have := hsl3.chg hc47 (fun j hj he => by subst he; rcases hj with hj | hj <;> omega)
        exact this.imp fun j hj hl => hj.imp id fun h' => ⟨h', hl⟩
      · rw [if_neg g10] at heq
        exact k21 w19 a' c' ps (fun _ => False) hBx e2 ((hN.sl.ext e2).imp fun j hj _ => .inl hj) (fun j hj => hj.elim) heq
    · -- a text
      rw [if_neg g] at heq
      refine al_intro fun b48 w49 hb48 B48 e49 s49 => ?_
      refine stL_one B48 rfl fun w50 C48 hc50 s50 => ?_
      refine al_intro fun b51 w52 hb51 B51 e52 s52 => ?_
      refine stL_one B51 rfl fun w53 C51 hc53 s53 => ?_
      have e50 : Ext w19 w50 := ext_chgS e49 hc50 fun k hk => by omega
      have e52' := ext_trans e50 e52
      have e53 : Ext w19 w53 := ext_chgS e52' hc53 fun k hk => by have := e50.size; omega
      have D48 := hc53.blk (C48.ext e52) (by omega)
      refine ⟨t, by rw [add_none, (hBx.ext e53).cell]; rfl, ?_⟩
      apply c_legibility_parts
      refine al_intro fun bp w56 hbp Bp e56 s56 => ?_
      refine ⟨.func 97, ⟨[]⟩, ⟨[.pointer (some ⟨bp, 0, none⟩)]⟩, rfl, fun base => ?_⟩
      have F56 := ext_trans e53 e56
      have FW := ext_trans e2 F56
      have Fw := ext_trans he FW
      have H48 := D48.ext e56
      have H51 := C51.ext e56
      have H4 := G4.ext FW
      have HG := hG.ext FW
      have z1 := e2.size
      have z2 := F56.size
      have z3 := e53.size
      have z4 := e50.size
      have z56 := e56.size
      have n48 : ¬ O b48 := fun hh => by have := hG.own hh; omega
      have lbp := Bp.lt
      have l48 := H48.lt
      have l51 := H51.lt
      rw [cd_legibility_Expand_1_1]
      refine RFw_lawW anA_legibility_Expand_1_1 anB_legibility_Expand_1_1 (gf := F_legibility_parts_1) rfl (by kernel_rfl) (xs := chunks t) (E := fun x vs => vs = [.string ⟨⟨x⟩⟩]) (Rd := fun k => k = bp) (Wr := fun k => k = bp) (fun k hk => hk)
        (fun w1 hw1 => parts_iter t (by omega) bp w1 (Bp.ext hw1)) (fun y vs hE => by rw [hE]; rfl) (by decide) (fun k hk => by omega)
        (fun k => k = b48 ∨ k = b4 ∨ O k) (fun k hk => ?_)
        (fun pre S1 W1 => ∃ O1 : Nat → Prop, StX (fun k => S k ∧ k < w.heap.size) O1 w.heap.size b48 b4 W1 (divS full out pre).1 (divS full out pre).2 ∧ (∀ k, S1 k ↔ k = b48 ∨ k = b4 ∨ O1 k) ∧
          Chg (fun k => k = b48 ∨ k = b4 ∨ O k ∨ k = bp ∨ w56.heap.size ≤ k) w56 W1 ∧ (∀ k, O1 k → O k ∨ w56.heap.size ≤ k))
        (fun _ _ => False) (fun _ _ => False) ?_ (fun _ _ _ h => h.elim) (fun _ _ _ h => h.elim) ⟨O, ⟨oa, oc, H48, H4, HG, n48, hO4⟩, fun k => Iff.rfl, Chg.refl _ _, fun k hk => .inl hk⟩ ?_ ?_ (fun _ _ _ _ _ _ _ h => h.elim) (fun _ _ _ _ _ _ _ h => h.elim)
      · rcases hk with rfl | rfl | hk
        · exact ⟨by omega, by omega⟩
        · exact ⟨by omega, by omega⟩
        · have := hG.own hk; exact ⟨by omega, by omega⟩
      · rintro pre S1 W1 W2 ⟨O1, g1, g2, g3, g4⟩ hc
        refine ⟨O1, g1.chg hc fun k hk hl => ?_, g2, chg_then g3 hc fun k hk hh => ?_, g4⟩
        · rcases hk with hk | hk
          · have := mt (g2 k).2 hk.2
            simp only [not_or] at this
            exact ⟨this.1, this.2.1, fun hs => by omega, this.2.2⟩
          · refine ⟨by omega, by omega, fun hs => by omega, fun ho => ?_⟩
            rcases g4 k ho with h' | h'
            · have := hG.own h'; omega
            · omega
        · rcases hh with hh | hh
          · omega
          · exact .inr (.inr (.inr (.inl hh)))
      · rintro pre x vs S1 W1 l rfl hpre hl1 hl2 hl3 hS1 ⟨O1, g1, g2, g3, g4⟩
        have hpf := prefix_flat hpre
        rw [chunks_flat] at hpf
        have hrest := divS_rest full out pre
        have hdl := divS_len full out pre
        have hpl : pre.length ≤ t.length := by have h1 := hpre.length_le; have h2 := chunks_len t; simp at h1; omega
        refine Eq.mpr (er_legibility_Expand_1_1 base _ _ _ _ _ _ _ _ _ _ _ _ _ _ _ _ _ _ _ _ _ _) ?_
        refine ⟨Below.refl _ _, fun w81 hU => ?_⟩
        have hUc : Chg (fun k => k = l) W1 w81 := ⟨hU.os, hU.tape, hU.output, by rw [hU.size]; exact Nat.le_refl _, fun k _ hk => hU.block k hk⟩
        have nl := mt (g2 l).2 hl3
        simp only [not_or] at nl
        have g1' : StX (fun k => S k ∧ k < w.heap.size) O1 w.heap.size b48 b4 w81 (divS full out pre).1 (divS full out pre).2 := g1.chg hUc fun k hk _ => by subst hk; exact ⟨nl.1, nl.2.1, fun hs => by omega, nl.2.2⟩
        have g3' := chg_then g3 hUc fun k hk hh => by omega
        have zU : w81.heap.size = W1.heap.size := hU.size
        have zg3 := g3.size
        have k51 := g3'.blk H51 (fun hh => by rcases hh with h' | h' | h' | h' | h' <;> first | omega | (have := hG.own h'; omega))
        have k8 := g3'.blk (B8.ext Fw) (fun hh => by rcases hh with h' | h' | h' | h' | h' <;> first | omega | (have := hG.own h'; omega))
        have km := (hM.ext Fw).chg g3' (fun hh => by rcases hh with h' | h' | h' | h' | h' <;> first | omega | (have := hG.own h'; omega))
        -- what every way ends in
        have fin : ∀ (W' : World) (O' : Nat → Prop), StX (fun k => S k ∧ k < w.heap.size) O' w.heap.size b48 b4 W' (stepD full (divS full out pre) x).1 (stepD full (divS full out pre) x).2 → Chg (fun j => j = b48 ∨ j = b4 ∨ O1 j) w81 W' → (∀ j, O' j → O1 j ∨ (w81.heap.size ≤ j ∧ j < W'.heap.size)) →
            Chg (fun k => S1 k ∨ W1.heap.size ≤ k) w81 W' ∧ ∃ S' : Nat → Prop, (∀ k, S' k → (S1 k ∨ W1.heap.size ≤ k) ∧ k < W'.heap.size) ∧ ∃ O2 : Nat → Prop, StX (fun k => S k ∧ k < w.heap.size) O2 w.heap.size b48 b4 W' (divS full out (pre ++ [x])).1 (divS full out (pre ++ [x])).2 ∧ (∀ k, S' k ↔ k = b48 ∨ k = b4 ∨ O2 k) ∧
              Chg (fun k => k = b48 ∨ k = b4 ∨ O k ∨ k = bp ∨ w56.heap.size ≤ k) w56 W' ∧ (∀ k, O2 k → O k ∨ w56.heap.size ≤ k) := by
          intro W' O' hst hc hO'
          have zc := hc.size
          refine ⟨hc.mono fun k _ hk => .inl ((g2 k).2 hk), fun k => k = b48 ∨ k = b4 ∨ O' k, fun k hk => ?_, O', by rw [divS_snoc]; exact hst, fun k => Iff.rfl, chg_then g3' hc fun k hk hh => ?_, fun k hk => ?_⟩
          · rcases hk with rfl | rfl | hk
            · exact ⟨.inl ((g2 _).2 (.inl rfl)), by omega⟩
            · exact ⟨.inl ((g2 _).2 (.inr (.inl rfl))), by omega⟩
            · rcases hO' k hk with h' | h'
              · have hh := hS1 k ((g2 k).2 (.inr (.inr h')))
                exact ⟨.inl ((g2 k).2 (.inr (.inr h'))), by omega⟩
              · exact ⟨.inr (by omega), h'.2⟩
          · rcases hh with h' | h' | h'
            · exact .inl h'
            · exact .inr (.inl h')
            · rcases g4 k h' with h'' | h''
              · exact .inr (.inr (.inl h''))
              · exact .inr (.inr (.inr (.inr h'')))
          · rcases hO' k hk with h' | h'
            · exact g4 k h'
            · exact .inr (by omega)
        have hxl : x.length ≤ 4611686018427387904 := by omega
        refine dr_ok ⟨_, by rw [k8.cell]; rfl, (full x).getD [], (full x).isSome, ?_, ?_⟩
        · have := km.look2 kd9 Tryd.underlying90 (z := .string ⟨⟨[]⟩⟩) (zero_run (by kernel_rfl) w81) (keyS hxl)
          cases hf : full x with
          | none => rw [hf] at this; exact this
          | some v => rw [hf] at this; exact this
        cases hfx : full x with
        | none =>
          simp only [Option.isSome_none, Bool.not_false, br_t]
          obtain ⟨oa1, oc1, h1, h2, h3, h4, h5⟩ := g1'
          refine dr_ok ⟨_, by rw [h1.cell]; rfl, by omega, dr_ok (stL_one h1 rfl fun W' h1' hc' s' => ?_)⟩
          refine fin W' O1 ?_ (hc'.mono fun j _ hj => .inl hj) (fun j hj => .inl hj)
          have : stepD full (divS full out pre) x = ((divS full out pre).1, (divS full out pre).2 ++ x) := by unfold stepD; rw [hfx]
          rw [this]
          exact ⟨oa1, oc1, h1', hc'.blk h2 (by omega), h3.chg hc' fun k hk _ => ⟨fun hs => by omega, fun ho => h4 (by rw [← hk]; exact ho)⟩, h4, h5⟩
        | some u =>
          simp only [Option.isSome_some, Bool.not_true, br_f, Option.getD_some]
          refine dr_ok ⟨.func 70, ⟨[]⟩, ⟨[.pointer (some ⟨b48, 0, none⟩), .pointer (some ⟨b4, 0, none⟩)]⟩, by rw [k51.cell]; rfl, by kernel_rfl, ?_⟩
          refine flush_spec g1' hSB (by omega) (by omega) (by omega) (by omega) fun w94 O3 hst hc94 hO3 => ⟨rfl, ?_⟩
          have hfll : (flushF (divS full out pre).1 (divS full out pre).2).len ≤ (divS full out pre).1.len + 1 := by unfold flushF; split <;> simp [Fo.one]
          unfold drw
          have ed := ext_drew w94
          have zd : w94.drew.heap.size = w94.heap.size := rfl
          have hst' := hst.chg (Chg.of_ext (S := fun _ => False) ed) fun k hk _ => hk.elim
          have hc95 : Chg (fun j => j = b48 ∨ j = b4 ∨ O1 j) w81 w94.drew := hc94.trans (.of_ext ed)
          generalize w94.drew = w95 at *
          obtain ⟨oa1, oc1, h1, h2, h3, h4, h5⟩ := hst'
          have z95 := hc95.size
          have hstep : stepD full (divS full out pre) x = ((flushF (divS full out pre).1 (divS full out pre).2).app (.one 10 x 0 (.one 1 u 0 .nil)), []) := by unfold stepD; rw [hfx]
          have l95 := h2.lt
          refine dr_ok ⟨_, _, _, by rw [h2.cell]; rfl, ?_, ?_, trivial⟩
          · refine al_intro fun b98 w99 hb98 B98 e99 s99 => ?_
            refine ⟨?_, trivial⟩
            refine al_intro fun b100 w101 hb100 B100 e101 s101 => ?_
            refine ⟨?_, trivial⟩
            have ee := ext_trans e99 e101
            have hps : SlF (fun k => (S k ∧ k < w.heap.size) ∨ k = b98) w101 (some ⟨b98, 0, none⟩) (Fo.one 1 u 0 .nil).len (.one 1 u 0 .nil) :=
              ⟨rfl, _, .inr ⟨b98, 0, rfl, .inr rfl, (B98.ext e101).lt, fun j v hj => by rw [Nat.zero_add, (B98.ext e101).cell]; exact hj⟩, none, 0, [], [], rfl, .inl rfl, rfl, rfl⟩
            refine OwnG.push (ps := .one 1 u 0 .nil) (O2 := fun k => k = b98) slT_node (h3.ext ee) (by omega) (h2.ext ee) h5 B100 rfl zero4 hps (fun j hj => ⟨⟨by omega, by omega⟩, by omega, fun hh => by have := h3.own (h3.bk hh); omega⟩) hSB (by omega) (by omega) (by omega) fun a5 n5 c5 w6 O' f1 f2 f3 f4 => ?_
            have hn5 := f2.len
            subst hn5
            have zf := f3.size
            refine fin w6 O' ?_ ?_ ?_
            · rw [hstep]
              refine ⟨a5, c5, f3.blk (h1.ext ee) (fun hh => hh.elim (fun h => by omega) h4), f1, f2, fun hh => ?_, fun hh => ?_⟩
              · rcases f4 _ hh with h' | h' | h'
                · exact h4 h'
                · omega
                · omega
              · rcases f4 _ hh with h' | h' | h'
                · exact h5 h'
                · omega
                · omega
            · refine chg_then (hc95.trans (.of_ext ee)) f3 fun k hk hh => ?_
              rcases hh with h' | h'
              · exact .inr (.inl h')
              · rcases hO3 k h' with h'' | h''
                · exact .inr (.inr h'')
                · omega
            · intro j hj
              rcases f4 j hj with h' | h' | h'
              · rcases hO3 j h' with h'' | h''
                · exact .inl h''
                · exact .inr ⟨by omega, by omega⟩
              · exact .inr ⟨by omega, by omega⟩
              · exact .inr ⟨by omega, by omega⟩
          · refine al_intro fun b111 w112 hb111 B111 e112 s112 => ?_
            refine ⟨?_, trivial⟩
            refine al_intro fun b98 w101 hb98 B98 e101 s101 => ?_
            refine ⟨?_, trivial⟩
            have ee := ext_trans e112 e101
            have hps : SlF (fun k => (S k ∧ k < w.heap.size) ∨ k = b98) w101 (some ⟨b98, 0, none⟩) (Fo.one 1 u 0 .nil).len (.one 1 u 0 .nil) :=
              ⟨rfl, _, .inr ⟨b98, 0, rfl, .inr rfl, B98.lt, fun j v hj => by rw [Nat.zero_add, B98.cell]; exact hj⟩, none, 0, [], [], rfl, .inl rfl, rfl, rfl⟩
            have zz := e112.size
            refine OwnG.push (ps := .one 1 u 0 .nil) (O2 := fun k => k = b98) slT_node (h3.ext ee) (by omega) (h2.ext ee) h5 (B111.ext e101) rfl zero4 hps (fun j hj => ⟨⟨by omega, by omega⟩, by omega, fun hh => by have := h3.own (h3.bk hh); omega⟩) hSB (by omega) (by omega) (by omega) fun a5 n5 c5 w6 O' f1 f2 f3 f4 => ?_
            have hn5 := f2.len
            subst hn5
            have zf := f3.size
            refine fin w6 O' ?_ ?_ ?_
            · rw [hstep]
              refine ⟨a5, c5, f3.blk (h1.ext ee) (fun hh => hh.elim (fun h => by omega) h4), f1, f2, fun hh => ?_, fun hh => ?_⟩
              · rcases f4 _ hh with h' | h' | h'
                · exact h4 h'
                · omega
                · omega
              · rcases f4 _ hh with h' | h' | h'
                · exact h5 h'
                · omega
                · omega
            · refine chg_then (hc95.trans (.of_ext ee)) f3 fun k hk hh => ?_
              rcases hh with h' | h'
              · exact .inr (.inl h')
              · rcases hO3 k h' with h'' | h''
                · exact .inr (.inr h'')
                · omega
            · intro j hj
              rcases f4 j hj with h' | h' | h'
              · rcases hO3 j h' with h'' | h''
                · exact .inl h''
                · exact .inr ⟨by omega, by omega⟩
              · exact .inr ⟨by omega, by omega⟩
              · exact .inr ⟨by omega, by omega⟩
      · rintro D S1 W1 hD1 hD2 hD3 hD4 ⟨O1, g1, g2, g3, g4⟩
        have nD := mt (g2 D).2 hD3
        simp only [not_or] at nD
        have zg3 := g3.size
        have k51 := g3.blk H51 (fun hh => by rcases hh with h' | h' | h' | h' | h' <;> first | omega | (have := hG.own h'; omega))
        have hdl := divS_len full out (chunks t)
        have hcl := chunks_len t
        have hdt := divT_len full out t
        refine ⟨.func 70, ⟨[]⟩, ⟨[.pointer (some ⟨b48, 0, none⟩), .pointer (some ⟨b4, 0, none⟩)]⟩, by rw [k51.cell]; rfl, by kernel_rfl, ?_⟩
        refine flush_spec g1 hSB (by omega) (by omega) (by omega) (by omega) fun w64 O3 hst hc64 hO3 => ⟨rfl, ?_⟩
        obtain ⟨oa1, oc1, h1, h2, h3, h4, h5⟩ := hst
        have hall := chg_then g3 hc64 fun k hk hh => show k = b48 ∨ k = b4 ∨ O k ∨ k = bp ∨ w56.heap.size ≤ k by
          rcases hh with h' | h' | h'
          · exact .inl h'
          · exact .inr (.inl h')
          · rcases g4 k h' with h'' | h''
            · exact .inr (.inr (.inl h''))
            · exact .inr (.inr (.inr (.inr h'')))
        have hO3' : ∀ k, O3 k → O k ∨ w56.heap.size ≤ k := fun k hk => by
          rcases hO3 k hk with h' | h'
          · exact g4 k h'
          · exact .inr (by omega)
        refine ⟨r.len, by simp, _, r, _, O3, oa1, oc1, D :: Dl, e1, i1, rfl, rfl, ?_, fun D' hD' => ?_, h2, h3, h5, ?_, ?_, ?_⟩
        · rw [List.nodup_cons]
          refine ⟨fun hm => ?_, hDn⟩
          have := (Array.getElem?_eq_some_iff.1 (hD D hm).2.2.2).1
          omega
        · rcases List.mem_cons.1 hD' with rfl | hD'
          · refine ⟨by omega, by omega, fun hh => ?_, ?_⟩
            · rcases hO3 _ hh with h' | h'
              · exact nD.2.2 h'
              · omega
            · rw [hc64.block _ hD2 (fun hh => by rcases hh with h' | h' | h'; exact nD.1 h'; exact nD.2.1 h'; exact nD.2.2 h')]; exact hD4
          · obtain ⟨d1, d2, d3, d4⟩ := hD D' hD'
            have dl := (Array.getElem?_eq_some_iff.1 d4).1
            refine ⟨d1, d2, fun hh => ?_, ?_⟩
            · rcases hO3' _ hh with h' | h'
              · exact d3 h'
              · omega
            · rw [hall.block _ (by omega) (fun hh => by rcases hh with h' | h' | h' | h' | h' <;> first | omega | exact d3 h'), FW.block _ dl]; exact d4
        · exact ext_chgS Fw hall fun k hk => by
            rcases hk with h' | h' | h' | h' | h'
            · omega
            · omega
            · exact (hG.own h').1
            · omega
            · omega
        · show (divT full out t).len ≤ _
          rw [t1]; simp [Fo.one]; omega
        · exact heq
  · obtain ⟨rfl, rfl⟩ := Fo.last hpr (by omega)
    simp only [expA] at heq
    refine ⟨oa, _, oc, by rw [G4.cell]; rfl, ?_⟩
    refine retD_marks Dl W hDn (fun D hDD => (hD D hDD).2.2.2) fun W' hc => ?_
    have ho := (hG.chg hc fun k hk _ => ⟨fun hs => by have := (hD k hk).1; omega, (hD k hk).2.2.1⟩).out
    rw [← heq] at ho
    have hln : out.len = (expA full p .nil).len := by rw [heq]
    rw [← heq]
    refine h oa _ oc W' (ho.imp fun k hk _ => ?_) (ext_chgS he hc fun k hk => (hD k hk).1)
    rcases hk with hk | hk
    · exact .inl hk.1
    · exact .inr (hG.own hk).1
end Go.Proofs
namespace Go.Proofs
open Go Go.Sh Go.RowKit

def badR (p : Rw) : Bool := !isWordF p.1 || (decide (p.2 = []) || decide (checkC p.2 ≠ 0))
def expE (f : Fo) (ps : List Rw) : Int :=
  if errU f ≠ 0 then errU f else if 4096 < ps.length then 4 else if ps.any badR then 24 else checkT (expA (firstE ps) f .nil)
def expR (f : Fo) (ps : List Rw) : Fo := if expE f ps ≠ 0 then .nil else expA (firstE ps) f .nil
theorem expA_len (full) : ∀ (f out : Fo), (expA full f out).size ≤ out.size + 2 * f.size + 6 * tlen f := by
  have dl : ∀ (f : Fo) (l : List (List UInt8)), (divS full f l).1.size ≤ f.size + 3 * l.length := by
    intro f l
    induction l using snoc_ind with
    | h0 => simp [divS]
    | h1 l x ih =>
      rw [divS_snoc]
      unfold stepD
      split
      · simp; omega
      · simp only [flushF]
        split <;> simp [Fo.size_app, Fo.one, Fo.size] <;> omega
  intro f
  induction f with
  | nil => intro out; simp [expA, Fo.size, tlen]
  | cons k t n ps r i1 i2 =>
    intro out
    rw [expA]
    simp only [Fo.size, tlen]
    have h2 := i2 (if k ≠ 1 then out.app (.one k t n (if k ≠ 10 then expA full ps .nil else ps)) else divT full out t)
    have h1 := i1 .nil
    simp only [Fo.size] at h1
    have h3 := dl out (chunks t)
    have h4 := chunks_len t
    have h5 : (divT full out t).size ≤ (divS full out (chunks t)).1.size + 1 := by unfold divT flushF; split <;> simp [Fo.size_app, Fo.one, Fo.size]
    by_cases hk : k = 1
    · rw [if_neg (by simp [hk])] at h2 ⊢
      by_cases ht : t = []
      · have : divT full out t = out := by subst ht; simp [divT, divS, chunks, flushF]
        rw [this] at h2 ⊢
        omega
      · have : 0 < t.length := List.length_pos_iff.2 ht
        omega
    · rw [if_pos hk] at h2 ⊢
      by_cases h10 : k = 10
      · rw [if_neg (by simp [h10])] at h2 ⊢
        simp only [Fo.size_app, Fo.one, Fo.size] at h2
        simp only [Fo.size_app, Fo.one, Fo.size]
        omega
      · rw [if_pos h10] at h2 ⊢
        simp only [Fo.size_app, Fo.one, Fo.size] at h2
        simp only [Fo.size_app, Fo.one, Fo.size]
        omega
theorem isWord_len {s : List UInt8} (h : isWordF s = true) : s.length ≤ 64 := by
  unfold isWordF at h
  simp only [Bool.and_eq_true, decide_eq_true_eq] at h
  exact h.1.1.1.2
set_option maxRecDepth 20000 in
theorem Expand_spec {R : Ending → World → Prop} {S SP : Nat → Prop} {w : World} {a : Option Addr} {n c : Nat} {pa : Option Addr} {pn pc : Nat} {L : List Rw} (f : Fo) (hs : small f) (hF : Forms w) (hf0 : SlF S w a n f) (hP0 : RowAt encR SP w pa pn L)
    (h : ∀ a' n' c' w', SlF (fun k => S k ∨ w.heap.size ≤ k) w' a' n' (expR f L) → Ext w w' → R (.returned (.tuple ⟨[.slice a' n' c', .int .i64 (expE f L)]⟩)) w') : Calls Tryd.prog F_legibility_Expand ⟨[.slice a n c, .slice pa pn pc]⟩ w R := by
  apply c_legibility_Expand
  have er : ∀ e w', expE f L = e → e ≠ 0 → Ext w w' → R (.returned (.tuple ⟨[.slice none 0 0, .int .i64 e]⟩)) w' := by
    intro e w' he h0 hx
    have hr : expR f L = .nil := by unfold expR; rw [if_pos (by rw [he]; exact h0)]
    rw [hr, he] at h
    exact h none 0 0 w' (SlF.nil _) hx
  have hf : SlF (fun k => S k ∧ k < w.heap.size) w a n f := hf0.imp fun k hk hl => ⟨hk, hl⟩
  have hP : RowAt encR (fun k => SP k ∧ k < w.heap.size) w pa pn L := hP0.imp fun k hk hl => ⟨hk, hl⟩
  have hpn := hP.1
  refine checkL_spec f hs hF hf fun w4 e4 => ⟨_, rfl, br_split (fun g => er _ _ (by unfold expE; rw [if_pos g]) g e4) (fun g => ?_)⟩
  have he0 := Decidable.not_not.1 g
  obtain ⟨hc0, _⟩ := errU_zero he0
  obtain ⟨q1, q2, q3⟩ := check_zero hc0
  refine br_split (fun g4 => er 4 _ (by unfold expE; rw [if_neg g, if_pos (by omega)]) (by decide) e4) (fun g4 => ?_)
  have hL : L.length ≤ 4096 := by omega
  refine mkm_intro fun b6 w7 hb6 M6 e7 s7 => ?_
  refine al_intro fun b8 w9 hb8 B8 e9 s9 => ?_
  refine stL_one B8 rfl fun w10 C8 hc10 s10 => ?_
  have e10 : Ext w7 w10 := ext_chgS e9 hc10 fun k hk => by omega
  have E10 := ext_trans (ext_trans e4 e7) e10
  have z4 := e4.size
  have z10 := E10.size
  have hM6 : MapT Tryd.prog 9 eS eS w10 b6 0 (fun _ => none) := (M6 _ _ _ _).ext e10
  refine ⟨fun i W m => ∃ (k : Nat) (f2 : List UInt8 → Option (List UInt8)), i = k ∧ k ≤ L.length ∧ m = L.length - k ∧ MapT Tryd.prog 9 eS eS W b6 k f2 ∧ (∀ s, f2 s = firstE (L.take k) s) ∧ Blk W b8 [.map (some b6)] 90 ∧ Ext w W ∧ (L.take k).any badR = false ∧ w10.heap.size ≤ W.heap.size,
    ⟨_, 0, _, rfl, by omega, rfl, hM6, fun s => rfl, C8, E10, rfl, Nat.le_refl _⟩, ?_⟩
  rintro _ W m ⟨k, f2, rfl, hk, rfl, g2, g2', g8, ge, gb, gz⟩ _
  have l6 := g2.lt
  have l8 := g8.lt
  refine br_split (fun hlt => ?_) (fun hge => ?_)
  · have hkL : k < L.length := by omega
    have htk : L.take (k + 1) = L.take k ++ [L[k]] := take_snoc hkL
    have bad : ∀ W', badR L[k] = true → Ext w W' → R (.returned (.tuple ⟨[.slice none 0 0, .int .i64 24]⟩)) W' := fun W' hb he => er 24 _ (by
      unfold expE
      rw [if_neg g, if_neg (by omega), if_pos (List.any_eq_true.2 ⟨_, List.getElem_mem hkL, hb⟩)]) (by decide) he
    obtain ⟨q, hq, c0, c1⟩ := get_rw (hP.ext ge) hkL
    refine hq _ ⟨_, c0, _, c1, ?_⟩
    refine al_intro fun b19 w20 hb19 B19 e20 s20 => ?_
    refine stL_blk B19 (by simp) (by intro v hv; simp only [List.mem_cons, List.not_mem_nil, or_false] at hv; rcases hv with rfl | rfl <;> rfl) fun w21 B21 hx21 hs21 x4 x5 x6 => ?_
    have hc21 : Chg (fun j => j = b19) w20 w21 := ⟨x4, x5, x6, by omega, fun j _ hj => hx21 j hj⟩
    have e21 : Ext W w21 := ext_chgS e20 hc21 fun j hj => by omega
    have B21' : Blk w21 b19 [.string ⟨⟨L[k].1⟩⟩, .string ⟨⟨L[k].2⟩⟩] 42 := B21
    obtain ⟨d0, d1⟩ := blk2' B21'
    intro K22 hK22
    have k22 : ∀ W3, Ext w21 W3 → badR L[k] = false → isWordF L[k].1 = true → K22 W3 := by
      intro W3 he3 hnb hw
      have hlk : L[k].1.length ≤ 4611686018427387904 := by have := isWord_len hw; omega
      refine hK22 _ fun _ => ?_
      have G2 := (g2.ext e21).ext he3
      have G8 := (g8.ext e21).ext he3
      obtain ⟨y0, y1⟩ := blk2' (B21'.ext he3)
      have GE := ext_trans (ext_trans ge e21) he3
      have z21 := e21.size
      have z3 := he3.size
      have hb' : (L.take (k + 1)).any badR = false := by rw [htk, List.any_append, gb]; simp [hnb]
      refine ⟨_, by rw [G8.cell]; rfl, _, y0, (firstE (L.take k) L[k].1).getD [], (firstE (L.take k) L[k].1).isSome, ?_, ?_⟩
      · have := G2.look2 kd9 Tryd.underlying90 (z := .string ⟨⟨[]⟩⟩) (zero_run (by kernel_rfl) W3) (keyS hlk)
        rw [g2'] at this
        cases hf : firstE (L.take k) L[k].1 with
        | none => rw [hf] at this; exact this
        | some v => rw [hf] at this; exact this
      cases hf : firstE (L.take k) L[k].1 with
      | none =>
        simp only [Option.isSome_none, Bool.not_false, br_t]
        refine ⟨_, by rw [G8.cell]; rfl, _, y0, _, y1, ?_⟩
        refine MapT.update (eV := eS) G2 kd9 (t := 90) (e := 9) Tryd.underlying90 (by simp only [maxLen]; omega) (keyS hlk) (fun y hy => by simpa using hy) fun w31 g31 M31 hc31 hv31 ho31 => ?_
        have hc31' : Chg (fun j => j = b6) W3 w31 := hc31
        refine ⟨L.length - (k + 1), by omega, k + 1, g31, by rw [wrap_nat (by omega)], by omega, rfl, M31, ?_, hc31'.blk G8 (by omega), ext_chgS GE hc31' (fun j hj => by omega), hb', by have := hc31'.size; omega⟩
        intro s
        rw [htk, firstE_new hf]
        by_cases hs : s = L[k].1
        · subst hs; rw [if_pos rfl]; exact hv31
        · rw [if_neg hs, ho31 s hs, g2' s]
      | some v =>
        simp only [Option.isSome_some, Bool.not_true, br_f]
        refine ⟨L.length - (k + 1), by omega, k + 1, f2, by rw [wrap_nat (by omega)], by omega, rfl, G2.mono (by omega), ?_, G8, GE, hb', by omega⟩
        intro s; rw [htk, firstE_old hf]; exact g2' s
    refine ⟨_, d0, ?_⟩
    refine IsWord_spec _ fun w36 e36 => ⟨_, rfl, br_cases (fun gw => bad _ ?_ (ext_trans (ext_trans ge e21) e36)) (fun gw => ?_)⟩
    · unfold badR; rw [gw]; rfl
    have gw' : isWordF L[k].1 = true := by simpa using gw
    obtain ⟨y0, y1⟩ := blk2' (B21'.ext e36)
    refine ⟨_, y1, br_split (fun g0 => bad _ ?_ (ext_trans (ext_trans ge e21) e36)) (fun g0 => ⟨_, y1, ?_⟩)⟩
    · unfold badR; rw [g0]; simp
    refine Check_spec _ fun w41 e41 => ⟨_, rfl, br_split (fun gc => bad _ ?_ (ext_trans (ext_trans (ext_trans ge e21) e36) e41)) (fun gc => k22 _ (ext_trans e36 e41) ?_ gw')⟩
    · unfold badR; simp [gc]
    · unfold badR; rw [gw', decide_eq_false g0, decide_eq_false gc]; rfl
  · have hkk : k = L.length := by omega
    rw [hkk, List.take_length] at gb
    have hf2 : f2 = firstE L := by funext s; rw [g2' s, hkk, List.take_length]
    subst hf2
    refine al_intro fun b43 w44 hb43 B43 e44 s44 => ?_
    refine stL_one B43 rfl fun w45 C43 hc45 s45 => ?_
    have e45 : Ext W w45 := ext_chgS e44 hc45 fun j hj => by omega
    have E45 := ext_trans ge e45
    refine ⟨.func 69, ⟨[]⟩, ⟨[.pointer (some ⟨b43, 0, none⟩), .pointer (some ⟨b8, 0, none⟩)]⟩, by rw [C43.cell]; rfl, by kernel_rfl, ?_⟩
    refine Expand_1_spec f (by omega) (by omega) (hf.ext E45) C43 (g8.ext e45) (g2.ext e45) fun a2 n2 c2 w48 hsl e48 => ⟨_, _, _, rfl, ?_⟩
    have E48 := ext_trans E45 e48
    have hE : expE f L = checkT (expA (firstE L) f .nil) := by unfold expE; rw [if_neg g, if_neg (by omega), if_neg (by simp [gb])]
    have hsz := expA_len (firstE L) f .nil
    simp only [Fo.size] at hsz
    refine Check22_spec _ (by unfold small; omega) hsl (hF.ext E48) fun w51 e51 => ⟨_, rfl, br_split (fun gg => er _ _ hE gg (ext_trans E48 e51)) (fun gg => ?_)⟩
    have h0 := Decidable.not_not.1 gg
    have hr : expR f L = expA (firstE L) f .nil := by unfold expR; rw [if_neg (by rw [hE]; exact gg)]
    have zz := E45.size
    have := h a2 n2 c2 w51 (by
      rw [hr]
      refine (hsl.ext e51).imp fun j hj hl => ?_
      rcases hj with hj | hj
      · exact .inl hj.1
      · exact .inr (by omega)) (ext_trans E48 e51)
    rw [hE, h0] at this
    exact this
end Go.Proofs
namespace Go.Proofs
open Go Go.Sh Go.RowKit

/- chunks of chunks -/
def okCh : List (List UInt8) → Prop
  | [] => True
  | x :: l => (∃ c r, x = c :: r ∧ ∀ y ∈ r, inW y = inW c) ∧ (∀ c r, x = c :: r → ∀ d s, l.flatten = d :: s → inW d ≠ inW c) ∧ okCh l
theorem okCh_append {l m : List (List UInt8)} : okCh (l ++ m) → okCh m := by
  induction l with
  | nil => exact id
  | cons x l ih => exact fun h => ih h.2.2
theorem okCh_prefix {l m : List (List UInt8)} : okCh (l ++ m) → okCh l := by
  induction l with
  | nil => exact fun _ => trivial
  | cons x l ih =>
    intro h
    refine ⟨h.1, fun c r hx d s hl => ?_, ih h.2.2⟩
    exact h.2.1 c r hx d (s ++ m.flatten) (by show (l ++ m).flatten = _; rw [List.flatten_append, hl]; rfl)
theorem while_all {p : UInt8 → Bool} : ∀ {r s : List UInt8}, (∀ y ∈ r, p y = true) → (∀ d s', s = d :: s' → p d = false) → (r ++ s).takeWhile p = r ∧ (r ++ s).dropWhile p = s
  | [], s, _, h2 => by
    cases s with
    | nil => simp
    | cons d s' => have := h2 d s' rfl; simp [this]
  | y :: r, s, h1, h2 => by
    have hy := h1 y (by simp)
    obtain ⟨i1, i2⟩ := while_all (p := p) (r := r) (s := s) (fun z hz => h1 z (by simp [hz])) h2
    simp [hy, i1, i2]
theorem chunks_of_ok : ∀ l : List (List UInt8), okCh l → chunks l.flatten = l
  | [], _ => by simp [chunks]
  | x :: l, h => by
    obtain ⟨⟨c, r, rfl, hr⟩, h2, h3⟩ := h
    rw [List.flatten_cons, List.cons_append, chunks]
    obtain ⟨q1, q2⟩ := while_all (p := fun x => inW x == inW c) (r := r) (s := l.flatten) (fun y hy => by simp [hr y hy]) (fun d s' hs => by have := h2 c r rfl d s' hs; simpa using this)
    rw [q1, q2, chunks_of_ok l h3]
theorem mem_takeWhile {p : UInt8 → Bool} : ∀ {l : List UInt8} {y : UInt8}, y ∈ l.takeWhile p → p y = true
  | [], y, h => by simp at h
  | x :: l, y, h => by
    rw [List.takeWhile_cons] at h
    split at h
    · rename_i hx
      rcases List.mem_cons.1 h with rfl | h
      · exact hx
      · exact mem_takeWhile h
    · simp at h
theorem head_dropWhile {p : UInt8 → Bool} : ∀ {l : List UInt8} {d : UInt8} {s : List UInt8}, l.dropWhile p = d :: s → p d = false
  | [], d, s, h => by simp at h
  | x :: l, d, s, h => by
    rw [List.dropWhile_cons] at h
    split at h
    · exact head_dropWhile h
    · rename_i hx
      rw [List.cons.injEq] at h
      rw [← h.1]; simpa using hx
theorem chunks_ok (s : List UInt8) : okCh (chunks s) := by
  induction hz : s.length using Nat.strongRecOn generalizing s with
  | _ z ih =>
  cases s with
  | nil => simp [chunks, okCh]
  | cons c r =>
    rw [chunks]
    refine ⟨⟨c, _, rfl, fun y hy => by simpa using mem_takeWhile hy⟩, fun c' r' hx d s hl => ?_, ih _ (by rw [← hz]; have := dropWhile_len (fun x => inW x == inW c) r; simp only [List.length_cons]; omega) _ rfl⟩
    rw [List.cons.injEq] at hx
    rw [chunks_flat] at hl
    have := head_dropWhile hl
    rw [← hx.1]
    simpa using this

/- lists that stay as they are -/
def stab (full : List UInt8 → Option (List UInt8)) : Fo → Prop
  | .nil => True
  | .cons k t n ps r => (if k = 1 then t ≠ [] ∧ n = 0 ∧ ps = .nil ∧ ∀ x ∈ chunks t, full x = none else if k = 10 then True else stab full ps) ∧ stab full r
theorem stab_app {full} : ∀ {f g : Fo}, stab full (f.app g) ↔ stab full f ∧ stab full g
  | .nil, g => by simp [stab]
  | .cons k t n ps r, g => by simp only [Fo.cons_app, stab, stab_app (f := r), and_assoc]
theorem div_none (full : List UInt8 → Option (List UInt8)) (f : Fo) : ∀ (l : List (List UInt8)), (∀ x ∈ l, full x = none) → divS full f l = (f, l.flatten) := by
  intro l
  induction l using snoc_ind with
  | h0 => intro _; rfl
  | h1 l x ih =>
    intro h
    rw [divS_snoc, ih fun y hy => h y (by simp [hy])]
    unfold stepD
    rw [h x (by simp)]
    simp
theorem exp_stab {full} : ∀ (f out : Fo), stab full f → expA full f out = out.app f
  | .nil, out, _ => by simp [expA]
  | .cons k t n ps r, out, ⟨h1, h2⟩ => by
    rw [expA]
    by_cases hk : k = 1
    · rw [if_pos hk] at h1
      obtain ⟨a1, a2, a3, a4⟩ := h1
      rw [if_neg (by simp [hk]), exp_stab r _ h2]
      have : divT full out t = out.app (.one 1 t 0 .nil) := by
        unfold divT
        rw [div_none full out (chunks t) a4, chunks_flat]
        unfold flushF
        rw [if_neg a1]
      rw [this, hk, a2, a3, Fo.app_one_app]
    · rw [if_neg hk] at h1
      rw [if_pos hk, exp_stab r _ h2]
      by_cases h10 : k = 10
      · rw [if_neg (by simp [h10]), Fo.app_one_app]
      · rw [if_neg h10] at h1
        rw [if_pos h10, exp_stab ps _ h1, Fo.nil_app, Fo.app_one_app]
theorem div_stab {full} {f : Fo} (hf : stab full f) : ∀ (l : List (List UInt8)), okCh l → stab full (divS full f l).1 ∧ ∃ A B, l = A ++ B ∧ (divS full f l).2 = B.flatten ∧ ∀ x ∈ B, full x = none := by
  intro l
  induction l using snoc_ind with
  | h0 => exact fun _ => ⟨hf, [], [], rfl, rfl, by simp⟩
  | h1 l x ih =>
    intro hok
    obtain ⟨h1, A, B, hl, h2, h3⟩ := ih (okCh_prefix hok)
    rw [divS_snoc]
    unfold stepD
    cases hx : full x with
    | none =>
      refine ⟨h1, A, B ++ [x], by rw [hl, List.append_assoc], by simp [h2], fun y hy => ?_⟩
      rcases List.mem_append.1 hy with h | h
      · exact h3 y h
      · rw [List.mem_singleton.1 h]; exact hx
    | some u =>
      refine ⟨?_, l ++ [x], [], by simp, rfl, by simp⟩
      rw [stab_app]
      refine ⟨?_, by simp [Fo.one, stab]⟩
      unfold flushF
      split
      · exact h1
      · rename_i hr
        rw [stab_app]
        refine ⟨h1, ?_, trivial⟩
        rw [if_pos rfl]
        refine ⟨hr, rfl, rfl, ?_⟩
        rw [h2, chunks_of_ok B (okCh_append (by rw [← hl]; exact okCh_prefix hok))]
        exact h3
theorem divT_stab {full} {f : Fo} (hf : stab full f) (t : List UInt8) : stab full (divT full f t) := by
  obtain ⟨h1, A, B, hl, h2, h3⟩ := div_stab hf (chunks t) (chunks_ok t)
  unfold divT flushF
  split
  · exact h1
  · rename_i hr
    rw [stab_app]
    refine ⟨h1, ?_, trivial⟩
    rw [if_pos rfl]
    refine ⟨hr, rfl, rfl, ?_⟩
    rw [h2, chunks_of_ok B (okCh_append (by rw [← hl]; exact chunks_ok t))]
    exact h3
theorem expA_stab {full} : ∀ (f out : Fo), stab full out → stab full (expA full f out)
  | .nil, out, h => h
  | .cons k t n ps r, out, h => by
    rw [expA]
    refine expA_stab r _ ?_
    by_cases hk : k = 1
    · rw [if_neg (by simp [hk])]; exact divT_stab h t
    · rw [if_pos hk, stab_app]
      refine ⟨h, ?_, trivial⟩
      rw [if_neg hk]
      by_cases h10 : k = 10
      · rw [if_pos h10]; trivial
      · rw [if_neg h10, if_pos h10]; exact expA_stab ps .nil trivial
/- what is written stays -/
theorem div_writ (full) (f : Fo) : ∀ (l : List (List UInt8)), writF (divS full f l).1 ++ (divS full f l).2 = writF f ++ l.flatten := by
  intro l
  induction l using snoc_ind with
  | h0 => rfl
  | h1 l x ih =>
    rw [divS_snoc]
    have e : (l ++ [x]).flatten = l.flatten ++ x := by simp
    rw [e, ← List.append_assoc, ← ih]
    unfold stepD
    cases hx : full x with
    | none => simp
    | some u =>
      simp only [List.append_nil, writF_app]
      have e2 : writF (.one 10 x 0 (.one 1 u 0 .nil)) = x := by simp [Fo.one, writF, writN]
      rw [e2]
      congr 1
      unfold flushF
      split
      · rename_i h0; rw [h0]; simp
      · rw [writF_app]
        congr 1
        simp [Fo.one, writF, writN]
theorem divT_writ (full) (f : Fo) (t : List UInt8) : writF (divT full f t) = writF f ++ t := by
  have h := div_writ full f (chunks t)
  rw [chunks_flat] at h
  rw [← h]
  unfold divT flushF
  split
  · rename_i h0; rw [h0]; simp
  · rw [writF_app]
    congr 1
    simp [Fo.one, writF, writN]
theorem expA_writ (full) : ∀ (f out : Fo), writF (expA full f out) = writF out ++ writF f
  | .nil, out => by simp [expA, writF]
  | .cons k t n ps r, out => by
    rw [expA, expA_writ full r]
    by_cases hk : k = 1
    · rw [if_neg (by simp [hk]), divT_writ]
      simp [writF, writN, hk]
    · rw [if_pos hk, writF_app, List.append_assoc]
      congr 1
      by_cases h10 : k = 10
      · rw [if_neg (by simp [h10])]; simp [Fo.one, writF]
      · rw [if_pos h10]
        have := expA_writ full ps .nil
        simp only [Fo.one, writF, this, List.nil_append, List.append_nil]
/- and so do the kinds -/
theorem allK_app {q : Int → Bool} : ∀ {f g : Fo}, allK q (f.app g) = (allK q f && allK q g)
  | .nil, g => by simp [allK]
  | .cons k t n ps r, g => by simp only [Fo.cons_app, allK, allK_app (f := r), Bool.and_assoc]
theorem div_allK {full} {q : Int → Bool} (h1 : q 1 = true) (h10 : q 10 = true) {f : Fo} (hf : allK q f = true) : ∀ (l : List (List UInt8)), allK q (divS full f l).1 = true := by
  intro l
  induction l using snoc_ind with
  | h0 => exact hf
  | h1 l x ih =>
    rw [divS_snoc]
    unfold stepD
    cases hx : full x with
    | none => exact ih
    | some u =>
      simp only [allK_app, Bool.and_eq_true]
      refine ⟨?_, by simp [Fo.one, allK, h1, h10]⟩
      unfold flushF
      split
      · exact ih
      · rw [allK_app, ih]; simp [Fo.one, allK, h1]
theorem expA_allK {full} {q : Int → Bool} (h1 : q 1 = true) (h10 : q 10 = true) : ∀ (f out : Fo), allK q f = true → allK q out = true → allK q (expA full f out) = true
  | .nil, out, _, h => h
  | .cons k t n ps r, out, hf, h => by
    rw [allK, Bool.and_eq_true, Bool.and_eq_true] at hf
    rw [expA]
    refine expA_allK h1 h10 r _ hf.2.2 ?_
    by_cases hk : k = 1
    · rw [if_neg (by simp [hk])]
      have := div_allK (full := full) h1 h10 h (chunks t)
      unfold divT flushF
      split
      · exact this
      · rw [allK_app, this]; simp [Fo.one, allK, h1]
    · rw [if_pos hk, allK_app, h]
      by_cases h10' : k = 10
      · rw [if_neg (by simp [h10'])]; simp [Fo.one, allK, hf.1, hf.2.1]
      · rw [if_pos h10']
        have := expA_allK (full := full) h1 h10 ps .nil hf.2.1 rfl
        simp [Fo.one, allK, hf.1, this]

/- rewrites that are more than the statements examine -/
def greatR (L : List Rw) : Bool :=
  decide (4099 < L.length) || L.any fun p => decide (30 < p.1.length) || (decide (30 < p.2.length) || (decide (8 < L.length) && (decide (L.length ≤ 4096) || !decide (p = ([], [])))))
set_option maxRecDepth 20000 in
theorem GreatRewrites_spec {R : Ending → World → Prop} {S : Nat → Prop} {w : World} {a : Option Addr} {n c : Nat} {L : List Rw} (h1 : RowAt encR S w a n L)
    (h : R (.returned (.bool (greatR L))) w) : Calls Tryd.prog F_ref12_GreatRewrites ⟨[.slice a n c]⟩ w R := by
  apply c_ref12_GreatRewrites
  have hn := h1.1
  refine br_split (fun g => ?_) (fun g => ?_)
  · have : greatR L = true := by unfold greatR; rw [decide_eq_true (by omega)]; rfl
    rw [this] at h; exact h
  let q : Rw → Bool := fun p => decide (30 < p.1.length) || (decide (30 < p.2.length) || (decide (8 < L.length) && (decide (L.length ≤ 4096) || !decide (p = ([], [])))))
  have hg : greatR L = L.any q := by unfold greatR; rw [decide_eq_false (by omega)]; rfl
  rw [hg] at h
  refine ⟨fun i W m => ∃ k : Nat, i = k ∧ k ≤ n ∧ m = n - k ∧ (L.take k).any q = false ∧ W = w, ⟨_, 0, rfl, by omega, rfl, rfl, rfl⟩, ?_⟩
  rintro _ W m ⟨k, rfl, hk, rfl, hno, rfl⟩ _
  refine br_split (fun hlt => ?_) (fun hge => ?_)
  · have hkL : k < L.length := by omega
    have yes : q L[k] = true → R (.returned (.bool true)) W := fun hq => by rw [List.any_eq_true.2 ⟨_, List.getElem_mem hkL, hq⟩] at h; exact h
    have no : q L[k] = false → ∃ m', m' < n - k ∧ ∃ k' : Nat, IntKind.i64.wrap ((k : Int) + 1) = k' ∧ k' ≤ n ∧ m' = n - k' ∧ (L.take k').any q = false ∧ W = W := fun hq =>
      ⟨n - (k + 1), by omega, k + 1, by rw [wrap_nat (by omega)], by omega, rfl, by rw [take_snoc hkL, List.any_append, hno]; simp [hq], rfl⟩
    obtain ⟨p, hp1, c0, c1⟩ := get_rw h1 hkL
    refine hp1 _ ⟨_, c0, br_split (fun g1 => yes ?_) (fun g1 => hp1 _ ⟨_, c1, br_split (fun g2 => yes ?_) (fun g2 => br_split (fun g3 => br_split (fun g4 => yes ?_) (fun g4 => hp1 _ ⟨_, c0, _, c1, ?_⟩)) (fun g3 => no ?_))⟩)⟩
    · show (decide (30 < _) || _) = true
      rw [decide_eq_true (by omega)]; rfl
    · show (_ || (decide (30 < _) || _)) = true
      rw [decide_eq_true (p := 30 < L[k].2.length) (by omega)]; simp
    · show (_ || (_ || (decide _ && (decide _ || _)))) = true
      rw [decide_eq_true (p := 8 < L.length) (by omega), decide_eq_true (p := L.length ≤ 4096) (by omega)]; simp
    · rw [decRw L[k] ([], [])]
      have hq : q L[k] = !decide (L[k] = ([], [])) := by
        show (decide _ || (decide _ || (decide _ && (decide _ || _)))) = _
        rw [decide_eq_false (p := 30 < L[k].1.length) (by omega), decide_eq_false (p := 30 < L[k].2.length) (by omega), decide_eq_true (p := 8 < L.length) (by omega), decide_eq_false (p := L.length ≤ 4096) (by omega)]
        simp
      refine br_cases (fun g5 => yes (by rw [hq]; exact g5)) (fun g5 => no (by rw [hq]; exact g5))
    · show (decide _ || (decide _ || (decide _ && (decide _ || _)))) = false
      rw [decide_eq_false (p := 30 < L[k].1.length) (by omega), decide_eq_false (p := 30 < L[k].2.length) (by omega), decide_eq_false (p := 8 < L.length) (by omega)]
      rfl
  · rw [List.take_of_length_le (by omega)] at hno
    rw [hno] at h
    exact h

set_option maxRecDepth 20000 in
theorem LegibilityExpands_spec {R : Ending → World → Prop} {S SP : Nat → Prop} {w : World} {a : Option Addr} {n c : Nat} {pa : Option Addr} {pn pc : Nat} (f : Fo) (L : List Rw) (hF : Forms w) (hf0 : SlF S w a n f) (hP : RowAt encR SP w pa pn L)
    (h : ∀ w', Ext w w' → R (.returned (.bool true)) w') : Calls Tryd.prog F_law12_LegibilityExpands ⟨[.slice a n c, .slice pa pn pc]⟩ w R := by
  apply c_law12_LegibilityExpands
  have aw : ∀ {K : Ending → World → Prop} W, Ext w W → (∀ w', Ext w w' → K (.returned (.bool true)) w') → Calls Tryd.prog F_law12_awake ⟨[]⟩ W fun e w' => ∃ x : Bool, e = .returned (.bool x) ∧ K (.returned (.bool x)) w' :=
    fun W hx hK => awake12_spec (hF.ext hx) fun w10 e10 => ⟨_, rfl, hK _ (ext_trans hx e10)⟩
  intro K3 hK3
  have k3 : ∀ W, Ext w W → great10 f = false → K3 W := by
    intro W hE hgr
    have hs := great10_small hgr
    refine hK3 _ fun _ => ?_
    refine Expand_spec f hs (hF.ext hE) (hf0.ext hE) (hP.ext hE) fun a1 n1 c1 w6 hsl6 e6 => ⟨_, _, _, _, rfl, ?_⟩
    have E6 := ext_trans hE e6
    refine br_split (fun g => ?_) (fun g => ?_)
    · have hr : expR f L = .nil := by unfold expR; rw [if_pos g]
      rw [hr] at hsl6
      have : n1 = 0 := hsl6.1
      exact br_split (fun _ => aw _ E6 h) (fun hh => absurd (by omega) hh)
    have h0 := Decidable.not_not.1 g
    have hr : expR f L = expA (firstE L) f .nil := by unfold expR; rw [if_neg g]
    rw [hr] at hsl6
    have h0' := h0
    unfold expE at h0'
    have heu : errU f = 0 := by by_cases q : errU f = 0; exact q; rw [if_pos q] at h0'; exact absurd h0' q
    rw [if_neg (by simp [heu])] at h0'
    have hl4 : ¬ 4096 < L.length := fun hh => by rw [if_pos hh] at h0'; cases h0'
    rw [if_neg hl4] at h0'
    have hbad : ¬ L.any badR = true := fun hh => by rw [if_pos hh] at h0'; cases h0'
    rw [if_neg hbad] at h0'
    obtain ⟨hcf, hclean⟩ := errU_zero heu
    have hst : stab (firstE L) (expA (firstE L) f .nil) := expA_stab f .nil trivial
    have hwr : writF (expA (firstE L) f .nil) = writF f := by rw [expA_writ]; rfl
    have hcl : cleanF (expA (firstE L) f .nil) = true := by
      rw [cleanF_all] at hclean ⊢
      exact expA_allK (by decide) (by decide) f .nil hclean rfl
    have hid : expA (firstE L) (expA (firstE L) f .nil) .nil = expA (firstE L) f .nil := by rw [exp_stab _ _ hst]; rfl
    generalize hM : expA (firstE L) f .nil = M at *
    have heM : errU M = 0 := by unfold errU; rw [if_neg (by simp [h0']), if_pos hcl]
    obtain ⟨m1, m2, m3⟩ := check_zero h0'
    have hsM : small M := by unfold small; omega
    have wE : wriE M = wriE f := by unfold wriE; rw [heM, heu, hwr]
    have wS : wriS M = wriS f := by unfold wriS; rw [wE, hwr]
    have xE : expE M L = 0 := by unfold expE; rw [if_neg (by simp [heM]), if_neg hl4, if_neg hbad, hid, h0']
    have xR : expR M L = M := by unfold expR; rw [if_neg (by simp [xE]), hid]
    refine Written_spec f hs (hF.ext E6) (hf0.ext E6) fun w13 e13 => ⟨_, _, rfl, ?_⟩
    have E13 := ext_trans E6 e13
    refine Written_spec M hsM (hF.ext E13) (hsl6.ext e13) fun w17 e17 => ⟨_, _, rfl, ?_⟩
    have E17 := ext_trans E13 e17
    refine Expand_spec M hsM (hF.ext E17) (hsl6.ext (ext_trans e13 e17)) (hP.ext E17) fun a2 n2 c2 w21 hsl21 e21 => ⟨_, _, _, _, rfl, ?_⟩
    have E21 := ext_trans E17 e21
    rw [wE, wS, xE]
    rw [xR] at hsl21
    intro K24 hK24
    have k24 : ∀ b, K24 b w21 := by
      intro b
      refine hK24 _ _ fun _ => br_cases (fun _ => br_split (fun _ => aw _ E21 h) (fun hh => absurd rfl hh)) (fun _ => br_split (fun _ => br_split (fun _ => ?_) (fun hh => absurd rfl hh)) (fun hh => absurd rfl hh))
      refine Same_spec M (hsl6.ext (ext_trans (ext_trans e13 e17) e21)) hsl21 hsM fun w31 e31 => ⟨_, rfl, ?_⟩
      rw [decide_eq_true rfl]
      simp only [br_t]
      refine Check22_spec M hsM (hsl6.ext (ext_trans (ext_trans (ext_trans e13 e17) e21) e31)) (hF.ext (ext_trans E21 e31)) fun w34 e34 => ⟨_, rfl, ?_⟩
      rw [h0']
      exact br_split (fun _ => aw _ (ext_trans (ext_trans E21 e31) e34) h) (fun hh => absurd rfl hh)
    exact br_split (fun _ => k24 _) (fun _ => k24 _)
  refine Great_spec hf0 fun w40 e40 => ⟨_, rfl, br_cases (fun _ => aw _ e40 h) (fun hgr => ?_)⟩
  refine GreatRewrites_spec (hP.ext e40) ⟨_, rfl, br_cases (fun _ => aw _ e40 h) (fun _ => k3 _ e40 hgr)⟩
end Go.Proofs
