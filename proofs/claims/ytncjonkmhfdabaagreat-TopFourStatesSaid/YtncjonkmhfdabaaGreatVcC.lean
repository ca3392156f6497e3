/- A calculus of verification conditions over the model's code, and its soundness: what a function's condition gives is a theorem on its calls. -/
import Derived.Test.YtncjonkmhfdabaaGreatVcB
import Derived.WalkSpells
import Derived.RangeFuncIn
namespace Go.Sh
open Go

def packV : List Value → Value
  | [v] => v
  | vs => .tuple ⟨vs⟩
def resL (P : Program) (w : World) (env : Env) : List ResultVar → (List Value → Prop) → Prop
  | [], K => K []
  | .tmp t :: l, K => resL P w env l fun vs => K (env t :: vs)
  | .cell a T :: l, K => match env a, isAggO P T, Nat.beq (cellsSh P 8 T).length (P.cellsOf T), hasInfo P T with
    | .pointer a', some _, true, true => dr a' fun p => ld1 w p (sh1Of P T) fun v => resL P w env l fun vs => K (v :: vs)
    | _, _, _, _ => False
def retD (ds : List Deferred) (w : World) (K : World → Prop) : Prop := match ds with
  | [] => K w
  | d :: ds => ∃ D, d.target = .collected D ∧ w.heap[D]? = some (.deferred (some [])) ∧ retD ds (w.putObj D (.deferred none)) K
def retQ (P : Program) (fn : Func) (R : Ending → World → Prop) : Qt := fun e env ds w => match e with
  | .normal => retD ds w fun w' => resL P w' env fn.results.toList fun vs => R (.returned (packV vs)) w'
  | .ret => retD ds w fun w' => resL P w' env fn.results.toList fun vs => R (.returned (packV vs)) w'
  | _ => False
def initE (args : List Value) : Env := fun t => match args[t]? with
  | some v => v
  | none => undef
def fnV (P : Program) (fn : Func) (x : Ann) (args : List Value) (R : Ending → World → Prop) (w : World) : Prop :=
  match fn.body with
  | some c => vc P none (args.length + (fn.ntmps - args.length)) x c (retQ P fn R) (initE args) [] w
  | none => False

section
variable {P : Program}

def resG (tmps : Array Value) : ResultVar → Sem Value
  | .tmp t => pure (tmps.getD t undef)
  | .cell b t => do loadVar t (← asAddr (tmps.getD b undef))
theorem resG_tmp (tmps : Array Value) (t : Tmp) : resG tmps (.tmp t) = pure (tmps.getD t undef) := rfl
theorem resG_cell (tmps : Array Value) (b : Tmp) (t : TypeId) : resG tmps (.cell b t) = (asAddr (tmps.getD b undef)).bind fun x => loadVar t x := rfl
theorem results_eq (fn : Func) (tmps : Array Value) : results fn tmps = (do let vs ← fn.results.mapM (resG tmps); pure (if h : vs.size = 1 then vs[0] else .tuple vs)) := by
  unfold results
  congr 2

theorem resL_run {N : Nat} {env : Env} {a : Act} {w : World} (hr : Rep N env a) : ∀ {l : List ResultVar} {K : List Value → Prop}, resL P w env l K →
    ∃ vs, (l.mapM (resG a.tmps)).run P w = .ok vs w ∧ K vs
  | [], K, h => ⟨[], by simp, h⟩
  | .tmp t :: l, K, h => by
    obtain ⟨vs, h1, h2⟩ := resL_run hr (l := l) h
    refine ⟨_, ?_, h2⟩
    simp only [List.mapM_cons, Sem.run_bind, Sem.run_pure, Result.andThen_ok, resG_tmp, h1, hr.2 t]
  | .cell b T :: l, K, h => by
    simp only [resL] at h
    split at h
    · rename_i a' b' hb hag hl hi
      obtain ⟨p, rfl, h1⟩ := dr_some h
      obtain ⟨v, h2, h3⟩ := ld_run hag hl hi h1
      obtain ⟨vs, h4, h5⟩ := resL_run hr (l := l) h3
      refine ⟨_, ?_, h5⟩
      have e : a.tmps.getD b undef = .pointer (some p) := (hr.2 b).trans hb
      have e2 : (resG a.tmps (.cell b T)).run P w = .ok v w := by
        rw [resG_cell, e]
        show ((asAddr (.pointer (some p)) >>= fun x => loadVar T x) : Sem Value).run P w = _
        simp only [Sem.run_bind, asAddr, Sem.run_pure, Result.andThen_ok, h2]
      simp only [List.mapM_cons, Sem.run_bind, Sem.run_pure, Result.andThen_ok, e2, h4]
    · exact h.elim

theorem res_run {N : Nat} {env : Env} {a : Act} {w : World} (hr : Rep N env a) {fn : Func} {K : List Value → Prop} (h : resL P w env fn.results.toList K) :
    ∃ vs, (results fn a.tmps).run P w = .ok (packV vs) w ∧ K vs := by
  obtain ⟨vs, h1, h2⟩ := resL_run hr h
  refine ⟨vs, ?_, h2⟩
  rw [results_eq, Array.mapM_eq_mapM_toList]
  simp only [Sem.run_bind, Sem.run_map, Sem.run_pure, h1, Result.andThen_ok]
  congr 1
  match vs with
  | [] => rfl
  | [v] => rfl
  | _ :: _ :: _ => simp [packV]

theorem leaves_of {fn : Func} {tmps : Array Value} {R : Ending → World → Prop} {K : World → Prop} (hK : ∀ w, K w → ∃ v, (results fn tmps).run P w = .ok v w ∧ R (.returned v) w) :
    ∀ (ds : List Deferred) (w : World), retD ds w K → LeavesInM Fence.wide 0 P fn tmps R ds .returning w
  | [], w, h => hK w h
  | d :: ds, w, h => by
    obtain ⟨D, h1, h2, h3⟩ := h
    exact ⟨by simp, .inl ⟨D, _, h1, run_takeDeferred h2, leaves_of hK ds _ h3⟩⟩

theorem calls_of_fnV {f : FuncId} {fn : Func} {x : Ann} {args : List Value} {R : Ending → World → Prop} {w : World} (hf : P.funcs[f]? = some fn) (h : fnV P fn x args R w) :
    Calls P f ⟨args⟩ w R := by
  unfold fnV at h
  cases hb : fn.body with
  | none => rw [hb] at h; exact h.elim
  | some c =>
    rw [hb] at h
    simp only at h
    refine (callsIn_wide (n := 0)).1 (callsIn_of_wp_marks hf hb trivial ?_)
    have hr : Rep (args.length + (fn.ntmps - args.length)) (initE args) { tmps := (⟨args⟩ : Array Value) ++ Array.replicate (fn.ntmps - (⟨args⟩ : Array Value).size) undef, defers := [] } := by
      refine ⟨by simp, fun t => ?_⟩
      simp only [initE, Array.getD_eq_getD_getElem?]
      by_cases ht : t < args.length
      · have e : args[t]? = some args[t] := by simp [ht]
        rw [e, Array.getElem?_append_left (by simpa using ht)]
        simp [ht]
      · have e : args[t]? = none := by simp; omega
        rw [e, Array.getElem?_append_right (by simp; omega)]
        simp only [Array.getElem?_replicate]
        split <;> rfl
    have hs := vc_sound (r := none) x c h hr rfl
    have e : Fr none = Fence.wide := rfl
    rw [e] at hs
    refine wpIn_mono hs fun ex a' w' hh => ?_
    obtain ⟨env', h1, h2, h3⟩ := hh
    cases ex with
    | normal => exact leaves_of (K := fun w' => resL P w' env' fn.results.toList fun vs => R (.returned (packV vs)) w') (fun w hk => by
        obtain ⟨vs, k1, k2⟩ := res_run h1 hk; exact ⟨_, k1, k2⟩) _ _ h2
    | ret => exact leaves_of (K := fun w' => resL P w' env' fn.results.toList fun vs => R (.returned (packV vs)) w') (fun w hk => by
        obtain ⟨vs, k1, k2⟩ := res_run h1 hk; exact ⟨_, k1, k2⟩) _ _ h2
    | exit i => exact h2.elim
    | goto l => exact h2.elim
    | panic c => exact h2.elim
    | outgrown => exact h2.elim
end

/- the piece of a function's code at a place: 0, 1: left, right of a sequence; 2: inside a block or loop; 3, 4: the ways of a condition; 5, 6: a range's assignment and body -/
def cdGo : Code → List Nat → Code
  | c, [] => c
  | .seq a _, 0 :: p => cdGo a p
  | .seq _ b, 1 :: p => cdGo b p
  | .block _ a, 2 :: p => cdGo a p
  | .loop a, 2 :: p => cdGo a p
  | .cond _ a _, 3 :: p => cdGo a p
  | .cond _ _ b, 4 :: p => cdGo b p
  | .rangeFunc _ _ a _, 5 :: p => cdGo a p
  | .rangeFunc _ _ _ b, 6 :: p => cdGo b p
  | _, _ => .skip
def cdAt (f : Func) (p : List Nat) : Code := match f.body with
  | some c => cdGo c p
  | none => .skip
end Go.Sh
namespace Go.Sh
open Go Go.RowKit

/- branches -/
@[simp] theorem br_t (A B : Prop) : br true A B = A := rfl
@[simp] theorem br_f (A B : Prop) : br false A B = B := rfl
theorem br_pos {p : Prop} [Decidable p] {A B : Prop} (h : p) (a : A) : br (decide p) A B := by simp [h, a]
theorem br_neg {p : Prop} [Decidable p] {A B : Prop} (h : ¬ p) (b : B) : br (decide p) A B := by simp [h, b]
theorem br_split {p : Prop} [Decidable p] {A B : Prop} (a : p → A) (b : ¬ p → B) : br (decide p) A B := by
  by_cases h : p
  · exact br_pos h (a h)
  · exact br_neg h (b h)
theorem br_cases {b : Bool} {A B : Prop} (h1 : b = true → A) (h2 : b = false → B) : br b A B := by
  cases b
  · exact h2 rfl
  · exact h1 rfl
/- the ways of a cut on one truth value, at one world, are one -/
theorem br_K (g x y : Bool) (K : Bool → World → Prop) (w : World) : br g (K x w) (K y w) = K (cond g x y) w := by cases g <;> rfl
/- numbers -/
theorem wrap_id {n : Int} (h : -9223372036854775808 ≤ n ∧ n ≤ 9223372036854775807) : IntKind.i64.wrap n = n := IntWalk.i64_in n (by omega)

/- strings -/
theorem sidx_nat {l : List UInt8} {k : Nat} {K : UInt8 → Prop} (h : k < l.length) (hK : K l[k]) : sidx l (k : Int) K :=
  ⟨by omega, l[k], by simp [h], hK⟩
theorem ssl_nat {l : List UInt8} {i j : Nat} {K : List UInt8 → Prop} (h : i ≤ j) (h2 : j ≤ l.length) (hK : K ((l.take j).drop i)) : ssl l (i : Int) (j : Int) K :=
  ⟨by omega, by omega, by omega, by simpa using hK⟩

/- calls: the contract's result into the form of the condition -/
section
variable {P : Program} {f : FuncId} {args : Array Value} {w : World}
/- with what became of the world -/
end

/- worlds -/
theorem add_none (b o k : Nat) : (⟨b, o, none⟩ : Addr).add k = ⟨b, o + k, none⟩ := by
  unfold Addr.add; split
  · rename_i h; simp [h]
  · rfl
/- a block of cells known whole -/
def Blk (w : World) (b : Nat) (cs : List Value) (T : TypeId) : Prop := w.heap[b]? = some (.cells ⟨cs⟩ T (0, 0))
abbrev Ext (w w' : World) : Prop := Below w.heap.size w w'
theorem Blk.cell {w : World} {b : Nat} {cs : List Value} {T : TypeId} (h : Blk w b cs T) (i : Nat) : w.cell? ⟨b, i, none⟩ = cs[i]? := by
  simp [World.cell?, show w.heap[b]? = _ from h]
theorem Blk.frozen {w : World} {b : Nat} {cs : List Value} {T : TypeId} (h : Blk w b cs T) (i : Nat) : w.frozen? ⟨b, i, none⟩ = false := by
  simp [World.frozen?, show w.heap[b]? = _ from h]
theorem Blk.lt {w : World} {b : Nat} {cs : List Value} {T : TypeId} (h : Blk w b cs T) : b < w.heap.size := (Array.getElem?_eq_some_iff.1 h).1
theorem Blk.new (w : World) (cs : List Value) (T : TypeId) : Blk (w.alloc (.cells ⟨cs⟩ T)) w.heap.size cs T := by
  exact heap_alloc_new w _
theorem Blk.keep {w w' : World} {b : Nat} {cs : List Value} {T : TypeId} (h : Blk w b cs T) (hw : w'.heap[b]? = w.heap[b]?) : Blk w' b cs T := by
  unfold Blk at *; rw [hw]; exact h
theorem Blk.ext {w w' : World} {b : Nat} {cs : List Value} {T : TypeId} (h : Blk w b cs T) (hw : Ext w w') : Blk w' b cs T := h.keep (hw.block b h.lt)
theorem Blk.set {w : World} {b : Nat} {cs : List Value} {T : TypeId} (h : Blk w b cs T) (i : Nat) (v : Value) : Blk (w.setCell ⟨b, i, none⟩ v) b (cs.set i v) T := by
  unfold Blk at *
  simp [World.setCell, Array.getElem?_modify, h]

/- storing into a block known whole -/
theorem stL_blk {P' : World → Prop} {T : TypeId} : ∀ {vs cs : List Value} {w : World} {b o i : Nat}, Blk w b cs T → o + i + vs.length ≤ cs.length → (∀ v ∈ vs, v.oneCell' = true) →
    (∀ w', Blk w' b (putAt cs (o + i) vs) T → (∀ k, k ≠ b → w'.heap[k]? = w.heap[k]?) → w'.heap.size = w.heap.size → w'.os = w.os → w'.tape = w.tape → w'.output = w.output → P' w') → stL w ⟨b, o, none⟩ i vs P'
  | [], cs, w, b, o, i, h, _, _, hk => hk w h (fun _ _ => rfl) rfl rfl rfl rfl
  | v :: vs, cs, w, b, o, i, h, hl, ho, hk => by
    simp only [List.length_cons] at hl
    have hi : o + i < cs.length := by omega
    refine ⟨?_, ?_, ho v (by simp), ?_⟩
    · rw [add_none, h.cell]; exact ⟨cs[o + i], by simp [hi]⟩
    · rw [add_none]; exact h.frozen _
    · rw [add_none]
      refine stL_blk (h.set (o + i) v) (by simp; omega) (fun u hu => ho u (by simp [hu])) fun w' h1 h2 h3 h4 h5 h6 => ?_
      refine hk w' (by rw [putAt]; exact h1) (fun k hkb => (h2 k hkb).trans ?_) (h3.trans (by simp)) (h4.trans rfl) (h5.trans rfl) (h6.trans rfl)
      simp only [World.setCell, Array.getElem?_modify]
      rw [if_neg (fun e => hkb e.symm)]

/- a new variable that is written at once -/
theorem al_intro {w : World} {T : TypeId} {cs : List Value} {K : Addr → World → Prop}
    (h : ∀ b w', b = w.heap.size → Blk w' b cs T → Ext w w' → w'.heap.size = b + 1 → K ⟨b, 0, none⟩ w') : al w T cs K := by
  refine h _ _ rfl (Blk.new w cs T) ((Below.refl _ w).alloc (Nat.le_refl _) _) (by simp)
end Go.Sh
namespace Go.Sh
open Go Go.RowKit

/- what may have changed: the blocks of S, and new ones -/
structure Chg (S : Nat → Prop) (W W' : World) : Prop where
  os : W'.os = W.os
  tape : W'.tape = W.tape
  output : W'.output = W.output
  size : W.heap.size ≤ W'.heap.size
  block : ∀ k, k < W.heap.size → ¬ S k → W'.heap[k]? = W.heap[k]?
theorem Chg.refl (S : Nat → Prop) (W : World) : Chg S W W := ⟨rfl, rfl, rfl, Nat.le_refl _, fun _ _ _ => rfl⟩
theorem Chg.trans {S : Nat → Prop} {A B C : World} (h : Chg S A B) (k : Chg S B C) : Chg S A C :=
  ⟨k.os.trans h.os, k.tape.trans h.tape, k.output.trans h.output, Nat.le_trans h.size k.size, fun i hi hs => (k.block i (Nat.lt_of_lt_of_le hi h.size) hs).trans (h.block i hi hs)⟩
theorem Chg.mono {S S' : Nat → Prop} {A B : World} (h : Chg S A B) (hs : ∀ k, k < A.heap.size → S k → S' k) : Chg S' A B :=
  ⟨h.os, h.tape, h.output, h.size, fun k hk hn => h.block k hk fun hh => hn (hs k hk hh)⟩
theorem Chg.of_ext {S : Nat → Prop} {A B : World} (h : Ext A B) : Chg S A B := ⟨h.os, h.tape, h.output, h.size, fun k hk _ => h.block k hk⟩
theorem Chg.ext {S : Nat → Prop} {A B : World} (h : Chg S A B) (hs : ∀ k, k < A.heap.size → ¬ S k) : Ext A B := ⟨h.os, h.tape, h.output, h.size, fun k hk => h.block k hk (hs k hk)⟩
theorem Chg.put {S : Nat → Prop} (W : World) (l : Nat) (o : Obj) (hl : S l) : Chg S W (W.putObj l o) :=
  ⟨rfl, rfl, rfl, by simp, fun k _ hk => World.putObj_heap_other fun e => hk (e ▸ hl)⟩
theorem Chg.alloc {S : Nat → Prop} (W : World) (o : Obj) : Chg S W (W.alloc o) := .of_ext ((Below.refl _ W).alloc (Nat.le_refl _) o)
theorem Chg.below {B : Nat} {A C : World} (h : Chg (fun k => B ≤ k) A C) (hB : B ≤ A.heap.size) : Below B A C :=
  ⟨h.os, h.tape, h.output, h.size, fun k hk => h.block k (by omega) (by omega)⟩
theorem Chg.drew {S : Nat → Prop} (W : World) : Chg S W W.drew := ⟨rfl, rfl, rfl, Nat.le_refl _, fun _ _ _ => rfl⟩
theorem Chg.blk {S : Nat → Prop} {A C : World} (h : Chg S A C) {b : Nat} {cs : List Value} {T : TypeId} (hb : Blk A b cs T) (hs : ¬ S b) : Blk C b cs T := hb.keep (h.block b hb.lt hs)

/- an iterator: whatever it is given to call, it calls it at the elements of xs, in their order, until it has said no.
   Rd: the blocks that it reads; S: those that its caller's body may write -/
/- a world in which one block alone has been laid anew -/
structure Upd (l : Nat) (W W' : World) : Prop where
  os : W'.os = W.os
  tape : W'.tape = W.tape
  output : W'.output = W.output
  size : W'.heap.size = W.heap.size
  block : ∀ k, k ≠ l → W'.heap[k]? = W.heap[k]?
theorem Upd.put (l : Nat) (W : World) (o : Obj) : Upd l W (W.putObj l o) := ⟨rfl, rfl, rfl, by simp, fun k hk => World.putObj_heap_other hk⟩

def fragQ (x : Nat) (Kn Kr Kx : World → Prop) : Qt := fun e _ _ w => match e with
  | .normal => Kn w
  | .ret => Kr w
  | .exit i => match Nat.beq i x with
    | true => Kx w
    | false => False
  | _ => False
def updPs (ps : List Nat) (vs : List Value) (env : Env) : Env := match ps, vs with
  | p :: ps, v :: vs => updPs ps vs (upd env p v)
  | _, _ => env
/- one round: the assignments to the loop's variables; then, the record being busy, the body -/
def fragV (P : Program) (N : Nat) (xA xB : Ann) (assign body : Code) (l x : Nat) (Kn Kr Kx : World → World → Prop) (env : Env) (w : World) : Prop :=
  vc P (some l) N xA assign (fun e env1 ds1 w1 => match e with
    | .normal => Ext w w1 ∧ ∀ w2, Upd l w1 w2 → vc P (some l) N xB body (fragQ x (Kn w2) (Kr w2) (Kx w2)) env1 ds1 w2
    | _ => False) env [] w

theorem foldl_rep {N : Nat} : ∀ (ps : List Nat) (vs : List Value) (env : Env) (t : Array Value), Rep N env { tmps := t, defers := [] } → (∀ p ∈ ps, p < N) →
    Rep N (updPs ps vs env) { tmps := (ps.zip vs).foldl (fun t (p, v) => t.setIfInBounds p v) t, defers := [] }
  | [], vs, env, t, h, _ => by simpa [updPs] using h
  | p :: ps, [], env, t, h, _ => by simpa [updPs] using h
  | p :: ps, v :: vs, env, t, h, hp => by
    simp only [updPs, List.zip_cons_cons, List.foldl_cons]
    exact foldl_rep ps vs _ _ (Rep.put h (d := some p) (fun x hx => by cases hx; exact hp p (by simp)) v) (fun q hq => hp q (by simp [hq]))

end Go.Sh
