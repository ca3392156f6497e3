/- The contracts of the functions that the law reaches, one after the other, and at the end the law's card. -/
import Derived.Test.YtcnlbobkjeiakaaGreatDoorLawF
namespace Go.Proofs
open Go Go.Sh Go.RowKit

def badR (p : Rw) : Bool := !isWordF p.1 || (decide (p.2 = []) || decide (checkC p.2 ≠ 0))
def expE (f : Fo) (ps : List Rw) : Int :=
  if errU f ≠ 0 then errU f else if 4096 < ps.length then 4 else if ps.any badR then 24 else checkT (expA (firstE ps) f .nil)
def expR (f : Fo) (ps : List Rw) : Fo := if expE f ps ≠ 0 then .nil else expA (firstE ps) f .nil
theorem expA_len (full) : ∀ (f out : Fo), (expA full f out).size ≤ out.size + 2 * f.size + 6 * tlen f := by
  have dl : ∀ (f : Fo) (l : List (List UInt8)), (divS full f l).1.size ≤ f.size + 3 * l.length := by
    intro f l
    induction l using snoc_ind with
    | h0 => simp [divS]
    | h1 l x ih =>
      rw [divS_snoc]
      unfold stepD
      split
      · simp; omega
      · simp only [flushF]
        split <;> simp [Fo.size_app, Fo.one, Fo.size] <;> omega
  intro f
  induction f with
  | nil => intro out; simp [expA, Fo.size, tlen]
  | cons k t n ps r i1 i2 =>
    intro out
    rw [expA]
    simp only [Fo.size, tlen]
    have h2 := i2 (if k ≠ 1 then out.app (.one k t n (if k ≠ 10 then expA full ps .nil else ps)) else divT full out t)
    have h1 := i1 .nil
    simp only [Fo.size] at h1
    have h3 := dl out (chunks t)
    have h4 := chunks_len t
    have h5 : (divT full out t).size ≤ (divS full out (chunks t)).1.size + 1 := by unfold divT flushF; split <;> simp [Fo.size_app, Fo.one, Fo.size]
    by_cases hk : k = 1
    · rw [if_neg (by simp [hk])] at h2 ⊢
      by_cases ht : t = []
      · have : divT full out t = out := by subst ht; simp [divT, divS, chunks, flushF]
        rw [this] at h2 ⊢
        omega
      · have : 0 < t.length := List.length_pos_iff.2 ht
        omega
    · rw [if_pos hk] at h2 ⊢
      by_cases h10 : k = 10
      · rw [if_neg (by simp [h10])] at h2 ⊢
        simp only [Fo.size_app, Fo.one, Fo.size] at h2
        simp only [Fo.size_app, Fo.one, Fo.size]
        omega
      · rw [if_pos h10] at h2 ⊢
        simp only [Fo.size_app, Fo.one, Fo.size] at h2
        simp only [Fo.size_app, Fo.one, Fo.size]
        omega
theorem isWord_len {s : List UInt8} (h : isWordF s = true) : s.length ≤ 64 := by
  unfold isWordF at h
  simp only [Bool.and_eq_true, decide_eq_true_eq] at h
  exact h.1.1.1.2
set_option maxRecDepth 20000 in
theorem Expand_spec {R : Ending → World → Prop} {S SP : Nat → Prop} {w : World} {a : Option Addr} {n c : Nat} {pa : Option Addr} {pn pc : Nat} {L : List Rw} (f : Fo) (hs : small f) (hF : Forms w) (hf0 : SlF S w a n f) (hP0 : RowAt encR SP w pa pn L)
    (h : ∀ a' n' c' w', SlF (fun k => S k ∨ w.heap.size ≤ k) w' a' n' (expR f L) → Ext w w' → R (.returned (.tuple ⟨[.slice a' n' c', .int .i64 (expE f L)]⟩)) w') : Calls Tryz.prog F_legibility_Expand ⟨[.slice a n c, .slice pa pn pc]⟩ w R := by
  apply c_legibility_Expand
  have er : ∀ e w', expE f L = e → e ≠ 0 → Ext w w' → R (.returned (.tuple ⟨[.slice none 0 0, .int .i64 e]⟩)) w' := by
    intro e w' he h0 hx
    have hr : expR f L = .nil := by unfold expR; rw [if_pos (by rw [he]; exact h0)]
    rw [hr, he] at h
    exact h none 0 0 w' (SlF.nil _) hx
  have hf : SlF (fun k => S k ∧ k < w.heap.size) w a n f := hf0.imp fun k hk hl => ⟨hk, hl⟩
  have hP : RowAt encR (fun k => SP k ∧ k < w.heap.size) w pa pn L := hP0.imp fun k hk hl => ⟨hk, hl⟩
  have hpn := hP.1
  refine checkL_spec f hs hF hf fun w4 e4 => ⟨_, rfl, br_split (fun g => er _ _ (by unfold expE; rw [if_pos g]) g e4) (fun g => ?_)⟩
  have he0 := Decidable.not_not.1 g
  obtain ⟨hc0, _⟩ := errU_zero he0
  obtain ⟨q1, q2, q3⟩ := check_zero hc0
  refine br_split (fun g4 => er 4 _ (by unfold expE; rw [if_neg g, if_pos (by omega)]) (by decide) e4) (fun g4 => ?_)
  have hL : L.length ≤ 4096 := by omega
  refine mkm_intro fun b6 w7 hb6 M6 e7 s7 => ?_
  refine al_intro fun b8 w9 hb8 B8 e9 s9 => ?_
  refine stL_one B8 rfl fun w10 C8 hc10 s10 => ?_
  have e10 : Ext w7 w10 := ext_chgS e9 hc10 fun k hk => by omega
  have E10 := ext_trans (ext_trans e4 e7) e10
  have z4 := e4.size
  have z10 := E10.size
  have hM6 : MapT Tryz.prog 9 eS eS w10 b6 0 (fun _ => none) := (M6 _ _ _ _).ext e10
  refine ⟨fun i W m => ∃ (k : Nat) (f2 : List UInt8 → Option (List UInt8)), i = k ∧ k ≤ L.length ∧ m = L.length - k ∧ MapT Tryz.prog 9 eS eS W b6 k f2 ∧ (∀ s, f2 s = firstE (L.take k) s) ∧ Blk W b8 [.map (some b6)] 61 ∧ Ext w W ∧ (L.take k).any badR = false ∧ w10.heap.size ≤ W.heap.size,
    ⟨_, 0, _, rfl, by omega, rfl, hM6, fun s => rfl, C8, E10, rfl, Nat.le_refl _⟩, ?_⟩
  rintro _ W m ⟨k, f2, rfl, hk, rfl, g2, g2', g8, ge, gb, gz⟩ _
  have l6 := g2.lt
  have l8 := g8.lt
  refine br_split (fun hlt => ?_) (fun hge => ?_)
  · have hkL : k < L.length := by omega
    have htk : L.take (k + 1) = L.take k ++ [L[k]] := take_snoc hkL
    have bad : ∀ W', badR L[k] = true → Ext w W' → R (.returned (.tuple ⟨[.slice none 0 0, .int .i64 24]⟩)) W' := fun W' hb he => er 24 _ (by
      unfold expE
      rw [if_neg g, if_neg (by omega), if_pos (List.any_eq_true.2 ⟨_, List.getElem_mem hkL, hb⟩)]) (by decide) he
    obtain ⟨q, hq, c0, c1⟩ := get_rw (hP.ext ge) hkL
    refine hq _ ⟨_, c0, _, c1, ?_⟩
    refine al_intro fun b19 w20 hb19 B19 e20 s20 => ?_
    refine stL_blk B19 (by simp) (by intro v hv; simp only [List.mem_cons, List.not_mem_nil, or_false] at hv; rcases hv with rfl | rfl <;> rfl) fun w21 B21 hx21 hs21 x4 x5 x6 => ?_
    have hc21 : Chg (fun j => j = b19) w20 w21 := ⟨x4, x5, x6, by omega, fun j _ hj => hx21 j hj⟩
    have e21 : Ext W w21 := ext_chgS e20 hc21 fun j hj => by omega
    have B21' : Blk w21 b19 [.string ⟨⟨L[k].1⟩⟩, .string ⟨⟨L[k].2⟩⟩] 47 := B21
    obtain ⟨d0, d1⟩ := blk2' B21'
    intro K22 hK22
    have k22 : ∀ W3, Ext w21 W3 → badR L[k] = false → isWordF L[k].1 = true → K22 W3 := by
      intro W3 he3 hnb hw
      have hlk : L[k].1.length ≤ 4611686018427387904 := by have := isWord_len hw; omega
      refine hK22 _ fun _ => ?_
      have G2 := (g2.ext e21).ext he3
      have G8 := (g8.ext e21).ext he3
      obtain ⟨y0, y1⟩ := blk2' (B21'.ext he3)
      have GE := ext_trans (ext_trans ge e21) he3
      have z21 := e21.size
      have z3 := he3.size
      have hb' : (L.take (k + 1)).any badR = false := by rw [htk, List.any_append, gb]; simp [hnb]
      refine ⟨_, by rw [G8.cell]; rfl, _, y0, (firstE (L.take k) L[k].1).getD [], (firstE (L.take k) L[k].1).isSome, ?_, ?_⟩
      · have := G2.look2 kd9 Tryz.underlying61 (z := .string ⟨⟨[]⟩⟩) (zero_run (by kernel_rfl) W3) (keyS hlk)
        rw [g2'] at this
        cases hf : firstE (L.take k) L[k].1 with
        | none => rw [hf] at this; exact this
        | some v => rw [hf] at this; exact this
      cases hf : firstE (L.take k) L[k].1 with
      | none =>
        simp only [Option.isSome_none, Bool.not_false, br_t]
        refine ⟨_, by rw [G8.cell]; rfl, _, y0, _, y1, ?_⟩
        refine MapT.update (eV := eS) G2 kd9 (t := 61) (e := 9) Tryz.underlying61 (by simp only [maxLen]; omega) (keyS hlk) (fun y hy => by simpa using hy) fun w31 g31 M31 hc31 hv31 ho31 => ?_
        have hc31' : Chg (fun j => j = b6) W3 w31 := hc31
        refine ⟨L.length - (k + 1), by omega, k + 1, g31, by rw [wrap_nat (by omega)], by omega, rfl, M31, ?_, hc31'.blk G8 (by omega), ext_chgS GE hc31' (fun j hj => by omega), hb', by have := hc31'.size; omega⟩
        intro s
        rw [htk, firstE_new hf]
        by_cases hs : s = L[k].1
        · subst hs; rw [if_pos rfl]; exact hv31
        · rw [if_neg hs, ho31 s hs, g2' s]
      | some v =>
        simp only [Option.isSome_some, Bool.not_true, br_f]
        refine ⟨L.length - (k + 1), by omega, k + 1, f2, by rw [wrap_nat (by omega)], by omega, rfl, G2.mono (by omega), ?_, G8, GE, hb', by omega⟩
        intro s; rw [htk, firstE_old hf]; exact g2' s
    refine ⟨_, d0, ?_⟩
    refine IsWord_spec _ fun w36 e36 => ⟨_, rfl, br_cases (fun gw => bad _ ?_ (ext_trans (ext_trans ge e21) e36)) (fun gw => ?_)⟩
    · unfold badR; rw [gw]; rfl
    have gw' : isWordF L[k].1 = true := by simpa using gw
    obtain ⟨y0, y1⟩ := blk2' (B21'.ext e36)
    refine ⟨_, y1, br_split (fun g0 => bad _ ?_ (ext_trans (ext_trans ge e21) e36)) (fun g0 => ⟨_, y1, ?_⟩)⟩
    · unfold badR; rw [g0]; simp
    refine Check_spec _ fun w41 e41 => ⟨_, rfl, br_split (fun gc => bad _ ?_ (ext_trans (ext_trans (ext_trans ge e21) e36) e41)) (fun gc => k22 _ (ext_trans e36 e41) ?_ gw')⟩
    · unfold badR; simp [gc]
    · unfold badR; rw [gw', decide_eq_false g0, decide_eq_false gc]; rfl
  · have hkk : k = L.length := by omega
    rw [hkk, List.take_length] at gb
    have hf2 : f2 = firstE L := by funext s; rw [g2' s, hkk, List.take_length]
    subst hf2
    refine al_intro fun b43 w44 hb43 B43 e44 s44 => ?_
    refine stL_one B43 rfl fun w45 C43 hc45 s45 => ?_
    have e45 : Ext W w45 := ext_chgS e44 hc45 fun j hj => by omega
    have E45 := ext_trans ge e45
    refine ⟨.func 38, ⟨[]⟩, ⟨[.pointer (some ⟨b43, 0, none⟩), .pointer (some ⟨b8, 0, none⟩)]⟩, by rw [C43.cell]; rfl, by kernel_rfl, ?_⟩
    refine Expand_1_spec f (by omega) (by omega) (hf.ext E45) C43 (g8.ext e45) (g2.ext e45) fun a2 n2 c2 w48 hsl e48 => ⟨_, _, _, rfl, ?_⟩
    have E48 := ext_trans E45 e48
    have hE : expE f L = checkT (expA (firstE L) f .nil) := by unfold expE; rw [if_neg g, if_neg (by omega), if_neg (by simp [gb])]
    have hsz := expA_len (firstE L) f .nil
    simp only [Fo.size] at hsz
    refine Check22_spec _ (by unfold small; omega) hsl (hF.ext E48) fun w51 e51 => ⟨_, rfl, br_split (fun gg => er _ _ hE gg (ext_trans E48 e51)) (fun gg => ?_)⟩
    have h0 := Decidable.not_not.1 gg
    have hr : expR f L = expA (firstE L) f .nil := by unfold expR; rw [if_neg (by rw [hE]; exact gg)]
    have zz := E45.size
    have := h a2 n2 c2 w51 (by
      rw [hr]
      refine (hsl.ext e51).imp fun j hj hl => ?_
      rcases hj with hj | hj
      · exact .inl hj.1
      · exact .inr (by omega)) (ext_trans E48 e51)
    rw [hE, h0] at this
    exact this
end Go.Proofs
namespace Go.Proofs
open Go Go.Sh Go.RowKit

/- chunks of chunks -/
def okCh : List (List UInt8) → Prop
  | [] => True
  | x :: l => (∃ c r, x = c :: r ∧ ∀ y ∈ r, inW y = inW c) ∧ (∀ c r, x = c :: r → ∀ d s, l.flatten = d :: s → inW d ≠ inW c) ∧ okCh l
theorem okCh_append {l m : List (List UInt8)} : okCh (l ++ m) → okCh m := by
  induction l with
  | nil => exact id
  | cons x l ih => exact fun h => ih h.2.2
theorem okCh_prefix {l m : List (List UInt8)} : okCh (l ++ m) → okCh l := by
  induction l with
  | nil => exact fun _ => trivial
  | cons x l ih =>
    intro h
    refine ⟨h.1, fun c r hx d s hl => ?_, ih h.2.2⟩
    exact h.2.1 c r hx d (s ++ m.flatten) (by show (l ++ m).flatten = _; rw [List.flatten_append, hl]; rfl)
theorem while_all {p : UInt8 → Bool} : ∀ {r s : List UInt8}, (∀ y ∈ r, p y = true) → (∀ d s', s = d :: s' → p d = false) → (r ++ s).takeWhile p = r ∧ (r ++ s).dropWhile p = s
  | [], s, _, h2 => by
    cases s with
    | nil => simp
    | cons d s' => have := h2 d s' rfl; simp [this]
  | y :: r, s, h1, h2 => by
    have hy := h1 y (by simp)
    obtain ⟨i1, i2⟩ := while_all (p := p) (r := r) (s := s) (fun z hz => h1 z (by simp [hz])) h2
    simp [hy, i1, i2]
theorem chunks_of_ok : ∀ l : List (List UInt8), okCh l → chunks l.flatten = l
  | [], _ => by simp [chunks]
  | x :: l, h => by
    obtain ⟨⟨c, r, rfl, hr⟩, h2, h3⟩ := h
    rw [List.flatten_cons, List.cons_append, chunks]
    obtain ⟨q1, q2⟩ := while_all (p := fun x => inW x == inW c) (r := r) (s := l.flatten) (fun y hy => by simp [hr y hy]) (fun d s' hs => by have := h2 c r rfl d s' hs; simpa using this)
    rw [q1, q2, chunks_of_ok l h3]
theorem mem_takeWhile {p : UInt8 → Bool} : ∀ {l : List UInt8} {y : UInt8}, y ∈ l.takeWhile p → p y = true
  | [], y, h => by simp at h
  | x :: l, y, h => by
    rw [List.takeWhile_cons] at h
    split at h
    · rename_i hx
      rcases List.mem_cons.1 h with rfl | h
      · exact hx
      · exact mem_takeWhile h
    · simp at h
theorem head_dropWhile {p : UInt8 → Bool} : ∀ {l : List UInt8} {d : UInt8} {s : List UInt8}, l.dropWhile p = d :: s → p d = false
  | [], d, s, h => by simp at h
  | x :: l, d, s, h => by
    rw [List.dropWhile_cons] at h
    split at h
    · exact head_dropWhile h
    · rename_i hx
      rw [List.cons.injEq] at h
      rw [← h.1]; simpa using hx
theorem chunks_ok (s : List UInt8) : okCh (chunks s) := by
  induction hz : s.length using Nat.strongRecOn generalizing s with
  | _ z ih =>
  cases s with
  | nil => simp [chunks, okCh]
  | cons c r =>
    rw [chunks]
    refine ⟨⟨c, _, rfl, fun y hy => by simpa using mem_takeWhile hy⟩, fun c' r' hx d s hl => ?_, ih _ (by rw [← hz]; have := dropWhile_len (fun x => inW x == inW c) r; simp only [List.length_cons]; omega) _ rfl⟩
    rw [List.cons.injEq] at hx
    rw [chunks_flat] at hl
    have := head_dropWhile hl
    rw [← hx.1]
    simpa using this

/- lists that stay as they are -/
def stab (full : List UInt8 → Option (List UInt8)) : Fo → Prop
  | .nil => True
  | .cons k t n ps r => (if k = 1 then t ≠ [] ∧ n = 0 ∧ ps = .nil ∧ ∀ x ∈ chunks t, full x = none else if k = 10 then True else stab full ps) ∧ stab full r
theorem stab_app {full} : ∀ {f g : Fo}, stab full (f.app g) ↔ stab full f ∧ stab full g
  | .nil, g => by simp [stab]
  | .cons k t n ps r, g => by simp only [Fo.cons_app, stab, stab_app (f := r), and_assoc]
theorem div_none (full : List UInt8 → Option (List UInt8)) (f : Fo) : ∀ (l : List (List UInt8)), (∀ x ∈ l, full x = none) → divS full f l = (f, l.flatten) := by
  intro l
  induction l using snoc_ind with
  | h0 => intro _; rfl
  | h1 l x ih =>
    intro h
    rw [divS_snoc, ih fun y hy => h y (by simp [hy])]
    unfold stepD
    rw [h x (by simp)]
    simp
theorem exp_stab {full} : ∀ (f out : Fo), stab full f → expA full f out = out.app f
  | .nil, out, _ => by simp [expA]
  | .cons k t n ps r, out, ⟨h1, h2⟩ => by
    rw [expA]
    by_cases hk : k = 1
    · rw [if_pos hk] at h1
      obtain ⟨a1, a2, a3, a4⟩ := h1
      rw [if_neg (by simp [hk]), exp_stab r _ h2]
      have : divT full out t = out.app (.one 1 t 0 .nil) := by
        unfold divT
        rw [div_none full out (chunks t) a4, chunks_flat]
        unfold flushF
        rw [if_neg a1]
      rw [this, hk, a2, a3, Fo.app_one_app]
    · rw [if_neg hk] at h1
      rw [if_pos hk, exp_stab r _ h2]
      by_cases h10 : k = 10
      · rw [if_neg (by simp [h10]), Fo.app_one_app]
      · rw [if_neg h10] at h1
        rw [if_pos h10, exp_stab ps _ h1, Fo.nil_app, Fo.app_one_app]
theorem div_stab {full} {f : Fo} (hf : stab full f) : ∀ (l : List (List UInt8)), okCh l → stab full (divS full f l).1 ∧ ∃ A B, l = A ++ B ∧ (divS full f l).2 = B.flatten ∧ ∀ x ∈ B, full x = none := by
  intro l
  induction l using snoc_ind with
  | h0 => exact fun _ => ⟨hf, [], [], rfl, rfl, by simp⟩
  | h1 l x ih =>
    intro hok
    obtain ⟨h1, A, B, hl, h2, h3⟩ := ih (okCh_prefix hok)
    rw [divS_snoc]
    unfold stepD
    cases hx : full x with
    | none =>
      refine ⟨h1, A, B ++ [x], by rw [hl, List.append_assoc], by simp [h2], fun y hy => ?_⟩
      rcases List.mem_append.1 hy with h | h
      · exact h3 y h
      · rw [List.mem_singleton.1 h]; exact hx
    | some u =>
      refine ⟨?_, l ++ [x], [], by simp, rfl, by simp⟩
      rw [stab_app]
      refine ⟨?_, by simp [Fo.one, stab]⟩
      unfold flushF
      split
      · exact h1
      · rename_i hr
        rw [stab_app]
        refine ⟨h1, ?_, trivial⟩
        rw [if_pos rfl]
        refine ⟨hr, rfl, rfl, ?_⟩
        rw [h2, chunks_of_ok B (okCh_append (by rw [← hl]; exact okCh_prefix hok))]
        exact h3
theorem divT_stab {full} {f : Fo} (hf : stab full f) (t : List UInt8) : stab full (divT full f t) := by
  obtain ⟨h1, A, B, hl, h2, h3⟩ := div_stab hf (chunks t) (chunks_ok t)
  unfold divT flushF
  split
  · exact h1
  · rename_i hr
    rw [stab_app]
    refine ⟨h1, ?_, trivial⟩
    rw [if_pos rfl]
    refine ⟨hr, rfl, rfl, ?_⟩
    rw [h2, chunks_of_ok B (okCh_append (by rw [← hl]; exact chunks_ok t))]
    exact h3
theorem expA_stab {full} : ∀ (f out : Fo), stab full out → stab full (expA full f out)
  | .nil, out, h => h
  | .cons k t n ps r, out, h => by
    rw [expA]
    refine expA_stab r _ ?_
    by_cases hk : k = 1
    · rw [if_neg (by simp [hk])]; exact divT_stab h t
    · rw [if_pos hk, stab_app]
      refine ⟨h, ?_, trivial⟩
      rw [if_neg hk]
      by_cases h10 : k = 10
      · rw [if_pos h10]; trivial
      · rw [if_neg h10, if_pos h10]; exact expA_stab ps .nil trivial
/- what is written stays -/
theorem div_writ (full) (f : Fo) : ∀ (l : List (List UInt8)), writF (divS full f l).1 ++ (divS full f l).2 = writF f ++ l.flatten := by
  intro l
  induction l using snoc_ind with
  | h0 => rfl
  | h1 l x ih =>
    rw [divS_snoc]
    have e : (l ++ [x]).flatten = l.flatten ++ x := by simp
    rw [e, ← List.append_assoc, ← ih]
    unfold stepD
    cases hx : full x with
    | none => simp
    | some u =>
      simp only [List.append_nil, writF_app]
      have e2 : writF (.one 10 x 0 (.one 1 u 0 .nil)) = x := by simp [Fo.one, writF, writN]
      rw [e2]
      congr 1
      unfold flushF
      split
      · rename_i h0; rw [h0]; simp
      · rw [writF_app]
        congr 1
        simp [Fo.one, writF, writN]
theorem divT_writ (full) (f : Fo) (t : List UInt8) : writF (divT full f t) = writF f ++ t := by
  have h := div_writ full f (chunks t)
  rw [chunks_flat] at h
  rw [← h]
  unfold divT flushF
  split
  · rename_i h0; rw [h0]; simp
  · rw [writF_app]
    congr 1
    simp [Fo.one, writF, writN]
theorem expA_writ (full) : ∀ (f out : Fo), writF (expA full f out) = writF out ++ writF f
  | .nil, out => by simp [expA, writF]
  | .cons k t n ps r, out => by
    rw [expA, expA_writ full r]
    by_cases hk : k = 1
    · rw [if_neg (by simp [hk]), divT_writ]
      simp [writF, writN, hk]
    · rw [if_pos hk, writF_app, List.append_assoc]
      congr 1
      by_cases h10 : k = 10
      · rw [if_neg (by simp [h10])]; simp [Fo.one, writF]
      · rw [if_pos h10]
        have := expA_writ full ps .nil
        simp only [Fo.one, writF, this, List.nil_append, List.append_nil]
/- and so do the kinds -/
theorem allK_app {q : Int → Bool} : ∀ {f g : Fo}, allK q (f.app g) = (allK q f && allK q g)
  | .nil, g => by simp [allK]
  | .cons k t n ps r, g => by simp only [Fo.cons_app, allK, allK_app (f := r), Bool.and_assoc]
theorem div_allK {full} {q : Int → Bool} (h1 : q 1 = true) (h10 : q 10 = true) {f : Fo} (hf : allK q f = true) : ∀ (l : List (List UInt8)), allK q (divS full f l).1 = true := by
  intro l
  induction l using snoc_ind with
  | h0 => exact hf
  | h1 l x ih =>
    rw [divS_snoc]
    unfold stepD
    cases hx : full x with
    | none => exact ih
    | some u =>
      simp only [allK_app, Bool.and_eq_true]
      refine ⟨?_, by simp [Fo.one, allK, h1, h10]⟩
      unfold flushF
      split
      · exact ih
      · rw [allK_app, ih]; simp [Fo.one, allK, h1]
theorem expA_allK {full} {q : Int → Bool} (h1 : q 1 = true) (h10 : q 10 = true) : ∀ (f out : Fo), allK q f = true → allK q out = true → allK q (expA full f out) = true
  | .nil, out, _, h => h
  | .cons k t n ps r, out, hf, h => by
    rw [allK, Bool.and_eq_true, Bool.and_eq_true] at hf
    rw [expA]
    refine expA_allK h1 h10 r _ hf.2.2 ?_
    by_cases hk : k = 1
    · rw [if_neg (by simp [hk])]
      have := div_allK (full := full) h1 h10 h (chunks t)
      unfold divT flushF
      split
      · exact this
      · rw [allK_app, this]; simp [Fo.one, allK, h1]
    · rw [if_pos hk, allK_app, h]
      by_cases h10' : k = 10
      · rw [if_neg (by simp [h10'])]; simp [Fo.one, allK, hf.1, hf.2.1]
      · rw [if_pos h10']
        have := expA_allK (full := full) h1 h10 ps .nil hf.2.1 rfl
        simp [Fo.one, allK, hf.1, this]

/- rewrites that are more than the statements examine -/
def greatR (L : List Rw) : Bool :=
  decide (4099 < L.length) || L.any fun p => decide (30 < p.1.length) || (decide (30 < p.2.length) || (decide (8 < L.length) && (decide (L.length ≤ 4096) || !decide (p = ([], [])))))
set_option maxRecDepth 20000 in
theorem GreatRewrites_spec {R : Ending → World → Prop} {S : Nat → Prop} {w : World} {a : Option Addr} {n c : Nat} {L : List Rw} (h1 : RowAt encR S w a n L)
    (h : R (.returned (.bool (greatR L))) w) : Calls Tryz.prog F_ref12_GreatRewrites ⟨[.slice a n c]⟩ w R := by
  apply c_ref12_GreatRewrites
  have hn := h1.1
  refine br_split (fun g => ?_) (fun g => ?_)
  · have : greatR L = true := by unfold greatR; rw [decide_eq_true (by omega)]; rfl
    rw [this] at h; exact h
  let q : Rw → Bool := fun p => decide (30 < p.1.length) || (decide (30 < p.2.length) || (decide (8 < L.length) && (decide (L.length ≤ 4096) || !decide (p = ([], [])))))
  have hg : greatR L = L.any q := by unfold greatR; rw [decide_eq_false (by omega)]; rfl
  rw [hg] at h
  refine ⟨fun i W m => ∃ k : Nat, i = k ∧ k ≤ n ∧ m = n - k ∧ (L.take k).any q = false ∧ W = w, ⟨_, 0, rfl, by omega, rfl, rfl, rfl⟩, ?_⟩
  rintro _ W m ⟨k, rfl, hk, rfl, hno, rfl⟩ _
  refine br_split (fun hlt => ?_) (fun hge => ?_)
  · have hkL : k < L.length := by omega
    have yes : q L[k] = true → R (.returned (.bool true)) W := fun hq => by rw [List.any_eq_true.2 ⟨_, List.getElem_mem hkL, hq⟩] at h; exact h
    have no : q L[k] = false → ∃ m', m' < n - k ∧ ∃ k' : Nat, IntKind.i64.wrap ((k : Int) + 1) = k' ∧ k' ≤ n ∧ m' = n - k' ∧ (L.take k').any q = false ∧ W = W := fun hq =>
      ⟨n - (k + 1), by omega, k + 1, by rw [wrap_nat (by omega)], by omega, rfl, by rw [take_snoc hkL, List.any_append, hno]; simp [hq], rfl⟩
    obtain ⟨p, hp1, c0, c1⟩ := get_rw h1 hkL
    refine hp1 _ ⟨_, c0, br_split (fun g1 => yes ?_) (fun g1 => hp1 _ ⟨_, c1, br_split (fun g2 => yes ?_) (fun g2 => br_split (fun g3 => br_split (fun g4 => yes ?_) (fun g4 => hp1 _ ⟨_, c0, _, c1, ?_⟩)) (fun g3 => no ?_))⟩)⟩
    · show (decide (30 < _) || _) = true
      rw [decide_eq_true (by omega)]; rfl
    · show (_ || (decide (30 < _) || _)) = true
      rw [decide_eq_true (p := 30 < L[k].2.length) (by omega)]; simp
    · show (_ || (_ || (decide _ && (decide _ || _)))) = true
      rw [decide_eq_true (p := 8 < L.length) (by omega), decide_eq_true (p := L.length ≤ 4096) (by omega)]; simp
    · rw [decRw L[k] ([], [])]
      have hq : q L[k] = !decide (L[k] = ([], [])) := by
        show (decide _ || (decide _ || (decide _ && (decide _ || _)))) = _
        rw [decide_eq_false (p := 30 < L[k].1.length) (by omega), decide_eq_false (p := 30 < L[k].2.length) (by omega), decide_eq_true (p := 8 < L.length) (by omega), decide_eq_false (p := L.length ≤ 4096) (by omega)]
        simp
      refine br_cases (fun g5 => yes (by rw [hq]; exact g5)) (fun g5 => no (by rw [hq]; exact g5))
    · show (decide _ || (decide _ || (decide _ && (decide _ || _)))) = false
      rw [decide_eq_false (p := 30 < L[k].1.length) (by omega), decide_eq_false (p := 30 < L[k].2.length) (by omega), decide_eq_false (p := 8 < L.length) (by omega)]
      rfl
  · rw [List.take_of_length_le (by omega)] at hno
    rw [hno] at h
    exact h

end Go.Proofs
namespace Go.Proofs
open Go Go.Sh Go.RowKit

/- the reference's Fits -/
set_option maxRecDepth 20000 in
theorem Fits12_spec {R : Ending → World → Prop} {w : World} (p s : List UInt8) (h : ∀ w', Ext w w' → R (.returned (.tuple ⟨[.bool (fitR p s), .int .i64 (fitE p s)]⟩)) w') :
    Calls Tryz.prog F_ref12_Fits ⟨[.string ⟨⟨p⟩⟩, .string ⟨⟨s⟩⟩]⟩ w R := by
  apply c_ref12_Fits
  intro K3 hK3
  have k3 : p.length ≤ 65536 → s.length ≤ 65536 → K3 w := by
    intro hp hs
    have he : fitE p s = 0 := by unfold fitE; rw [if_neg (by omega)]
    have hr : fitR p s = fitB p s := by unfold fitR; rw [he]; rfl
    rw [he, hr] at h
    refine hK3 _ fun _ => br_split (fun g => ?_) (fun g => ?_)
    · have : fitB p s = false := by unfold fitB; rw [decide_eq_false (by omega), Bool.false_and]
      rw [this] at h
      exact h _ (Below.refl _ _)
    have hl : p.length = s.length := by omega
    have hfb : fitB p s = (List.range s.length).all fun i => decide (s[i]? = p[i]?) || decide (p[i]? = some 95) := by unfold fitB; rw [decide_eq_true hl, Bool.true_and]
    refine ⟨fun i W m => ∃ k : Nat, i = k ∧ k ≤ p.length ∧ m = p.length - k ∧ (∀ j, j < k → s[j]? = p[j]? ∨ p[j]? = some 95) ∧ Ext w W, ⟨_, 0, rfl, by omega, rfl, fun j hj => by omega, Below.refl _ _⟩, ?_⟩
    rintro _ W m ⟨k, rfl, hk, rfl, hall, he⟩ _
    refine br_split (fun hlt => ?_) (fun hge => ?_)
    · have hkp : k < p.length := by omega
      have hks : k < s.length := by omega
      have e1 : s[k]? = some s[k] := by simp [hks]
      have e2 : p[k]? = some p[k] := by simp [hkp]
      unfold drw
      have ed := ext_trans he (ext_drew W)
      have nxt : (s[k]? = p[k]? ∨ p[k]? = some 95) → ∃ m', m' < p.length - k ∧ ∃ k' : Nat, IntKind.i64.wrap ((k : Int) + 1) = k' ∧ k' ≤ p.length ∧ m' = p.length - k' ∧ (∀ j, j < k' → s[j]? = p[j]? ∨ p[j]? = some 95) ∧ Ext w W.drew := fun hh =>
        ⟨p.length - (k + 1), by omega, k + 1, by rw [wrap_nat (by omega)], by omega, rfl, fun j hj => by
          by_cases hjk : j = k
          · subst hjk; exact hh
          · exact hall j (by omega), ed⟩
      refine sidx_nat hkp (br_split (fun g1 => sidx_nat hkp (sidx_nat hks (br_split (fun g2 => ?_) (fun g2 => nxt (.inl ?_))))) (fun g1 => nxt (.inr ?_)))
      · have : fitB p s = false := by
          rw [hfb, List.all_eq_false]
          refine ⟨k, List.mem_range.2 hks, ?_⟩
          rw [e1, e2]
          have n1 : s[k] ≠ p[k] := fun e => g2 ((u8_int _ _).2 e.symm)
          have n2 : p[k] ≠ 95 := fun e => g1 ((u8_int p[k] 95).2 e)
          simp [n1, n2]
        rw [this] at h
        exact h _ ed
      · rw [e1, e2, (u8_int _ _).1 (Decidable.not_not.1 g2)]
      · rw [e2, (u8_int p[k] 95).1 (Decidable.not_not.1 g1)]
    · have : fitB p s = true := by
        rw [hfb, List.all_eq_true]
        intro i hi
        rw [List.mem_range] at hi
        rw [Bool.or_eq_true, decide_eq_true_eq, decide_eq_true_eq]
        exact hall i (by omega)
      rw [this] at h
      exact h _ he
  have bad : (65536 < p.length ∨ 65536 < s.length) → R (.returned (.tuple ⟨[.bool false, .int .i64 4]⟩)) w := by
    intro hh
    have he : fitE p s = 4 := by unfold fitE; rw [if_pos hh]
    have hr : fitR p s = false := by unfold fitR; rw [he]; rfl
    rw [he, hr] at h
    exact h _ (Below.refl _ _)
  exact br_split (fun g => bad (.inl (by omega))) (fun g1 => br_split (fun g => bad (.inr (by omega))) (fun g2 => k3 (by omega) (by omega)))

/- the reference's Supply -/
def supT : Fo → List (List UInt8) → Fo × List (List UInt8)
  | .nil, ws => (.nil, ws)
  | .cons k t n ps r, ws =>
    if k = 6 then ((.cons 1 (ws.headD []) 0 .nil (supT r ws.tail).1), (supT r ws.tail).2)
    else ((.cons k t n (supT ps ws).1 (supT r (supT ps ws).2).1), (supT r (supT ps ws).2).2)
theorem supT_rest : ∀ (f : Fo) (ws : List (List UInt8)), good f → (supT f ws).2 = ws.drop (gapL f).length
  | .nil, ws, _ => by simp [supT, gapL, nodesF]
  | .cons k t n ps r, ws, hg => by
    rw [supT, gapL_cons]
    by_cases hk : k = 6
    · have hp : ps = .nil := Fo.eq_nil_of_len (hg.1.2.2.2.2.1 (by rw [hk]; decide))
      subst hp
      rw [if_pos hk, if_pos hk, supT_rest r _ hg.2.2]
      have e : (gapL .nil).length = 0 := rfl
      simp only [List.length_append, e, List.length_cons, List.length_nil, Nat.zero_add]
      rw [← List.drop_one, List.drop_drop]
    · rw [if_neg hk, if_neg hk, supT_rest r _ hg.2.2, supT_rest ps _ hg.2.1, List.drop_drop, List.nil_append, List.length_append]
theorem supT_len : ∀ (f : Fo) (ws : List (List UInt8)), (supT f ws).1.len = f.len ∧ (supT f ws).1.size ≤ f.size
  | .nil, ws => ⟨rfl, Nat.le_refl _⟩
  | .cons k t n ps r, ws => by
    rw [supT]
    split
    · have := supT_len r ws.tail
      simp only [Fo.len_cons, Fo.size]; omega
    · have h1 := supT_len ps ws
      have h2 := supT_len r (supT ps ws).2
      simp only [Fo.len_cons, Fo.size]; omega
/- the rest of a row behind its first element -/
theorem RowAt.rest {α : Type} {E : Enc α} (hE : E.size = 1) {S : Nat → Prop} {w : World} {a : Option Addr} {n c : Nat} {x : α} {L : List α} (h : RowAt E S w a n (x :: L)) (hc : n ≤ c) {K : Option Addr → Nat → Nat → Prop}
    (hK : ∀ a', RowAt E S w a' (n - 1) L → K a' (n - 1) (c - 1)) : sls a c 1 (n : Int) 1 K := by
  have hn := h.1
  simp only [List.length_cons] at hn
  refine ⟨by omega, by omega, by omega, ?_⟩
  rw [show (1 : Int).toNat = 1 from rfl, Int.toNat_natCast]
  refine hK _ ⟨by omega, ?_⟩
  rcases h.2 with h0 | ⟨b, o, rfl, hb, hbl, hcl⟩
  · have h1 := congrArg List.length h0
    rw [row_len, hE] at h1
    simp at h1
  · by_cases hc1 : c = 1
    · have : L = [] := List.eq_nil_of_length_eq_zero (by omega)
      subst this
      exact .inl rfl
    · refine .inr ⟨b, o + 1, ?_, hb, hbl, fun j v hj => ?_⟩
      · unfold slA
        rw [if_neg (by omega)]
        simp [add_none]
      · have hx : (E.enc x).length = 1 := by rw [E.len, hE]
        have := hcl (1 + j) v (by
          rw [row_cons, List.getElem?_append_right (by omega), hx, Nat.add_sub_cancel_left]; exact hj)
        rw [Nat.add_assoc]; exact this
set_option maxRecDepth 20000 in
theorem supply12_spec : ∀ (f : Fo) {R : Ending → World → Prop} {S SW : Nat → Prop} {w : World} {a : Option Addr} {n c : Nat} {wa : Option Addr} {wn wc : Nat} {ws : List (List UInt8)} (hs : f.size ≤ 1000000) (hg : good f) (hgl : (gapL f).length ≤ ws.length)
    (hf0 : SlF S w a n f) (hW0 : RowAt encStr SW w wa wn ws) (hwc : wn ≤ wc)
    (h : ∀ a' n' c' wa' wn' wc' w', SlF (fun k => S k ∨ w.heap.size ≤ k) w' a' n' (supT f ws).1 → RowAt encStr SW w' wa' wn' (supT f ws).2 → wn' ≤ wc' → Ext w w' → R (.returned (.tuple ⟨[.slice a' n' c', .slice wa' wn' wc']⟩)) w'),
    Calls Tryz.prog F_ref12_supply ⟨[.slice a n c, .slice wa wn wc]⟩ w R := by
  intro f
  induction hz : f.size using Nat.strongRecOn generalizing f with
  | _ z ih =>
  intro R S SW w a n c wa wn wc ws hs hg hgl hf0 hW0 hwc h
  apply c_ref12_supply
  have hn := hf0.1
  have hfl := f.len_le_size
  have hf : SlF (fun k => S k ∧ k < w.heap.size) w a n f := hf0.imp fun k hk hl => ⟨hk, hl⟩
  have hW : RowAt encStr (fun k => SW k ∧ k < w.heap.size) w wa wn ws := hW0.imp fun k hk hl => ⟨hk, hl⟩
  refine al_intro fun b0 w0 hb0 hB0 e0 s0 => ?_
  refine ⟨fun va vn vc oa on oc i W m => ∃ (p r out : Fo) (us : List (List UInt8)), f = p.app r ∧ i = p.len ∧ m = r.len ∧ OwnF 45 (fun k => S k ∧ k < w.heap.size) w.heap.size W oa on oc out ∧ out.len = p.len ∧ RowAt encStr (fun k => SW k ∧ k < w.heap.size) W va vn us ∧ vn ≤ vc ∧
      (gapL r).length ≤ us.length ∧ Ext w W ∧ supT f ws = (out.app (supT r us).1, (supT r us).2),
    ⟨_, .nil, f, .nil, ws, rfl, rfl, rfl, ⟨rfl, [], Owns.made hB0 (by omega), rfl⟩, rfl, hW.ext e0, hwc, hgl, e0, rfl⟩, ?_⟩
  rintro va vn vc oa on oc _ W m ⟨p, r, out, us, hpr, rfl, rfl, hout, holen, hV, hvc, hgr, he, heq⟩ _
  have hon := hout.len
  have hwW := he.size
  refine br_split (fun hlt => ?_) (fun hge => ?_)
  · obtain ⟨k, t, mm, ps, r, rfl⟩ := Fo.next hpr (by omega)
    have hsl := Fo.sub_len hpr
    have hsz := Fo.sub_size hpr
    have e1 : f = (p.app (.one k t mm ps)).app r := by rw [Fo.app_one_app]; exact hpr
    have i1 : IntKind.i64.wrap ((p.len : Int) + 1) = ((p.app (.one k t mm ps)).len : Int) := by rw [wrap_nat (by omega)]; simp [Fo.one]
    have hgn : nodeOk k t mm ps ∧ good ps := by
      have := hg; rw [hpr, good_app] at this; exact ⟨this.2.1, this.2.2.1⟩
    rw [gapL_cons] at hgr
    simp only [List.length_append] at hgr
    rw [supT] at heq
    obtain ⟨q, a', c', hq, hSq, hql, hN⟩ := (hf.ext he).get hpr
    refine hq _ ⟨k, hN.kind, t, hN.text, mm, hN.num, a', ps.len, c', hN.parts, ?_⟩
    refine al_stL (by simp) (by intro u hu; simp only [List.mem_cons, List.not_mem_nil, or_false] at hu; rcases hu with rfl | rfl | rfl | rfl <;> rfl) fun bx w1 hbx hBx e2 s2 => ?_
    obtain ⟨x0, x1, x2, x3⟩ := blk4 hBx
    have E1 := ext_trans he e2
    have ho1 := hout.ext e2
    have hzz := e2.size
    intro K20 hK20
    have k20 : ∀ (va2 : Option Addr) (vn2 vc2 : Nat) (us2 : List (List UInt8)) (k2 : Int) (t2 : List UInt8) (m2 : Int) (a2 : Option Addr) (c2 : Nat) (ps2 : Fo) (W2 : World), Ext W W2 → W2.heap.size = w1.heap.size → Blk W2 bx [.int .i64 k2, .string ⟨⟨t2⟩⟩, .int .i64 m2, .slice a2 ps2.len c2] 45 → SlF (fun k => S k ∧ k < w.heap.size) W2 a2 ps2.len ps2 → RowAt encStr (fun k => SW k ∧ k < w.heap.size) W2 va2 vn2 us2 → vn2 ≤ vc2 →
        ps2.size < f.size → good ps2 → (gapL ps2).length + (gapL r).length ≤ us2.length → supT f ws = (out.app (.cons k2 t2 m2 (supT ps2 us2).1 (supT r (supT ps2 us2).2).1), (supT r (supT ps2 us2).2).2) → K20 va2 vn2 vc2 W2 := by
      intro va2 vn2 vc2 us2 k2 t2 m2 a2 c2 ps2 W2 hE2 hz2 hB2 hS2 hV2 hvc2 hps2 hg2 hgl2 heq2
      refine hK20 _ _ _ _ fun _ => ?_
      obtain ⟨y0, y1, y2, y3⟩ := blk4 hB2
      refine ⟨a2, _, c2, y3, ?_⟩
      refine ih _ (hz ▸ hps2) ps2 rfl (S := fun k => S k ∧ k < w.heap.size) (SW := fun k => SW k ∧ k < w.heap.size) (by omega) hg2 (by omega) hS2 hV2 hvc2 fun a3 n3 c3 va3 vn3 vc3 w25 hsl3 hV3 hvc3 e25 => ⟨_, _, _, _, _, _, rfl, ?_⟩
      have hn3 := hsl3.1
      subst hn3
      have hB3 := hB2.ext e25
      have z25 := e25.size
      rw [add_none]
      refine stL_blk hB3 (by simp) (by intro u hu; simp only [List.mem_singleton] at hu; subst hu; rfl) fun w4 b1 b2 b3 b4 b5 b6 => ?_
      simp only [putAt, List.set] at b1
      have hc4 : Chg (· = bx) w25 w4 := ⟨b4, b5, b6, by omega, fun k _ hk => b2 k hk⟩
      have EW4 : Ext W w4 := ext_chgS (ext_trans hE2 e25) hc4 fun j hj => by omega
      have E4 := ext_trans he EW4
      have ho4 := hout.ext EW4
      have z4 := EW4.size
      have hp4 : SlF (fun j => (S j ∧ j < w.heap.size) ∨ w1.heap.size ≤ j) w4 a3 (supT ps2 us2).1.len (supT ps2 us2).1 := (hsl3.imp (S' := fun j => (S j ∧ j < w.heap.size) ∨ w1.heap.size ≤ j) fun j hj _ => hj.imp id (by omega)).chg hc4 fun j hj he => by
        subst he; rcases hj with hj | hj <;> omega
      obtain ⟨y0, y1, y2, y3⟩ := blk4 b1
      refine ⟨k2, y0, t2, y1, m2, y2, a3, _, c3, y3, ?_⟩
      refine OwnF.push slT_node ho4 (by omega) (own_parts hp4 (fun j hj => hj.2) hout (by omega) (by omega)) (by omega) (by omega) fun a5 n5 c5 w5 ho5 hc5 => ?_
      have hps3 := supT_rest ps2 us2 hg2
      have hV5 : RowAt encStr (fun k => SW k ∧ k < w.heap.size) w5 va3 vn3 (supT ps2 us2).2 :=
        (hV3.chg hc4 fun j hj hh => by omega).chg hc5 fun j hj hh => by have := (hout.bk hh).1; omega
      refine ⟨r.len, by simp, _, r, _, (supT ps2 us2).2, e1, i1, rfl, ho5, by simp [Fo.one]; omega, hV5, hvc3, ?_, ?_, ?_⟩
      · rw [hps3, List.length_drop]; omega
      · exact ext_chgS E4 hc5 fun j hj => (hout.bk hj).1
      · rw [heq2, Fo.app_one_app]
    refine ⟨k, x0, br_split (fun g => ?_) (fun g => ?_)⟩
    · rw [if_pos g] at heq
      rw [if_pos g] at hgr
      have hp : ps = .nil := Fo.eq_nil_of_len (hgn.1.2.2.2.2.1 (by rw [g]; decide))
      subst hp
      obtain ⟨u0, us, rfl⟩ : ∃ u0 us', us = u0 :: us' := by
        cases us with
        | nil => simp at hgr
        | cons u0 us => exact ⟨u0, us, rfl⟩
      simp only [List.length_cons, List.length_nil] at hgr
      simp only [List.headD_cons, List.tail_cons] at heq
      have hV1 := hV.ext e2
      obtain ⟨q2, hq2, cq2⟩ := get_str hV1 (k := 0) (by simp)
      have z0 : ((0 : Nat) : Int) = 0 := rfl
      rw [z0] at hq2
      refine hq2 _ ⟨_, cq2, ?_⟩
      refine stL_blk hBx (by simp) (by intro u hu; simp only [List.mem_cons, List.not_mem_nil, or_false] at hu; rcases hu with rfl | rfl | rfl | rfl <;> rfl) fun w41 b1 b2 b3 b4 b5 b6 => ?_
      have hc41 : Chg (· = bx) w1 w41 := ⟨b4, b5, b6, by omega, fun k _ hk => b2 k hk⟩
      have e41 : Ext W w41 := ext_chgS e2 hc41 fun j hj => by omega
      refine RowAt.rest rfl (hV.ext e41) hvc fun va' hva' => ?_
      refine k20 va' _ _ us 1 u0 0 none 0 .nil w41 e41 b3 b1 (SlF.nil none) hva' (by omega) (by have := hsz; simp only [Fo.size] at *; omega) trivial ?_ ?_
      · have e : (gapL .nil).length = 0 := rfl
        rw [e] at hgr ⊢
        omega
      · rw [heq]; rfl
    · rw [if_neg g] at heq hgr
      refine k20 va vn vc us k t mm a' c' ps w1 e2 rfl hBx (hN.sl.ext e2) (hV.ext e2) hvc hsz hgn.2 ?_ heq
      simp only [List.length_nil] at hgr
      omega
  · obtain ⟨rfl, rfl⟩ := Fo.last hpr (by omega)
    rw [heq] at h
    simp only [supT, Fo.app_nil] at h
    refine h oa on oc va vn vc W (hout.out.imp fun k hk _ => hk.imp (fun h => h.1) id) (hV.imp fun k hk _ => hk.1) hvc he
end Go.Proofs
namespace Go.Proofs
open Go Go.Sh Go.RowKit

def chk (ws : List (List UInt8)) : Nat → List Int → Bool
  | _, [] => true
  | i, n :: l => wrdOk ws i n && chk ws (i + 1) l
theorem chk_app (ws) : ∀ (l m : List Int) (i : Nat), chk ws i (l ++ m) = (chk ws i l && chk ws (i + l.length) m)
  | [], m, i => by simp [chk]
  | n :: l, m, i => by simp only [List.cons_append, chk, chk_app ws l m (i + 1), List.length_cons, Bool.and_assoc]; rw [show i + 1 + l.length = i + (l.length + 1) by omega]
theorem supG_cnt (ws) : ∀ (f : Fo) (i : Nat) (ok : Bool), good f → (supG ws f i ok).2 = (i + (gapL f).length, ok && chk ws i (gapL f))
  | .nil, i, ok, _ => by simp [supG, gapL, nodesF, chk]
  | .cons k t n ps r, i, ok, hg => by
    rw [supG, gapL_cons]
    by_cases hk : k = 6
    · have hp : ps = .nil := Fo.eq_nil_of_len (hg.1.2.2.2.2.1 (by rw [hk]; decide))
      subst hp
      have e : gapL .nil = [] := rfl
      rw [if_neg (by simp [hk]), if_pos hk, e, List.nil_append]
      simp only [List.cons_append, List.nil_append, chk, List.length_cons]
      by_cases hw : wrdOk ws i n = true
      · rw [if_pos hw]
        show (supG ws r (i + 1) ok).2 = _
        rw [supG_cnt ws r (i + 1) ok hg.2.2, hw, Bool.true_and, show i + 1 + (gapL r).length = i + ((gapL r).length + 1) by omega]
      · rw [if_neg hw, supG_cnt ws r (i + 1) false hg.2.2]
        have : wrdOk ws i n = false := by simpa using hw
        rw [this]
        simp only [Bool.false_and, Bool.and_false]
        rw [show i + 1 + (gapL r).length = i + ((gapL r).length + 1) by omega]
    · rw [if_pos hk, if_neg hk, List.nil_append]
      show (supG ws r _ _).2 = _
      rw [supG_cnt ws ps i ok hg.2.1, supG_cnt ws r _ _ hg.2.2, chk_app, List.length_append, Bool.and_assoc, Nat.add_assoc]
theorem supG_T (ws) : ∀ (f : Fo) (i : Nat) (ok : Bool), good f → chk ws i (gapL f) = true → (supG ws f i ok).1 = (supT f (ws.drop i)).1
  | .nil, i, ok, _, _ => rfl
  | .cons k t n ps r, i, ok, hg, hc => by
    rw [gapL_cons] at hc
    rw [supG, supT]
    by_cases hk : k = 6
    · have hp : ps = .nil := Fo.eq_nil_of_len (hg.1.2.2.2.2.1 (by rw [hk]; decide))
      subst hp
      have e : gapL .nil = [] := rfl
      rw [if_pos hk, e, List.nil_append] at hc
      simp only [List.cons_append, List.nil_append, chk, Bool.and_eq_true] at hc
      rw [if_neg (by simp [hk]), if_pos hc.1, if_pos hk]
      have ht : (ws.drop i).tail = ws.drop (i + 1) := by rw [List.tail_drop]
      have hh : (ws.drop i).headD [] = ws[i]?.getD [] := by rw [List.headD_eq_head?_getD, List.head?_drop]
      rw [ht, hh, supG_T ws r (i + 1) ok hg.2.2 hc.2]
    · rw [if_neg hk, List.nil_append, chk_app, Bool.and_eq_true] at hc
      have hcnt := supG_cnt ws ps i ok hg.2.1
      rw [if_pos hk, if_neg hk, supG_T ws ps i ok hg.2.1 hc.1, hcnt, supG_T ws r _ _ hg.2.2 hc.2, supT_rest ps _ hg.2.1, List.drop_drop]
theorem supE_eq {f : Fo} {ws : List (List UInt8)} (he : errU f = 0) (hg : good f) : supE f ws = if chk ws 0 (gapL f) = true ∧ (gapL f).length = ws.length then checkT (mergeF (supT f ws).1) else 9 := by
  have hc := supG_cnt ws f 0 true hg
  unfold supE
  rw [if_neg (by simp [he]), hc]
  simp only [Bool.true_and, Nat.zero_add]
  by_cases h1 : chk ws 0 (gapL f) = true
  · have hT := supG_T ws f 0 true hg h1
    rw [List.drop_zero] at hT
    rw [if_neg (by simp [h1])]
    by_cases h2 : (gapL f).length = ws.length
    · rw [if_neg (by omega), if_pos ⟨h1, h2⟩, hT]
    · rw [if_pos (by omega), if_neg (fun hh => h2 hh.2)]
  · rw [if_pos (by simpa using h1), if_neg (fun hh => h1 hh.1)]
theorem get_int {S : Nat → Prop} {w : World} {a : Option Addr} {n : Nat} {L : List Int} (h : RowAt encI S w a n L) {k : Nat} (hk : k < L.length) :
    ∃ q : Addr, (∀ K : Addr → Prop, K q → idx a n (k : Int) 1 K) ∧ w.cell? q = some (.int .i64 L[k]) := by
  obtain ⟨bb, o, hq, _, _, hc⟩ := h.get (i := k) (x := L[k]) (List.getElem?_eq_getElem hk)
  exact ⟨⟨bb, o, none⟩, hq, hc 0 _ rfl⟩
theorem chk_snoc (ws) (l : List Int) (k : Nat) (hk : k < l.length) : chk ws 0 (l.take (k + 1)) = (chk ws 0 (l.take k) && wrdOk ws k l[k]) := by
  rw [take_snoc hk, chk_app]
  simp only [chk, Bool.and_true, List.length_take, Nat.zero_add]
  rw [show min k l.length = k by omega]
theorem chk_false (ws) (l : List Int) (k : Nat) (h : chk ws 0 (l.take k) = false) : chk ws 0 l = false := by
  rw [← List.take_append_drop k l, chk_app, h, Bool.false_and]
set_option maxRecDepth 20000 in
theorem Supply12_spec {R : Ending → World → Prop} {S SW : Nat → Prop} {w : World} {a : Option Addr} {n c : Nat} {wa : Option Addr} {wn wc : Nat} {ws : List (List UInt8)} (f : Fo) (hF : Forms w) (hf0 : SlF S w a n f) (hW0 : RowAt encStr SW w wa wn ws) (hwn : wn ≤ 1000000000) (hwc : wn ≤ wc)
    (h : ∀ a' n' c' w', SlF (fun k => S k ∨ w.heap.size ≤ k) w' a' n' (supR f ws) → Ext w w' → R (.returned (.tuple ⟨[.slice a' n' c', .int .i64 (supE f ws)]⟩)) w') : Calls Tryz.prog F_ref12_Supply ⟨[.slice a n c, .slice wa wn wc]⟩ w R := by
  apply c_ref12_Supply
  have er : ∀ e w', supE f ws = e → e ≠ 0 → Ext w w' → R (.returned (.tuple ⟨[.slice none 0 0, .int .i64 e]⟩)) w' := by
    intro e w' he h0 hx
    have hr : supR f ws = .nil := by unfold supR; rw [if_pos (by rw [he]; exact h0)]
    rw [hr, he] at h
    exact h none 0 0 w' (SlF.nil _) hx
  have hf : SlF (fun k => S k ∧ k < w.heap.size) w a n f := hf0.imp fun k hk hl => ⟨hk, hl⟩
  have hwl := hW0.1
  refine check12_spec f hf fun w4 e4 => ⟨_, rfl, br_split (fun g => er _ _ (by unfold supE; rw [if_pos g]) g e4) (fun g => ?_)⟩
  have he0 := Decidable.not_not.1 g
  obtain ⟨hc0, _⟩ := errU_zero he0
  obtain ⟨q1, q2, q3⟩ := check_zero hc0
  have hE := supE_eq (ws := ws) he0 q2
  have hgl := gapL_len f
  refine gaps12_spec f (by omega) (hf.ext e4) fun a8 c8 w7 hr8 e7 => ⟨_, _, _, rfl, ?_⟩
  have E7 := ext_trans e4 e7
  refine br_split (fun gl => er 9 _ (by rw [hE, if_neg (fun hh => gl (by omega))]) (by decide) E7) (fun gl => ?_)
  have hlen : (gapL f).length = ws.length := by omega
  refine ⟨fun i W m => ∃ k : Nat, i = k ∧ k ≤ (gapL f).length ∧ m = (gapL f).length - k ∧ chk ws 0 ((gapL f).take k) = true ∧ Ext w7 W, ⟨_, 0, rfl, by omega, rfl, rfl, Below.refl _ _⟩, ?_⟩
  rintro _ W m ⟨k, rfl, hk, rfl, hck, he⟩ _
  refine br_split (fun hlt => ?_) (fun hge => ?_)
  · have hkg : k < (gapL f).length := by omega
    have hkw : k < ws.length := by omega
    unfold drw
    have ed := ext_trans he (ext_drew W)
    obtain ⟨p1, hp1, c1⟩ := get_str (hW0.ext (ext_trans E7 ed)) hkw
    obtain ⟨p2, hp2, c2⟩ := get_int (hr8.ext ed) hkg
    refine hp1 _ ⟨_, c1, hp2 _ ⟨_, c2, ?_⟩⟩
    have hw : wrdOk ws k (gapL f)[k] = decide ((ws[k].length : Int) = (gapL f)[k]) := by unfold wrdOk; rw [List.getElem?_eq_getElem hkw]
    refine br_split (fun gn => er 9 _ ?_ (by decide) (ext_trans E7 ed)) (fun gn => ?_)
    · rw [hE, if_neg]
      rintro ⟨hh, _⟩
      have := chk_false ws (gapL f) (k + 1) (by rw [chk_snoc ws _ _ hkg, hw, decide_eq_false gn, Bool.and_false])
      rw [this] at hh; cases hh
    · exact ⟨(gapL f).length - (k + 1), by omega, k + 1, by rw [wrap_nat (by omega)], by omega, rfl, by rw [chk_snoc ws _ _ hkg, hck, hw, decide_eq_true (Decidable.not_not.1 gn)]; rfl, ed⟩
  · have hkk : k = (gapL f).length := by omega
    rw [hkk, List.take_length] at hck
    rw [if_pos ⟨hck, hlen⟩] at hE
    have EW := ext_trans E7 he
    have hT := supG_T ws f 0 true q2 hck
    rw [List.drop_zero] at hT
    have hsz := supT_len f ws
    have hgt := supG_tlen ws f 0 true q2
    rw [hT] at hgt
    refine supply12_spec f (by omega) q2 (by omega) (hf.ext EW) (hW0.ext EW) hwc fun a2 n2 c2 wa2 wn2 wc2 w21 hsl hr2 _ e21 => ⟨_, _, _, _, _, _, rfl, ?_⟩
    have E21 := ext_trans EW e21
    refine Merge_spec' (supT f ws).1 (by omega) (by omega) hsl fun a3 n3 c3 w25 hsl3 e25 => ⟨_, _, _, rfl, ?_⟩
    have E25 := ext_trans E21 e25
    refine Check10_spec _ hsl3 fun w28 e28 => ⟨_, rfl, br_split (fun gg => er _ _ hE gg (ext_trans E25 e28)) (fun gg => ?_)⟩
    have h0 := Decidable.not_not.1 gg
    have hr : supR f ws = mergeF (supT f ws).1 := by unfold supR; rw [if_neg (by rw [hE]; exact gg), hT]
    have zE := EW.size
    have z21 := e21.size
    have := h a3 n3 c3 w28 (by
      rw [hr]
      refine (hsl3.ext e28).imp fun j hj hl => ?_
      rcases hj with (hj | hj) | hj
      · exact .inl hj.1
      · exact .inr (by omega)
      · exact .inr (by omega)) (ext_trans E25 e28)
    rw [hE, h0] at this
    exact this
end Go.Proofs
namespace Go.Proofs
open Go Go.Sh Go.RowKit

theorem firstE_app (l m : List Rw) (s : List UInt8) : firstE (l ++ m) s = (firstE l s).or (firstE m s) := by
  unfold firstE
  rw [List.find?_append]
  cases h : l.find? fun p => decide (p.1 = s) <;> simp
theorem all_ne {l : List Rw} {s : List UInt8} : l.all (fun p => decide (p.1 ≠ s)) = true ↔ firstE l s = none := by
  rw [firstE_none, List.all_eq_true]; simp
set_option maxRecDepth 20000 in
theorem Conflicts12_spec {R : Ending → World → Prop} {S : Nat → Prop} {w : World} {a : Option Addr} {n c : Nat} {L : List Rw} (h1 : RowAt encR S w a n L)
    (h : ∀ a' n' c' w', RowAt encStr (fun k => w.heap.size ≤ k) w' a' n' (conR L) → Ext w w' → R (.returned (.tuple ⟨[.slice a' n' c', .int .i64 (conE L)]⟩)) w') :
    Calls Tryz.prog F_ref12_Conflicts ⟨[.slice a n c]⟩ w R := by
  apply c_ref12_Conflicts
  have hn := h1.1
  unfold conR conE at h
  refine br_split (fun hg => ?_) (fun hg => ?_)
  · rw [if_pos (by omega), if_pos (by omega)] at h
    exact h none 0 0 w (RowAt.nil _) (Below.refl _ _)
  rw [if_neg (by omega), if_neg (by omega)] at h
  refine al_intro fun b0 w3 hb0 B0 e3 s3 => ?_
  refine ⟨fun oa on oc i W m => ∃ k : Nat, i = k ∧ k ≤ L.length ∧ m = L.length - k ∧ OwnL encStr W w.heap.size 9 oa on oc ((ordF (L.take k)).filter (confB L)) ∧ Ext w W, ⟨_, 0, rfl, by omega, rfl, Owns.made B0 (by omega), e3⟩, ?_⟩
  rintro oa on oc _ W m ⟨i, rfl, hi, rfl, go, he⟩ _
  have hwW := he.size
  refine br_split (fun hlt => ?_) (fun hge => ?_)
  · have hiL : i < L.length := by omega
    have hti : L.take (i + 1) = L.take i ++ [L[i]] := take_snoc hiL
    let F : Nat → Bool := fun k => (L.take (min k i)).all fun p => decide (p.1 ≠ L[i].1)
    let G : Nat → Bool := fun k => (L.take k).any fun p => decide (p.1 = L[i].1) && decide (p.2 ≠ L[i].2)
    refine ⟨fun fb sb k W2 m => ∃ k' : Nat, k = k' ∧ k' ≤ L.length ∧ m = L.length - k' ∧ fb = F k' ∧ sb = G k' ∧ Ext W W2, ⟨_, 0, rfl, by omega, rfl, by show true = (L.take (min 0 i)).all _; simp, rfl, Below.refl _ _⟩, ?_⟩
    rintro _ _ _ W2 m ⟨k, rfl, hk, rfl, rfl, rfl, he2⟩ _
    refine br_split (fun hlt2 => ?_) (fun hge2 => ?_)
    · have hkL : k < L.length := by omega
      have htk : L.take (k + 1) = L.take k ++ [L[k]] := take_snoc hkL
      unfold drw
      have ed := ext_trans he2 (ext_drew W2)
      generalize W2.drew = Wd at *
      obtain ⟨p1, hp1, c10, c11⟩ := get_rw (h1.ext (ext_trans he ed)) hkL
      obtain ⟨p2, hp2, c20, c21⟩ := get_rw (h1.ext (ext_trans he ed)) hiL
      have Fs : F (k + 1) = if L[k].1 = L[i].1 then (F k && decide (i ≤ k)) else F k := by
        show (L.take (min (k + 1) i)).all _ = if _ then ((L.take (min k i)).all _ && _) else (L.take (min k i)).all _
        by_cases hik : i ≤ k
        · rw [show min (k + 1) i = i by omega, show min k i = i by omega, decide_eq_true hik, Bool.and_true]; simp
        · rw [show min (k + 1) i = k + 1 by omega, show min k i = k by omega, decide_eq_false hik, Bool.and_false, htk, List.all_append]
          by_cases hs : L[k].1 = L[i].1 <;> simp [hs]
      have Gs : G (k + 1) = (G k || (decide (L[k].1 = L[i].1) && decide (L[k].2 ≠ L[i].2))) := by
        show (L.take (k + 1)).any _ = ((L.take k).any _ || _)
        rw [htk, List.any_append]; simp
      refine hp1 _ ⟨_, c10, hp2 _ ⟨_, c20, br_split (fun gs => ?_) (fun gs => ?_)⟩⟩
      · rw [if_pos gs] at Fs
        rw [decide_eq_true gs, Bool.true_and] at Gs
        intro K22 hK22
        have k22 : K22 (F (k + 1)) Wd := by
          refine hK22 _ _ fun _ => ?_
          have ed2 := ext_trans ed (ext_drew Wd)
          generalize Wd.drew = We at *
          obtain ⟨p1, hp1, d10, d11⟩ := get_rw (h1.ext (ext_trans he ed2)) hkL
          obtain ⟨p2, hp2, d20, d21⟩ := get_rw (h1.ext (ext_trans he ed2)) hiL
          refine br_cases (fun gb => ?_) (fun gb => hp1 _ ⟨_, d11, hp2 _ ⟨_, d21, ?_⟩⟩)
          · exact ⟨L.length - (k + 1), by omega, k + 1, by rw [wrap_nat (by omega)], by omega, rfl, rfl, by rw [Gs, gb]; rfl, ed2⟩
          · exact ⟨L.length - (k + 1), by omega, k + 1, by rw [wrap_nat (by omega)], by omega, rfl, rfl, by rw [Gs, gb, Bool.false_or], ed2⟩
        refine br_cases (fun gf => ?_) (fun gf => ?_)
        · rw [show (decide ((i : Int) ≤ (k : Int))) = F (k + 1) by rw [Fs, gf, Bool.true_and, decide_eq_decide]; omega]
          exact k22
        · rw [show false = F (k + 1) by rw [Fs, gf]; rfl]
          exact k22
      · rw [if_neg gs] at Fs
        rw [decide_eq_false gs, Bool.false_and, Bool.or_false] at Gs
        exact ⟨L.length - (k + 1), by omega, k + 1, by rw [wrap_nat (by omega)], by omega, rfl, Fs.symm, Gs.symm, ed⟩
    · have hkk : k = L.length := by omega
      have hF : F k = (L.take i).all fun p => decide (p.1 ≠ L[i].1) := by show (L.take (min k i)).all _ = _; rw [show min k i = i by omega]
      have hG : G k = L.any fun p => decide (p.1 = L[i].1) && decide (p.2 ≠ L[i].2) := by show (L.take k).any _ = _; rw [hkk, List.take_length]
      have E2 := ext_trans he he2
      have z2 := E2.size
      have gO := Owns.ext go he2
      -- what is added
      have add : (ordF (L.take (i + 1))).filter (confB L) = (ordF (L.take i)).filter (confB L) ++ if (F k && G k) = true then [L[i].1] else [] := by
        rw [hti]
        cases hf : firstE (L.take i) L[i].1 with
        | none =>
          have hFt : F k = true := by rw [hF]; exact all_ne.2 hf
          rw [ordF_new hf, List.filter_append, hFt, Bool.true_and]
          congr 1
          have hfl : firstE L L[i].1 = some L[i].2 := by
            have e : L = (L.take i ++ [L[i]]) ++ L.drop (i + 1) := by rw [← hti, List.take_append_drop]
            refine (congrArg (fun l => firstE l L[i].1) e).trans ?_
            show firstE ((L.take i ++ [L[i]]) ++ L.drop (i + 1)) L[i].1 = _
            rw [firstE_app, firstE_new hf, if_pos rfl]; rfl
          have hcG : confB L L[i].1 = G k := by
            rw [hG]; unfold confB
            rw [hfl]
            congr 1
            funext p
            congr 1
            rw [decide_eq_decide]
            constructor
            · intro hh e; exact hh (by rw [e])
            · intro hh e; exact hh (Option.some.inj e).symm
          by_cases hg : G k = true
          · rw [if_pos hg]; simp [hcG, hg]
          · rw [if_neg hg]; simp [hcG, hg]
        | some v =>
          have hFf : F k = false := by
            rw [hF]
            cases hh : (L.take i).all fun p => decide (p.1 ≠ L[i].1) with
            | false => rfl
            | true => rw [all_ne.1 hh] at hf; cases hf
          rw [ordF_old hf, hFf]; simp
      intro K33 hK33
      have k33 : K33 (F k && G k) W2 := by
        refine hK33 _ _ fun _ => br_cases (fun gb => ?_) (fun gb => ?_)
        · rw [gb, if_pos rfl] at add
          obtain ⟨p2, hp2, d20, d21⟩ := get_rw (h1.ext E2) hiL
          refine hp2 _ ⟨_, d20, ?_⟩
          have hol := OwnL.length gO
          have hof := List.length_filter_le (confB L) (ordF (L.take i))
          have hof2 := ordF_len (L.take i)
          rw [List.length_take] at hof2
          refine OwnL.push (E := encStr) slT_str gO (by omega) L[i].1 (by omega) (by omega) fun a40 c40 w41 ho hc hn' => ?_
          refine ⟨L.length - (i + 1), by omega, i + 1, by rw [wrap_nat (by omega)], by omega, rfl, by rw [add]; exact ho, ext_chgS E2 hc fun j hj => (Owns.bk gO hj).1⟩
        · rw [gb] at add
          simp only [Bool.false_eq_true, if_false, List.append_nil] at add
          exact ⟨L.length - (i + 1), by omega, i + 1, by rw [wrap_nat (by omega)], by omega, rfl, by rw [add]; exact gO, E2⟩
      refine br_cases (fun gf => ?_) (fun gf => ?_)
      · rw [gf, Bool.true_and] at k33; exact k33
      · rw [gf, Bool.false_and] at k33; exact k33
  · have hii : i = L.length := by omega
    rw [hii, List.take_length] at go
    have hl := OwnL.length go
    exact h oa on oc W (go.out.imp fun k hk _ => (Owns.bk go hk).1) he
end Go.Proofs
namespace Go.Proofs
open Go Go.Sh Go.RowKit

/- dividing a text, character by character -/
def goD (full : List UInt8 → Option (List UInt8)) : Nat → List UInt8 → Fo × List UInt8 → Fo × List UInt8
  | 0, _, st => st
  | _ + 1, [], st => st
  | m + 1, c :: r, st => if inW c then goD full m (r.dropWhile inW) (stepD full st (c :: r.takeWhile inW)) else goD full m r (st.1, st.2 ++ [c])
theorem goD_fuel (full) : ∀ (m m' : Nat) (r : List UInt8) (st : Fo × List UInt8), r.length ≤ m → r.length ≤ m' → goD full m r st = goD full m' r st
  | 0, 0, r, st, _, _ => rfl
  | 0, m' + 1, r, st, h, _ => by
    have : r = [] := List.eq_nil_of_length_eq_zero (by omega)
    subst this; rfl
  | m + 1, 0, r, st, _, h => by
    have : r = [] := List.eq_nil_of_length_eq_zero (by omega)
    subst this; rfl
  | m + 1, m' + 1, [], st, _, _ => rfl
  | m + 1, m' + 1, c :: r, st, h, h' => by
    simp only [List.length_cons] at h h'
    have := dropWhile_len inW r
    rw [goD, goD, goD_fuel full m m' _ _ (by omega) (by omega), goD_fuel full m m' _ _ (by omega) (by omega)]
def goE (full : List UInt8 → Option (List UInt8)) (r : List UInt8) (st : Fo × List UInt8) : Fo × List UInt8 := goD full r.length r st
theorem goE_nil (full st) : goE full [] st = st := rfl
theorem goE_word (full) {c : UInt8} {r : List UInt8} (st) (h : inW c = true) : goE full (c :: r) st = goE full (r.dropWhile inW) (stepD full st (c :: r.takeWhile inW)) := by
  unfold goE
  rw [List.length_cons, goD, if_pos h]
  exact goD_fuel full _ _ _ _ (dropWhile_len inW r) (Nat.le_refl _)
theorem goE_char (full) {c : UInt8} {r : List UInt8} (st) (h : inW c = false) : goE full (c :: r) st = goE full r (st.1, st.2 ++ [c]) := by
  unfold goE
  rw [List.length_cons, goD, if_neg (by simp [h])]
theorem goE_chars (full) : ∀ (l r : List UInt8) (st : Fo × List UInt8), (∀ y ∈ l, inW y = false) → goE full (l ++ r) st = goE full r (st.1, st.2 ++ l)
  | [], r, st, _ => by simp
  | c :: l, r, st, h => by
    rw [List.cons_append, goE_char full st (h c (by simp)), goE_chars full l r _ fun y hy => h y (by simp [hy])]
    simp
def wordy (full : List UInt8 → Option (List UInt8)) : Prop := ∀ c r u, full (c :: r) = some u → inW c = true
theorem goE_chunks (full) (hw : wordy full) (s : List UInt8) (st : Fo × List UInt8) : goE full s st = (chunks s).foldl (stepD full) st := by
  induction hz : s.length using Nat.strongRecOn generalizing s st with
  | _ z ih =>
  cases s with
  | nil => simp [goE_nil, chunks]
  | cons c r =>
    have hl := dropWhile_len (fun x => inW x == inW c) r
    rw [chunks, List.foldl_cons, ← ih _ (by rw [← hz]; simp only [List.length_cons]; omega) _ _ rfl]
    cases hc : inW c with
    | true =>
      rw [goE_word full st hc]
      have e : (fun x => inW x == true) = inW := by funext x; simp
      rw [e]
    | false =>
      have hn : full (c :: r.takeWhile fun x => inW x == false) = none := by
        cases hf : full (c :: r.takeWhile fun x => inW x == false) with
        | none => rfl
        | some u => have := hw _ _ _ hf; rw [hc] at this; cases this
      have hs : stepD full st (c :: r.takeWhile fun x => inW x == false) = (st.1, st.2 ++ (c :: r.takeWhile fun x => inW x == false)) := by unfold stepD; rw [hn]
      rw [hs]
      have e : c :: r = (c :: r.takeWhile fun x => inW x == false) ++ r.dropWhile fun x => inW x == false := by rw [List.cons_append, List.takeWhile_append_dropWhile]
      conv => lhs; rw [e]
      rw [goE_chars full _ _ _ (fun y hy => by
        rcases List.mem_cons.1 hy with rfl | hy
        · exact hc
        · have := mem_takeWhile hy; simpa using this)]
theorem word_inW {s : List UInt8} (h : isWordF s = true) {c : UInt8} {r : List UInt8} (hs : s = c :: r) : inW c = true := by
  subst hs
  unfold isWordF at h
  simp only [Bool.and_eq_true] at h
  have h1 := h.1.2
  have := (letB_iff c).1 h1
  unfold inW
  rcases this with h | h <;> simp [h]
theorem wordy_of {L : List Rw} (h : ∀ p ∈ L, isWordF p.1 = true) : wordy (firstE L) := by
  intro c r u hf
  unfold firstE at hf
  rw [Option.map_eq_some_iff] at hf
  obtain ⟨p, hp, _⟩ := hf
  have h1 := List.find?_some hp
  simp only [decide_eq_true_eq] at h1
  exact word_inW (h p (List.mem_of_find?_eq_some hp)) h1
theorem inside_spec {R : Ending → World → Prop} {w : World} (b : UInt8) (h : R (.returned (.bool (inW b))) w) : Calls Tryz.prog F_ref12_inside ⟨[.int .u8 (b.toNat : Int)]⟩ w R := by
  apply c_ref12_inside
  refine Kind_spec' b ⟨_, rfl, ?_⟩
  unfold inW at h
  refine br_split (fun g => ?_) (fun g1 => br_split (fun g => ?_) (fun g2 => br_split (fun g => ?_) (fun g3 => ?_)))
  · simp only [g, decide_true, Bool.true_or] at h; exact h
  · simp only [g, decide_true, Bool.true_or, Bool.or_true] at h; exact h
  · simp only [g, decide_true, Bool.true_or, Bool.or_true] at h; exact h
  · simp only [g1, g2, g3, decide_false, Bool.false_or] at h; exact h
/- the first pair with a form -/
def fnd (L : List Rw) (v : List UInt8) (q : Nat) : Int := match (L.drop q).findIdx? fun p => decide (p.1 = v) with
  | some m => ((q + m : Nat) : Int)
  | none => -1
theorem fnd_step {L : List Rw} {v : List UInt8} {q : Nat} (hq : q < L.length) : fnd L v q = if L[q].1 = v then (q : Int) else fnd L v (q + 1) := by
  unfold fnd
  rw [List.drop_eq_getElem_cons hq, List.findIdx?_cons]
  by_cases h : L[q].1 = v
  · simp [h]
  · simp only [h, decide_false, if_false, Bool.false_eq_true]
    cases (L.drop (q + 1)).findIdx? fun p => decide (p.1 = v) with
    | none => rfl
    | some m => simp; omega
theorem fnd_end (L : List Rw) (v : List UInt8) : fnd L v L.length = -1 := by unfold fnd; rw [List.drop_length]; rfl
theorem fnd_zero (L : List Rw) (v : List UInt8) : (fnd L v 0 = -1 ∧ firstE L v = none) ∨ ∃ (m : Nat) (hm : m < L.length), fnd L v 0 = m ∧ firstE L v = some L[m].2 := by
  unfold fnd firstE
  rw [List.drop_zero]
  cases hf : L.findIdx? fun p => decide (p.1 = v) with
  | none =>
    left
    refine ⟨rfl, ?_⟩
    rw [Option.map_eq_none_iff, List.find?_eq_none]
    rw [List.findIdx?_eq_none_iff] at hf
    intro p hp
    have := hf p hp
    simpa using this
  | some m =>
    right
    rw [List.findIdx?_eq_some_iff_getElem] at hf
    obtain ⟨hm, h1, h2⟩ := hf
    refine ⟨m, hm, by simp, ?_⟩
    have : L.find? (fun p => decide (p.1 = v)) = some L[m] := by
      rw [List.find?_eq_some_iff_getElem]
      exact ⟨h1, m, hm, rfl, fun j hj => by have := h2 j hj; simpa using this⟩
    rw [this]; rfl
end Go.Proofs
namespace Go.Proofs
open Go Go.Sh Go.RowKit

set_option maxRecDepth 20000 in
theorem divided_spec {R : Ending → World → Prop} {S : Nat → Prop} {w : World} {pa : Option Addr} {pn pc : Nat} {L : List Rw} (s : List UInt8) (hs : s.length ≤ 300000000) (hP0 : RowAt encR S w pa pn L) (hpn : pn ≤ 4096) (hw : ∀ p ∈ L, isWordF p.1 = true)
    (h : ∀ a' n' c' w', SlF (fun k => w.heap.size ≤ k) w' a' n' (divT (firstE L) .nil s) → Ext w w' → R (.returned (.slice a' n' c')) w') :
    Calls Tryz.prog F_ref12_divided ⟨[.string ⟨⟨s⟩⟩, .slice pa pn pc]⟩ w R := by
  apply c_ref12_divided
  have hP : RowAt encR (fun k => S k ∧ k < w.heap.size) w pa pn L := hP0.imp fun k hk hl => ⟨hk, hl⟩
  have hpl := hP.1
  have hwo := wordy_of hw
  have hgo : divT (firstE L) .nil s = flushF (goE (firstE L) s (.nil, [])).1 (goE (firstE L) s (.nil, [])).2 := by
    unfold divT divS
    rw [goE_chunks _ hwo]
  refine al_intro fun b0 w0 hb0 hB0 e0 s0 => ?_
  refine ⟨fun oa on oc text i W m => ∃ (k : Nat) (out : Fo), i = k ∧ k ≤ s.length ∧ m = s.length - k ∧ OwnF 45 (fun _ => False) w.heap.size W oa on oc out ∧ out.len ≤ 2 * k ∧ text.length ≤ k ∧ Ext w W ∧ goE (firstE L) s (.nil, []) = goE (firstE L) (s.drop k) (out, text),
    ⟨_, 0, .nil, rfl, by omega, rfl, ⟨rfl, [], Owns.made hB0 (by omega), rfl⟩, by simp, by simp, e0, rfl⟩, ?_⟩
  rintro oa on oc text _ W m ⟨i, out, rfl, hi, rfl, hout, holen, htl, he, heq⟩ _
  have hon := hout.len
  have hwW := he.size
  refine br_split (fun hlt => ?_) (fun hge => ?_)
  · have hil : i < s.length := by omega
    have hdr : s.drop i = s[i] :: s.drop (i + 1) := List.drop_eq_getElem_cons hil
    intro K12 hK12
    have k12 : ∀ (k : Nat) (W2 : World), i ≤ k → k ≤ s.length → (∀ j (hj : i ≤ j) (h2 : j < k) (h3 : k ≤ s.length), inW (s[j]'(by omega)) = true) → (∀ h : k < s.length, inW s[k] = false) → Ext W W2 → K12 (k : Int) W2 := by
      intro k W2 hik hks hall hno hE2
      have E2 := ext_trans he hE2
      have hz2 := hE2.size
      have ho2 := hout.ext hE2
      refine hK12 _ _ fun _ => br_split (fun g => ?_) (fun g => ?_)
      · have hki : k = i := by omega
        subst hki
        rw [wrap_nat (by omega)]
        refine ssl_nat (by omega) (by omega) ?_
        have hsub : (s.take (k + 1)).drop k = [s[k]] := by rw [take_snoc hil, List.drop_left' (by rw [List.length_take]; omega)]
        rw [hsub]
        refine ⟨by simp; omega, s.length - (k + 1), by omega, k + 1, out, rfl, by omega, rfl, ho2, by omega, by simp; omega, E2, ?_⟩
        rw [heq, hdr, goE_char _ _ (hno hil)]
      · have hki : i < k := by omega
        refine ssl_nat hik hks ?_
        have hw0 : inW s[i] = true := hall i (by omega) hki hks
        -- the word
        obtain ⟨d, hd⟩ : ∃ d, k = i + 1 + d := ⟨k - (i + 1), by omega⟩
        have htw := while_at (p := inW) (r := s.drop (i + 1)) (m := d) (by rw [List.length_drop]; omega) (fun j hj _ => by rw [List.getElem_drop]; exact hall (i + 1 + j) (by omega) (by omega) hks) (fun hh => by
          rw [List.length_drop] at hh
          rw [List.getElem_drop]
          have := hno (by omega)
          subst hd; exact this)
        have hword : (s.take k).drop i = s[i] :: (s.drop (i + 1)).takeWhile inW := by
          rw [htw.1, List.drop_take, hdr, show k - i = d + 1 by omega, List.take_succ_cons]
        have hrest : (s.drop (i + 1)).dropWhile inW = s.drop k := by rw [htw.2, List.drop_drop, hd]
        have hstep : goE (firstE L) s (.nil, []) = goE (firstE L) (s.drop k) (stepD (firstE L) (out, text) ((s.take k).drop i)) := by
          rw [heq, hdr, goE_word _ _ hw0, hrest, hword]
        have hwl : ((s.take k).drop i).length = k - i := by rw [List.length_drop, List.length_take]; omega
        generalize hv : (s.take k).drop i = v at *
        refine ⟨fun fd j W3 m => ∃ q : Nat, j = (q : Int) - 1 ∧ q ≤ L.length ∧ m = q ∧ fd = fnd L v q ∧ Ext W2 W3, ⟨_, L.length, by rw [hpl]; rw [wrap_id (by omega)], Nat.le_refl _, rfl, (fnd_end L v).symm, Below.refl _ _⟩, ?_⟩
        rintro _ _ W3 q ⟨_, rfl, hq, rfl, rfl, hE3⟩ _
        have E3 := ext_trans E2 hE3
        refine br_split (fun gj => ?_) (fun gj => ?_)
        · obtain ⟨q, rfl⟩ : ∃ q', q = q' + 1 := ⟨q - 1, by omega⟩
          have hqL : q < L.length := by omega
          have ej : ((q + 1 : Nat) : Int) - 1 = (q : Int) := by omega
          rw [ej]
          obtain ⟨p1, hp1, c0, c1⟩ := get_rw (hP.ext E3) hqL
          have hst := fnd_step (v := v) hqL
          refine hp1 _ ⟨_, c0, br_split (fun gm => ?_) (fun gm => ?_)⟩
          · exact ⟨q, by omega, q, by rw [wrap_id (by omega)], by omega, rfl, by rw [hst, if_pos gm], hE3⟩
          · exact ⟨q, by omega, q, by rw [wrap_id (by omega)], by omega, rfl, by rw [hst, if_neg gm], hE3⟩
        · have hq0 : q = 0 := by omega
          subst hq0
          have ho3 := ho2.ext hE3
          have hz3 := hE3.size
          rcases fnd_zero L v with ⟨hf, hfe⟩ | ⟨mm, hmm, hf, hfe⟩
          · rw [hf]
            refine br_split (fun _ => ?_) (fun hh => absurd (by decide) hh)
            refine ⟨by omega, s.length - k, by omega, k, out, rfl, hks, rfl, ho3, by omega, by rw [List.length_append]; omega, E3, ?_⟩
            rw [hstep]
            unfold stepD
            rw [hfe]
          · rw [hf]
            refine br_split (fun hh => by omega) (fun _ => ?_)
            have hstep2 : goE (firstE L) s (.nil, []) = goE (firstE L) (s.drop k) ((flushF out text).app (.one 10 v 0 (.one 1 L[mm].2 0 .nil)), []) := by
              rw [hstep]; unfold stepD; rw [hfe]
            intro K31 hK31
            have k31 : ∀ (oa2 : Option Addr) (on2 oc2 : Nat) (W4 : World), OwnF 45 (fun _ => False) w.heap.size W4 oa2 on2 oc2 (flushF out text) → Ext w W4 → K31 oa2 on2 oc2 W4 := by
              intro oa2 on2 oc2 W4 ho4 hE4
              have hz4 := hE4.size
              have hfl : (flushF out text).len ≤ out.len + 1 := by unfold flushF; split <;> simp [Fo.one]
              have hon4 := ho4.len
              refine hK31 _ _ _ _ fun _ => ?_
              obtain ⟨p1, hp1, c0, c1⟩ := get_rw (hP.ext hE4) hmm
              refine hp1 _ ⟨_, c1, ?_⟩
              refine al_intro fun b36 w37 hb36 B36 e37 s37 => ?_
              have ho37 := ho4.ext e37
              have hps : SlF (fun k => (False ∨ w.heap.size ≤ k) ∧ ¬ bk oa2 k) w37 (some ⟨b36, 0, none⟩) (Fo.one 1 L[mm].2 0 .nil).len (.one 1 L[mm].2 0 .nil) :=
                ⟨rfl, _, .inr ⟨b36, 0, rfl, ⟨.inr (by omega), fun hh => by have := (ho4.bk hh).2; omega⟩, B36.lt, fun j v hj => by rw [Nat.zero_add, B36.cell]; exact hj⟩, none, 0, [], [], rfl, .inl rfl, rfl, rfl⟩
              refine OwnF.push (ps := .one 1 L[mm].2 0 .nil) slT_node ho37 (by omega) hps (by omega) (by omega) fun a5 n5 c5 w5 ho5 hc5 => ?_
              refine ⟨s.length - k, by omega, k, _, rfl, hks, rfl, ho5, by simp [Fo.one]; omega, by simp, ?_, hstep2⟩
              exact ext_chgS (ext_trans hE4 e37) hc5 fun j hj => (ho37.bk hj).1
            refine br_split (fun gt => ?_) (fun gt => ?_)
            · refine OwnF.push (ps := .nil) slT_node ho3 (by omega) (SlF.nil none) (by omega) (by omega) fun a5 n5 c5 w5 ho5 hc5 => ?_
              refine k31 a5 n5 c5 w5 ?_ (ext_chgS E3 hc5 fun j hj => (ho3.bk hj).1)
              unfold flushF; rw [if_neg gt]; exact ho5
            · refine k31 oa on oc W3 ?_ E3
              unfold flushF; rw [if_pos (Decidable.not_not.1 gt)]; exact ho3
    refine ⟨fun j W2 m => ∃ k : Nat, j = k ∧ i ≤ k ∧ k ≤ s.length ∧ m = s.length - k ∧ (∀ j (hj : i ≤ j) (h2 : j < k) (h3 : k ≤ s.length), inW (s[j]'(by omega)) = true) ∧ Ext W W2, ⟨_, i, rfl, by omega, hi, rfl, fun j hj h2 _ => by omega, Below.refl _ _⟩, ?_⟩
    rintro _ W2 m ⟨k, rfl, hik, hks, rfl, hall, hE2⟩ _
    refine br_split (fun hlt2 => ?_) (fun hge2 => ?_)
    · have hkl : k < s.length := by omega
      refine sidx_nat hkl ?_
      refine inside_spec _ ⟨_, rfl, br_cases (fun g => ?_) (fun g => ?_)⟩
      · refine ⟨s.length - (k + 1), by omega, k + 1, by rw [wrap_nat (by omega)], by omega, by omega, rfl, fun j hj h2 h3 => ?_, hE2⟩
        by_cases hjk : j = k
        · subst hjk; exact g
        · exact hall j hj (by omega) hks
      · exact k12 k W2 hik hks hall (fun _ => g) hE2
    · exact k12 k W2 hik hks hall (fun hh => by omega) hE2
  · have hii : i = s.length := by omega
    rw [hii, List.drop_length, goE_nil] at heq
    rw [heq] at hgo
    have fin : ∀ a n c W', SlF (fun k => False ∨ w.heap.size ≤ k) W' a n (divT (firstE L) .nil s) → Ext w W' → R (.returned (.slice a n c)) W' := fun a n c W' hsl hx => h a n c W' (hsl.imp fun k hk _ => hk.elim (fun h => h.elim) id) hx
    refine br_split (fun gt => ?_) (fun gt => ?_)
    · refine OwnF.push (ps := .nil) slT_node hout (by omega) (SlF.nil none) (by omega) (by omega) fun a5 n5 c5 w5 ho5 hc5 => ?_
      refine fin a5 n5 c5 w5 ?_ (ext_chgS he hc5 fun j hj => (hout.bk hj).1)
      rw [hgo]; unfold flushF; rw [if_neg gt]; exact ho5.out
    · refine fin oa on oc W ?_ he
      rw [hgo]; unfold flushF; rw [if_pos (Decidable.not_not.1 gt)]; exact hout.out
end Go.Proofs
namespace Go.Proofs
open Go Go.Sh Go.RowKit

theorem divS_out (full) (f : Fo) (l : List (List UInt8)) : divS full f l = (f.app (divS full .nil l).1, (divS full .nil l).2) := by
  induction l using snoc_ind with
  | h0 => simp [divS]
  | h1 l x ih =>
    rw [divS_snoc, divS_snoc, ih]
    unfold stepD
    cases full x with
    | none => rfl
    | some u =>
      simp only [flushF]
      split
      · rw [Fo.app_assoc]
      · rw [Fo.app_assoc, Fo.app_assoc, Fo.app_assoc]
theorem divT_out (full) (f : Fo) (t : List UInt8) : divT full f t = f.app (divT full .nil t) := by
  unfold divT
  rw [divS_out full f]
  simp only [flushF]
  split
  · rfl
  · rw [Fo.app_assoc]
set_option maxRecDepth 20000 in
theorem expand12_spec {L : List Rw} (hw : ∀ p ∈ L, isWordF p.1 = true) (hL : L.length ≤ 4096) : ∀ (f : Fo) {R : Ending → World → Prop} {S SP : Nat → Prop} {w : World} {a : Option Addr} {n c : Nat} {pa : Option Addr} {pn pc : Nat} (hs : f.size ≤ 1000000) (ht : tlen f ≤ 300000000)
    (hf0 : SlF S w a n f) (hP0 : RowAt encR SP w pa pn L)
    (h : ∀ a' n' c' w', SlF (fun k => S k ∨ w.heap.size ≤ k) w' a' n' (expA (firstE L) f .nil) → Ext w w' → R (.returned (.slice a' n' c')) w'),
    Calls Tryz.prog F_ref12_expand ⟨[.slice a n c, .slice pa pn pc]⟩ w R := by
  intro f
  induction hz : f.size using Nat.strongRecOn generalizing f with
  | _ z ih =>
  intro R S SP w a n c pa pn pc hs ht hf0 hP0 h
  apply c_ref12_expand
  have hn := hf0.1
  have hfl := f.len_le_size
  have hpn := hP0.1
  have hf : SlF (fun k => S k ∧ k < w.heap.size) w a n f := hf0.imp fun k hk hl => ⟨hk, hl⟩
  have hP : RowAt encR (fun k => SP k ∧ k < w.heap.size) w pa pn L := hP0.imp fun k hk hl => ⟨hk, hl⟩
  refine al_intro fun b0 w0 hb0 hB0 e0 s0 => ?_
  refine ⟨fun oa on oc i W m => ∃ (p r out : Fo), f = p.app r ∧ i = p.len ∧ m = r.len ∧ OwnF 45 (fun k => S k ∧ k < w.heap.size) w.heap.size W oa on oc out ∧ out.len ≤ 2 * tlen p + 2 * p.len ∧ Ext w W ∧ expA (firstE L) f .nil = expA (firstE L) r out,
    ⟨_, .nil, f, .nil, rfl, rfl, rfl, ⟨rfl, [], Owns.made hB0 (by omega), rfl⟩, by simp, e0, rfl⟩, ?_⟩
  rintro oa on oc _ W m ⟨p, r, out, hpr, rfl, rfl, hout, holen, he, heq⟩ _
  have hon := hout.len
  have hwW := he.size
  refine br_split (fun hlt => ?_) (fun hge => ?_)
  · obtain ⟨k, t, mm, ps, r, rfl⟩ := Fo.next hpr (by omega)
    have hsl := Fo.sub_len hpr
    have hsz := Fo.sub_size hpr
    have htl : tlen f = tlen p + (t.length + tlen ps + tlen r) := by rw [hpr, tlen_app]; rfl
    have e1 : f = (p.app (.one k t mm ps)).app r := by rw [Fo.app_one_app]; exact hpr
    have i1 : IntKind.i64.wrap ((p.len : Int) + 1) = ((p.app (.one k t mm ps)).len : Int) := by rw [wrap_nat (by omega)]; simp [Fo.one]
    have t1 : tlen (p.app (.one k t mm ps)) = tlen p + (t.length + tlen ps) := by rw [tlen_app]; simp [Fo.one, tlen]
    rw [expA] at heq
    obtain ⟨q, a', c', hq, hSq, hql, hN⟩ := (hf.ext he).get hpr
    refine hq _ ⟨k, hN.kind, t, hN.text, mm, hN.num, a', ps.len, c', hN.parts, ?_⟩
    refine al_stL (by simp) (by intro u hu; simp only [List.mem_cons, List.not_mem_nil, or_false] at hu; rcases hu with rfl | rfl | rfl | rfl <;> rfl) fun bx w18 hbx hBx e2 s2 => ?_
    obtain ⟨x0, x1, x2, x3⟩ := blk4 hBx
    have E18 := ext_trans he e2
    have zz := e2.size
    refine ⟨k, x0, br_split (fun g => ?_) (fun g => ?_)⟩
    · rw [if_neg (by simp [g]), divT_out] at heq
      refine ⟨t, x1, ?_⟩
      have hdl := divT_len (firstE L) .nil t
      simp only [Fo.len_nil] at hdl
      refine divided_spec t (by omega) (hP.ext E18) (by omega) hw fun a23 n23 c23 w22 hsl22 e22 => ⟨_, _, _, rfl, ?_⟩
      have hn23 := hsl22.1
      have E22 := ext_trans e2 e22
      have ho22 := hout.ext E22
      have z22 := E22.size
      refine OwnF.pushAll slT_node ho22 (by omega) (hsl22.imp fun j hj _ => ⟨.inr (by omega), fun hh => by have := (hout.bk hh).2; omega⟩) (by omega) (by omega) fun a5 n5 c5 w5 ho5 hc5 => ?_
      refine ⟨r.len, by simp, _, r, _, e1, i1, rfl, ho5, by rw [t1]; simp [Fo.one]; omega, ?_, heq⟩
      exact ext_chgS (ext_trans he E22) hc5 fun j hj => (ho22.bk hj).1
    · rw [if_pos g] at heq
      intro K27 hK27
      have k27 : ∀ (W3 : World) (a3 : Option Addr) (c3 : Nat) (ps3 : Fo), Blk W3 bx [.int .i64 k, .string ⟨⟨t⟩⟩, .int .i64 mm, .slice a3 ps3.len c3] 45 → Ext W W3 → SlF (fun j => (S j ∧ j < w.heap.size) ∨ w18.heap.size ≤ j) W3 a3 ps3.len ps3 →
          expA (firstE L) f .nil = expA (firstE L) r (out.app (.one k t mm ps3)) → K27 W3 := by
        intro W3 a3 c3 ps3 hB3 hE3 hsl3 heq3
        have ho3 := hout.ext hE3
        have z3 := hE3.size
        refine hK27 _ fun _ => ?_
        obtain ⟨y0, y1, y2, y3⟩ := blk4 hB3
        refine ⟨k, y0, t, y1, mm, y2, a3, _, c3, y3, ?_⟩
        refine OwnF.push slT_node ho3 (by omega) (own_parts hsl3 (fun j hj => hj.2) hout (by omega) (by omega)) (by omega) (by omega) fun a5 n5 c5 w5 ho5 hc5 => ?_
        exact ⟨r.len, by simp, _, r, _, e1, i1, rfl, ho5, by rw [t1]; simp [Fo.one]; omega, ext_chgS (ext_trans he hE3) hc5 (fun j hj => (ho3.bk hj).1), heq3⟩
      refine ⟨k, x0, br_split (fun g10 => ?_) (fun g10 => ?_)⟩
      · rw [if_pos g10] at heq
        refine ⟨a', ps.len, c', x3, ?_⟩
        refine ih _ (hz ▸ hsz) ps rfl (S := fun k => S k ∧ k < w.heap.size) (by omega) (by omega) (hN.sl.ext e2) (hP.ext E18) fun a3 n3 c3 w41 hsl3 e41 => ⟨_, _, _, rfl, ?_⟩
        have hn3 := hsl3.1
        subst hn3
        have hBx3 := hBx.ext e41
        rw [add_none]
        refine stL_blk hBx3 (by simp) (by intro u hu; simp only [List.mem_singleton] at hu; subst hu; rfl) fun w43 b1 b2 b3 b4 b5 b6 => ?_
        simp only [putAt, List.set] at b1
        have hc43 : Chg (· = bx) w41 w43 := ⟨b4, b5, b6, by omega, fun k _ hk => b2 k hk⟩
        refine k27 w43 a3 c3 _ b1 (ext_chgS (ext_trans e2 e41) hc43 fun j hj => by omega) ?_ heq
        exact hsl3.chg hc43 fun j hj he => by subst he; rcases hj with hj | hj <;> omega
      · rw [if_neg g10] at heq
        exact k27 w18 a' c' ps hBx e2 ((hN.sl.ext e2).imp fun j hj _ => .inl hj) heq
  · obtain ⟨rfl, rfl⟩ := Fo.last hpr (by omega)
    rw [heq] at h
    simp only [expA] at h
    exact h oa on oc W (hout.out.imp fun k hk _ => hk.imp (fun h => h.1) id) he
set_option maxRecDepth 20000 in
theorem Expand12_spec {R : Ending → World → Prop} {S SP : Nat → Prop} {w : World} {a : Option Addr} {n c : Nat} {pa : Option Addr} {pn pc : Nat} {L : List Rw} (f : Fo) (hF : Forms w) (hf0 : SlF S w a n f) (hP0 : RowAt encR SP w pa pn L)
    (h : ∀ a' n' c' w', SlF (fun k => S k ∨ w.heap.size ≤ k) w' a' n' (expR f L) → Ext w w' → R (.returned (.tuple ⟨[.slice a' n' c', .int .i64 (expE f L)]⟩)) w') : Calls Tryz.prog F_ref12_Expand ⟨[.slice a n c, .slice pa pn pc]⟩ w R := by
  apply c_ref12_Expand
  have er : ∀ e w', expE f L = e → e ≠ 0 → Ext w w' → R (.returned (.tuple ⟨[.slice none 0 0, .int .i64 e]⟩)) w' := by
    intro e w' he h0 hx
    have hr : expR f L = .nil := by unfold expR; rw [if_pos (by rw [he]; exact h0)]
    rw [hr, he] at h
    exact h none 0 0 w' (SlF.nil _) hx
  have hf : SlF (fun k => S k ∧ k < w.heap.size) w a n f := hf0.imp fun k hk hl => ⟨hk, hl⟩
  have hpn := hP0.1
  refine check12_spec f hf fun w4 e4 => ⟨_, rfl, br_split (fun g => er _ _ (by unfold expE; rw [if_pos g]) g e4) (fun g => ?_)⟩
  have he0 := Decidable.not_not.1 g
  obtain ⟨hc0, _⟩ := errU_zero he0
  obtain ⟨q1, q2, q3⟩ := check_zero hc0
  refine br_split (fun g4 => er 4 _ (by unfold expE; rw [if_neg g, if_pos (by omega)]) (by decide) e4) (fun g4 => ?_)
  have hL : L.length ≤ 4096 := by omega
  refine ⟨fun i W m => ∃ k : Nat, i = k ∧ k ≤ L.length ∧ m = L.length - k ∧ (L.take k).any badR = false ∧ Ext w W, ⟨_, 0, rfl, by omega, rfl, rfl, e4⟩, ?_⟩
  rintro _ W m ⟨k, rfl, hk, rfl, gb, ge⟩ _
  refine br_split (fun hlt => ?_) (fun hge => ?_)
  · have hkL : k < L.length := by omega
    have bad : ∀ W', badR L[k] = true → Ext w W' → R (.returned (.tuple ⟨[.slice none 0 0, .int .i64 24]⟩)) W' := fun W' hb he => er 24 _ (by
      unfold expE
      rw [if_neg g, if_neg (by omega), if_pos (List.any_eq_true.2 ⟨_, List.getElem_mem hkL, hb⟩)]) (by decide) he
    obtain ⟨p1, hp1, c0, c1⟩ := get_rw (hP0.ext ge) hkL
    refine hp1 _ ⟨_, c0, ?_⟩
    refine IsWord_spec' _ fun w14 e14 => ⟨_, rfl, br_cases (fun gw => bad _ ?_ (ext_trans ge e14)) (fun gw => ?_)⟩
    · unfold badR; rw [gw]; rfl
    have gw' : isWordF L[k].1 = true := by simpa using gw
    obtain ⟨p2, hp2, d0, d1⟩ := get_rw (hP0.ext (ext_trans ge e14)) hkL
    refine hp2 _ ⟨_, d1, br_split (fun g0 => bad _ ?_ (ext_trans ge e14)) (fun g0 => hp2 _ ⟨_, d1, ?_⟩)⟩
    · unfold badR; rw [g0]; simp
    refine Check_spec' _ fun w21 e21 => ⟨_, rfl, br_split (fun gc => bad _ ?_ (ext_trans (ext_trans ge e14) e21)) (fun gc => ?_)⟩
    · unfold badR; simp [gc]
    · refine ⟨L.length - (k + 1), by omega, k + 1, by rw [wrap_nat (by omega)], by omega, rfl, ?_, ext_trans (ext_trans ge e14) e21⟩
      have hnb : badR L[k] = false := by unfold badR; rw [gw', decide_eq_false g0, decide_eq_false gc]; rfl
      rw [take_snoc hkL, List.any_append, gb]; simp [hnb]
  · have hkk : k = L.length := by omega
    rw [hkk, List.take_length] at gb
    have hww : ∀ p ∈ L, isWordF p.1 = true := fun p hp => by
      have := List.any_eq_false.1 gb p hp
      unfold badR at this
      cases hq : isWordF p.1 with
      | true => rfl
      | false => rw [hq] at this; simp at this
    refine expand12_spec hww hL f (by omega) (by omega) (hf.ext ge) (hP0.ext ge) fun a2 n2 c2 w25 hsl e25 => ⟨_, _, _, rfl, ?_⟩
    have E25 := ext_trans ge e25
    have hE : expE f L = checkT (expA (firstE L) f .nil) := by unfold expE; rw [if_neg g, if_neg (by omega), if_neg (by simp [gb])]
    refine Check10_spec _ hsl fun w28 e28 => ⟨_, rfl, br_split (fun gg => er _ _ hE gg (ext_trans E25 e28)) (fun gg => ?_)⟩
    have h0 := Decidable.not_not.1 gg
    have hr : expR f L = expA (firstE L) f .nil := by unfold expR; rw [if_neg (by rw [hE]; exact gg)]
    have zz := ge.size
    have := h a2 n2 c2 w28 (by
      rw [hr]
      refine (hsl.ext e28).imp fun j hj hl => ?_
      rcases hj with hj | hj
      · exact .inl hj.1
      · exact .inr (by omega)) (ext_trans E25 e28)
    rw [hE, h0] at this
    exact this
set_option maxRecDepth 20000 in
theorem EqualS_spec {R : Ending → World → Prop} {S S' : Nat → Prop} {w : World} {a b : Option Addr} {n c n' c' : Nat} {L M : List (List UInt8)} (h1 : RowAt encStr S w a n L) (h2 : RowAt encStr S' w b n' M) (hs : n ≤ 4611686018427387904)
    (h : ∀ w', Ext w w' → R (.returned (.bool (decide (L = M)))) w') : Calls Tryz.prog F_slices_Equal_of_string_string ⟨[.slice a n c, .slice b n' c']⟩ w R := by
  apply c_slices_Equal_of_string_string
  have e1 := h1.1
  have e2 := h2.1
  refine br_split (fun g => ?_) (fun g => ?_)
  · rw [show decide (L = M) = false by rw [decide_eq_false_iff_not]; rintro rfl; omega] at h
    exact h _ (Below.refl _ _)
  refine ⟨fun i W m => ∃ k : Nat, i = k ∧ k ≤ n ∧ m = n - k ∧ L.take k = M.take k ∧ Ext w W, ⟨_, 0, rfl, by omega, rfl, rfl, Below.refl _ _⟩, ?_⟩
  rintro _ W m ⟨k, rfl, hk, rfl, ht, he⟩ _
  refine br_split (fun hlt => ?_) (fun hge => ?_)
  · unfold drw
    have hd := ext_trans he (ext_drew W)
    have hkL : k < L.length := by omega
    have hkM : k < M.length := by omega
    obtain ⟨q, hq, c0⟩ := get_str (h1.ext hd) hkL
    obtain ⟨q', hq', d0⟩ := get_str (h2.ext hd) hkM
    refine hq _ ⟨_, c0, hq' _ ⟨_, d0, br_split (fun gn => ?_) (fun gn => ?_)⟩⟩
    · rw [show decide (L = M) = false by rw [decide_eq_false_iff_not]; rintro rfl; exact gn rfl] at h
      exact h _ hd
    · exact ⟨n - (k + 1), by omega, k + 1, by rw [wrap_nat (by omega)], by omega, rfl, by rw [take_snoc hkL, take_snoc hkM, ht, Decidable.not_not.1 gn], hd⟩
  · have : k = n := by omega
    subst this
    rw [List.take_of_length_le (by omega), List.take_of_length_le (by omega)] at ht
    rw [decide_eq_true ht] at h
    exact h _ he
end Go.Proofs
namespace Go.Proofs
open Go Go.Sh Go.RowKit

set_option maxRecDepth 20000 in
theorem LegibilityChanges_spec {R : Ending → World → Prop} {S SW SP : Nat → Prop} {w : World} {a : Option Addr} {n c : Nat} {wa : Option Addr} {wn wc : Nat} {pa : Option Addr} {pn pc : Nat} (f : Fo) (ws : List (List UInt8)) (L : List Rw) (p s : List UInt8) (hcw : wn ≤ wc)
    (hF : Forms w) (hf0 : SlF S w a n f) (hW : RowAt encStr SW w wa wn ws) (hP : RowAt encR SP w pa pn L)
    (h : ∀ w', Ext w w' → R (.returned (.bool true)) w') : Calls Tryz.prog F_law12_LegibilityChanges ⟨[.slice a n c, .slice wa wn wc, .slice pa pn pc, .string ⟨⟨p⟩⟩, .string ⟨⟨s⟩⟩]⟩ w R := by
  apply c_law12_LegibilityChanges
  have aw : ∀ {K : Ending → World → Prop} W, Ext w W → (∀ w', Ext w w' → K (.returned (.bool true)) w') → Calls Tryz.prog F_law12_awake ⟨[]⟩ W fun e w' => ∃ x : Bool, e = .returned (.bool x) ∧ K (.returned (.bool x)) w' :=
    fun W hx hK => awake12_spec (hF.ext hx) fun w10 e10 => ⟨_, rfl, hK _ (ext_trans hx e10)⟩
  have hwn := hW.1
  have hpn := hP.1
  intro K6 hK6
  have k6 : ∀ W, Ext w W → great10 f = false → greatR L = false → wn ≤ 8 → K6 W := by
    intro W hE hgr hgR h8
    have hs := great10_small hgr
    have hLl : L.length ≤ 4099 ∧ ∀ q ∈ L, q.1.length ≤ 30 := by
      unfold greatR at hgR
      rw [Bool.or_eq_false_iff] at hgR
      refine ⟨by have := hgR.1; simp at this; exact this, fun q hq => ?_⟩
      have := List.any_eq_false.1 hgR.2 q hq
      simp only [Bool.or_eq_true, decide_eq_true_eq, not_or] at this
      omega
    refine hK6 _ fun _ => ?_
    refine Supply_spec f hs (hF.ext hE) (hf0.ext hE) (hW.ext hE) (by omega) fun a1 n1 c1 w9 hs1 e9 => ⟨_, _, _, _, rfl, ?_⟩
    have E9 := ext_trans hE e9
    refine Supply12_spec f (hF.ext E9) (hf0.ext E9) (hW.ext E9) (by omega) hcw fun a2 n2 c2 w13 hs2 e13 => ⟨_, _, _, _, rfl, ?_⟩
    have E13 := ext_trans E9 e13
    refine Expand_spec f hs (hF.ext E13) (hf0.ext E13) (hP.ext E13) fun a3 n3 c3 w17 hs3 e17 => ⟨_, _, _, _, rfl, ?_⟩
    have E17 := ext_trans E13 e17
    refine Expand12_spec f (hF.ext E17) (hf0.ext E17) (hP.ext E17) fun a4 n4 c4 w21 hs4 e21 => ⟨_, _, _, _, rfl, ?_⟩
    have E21 := ext_trans E17 e21
    intro K24 hK24
    have k24 : ∀ W2, Ext w W2 → K24 W2 := by
      intro W2 hE2
      refine hK24 _ fun _ => ?_
      refine Conflicts_spec (hP.ext hE2) (fun q hq => by have := hLl.2 q hq; omega) fun a5 n5 c5 w27 hr5 _ e27 => ⟨_, _, _, _, rfl, ?_⟩
      have E27 := ext_trans hE2 e27
      refine Conflicts12_spec (hP.ext E27) fun a6 n6 c6 w31 hr6 e31 => ⟨_, _, _, _, rfl, ?_⟩
      have E31 := ext_trans E27 e31
      refine Fits_spec p s fun w35 e35 => ⟨_, _, rfl, ?_⟩
      have E35 := ext_trans E31 e35
      refine Fits12_spec p s fun w39 e39 => ⟨_, _, rfl, ?_⟩
      have E39 := ext_trans E35 e39
      have hcl : (conR L).length ≤ 4099 := by
        unfold conR
        split
        · simp
        · have h1 := List.length_filter_le (confB L) (ordF L)
          have h2 := ordF_len L
          omega
      have hn5 := hr5.1
      refine EqualS_spec (hr5.ext (ext_trans (ext_trans e31 e35) e39)) (hr6.ext (ext_trans e35 e39)) (by omega) fun w43 e43 => ⟨_, rfl, ?_⟩
      simp only [decide_true, br_t]
      exact aw _ (ext_trans E39 e43) h
    have hsz1 : small (supR f ws) := by
      have hh := hs1
      have h1 := supG_size ws f 0 true
      have h2 := mergeF_size (supG ws f 0 true).1
      have h3 : f.size ≤ 4611686018427387904 := hs
      unfold small supR
      split
      · simp [Fo.size]
      · omega
    have hsz3 : small (expR f L) := by
      unfold small expR
      split
      · simp [Fo.size]
      · rename_i h0
        have h0' := Decidable.not_not.1 h0
        unfold expE at h0'
        split at h0'
        · rename_i hh; exact absurd h0' hh
        · rename_i hh
          obtain ⟨hc0, _⟩ := errU_zero (Decidable.not_not.1 hh)
          obtain ⟨q1, q2, q3⟩ := check_zero hc0
          have := expA_len (firstE L) f .nil
          simp only [Fo.size] at this
          omega
    refine Same_spec (supR f ws) (hs1.ext (ext_trans (ext_trans e13 e17) e21)) (hs2.ext (ext_trans e17 e21)) hsz1 fun w49 e49 => ⟨_, rfl, ?_⟩
    rw [decide_eq_true rfl]
    simp only [Bool.not_true, br_f]
    refine br_split (fun hh => absurd rfl hh) (fun _ => ?_)
    have E49 := ext_trans E21 e49
    refine Same_spec (expR f L) (hs3.ext (ext_trans e21 e49)) (hs4.ext e49) hsz3 fun w52 e52 => ⟨_, rfl, ?_⟩
    rw [decide_eq_true rfl]
    simp only [Bool.not_true, br_f]
    exact br_split (fun hh => absurd rfl hh) (fun _ => k24 _ (ext_trans E49 e52))
  refine Great_spec hf0 fun w55 e55 => ⟨_, rfl, br_cases (fun _ => aw _ e55 h) (fun hgr => ?_)⟩
  refine GreatRewrites_spec (hP.ext e55) ⟨_, rfl, br_cases (fun _ => aw _ e55 h) (fun hgR => ?_)⟩
  refine br_split (fun _ => aw _ e55 h) (fun g8 => ?_)
  refine ContainsFuncS_spec (q := fun s => decide ((70 : Int) < (s.length : Int))) (J := fun _ => True) (hW.ext e55) (by omega) ?_ trivial (fun _ _ _ _ => trivial) fun w70 e70 => ⟨_, rfl, br_cases (fun _ => aw _ (ext_trans e55 e70) h) (fun ga => ?_)⟩
  · intro s hs W K _ hK
    refine ⟨by kernel_rfl, ?_⟩
    exact c_law12_LegibilityChanges_1 (hK _ (Below.refl _ _))
  · have E70 := ext_trans e55 e70
    exact br_split (fun _ => aw _ E70 h) (fun _ => br_split (fun _ => aw _ E70 h) (fun _ => k6 _ E70 hgr hgR (by omega)))
end Go.Proofs
namespace Go.Proofs
open Go Go.Sh Go.RowKit

/- slices of strings and of pairs, out of what a row says of the arguments -/
theorem row_build {α : Type} {E : Enc α} {w : World} {a : Addr} {len : Nat} (hel : ∀ i, i < len → ∃ x : α, ∀ j v, (E.enc x)[j]? = some v → w.cell? ((a.add (i * E.size)).add j) = some v) :
    ∃ L : List α, RowAt E (fun _ => True) w (some a) len L := by
  by_cases hl0 : len = 0
  · subst hl0; exact ⟨[], RowAt.nil _⟩
  obtain ⟨b, o, rfl⟩ : ∃ b o, a = ⟨b, o, none⟩ := by
    obtain ⟨x, hx⟩ := hel 0 (by omega)
    have hp := E.pos
    have h0 := hx 0 _ (List.getElem?_eq_getElem (by rw [E.len]; exact hp))
    obtain ⟨b, o, spot⟩ := a
    have hspot : spot = none := by simpa [Addr.add] using World.cell?_spot h0
    subst hspot
    exact ⟨b, o, rfl⟩
  have build : ∀ k, k ≤ len → ∃ L : List α, L.length = k ∧ ∀ j v, (E.row L)[j]? = some v → w.cell? ((⟨b, o, none⟩ : Addr).add j) = some v := by
    intro k
    induction k with
    | zero => exact fun _ => ⟨[], rfl, fun j v hj => by simp at hj⟩
    | succ k ihk =>
      intro hk
      obtain ⟨L, hL, hus⟩ := ihk (by omega)
      obtain ⟨x, hx⟩ := hel k (by omega)
      refine ⟨L ++ [x], by simp [hL], fun j v hj => ?_⟩
      rw [row_snoc] at hj
      by_cases hlt : j < (E.row L).length
      · rw [List.getElem?_append_left hlt] at hj
        exact hus j v hj
      · rw [List.getElem?_append_right (by omega)] at hj
        have := hx _ _ hj
        rw [add_none, add_none] at this
        rw [row_len, hL] at this hlt
        rw [add_none, show o + j = o + k * E.size + (j - k * E.size) by omega]
        exact this
  obtain ⟨L, hL, hus⟩ := build len (Nat.le_refl _)
  refine ⟨L, hL.symm, ?_⟩
  cases hr : E.row L with
  | nil => exact .inl rfl
  | cons u us =>
    rw [hr] at hus
    have h0 := hus 0 u rfl
    refine .inr ⟨b, o, rfl, trivial, ?_, fun j v hj => ?_⟩
    · have := World.block_lt_of_cell? w _ h0
      simpa [Addr.add] using this
    · have := hus j v hj
      rw [add_none] at this; exact this
set_option maxRecDepth 20000 in
theorem open_strs {H : Type} {enc : TypeId × Value → H} {w : World} {base : Nat} {sp : Nat → Bool} {hd : Bool} (fuel : Nat) (cs : List Value) (x : DataW H × List MemPlace) (h : DataW.trod enc Tryz.prog w base sp hd fuel 23 cs = some x) :
    ∃ (a : Option Addr) (n c : Nat) (L : List (List UInt8)), cs = [.slice a n c] ∧ RowAt encStr (fun _ => True) w a n L ∧ n ≤ c := by
  rcases DataW.trod_slice Tryz.underlying23 h with ⟨rfl, _⟩ | ⟨a, len, cap, elems, rest, n, rfl, rfl, _, hb, hl, hm, hel, hall, _⟩
  · exact ⟨none, 0, 0, [], rfl, RowAt.nil _, Nat.le_refl _⟩
  have h9 : Tryz.prog.cellsOf 9 = 1 := by kernel_rfl
  obtain ⟨L, hL⟩ := row_build (E := encStr) (w := w) (a := a) (len := len) fun i hi => by
    have hh := hall i hi
    rw [List.getElem?_eq_getElem (by omega)] at hh
    obtain ⟨cs', hc1, hc2⟩ := Option.bind_eq_some_iff.1 hh
    rw [h9] at hc1
    obtain ⟨_, hlen, hcell⟩ := World.cells?_some hc1
    obtain ⟨t, e0, _, _⟩ := DataW.trod_string Tryz.underlying9 hc2
    subst e0
    refine ⟨t.data.toList, fun j v hj => ?_⟩
    have hj1 : j < 1 := (List.getElem?_eq_some_iff.1 hj).1
    rw [show i * encStr.size = i * 1 from rfl, hcell j hj1]
    exact hj
  exact ⟨some a, len, cap, L, rfl, hL, by omega⟩
theorem len2 {α : Type} {l : List α} (h : l.length = 2) : ∃ a b, l = [a, b] := by
  match l, h with
  | [a, b], _ => exact ⟨a, b, rfl⟩
set_option maxRecDepth 20000 in
theorem open_rws {H : Type} {enc : TypeId × Value → H} {w : World} {base : Nat} {sp : Nat → Bool} {hd : Bool} (fuel : Nat) (cs : List Value) (x : DataW H × List MemPlace) (h : DataW.trod enc Tryz.prog w base sp hd fuel 24 cs = some x) :
    ∃ (a : Option Addr) (n c : Nat) (L : List Rw), cs = [.slice a n c] ∧ RowAt encR (fun _ => True) w a n L := by
  rcases DataW.trod_slice Tryz.underlying24 h with ⟨rfl, _⟩ | ⟨a, len, cap, elems, rest, n, rfl, rfl, _, hb, hl, hm, hel, hall, _⟩
  · exact ⟨none, 0, 0, [], rfl, RowAt.nil _⟩
  have h9 : Tryz.prog.cellsOf 9 = 1 := by kernel_rfl
  have h2 : Tryz.prog.cellsOf 47 = 2 := by kernel_rfl
  obtain ⟨L, hL⟩ := row_build (E := encR) (w := w) (a := a) (len := len) fun i hi => by
    have hh := hall i hi
    rw [List.getElem?_eq_getElem (by omega)] at hh
    obtain ⟨cs', hc1, hc2⟩ := Option.bind_eq_some_iff.1 hh
    rw [h2] at hc1
    obtain ⟨_, hlen, hcell⟩ := World.cells?_some hc1
    obtain ⟨xs, n', rfl, _, hcl, hxl, hf⟩ := DataW.trod_struct Tryz.underlying47 hc2
    obtain ⟨v0, v1, rfl⟩ := len2 hlen
    obtain ⟨y0, y1, rfl⟩ := len2 (show xs.length = 2 from hxl)
    have g0 := hf 0 _ rfl
    have g1 := hf 1 _ rfl
    try dsimp only at g0
    try simp only [h9] at g0
    try dsimp only at g1
    try simp only [h9] at g1
    obtain ⟨t, e0, _, _⟩ := DataW.trod_string Tryz.underlying9 g0
    obtain ⟨u, e1, _, _⟩ := DataW.trod_string Tryz.underlying9 g1
    simp [h9] at e0 e1
    subst e0 e1
    refine ⟨(t.data.toList, u.data.toList), fun j v hj => ?_⟩
    have hj2 : j < 2 := (List.getElem?_eq_some_iff.1 hj).1
    rw [show i * encR.size = i * 2 from rfl, hcell j hj2]
    exact hj
  exact ⟨some a, len, cap, L, rfl, hL⟩
end Go.Proofs
