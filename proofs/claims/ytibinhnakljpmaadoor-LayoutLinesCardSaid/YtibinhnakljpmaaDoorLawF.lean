/- The contracts of the functions that the law reaches, one after the other, and at the end the law's card. -/
import Derived.Test.YtibinhnakljpmaaDoorLawE
import Derived.Maps.Own
namespace Go.Proofs
open Go Go.Sh Go.RowKit

set_option maxRecDepth 20000 in
theorem LayoutStarts_spec {R : Ending → World → Prop} {S S2 : Nat → Prop} {w : World} {a : Option Addr} {n c : Nat} {a2 : Option Addr} {n2 c2 : Nat} (f g : Fo) (page line : Int) (hp : 0 ≤ page ∧ page < 256) (hl : 0 ≤ line ∧ line < 256) (hF : Forms w) (hf0 : SlF S w a n f) (hg0 : SlF S2 w a2 n2 g)
    (h : ∀ w', Ext w w' → R (.returned (.bool true)) w') : Calls Tryd.prog F_law13_LayoutStarts ⟨[.slice a n c, .slice a2 n2 c2, .int .u8 page, .int .u8 line]⟩ w R := by
  apply c_law13_LayoutStarts
  refine fine13_spec f hF hf0 fun w6 e6 => ⟨_, _, rfl, ?_⟩
  refine fine13_spec g (hF.ext e6) (hg0.ext e6) fun w10 e10' => ⟨_, _, rfl, ?_⟩
  have e10 := ext_trans e6 e10'
  have aw : ∀ {K : Ending → World → Prop} W, Ext w W → (∀ w', Ext w w' → K (.returned (.bool true)) w') → Calls Tryd.prog F_law13_awake ⟨[]⟩ W fun e w' => ∃ x : Bool, e = .returned (.bool x) ∧ K (.returned (.bool x)) w' :=
    fun W hx hK => awake13_spec (hF.ext hx) fun w10 e10 => ⟨_, rfl, hK _ (ext_trans hx e10)⟩
  intro K13 hK13
  cases hfin : fin13 f with
  | false => exact aw _ e10 h
  | true =>
  cases hgin : fin13 g with
  | false => exact aw _ e10 h
  | true =>
  simp only [if_true, Bool.not_true, br_f]
  refine hK13 _ fun _ => ?_
  obtain ⟨cf, sf, lf, nf⟩ := clean_fin hfin
  obtain ⟨cg, sg, lg, ng⟩ := clean_fin hgin
  refine start_spec page line hp.1 hl fun w16 e16 => ⟨_, _, rfl, ?_⟩
  have E16 := ext_trans e10 e16
  have hst : ∀ {F : Fo}, patE F = 0 → posE (startP page line) F = 0 := fun hF => start_name (page := page) hp.1 hl hF
  have hs1 : (startP page line).2 = line := by unfold startP; split <;> rfl
  obtain ⟨_, hfz⟩ := fin13_true hfin
  obtain ⟨_, hgz⟩ := fin13_true hgin
  have hsn : (startP page line).1 = [] ∨ isNameF (startP page line).1 = true := (posE_zero (hst hfz)).2.1
  generalize startP page line = s at *
  refine al_stL (by simp) (by intro u hu; simp only [List.mem_cons, List.not_mem_nil, or_false] at hu; rcases hu with rfl | rfl <;> rfl) fun b19 w21 hb19 B19 e21 s21 => ?_
  refine al_intro fun b22 w23 hb22 B22 e23 s23 => ?_
  have B19' := B19.ext e23
  have E23 := ext_trans (ext_trans E16 e21) e23
  have sml : ∀ {F G : Fo}, F.size ≤ 40 → G.size ≤ 40 → small (F.app (vF.app G)) := fun h1 h2 => by unfold small; rw [size3]; omega
  intro K24 hK24
  have k24 : ∀ a c w27, RowAt encP (fun _ => True) w27 a (posR s (f.app (vF.app xF))).length (posR s (f.app (vF.app xF))) → Ext w23 w27 → K24 a (posR s (f.app (vF.app xF))).length c (posE s (f.app (vF.app xF))) w27 := by
    intro ap cp w27 hr27 e27
    refine hK24 _ _ _ _ _ fun _ => ?_
    intro K28 hK28
    have k28 : ∀ a c w31, RowAt encP (fun _ => True) w31 a (posR s (f.app (vF.app g))).length (posR s (f.app (vF.app g))) → Ext w27 w31 → K28 a (posR s (f.app (vF.app g))).length c (posE s (f.app (vF.app g))) w31 := by
      intro ab cb w31 hr31 e31
      refine hK28 _ _ _ _ _ fun _ => ?_
      intro K32 hK32
      have E31 := ext_trans (ext_trans E23 e27) e31
      have one : ∀ {G : Fo}, (patE G = 1 ∨ patE G = 0) → posE s G = 1 ∨ posE s G = 0 := by
        intro G hh
        rcases hh with e | e
        · left; unfold posE; rw [e]; rfl
        · exact .inr (hst e)
      have o1 := one (pat3 (f := f) (g := xF) cf rfl (by show (patF f).length + 1 ≤ _; omega))
      have o2 := one (pat3 (f := f) (g := g) cf cg (by omega))
      have hbad : posE s (f.app (vF.app xF)) ≠ 0 ∨ posE s (f.app (vF.app g)) ≠ 0 → K32 true w31 := by
        intro hh
        refine hK32 _ _ fun _ => ?_
        simp only [br_t]
        refine br_split (fun _ => aw _ E31 h) (fun q1 => br_split (fun _ => aw _ E31 h) (fun q2 => ?_))
        rcases hh with hh | hh
        · exact absurd (o1.resolve_right hh) q1
        · exact absurd (o2.resolve_right hh) q2
      refine br_split (fun q => hbad (.inl q)) (fun q1 => ?_)
      by_cases q2' : posE s (f.app (vF.app g)) ≠ 0
      · rw [decide_eq_true q2']; exact hbad (.inr q2')
      have q2 := Decidable.not_not.1 q2'
      have q1 := Decidable.not_not.1 q1
      rw [decide_eq_false q2']
      refine hK32 _ _ fun _ => ?_
      simp only [br_f]
      have e2331 := ext_trans e27 e31
      obtain ⟨u0, u1⟩ := blk2 (B19'.ext e2331)
      refine ⟨s.1, u0, s.2, u1, ?_⟩
      have hfr : posR s f = posL s (nodesF f) := by unfold posR; rw [if_neg (by simp [hst hfz])]
      have hr1 : posR s (f.app (vF.app xF)) = posL s (nodesF f) ++ [endL s (nodesF f)] := by
        unfold posR; rw [if_neg (by simp [q1]), pos3]; rfl
      have hr2 : posR s (f.app (vF.app g)) = posL s (nodesF f) ++ posL (endL s (nodesF f)) (nodesF g) := by
        unfold posR; rw [if_neg (by simp [q2]), pos3]
      refine Positions_spec s f (by unfold small; omega) (hF.ext E31) (hf0.ext E31) fun a3 c3 w44 hr3 e44 => ⟨_, _, _, _, rfl, ?_⟩
      have E44 := ext_trans E31 e44
      rw [hfr, hst hfz, hr1]
      rw [hfr] at hr3
      have hLL := posL_pat s f
      intro K47 hK47
      have k47 : K47 w44 := by
        refine hK47 _ fun _ => ?_
        have hend := endL_name (nodesF f) s nf hsn
        have hbd := endL_bd (nodesF f) s line (by omega) (by omega) (by omega)
        rw [nodesF_len] at hbd
        have hpe : posE (endL s (nodesF f)) g = 0 := by
          unfold posE
          rw [if_neg (by simp [hgz]), if_neg (fun hh => hend.elim hh.1 fun h2 => by rw [h2] at hh; exact absurd hh.2 (by decide)), if_neg (by omega)]
        have hgr : posR (endL s (nodesF f)) g = posL (endL s (nodesF f)) (nodesF g) := by unfold posR; rw [if_neg (by simp [hpe])]
        have hx : (posL s (nodesF f) ++ [endL s (nodesF f)])[(patF f).length]? = some (endL s (nodesF f)) := by
          rw [List.getElem?_append_right (by omega), show (patF f).length - (posL s (nodesF f)).length = 0 by omega]; rfl
        rw [hr1] at hr27
        have hr27' := ((hr27.ext e31).ext e44)
        obtain ⟨bb, o, hq, _, _, hc⟩ := hr27'.get hx
        rw [if_pos hfin]
        generalize endL s (nodesF f) = t at *
        refine hq _ ⟨t.1, by rw [add_none]; exact hc 0 _ rfl, t.2, by rw [add_none]; exact hc 1 _ rfl, ?_⟩
        refine Positions_spec t g (by unfold small; omega) (hF.ext E44) (hg0.ext E44) fun a4 c4 w53 hr4 e53 => ⟨_, _, _, _, rfl, ?_⟩
        have E53 := ext_trans E44 e53
        rw [hgr, hpe]
        rw [hgr] at hr4
        rw [hr2] at hr31 ⊢
        simp only [decide_true, br_t]
        refine al_intro fun b56 w57 hb56 B56 e57 s57 => ?_
        have hrow : RowAt encSl (fun _ => True) w57 (some ⟨b56, 0, none⟩) 2 [(a3, (posL s (nodesF f)).length, c3), (a4, (posL t (nodesF g)).length, c4)] := ⟨rfl, at_blk B56⟩
        have l4 := posL_pat t g
        refine ConcatP_spec (S := fun _ => True) (S' := fun _ => True) _ [posL s (nodesF f), posL t (nodesF g)] hrow rfl (by simp) (fun i x y hx hy => ?_) (by simp; omega) fun a5 n5 c5 w59 ho e59 => ⟨_, _, _, rfl, ?_⟩
        · rcases i with _ | _ | i
          · simp at hx hy; subst hx hy; exact (((hr3.ext e53).ext e57).imp fun _ _ _ => trivial)
          · simp at hx hy; subst hx hy; exact ((hr4.ext e57).imp fun _ _ _ => trivial)
          · simp at hx
        have e5357 := ext_trans e53 e57
        have E59 := ext_trans (ext_trans E53 e57) e59
        have ho' : RowAt encP (fun _ => True) w59 a5 n5 (posL s (nodesF f) ++ posL t (nodesF g)) := by
          have := ho.out.imp (S' := fun _ => True) fun _ _ _ => trivial
          simpa using this
        refine EqualP_spec (((hr31.ext e44).ext e5357).ext e59) ho' (by simp; omega) fun w62 e62 => ⟨_, rfl, ?_⟩
        rw [decide_eq_true rfl]
        simp only [br_t]
        exact aw _ (ext_trans E59 e62) h
      refine br_split (fun hh => absurd rfl hh) (fun _ => br_split (fun hh => absurd ?_ hh) (fun _ => k47))
      rw [if_pos hfin, wrap_nat (by omega)]; simp; omega
    unfold drw
    have ed := ext_drew w27
    have e2367 := ext_trans e27 ed
    have E67 := ext_trans E23 e2367
    refine ⟨?_, ?_, trivial⟩
    · obtain ⟨u0, u1⟩ := blk2 (B19'.ext e2367)
      refine ⟨s.1, u0, s.2, u1, ⟨?_, trivial⟩⟩
      refine al_intro fun b70 w71 hb70 B70 e71 s71 => ?_
      have E71 := ext_trans E67 e71
      refine ⟨cat3 B70 (hf0.ext E71) (B22.ext (ext_trans e2367 e71)) (hg0.ext E71) (by omega) fun a' n' c' w73 hs73 e73 => ⟨_, _, _, rfl, ?_, trivial⟩, trivial⟩
      have E73 := ext_trans E71 e73
      refine Positions_spec s _ (sml sf sg) (hF.ext E73) hs73 fun a1 c1 w76 hr76 e76 => ⟨_, _, _, _, rfl, ?_⟩
      exact k28 _ _ _ (hr76.imp fun _ _ _ => trivial) (ext_trans (ext_trans (ext_trans ed e71) e73) e76)
    · refine al_intro fun b70 w71 hb70 B70 e71 s71 => ?_
      have E71 := ext_trans E67 e71
      refine ⟨cat3 B70 (hf0.ext E71) (B22.ext (ext_trans e2367 e71)) (hg0.ext E71) (by omega) fun a' n' c' w73 hs73 e73 => ⟨_, _, _, rfl, ?_⟩, trivial⟩
      have E73 := ext_trans E71 e73
      obtain ⟨u0, u1⟩ := blk2 (B19'.ext (ext_trans (ext_trans e2367 e71) e73))
      refine ⟨s.1, u0, s.2, u1, ⟨?_, trivial⟩⟩
      refine Positions_spec s _ (sml sf sg) (hF.ext E73) hs73 fun a1 c1 w76 hr76 e76 => ⟨_, _, _, _, rfl, ?_⟩
      exact k28 _ _ _ (hr76.imp fun _ _ _ => trivial) (ext_trans (ext_trans (ext_trans ed e71) e73) e76)
  unfold drw
  have ed := ext_drew w23
  have E90 := ext_trans E23 ed
  have hxx : ∀ {b : Nat} {W : World}, Blk W b [.int .i64 1, .string ⟨⟨[120]⟩⟩, .int .i64 0, .slice none 0 0] 45 → SlF (fun _ => True) W (some ⟨b, 0, none⟩) 1 xF := fun hb => ⟨rfl, _, at_blk hb, none, 0, [], [], rfl, .inl rfl, rfl, rfl⟩
  have sx : xF.size ≤ 40 := by decide
  refine ⟨?_, ?_, trivial⟩
  · obtain ⟨u0, u1⟩ := blk2 (B19'.ext ed)
    refine ⟨s.1, u0, s.2, u1, ⟨?_, trivial⟩⟩
    refine al_intro fun b93 w94 hb93 B93 e94 s94 => ⟨al_intro fun b70 w71 hb70 B70 e71' s71 => ?_, trivial⟩
    have e71 := ext_trans e94 e71'
    have E71 := ext_trans E90 e71
    refine ⟨cat3 B70 (hf0.ext E71) (B22.ext (ext_trans ed e71)) (hxx (B93.ext e71')) (by omega) fun a' n' c' w73 hs73 e73 => ⟨_, _, _, rfl, ?_, trivial⟩, trivial⟩
    have E73 := ext_trans E71 e73
    refine Positions_spec s _ (sml sf sx) (hF.ext E73) hs73 fun a1 c1 w76 hr76 e76 => ⟨_, _, _, _, rfl, ?_⟩
    exact k24 _ _ _ (hr76.imp fun _ _ _ => trivial) (ext_trans (ext_trans (ext_trans ed e71) e73) e76)
  · refine al_intro fun b93 w94 hb93 B93 e94 s94 => ⟨al_intro fun b70 w71 hb70 B70 e71' s71 => ?_, trivial⟩
    have e71 := ext_trans e94 e71'
    have E71 := ext_trans E90 e71
    refine ⟨cat3 B70 (hf0.ext E71) (B22.ext (ext_trans ed e71)) (hxx (B93.ext e71')) (by omega) fun a' n' c' w73 hs73 e73 => ⟨_, _, _, rfl, ?_⟩, trivial⟩
    have E73 := ext_trans E71 e73
    obtain ⟨u0, u1⟩ := blk2 (B19'.ext (ext_trans (ext_trans ed e71) e73))
    refine ⟨s.1, u0, s.2, u1, ⟨?_, trivial⟩⟩
    refine Positions_spec s _ (sml sf sx) (hF.ext E73) hs73 fun a1 c1 w76 hr76 e76 => ⟨_, _, _, _, rfl, ?_⟩
    exact k24 _ _ _ (hr76.imp fun _ _ _ => trivial) (ext_trans (ext_trans (ext_trans ed e71) e73) e76)
end Go.Proofs
namespace Go.Sh
open Go Go.RowKit
open Go.WideElems (Fit)
open Go.Maps (Keyed)

/- a map that stands in a block, as a partial function of keys -/
def anyV : Value → Option (DataW Unit × List MemPlace) := fun _ => some (.nil, [])
def MapT {K V : Type} (P : Program) (k : TypeId) (eK : K → Value) (eV : V → Value) (w : World) (b n : Nat) (f : K → Option V) : Prop :=
  ∃ es clock, w.heap[b]? = some (.map es clock) ∧ Fit P k anyV es clock ∧ es.size ≤ n ∧
    ∀ x, (f x = none ∧ ∀ e ∈ es.toList, e.key ≠ eK x) ∨ ∃ v, f x = some v ∧ ∃ e ∈ es.toList, e.key = eK x ∧ e.val = eV v

section
variable {K V : Type} {P : Program} {k t e : TypeId} {eK : K → Value} {eV : V → Value} {w w' : World} {b n : Nat} {f : K → Option V}
theorem MapT.made (w : World) : MapT P k eK eV (w.alloc (.map #[] 0)) w.heap.size 0 (fun _ => none) :=
  ⟨#[], 0, (MapKept.heap_alloc w _).1, ⟨by simp, MapKept.stamped_empty 0, by simp⟩, Nat.le_refl _, fun x => .inl ⟨rfl, by simp⟩⟩
theorem MapT.lt (h : MapT P k eK eV w b n f) : b < w.heap.size := by
  obtain ⟨es, clock, hb, _⟩ := h
  exact (Array.getElem?_eq_some_iff.1 hb).1
theorem MapT.keep (h : MapT P k eK eV w b n f) (hw : w'.heap[b]? = w.heap[b]?) : MapT P k eK eV w' b n f := by
  obtain ⟨es, clock, hb, h⟩ := h
  exact ⟨es, clock, hw.trans hb, h⟩
theorem MapT.ext (h : MapT P k eK eV w b n f) (hw : Ext w w') : MapT P k eK eV w' b n f := h.keep (hw.block b h.lt)
theorem MapT.chg {S : Nat → Prop} (h : MapT P k eK eV w b n f) (hw : Chg S w w') (hs : ¬ S b) : MapT P k eK eV w' b n f := h.keep (hw.block b h.lt hs)
theorem MapT.mono (h : MapT P k eK eV w b n f) {m : Nat} (hm : n ≤ m) : MapT P k eK eV w b m f := by
  obtain ⟨es, clock, hb, F, hs, h⟩ := h
  exact ⟨es, clock, hb, F, Nat.le_trans hs hm, h⟩
theorem MapT.congr {g : K → Option V} (h : MapT P k eK eV w b n f) (hg : ∀ x, f x = g x) : MapT P k eK eV w b n g := by
  rw [← (funext hg : f = g)]; exact h

theorem MapT.look (h : MapT P k eK eV w b n f) (Kd : Keyed P k) (ht : P.underlying t = some (.map k e)) {z : Value} (hz : (zeroValue e).run P w = .ok z w) {x : K} {kl : Lit} (hkey : keyOf P k (eK x) = some kl) :
    lkAt P t (.map (some b)) (eK x) w (((f x).map eV).getD z) := by
  obtain ⟨es, clock, hb, F, _, hf⟩ := h
  unfold lkAt
  rcases Maps.fit_look false Kd ht hz hb F hkey with ⟨hrun, hno, _⟩ | ⟨e0, y, h1, h2, hrun, _⟩
  · rcases hf x with ⟨h0, _⟩ | ⟨v, _, e1, he1, hk1, _⟩
    · rw [h0]; exact hrun
    · exact absurd hk1 (hno e1 he1)
  · rcases hf x with ⟨_, h0⟩ | ⟨v, hv, e1, he1, hk1, hv1⟩
    · exact absurd h2 (h0 e0 h1)
    · rw [hv]
      have : e0 = e1 := by
        have hn : es.toList.Pairwise (fun x y => x.key ≠ y.key) := ((MapKept.stamped_iff es clock).1 F.stamped).2.2
        obtain ⟨i, hi, rfl⟩ := List.getElem_of_mem h1
        obtain ⟨j, hj, rfl⟩ := List.getElem_of_mem he1
        have : i = j := by
          apply Classical.byContradiction
          intro hne
          rcases Nat.lt_or_gt_of_ne hne with hl | hl
          · exact List.pairwise_iff_getElem.1 hn i j hi hj hl (h2.trans hk1.symm)
          · exact List.pairwise_iff_getElem.1 hn j i hj hi hl (hk1.trans h2.symm)
        subst this; rfl
      subst this
      rw [hv1] at hrun
      simpa using hrun
theorem MapT.look2 (h : MapT P k eK eV w b n f) (Kd : Keyed P k) (ht : P.underlying t = some (.map k e)) {z : Value} (hz : (zeroValue e).run P w = .ok z w) {x : K} {kl : Lit} (hkey : keyOf P k (eK x) = some kl) :
    lkAt2 P t (.map (some b)) (eK x) w (((f x).map eV).getD z) (f x).isSome := by
  obtain ⟨es, clock, hb, F, _, hf⟩ := h
  unfold lkAt2
  rcases Maps.fit_look true Kd ht hz hb F hkey with ⟨hrun, hno, _⟩ | ⟨e0, y, h1, h2, hrun, _⟩
  · rcases hf x with ⟨h0, _⟩ | ⟨v, _, e1, he1, hk1, _⟩
    · rw [h0]; exact hrun
    · exact absurd hk1 (hno e1 he1)
  · rcases hf x with ⟨_, h0⟩ | ⟨v, hv, e1, he1, hk1, hv1⟩
    · exact absurd h2 (h0 e0 h1)
    · rw [hv]
      have : e0 = e1 := by
        have hn : es.toList.Pairwise (fun x y => x.key ≠ y.key) := ((MapKept.stamped_iff es clock).1 F.stamped).2.2
        obtain ⟨i, hi, rfl⟩ := List.getElem_of_mem h1
        obtain ⟨j, hj, rfl⟩ := List.getElem_of_mem he1
        have : i = j := by
          apply Classical.byContradiction
          intro hne
          rcases Nat.lt_or_gt_of_ne hne with hl | hl
          · exact List.pairwise_iff_getElem.1 hn i j hi hj hl (h2.trans hk1.symm)
          · exact List.pairwise_iff_getElem.1 hn j i hj hi hl (hk1.trans h2.symm)
        subst this; rfl
      subst this
      rw [hv1] at hrun
      simpa using hrun
theorem MapT.update (h : MapT P k eK eV w b n f) (Kd : Keyed P k) (ht : P.underlying t = some (.map k e)) (hn : n < maxLen) {x : K} {v : V} {kl : Lit} (hkey : keyOf P k (eK x) = some kl) (hinj : ∀ y, eK y = eK x → y = x) {Q : World → Prop}
    (hq : ∀ (w' : World) (g : K → Option V), MapT P k eK eV w' b (n + 1) g → Chg (fun j => j = b) w w' → g x = some v → (∀ y, y ≠ x → g y = f y) → Q w') : mupd P t (.map (some b)) (eK x) (eV v) w Q := by
  have hlt := h.lt
  obtain ⟨es, clock, hb, F, hs, hf⟩ := h
  have hsz : es.size < maxLen := Nat.lt_of_le_of_lt hs hn
  have chg : ∀ o, Chg (fun j => j = b) w (ChangeMaps.setBlock w b o) := fun o => ⟨rfl, rfl, rfl, by simp [ChangeMaps.setBlock], fun i _ hi => ChangeMaps.heap_setBlock_other hb _ hi⟩
  have fin : ∀ es' clock', (Instr.mapUpdate t (.map (some b)) (eK x) (eV v)).run P w = .ok () (ChangeMaps.setBlock w b (.map es' clock')) → Fit P k anyV es' clock' → es'.size ≤ n + 1 →
      (∃ e1 ∈ es'.toList, e1.key = eK x ∧ e1.val = eV v) → (∀ e0 ∈ es.toList, e0.key ≠ eK x → e0 ∈ es'.toList) → (∀ e1 ∈ es'.toList, e1.key ≠ eK x → e1 ∈ es.toList) →
      mupd P t (.map (some b)) (eK x) (eV v) w Q := by
    intro es' clock' hrun F' hs' hnew hold hback
    classical
    refine ⟨_, hrun, hq _ (fun y => if y = x then some v else f y) ⟨es', clock', ChangeMaps.heap_setBlock_same hb _, F', hs', fun y => ?_⟩ (chg _) (by simp) (fun y hy => by simp [hy])⟩
    by_cases hy : y = x
    · subst hy
      obtain ⟨e1, h1, h2, h3⟩ := hnew
      exact .inr ⟨v, by simp, e1, h1, h2, h3⟩
    · have hne : eK y ≠ eK x := fun e => hy (hinj y e)
      rcases hf y with ⟨h0, h1⟩ | ⟨u, hu, e1, h1, h2, h3⟩
      · refine .inl ⟨by simp [hy, h0], fun e1 he1 hk => ?_⟩
        exact h1 e1 (hback e1 he1 (by rw [hk]; exact hne)) hk
      · exact .inr ⟨u, by simp [hy, hu], e1, hold e1 h1 (by rw [h2]; exact hne), h2, h3⟩
  rcases Kd.find w hkey es.toList F.keys with ⟨h1, h2⟩ | ⟨j, e0, h1, h2, h3⟩
  · refine fin (es.push ⟨eK x, eV v, clock⟩) (clock + 1) ?_ ⟨by simp; omega, MapKept.stamped_push F.stamped h2, ?_⟩ (by simp; omega) ⟨⟨eK x, eV v, clock⟩, by simp, rfl, rfl⟩ (fun e0 h0 _ => by simp at h0 ⊢; exact .inl h0) (fun e1 h1 hne => ?_)
    · simp [Instr.mapUpdate, run_underlying ht, MapKept.run_getObj_map hb, Kd.check w false hkey, h1, MapKept.run_setObj_map _ hb, Result.andThen, ChangeMaps.setBlock]
    · intro y hy
      simp only [Array.toList_push, List.mem_append, List.mem_singleton] at hy
      rcases hy with hy | rfl
      · exact F.reads y hy
      · exact ⟨_, WideElems.rd_mk hkey rfl⟩
    · simp only [Array.toList_push, List.mem_append, List.mem_singleton] at h1
      rcases h1 with h1 | rfl
      · exact h1
      · exact absurd rfl hne
  · have hj : es[j]? = some e0 := by simpa using h2
    have hjl : j < es.toList.length := (List.getElem?_eq_some_iff.1 h2).1
    have hkeyf : ∀ e', es[j]? = some e' → ({ e' with key := eK x, val := eV v } : MapEntry).key = e'.key := fun e' he' => by rw [hj] at he'; cases he'; exact h3.symm
    have hlist : (es.modify j (fun e' => { e' with key := eK x, val := eV v })).toList = es.toList.set j { e0 with key := eK x, val := eV v } := by
      apply List.ext_getElem?
      intro i
      simp only [Array.getElem?_toList, Array.getElem?_modify, List.getElem?_set]
      by_cases hi : j = i
      · subst hi; simp [hj]; exact (Array.getElem?_eq_some_iff.1 hj).1
      · simp [hi]
    refine fin (es.modify j (fun e' => { e' with key := eK x, val := eV v })) clock ?_ ⟨by simpa using F.size, MapKept.stamped_modify F.stamped _ _ (fun _ _ => rfl) (fun e' _ he' => hkeyf e' he'), ?_⟩ (by simp; omega) ?_ ?_ ?_
    · simp [Instr.mapUpdate, run_underlying ht, MapKept.run_getObj_map hb, Kd.check w false hkey, h1, hj, h3, Kd.stays w hkey, MapKept.run_setObj_map _ hb, Result.andThen, ChangeMaps.setBlock]
    · intro y hy
      rw [hlist] at hy
      rcases List.mem_or_eq_of_mem_set hy with hy | rfl
      · exact F.reads y hy
      · exact ⟨_, WideElems.rd_mk hkey rfl⟩
    · exact ⟨{ e0 with key := eK x, val := eV v }, by rw [hlist]; exact List.mem_iff_getElem.2 ⟨j, by simpa using hjl, by simp⟩, rfl, rfl⟩
    · intro y hy hne
      rw [hlist]
      obtain ⟨i, hi, rfl⟩ := List.getElem_of_mem hy
      have hij : j ≠ i := fun e => by
        subst e
        have : es.toList[j] = e0 := by rw [List.getElem?_eq_getElem hjl] at h2; exact Option.some.inj h2
        rw [this] at hne; exact hne h3
      exact List.mem_iff_getElem.2 ⟨i, by simpa using hi, by rw [List.getElem_set_ne hij]⟩
    · intro y hy hne
      rw [hlist] at hy
      rcases List.mem_or_eq_of_mem_set hy with hy | rfl
      · exact hy
      · exact absurd rfl hne
end
theorem mkm_intro {w : World} {K : Nat → World → Prop}
    (h : ∀ b w', b = w.heap.size → (∀ {A V : Type} (P : Program) (k : TypeId) (eK : A → Value) (eV : V → Value), MapT P k eK eV w' b 0 (fun _ => none)) → Ext w w' → w'.heap.size = b + 1 → K b w') : mkm w K :=
  h _ _ rfl (fun P k eK eV => MapT.made w) ((Below.refl _ w).alloc (Nat.le_refl _) _) (by simp)
end Go.Sh
namespace Go.Proofs
open Go Go.Sh Go.RowKit

/- collect: calling a function with each node of a kind -/
def ofK (kind : Int) (f : Fo) : List Nn := (nodesF f).filter fun x => decide (x.k = kind)
theorem ofK_cons (kind : Int) (k t n) (ps r : Fo) : ofK kind (.cons k t n ps r) = (if k = kind then [⟨k, t, n, ps⟩] else []) ++ (ofK kind ps ++ ofK kind r) := by
  unfold ofK
  rw [nodesF, List.filter_cons, List.filter_append]
  by_cases h : k = kind
  · simp [h]
  · simp [h]
theorem ofK_len (kind : Int) (f : Fo) : (ofK kind f).length ≤ f.size := by
  unfold ofK; rw [← nodesF_len]; exact List.length_filter_le _ _

set_option maxRecDepth 20000 in
theorem collect_spec {yf : Fn} {ya yb : Array Value} {T : Nat → Prop} {J : List Nn → (Nat → Prop) → World → Prop} {w0 : World} {kind : Int} {xs : List Nn}
    (hTl : ∀ k, T k → k < w0.heap.size)
    (hJ : ∀ pre S W W', J pre S W → Chg (fun k => w0.heap.size ≤ k ∧ ¬ S k) W W' → J pre S W')
    (hbody : ∀ pre x vs S W, NnE T w0 x vs → pre ++ [x] <+: xs → w0.heap.size ≤ W.heap.size → (∀ k, S k → k < W.heap.size ∧ ¬ T k) → J pre S W → CallV Tryd.prog (.func yf ya yb) vs W fun e W' => e = .returned (.tuple ⟨[]⟩) ∧ Chg S W W' ∧
      ∃ S' : Nat → Prop, (∀ k, S' k → (S k ∨ W.heap.size ≤ k) ∧ k < W'.heap.size) ∧ J (pre ++ [x]) S' W') :
    ∀ (f : Fo) {R : Ending → World → Prop} {S : Nat → Prop} {w : World} {a : Option Addr} {n c : Nat} (pre : List Nn), small f → pre ++ ofK kind f <+: xs → SlF T w0 a n f → w0.heap.size ≤ w.heap.size → (∀ k, T k → w.heap[k]? = w0.heap[k]?) → (∀ k, S k → k < w.heap.size ∧ ¬ T k) →
      J pre S w → (∀ S' W', Chg S w W' → (∀ k, S' k → (S k ∨ w.heap.size ≤ k) ∧ k < W'.heap.size) → J (pre ++ ofK kind f) S' W' → R (.returned (.tuple ⟨[]⟩)) W') →
      Calls Tryd.prog F_layout_collect ⟨[.slice a n c, .int .i64 kind, .func yf ya yb]⟩ w R := by
  intro f
  induction hz : f.size using Nat.strongRecOn generalizing f with
  | _ z ih =>
  intro R S w a n c pre hs hpre hf hw0 hT hS hj hend
  unfold small at hs
  apply c_layout_collect
  have hn := hf.1
  have hfl := f.len_le_size
  refine ⟨fun i W m => ∃ (p r : Fo) (ps : List Nn) (S1 : Nat → Prop), f = p.app r ∧ i = p.len ∧ m = r.len ∧ Chg S w W ∧ (∀ k, S1 k → (S k ∨ w.heap.size ≤ k) ∧ k < W.heap.size) ∧ J ps S1 W ∧ pre ++ ofK kind f = ps ++ ofK kind r,
    ⟨_, .nil, f, pre, S, rfl, rfl, rfl, Chg.refl _ _, fun k hk => ⟨.inl hk, (hS k hk).1⟩, hj, rfl⟩, ?_⟩
  rintro _ W m ⟨p, r, xs', S1, hpr, rfl, rfl, hcW, hS1, hjW, heq⟩ _
  have hwW := hcW.size
  refine br_split (fun hlt => ?_) (fun hge => ?_)
  · obtain ⟨k, t, mm, ps, r, rfl⟩ := Fo.next hpr (by omega)
    have hsl := Fo.sub_len hpr
    have hsz := Fo.sub_size hpr
    have e1 : f = (p.app (.one k t mm ps)).app r := by rw [Fo.app_one_app]; exact hpr
    have i1 : IntKind.i64.wrap ((p.len : Int) + 1) = ((p.app (.one k t mm ps)).len : Int) := by rw [wrap_nat (by omega)]; simp [Fo.one]
    have hTW : ∀ k, T k → W.heap[k]? = w0.heap[k]? := fun k hk => (hcW.block k (by have := hTl k hk; omega) (fun h => (hS k h).2 hk)).trans (hT k hk)
    obtain ⟨q, a', c', hq, hTq, hql, hN⟩ := (hf.keep (S' := T) (w' := W) (fun k hk _ => ⟨hk, hTW k hk⟩) (by omega)).get hpr
    have hNT : SlF T w0 a' ps.len ps := hN.sl.keep' fun k hk _ => ⟨hk, hTl k hk, (hTW k hk).symm⟩
    refine hq _ ⟨k, hN.kind, t, hN.text, mm, hN.num, a', ps.len, c', hN.parts, ?_⟩
    refine al_stL (by simp) (by intro u hu; simp only [List.mem_cons, List.not_mem_nil, or_false] at hu; rcases hu with rfl | rfl | rfl | rfl <;> rfl) fun bx w1 hbx hBx e2 s2 => ?_
    have z2 := e2.size
    obtain ⟨x0, x1, x2, x3⟩ := blk4 hBx
    have n1x : ¬ S1 bx := fun h => by have := (hS1 _ h).2; omega
    have hj1 : J xs' S1 w1 := hJ _ _ _ _ hjW (Chg.of_ext e2)
    rw [ofK_cons] at heq
    have hS1T : ∀ k, S1 k → k < w1.heap.size ∧ ¬ T k := fun j hj => ⟨by have := (hS1 j hj).2; omega, fun ht => (hS1 j hj).1.elim (fun h => (hS j h).2 ht) (fun h => by have := hTl j ht; omega)⟩
    intro K17 hK17
    -- the parts, and on
    have rest : ∀ (w2 : World) (S2 : Nat → Prop) (l : List Nn), Chg S1 w1 w2 → (∀ k, S2 k → (S1 k ∨ w1.heap.size ≤ k) ∧ k < w2.heap.size) → J l S2 w2 → pre ++ ofK kind f = l ++ (ofK kind ps ++ ofK kind r) → K17 w2 := by
      intro w2 S2 l hc2 hS2 hj2 heq2
      refine hK17 _ fun _ => ?_
      have z3 := hc2.size
      have hcw2 : Chg S w w2 := chg_then (hcW.trans (Chg.of_ext e2)) hc2 fun i hi hh => (hS1 i hh).1.elim id fun h => by omega
      have hS2w : ∀ k, S2 k → (S k ∨ w.heap.size ≤ k) ∧ k < w2.heap.size := fun j hj => ⟨(hS2 j hj).1.elim (fun h => (hS1 j h).1) (fun h => .inr (by omega)), (hS2 j hj).2⟩
      obtain ⟨y0, y1, y2, y3⟩ := blk4 (hc2.blk hBx n1x)
      refine ⟨a', ps.len, c', y3, ?_⟩
      refine ih _ (hz ▸ hsz) ps rfl (S := S2) l (by unfold small; omega) (List.IsPrefix.trans ⟨ofK kind r, by rw [heq2]; simp⟩ hpre) hNT (by omega) (fun j hj => (hcw2.block j (by have := hTl j hj; omega) (fun h => (hS j h).2 hj)).trans (hT j hj))
        (fun j hj => ⟨(hS2 j hj).2, fun ht => (hS2 j hj).1.elim (fun h => (hS1T j h).2 ht) (fun h => by have := hTl j ht; omega)⟩) hj2 (fun S3 w3 hc3 hS3 hj3 => ⟨rfl, ?_⟩)
      refine ⟨r.len, by simp, _, r, _, S3, e1, i1, rfl, chg_then hcw2 hc3 fun i hi hh => (hS2w i hh).1.elim id fun h => by omega, fun j hj => ⟨(hS3 j hj).1.elim (fun h => (hS2w j h).1) (fun h => .inr (by omega)), (hS3 j hj).2⟩, hj3, ?_⟩
      rw [heq2]; simp
    refine ⟨k, x0, br_split (fun g => ?_) (fun g => ?_)⟩
    · refine ⟨k, x0, t, x1, mm, x2, a', ps.len, c', x3, ?_⟩
      rw [if_pos g] at heq
      refine CallV_mono (hbody xs' ⟨k, t, mm, ps⟩ _ S1 w1 ⟨a', c', rfl, hNT⟩ (List.IsPrefix.trans ⟨ofK kind ps ++ ofK kind r, by rw [heq]; simp⟩ hpre) (by omega) hS1T hj1) ?_
      rintro e w2 ⟨rfl, hc2, S2, hS2, hj2⟩
      exact ⟨rfl, rest w2 S2 _ hc2 hS2 hj2 (by rw [heq]; simp)⟩
    · rw [if_neg g, List.nil_append] at heq
      exact rest w1 S1 _ (Chg.refl _ _) (fun k hk => ⟨.inl hk, (hS1T k hk).1⟩) hj1 heq
  · obtain ⟨rfl, rfl⟩ := Fo.last hpr (by omega)
    have e : xs' = pre ++ ofK kind p := by rw [heq]; simp [ofK, nodesF]
    rw [e] at hjW
    exact hend S1 _ hcW hS1 hjW

/- Pages -/
def pgF (f : Fo) : List (List UInt8) := (ofK 3 f).map (·.t)
def pgE (f : Fo) : Int := if patE f ≠ 0 then patE f else if (pgF f).Nodup then 0 else 7
def pgR (f : Fo) : List (List UInt8) := if pgE f ≠ 0 then [] else pgF f
theorem slT_str : SlT Tryd.prog 58 9 1 16 (.string ⟨⟨[]⟩⟩) := ⟨by kernel_rfl, by kernel_rfl, rfl, by decide⟩
theorem kd9 : Maps.Keyed Tryd.prog 9 := Maps.string_keyed (by kernel_rfl)
abbrev eS (s : List UInt8) : Value := .string ⟨⟨s⟩⟩
abbrev eB (b : Bool) : Value := .bool b
theorem keyS {s : List UInt8} (h : s.length ≤ 4611686018427387904) : keyOf Tryd.prog 9 (eS s) = some (.string s) :=
  WideMaps.keyOf_string_mk (P := Tryd.prog) (by kernel_rfl) (show (⟨⟨s⟩⟩ : ByteArray).size ≤ maxLen by simp only [maxLen]; show s.length ≤ _; omega)
theorem zero_run {P : Program} {T : TypeId} {v : Value} (h : (P.info? T).bind (·.zero) = some v) (w : World) : (zeroValue T).run P w = .ok v w := by
  cases hi : P.info? T with
  | none => rw [hi] at h; cases h
  | some i =>
    rw [hi] at h
    have hz : i.zero = some v := h
    simp [zeroValue, typeInfo, hi, hz]

/- the state of the walk over the pages -/
def PgS (b6 b8 b10 b13 B : Nat) (W : World) (oa : Option Addr) (l : List (List UInt8)) : Prop :=
  ∃ oc fm, Blk W b13 [.bool (!decide l.Nodup)] 4 ∧ Blk W b10 [.map (some b8)] 80 ∧ MapT Tryd.prog 9 eS eB W b8 l.length fm ∧ (∀ t, fm t = if t ∈ l then some true else none) ∧
    Blk W b6 [.slice oa l.length oc] 58 ∧ OwnL encStr W B 9 oa l.length oc l
set_option maxRecDepth 20000 in
theorem pages1_spec {b6 b8 b10 b13 B : Nat} (hb : b6 < b8 ∧ b8 < b10 ∧ b10 < b13 ∧ b13 < B) {W : World} {oa : Option Addr} {l : List (List UInt8)} (hst : PgS b6 b8 b10 b13 B W oa l) (hBW : B ≤ W.heap.size) (k n : Int) (t : List UInt8) (v : Value) (ht : t.length ≤ 4611686018427387904) (hl : l.length ≤ 1000000)
    {a : Option Addr} {m c : Nat} {R : Ending → World → Prop}
    (h : ∀ oa' W', PgS b6 b8 b10 b13 B W' oa' (l ++ [t]) → Chg (fun k => k = b6 ∨ k = b8 ∨ k = b10 ∨ k = b13 ∨ bk oa k) W W' → (∀ k, bk oa' k → bk oa k ∨ W.heap.size ≤ k) → R (.returned (.tuple ⟨[]⟩)) W') :
    Calls Tryd.prog F_layout_Pages_1 ⟨[.agg ⟨[.int .i64 k, .string ⟨⟨t⟩⟩, .int .i64 n, .slice a m c]⟩, .pointer (some ⟨b13, 0, none⟩), .pointer (some ⟨b10, 0, none⟩), .pointer (some ⟨b6, 0, none⟩)]⟩ W R := by
  apply c_layout_Pages_1
  obtain ⟨oc, fm, h13, h10, h8, hfm, h6, hL⟩ := hst
  refine al_intro fun bx w9 hbx Bx e9 s9 => ?_
  obtain ⟨x0, x1, x2, x3⟩ := blk4 Bx
  have nb : ∀ {j}, bk oa j → b13 < j := fun hj => by have := (Owns.bk hL hj).1; omega
  intro K10 hK10
  have k10 : ∀ w11, Blk w11 b13 [.bool (!decide (l ++ [t]).Nodup)] 4 → Chg (fun k => k = b13) w9 w11 → K10 w11 := by
    intro w11 g13 hc11
    refine hK10 _ fun _ => ?_
    have g10 := hc11.blk (h10.ext e9) (by omega)
    have g8 := (h8.ext e9).chg hc11 (by omega)
    have g6 := hc11.blk (h6.ext e9) (by omega)
    have gL := Owns.chg (Owns.ext hL e9) hc11 (fun k hk e => by have := nb hk; omega)
    have gx := hc11.blk Bx (by omega)
    have z11 := hc11.size
    refine dr_ok ⟨_, by rw [g10.cell]; rfl, t, (blk4 gx).2.1, ?_⟩
    refine MapT.update (eV := eB) g8 kd9 (t := 80) (e := 4) (by kernel_rfl) (by simp only [maxLen]; omega) (keyS ht) (fun y hy => by simpa [eS] using hy) fun w15 fm' m8 hc15 hm1 hm2 => ?_
    have z15 := hc15.size
    have q13 := hc15.blk g13 (by omega)
    have q10 := hc15.blk g10 (by omega)
    have q6 := hc15.blk g6 (by omega)
    have qL := Owns.chg gL hc15 (fun k hk e => by have := nb hk; omega)
    have qx := hc15.blk gx (by omega)
    refine dr_ok ⟨_, _, _, by rw [q6.cell]; rfl, t, (blk4 qx).2.1, ?_⟩
    refine OwnL.push (E := encStr) slT_str qL (by omega) t (by omega) (by omega) fun a' c'' w22 ho hc22 hn22 => ?_
    have z22 := hc22.size
    have n6 : ¬ bk oa b6 := fun hh => by have := nb hh; omega
    refine dr_ok (stL_one (hc22.blk q6 n6) rfl fun w23 r6 hc23 s23 => ?_)
    have no : ∀ {j}, j ≤ b13 → ¬ bk oa j := fun hj hh => by have := nb hh; omega
    have n6' : ∀ k, bk a' k → ¬ k = b6 := fun k hk he => by have := (Owns.bk ho hk).1; omega
    have hl1 : (l ++ [t]).length = l.length + 1 := by simp
    refine h a' w23 ⟨c'', fm', hc23.blk (hc22.blk q13 (no (by omega))) (by omega), hc23.blk (hc22.blk q10 (no (by omega))) (by omega), by rw [hl1]; exact (m8.chg hc22 (no (by omega))).chg hc23 (by omega), fun s => ?_, by rw [hl1]; exact r6, by rw [hl1]; exact Owns.chg ho hc23 n6'⟩ ?_ (fun k hk => (hn22 k hk).imp id fun hh => by omega)
    · by_cases hs : s = t
      · subst hs; rw [hm1]; simp
      · rw [hm2 s hs, hfm]; simp [hs]
    · have c1 : Chg (fun k => k = b6 ∨ k = b8 ∨ k = b10 ∨ k = b13 ∨ bk oa k) W w11 := (Chg.of_ext e9).trans (hc11.mono fun k _ hk => by simp [hk])
      have c2 := c1.trans (hc15.mono fun k _ hk => by simp [hk])
      have c3 := c2.trans (hc22.mono fun k _ hk => by simp [hk])
      exact c3.trans (hc23.mono fun k _ hk => by simp [hk])
  have hnd : (l ++ [t]).Nodup ↔ l.Nodup ∧ t ∉ l := by
    rw [List.nodup_append]
    constructor
    · rintro ⟨a, _, b⟩; exact ⟨a, fun hm => b t hm t (by simp) rfl⟩
    · rintro ⟨a, b⟩
      refine ⟨a, by simp, fun x hx y hy he => ?_⟩
      simp only [List.mem_singleton] at hy
      subst hy he; exact b hx
  refine dr_ok ⟨_, by rw [(h13.ext e9).cell]; rfl, br_cases (fun g => ?_) (fun g => ?_)⟩
  · refine dr_ok (stL_one (h13.ext e9) rfl fun w11 g13 hc11 _ => k10 w11 ?_ hc11)
    have : ¬ l.Nodup := by simpa using g
    rw [show (!decide (l ++ [t]).Nodup) = true by simp [hnd, this]]; exact g13
  · have hln : l.Nodup := by simpa using g
    refine dr_ok ⟨_, by rw [(h10.ext e9).cell]; rfl, t, x1, decide (t ∈ l), ?_, ?_⟩
    · have hk := MapT.look (eV := eB) (h8.ext e9) kd9 (t := 80) (e := 4) (by kernel_rfl) (zero_run (v := .bool false) (by kernel_rfl) _) (keyS ht)
      rw [hfm] at hk
      by_cases hm : t ∈ l
      · rw [if_pos hm] at hk; rw [decide_eq_true hm]; exact hk
      · rw [if_neg hm] at hk; rw [decide_eq_false hm]; exact hk
    · refine dr_ok (stL_one (h13.ext e9) rfl fun w11 g13 hc11 _ => k10 w11 ?_ hc11)
      rw [show (!decide (l ++ [t]).Nodup) = decide (t ∈ l) by by_cases hm : t ∈ l <;> simp [hnd, hln, hm]]; exact g13
end Go.Proofs
namespace Go.Proofs
open Go Go.Sh Go.RowKit

theorem ofK_mem {kind : Int} {f : Fo} {x : Nn} (h : x ∈ ofK kind f) : x ∈ nodesF f ∧ x.k = kind := by
  unfold ofK at h; simpa using List.mem_filter.1 h
theorem tlen_node : ∀ (f : Fo) (x : Nn), x ∈ nodesF f → x.t.length ≤ tlen f
  | .nil, x, h => by simp [nodesF] at h
  | .cons k t n ps r, x, h => by
    simp only [nodesF, List.mem_cons, List.mem_append] at h
    simp only [tlen]
    rcases h with rfl | h | h
    · show t.length ≤ _; omega
    · have := tlen_node ps x h; omega
    · have := tlen_node r x h; omega

set_option maxRecDepth 20000 in
theorem Pages_spec {R : Ending → World → Prop} {S : Nat → Prop} {w : World} {a : Option Addr} {n c : Nat} (f : Fo) (hs : small f) (hF : Forms w) (hf0 : SlF S w a n f)
    (h : ∀ a' c' w', RowAt encStr (fun k => w.heap.size ≤ k) w' a' (pgR f).length (pgR f) → Ext w w' → R (.returned (.tuple ⟨[.slice a' (pgR f).length c', .int .i64 (pgE f)]⟩)) w') :
    Calls Tryd.prog F_layout_Pages ⟨[.slice a n c]⟩ w R := by
  apply c_layout_Pages
  have er : ∀ e w', pgE f = e → e ≠ 0 → Ext w w' → R (.returned (.tuple ⟨[.slice none 0 0, .int .i64 e]⟩)) w' := by
    intro e w' he h0 hx
    have hr : pgR f = [] := by unfold pgR; rw [if_pos (by rw [he]; exact h0)]
    rw [hr, he] at h
    exact h none 0 w' (RowAt.nil _) hx
  refine Pattern_spec f hs hF hf0 fun w3 e3 => ⟨_, _, rfl, ?_⟩
  refine br_split (fun g => er _ _ (by unfold pgE; rw [if_pos g]) g e3) (fun g => ?_)
  have hp0 : patE f = 0 := Decidable.not_not.1 g
  obtain ⟨hc0, _, hpl, hpS⟩ := patE_zero hp0
  obtain ⟨q1, q2, q3⟩ := check_zero hc0
  refine al_intro fun b6 w7 hb6 B6 e7 s7 => ?_
  refine mkm_intro fun b8 w8 hb8 M8 e8 s8 => ?_
  refine al_intro fun b10 w11 hb10 B10' e11 s11 => ?_
  refine stL_one B10' rfl fun w12 B10 hc12 s12 => ?_
  have e12 : Ext w8 w12 := ext_chgS e11 hc12 fun k hk => by omega
  refine al_intro fun b13 w14 hb13 B13' e14 s14 => ?_
  refine stL_one B13' rfl fun w15 B13 hc15 s15 => ?_
  have e15 : Ext w12 w15 := ext_chgS e14 hc15 fun k hk => by omega
  have E7 := ext_trans e3 e7
  have E8 := ext_trans E7 e8
  have E15 := ext_trans (ext_trans E8 e12) e15
  have z3 := e3.size
  have E715 := ext_trans (ext_trans e8 e12) e15
  have hst : PgS b6 b8 b10 b13 (b13 + 1) w15 none [] := by
    refine ⟨0, fun _ => none, B13, ?_, ?_, fun t => by simp, B6.ext E715, Owns.nil _ _ _ _⟩
    · exact B10.ext e15
    · exact ((M8 _ _ _ _).ext e12).ext e15
  have hT := hf0.imp (S' := fun k => S k ∧ k < w.heap.size) fun k hk hl => ⟨hk, hl⟩
  have hT15 := hT.ext E15
  refine collect_spec (w0 := w15) (T := fun k => S k ∧ k < w.heap.size) (kind := 3) (xs := ofK 3 f) (yf := .func 48) (ya := ⟨[]⟩) (yb := ⟨[.pointer (some ⟨b13, 0, none⟩), .pointer (some ⟨b10, 0, none⟩), .pointer (some ⟨b6, 0, none⟩)]⟩)
    (J := fun pre S1 W => ∃ oa, PgS b6 b8 b10 b13 (b13 + 1) W oa (pre.map (·.t)) ∧ (∀ k, S1 k ↔ k = b6 ∨ k = b8 ∨ k = b10 ∨ k = b13 ∨ bk oa k) ∧ Ext w W)
    (fun k hk => by have := E15.size; omega) ?_ ?_ f (S := fun k => k = b6 ∨ k = b8 ∨ k = b10 ∨ k = b13) [] hs (List.prefix_refl _) hT15 (Nat.le_refl _) (fun _ _ => rfl) (fun k hk => ⟨by omega, fun hh => by omega⟩)
    ⟨none, hst, fun k => by simp [bk], E15⟩ ?_
  · rintro pre S1 W W' ⟨oa, ⟨oc, fm, p1, p2, p3, p4, p5, p6⟩, g2, g4⟩ hc
    have ns : ∀ j, S1 j → ¬ (w15.heap.size ≤ j ∧ ¬ S1 j) := fun j hj hh => hh.2 hj
    have z15 := E15.size
    exact ⟨oa, ⟨oc, fm, hc.blk p1 (ns _ ((g2 _).2 (by simp))), hc.blk p2 (ns _ ((g2 _).2 (by simp))), p3.chg hc (ns _ ((g2 _).2 (by simp))), p4, hc.blk p5 (ns _ ((g2 _).2 (by simp))), Owns.chg p6 hc (fun k hk => ns _ ((g2 _).2 (by simp [hk])))⟩, g2, ext_chgS g4 hc fun k hk => by omega⟩
  · rintro pre ⟨k1, t1, m1, ps1⟩ vs S1 W ⟨a', c', rfl, hsl⟩ hpx hw15 hS1 ⟨oa, hst1, g2, g4⟩
    have hx : (⟨k1, t1, m1, ps1⟩ : Nn) ∈ nodesF f := (ofK_mem (kind := 3) (hpx.subset (by simp))).1
    have ht := tlen_node f _ hx
    have hpl := hpx.length_le
    have hol := ofK_len 3 f
    simp only [List.length_append, List.length_singleton] at hpl
    refine ⟨by kernel_rfl, pages1_spec (by omega) hst1 (by omega) k1 m1 t1 .nilFunc (by have : t1.length ≤ tlen f := ht; omega) (by simp; omega) fun oa' W' hst' hc' hn' => ⟨rfl, ?_, ?_⟩⟩
    · exact hc'.mono fun k _ hk => (g2 k).2 hk
    · have zc := hc'.size
      have hz15 := E15.size
      obtain ⟨oc', fm', p1, p2, p3, p4, p5, p6⟩ := hst'
      refine ⟨fun k => k = b6 ∨ k = b8 ∨ k = b10 ∨ k = b13 ∨ bk oa' k, fun k hk => ?_, oa', ⟨oc', fm', ?_⟩, fun k => Iff.rfl, ?_⟩
      · rcases hk with rfl | rfl | rfl | rfl | hk
        · exact ⟨.inl ((g2 _).2 (by simp)), p5.lt⟩
        · exact ⟨.inl ((g2 _).2 (by simp)), p3.lt⟩
        · exact ⟨.inl ((g2 _).2 (by simp)), p2.lt⟩
        · exact ⟨.inl ((g2 _).2 (by simp)), p1.lt⟩
        · exact ⟨(hn' k hk).imp (fun h => (g2 k).2 (by simp [h])) id, (Owns.bk p6 hk).2⟩
      · rw [List.map_append]; exact ⟨p1, p2, p3, p4, p5, p6⟩
      · obtain ⟨oc0, fm0, _, _, _, _, _, q6⟩ := hst1
        exact ext_chgS g4 hc' fun k hk => by
          rcases hk with rfl | rfl | rfl | rfl | hk
          · omega
          · omega
          · omega
          · omega
          · have := (Owns.bk q6 hk).1; omega
  · rintro S' W' hc hS' ⟨oa, ⟨oc, fm, p1, p2, p3, p4, p5, p6⟩, g2, g4⟩
    refine ⟨rfl, _, by rw [p1.cell]; rfl, br_cases (fun gd => ?_) (fun gd => ?_)⟩
    · have : ¬ (pgF f).Nodup := by unfold pgF; simpa using gd
      exact er 7 _ (by unfold pgE; rw [if_neg (by simp [hp0]), if_neg this]) (by decide) g4
    · have hnd : (pgF f).Nodup := by unfold pgF; simpa using gd
      have he : pgE f = 0 := by unfold pgE; rw [if_neg (by simp [hp0]), if_pos hnd]
      have hr : pgR f = pgF f := by unfold pgR; rw [if_neg (by simp [he])]
      rw [hr, he] at h
      refine ⟨oa, _, oc, by rw [p5.cell]; rfl, ?_⟩
      have hz := E15.size
      exact h _ _ _ (p6.out.imp fun k hk _ => by have := (Owns.bk p6 hk).1; omega) g4
end Go.Proofs
namespace Go.Proofs
open Go Go.Sh Go.RowKit

/- positions stand together, if no page begins twice -/
def pgN (l : List Nn) : List (List UInt8) := (l.filter fun x => decide (x.k = 3)).map (·.t)
theorem pgF_eq (f : Fo) : pgF f = pgN (nodesF f) := rfl
theorem pgN_cons (x : Nn) (l : List Nn) : pgN (x :: l) = (if x.k = 3 then [x.t] else []) ++ pgN l := by
  unfold pgN
  rw [List.filter_cons]
  by_cases h : x.k = 3 <;> simp [h]
theorem posN_eq (p : Ps) (x : Nn) : (x.k = 3 ∧ posN p x = ((x.t, 0), 0)) ∨ (x.k ≠ 3 ∧ x.k = 2 ∧ posN p x = ((p.1, p.2 + 1), 0)) ∨ (x.k ≠ 3 ∧ (posN p x).1 = p) := by
  unfold posN
  by_cases h3 : x.k = 3
  · left; refine ⟨h3, ?_⟩; rw [if_neg (by omega), if_neg (by omega), if_pos h3]
  · right
    split
    · exact .inr ⟨h3, rfl⟩
    · split
      · exact .inr ⟨h3, rfl⟩
      · try rw [if_neg h3]
        split
        · rename_i h2; exact .inl ⟨h3, h2, rfl⟩
        · exact .inr ⟨h3, rfl⟩
theorem pos_mem : ∀ (l : List Nn) (p q : Ps), q ∈ posL p l → (q.1 = p.1 ∧ p.2 ≤ q.2) ∨ q.1 ∈ pgN l
  | [], p, q, h => by simp [posL] at h
  | x :: l, p, q, h => by
    rw [posL, List.mem_append] at h
    rw [pgN_cons]
    have ih := pos_mem l (posN p x).1 q
    rcases posN_eq p x with ⟨h3, e⟩ | ⟨h3, h2, e⟩ | ⟨h3, e⟩
    · rw [e] at h ih
      simp only [List.replicate_zero, List.not_mem_nil, false_or] at h
      rw [if_pos h3]
      right
      rcases ih h with h1 | h1
      · rw [h1.1]; simp
      · simp [h1]
    · rw [e] at h ih
      simp only [List.replicate_zero, List.not_mem_nil, false_or] at h
      rw [if_neg h3]
      rcases ih h with h1 | h1
      · left; exact ⟨h1.1, by have := h1.2; simp only at this; omega⟩
      · right; simpa using h1
    · rw [e] at h ih
      rw [if_neg h3]
      rcases h with h | h
      · rw [(List.mem_replicate.1 h).2]; exact .inl ⟨rfl, Int.le_refl _⟩
      · rcases ih h with h1 | h1
        · exact .inl h1
        · right; simpa using h1
theorem get_rep {α : Type} {n : Nat} {p : α} {L : List α} {k : Nat} : (List.replicate n p ++ L)[k]? = if k < n then some p else L[k - n]? := by
  rw [List.getElem?_append]
  simp only [List.length_replicate]
  split
  · rename_i h; simp [h]
  · rfl
theorem pos_pre : ∀ (l : List Nn) (p : Ps), (p.1 :: pgN l).Nodup → ∀ k : Nat, (posL p l)[k]? = some p → ∀ j : Nat, j ≤ k → (posL p l)[j]? = some p
  | [], p, _, k, h, _, _ => by simp [posL] at h
  | x :: l, p, hn, k, h, j, hj => by
    rw [posL] at h ⊢
    rw [pgN_cons] at hn
    rcases posN_eq p x with ⟨h3, e⟩ | ⟨h3, h2, e⟩ | ⟨h3, e⟩
    · rw [e] at h
      rw [if_pos h3] at hn
      simp only [List.replicate_zero, List.nil_append] at h
      have hm := pos_mem l (x.t, 0) p (List.mem_of_getElem? h)
      rw [List.nodup_cons] at hn
      exfalso
      apply hn.1
      rcases hm with hm | hm
      · rw [hm.1]; simp
      · simp [hm]
    · rw [e] at h
      rw [if_neg h3, List.nil_append] at hn
      simp only [List.replicate_zero, List.nil_append] at h
      have hm := pos_mem l (p.1, p.2 + 1) p (List.mem_of_getElem? h)
      exfalso
      rcases hm with hm | hm
      · have := hm.2; simp only at this; omega
      · exact (List.nodup_cons.1 hn).1 hm
    · rw [e] at h ⊢
      rw [if_neg h3, List.nil_append] at hn
      rw [get_rep] at h ⊢
      by_cases hjn : j < (posN p x).2
      · rw [if_pos hjn]
      · rw [if_neg hjn]
        rw [if_neg (by omega)] at h
        exact pos_pre l p hn _ h _ (by omega)
theorem pos_convex : ∀ (l : List Nn) (p : Ps), (p.1 :: pgN l).Nodup → ∀ (i j k : Nat) (q : Ps), i ≤ j → j ≤ k → (posL p l)[i]? = some q → (posL p l)[k]? = some q → (posL p l)[j]? = some q
  | [], p, _, i, j, k, q, _, _, h, _ => by simp [posL] at h
  | x :: l, p, hn, i, j, k, q, hij, hjk, hi, hk => by
    rw [posL] at hi hk ⊢
    rw [pgN_cons] at hn
    have key : ∀ (p' : Ps) (n : Nat), (p'.1 :: pgN l).Nodup → (List.replicate n p' ++ posL p' l)[i]? = some q → (List.replicate n p' ++ posL p' l)[k]? = some q → (List.replicate n p' ++ posL p' l)[j]? = some q := by
      intro p' n hn hi hk
      rw [get_rep] at hi hk ⊢
      by_cases h1 : i < n
      · rw [if_pos h1] at hi
        obtain rfl := Option.some.inj hi
        by_cases h2 : j < n
        · rw [if_pos h2]
        · rw [if_neg h2]
          rw [if_neg (by omega)] at hk
          exact pos_pre l _ hn _ hk _ (by omega)
      · rw [if_neg h1] at hi
        rw [if_neg (by omega)] at hk ⊢
        exact pos_convex l p' hn _ _ _ q (by omega) (by omega) hi hk
    refine key _ _ ?_ hi hk
    rcases posN_eq p x with ⟨h3, e⟩ | ⟨h3, h2, e⟩ | ⟨h3, e⟩
    · rw [e]; rw [if_pos h3] at hn
      exact (List.nodup_cons.1 hn).2
    · rw [e]; rw [if_neg h3] at hn; exact hn
    · rw [e]; rw [if_neg h3] at hn; exact hn
theorem pos_together {f : Fo} (hf : fin13 f = true) (hp : (pgF f).Nodup) {i j k : Nat} {q : Ps} (hij : i ≤ j) (hjk : j ≤ k) (hi : (posL ([], 0) (nodesF f))[i]? = some q) (hk : (posL ([], 0) (nodesF f))[k]? = some q) : (posL ([], 0) (nodesF f))[j]? = some q := by
  refine pos_convex (nodesF f) ([], 0) ?_ i j k q hij hjk hi hk
  rw [List.nodup_cons]
  refine ⟨fun hm => ?_, hp⟩
  obtain ⟨_, _, _, hn⟩ := clean_fin hf
  obtain ⟨x, hx, he⟩ := List.mem_map.1 hm
  obtain ⟨h1, h2⟩ := List.mem_filter.1 hx
  have := hn x h1 (by simpa using h2)
  rw [he] at this
  exact absurd this (by decide)

set_option maxRecDepth 20000 in
theorem LayoutLines_spec {R : Ending → World → Prop} {S : Nat → Prop} {w : World} {a : Option Addr} {n c : Nat} (f : Fo) (hF : Forms w) (hf0 : SlF S w a n f)
    (h : ∀ w', Ext w w' → R (.returned (.bool true)) w') : Calls Tryd.prog F_law13_LayoutLines ⟨[.slice a n c]⟩ w R := by
  apply c_law13_LayoutLines
  refine fine13_spec f hF hf0 fun w3 e3 => ⟨_, _, rfl, ?_⟩
  have aw : ∀ {K : Ending → World → Prop} W, Ext w W → (∀ w', Ext w w' → K (.returned (.bool true)) w') → Calls Tryd.prog F_law13_awake ⟨[]⟩ W fun e w' => ∃ x : Bool, e = .returned (.bool x) ∧ K (.returned (.bool x)) w' :=
    fun W hx hK => awake13_spec (hF.ext hx) fun w10 e10 => ⟨_, rfl, hK _ (ext_trans hx e10)⟩
  cases hfin : fin13 f with
  | false => exact aw _ e3 h
  | true =>
  obtain ⟨hgr, hpz⟩ := fin13_true hfin
  have hs := great10_small hgr
  obtain ⟨hc0, _, hpl, hpS⟩ := patE_zero hpz
  have hpe : posE ([], 0) f = 0 := by unfold posE; simp [hpz]
  have hpr : posR ([], 0) f = posL ([], 0) (nodesF f) := by unfold posR; rw [if_neg (by simp [hpe])]
  simp only [if_true, Bool.not_true, br_f]
  refine Pages_spec f hs (hF.ext e3) (hf0.ext e3) fun a1 c1 w10 hr1 e10 => ⟨_, _, _, _, rfl, ?_⟩
  have E10 := ext_trans e3 e10
  have hge : pgE f = if (pgF f).Nodup then 0 else 7 := by unfold pgE; rw [if_neg (by simp [hpz])]
  by_cases hnd : ¬ (pgF f).Nodup
  · rw [if_neg hnd] at hge
    have hgr' : pgR f = [] := by unfold pgR; rw [if_pos (by rw [hge]; decide)]
    rw [hge, hgr']
    exact br_split (fun _ => br_split (fun _ => br_split (fun _ => aw _ E10 h) (fun hh => absurd rfl hh)) (fun hh => absurd rfl hh)) (fun hh => absurd (by decide) hh)
  have hnd := Decidable.not_not.1 hnd
  rw [if_pos hnd] at hge
  rw [hge]
  refine br_split (fun hh => absurd rfl hh) (fun _ => ?_)
  refine Positions_spec ([], 0) f hs (hF.ext E10) (hf0.ext E10) fun a2 c2 w17 hr2 e17 => ⟨_, _, _, _, rfl, ?_⟩
  have E17 := ext_trans E10 e17
  rw [hpr] at hr2
  rw [hpr, hpe]
  refine br_split (fun hh => absurd rfl hh) (fun _ => ?_)
  have hLL := posL_pat ([], 0) f
  have htog : ∀ {i j k : Nat} {q : Ps}, i ≤ j → j ≤ k → (posL ([], 0) (nodesF f))[i]? = some q → (posL ([], 0) (nodesF f))[k]? = some q → (posL ([], 0) (nodesF f))[j]? = some q := fun h1 h2 h3 h4 => pos_together hfin hnd h1 h2 h3 h4
  have hfr : ∀ p, findR p f = findF (posL ([], 0) (nodesF f)) p := fun p => by unfold findR; rw [if_neg (by simp [hpz])]
  have hfe : ∀ p, findE p f = match findR p f with | some _ => 0 | none => 6 := fun p => by unfold findE; rw [if_neg (by simp [hpz])] <;> rfl
  generalize hL : posL ([], 0) (nodesF f) = L at *
  refine ⟨fun al i W m => ∃ k e : Nat, i = k ∧ k ≤ L.length ∧ m = L.length - k ∧ al = (patF f).take e ∧ k ≤ e ∧ e ≤ L.length ∧ (k = 0 → e = 0) ∧ (0 < k → (∀ j, k - 1 ≤ j → j < e → L[j]? = L[k - 1]?) ∧ (e < L.length → L[e]? ≠ L[k - 1]?)) ∧ Ext w17 W,
    ⟨_, 0, 0, rfl, by omega, rfl, rfl, by omega, by omega, fun _ => rfl, fun hh => by omega, Below.refl _ _⟩, ?_⟩
  rintro _ _ W m ⟨k, e, rfl, hk, rfl, rfl, hke, heL, hk0, hrun, he⟩ _
  refine br_split (fun hlt => ?_) (fun hge => ?_)
  · have hkL : k < L.length := by omega
    have hx : L[k]? = some L[k] := by simp [hkL]
    obtain ⟨bb, o, hq, _, _, hc⟩ := (hr2.ext he).get hx
    refine hq _ ⟨L[k].1, by rw [add_none]; exact hc 0 _ rfl, L[k].2, by rw [add_none]; exact hc 1 _ rfl, ?_⟩
    refine al_stL (by simp) (by intro u hu; simp only [List.mem_cons, List.not_mem_nil, or_false] at hu; rcases hu with rfl | rfl <;> rfl) fun b29 w31 hb29 B29 e31 s31 => ?_
    intro K32 hK32
    unfold drw
    have ed := ext_trans e31 (ext_drew w31)
    have Ed := ext_trans he ed
    have Bd := B29.ext (ext_drew w31)
    obtain ⟨u0, u1⟩ := blk2 Bd
    -- a new row begins
    have k32 : e = k → (∀ i, i < k → L[i]? ≠ some L[k]) → K32 w31.drew := by
      intro hek hno
      refine hK32 _ fun _ => ⟨L[k].1, u0, L[k].2, u1, ?_⟩
      refine Line_spec L[k] f hs (hF.ext (ext_trans E17 Ed)) (hf0.ext (ext_trans E17 Ed)) fun w37 e37 => ⟨_, _, rfl, ?_⟩
      cases hq : findR L[k] f with
      | none => exact absurd rfl (findF_none ((hfr _) ▸ hq) _ (List.getElem_mem hkL))
      | some x =>
        obtain ⟨f1, f2, f3, f4, f5⟩ := findF_some ((hfr _) ▸ hq)
        have hx1 : x.1 = k := by
          rcases Nat.lt_trichotomy x.1 k with hl | hl | hl
          · exact absurd (f3 x.1 (Nat.le_refl _) f1) (hno _ hl)
          · exact hl
          · exact absurd hx (f4 k hl)
        have hfe' := hfe L[k]
        rw [hq] at hfe'
        have hls : lineS L[k] f = ((patF f).take x.2).drop k := by unfold lineS; rw [hq]; show ((patF f).take x.2).drop x.1 = _; rw [hx1]
        rw [hfe', hls]
        refine br_split (fun hh => absurd rfl hh) (fun _ => br_split (fun hh => ?_) (fun _ => ⟨by simp; omega, ?_⟩))
        · have := congrArg List.length hh
          simp at this; omega
        · refine ⟨L.length - (k + 1), by omega, k + 1, x.2, by rw [wrap_nat (by omega)], by omega, rfl, ?_, by omega, f2, fun hh => by omega, fun _ => ⟨fun j h1 h2 => ?_, fun h1 => ?_⟩, ext_trans Ed e37⟩
          · rw [hek]
            have : (patF f).take k = ((patF f).take x.2).take k := by rw [List.take_take]; congr 1; omega
            rw [this, List.take_append_drop]
          · rw [Nat.add_sub_cancel, hx]; exact f3 j (by omega) h2
          · rw [Nat.add_sub_cancel, hx]; exact f5 h1
    refine br_split (fun g0 => ?_) (fun g0 => ?_)
    · have hy : L[k - 1]? = some L[k - 1] := by rw [List.getElem?_eq_getElem (by omega)]
      obtain ⟨bb', o', hq', _, _, hc'⟩ := (hr2.ext Ed).get hy
      rw [show IntKind.i64.wrap ((k : Int) - 1) = ((k - 1 : Nat) : Int) by rw [wrap_id (by omega)]; omega]
      refine ⟨_, u0, _, u1, hq' _ ⟨L[k - 1].1, by rw [add_none]; exact hc' 0 _ rfl, L[k - 1].2, by rw [add_none]; exact hc' 1 _ rfl, ?_⟩⟩
      obtain ⟨r1, r2⟩ := hrun (by omega)
      have hdec : (decide (L[k].1 = L[k - 1].1) && (decide (L[k].2 = L[k - 1].2) && true)) = decide (L[k] = L[k - 1]) := by
        rw [Bool.and_true, ← Bool.decide_and, decide_eq_decide, Prod.ext_iff]
      rw [hdec]
      refine br_split (fun g1 => ?_) (fun g1 => ?_)
      · have hke' : k < e := by
          rcases Nat.lt_or_ge k e with hh | hh
          · exact hh
          · have : e = k := by omega
            subst this
            exact absurd (by rw [hx, hy, g1]) (r2 hkL)
        refine ⟨L.length - (k + 1), by omega, k + 1, e, by rw [wrap_nat (by omega)], by omega, rfl, rfl, hke', heL, fun hh => by omega, fun _ => ⟨fun j h1 h2 => ?_, fun h1 => ?_⟩, Ed⟩
        · rw [Nat.add_sub_cancel, r1 j (by omega) h2, hy, hx, g1]
        · rw [Nat.add_sub_cancel, hx, g1, ← hy]; exact r2 h1
      · refine k32 ?_ (fun i hi hh => ?_)
        · rcases Nat.lt_or_ge k e with hh | hh
          · have := r1 k (by omega) hh
            rw [hx, hy] at this
            exact absurd (Option.some.inj this) g1
          · omega
        · have := htog (i := i) (j := k - 1) (k := k) (by omega) (by omega) hh hx
          rw [hy] at this
          exact g1 (Option.some.inj this).symm
    · have : k = 0 := by omega
      subst this
      exact k32 (hk0 rfl) (fun i hi => by omega)
  · have : k = L.length := by omega
    subst this
    have : e = L.length := by omega
    subst this
    rw [List.take_of_length_le (by omega), decide_eq_true rfl]
    exact aw _ (ext_trans E17 he) h
end Go.Proofs
