/- The contracts of the functions that the law reaches, one after the other, and at the end the law's card. -/
import Derived.Test.YtdbpliomkkmoaaaDoorLawD
import Derived.Deep.Slices
import Derived.Test.YtdbpliomkkmoaaaDoorCards
import Derived.Test.YtdbpliomkkmoaaaDoorTie
import Derived.Deep.DeepHandedRow
import Derived.Lib.LaidTab
import Derived.Lib.LaidU8
import Derived.WalkKit
import Derived.ProofKit
import Derived.SizedLaws
namespace Go.Proofs
open Go Go.Sh Go.RowKit

variable {R : Ending → World → Prop} {w : World}
theorem RowAt.any {α : Type} {E : Enc α} {S : Nat → Prop} {a : Option Addr} {n : Nat} {l : List α} (h : RowAt E S w a n l) : RowAt E (fun _ => True) w a n l := h.imp fun _ _ _ => trivial
theorem row_blk {α : Type} {E : Enc α} {b n : Nat} {l : List α} {T : TypeId} (h : Blk w b (E.row l) T) (hn : n = l.length) : RowAt E (fun _ => True) w (some ⟨b, 0, none⟩) n l :=
  ⟨hn, .inr ⟨b, 0, rfl, trivial, h.lt, fun j v hj => by rw [Nat.zero_add, h.cell]; exact hj⟩⟩
theorem strip_cons (x : Lx) (r : List Lx) : stripX (x :: r) = (if x.k = 1 then x.vl else []) ++ stripX r := by unfold stripX; rw [List.flatMap_cons]
set_option maxRecDepth 20000 in
theorem MarkupJoined_spec (s t : List UInt8) (hM : Mk w) (h : ∀ w', Ext w w' → R (.returned (.bool true)) w') :
    Calls Tryd.prog F_law09_MarkupJoined ⟨[.string ⟨⟨s⟩⟩, .string ⟨⟨t⟩⟩]⟩ w R := by
  apply c_law09_MarkupJoined
  have aw : ∀ u, Ext w u → Calls Tryd.prog F_law09_awake ⟨[]⟩ u (fun e w' => ∃ x : Bool, e = .returned (.bool x) ∧ R (.returned (.bool x)) w') := fun u eu => awake9_spec (hM.ext eu) fun v' e' => ⟨_, rfl, h v' (ext_trans eu e')⟩
  intro K3 hK3
  have k3 : s.length ≤ 200 → t.length ≤ 200 → K3 w := by
    intro hs ht
    refine hK3 _ fun _ => ?_
    refine Scan_spec s hM fun a n c w6 hn hO e6 => ⟨_, _, _, _, rfl, ?_⟩
    refine Scan_spec t (hM.ext e6) fun a1 n1 c1 w10 hn1 hO1 e10 => ⟨_, _, _, _, rfl, ?_⟩
    have E10 := ext_trans e6 e10
    have hA := RowAt.any ((OwnL.out hO).ext e10)
    have hB := RowAt.any (OwnL.out hO1)
    obtain ⟨a1s, a2s⟩ := scan_small s
    obtain ⟨b1s, b2s⟩ := scan_small t
    intro K13 hK13
    have k13 : (scanF s).2 = 0 → (scanF t).2 = 0 → K13 w10 := by
      intro es et
      have ha : scanF s = ((scanF s).1, 0) := by rw [← es]
      have hb : scanF t = ((scanF t).1, 0) := by rw [← et]
      refine hK13 _ fun _ => ?_
      refine ⟨by omega, ?_⟩
      generalize hAl : (scanF s).1 = A at *
      generalize hBl : (scanF t).1 = B at *
      obtain ⟨pa1, pa2⟩ := scan_print ha
      obtain ⟨pb1, pb2⟩ := scan_print hb
      have htl : s.length + t.length ≤ 65536 := by omega
      -- what is scanned of both
      have key : ∃ C, scanF (s ++ t) = (C, 0) ∧ stripX C = stripX A ++ stripX B ∧
          ((∃ x y, A.getLast? = some x ∧ B.head? = some y ∧ x.k = 1 ∧ y.k = 1 ∧ C.length + 1 = A.length + B.length) ∨ ((∀ x y, A.getLast? = some x → B.head? = some y → ¬ (x.k = 1 ∧ y.k = 1)) ∧ C = A ++ B.map (shiftX s.length))) := by
        by_cases hq : ∃ x y, A.getLast? = some x ∧ B.head? = some y ∧ x.k = 1 ∧ y.k = 1
        · obtain ⟨x, y, q1, q2, q3, q4⟩ := hq
          obtain ⟨A', hA'⟩ := List.getLast?_eq_some_iff.1 q1
          obtain ⟨B', hB'⟩ : ∃ B', B = y :: B' := by
            cases B with
            | nil => cases q2
            | cons z B' => exact ⟨B', by rw [Option.some.inj q2]⟩
          refine ⟨_, join_text (by rw [ha, hA']) (by rw [hb, hB']) htl q3 q4, ?_, .inl ⟨x, y, q1, q2, q3, q4, ?_⟩⟩
          · rw [hA', hB', strip_app, strip_cons, strip_shift, strip_app, strip_cons, strip_cons, if_pos rfl, if_pos q3, if_pos q4]
            show _ = stripX A' ++ (x.vl ++ []) ++ _
            simp
          · rw [hA', hB']; simp; omega
        · have hno : ∀ x y, A.getLast? = some x → B.head? = some y → ¬ (x.k = 1 ∧ y.k = 1) := fun x y q1 q2 q3 => hq ⟨x, y, q1, q2, q3.1, q3.2⟩
          exact ⟨_, join_one ha hb htl hno, by rw [strip_app, strip_shift], .inr ⟨hno, rfl⟩⟩
      obtain ⟨C, hC, hst, hcs⟩ := key
      refine Scan_spec (s ++ t) (hM.ext E10) fun a2 n2 c2 w17 hn2 hO2 e17 => ⟨_, _, _, _, rfl, ?_⟩
      have E17 := ext_trans E10 e17
      refine Strip_spec s (hM.ext E17) fun w21 e21 => ⟨_, _, rfl, ?_⟩
      have E21 := ext_trans E17 e21
      refine Strip_spec t (hM.ext E21) fun w25 e25 => ⟨_, _, rfl, ⟨by omega, ?_⟩⟩
      have E25 := ext_trans E21 e25
      refine Strip_spec (s ++ t) (hM.ext E25) fun w30 e30 => ⟨_, _, rfl, ?_⟩
      have E30 := ext_trans E25 e30
      rw [hC] at hO2 hn2 ⊢
      rw [ha, hb]
      have hCw := RowAt.any (((OwnL.out hO2).ext e21).ext (ext_trans e25 e30))
      have eT : Ext w10 w30 := ext_trans (ext_trans e17 e21) (ext_trans e25 e30)
      have hA' := hA.ext eT
      have hB' := hB.ext eT
      have hAn : n = A.length := hA.1
      have hn2' : n2 = C.length := hn2
      have hBn : n1 = B.length := hB.1
      have hlC : C.length ≤ 1000000 := by
        rcases hcs with ⟨_, _, _, _, _, _, hh⟩ | ⟨_, hh⟩
        · omega
        · rw [hh, List.length_append, List.length_map]; omega
      intro K33 hK33
      refine br_neg (by simp) (br_neg (by simp) (br_neg (by simp) (hK33 _ fun _ => ?_)))
      intro K35 hK35
      have sl : (stripX A).length ≤ 65536 ∧ (stripX B).length ≤ 65536 := by
        have := strip_len A
        have := strip_len B
        rw [pa2] at *; rw [pb2] at *; omega
      have k35 : K35 w30 := by
        refine hK35 _ fun _ => ?_
        intro K37 hK37
        have k37t : (∃ x y, A.getLast? = some x ∧ B.head? = some y ∧ x.k = 1 ∧ y.k = 1) → K37 true w30 := by
          rintro ⟨x, y, q1, q2, q3, q4⟩
          refine hK37 _ _ fun _ => ?_
          show br true _ _
          rw [br_t]
          refine br_pos rfl (br_pos ?_ (aw _ E30))
          rcases hcs with ⟨_, _, _, _, _, _, hh⟩ | ⟨hno, _⟩
          · rw [wrap_id (n := (n : Int) + (n1 : Int)) (by omega), wrap_id (by omega)]; omega
          · exact absurd ⟨q3, q4⟩ (hno x y q1 q2)
        have k37f : (∀ x y, A.getLast? = some x → B.head? = some y → ¬ (x.k = 1 ∧ y.k = 1)) → K37 false w30 := by
          intro hno
          refine hK37 _ _ fun _ => ?_
          show br false _ _
          rw [br_f]
          refine br_pos rfl ?_
          have hCe : C = A ++ B.map (shiftX s.length) := by
            rcases hcs with ⟨x, y, q1, q2, q3, q4, _⟩ | ⟨_, hh⟩
            · exact absurd ⟨q3, q4⟩ (hno x y q1 q2)
            · exact hh
          refine shifted_spec B hB' (by omega) s.length (by omega) (fun x hx => ?_) fun a5 c5 w50 hO5 e50 => ⟨_, _, _, rfl, ?_⟩
          · obtain ⟨j, hj, rfl⟩ := List.mem_iff_getElem.1 hx
            have := chk_after B false 0 pb1 j _ (List.getElem?_eq_getElem hj)
            rw [pb2] at this
            omega
          refine al_intro fun b52 w53 hb52 B52 e53 s53 => ?_
          refine ConcatX_spec (S := fun _ => True) [(a, n, c), (a5, n1, c5)] [A, B.map (shiftX s.length)] (row_blk (E := encSlM) B52 rfl) rfl (by simp) ?_ ?_ fun a6 n6 c6 w55 hO6 e55 => ⟨_, _, _, rfl, ?_⟩
          · intro i x g hx hg
            match i, hx, hg with
            | 0, hx, hg =>
              obtain rfl := Option.some.inj hx
              obtain rfl := Option.some.inj hg
              exact (hA'.ext e50).ext e53
            | 1, hx, hg =>
              obtain rfl := Option.some.inj hx
              obtain rfl := Option.some.inj hg
              exact (RowAt.any (OwnL.out hO5)).ext e53
            | i + 2, hx, _ => simp at hx
          · simp; omega
          have hfl : [A, B.map (shiftX s.length)].flatten = C := by rw [hCe]; simp
          rw [hfl] at hO6
          refine SameX_spec C C (hCw.ext (ext_trans (ext_trans e50 e53) e55)) (OwnL.out hO6) (by omega) fun w58 e58 => ⟨_, rfl, ?_⟩
          rw [decide_eq_true rfl, br_t]
          exact aw _ (ext_trans (ext_trans E30 (ext_trans (ext_trans e50 e53) e55)) e58)
        refine br_split (fun g1 => br_split (fun g2 => ?_) (fun g2 => k37f fun x y q1 q2 => ?_)) (fun g1 => k37f fun x y q1 q2 => ?_)
        · have hnA : A.length - 1 < A.length := by omega
          have hnB : 0 < B.length := by omega
          rw [show (n : Int) - 1 = ((A.length - 1 : Nat) : Int) by omega, wrap_id (by omega)]
          obtain ⟨q, hq, c0, _⟩ := get_lx hA' hnA
          obtain ⟨q', hq', d0, _⟩ := get_lx hB' hnB
          have hlast : A.getLast? = some A[A.length - 1] := by rw [List.getLast?_eq_getElem?, List.getElem?_eq_getElem]
          have hhead : B.head? = some B[0] := by rw [List.head?_eq_getElem?, List.getElem?_eq_getElem]
          refine hq _ ⟨_, c0, br_split (fun g3 => hq' _ ⟨_, d0, ?_⟩) (fun g3 => k37f fun x y q1 q2 q3 => ?_)⟩
          · by_cases g4 : (B[0]).k = 1
            · rw [decide_eq_true g4]
              exact k37t ⟨_, _, hlast, hhead, g3, g4⟩
            · rw [decide_eq_false g4]
              refine k37f fun x y q1 q2 q3 => g4 ?_
              rw [hhead] at q2
              rw [Option.some.inj q2]; exact q3.2
          · rw [hlast] at q1
            exact g3 (by rw [Option.some.inj q1]; exact q3.1)
        · have : B = [] := List.length_eq_zero_iff.1 (by omega)
          rw [this] at q2; cases q2
        · have : A = [] := List.length_eq_zero_iff.1 (by omega)
          rw [this] at q1; cases q1
      refine br_pos rfl ⟨by show (stripX A).length + (stripX B).length ≤ _; omega, br_neg (by simpa using hst) k35⟩
    exact br_split (fun g => aw _ E10) (fun g => br_split (fun g2 => aw _ E10) (fun g2 => k13 (Classical.not_not.1 g) (Classical.not_not.1 g2)))
  exact br_split (fun g => aw _ (Below.refl _ _)) (fun g => br_split (fun g2 => aw _ (Below.refl _ _)) (fun g2 => k3 (by omega) (by omega)))
end Go.Proofs
namespace Go.Proofs
open Go Go.Sh Go.RowKit

variable {R : Ending → World → Prop} {w : World}
theorem slT_intM : SlT Tryd.prog 48 3 1 8 (.int .i64 0) := ⟨Tryd.underlying48, by kernel_rfl, rfl, by decide⟩
theorem get_intM {S : Nat → Prop} {a : Option Addr} {n : Nat} {L : List Int} (h : RowAt encI S w a n L) {k : Nat} (hk : k < L.length) :
    ∃ q : Addr, (∀ K : Addr → Prop, K q → idx a n (k : Int) 1 K) ∧ w.cell? q = some (.int .i64 L[k]) := by
  obtain ⟨bb, o, hq, _, _, hc⟩ := h.get (i := k) (x := L[k]) (List.getElem?_eq_getElem hk)
  exact ⟨⟨bb, o, none⟩, hq, by have := hc 0 _ rfl; rwa [Nat.add_zero] at this⟩
theorem opens_succ {L : List Lx} {k : Nat} (h : k < L.length) : opens (L.take (k + 1)) = opens (L.take k) + if L[k].k = 2 then 1 else 0 := by
  unfold opens
  rw [List.take_succ_eq_append_getElem h, List.filter_append, List.length_append]
  congr 1
  by_cases h2 : L[k].k = 2
  · rw [if_pos h2, List.filter_cons_of_pos (by simpa using h2)]; rfl
  · rw [if_neg h2, List.filter_cons_of_neg (by simpa using h2)]; rfl
theorem opens_take (L : List Lx) (k : Nat) : opens (L.take k) ≤ opens L := by
  unfold opens
  have : L.filter (fun x => decide (x.k = 2)) = (L.take k).filter (fun x => decide (x.k = 2)) ++ (L.drop k).filter (fun x => decide (x.k = 2)) := by rw [← List.filter_append, List.take_append_drop]
  rw [this, List.length_append]; omega
theorem totX_at : ∀ (l : List Lx) (n : Nat), totX (atGo n l) = totX l
  | [], _ => rfl
  | x :: r, n => by rw [atGo, totX, totX, totX_at r]
theorem totX_set : ∀ (l : List Lx) (i : Nat), totX (l.set i lbX) ≤ totX l + 100
  | [], i => by rw [List.set_nil]; omega
  | x :: r, 0 => by
    have : totX (lbX :: r) = 6 + totX r := by rw [totX]; rfl
    rw [List.set_cons_zero, this, totX]; omega
  | x :: r, i + 1 => by
    have := totX_set r i
    rw [List.set_cons_succ, totX, totX]; omega
def tagIx (L : List Lx) (T : List Int) : Prop := ∀ j ∈ T, ∃ (i : Nat) (x : Lx), j = i ∧ L[i]? = some x ∧ (x.k = 2 ∨ x.k = 3)
set_option maxRecDepth 20000 in
theorem MarkupNested_spec {S S' : Nat → Prop} {a a' : Option Addr} {n n' c c' : Nat} (L M : List Lx) (pick : Int) (hb : BigX L) (hb' : BigX M) (hp : 0 ≤ pick ∧ pick < 256) (hM : Mk w) (hL : RowAt encX S w a n L) (hL' : RowAt encX S' w a' n' M) (h : ∀ w', Ext w w' → R (.returned (.bool true)) w') :
    Calls Tryd.prog F_law09_MarkupNested ⟨[.slice a n c, .slice a' n' c', .int .u8 pick]⟩ w R := by
  apply c_law09_MarkupNested
  have aw : ∀ u, Ext w u → Calls Tryd.prog F_law09_awake ⟨[]⟩ u (fun e w' => ∃ x : Bool, e = .returned (.bool x) ∧ R (.returned (.bool x)) w') := fun u eu => awake9_spec (hM.ext eu) fun v' e' => ⟨_, rfl, h v' (ext_trans eu e')⟩
  have hLn : n = L.length := hL.1
  have hMn : n' = M.length := hL'.1
  intro K4 hK4
  have k4 : greatX L = false → greatX M = false → nestX L = 0 → nestX M = 0 → ∀ u, Ext w u → K4 u := by
    intro hg hg' nL nM u eu
    obtain ⟨l1, l2⟩ := greatX_small hg
    obtain ⟨m1, m2⟩ := greatX_small hg'
    have hop := nest_opens nL l1
    refine hK4 _ fun _ => ?_
    refine al_intro fun b6 w7 hb6 B6 e7 s7 => ?_
    have E7 := ext_trans eu e7
    have hlb : RowAt encX (fun _ => True) w7 (some ⟨b6, 0, none⟩) 1 [lbX] := row_blk (E := encX) B6 rfl
    intro K8 hK8
    have k8 : ∀ v, Ext w7 v → K8 v := by
      intro v ev
      have Ev := ext_trans E7 ev
      refine hK8 _ fun _ => ?_
      refine al_intro fun b10 w11 hb10 B10 e11 s11 => ?_
      refine al_intro fun b12 w13 hb12 B12 e13 s13 => ?_
      refine al_intro fun b14 w15 hb14 B14 e15 s15 => ?_
      have E15 := ext_trans (ext_trans (ext_trans Ev e11) e13) e15
      have htot : totX ([unX 2] ++ (L ++ [unX 3])) ≤ 1000000000 := by
        rw [totX_app, totX_app]
        have : totX [unX 2] ≤ 100 := by decide
        have : totX [unX 3] ≤ 100 := by decide
        omega
      refine ConcatX_spec (S := fun _ => True) [(some ⟨b10, 0, none⟩, 1, 1), (a, n, c), (some ⟨b12, 0, none⟩, 1, 1)] [[unX 2], L, [unX 3]] (row_blk (E := encSlM) B14 rfl) rfl (by simp) ?_ ?_ fun a18 n18 c18 w17 hO18 e17 => ⟨_, _, _, rfl, ?_⟩
      · intro i x g hx hg
        match i, hx, hg with
        | 0, hx, hg =>
          obtain rfl := Option.some.inj hx
          obtain rfl := Option.some.inj hg
          exact ((row_blk (E := encX) (l := [unX 2]) B10 rfl).ext e13).ext e15
        | 1, hx, hg =>
          obtain rfl := Option.some.inj hx
          obtain rfl := Option.some.inj hg
          exact (RowAt.any hL).ext E15
        | 2, hx, hg =>
          obtain rfl := Option.some.inj hx
          obtain rfl := Option.some.inj hg
          exact (row_blk (E := encX) (l := [unX 3]) B12 rfl).ext e15
        | i + 3, hx, _ => simp at hx
      · simp; omega
      have hfl : [[unX 2], L, [unX 3]].flatten = [unX 2] ++ (L ++ [unX 3]) := by simp
      rw [hfl] at hO18
      refine at_spec _ (RowAt.any (OwnL.out hO18)) htot fun a21 c21 w20 hO21 e20 => ⟨_, _, _, rfl, ?_⟩
      have E20 := ext_trans (ext_trans E15 e17) e20
      have hI := RowAt.any (OwnL.out hO21)
      have ctot : totX (atGo 0 ([unX 2] ++ (L ++ [unX 3]))) ≤ 1000000000 := by rw [totX_at]; exact htot
      have z20 := E20.size
      refine ⟨fun depth most ta tn tc t W m => ∃ (k : Nat) (T : List Int), t = k ∧ k ≤ n ∧ m = n - k ∧ -(k : Int) ≤ depth ∧ depth ≤ (opens (L.take k) : Int) ∧ 0 ≤ most ∧ most ≤ (opens (L.take k) : Int) ∧ tn = T.length ∧ T.length ≤ k ∧ tagIx L T ∧ OwnL encI W w20.heap.size 3 ta tn tc T ∧ Ext w20 W,
        ⟨_, 0, [], rfl, by omega, rfl, by omega, by simp [opens], by omega, by simp [opens], rfl, by simp, (fun j hj => by cases hj), Owns.nil _ _ _ _, Below.refl _ _⟩, ?_⟩
      rintro depth most ta tn tc _ W m ⟨k, T, rfl, hk, rfl, hd1, hd2, hm1, hm2, rfl, hTk, hT, hTO, he⟩ _
      have EW := ext_trans E20 he
      have hot := opens_take L k
      refine br_split (fun hlt => ?_) (fun hge => ?_)
      · have hkL : k < L.length := by omega
        obtain ⟨q, hq, c0, c1, c2, c3⟩ := get_lx (hL.ext EW) hkL
        refine hq _ ⟨_, c0, _, c1, _, c2, _, c3, ?_⟩
        refine al_stL rfl one4 fun bx w37 hbx Bx e37 s37 => ?_
        obtain ⟨d0, d1, d2, d3⟩ := blk4x (x := L[k]) Bx
        have hos := opens_succ hkL
        have hgk : L[k]? = some L[k] := List.getElem?_eq_getElem hkL
        generalize L[k] = x at *
        have e37' := ext_trans he e37
        intro K38 hK38
        have k38 : ∀ d : Int, -((k : Int) + 1) ≤ d → d ≤ (opens (L.take (k + 1)) : Int) → K38 d w37 := by
          intro d hd3 hd4
          refine hK38 _ _ fun _ => ?_
          intro K41 hK41
          have hmx : 0 ≤ max most d ∧ max most d ≤ (opens (L.take (k + 1)) : Int) := by
            have : (opens (L.take k) : Int) ≤ opens (L.take (k + 1)) := by rw [hos]; split <;> omega
            omega
          have k41t : (x.k = 2 ∨ x.k = 3) → K41 true w37 := by
            intro hx
            refine hK41 _ _ fun _ => ?_
            show br true _ _
            rw [br_t]
            refine OwnL.push slT_intM (Owns.ext hTO e37) (by have := e37'.size; omega) (k : Int) (by omega) (by omega) fun a46 c46 w47 o1 o2 o3 => ?_
            refine ⟨n - (k + 1), by omega, k + 1, T ++ [(k : Int)], by rw [wrap_nat (by omega)], by omega, rfl, by omega, hd4, hmx.1, hmx.2, by simp, by simp; omega, ?_, o1, ext_chgS e37' o2 fun j hj => (Owns.bk hTO hj).1⟩
            intro j hj
            rcases List.mem_append.1 hj with hj | hj
            · exact hT j hj
            · exact ⟨k, x, List.mem_singleton.1 hj, hgk, hx⟩
          have k41f : K41 false w37 := by
            refine hK41 _ _ fun _ => ?_
            show br false _ _
            rw [br_f]
            exact ⟨n - (k + 1), by omega, k + 1, T, by rw [wrap_nat (by omega)], by omega, rfl, by omega, hd4, hmx.1, hmx.2, rfl, by omega, hT, Owns.ext hTO e37, e37'⟩
          refine ⟨_, d0, br_split (fun g2 => k41t (.inl g2)) (fun g2 => ⟨_, d0, ?_⟩)⟩
          by_cases g3 : x.k = 3
          · rw [decide_eq_true g3]; exact k41t (.inr g3)
          · rw [decide_eq_false g3]; exact k41f
        refine ⟨_, d0, br_split (fun g2 => ?_) (fun g2 => br_split (fun g3 => ?_) (fun g3 => ?_))⟩
        · rw [if_pos g2] at hos
          rw [wrap_id (by omega)]; exact k38 _ (by omega) (by omega)
        · rw [if_neg g2] at hos
          rw [wrap_id (by omega)]; exact k38 _ (by omega) (by omega)
        · rw [if_neg g2] at hos
          exact k38 _ (by omega) (by omega)
      · intro K53 hK53
        have k53 : ∀ u, Ext W u → K53 u := by
          intro u eu2
          have Eu := ext_trans EW eu2
          refine hK53 _ fun _ => ?_
          refine br_split (fun g => aw _ Eu) (fun g => ?_)
          have hTl : T.length ≠ 0 := by omega
          obtain ⟨p, rfl⟩ : ∃ p : Nat, pick = p := ⟨pick.toNat, by omega⟩
          refine ⟨by omega, ?_⟩
          have hmod : Int.tmod (IntKind.i64.wrap (p : Int)) (T.length : Int) = ((p % T.length : Nat) : Int) := by rw [wrap_id (by omega)]; rfl
          rw [hmod]
          have hlt : p % T.length < T.length := Nat.mod_lt _ (by omega)
          obtain ⟨q, hq, cq⟩ := get_intM (OwnL.out (Owns.ext hTO eu2)) hlt
          obtain ⟨i, x, hi, hix, hxk⟩ := hT _ (List.getElem_mem hlt)
          rw [hi] at cq
          obtain ⟨hil, _⟩ := List.getElem?_eq_some_iff.1 hix
          refine hq _ ⟨_, cq, ?_⟩
          refine CloneX_spec L (hL.ext Eu) (by omega) fun a62 c62 w61 hO62 e61 => ⟨_, _, _, rfl, ?_⟩
          have E61 := ext_trans Eu e61
          have hlb' := hlb.ext (ext_trans (ext_trans ev (ext_trans (ext_trans (ext_trans (ext_trans e11 e13) e15) e17) e20)) (ext_trans (ext_trans he eu2) e61))
          obtain ⟨q6, hq6, v0, v1, v2, v3⟩ := get_lx hlb' (k := 0) (by decide)
          refine hq6 _ ⟨_, v0, _, v1, _, v2, _, v3, ?_⟩
          obtain ⟨g62, ha62, hq62, hst62⟩ := OwnL.store hO62 (by omega : i < n) lbX
          refine hq62 _ (hst62 _ fun w69 o1 o2 o3 => ?_)
          have E69 : Ext w w69 := ext_chgS E61 o2 fun j hj => by have := (Owns.bk hO62 hj).1; have := Eu.size; omega
          have htl : totX (L.set i lbX) ≤ 1000000000 := by
            have := totX_set L i
            omega
          refine at_spec (L.set i lbX) (RowAt.any (OwnL.out o1)) htl fun a72 c72 w71 hO72 e71 => ⟨_, _, _, rfl, ?_⟩
          refine Nested_spec (atGo 0 (L.set i lbX)) (RowAt.any (OwnL.out hO72)) (by rw [totX_at]; exact htl) (hM.ext (ext_trans E69 e71)) fun w74 e74 => ⟨_, rfl, ?_⟩
          rw [nest_less nL l1 hix hxk]
          exact br_pos rfl (aw _ (ext_trans (ext_trans E69 e71) e74))
        refine Check_spec9 _ (hI.ext he) ctot (hM.ext EW) fun w80 e80 => ⟨_, rfl, br_split (fun g => ?_) (fun g => k53 _ e80)⟩
        refine Nested_spec _ ((hI.ext he).ext e80) ctot (hM.ext (ext_trans EW e80)) fun w83 e83 => ⟨_, rfl, ?_⟩
        have hn0 : nestX (atGo 0 ([unX 2] ++ (L ++ [unX 3]))) = 0 := by
          unfold nestX
          rw [if_neg (by simpa using g)]
          exact nest_in nL l1
        rw [hn0]
        refine br_neg ?_ (k53 _ (ext_trans e80 e83))
        have : most < 16 := by omega
        simp [this]
    refine al_intro fun b85 w86 hb85 B85 e86 s86 => ?_
    have E86 := ext_trans E7 e86
    have htot : totX (L ++ ([lbX] ++ M)) ≤ 1000000000 := by
      rw [totX_app, totX_app]
      have : totX [lbX] ≤ 100 := by decide
      omega
    refine ConcatX_spec (S := fun _ => True) [(a, n, c), (some ⟨b6, 0, none⟩, 1, 1), (a', n', c')] [L, [lbX], M] (row_blk (E := encSlM) B85 rfl) rfl (by simp) ?_ ?_ fun a89 n89 c89 w88 hO89 e88 => ⟨_, _, _, rfl, ?_⟩
    · intro i x g hx hg
      match i, hx, hg with
      | 0, hx, hg =>
        obtain rfl := Option.some.inj hx
        obtain rfl := Option.some.inj hg
        exact (RowAt.any hL).ext E86
      | 1, hx, hg =>
        obtain rfl := Option.some.inj hx
        obtain rfl := Option.some.inj hg
        exact hlb.ext e86
      | 2, hx, hg =>
        obtain rfl := Option.some.inj hx
        obtain rfl := Option.some.inj hg
        exact (RowAt.any hL').ext E86
      | i + 3, hx, _ => simp at hx
    · simp; omega
    have hfl : [L, [lbX], M].flatten = L ++ ([lbX] ++ M) := by simp
    rw [hfl] at hO89
    refine at_spec _ (RowAt.any (OwnL.out hO89)) htot fun a92 c92 w91 hO92 e91 => ⟨_, _, _, rfl, ?_⟩
    have E91 := ext_trans (ext_trans E86 e88) e91
    have hI := RowAt.any (OwnL.out hO92)
    have ctot : totX (atGo 0 (L ++ ([lbX] ++ M))) ≤ 1000000000 := by rw [totX_at]; exact htot
    have e7' : Ext w7 w91 := ext_trans (ext_trans e86 e88) e91
    refine Check_spec9 _ hI ctot (hM.ext E91) fun w94 e94 => ⟨_, rfl, br_split (fun g => ?_) (fun g => k8 _ (ext_trans e7' e94))⟩
    refine Nested_spec _ (hI.ext e94) ctot (hM.ext (ext_trans E91 e94)) fun w97 e97 => ⟨_, rfl, ?_⟩
    have hn0 : nestX (atGo 0 (L ++ ([lbX] ++ M))) = 0 := by
      unfold nestX
      rw [if_neg (by simpa using g)]
      exact nest_both nL l1 nM
    rw [hn0]
    exact br_neg (by simp) (k8 _ (ext_trans (ext_trans e7' e94) e97))
  refine GreatList_spec L hL hb fun w100 e100 => ⟨_, rfl, br_cases (fun g => aw _ e100) (fun g => ?_)⟩
  refine GreatList_spec M (hL'.ext e100) hb' fun w106 e106 => ⟨_, rfl, br_cases (fun g2 => aw _ (ext_trans e100 e106)) (fun g2 => ?_)⟩
  obtain ⟨l1, l2⟩ := greatX_small g
  obtain ⟨m1, m2⟩ := greatX_small g2
  have E106 := ext_trans e100 e106
  refine Nested_spec L (hL.ext E106) (by omega) (hM.ext E106) fun w112 e112 => ⟨_, rfl, br_split (fun g3 => aw _ (ext_trans E106 e112)) (fun g3 => ?_)⟩
  have E112 := ext_trans E106 e112
  refine Nested_spec M (hL'.ext E112) (by omega) (hM.ext E112) fun w118 e118 => ⟨_, rfl, br_split (fun g4 => aw _ (ext_trans E112 e118)) (fun g4 => ?_)⟩
  exact k4 g g2 (Classical.not_not.1 g3) (Classical.not_not.1 g4) _ (ext_trans E112 e118)
end Go.Proofs
namespace Go.Proofs.YtdbpliomkkmoaaaDoor
open Go Go.Sh Go.RowKit Go.ChangeShapes Go.WideShapes Go.ChangeAt

theorem len4 {α : Type} {l : List α} (h : l.length = 4) : ∃ a b c d, l = [a, b, c, d] := by
  match l, h with
  | [a, b, c, d], _ => exact ⟨a, b, c, d, rfl⟩
theorem own : ownKnob Tryd.prog.godebug = none := by kernel_rfl
theorem laidOut : laidOutB Tryd.prog = true := by kernel_rfl
theorem trod_iface {P : Program} {W : World} {fuel : Nat} {t : TypeId} {cs : List Value} {ms : Array (String × TypeId)} {nm : String} {d : DataW Unit} {p : List MemPlace} (hu : P.underlying t = some (.interface ms)) (h : DataW.trod (fun _ => ()) P W 0 (fun _ => true) false fuel t cs = some (.iface nm d, p)) : ∃ u v, cs = [.iface u v] := by
  cases fuel with
  | zero => simp [DataW.trod] at h
  | succ n =>
    unfold DataW.trod at h
    rw [hu] at h
    split at h <;> simp_all
theorem err_of {W : World} {n : String} {nm : String} {d : DataW Unit} {g : Nat} {ti : TypeId} {ms : Array (String × TypeId)} (h : Go.Lib.VarReads Tryd.prog W n (.iface nm d)) (hg : Tryd.prog.globalNamed n = some g) (ht : (Tryd.prog.globals[g]?).map (·.type) = some ti) (hi : Tryd.prog.underlying ti = some (.interface ms)) :
    ∃ t p, W.cell? ⟨g, 0, none⟩ = some (.iface t p) := by
  obtain ⟨g', t', cs, fuel, p, hg', ht', hv, hd⟩ := h
  obtain rfl := Option.some.inj (hg.symm.trans hg')
  obtain rfl := Option.some.inj (ht.symm.trans ht')
  obtain ⟨u, v, hc⟩ := trod_iface hi hd
  refine ⟨u, v, ?_⟩
  rw [World.var?_cell hg hv 0]
  have := congrArg (fun l => l[0]?) hc
  simpa using this
theorem mk_of {W : World} (h : laidMetH Tryd.prog Rows.markupLosslessRow.laid W) (hSh : W.ShapedOpen Tryd.prog) : Mk W := by
  have h := (show laidMet Tryd.prog Rows.markupLosslessRow.laid W from h)
  have e1 := Go.Lib.laidMet.reads h (n := "strconv.ErrSyntax") (d := Rows.laid_strconv_ErrSyntax) (.tail _ (.tail _ (.tail _ (.tail _ (.head _)))))
  have e2 := Go.Lib.laidMet.reads h (n := "strconv.ErrRange") (d := Rows.laid_strconv_ErrRange) (.tail _ (.tail _ (.tail _ (.head _))))
  exact ⟨Tryd.laysM145.s1_3 W hSh, err_of e1 (by kernel_rfl) (by kernel_rfl) Tryd.underlying60, err_of e2 (by kernel_rfl) (by kernel_rfl) Tryd.underlying60⟩

/- slices of lexemes, out of what a row says of the arguments -/
theorem row_buildQ {α : Type} {E : Enc α} {Q : α → Prop} {w : World} {a : Addr} {len : Nat} (hel : ∀ i, i < len → ∃ x : α, Q x ∧ ∀ j v, (E.enc x)[j]? = some v → w.cell? ((a.add (i * E.size)).add j) = some v) :
    ∃ L : List α, RowAt E (fun _ => True) w (some a) len L ∧ ∀ x ∈ L, Q x := by
  by_cases hl0 : len = 0
  · subst hl0; exact ⟨[], RowAt.nil _, fun x hx => by cases hx⟩
  obtain ⟨b, o, rfl⟩ : ∃ b o, a = ⟨b, o, none⟩ := by
    obtain ⟨x, _, hx⟩ := hel 0 (by omega)
    have hp := E.pos
    have h0 := hx 0 _ (List.getElem?_eq_getElem (by rw [E.len]; exact hp))
    obtain ⟨b, o, spot⟩ := a
    have hspot : spot = none := by simpa [Addr.add] using World.cell?_spot h0
    subst hspot
    exact ⟨b, o, rfl⟩
  have build : ∀ k, k ≤ len → ∃ L : List α, L.length = k ∧ (∀ j v, (E.row L)[j]? = some v → w.cell? ((⟨b, o, none⟩ : Addr).add j) = some v) ∧ ∀ x ∈ L, Q x := by
    intro k
    induction k with
    | zero => exact fun _ => ⟨[], rfl, fun j v hj => by simp at hj, fun x hx => by cases hx⟩
    | succ k ihk =>
      intro hk
      obtain ⟨L, hL, hus, hq⟩ := ihk (by omega)
      obtain ⟨x, hQ, hx⟩ := hel k (by omega)
      refine ⟨L ++ [x], by simp [hL], fun j v hj => ?_, fun y hy => ?_⟩
      · rw [row_snoc] at hj
        by_cases hlt : j < (E.row L).length
        · rw [List.getElem?_append_left hlt] at hj
          exact hus j v hj
        · rw [List.getElem?_append_right (by omega)] at hj
          have := hx _ _ hj
          rw [add_none, add_none] at this
          rw [row_len, hL] at this hlt
          rw [add_none, show o + j = o + k * E.size + (j - k * E.size) by omega]
          exact this
      · rcases List.mem_append.1 hy with hy | hy
        · exact hq y hy
        · rw [List.mem_singleton.1 hy]; exact hQ
  obtain ⟨L, hL, hus, hq⟩ := build len (Nat.le_refl _)
  refine ⟨L, ⟨hL.symm, ?_⟩, hq⟩
  cases hr : E.row L with
  | nil => exact .inl rfl
  | cons u us =>
    rw [hr] at hus
    have h0 := hus 0 u rfl
    refine .inr ⟨b, o, rfl, trivial, ?_, fun j v hj => ?_⟩
    · have := World.block_lt_of_cell? w _ h0
      simpa [Addr.add] using this
    · have := hus j v hj
      rw [add_none] at this; exact this
theorem weightsAll_mem {H : Type} {P : Program} {e : TypeId} : ∀ {ds : List (DataW H)} {d : DataW H} {m : Nat}, d ∈ ds → m ∈ d.weights P e → m ∈ DataW.weightsAll P e ds
  | d0 :: ds, d, m, hd, hm => by
    rw [DataW.weightsAll, List.mem_append]
    rcases List.mem_cons.1 hd with rfl | hd
    · exact .inl hm
    · exact .inr (weightsAll_mem hd hm)
set_option maxRecDepth 20000 in
theorem open_lexs {H : Type} {enc : TypeId × Value → H} {w : World} {base : Nat} {sp : Nat → Bool} {hd : Bool} (fuel : Nat) (cs : List Value) (x : DataW H × List MemPlace) (hz : ∀ m ∈ x.1.weights Tryd.prog 22, m ≤ reachBytes) (h : DataW.trod enc Tryd.prog w base sp hd fuel 22 cs = some x) :
    ∃ (a : Option Addr) (n c : Nat) (L : List Lx), cs = [.slice a n c] ∧ RowAt encX (fun _ => True) w a n L ∧ BigX L := by
  rcases DataW.trod_slice Tryd.underlying22 h with ⟨rfl, _⟩ | ⟨a, len, cap, elems, rest, n, rfl, rfl, hx, hb, hl, hm, hel, hall, _⟩
  · exact ⟨none, 0, 0, [], rfl, RowAt.nil _, by simp, fun x hx => by cases hx⟩
  have hr : reachBytes = 140737488351232 := rfl
  have hbz : Tryd.prog.bytesOf 44 = 48 := by kernel_rfl
  have hw : x.1.weights Tryd.prog 22 = (elems.length + rest.length) * 48 :: (DataW.weightsAll Tryd.prog 44 (elems.map (·.1)) ++ DataW.weightsAll Tryd.prog 44 (rest.map (·.1))) := by
    rw [hx]
    simp only [DataW.weights, Tryd.underlying22, hbz, List.length_map]
  rw [hw] at hz
  have hlen : len ≤ 140737488355328 := by
    have := hz _ List.mem_cons_self
    omega
  have h9 : Tryd.prog.cellsOf 9 = 1 := by kernel_rfl
  have h3 : Tryd.prog.cellsOf 3 = 1 := by kernel_rfl
  have h4 : Tryd.prog.cellsOf 44 = 4 := by kernel_rfl
  obtain ⟨L, hL, hq⟩ := row_buildQ (E := encX) (Q := fun x : Lx => x.nm.length ≤ 140737488355328 ∧ x.vl.length ≤ 140737488355328) (w := w) (a := a) (len := len) fun i hi => by
    have hh := hall i hi
    have hei : elems[i]? = some (elems[i]'(by omega)) := List.getElem?_eq_getElem (by omega)
    rw [hei] at hh
    obtain ⟨cs', hc1, hc2⟩ := Option.bind_eq_some_iff.1 hh
    rw [h4] at hc1
    obtain ⟨_, hlen, hcell⟩ := World.cells?_some hc1
    obtain ⟨xs, n', rfl, hxx, hcl, hxl, hf⟩ := DataW.trod_struct Tryd.underlying44 hc2
    obtain ⟨v0, v1, v2, v3, rfl⟩ := len4 hlen
    obtain ⟨y0, y1, y2, y3, rfl⟩ := len4 (show xs.length = 4 from hxl)
    have g0 := hf 0 _ rfl
    have g1 := hf 1 _ rfl
    have g2 := hf 2 _ rfl
    have g3 := hf 3 _ rfl
    try dsimp only at g0
    try simp only [h3] at g0
    try dsimp only at g1
    try simp only [h9] at g1
    try dsimp only at g2
    try simp only [h9] at g2
    try dsimp only at g3
    try simp only [h3] at g3
    obtain ⟨k, e0, z0, _⟩ := DataW.trod_int (k := .i64) Tryd.underlying3 g0
    obtain ⟨t, e1, z1, _⟩ := DataW.trod_string Tryd.underlying9 g1
    obtain ⟨u, e2, z2, _⟩ := DataW.trod_string Tryd.underlying9 g2
    obtain ⟨m, e3, z3, _⟩ := DataW.trod_int (k := .i64) Tryd.underlying3 g3
    simp [h9, h3] at e0 e1 e2 e3
    subst e0 e1 e2 e3
    have hwe : ∀ q ∈ (elems[i]'(by omega)).1.weights Tryd.prog 44, q ≤ reachBytes := fun q hq => hz q (List.mem_cons_of_mem _ (List.mem_append_left _ (weightsAll_mem (List.mem_map_of_mem (List.getElem_mem (by omega))) hq)))
    rw [hxx, z0, z1, z2, z3] at hwe
    have w1 := hwe t.data.toList.length (by simp [DataW.weights, Tryd.underlying44, DataW.weightsEach])
    have w2 := hwe u.data.toList.length (by simp [DataW.weights, Tryd.underlying44, DataW.weightsEach])
    refine ⟨⟨k, t.data.toList, u.data.toList, m⟩, ⟨by show t.data.toList.length ≤ _; omega, by show u.data.toList.length ≤ _; omega⟩, fun j v hj => ?_⟩
    have hj4 : j < 4 := (List.getElem?_eq_some_iff.1 hj).1
    rw [show i * encX.size = i * 4 from rfl, hcell j hj4]
    exact hj
  exact ⟨some a, len, cap, L, rfl, hL, by have := hL.1; omega, hq⟩
theorem u8_wf {n : Int} (h : (Lit.int .u8 n).wf = true) : 0 ≤ n ∧ n < 256 := by
  simp [Lit.wf, IntKind.min, IntKind.max, IntKind.signed, IntKind.bits] at h
  omega
noncomputable def flatV : Nat → DataW Unit → List Value
  | n + 1, .agg l => l.flatMap (flatV n)
  | _, .lit (.int k n) => [.int k n]
  | _, .lit (.bool b) => [.bool b]
  | _, .lit (.string s) => [.string ⟨s.toArray⟩]
  | _, _ => []
noncomputable def putG (h : Array Obj) (g : Nat) (cs : List Value) : Array Obj := h.modify g fun
  | .cells _ t frozen => .cells ⟨cs⟩ t frozen
  | o => o
noncomputable def layOne (h : Array Obj) (g : Nat) (d : DataW Unit) : Array Obj := match d with
  | .iface _ (.ptr (.agg [.lit (.string t)])) => putG (h.push (.cells ⟨[.string ⟨t.toArray⟩]⟩ 132 (0, 0))) g [.iface 130 (.pointer (some ⟨h.size, 0, none⟩))]
  | d => putG h g (flatV 5 d)
noncomputable def layAll (laid : List (String × DataW Unit)) (h : Array Obj) : Array Obj :=
  laid.foldl (fun h x => match Tryd.prog.globalNamed x.1 with
    | some g => layOne h g x.2
    | none => h) h
noncomputable def laidWorldOf (laid : List (String × DataW Unit)) (os : Os) : World :=
  { World.holding Tryd.prog os ⟨#[], #[], []⟩ with heap := layAll laid (World.holding Tryd.prog os ⟨#[], #[], []⟩).heap }
end Go.Proofs.YtdbpliomkkmoaaaDoor
