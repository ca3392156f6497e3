/- The contracts of the functions that the law reaches, one after the other, and at the end the law's card. -/
import Derived.Test.YtncjonkmhfdabaaGreatDoorLawG
import Derived.Test.YtncjonkmhfdabaaGreatDoorShelf
import Derived.Laws.CopyRow
set_option linter.all false
set_option maxRecDepth 40000
namespace Go.Proofs
open Go Go.Sh Go.RowKit Go.Proofs.Tryz IntKind
theorem raw_neT {x:Tok} (h:Raw x):x.t≠[]:=by
 rcases h.k with ⟨_,_,n,_,_,e⟩ | ⟨_,_,c,e,_⟩ | ⟨_,_,c,s,e,_⟩ <;> rw [e]
 ·unfold gapT;simp
 ·simp
 ·simp
theorem conj_okT {s:List UInt8} {y:Tok} (hy:y∈tksR ([],0) (.one 1 s 0 .nil) []):okT y.t:=by
 by_cases h:tksE ([],0) (.one 1 s 0 .nil) []=0
 ·obtain ⟨H,hr⟩:=tks_ok h
  rw [hr] at hy
  obtain ⟨x,hx,rfl⟩:=List.mem_map.1 hy
  have hck:=H.c
  have ho:okF false (.one 1 s 0 .nil):=by
   unfold qec at hck
   split at hck
   ·split at hck
    ·rename_i hh;exact absurd hck hh
    ·rename_i hh;exact ((qnr (.one 1 s 0 .nil) false false).1 (Decidable.not_not.1 hh)).1
   ·cases hck
  have hp:plOk (([],0):Ps):=⟨H.p0,by have:=H.nm;unfold qdo at this;simpa using this⟩
  have hraw:=qqy _ _ false false (Nat.le_refl _) (qzw (u:=false) (nm:=[]) ho hp (.inl rfl)) x hx
  have hl:x.t.length≤64:=by
   have:=H.lg
   unfold longT at this
   rw [Bool.or_eq_false_iff] at this
   have h2:=List.any_eq_false.1 this.2 x hx
   simpa using h2
  exact (show okT x.t from ⟨raw_neT hraw,hl⟩)
 ·unfold tksR at hy
  rw [if_pos h] at hy
  cases hy
def cjT (t:Tok):Tok:=⟨t.t,t.m,t.p,bitN .i64 t.g 4,[]⟩
def cjL (s:List UInt8):List Tok:=tksR ([],0) (.one 1 s 0 .nil) []
def kndT (x:Kol) (p:Nat × Nat) (d:Dc):List (Tok × Nat) :=
 if d.k=1 then x.spkT p.1 p.2 (ixF (fun y=>decide (d.s=y)) x.sig).toNat else if d.k=2 then (cjL d.x).map fun t=>(cjT t,p.1) else []
theorem cjL_len (s:List UInt8):(cjL s).length≤1024:=tks_len _ _ _
theorem q9b (x:Kol) (p:Nat × Nat) (d:Dc):(kndT x p d).length≤1024 + (p.2 - p.1):=by
 unfold kndT
 split
 ·have:=qyv x p.1 p.2 (ixF (fun y=>decide (d.s=y)) x.sig).toNat;omega
 ·split
  ·rw [List.length_map];have:=cjL_len d.x;omega
  ·simp
theorem sig_ix {x:Kol} {d:Dc} (h:d.s∈x.sig):∃ s:Nat,s < x.sig.length∧ixF (fun y=>decide (d.s=y)) x.sig=s:=by
 have:¬ ixF (fun y=>decide (d.s=y)) x.sig < 0:=by
  intro hh
  have:=qs9 (fun y=>decide (d.s=y)) x.sig
  rw [decide_eq_false (by omega)] at this
  exact absurd (List.any_eq_false.1 this.symm _ h) (by simp)
 obtain ⟨s,hs,h1,_⟩:=qmr this
 exact ⟨s,hs,h1⟩
theorem knd_ok {x:Kol} (V:Vk x) {p:Nat × Nat} (hp1:p.1 < p.2) (hp:p.2≤x.col.length) {d:Dc} (hd:DcOk x d) {i:Int} (hi:-1≤i):PartOk p (i,(kndT x p d).map fun y=>(y.1.t,y.2)):=by
 unfold kndT
 split
 ·obtain ⟨s,hs,h1⟩:=sig_ix hd.s
  rw [h1,Int.toNat_natCast]
  have:=V.spk_ok (f:=p.1) hp hs
  exact ⟨hi,this.asc,this.ok⟩
 ·split
  ·refine ⟨hi,?_,fun y hy=>?_⟩
   ·show List.Pairwise _ (List.map _ _)
    rw [List.map_map,List.pairwise_map]
    exact List.pairwise_of_forall fun _ _=>Nat.le_refl _
   ·obtain ⟨q,hq,rfl⟩:=List.mem_map.1 hy
    obtain ⟨t,ht,rfl⟩:=List.mem_map.1 hq
    exact ⟨Nat.le_refl _,hp1,(show okT t.t from conj_okT ht)⟩
  ·exact ⟨hi,List.Pairwise.nil,fun y hy=>by cases hy⟩
section
variable {R:Ending→World→Prop} {S S2 S3:Nat→Prop} {w:World} {v:KV} {x:Kol}
theorem qx5 (s:List UInt8) (hF:Forms w) (h:∀ a n c w',OwnL encTk w' w.heap.size 117 a n c (cjL s)→Ext w w'→R (.returned (.slice a n c)) w'):Calls prog qfe ⟨[.string ⟨⟨s⟩⟩]⟩ w R:=by
 apply qlu
 refine qd fun b5 w6 hb5 B5 e6 s6=>?_
 refine q0y (S:=fun _=>True) (S2:=fun _=>True) ([],0) (.one 1 s 0 .nil) [] (q51 _ _ _) (hF.ext e6) (one_slf B5) q2g (q2j _ _) fun a' n' c' w8 hn ho e8=>⟨_,_,_,_,rfl,?_⟩
 exact h a' n' c' w8 (Owns.weak ho e6.size) (qa e6 e8)
theorem knd3_call {p:Nat × Nat} {d:Dc} {a:Option Addr} {n c:Nat} {K:Ending→World→Prop} (h:∀ w',Ext w w'→K (.returned (.slice none 0 0)) w') :
  CallV prog (.func (.func 115) #[] #[]) [.agg ⟨kcs x v⟩,.agg ⟨[.int .i64 (p.1:Int),.int .i64 (p.2:Int),.slice a n c]⟩,.agg ⟨d.cs⟩] w K:=by
 refine ⟨by kernel_rfl,?_⟩
 apply qtx
 exact qd fun b1 w1 _ _ e1 _=>qd fun b2 w2 _ _ e2 _=>qd fun b3 w3 _ _ e3 _=>h w3 (qa e1 (qa e2 e3))
theorem knd2_call (hF:Forms w) {p:Nat × Nat} {d:Dc} {a:Option Addr} {n c:Nat} {K:Ending→World→Prop} (h:∀ a' n' c' w',OwnL encPc w' w.heap.size 128 a' n' c' ((cjL d.x).map fun t=>(cjT t,p.1))→Ext w w'→K (.returned (.slice a' n' c')) w') :
  CallV prog (.func (.func 113) #[] #[]) [.agg ⟨kcs x v⟩,.agg ⟨[.int .i64 (p.1:Int),.int .i64 (p.2:Int),.slice a n c]⟩,.agg ⟨d.cs⟩] w K:=by
 refine ⟨by kernel_rfl,?_⟩
 apply qty
 refine qd fun b1 w1 hb1 B1 e1 s1=>qd fun b2 w2 hb2 B2 e2 s2=>qd fun b3 w3 hb3 B3 e3 s3=>?_
 have e03:=qa e1 (qa e2 e3)
 have B2:=B2.ext e3
 refine ⟨_,bat B3 rfl,qx5 d.x (hF.ext e03) fun a21 n21 c21 w20 ho e20=>⟨_,_,_,rfl,?_⟩⟩
 have hl:=cjL_len d.x
 have hln:(cjL d.x).length=n21:=OwnL.length ho
 have e020:=qa e03 e20
 have hrow:=OwnL.out ho
 have B2:=B2.ext e20
 refine ⟨fun oa on oc i W m=>∃ k:Nat,i=k∧k≤n21∧m=n21 - k∧OwnL encPc W w20.heap.size 128 oa on oc (((cjL d.x).take k).map fun t=>(cjT t,p.1))∧Ext w20 W,⟨_,0,rfl,Nat.zero_le _,rfl,Owns.nil _ _ _ _,Below.refl _ _⟩,?_⟩
 rintro oa on oc _ W m ⟨k,rfl,hk,rfl,hO,eW⟩ _
 have hon:=OwnL.length hO
 rw [List.length_map,List.length_take] at hon
 refine qc (fun hlt=>?_) (fun hge=>?_)
 ·have hkl:k < (cjL d.x).length:=by omega
  obtain ⟨q,hq,c0,c1,c2,c3,c4,c5⟩:=qpy (hrow.ext eW) (List.getElem?_eq_getElem hkl)
  generalize hu:(cjL d.x)[k]=u at *
  refine hq _ ⟨_,c0,_,c1,_,c2,_,c3,_,c4,_,c5,?_⟩
  refine qac rfl (one6t u) fun b35 w37 hb35 B35 e37 s37=>⟨_,bat B35 rfl,?_⟩
  rw [qe]
  refine qa7 B35 (by simp) (by intro v hv;simp only [List.mem_singleton] at hv;subst hv;rfl) fun w39 B39 y1 y2 y3 y4 y5=>?_
  rw [qe]
  refine qa7 B39 (by simp [putAt]) (by intro v hv;simp only [List.mem_singleton] at hv;subst hv;rfl) fun w40 B40 z1 z2 z3 z4 z5=>?_
  have B40':Blk w40 b35 [.string ⟨⟨u.t⟩⟩,.string ⟨⟨u.m⟩⟩,.string ⟨⟨u.p.1⟩⟩,.int .i64 u.p.2,.int .i64 (bitN .i64 u.g 4),.string ⟨⟨[]⟩⟩] 117:=B40
  have c3940:Chg (fun k=>k=b35) w37 w40:=Chg.trans (B:=w39) ⟨y3,y4,y5,by omega,fun j _ hj=>y1 j hj⟩ ⟨z3,z4,z5,by omega,fun j _ hj=>z1 j hj⟩
  have eW40:Ext W w40:=qi e37 c3940 fun j hj=>by omega
  have eW2:=qa eW eW40
  refine ⟨_,bat B40' rfl,_,bat B40' rfl,_,bat B40' rfl,_,bat B40' rfl,_,by rw [B40'.cell];rfl,_,by rw [B40'.cell];rfl,_,bat (B2.ext eW2) rfl,?_⟩
  refine OwnL.push (E:=encPc) slT_pc (Owns.ext hO eW40) eW2.size (cjT u,p.1) (by omega) (by omega) fun a' c' w51 ho' hc hn=>?_
  refine ⟨n21 - (k + 1),by omega,k + 1,by rw [qg (by omega)],by omega,rfl,?_,qko eW2 hc fun j hj=>(Owns.bk hO hj).1⟩
  rw [List.take_succ_eq_append_getElem hkl,List.map_append,hu]
  exact ho'
 ·rw [List.take_of_length_le (by omega)] at hO
  exact h oa on oc W (Owns.weak hO e020.size) (qa e020 eW)
set_option maxHeartbeats 1000000 in
theorem knd1_call (hV:Vk x) (hC:ColV S w v x) {p:Nat × Nat} (hp1:p.1≤p.2) (hp:p.2≤x.col.length) {d:Dc} (hd:d.s∈x.sig) {a:Option Addr} {n c:Nat} {K:Ending→World→Prop} (h:∀ a' n' c' w',OwnL encPc w' w.heap.size 128 a' n' c' (x.spkT p.1 p.2 (ixF (fun y=>decide (d.s=y)) x.sig).toNat)→Ext w w'→K (.returned (.slice a' n' c')) w') :
  CallV prog (.func (.func 111) #[] #[]) [.agg ⟨kcs x v⟩,.agg ⟨[.int .i64 (p.1:Int),.int .i64 (p.2:Int),.slice a n c]⟩,.agg ⟨d.cs⟩] w K:=by
 refine ⟨by kernel_rfl,?_⟩
 apply qtz
 refine qd fun b12 w13 hb12 B12 e13 s13=>qd fun b14 w15 hb14 B14 e15 s15=>qd fun b16 w17 hb16 B16 e17 s17=>?_
 have e017:=qa e13 (qa e15 e17)
 unfold drw
 have ed:=qn w17
 have B12:=(B12.ext (qa e15 e17)).ext ed
 have B14:=(B14.ext e17).ext ed
 have B16:=B16.ext ed
 have e018:=qa e017 ed
 have z13:=e13.size
 have z15:=e15.size
 have z17:=e17.size
 generalize w17.drew=W at *
 have hCW:=hC.ext e018
 have hsn:=hCW.sg.1
 have h32:=hV.n32
 have hcn:=hV.gr.col
 obtain ⟨s,hs,hix⟩:=sig_ix hd
 rw [hix,Int.toNat_natCast] at h
 have fin:Calls prog 67 ⟨[.agg ⟨kcs x v⟩,.int .i64 (p.1:Int),.int .i64 (p.2:Int),.int .i64 (s:Int)]⟩ W fun (e30:Ending) (w31:World) =>
   ∃ (x32:Fn) (x32a:Array Value) (x32b:Array Value),e30=.returned (.func x32 x32a x32b)∧((Calls prog 112 ⟨[.func x32 x32a x32b]⟩ w31 fun (e33:Ending) (w34:World)=>∃ (x35:Option Addr) (x35n:Nat) (x35c:Nat),e33=.returned (.slice x35 x35n x35c)∧(K (.returned (.slice x35 x35n x35c)) w34))∧True):=by
  apply qfj
  refine qd fun q1 v1 hq1 Q1 f1 t1=>qd fun q2 v2 hq2 Q2 f2 t2=>qd fun q3 v3 hq3 Q3 f3 t3=>qd fun q4 v4 hq4 Q4 f4 t4=>⟨_,_,_,rfl,?_,trivial⟩
  have eV:=qa f1 (qa f2 (qa f3 f4))
  have Q1:=Q1.ext (qa f2 (qa f3 f4))
  have Q2:=Q2.ext (qa f3 f4)
  have Q3:=Q3.ext f4
  apply qd1
  have hC4:=(hCW.imp (S':=fun k=>S k∧k < W.heap.size) fun k hk hl=>⟨hk,hl⟩).ext eV
  have zV:=eV.size
  have l1:=Q1.lt
  have l2:=Q2.lt
  have l3:=Q3.lt
  have l4:=Q4.lt
  refine q1a (gf:=qa3) (xs:=x.spkT p.1 p.2 s) (by kernel_rfl) (Rd:=fun k=>(k=q2∨k=q3∨k=q1∨k=q4)∨((S k∧k < W.heap.size)∧k < v4.heap.size)) (fun v5 e5=>?_) (fun k hk=>by rcases hk with (hh | hh | hh | hh) | hh <;> omega) (by have:=qyv x p.1 p.2 s;omega) fun oa on oc w' ho e'=>⟨_,_,_,rfl,_,_,_,rfl,h oa on oc w' (Owns.weak ho (by have:=e018.size;omega)) (qa e018 (qa eV e'))⟩
  have hi:=qxi hV (hC4.ext e5) hp1 hp hs (Q2.ext e5) (Q3.ext e5) (Q1.ext e5) (Q4.ext e5)
  have z5:=e5.size
  have eq:(fun k=>(k=q2∨k=q3∨k=q1∨k=q4)∨((S k∧k < W.heap.size)∧k < v5.heap.size))=(fun k=>(k=q2∨k=q3∨k=q1∨k=q4)∨((S k∧k < W.heap.size)∧k < v4.heap.size)):=by
   funext k
   exact propext ⟨fun q=>q.imp id fun t=>⟨t.1,by omega⟩,fun q=>q.imp id fun t=>⟨t.1,by omega⟩⟩
  rw [eq] at hi;exact hi
 have rx0:∀ {Q:List UInt8→Prop},Q x.sec→∃ (y:List UInt8),World.cell? W ((⟨b12,0,none⟩:Addr).add 0)=some (.string ⟨⟨y⟩⟩)∧Q y:=fun q=>⟨_,bat B12 rfl,q⟩
 have rx1:∀ {Q:Option Addr→Nat→Nat→Prop},Q v.s.1 v.s.2.1 v.s.2.2→∃ (y:Option Addr) (yn yc:Nat),World.cell? W ((⟨b12,0,none⟩:Addr).add 1)=some (.slice y yn yc)∧Q y yn yc:=fun q=>⟨_,_,_,bat B12 rfl,q⟩
 have rx2:∀ {Q:Option Addr→Nat→Nat→Prop},Q v.t.1 v.t.2.1 v.t.2.2→∃ (y:Option Addr) (yn yc:Nat),World.cell? W ((⟨b12,0,none⟩:Addr).add 2)=some (.slice y yn yc)∧Q y yn yc:=fun q=>⟨_,_,_,bat B12 rfl,q⟩
 have rx3:∀ {Q:Option Addr→Nat→Nat→Prop},Q v.c.1 v.c.2.1 v.c.2.2→∃ (y:Option Addr) (yn yc:Nat),World.cell? W ((⟨b12,0,none⟩:Addr).add 3)=some (.slice y yn yc)∧Q y yn yc:=fun q=>⟨_,_,_,bat B12 rfl,q⟩
 have ru0:∀ {Q:Int→Prop},Q p.1→∃ (y:Int),World.cell? W ((⟨b14,0,none⟩:Addr).add 0)=some (.int .i64 y)∧Q y:=fun q=>⟨_,bat B14 rfl,q⟩
 have ru1:∀ {Q:Int→Prop},Q p.2→∃ (y:Int),World.cell? W ((⟨b14,0,none⟩:Addr).add 1)=some (.int .i64 y)∧Q y:=fun q=>⟨_,bat B14 rfl,q⟩
 have rd1:∀ {Q:List UInt8→Prop},Q d.s→∃ (y:List UInt8),World.cell? W ((⟨b16,0,none⟩:Addr).add 1)=some (.string ⟨⟨y⟩⟩)∧Q y:=fun q=>⟨_,bat B16 rfl,q⟩
 have ci:∀ {Q:Int→World→Prop},Q s W→Calls prog 73 ⟨[.slice v.s.1 v.s.2.1 v.s.2.2,.string ⟨⟨d.s⟩⟩]⟩ W fun (e:Ending) (w':World)=>∃ (y:Int),e=.returned (.int .i64 y)∧Q y w':=fun {Q} q=>qur d.s hCW.sg (by omega) ⟨_,rfl,by rw [hix];exact q⟩
 refine rx1 (rd1 ?_)
 repeat' first
  | exact trivial
  | with_reducible exact fin
  | with_reducible refine rx0 ?_
  | with_reducible refine rx1 ?_
  | with_reducible refine rx2 ?_
  | with_reducible refine rx3 ?_
  | with_reducible refine ru0 ?_
  | with_reducible refine ru1 ?_
  | with_reducible refine ci ?_
  | with_reducible refine And.intro ?_ ?_
end
theorem cpy_int {w:World} {g o dLen dCap sLen sCap:Nat} {ad:Addr} {cur cs:List Value} (hg:Blk w g cur 3) (hn:cs.length=Nat.min sLen dLen) (hsrc:∀ j v,cs[j]? = some v→w.cell? (ad.add j)=some v) (hfit:o + cs.length≤cur.length) (h1:∀ v∈cs,v.oneCell'=true) {K:Int→World→Prop}
  (hk:∀ w',Blk w' g (cur.take o++cs++cur.drop (o + cs.length)) 3→Chg (fun k=>k=g) w w'→w'.heap.size=w.heap.size→K (cs.length:Int) w') :
  cpy prog [40,40] 3 [.slice (some ⟨g,o,none⟩) dLen dCap,.slice (some ad) sLen sCap] w K:=by
 have hg':w.heap[g]? = some (.cells cur.toArray 3 (0,0)):=hg
 have hr:=run_copy_row (P:=prog) w 40 40 3 3 g o dLen dCap ad sLen sCap cur.toArray 3 cs (by kernel_rfl) (by kernel_rfl) hg' hn hsrc (by simpa using hfit) h1
 refine ⟨_,_,hr,hk _ ?_ ⟨rfl,rfl,rfl,by simp,fun k _ hk=>setRow_other w g k _ hk⟩ (by simp)⟩
 have:=setRow_heap w g cur.toArray (cur.take o++cs++cur.drop (o + cs.length)).toArray 3 (0,0) hg'
 exact this
def onesN (n k:Nat):List Value:=(List.replicate k (.int .i64 (-1)))++List.replicate (n - k) (.int .i64 0)
theorem q2p {n k q:Nat} (h:k + q≤n):(onesN n k).take k++List.replicate q (.int .i64 (-1))++(onesN n k).drop (k + q)=onesN n (k + q):=by
 unfold onesN
 rw [List.take_left' (by simp),List.drop_append,List.drop_eq_nil_of_le (by simp),List.nil_append,List.length_replicate,List.drop_replicate,show n - k - (k + q - k)=n - (k + q) by omega,List.replicate_append_replicate]
section
variable {R:Ending→World→Prop} {S S2 S3:Nat→Prop} {w:World} {v:KV} {x:Kol}
theorem q6n {b n:Nat} (hn:n≤1000) (B:Blk w b [.int .i64 (-1)] 3) (h:∀ p w',p=w.heap.size→Ext w w'→Blk w' p (fC n fun _=>.int .i64 (-1)) 3→R (.returned (.slice (some ⟨p,0,none⟩) n n)) w') :
  Calls prog qc2 ⟨[.slice (some ⟨b,0,none⟩) 1 1,.int .i64 (n:Int)]⟩ w R:=by
 apply qhr
 intro K3 hK3
 refine ql (by omega) (hK3 w fun _=>?_)
 have w1:IntKind.u64.wrap ((1:Nat):Int)=((1:Nat):Int):=by decide
 have w2:IntKind.u64.wrap (n:Int)=((n:Nat):Int):=by
  unfold IntKind.wrap;simp [IntKind.signed,IntKind.bits];omega
 rw [w1,w2]
 refine (Tryz.bits_Mul 1 n (by decide) (by omega) w).mono ?_
 rintro e5 w6 ⟨rfl,rfl⟩
 refine ⟨_,_,rfl,?_⟩
 intro K9 hK9
 have q0:(((1 * n / 18446744073709551616:Nat)):Int)=0:=by omega
 have q1:(((1 * n % 18446744073709551616:Nat)):Int)=(n:Nat):=by omega
 rw [q0,q1]
 refine ql (by decide) (ql (by omega) (hK9 w6 fun _=>?_))
 have w3:i64.wrap ((1 * n % 18446744073709551616:Nat):Int)=((n:Nat):Int):=by rw [q1];exact qai (by omega)
 rw [w3]
 refine qs6 (Nat.le_refl _) (by omega) fun p w12 hp Bp e12 s12=>?_
 rw [Int.toNat_natCast]
 have Bp:Blk w12 p (onesN n 0) 3:=by
  have:(List.replicate n [Value.int .i64 0]).flatten=onesN n 0:=by
   unfold onesN
   rw [q9i];unfold fC;rw [List.map_const',List.length_range];rfl
  rw [this] at Bp;exact Bp
 have B':=B.ext e12
 have ol:∀ k,k≤n→(onesN n k).length=n:=fun k hk=>by unfold onesN;rw [List.length_append,List.length_replicate,List.length_replicate];omega
 refine cpy_int (cs:=List.replicate (Nat.min 1 n) (.int .i64 (-1))) Bp (by rw [List.length_replicate]) (fun j v hj=>?_) (by rw [List.length_replicate,ol 0 (by omega)];have:Nat.min 1 n≤n:=Nat.min_le_right 1 n;omega) (by intro v hv;rw [List.eq_of_mem_replicate hv];rfl) fun w13 B13 c13 s13=>?_
 ·have hjl:=(List.getElem?_eq_some_iff.1 hj).1
  rw [List.length_replicate] at hjl
  have:Nat.min 1 n≤1:=Nat.min_le_left _ _
  obtain rfl:j=0:=by omega
  have hv:=(List.getElem?_eq_some_iff.1 hj).2
  rw [List.getElem_replicate] at hv
  subst hv
  exact bat B' rfl
 rw [List.length_replicate] at B13 ⊢
 have st:=q2p (n:=n) (k:=0) (q:=Nat.min 1 n) (by have:Nat.min 1 n≤n:=Nat.min_le_right 1 n;omega)
 rw [Nat.zero_add] at st B13
 rw [st] at B13
 refine ⟨fun i V m=>∃ k:Nat,i=k∧(0 < n→1≤k)∧k≤n∧m=n - k∧Ext w6 V∧Blk V p (onesN n k) 3,⟨_,Nat.min 1 n,rfl,fun q=>by rw [Nat.le_min];omega,Nat.min_le_right _ _,rfl,qi e12 c13 fun j hj=>by omega,B13⟩,?_⟩
 rintro _ V m ⟨k,rfl,h1,h2,rfl,eV,BV⟩ _
 refine qc (fun hlt=>?_) (fun hge=>?_)
 ·have hk:k < n:=by omega
  have h1:=h1 (by omega)
  unfold drw
  have eV':=qa eV (qn V)
  have BV':=BV.ext (qn V)
  generalize V.drew=V1 at *
  refine ⟨by omega,by omega,by omega,?_⟩
  refine ⟨by omega,by omega,by omega,?_⟩
  refine ⟨?_,True.intro⟩
  have hs1:slA (some (⟨p,0,none⟩:Addr)) n (Int.toNat (k:Int)) 1=some ⟨p,k,none⟩:=by
   unfold slA
   rw [if_neg (by omega)]
   simp only [Option.map,Addr.add,Int.toNat_natCast,Nat.mul_one,Nat.zero_add]
   rw [if_neg (by omega)]
  have hs2:slA (some (⟨p,0,none⟩:Addr)) n (Int.toNat 0) 1=some ⟨p,0,none⟩:=by
   unfold slA
   rw [if_neg (by omega)]
   rfl
  rw [hs1,hs2]
  have hmin:Nat.min k (n - k)≤n - k:=Nat.min_le_right _ _
  have hmin1:1≤Nat.min k (n - k):=by rw [Nat.le_min];omega
  refine cpy_int (cs:=List.replicate (Nat.min k (n - k)) (.int .i64 (-1))) BV' ?_ (fun j v hj=>?_) (by rw [List.length_replicate,ol k h2];omega) (by intro v hv;rw [List.eq_of_mem_replicate hv];rfl) fun w13 B13 c13 s13=>?_
  ·rw [List.length_replicate]
   congr 1
  ·have hjl:=(List.getElem?_eq_some_iff.1 hj).1
   rw [List.length_replicate] at hjl
   have hjk:j < k:=Nat.lt_of_lt_of_le hjl (Nat.min_le_left _ _)
   have hv:=(List.getElem?_eq_some_iff.1 hj).2
   rw [List.getElem_replicate] at hv
   subst hv
   refine bat BV' ?_
   unfold onesN
   rw [List.getElem?_append_left (by rw [List.length_replicate];exact hjk),List.getElem?_replicate,if_pos hjk]
  ·rw [List.length_replicate] at B13 ⊢
   rw [q2p (by omega)] at B13
   refine ⟨n - (k + Nat.min k (n - k)),by omega,k + Nat.min k (n - k),?_,fun _=>by omega,by omega,rfl,qi eV' c13 fun j hj=>by omega,B13⟩
   rw [← Int.natCast_add,qai (by omega)]
 ·obtain rfl:k=n:=by omega
  refine h p V hp eV ?_
  have:onesN k k=fC k fun _=>.int .i64 (-1):=by unfold onesN fC;rw [Nat.sub_self,List.map_const',List.length_range];simp
  rw [← this];exact BV
theorem q8o {a:Option Addr} {n c:Nat} {L:List Unt} (h1:RowV vUn S w a n L) (hs:n≤1000000)
  (h:∀ a' c' w',OwnV vUn (fun k=>S k∧k < w.heap.size) 123 w.heap.size w' a' n c' L→Ext w w'→R (.returned (.slice a' n c')) w'):Calls prog qa2 ⟨[.slice a n c]⟩ w R:=by
 apply qdk
 have hn:=h1.1
 refine qh (fun hz=>?_) (fun hz=>?_)
 ·obtain rfl:a=none:=by cases a <;> simp_all
  obtain rfl:L=[]:=h1.isNone
  have hn0:n=0:=hn
  subst hn0
  exact h none 0 w (OwnV.nil w) (Below.refl _ _)
 ·refine qd fun b w1 hb B1 e1 s1=>?_
  have z1:=e1.size
  have hO:OwnV vUn (fun k=>S k∧k < w.heap.size) 123 w.heap.size w1 (some ⟨b,0,none⟩) 0 0 []:=⟨rfl,[],Owns.made B1 (by omega),rfl⟩
  have h2:=(h1.imp (S':=fun k=>S k∧k < w.heap.size) fun k hk hl=>⟨hk,hl⟩).ext e1
  refine hO.pushAll slT_un (by omega) h2 (fun us hu=>hu.keep (fun k hk _=>⟨⟨hk,fun hh=>?_⟩,rfl⟩) (Nat.le_refl _)) (by omega) (by omega) fun a' c' w' ho hc hn'=>?_
  ·rw [Nat.zero_add] at ho ⊢
   exact h a' c' w' ho (qko e1 hc fun k hk=>by simp [bk] at hk;omega)
  ·have:b=k:=by simpa [bk] using hh
   omega
theorem dChk_spec (hV:Vk x) (hC:ColV S w v x) (hM:Mk w) {a:Option Addr} {n c:Nat} (hU:RowV vUn S2 w a n x.units) (h:∀ w',Ext w w'→R (.returned (.int .i64 0)) w') :
  Calls prog qlf ⟨[.agg ⟨kcs x v⟩,.slice a n c]⟩ w R:=by
 apply qyf
 refine qd fun b5 w6 hb5 B5 e6 s6=>?_
 refine ⟨_,bat B5 rfl,_,_,_,bat B5 rfl,_,_,_,bat B5 rfl,_,_,_,bat B5 rfl,?_⟩
 refine qte hV (hC.ext e6) (hM.ext e6) fun w12 e12=>⟨_,rfl,ql (by decide) ?_⟩
 have B5:=B5.ext e12
 have e012:=qa e6 e12
 refine ⟨_,bat B5 rfl,_,_,_,bat B5 rfl,_,_,_,bat B5 rfl,_,_,_,bat B5 rfl,?_⟩
 exact q5b hV (hC.ext e012) (hM.ext e012) (hU.ext e012) fun w20 e20=>⟨_,rfl,ql (by decide) (h w20 (qa e012 e20))⟩
theorem q6d (hV:Vk x) (hC:ColV S w v x) (hM:Mk w) (hF:Forms w) {a:Option Addr} {n c:Nat} (hU:RowV vUn S2 w a n x.units) {da:Option Addr} {dn dc:Nat} {D:List Dc} (hD:RowV vDc S3 w da dn D) (hdn:dn≤8) (hdx:∀ d∈D,d.x.length≤80)
  (hbad:∀ (e:Int) w',e≠0→D≠[]→Ext w w'→R (.returned (.tuple ⟨[.slice none 0 0,.int .i64 e]⟩)) w')
  (h:∀ (A:List Int) oa on oc w',A.length=D.length→(∀ y∈A,0≤y∧y < x.units.length)→(∀ d∈D,DcOk x d)→OwnL Sh.encI w' w.heap.size 3 oa on oc A→Ext w w'→R (.returned (.tuple ⟨[.slice oa on oc,.int .i64 0]⟩)) w') :
  Calls prog qj1 ⟨[.agg ⟨kcs x v⟩,.slice a n c,.slice da dn dc]⟩ w R:=by
 apply qwo
 have hdl:=hD.1
 refine qd fun b7 w8 hb7 B7 e8 s8=>ql (by omega) ?_
 refine ⟨fun oa on oc i W m=>∃ (k:Nat) (A:List Int),i=k∧k≤dn∧m=dn - k∧A.length=k∧(∀ y∈A,0≤y∧y < x.units.length)∧(∀ d∈D.take k,DcOk x d)∧OwnL Sh.encI W w8.heap.size 3 oa on oc A∧Ext w8 W,⟨_,0,[],rfl,Nat.zero_le _,rfl,rfl,fun y hy=>(by cases hy),fun d hd=>(by simp at hd),Owns.nil _ _ _ _,Below.refl _ _⟩,?_⟩
 rintro oa on oc _ W m ⟨k,A,rfl,hk,rfl,hA,hAb,hok,hO,eW⟩ _
 have hon:=OwnL.length hO
 have e0W:=qa e8 eW
 refine qc (fun hlt=>?_) (fun hge=>?_)
 ·have hkD:k < D.length:=by omega
  obtain ⟨p,hp,d⟩:=q7h (hD.ext e0W) hkD
  have hne:D≠[]:=fun q=>by rw [q] at hkD;simp at hkD
  refine hp _ ⟨_,d 0 _ rfl,_,d 1 _ rfl,_,d 2 _ rfl,_,d 3 _ rfl,?_⟩
  refine qac rfl (one_dc D[k]) fun b20 w22 hb20 B20 e22 s22=>?_
  have e022:=qa e0W e22
  have B7':=(B7.ext eW).ext e22
  refine ⟨_,bat B7' rfl,_,_,_,bat B7' rfl,_,_,_,bat B7' rfl,_,_,_,bat B7' rfl,_,bat B20 rfl,_,bat B20 rfl,_,bat B20 rfl,_,bat B20 rfl,?_⟩
  refine place_spec hV (hC.ext e022) (hM.ext e022) (hF.ext e022) (hU.ext e022) D[k] (hdx _ (List.getElem_mem hkD)) fun at_ e w32 e32 hat=>⟨_,_,rfl,qc (fun g=>hbad _ _ g hne (qa e022 e32)) (fun g=>?_)⟩
  obtain ⟨h1,h2⟩:=hat (Decidable.not_not.1 g)
  have eW32:=qa e22 e32
  refine OwnL.push (E:=Sh.encI) slT_i (Owns.ext hO eW32) (qa eW eW32).size at_ (by omega) (by omega) fun a' c' w38 ho hc hnn=>?_
  refine ⟨dn - (k + 1),by omega,k + 1,A++[at_],by rw [qg (by omega)],by omega,rfl,by simp [hA],fun y hy=>?_,fun d hd=>?_,ho,qko (qa eW eW32) hc fun j hj=>(Owns.bk hO hj).1⟩
  ·rcases List.mem_append.1 hy with hy | hy
   ·exact hAb y hy
   ·rw [List.mem_singleton] at hy;subst hy;exact h1
  ·rw [List.take_succ_eq_append_getElem hkD,List.mem_append,List.mem_singleton] at hd
   rcases hd with hd | rfl
   ·exact hok d hd
   ·exact h2
 ·rw [List.take_of_length_le (by omega)] at hok
  exact h A oa on oc W (by omega) hAb hok (Owns.weak hO e8.size) e0W
end
structure Wd where
 t:List UInt8
 c:Int
 u:Int
 d:Int
 j:Bool
 v:Bool
 n:List UInt8
abbrev Wd.cs (x:Wd):List Value:=[.string ⟨⟨x.t⟩⟩,.int .i64 x.c,.int .i64 x.u,.int .i64 x.d,.bool x.j,.bool x.v,.string ⟨⟨x.n⟩⟩]
abbrev Wd.core (x:Wd):Core:=(x.t,x.c,x.u,x.d)
theorem qxm (x:Wd):∀ v∈x.cs,v.oneCell'=true:=by
 intro v hv
 simp only [List.mem_cons,List.not_mem_nil,or_false] at hv
 rcases hv with rfl | rfl | rfl | rfl | rfl | rfl | rfl <;> rfl
def encWd:Enc Wd:=⟨fun x=>x.cs,7,fun _=>rfl,by decide,qxm⟩
abbrev vWd:View Wd:=View.enc encWd
theorem slT_wd:SlT prog 27 36 7 64 (.agg ⟨[.string ⟨⟨[]⟩⟩,.int .i64 0,.int .i64 0,.int .i64 0,.bool false,.bool false,.string ⟨⟨[]⟩⟩]⟩):=⟨by kernel_rfl,by kernel_rfl,rfl,by decide⟩
theorem qqo {S:Nat→Prop} {w:World} {a:Option Addr} {n:Nat} {W0:List Wd} (h:RowV vWd S w a n W0) {i:Nat} (hi:i < W0.length):∃ p:Addr,(∀ K:Addr→Prop,K p→idx a n (i:Int) 7 K)∧∀ (j:Nat) (v:Value),W0[i].cs[j]? = some v→w.cell? (p.add j)=some v:=by
 obtain ⟨b,o,us,h1,_,_,h2,h3⟩:=h.get (List.getElem?_eq_getElem hi)
 have h2:us=W0[i].cs:=h2
 subst h2
 exact ⟨⟨b,o,none⟩,h1,fun j v hv=>by rw [qe];exact h3 j v hv⟩
section
variable {R:Ending→World→Prop} {S S2 S3:Nat→Prop} {w:World} {v:KV} {x:Kol}
theorem joins_spec (s t:List UInt8) (h:∀ (b:Bool) w',Ext w w'→R (.returned (.bool b)) w'):Calls prog qle ⟨[.string ⟨⟨s⟩⟩,.string ⟨⟨t⟩⟩]⟩ w R:=by
 apply qye
 refine qk3 s fun w4 e4=>⟨_,rfl,qh (fun _=>qk3 t fun w7 e7=>⟨_,rfl,qh (fun _=>h _ _ (qa e4 e7)) (fun _=>h _ _ (qa e4 e7))⟩) (fun _=>h _ _ e4)⟩
theorem q9z {b44 B:Nat} {oa:Option Addr} {on oc:Nat} {L:List Wd} {p:Tok × Nat} {u d:Int} (B44:Blk w b44 [.slice oa on oc] 27) (hO:OwnL encWd w B 36 oa on oc L) (hb:b44 < B) (hB:B≤w.heap.size) (hl:on≤1000000) {K:Ending→World→Prop}
  (h:∀ (y:Wd) oa' oc' w',y.core=(p.1.t,(p.2:Int),u,d)→Blk w' b44 [.slice oa' (on + 1) oc'] 27→OwnL encWd w' B 36 oa' (on + 1) oc' (L++[y])→Chg (fun k=>k=b44∨bk oa k) w w'→(∀ k,bk oa' k→bk oa k∨w.heap.size≤k)→K (.returned (.tuple ⟨[]⟩)) w') :
  CallV prog (.func (.func 64) ⟨[]⟩ ⟨[.pointer (some ⟨b44,0,none⟩)]⟩) [.agg ⟨encPc.enc p⟩,.int .i64 u,.int .i64 d] w K:=by
 refine ⟨by kernel_rfl,?_⟩
 apply qlv
 have l44:=B44.lt
 have n44:¬ bk oa b44:=fun hh=>by have:=(Owns.bk hO hh).1;omega
 refine qd fun b11 w12 hb11 B11 e12 s12=>?_
 refine ⟨_,by rw [qe];exact bat B11 rfl,_,bat B11 rfl,_,by rw [qe];exact bat B11 rfl,_,by rw [qe];exact bat B11 rfl,?_⟩
 refine qac rfl (qxm ⟨p.1.t,(p.2:Int),u,d,false,_,p.1.a⟩) fun b17 w19 hb17 B17 e19 s19=>?_
 have e019:=qa e12 e19
 refine dr_ok ⟨_,_,_,qk (B44.ext e019),?_⟩
 intro K22 hK22
 have k22:∀ (j:Bool) (w23:World),Chg (fun k=>k=b17) w19 w23→Blk w23 b17 [.string ⟨⟨p.1.t⟩⟩,.int .i64 (p.2:Int),.int .i64 u,.int .i64 d,.bool j,.bool (decide ((bitA .i64 p.1.g 4:Int)≠0)),.string ⟨⟨p.1.a⟩⟩] 36→K22 w23:=by
  intro j w23 c23 B17'
  have z23:=c23.size
  have z12:=e12.size
  have e023:Ext w w23:=qi e019 c23 fun k hk=>by omega
  have B44':=B44.ext e023
  refine hK22 _ fun _=>dr_ok ⟨_,_,_,qk B44',_,bat B17' rfl,_,bat B17' rfl,_,bat B17' rfl,_,bat B17' rfl,_,bat B17' rfl,_,bat B17' rfl,_,bat B17' rfl,?_⟩
  refine OwnL.push (E:=encWd) slT_wd (Owns.ext hO e023) (by have:=e023.size;omega) ⟨p.1.t,(p.2:Int),u,d,j,decide ((bitA .i64 p.1.g 4:Int)≠0),p.1.a⟩ (by omega) (by omega) fun a' c' w36 ho hc hn=>?_
  have z36:=hc.size
  have z023:=e023.size
  have B44'':=hc.blk B44' n44
  have n44':¬ bk a' b44:=fun hh=>(hn _ hh).elim n44 fun q=>by omega
  refine dr_ok (qam B44'' rfl fun w37 B37 c37 s37=>?_)
  refine h ⟨p.1.t,(p.2:Int),u,d,j,_,p.1.a⟩ a' c' w37 rfl B37 (Owns.chg ho c37 fun k hk e=>n44' (e ▸ hk)) (((Chg.of_ext e023).trans (hc.mono fun k _ hk=>.inr hk)).trans (c37.mono fun k _ hk=>.inl hk)) fun k hk=>(hn k hk).imp id fun q=>by omega
 unfold drw
 have ed:=qn w19
 have B11':=(B11.ext e19).ext ed
 have B17':=B17.ext ed
 have B44':=(B44.ext e019).ext ed
 have hO':=Owns.ext hO (qa e019 ed)
 have cd:Chg (fun k=>k=b17) w19 w19.drew:=.of_ext ed
 generalize w19.drew=W at *
 have set:∀ (j:Bool) (W2:World),Ext W W2→stL W2 ((⟨b17,0,none⟩:Addr).add 4) 0 [.bool j] fun w=>K22 w:=by
  intro j W2 e2
  rw [qe]
  refine qa7 (B17'.ext e2) (by simp) (by intro v hv;simp only [List.mem_singleton] at hv;subst hv;rfl) fun w39 B39 y1 y2 y3 y4 y5=>?_
  exact k22 j w39 ((cd.trans (.of_ext e2)).trans ⟨y3,y4,y5,by omega,fun k _ hk=>y1 k hk⟩) B39
 refine ⟨_,by rw [qe];exact bat B11' rfl,qc (fun _=>qc (fun hpos=>?_) (fun _=>⟨⟨set false W (Below.refl _ _),trivial⟩,trivial⟩)) (fun _=>⟨⟨set false W (Below.refl _ _),trivial⟩,trivial⟩)⟩
 have hon:L.length=on:=OwnL.length hO
 have hrow:=rowV_enc.2 (OwnL.out hO')
 obtain ⟨q,hq,hd⟩:=qqo hrow (i:=on - 1) (by omega)
 rw [qai (by omega),show (on:Int) - 1=((on - 1:Nat):Int) by omega]
 refine dr_ok ⟨_,_,_,qk B44',hq _ ⟨_,hd 0 _ rfl,_,bat B17' rfl,joins_spec _ _ fun b w47 e47=>⟨_,rfl,set b w47 e47,trivial⟩,trivial⟩⟩
end
theorem chgT {S S':Nat→Prop} {A B C:World} (h:Chg S A B) (k:Chg S' B C) (hs:∀ i,i < A.heap.size→S' i→S i):Chg S A C :=
 ⟨k.os.trans h.os,k.tape.trans h.tape,k.output.trans h.output,Nat.le_trans h.size k.size,fun i hi hn=>(k.block i (Nat.lt_of_lt_of_le hi h.size) (fun hh=>hn (hs i hi hh))).trans (h.block i hi hn)⟩
theorem q5h {N X:Nat} {g:Operand} {ps:Array Tmp} {assign body:Code} {env:Env} {ds:List Deferred} {w:World} {Qn Qr Qx:List Deferred→World→Prop} (xA xB:Ann) {S:Nat→Prop} {v:KV} {x:Kol} {b1 b2 b3 b4 f t s b44 B:Nat} {oa:Option Addr} {on oc:Nat} {BL:List Wd} {u d:Int}
  (hg:ev env g=.func (.func qa3) ⟨[]⟩ ⟨[.pointer (some ⟨b1,0,none⟩),.pointer (some ⟨b2,0,none⟩),.pointer (some ⟨b3,0,none⟩),.pointer (some ⟨b4,0,none⟩)]⟩) (hps:ps.size=1) (hpN:∀ p∈ps.toList,p < N)
  (hV:Vk x) (hC:ColV S w v x) (hft:f≤t) (ht:t≤x.col.length) (hs:s < x.sig.length) (B1:Blk w b1 [.int .i64 (f:Int)] 3) (B2:Blk w b2 [.int .i64 (t:Int)] 3) (B3:Blk w b3 (kcs x v) 62) (B4:Blk w b4 [.int .i64 (s:Int)] 3)
  (hne:∀ k,(k=b1∨k=b2∨k=b3∨k=b4)→k≠b44∧¬ bk oa k) (hSd:∀ k,S k→k < w.heap.size→k≠b44∧k < B)
  (B44:Blk w b44 [.slice oa on oc] 27) (hO:OwnL encWd w B 36 oa on oc BL) (hb:b44 < B) (hB:B≤w.heap.size) (hl:on≤900000)
  (hfrag:∀ (p:Tok × Nat) (W:World) (l:Nat) (Kn Kr Kx:World→World→Prop),w.heap.size≤l→l < W.heap.size→Chg (fun k=>k=b44∨bk oa k) w W→(∀ w536 W2,Ext W w536→Upd l w536 W2→CallV prog (.func (.func 64) ⟨[]⟩ ⟨[.pointer (some ⟨b44,0,none⟩)]⟩) [.agg ⟨encPc.enc p⟩,.int .i64 u,.int .i64 d] W2 fun e w'=>e=.returned (.tuple ⟨[]⟩)∧Kn W2 w') →
   fragV prog N xA xB assign body l X Kn Kr Kx (updPs ps.toList [.agg ⟨encPc.enc p⟩] env) W)
  (hn:∀ (D:Nat) (W:World) (oa':Option Addr) (on' oc':Nat) (BL1:List Wd),w.heap.size≤D→D < W.heap.size→W.heap[D]? = some (.deferred (some []))→D≠b44→¬ bk oa' D→Blk W b44 [.slice oa' on' oc'] 27→OwnL encWd W B 36 oa' on' oc' (BL++BL1)→BL1.map (·.core)=(x.spk f t s).map (coreP u d)→Chg (fun k=>k=b44∨bk oa k) w W→(∀ k,bk oa' k→bk oa k∨w.heap.size≤k)→Qn ({ target:=.collected D,args:=#[] } :: ds) W) :
  RFw prog none N (.rangeFunc g ps assign body) env ds w X Qn Qr Qx:=by
 have lb1:=B1.lt
 have lb2:=B2.lt
 have lb3:=B3.lt
 have lb4:=B4.lt
 have l44:=B44.lt
 have hcn:=hV.gr.col
 have hsl:=qyv x f t s
 have hon:=OwnL.length hO
 refine qh4 xA xB (gf:=qa3) hg (by kernel_rfl) (xs:=x.spkT f t s) (E:=SpE) (Rd:=fun k=>(k=b1∨k=b2∨k=b3∨k=b4)∨(S k∧k < w.heap.size))
  (fun v5 e5=>?_) (fun y vs hE=>by rw [show vs=_ from hE,hps];rfl) hpN (fun k hk=>by rcases hk with (hh | hh | hh | hh) | hh <;> omega) (fun k=>k=b44∨bk oa k) (fun k hk=>⟨?_,fun hr=>?_⟩)
  (fun pre S1 W=>∃ (oa1:Option Addr) (on1 oc1:Nat) (BL1:List Wd),Blk W b44 [.slice oa1 on1 oc1] 27∧OwnL encWd W B 36 oa1 on1 oc1 (BL++BL1)∧BL1.map (·.core)=pre.map (fun p=>coreP u d (p.1.t,p.2))∧(∀ k,S1 k↔k=b44∨bk oa1 k)∧(∀ k,bk oa1 k→bk oa k∨w.heap.size≤k)∧Chg (fun k=>k=b44∨bk oa k) w W) (fun _ _=>False) (fun _ _=>False)
  ?_ (fun _ _ _ h=>h.elim) (fun _ _ _ h=>h.elim) ⟨oa,on,oc,[],B44,by rw [List.append_nil];exact hO,rfl,fun k=>Iff.rfl,fun k hk=>.inl hk,Chg.refl _ _⟩ ?_ ?_ (fun _ _ _ _ _ _ _ h=>h.elim) (fun _ _ _ _ _ _ _ h=>h.elim)
 ·have hi:=qxi hV ((hC.imp (S':=fun k=>S k∧k < w.heap.size) fun k hk hl=>⟨hk,hl⟩).ext e5) hft ht hs (B1.ext e5) (B2.ext e5) (B3.ext e5) (B4.ext e5)
  have z5:=e5.size
  have eq:(fun k=>(k=b1∨k=b2∨k=b3∨k=b4)∨((S k∧k < w.heap.size)∧k < v5.heap.size))=(fun k=>(k=b1∨k=b2∨k=b3∨k=b4)∨(S k∧k < w.heap.size)):=by
   funext k
   exact propext ⟨fun q=>q.imp id fun t=>t.1,fun q=>q.imp id fun t=>⟨t,by omega⟩⟩
  rw [eq] at hi;exact hi
 ·rcases hk with hk | hk
  ·omega
  ·exact (Owns.bk hO hk).2
 ·rcases hr with hr | hr
  ·rcases hk with hk | hk
   ·exact (hne k hr).1 hk
   ·exact (hne k hr).2 hk
  ·have:=hSd k hr.1 hr.2
   rcases hk with hk | hk
   ·exact this.1 hk
   ·have:=(Owns.bk hO hk).1;omega
 ·rintro pre S1 W W' ⟨oa1,on1,oc1,BL1,g1,g2,g3,g4,g5,g6⟩ hc
  refine ⟨oa1,on1,oc1,BL1,hc.blk g1 fun hh=>hh.2 ((g4 _).2 (.inl rfl)),Owns.chg g2 hc fun k hk hh=>hh.2 ((g4 k).2 (.inr hk)),g3,g4,g5,chgT g6 hc fun k hk hh=>by omega⟩
 ·rintro pre p vs S1 W l hE hpre hl1 hl2 hl3 hS1 ⟨oa1,on1,oc1,BL1,g1,g2,g3,g4,g5,g6⟩
  obtain rfl:vs=[.agg ⟨encPc.enc p⟩]:=hE
  refine hfrag p W l _ _ _ hl1 hl2 g6 fun w536 W2 e536 hU=>?_
  have zU:=hU.size
  have z536:=e536.size
  have zW:=g6.size
  have hUc:Chg (fun k=>k=l) w536 W2:=⟨hU.os,hU.tape,hU.output,by omega,fun k _ hk=>hU.block k hk⟩
  have n44:b44≠l:=fun q=>hl3 ((g4 l).2 (.inl q.symm))
  have nl:¬ bk oa1 l:=fun q=>hl3 ((g4 l).2 (.inr q))
  have g1':=hUc.blk (g1.ext e536) n44
  have g2':=Owns.chg (Owns.ext g2 e536) hUc fun k hk hh=>nl (hh ▸ hk)
  have hpl:pre.length + 1≤(x.spkT f t s).length:=by have:=hpre.length_le;simpa using this
  have hln:=OwnL.length g2
  have h3l:=congrArg List.length g3
  rw [List.length_map,List.length_map] at h3l
  rw [List.length_append] at hln
  refine q9z g1' g2' hb (by omega) (by omega) fun y oa' oc' w' hy q1 q2 q3 q4=>⟨rfl,?_⟩
  have z':=q3.size
  refine ⟨q3.mono fun k hk hh=>.inl ((g4 k).2 hh),fun k=>k=b44∨bk oa' k,fun k hk=>?_,oa',on1 + 1,oc',BL1++[y],q1,by rw [← List.append_assoc];exact q2,by rw [List.map_append,g3,List.map_append];simp only [List.map_cons,List.map_nil];rw [hy];rfl,fun k=>Iff.rfl,fun k hk=>?_,?_⟩
  ·rcases hk with rfl | hk
   ·exact ⟨.inl ((g4 _).2 (.inl rfl)),q1.lt⟩
   ·refine ⟨?_,(Owns.bk q2 hk).2⟩
    rcases q4 k hk with q | q
    ·exact .inl ((g4 k).2 (.inr q))
    ·exact .inr (by omega)
  ·rcases q4 k hk with q | q
   ·exact g5 k q
   ·exact .inr (by omega)
  ·refine chgT (chgT (chgT g6 (Chg.of_ext (S:=fun _=>False) e536) fun k hk hh=>hh.elim) hUc fun k hk hh=>by omega) q3 fun k hk hh=>?_
   rcases hh with hh | hh
   ·exact .inl hh
   ·exact (g5 k hh).elim (fun q=>.inr q) (fun q=>by omega)
 ·rintro D S1 W hD1 hD2 hD3 hD4 ⟨oa1,on1,oc1,BL1,g1,g2,g3,g4,g5,g6⟩
  refine hn D W oa1 on1 oc1 BL1 hD1 hD2 hD4 (fun q=>hD3 ((g4 D).2 (.inl q))) (fun q=>hD3 ((g4 D).2 (.inr q))) g1 g2 ?_ g6 g5
  rw [g3]
  unfold Kol.spk
  rw [List.map_map];rfl
def q0K (x:Kol) (lead:Nat):Nat→Int × List Pc:=fun j=>(-1,x.spk (x.runs.getD j (0,0)).1 (x.runs.getD j (0,0)).2 lead)
def qK (x:Kol) (lead:Nat) (D:List Dc) (g:Nat→Int):Nat→Int × List Pc:=fun j =>
 if g j < 0 then q0K x lead j else (g j,(kndT x (x.runs.getD j (0,0)) (D.getD (g j).toNat ⟨0,[],0,[]⟩)).map fun y=>(y.1.t,y.2))
theorem q69 (x:Kol) (f t s:Nat):(x.spk f t s).length≤t - f:=by
 unfold Kol.spk
 rw [List.length_map]
 exact qyv x f t s
theorem asm_len {x:Kol} {Q:Nat→Int × List Pc} {s n:Nat} (hn:n≤24) (hQ:∀ j,(Q j).2.length≤1100):∀ (U:List (Nat × Nat)) (nx k:Nat),(∀ p∈U,p.1≤24)→(asmK x Q s n nx k U).length≤24 + U.length * 1124
 | [],nx,k,_=>by
  rw [asmK,List.length_map]
  have:=q69 x nx n s
  simp
  omega
 | p :: r,nx,k,hp=>by
  have ih:=asm_len (x:=x) (s:=s) hn hQ r p.2 (k + 1) fun q hq=>hp q (List.mem_cons_of_mem _ hq)
  rw [asmK,List.length_append,List.length_append,List.length_map,List.length_map]
  have h1:=q69 x nx p.1 s
  have h2:=hQ k
  have h3:=hp p List.mem_cons_self
  rw [List.length_cons]
  omega
def EstR (x:Kol) (lead:Nat) (D:List Dc) (BL:List Wd):Prop :=
 ∃ Q:Nat→Int × List Pc,BL.map (·.core)=asmK x Q lead x.col.length 0 0 x.runs∧(∀ j,(h:j < x.runs.length)→PartOk x.runs[j] (Q j))∧(D=[]→Q=q0K x lead)
theorem q7d {x:Kol} (hV:Vk x) {j:Nat} (h:j < x.runs.length):x.runs[j].1 < x.runs[j].2∧x.runs[j].2≤x.col.length:=q0p (qfl hV (lead:=0) (by have:=hV.n1;omega) x) _ (List.getElem_mem h)
theorem qK_ok {x:Kol} (hV:Vk x) {lead:Nat} (hl:lead < x.sig.length) {D:List Dc} {g:Nat→Int} (hD:∀ d∈D,DcOk x d) {n:Nat} (hn:x.runs.length=n) (hg:∀ j,j < n→g j=-1∨(0≤g j∧g j < D.length)):∀ j,(h:j < x.runs.length)→PartOk x.runs[j] (qK x lead D g j):=by
 intro j hj
 have hr:=q7d hV hj
 have hgj:=hg j (by omega)
 unfold qK
 by_cases q:g j < 0
 ·rw [if_pos q]
  unfold q0K
  rw [gD_at hj]
  exact hV.spk_ok hr.2 hl
 ·rw [if_neg q,gD_at hj]
  have hlt:(g j).toNat < D.length:=by omega
  rw [gD_at hlt]
  exact knd_ok hV hr.1 hr.2 (hD _ (List.getElem_mem hlt)) (by omega)
theorem qK_len {x:Kol} (hV:Vk x) {lead:Nat} {D:List Dc} {g:Nat→Int} (j:Nat):(qK x lead D g j).2.length≤1100:=by
 have h24:=hV.gr.col
 have hb:(x.runs.getD j (0,0)).2≤24:=by
  by_cases hj:j < x.runs.length
  ·rw [gD_at hj]
   have:=(q7d hV hj).2;omega
  ·rw [List.getD_eq_getElem?_getD,List.getElem?_eq_none (by omega)];decide
 unfold qK
 by_cases q:g j < 0
 ·rw [if_pos q]
  unfold q0K
  have:=q69 x (x.runs.getD j (0,0)).1 (x.runs.getD j (0,0)).2 lead
  show (x.spk _ _ _).length≤_
  omega
 ·rw [if_neg q]
  show (List.map _ _).length≤_
  rw [List.length_map]
  have:=q9b x (x.runs.getD j (0,0)) (D.getD (g j).toNat ⟨0,[],0,[]⟩)
  omega
theorem qfs (x:Kol):x.units.length=x.runs.length:=by unfold Kol.units;rw [List.length_map]
section
variable {R:Ending→World→Prop} {S S2 S3:Nat→Prop} {w:World} {v:KV} {x:Kol}
theorem kinds_spec (h:∀ w',Ext w w'→R (.returned (.agg ⟨[.nilFunc,.func (.func 111) #[] #[],.func (.func 113) #[] #[],.func (.func 115) #[] #[]]⟩)) w'):Calls prog qld ⟨[]⟩ w R:=by
 apply qyd
 refine qac rfl (by intro v hv;simp only [List.mem_cons,List.not_mem_nil,or_false] at hv;rcases hv with rfl | rfl | rfl | rfl <;> rfl) fun b1 w3 hb1 B1 e3 s3=>?_
 exact ⟨_,bat B1 rfl,_,bat B1 rfl,_,bat B1 rfl,_,bat B1 rfl,h w3 e3⟩
def kfn (k:Int):FuncId:=if k=1 then 111 else if k=2 then 113 else 115
theorem knd_call (hV:Vk x) (hC:ColV S w v x) (hF:Forms w) {p:Nat × Nat} (hp1:p.1≤p.2) (hp:p.2≤x.col.length) {d:Dc} (hd:DcOk x d) {a:Option Addr} {n c:Nat} {K:Ending→World→Prop} (h:∀ a' n' c' w',OwnL encPc w' w.heap.size 128 a' n' c' (kndT x p d)→Ext w w'→K (.returned (.slice a' n' c')) w') :
  CallV prog (.func (.func (kfn d.k)) #[] #[]) [.agg ⟨kcs x v⟩,.agg ⟨[.int .i64 (p.1:Int),.int .i64 (p.2:Int),.slice a n c]⟩,.agg ⟨d.cs⟩] w K:=by
 have h1:=hd.k1
 have h3:=hd.k3
 unfold kfn kndT at *
 by_cases q1:d.k=1
 ·simp only [if_pos q1] at h ⊢
  exact knd1_call hV hC hp1 hp hd.s h
 ·simp only [if_neg q1] at h ⊢
  by_cases q2:d.k=2
  ·simp only [if_pos q2] at h ⊢
   exact knd2_call hF h
  ·simp only [if_neg q2] at h ⊢
   exact knd3_call fun w' e=>h none 0 0 w' (Owns.nil _ _ _ _) e
theorem kfn_at {d:Dc} (hd:DcOk x d) {K:Fn→Array Value→Array Value→Prop} (h:K (.func (kfn d.k)) #[] #[]):aidxF [.nilFunc,.func (.func 111) #[] #[],.func (.func 113) #[] #[],.func (.func 115) #[] #[]] 4 d.k K:=by
 have h1:=hd.k1
 have h3:=hd.k3
 refine ⟨by omega,by omega,.func (kfn d.k),#[],#[],?_,h⟩
 unfold kfn
 rcases (by omega:d.k=1∨d.k=2∨d.k=3) with q | q | q <;> rw [q] <;> rfl
end
end Go.Proofs
namespace Go.Sh
open Go Go.RowKit
theorem app_cap2 {P:Program} {t ty e:TypeId} {size bytes:Nat} {z:Value} (hT:SlT P t e size bytes z) {B:Nat} {a:Option Addr} {n c:Nat} {xs:List Value} {w:World} {b bz:Nat} {Tv Tz:TypeId}
  (hown:Owns w B e size a n c xs) (hB:B≤w.heap.size) (hb:Blk w b [.slice a n c] Tv) (hnb:¬ Sh.bk a b) (zc vs:List Value) (hbz:Blk w bz zc Tz) (hzc:zc.length=size) (hz1:∀ u∈zc,u.oneCell'=true) (hvs:vs.length=size) (hv1:∀ u∈vs,u.oneCell'=true)
  (hlen:n + 1≤4611686018427387904) (hbytes:(n + 1) * bytes≤140737488355328) {K:World→Prop}
  (hk:∀ a' c' w',Blk w' b [.slice a' (n + 1) c'] Tv→Owns w' B e size a' (n + 1) c' (xs++vs)→Chg (fun k=>k=b∨Sh.bk a k) w w'→(∀ k,Sh.bk a' k→Sh.bk a k∨w.heap.size≤k)→K w') :
  app P [t,t] ty (.slice a n c) (.slice (some ⟨bz,0,none⟩) 1 1) w fun a' n' c' w2=>idx a' n' (n:Int) size fun q =>
   (stL w2 q 0 vs fun w3=>(stL w3 ⟨b,0,none⟩ 0 [.slice a' n' c'] fun w4=>K w4)∧True) ∧
   (stL w2 ⟨b,0,none⟩ 0 [.slice a' n' c'] fun w3=>(stL w3 q 0 vs fun w4=>K w4)∧True)∧True:=by
 refine qod hT hown hB (S:=fun _=>True) zc (by rw [hzc,Nat.one_mul]) (.inr ⟨bz,0,rfl,trivial,hbz.lt,fun j v hj=>by rw [Nat.zero_add,hbz.cell];exact hj⟩) hz1 hlen hbytes fun a' c' w2 ho hc hn=>?_
 have l:=hb.lt
 have hb2:Blk w2 b [.slice a n c] Tv:=hc.blk hb hnb
 have nb':¬ Sh.bk a' b:=fun hh=>(hn b hh).elim hnb (by omega)
 obtain ⟨g,ha,hidx,hst⟩:=ho.storeLast (vs:=vs) hzc hvs hv1
 have sub:∀ k,k < w.heap.size→Sh.bk a' k→Sh.bk a k:=fun k hk hb'=>(hn k hb').elim id (by omega)
 have tot:∀ {S1 S2:Nat→Prop} {w3 w4:World},Chg S1 w2 w3→Chg S2 w3 w4→(∀ k,S1 k→k=b∨Sh.bk a' k)→(∀ k,S2 k→k=b∨Sh.bk a' k)→Chg (fun k=>k=b∨Sh.bk a k) w w4:=by
  intro S1 S2 w3 w4 c3 c4 h3 h4
  have z:=hc.size
  have z3:=c3.size
  refine ⟨c4.os.trans (c3.os.trans hc.os),c4.tape.trans (c3.tape.trans hc.tape),c4.output.trans (c3.output.trans hc.output),Nat.le_trans z (Nat.le_trans z3 c4.size),fun k hk hn'=>?_⟩
  have no:¬ (k=b∨Sh.bk a' k):=fun hh=>hn' (hh.imp id (sub k hk))
  exact (c4.block k (by omega) fun hh=>no (h4 k hh)).trans ((c3.block k (by omega) fun hh=>no (h3 k hh)).trans (hc.block k hk fun hh=>hn' (.inr hh)))
 refine hidx _ ⟨?_,?_,trivial⟩
 ·refine hst _ fun w3 ho3 hc3 z3=>⟨?_,trivial⟩
  refine qa7 (cs:=[.slice a n c]) (T:=Tv) (hc3.blk hb2 nb') (by simp) (by intro u hu;simp only [List.mem_singleton] at hu;subst hu;rfl) fun w4 b1 b2 b3 b4 b5 b6=>?_
  have hc4:Chg (fun k=>k=b) w3 w4:=⟨b4,b5,b6,by omega,fun k' _ hk=>b2 k' hk⟩
  exact hk a' c' w4 b1 (ho3.chg hc4 fun k hk he=>nb' (he ▸ hk)) (tot hc3 hc4 (fun k h=>.inr h) fun k h=>.inl h) hn
 ·refine qa7 (cs:=[.slice a n c]) (T:=Tv) hb2 (by simp) (by intro u hu;simp only [List.mem_singleton] at hu;subst hu;rfl) fun w3 b1 b2 b3 b4 b5 b6=>⟨?_,trivial⟩
  have hc3:Chg (fun k=>k=b) w2 w3:=⟨b4,b5,b6,by omega,fun k' _ hk=>b2 k' hk⟩
  obtain ⟨g',ha',_,hst'⟩:=(ho.chg hc3 fun k hk he=>nb' (he ▸ hk)).storeLast (vs:=vs) hzc hvs hv1
  obtain rfl:g'=g:=by rw [ha] at ha';simpa using ha'.symm
  refine hst' _ fun w4 ho4 hc4 z4=>?_
  exact hk a' c' w4 (hc4.blk b1 nb') ho4 (tot hc3 hc4 (fun k h=>.inl h) fun k h=>.inr h) hn
def OwnG (e:TypeId) (S O:Nat→Prop) (B:Nat) (w:World) (a:Option Addr) (n c:Nat) (f:Fo):Prop :=
 n=f.len∧(∀ k,bk a k→O k)∧(∀ k,O k→B≤k∧k < w.heap.size)∧∃ xs,Owns w B e 4 a n c xs∧FoC (fun k=>(S k∨O k)∧¬ bk a k) w f xs
section
variable {S O:Nat→Prop} {w w':World} {e:TypeId} {B:Nat} {a:Option Addr} {n c:Nat} {f:Fo}
theorem OwnG.nil (w:World):OwnG e S (fun _=>False) B w none 0 0 .nil:=⟨rfl,fun k h=>by simp [bk] at h,fun k h=>h.elim,[],Owns.nil w B e 4,rfl⟩
theorem OwnG.len (h:OwnG e S O B w a n c f):n=f.len:=h.1
theorem OwnG.own (h:OwnG e S O B w a n c f) {k:Nat} (hk:O k):B≤k∧k < w.heap.size:=h.2.2.1 k hk
theorem OwnG.bk (h:OwnG e S O B w a n c f) {k:Nat} (hk:Sh.bk a k):O k:=h.2.1 k hk
theorem OwnG.chg {T:Nat→Prop} (h:OwnG e S O B w a n c f) (hc:Chg T w w') (hT:∀ k,T k→k < w.heap.size→¬ S k∧¬ O k):OwnG e S O B w' a n c f:=by
 obtain ⟨h0,h1,h2,xs,h3,h4⟩:=h
 have z:=hc.size
 refine ⟨h0,h1,fun k hk=>⟨(h2 k hk).1,by have:=(h2 k hk).2;omega⟩,xs,?_,h4.keep (fun k hk hl=>⟨hk,hc.block k hl fun ht=>?_⟩) z⟩
 ·have h3':=Owns.chg (S:=fun k=>T k∧k < w.heap.size) h3 ⟨hc.os,hc.tape,hc.output,hc.size,fun k hk hn=>hc.block k hk fun ht=>hn ⟨ht,hk⟩⟩ fun k hk ht=>(hT k ht.1 ht.2).2 (h1 k hk)
  exact h3'
 ·rcases hk.1 with hh | hh
  ·exact (hT k ht hl).1 hh
  ·exact (hT k ht hl).2 hh
theorem OwnG.ext (h:OwnG e S O B w a n c f) (hc:Ext w w'):OwnG e S O B w' a n c f:=h.chg (T:=fun _=>False) (.of_ext hc) fun k h _=>h.elim
theorem OwnG.out (h:OwnG e S O B w a n c f):SlF (fun k=>S k∨O k) w a n f:=by
 obtain ⟨h0,h1,h2,xs,h3,h4⟩:=h
 refine ⟨h0,xs,?_,h4.keep (fun k hk _=>⟨hk.1,rfl⟩) (Nat.le_refl _)⟩
 by_cases hn:0 < n
 ·obtain ⟨g,rfl,hg,hc⟩:=h3.cell hn
  exact .inr ⟨g,0,rfl,.inr (h1 g (by simp [Sh.bk])),(h3.bk (by simp [Sh.bk])).2,fun j v hj=>by rw [Nat.zero_add];exact hc j v hj⟩
 ·have hx:xs=[]:=List.eq_nil_of_length_eq_zero (by rw [h3.len];omega)
  exact .inl hx
theorem OwnG.push {P:Program} {t ty:TypeId} {bytes:Nat} {z:Value} (hT:SlT P t e 4 bytes z) (h:OwnG e S O B w a n c f) (hB:B≤w.heap.size) {b bz:Nat} {Tv Tz:TypeId} {zc:List Value} (hb:Blk w b [.slice a n c] Tv) (hnb:¬ O b)
  (hbz:Blk w bz zc Tz) (hzc:zc.length=4) (hz1:∀ u∈zc,u.oneCell'=true) {k:Int} {s:List UInt8} {m:Int} {a':Option Addr} {c':Nat} {ps:Fo} {O2:Nat→Prop}
  (hps:SlF (fun k=>S k∨O2 k) w a' ps.len ps) (hO2:∀ k,O2 k→(B≤k∧k < w.heap.size)∧k≠b∧¬ Sh.bk a k) (hSB:∀ k,S k→k < B) (hlen:n + 1≤4611686018427387904) (hbytes:(n + 1) * bytes≤140737488355328) (hBb:B≤b) {K:World→Prop}
  (hk:∀ a'' n'' c'' w' (O':Nat→Prop),Blk w' b [.slice a'' n'' c''] Tv→OwnG e S O' B w' a'' n'' c'' (f.app (.one k s m ps))→Chg (fun j=>j=b∨O j) w w'→(∀ j,O' j→O j∨O2 j∨(w.heap.size≤j∧j < w'.heap.size))→K w') :
  app P [t,t] ty (.slice a n c) (.slice (some ⟨bz,0,none⟩) 1 1) w fun a1 n1 c1 w2=>idx a1 n1 (n:Int) 4 fun q =>
   (stL w2 q 0 [.int .i64 k,.string ⟨⟨s⟩⟩,.int .i64 m,.slice a' ps.len c'] fun w3=>(stL w3 ⟨b,0,none⟩ 0 [.slice a1 n1 c1] fun w4=>K w4)∧True) ∧
   (stL w2 ⟨b,0,none⟩ 0 [.slice a1 n1 c1] fun w3=>(stL w3 q 0 [.int .i64 k,.string ⟨⟨s⟩⟩,.int .i64 m,.slice a' ps.len c'] fun w4=>K w4)∧True)∧True:=by
 obtain ⟨h0,h1,h2,xs,h3,h4⟩:=h
 refine app_cap2 hT h3 hB hb (fun hh=>hnb (h1 b hh)) zc [.int .i64 k,.string ⟨⟨s⟩⟩,.int .i64 m,.slice a' ps.len c'] hbz hzc hz1 rfl (by intro u hu;simp only [List.mem_cons,List.not_mem_nil,or_false] at hu;rcases hu with rfl | rfl | rfl | rfl <;> rfl) hlen hbytes
  fun a'' c'' w' hbl ho hc hn=>hk a'' _ c'' w' (fun j=>O j∨O2 j∨Sh.bk a'' j) hbl ⟨?_,fun j hj=>.inr (.inr hj),fun j hj=>?_,_,ho,?_⟩ (hc.mono fun j _ hj=>hj.imp id (h1 j)) ?_
 ·simp [Fo.one];exact h0
 ·have z:=hc.size
  rcases hj with hj | hj | hj
  ·exact ⟨(h2 j hj).1,by have:=(h2 j hj).2;omega⟩
  ·exact ⟨(hO2 j hj).1.1,by have:=(hO2 j hj).1.2;omega⟩
  ·exact ho.bk hj
 ·obtain ⟨_,us,g3,g4⟩:=hps
  have na:∀ j,j < w.heap.size→¬ Sh.bk a j→¬ Sh.bk a'' j:=fun j hj hb' hh=>(hn j hh).elim hb' (by omega)
  have hs:∀ j,((S j∨O j)∧¬ Sh.bk a j)→j < w.heap.size→((S j∨O j∨O2 j∨Sh.bk a'' j)∧¬ Sh.bk a'' j)∧w'.heap[j]? = w.heap[j]?:=fun j hj hl =>
   ⟨⟨hj.1.imp id fun h=>.inl h,na j hl hj.2⟩,hc.block j hl fun hh=>hh.elim (fun hb'=>hj.1.elim (fun hs=>by have:=hSB j hs;omega) (fun ho=>hnb (hb' ▸ ho))) hj.2⟩
  have hs2:∀ j,(S j∨O2 j)→j < w.heap.size→((S j∨O j∨O2 j∨Sh.bk a'' j)∧¬ Sh.bk a'' j)∧w'.heap[j]? = w.heap[j]?:=fun j hj hl=>by
   have nb:j≠b∧¬ Sh.bk a j:=hj.elim (fun h=>⟨by have:=hSB j h;omega,fun hh=>by have:=(h2 j (h1 j hh)).1;have:=hSB j h;omega⟩) (fun h=>(hO2 j h).2)
   exact ⟨⟨hj.imp id fun h=>.inr (.inl h),na j hl nb.2⟩,hc.block j hl fun hh=>hh.elim nb.1 nb.2⟩
  exact (h4.keep hs hc.size).app ⟨a',c',us,[],rfl,g3.keep hs2 hc.size,g4.keep hs2 hc.size,rfl⟩
 ·intro j hj
  rcases hj with hj | hj | hj
  ·exact .inl hj
  ·exact .inr (.inl hj)
  ·rcases hn j hj with h' | h'
   ·exact .inl (h1 j h')
   ·exact .inr (.inr ⟨h',(ho.bk hj).2⟩)
end
def marks (Dl:List Nat):List Deferred:=Dl.map fun D=>{ target:=.collected D,args:=#[] }
theorem q2l {K:World→Prop}:∀ (Dl:List Nat) (W:World),Dl.Nodup→(∀ D∈Dl,W.heap[D]? = some (.deferred (some [])))→(∀ W',Chg (fun k=>k∈Dl) W W'→K W')→retD (marks Dl) W K
 | [],W,_,_,h=>h W (Chg.refl _ _)
 | D :: Dl,W,hn,hD,h=>by
  rw [List.nodup_cons] at hn
  refine ⟨D,rfl,hD D (by simp),q2l Dl _ hn.2 (fun D' hD'=>?_) fun W' hc=>h W' ?_⟩
  ·rw [World.putObj_heap_other (fun e:D'=D=>hn.1 (by rw [← e];exact hD'))];exact hD D' (by simp [hD'])
  ·exact (Chg.put W D _ (by simp)).trans (hc.mono fun k _ hk=>by simp [hk])
end Go.Sh
namespace Go.Proofs
open Go Go.Sh Go.RowKit Go.Proofs.Tryz IntKind
theorem un_at (x:Kol) {k:Nat} (h:k < (x.units++[((x.col.length,x.col.length),[])]).length):((x.units++[((x.col.length,x.col.length),[])])[k]).1=x.runs.getD k (x.col.length,x.col.length):=by
 have hu:=qfs x
 by_cases hk:k < x.runs.length
 ·rw [List.getElem_append_left (by omega),gD_at hk]
  simp only [Kol.units,List.getElem_map]
 ·rw [List.length_append] at h
  have hk':k=x.runs.length:=by simp at h;omega
  rw [List.getElem_append_right (by omega),List.getD_eq_getElem?_getD,List.getElem?_eq_none (by omega)]
  simp
section
variable {R:Ending→World→Prop} {S S2 S3:Nat→Prop} {w:World} {v:KV} {x:Kol}
set_option maxHeartbeats 4000000 in
theorem qpu (hV:Vk x) (hC:ColV S w v x) (hM:Mk w) (hF:Forms w) {a:Option Addr} {n c:Nat} (hU:RowV vUn S2 w a n x.units) {da:Option Addr} {dn dc:Nat} {D:List Dc} (hD:RowV vDc S3 w da dn D) (hdn:dn≤8) (hdx:∀ d∈D,d.x.length≤80) {lead:Nat} (hl:lead < x.sig.length)
  (h:∀ (e:Int) oa on oc w',Ext w w'→(e=0→∃ BL:List Wd,on≤oc∧on≤1024∧RowV vWd (fun k=>w.heap.size≤k) w' oa on BL∧EstR x lead D BL)→(D=[]→(asmK x (q0K x lead) lead x.col.length 0 0 x.runs).length≤1024→e=0)→R (.returned (.tuple ⟨[.slice oa on oc,.int .i64 e]⟩)) w') :
  Calls prog qgp ⟨[.agg ⟨kcs x v⟩,.slice a n c,.slice da dn dc,.int .i64 (lead:Int)]⟩ w R:=by
 apply qo4
 have hn:=hU.1
 have hul:=qfs x
 have hrl:=qsy hV
 have h24:=hV.gr.col
 have h32:=hV.n32
 have hsn:=hC.sg.1
 have hcn:=hC.cl.1
 have hdl:=hD.1
 have hN:n=x.runs.length:=by omega
 refine qd fun b8 w9 hb8 B8 e9 s9=>?_
 refine ⟨_,bat B8 rfl,_,_,_,bat B8 rfl,_,_,_,bat B8 rfl,_,_,_,bat B8 rfl,?_⟩
 refine dChk_spec hV (hC.ext e9) (hM.ext e9) (hU.ext e9) fun w15 e15=>⟨_,rfl,ql (by decide) ?_⟩
 have B815:=B8.ext e15
 have e015:=qa e9 e15
 intro K17 hK17
 have k17:K17 none 0 0 0 w15:=by
  refine hK17 _ _ _ _ _ fun _=>⟨_,bat B815 rfl,_,_,_,bat B815 rfl,_,_,_,bat B815 rfl,_,_,_,bat B815 rfl,?_⟩
  refine q6d hV (hC.ext e015) (hM.ext e015) (hF.ext e015) (hU.ext e015) (hD.ext e015) hdn hdx (fun e w26 he hne e26=>⟨_,_,_,_,rfl,qnf he (h e none 0 0 w26 (qa e015 e26) (fun q=>absurd q he) fun q=>absurd q hne)⟩) fun A oA onA ocA w26 hAl hAb hok hOA e26=>⟨_,_,_,_,rfl,ql (by decide) ?_⟩
  have e026:=qa e015 e26
  have hrowA:=rowV_enc.2 (OwnL.out hOA)
  have hAn:=hrowA.1
  refine qd fun b29 w30 hb29 B29 e30 s30=>?_
  refine q6n (n:=n) (by omega) B29 fun p33 w32 hp33 e32 B33=>⟨_,_,_,rfl,?_⟩
  have e032:=qa e026 (qa e30 e32)
  have hrowA32:=hrowA.ext (qa e30 e32)
  have bA:∀ k,bk oA k→k < p33:=fun k hk=>by have:=(Owns.bk hOA hk).2;have:=e30.size;omega
  refine ⟨fun i W m=>∃ (k:Nat) (g:Nat→Int),i=k∧k≤onA∧m=onA - k∧Chg (fun k=>k=p33) w32 W∧Blk W p33 (fC n fun j=>.int .i64 (g j)) 3∧(∀ j,j < n→g j=-1∨(0≤g j∧g j < D.length))∧(D=[]→∀ j,g j=-1),⟨_,0,fun _=>-1,rfl,Nat.zero_le _,rfl,Chg.refl _ _,B33,fun j _=>.inl rfl,fun _ _=>rfl⟩,?_⟩
  rintro _ W m ⟨k,g,rfl,hk,rfl,cW,BW,hg,hg0⟩ _
  refine qc (fun hlt=>?_) (fun hge=>?_)
  ·have hkA:k < A.length:=by omega
   obtain ⟨p,hp,dd⟩:=(hrowA32.chg cW fun j hj _ hh=>by have:=bA j hj;omega).int hkA
   have hAk:=hAb _ (List.getElem_mem hkA)
   obtain ⟨j,hj⟩:∃ j:Nat,A[k]=j:=⟨A[k].toNat,by omega⟩
   rw [hj] at dd hAk
   refine hp _ ⟨_,dd,qg6 (by omega) (q8w BW (by omega) rfl fun w42 B42 c42 s42=>?_)⟩
   refine ⟨onA - (k + 1),by omega,k + 1,fun i=>if i=j then (k:Int) else g i,by rw [qg (by omega)],by omega,rfl,cW.trans c42,?_,fun i hi=>?_,fun q=>?_⟩
   ·rw [qfp (g:=fun i=>if i=j then .int .i64 (k:Int) else .int .i64 (g i)) fun i _=>by by_cases q:i=j <;> simp [q]]
    exact B42
   ·by_cases q:i=j
    ·simp only [if_pos q];exact .inr ⟨by omega,by omega⟩
    ·simp only [if_neg q];exact hg i hi
   ·rw [q] at hAl;simp at hAl;rw [hAl] at hkA;simp at hkA
  -- the base text
  have e0W:Ext w W:=qi e032 cW fun j hj=>by have:=e026.size;have:=e30.size;omega
  have B8W:Blk W b8 (kcs x v) 62:=by
   have h1:=B815.ext (qa e26 (qa e30 e32))
   refine cW.blk h1 ?_
   have:=e015.size
   have:=e26.size
   have:=e30.size
   have:=B8.lt
   have:=e15.size
   omega
  have l8:b8 < W.heap.size:=B8W.lt
  have l33:p33 < W.heap.size:=BW.lt
  have z0W:=e0W.size
  refine qd fun b44 w45 hb44 B44 e45 s45=>?_
  refine qac rfl (by intro v hv;simp only [List.mem_singleton] at hv;subst hv;rfl) fun b46 w48 hb46 B46 e48 s48=>?_
  intro K49 hK49
  have e048:=qa e0W (qa e45 e48)
  have k49:∀ (a':Option Addr) (c':Nat) (wz:World),RowV vUn (fun k=>k≠b44) wz a' (n + 1) (x.units++[((x.col.length,x.col.length),[])])→Ext w48 wz→K49 a' (n + 1) c' ((n + 1:Nat):Int) 0 wz:=by
   intro a' c' wz hL ez
   refine hK49 _ _ _ _ _ _ fun _=>?_
   have e0z:=qa e048 ez
   have zz:=e0z.size
   have z48:=e48.size
   have z45:=e45.size
   have zez:=ez.size
   have B8z:=((B8W.ext e45).ext e48).ext ez
   have B33z:=((BW.ext e45).ext e48).ext ez
   have B44z:=(B44.ext e48).ext ez
   have B46z:=B46.ext ez
   have hCz:=(hC.imp (S':=fun k=>S k∧k < w.heap.size) fun k hk hl=>⟨hk,hl⟩).ext e0z
   have hDz:=(hD.imp (S':=fun k=>S3 k∧k < w.heap.size) fun k hk hl=>⟨hk,hl⟩).ext e0z
   have hLn:=hL.1
   have hQok:=qK_ok hV hl hok hN.symm hg
   have hQlen:=fun j=>qK_len (x:=x) hV (lead:=lead) (D:=D) (g:=g) j
   have hal:=asm_len (x:=x) (s:=lead) h24 hQlen x.runs 0 0 fun p hp=>by
    have:=q0p (qfl hV (lead:=0) (by omega) x) p hp
    omega
   have hQ0:D=[]→qK x lead D g=q0K x lead:=fun q=>by
    funext j
    unfold qK
    rw [if_pos (by rw [hg0 q j];decide)]
   have hQn:∀ j,g j < 0→qK x lead D g j=q0K x lead j:=fun j q=>by unfold qK;rw [if_pos q]
   have hQp:∀ j,¬ g j < 0→qK x lead D g j=(g j,(kndT x (x.runs.getD j (0,0)) (D.getD (g j).toNat ⟨0,[],0,[]⟩)).map fun y=>(y.1.t,y.2)):=fun j q=>by unfold qK;rw [if_neg q]
   generalize hQe:qK x lead D g=Q at *
   have hasc0:=qfl hV (lead:=0) (by omega) x
   refine ⟨fun next i ds W m=>∃ (k nx:Nat) (Dl:List Nat) (oa:Option Addr) (on oc:Nat) (BL:List Wd),next=nx∧i=k∧k≤n + 1∧m=n + 1 - k∧ds=marks Dl∧(Dl.Nodup∧∀ E∈Dl,wz.heap.size≤E∧E < W.heap.size∧W.heap[E]? = some (.deferred (some []))∧E≠b44∧¬ bk oa E)∧Blk W b44 [.slice oa on oc] 27∧OwnL encWd W wz.heap.size 36 oa on oc BL∧Chg (fun j=>j=b44) wz W ∧
     (k≤n→nx≤x.col.length∧AscU x.col.length nx (x.runs.drop k)∧BL.map (·.core)++asmK x Q lead x.col.length nx k (x.runs.drop k)=asmK x Q lead x.col.length 0 0 x.runs)∧(n < k→BL.map (·.core)=asmK x Q lead x.col.length 0 0 x.runs),
    ⟨_,0,0,[],none,0,0,[],rfl,rfl,Nat.zero_le _,rfl,rfl,⟨List.nodup_nil,fun E hE=>(by cases hE)⟩,B44z,Owns.nil _ _ _ _,Chg.refl _ _,fun _=>⟨Nat.zero_le _,hasc0,rfl⟩,fun q=>by omega⟩,?_⟩
   rintro _ _ _ V m ⟨k,nx,Dl,oa,on,oc,BL,rfl,rfl,hk,rfl,rfl,hDl,V44,hO,cV,hst,hfin⟩ _
   have zV:=cV.size
   have l44:=V44.lt
   have hon:=OwnL.length hO
   refine qc (fun hlt=>?_) (fun hge=>?_)
   ·have hkn:k≤n:=by omega
    obtain ⟨hnx,hasc,heq⟩:=hst hkn
    have hbl:on≤24 + 24 * 1124:=by
     have:=congrArg List.length heq
     rw [List.length_append,List.length_map] at this
     have h9:x.runs.length * 1124≤24 * 1124:=Nat.mul_le_mul_right _ (by omega)
     omega
    have hkL:k < (x.units++[((x.col.length,x.col.length),[])]).length:=by rw [List.length_append];simp;omega
    obtain ⟨p,a1,c1,hq,d0,d1,d2,hc1,_⟩:=qzq (hL.chg cV fun j hj _ hh=>hj hh) hkL
    rw [un_at x hkL] at d0 d1
    generalize hrl2:((x.units++[((x.col.length,x.col.length),[])])[k]).2.length=n2 at *
    have hpk:nx≤(x.runs.getD k (x.col.length,x.col.length)).1∧(x.runs.getD k (x.col.length,x.col.length)).1≤(x.runs.getD k (x.col.length,x.col.length)).2∧(x.runs.getD k (x.col.length,x.col.length)).2≤x.col.length:=by
     by_cases hkr:k < x.runs.length
     ·rw [gD_at hkr]
      rw [List.drop_eq_getElem_cons hkr] at hasc
      obtain ⟨q1,q2,q3,q4⟩:=hasc
      exact ⟨q1,by omega,q3⟩
     ·rw [List.getD_eq_getElem?_getD,List.getElem?_eq_none (by omega)]
      exact ⟨hnx,Nat.le_refl _,Nat.le_refl _⟩
    have hpr:∀ hkr:k < x.runs.length,x.runs[k]=x.runs.getD k (x.col.length,x.col.length):=fun hkr=>by rw [gD_at hkr]
    have hpe:¬ k < x.runs.length→x.runs.getD k (x.col.length,x.col.length)=(x.col.length,x.col.length):=fun hkr=>by rw [List.getD_eq_getElem?_getD,List.getElem?_eq_none (by omega)];rfl
    generalize x.runs.getD k (x.col.length,x.col.length)=pk at *
    refine hq _ ⟨_,d0,_,d1,_,_,_,d2,?_⟩
    refine qd fun b65 w66 hb65 B65 e66 s66=>qd fun b67 w68 hb67 B67 e68 s68=>?_
    refine qam (B65.ext e68) rfl fun w69 C65 c69 s69=>?_
    refine qa7 (c69.blk B67 (by omega)) (by simp) (by intro v hv;simp only [List.mem_cons,List.not_mem_nil,or_false] at hv;rcases hv with rfl | rfl | rfl <;> rfl) fun w70 C67' y1 y2 y3 y4 y5=>?_
    have C67:Blk w70 b67 [.int .i64 (pk.1:Int),.int .i64 (pk.2:Int),.slice a1 n2 c1] 123:=C67'
    have c70:Chg (fun j=>j=b67) w69 w70:=⟨y3,y4,y5,by omega,fun j _ hj=>y1 j hj⟩
    have C65:=c70.blk C65 (by omega)
    have eV70:Ext V w70:=qi (qi (qa e66 e68) c69 fun j hj=>by omega) c70 fun j hj=>by omega
    have V8:=(cV.blk B8z (by omega)).ext eV70
    have V33:=(cV.blk B33z (by omega)).ext eV70
    have V46:=(cV.blk B46z (by omega)).ext eV70
    have V44':=V44.ext eV70
    have hO':=Owns.ext hO eV70
    have hCV:=(hCz.chg cV fun j hj _ hh=>by omega).ext eV70
    have hDV:=(hDz.chg cV fun j hj _ hh=>by omega).ext eV70
    have z70:=eV70.size
    refine ⟨_,bat V8 rfl,_,_,_,bat V8 rfl,_,_,_,bat V8 rfl,_,_,_,bat V8 rfl,_,bat C67 rfl,?_⟩
    apply qfj
    refine qd fun q1 v1 hq1 Q1 f1 t1=>qd fun q2 v2 hq2 Q2 f2 t2=>qd fun q3 v3 hq3 Q3 f3 t3=>qd fun q4 v4 hq4 Q4 f4 t4=>⟨_,_,_,rfl,fun base=>?_⟩
    have e4:=qa f1 (qa f2 (qa f3 f4))
    have Q1:=Q1.ext (qa f2 (qa f3 f4))
    have Q2:=Q2.ext (qa f3 f4)
    have Q3:=Q3.ext f4
    have z4:=e4.size
    have nbk:∀ j,bk oa j→wz.heap.size≤j∧j < V.heap.size:=fun j hj=>Owns.bk hO hj
    rw [qkv]
    refine q5h qdu qdr (b1:=q2) (b2:=q3) (b3:=q1) (b4:=q4) (f:=nx) (t:=pk.1) (s:=lead) (b44:=b44) (B:=wz.heap.size) (u:=-1) (d:=-1) (S:=fun j=>S j∧j < w.heap.size) rfl rfl (by decide) hV (hCV.ext e4) hpk.1 (by omega) hl Q2 Q3 Q1 Q4
     (fun j hj=>⟨by omega,fun hb=>by have:=nbk j hb;omega⟩) (fun j hj _=>⟨by omega,by omega⟩) (V44'.ext e4) (Owns.ext hO' e4) (by omega) (by omega) (by omega) ?_ ?_
    ·intro p W l Kn Kr Kx hl1 hl2 hcW hK
     refine Eq.mpr (qkr base _ _ _ _ _ _ _ _ _ _ _ _ _ _ _ _ _ _ _ _ _ _ _ _ _ _ _ _ p.1.t p.1.m p.1.p.1 p.1.p.2 p.1.g p.1.a (p.2:Int) _ _ _ _ _) ?_
     refine qac rfl (encPc.one p) fun b24 w26 hb24 B24 e26' s26=>⟨e26',fun W2 hUp=>?_⟩
     have zUp:=hUp.size
     have zcW:=hcW.size
     have hUc:Chg (fun k=>k=l) w26 W2:=⟨hUp.os,hUp.tape,hUp.output,by omega,fun k _ hk=>hUp.block k hk⟩
     have W46:=hUc.blk ((hcW.blk (V46.ext e4) fun hh=>by
      rcases hh with hh | hh
      ·omega
      ·have:=nbk _ hh;omega).ext e26') (by omega)
     have W24:Blk W2 b24 (encPc.enc p) 128:=hUc.blk B24 (by omega)
     exact dr_ok ⟨_,_,_,qk W46,_,bat W24 rfl,_,bat W24 rfl,_,bat W24 rfl,_,bat W24 rfl,_,bat W24 rfl,_,bat W24 rfl,_,bat W24 rfl,hK w26 W2 e26' hUp⟩
    ·intro D1 W oa1 on1 oc1 BL1 hD1 hD2 hD3 hD4 hD5 W44 hO1 hcore1 hcW hoa1
     have zcW:=hcW.size
     have kp:∀ {b:Nat} {cs:List Value} {T:TypeId},Blk v4 b cs T→b≠b44→¬ bk oa b→Blk W b cs T:=fun hb h1 h2=>hcW.blk hb fun hh=>hh.elim h1 h2
     have W8:=kp (V8.ext e4) (by omega) fun hh=>by have:=nbk _ hh;omega
     have W33:=kp (V33.ext e4) (by omega) fun hh=>by have:=nbk _ hh;omega
     have W46:=kp (V46.ext e4) (by omega) fun hh=>by have:=nbk _ hh;omega
     have W65:=kp (C65.ext e4) (by omega) fun hh=>by have:=nbk _ hh;omega
     have W67:=kp (C67.ext e4) (by omega) fun hh=>by have:=nbk _ hh;omega
     have cW1:Chg (fun j=>j=b44) wz W:=chgT (chgT cV (Chg.of_ext (S:=fun _=>False) (qa eV70 e4)) fun _ _ hh=>hh.elim) hcW fun j hj hh=>hh.elim id fun q=>by have:=nbk j q;omega
     have hDl1:(D1 :: Dl).Nodup∧∀ E∈D1 :: Dl,wz.heap.size≤E∧E < W.heap.size∧W.heap[E]? = some (.deferred (some []))∧E≠b44∧¬ bk oa1 E:=by
      refine ⟨List.nodup_cons.2 ⟨fun hm=>by have:=(hDl.2 _ hm).2.1;omega,hDl.1⟩,fun E hE=>?_⟩
      rcases List.mem_cons.1 hE with rfl | hE
      ·exact ⟨by omega,hD2,hD3,hD4,hD5⟩
      ·obtain ⟨r1,r2,r3,r4,r5⟩:=hDl.2 E hE
       refine ⟨r1,by omega,?_,r4,fun q=>(hoa1 E q).elim r5 fun q=>by omega⟩
       rw [hcW.block E (by omega) fun hh=>hh.elim r4 r5,(qa eV70 e4).block E r2];exact r3
     have hbk1:∀ j,bk oa1 j→wz.heap.size≤j∧j < W.heap.size:=fun j hj=>Owns.bk hO1 hj
     have hl1:=OwnL.length hO1
     refine ⟨_,bat W67 rfl,_,qk W65,qc (fun gk=>?_) (fun gk=>?_)⟩
     ·have hkr:¬ k < x.runs.length:=by omega
      refine ⟨n + 1 - (k + 1),by omega,k + 1,pk.2,D1 :: Dl,oa1,on1,oc1,BL++BL1,rfl,by rw [qg (by omega)],by omega,rfl,rfl,hDl1,W44,hO1,cW1,fun q=>by omega,fun _=>?_⟩
      rw [List.drop_eq_nil_of_le (by omega),asmK] at heq
      rw [List.map_append,hcore1,hpe hkr]
      exact heq
     ·have hkr:k < x.runs.length:=by omega
      have hpk':=hpr hkr
      rw [List.drop_eq_getElem_cons hkr,hpk'] at heq hasc
      obtain ⟨r1,r2,r3,r4⟩:=hasc
      rw [asmK] at heq
      have hgk:=hg k (by omega)
      have nxt:∀ (W5:World) (oa5:Option Addr) (on5 oc5:Nat) (BL2:List Wd) (Dl5:List Nat),(Dl5.Nodup∧∀ E∈Dl5,wz.heap.size≤E∧E < W5.heap.size∧W5.heap[E]? = some (.deferred (some []))∧E≠b44∧¬ bk oa5 E)→Blk W5 b44 [.slice oa5 on5 oc5] 27→OwnL encWd W5 wz.heap.size 36 oa5 on5 oc5 ((BL++BL1)++BL2)→Chg (fun j=>j=b44) wz W5→BL2.map (·.core)=(Q k).2.map (coreP k (Q k).1) →
        ∃ m84:Nat,m84 < n + 1 - k∧∃ (k' nx':Nat) (Dl:List Nat) (oa:Option Addr) (on oc:Nat) (BL:List Wd),(pk.2:Int)=nx'∧i64.wrap ((k:Int) + 1)=k'∧k'≤n + 1∧m84=n + 1 - k'∧marks Dl5=marks Dl∧(Dl.Nodup∧∀ E∈Dl,wz.heap.size≤E∧E < W5.heap.size∧W5.heap[E]? = some (.deferred (some []))∧E≠b44∧¬ bk oa E)∧Blk W5 b44 [.slice oa on oc] 27∧OwnL encWd W5 wz.heap.size 36 oa on oc BL∧Chg (fun j=>j=b44) wz W5 ∧
     (k'≤n→nx'≤x.col.length∧AscU x.col.length nx' (x.runs.drop k')∧BL.map (·.core)++asmK x Q lead x.col.length nx' k' (x.runs.drop k')=asmK x Q lead x.col.length 0 0 x.runs)∧(n < k'→BL.map (·.core)=asmK x Q lead x.col.length 0 0 x.runs):=by
       intro W5 oa5 on5 oc5 BL2 Dl5 g1 g2 g3 g4 g5
       refine ⟨n + 1 - (k + 1),by omega,k + 1,pk.2,Dl5,oa5,on5,oc5,(BL++BL1)++BL2,rfl,by rw [qg (by omega)],by omega,rfl,rfl,g1,g2,g3,g4,fun _=>⟨r3,r4.mono (by omega),?_⟩,fun q=>by omega⟩
       rw [List.map_append,List.map_append,g5,hcore1,List.append_assoc,List.append_assoc]
       exact heq
      refine ⟨_,qk W65,qg6 (by omega) ⟨_,qio W33 (by omega),qc (fun gneg=>?_) (fun gpos=>?_)⟩⟩
      ·refine ⟨_,bat W8 rfl,_,_,_,bat W8 rfl,_,_,_,bat W8 rfl,_,_,_,bat W8 rfl,_,bat W67 rfl,_,bat W67 rfl,?_⟩
       apply qfj
       refine qd fun q5 v5 hq5 Q5 f5 t5=>qd fun q6 v6 hq6 Q6 f6 t6=>qd fun q7 v7 hq7 Q7 f7 t7=>qd fun q8 v8 hq8 Q8 f8 t8=>⟨_,_,_,rfl,fun base2=>?_⟩
       have e8':=qa f5 (qa f6 (qa f7 f8))
       have Q5:=Q5.ext (qa f6 (qa f7 f8))
       have Q6:=Q6.ext (qa f7 f8)
       have Q7:=Q7.ext f8
       have z8:=e8'.size
       have hCW:=(hCz.chg cW1 fun j hj _ hh=>by omega).ext e8'
       rw [qku]
       refine q5h qdt qdq (b1:=q6) (b2:=q7) (b3:=q5) (b4:=q8) (f:=pk.1) (t:=pk.2) (s:=lead) (b44:=b44) (B:=wz.heap.size) (u:=(k:Int)) (d:=-1) (S:=fun j=>S j∧j < w.heap.size) rfl rfl (by decide) hV hCW hpk.2.1 hpk.2.2 hl Q6 Q7 Q5 Q8
        (fun j hj=>⟨by omega,fun hb=>by have:=hbk1 j hb;omega⟩) (fun j hj _=>⟨by omega,by omega⟩) (W44.ext e8') (Owns.ext hO1 e8') (by omega) (by omega) (by
         have:=congrArg List.length heq
         rw [List.length_append,List.length_append,List.length_map] at this
         have h2:=congrArg List.length hcore1
         rw [List.length_map] at h2
         rw [List.length_append] at hl1
         have h9:x.runs.length * 1124≤24 * 1124:=Nat.mul_le_mul_right _ (by omega)
         omega) ?_ ?_
       ·intro p W' l Kn Kr Kx hl1 hl2 hcW' hK
        refine Eq.mpr (qkq base2 _ _ _ _ _ _ _ _ _ _ _ _ _ _ _ _ _ _ _ _ _ _ _ _ _ _ _ p.1.t p.1.m p.1.p.1 p.1.p.2 p.1.g p.1.a (p.2:Int) _ _ _ _ _) ?_
        refine qac rfl (encPc.one p) fun b24 w26 hb24 B24 e26' s26=>⟨e26',fun W2 hUp=>?_⟩
        have zUp:=hUp.size
        have zcW':=hcW'.size
        have hUc:Chg (fun k=>k=l) w26 W2:=⟨hUp.os,hUp.tape,hUp.output,by omega,fun k _ hk=>hUp.block k hk⟩
        have W46':=hUc.blk ((hcW'.blk (W46.ext e8') fun hh=>by
         rcases hh with hh | hh
         ·omega
         ·have:=hbk1 _ hh;omega).ext e26') (by omega)
        have l65:=W65.lt
        have nb65:¬ bk oa1 b65:=fun hh=>by
         rcases hoa1 _ hh with q | q
         ·have:=nbk _ q;omega
         ·omega
        have W65':=hUc.blk ((hcW'.blk (W65.ext e8') fun hh=>by
         rcases hh with hh | hh
         ·omega
         ·exact nb65 hh).ext e26') (by omega)
        have W24:Blk W2 b24 (encPc.enc p) 128:=hUc.blk B24 (by omega)
        exact dr_ok ⟨_,_,_,qk W46',_,bat W24 rfl,_,bat W24 rfl,_,bat W24 rfl,_,bat W24 rfl,_,bat W24 rfl,_,bat W24 rfl,_,bat W24 rfl,dr_ok ⟨_,qk W65',hK w26 W2 e26' hUp⟩⟩
       ·intro D2 W' oa2 on2 oc2 BL2 gD1 gD2 gD3 gD4 gD5 W44' hO2 hcore2 hcW' hoa2
        have zcW':=hcW'.size
        refine nxt W' oa2 on2 oc2 BL2 (D2 :: D1 :: Dl) ⟨List.nodup_cons.2 ⟨fun hm=>by have:=(hDl1.2 _ hm).2.1;omega,hDl1.1⟩,fun E hE=>?_⟩ W44' hO2 (chgT (chgT cW1 (Chg.of_ext (S:=fun _=>False) e8') fun _ _ hh=>hh.elim) hcW' fun j hj hh=>hh.elim id fun q=>by have:=hbk1 j q;omega) ?_
        ·rcases List.mem_cons.1 hE with rfl | hE
         ·exact ⟨by omega,gD2,gD3,gD4,gD5⟩
         ·obtain ⟨r1,r2,r3,r4,r5⟩:=hDl1.2 E hE
          refine ⟨r1,by omega,?_,r4,fun q=>(hoa2 E q).elim r5 fun q=>by omega⟩
          rw [hcW'.block E (by omega) fun hh=>hh.elim r4 r5,e8'.block E r2];exact r3
        ·rw [hcore2,hQn k gneg]
         unfold q0K
         rw [gD_at hkr,hpk']
      ·obtain ⟨i,hi⟩:∃ i:Nat,g k=i:=⟨(g k).toNat,by omega⟩
       have hiD:i < D.length:=by omega
       have hdok:=hok _ (List.getElem_mem hiD)
       have hQk:=hQp k gpos
       rw [gD_at hkr,hpk',hi,Int.toNat_natCast,gD_at hiD] at hQk
       refine ⟨_,qk W65,qg6 (by omega) ⟨_,qio W33 (by omega),?_⟩⟩
       rw [hi]
       obtain ⟨pd,hpd,dd⟩:=q7h (hDz.chg cW1 fun j hj _ hh=>by omega) hiD
       refine hpd _ ⟨_,dd 0 _ rfl,_,dd 1 _ rfl,_,dd 2 _ rfl,_,dd 3 _ rfl,?_⟩
       clear dd hpd
       generalize D[i]=d at *
       refine qac rfl (one_dc d) fun b110 w112 hb110 B110 e112 s112=>?_
       intro K113 hK113
       have z112:=e112.size
       have hbl1:on1≤24 + 24 * 1124:=by
        have:=congrArg List.length heq
        rw [List.length_append,List.length_append,List.length_map] at this
        have h2:=congrArg List.length hcore1
        rw [List.length_map] at h2
        rw [List.length_append] at hl1
        have h9:x.runs.length * 1124≤24 * 1124:=Nat.mul_le_mul_right _ (by omega)
        omega
       have k113:∀ (aP:Option Addr) (nP cP:Nat) (W3:World),Ext w112 W3→OwnL encPc W3 w112.heap.size 128 aP nP cP (kndT x pk d)→K113 aP nP cP (nP:Int) 0 W3:=by
        intro aP nP cP W3 e3 hOP
        refine hK113 _ _ _ _ _ _ fun _=>?_
        have eW3:=qa e112 e3
        have z3:=eW3.size
        have z3':=e3.size
        have X33:=W33.ext eW3
        have X46:=W46.ext eW3
        have X65:=W65.ext eW3
        have l65:=W65.lt
        have l33:=W33.lt
        have l46:=W46.lt
        have nb1:∀ b,(b=p33∨b=b46∨b=b65)→¬ (b=b44∨bk oa1 b):=by
         intro b hb hh
         rcases hh with hh | hh
         ·omega
         ·rcases hoa1 _ hh with q | q
          ·have:=nbk _ q;omega
          ·omega
        have hPl:=OwnL.length hOP
        have hkl:=q9b x pk d
        refine ⟨fun t W4 m=>∃ (j:Nat) (oa4:Option Addr) (on4 oc4:Nat) (BL4:List Wd),t=j∧j≤nP∧m=nP - j∧Blk W4 b44 [.slice oa4 on4 oc4] 27∧OwnL encWd W4 wz.heap.size 36 oa4 on4 oc4 ((BL++BL1)++BL4)∧BL4.map (·.core)=((kndT x pk d).take j).map (fun y=>coreP k i (y.1.t,y.2))∧Chg (fun j=>j=b44∨bk oa1 j) W3 W4∧(∀ j,bk oa4 j→bk oa1 j∨W3.heap.size≤j),
         ⟨_,0,oa1,on1,oc1,[],rfl,Nat.zero_le _,rfl,W44.ext eW3,by rw [List.append_nil];exact Owns.ext hO1 eW3,rfl,Chg.refl _ _,fun j hj=>.inl hj⟩,?_⟩
        rintro _ W4 m ⟨j,oa4,on4,oc4,BL4,rfl,hj,rfl,g1,g2,g3,g4,g5⟩ _
        have z4:=g4.size
        refine qc (fun hlt3=>?_) (fun hge3=>?_)
        ·have hjP:j < (kndT x pk d).length:=by omega
         obtain ⟨bp,o,hqp,_,_,hcp⟩:=((OwnL.out hOP).chg g4 fun k hk hh=>by
          have:=Owns.bk hOP hk
          rcases hh with hh | hh
          ·omega
          ·have:=hbk1 _ hh;omega).get (List.getElem?_eq_getElem hjP)
         have htk:(kndT x pk d).take (j + 1)=(kndT x pk d).take j++[(kndT x pk d)[j]]:=List.take_succ_eq_append_getElem hjP
         generalize (kndT x pk d)[j]=y at *
         refine hqp _ ⟨_,by rw [qe];exact hcp 0 _ rfl,_,by rw [qe];exact hcp 1 _ rfl,_,by rw [qe];exact hcp 2 _ rfl,_,by rw [qe];exact hcp 3 _ rfl,_,by rw [qe];exact hcp 4 _ rfl,_,by rw [qe];exact hcp 5 _ rfl,_,by rw [qe];exact hcp 6 _ rfl,?_⟩
         refine qac rfl (encPc.one y) fun b131 w133 hb131 B131 e133 s133=>?_
         unfold drw
         have ed4:=qn w133
         have e134:=qa e133 ed4
         have B131:=B131.ext ed4
         generalize w133.drew=w134 at *
         have Y33:=(g4.blk X33 (nb1 _ (by simp))).ext e134
         have Y46:=(g4.blk X46 (nb1 _ (by simp))).ext e134
         have Y65:=(g4.blk X65 (nb1 _ (by simp))).ext e134
         have z134:=e134.size
         have h3l:=congrArg List.length g3
         rw [List.length_map,List.length_map,List.length_take] at h3l
         have h2l:=OwnL.length g2
         rw [List.length_append] at h2l
         refine ⟨_,_,_,qk Y46,_,bat B131 rfl,_,bat B131 rfl,_,bat B131 rfl,_,bat B131 rfl,_,bat B131 rfl,_,bat B131 rfl,_,bat B131 rfl,_,qk Y65,_,qk Y65,qg6 (by omega) ⟨_,qio Y33 (by omega),?_⟩⟩
         rw [hi]
         refine ⟨q9z (p:=y) (g1.ext e134) (Owns.ext g2 e134) (by omega) (by omega) (by omega) fun y' oa5 oc5 w5 hy r1 r2 r3 r4=>⟨rfl,?_⟩,trivial⟩
         refine ⟨nP - (j + 1),by omega,j + 1,oa5,on4 + 1,oc5,BL4++[y'],by rw [qg (by omega)],by omega,rfl,r1,by rw [← List.append_assoc];exact r2,?_,?_,fun k hk=>?_⟩
         ·rw [List.map_append,g3,htk,List.map_append]
          simp only [List.map_cons,List.map_nil]
          rw [hy];rfl
         ·refine chgT (chgT g4 (Chg.of_ext (S:=fun _=>False) e134) fun _ _ hh=>hh.elim) r3 fun k hk hh=>?_
          rcases hh with hh | hh
          ·exact .inl hh
          ·exact (g5 k hh).elim (fun q=>.inr q) (fun q=>by omega)
         ·rcases r4 k hk with q | q
          ·exact g5 k q
          ·exact .inr (by omega)
        ·have hjn:j=nP:=by omega
         rw [List.take_of_length_le (by omega)] at g3
         refine nxt W4 oa4 on4 oc4 BL4 (D1 :: Dl) ⟨hDl1.1,fun E hE=>?_⟩ g1 g2 (chgT (chgT cW1 (Chg.of_ext (S:=fun _=>False) eW3) fun _ _ hh=>hh.elim) g4 fun j hj hh=>hh.elim id fun q=>by have:=hbk1 j q;omega) ?_
         ·obtain ⟨r1,r2,r3,r4,r5⟩:=hDl1.2 E hE
          refine ⟨r1,by omega,?_,r4,fun q=>(g5 E q).elim r5 fun q=>by omega⟩
          rw [g4.block E (by omega) fun hh=>hh.elim r4 r5,eW3.block E r2];exact r3
         ·rw [g3,hQk,List.map_map];rfl
       unfold drw
       have edr:=qn w112
       have e0r:Ext w112.drew w112.drew:=Below.refl _ _
       have U8:=(W8.ext e112).ext edr
       have U67:=(W67.ext e112).ext edr
       have U110:=B110.ext edr
       have hCr:=((hCz.chg cW1 fun j hj _ hh=>by omega).ext e112).ext edr
       have eFr:Ext w w112.drew:=by
        refine qa (qi (qa e0z (Below.refl _ wz)) cW1 fun j hj=>by omega) (qa e112 edr)
       have hFr:=hF.ext eFr
       generalize w112.drew=wr at *
       have kcall:∀ {V:World} (eV:Ext wr V) {Q:Value→Value→Value→Value→World→Prop},(∀ V',Ext wr V'→Q .nilFunc (.func (.func 111) #[] #[]) (.func (.func 113) #[] #[]) (.func (.func 115) #[] #[]) V')→Calls prog 68 ⟨[]⟩ V fun (e:Ending) (w':World)=>∃ (x y z t:Value),e=.returned (.agg ⟨[x,y,z,t]⟩)∧Q x y z t w':=fun {V} eV {Q} hq=>kinds_spec fun w' e'=>⟨_,_,_,_,rfl,hq w' (qa eV e')⟩
       have aix:∀ {K:Fn→Array Value→Array Value→Prop},K (.func (kfn d.k)) #[] #[]→aidxF [.nilFunc,.func (.func 111) #[] #[],.func (.func 113) #[] #[],.func (.func 115) #[] #[]] 4 d.k K:=fun {K} hK=>kfn_at hdok hK
       have cfin:∀ {V:World} (eV:Ext wr V),CallV prog (.func (.func (kfn d.k)) #[] #[]) [.agg ⟨kcs x v⟩,.agg ⟨[.int .i64 (pk.1:Int),.int .i64 (pk.2:Int),.slice a1 n2 c1]⟩,.agg ⟨d.cs⟩] V fun (e172:Ending) (w172:World)=>∃ (y:Option Addr) (yn yc:Nat),e172=.returned (.slice y yn yc)∧(K113 y yn yc ((yn:Int)) 0 w172):=fun {V} eV=>knd_call hV (hCr.ext eV) (hFr.ext eV) hpk.2.1 hpk.2.2 hdok fun a' n' c' w' ho e'=>⟨_,_,_,rfl,k113 a' n' c' w' (qa edr (qa eV e')) (Owns.weak ho (by have:=edr.size;have:=eV.size;omega))⟩
       have rx0:∀ {V:World} (eV:Ext wr V) {Q:List UInt8→Prop},Q x.sec→∃ (y:List UInt8),World.cell? V ((⟨b8,0,none⟩:Addr).add 0)=some (.string ⟨⟨y⟩⟩)∧Q y:=fun {V} eV {Q} q=>⟨_,bat (U8.ext eV) rfl,q⟩
       have rx1:∀ {V:World} (eV:Ext wr V) {Q:Option Addr→Nat→Nat→Prop},Q v.s.1 v.s.2.1 v.s.2.2→∃ (y:Option Addr) (yn yc:Nat),World.cell? V ((⟨b8,0,none⟩:Addr).add 1)=some (.slice y yn yc)∧Q y yn yc:=fun {V} eV {Q} q=>⟨_,_,_,bat (U8.ext eV) rfl,q⟩
       have rx2:∀ {V:World} (eV:Ext wr V) {Q:Option Addr→Nat→Nat→Prop},Q v.t.1 v.t.2.1 v.t.2.2→∃ (y:Option Addr) (yn yc:Nat),World.cell? V ((⟨b8,0,none⟩:Addr).add 2)=some (.slice y yn yc)∧Q y yn yc:=fun {V} eV {Q} q=>⟨_,_,_,bat (U8.ext eV) rfl,q⟩
       have rx3:∀ {V:World} (eV:Ext wr V) {Q:Option Addr→Nat→Nat→Prop},Q v.c.1 v.c.2.1 v.c.2.2→∃ (y:Option Addr) (yn yc:Nat),World.cell? V ((⟨b8,0,none⟩:Addr).add 3)=some (.slice y yn yc)∧Q y yn yc:=fun {V} eV {Q} q=>⟨_,_,_,bat (U8.ext eV) rfl,q⟩
       have ru0:∀ {V:World} (eV:Ext wr V) {Q:Int→Prop},Q pk.1→∃ (y:Int),World.cell? V ((⟨b67,0,none⟩:Addr).add 0)=some (.int .i64 y)∧Q y:=fun {V} eV {Q} q=>⟨_,bat (U67.ext eV) rfl,q⟩
       have ru1:∀ {V:World} (eV:Ext wr V) {Q:Int→Prop},Q pk.2→∃ (y:Int),World.cell? V ((⟨b67,0,none⟩:Addr).add 1)=some (.int .i64 y)∧Q y:=fun {V} eV {Q} q=>⟨_,bat (U67.ext eV) rfl,q⟩
       have ru2:∀ {V:World} (eV:Ext wr V) {Q:Option Addr→Nat→Nat→Prop},Q a1 n2 c1→∃ (y:Option Addr) (yn yc:Nat),World.cell? V ((⟨b67,0,none⟩:Addr).add 2)=some (.slice y yn yc)∧Q y yn yc:=fun {V} eV {Q} q=>⟨_,_,_,bat (U67.ext eV) rfl,q⟩
       have rd0:∀ {V:World} (eV:Ext wr V) {Q:Int→Prop},Q d.k→∃ (y:Int),World.cell? V ((⟨b110,0,none⟩:Addr).add 0)=some (.int .i64 y)∧Q y:=fun {V} eV {Q} q=>⟨_,bat (U110.ext eV) rfl,q⟩
       have rd1:∀ {V:World} (eV:Ext wr V) {Q:List UInt8→Prop},Q d.s→∃ (y:List UInt8),World.cell? V ((⟨b110,0,none⟩:Addr).add 1)=some (.string ⟨⟨y⟩⟩)∧Q y:=fun {V} eV {Q} q=>⟨_,bat (U110.ext eV) rfl,q⟩
       have rd2:∀ {V:World} (eV:Ext wr V) {Q:Int→Prop},Q d.t→∃ (y:Int),World.cell? V ((⟨b110,0,none⟩:Addr).add 2)=some (.int .i64 y)∧Q y:=fun {V} eV {Q} q=>⟨_,bat (U110.ext eV) rfl,q⟩
       have rd3:∀ {V:World} (eV:Ext wr V) {Q:List UInt8→Prop},Q d.x→∃ (y:List UInt8),World.cell? V ((⟨b110,0,none⟩:Addr).add 3)=some (.string ⟨⟨y⟩⟩)∧Q y:=fun {V} eV {Q} q=>⟨_,bat (U110.ext eV) rfl,q⟩
       clear k113 nxt hK113 hcW hDl1 hst hfin heq
       repeat' first
        | exact trivial
        | with_reducible exact cfin (by assumption)
        | with_reducible refine rx0 (by assumption) ?_
        | with_reducible refine rx1 (by assumption) ?_
        | with_reducible refine rx2 (by assumption) ?_
        | with_reducible refine rx3 (by assumption) ?_
        | with_reducible refine ru0 (by assumption) ?_
        | with_reducible refine ru1 (by assumption) ?_
        | with_reducible refine ru2 (by assumption) ?_
        | with_reducible refine rd0 (by assumption) ?_
        | with_reducible refine rd1 (by assumption) ?_
        | with_reducible refine rd2 (by assumption) ?_
        | with_reducible refine rd3 (by assumption) ?_
        | with_reducible refine aix ?_
        | with_reducible refine kcall (by assumption) fun V' eV'=>?_
        | with_reducible refine And.intro ?_ ?_
   ·have hkn:k=n + 1:=by omega
    have hcore:=hfin (by omega)
    have fin:∀ (o:Option Addr) (q1 q2:Nat) (e:Int),(∀ W',Ext w W'→RowV vWd (fun k=>w.heap.size≤k) W' oa on BL→on≤oc→R (.returned (.tuple ⟨[.slice o q1 q2,.int .i64 e]⟩)) W')→retD (marks Dl) V fun w463=>R (.returned (.tuple ⟨[.slice o q1 q2,.int .i64 e]⟩)) w463:=by
     intro o q1 q2 e hR
     refine q2l Dl V hDl.1 (fun E hE=>(hDl.2 E hE).2.2.1) fun W' hc=>?_
     refine hR W' (qi (qi e0W (S:=fun j=>w.heap.size≤j) ?_ fun k hk=>hk) hc fun E hE=>by have:=(hDl.2 E hE).1;omega) ((rowV_enc.2 (OwnL.out (Owns.chg hO hc fun k hk hm=>(hDl.2 k hm).2.2.2.2 hk))).imp fun k hk _=>by have:=(Owns.bk hO hk).1;omega) ((qs2 (S:=fun _=>True)).2 hO).cap
     exact (Chg.of_ext (qa (qa e45 e48) ez)).trans (cV.mono fun j _ hj=>by omega)
    refine ⟨_,_,_,qk V44,qc (fun g4=>?_) (fun g4=>⟨_,_,_,qk V44,?_⟩)⟩
    ·refine fin _ _ _ _ fun W' eW' _ _=>h 4 none 0 0 W' eW' (fun q=>by cases q) fun q1 q2=>?_
     have:=congrArg List.length hcore
     rw [List.length_map,hQ0 q1] at this
     omega
    ·exact fin _ _ _ _ fun W' eW' hr hcap=>h 0 oa on oc W' eW' (fun _=>⟨BL,hcap,by omega,hr,Q,hcore,hQok,hQ0⟩) fun _ _=>rfl
  unfold drw
  have ed:=qn w48
  have B8d:=((B8W.ext e45).ext e48).ext ed
  generalize w48.drew=wd at *
  have e0d:=qa e048 ed
  have z0d:=e0d.size
  have CL:∀ V,Ext wd V→∀ {Q:Ending→World→Prop},(∀ a' c' V',Ext V V'→Ext wd V'→OwnV vUn (fun k=>(S2 k∧k < w.heap.size)∧k < V.heap.size) 123 V.heap.size V' a' n c' x.units→Q (.returned (.slice a' n c')) V')→Calls prog 66 ⟨[.slice a n c]⟩ V Q:=fun V eV {Q} hq =>
   q8o ((hU.imp (S':=fun k=>S2 k∧k < w.heap.size) fun k hk hl=>⟨hk,hl⟩).ext (qa e0d eV)) (by omega) fun a' c' V' ho e'=>hq a' c' V' e' (qa eV e') ho
  have PU:∀ (V0 V2:World) (a':Option Addr) (c' p:Nat),Ext wd V0→Ext wd V2→V0.heap.size≤V2.heap.size→OwnV vUn (fun k=>(S2 k∧k < w.heap.size)∧k < V0.heap.size) 123 V0.heap.size V2 a' n c' x.units→wd.heap.size≤p→(∀ k,bk a' k→k≠p)→Blk V2 p [.int .i64 (x.col.length:Int),.int .i64 (x.col.length:Int),.slice none 0 0] 123 →
    app prog [70,70] 70 (.slice a' n c') (.slice (some ⟨p,0,none⟩) 1 1) V2 fun a474 a474n a474c w475=>K49 a474 a474n a474c ((a474n:Int)) 0 w475:=by
   intro V0 V2 a' c' p eV0 eV2 z02 hO hpb hbp Bp
   have z2:=eV2.size
   have zV0:=eV0.size
   have hsd:=ed.size
   refine OwnV.pushAll (V:=vUn) (S:=fun k=>(S2 k∧k < w.heap.size)∧k < V0.heap.size) (S1:=fun k=>k=p) (l':=[((x.col.length,x.col.length),[])]) slT_un hO z02 ⟨rfl,_,.inr ⟨p,0,rfl,rfl,Bp.lt,fun j v hj=>by rw [Nat.zero_add,Bp.cell];exact hj⟩,AllV.single ⟨[.int .i64 (x.col.length:Int),.int .i64 (x.col.length:Int)],[.slice none 0 0],rfl,rfl,none,0,rfl,Nat.le_refl _,RowV.nil _⟩⟩ (fun us hus=>?_) (show n + 1≤_ by omega) (show (n + 1) * 40≤_ by omega) fun a2 c2 w2 ho hc hnn=>?_
   ·obtain ⟨u1,u2,e1,hu,e2⟩:=hus
    obtain ⟨u3,u4,e3,g0,a3,c3,e4,g1,g2⟩:=hu
    exact ⟨u1,u2,e1,⟨u3,u4,e3,g0,a3,c3,e4,g1,⟨rfl,[],.inl rfl,rfl⟩⟩,e2⟩
   ·refine k49 a2 c2 w2 (ho.out.imp fun k hk _=>?_) (qko (qa ed eV2) hc fun k hk=>by have:=(hO.bk hk).1;omega)
    rcases hk with hk | hk
    ·omega
    ·rcases hnn k hk with q | q
     ·have:=(hO.bk q).1;omega
     ·omega
  have AL:∀ (V0 V2:World) (a':Option Addr) (c':Nat),Ext wd V0→Ext wd V2→V0.heap.size≤V2.heap.size→OwnV vUn (fun k=>(S2 k∧k < w.heap.size)∧k < V0.heap.size) 123 V0.heap.size V2 a' n c' x.units →
    al V2 123 [.int .i64 (x.col.length:Int),.int .i64 (x.col.length:Int),.slice none 0 0] fun p472 w473=>(app prog [70,70] 70 (.slice a' n c') (.slice (some p472) 1 1) w473 fun a474 a474n a474c w475=>K49 a474 a474n a474c ((a474n:Int)) 0 w475)∧True:=by
   intro V0 V2 a' c' eV0 eV2 z02 hO
   have z2:=eV2.size
   refine qd fun p w1 hp Bp e1 s1=>⟨PU V0 w1 a' c' p eV0 (qa eV2 e1) (by omega) (hO.ext e1) (by omega) (fun k hk=>by have:=(hO.bk hk).2;omega) Bp,trivial⟩
  have rx3:∀ {V:World} (eV:Ext wd V) {Q:Option Addr→Nat→Nat→Prop},Q v.c.1 x.col.length v.c.2.2→∃ (y:Option Addr) (yn yc:Nat),World.cell? V ((⟨b8,0,none⟩:Addr).add 3)=some (.slice y yn yc)∧Q y yn yc:=fun {V} eV {Q} q=>⟨_,_,_,bat (B8d.ext eV) rfl,by rw [hcn];exact q⟩
  have e0:Ext wd wd:=Below.refl _ _
  refine ⟨CL wd e0 fun a' c' V' eq eV ho=>⟨_,_,_,rfl,rx3 eV (rx3 eV ⟨AL wd V' a' c' e0 eV eV.size ho,trivial⟩)⟩,rx3 e0 ⟨CL wd e0 fun a' c' V' eq eV ho=>⟨_,_,_,rfl,rx3 eV ⟨AL wd V' a' c' e0 eV eV.size ho,trivial⟩⟩,rx3 e0 ⟨CL wd e0 fun a' c' V' eq eV ho=>⟨_,_,_,rfl,AL wd V' a' c' e0 eV eV.size ho,trivial⟩,⟨qd fun p w1 hp Bp e1 s1=>⟨CL w1 e1 fun a' c' V' eq eV ho=>⟨_,_,_,rfl,PU w1 V' a' c' p e1 eV eq.size ho (by omega) (fun k hk=>by have:=(ho.bk hk).1;omega) (Bp.ext eq),trivial⟩,trivial⟩,trivial⟩⟩,trivial⟩,rx3 e0 ⟨CL wd e0 fun a' c' V' eq eV ho=>⟨_,_,_,rfl,rx3 eV ⟨AL wd V' a' c' e0 eV eV.size ho,trivial⟩⟩,trivial⟩,trivial⟩
 refine ql (by omega) ⟨_,_,_,bat B815 rfl,ql (by omega) k17⟩
end
section
variable {R:Ending→World→Prop} {S S2 S3:Nat→Prop} {w:World} {v:KV} {x:Kol}
structure WdOk (x:Kol) (y:Wd) (c:Nat):Prop where
 tk:okT y.t
 col:y.c=c
 lt:c < x.col.length
 un:qbq 0 x.runs c=y.u
 dc:-1≤y.d
 nd:y.u < 0→y.d=-1
theorem pWord_spec (hcn:v.c.2.1=x.col.length) {a:Option Addr} {n cc:Nat} (hU:RowV vUn S2 w a n x.units) (hn:n≤1000) {y b:Wd} {c:Nat} {first:Bool} (hy:WdOk x y c) (hb:first=false→b.c≤y.c∧(0≤y.u→y.u=b.u→y.d=b.d)) (h:∀ w',Ext w w'→R (.returned (.int .i64 0)) w') :
  Calls prog qj0 ⟨[.agg ⟨kcs x v⟩,.slice a n cc,.agg ⟨y.cs⟩,.agg ⟨b.cs⟩,.bool first]⟩ w R:=by
 apply qwn
 have hyt:=hy.tk
 have hyc:=hy.col
 have hyn:=hy.lt
 have hun:=hU.1
 have hul:=qfs x
 have hyu:y.u=-1∨(0≤y.u∧y.u < n):=by
  rw [← hy.un]
  rcases qtc x.runs 0 c with q | q
  ·exact .inl q
  ·exact .inr (by omega)
 refine qd fun b21 w22 hb21 B21 e22 s22=>qd fun b23 w24 hb23 B23 e24 s24=>qd fun b25 w26 hb25 B25 e26 s26=>?_
 have B21:=B21.ext (qa e24 e26)
 have B23:=B23.ext e26
 have e026:=qa e22 (qa e24 e26)
 intro K27 hK27
 have k27:K27 w26:=by
  refine hK27 _ fun _=>⟨_,bat B23 rfl,?_⟩
  rw [hyc]
  refine q02 (hU.ext e026) (by omega) c fun w31 e31=>⟨_,_,rfl,?_⟩
  have B23:=B23.ext e31
  have B25:=B25.ext e31
  have h:=h w31 (qa e026 e31)
  rw [q2x,hy.un]
  refine ⟨_,bat B23 rfl,ql (by simp) ⟨_,bat B23 rfl,ql (by have:=hy.dc;omega) ⟨_,bat B23 rfl,qc (fun g=>?_) (fun g=>?_)⟩⟩⟩
  ·refine ⟨_,bat B23 rfl,ql (by have:=hy.nd g;omega) (qh (fun _=>⟨_,bat B23 rfl,ql (by omega) h⟩) (fun _=>h))⟩
  ·refine qh (fun gf=>⟨_,bat B23 rfl,qnf (by omega) ⟨_,bat B23 rfl,_,bat B25 rfl,qc (fun ge=>⟨_,bat B23 rfl,_,bat B25 rfl,ql ?_ h⟩) (fun _=>h)⟩⟩) (fun _=>h)
   have:=(hb (by simpa using gf)).2 (by omega) ge
   omega
 intro K48 hK48
 have k48:K48 false w26:=by
  refine hK48 _ _ fun _=>?_
  rw [br_f]
  intro K51 hK51
  have k51:K51 false w26:=by
   refine hK51 _ _ fun _=>?_
   rw [br_f]
   exact ⟨_,bat B23 rfl,ql (by omega) ⟨_,bat B23 rfl,ql (by omega) k27⟩⟩
  refine ⟨_,bat B23 rfl,ql (by omega) ⟨_,bat B23 rfl,_,_,_,bat B21 rfl,ql (by omega) (qh (fun gf=>⟨_,bat B23 rfl,_,bat B25 rfl,?_⟩) (fun _=>k51))⟩⟩
  rw [decide_eq_false (by have:=(hb (by simpa using gf)).1;omega)]
  exact k51
 refine ⟨_,bat B23 rfl,ql hyt.1 ⟨_,bat B23 rfl,?_⟩⟩
 rw [decide_eq_false (by have:=hyt.2;omega)]
 exact k48
def PredW (f:Fn) (fa fb:Array Value) (q:Wd→Bool) (L:List Wd) (J:World→Prop):Prop :=
 ∀ y∈L,∀ (W:World) (K:Ending→World→Prop),J W→(∀ W',Ext W W'→K (.returned (.bool (q y))) W')→CallV prog (.func f fa fb) [.agg ⟨y.cs⟩] W K
theorem q18 {f:Fn} {fa fb:Array Value} {q:Wd→Bool} {J:World→Prop} {a:Option Addr} {n c:Nat} {W0:List Wd} (h1:RowV vWd S w a n W0) (hs:n≤4611686018427387904) (hp:PredW f fa fb q W0 J) (hJ0:J w) (hJe:∀ W W',J W→Ext W W'→J W')
  (h:∀ w',Ext w w'→R (.returned (.bool (W0.any q))) w'):Calls prog qaj ⟨[.slice a n c,.func f fa fb]⟩ w R:=by
 apply qcc
 apply qcu
 have hn:=h1.1
 refine ⟨fun i W m=>∃ k:Nat,i=k∧k≤n∧m=n - k∧(∀ x∈W0.take k,q x=false)∧Ext w W,⟨_,0,rfl,by omega,rfl,by simp,Below.refl _ _⟩,?_⟩
 rintro _ W m ⟨k,rfl,hk,rfl,hno,he⟩ _
 refine qc (fun hlt=>?_) (fun hge=>?_)
 ·have hkL:k < W0.length:=by omega
  obtain ⟨p,hp1,hd⟩:=qqo (h1.ext he) hkL
  refine hp1 _ ⟨_,hd 0 _ rfl,_,hd 1 _ rfl,_,hd 2 _ rfl,_,hd 3 _ rfl,_,hd 4 _ rfl,_,hd 5 _ rfl,_,hd 6 _ rfl,hp _ (List.getElem_mem hkL) W _ (hJe _ _ hJ0 he) fun W' e'=>⟨_,rfl,qh (fun g=>⟨_,rfl,?_⟩) (fun g=>?_)⟩⟩
  ·have:=h W' (qa he e')
   rw [← qs9,q2t hkL g hno] at this;exact this
  ·exact ⟨n - (k + 1),by omega,k + 1,by rw [qg (by omega)],by omega,rfl,qv2 hkL g hno,qa he e'⟩
 ·rw [List.take_of_length_le (by omega)] at hno
  have:=h W he
  rw [← qs9,q2r hno] at this
  exact ⟨_,rfl,this⟩
def cntW (L:List Wd) (j:Nat):Nat:=(L.filter fun y=>decide (y.c=(j:Int))).length
theorem cntW_core (L:List Wd) (j:Nat):cntW L j=((L.map (·.core)).filter (colB j)).length:=by
 unfold cntW
 rw [List.filter_map,List.length_map]
 rfl
theorem cntW_le (L:List Wd) (j:Nat):cntW L j≤L.length:=List.length_filter_le ..
theorem cntW_snoc (L:List Wd) (y:Wd) (j:Nat):cntW (L++[y]) j=cntW L j + if y.c=(j:Int) then 1 else 0:=by
 unfold cntW
 rw [List.filter_append,List.length_append]
 by_cases q:y.c=(j:Int)
 ·rw [if_pos q,List.filter_cons,if_pos (decide_eq_true q)];rfl
 ·rw [if_neg q,List.filter_cons,if_neg (by simpa using q)];rfl
structure BsOk (x:Kol) (lead:Nat) (BL:List Wd):Prop where
 lt:lead < x.sig.length
 len:BL.length≤1024
 ex:∃ Q:Nat→Int × List Pc,BL.map (·.core)=asmK x Q lead x.col.length 0 0 x.runs∧∀ j,(h:j < x.runs.length)→PartOk x.runs[j] (Q j)
theorem BsOk.base (V:Vk x) {lead:Nat} {BL:List Wd} (h:BsOk x lead BL):BaseOk x.col.length (qbq 0 x.runs) (BL.map (·.core)):=by
 obtain ⟨Q,h1,h2⟩:=h.ex
 rw [h1]
 exact (asm_ok V h.lt (qfl V h.lt x) fun j hj=>by rw [Nat.zero_add];exact h2 j hj).1
theorem BsOk.wd (V:Vk x) {lead:Nat} {BL:List Wd} (h:BsOk x lead BL) {k:Nat} (hk:k < BL.length):∃ c,WdOk x BL[k] c:=by
 obtain ⟨h1,c,h2,h3,h4,h5,h6⟩:=(h.base V).each BL[k].core (List.mem_map_of_mem (List.getElem_mem hk))
 exact ⟨c,h1,h2,h3,h4,h5,h6⟩
theorem BsOk.nxt (V:Vk x) {lead:Nat} {BL:List Wd} (h:BsOk x lead BL) {k:Nat} (hk:k + 1 < BL.length):BL[k].c≤BL[k + 1].c∧(0≤BL[k + 1].u→BL[k + 1].u=BL[k].u→BL[k + 1].d=BL[k].d):=by
 have hp:=(h.base V).pair
 rw [List.pairwise_map] at hp
 exact List.pairwise_iff_getElem.1 hp k (k + 1) (by omega) hk (by omega)
theorem BsOk.col (V:Vk x) {lead:Nat} {BL:List Wd} (h:BsOk x lead BL) {c:Nat} (hc:c < x.col.length) (hf:qbq 0 x.runs c < 0):∃ t,x.cell c 0=some t∧cntW BL c=1∧∃ y∈BL,y.c=c∧y.t=t:=by
 obtain ⟨Q,h1,h2⟩:=h.ex
 have hno:¬ inU x.runs c:=qz8 (k:=0) (by rcases qtc x.runs 0 c with q | q <;> omega)
 have hcom:=q4f hc hno
 obtain ⟨g1,g2⟩:=qfq hcom h.lt
 obtain ⟨t,ht⟩:=Option.isSome_iff_exists.1 g2
 have hf:=asm_col (x:=x) (Q:=Q) (s:=lead) (n:=x.col.length) (c:=c) (w:=t) (by rw [g1,ht]) hc (U:=x.runs) (nx:=0) (k:=0) (qfl V h.lt x) (fun j hj=>by rw [Nat.zero_add];exact h2 j hj) hno
 rw [if_pos (Nat.zero_le _),← h1] at hf
 refine ⟨t,ht,by rw [cntW_core,hf];rfl,?_⟩
 have hm:(t,(c:Int),(-1:Int),(-1:Int))∈(BL.map (·.core)).filter (colB c):=by rw [hf];simp
 obtain ⟨y,hy,he⟩:=List.mem_map.1 (List.mem_filter.1 hm).1
 exact ⟨y,hy,congrArg (fun z:Core=>z.2.1) he,congrArg (fun z:Core=>z.1) he⟩
end
end Go.Proofs
