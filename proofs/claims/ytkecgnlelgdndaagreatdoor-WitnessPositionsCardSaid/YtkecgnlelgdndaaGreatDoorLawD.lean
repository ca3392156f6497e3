/- The contracts of the functions that the law reaches, one after the other, and at the end the law's card. -/
import Derived.Test.YtkecgnlelgdndaaGreatDoorLawC
import Derived.Lib.Repeat
import Derived.Lib.AppendZerosOnto
import Derived.Maps.Own
import Derived.DeepKeys4
set_option linter.all false
set_option maxRecDepth 20000
namespace Go.Proofs
open Go Go.Sh Go.RowKit Go.Proofs.Tryz IntKind
theorem four_one (k:Int) (t:List UInt8) (m:Int) (a:Option Addr) (n c:Nat):∀ u∈[Value.int .i64 k,.string ⟨⟨t⟩⟩,.int .i64 m,.slice a n c],u.oneCell'=true:=by
 intro u hu;simp only [List.mem_cons,List.not_mem_nil,or_false] at hu;rcases hu with rfl | rfl | rfl | rfl <;> rfl
theorem SameT_spec {S S':Nat→Prop}:∀ (f:Fo) {R:Ending→World→Prop} {w:World} {a b:Option Addr} {n c n' c':Nat} {g:Fo} (hf:SlF S w a n f) (hg:SlF S' w b n' g) (hs:small f)
  (h:∀ w',Ext w w'→R (.returned (.bool (decide (f=g)))) w'),Calls prog qil ⟨[.slice a n c,.slice b n' c']⟩ w R:=by
 intro f
 induction hz:f.size using Nat.strongRecOn generalizing f with
 | _ z ih =>
 intro R w a b n c n' c' g hf hg hs h
 apply quj
 apply qar
 have hn:=hf.1
 have hn':=hg.1
 refine qd (fun h1=>⟨_,rfl,?_⟩) (fun h1=>?_)
 ·rw [show decide (f=g)=false by rw [decide_eq_false_iff_not];rintro rfl;omega] at h
  exact h w (Below.refl _ _)
 refine ⟨fun i W m=>∃ (p1 r1 p2 r2:Fo),f=p1.app r1∧g=p2.app r2∧p1.len=p2.len∧i=p1.len∧m=r1.len∧Ext w W∧(f=g↔r1=r2),⟨_,.nil,f,.nil,g,rfl,rfl,rfl,rfl,rfl,Below.refl _ _,Iff.rfl⟩,?_⟩
 rintro _ W m ⟨p1,r1,p2,r2,e1,e2,e3,rfl,rfl,he,hiff⟩ _
 refine qd (fun hlt=>?_) (fun hge=>?_)
 ·obtain ⟨k1,t1,m1,s1,r1,rfl⟩:=Fo.next e1 (by omega)
  obtain ⟨k2,t2,m2,s2,r2,rfl⟩:=Fo.next e2 (by omega)
  obtain ⟨q1,a1,c1,i1,_,l1,n1⟩:=(hf.ext he).get e1
  have hsub:=Fo.sub_size e1
  have hsl:=Fo.sub_len e1
  have hle:=f.len_le_size
  simp only [Fo.cons.injEq] at hiff
  refine i1 _ ⟨_,n1.kind,_,n1.text,_,n1.num,_,_,_,n1.parts,qx (by simp) (four_one _ _ _ _ _ _) fun b1 w1 hb1 B1 x1 s1'=>?_⟩
  have he1:=qb he x1
  obtain ⟨q2,a2,c2,i2,_,l2,n2⟩:=(hg.ext he1).get e2
  rw [← e3] at i2
  refine i2 _ ⟨_,n2.kind,_,n2.text,_,n2.num,_,_,_,n2.parts,qx (by simp) (four_one _ _ _ _ _ _) fun b2 w2 hb2 B2 x2 s2'=>?_⟩
  have he2:=qb he1 x2
  obtain ⟨u0,u1,u2,u3⟩:=blk4 (B1.ext x2)
  obtain ⟨v0,v1,v2,v3⟩:=blk4 B2
  have y1:=(n1.sl.ext x1).ext x2
  have y2:=n2.sl.ext x2
  refine ⟨_,u0,_,u1,_,u2,_,_,_,u3,_,v0,_,v1,_,v2,_,_,_,v3,by kernel_rfl,?_⟩
  -- the closure
  have clo:∀ {R':Ending→World→Prop},(∀ w',Ext w2 w'→R' (.returned (.bool (decide (k1=k2∧t1=t2∧m1=m2∧s1=s2)))) w') →
    Calls prog qgh ⟨[.agg ⟨[.int .i64 k1,.string ⟨⟨t1⟩⟩,.int .i64 m1,.slice a1 s1.len c1]⟩,.agg ⟨[.int .i64 k2,.string ⟨⟨t2⟩⟩,.int .i64 m2,.slice a2 s2.len c2]⟩]⟩ w2 R':=by
   intro R' hR
   apply qpe
   refine qh fun b3 w3 hb3 B3 x3 s3'=>qh fun b4 w4 hb4 B4 x4 s4'=>?_
   obtain ⟨u0,u1,u2,u3⟩:=blk4 (B3.ext x4)
   obtain ⟨v0,v1,v2,v3⟩:=blk4 B4
   have X:=qb x3 x4
   refine ⟨_,u0,_,v0,qd (fun d1=>⟨_,u1,_,v1,qd (fun d2=>⟨_,u2,_,v2,qd (fun d3=>⟨_,_,_,u3,_,_,_,v3,?_⟩) (fun d3=>?_)⟩) (fun d2=>?_)⟩) (fun d1=>?_)⟩
   ·refine ih _ (hz ▸ hsub) s1 rfl (y1.ext X) (y2.ext X) (by unfold small at hs ⊢;omega) fun w' he'=>⟨_,rfl,?_⟩
    have:=hR w' (qb X he')
    rw [show decide (k1=k2∧t1=t2∧m1=m2∧s1=s2)=decide (s1=s2) by simp [d1,d2,d3]] at this
    exact this
   ·have:=hR _ X
    rw [decide_eq_false (fun hh=>d3 hh.2.2.1)] at this;exact this
   ·have:=hR _ X
    rw [decide_eq_false (fun hh=>d2 hh.2.1)] at this;exact this
   ·have:=hR _ X
    rw [decide_eq_false (fun hh=>d1 hh.1)] at this;exact this
  refine clo fun w' he'=>⟨_,rfl,qm (fun d=>?_) (fun d=>?_)⟩
  ·refine ⟨_,rfl,?_⟩
   have hd:¬ (k1=k2∧t1=t2∧m1=m2∧s1=s2):=fun hh=>by rw [decide_eq_true hh] at d;cases d
   rw [show decide (f=g)=false by rw [decide_eq_false_iff_not];intro hh;obtain ⟨z1,z2,z3,z4,_⟩:=hiff.1 hh;exact hd ⟨z1,z2,z3,z4⟩] at h
   exact h _ (qb he2 he')
  ·have hd:k1=k2∧t1=t2∧m1=m2∧s1=s2:=by simpa using d
   refine ⟨r1.len,by simp,p1.app (.one k1 t1 m1 s1),r1,p2.app (.one k2 t2 m2 s2),r2,by rw [Fo.app_one_app];exact e1,by rw [Fo.app_one_app];exact e2,by simp [Fo.one];exact e3,?_,rfl,qb he2 he',?_⟩
   ·rw [ql (by unfold small at hs;omega)];simp [Fo.one]
   ·rw [hiff];simp [hd.1,hd.2.1,hd.2.2.1,hd.2.2.2]
 ·obtain ⟨rfl,rfl⟩:=Fo.last e1 (by omega)
  have:=Fo.last e2 (by omega)
  rw [show decide (p1=g)=true by rw [decide_eq_true_iff];exact hiff.2 this.1.symm] at h
  exact ⟨_,rfl,h _ he⟩
def stF (f:Fo) (h:Int):Fo:=qct (qv f h false)
theorem stF_small {f:Fo} (hs:f.size≤1000000000) (h:Int):small (stF f h):=by
 have a1:=qo0 (qv f h false)
 have a2:=qdm f h false
 unfold small stF;omega
theorem q63 (f:Fo) {R:Ending→World→Prop} {S:Nat→Prop} {w:World} {a:Option Addr} {n c:Nat} (hand:Int) (hh:-1000≤hand∧hand≤1000) (hs:f.size≤1000000000) (hg:good f) (ht:tlen f≤4611686018427387904) (hf:SlF S w a n f)
  (h:∀ w',Ext w w'→R (.returned (.bool (decide (stF f (hand - 1)≠stF f hand)))) w'):Calls prog ql7 ⟨[.slice a n c,.int .i64 hand]⟩ w R:=by
 apply qz6
 have t1:=qc8 f (hand - 1) false
 have t2:=qc8 f hand false
 have q1:=qe2 (hand - 1) f hg
 have q2:=qe2 hand f hg
 unfold qjk
 rw [qr (by omega)]
 refine qq4 f (hand - 1) hs hg (by rw [q1];omega) hf fun a2 n2 c2 w2 h2 e2=>⟨_,_,_,rfl,?_⟩
 refine qq4 f hand hs hg (by rw [q2];omega) (hf.ext e2) fun a3 n3 c3 w3 h3 e3=>⟨_,_,_,rfl,?_⟩
 rw [q1] at h2
 rw [q2] at h3
 refine SameT_spec (stF f (hand - 1)) (h2.ext e3) (g:=stF f hand) h3 (stF_small hs _) fun w4 e4=>⟨_,rfl,?_⟩
 have:=h _ (qb (qb e2 e3) e4)
 rw [show decide (stF f (hand - 1)≠stF f hand)=!decide (stF f (hand - 1)=stF f hand) by simp] at this
 exact this
abbrev intV (l:List Int):List Value:=l.map (Value.int .i64)
theorem slT_int:SlT prog 74 3 1 8 (.int .i64 0):=⟨by kernel_rfl,by kernel_rfl,rfl,by decide⟩
theorem owns_int {w:World} {B:Nat} {a:Option Addr} {n c:Nat} {l:List Int} (h:Owns w B 3 1 a n c (intV l)) {i:Nat} (hi:i < l.length) :
  (∀ K:Addr→Prop,(∀ p,w.cell? p=some (.int .i64 l[i])→K p)→idx a n (i:Int) 1 K):=by
 intro K hK
 have hl:l.length=n:=by have:=h.1;simpa using this
 obtain ⟨g,rfl,hg,hc⟩:=h.cell (by omega)
 refine ⟨by omega,by omega,?_⟩
 refine dr_ok (hK _ ?_)
 rw [qg,hc _ _ (by simp [hi];rfl)]
def qae (f:Fo) (n:Nat):List Int:=((List.range n).map fun i:Nat=>(i:Int) + 1).filter fun h=>decide (stF f (h - 1)≠stF f h)
theorem qvl (f:Fo) (n:Nat):qae f (n + 1)=qae f n++if stF f n≠stF f (n + 1) then [(n:Int) + 1] else []:=by
 have e:((n:Int) + 1 - 1)=n:=by omega
 simp only [qae,List.range_succ,List.map_append,List.filter_append,List.map_cons,List.map_nil]
 congr 1
 by_cases h:stF f n≠stF f (n + 1)
 ·rw [if_pos h];simp [h]
 ·rw [if_neg h];simp at h;simp [h]
theorem qo3 (f:Fo) (n:Nat):(qae f n).length≤n:=by
 refine Nat.le_trans (List.length_filter_le _ _) ?_
 simp
theorem handsTo_le (f:Fo) (n:Nat):∀ x∈qae f n,x≤n:=by
 intro x hx
 simp only [qae,List.mem_filter,List.mem_map,List.mem_range] at hx
 obtain ⟨⟨i,hi,rfl⟩,_⟩:=hx
 omega
theorem HandsL_spec (f:Fo) {R:Ending→World→Prop} {S:Nat→Prop} {w:World} {a:Option Addr} {n c:Nat} (most:Nat) (hmost:mostN (qj f)=most) (hm8:most≤8) (hs:small f) (hF:Forms w) (hf:SlF S w a n f) (hc0:qad f=0)
  (h:∀ a' n' c' w',Owns w' w.heap.size 3 1 a' n' c' (intV (qae f most))→Ext w w'→R (.returned (.tuple ⟨[.slice a' n' c',.int .i64 0]⟩)) w'):Calls prog qjj ⟨[.slice a n c]⟩ w R:=by
 apply q58
 obtain ⟨c1,c2,c3⟩:=qby hc0
 refine Count_spec f hs hF hf fun w1 e1=>⟨_,_,rfl,?_⟩
 rw [hc0,hmost]
 simp only [ne_eq,not_true,if_false]
 refine br_neg (by simp) ?_
 have z1:=e1.size
 refine ⟨fun oa on oc i W m=>∃ k:Nat,i=(k:Int) + 1∧k≤most∧m=most - k∧Owns W w.heap.size 3 1 oa on oc (intV (qae f k))∧Ext w W,⟨_,0,rfl,by omega,rfl,Owns.nil _ _ _ _,e1⟩,?_⟩
 rintro oa on oc _ W m ⟨k,rfl,hk,rfl,ho,he⟩ _
 have hl:(qae f k).length=on:=by have:=ho.1;simpa using this
 have hlk:=qo3 f k
 refine qd (fun hlt=>?_) (fun hge=>?_)
 ·have i1:i64.wrap ((k:Int) + 1 + 1)=((k + 1:Nat):Int) + 1:=by rw [qr (by omega)];omega
  have sc:=qvl f k
  refine q63 f ((k:Int) + 1) (by omega) (by omega) c2 (by omega) (hf.ext he) fun w2 e2=>⟨_,rfl,?_⟩
  have e:((k:Int) + 1 - 1)=k:=by omega
  rw [e]
  have he2:=qb he e2
  have z2:=he2.size
  refine qd (fun g=>?_) (fun g=>?_)
  ·refine qft slT_int (ho.ext e2) (by omega) [.int .i64 ((k:Int) + 1)] rfl (by intro u hu;simp only [List.mem_singleton] at hu;subst hu;rfl) (by omega) (by omega) fun a4 c4 w4 o4 ch4 n4=>?_
   refine ⟨most - (k + 1),by omega,k + 1,i1,by omega,rfl,?_,qi he2 ch4 fun j hj=>(ho.bk hj).1⟩
   rw [sc,if_pos g]
   simpa [intV] using o4
  ·refine ⟨most - (k + 1),by omega,k + 1,i1,by omega,rfl,?_,he2⟩
   rw [sc,if_neg g,List.append_nil];exact ho.ext e2
 ·have:k=most:=by omega
  subst this
  exact h _ _ _ _ ho he
def hle (a:Int):Fo→Prop
 | .nil=>True
 | .cons k _ n ps r=>((k=8∨k=9)→n≤a)∧hle a ps∧hle a r
theorem qzg (a:Int):∀ {f:Fo},(∀ x∈qj f,(x.k=8∨x.k=9)→x.n≤a)→hle a f
 | .nil,_=>trivial
 | .cons k t n ps r,h=>by
  simp only [qj,List.mem_cons,List.mem_append] at h
  exact ⟨h ⟨k,t,n,ps⟩ (.inl rfl),qzg a fun x hx=>h x (.inr (.inl hx)),qzg a fun x hx=>h x (.inr (.inr hx))⟩
theorem q99:∀ (l:List Nn) (m:Int),m≤l.foldl (fun m (x:Nn)=>if x.k=8∨x.k=9 then max m x.n else m) m∧∀ x∈l,(x.k=8∨x.k=9)→x.n≤l.foldl (fun m (x:Nn)=>if x.k=8∨x.k=9 then max m x.n else m) m
 | [],m=>⟨Int.le_refl _,fun x hx=>by simp at hx⟩
 | y :: l,m=>by
  simp only [List.foldl_cons,List.mem_cons]
  obtain ⟨h1,h2⟩:=q99 l (if y.k=8∨y.k=9 then max m y.n else m)
  refine ⟨Int.le_trans ?_ h1,?_⟩
  ·split <;> omega
  ·rintro x (rfl | hx) hk
   ·rw [if_pos hk] at h1 ⊢;omega
   ·exact h2 x hx hk
theorem most_le (b:Int):∀ (l:List Nn) (m:Int),m≤b→(∀ x∈l,(x.k=8∨x.k=9)→x.n≤b)→l.foldl (fun m (x:Nn)=>if x.k=8∨x.k=9 then max m x.n else m) m≤b
 | [],m,h,_=>h
 | y :: l,m,h,hl=>by
  simp only [List.foldl_cons]
  refine most_le b l _ ?_ fun x hx=>hl x (by simp [hx])
  split
  ·rename_i hk;have:=hl y (by simp) hk;omega
  ·exact h
theorem hle_most (f:Fo):hle (mostN (qj f)) f:=qzg _ fun x hx hk=>(q99 (qj f) 0).2 x hx hk
theorem qo2:∀ {w:Bool} {f:Fo},okF w f→∀ x∈qj f,(x.k=8∨x.k=9)→1≤x.n∧x.n≤8
 | _,.nil,_,x,hx,_=>by simp [qj] at hx
 | w,.cons k t n ps r,⟨h1,h2,h3⟩,x,hx,hk=>by
  simp only [qj,List.mem_cons,List.mem_append] at hx
  rcases hx with rfl | hx | hx
  ·simp only at hk ⊢
   unfold qu at h1
   split at h1
   ·cases h1
   split at h1
   ·cases h1
   rw [if_neg (by omega),if_neg (by omega),if_neg (by omega),if_neg (by omega)] at h1
   try rw [if_pos hk] at h1
   split at h1
   ·cases h1
   ·omega
  ·exact qo2 h2 x hx hk
  ·exact qo2 h3 x hx hk
theorem qov (a b:Int) (p q:Bool):∀ {f:Fo},hle a f→hle b f→qv f a p=qv f b q
 | .nil,_,_=>rfl
 | .cons k t n ps r,⟨h1,h2,h3⟩,⟨g1,g2,g3⟩=>by
  simp only [qv,qov a b p q h2 g2,qov a b p q h3 g3]
  by_cases k9:k=9
  ·rw [if_pos ⟨k9,h1 (.inr k9)⟩,if_pos ⟨k9,g1 (.inr k9)⟩]
  ·by_cases k8:k=8
   ·rw [if_neg (fun h=>k9 h.1),if_pos ⟨k8,h1 (.inl k8)⟩,if_neg (fun h=>k9 h.1),if_pos ⟨k8,g1 (.inl k8)⟩]
   ·simp only [k8,k9,false_and,false_or,if_false]
theorem qxk {a b:Int} (h:a≤b):∀ {f:Fo},hle a f→hle b f
 | .nil,_=>trivial
 | .cons k t n ps r,⟨h1,h2,h3⟩=>⟨fun hk=>by have:=h1 hk;omega,qxk h h2,qxk h h3⟩
theorem qvm {f:Fo} (most:Nat) (hm:mostN (qj f)=most):∀ d:Nat,qae f (most + d)=qae f most
 | 0=>rfl
 | d + 1=>by
  rw [show most + (d + 1)=(most + d) + 1 by omega,qvl,qvm most hm d,if_neg,List.append_nil]
  intro h
  apply h
  unfold stF
  have h0:=hle_most f
  rw [hm] at h0
  rw [qov ((most + d:Nat):Int) (((most + d:Nat):Int) + 1) false false (qxk (by omega) h0) (qxk (by omega) h0)]
def longF:Fo→Nat→Bool
 | .nil,_=>false
 | .cons _ t _ ps r,d=>decide (d=0)||(decide (60 < t.length∧t.length≤65536)||(decide (65540 < t.length)||(longF ps (d - 1)||longF r d)))
theorem q75 {S:Nat→Prop}:∀ (f:Fo) {R:Ending→World→Prop} {w:World} {a:Option Addr} {n c:Nat} (d:Nat) (hd:d≤20) (hs:small f) (hf:SlF S w a n f)
  (h:∀ w',Ext w w'→R (.returned (.bool (longF f d))) w'),Calls prog qvw ⟨[.slice a n c,.int .i64 (d:Int)]⟩ w R:=by
 intro f
 induction hz:f.size using Nat.strongRecOn generalizing f with
 | _ z ih =>
 intro R w a n c d hd hs hf h
 unfold small at hs
 apply q8l
 have hn:=hf.1
 have hfl:=f.len_le_size
 refine ⟨fun i W m=>∃ (pre r:Fo),f=pre.app r∧i=pre.len∧m=r.len∧Ext w W∧longF f d=longF r d,⟨_,.nil,f,rfl,rfl,rfl,Below.refl _ _,rfl⟩,?_⟩
 rintro _ W m ⟨pre,r,hpr,rfl,rfl,he,heq⟩ _
 refine qd (fun hlt=>?_) (fun hge=>?_)
 ·obtain ⟨kd,t,mm,ps,r,rfl⟩:=Fo.next hpr (by omega)
  have hsl:=Fo.sub_len hpr
  have hsz:=Fo.sub_size hpr
  obtain ⟨q,a',c',hq,hSq,hql,hN⟩:=(hf.ext he).get hpr
  rw [longF] at heq
  have tr:(longF f d=true)→R (.returned (.bool true)) W:=fun e=>by rw [e] at h;exact h _ he
  refine hq _ ⟨t,hN.text,qd (fun h1=>?_) (fun h1=>?_)⟩
  ·exact tr (by rw [heq,decide_eq_true (by omega)];rfl)
  rw [decide_eq_false (p:=d=0) (by omega),Bool.false_or] at heq
  refine qd (fun h2=>qd (fun h3=>tr (by rw [heq,decide_eq_true (by omega)];rfl)) (fun h3=>qd (fun h4=>tr (by rw [heq,decide_eq_true (p:=65540 < t.length) (by omega)];simp)) (fun h4=>?_)))
   (fun h2=>qd (fun h4=>tr (by rw [heq,decide_eq_true (p:=65540 < t.length) (by omega)];simp)) (fun h4=>?_))
  all_goals
   rw [decide_eq_false (p:=60 < t.length∧t.length≤65536) (by omega),decide_eq_false (p:=65540 < t.length) (by omega),Bool.false_or,Bool.false_or] at heq
   refine hq _ ⟨a',ps.len,c',hN.parts,?_⟩
   rw [show i64.wrap ((d:Int) - 1)=((d - 1:Nat):Int) by rw [qr (by omega)];omega]
   refine ih _ (hz ▸ hsz) ps rfl (d - 1) (by omega) (by unfold small;omega) hN.sl fun w' he'=>⟨_,rfl,qm (fun g=>?_) (fun g=>?_)⟩
   ·rw [heq,g] at h;exact h _ (qb he he')
   ·exact ⟨r.len,by simp,pre.app (.one kd t mm ps),r,by rw [Fo.app_one_app];exact hpr,by rw [ql (by omega)];simp [Fo.one],rfl,qb he he',by rw [heq,g];rfl⟩
 ·obtain ⟨rfl,rfl⟩:=Fo.last hpr (by omega)
  have:=h _ he
  rw [heq] at this
  exact this
def qi5 (f:Fo):Bool :=
 if f.len≤4096∨4100 < f.len then !decide (f.size≤40∧f.depth≤20)||longF f 20 else decide (f.len < f.size)||longF f 20
theorem Great_spec {R:Ending→World→Prop} {S:Nat→Prop} {w:World} {a:Option Addr} {n c:Nat} {f:Fo} (hf:SlF S w a n f) (h:∀ w',Ext w w'→R (.returned (.bool (qi5 f))) w') :
  Calls prog qs6 ⟨[.slice a n c]⟩ w R:=by
 apply q5w
 have hn:=hf.1
 intro K hK
 have k:∀ g,g=decide (n≤4096∨4100 < n)→K g w:=by
  rintro _ rfl
  refine hK _ _ fun _=>qd (fun g=>?_) (fun g=>?_)
  ·refine qx4 f 20 40 (by omega) (by omega) hf fun w1 e1=>?_
   unfold qi5 at h
   rw [if_pos (by omega)] at h
   unfold szF
   split
   ·rename_i hh
    rw [decide_eq_true hh] at h
    refine ⟨_,_,_,rfl,?_⟩
    refine q75 f 20 (by omega) (by unfold small;omega) (hf.ext e1) fun w2 e2=>⟨_,rfl,h _ (qb e1 e2)⟩
   ·rename_i hh
    rw [decide_eq_false hh] at h
    exact ⟨_,_,_,rfl,h _ e1⟩
  ·unfold qi5 at h
   rw [if_neg (by omega)] at h
   refine ⟨fun i W m=>∃ (pre r:Fo),f=pre.app r∧i=pre.len∧m=r.len∧Ext w W∧pre.size=pre.len,⟨_,.nil,f,rfl,rfl,rfl,Below.refl _ _,rfl⟩,?_⟩
   rintro _ W m ⟨pre,r,hpr,rfl,rfl,he,heq⟩ _
   refine qd (fun hlt=>?_) (fun hge=>?_)
   ·obtain ⟨kd,t,mm,ps,r,rfl⟩:=Fo.next hpr (by omega)
    have hsl:=Fo.sub_len hpr
    obtain ⟨q,a',c',hq,hSq,hql,hN⟩:=(hf.ext he).get hpr
    refine hq _ ⟨a',ps.len,c',hN.parts,qd (fun g1=>?_) (fun g1=>?_)⟩
    ·have e:f.len < f.size:=by
      have h1:=congrArg Fo.size hpr
      have h2:=congrArg Fo.len hpr
      have h3:=r.len_le_size
      have h4:=ps.len_le_size
      rw [Fo.size_app] at h1
      simp only [Fo.len_app,Fo.len_cons,Fo.size] at h1 h2
      omega
     rw [decide_eq_true e] at h
     exact h _ he
    ·have hp0:ps=.nil:=Fo.eq_nil_of_len (by omega)
     subst hp0
     exact ⟨r.len,by simp,pre.app (.one kd t mm .nil),r,by rw [Fo.app_one_app];exact hpr,by rw [ql (by omega)];simp [Fo.one],rfl,he,by rw [Fo.size_app];simp [Fo.one,Fo.size,heq]⟩
   ·obtain ⟨rfl,rfl⟩:=Fo.last hpr (by omega)
    rw [decide_eq_false (by omega)] at h
    refine q75 _ 20 (by omega) (by unfold small;rw [heq];omega) (hf.ext he) fun w2 e2=>⟨_,rfl,h _ (qb he e2)⟩
 exact qd (fun g=>k _ (by rw [decide_eq_true (by omega)])) (fun g=>k _ (by rw [decide_eq_decide];omega))
def qck:Fo→Bool→List (Nn × Bool)
 | .nil,_=>[]
 | .cons k t n ps r,u=>(⟨k,t,n,ps⟩,u) :: (qck ps (u||decide (k=7))++qck r u)
theorem qh1:∀ (f:Fo) (u:Bool),(qck f u).map (·.1)=qj f
 | .nil,_=>rfl
 | .cons k t n ps r,u=>by simp only [qck,qj,List.map_cons,List.map_append,qh1 ps,qh1 r]
def NuE (T:Nat→Prop) (w0:World) (x:Nn × Bool) (vs:List Value):Prop :=
 ∃ a c,vs=[.agg ⟨[.int .i64 x.1.k,.string ⟨⟨x.1.t⟩⟩,.int .i64 x.1.n,.slice a x.1.ps.len c]⟩,.bool x.2]∧SlF T w0 a x.1.ps.len x.1.ps
theorem all_walkO {yf:Fn} {ya yb:Array Value} {T:Nat→Prop} {J:List (Nn × Bool)→(Nat→Prop)→World→Prop} {Jx:(Nat→Prop)→World→Prop} {w0:World} {xs:List (Nn × Bool)} {ty tw:Nat}
  (hTl:∀ k,T k→k < w0.heap.size)
  (hJ:∀ pre S W W',J pre S W→Chg (fun k=>w0.heap.size≤k∧¬ S k) W W'→J pre S W')
  (hbody:∀ pre x vs S W,NuE T w0 x vs→pre++[x] <+: xs→w0.heap.size≤W.heap.size→(∀ k,S k→k < W.heap.size∧¬ T k)→J pre S W→CallV prog (.func yf ya yb) vs W fun e W'=>Chg S W W' ∧
   ∃ S':Nat→Prop,(∀ k,S' k→(S k∨W.heap.size≤k)∧k < W'.heap.size)∧((e=.returned (.bool true)∧J (pre++[x]) S' W')∨(e=.returned (.bool false)∧Jx S' W'))) :
  ∀ (f:Fo) {R:Ending→World→Prop} {S:Nat→Prop} {w:World} {a:Option Addr} {n c:Nat} (u:Bool) (pre:List (Nn × Bool)),small f→SlF T w0 a n f→w0.heap.size≤w.heap.size→(∀ k,T k→w.heap[k]? = w0.heap[k]?)→(∀ k,S k→k < w.heap.size∧¬ T k) →
   Blk w ty [.func yf ya yb] 224→Blk w tw [.func (.func 199) ⟨[]⟩ ⟨[.pointer (some ⟨ty,0,none⟩),.pointer (some ⟨tw,0,none⟩)]⟩] 225→¬ S ty→¬ S tw →
   pre++qck f u <+: xs→J pre S w→(∀ S' W',Chg S w W'→(∀ k,S' k→(S k∨w.heap.size≤k)∧k < W'.heap.size)→J (pre++qck f u) S' W'→R (.returned (.bool true)) W') →
   (∀ S' W',Chg S w W'→(∀ k,S' k→(S k∨w.heap.size≤k)∧k < W'.heap.size)→Jx S' W'→R (.returned (.bool false)) W') →
   Calls prog qfm ⟨[.slice a n c,.bool u,.pointer (some ⟨ty,0,none⟩),.pointer (some ⟨tw,0,none⟩)]⟩ w R:=by
 intro f
 induction hz:f.size using Nat.strongRecOn generalizing f with
 | _ z ih =>
 intro R S w a n c u pre hs hf hw0 hT hS hBy hBw nSy nSw hpre hj hend hstop
 unfold small at hs
 apply qm4
 have hn:=hf.1
 have hfl:=f.len_le_size
 have lty:=hBy.lt
 have ltw:=hBw.lt
 refine ⟨fun i W m=>∃ (p r:Fo) (ps:List (Nn × Bool)) (S1:Nat→Prop),f=p.app r∧i=p.len∧m=r.len∧Chg S w W∧(∀ k,S1 k→(S k∨w.heap.size≤k)∧k < W.heap.size)∧J ps S1 W∧pre++qck f u=ps++qck r u,
  ⟨_,.nil,f,pre,S,rfl,rfl,rfl,Chg.refl _ _,fun k hk=>⟨.inl hk,(hS k hk).1⟩,hj,rfl⟩,?_⟩
 rintro _ W m ⟨p,r,xs',S1,hpr,rfl,rfl,hcW,hS1,hjW,heq⟩ _
 have hwW:=hcW.size
 refine qd (fun hlt=>?_) (fun hge=>?_)
 ·obtain ⟨k,t,mm,ps,r,rfl⟩:=Fo.next hpr (by omega)
  have hsl:=Fo.sub_len hpr
  have hsz:=Fo.sub_size hpr
  have e1:f=(p.app (.one k t mm ps)).app r:=by rw [Fo.app_one_app];exact hpr
  have i1:i64.wrap ((p.len:Int) + 1)=((p.app (.one k t mm ps)).len:Int):=by rw [ql (by omega)];simp [Fo.one]
  have hTW:∀ k,T k→W.heap[k]? = w0.heap[k]?:=fun k hk=>(hcW.block k (by have:=hTl k hk;omega) (fun h=>(hS k h).2 hk)).trans (hT k hk)
  obtain ⟨q,a',c',hq,hTq,hql,hN⟩:=(hf.keep (S':=T) (w':=W) (fun k hk _=>⟨hk,hTW k hk⟩) (by omega)).get hpr
  have hNT:SlF T w0 a' ps.len ps:=hN.sl.keep' fun k hk _=>⟨hk,hTl k hk,(hTW k hk).symm⟩
  refine hq _ ⟨k,hN.kind,t,hN.text,mm,hN.num,a',ps.len,c',hN.parts,?_⟩
  refine qx (by simp) (by intro u hu;simp only [List.mem_cons,List.not_mem_nil,or_false] at hu;rcases hu with rfl | rfl | rfl | rfl <;> rfl) fun bx w1 hbx hBx e2 s2=>?_
  have z2:=e2.size
  obtain ⟨x0,x1,x2,x3⟩:=blk4 hBx
  have hBy1:=(hcW.blk hBy nSy).ext e2
  have hBw1:=(hcW.blk hBw nSw).ext e2
  have n1y:¬ S1 ty:=fun h=>(hS1 _ h).1.elim nSy (by omega)
  have n1w:¬ S1 tw:=fun h=>(hS1 _ h).1.elim nSw (by omega)
  have n1x:¬ S1 bx:=fun h=>by have:=(hS1 _ h).2;omega
  refine dr_ok ⟨_,_,_,by rw [hBy1.cell];rfl,k,x0,t,x1,mm,x2,a',ps.len,c',x3,?_⟩
  have hj1:J xs' S1 w1:=hJ _ _ _ _ hjW (Chg.of_ext e2)
  rw [qck] at heq
  have hpx:xs'++[(⟨k,t,mm,ps⟩,u)] <+: xs:=by
   refine List.IsPrefix.trans ?_ hpre
   rw [heq]
   exact ⟨_,by rw [List.append_assoc];rfl⟩
  have hS1T:∀ k,S1 k→k < w1.heap.size∧¬ T k:=fun j hj=>⟨by have:=(hS1 j hj).2;omega,fun ht=>(hS1 j hj).1.elim (fun h=>(hS j h).2 ht) (fun h=>by have:=hTl j ht;omega)⟩
  refine qba (hbody xs' (⟨k,t,mm,ps⟩,u) _ S1 w1 ⟨a',c',rfl,hNT⟩ hpx (by omega) hS1T hj1) ?_
  rintro e w2 ⟨hc2,S2,hS2,hres⟩
  have z3:=hc2.size
  have hcw2:Chg S w w2:=qal (hcW.trans (Chg.of_ext e2)) hc2 fun i hi hh=>(hS1 i hh).1.elim id fun h=>by omega
  have hS2w:∀ k,S2 k→(S k∨w.heap.size≤k)∧k < w2.heap.size:=fun j hj=>⟨(hS2 j hj).1.elim (fun h=>(hS1 j h).1) (fun h=>.inr (by omega)),(hS2 j hj).2⟩
  rcases hres with ⟨rfl,hj2⟩ | ⟨rfl,hjx⟩
  ·refine ⟨true,rfl,?_⟩
   have hBx2:=hc2.blk hBx n1x
   obtain ⟨y0,y1,y2,y3⟩:=blk4 hBx2
   have hBw2:=hc2.blk hBw1 n1w
   have hBy2:=hc2.blk hBy1 n1y
   simp only [Bool.not_true,br_f]
   refine dr_ok ⟨.func 199,⟨[]⟩,⟨[.pointer (some ⟨ty,0,none⟩),.pointer (some ⟨tw,0,none⟩)]⟩,by rw [hBw2.cell];rfl,a',ps.len,c',y3,?_⟩
   have rest:∀ (v:Bool) (R':Ending→World→Prop),v=(u||decide (k=7)) →
     (∀ w3 (S3:Nat→Prop),Chg S2 w2 w3→(∀ k,S3 k→(S2 k∨w2.heap.size≤k)∧k < w3.heap.size)→J ((xs'++[(⟨k,t,mm,ps⟩,u)])++qck ps (u||decide (k=7))) S3 w3→R' (.returned (.bool true)) w3) →
     (∀ w3 (S3:Nat→Prop),Chg S2 w2 w3→(∀ k,S3 k→(S2 k∨w2.heap.size≤k)∧k < w3.heap.size)→Jx S3 w3→R' (.returned (.bool false)) w3) →
     CallV prog (.func (.func 199) ⟨[]⟩ ⟨[.pointer (some ⟨ty,0,none⟩),.pointer (some ⟨tw,0,none⟩)]⟩) [.slice a' ps.len c',.bool v] w2 R':=by
    rintro v R' rfl g1 g2
    refine ⟨by kernel_rfl,?_⟩
    refine ih _ (hz ▸ hsz) ps rfl (S:=S2) (u||decide (k=7)) (xs'++[(⟨k,t,mm,ps⟩,u)]) (by unfold small;omega) hNT (by omega) (fun j hj=>(hcw2.block j (by have:=hTl j hj;omega) (fun h=>(hS j h).2 hj)).trans (hT j hj))
     (fun j hj=>⟨(hS2 j hj).2,fun ht=>(hS2 j hj).1.elim (fun h=>(hS1T j h).2 ht) (fun h=>by have:=hTl j ht;omega)⟩) hBy2 hBw2 (fun h=>(hS2 _ h).1.elim n1y (by omega)) (fun h=>(hS2 _ h).1.elim n1w (by omega)) ?_ hj2 (fun S3 w3 hc3 hS3 hj3=>g1 w3 S3 hc3 hS3 hj3) (fun S3 w3 hc3 hS3 hjx=>g2 w3 S3 hc3 hS3 hjx)
    refine List.IsPrefix.trans ?_ hpre
    rw [heq]
    exact ⟨qck r u,by simp⟩
   have good1:∀ w3 (S3:Nat→Prop),Chg S2 w2 w3→(∀ k,S3 k→(S2 k∨w2.heap.size≤k)∧k < w3.heap.size)→J ((xs'++[(⟨k,t,mm,ps⟩,u)])++qck ps (u||decide (k=7))) S3 w3 →
     ∃ m':Nat,m' < (Fo.cons k t mm ps r).len∧∃ (p1 r1:Fo) (ps1:List (Nn × Bool)) (S1:Nat→Prop),f=p1.app r1∧i64.wrap ((p.len:Int) + 1)=p1.len∧m'=r1.len∧Chg S w w3∧(∀ k,S1 k→(S k∨w.heap.size≤k)∧k < w3.heap.size)∧J ps1 S1 w3∧pre++qck f u=ps1++qck r1 u:=by
    intro w3 S3 hc3 hS3 hj3
    refine ⟨r.len,by simp,_,r,_,S3,e1,i1,rfl,qal hcw2 hc3 fun i hi hh=>(hS2w i hh).1.elim id fun h=>by omega,fun j hj=>⟨(hS3 j hj).1.elim (fun h=>(hS2w j h).1) (fun h=>.inr (by omega)),(hS3 j hj).2⟩,hj3,?_⟩
    rw [heq];simp
   have stop1:∀ w3 (S3:Nat→Prop),Chg S2 w2 w3→(∀ k,S3 k→(S2 k∨w2.heap.size≤k)∧k < w3.heap.size)→Jx S3 w3→R (.returned (.bool false)) w3:=by
    intro w3 S3 hc3 hS3 hjx
    exact hstop S3 _ (qal hcw2 hc3 fun i hi hh=>(hS2w i hh).1.elim id fun h=>by omega) (fun j hj=>⟨(hS3 j hj).1.elim (fun h=>(hS2w j h).1) (fun h=>.inr (by omega)),(hS3 j hj).2⟩) hjx
   cases u with
   | true =>
    refine rest true _ rfl (fun w3 S3 hc3 hS3 hj3=>⟨true,rfl,?_⟩) (fun w3 S3 hc3 hS3 hjx=>⟨false,rfl,?_⟩)
    ·exact good1 w3 S3 hc3 hS3 hj3
    ·exact stop1 w3 S3 hc3 hS3 hjx
   | false =>
    refine ⟨k,y0,rest (decide (k=7)) _ (by simp) (fun w3 S3 hc3 hS3 hj3=>⟨true,rfl,?_⟩) (fun w3 S3 hc3 hS3 hjx=>⟨false,rfl,?_⟩)⟩
    ·exact good1 w3 S3 hc3 hS3 hj3
    ·exact stop1 w3 S3 hc3 hS3 hjx
  ·exact ⟨false,rfl,hstop S2 _ hcw2 hS2w hjx⟩
 ·obtain ⟨rfl,rfl⟩:=Fo.last hpr (by omega)
  have e:xs'=pre++qck p u:=by rw [heq];simp [qck]
  rw [e] at hjW
  exact hend S1 _ hcW hS1 hjW
theorem q8t {T:Nat→Prop} (f:Fo) (hs:small f) {a:Option Addr} {n c:Nat} (b:Nat) (w:World) (hTl:∀ k,T k→k < w.heap.size) (hb:Blk w b [.slice a n c] 43) (hf:SlF T w a n f) (hbT:T b) :
  IterO prog qbd [.pointer (some ⟨b,0,none⟩)] (qck f false) (NuE T w) T w:=by
 intro yf ya yb S0 J Jx R hS hJ hJx hbody h0 hend hstop
 apply qr6
 refine qh fun ty w1 hty hBy e1 s1=>?_
 refine qh fun tw w1' htw hBw' e2' s2'=>?_
 refine qn hBw' rfl fun w2 hBw hcc hss=>?_
 have e2:Ext w1 w2:=qi e2' hcc fun k hk=>by omega
 have E:=qb e1 e2
 refine ⟨.func 199,⟨[]⟩,⟨[.pointer (some ⟨ty,0,none⟩),.pointer (some ⟨tw,0,none⟩)]⟩,by rw [hBw.cell];rfl,dr_ok ⟨a,n,c,by rw [((hb.ext e1).ext e2).cell];rfl,by kernel_rfl,?_⟩⟩
 have hz:=E.size
 have hz1:=e1.size
 refine all_walkO (w0:=w) (xs:=qck f false) hTl hJ hbody f (S:=S0) false [] hs hf hz (fun k hk=>E.block k (hTl k hk)) (fun k hk=>⟨by have:=(hS k hk).1;omega,(hS k hk).2⟩) (hBy.ext e2) hBw (fun h=>by have:=(hS _ h).1;omega) (fun h=>by have:=(hS _ h).1;omega) (List.prefix_refl _)
  (hJ _ _ _ _ h0 (Chg.of_ext E)) (fun S' W' hc hS' hj=>?_) (fun S' W' hc hS' hjx=>?_)
 ·exact ⟨_,rfl,hend S' _ (Nat.le_trans hz hc.size) hj⟩
 ·exact ⟨_,rfl,hstop S' _ (Nat.le_trans hz hc.size) hjx⟩
theorem q8u {R:Ending→World→Prop} {w:World} {a:Option Addr} {n c:Nat}
  (h:∀ b w',Blk w' b [.slice a n c] 43→Ext w w'→b=w.heap.size→R (.returned (.func (.func qbd) ⟨[]⟩ ⟨[.pointer (some ⟨b,0,none⟩)]⟩)) w') :
  Calls prog qjs ⟨[.slice a n c]⟩ w R:=by
 apply qwp
 refine qh fun b w' hb h1 h2 h3=>?_
 exact h b w' h1 h2 hb
def qvo (x:Nn):Bool:=!(decide (x.k=8)||decide (x.k=9))
def qrq (f:Fo):Bool:=(qj f).all qvo
def errU (f:Fo):Int:=if qad f≠0 then 1 else if qrq f then 0 else 13
def patN (x:Nn):List UInt8:=if x.k=1 then x.t else if x.k=6 then List.replicate x.n.toNat 95 else []
def patL (l:List (Nn × Bool)):List UInt8:=l.flatMap fun x=>patN x.1
def patF (f:Fo):List UInt8:=(qj f).flatMap patN
theorem q3p (f:Fo) (u:Bool):patL (qck f u)=patF f:=by
 rw [patF,← qh1 f u,List.flatMap_map];rfl
theorem q7y (l:List (Nn × Bool)) (x:Nn × Bool):patL (l++[x])=patL l++patN x.1:=by simp [patL]
theorem q91 {pre:List (Nn × Bool)} {x:Nn × Bool} {l:List (Nn × Bool)} (h:pre++[x] <+: l):(patL pre).length + (patN x.1).length≤(patL l).length:=by
 obtain ⟨s,rfl⟩:=h
 simp only [patL,List.flatMap_append,List.flatMap_cons,List.flatMap_nil,List.length_append,List.append_nil]
 omega
theorem patN_len {k:Int} {t:List UInt8} {n:Int} {ps:Fo} (h:qy6 k t n ps):(patN ⟨k,t,n,ps⟩).length≤t.length + 100:=by
 unfold patN
 split
 ·simp
 ·split
  ·rename_i h6
   have:=h.2.2.1 (by simp only [numsF];rw [show k=6 from h6];rfl)
   simp;omega
  ·simp
theorem qgs:∀ (f:Fo),good f→(patF f).length≤tlen f + 100 * f.size
 | .nil,_=>by simp [patF,qj]
 | .cons k t n ps r,h=>by
  have h1:=qgs ps h.2.1
  have h2:=qgs r h.2.2
  have h3:=patN_len h.1
  unfold patF at h1 h2 ⊢
  simp only [qj,List.flatMap_cons,List.flatMap_append,List.length_append,tlen,Fo.size]
  omega
theorem cleanU {f:Fo} (u:Bool):qrq f=(qck f u).all fun x=>qvo x.1:=by
 rw [qrq,← qh1 f u,List.all_map];rfl
theorem checkL_spec {R:Ending→World→Prop} {S:Nat→Prop} {w:World} {a:Option Addr} {n c:Nat} (f:Fo) (hs:small f) (hF:Forms w) (hf0:SlF S w a n f)
  (h:∀ w',Ext w w'→R (.returned (.int .i64 (errU f))) w'):Calls prog qhe ⟨[.slice a n c]⟩ w R:=by
 apply qr5
 refine qh fun b2 w1 hb2 B2 e1 s1=>?_
 refine qci f hs (hf0.ext e1) (hF.ext e1) fun w2 e2=>⟨_,rfl,qd (fun g=>?_) (fun g=>?_)⟩
 ·refine qn (B2.ext e2) rfl fun w3 B3 hc3 s3=>⟨1,by rw [B3.cell];rfl,?_⟩
  unfold errU at h;rw [if_pos g] at h
  exact h _ (qi (qb e1 e2) hc3 fun k hk=>by omega)
 unfold errU at h;rw [if_neg g] at h
 refine q8u fun bs w4 Bs e4 hbs=>⟨_,_,_,rfl,fun base=>?_⟩
 have E4:=qb (qb e1 e2) e4
 have z1:=e1.size
 have z2:=e2.size
 have z4:=E4.size
 have z24:=e4.size
 have ls:=Bs.lt
 have hf:SlF (fun k=>S k∧k < w.heap.size) w a n f:=hf0.imp fun k hk hl=>⟨hk,hl⟩
 rw [qld]
 refine qex qel qeg (gf:=qbd) rfl (by kernel_rfl) (xs:=qck f false) (E:=NuE (fun k=>(S k∧k < w.heap.size)∨k=bs) w4) (Rd:=fun k=>(S k∧k < w.heap.size)∨k=bs)
  (fun v1 he=>(q8t f hs bs v1 (fun k hk=>by have:=he.size;omega) (Bs.ext he) ((hf.ext (qb E4 he)).imp fun k hk _=>.inl hk) (.inr rfl)).mono ?_) (fun y vs hE=>by obtain ⟨a',c',rfl,_⟩:=hE;rfl) (by decide) (fun k hk=>by omega) (fun k=>k=b2) (fun k hk=>by omega)
  (fun pre S1 W=>Blk W b2 [.int .i64 0] 28∧(∀ k,S1 k↔k=b2)∧Ext w W∧(pre.all fun x=>qvo x.1)=true) (fun S1 W=>Blk W b2 [.int .i64 13] 28∧(∀ k,S1 k↔k=b2)∧Ext w W∧qrq f=false) (fun _ _=>False)
  ?_ ?_ (fun _ _ _ h=>h.elim) ⟨(B2.ext e2).ext e4,fun k=>Iff.rfl,E4,rfl⟩ ?_ ?_ ?_ (fun _ _ _ _ _ _ _ h=>h.elim)
 ·rintro x vs ⟨a',c',rfl,hsl⟩
  exact ⟨a',c',rfl,hsl.keep' fun k hk hl=>⟨hk,by omega,((he.block k (by omega))).symm⟩⟩
 ·rintro pre S1 W W' ⟨g1,g2,g3,g4⟩ hc
  exact ⟨hc.blk g1 (fun hh=>hh.2 ((g2 _).2 rfl)),g2,qi g3 hc (fun k hk=>by omega),g4⟩
 ·rintro S1 W W' ⟨g1,g2,g3,g4⟩ hc
  exact ⟨hc.blk g1 (fun hh=>hh.2 ((g2 _).2 rfl)),g2,qi g3 hc (fun k hk=>by omega),g4⟩
 ·rintro pre ⟨⟨k1,t1,m1,ps1⟩,u1⟩ vs S1 W l ⟨a',c',rfl,hsl⟩ hpre hl1 hl2 hl3 hS1 ⟨g1,g2,g3,g4⟩
  refine Eq.mpr (qk3 base _ _ _ _ _ _ _ _ _ _ _ _ _ _ _ _) ?_
  refine qx (by simp) (by intro u hu;simp only [List.mem_cons,List.not_mem_nil,or_false] at hu;rcases hu with rfl | rfl | rfl | rfl <;> rfl) fun bx W1 hbx hBx ex sx=>?_
  refine ⟨ex,fun W2 hU=>?_⟩
  have zx:=ex.size
  have zU:=hU.size
  have hX2:=qfb hU hBx (by omega)
  obtain ⟨x0,x1,x2,x3⟩:=blk4 hX2
  have hUc:Chg (fun k=>k=l) W1 W2:=⟨hU.os,hU.tape,hU.output,by omega,fun k _ hk=>hU.block k hk⟩
  have hWc:Chg (fun k=>k=l) W W2:=(Chg.of_ext ex).trans hUc
  have nl:b2≠l:=fun he=>hl3 ((g2 l).2 he.symm)
  have h1:=hWc.blk g1 nl
  have E2':Ext w W2:=qi g3 hWc fun k hk=>by omega
  have hmem:=qcj hpre
  have fail:qvo ⟨k1,t1,m1,ps1⟩=false→∀ W3,Blk W3 b2 [.int .i64 13] 28→Chg (fun k=>k=b2) W2 W3→Chg (fun k=>S1 k∨W.heap.size≤k) W2 W3∧∃ S':Nat→Prop,(∀ k,S' k→(S1 k∨W.heap.size≤k)∧k < W3.heap.size) ∧
    Blk W3 b2 [.int .i64 13] 28∧(∀ k,S' k↔k=b2)∧Ext w W3∧qrq f=false:=by
   intro hcl W3 hB3 hc3
   refine ⟨hc3.mono fun k _ hk=>.inl ((g2 k).2 hk),fun k=>k=b2,fun k hk=>⟨.inl ((g2 k).2 hk),hk ▸ hB3.lt⟩,hB3,fun k=>Iff.rfl,qi E2' hc3 fun k hk=>by omega,?_⟩
   rw [cleanU false,List.all_eq_false]
   exact ⟨_,hmem,by rw [hcl];simp⟩
  refine ⟨k1,x0,qd (fun q=>?_) (fun q=>⟨k1,x0,qd (fun q'=>?_) (fun q'=>?_)⟩)⟩
  ·exact dr_ok (qn h1 rfl fun W3 hB3 hc3 _=>fail (by simp [qvo,q]) W3 hB3 hc3)
  ·exact dr_ok (qn h1 rfl fun W3 hB3 hc3 _=>fail (by simp [qvo,q']) W3 hB3 hc3)
  ·refine ⟨Chg.refl _ _,S1,fun j hj=>⟨.inl hj,by have:=(hS1 j hj).1;omega⟩,h1,g2,E2',?_⟩
   rw [List.all_append,g4]
   simp [qvo,q,q']
 ·rintro D S1 W hD1 hD2 hD3 hD4 ⟨g1,g2,g3,g4⟩
  rw [← cleanU false] at g4
  rw [if_pos g4] at h
  have nD:b2≠D:=fun he=>hD3 ((g2 D).2 he.symm)
  refine qn g1 rfl fun W3 B3 hc3 s3=>?_
  refine qa4 ((hc3.block D hD2 (fun he=>nD he.symm)).trans hD4) ?_
  exact ⟨0,by rw [(qcf B3 nD _).cell];rfl,h _ (qbk (qi g3 hc3 fun k hk=>by omega) (by omega) _)⟩
 ·rintro D S1 W hD1 hD2 hD3 hD4 ⟨g1,g2,g3,g4⟩
  rw [if_neg (by simp [g4])] at h
  have nD:b2≠D:=fun he=>hD3 ((g2 D).2 he.symm)
  refine qa4 hD4 ?_
  exact ⟨13,by rw [(qcf g1 nD _).cell];rfl,h _ (qbk g3 (by omega) _)⟩
theorem qys (b:UInt8):∀ c,Lib.repeatL [b] c=List.replicate c b
 | 0=>rfl
 | c + 1=>by rw [Lib.repeatL,qys b c];rfl
theorem Repeat_spec {R:Ending→World→Prop} {w:World} (k:Nat) (hk:k≤140737488355328) (h:∀ w',Ext w w'→R (.returned (.string ⟨⟨List.replicate k 95⟩⟩)) w') :
  Calls prog qw6 ⟨[.string ⟨⟨[95]⟩⟩,.int .i64 (k:Int)]⟩ w R:=by
 refine (Tryz.strings_Repeat ⟨⟨[95]⟩⟩ k w (by omega) (by simp [ByteArray.size];omega)).mono ?_
 rintro e w' ⟨rfl,hb⟩
 have:=h w' hb
 rw [← qys] at this
 exact this
theorem q7x {R:Ending→World→Prop} {S:Nat→Prop} {w:World} {a:Option Addr} {n c:Nat} (f:Fo) (hs:f.size≤1000000000) (hg:good f) (hl:tlen f≤100000000000) (hf0:SlF S w a n f)
  (h:∀ w',Ext w w'→R (.returned (.string ⟨⟨patF f⟩⟩)) w'):Calls prog qfl ⟨[.slice a n c]⟩ w R:=by
 have hlen:=qgs f hg
 have hgn:=qml f hg
 apply qm2
 refine qh fun b5 w2 hb5 B5 e2 s2=>?_
 refine q8u fun bs w4 Bs e4 hbs=>⟨_,_,_,rfl,fun base=>?_⟩
 have E4:=qb e2 e4
 have z2:=e2.size
 have z4:=E4.size
 have z24:=e4.size
 have ls:=Bs.lt
 have hf:SlF (fun k=>S k∧k < w.heap.size) w a n f:=hf0.imp fun k hk hl=>⟨hk,hl⟩
 have hbld:BldAt w4 b5 none []:=⟨.pointer none,0,B5.ext e4,.inl rfl,Owns.nil _ _ _ _⟩
 rw [qjb]
 refine qex qda qc9 (gf:=qbd) rfl (by kernel_rfl) (xs:=qck f false) (E:=NuE (fun k=>(S k∧k < w.heap.size)∨k=bs) w4) (Rd:=fun k=>(S k∧k < w.heap.size)∨k=bs)
  (fun v1 he=>(q8t f (by unfold small;omega) bs v1 (fun k hk=>by have:=he.size;omega) (Bs.ext he) ((hf.ext (qb E4 he)).imp fun k hk _=>.inl hk) (.inr rfl)).mono ?_) (fun y vs hE=>by obtain ⟨a',c',rfl,_⟩:=hE;rfl) (by decide) (fun k hk=>by omega) (fun k=>k=b5) (fun k hk=>by omega)
  (fun pre S1 W=>∃ bo:Option Addr,BldAt W b5 bo (patL pre)∧(∀ k,S1 k↔k=b5∨bk bo k)∧Ext w W∧(∀ k,bk bo k→w4.heap.size≤k)) (fun _ _=>False) (fun _ _=>False)
  ?_ (fun _ _ _ h=>h.elim) (fun _ _ _ h=>h.elim) ⟨none,hbld,fun k=>by simp [bk],E4,fun k hk=>by simp [bk] at hk⟩ ?_ ?_ (fun _ _ _ _ _ _ _ h=>h.elim) (fun _ _ _ _ _ _ _ h=>h.elim)
 ·rintro x vs ⟨a',c',rfl,hsl⟩
  exact ⟨a',c',rfl,hsl.keep' fun k hk hl=>⟨hk,by omega,((he.block k (by omega))).symm⟩⟩
 ·rintro pre S1 W W' ⟨bo,g1,g2,g3,g4⟩ hc
  exact ⟨bo,g1.chg hc (fun hh=>hh.2 ((g2 _).2 (.inl rfl))) (fun k hk hh=>hh.2 ((g2 k).2 (.inr hk))),g2,qi g3 hc (fun k hk=>by omega),g4⟩
 ·rintro pre ⟨⟨k1,t1,m1,ps1⟩,u1⟩ vs S1 W l ⟨a',c',rfl,hsl⟩ hpre hl1 hl2 hl3 hS1 ⟨bo,g1,g2,g3,g4⟩
  refine Eq.mpr (qi8 base _ _ _ _ _ _ _ _ _ _ _ _ _ _ _ _ _) ?_
  refine qx (by simp) (by intro u hu;simp only [List.mem_cons,List.not_mem_nil,or_false] at hu;rcases hu with rfl | rfl | rfl | rfl <;> rfl) fun bx W1 hbx hBx ex sx=>?_
  refine ⟨ex,fun W2 hU=>?_⟩
  have zx:=ex.size
  have zU:=hU.size
  have hX2:=qfb hU hBx (by omega)
  obtain ⟨x0,x1,x2,x3⟩:=blk4 hX2
  have hUc:Chg (fun k=>k=l) W1 W2:=⟨hU.os,hU.tape,hU.output,by omega,fun k _ hk=>hU.block k hk⟩
  have hWc:Chg (fun k=>k=l) W W2:=(Chg.of_ext ex).trans hUc
  have nl:∀ k,S1 k→k≠l:=fun k hk he=>hl3 (he ▸ hk)
  have h1:=g1.chg hWc (nl _ ((g2 _).2 (.inl rfl))) (fun k hk=>nl _ ((g2 k).2 (.inr hk)))
  have E2':Ext w W2:=qi g3 hWc fun k hk=>by omega
  have hpl:=q91 hpre
  rw [q3p] at hpl
  replace hpl:(patL pre).length + (patN ⟨k1,t1,m1,ps1⟩).length≤(patF f).length:=hpl
  have hmem:(⟨k1,t1,m1,ps1⟩:Nn)∈qj f:=by
   rw [← qh1 f false];exact List.mem_map.2 ⟨_,qcj hpre,rfl⟩
  have hok:=hgn _ hmem
  -- a string is written
  have wr:∀ (s:List UInt8) (W3:World) (K:Ending→World→Prop),s=patN ⟨k1,t1,m1,ps1⟩→Ext W2 W3→(∀ w'' v,Chg (fun k=>S1 k∨W.heap.size≤k) W2 w''→(∃ S':Nat→Prop,(∀ k,S' k→(S1 k∨W.heap.size≤k)∧k < w''.heap.size) ∧
    ∃ bo:Option Addr,BldAt w'' b5 bo (patL (pre++[((⟨k1,t1,m1,ps1⟩:Nn),u1)]))∧(∀ k,S' k↔k=b5∨bk bo k)∧Ext w w''∧(∀ k,bk bo k→w4.heap.size≤k))→K (.returned (.tuple ⟨[.int .i64 v,.nilIface]⟩)) w'') →
    Calls prog qaw ⟨[.pointer (some ⟨b5,0,none⟩),.string ⟨⟨s⟩⟩]⟩ W3 K:=by
   rintro s W3 K rfl e3 hK
   have z3:=e3.size
   refine qc0 (h1.ext e3) (by omega) fun a'' w'' hb'' hk'' hc''=>?_
   have z'':=hc''.size
   have hSS:∀ k,(k=b5∨bk a'' k)→(S1 k∨W.heap.size≤k)∧k < w''.heap.size:=fun k hk=>by
    rcases hk with rfl | hk
    ·exact ⟨.inl ((g2 _).2 (.inl rfl)),hb''.lt⟩
    ·exact ⟨(hk'' k hk).elim (fun h=>.inl ((g2 k).2 (.inr h))) (fun h=>.inr (by omega)),(hb''.bk hk).2⟩
   refine hK w'' _ ((Chg.of_ext e3).trans (hc''.mono fun k _ hk=>.inl ((g2 k).2 hk))) ⟨fun k=>k=b5∨bk a'' k,hSS,a'',?_,fun k=>Iff.rfl,qi (qb E2' e3) hc'' fun k hk=>hk.elim (fun h=>by omega) (fun h=>by have:=g4 k h;omega),fun k hk=>(hk'' k hk).elim (g4 k) (fun h=>by omega)⟩
   rw [q7y];exact hb''
  refine ⟨k1,x0,qd (fun q=>?_) (fun q=>qd (fun q'=>?_) (fun q'=>?_))⟩
  ·exact ⟨t1,x1,wr _ _ _ (by simp [patN,q]) (Below.refl _ _) fun w'' v hc hS=>⟨_,_,rfl,hc,hS⟩⟩
  ·have hm:0≤m1∧m1 < 100:=hok.2.2.1 (by simp only [numsF];rw [show k1=6 from q'];rfl)
   refine ⟨m1,x2,?_⟩
   rw [show m1=((m1.toNat:Nat):Int) by omega]
   refine Repeat_spec _ (by omega) fun W3 e3=>⟨_,rfl,wr _ _ _ (by simp [patN,q,q']) e3 fun w'' v hc hS=>⟨_,_,rfl,hc,?_⟩⟩
   rw [show ((m1.toNat:Nat):Int)=m1 by omega]
   exact hS
  ·refine ⟨Chg.refl _ _,S1,fun k hk=>⟨.inl hk,by have:=(hS1 k hk).1;omega⟩,bo,?_,g2,E2',g4⟩
   rw [q7y,show patN ⟨k1,t1,m1,ps1⟩=[] by simp [patN,q,q'],List.append_nil];exact h1
 ·rintro D S1 W hD1 hD2 hD3 hD4 ⟨bo,g1,g2,g3,g4⟩
  rw [q3p] at g1
  have hDb:some D≠some b5:=fun e=>by have e':=Option.some.inj e;omega
  refine q8y g1 fun w5 hbel hok=>⟨_,rfl,qa4 (D:=D) (hok D _ hD4 hDb (fun _ _ e=>by cases e)) ?_⟩
  have Ew:Ext w w5:=g3.trans (hbel.mono (by omega))
  exact h _ (qbk Ew (by omega) _)
def patE (f:Fo):Int:=if errU f≠0 then errU f else if 65536 < (patF f).length then 4 else 0
def patS (f:Fo):List UInt8:=if patE f≠0 then [] else patF f
theorem q8d {f:Fo} (h:errU f=0):qad f=0∧qrq f=true:=by
 unfold errU at h
 split at h
 ·cases h
 ·rename_i h1
  split at h
  ·rename_i h2;exact ⟨Decidable.not_not.1 h1,h2⟩
  ·cases h
theorem qlv {R:Ending→World→Prop} {S:Nat→Prop} {w:World} {a:Option Addr} {n c:Nat} (f:Fo) (hs:small f) (hF:Forms w) (hf0:SlF S w a n f)
  (h:∀ w',Ext w w'→R (.returned (.tuple ⟨[.string ⟨⟨patS f⟩⟩,.int .i64 (patE f)]⟩)) w'):Calls prog qfn ⟨[.slice a n c]⟩ w R:=by
 apply qm5
 unfold patS patE at h
 refine checkL_spec f hs hF hf0 fun w1 e1=>⟨_,rfl,qd (fun g=>?_) (fun g=>?_)⟩
 ·simp only [if_pos g] at h;exact h _ e1
 simp only [if_neg g] at h
 obtain ⟨hc0,_⟩:=q8d (Decidable.not_not.1 g)
 obtain ⟨q1,q2,q3⟩:=qby hc0
 refine q7x f (by omega) q2 (by omega) (hf0.ext e1) fun w2 e2=>⟨_,rfl,?_⟩
 apply qm3
 have E:=qb e1 e2
 refine qd (fun g1=>⟨_,_,rfl,?_⟩) (fun g1=>⟨_,_,rfl,?_⟩)
 ·simp only [if_pos (show 65536 < (patF f).length by omega)] at h;exact h _ E
 ·simp only [if_neg (show ¬ 65536 < (patF f).length by omega)] at h;exact h _ E
theorem patF_cons (k t n) (ps r:Fo):patF (.cons k t n ps r)=patN ⟨k,t,n,ps⟩++(patF ps++patF r):=by
 simp [patF,qj]
end Go.Proofs
namespace Go.Sh
open Go Go.RowKit
theorem round_in {W:World} {T:TypeId} {zs vs:List Value} {l:Nat} {B:Addr→World→World→Prop} (hl:l < W.heap.size) (hlen:vs.length=zs.length) (ho:∀ v∈vs,v.oneCell'=true)
  (h:∀ bx W1 W2,bx=W.heap.size→Ext W W1→Blk W2 bx vs T→Chg (fun k=>k=l) W W2→W2.heap.size=bx + 1→B ⟨bx,0,none⟩ W1 W2) :
  al W T zs fun p w1=>stL w1 p 0 vs fun w2=>Ext W w2∧∀ W2:World,Upd l w2 W2→B p w2 W2:=by
 refine qx hlen ho fun bx w1 hbx hBx e2 s2=>⟨e2,fun W2 hU=>?_⟩
 have zU:=hU.size
 have hUc:Chg (fun k=>k=l) w1 W2:=⟨hU.os,hU.tape,hU.output,by omega,fun k _ hk=>hU.block k hk⟩
 exact h bx w1 W2 hbx e2 (hBx.keep (hU.block bx (by omega))) ((Chg.of_ext e2).trans hUc) (by omega)
theorem RFw_count {α:Type} {P:Program} {N:Nat} {g:Operand} {ps:Array Tmp} {assign body:Code} {env:Env} {ds:List Deferred} {w:World} {x:Nat} {Qn Qr Qx:List Deferred→World→Prop}
  (xA xB:Ann) {gf:FuncId} {cap:List Value} (hg:ev env g=.func (.func gf) ⟨[]⟩ ⟨cap⟩) (hok:okFn P gf=true)
  {xs:List α} {E:α→List Value→Prop} {Rd:Nat→Prop} (hit:∀ w1,Ext w w1→IterO P gf cap xs E Rd w1)
  (hps:∀ y vs,E y vs→vs.length=ps.size) (hpN:∀ p∈ps.toList,p < N)
  (hRd:∀ k,Rd k→k < w.heap.size) {w0:World} (hw0:Ext w0 w) {b5:Nat} {T5:TypeId} (h0:w0.heap.size≤b5) (hn5:¬ Rd b5) (val:List α→Int) (B5:Blk w b5 [.int .i64 (val [])] T5)
  (hround:∀ pre y vs W l,E y vs→pre++[y] <+: xs→w.heap.size≤l→l < W.heap.size→b5≠l→Blk W b5 [.int .i64 (val pre)] T5→Ext w0 W →
   ∀ Kn Kr Kx:World→World→Prop,(∀ W2 W',Ext w0 W2→Chg (fun k=>k=b5) W2 W'→Blk W' b5 [.int .i64 (val (pre++[y]))] T5→Kn W2 W')→fragV P N xA xB assign body l x Kn Kr Kx (updPs ps.toList vs env) W)
  (hn:∀ D W,w.heap.size≤D→D < W.heap.size→b5≠D→W.heap[D]? = some (.deferred (some []))→Blk W b5 [.int .i64 (val xs)] T5→Ext w0 W→Qn ({ target:=.collected D,args:=#[] } :: ds) W) :
  RFw P none N (.rangeFunc g ps assign body) env ds w x Qn Qr Qx:=by
 have l5:=B5.lt
 refine qex xA xB hg hok (xs:=xs) (E:=E) (Rd:=Rd) hit hps hpN hRd (fun k=>k=b5) (fun k hk=>⟨hk ▸ l5,hk ▸ hn5⟩)
  (fun pre S1 W=>Blk W b5 [.int .i64 (val pre)] T5∧(∀ k,S1 k↔k=b5)∧Ext w0 W) (fun _ _=>False) (fun _ _=>False)
  ?_ (fun _ _ _ h=>h.elim) (fun _ _ _ h=>h.elim) ⟨B5,fun k=>Iff.rfl,hw0⟩ ?_ ?_ (fun _ _ _ _ _ _ _ h=>h.elim) (fun _ _ _ _ _ _ _ h=>h.elim)
 ·rintro pre S1 W W' ⟨g1,g2,g3⟩ hc
  have z:=hw0.size
  refine ⟨hc.blk g1 (fun hh=>hh.2 ((g2 _).2 rfl)),g2,?_⟩
  exact g3.trans ⟨hc.os,hc.tape,hc.output,hc.size,fun k hk=>hc.block k (Nat.lt_of_lt_of_le hk g3.size) (fun hh=>by have:=hh.1;omega)⟩
 ·rintro pre y vs S1 W l hE hpre hl1 hl2 hl3 hS1 ⟨g1,g2,g3⟩
  have nl:b5≠l:=fun he=>hl3 ((g2 l).2 he.symm)
  refine hround pre y vs W l hE hpre hl1 hl2 nl g1 g3 _ _ _ fun W2 W' he hc hb=>⟨hc.mono fun k _ hk=>.inl ((g2 k).2 hk),fun k=>k=b5,fun k hk=>⟨.inl ((g2 k).2 hk),hk ▸ hb.lt⟩,hb,fun k=>Iff.rfl,?_⟩
  exact he.trans ⟨hc.os,hc.tape,hc.output,hc.size,fun k hk=>hc.block k (Nat.lt_of_lt_of_le hk he.size) (fun hh=>by omega)⟩
 ·rintro D S1 W hD1 hD2 hD3 hD4 ⟨g1,g2,g3⟩
  exact hn D W hD1 hD2 (fun he=>hD3 ((g2 D).2 he.symm)) hD4 g1 g3
end Go.Sh
namespace Go.Sh
open Go Go.RowKit
structure Enc (α:Type) where
 enc:α→List Value
 size:Nat
 len:∀ x,(enc x).length=size
 pos:0 < size
 one:∀ x,∀ v∈enc x,v.oneCell'=true
section
variable {α:Type} {E:Enc α}
def Enc.row (E:Enc α) (l:List α):List Value:=l.flatMap E.enc
@[simp] theorem row_nil:E.row []=[]:=rfl
theorem qfq (x:α) (l:List α):E.row (x :: l)=E.enc x++E.row l:=rfl
theorem q9u (l m:List α):E.row (l++m)=E.row l++E.row m:=by simp [Enc.row]
theorem row_snoc (l:List α) (x:α):E.row (l++[x])=E.row l++E.enc x:=by simp [Enc.row]
theorem qdl:∀ l:List α,(E.row l).length=l.length * E.size
 | []=>by simp
 | x :: l=>by rw [qfq,List.length_append,E.len,qdl l,List.length_cons,Nat.add_mul,Nat.one_mul];omega
theorem row_one (l:List α):∀ v∈E.row l,v.oneCell'=true:=by
 intro v hv
 obtain ⟨x,_,hx⟩:=List.mem_flatMap.1 hv
 exact E.one x v hx
theorem q9t {x:α}:∀ {l:List α} {i j:Nat},l[i]? = some x→j < E.size→(E.row l)[i * E.size + j]? = (E.enc x)[j]?
 | [],i,j,h,_=>by simp at h
 | y :: l,0,j,h,hj=>by
  simp at h;subst h
  rw [qfq,Nat.zero_mul,Nat.zero_add,List.getElem?_append_left (by rw [E.len];exact hj)]
 | y :: l,i + 1,j,h,hj=>by
  simp at h
  rw [qfq,List.getElem?_append_right (by rw [E.len,Nat.add_mul,Nat.one_mul];omega),E.len,show (i + 1) * E.size + j - E.size=i * E.size + j by rw [Nat.add_mul,Nat.one_mul];omega]
  exact q9t h hj
def RowAt (E:Enc α) (S:Nat→Prop) (w:World) (a:Option Addr) (n:Nat) (l:List α):Prop:=n=l.length∧At S w a (E.row l)
section
variable {S S':Nat→Prop} {w w':World} {a:Option Addr} {n:Nat} {l:List α}
theorem RowAt.keep (h:RowAt E S w a n l) (hs:∀ k,S k→k < w.heap.size→S' k∧w'.heap[k]? = w.heap[k]?) (hz:w.heap.size≤w'.heap.size):RowAt E S' w' a n l:=⟨h.1,h.2.keep hs hz⟩
theorem RowAt.ext (h:RowAt E S w a n l) (he:Ext w w'):RowAt E S w' a n l:=h.keep (fun k hk hl=>⟨hk,he.block k hl⟩) he.size
theorem RowAt.chg {T:Nat→Prop} (h:RowAt E S w a n l) (he:Chg T w w') (hd:∀ k,S k→¬ T k):RowAt E S w' a n l:=h.keep (fun k hk hl=>⟨hk,he.block k hl (hd k hk)⟩) he.size
theorem RowAt.imp (h:RowAt E S w a n l) (hs:∀ k,S k→k < w.heap.size→S' k):RowAt E S' w a n l:=h.keep (fun k hk hl=>⟨hs k hk hl,rfl⟩) (Nat.le_refl _)
theorem RowAt.nil (a:Option Addr):RowAt E S w a 0 []:=⟨rfl,.inl rfl⟩
theorem RowAt.get (h:RowAt E S w a n l) {i:Nat} {x:α} (hi:l[i]? = some x) :
  ∃ b o,(∀ K:Addr→Prop,K ⟨b,o,none⟩→idx a n (i:Int) E.size K)∧S b∧b < w.heap.size∧∀ j v,(E.enc x)[j]? = some v→w.cell? ⟨b,o + j,none⟩=some v:=by
 have hlt:=(List.getElem?_eq_some_iff.1 hi).1
 have hn:=h.1
 rcases h.2 with h2 | ⟨b,o,rfl,hb,hbl,hc⟩
 ·have:=congrArg List.length h2
  rw [qdl] at this
  simp only [List.length_nil] at this
  rcases Nat.mul_eq_zero.1 this with h | h
  ·omega
  ·have:=E.pos;omega
 refine ⟨b,o + i * E.size,fun K hK=>⟨by omega,by omega,?_⟩,hb,hbl,fun j v hj=>?_⟩
 ·show K _
  rw [qg,Int.toNat_natCast];exact hK
 ·rw [Nat.add_assoc]
  refine hc _ _ ?_
  rw [q9t hi (by have:=(List.getElem?_eq_some_iff.1 hj).1;rw [E.len] at this;exact this)];exact hj
end
abbrev OwnL (E:Enc α) (w:World) (B:Nat) (e:TypeId) (a:Option Addr) (n c:Nat) (l:List α):Prop:=Owns w B e E.size a n c (E.row l)
section
variable {w w':World} {B:Nat} {e:TypeId} {a:Option Addr} {n c:Nat} {l:List α}
theorem OwnL.length (h:OwnL E w B e a n c l):l.length=n:=by
 have:=h.len
 rw [qdl] at this
 exact Nat.eq_of_mul_eq_mul_right E.pos this
theorem OwnL.out (h:OwnL E w B e a n c l):RowAt E (bk a) w a n l:=by
 refine ⟨h.length.symm,?_⟩
 by_cases hn:0 < n
 ·obtain ⟨g,rfl,hg,hc⟩:=h.cell hn
  exact .inr ⟨g,0,rfl,by simp [bk],(h.bk (by simp [bk])).2,fun j v hj=>by rw [Nat.zero_add];exact hc j v hj⟩
 ·have hx:l=[]:=List.eq_nil_of_length_eq_zero (by rw [h.length];omega)
  subst hx
  exact .inl rfl
theorem OwnL.push {P:Program} {t ty:TypeId} {bytes:Nat} {z:Value} (hT:SlT P t e E.size bytes z) (h:OwnL E w B e a n c l) (hB:B≤w.heap.size) (x:α) (hlen:n + 1≤4611686018427387904) (hbytes:(n + 1) * bytes≤140737488355328) {K:Option Addr→Nat→Nat→World→Prop}
  (hk:∀ a' c'' w',OwnL E w' B e a' (n + 1) c'' (l++[x])→Chg (bk a) w w'→(∀ k,bk a' k→bk a k∨w.heap.size≤k)→K a' (n + 1) c'' w') :
  al w e (E.enc x) fun p w1=>app P [t,t] ty (.slice a n c) (.slice (some p) 1 1) w1 K :=
 qft hT h hB _ (E.len x) (E.one x) hlen hbytes fun a' c'' w' ho hc hn=>hk a' c'' w' (by unfold OwnL;rw [row_snoc];exact ho) hc hn
theorem OwnL.pushAll {P:Program} {t ty:TypeId} {bytes:Nat} {z:Value} (hT:SlT P t e E.size bytes z) (h:OwnL E w B e a n c l) (hB:B≤w.heap.size) {S:Nat→Prop} {a1:Option Addr} {m c1:Nat} {l':List α} (hg:RowAt E S w a1 m l') (hlen:n + m≤4611686018427387904) (hbytes:(n + m) * bytes≤140737488355328) {K:Option Addr→Nat→Nat→World→Prop}
  (hk:∀ a' c'' w',OwnL E w' B e a' (n + m) c'' (l++l')→Chg (bk a) w w'→(∀ k,bk a' k→bk a k∨w.heap.size≤k)→K a' (n + m) c'' w') :
  app P [t,t] ty (.slice a n c) (.slice a1 m c1) w K :=
 qsb hT h hB (E.row l') (by rw [qdl,← hg.1]) hg.2 (row_one l') hlen hbytes fun a' c'' w' ho hc hn=>hk a' c'' w' (by unfold OwnL;rw [q9u];exact ho) hc hn
end
theorem q4u (x:α) (n:Nat):E.row (List.replicate n x)=(List.replicate n (E.enc x)).flatten:=by
 induction n with
 | zero=>rfl
 | succ n ih=>rw [List.replicate_succ,qfq,ih,List.replicate_succ,List.flatten_cons]
theorem OwnL.made {w:World} {b B:Nat} {e:TypeId} {x:α} {n:Nat} (h:Blk w b (List.replicate n (E.enc x)).flatten e) (hB:B≤b) (hn:n≤maxLen):OwnL E w B e (some ⟨b,0,none⟩) n n (List.replicate n x):=by
 rw [← q4u] at h
 refine ⟨by rw [qdl,List.length_replicate],.inr ⟨b,n,_,rfl,hB,h,Nat.le_refl _,hn,?_,?_⟩⟩
 ·show (E.row (List.replicate n x)).length=n * E.size
  rw [qdl,List.length_replicate]
 ·show List.take _ (E.row _)=_
  rw [List.take_of_length_le (by rw [qdl,List.length_replicate];exact Nat.le_refl _)]
end
def encI:Enc Int:=⟨fun i=>[.int .i64 i],1,fun _=>rfl,by decide,by intro x v hv;simp only [List.mem_singleton] at hv;subst hv;rfl⟩
def encStr:Enc (List UInt8):=⟨fun s=>[.string ⟨⟨s⟩⟩],1,fun _=>rfl,by decide,by intro x v hv;simp only [List.mem_singleton] at hv;subst hv;rfl⟩
end Go.Sh
namespace Go.Proofs
open Go Go.Sh Go.RowKit Go.Proofs.Tryz IntKind
abbrev Ps:=List UInt8 × Int
def encP:Enc Ps:=⟨fun x=>[.string ⟨⟨x.1⟩⟩,.int .i64 x.2],2,fun _=>rfl,by decide,by intro x v hv;simp only [List.mem_cons,List.not_mem_nil,or_false] at hv;rcases hv with rfl | rfl <;> rfl⟩
theorem slT_pos:SlT prog 83 51 2 24 (.agg ⟨[.string ⟨⟨[]⟩⟩,.int .i64 0]⟩):=⟨by kernel_rfl,by kernel_rfl,rfl,by decide⟩
def posN (at_:Ps) (x:Nn):Ps × Nat :=
 if x.k=1 then (at_,x.t.length) else if x.k=6 then (at_,x.n.toNat) else if x.k=3 then ((x.t,0),0) else if x.k=2 then ((at_.1,at_.2 + 1),0) else (at_,0)
def posL:Ps→List Nn→List Ps
 | _,[]=>[]
 | p,x :: l=>List.replicate (posN p x).2 (posN p x).1++posL (posN p x).1 l
def endL:Ps→List Nn→Ps
 | p,[]=>p
 | p,x :: l=>endL (posN p x).1 l
theorem qxi:∀ (l:List Nn) (p:Ps) (m:List Nn),posL p (l++m)=posL p l++posL (endL p l) m
 | [],_,_=>rfl
 | x :: l,p,m=>by simp only [List.cons_append,posL,endL,qxi l,List.append_assoc]
theorem qmo:∀ (l:List Nn) (p:Ps) (m:List Nn),endL p (l++m)=endL (endL p l) m
 | [],_,_=>rfl
 | x :: l,p,m=>by simp only [List.cons_append,endL,qmo l]
theorem qxg (p:Ps) (x:Nn):(posN p x).2=(patN x).length:=by
 unfold posN patN
 split
 ·rfl
 ·split
  ·simp
  ·split
   ·rfl
   ·split <;> rfl
theorem posL_len:∀ (l:List Nn) (p:Ps),(posL p l).length=(l.flatMap patN).length
 | [],_=>rfl
 | x :: l,p=>by simp only [posL,List.length_append,List.length_replicate,List.flatMap_cons,posL_len l,qxg]
theorem qxh (p:Ps) (f:Fo):(posL p (qj f)).length=(patF f).length:=posL_len _ _
theorem endL_bd:∀ (l:List Nn) (p:Ps) (B:Int),0≤p.2→p.2≤B→0≤B→0≤(endL p l).2∧(endL p l).2≤B + l.length
 | [],p,B,h0,h1,h2=>⟨h0,by simp [endL];omega⟩
 | x :: l,p,B,h0,h1,h2=>by
  rw [endL]
  have key:0≤(posN p x).1.2∧(posN p x).1.2≤B + 1:=by
   unfold posN
   split
   ·exact ⟨h0,by show p.2≤_;omega⟩
   ·split
    ·exact ⟨h0,by show p.2≤_;omega⟩
    ·split
     ·exact ⟨Int.le_refl _,by show (0:Int)≤_;omega⟩
     ·split
      ·exact ⟨by show 0≤p.2 + 1;omega,by show p.2 + 1≤_;omega⟩
      ·exact ⟨h0,by show p.2≤_;omega⟩
  have:=endL_bd l (posN p x).1 (B + 1) key.1 key.2 (by omega)
  exact ⟨this.1,by simp only [List.length_cons];omega⟩
def PSt (b6 b10 B:Nat) (W:World) (oa:Option Addr) (L:List Ps) (p:Ps):Prop :=
 ∃ oc,Blk W b6 [.slice oa L.length oc] 83∧OwnL encP W B 51 oa L.length oc L∧Blk W b10 [.string ⟨⟨p.1⟩⟩,.int .i64 p.2] 51
structure PTo (b6 b10:Nat) (oa:Option Addr) (W:World) (oa':Option Addr) (W':World):Prop where
 chg:Chg (fun j=>j=b6∨j=b10∨bk oa j) W W'
 bk:∀ k,Sh.bk oa' k→Sh.bk oa k∨W.heap.size≤k
section
variable {b6 b10 B:Nat} {W W' W'':World} {oa oa' oa'':Option Addr} {L:List Ps} {p:Ps}
theorem PTo.refl (W:World) (oa:Option Addr):PTo b6 b10 oa W oa W:=⟨Chg.refl _ _,fun _ h=>.inl h⟩
theorem PTo.trans (h6:b6 < W.heap.size) (h10:b10 < W.heap.size) (h:PTo b6 b10 oa W oa' W') (k:PTo b6 b10 oa' W' oa'' W''):PTo b6 b10 oa W oa'' W'' :=
 ⟨qal h.chg k.chg fun i hi hh=>hh.elim .inl fun hh=>hh.elim (fun e=>.inr (.inl e)) fun hh=>(h.bk i hh).elim (fun e=>.inr (.inr e)) (fun e=>by omega),
 fun j hj=>(k.bk j hj).elim (h.bk j) (fun e=>.inr (Nat.le_trans h.chg.size e))⟩
theorem PTo.ext (h:Ext W W'):PTo b6 b10 oa W oa W':=⟨Chg.of_ext h,fun _ h=>.inl h⟩
theorem PSt.ext (h:PSt b6 b10 B W oa L p) (he:Ext W W'):PSt b6 b10 B W' oa L p:=by
 obtain ⟨oc,h1,h2,h3⟩:=h
 exact ⟨oc,h1.ext he,h2.ext he,h3.ext he⟩
theorem PSt.bk (h:PSt b6 b10 B W oa L p) {k:Nat} (hk:Sh.bk oa k):B≤k∧k < W.heap.size:=by
 obtain ⟨oc,h1,h2,h3⟩:=h
 exact Owns.bk h2 hk
end
theorem add_spec {b6 b10 B:Nat} (hb:b6 < b10∧b10 < B) {W:World} {oa:Option Addr} {L:List Ps} {p:Ps} (hst:PSt b6 b10 B W oa L p) (hBW:B≤W.heap.size) (k:Nat) (hlen:L.length + k≤1000000000000) {R:Ending→World→Prop}
  (h:∀ oa' W',PSt b6 b10 B W' oa' (L++List.replicate k p) p→PTo b6 b10 oa W oa' W'→R (.returned (.tuple ⟨[]⟩)) W') :
  Calls prog qfo ⟨[.int .i64 (k:Int),.pointer (some ⟨b6,0,none⟩),.pointer (some ⟨b10,0,none⟩)]⟩ W R:=by
 apply qm7
 refine ⟨fun i W1 m=>∃ (j:Nat) (oa1:Option Addr),j≤k∧i=j∧m=k - j∧PSt b6 b10 B W1 oa1 (L++List.replicate j p) p∧PTo b6 b10 oa W oa1 W1,⟨_,0,oa,by omega,rfl,rfl,by simpa using hst,PTo.refl _ _⟩,?_⟩
 rintro _ W1 m ⟨j,oa1,hj,rfl,rfl,hs,hp⟩ _
 have z1:=hp.chg.size
 refine qd (fun g=>?_) (fun g=>?_)
 ·obtain ⟨oc,h1,h2,h3⟩:=hs
  have hl:(L++List.replicate j p).length=L.length + j:=by simp
  refine dr_ok ⟨oa1,_,oc,by rw [h1.cell];rfl,dr_ok ⟨p.1,by simp only [qg,h3.cell];rfl,p.2,by simp only [qg,h3.cell];rfl,?_⟩⟩
  refine OwnL.push slT_pos h2 (by omega) p (by omega) (by omega) fun a' c'' W2 ho hc hn=>?_
  have l1:=h1.lt
  have l3:=h3.lt
  have n6:¬ Sh.bk oa1 b6:=fun hh=>by have:=(Owns.bk h2 hh).1;omega
  have n10:¬ Sh.bk oa1 b10:=fun hh=>by have:=(Owns.bk h2 hh).1;omega
  have n6':∀ j,Sh.bk a' j→j≠b6:=fun j hj e=>by subst e;exact (hn _ hj).elim n6 (by omega)
  refine dr_ok (qn (hc.blk h1 n6) rfl fun W3 q1 q2 q3=>?_)
  have hl2:(L++List.replicate (j + 1) p).length=(L++List.replicate j p).length + 1:=by simp;omega
  have hl3:L++List.replicate (j + 1) p=(L++List.replicate j p)++[p]:=by rw [List.replicate_succ',List.append_assoc]
  refine ⟨k - (j + 1),by omega,j + 1,a',by omega,by rw [ql (by omega)],rfl,⟨c'',by rw [hl2];exact q1,by rw [hl2,hl3];exact Owns.chg ho q2 (fun i hi e=>n6' i hi e),q2.blk (hc.blk h3 n10) (by omega)⟩,?_⟩
  refine hp.trans (by omega) (by omega) ⟨qal (hc.mono fun i _ hi=>.inr (.inr hi)) q2 fun i _ e=>.inl e,hn⟩
 ·have:j=k:=by omega
  subst this
  exact h oa1 W1 hs hp
theorem walk_tail {W:World} {b16 bx:Nat} {K:World→Prop} {a:Option Addr} {n c:Nat} {ar br cr:Value} (hB:Blk W b16 [.func (.func 157) ⟨[]⟩ ⟨[ar,br,cr]⟩] 188)
  (hx:W.cell? ((⟨bx,0,none⟩:Addr).add 3)=some (.slice a n c)) (hk:Calls prog qcp ⟨[.slice a n c,ar,br,cr]⟩ W fun e w=>e=.returned (.tuple ⟨[]⟩)∧K w) :
  dr (some ⟨b16,0,none⟩) fun p=>∃ (x:Fn) (xa xb:Array Value),World.cell? W p=some (.func x xa xb)∧(∃ (y:Option Addr) (yn yc:Nat),World.cell? W ((⟨bx,0,none⟩:Addr).add 3)=some (.slice y yn yc) ∧
   (CallV prog (.func x xa xb) [.slice y yn yc] W fun e w=>e=.returned (.tuple ⟨[]⟩)∧K w)) :=
 dr_ok ⟨.func 157,⟨[]⟩,⟨[ar,br,cr]⟩,by rw [hB.cell];rfl,a,n,c,hx,by kernel_rfl,hk⟩
theorem qvh {T:Nat→Prop} {w0:World} {b6 b10 b13 b16 B:Nat} (hb:w0.heap.size≤b6∧b6 < b10∧b10 < b13∧b13 < b16∧b16 < B) (hTl:∀ k,T k→k < w0.heap.size) :
  ∀ (f:Fo) {R:Ending→World→Prop} {W:World} {oa:Option Addr} {L:List Ps} {p:Ps} {a:Option Addr} {n c:Nat},f.size≤1000000000→good f→SlF T w0 a n f→(∀ k,T k→W.heap[k]? = w0.heap[k]?)→B≤W.heap.size →
   Blk W b13 [.func (.func 156) ⟨[]⟩ ⟨[.pointer (some ⟨b6,0,none⟩),.pointer (some ⟨b10,0,none⟩)]⟩] 187→Blk W b16 [.func (.func 157) ⟨[]⟩ ⟨[.pointer (some ⟨b13,0,none⟩),.pointer (some ⟨b10,0,none⟩),.pointer (some ⟨b16,0,none⟩)]⟩] 188 →
   PSt b6 b10 B W oa L p→L.length + (patF f).length≤1000000000000→0≤p.2→p.2 + f.size≤1000000000000 →
   (∀ oa' W',PSt b6 b10 B W' oa' (L++posL p (qj f)) (endL p (qj f))→PTo b6 b10 oa W oa' W'→R (.returned (.tuple ⟨[]⟩)) W') →
   Calls prog qcp ⟨[.slice a n c,.pointer (some ⟨b13,0,none⟩),.pointer (some ⟨b10,0,none⟩),.pointer (some ⟨b16,0,none⟩)]⟩ W R:=by
 intro f
 induction hz:f.size using Nat.strongRecOn generalizing f with
 | _ z ih =>
 intro R W0 oa L p a n c hs hg hf hT hBW hB13 hB16 hst hlen hp0 hp1 h
 apply qm6
 have hn:=hf.1
 have hfl:=f.len_le_size
 refine ⟨fun i W m=>∃ (pr r:Fo) (oa1:Option Addr) (L1:List Ps) (p1:Ps),f=pr.app r∧i=pr.len∧m=r.len∧PSt b6 b10 B W oa1 L1 p1∧PTo b6 b10 oa W0 oa1 W∧L1++posL p1 (qj r)=L++posL p (qj f)∧endL p1 (qj r)=endL p (qj f) ∧
  L1.length + (patF r).length≤1000000000000∧0≤p1.2∧p1.2 + r.size≤1000000000000,
  ⟨_,.nil,f,oa,L,p,rfl,rfl,rfl,hst,PTo.refl _ _,rfl,rfl,hlen,hp0,by omega⟩,?_⟩
 rintro _ W m ⟨pr,r,oa1,L1,p1,hpr,rfl,rfl,hst1,hto,hL1,hE1,hlen1,hp10,hp11⟩ _
 have hwW:=hto.chg.size
 refine qd (fun hlt=>?_) (fun hge=>?_)
 ·obtain ⟨k,t,mm,ps,r,rfl⟩:=Fo.next hpr (by omega)
  have hsl:=Fo.sub_len hpr
  have hsz:=Fo.sub_size hpr
  have hG:=hg
  rw [hpr,qxl] at hG
  obtain ⟨_,hok,hgp,_⟩:=hG
  have e1:f=(pr.app (.one k t mm ps)).app r:=by rw [Fo.app_one_app];exact hpr
  have i1:i64.wrap ((pr.len:Int) + 1)=((pr.app (.one k t mm ps)).len:Int):=by rw [ql (by omega)];simp [Fo.one]
  have nb:∀ k,T k→¬ (k=b6∨k=b10∨Sh.bk oa k):=fun k hk hh=>by
   have:=hTl k hk
   rcases hh with e | e | e
   ·omega
   ·omega
   ·have:=(hst.bk e).1;omega
  have hTW:∀ k,T k→W.heap[k]? = w0.heap[k]?:=fun k hk=>(hto.chg.block k (by have:=hTl k hk;omega) (nb k hk)).trans (hT k hk)
  obtain ⟨q,a',c',hq,hTq,hql,hN⟩:=(hf.keep (S':=T) (w':=W) (fun k hk _=>⟨hk,hTW k hk⟩) (by omega)).get hpr
  have hNT:SlF T w0 a' ps.len ps:=hN.sl.keep' fun k hk _=>⟨hk,hTl k hk,(hTW k hk).symm⟩
  rw [patF_cons] at hlen1
  simp only [List.length_append] at hlen1
  simp only [Fo.size] at hp11
  rw [qj,posL,qxi] at hL1
  rw [qj,endL,qmo] at hE1
  refine hq _ ⟨k,hN.kind,t,hN.text,mm,hN.num,a',ps.len,c',hN.parts,?_⟩
  refine qx (by simp) (by intro u hu;simp only [List.mem_cons,List.not_mem_nil,or_false] at hu;rcases hu with rfl | rfl | rfl | rfl <;> rfl) fun bx w1 hbx hBx e2 s2=>?_
  have z2:=e2.size
  obtain ⟨x0,x1,x2,x3⟩:=blk4 hBx
  have hst2:=hst1.ext e2
  have n13:¬ (b13=b6∨b13=b10∨Sh.bk oa b13):=fun hh=>by
   rcases hh with e | e | e
   ·omega
   ·omega
   ·have:=(hst.bk e).1;omega
  have n16:¬ (b16=b6∨b16=b10∨Sh.bk oa b16):=fun hh=>by
   rcases hh with e | e | e
   ·omega
   ·omega
   ·have:=(hst.bk e).1;omega
  have hB13':=(hto.chg.blk hB13 n13).ext e2
  have hB16':=(hto.chg.blk hB16 n16).ext e2
  have fin:∀ (W2:World) (oa2:Option Addr) (p2:Ps) (n2:Nat),posN p1 ⟨k,t,mm,ps⟩=(p2,n2)→PSt b6 b10 B W2 oa2 (L1++List.replicate n2 p2) p2→PTo b6 b10 oa1 w1 oa2 W2→0≤p2.2→p2.2≤p1.2 + 1 →
    dr (some ⟨b16,0,none⟩) fun pp=>∃ (x:Fn) (xa xb:Array Value),World.cell? W2 pp=some (.func x xa xb)∧(∃ (y:Option Addr) (yn yc:Nat),World.cell? W2 ((⟨bx,0,none⟩:Addr).add 3)=some (.slice y yn yc) ∧
     (CallV prog (.func x xa xb) [.slice y yn yc] W2 fun e w=>e=.returned (.tuple ⟨[]⟩)∧∃ m':Nat,m' < (Fo.cons k t mm ps r).len∧∃ (pr1 r1:Fo) (oa3:Option Addr) (L3:List Ps) (p3:Ps),f=pr1.app r1∧i64.wrap ((pr.len:Int) + 1)=pr1.len∧m'=r1.len∧PSt b6 b10 B w oa3 L3 p3∧PTo b6 b10 oa W0 oa3 w ∧
      L3++posL p3 (qj r1)=L++posL p (qj f)∧endL p3 (qj r1)=endL p (qj f)∧L3.length + (patF r1).length≤1000000000000∧0≤p3.2∧p3.2 + r1.size≤1000000000000)):=by
   intro W2 oa2 p2 n2 hpn hs2 ht2 hq0 hq1
   have z3:=ht2.chg.size
   have nn:∀ j,b10 < j→j < B∨j=bx→¬ (j=b6∨j=b10∨Sh.bk oa1 j):=fun j h1 h2 hh=>by
    rcases hh with e | e | e
    ·omega
    ·omega
    ·have:=hst1.bk e;omega
   have hn2:n2=(patN ⟨k,t,mm,ps⟩).length:=by have:=qxg p1 ⟨k,t,mm,ps⟩;rw [hpn] at this;exact this
   rw [hpn] at hL1 hE1
   have hbd:=endL_bd (qj ps) p2 p2.2 hq0 (Int.le_refl _) hq0
   rw [qfy] at hbd
   refine walk_tail (ht2.chg.blk hB16' (nn _ (by omega) (.inl (by omega)))) ((blk4 (ht2.chg.blk hBx (nn _ (by omega) (.inr rfl)))).2.2.2) ?_
   refine ih _ (hz ▸ hsz) ps rfl (by omega) hgp hNT (fun k hk=>?_) (by omega) (ht2.chg.blk hB13' (nn _ (by omega) (.inl (by omega)))) (ht2.chg.blk hB16' (nn _ (by omega) (.inl (by omega)))) hs2 ?_ hq0 (by omega)
    (fun oa3 W3 hs3 ht3=>⟨rfl,r.len,by simp,_,r,oa3,_,_,e1,i1,rfl,hs3,?_,?_,hE1,?_,hbd.1,by omega⟩)
   ·have hk0:=hTl k hk
    refine (ht2.chg.block k (by omega) fun hh=>?_).trans ((e2.block k (by omega)).trans (hTW k hk))
    rcases hh with e | e | e
    ·omega
    ·omega
    ·have:=hst1.bk e;omega
   ·simp only [List.length_append,List.length_replicate];omega
   ·exact ((hto.trans (by omega) (by omega) (PTo.ext e2)).trans (by omega) (by omega) ht2).trans (by omega) (by omega) ht3
   ·rw [← hL1];simp only [List.append_assoc]
   ·simp only [List.length_append,List.length_replicate,qxh];omega
  have hk0:∀ (p2:Ps) (W2:World),Blk W2 b10 [.string ⟨⟨p2.1⟩⟩,.int .i64 p2.2] 51→Chg (fun j=>j=b10) w1 W2→PSt b6 b10 B W2 oa1 (L1++List.replicate 0 p2) p2∧PTo b6 b10 oa1 w1 oa1 W2:=by
   intro p2 W2 g1 g2
   obtain ⟨oc,h1,h2,h3⟩:=hst2
   refine ⟨⟨oc,by rw [List.replicate_zero,List.append_nil];exact g2.blk h1 (by omega),by rw [List.replicate_zero,List.append_nil];exact Owns.chg h2 g2 (fun i hi e=>by have:=(Owns.bk h2 hi).1;omega),g1⟩,g2.mono fun j _ e=>.inr (.inl e),fun _ h=>.inl h⟩
  have hB10:Blk w1 b10 [.string ⟨⟨p1.1⟩⟩,.int .i64 p1.2] 51:=by obtain ⟨oc,h1,h2,h3⟩:=hst2;exact h3
  refine ⟨k,x0,qd (fun g=>?_) (fun g=>qd (fun g'=>?_) (fun g'=>qd (fun g2=>?_) (fun g2=>qd (fun g3=>?_) (fun g3=>?_))))⟩
  ·have hpn:posN p1 ⟨k,t,mm,ps⟩=(p1,t.length):=by simp [posN,g]
   have hn2:=qxg p1 ⟨k,t,mm,ps⟩
   rw [hpn] at hn2
   refine dr_ok ⟨.func 156,⟨[]⟩,⟨[.pointer (some ⟨b6,0,none⟩),.pointer (some ⟨b10,0,none⟩)]⟩,by rw [hB13'.cell];rfl,t,x1,by kernel_rfl,?_⟩
   exact add_spec (by omega) hst2 (by omega) t.length (by omega) fun oa2 W2 hs2 ht2=>⟨rfl,fin W2 oa2 p1 _ hpn hs2 ht2 hp10 (by omega)⟩
  ·have hpn:posN p1 ⟨k,t,mm,ps⟩=(p1,mm.toNat):=by simp [posN,g,g']
   have hn2:=qxg p1 ⟨k,t,mm,ps⟩
   rw [hpn] at hn2
   have hm:0≤mm∧mm < 100:=hok.2.2.1 (by simp only [numsF];rw [show k=6 from g'];rfl)
   refine dr_ok ⟨.func 156,⟨[]⟩,⟨[.pointer (some ⟨b6,0,none⟩),.pointer (some ⟨b10,0,none⟩)]⟩,by rw [hB13'.cell];rfl,mm,x2,by kernel_rfl,?_⟩
   have e0:mm=((mm.toNat:Nat):Int):=by omega
   rw [e0]
   refine add_spec (by omega) hst2 (by omega) mm.toNat (by omega) fun oa2 W2 hs2 ht2=>⟨rfl,?_⟩
   rw [← e0]
   exact fin W2 oa2 p1 _ hpn hs2 ht2 hp10 (by omega)
  ·refine ⟨t,x1,dr_ok ?_⟩
   refine qaf hB10 (by simp) (by intro u hu;simp only [List.mem_cons,List.not_mem_nil,or_false] at hu;rcases hu with rfl | rfl <;> rfl) fun W2 q1 q2 q3 q4 q5 q6=>?_
   obtain ⟨y1,y2⟩:=hk0 (t,0) W2 (by simpa [putAt] using q1) ⟨q4,q5,q6,by omega,fun k _ hk=>q2 k hk⟩
   exact fin W2 oa1 (t,0) 0 (by simp [posN,g,g',g2]) y1 y2 (Int.le_refl _) (by show (0:Int)≤_;omega)
  ·refine dr_ok ⟨p1.2,by simp only [qg,hB10.cell];rfl,dr_ok ?_⟩
   rw [show i64.wrap (p1.2 + 1)=p1.2 + 1 from qr (by omega)]
   rw [qg]
   refine qaf (o:=1) hB10 (by simp) (by intro u hu;simp only [List.mem_cons,List.not_mem_nil,or_false] at hu;rcases hu with rfl;rfl) fun W2 q1 q2 q3 q4 q5 q6=>?_
   obtain ⟨y1,y2⟩:=hk0 (p1.1,p1.2 + 1) W2 (by simpa [putAt] using q1) ⟨q4,q5,q6,by omega,fun k _ hk=>q2 k hk⟩
   exact fin W2 oa1 (p1.1,p1.2 + 1) 0 (by simp [posN,g,g',g2,g3]) y1 y2 (by show 0≤p1.2 + 1;omega) (Int.le_refl _)
  ·obtain ⟨y1,y2⟩:=hk0 p1 w1 hB10 (Chg.refl _ _)
   exact fin w1 oa1 p1 0 (by simp [posN,g,g',g2,g3]) y1 y2 hp10 (by omega)
 ·obtain ⟨rfl,rfl⟩:=Fo.last hpr (by omega)
  simp only [qj,posL,endL,List.append_nil] at hL1 hE1
  rw [hL1,hE1] at hst1
  exact h _ _ hst1 hto
theorem blk2 {w:World} {b:Nat} {v0 v1:Value} {T:TypeId} (h:Blk w b [v0,v1] T):w.cell? ((⟨b,0,none⟩:Addr).add 0)=some v0∧w.cell? ((⟨b,0,none⟩:Addr).add 1)=some v1:=by
 simp only [qg,h.cell];exact ⟨rfl,rfl⟩
theorem q12 {R:Ending→World→Prop} {S:Nat→Prop} {w:World} {a:Option Addr} {n c:Nat} (p:Ps) (f:Fo) (hs:f.size≤1000000000) (hg:good f) (hl:tlen f≤100000000000) (hp0:0≤p.2) (hp1:p.2≤1000000) (hf0:SlF S w a n f)
  (h:∀ a' c' w',RowAt encP (fun k=>w.heap.size≤k) w' a' (posL p (qj f)).length (posL p (qj f))→Ext w w'→R (.returned (.slice a' (posL p (qj f)).length c')) w') :
  Calls prog qdx ⟨[.agg ⟨[.string ⟨⟨p.1⟩⟩,.int .i64 p.2]⟩,.slice a n c]⟩ w R:=by
 have hlen:=qgs f hg
 apply qgw
 refine qh fun b4 w1 hb4 B4 e1 s1=>?_
 refine qh fun b6 w2 hb6 B6 e2 s2=>?_
 obtain ⟨x0,x1⟩:=blk2 (B4.ext e2)
 refine ⟨p.1,x0,p.2,x1,?_⟩
 refine qx (by simp) (by intro u hu;simp only [List.mem_cons,List.not_mem_nil,or_false] at hu;rcases hu with rfl | rfl <;> rfl) fun b10 w3 hb10 B10 e3 s3=>?_
 refine qh fun b13 w4' hb13 B13' e4' s4'=>?_
 refine qn B13' rfl fun w4 B13 hc4 s4=>?_
 have e4:Ext w3 w4:=qi e4' hc4 fun k hk=>by omega
 refine qh fun b16 w5' hb16 B16' e5' s5'=>?_
 refine qn B16' rfl fun w5 B16 hc5 s5=>?_
 have e5:Ext w4 w5:=qi e5' hc5 fun k hk=>by omega
 have E3:=qb (qb e1 e2) e3
 have E5:=qb (qb E3 e4) e5
 have z1:=e1.size
 have z2:=e2.size
 have z3:=e3.size
 have z4:=e4.size
 have z5:=e5.size
 have B6':=((B6.ext e3).ext e4).ext e5
 have B10':=(B10.ext e4).ext e5
 have B13'':=B13.ext e5
 have hf:SlF (fun k=>S k∧k < w.heap.size) w a n f:=hf0.imp fun k hk hl=>⟨hk,hl⟩
 refine ⟨.func 157,⟨[]⟩,⟨[.pointer (some ⟨b13,0,none⟩),.pointer (some ⟨b10,0,none⟩),.pointer (some ⟨b16,0,none⟩)]⟩,by rw [B16.cell];rfl,by kernel_rfl,?_⟩
 refine qvh (w0:=w) (b6:=b6) (b10:=b10) (b13:=b13) (b16:=b16) (B:=w5.heap.size) ⟨by omega,by omega,by omega,by omega,by omega⟩ (fun k hk=>hk.2) f (oa:=none) (L:=[]) (p:=p) hs hg hf (fun k hk=>E5.block k hk.2) (Nat.le_refl _) B13'' B16
  ⟨0,B6',Owns.nil _ _ _ _,B10'⟩ (by simp;omega) hp0 (by omega) fun oa W hst hto=>⟨rfl,?_⟩
 obtain ⟨oc,h1,h2,h3⟩:=hst
 rw [List.nil_append] at h1 h2
 refine ⟨oa,_,oc,by rw [h1.cell];rfl,?_⟩
 refine h oa oc W (h2.out.imp fun k hk hl=>by have:=(Owns.bk h2 hk).1;omega) (qi E5 hto.chg fun k hk=>?_)
 rcases hk with e | e | e
 ·omega
 ·omega
 ·simp [bk] at e
theorem q7z {f:Fo} (h:patE f=0):qad f=0∧qrq f=true∧(patF f).length≤65536∧patS f=patF f:=by
 have h':=h
 unfold patE at h
 split at h
 ·rename_i hh;exact absurd h hh
 ·rename_i hh
  obtain ⟨a,b⟩:=q8d (Decidable.not_not.1 hh)
  split at h
  ·cases h
  ·exact ⟨a,b,by omega,by unfold patS;rw [if_neg (by simp [h'])]⟩
theorem equalP_sh {R:Ending→World→Prop} {S S':Nat→Prop} {w:World} {a b:Option Addr} {n c n' c':Nat} {L M:List Ps} (h1:RowAt encP S w a n L) (h2:RowAt encP S' w b n' M) (hs:n≤4611686018427387904)
  (h:∀ w',Ext w w'→R (.returned (.bool (decide (L=M)))) w'):qag a n c b n' c' R w:=by
 have e1:=h1.1
 have e2:=h2.1
 refine qd (fun g=>?_) (fun g=>?_)
 ·rw [show decide (L=M)=false by rw [decide_eq_false_iff_not];rintro rfl;omega] at h
  exact h _ (Below.refl _ _)
 refine ⟨fun i W m=>∃ k:Nat,i=k∧k≤n∧m=n - k∧L.take k=M.take k∧Ext w W,⟨_,0,rfl,by omega,rfl,rfl,Below.refl _ _⟩,?_⟩
 rintro _ W m ⟨k,rfl,hk,rfl,ht,he⟩ _
 refine qd (fun hlt=>?_) (fun hge=>?_)
 ·unfold drw
  have hd:=qb he (qw W)
  have hkL:k < L.length:=by omega
  have hkM:k < M.length:=by omega
  have hx:L[k]? = some L[k]:=by simp [hkL]
  have hy:M[k]? = some M[k]:=by simp [hkM]
  obtain ⟨bb,o,hq,_,_,hc⟩:=(h1.ext hd).get hx
  obtain ⟨bb',o',hq',_,_,hc'⟩:=(h2.ext hd).get hy
  refine hq _ ⟨L[k].1,by rw [qg];exact hc 0 _ rfl,L[k].2,by rw [qg];exact hc 1 _ rfl,hq' _ ⟨M[k].1,by rw [qg];exact hc' 0 _ rfl,M[k].2,by rw [qg];exact hc' 1 _ rfl,?_⟩⟩
  have hdec:(decide (L[k].1=M[k].1)&&(decide (L[k].2=M[k].2)&&true))=decide (L[k]=M[k]):=by
   rw [Bool.and_true,← Bool.decide_and,decide_eq_decide,Prod.ext_iff]
  rw [hdec]
  by_cases he':L[k]=M[k]
  ·rw [decide_eq_true he']
   refine ⟨n - (k + 1),by omega,k + 1,by rw [ql (by omega)],by omega,rfl,?_,hd⟩
   rw [List.take_add_one,List.take_add_one,ht,hx,hy,he']
  ·rw [decide_eq_false he']
   rw [show decide (L=M)=false by rw [decide_eq_false_iff_not];rintro rfl;exact he' rfl] at h
   exact h _ hd
 ·have:k=n:=by omega
  subst this
  rw [List.take_of_length_le (by omega),List.take_of_length_le (by omega)] at ht
  rw [decide_eq_true ht] at h
  exact h _ he
theorem EqualP_spec {R:Ending→World→Prop} {S S':Nat→Prop} {w:World} {a b:Option Addr} {n c n' c':Nat} {L M:List Ps} (h1:RowAt encP S w a n L) (h2:RowAt encP S' w b n' M) (hs:n≤4611686018427387904)
  (h:∀ w',Ext w w'→R (.returned (.bool (decide (L=M)))) w'):Calls prog qaj ⟨[.slice a n c,.slice b n' c']⟩ w R :=
 qbs (equalP_sh h1 h2 hs h)
def posE (p:Ps) (f:Fo):Int:=if patE f≠0 then patE f else if p.1≠[]∧qp p.1=false then 14 else if p.2 < 0∨4096 < p.2 then 2 else 0
def posR (p:Ps) (f:Fo):List Ps:=if posE p f≠0 then [] else posL p (qj f)
theorem q7t {p:Ps} {f:Fo} (h:posE p f=0):patE f=0∧(p.1=[]∨qp p.1=true)∧0≤p.2∧p.2≤4096:=by
 unfold posE at h
 split at h
 ·rename_i hh;exact absurd h hh
 ·split at h
  ·cases h
  ·split at h
   ·cases h
   ·rename_i h1 h2 h3
    refine ⟨Decidable.not_not.1 h1,?_,by omega,by omega⟩
    by_cases hp:p.1=[]
    ·exact .inl hp
    ·right
     cases hn:qp p.1 with
     | true=>rfl
     | false=>exact absurd ⟨hp,hn⟩ h2
theorem q23 {R:Ending→World→Prop} {S:Nat→Prop} {w:World} {a:Option Addr} {n c:Nat} (p:Ps) (f:Fo) (hs:small f) (hF:Forms w) (hf0:SlF S w a n f)
  (h:∀ a' c' w',RowAt encP (fun k=>w.heap.size≤k) w' a' (posR p f).length (posR p f)→Ext w w'→R (.returned (.tuple ⟨[.slice a' (posR p f).length c',.int .i64 (posE p f)]⟩)) w') :
  Calls prog qdy ⟨[.agg ⟨[.string ⟨⟨p.1⟩⟩,.int .i64 p.2]⟩,.slice a n c]⟩ w R:=by
 apply qgx
 refine qh fun b4 w5 hb4 B4 e5 s5=>?_
 have er:∀ e w',posE p f=e→e≠0→Ext w w'→R (.returned (.tuple ⟨[.slice none 0 0,.int .i64 e]⟩)) w':=by
  intro e w' he h0 hx
  have hr:posR p f=[]:=by unfold posR;rw [if_pos (by rw [he];exact h0)]
  rw [hr,he] at h
  exact h none 0 w' (RowAt.nil _) hx
 refine qlv f hs (hF.ext e5) (hf0.ext e5) fun w7 e7=>⟨_,_,rfl,?_⟩
 have E7:=qb e5 e7
 refine qd (fun g=>er _ _ (by unfold posE;rw [if_pos g]) g E7) (fun g=>?_)
 have hp0:patE f=0:=Decidable.not_not.1 g
 obtain ⟨hc0,_,hpl,hpS⟩:=q7z hp0
 obtain ⟨q1,q2,q3⟩:=qby hc0
 intro K10 hK10
 have k10:∀ w11,Ext w7 w11→¬ (p.1≠[]∧qp p.1=false)→K10 w11:=by
  intro w11 e11 hno
  refine hK10 _ fun _=>?_
  have E11:=qb E7 e11
  obtain ⟨y0,y1⟩:=blk2 ((B4.ext e7).ext e11)
  intro K12 hK12
  have k12:posE p f=0→K12 w11:=by
   intro hz
   obtain ⟨_,_,z1,z2⟩:=q7t hz
   have hr:posR p f=posL p (qj f):=by unfold posR;rw [if_neg (by simp [hz])]
   rw [hr,hz] at h
   refine hK12 _ fun _=>⟨p.1,y0,p.2,y1,?_⟩
   refine q12 p f (by omega) q2 (by omega) z1 (by omega) (hf0.ext E11) fun a' c' w' hrow e'=>⟨_,_,_,rfl,?_⟩
   exact h a' c' w' (hrow.imp fun k hk _=>by have:=E11.size;omega) (qb E11 e')
  have pe:posE p f=if p.2 < 0∨4096 < p.2 then 2 else 0:=by unfold posE;rw [if_neg (by simp [hp0]),if_neg hno]
  refine ⟨p.2,y1,qd (fun g1=>er _ _ (by rw [pe,if_pos (.inl g1)]) (by decide) E11) (fun g1=>⟨p.2,y1,qd (fun g2=>er _ _ (by rw [pe,if_pos (.inr g2)]) (by decide) E11) (fun g2=>k12 (by rw [pe,if_neg (by omega)]))⟩)⟩
 obtain ⟨y0,y1⟩:=blk2 (B4.ext e7)
 refine ⟨p.1,y0,qd (fun g1=>⟨p.1,y0,qcg _ ⟨_,rfl,?_⟩⟩) (fun g1=>k10 _ (Below.refl _ _) fun hh=>g1 hh.1)⟩
 refine qm (fun g2=>?_) (fun g2=>?_)
 ·have g2':qp p.1=false:=by simpa using g2
  exact er _ _ (by unfold posE;rw [if_neg (by simp [hp0]),if_pos ⟨g1,g2'⟩]) (by decide) E7
 ·have g2':qp p.1=true:=by simpa using g2
  exact k10 _ (Below.refl _ _) fun hh=>by rw [g2'] at hh;exact absurd hh.2 (by decide)
end Go.Proofs
namespace Go.Sh
open Go Go.RowKit
open Go.WideElems (Fit)
open Go.Maps (Keyed)
def anyV:Value→Option (DataW Unit × List MemPlace):=fun _=>some (.nil,[])
def MapT {K V:Type} (P:Program) (k:TypeId) (eK:K→Value) (eV:V→Value) (w:World) (b n:Nat) (f:K→Option V):Prop :=
 ∃ es clock,w.heap[b]? = some (.map es clock)∧Fit P k anyV es clock∧es.size≤n ∧
  ∀ x,(f x=none∧∀ e∈es.toList,e.key≠eK x)∨∃ v,f x=some v∧∃ e∈es.toList,e.key=eK x∧e.val=eV v
section
variable {K V:Type} {P:Program} {k t e:TypeId} {eK:K→Value} {eV:V→Value} {w w':World} {b n:Nat} {f:K→Option V}
theorem MapT.made (w:World):MapT P k eK eV (w.alloc (.map #[] 0)) w.heap.size 0 (fun _=>none) :=
 ⟨#[],0,(MapKept.heap_alloc w _).1,⟨by simp,MapKept.stamped_empty 0,by simp⟩,Nat.le_refl _,fun x=>.inl ⟨rfl,by simp⟩⟩
theorem MapT.lt (h:MapT P k eK eV w b n f):b < w.heap.size:=by
 obtain ⟨es,clock,hb,_⟩:=h
 exact (Array.getElem?_eq_some_iff.1 hb).1
theorem MapT.keep (h:MapT P k eK eV w b n f) (hw:w'.heap[b]? = w.heap[b]?):MapT P k eK eV w' b n f:=by
 obtain ⟨es,clock,hb,h⟩:=h
 exact ⟨es,clock,hw.trans hb,h⟩
theorem MapT.ext (h:MapT P k eK eV w b n f) (hw:Ext w w'):MapT P k eK eV w' b n f:=h.keep (hw.block b h.lt)
theorem MapT.chg {S:Nat→Prop} (h:MapT P k eK eV w b n f) (hw:Chg S w w') (hs:¬ S b):MapT P k eK eV w' b n f:=h.keep (hw.block b h.lt hs)
theorem MapT.mono (h:MapT P k eK eV w b n f) {m:Nat} (hm:n≤m):MapT P k eK eV w b m f:=by
 obtain ⟨es,clock,hb,F,hs,h⟩:=h
 exact ⟨es,clock,hb,F,Nat.le_trans hs hm,h⟩
theorem MapT.look (h:MapT P k eK eV w b n f) (Kd:Keyed P k) (ht:P.underlying t=some (.map k e)) {z:Value} (hz:(zeroValue e).run P w=.ok z w) {x:K} {kl:Lit} (hkey:keyOf P k (eK x)=some kl) :
  lkAt P t (.map (some b)) (eK x) w (((f x).map eV).getD z):=by
 obtain ⟨es,clock,hb,F,_,hf⟩:=h
 unfold lkAt
 rcases Maps.fit_look false Kd ht hz hb F hkey with ⟨hrun,hno,_⟩ | ⟨e0,y,h1,h2,hrun,_⟩
 ·rcases hf x with ⟨h0,_⟩ | ⟨v,_,e1,he1,hk1,_⟩
  ·rw [h0];exact hrun
  ·exact absurd hk1 (hno e1 he1)
 ·rcases hf x with ⟨_,h0⟩ | ⟨v,hv,e1,he1,hk1,hv1⟩
  ·exact absurd h2 (h0 e0 h1)
  ·rw [hv]
   have:e0=e1:=by
    have hn:es.toList.Pairwise (fun x y=>x.key≠y.key):=((MapKept.stamped_iff es clock).1 F.stamped).2.2
    obtain ⟨i,hi,rfl⟩:=List.getElem_of_mem h1
    obtain ⟨j,hj,rfl⟩:=List.getElem_of_mem he1
    have:i=j:=by
     apply Classical.byContradiction
     intro hne
     rcases Nat.lt_or_gt_of_ne hne with hl | hl
     ·exact List.pairwise_iff_getElem.1 hn i j hi hj hl (h2.trans hk1.symm)
     ·exact List.pairwise_iff_getElem.1 hn j i hj hi hl (hk1.trans h2.symm)
    subst this;rfl
   subst this
   rw [hv1] at hrun
   simpa using hrun
theorem MapT.look2 (h:MapT P k eK eV w b n f) (Kd:Keyed P k) (ht:P.underlying t=some (.map k e)) {z:Value} (hz:(zeroValue e).run P w=.ok z w) {x:K} {kl:Lit} (hkey:keyOf P k (eK x)=some kl) :
  lkAt2 P t (.map (some b)) (eK x) w (((f x).map eV).getD z) (f x).isSome:=by
 obtain ⟨es,clock,hb,F,_,hf⟩:=h
 unfold lkAt2
 rcases Maps.fit_look true Kd ht hz hb F hkey with ⟨hrun,hno,_⟩ | ⟨e0,y,h1,h2,hrun,_⟩
 ·rcases hf x with ⟨h0,_⟩ | ⟨v,_,e1,he1,hk1,_⟩
  ·rw [h0];exact hrun
  ·exact absurd hk1 (hno e1 he1)
 ·rcases hf x with ⟨_,h0⟩ | ⟨v,hv,e1,he1,hk1,hv1⟩
  ·exact absurd h2 (h0 e0 h1)
  ·rw [hv]
   have:e0=e1:=by
    have hn:es.toList.Pairwise (fun x y=>x.key≠y.key):=((MapKept.stamped_iff es clock).1 F.stamped).2.2
    obtain ⟨i,hi,rfl⟩:=List.getElem_of_mem h1
    obtain ⟨j,hj,rfl⟩:=List.getElem_of_mem he1
    have:i=j:=by
     apply Classical.byContradiction
     intro hne
     rcases Nat.lt_or_gt_of_ne hne with hl | hl
     ·exact List.pairwise_iff_getElem.1 hn i j hi hj hl (h2.trans hk1.symm)
     ·exact List.pairwise_iff_getElem.1 hn j i hj hi hl (hk1.trans h2.symm)
    subst this;rfl
   subst this
   rw [hv1] at hrun
   simpa using hrun
theorem MapT.update (h:MapT P k eK eV w b n f) (Kd:Keyed P k) (ht:P.underlying t=some (.map k e)) (hn:n < maxLen) {x:K} {v:V} {kl:Lit} (hkey:keyOf P k (eK x)=some kl) (hinj:∀ y,eK y=eK x→y=x) {Q:World→Prop}
  (hq:∀ (w':World) (g:K→Option V),MapT P k eK eV w' b (n + 1) g→Chg (fun j=>j=b) w w'→g x=some v→(∀ y,y≠x→g y=f y)→Q w'):mupd P t (.map (some b)) (eK x) (eV v) w Q:=by
 have hlt:=h.lt
 obtain ⟨es,clock,hb,F,hs,hf⟩:=h
 have hsz:es.size < maxLen:=Nat.lt_of_le_of_lt hs hn
 have chg:∀ o,Chg (fun j=>j=b) w (ChangeMaps.setBlock w b o):=fun o=>⟨rfl,rfl,rfl,by simp [ChangeMaps.setBlock],fun i _ hi=>ChangeMaps.heap_setBlock_other hb _ hi⟩
 have fin:∀ es' clock',(Instr.mapUpdate t (.map (some b)) (eK x) (eV v)).run P w=.ok () (ChangeMaps.setBlock w b (.map es' clock'))→Fit P k anyV es' clock'→es'.size≤n + 1 →
   (∃ e1∈es'.toList,e1.key=eK x∧e1.val=eV v)→(∀ e0∈es.toList,e0.key≠eK x→e0∈es'.toList)→(∀ e1∈es'.toList,e1.key≠eK x→e1∈es.toList) →
   mupd P t (.map (some b)) (eK x) (eV v) w Q:=by
  intro es' clock' hrun F' hs' hnew hold hback
  classical
  refine ⟨_,hrun,hq _ (fun y=>if y=x then some v else f y) ⟨es',clock',ChangeMaps.heap_setBlock_same hb _,F',hs',fun y=>?_⟩ (chg _) (by simp) (fun y hy=>by simp [hy])⟩
  by_cases hy:y=x
  ·subst hy
   obtain ⟨e1,h1,h2,h3⟩:=hnew
   exact .inr ⟨v,by simp,e1,h1,h2,h3⟩
  ·have hne:eK y≠eK x:=fun e=>hy (hinj y e)
   rcases hf y with ⟨h0,h1⟩ | ⟨u,hu,e1,h1,h2,h3⟩
   ·refine .inl ⟨by simp [hy,h0],fun e1 he1 hk=>?_⟩
    exact h1 e1 (hback e1 he1 (by rw [hk];exact hne)) hk
   ·exact .inr ⟨u,by simp [hy,hu],e1,hold e1 h1 (by rw [h2];exact hne),h2,h3⟩
 rcases Kd.find w hkey es.toList F.keys with ⟨h1,h2⟩ | ⟨j,e0,h1,h2,h3⟩
 ·refine fin (es.push ⟨eK x,eV v,clock⟩) (clock + 1) ?_ ⟨by simp;omega,MapKept.stamped_push F.stamped h2,?_⟩ (by simp;omega) ⟨⟨eK x,eV v,clock⟩,by simp,rfl,rfl⟩ (fun e0 h0 _=>by simp at h0 ⊢;exact .inl h0) (fun e1 h1 hne=>?_)
  ·simp [Instr.mapUpdate,run_underlying ht,MapKept.run_getObj_map hb,Kd.check w false hkey,h1,MapKept.run_setObj_map _ hb,Result.andThen,ChangeMaps.setBlock]
  ·intro y hy
   simp only [Array.toList_push,List.mem_append,List.mem_singleton] at hy
   rcases hy with hy | rfl
   ·exact F.reads y hy
   ·exact ⟨_,WideElems.rd_mk hkey rfl⟩
  ·simp only [Array.toList_push,List.mem_append,List.mem_singleton] at h1
   rcases h1 with h1 | rfl
   ·exact h1
   ·exact absurd rfl hne
 ·have hj:es[j]? = some e0:=by simpa using h2
  have hjl:j < es.toList.length:=(List.getElem?_eq_some_iff.1 h2).1
  have hkeyf:∀ e',es[j]? = some e'→({ e' with key:=eK x,val:=eV v }:MapEntry).key=e'.key:=fun e' he'=>by rw [hj] at he';cases he';exact h3.symm
  have hlist:(es.modify j (fun e'=>{ e' with key:=eK x,val:=eV v })).toList=es.toList.set j { e0 with key:=eK x,val:=eV v }:=by
   apply List.ext_getElem?
   intro i
   simp only [Array.getElem?_toList,Array.getElem?_modify,List.getElem?_set]
   by_cases hi:j=i
   ·subst hi;simp [hj];exact (Array.getElem?_eq_some_iff.1 hj).1
   ·simp [hi]
  refine fin (es.modify j (fun e'=>{ e' with key:=eK x,val:=eV v })) clock ?_ ⟨by simpa using F.size,MapKept.stamped_modify F.stamped _ _ (fun _ _=>rfl) (fun e' _ he'=>hkeyf e' he'),?_⟩ (by simp;omega) ?_ ?_ ?_
  ·simp [Instr.mapUpdate,run_underlying ht,MapKept.run_getObj_map hb,Kd.check w false hkey,h1,hj,h3,Kd.stays w hkey,MapKept.run_setObj_map _ hb,Result.andThen,ChangeMaps.setBlock]
  ·intro y hy
   rw [hlist] at hy
   rcases List.mem_or_eq_of_mem_set hy with hy | rfl
   ·exact F.reads y hy
   ·exact ⟨_,WideElems.rd_mk hkey rfl⟩
  ·exact ⟨{ e0 with key:=eK x,val:=eV v },by rw [hlist];exact List.mem_iff_getElem.2 ⟨j,by simpa using hjl,by simp⟩,rfl,rfl⟩
  ·intro y hy hne
   rw [hlist]
   obtain ⟨i,hi,rfl⟩:=List.getElem_of_mem hy
   have hij:j≠i:=fun e=>by
    subst e
    have:es.toList[j]=e0:=by rw [List.getElem?_eq_getElem hjl] at h2;exact Option.some.inj h2
    rw [this] at hne;exact hne h3
   exact List.mem_iff_getElem.2 ⟨i,by simpa using hi,by rw [List.getElem_set_ne hij]⟩
  ·intro y hy hne
   rw [hlist] at hy
   rcases List.mem_or_eq_of_mem_set hy with hy | rfl
   ·exact hy
   ·exact absurd rfl hne
end
theorem qrd {w:World} {K:Nat→World→Prop}
  (h:∀ b w',b=w.heap.size→(∀ {A V:Type} (P:Program) (k:TypeId) (eK:A→Value) (eV:V→Value),MapT P k eK eV w' b 0 (fun _=>none))→Ext w w'→w'.heap.size=b + 1→K b w'):mkm w K :=
 h _ _ rfl (fun P k eK eV=>MapT.made w) ((Below.refl _ w).alloc (Nat.le_refl _) _) (by simp)
end Go.Sh
namespace Go.Proofs
open Go Go.Sh Go.RowKit Go.Proofs.Tryz IntKind
def ofK (kind:Int) (f:Fo):List Nn:=(qj f).filter fun x=>decide (x.k=kind)
theorem ofK_cons (kind:Int) (k t n) (ps r:Fo):ofK kind (.cons k t n ps r)=(if k=kind then [⟨k,t,n,ps⟩] else [])++(ofK kind ps++ofK kind r):=by
 unfold ofK
 rw [qj,List.filter_cons,List.filter_append]
 by_cases h:k=kind
 ·simp [h]
 ·simp [h]
theorem kd9:Maps.Keyed prog 9:=Maps.string_keyed (by kernel_rfl)
abbrev eS (s:List UInt8):Value:=.string ⟨⟨s⟩⟩
abbrev eB (b:Bool):Value:=.bool b
theorem keyS {s:List UInt8} (h:s.length≤4611686018427387904):keyOf prog 9 (eS s)=some (.string s) :=
 WideMaps.keyOf_string_mk (P:=prog) (by kernel_rfl) (show (⟨⟨s⟩⟩:ByteArray).size≤maxLen by simp only [maxLen];show s.length≤_;omega)
theorem qw9 {P:Program} {T:TypeId} {v:Value} (h:(P.info? T).bind (·.zero)=some v) (w:World):(zeroValue T).run P w=.ok v w:=by
 cases hi:P.info? T with
 | none=>rw [hi] at h;cases h
 | some i =>
  rw [hi] at h
  have hz:i.zero=some v:=h
  simp [zeroValue,typeInfo,hi,hz]
abbrev Rw:=List UInt8 × List UInt8
def encRw:Enc Rw:=⟨fun x=>[.string ⟨⟨x.1⟩⟩,.string ⟨⟨x.2⟩⟩],2,fun _=>rfl,by decide,by intro x v hv;simp only [List.mem_cons,List.not_mem_nil,or_false] at hv;rcases hv with rfl | rfl <;> rfl⟩
structure Lx where
 k:Int
 nm:List UInt8
 vl:List UInt8
 pos:Int
def encX:Enc Lx:=⟨fun x=>[.int .i64 x.k,.string ⟨⟨x.nm⟩⟩,.string ⟨⟨x.vl⟩⟩,.int .i64 x.pos],4,fun _=>rfl,by decide,by intro x v hv;simp only [List.mem_cons,List.not_mem_nil,or_false] at hv;rcases hv with rfl | rfl | rfl | rfl <;> rfl⟩
abbrev aggX (x:Lx):Value:=.agg ⟨[.int .i64 x.k,.string ⟨⟨x.nm⟩⟩,.string ⟨⟨x.vl⟩⟩,.int .i64 x.pos]⟩
def innF (nm vl:List UInt8):List UInt8:=if vl≠[] then nm++([32]++vl) else nm
def textF (x:Lx):List UInt8 :=
 if x.k=2 then ([60]++innF x.nm x.vl)++[62] else if x.k=3 then ([60,47]++innF x.nm x.vl)++[62] else if x.k=4 then ([60]++innF x.nm x.vl)++[47,62] else x.vl
theorem blk4x {w:World} {b:Nat} {x:Lx} {T:TypeId} (h:Blk w b [.int .i64 x.k,.string ⟨⟨x.nm⟩⟩,.string ⟨⟨x.vl⟩⟩,.int .i64 x.pos] T) :
  w.cell? ((⟨b,0,none⟩:Addr).add 0)=some (.int .i64 x.k)∧w.cell? ((⟨b,0,none⟩:Addr).add 1)=some (.string ⟨⟨x.nm⟩⟩)∧w.cell? ((⟨b,0,none⟩:Addr).add 2)=some (.string ⟨⟨x.vl⟩⟩)∧w.cell? ((⟨b,0,none⟩:Addr).add 3)=some (.int .i64 x.pos):=by
 simp only [qg,h.cell];exact ⟨rfl,rfl,rfl,rfl⟩
theorem q3h {R:Ending→World→Prop} {w:World} (x:Lx) (h1:x.nm.length≤1000000000) (h2:x.vl.length≤1000000000) (h:∀ w',Ext w w'→R (.returned (.string ⟨⟨textF x⟩⟩)) w'):Calls prog qjg ⟨[aggX x]⟩ w R:=by
 apply q50
 refine qh fun b5 w6 hb5 B5 e6 s6=>?_
 obtain ⟨c0,c1,c2,c3⟩:=blk4x B5
 have hr:=h w6 e6
 unfold textF at hr
 refine ⟨_,c1,?_⟩
 intro K8 hK8
 have k8:∀ inner,inner=innF x.nm x.vl→inner.length≤3000000000→K8 inner w6:=by
  rintro _ rfl hl
  refine hK8 _ _ fun _=>⟨_,c0,qd (fun g=>?_) (fun g2=>qd (fun g=>?_) (fun g3=>qd (fun g=>?_) (fun g4=>⟨_,c2,?_⟩)))⟩
  ·rw [if_pos g] at hr
   exact ⟨by simp;omega,by simp;omega,hr⟩
  ·rw [if_neg g2,if_pos g] at hr
   exact ⟨by simp;omega,by simp;omega,hr⟩
  ·rw [if_neg g2,if_neg g3,if_pos g] at hr
   exact ⟨by simp;omega,by simp;omega,hr⟩
  ·rw [if_neg g2,if_neg g3,if_neg g4] at hr
   exact hr
 refine ⟨_,c2,qd (fun g=>⟨_,c2,by simp;omega,by simp;omega,k8 _ ?_ ?_⟩) (fun g=>k8 _ ?_ ?_)⟩
 ·unfold innF;rw [if_pos g]
 ·simp;omega
 ·unfold innF;rw [if_neg g]
 ·omega
theorem qy4 {R:Ending→World→Prop} {w:World} (s:List UInt8) (h:R (.returned (.bool (decide (s=[])))) w):Calls prog qtc ⟨[.string ⟨⟨s⟩⟩]⟩ w R:=q53 h
theorem qy2 {R:Ending→World→Prop} {w:World} (n:Int) (h:∀ b w',b=w.heap.size→Blk w' b [.int .i64 n] 3→Ext w w'→w'.heap.size=b + 1→R (.returned (.func (.func 284) ⟨[]⟩ ⟨[.pointer (some ⟨b,0,none⟩)]⟩)) w'):Calls prog ql5 ⟨[.int .i64 n]⟩ w R:=by
 apply qz4
 exact qh fun b w' hb B e s=>h b w' hb B e s
def cutX (t:List UInt8):Nat :=
 if t.head? = some 60 then (if 0≤Lib.indexByte t 62 then (Lib.indexByte t 62).toNat + 1 else t.length)
 else if 0≤Lib.indexByte t 60 then (Lib.indexByte t 60).toNat else t.length
theorem qua {c:UInt8} {r:List UInt8}:1≤cutX (c :: r)∧cutX (c :: r)≤(c :: r).length:=by
 have lt:∀ {x:UInt8},0≤Lib.indexByte (c :: r) x→(Lib.indexByte (c :: r) x).toNat < (c :: r).length:=fun {x} hx=>by
  obtain ⟨h1,_⟩:=Lib.indexByte_some (l:=c :: r) (c:=x) (o:=(Lib.indexByte (c :: r) x).toNat) (by omega)
  exact (List.getElem?_eq_some_iff.1 h1).1
 unfold cutX
 split
 ·split
  ·rename_i h;have:=lt h;omega
  ·simp
 ·rename_i hc
  split
  ·rename_i h
   have:=lt h
   obtain ⟨h1,_⟩:=Lib.indexByte_some (l:=c :: r) (c:=60) (o:=(Lib.indexByte (c :: r) 60).toNat) (by omega)
   refine ⟨?_,by omega⟩
   apply Classical.byContradiction
   intro h0
   have:(Lib.indexByte (c :: r) 60).toNat=0:=by omega
   rw [this] at h1
   simp at h1 hc
   exact hc h1
  ·simp
def qbj:List UInt8→Nat→List (Nat × List UInt8)
 | [],_=>[]
 | c :: r,at_=>(at_,(c :: r).take (cutX (c :: r))) :: qbj ((c :: r).drop (cutX (c :: r))) (at_ + cutX (c :: r))
 termination_by t=>t.length
 decreasing_by
  have:=qua (c:=c) (r:=r)
  rw [List.length_drop];omega
structure TagV where
 nm:List UInt8
 em:Bool
 f:Fn
 fa:Array Value
 fb:Array Value
def encT:Enc TagV:=⟨fun x=>[.string ⟨⟨x.nm⟩⟩,.bool x.em,.func x.f x.fa x.fb],3,fun _=>rfl,by decide,by intro x v hv;simp only [List.mem_cons,List.not_mem_nil,or_false] at hv;rcases hv with rfl | rfl | rfl <;> rfl⟩
def tagsV (b8 b64:Nat):List TagV :=
 let hand:List UInt8→TagV:=fun nm=>⟨nm,false,.func 284,⟨[]⟩,⟨[.pointer (some ⟨b8,0,none⟩)]⟩⟩
 [⟨[97,98],false,.func 174,#[],#[]⟩,hand [97,100,100],hand [100,101,108],⟨[103,97,112],true,.func 284,⟨[]⟩,⟨[.pointer (some ⟨b64,0,none⟩)]⟩⟩,⟨[108,98],true,.func 276,#[],#[]⟩,⟨[110,97,109,101],false,.func 90,#[],#[]⟩,
  ⟨[112,98],true,.func 90,#[],#[]⟩,⟨[115,101,99],true,.func 90,#[],#[]⟩,⟨[117,110,99,108,101,97,114],false,.func 276,#[],#[]⟩,⟨[118],true,.func 276,#[],#[]⟩]
theorem tags_spec {R:Ending→World→Prop} {w:World}
  (h:∀ b8 b64 bt w',w.heap.size≤b8→w.heap.size≤b64→Blk w' b8 [.int .i64 8] 3→Blk w' b64 [.int .i64 64] 3→RowAt encT (fun k=>w.heap.size≤k) w' (some ⟨bt,0,none⟩) 10 (tagsV b8 b64)→Ext w w'→R (.returned (.slice (some ⟨bt,0,none⟩) 10 10)) w') :
  Calls prog qta ⟨[]⟩ w R:=by
 apply q51
 refine qy2 8 fun b8 w2 hb8 B8 e2 s2=>⟨_,_,_,rfl,?_⟩
 refine qy2 64 fun b64 w5 hb64 B64 e5 s5=>⟨_,_,_,rfl,?_⟩
 refine qh fun bt w8 hbt Bt e8 s8=>?_
 refine h b8 b64 bt w8 (by omega) (by omega) ((B8.ext e5).ext e8) (B64.ext e8) ⟨rfl,.inr ⟨bt,0,rfl,by show w.heap.size≤bt;omega,Bt.lt,fun j v hj=>?_⟩⟩ (qb (qb e2 e5) e8)
 rw [Nat.zero_add,Bt.cell];exact hj
end Go.Proofs
