/- The contracts of the functions that the law reaches, one after the other, and at the end the law's card. -/
import Derived.Test.YtkecgnlelgdndaaGreatDoorLawG
import Derived.Lib.Replace
import Derived.Lib.SliceRun
set_option linter.all false
set_option maxRecDepth 20000
namespace Go.Proofs
open Go Go.Sh Go.RowKit Go.Proofs.Tryz IntKind
theorem owns_cap {w:World} {B:Nat} {e:TypeId} {size:Nat} {a:Option Addr} {n c:Nat} {xs:List Value} (h:Owns w B e size a n c xs):n≤c:=by
 obtain ⟨_,h | ⟨g,cap,cur,h,_,_,h2,_⟩⟩:=h
 ·omega
 ·simp only [Value.slice.injEq] at h;omega
theorem q3l {e:TypeId} {S:Nat→Prop} {B:Nat} {w:World} {a:Option Addr} {n c:Nat} {f:Fo} (h:OwnF e S B w a n c f):n≤c:=by
 obtain ⟨_,xs,h,_⟩:=h
 exact owns_cap h
theorem q9p:∀ (f:Fo) {R:Ending→World→Prop} {S:Nat→Prop} {w:World} {a:Option Addr} {n c:Nat},f.size≤1000000000→tlen f≤4611686018427387904→SlF S w a n f →
  (∀ a' n' c' w',n'≤c'→SlF (fun k=>S k∨w.heap.size≤k) w' a' n' (qam f)→Ext w w'→R (.returned (.slice a' n' c')) w')→Calls prog qdi ⟨[.slice a n c]⟩ w R:=by
 intro f
 intro R S w a n c hs ht hf0 h
 apply qgc
 have hn:=hf0.1
 have hfl:=f.len_le_size
 have hf:SlF (fun k=>S k∧k < w.heap.size) w a n f:=hf0.imp fun k hk hl=>⟨hk,hl⟩
 refine ⟨fun oa on oc i W m=>∃ (p r out:Fo),f=p.app r∧i=p.len∧m=r.len∧OwnF 56 (fun k=>S k∧k < w.heap.size) w.heap.size W oa on oc out∧out.len≤p.len∧(∀ pre k t m ps,out=Fo.app pre (.one k t m ps)→t.length≤tlen p)∧Ext w W∧qam f=mgo r out,
  ⟨_,.nil,f,.nil,rfl,rfl,rfl,OwnF.nil w,by simp,?_,Below.refl _ _,rfl⟩,?_⟩
 ·intro pre k t m ps he
  have:=congrArg Fo.len he;simp [Fo.one] at this
 rintro oa on oc _ W m ⟨p,r,out,hpr,rfl,rfl,hout,holen,hlast,he,heq⟩ _
 have hon:=hout.len
 have hwW:=he.size
 refine qd (fun hlt=>?_) (fun hge=>?_)
 ·obtain ⟨k,t,mm,ps,r,rfl⟩:=Fo.next hpr (by omega)
  have hsl:=Fo.sub_len hpr
  have hsz:=Fo.sub_size hpr
  have htl:tlen f=tlen p + (t.length + tlen ps + tlen r):=by rw [hpr,qco];rfl
  have e1:f=(p.app (.one k t mm ps)).app r:=by rw [Fo.app_one_app];exact hpr
  have i1:i64.wrap ((p.len:Int) + 1)=((p.app (.one k t mm ps)).len:Int):=by rw [qj (by omega)];simp [Fo.one]
  have t1:tlen (p.app (.one k t mm ps))=tlen p + (t.length + tlen ps):=by rw [qco];simp [Fo.one,tlen]
  rw [mgo] at heq
  -- what every way ends in
  have done:∀ (oa':Option Addr) (on' oc':Nat) (W':World),OwnF 56 (fun k=>S k∧k < w.heap.size) w.heap.size W' oa' on' oc' (snocM out k t mm (mgo ps .nil))→Ext w W' →
    ∃ m42,m42 < (Fo.cons k t mm ps r).len∧∃ (p' r' out':Fo),f=p'.app r'∧i64.wrap ((p.len:Int) + 1)=p'.len∧m42=r'.len∧OwnF 56 (fun k=>S k∧k < w.heap.size) w.heap.size W' oa' on' oc' out'∧out'.len≤p'.len∧(∀ pre k t m ps,out'=Fo.app pre (.one k t m ps)→t.length≤tlen p')∧Ext w W'∧qam f=mgo r' out':=by
   intro oa' on' oc' W' ho' he'
   refine ⟨r.len,by simp,_,r,_,e1,i1,rfl,ho',?_,?_,he',heq⟩
   ·have:=qvu out k t mm (mgo ps .nil)
    simp [Fo.one];omega
   ·intro pre k1 t1' m1 ps1 hsn
    have:=qoo hlast pre k1 t1' m1 ps1 hsn
    omega
  obtain ⟨q,a',c',hq,hSq,hql,hN⟩:=(hf.ext he).get hpr
  refine hq _ ⟨k,hN.kind,t,hN.text,mm,hN.num,a',ps.len,c',hN.parts,?_⟩
  refine qw (by simp) (by intro u hu;simp only [List.mem_cons,List.not_mem_nil,or_false] at hu;rcases hu with rfl | rfl | rfl | rfl <;> rfl) fun bx w1 hbx hBx e2 s2=>?_
  obtain ⟨x0,x1,x2,x3⟩:=blk4 hBx
  have E1:=qb he e2
  have ho1:=hout.ext e2
  have hzz:=e2.size
  intro K16 hK16
  have k16:¬ (k=1∧t=[])→K16 w1:=by
   intro hne
   refine hK16 _ fun _=>?_
   intro K18 hK18
   have k18:∀ g,g=decide (k=1∧lastT out=true)→K18 g w1:=by
    rintro _ rfl
    refine hK18 _ _ fun _=>qd (fun g=>?_) (fun g=>?_)
    ·have hsn:snocM out k t mm (mgo ps .nil)=addL out t:=by unfold snocM;rw [if_neg hne,if_pos g]
     rcases qdh out with rfl | ⟨pre,k2,t2,n2,ps2,rfl⟩
     ·simp [lastT] at g
     rw [qbw] at hsn
     have hdr:=qs w1
     obtain ⟨q2,hq2,l0,l1,lst⟩:=(ho1.ext hdr).last
     have onl:on=pre.len + 1:=by rw [hon];simp [Fo.one]
     have e:i64.wrap ((on:Int) - 1)=(pre.len:Int):=by rw [qeh (by omega) (by omega),onl];simp
     have hl2:=hlast pre k2 t2 n2 ps2 rfl
     unfold drw
     rw [e]
     refine hq2 _ ⟨t2,l1,t,(blk4 (hBx.ext hdr)).2.1,by omega,hq2 _ ⟨lst _ _ fun w3 ho3 hc3=>?_,trivial⟩⟩
     refine done _ _ _ w3 (by rw [hsn];exact ho3) ?_
     exact qi (qb E1 hdr) hc3 fun j hj=>((ho1.ext hdr).bk hj).1
    ·have hsn:snocM out k t mm (mgo ps .nil)=out.app (.one k t mm (qam ps)):=by unfold snocM;rw [if_neg hne,if_neg g];rfl
     refine ⟨a',ps.len,c',x3,?_⟩
     refine q2g ps (S:=fun k=>S k∧k < w.heap.size) (by omega) (by omega) (hN.sl.ext e2) fun a3 n3 c3 w3 hsl3 e3=>⟨_,_,_,rfl,?_⟩
     have hBx3:=hBx.ext e3
     have hn3:=hsl3.1
     rw [qg]
     refine qae hBx3 (by simp) (by intro u hu;simp only [List.mem_singleton] at hu;subst hu;rfl) fun w4 b1 b2 b3 b4 b5 b6=>?_
     simp only [putAt,List.set] at b1
     have hc4:Chg (· = bx) w3 w4:=⟨b4,b5,b6,by omega,fun k _ hk=>b2 k hk⟩
     have E4:Ext w w4:=qi (qb E1 e3) hc4 fun j hj=>by omega
     have z3:=e3.size
     have EW4:Ext W w4:=qi (qb e2 e3) hc4 fun j hj=>by omega
     have ho4:=hout.ext EW4
     have z4:=EW4.size
     have hp4:SlF (fun j=>(S j∧j < w.heap.size)∨w1.heap.size≤j) w4 a3 n3 (qam ps):=hsl3.chg hc4 fun j hj he=>by
      subst he;rcases hj with hj | hj <;> omega
     subst hn3
     obtain ⟨y0,y1,y2,y3⟩:=blk4 b1
     refine ⟨k,y0,t,y1,mm,y2,a3,_,c3,y3,?_⟩
     refine OwnF.push qa1 ho4 (by omega) (qel hp4 (fun j hj=>hj.2) hout (by omega) (by omega)) (by omega) (by omega) fun a5 n5 c5 w5 ho5 hc5=>?_
     refine done a5 n5 c5 w5 (by rw [hsn];exact ho5) ?_
     exact qi E4 hc5 fun j hj=>(hout.bk hj).1
   have lt:∀ (pre:Fo) (k2:Int) (t2:List UInt8) (m2:Int) (ps2:Fo),out=pre.app (.one k2 t2 m2 ps2)→lastT out=decide (k2=1)∧on=pre.len + 1:=fun pre k2 t2 m2 ps2 hv=>by
    subst hv;exact ⟨qcy ..,by rw [hon];simp [Fo.one]⟩
   rcases qdh out with hv | ⟨pre,k2,t2,m2,ps2,hv⟩
   ·subst hv
    have:on=0:=hon
    subst this
    refine qd (fun g=>?_) (fun g=>k18 _ (by simp [lastT]))
    rw [qu (by omega)] at g;simp at g
   ·obtain ⟨hl1,hl2⟩:=lt _ _ _ _ _ hv
    have e:i64.wrap ((on:Int) - 1)=(pre.len:Int):=by rw [qeh (by omega) (by omega),hl2];simp
    rw [e]
    refine qd (fun g=>⟨k,x0,qd (fun g2=>?_) (fun g2=>k18 _ (by simp [g2]))⟩) (fun g=>absurd (by omega) g)
    subst hv
    obtain ⟨q2,hq2,l0,l1,lst⟩:=ho1.last
    exact hq2 _ ⟨k2,l0,k18 _ (by rw [hl1];simp [g2])⟩
  refine ⟨k,x0,qd (fun g=>⟨t,x1,qd (fun g2=>?_) (fun g2=>k16 fun hh=>g2 hh.2)⟩) (fun g=>k16 fun hh=>g hh.1)⟩
  exact done oa on oc w1 (by unfold snocM;rw [if_pos ⟨g,g2⟩];exact ho1) E1
 ·obtain ⟨rfl,rfl⟩:=Fo.last hpr (by omega)
  rw [heq] at h
  refine h oa on oc W (q3l hout) (hout.out.imp fun k hk _=>hk.imp (fun h=>h.1) id) he
theorem q7l:∀ (f:Fo) {R:Ending→World→Prop} {S:Nat→Prop} {w:World} {a:Option Addr} {n c:Nat},f.size≤1000000000→tlen f≤4611686018427387904→SlF S w a n f →
  (∀ a' n' c' w',n'≤c'→SlF (fun k=>S k∨w.heap.size≤k) w' a' n' (qam f)→Ext w w'→R (.returned (.slice a' n' c')) w')→Calls prog qin ⟨[.slice a n c]⟩ w R:=by
 intro f
 intro R S w a n c hs ht hf0 h
 apply qqc
 have hn:=hf0.1
 have hfl:=f.len_le_size
 have hf:SlF (fun k=>S k∧k < w.heap.size) w a n f:=hf0.imp fun k hk hl=>⟨hk,hl⟩
 refine qh fun b0 w0 hb0 hB0 e0 s0=>?_
 refine ⟨fun oa on oc i W m=>∃ (p r out:Fo),f=p.app r∧i=p.len∧m=r.len∧OwnF 56 (fun k=>S k∧k < w.heap.size) w.heap.size W oa on oc out∧out.len≤p.len∧(∀ pre k t m ps,out=Fo.app pre (.one k t m ps)→t.length≤tlen p)∧Ext w W∧qam f=mgo r out,
  ⟨_,.nil,f,.nil,rfl,rfl,rfl,⟨rfl,[],Owns.made hB0 (by omega),rfl⟩,by simp,?_,e0,rfl⟩,?_⟩
 ·intro pre k t m ps he
  have:=congrArg Fo.len he;simp [Fo.one] at this
 rintro oa on oc _ W m ⟨p,r,out,hpr,rfl,rfl,hout,holen,hlast,he,heq⟩ _
 have hon:=hout.len
 have hwW:=he.size
 refine qd (fun hlt=>?_) (fun hge=>?_)
 ·obtain ⟨k,t,mm,ps,r,rfl⟩:=Fo.next hpr (by omega)
  have hsl:=Fo.sub_len hpr
  have hsz:=Fo.sub_size hpr
  have htl:tlen f=tlen p + (t.length + tlen ps + tlen r):=by rw [hpr,qco];rfl
  have e1:f=(p.app (.one k t mm ps)).app r:=by rw [Fo.app_one_app];exact hpr
  have i1:i64.wrap ((p.len:Int) + 1)=((p.app (.one k t mm ps)).len:Int):=by rw [qj (by omega)];simp [Fo.one]
  have t1:tlen (p.app (.one k t mm ps))=tlen p + (t.length + tlen ps):=by rw [qco];simp [Fo.one,tlen]
  rw [mgo] at heq
  have done:∀ (oa':Option Addr) (on' oc':Nat) (W':World),OwnF 56 (fun k=>S k∧k < w.heap.size) w.heap.size W' oa' on' oc' (snocM out k t mm (mgo ps .nil))→Ext w W' →
    ∃ m42,m42 < (Fo.cons k t mm ps r).len∧∃ (p' r' out':Fo),f=p'.app r'∧i64.wrap ((p.len:Int) + 1)=p'.len∧m42=r'.len∧OwnF 56 (fun k=>S k∧k < w.heap.size) w.heap.size W' oa' on' oc' out'∧out'.len≤p'.len∧(∀ pre k t m ps,out'=Fo.app pre (.one k t m ps)→t.length≤tlen p')∧Ext w W'∧qam f=mgo r' out':=by
   intro oa' on' oc' W' ho' he'
   refine ⟨r.len,by simp,_,r,_,e1,i1,rfl,ho',?_,?_,he',heq⟩
   ·have:=qvu out k t mm (mgo ps .nil)
    simp [Fo.one];omega
   ·intro pre k1 t1' m1 ps1 hsn
    have:=qoo hlast pre k1 t1' m1 ps1 hsn
    omega
  obtain ⟨q,a',c',hq,hSq,hql,hN⟩:=(hf.ext he).get hpr
  refine hq _ ⟨k,hN.kind,t,hN.text,mm,hN.num,a',ps.len,c',hN.parts,?_⟩
  refine qw (by simp) (by intro u hu;simp only [List.mem_cons,List.not_mem_nil,or_false] at hu;rcases hu with rfl | rfl | rfl | rfl <;> rfl) fun bx w1 hbx hBx e2 s2=>?_
  obtain ⟨x0,x1,x2,x3⟩:=blk4 hBx
  have E1:=qb he e2
  have ho1:=hout.ext e2
  have hzz:=e2.size
  intro K18 hK18
  have k18:¬ (k=1∧t=[])→K18 w1:=by
   intro hne
   refine hK18 _ fun _=>?_
   intro K20 hK20
   -- the parts have been merged
   have k20:∀ (a3:Option Addr) (c3:Nat) (w4:World),Ext W w4→Blk w4 bx [.int .i64 k,.string ⟨⟨t⟩⟩,.int .i64 mm,.slice a3 (qam ps).len c3] 56→SlF (fun j=>(S j∧j < w.heap.size)∨w1.heap.size≤j) w4 a3 (qam ps).len (qam ps)→K20 w4:=by
    intro a3 c3 w4 EW4 b1 hp4
    obtain ⟨y0,y1,y2,y3⟩:=blk4 b1
    have E4:=qb he EW4
    have ho4:=hout.ext EW4
    have z4:=EW4.size
    refine hK20 _ fun _=>?_
    intro K22 hK22
    have k22:∀ g,g=decide (k=1∧lastT out=true)→K22 g w4:=by
     rintro _ rfl
     refine hK22 _ _ fun _=>qd (fun g=>?_) (fun g=>?_)
     ·have hsn:snocM out k t mm (mgo ps .nil)=addL out t:=by unfold snocM;rw [if_neg hne,if_pos g]
      rcases qdh out with rfl | ⟨pre,k2,t2,n2,ps2,rfl⟩
      ·simp [lastT] at g
      rw [qbw] at hsn
      have hdr:=qs w4
      obtain ⟨q2,hq2,l0,l1,lst⟩:=(ho4.ext hdr).last
      have onl:on=pre.len + 1:=by rw [hon];simp [Fo.one]
      have e:i64.wrap ((on:Int) - 1)=(pre.len:Int):=by rw [qeh (by omega) (by omega),onl];simp
      have hl2:=hlast pre k2 t2 n2 ps2 rfl
      unfold drw
      rw [e]
      refine hq2 _ ⟨t2,l1,t,(blk4 (b1.ext hdr)).2.1,by omega,hq2 _ ⟨lst _ _ fun w5 ho5 hc5=>?_,trivial⟩⟩
      refine done _ _ _ w5 (by rw [hsn];exact ho5) ?_
      exact qi (qb E4 hdr) hc5 fun j hj=>((ho4.ext hdr).bk hj).1
     ·have hsn:snocM out k t mm (mgo ps .nil)=out.app (.one k t mm (qam ps)):=by unfold snocM;rw [if_neg hne,if_neg g];rfl
      refine ⟨k,y0,t,y1,mm,y2,a3,_,c3,y3,?_⟩
      refine OwnF.push qa1 ho4 (by omega) (qel hp4 (fun j hj=>hj.2) hout (by omega) (by omega)) (by omega) (by omega) fun a5 n5 c5 w5 ho5 hc5=>?_
      refine done a5 n5 c5 w5 (by rw [hsn];exact ho5) ?_
      exact qi E4 hc5 fun j hj=>(hout.bk hj).1
    rcases qdh out with hv | ⟨pre,k2,t2,m2,ps2,hv⟩
    ·subst hv
     have:on=0:=hon
     subst this
     refine ⟨k,y0,qd (fun g=>qd (fun g2=>absurd g2 (by omega)) (fun g2=>k22 _ (by simp [lastT]))) (fun g=>k22 _ (by simp [lastT]))⟩
    ·have hl1:lastT out=decide (k2=1):=by rw [hv,qcy]
     have hl2:on=pre.len + 1:=by rw [hon,hv];simp [Fo.one]
     have e:i64.wrap ((on:Int) - 1)=(pre.len:Int):=by rw [qeh (by omega) (by omega),hl2];simp
     rw [e]
     refine ⟨k,y0,qd (fun g2=>qd (fun g=>?_) (fun g=>absurd (by omega) g)) (fun g2=>k22 _ (by simp [g2]))⟩
     subst hv
     obtain ⟨q2,hq2,l0,l1,lst⟩:=ho4.last
     exact hq2 _ ⟨k2,l0,k22 _ (by rw [hl1];simp [g2])⟩
   refine ⟨a',ps.len,c',x3,qd (fun g=>⟨a',ps.len,c',x3,?_⟩) (fun g=>?_)⟩
   ·refine q9o ps (S:=fun k=>S k∧k < w.heap.size) (by omega) (by omega) (hN.sl.ext e2) fun a3 n3 c3 w3 hsl3 e3=>⟨_,_,_,rfl,?_⟩
    have hBx3:=hBx.ext e3
    have hn3:=hsl3.1
    rw [qg]
    refine qae hBx3 (by simp) (by intro u hu;simp only [List.mem_singleton] at hu;subst hu;rfl) fun w4 b1 b2 b3 b4 b5 b6=>?_
    simp only [putAt,List.set] at b1
    have hc4:Chg (· = bx) w3 w4:=⟨b4,b5,b6,by omega,fun k _ hk=>b2 k hk⟩
    have EW4:Ext W w4:=qi (qb e2 e3) hc4 fun j hj=>by omega
    have hp4:SlF (fun j=>(S j∧j < w.heap.size)∨w1.heap.size≤j) w4 a3 n3 (qam ps):=hsl3.chg hc4 fun j hj he=>by
     subst he;rcases hj with hj | hj <;> omega
    subst hn3
    exact k20 a3 c3 w4 EW4 b1 hp4
   ·have hp:ps=.nil:=Fo.eq_nil_of_len (by omega)
    subst hp
    exact k20 a' c' w1 e2 hBx (SlF.nil a')
  refine ⟨k,x0,qd (fun g=>⟨t,x1,qd (fun g2=>?_) (fun g2=>k18 fun hh=>g2 hh.2)⟩) (fun g=>k18 fun hh=>g hh.1)⟩
  exact done oa on oc w1 (by unfold snocM;rw [if_pos ⟨g,g2⟩];exact ho1) E1
 ·obtain ⟨rfl,rfl⟩:=Fo.last hpr (by omega)
  rw [heq] at h
  refine h oa on oc W (q3l hout) (hout.out.imp fun k hk _=>hk.imp (fun h=>h.1) id) he
theorem q3i {rep:Int→List UInt8→Int→Fo→Fo→Fo} (hrs:∀ k t n ps ps',ps'.size≤ps.size→(rep k t n ps ps').size≤ps.size + 1) {rf:Fn} {ra rb:Array Value} {w:World} (hrep:RepOK rep (.func rf ra rb) w)
  (f:Fo) {R:Ending→World→Prop} {S:Nat→Prop} {a:Option Addr} {n c:Nat} (hs:f.size≤1000000000) (hg:good f) (ht:tlen (eachR rep f)≤4611686018427387904) (hf:SlF S w a n f)
  (h:∀ a' n' c' w',n'≤c'→SlF (fun k=>S k∨w.heap.size≤k) w' a' n' (qam (eachR rep f))→Ext w w'→R (.returned (.slice a' n' c')) w') :
  Calls prog qf0 ⟨[.slice a n c,.func rf ra rb]⟩ w R:=by
 apply qki
 refine qh fun t1 w1 ht1 hB1 e1 s1=>?_
 refine qh fun t2 w2 ht2 hB2' e2' s2=>?_
 refine qr hB2' rfl fun w3 hB2 hc3 hs3=>?_
 have e2:Ext w1 w3:=qi e2' hc3 fun k hk=>by omega
 have E:=qb e1 e2
 have z:=E.size
 have hrs':=qfi hrs f
 refine ⟨.func 177,⟨[]⟩,⟨[.pointer (some ⟨t1,0,none⟩),.pointer (some ⟨t2,0,none⟩)]⟩,by rw [hB2.cell];rfl,by kernel_rfl,?_⟩
 have hrep3:RepOK rep (.func rf ra rb) w3:=fun W S R' k t n a c ps pf pa pb hE=>hrep W S R' k t n a c ps pf pa pb (qb E hE)
 refine q6x hrs hrep3 (hB1.ext e2) hB2 f hs hg (Below.refl _ _) (hf.ext E) fun a4 n4 c4 w4 h4 e4=>⟨_,_,_,rfl,?_⟩
 refine q9p _ (by omega) ht h4 fun a5 n5 c5 w5 hc5 h5 e5=>⟨_,_,_,rfl,h a5 n5 c5 w5 hc5 (h5.imp fun j hj _=>?_) (qb (qb E e4) e5)⟩
 have:=e4.size
 rcases hj with (h | h) | h
 ·exact .inl h
 ·right;omega
 ·right;omega
theorem q0b (f:Fo) {R:Ending→World→Prop} {S:Nat→Prop} {w:World} {a:Option Addr} {n c:Nat} (hand:Int) (hs:f.size≤1000000000) (hg:good f) (ht:tlen (eachR (repR hand) f)≤4611686018427387904) (hf:SlF S w a n f)
  (h:∀ a' n' c' w',n'≤c'→SlF (fun k=>S k∨w.heap.size≤k) w' a' n' (qam (eachR (repR hand) f))→Ext w w'→R (.returned (.slice a' n' c')) w') :
  Calls prog qe1 ⟨[.slice a n c,.int .i64 hand]⟩ w R:=by
 apply qiw
 refine qh fun bh w1 hbh hB e1 s1=>?_
 have z:=e1.size
 refine q3i (q6c hand) (repR_ok hB) f hs hg ht (hf.ext e1) fun a5 n5 c5 w5 hc5 h5 e5=>⟨_,_,_,rfl,h a5 n5 c5 w5 hc5 (h5.imp fun j hj _=>hj.imp id fun h=>by omega) (qb e1 e5)⟩
section
variable {R:Ending→World→Prop} {S:Nat→Prop} {w:World} {a:Option Addr} {n c:Nat}
theorem q45 (f:Fo) (hand:Int) (hf:SlF S w a n f) (h:∀ a' n' c' w',n'≤c'→SlF (fun k=>S k∨w.heap.size≤k) w' a' n' (resS f hand false)→Ext w w'→R (.returned (.tuple ⟨[.slice a' n' c',.int .i64 (errS f hand)]⟩)) w') :
  Calls prog qrc ⟨[.slice a n c,.int .i64 hand]⟩ w R:=by
 apply q4c
 refine q61 f hand 0 hf fun w1 e1=>⟨_,rfl,qd (fun g=>?_) (fun g=>?_)⟩
 ·refine h none 0 0 w1 (Nat.le_refl _) ?_ e1
  unfold resS;rw [if_neg (show ¬ errS f hand=0 from g)];exact SlF.nil none
 ·have g0:errS f hand=0:=Decidable.not_not.1 g
  have hc:qak f=0:=by unfold errS at g0;split at g0 <;> simp_all
  obtain ⟨c1,c2,c3⟩:=qcz hc
  have z1:=e1.size
  have t2:=qcx f hand false
  have s2:=qbn f hand false
  refine q6a f hand false (by omega) (hf.ext e1) fun a2 n2 c2 w2 h2 e2=>⟨_,_,_,rfl,?_⟩
  have z2:=e2.size
  refine q7l _ (by omega) (by omega) h2 fun a3 n3 c3 w3 hc3 h3 e3=>⟨_,_,_,rfl,?_⟩
  have:=h a3 n3 c3 w3 hc3 (by unfold resS;rw [if_pos g0];exact h3.imp fun j hj _=>hj.elim (fun h=>h.imp id fun h=>by omega) fun h=>.inr (by omega)) (qb (qb e1 e2) e3)
  rw [g0] at this;exact this
theorem q9l (f:Fo) (hand:Int) (hs:small f) (hF:Forms w) (hf:SlF S w a n f) (h:∀ a' n' c' w',n'≤c'→SlF (fun k=>S k∨w.heap.size≤k) w' a' n' (resS f hand false)→Ext w w'→R (.returned (.tuple ⟨[.slice a' n' c',.int .i64 (errS f hand)]⟩)) w') :
  Calls prog qrr ⟨[.slice a n c,.int .i64 hand]⟩ w R:=by
 apply q4r
 refine qc2 f hs hf hF fun w1 e1=>⟨_,rfl,qd (fun g=>?_) (fun g=>?_)⟩
 ·have e:errS f hand=1:=by unfold errS;rw [if_pos g]
  have:=h none 0 0 w1 (Nat.le_refl _) (by unfold resS;rw [if_neg (by rw [e];decide)];exact SlF.nil none) e1
  rw [e] at this;exact this
 ·have hc:qak f=0:=Decidable.not_not.1 g
  obtain ⟨c1,c2,c3⟩:=qcz hc
  have z1:=e1.size
  intro K6 hK6
  have bad:(hand < 0∨8 < hand)→R (.returned (.tuple ⟨[.slice none 0 0,.int .i64 13]⟩)) w1:=fun hh=>by
   have e:errS f hand=13:=by unfold errS;rw [if_neg g,if_pos hh]
   have:=h none 0 0 w1 (Nat.le_refl _) (by unfold resS;rw [if_neg (by rw [e];decide)];exact SlF.nil none) e1
   rw [e] at this;exact this
  refine qd (fun g2=>bad (.inl g2)) (fun g2=>qd (fun g3=>bad (.inr g3)) (fun g3=>hK6 _ fun _=>?_))
  have e:errS f hand=0:=by unfold errS;rw [if_neg g,if_neg (by omega)]
  have er:=qem hand f c2
  have t2:=qcx f hand false
  refine q0b f hand (by omega) c2 (by rw [er];omega) (hf.ext e1) fun a2 n2 c2' w2 hc2 h2 e2=>⟨_,_,_,rfl,?_⟩
  rw [er] at h2
  have:=h a2 n2 c2' w2 hc2 (by unfold resS;rw [if_pos e];exact h2.imp fun j hj _=>hj.imp id fun h=>by omega) (qb e1 e2)
  rw [e] at this;exact this
end
def wkF (p:Ps) (f:Fo):Ps:=endL p (qo f)
theorem wkF_app (p0:Ps) (f g:Fo):wkF p0 (f.app g)=wkF (wkF p0 f) g:=by
 unfold wkF;rw [q15,qpv]
theorem wkF_one (p0:Ps) (k:Int) (t:List UInt8) (n:Int) (ps:Fo):wkF p0 (.one k t n ps)=wkF (posN p0 ⟨k,t,n,ps⟩).1 ps:=by
 unfold wkF Fo.one;rw [qo,endL,qo,List.append_nil]
theorem posN_3 (p:Ps) (t:List UInt8) (n:Int) (ps:Fo):(posN p ⟨3,t,n,ps⟩).1=(t,0):=by unfold posN;simp
theorem posN_2 (p:Ps) (t:List UInt8) (n:Int) (ps:Fo):(posN p ⟨2,t,n,ps⟩).1=(p.1,p.2 + 1):=by unfold posN;simp
theorem posN_o (p:Ps) {k:Int} (t:List UInt8) (n:Int) (ps:Fo) (h3:k≠3) (h2:k≠2):(posN p ⟨k,t,n,ps⟩).1=p:=by
 unfold posN;simp only [h3,h2,if_false];split
 ·rfl
 ·split <;> rfl
theorem posN_bd (p:Ps) (x:Nn) (h:0≤p.2):0≤(posN p x).1.2∧(posN p x).1.2≤p.2 + 1:=by
 obtain ⟨k,t,n,ps⟩:=x
 by_cases h3:k=3
 ·subst h3;rw [posN_3];exact ⟨Int.le_refl _,by show (0:Int)≤_;omega⟩
 ·by_cases h2:k=2
  ·subst h2;rw [posN_2];exact ⟨by show 0≤p.2 + 1;omega,Int.le_refl _⟩
  ·rw [posN_o _ _ _ _ h3 h2];omega
theorem q2s {s:List UInt8} {i:Int}:∀ v∈([.string ⟨⟨s⟩⟩,.int .i64 i]:List Value),v.oneCell'=true:=by
 intro v hv;simp only [List.mem_cons,List.not_mem_nil,or_false] at hv;rcases hv with rfl | rfl <;> rfl
theorem stPos {w:World} {b:Nat} {v0 v1:Value} {s:List UInt8} {i:Int} {K:World→Prop} (hb:Blk w b [v0,v1] 51) (h:∀ w',Blk w' b [.string ⟨⟨s⟩⟩,.int .i64 i] 51→Chg (· = b) w w'→w'.heap.size=w.heap.size→K w') :
  stL w ⟨b,0,none⟩ 0 [.string ⟨⟨s⟩⟩,.int .i64 i] K:=by
 refine qae hb (by simp) q2s fun v r1 r2 r3 r4 r5 r6=>?_
 exact h v r1 ⟨r4,r5,r6,by omega,fun k _ hk=>r2 k hk⟩ r3
theorem stPos1 {w:World} {b:Nat} {v0 v1:Value} {i:Int} {K:World→Prop} (hb:Blk w b [v0,v1] 51) (h:∀ w',Blk w' b [v0,.int .i64 i] 51→Chg (· = b) w w'→w'.heap.size=w.heap.size→K w') :
  stL w ((⟨b,0,none⟩:Addr).add 1) 0 [.int .i64 i] K:=by
 rw [qg]
 refine qae hb (by simp) (by intro u hu;simp only [List.mem_singleton] at hu;subst hu;rfl) fun v r1 r2 r3 r4 r5 r6=>?_
 simp only [putAt,List.set] at r1
 exact h v r1 ⟨r4,r5,r6,by omega,fun k _ hk=>r2 k hk⟩ r3
theorem q73:∀ (f:Fo) {R:Ending→World→Prop} {S:Nat→Prop} {w:World} {a:Option Addr} {n c:Nat} (p0:Ps),f.size≤1000000→0≤p0.2→p0.2 + f.size≤1000000000→SlF S w a n f →
  (∀ w',Ext w w'→R (.returned (.agg ⟨[.string ⟨⟨(wkF p0 f).1⟩⟩,.int .i64 (wkF p0 f).2]⟩)) w') →
  Calls prog ql9 ⟨[.agg ⟨[.string ⟨⟨p0.1⟩⟩,.int .i64 p0.2]⟩,.slice a n c]⟩ w R:=by
 intro f
 induction hz:f.size using Nat.strongRecOn generalizing f with
 | _ z ih =>
 intro R S w a n c p0 hs hp0 hpb hf0 h
 apply q0d
 have hn:=hf0.1
 have hf:SlF (fun k=>S k∧k < w.heap.size) w a n f:=hf0.imp fun k hk hl=>⟨hk,hl⟩
 refine qh fun b4 w5 hb4 B4 e5 s5=>qh fun b6 w7 hb6 B6 e7 s7=>?_
 have E7:=qb e5 e7
 refine ⟨fun i W m=>∃ (p r:Fo),f=p.app r∧i=p.len∧m=r.len∧Blk W b4 [.string ⟨⟨(wkF p0 p).1⟩⟩,.int .i64 (wkF p0 p).2] 51∧Blk W b6 [.string ⟨⟨[]⟩⟩,.int .i64 0] 51∧Ext w W,
  ⟨_,.nil,f,rfl,rfl,rfl,B4.ext e7,B6,E7⟩,?_⟩
 rintro _ W m ⟨p,r,hpr,rfl,rfl,C4,C6,he⟩ _
 have c4:=C4.lt
 have c6:=C6.lt
 refine qd (fun hlt=>?_) (fun hge=>?_)
 ·obtain ⟨k,t,mm,ps,r,rfl⟩:=Fo.next hpr (by omega)
  have hsl:=Fo.sub_len hpr
  have hsz:=Fo.sub_size hpr
  have hfl:=f.len_le_size
  have hss:f.size=p.size + (ps.size + r.size + 1):=by rw [hpr,Fo.size_app];rfl
  have e1:f=(p.app (.one k t mm ps)).app r:=by rw [Fo.app_one_app];exact hpr
  have i1:i64.wrap ((p.len:Int) + 1)=((p.app (.one k t mm ps)).len:Int):=by rw [qj (by omega)];simp [Fo.one]
  obtain ⟨po1,po0,_⟩:=qpu p p0 hp0
  have po1:(wkF p0 p).2≤p0.2 + cntF 2 p:=po1
  have po0:0≤(wkF p0 p).2:=po0
  have hcp:=qv4 2 p
  obtain ⟨pb0,pb1⟩:=posN_bd (wkF p0 p) ⟨k,t,mm,ps⟩ po0
  have hwk:wkF p0 (p.app (.one k t mm ps))=wkF (posN (wkF p0 p) ⟨k,t,mm,ps⟩).1 ps:=by rw [wkF_app,wkF_one]
  obtain ⟨q,a',c',hq,hSq,hql,hN⟩:=(hf.ext he).get hpr
  refine hq _ ⟨k,hN.kind,t,hN.text,mm,hN.num,a',ps.len,c',hN.parts,?_⟩
  refine qw rfl one4w fun bx w20 hbx Bx e20 s20=>?_
  obtain ⟨x0,x1,x2,x3⟩:=blk4 Bx
  have E20:=qb he e20
  have D4:=C4.ext e20
  intro K21 hK21
  have k21:∀ W2,Chg (· = b4) w20 W2→Blk W2 b4 [.string ⟨⟨(posN (wkF p0 p) ⟨k,t,mm,ps⟩).1.1⟩⟩,.int .i64 (posN (wkF p0 p) ⟨k,t,mm,ps⟩).1.2] 51→K21 W2:=by
   intro W2 hc hB
   refine hK21 W2 fun _=>?_
   obtain ⟨y0,y1⟩:=blk2w hB
   obtain ⟨_,_,_,z3⟩:=blk4 (hc.blk Bx (by omega))
   have EW2:Ext w W2:=qi E20 hc fun j hj=>by omega
   have hps:SlF (fun j=>S j∧j < w.heap.size) W2 a' ps.len ps:=(hN.sl.ext e20).chg hc fun j hj hh=>by have:=hj.2;omega
   refine ⟨_,y0,_,y1,_,_,_,z3,ih _ (hz ▸ hsz) ps rfl _ (by omega) pb0 (by omega) hps fun w27 e27=>⟨_,_,rfl,?_⟩⟩
   refine stPos (hB.ext e27) fun w30 q1 q2 q3=>?_
   have c20:Chg (· = b4) W2 w30:=(Chg.of_ext e27).trans q2
   refine ⟨r.len,by simp,_,r,e1,i1,rfl,by rw [hwk];exact q1,?_,qi EW2 c20 fun j hj=>by omega⟩
   exact c20.blk (hc.blk (C6.ext e20) (by omega)) (by omega)
  refine ⟨k,x0,qd (fun g3=>⟨t,x1,?_⟩) (fun g3=>qd (fun g2=>?_) (fun g2=>?_))⟩
  ·subst g3
   refine stPos D4 fun w34 q1 q2 q3=>k21 w34 q2 ?_
   rw [posN_3];exact q1
  ·subst g2
   refine ⟨_,(blk2w D4).2,?_⟩
   refine stPos1 D4 fun w36 q1 q2 q3=>k21 w36 q2 ?_
   rw [posN_2]
   rw [qu (by omega)] at q1
   exact q1
  ·refine k21 w20 (Chg.refl _ _) ?_
   rw [posN_o _ _ _ _ g3 g2];exact D4
 ·obtain ⟨rfl,rfl⟩:=Fo.last hpr (by omega)
  obtain ⟨y0,y1⟩:=blk2w C4
  refine ⟨_,y0,_,y1,stPos C6 fun v q1 q2 q3=>?_⟩
  obtain ⟨t0,t1⟩:=blk2w q1
  exact ⟨_,t0,_,t1,h v (qi he q2 fun j hj=>by omega)⟩
theorem q8u:∀ (f:Fo) {R:Ending→World→Prop} {S:Nat→Prop} {w:World} {a:Option Addr} {n c:Nat} (p0:Ps),f.size≤1000000→0≤p0.2→p0.2 + f.size≤1000000000→SlF S w a n f →
  (∀ w',Ext w w'→R (.returned (.agg ⟨[.string ⟨⟨(wkF p0 f).1⟩⟩,.int .i64 (wkF p0 f).2]⟩)) w') →
  Calls prog qt4 ⟨[.agg ⟨[.string ⟨⟨p0.1⟩⟩,.int .i64 p0.2]⟩,.slice a n c]⟩ w R:=by
 intro f
 induction hz:f.size using Nat.strongRecOn generalizing f with
 | _ z ih =>
 intro R S w a n c p0 hs hp0 hpb hf0 h
 apply q62
 have hn:=hf0.1
 have hf:SlF (fun k=>S k∧k < w.heap.size) w a n f:=hf0.imp fun k hk hl=>⟨hk,hl⟩
 refine qh fun b4 w5 hb4 B4 e5 s5=>qh fun b6 w7 hb6 B6 e7 s7=>?_
 have E7:=qb e5 e7
 refine ⟨fun i W m=>∃ (p r:Fo),f=p.app r∧i=p.len∧m=r.len∧Blk W b4 [.string ⟨⟨(wkF p0 p).1⟩⟩,.int .i64 (wkF p0 p).2] 51∧Blk W b6 [.string ⟨⟨[]⟩⟩,.int .i64 0] 51∧Ext w W,
  ⟨_,.nil,f,rfl,rfl,rfl,B4.ext e7,B6,E7⟩,?_⟩
 rintro _ W m ⟨p,r,hpr,rfl,rfl,C4,C6,he⟩ _
 have c4:=C4.lt
 have c6:=C6.lt
 refine qd (fun hlt=>?_) (fun hge=>?_)
 ·obtain ⟨k,t,mm,ps,r,rfl⟩:=Fo.next hpr (by omega)
  have hsl:=Fo.sub_len hpr
  have hsz:=Fo.sub_size hpr
  have hfl:=f.len_le_size
  have hss:f.size=p.size + (ps.size + r.size + 1):=by rw [hpr,Fo.size_app];rfl
  have e1:f=(p.app (.one k t mm ps)).app r:=by rw [Fo.app_one_app];exact hpr
  have i1:i64.wrap ((p.len:Int) + 1)=((p.app (.one k t mm ps)).len:Int):=by rw [qj (by omega)];simp [Fo.one]
  obtain ⟨po1,po0,_⟩:=qpu p p0 hp0
  have po1:(wkF p0 p).2≤p0.2 + cntF 2 p:=po1
  have po0:0≤(wkF p0 p).2:=po0
  have hcp:=qv4 2 p
  obtain ⟨pb0,pb1⟩:=posN_bd (wkF p0 p) ⟨k,t,mm,ps⟩ po0
  have hwk:wkF p0 (p.app (.one k t mm ps))=wkF (posN (wkF p0 p) ⟨k,t,mm,ps⟩).1 ps:=by rw [wkF_app,wkF_one]
  intro K13 hK13
  have k15:∀ {K15:World→Prop},(∀ w16,(∀ _:Env,drw w16 fun w17=>∃ (x18:List UInt8),w17.cell? ((⟨b4,0,none⟩:Addr).add 0)=some (.string ⟨⟨x18⟩⟩)∧(∃ (x19:Int),w17.cell? ((⟨b4,0,none⟩:Addr).add 1)=some (.int .i64 x19)∧(idx a n (p.len:Int) 4 fun p20 =>
    ∃ (x21:Option Addr) (x21n:Nat) (x21c:Nat),w17.cell? (p20.add 3)=some (.slice x21 x21n x21c)∧((Calls prog 87 ⟨[.agg ⟨[.string ⟨⟨x18⟩⟩,.int .i64 x19]⟩,.slice x21 x21n x21c]⟩ w17 fun (e22:Ending) (w23:World) =>
    ∃ (x24:List UInt8) (x25:Int),e22=.returned (.agg ⟨[.string ⟨⟨x24⟩⟩,.int .i64 x25]⟩)∧((stL w23 ⟨b4,0,none⟩ 0 [.string ⟨⟨x24⟩⟩,.int .i64 x25] fun w26 =>
    ∃ m27:Nat,m27 < (Fo.cons k t mm ps r).len∧∃ (p' r':Fo),f=p'.app r'∧i64.wrap ((p.len:Int) + 1)=p'.len∧m27=r'.len∧Blk w26 b4 [.string ⟨⟨(wkF p0 p').1⟩⟩,.int .i64 (wkF p0 p').2] 51∧Blk w26 b6 [.string ⟨⟨[]⟩⟩,.int .i64 0] 51∧Ext w w26)∧True))∧True))))→K15 w16) →
    ∀ W2,Chg (· = b4) W W2→Blk W2 b4 [.string ⟨⟨(posN (wkF p0 p) ⟨k,t,mm,ps⟩).1.1⟩⟩,.int .i64 (posN (wkF p0 p) ⟨k,t,mm,ps⟩).1.2] 51→K15 W2:=by
   intro K15 hK15 W2 hc hB
   refine hK15 W2 fun _=>?_
   unfold drw
   have ed:=qs W2
   have hB':=hB.ext ed
   have hc':Chg (· = b4) W W2.drew:=hc.trans (Chg.drew _)
   generalize W2.drew=wd at *
   obtain ⟨y0,y1⟩:=blk2w hB'
   have EW2:Ext w wd:=qi he hc' fun j hj=>by omega
   obtain ⟨q,a',c',hq,hSq,hql,hN⟩:=(hf.ext EW2).get hpr
   refine ⟨_,y0,_,y1,hq _ ⟨_,_,_,hN.parts,?_,trivial⟩⟩
   refine ih _ (hz ▸ hsz) ps rfl _ (by omega) pb0 (by omega) hN.sl fun w27 e27=>⟨_,_,rfl,?_,trivial⟩
   refine stPos (hB'.ext e27) fun w30 q1 q2 q3=>?_
   have c20:Chg (· = b4) wd w30:=(Chg.of_ext e27).trans q2
   refine ⟨r.len,by simp,_,r,e1,i1,rfl,by rw [hwk];exact q1,?_,qi EW2 c20 fun j hj=>by omega⟩
   exact c20.blk (hc'.blk C6 (by omega)) (by omega)
  obtain ⟨q,a',c',hq,hSq,hql,hN⟩:=(hf.ext he).get hpr
  refine hq _ ⟨k,hN.kind,qd (fun g3=>hq _ ⟨t,hN.text,?_⟩) (fun g3=>?_)⟩
  ·subst g3
   refine stPos C4 fun w34 q1 q2 q3=>hK13 w34 fun _=>?_
   intro K15 hK15
   have E34:Ext w w34:=qi he q2 fun j hj=>by omega
   obtain ⟨q,a',c',hq,hSq,hql,hN⟩:=(hf.ext E34).get hpr
   refine hq _ ⟨3,hN.kind,qd (fun g=>absurd g (by decide)) (fun _=>k15 hK15 w34 q2 ?_)⟩
   rw [posN_3];exact q1
  ·refine hK13 W fun _=>?_
   intro K15 hK15
   refine hq _ ⟨k,hN.kind,qd (fun g2=>⟨_,(blk2w C4).2,?_⟩) (fun g2=>?_)⟩
   ·subst g2
    refine stPos1 C4 fun w36 q1 q2 q3=>k15 hK15 w36 q2 ?_
    rw [posN_2]
    rw [qu (by omega)] at q1
    exact q1
   ·refine k15 hK15 W (Chg.refl _ _) ?_
    rw [posN_o _ _ _ _ g3 g2];exact C4
 ·obtain ⟨rfl,rfl⟩:=Fo.last hpr (by omega)
  obtain ⟨y0,y1⟩:=blk2w C4
  refine ⟨_,y0,_,y1,stPos C6 fun v q1 q2 q3=>?_⟩
  obtain ⟨t0,t1⟩:=blk2w q1
  exact ⟨_,t0,_,t1,h v (qi he q2 fun j hj=>by omega)⟩
theorem SlF.cut {S:Nat→Prop} {w:World} {a:Option Addr} {n c:Nat} {f p g r:Fo} (h:SlF S w a n f) (hc:n≤c) (hf:f=p.app (g.app r)) {lo hi:Int} (hlo:lo=p.len) (hhi:hi=p.len + g.len) {K:Option Addr→Nat→Nat→Prop}
  (hK:∀ a' c',SlF S w a' g.len g→g.len≤c'→K a' g.len c'):sls a c lo hi 4 K:=by
 subst hlo hhi
 obtain ⟨hn,us,hat,hfo⟩:=h
 have hl:f.len=p.len + (g.len + r.len):=by rw [hf,Fo.len_app,Fo.len_app]
 refine ⟨by omega,by omega,by omega,?_⟩
 have e2:((p.len:Int) + (g.len:Int)).toNat - ((p.len:Int)).toNat=g.len:=by omega
 have e3:c - ((p.len:Int)).toNat=c - p.len:=by omega
 have e4:((p.len:Int)).toNat=p.len:=by omega
 rw [e2,e3,e4]
 rw [hf] at hfo
 obtain ⟨xs,ys,rfl,hx,hy⟩:=hfo.split
 obtain ⟨gs,rs,rfl,hg,hr⟩:=hy.split
 refine hK _ _ ⟨rfl,gs,?_,hg⟩ (by omega)
 by_cases hg0:gs=[]
 ·exact .inl hg0
 have hgl:0 < g.len:=by
  have:=hg.len
  have:0 < gs.length:=List.length_pos_iff.2 hg0
  omega
 have hne:c≠p.len:=by omega
 rcases hat with hat | ⟨b,o,rfl,hS,hb,hcell⟩
 ·have:gs=[]:=by simp at hat;exact hat.2.1
  exact absurd this hg0
 ·refine .inr ⟨b,o + p.len * 4,?_,hS,hb,fun j v hj=>?_⟩
  ·unfold slA;rw [if_neg hne];simp [qg]
  ·have:=hx.len
   have hj2:(xs++(gs++rs))[p.len * 4 + j]? = some v:=by
    rw [List.getElem?_append_right (by omega),List.getElem?_append_left]
    ·rw [← hj];congr 1;omega
    ·have h1:=(List.getElem?_eq_some_iff.1 hj).1
     omega
   have:=hcell _ _ hj2
   rw [← Nat.add_assoc] at this;exact this
theorem q9y {R:Ending→World→Prop} {S:Nat→Prop} {w:World} {a:Option Addr} {n c:Nat} (f:Fo) (hs:f.len≤1000000) (hf:SlF S w a n f) (h:∀ a' n' c' w',n'≤c'→SlF (fun k=>S k∨w.heap.size≤k) w' a' n' f→Ext w w'→R (.returned (.slice a' n' c')) w') :
  Calls prog qa0 ⟨[.slice a n c]⟩ w R:=by
 apply qcs
 have hn:=hf.1
 refine ql (fun g=>?_) (fun g=>?_)
 ·have ha:a=none:=by cases a with | none=>rfl | some _=>cases g
  subst ha
  have hf0:f=.nil:=by
   obtain ⟨_,us,hat,hfo⟩:=hf
   rcases hat with rfl | ⟨b,o,hh,_⟩
   ·exact Fo.eq_nil_of_len (by have:=hfo.len;simp at this;omega)
   ·cases hh
  subst hf0
  exact h none 0 0 w (Nat.le_refl _) (SlF.nil none) (Below.refl _ _)
 ·refine qh fun b2 w3 hb2 B2 e3 s3=>?_
  have hf3:SlF (fun k=>((S k∧k < w.heap.size)∨w.heap.size≤k)∧¬ Sh.bk (some ⟨b2,0,none⟩) k) w3 a n f :=
   ((hf.imp (S':=fun k=>S k∧k < w.heap.size) fun k hk hl=>⟨hk,hl⟩).ext e3).imp fun k hk _=>⟨.inl hk,fun hh=>by simp [Sh.bk] at hh;omega⟩
  have hO:OwnF 56 (fun k=>S k∧k < w.heap.size) w.heap.size w3 (some ⟨b2,0,none⟩) 0 0 .nil:=⟨rfl,[],Owns.made B2 (by omega),rfl⟩
  refine OwnF.pushAll (P:=prog) qa1 hO (by omega) hf3 (by omega) (by omega) fun a4 n4 c4 w5 ho hc=>?_
  rw [Fo.nil_app] at ho
  refine h a4 n4 c4 w5 (q3l ho) (ho.out.imp fun k hk _=>hk.imp (fun h=>h.1) id) (qi e3 hc fun k hk=>by simp [Sh.bk] at hk;omega)
theorem q3b:∀ {f:Fo} {j:Nat} {pre:List (List UInt8 × Nat)} {t:List UInt8} {i:Nat},pre++[(t,i)] <+: secsI f j→∃ p n ps r,f=Fo.app p (.cons 4 t n ps r)∧secsI p j=pre∧i=j + p.len
 | .nil,j,pre,t,i,h=>by
  have:=h.length_le
  simp [secsI] at this
 | .cons k t' n ps r,j,pre,t,i,h=>by
  rw [secsI] at h
  by_cases hk:k=4
  ·subst hk
   rw [if_pos rfl] at h
   cases pre with
   | nil =>
    have h:(t,i) :: [] <+: (t',j) :: secsI r (j + 1):=h
    rw [List.cons_prefix_cons] at h
    obtain ⟨h1,_⟩:=h
    simp only [Prod.mk.injEq] at h1
    obtain ⟨rfl,rfl⟩:=h1
    exact ⟨.nil,n,ps,r,rfl,rfl,rfl⟩
   | cons y pre =>
    have h:y :: (pre++[(t,i)]) <+: (t',j) :: secsI r (j + 1):=h
    rw [List.cons_prefix_cons] at h
    obtain ⟨rfl,h2⟩:=h
    obtain ⟨p,n',ps',r',e1,e2,e3⟩:=q3b h2
    refine ⟨.cons 4 t' n ps p,n',ps',r',by rw [Fo.cons_app,← e1],by rw [secsI,e2];rfl,by rw [e3,Fo.len_cons];omega⟩
  ·rw [if_neg hk,List.nil_append] at h
   obtain ⟨p,n',ps',r',e1,e2,e3⟩:=q3b h
   refine ⟨.cons k t' n ps p,n',ps',r',by rw [Fo.cons_app,← e1],by rw [secsI,e2,if_neg hk];rfl,by rw [e3,Fo.len_cons];omega⟩
theorem cutS_at {f p:Fo} {s:List UInt8} {n:Int} {ps r:Fo} (h:f=p.app (.cons 4 s n ps r)) (hs:s∉secs p):cutS f s=some (p,r):=by
 rw [h,cutS_pre hs,cutS,if_pos ⟨rfl,rfl⟩];simp
theorem q7d:∀ {g:Fo} (r:Fo),secs g=[]→bodyF (g.app r)=g.app (bodyF r)
 | .nil,r,_=>rfl
 | .cons k t n ps g,r,h=>by
  rw [secs] at h
  have hk:k≠4:=fun hk=>by rw [if_pos hk] at h;simp at h
  rw [if_neg hk,List.nil_append] at h
  rw [Fo.cons_app,bodyF,if_neg hk,q7d r h,Fo.cons_app]
theorem qqh {r g r':Fo} (h:r=g.app r') (hg:secs g=[]) (hr:r'=.nil∨∃ t n ps r2,r'=.cons 4 t n ps r2):bodyF r=g:=by
 rw [h,q7d _ hg]
 rcases hr with rfl | ⟨t,n,ps,r2,rfl⟩
 ·rw [bodyF,Fo.app_nil]
 ·rw [bodyF,if_pos rfl,Fo.app_nil]
def posS (f:Fo) (s:List UInt8):Ps:=wkF ([],0) (preS f s)
section
variable {R:Ending→World→Prop} {w:World}
theorem partW_spec {S:Nat→Prop} {a:Option Addr} {n c:Nat} (f:Fo) (s:List UInt8) (hs:f.size≤1000000) (hc:n≤c) (hf0:SlF S w a n f)
  (h:∀ a' n' c' w',SlF (fun k=>S k∨w.heap.size≤k) w' a' n' (bodyS f s)→Ext w w'→R (.returned (.tuple ⟨[.slice a' n' c',.agg ⟨[.string ⟨⟨(posS f s).1⟩⟩,.int .i64 (posS f s).2]⟩,.bool (cutS f s).isSome]⟩)) w') :
  Calls prog qma ⟨[.slice a n c,.string ⟨⟨s⟩⟩]⟩ w R:=by
 apply q0e
 have hsm:small f:=by unfold small;omega
 have hn:=hf0.1
 have hfl:=f.len_le_size
 have hf:SlF (fun k=>S k∧k < w.heap.size) w a n f:=hf0.imp fun k hk hl=>⟨hk,hl⟩
 refine qh fun b3 w4 hb3 B3 e4 s4=>qh fun b5 w6 hb5 B5 e6 s6=>qh fun b7 w8 hb7 B7 e8 s8=>qh fun b9 w10 hb9 B9 e10 s10=>qh fun b11 w12 hb11 B11 e12 s12=>?_
 have F3:=(((B3.ext e6).ext e8).ext e10).ext e12
 have F5:=((B5.ext e8).ext e10).ext e12
 have F7:=(B7.ext e10).ext e12
 have F9:=B9.ext e12
 have E12:=qb e4 (qb e6 (qb e8 (qb e10 e12)))
 refine ⟨_,_,_,by rw [F3.cell];rfl,?_⟩
 refine qie fun bs w15 Bs e15 hbs s15=>⟨_,_,_,rfl,fun base=>?_⟩
 have E15:=qb E12 e15
 have z15:=E15.size
 have G3:=F3.ext e15
 have G5:=F5.ext e15
 have G7:=F7.ext e15
 have G9:=F9.ext e15
 have G11:=B11.ext e15
 have hf15:=hf.ext E15
 rw [qsq]
 refine qgh qgf qgd (gf:=qaj) rfl (by kernel_rfl) (xs:=secsI f 0) (E:=fun x vs=>vs=[.string ⟨⟨x.1⟩⟩,.int .i64 (x.2:Int)]) (Rd:=fun k=>(S k∧k < w.heap.size)∨k=bs)
  (fun v1 he=>qg0 f hsm bs v1 (fun k hk=>by have:=he.size;omega) (Bs.ext he) ((hf15.ext he).imp fun k hk _=>.inl hk) (.inr rfl)) (fun y vs hE=>by rw [hE];rfl) (by decide) (fun k hk=>by omega) (fun k=>k=b7∨k=b9∨k=b11) (fun k hk=>by omega)
  (fun pre S1 W=>(∀ k,S1 k↔k=b7∨k=b9∨k=b11)∧Ext w15 W∧s∉pre.map (·.1))
  (fun S1 W=>(∀ k,S1 k↔k=b7∨k=b9∨k=b11)∧Chg (fun k=>k=b7∨k=b9∨k=b11) w15 W∧∃ (p r:Fo) (a':Option Addr) (c':Nat),cutS f s=some (p,r)∧Blk W b7 [.slice a' (bodyF r).len c'] 43∧SlF (fun k=>S k∧k < w.heap.size) W a' (bodyF r).len (bodyF r)∧Blk W b9 [.string ⟨⟨(wkF ([],0) p).1⟩⟩,.int .i64 (wkF ([],0) p).2] 51∧Blk W b11 [.bool true] 4) (fun _ _=>False)
  ?_ ?_ (fun _ _ _ h=>h.elim) ⟨fun k=>Iff.rfl,Below.refl _ _,by simp⟩ ?_ ?_ ?_ (fun _ _ _ _ _ _ _ h=>h.elim)
 ·rintro pre S1 W W' ⟨i1,i2,i3⟩ hc
  exact ⟨i1,qi i2 hc fun k hk=>hk.1,i3⟩
 ·rintro S1 W W' ⟨i1,i2,p,r,a',c',i3,i4,i5,i6,i7⟩ hc
  exact ⟨i1,q36 i2 hc fun k hk=>hk.1,p,r,a',c',i3,hc.blk i4 (fun hh=>hh.2 ((i1 _).2 (.inl rfl))),i5.chg hc fun k hk hh=>by have:=hh.1;have:=hk.2;omega,hc.blk i6 (fun hh=>hh.2 ((i1 _).2 (.inr (.inl rfl)))),hc.blk i7 (fun hh=>hh.2 ((i1 _).2 (.inr (.inr rfl))))⟩
 ·rintro pre x vs S1 W l rfl hpre hl1 hl2 hl3 hS1 ⟨i1,i2,i3⟩
  refine Eq.mpr (qsj base _ _ _ _ _ _ _ _ _ _ _ _ _ _ _) ?_
  refine ⟨Below.refl _ _,fun W2 hU=>?_⟩
  have zU:=hU.size
  have hUc:Chg (fun k=>k=l) W W2:=⟨hU.os,hU.tape,hU.output,by omega,fun k _ hk=>hU.block k hk⟩
  have E2:Ext w15 W2:=qi i2 hUc fun k hk=>by omega
  obtain ⟨t,i⟩:=x
  obtain ⟨p,mm,ps,r,hpr,hp1,hi⟩:=q3b hpre
  rw [Nat.zero_add] at hi
  subst hi
  have hsp:secs p=pre.map (·.1):=by rw [← hp1,qc8]
  have hsl:=Fo.sub_len hpr
  refine dr_ok ⟨s,by rw [(G5.ext E2).cell];rfl,qd (fun g=>?_) (fun g=>?_)⟩
  ·refine ⟨Chg.refl _ _,S1,fun k hk=>⟨.inl hk,by have:=(hS1 k hk).1;omega⟩,i1,E2,?_⟩
   rw [List.map_append,List.mem_append,not_or]
   exact ⟨i3,by simpa using fun hh=>g hh.symm⟩
  have g:t=s:=Decidable.not_not.1 g
  subst g
  have hcut:cutS f t=some (p,r):=cutS_at hpr (by rw [hsp];exact i3)
  have hbl:=congrArg Fo.len (qer r)
  rw [Fo.len_app] at hbl
  have hps:p.size≤f.size:=by rw [hpr,Fo.size_app];omega
  have D3:=G3.ext E2
  have c3:W2.cell? (⟨b3,0,none⟩:Addr)=some (.slice a n c):=by rw [D3.cell];rfl
  have hf2:=hf15.ext E2
  intro K52 hK52
  have fin:∀ {Kr':World→Prop},(∀ w70 a' c',Chg (fun k=>k=b7∨k=b9∨k=b11) W2 w70→Blk w70 b7 [.slice a' (bodyF r).len c'] 43→SlF (fun k=>S k∧k < w.heap.size) w70 a' (bodyF r).len (bodyF r)→Blk w70 b9 [.string ⟨⟨(wkF ([],0) p).1⟩⟩,.int .i64 (wkF ([],0) p).2] 51→Blk w70 b11 [.bool true] 4→Kr' w70) →
    ∀ a' c' W3,Ext W2 W3→SlF (fun k=>S k∧k < w.heap.size) W3 a' (bodyF r).len (bodyF r)→(dr (some ⟨b7,0,none⟩) fun p67=>stL W3 p67 0 [.slice a' (bodyF r).len c'] fun w66=>(dr (some ⟨b9,0,none⟩) fun p69=>stL w66 p69 0 [.string ⟨⟨(wkF ([],0) p).1⟩⟩,.int .i64 (wkF ([],0) p).2] fun w68=>(dr (some ⟨b11,0,none⟩) fun p71=>stL w68 p71 0 [.bool true] fun w70=>Kr' w70)∧True)∧True):=by
   intro Kr' hKr a' c' W3 e3 hsl3
   refine dr_ok (qr ((G7.ext E2).ext e3) rfl fun w66 q1 q2 q3=>⟨dr_ok ?_,trivial⟩)
   refine stPos (q2.blk ((G9.ext E2).ext e3) (by omega)) fun w68 r1 r2 r3=>⟨dr_ok ?_,trivial⟩
   refine qr (r2.blk (q2.blk ((G11.ext E2).ext e3) (by omega)) (by omega)) rfl fun w70 t1 t2 t3=>?_
   have hc:Chg (fun k=>k=b7∨k=b9∨k=b11) W3 w70:=((q2.mono fun k _ hk=>.inl hk).trans (r2.mono fun k _ hk=>.inr (.inl hk))).trans (t2.mono fun k _ hk=>.inr (.inr hk))
   exact hKr w70 a' c' ((Chg.of_ext e3).trans hc) (t2.blk (r2.blk q1 (by omega)) (by omega)) (hsl3.chg hc fun k hk hh=>by have:=hk.2;omega) (t2.blk r1 (by omega)) t1
  have kr:∀ w70 a' c',Chg (fun k=>k=b7∨k=b9∨k=b11) W2 w70→Blk w70 b7 [.slice a' (bodyF r).len c'] 43→SlF (fun k=>S k∧k < w.heap.size) w70 a' (bodyF r).len (bodyF r)→Blk w70 b9 [.string ⟨⟨(wkF ([],0) p).1⟩⟩,.int .i64 (wkF ([],0) p).2] 51→Blk w70 b11 [.bool true] 4 →
    (Chg (fun k=>S1 k∨W.heap.size≤k) W2 w70∧∃ S':Nat→Prop,(∀ k,S' k→(S1 k∨W.heap.size≤k)∧k < w70.heap.size)∧((∀ k,S' k↔k=b7∨k=b9∨k=b11)∧Chg (fun k=>k=b7∨k=b9∨k=b11) w15 w70∧∃ (p r:Fo) (a':Option Addr) (c':Nat),cutS f t=some (p,r)∧Blk w70 b7 [.slice a' (bodyF r).len c'] 43∧SlF (fun k=>S k∧k < w.heap.size) w70 a' (bodyF r).len (bodyF r)∧Blk w70 b9 [.string ⟨⟨(wkF ([],0) p).1⟩⟩,.int .i64 (wkF ([],0) p).2] 51∧Blk w70 b11 [.bool true] 4)):=by
   intro w70 a' c' k1 k2 k3 k4 k5
   exact ⟨k1.mono fun k _ hk=>.inl ((i1 k).2 hk),S1,fun k hk=>⟨.inl hk,by have:=(hS1 k hk).1;have:=k1.size;omega⟩,i1,(Chg.of_ext E2).trans k1,p,r,a',c',hcut,k2,k3,k4,k5⟩
  have k52:∀ e:Int,e=p.len + 1 + (bodyF r).len→K52 e W2:=by
   intro e he
   refine hK52 e W2 fun _=>?_
   unfold drw
   have ed:=qs W2
   have cd3:W2.drew.cell? (⟨b3,0,none⟩:Addr)=some (.slice a n c):=by rw [(D3.ext ed).cell];rfl
   have hfd:=hf2.ext ed
   generalize W2.drew=wd at *
   refine dr_ok ⟨_,_,_,cd3,?_⟩
   refine SlF.cut hfd hc (p:=.nil) (g:=p) (r:=.cons 4 t mm ps r) hpr (by simp) (by simp) fun a58 c58 h58 hc58=>?_
   have cut61:∀ {v:World},Ext wd v→∀ {K:Option Addr→Nat→Nat→Prop},(∀ a' c',SlF (fun k=>S k∧k < w.heap.size) v a' (bodyF r).len (bodyF r)→(bodyF r).len≤c'→K a' (bodyF r).len c')→sls a c (i64.wrap ((p.len:Int) + 1)) e 4 K:=by
    intro v ev K hK
    refine SlF.cut (hfd.ext ev) hc (p:=p.app (.one 4 t mm ps)) (g:=bodyF r) (r:=fromS r) (by rw [qer,Fo.app_one_app];exact hpr) (by rw [qj (by omega)];simp [Fo.one]) (by rw [he];simp [Fo.one]) hK
   have wk:∀ {Q:Ending→World→Prop},(∀ v,Ext wd v→Q (.returned (.agg ⟨[.string ⟨⟨(wkF ([],0) p).1⟩⟩,.int .i64 (wkF ([],0) p).2]⟩)) v)→Calls prog 125 ⟨[.agg ⟨[.string ⟨⟨[]⟩⟩,.int .i64 0]⟩,.slice a58 p.len c58]⟩ wd Q:=fun hQ=>q73 p ([],0) (by omega) (by decide) (by show (0:Int) + _≤_;omega) h58 hQ
   refine ⟨dr_ok ⟨_,_,_,cd3,?_⟩,?_,trivial⟩
   ·refine cut61 (Below.refl _ _) fun a61 c61 h61 hc61=>⟨wk fun v ev=>⟨_,_,rfl,fin kr a61 c61 v (qb ed ev) (h61.ext ev),trivial⟩,trivial⟩
   ·refine wk fun v ev=>⟨_,_,rfl,dr_ok ⟨_,_,_,by rw [((D3.ext ed).ext ev).cell];rfl,?_⟩⟩
    refine cut61 ev fun a61 c61 h61 hc61=>⟨fin kr a61 c61 v (qb ed ev) h61,trivial⟩
  refine ⟨fun e W3 m=>∃ g r',r=Fo.app g r'∧secs g=[]∧e=p.len + 1 + g.len∧m=r'.len∧W3=W2,⟨_,.nil,r,rfl,rfl,by rw [qj (by omega)];simp,rfl,rfl⟩,?_⟩
  rintro _ W3 m ⟨g,r',hgr,hgs,rfl,rfl,rfl⟩ _
  have hgl:=congrArg Fo.len hgr
  rw [Fo.len_app] at hgl
  refine dr_ok ⟨_,_,_,c3,qd (fun hlt=>dr_ok ⟨_,_,_,c3,?_⟩) (fun hge=>?_)⟩
  ·cases r' with
   | nil=>simp at hgl;omega
   | cons k2 t2 m2 ps2 r2 =>
    have hp2:f=(p.app ((Fo.one 4 t mm ps).app g)).app (.cons k2 t2 m2 ps2 r2):=by
     rw [hpr,hgr,Fo.app_assoc,Fo.app_assoc];rfl
    obtain ⟨q,a',c',hq,hSq,hql,hN⟩:=hf2.get hp2
    have el:((p.app ((Fo.one 4 t mm ps).app g)).len:Int)=p.len + 1 + g.len:=by simp [Fo.one];omega
    rw [el] at hq
    refine hq _ ⟨k2,hN.kind,qd (fun g4=>?_) (fun g4=>?_)⟩
    ·have hl2:(Fo.cons k2 t2 m2 ps2 r2).len=r2.len + 1:=rfl
     refine ⟨r2.len,by simp,g.app (.one k2 t2 m2 ps2),r2,by rw [Fo.app_one_app];exact hgr,?_,?_,rfl,rfl⟩
     ·rw [qe8,hgs];unfold Fo.one;rw [secs,if_neg g4];rfl
     ·rw [show ((p.len:Int) + 1 + g.len + 1)=((p.len + 1 + g.len:Nat):Int) + 1 by omega,qj (by omega)];simp [Fo.one];omega
    ·have g4:k2=4:=Decidable.not_not.1 g4
     subst g4
     exact k52 _ (by rw [qqh hgr hgs (.inr ⟨_,_,_,_,rfl⟩)])
  ·have hr0:r'=.nil:=Fo.eq_nil_of_len (by omega)
   exact k52 _ (by rw [qqh hgr hgs (.inl hr0)])
 ·rintro D S1 W hD1 hD2 hD3 hD4 ⟨i1,i2,i3⟩
  rw [qc8] at i3
  have hcut:cutS f s=none:=qx1 i3
  have h1:bodyS f s=.nil:=by unfold bodyS;rw [hcut]
  have h2:posS f s=([],0):=by unfold posS preS;rw [hcut];rfl
  rw [h1,h2,hcut] at h
  have n7:b7≠D:=fun hh=>hD3 ((i1 D).2 (.inl hh.symm))
  have n9:b9≠D:=fun hh=>hD3 ((i1 D).2 (.inr (.inl hh.symm)))
  have n11:b11≠D:=fun hh=>hD3 ((i1 D).2 (.inr (.inr hh.symm)))
  refine qr (G7.ext i2) rfl fun w28 q1 q2 q3=>?_
  refine stPos (q2.blk (G9.ext i2) (by omega)) fun w29 r1 r2 r3=>?_
  refine qr (r2.blk (q2.blk (G11.ext i2) (by omega)) (by omega)) rfl fun w30 t1 t2 t3=>?_
  have hcc:Chg (fun k=>k=b7∨k=b9∨k=b11) W w30:=((q2.mono fun k _ hk=>.inl hk).trans (r2.mono fun k _ hk=>.inr (.inl hk))).trans (t2.mono fun k _ hk=>.inr (.inr hk))
  have hD':w30.heap[D]? = some (.deferred (some [])):=(hcc.block D hD2 (by omega)).trans hD4
  refine qbm hD' ?_
  have u7:=qct (t2.blk (r2.blk q1 (by omega)) (by omega)) n7 (.deferred none)
  have u9:=qct (t2.blk r1 (by omega)) n9 (.deferred none)
  have u11:=qct t1 n11 (.deferred none)
  obtain ⟨y0,y1⟩:=blk2w u9
  refine ⟨_,_,_,by rw [u7.cell];rfl,_,y0,_,y1,_,by rw [u11.cell];rfl,?_⟩
  exact h none 0 0 _ (SlF.nil none) (qb9 (qi (qb E15 i2) hcc fun k hk=>by omega) (by omega) _)
 ·rintro D S1 W hD1 hD2 hD3 hD4 ⟨i1,i2,p,r,a',c',i3,i4,i5,i6,i7⟩
  have h1:bodyS f s=bodyF r:=by unfold bodyS;rw [i3]
  have h2:posS f s=wkF ([],0) p:=by unfold posS preS;rw [i3]
  rw [h1,h2,i3] at h
  have n7:b7≠D:=fun hh=>hD3 ((i1 D).2 (.inl hh.symm))
  have n9:b9≠D:=fun hh=>hD3 ((i1 D).2 (.inr (.inl hh.symm)))
  have n11:b11≠D:=fun hh=>hD3 ((i1 D).2 (.inr (.inr hh.symm)))
  refine qbm hD4 ?_
  have u7:=qct i4 n7 (.deferred none)
  have u9:=qct i6 n9 (.deferred none)
  have u11:=qct i7 n11 (.deferred none)
  obtain ⟨y0,y1⟩:=blk2w u9
  refine ⟨_,_,_,by rw [u7.cell];rfl,_,y0,_,y1,_,by rw [u11.cell];rfl,?_⟩
  refine h a' _ c' _ ((i5.chg (Chg.put (S:=fun k=>k=D) W D (.deferred none) rfl) fun k hk hh=>by have:=hk.2;omega).imp fun k hk _=>.inl hk.1) (qb9 (qi E15 i2 fun k hk=>by omega) (by omega) _)
def parE (x:Wt) (s:List UInt8) (hand:Int):Int:=if witE x≠0 then 1 else if hand < 0∨8 < hand then 13 else if s∈secs x.2 then 0 else 6
def parR (x:Wt) (s:List UInt8) (hand:Int):Fo:=if parE x s hand=0 then bodyS (stF x.2 hand) s else .nil
def parP (x:Wt) (s:List UInt8) (hand:Int):Ps:=if parE x s hand=0 then posS (stF x.2 hand) s else ([],0)
theorem qoj {x:Wt} (h:witE x=0):qak x.2=0:=by
 unfold witE at h
 split at h
 ·cases h
 split at h
 ·cases h
 ·rename_i h2;exact Decidable.not_not.1 h2
theorem cut_is {f:Fo} (s:List UInt8):(cutS f s).isSome=decide (s∈secs f):=by
 by_cases h:s∈secs f
 ·obtain ⟨a,b,e⟩:=cutS_some h
  rw [e,decide_eq_true h];rfl
 ·rw [qx1 h,decide_eq_false h];rfl
theorem q2z (f:Fo) (hand:Int):(stF f hand).size≤f.size:=by
 unfold stF
 have h1:=qxk (qm f hand false)
 have h2:=qbn f hand false
 omega
theorem qy3 {S:Nat→Prop} {a:Option Addr} {n c:Nat} (x:Wt) (s:List UInt8) (hand:Int) (hs:small x.2) (hF:Forms w) (hf0:SlF S w a n x.2)
  (h:∀ a' n' c' w',SlF (fun k=>S k∨w.heap.size≤k) w' a' n' (parR x s hand)→Ext w w'→R (.returned (.tuple ⟨[.slice a' n' c',.agg ⟨[.string ⟨⟨(parP x s hand).1⟩⟩,.int .i64 (parP x s hand).2]⟩,.int .i64 (parE x s hand)]⟩)) w') :
  Calls prog qmb ⟨[.agg ⟨[.string ⟨⟨x.1⟩⟩,.slice a n c]⟩,.string ⟨⟨s⟩⟩,.int .i64 hand]⟩ w R:=by
 apply q0f
 have hf:SlF (fun k=>S k∧k < w.heap.size) w a n x.2:=hf0.imp fun k hk hl=>⟨hk,hl⟩
 refine qh fun b5 w6 hb5 B5 e6 s6=>qh fun b7 w8 hb7 B7 e8 s8=>?_
 have F5:=B5.ext e8
 have E8:=qb e6 e8
 obtain ⟨x0,x1⟩:=blk2w F5
 have bad:∀ (e:Int) (v:World),Ext w8 v→parE x s hand=e→e≠0→stL v ⟨b7,0,none⟩ 0 [.string ⟨⟨[]⟩⟩,.int .i64 0] fun w14=>∃ x15:List UInt8,w14.cell? ((⟨b7,0,none⟩:Addr).add 0)=some (.string ⟨⟨x15⟩⟩)∧(∃ x16:Int,w14.cell? ((⟨b7,0,none⟩:Addr).add 1)=some (.int .i64 x16)∧(R (.returned (.tuple ⟨[.slice none 0 0,.agg ⟨[.string ⟨⟨x15⟩⟩,.int .i64 x16]⟩,.int .i64 e]⟩)) w14)):=by
  intro e v ev he h0
  have h1:parR x s hand=.nil:=by unfold parR;rw [if_neg (by omega)]
  have h2:parP x s hand=([],0):=by unfold parP;rw [if_neg (by omega)]
  rw [h1,h2,he] at h
  refine stPos (B7.ext ev) fun v' q1 q2 q3=>?_
  obtain ⟨y0,y1⟩:=blk2w q1
  exact ⟨_,y0,_,y1,h none 0 0 v' (SlF.nil none) (qi (qb E8 ev) q2 fun k hk=>by have:=e6.size;omega)⟩
 refine ⟨_,x0,_,_,_,x1,qew x.1 x.2 hs (hF.ext E8) (hf.ext E8) fun w12 e12=>⟨_,rfl,qd (fun g=>?_) (fun g=>?_)⟩⟩
 ·exact bad 1 w12 e12 (by unfold parE;rw [if_pos g]) (by decide)
 have g0:witE x=0:=Decidable.not_not.1 g
 intro K17 hK17
 have E12:=qb E8 e12
 have hb:(hand < 0∨8 < hand)→K17 true w12:=fun hh=>hK17 true w12 fun _=>by
  rw [br_t]
  exact bad 13 w12 e12 (by unfold parE;rw [if_neg g,if_pos hh]) (by decide)
 refine qd (fun g1=>hb (.inl g1)) (fun g1=>?_)
 by_cases g2:8 < hand
 ·rw [decide_eq_true g2];exact hb (.inr g2)
 rw [decide_eq_false g2]
 refine hK17 false w12 fun _=>?_
 rw [br_f]
 have hc0:=qoj g0
 have hsz:=qk5 g0
 have he:errS x.2 hand=0:=by unfold errS;rw [if_neg (by rw [hc0];simp),if_neg (by omega)]
 have hr:resS x.2 hand false=stF x.2 hand:=by unfold resS;rw [if_pos he];rfl
 have hss:=q2z x.2 hand
 have hsec:secs (stF x.2 hand)=secs x.2:=secs_stF (qpw hc0) hand
 refine ⟨_,_,_,(blk2w (F5.ext e12)).2,q9l x.2 hand hs (hF.ext E12) (hf.ext E12) fun a2 n2 c2 w25 hc2 h2 e25=>⟨_,_,_,_,rfl,qd (fun gg=>absurd he gg) (fun _=>?_)⟩⟩
 rw [hr] at h2
 have E25:=qb E12 e25
 refine partW_spec _ s (by omega) hc2 h2 fun a3 n3 c3 w32 h3 e32=>⟨_,_,_,_,_,_,rfl,?_⟩
 have E32:=qb E25 e32
 refine qw rfl q2s fun b37 w39 hb37 B37 e39 s39=>?_
 rw [cut_is,hsec]
 have E39:=qb E32 e39
 have ee:Ext w8 w39:=qb e12 (qb e25 (qb e32 e39))
 refine ql (fun g3=>?_) (fun g3=>?_)
 ·have g3:s∉secs x.2:=by simpa using g3
  exact bad 6 w39 ee (by unfold parE;rw [if_neg g,if_neg (by omega),if_neg g3]) (by decide)
 have g3:s∈secs x.2:=by simpa using g3
 have hpe:parE x s hand=0:=by unfold parE;rw [if_neg g,if_neg (by omega),if_pos g3]
 have h1:parR x s hand=bodyS (stF x.2 hand) s:=by unfold parR;rw [if_pos hpe]
 have h2':parP x s hand=posS (stF x.2 hand) s:=by unfold parP;rw [if_pos hpe]
 rw [h1,h2',hpe] at h
 unfold drw
 have ed:=qs w39
 have Ed:=qb E39 ed
 have eed:=qb ee ed
 have Cd:=B37.ext ed
 have hbd:=(h3.ext e39).ext ed
 generalize w39.drew=wd at *
 have hbl:(bodyS (stF x.2 hand) s).len≤1000000:=by
  have h5:(bodyS (stF x.2 hand) s).len≤(stF x.2 hand).len:=by
   unfold bodyS
   cases hc:cutS (stF x.2 hand) s with
   | none=>simp
   | some q =>
    obtain ⟨p,r⟩:=q
    obtain ⟨m,ps,h6,_⟩:=qv3 hc
    have h7:=congrArg Fo.len h6
    have h8:=congrArg Fo.len (qer r)
    rw [Fo.len_app] at h7 h8
    simp at h7
    show (bodyF r).len≤_
    omega
  have:=(stF x.2 hand).len_le_size
  omega
 have cl:∀ {Q:Ending→World→Prop},(∀ a' n' c' v,SlF (fun k=>(S k∧k < w.heap.size)∨w8.heap.size≤k) v a' n' (bodyS (stF x.2 hand) s)→Ext wd v→Q (.returned (.slice a' n' c')) v)→Calls prog 74 ⟨[.slice a3 n3 c3]⟩ wd Q:=fun hQ =>
  q9y _ hbl hbd fun a' n' c' v _ h' ev=>hQ a' n' c' v (h'.imp fun k hk _=>by
   have:=e12.size;have:=e25.size;have:=eed.size
   rcases hk with ((hk | hk) | hk) | hk
   ·exact .inl hk
   ·right;omega
   ·right;omega
   ·right;omega) ev
 obtain ⟨y0,y1⟩:=blk2w Cd
 have last:∀ a' n' c' v,SlF (fun k=>(S k∧k < w.heap.size)∨w8.heap.size≤k) v a' n' (bodyS (stF x.2 hand) s)→Ext wd v→stL v ⟨b7,0,none⟩ 0 [.string ⟨⟨(posS (stF x.2 hand) s).1⟩⟩,.int .i64 (posS (stF x.2 hand) s).2] fun w49=>∃ x50:List UInt8,w49.cell? ((⟨b7,0,none⟩:Addr).add 0)=some (.string ⟨⟨x50⟩⟩)∧(∃ x51:Int,w49.cell? ((⟨b7,0,none⟩:Addr).add 1)=some (.int .i64 x51)∧(R (.returned (.tuple ⟨[.slice a' n' c',.agg ⟨[.string ⟨⟨x50⟩⟩,.int .i64 x51]⟩,.int .i64 0]⟩)) w49)):=by
  intro a' n' c' v h' ev
  refine stPos ((B7.ext eed).ext ev) fun v' q1 q2 q3=>?_
  obtain ⟨y0,y1⟩:=blk2w q1
  exact ⟨_,y0,_,y1,h a' n' c' v' ((h'.chg q2 fun k hk hh=>by have:=B7.lt;have:=e6.size;omega).imp fun k hk _=>hk.imp (fun h=>h.1) fun h=>by have:=E8.size;omega) (qi (qb Ed ev) q2 fun k hk=>by have:=e6.size;omega)⟩
 refine ⟨cl fun a' n' c' v h' ev=>⟨_,_,_,rfl,?_⟩,⟨_,y0,_,y1,cl fun a' n' c' v h' ev=>⟨_,_,_,rfl,last a' n' c' v h' ev,trivial⟩,trivial⟩,trivial⟩
 obtain ⟨t0,t1⟩:=blk2w (Cd.ext ev)
 exact ⟨_,t0,_,t1,last a' n' c' v h' ev,trivial⟩
end
section
variable {R:Ending→World→Prop} {w:World}
theorem q9m {S:Nat→Prop} {a:Option Addr} {n c:Nat} (x:Wt) (s:List UInt8) (hand:Int) (hs:x.2.size≤1000000) (hf0:SlF S w a n x.2)
  (h:∀ a' n' c' w',SlF (fun k=>S k∨w.heap.size≤k) w' a' n' (parR x s hand)→Ext w w'→R (.returned (.tuple ⟨[.slice a' n' c',.agg ⟨[.string ⟨⟨(parP x s hand).1⟩⟩,.int .i64 (parP x s hand).2]⟩,.int .i64 (parE x s hand)]⟩)) w') :
  Calls prog qt5 ⟨[.agg ⟨[.string ⟨⟨x.1⟩⟩,.slice a n c]⟩,.string ⟨⟨s⟩⟩,.int .i64 hand]⟩ w R:=by
 apply q63
 have hf:SlF (fun k=>S k∧k < w.heap.size) w a n x.2:=hf0.imp fun k hk hl=>⟨hk,hl⟩
 refine qh fun b5 w6 hb5 B5 e6 s6=>qh fun b7 w8 hb7 B7 e8 s8=>?_
 have F5:=B5.ext e8
 have E8:=qb e6 e8
 obtain ⟨x0,x1⟩:=blk2w F5
 have bad:∀ (e:Int) (v:World),Ext w8 v→parE x s hand=e→e≠0→stL v ⟨b7,0,none⟩ 0 [.string ⟨⟨[]⟩⟩,.int .i64 0] fun w14=>∃ x15:List UInt8,w14.cell? ((⟨b7,0,none⟩:Addr).add 0)=some (.string ⟨⟨x15⟩⟩)∧(∃ x16:Int,w14.cell? ((⟨b7,0,none⟩:Addr).add 1)=some (.int .i64 x16)∧(R (.returned (.tuple ⟨[.slice none 0 0,.agg ⟨[.string ⟨⟨x15⟩⟩,.int .i64 x16]⟩,.int .i64 e]⟩)) w14)):=by
  intro e v ev he h0
  have h1:parR x s hand=.nil:=by unfold parR;rw [if_neg (by omega)]
  have h2:parP x s hand=([],0):=by unfold parP;rw [if_neg (by omega)]
  rw [h1,h2,he] at h
  refine stPos (B7.ext ev) fun v' q1 q2 q3=>?_
  obtain ⟨y0,y1⟩:=blk2w q1
  exact ⟨_,y0,_,y1,h none 0 0 v' (SlF.nil none) (qi (qb E8 ev) q2 fun k hk=>by have:=e6.size;omega)⟩
 refine ⟨_,x0,_,_,_,x1,qgw x.1 x.2 hs (hf.ext E8) fun w12 e12=>⟨_,rfl,qd (fun g=>?_) (fun g=>?_)⟩⟩
 ·exact bad 1 w12 e12 (by unfold parE;rw [if_pos g]) (by decide)
 have g0:witE x=0:=Decidable.not_not.1 g
 intro K17 hK17
 have E12:=qb E8 e12
 have hb:(hand < 0∨8 < hand)→K17 true w12:=fun hh=>hK17 true w12 fun _=>by
  rw [br_t]
  exact bad 13 w12 e12 (by unfold parE;rw [if_neg g,if_pos hh]) (by decide)
 refine qd (fun g1=>hb (.inl g1)) (fun g1=>?_)
 by_cases g2:8 < hand
 ·rw [decide_eq_true g2];exact hb (.inr g2)
 rw [decide_eq_false g2]
 refine hK17 false w12 fun _=>?_
 rw [br_f]
 have hc0:=qoj g0
 have hsz:=qk5 g0
 have he:errS x.2 hand=0:=by unfold errS;rw [if_neg (by rw [hc0];simp),if_neg (by omega)]
 have hr:resS x.2 hand false=stF x.2 hand:=by unfold resS;rw [if_pos he];rfl
 have hss:=q2z x.2 hand
 have hsec:secs (stF x.2 hand)=secs x.2:=secs_stF (qpw hc0) hand
 have hsl:=qk6 x.2
 have hfl:=x.2.len_le_size
 refine ⟨_,_,_,(blk2w (F5.ext e12)).2,qjy x.2 hs (hf.ext E12) fun an nn nc w25 hO e25=>⟨_,_,_,rfl,?_⟩⟩
 have hL:=OwnL.out hO
 have hln:=hL.1
 refine q13 (secs x.2) s hL (by omega) ⟨_,rfl,qd (fun g3=>?_) (fun g3=>?_)⟩
 ·have g3:s∉secs x.2:=fun hm=>by unfold qxa at g3;rw [if_pos hm] at g3;omega
  exact bad 6 w25 (qb e12 e25) (by unfold parE;rw [if_neg g,if_neg (by omega),if_neg g3]) (by decide)
 have g3:s∈secs x.2:=by
  unfold qxa at g3
  by_cases hm:s∈secs x.2
  ·exact hm
  ·rw [if_neg hm] at g3;omega
 have hpe:parE x s hand=0:=by unfold parE;rw [if_neg g,if_neg (by omega),if_pos g3]
 have h1:parR x s hand=bodyS (stF x.2 hand) s:=by unfold parR;rw [if_pos hpe]
 have h2':parP x s hand=posS (stF x.2 hand) s:=by unfold parP;rw [if_pos hpe]
 rw [h1,h2',hpe] at h
 have E25:=qb E12 e25
 refine ⟨_,_,_,(blk2w (F5.ext (qb e12 e25))).2,q45 x.2 hand (hf.ext E25) fun a2 n2 c2 w35 hc2 h2 e35=>⟨_,_,_,_,rfl,qd (fun gg=>absurd he gg) (fun _=>?_)⟩⟩
 rw [hr] at h2
 have E35:=qb E25 e35
 have ee:Ext w8 w35:=qb e12 (qb e25 e35)
 have hn2:=h2.1
 have hml:=(stF x.2 hand).len_le_size
 intro K41 hK41
 have k41:∀ (p r:Fo) (m:Int) (ps:Fo),stF x.2 hand=p.app (.cons 4 s m ps r)→s∉secs p→K41 (p.len:Int) w35:=by
  intro p r m ps hpr hsp
  refine hK41 _ w35 fun _=>?_
  have hcut:cutS (stF x.2 hand) s=some (p,r):=cutS_at hpr hsp
  have hbo:bodyS (stF x.2 hand) s=bodyF r:=by unfold bodyS;rw [hcut]
  have hpo:posS (stF x.2 hand) s=wkF ([],0) p:=by unfold posS preS;rw [hcut]
  have hsl2:=Fo.sub_len hpr
  have hbl:=congrArg Fo.len (qer r)
  rw [Fo.len_app] at hbl
  have hps:p.size≤(stF x.2 hand).size:=by rw [hpr,Fo.size_app];omega
  intro K44 hK44
  have k44:∀ e:Int,e=p.len + 1 + (bodyF r).len→K44 e w35:=by
   intro e he
   refine hK44 e w35 fun _=>?_
   unfold drw
   have ed:=qs w35
   have hfd:=h2.ext ed
   have eed:=qb ee ed
   have Ed:=qb E35 ed
   generalize w35.drew=wd at *
   refine SlF.cut hfd hc2 (p:=p.app (.one 4 s m ps)) (g:=bodyF r) (r:=fromS r) (by rw [qer,Fo.app_one_app];exact hpr) (by rw [qj (by omega)];simp [Fo.one]) (by rw [he];simp [Fo.one]) fun a48 c48 h48 hc48=>?_
   refine SlF.cut hfd hc2 (p:=.nil) (g:=p) (r:=.cons 4 s m ps r) hpr (by simp) (by simp) fun a49 c49 h49 hc49=>?_
   refine ⟨q8u p ([],0) (by omega) (by decide) (by show (0:Int) + _≤_;omega) h49 fun v ev=>⟨_,_,rfl,?_,trivial⟩,trivial⟩
   refine stPos ((B7.ext eed).ext ev) fun v' q1 q2 q3=>?_
   obtain ⟨y0,y1⟩:=blk2w q1
   have h48':=(h48.ext ev).chg q2 fun k hk hh=>by
    have:=B7.lt;have:=e6.size;have:=e12.size;have:=e25.size
    rcases hk with hk | hk
    ·have:=hk.2;omega
    ·omega
   refine ⟨_,y0,_,y1,?_⟩
   rw [hbo,hpo] at h
   refine h a48 _ c48 v' (h48'.imp fun k hk _=>hk.imp (fun h=>h.1) fun h=>?_) (qi (qb Ed ev) q2 fun k hk=>by have:=e6.size;omega)
   have:=E25.size;omega
  refine ⟨fun e W3 m'=>∃ g r',r=Fo.app g r'∧secs g=[]∧e=p.len + 1 + g.len∧m'=r'.len∧W3=w35,⟨_,.nil,r,rfl,rfl,by rw [qj (by omega)];simp,rfl,rfl⟩,?_⟩
  rintro _ W3 m' ⟨g,r',hgr,hgs,rfl,rfl,rfl⟩ _
  have hgl:=congrArg Fo.len hgr
  rw [Fo.len_app] at hgl
  refine qd (fun hlt=>?_) (fun hge=>?_)
  ·cases r' with
   | nil=>simp at hgl;omega
   | cons k2 t2 m2 ps2 r2 =>
    have hp2:stF x.2 hand=(p.app ((Fo.one 4 s m ps).app g)).app (.cons k2 t2 m2 ps2 r2):=by
     rw [hpr,hgr,Fo.app_assoc,Fo.app_assoc];rfl
    obtain ⟨q,a',c',hq,hSq,hql,hN⟩:=h2.get hp2
    have el:((p.app ((Fo.one 4 s m ps).app g)).len:Int)=p.len + 1 + g.len:=by simp [Fo.one];omega
    rw [el] at hq
    refine hq _ ⟨k2,hN.kind,qd (fun g4=>?_) (fun g4=>?_)⟩
    ·have hl2:(Fo.cons k2 t2 m2 ps2 r2).len=r2.len + 1:=rfl
     refine ⟨r2.len,by simp,g.app (.one k2 t2 m2 ps2),r2,by rw [Fo.app_one_app];exact hgr,?_,?_,rfl,rfl⟩
     ·rw [qe8,hgs];unfold Fo.one;rw [secs,if_neg g4];rfl
     ·rw [show ((p.len:Int) + 1 + g.len + 1)=((p.len + 1 + g.len:Nat):Int) + 1 by omega,qj (by omega)];simp [Fo.one];omega
    ·have g4:k2=4:=Decidable.not_not.1 g4
     subst g4
     exact k44 _ (by rw [qqh hgr hgs (.inr ⟨_,_,_,_,rfl⟩)])
  ·have hr0:r'=.nil:=Fo.eq_nil_of_len (by omega)
   exact k44 _ (by rw [qqh hgr hgs (.inl hr0)])
 refine ⟨fun i W m=>∃ q r0,stF x.2 hand=Fo.app q r0∧s∉secs q∧i=q.len∧m=r0.len∧W=w35,⟨_,.nil,_,rfl,by simp [secs],rfl,rfl,rfl⟩,?_⟩
 rintro _ W m ⟨q,r0,hqr,hsq,rfl,rfl,rfl⟩ _
 have hsr:s∈secs r0:=by
  have:s∈secs (stF x.2 hand):=by rw [hsec];exact g3
  rw [hqr,qe8] at this
  rcases List.mem_append.1 this with h1 | h1
  ·exact absurd h1 hsq
  ·exact h1
 cases r0 with
 | nil=>cases hsr
 | cons k2 t2 m2 ps2 r2 =>
  have hql:=congrArg Fo.len hqr
  rw [Fo.len_app] at hql
  have hl2:(Fo.cons k2 t2 m2 ps2 r2).len=r2.len + 1:=rfl
  obtain ⟨qq,a',c',hq,hSq,hqll,hN⟩:=h2.get hqr
  have go:¬ (k2=4∧t2=s)→∃ m',m' < (Fo.cons k2 t2 m2 ps2 r2).len∧∃ q' r0',stF x.2 hand=Fo.app q' r0'∧s∉secs q'∧i64.wrap ((q.len:Int) + 1)=q'.len∧m'=r0'.len∧W=W:=by
   intro hh
   refine ⟨r2.len,by simp,q.app (.one k2 t2 m2 ps2),r2,by rw [Fo.app_one_app];exact hqr,?_,?_,rfl,rfl⟩
   ·rw [qe8,List.mem_append,not_or]
    refine ⟨hsq,?_⟩
    unfold Fo.one
    rw [secs,secs,List.append_nil]
    by_cases h4:k2=4
    ·rw [if_pos h4,List.mem_singleton]
     exact fun hst=>hh ⟨h4,hst.symm⟩
    ·rw [if_neg h4];simp
   ·rw [qj (by omega)];simp [Fo.one]
  refine hq _ ⟨k2,hN.kind,qd (fun g4=>go fun hh=>g4 hh.1) (fun g4=>hq _ ⟨t2,hN.text,qd (fun g5=>go fun hh=>g5 hh.2) (fun g5=>?_)⟩)⟩
  have g4:k2=4:=Decidable.not_not.1 g4
  have g5:t2=s:=Decidable.not_not.1 g5
  subst g4 g5
  exact k41 q r2 m2 ps2 hqr hsq
abbrev Src:=List UInt8 × Int × Int
def encSr:Enc Src:=⟨fun x=>[.string ⟨⟨x.1⟩⟩,.int .i64 x.2.1,.int .i64 x.2.2],3,fun _=>rfl,by decide,by intro x v hv;simp only [List.mem_cons,List.not_mem_nil,or_false] at hv;rcases hv with rfl | rfl | rfl <;> rfl⟩
theorem qrv {S:Nat→Prop} {a:Option Addr} {n i:Nat} {l:List Src} {x:Src} (hR:RowAt encSr S w a n l) (hi:l[i]? = some x) :
  ∃ q:Addr,(∀ K:Addr→Prop,K q→idx a n (i:Int) 3 K)∧w.cell? (q.add 0)=some (.string ⟨⟨x.1⟩⟩)∧w.cell? (q.add 1)=some (.int .i64 x.2.1)∧w.cell? (q.add 2)=some (.int .i64 x.2.2):=by
 obtain ⟨bb,o,hq,_,_,hc⟩:=hR.get hi
 exact ⟨_,hq,by rw [qg];exact hc 0 _ rfl,by rw [qg];exact hc 1 _ rfl,by rw [qg];exact hc 2 _ rfl⟩
def finI (l:List Src) (s:List UInt8):Nat:=(l.map (·.1)).idxOf s
def finE (l:List Src) (s:List UInt8):Int:=if s∈l.map (·.1) then 0 else 6
def finR (l:List Src) (s:List UInt8):Int:=if s∈l.map (·.1) then (finI l s:Int) else 0
theorem fin_at {l:List Src} {s:List UInt8} {k:Nat} (hk:k < l.length) (hs:l[k].1=s) (hn:s∉(l.take k).map (·.1)):finE l s=0∧finR l s=k:=by
 have hm:s∈l.map (·.1):=List.mem_map.2 ⟨_,List.getElem_mem hk,hs⟩
 refine ⟨if_pos hm,?_⟩
 unfold finR finI
 rw [if_pos hm]
 have h1:l.map (·.1)=(l.take k).map (·.1)++(l.drop k).map (·.1):=by rw [← List.map_append,List.take_append_drop]
 have h2:l.drop k=l[k] :: l.drop (k + 1):=List.drop_eq_getElem_cons hk
 rw [h1,List.idxOf_append,if_neg hn,h2,List.map_cons,hs,List.idxOf_cons_self,List.length_map,List.length_take]
 omega
theorem q9t {S:Nat→Prop} {a:Option Addr} {n c:Nat} (l:List Src) (s:List UInt8) (hR:RowAt encSr S w a n l) (hn:n≤1000000000) (h:R (.returned (.tuple ⟨[.int .i64 (finR l s),.int .i64 (finE l s)]⟩)) w) :
  Calls prog qt6 ⟨[.slice a n c,.string ⟨⟨s⟩⟩]⟩ w R:=by
 apply q64
 have hln:=hR.1
 refine ⟨fun i W m=>∃ k:Nat,i=k∧k≤n∧m=n - k∧s∉(l.take k).map (·.1)∧W=w,⟨_,0,rfl,by omega,rfl,by simp,rfl⟩,?_⟩
 rintro _ W m ⟨k,rfl,hk,rfl,hz,rfl⟩ _
 refine qd (fun hlt=>?_) (fun hge=>?_)
 ·have hkl:k < l.length:=by omega
  obtain ⟨q,hq,c0,_,_⟩:=qrv hR (show l[k]? = some l[k] by simp [hkl])
  refine hq _ ⟨_,c0,qd (fun g=>?_) (fun g=>?_)⟩
  ·obtain ⟨f1,f2⟩:=fin_at hkl g hz
   rw [f1,f2] at h;exact h
  ·refine ⟨n - (k + 1),by omega,k + 1,by rw [qj (by omega)],by omega,rfl,?_,rfl⟩
   rw [List.take_succ_eq_append_getElem hkl,List.map_append,List.mem_append,not_or]
   exact ⟨hz,by simpa using fun hh=>g hh.symm⟩
 ·rw [List.take_of_length_le (by omega)] at hz
  unfold finE finR at h
  rw [if_neg hz,if_neg hz] at h;exact h
theorem q9s {b:Nat} (x:Src) (s:List UInt8) (hb:Blk w b [.string ⟨⟨s⟩⟩] 9) (h:∀ w',Ext w w'→R (.returned (.bool (decide (x.1=s)))) w') :
  Calls prog qiy ⟨[.agg ⟨[.string ⟨⟨x.1⟩⟩,.int .i64 x.2.1,.int .i64 x.2.2]⟩,.pointer (some ⟨b,0,none⟩)]⟩ w R:=by
 apply qu4
 refine qh fun b5 w6 hb5 B5 e6 s6=>?_
 refine ⟨_,by rw [qg,B5.cell];rfl,dr_ok ⟨s,by rw [(hb.ext e6).cell];rfl,h w6 e6⟩⟩
theorem Find_spec {S:Nat→Prop} {a:Option Addr} {n c:Nat} (l:List Src) (s:List UInt8) (hR:RowAt encSr S w a n l) (hn:n≤1000000000) (h:∀ w',Ext w w'→R (.returned (.tuple ⟨[.int .i64 (finR l s),.int .i64 (finE l s)]⟩)) w') :
  Calls prog qmc ⟨[.slice a n c,.string ⟨⟨s⟩⟩]⟩ w R:=by
 apply q0g
 refine qh fun b3 w4 hb3 B3 e4 s4=>?_
 apply qbp
 have hln:=hR.1
 refine ⟨fun i W m=>∃ k:Nat,i=k∧k≤n∧m=n - k∧s∉(l.take k).map (·.1)∧Ext w4 W,⟨_,0,rfl,by omega,rfl,by simp,Below.refl _ _⟩,?_⟩
 rintro _ W m ⟨k,rfl,hk,rfl,hz,he⟩ _
 have hE:=qb e4 he
 refine qd (fun hlt=>?_) (fun hge=>?_)
 ·have hkl:k < l.length:=by omega
  obtain ⟨q,hq,c0,c1,c2⟩:=qrv (hR.ext hE) (show l[k]? = some l[k] by simp [hkl])
  refine hq _ ⟨_,c0,_,c1,_,c2,by kernel_rfl,?_⟩
  refine q9s l[k] s (B3.ext he) fun w13 e13=>⟨_,rfl,qd (fun g=>?_) (fun g=>?_)⟩
  ·obtain ⟨f1,f2⟩:=fin_at hkl g hz
   rw [f1,f2] at h
   exact ⟨_,rfl,qd (fun gg=>absurd gg (by omega)) fun _=>h w13 (qb hE e13)⟩
  ·refine ⟨n - (k + 1),by omega,k + 1,by rw [qj (by omega)],by omega,rfl,?_,qb he e13⟩
   rw [List.take_succ_eq_append_getElem hkl,List.map_append,List.mem_append,not_or]
   exact ⟨hz,by simpa using fun hh=>g hh.symm⟩
 ·rw [List.take_of_length_le (by omega)] at hz
  unfold finE finR at h
  rw [if_neg hz,if_neg hz] at h
  exact ⟨_,rfl,qd (fun _=>h W hE) fun gg=>absurd (by decide) gg⟩
theorem q7r {S S':Nat→Prop} {a a':Option Addr} {n n' c c':Nat} (L M:List Src) (hL:RowAt encSr S w a n L) (hM:RowAt encSr S' w a' n' M) (hb:n≤1000000000) (h:∀ w',Ext w w'→R (.returned (.bool (decide (L=M)))) w') :
  Calls prog qar ⟨[.slice a n c,.slice a' n' c']⟩ w R:=by
 apply qca
 have:=fun (h':qe3 a n c a' n' c' R w)=>(show qal a n c a' n' c' R w from h')
 apply this
 have hl:=hL.1
 have hm:=hM.1
 refine qd (fun g=>?_) (fun g=>?_)
 ·have:¬ L=M:=fun e=>by rw [e] at hl;exact g (by omega)
  rw [decide_eq_false this] at h;exact h w (Below.refl _ _)
 refine ⟨fun i W m=>∃ k:Nat,i=k∧k≤n∧m=n - k∧L.take k=M.take k∧Ext w W,⟨_,0,rfl,by omega,rfl,rfl,Below.refl _ _⟩,?_⟩
 rintro _ W m ⟨k,rfl,hk,rfl,hz,he⟩ _
 refine qd (fun hlt=>?_) (fun hge=>?_)
 ·have hkl:k < L.length:=by omega
  have hkm:k < M.length:=by omega
  unfold drw
  have ed:=qb he (qs W)
  obtain ⟨q,hq,c0,c1,c2⟩:=qrv (hL.ext ed) (show L[k]? = some L[k] by simp [hkl])
  obtain ⟨q',hq',d0,d1,d2⟩:=qrv (hM.ext ed) (show M[k]? = some M[k] by simp [hkm])
  refine hq _ ⟨_,c0,_,c1,_,c2,hq' _ ⟨_,d0,_,d1,_,d2,ql (fun g2=>?_) (fun g2=>?_)⟩⟩
  ·have:¬ L=M:=fun e=>by
    subst e
    simp at g2
   rw [decide_eq_false this] at h;exact h _ ed
  ·refine ⟨n - (k + 1),by omega,k + 1,by rw [qj (by omega)],by omega,rfl,?_,ed⟩
   rw [List.take_succ_eq_append_getElem hkl,List.take_succ_eq_append_getElem hkm,hz]
   congr 1
   simp only [Bool.not_eq_false',Bool.and_eq_true,decide_eq_true_eq,and_true] at g2
   rw [Prod.ext g2.1 (Prod.ext g2.2.1 g2.2.2)]
 ·rw [List.take_of_length_le (by omega),List.take_of_length_le (by omega)] at hz
  rw [decide_eq_true hz] at h;exact h W he
end
theorem open_srcs {H:Type} {enc:TypeId × Value→H} {w:World} {base:Nat} {sp:Nat→Bool} {hd:Bool} (fuel:Nat) (cs:List Value) (x:DataW H × List MemPlace) (h:DataW.trod enc prog w base sp hd fuel 27 cs=some x) :
  ∃ (a:Option Addr) (n c:Nat) (L:List Src),cs=[.slice a n c]∧RowAt encSr (fun _=>True) w a n L:=by
 rcases DataW.trod_slice Tryz.underlying27 h with ⟨rfl,_⟩ | ⟨a,len,cap,elems,rest,n,rfl,rfl,_,hb,hl,hm,hel,hall,_⟩
 ·exact ⟨none,0,0,[],rfl,RowAt.nil _⟩
 have h9:Tryz.prog.cellsOf 9=1:=by kernel_rfl
 have h3:Tryz.prog.cellsOf 3=1:=by kernel_rfl
 have h2:Tryz.prog.cellsOf 65=3:=by kernel_rfl
 obtain ⟨L,hL⟩:=row_build (E:=encSr) (w:=w) (a:=a) (len:=len) fun i hi=>by
  have hh:=hall i hi
  rw [List.getElem?_eq_getElem (by omega)] at hh
  obtain ⟨cs',hc1,hc2⟩:=Option.bind_eq_some_iff.1 hh
  rw [h2] at hc1
  obtain ⟨_,hlen,hcell⟩:=World.cells?_some hc1
  obtain ⟨xs,n',rfl,_,hcl,hxl,hf⟩:=DataW.trod_struct Tryz.underlying65 hc2
  obtain ⟨v0,v1,v2,rfl⟩:∃ x y z,cs'=[x,y,z]:=by
   match cs',hlen with
   | [x,y,z],_=>exact ⟨x,y,z,rfl⟩
  obtain ⟨y0,y1,y2,rfl⟩:∃ x y z,xs=[x,y,z]:=by
   match xs,(show xs.length=3 from hxl) with
   | [x,y,z],_=>exact ⟨x,y,z,rfl⟩
  have g0:=hf 0 _ rfl
  have g1:=hf 1 _ rfl
  have g2:=hf 2 _ rfl
  try dsimp only at g0
  try simp only [h9] at g0
  try dsimp only at g1
  try simp only [h9,h3] at g1
  try dsimp only at g2
  try simp only [h9,h3] at g2
  obtain ⟨t,e0,_,_⟩:=DataW.trod_string Tryz.underlying9 g0
  obtain ⟨m1,e1,_,_⟩:=DataW.trod_int (k:=.i64) Tryz.underlying3 g1
  obtain ⟨m2,e2,_,_⟩:=DataW.trod_int (k:=.i64) Tryz.underlying3 g2
  simp [h9,h3] at e0 e1 e2
  subst e0 e1 e2
  refine ⟨(t.data.toList,m1,m2),fun j v hj=>?_⟩
  have hj3:j < 3:=(List.getElem?_eq_some_iff.1 hj).1
  rw [show i * encSr.size=i * 3 from rfl,hcell j hj3]
  exact hj
 exact ⟨some a,len,cap,L,rfl,hL⟩
section
variable {R:Ending→World→Prop} {S:Nat→Prop} {w:World} {a:Option Addr} {n c:Nat}
end
def qg8 (i:Nat) (x:Wt):List Src:=if qaf x.2 8=[] then [(x.1,(i:Int),0)] else (x.1++[42],(i:Int),0) :: (qaf x.2 8).map fun h=>(x.1++[UInt8.ofNat (48 + h.toNat)],(i:Int),h)
def allS:List Wt→Nat→List Src
 | [],_=>[]
 | x :: l,i=>qg8 i x++allS l (i + 1)
theorem q7g:∀ (l:List Wt) (x:Wt) (i:Nat),allS (l++[x]) i=allS l i++qg8 (i + l.length) x
 | [],x,i=>by simp [allS]
 | y :: l,x,i=>by
  rw [List.cons_append,allS,q7g l x (i + 1),allS,List.append_assoc,List.length_cons]
  congr 3;omega
theorem srcs_len (i:Nat) (x:Wt):(qg8 i x).length≤9:=by
 have:=qng x.2 8
 unfold qg8
 split
 ·simp
 ·simp;omega
theorem allS_len:∀ (l:List Wt) (i:Nat),(allS l i).length≤9 * l.length
 | [],_=>by simp [allS]
 | x :: l,i=>by
  have h1:=srcs_len i x
  have h2:=allS_len l (i + 1)
  rw [allS,List.length_append,List.length_cons];omega
theorem q44:∀ {l:List Wt} {i:Nat} {y:Src},y∈allS l i→∃ k x,l[k]? = some x∧y∈qg8 (i + k) x
 | [],_,_,h=>by cases h
 | x :: l,i,y,h=>by
  rw [allS] at h
  rcases List.mem_append.1 h with h1 | h1
  ·exact ⟨0,x,rfl,h1⟩
  ·obtain ⟨k,z,h2,h3⟩:=q44 h1
   exact ⟨k + 1,z,by simpa using h2,by rw [show i + (k + 1)=i + 1 + k by omega];exact h3⟩
theorem srcs_name {i:Nat} {x:Wt} {y:Src} (h:y∈qg8 i x):y.1.length≤x.1.length + 1:=by
 unfold qg8 at h
 split at h
 ·rw [List.mem_singleton] at h;rw [h];exact Nat.le_succ _
 ·rw [List.mem_cons,List.mem_map] at h
  rcases h with rfl | ⟨j,_,rfl⟩
  ·simp
  ·simp
def srcE (L:List Wt):Int:=if chkW L≠0 then chkW L else if ((allS L 0).map (·.1)).Nodup then (if 32 < (allS L 0).length then 4 else 0) else 7
def srcR (L:List Wt):List Src:=if srcE L=0 then allS L 0 else []
theorem dig_one {h:Nat} (hh:h < 10):Lib.decDigits h=[UInt8.ofNat (48 + h)]:=by
 unfold Lib.decDigits;rw [dif_pos hh]
theorem hands_bd {f:Fo} {x:Int} (h:x∈qaf f 8):1≤x∧x≤8:=by
 refine ⟨?_,handsTo_le f 8 x h⟩
 simp only [qaf,List.mem_filter,List.mem_map,List.mem_range] at h
 obtain ⟨⟨i,hi,rfl⟩,_⟩:=h
 omega
theorem most_bd {f:Fo} (h:okF false f):∃ m:Nat,mostN (qo f)=m∧m≤8:=by
 have h1:=(q8v (qo f) 0).1
 have h2:=most_le 8 (qo f) 0 (by decide) fun x hx hk=>(qnf h x hx hk).2
 have h1:0≤mostN (qo f):=h1
 have h2:mostN (qo f)≤8:=h2
 exact ⟨(mostN (qo f)).toNat,by omega,by omega⟩
theorem qx4 {L:List Wt} (h:chkW L=0):L.length≤32∧∀ x∈L,witE x=0:=by
 unfold chkW at h
 split at h
 ·cases h
 rename_i h1
 split at h
 ·cases h
 rename_i h2
 refine ⟨by omega,fun x hx=>?_⟩
 apply Decidable.not_not.1
 intro hn
 exact h2 (List.any_eq_true.2 ⟨x,hx,decide_eq_true hn⟩)
theorem q90 {x:Wt} (h:witE x=0):qaa x.1=true∧x.1.length≤14:=by
 unfold witE at h
 split at h
 ·cases h
 ·rename_i h1
  rw [not_or] at h1
  exact ⟨by simpa using h1.1,by omega⟩
theorem q8a:SlT prog 27 65 3 32 (.agg #[.string ⟨⟨[]⟩⟩,.int .i64 0,.int .i64 0]):=⟨by kernel_rfl,by kernel_rfl,rfl,by decide⟩
section
variable {R:Ending→World→Prop} {w:World}
theorem q9q {S:Nat→Prop} {a:Option Addr} {n c:Nat} (f:Fo) (hs:small f) (hF:Forms w) (hf:SlF S w a n f) (hc0:qak f=0)
  (h:∀ a' n' c' w',Owns w' w.heap.size 3 1 a' n' c' (intV (qaf f 8))→Ext w w'→R (.returned (.tuple ⟨[.slice a' n' c',.int .i64 0]⟩)) w'):Calls prog qir ⟨[.slice a n c]⟩ w R:=by
 obtain ⟨m,hm,hm8⟩:=most_bd (qpw hc0)
 have:=qtx m hm (8 - m)
 rw [show m + (8 - m)=8 by omega] at this
 refine q9r f m hm hm8 hs hF hf hc0 fun a' n' c' w' ho he=>h a' n' c' w' (by rw [this];exact ho) he
theorem q7n {h:Int} (h1:0≤h) (h9:h < 10) (hk:R (.returned (.string ⟨⟨[UInt8.ofNat (48 + h.toNat)]⟩⟩)) w):Calls prog 59 ⟨[.int .i64 h]⟩ w R:=by
 have hmm:h=((h.toNat:Nat):Int):=by omega
 have hI:=Tryz.strconv_Itoa_small h.toNat (by omega) w
 rw [← hmm] at hI
 refine hI.mono ?_
 rintro _ _ ⟨rfl,rfl⟩
 rw [dig_one (by omega)]
 exact hk
theorem qt0 {S:Nat→Prop} {a:Option Addr} {n c:Nat} (L:List Wt) (hs:∀ x∈L,small x.2) (hF:Forms w) (hR:SlW S w a n L)
  (h:∀ a' n' c' w',OwnL encSr w' w.heap.size 65 a' n' c' (srcR L)→Ext w w'→R (.returned (.tuple ⟨[.slice a' n' c',.int .i64 (srcE L)]⟩)) w'):Calls prog qhu ⟨[.slice a n c]⟩ w R:=by
 apply qst
 have bad:∀ (e:Int) (v:World),Ext w v→srcE L=e→e≠0→R (.returned (.tuple ⟨[.slice none 0 0,.int .i64 e]⟩)) v:=by
  intro e v ev he h0
  have h1:srcR L=[]:=by unfold srcR;rw [if_neg (by omega)]
  rw [h1,he] at h
  exact h none 0 0 v (Owns.nil _ _ _ _) ev
 refine qx5 L hs hF hR fun w3 e3=>⟨_,rfl,qd (fun g=>bad _ w3 e3 (by unfold srcE;rw [if_pos g]) g) (fun g=>?_)⟩
 have g0:chkW L=0:=Decidable.not_not.1 g
 obtain ⟨hl32,hwit⟩:=qx4 g0
 have hln:=hR.1
 have z3:=e3.size
 refine ⟨fun oa on oc i W m=>∃ k:Nat,i=k∧k≤n∧m=n - k∧OwnL encSr W w.heap.size 65 oa on oc (allS (L.take k) 0)∧Ext w W,⟨_,0,rfl,by omega,rfl,Owns.nil _ _ _ _,e3⟩,?_⟩
 rintro oa on oc _ W m ⟨k,rfl,hk,rfl,hO,he⟩ _
 have hon:=OwnL.length hO
 have hal:=allS_len (L.take k) 0
 rw [List.length_take] at hal
 have zW:=he.size
 refine qd (fun hlt=>?_) (fun hge=>?_)
 ·have hkl:k < L.length:=by omega
  obtain ⟨q,a',c',hq,c0,c1,hf⟩:=(hR.ext he).get (show L[k]? = some L[k] by simp [hkl])
  have hx:=hwit L[k] (List.getElem_mem hkl)
  have hnm:=q90 hx
  have htk:L.take (k + 1)=L.take k++[L[k]]:=List.take_succ_eq_append_getElem hkl
  have hall:allS (L.take (k + 1)) 0=allS (L.take k) 0++qg8 k L[k]:=by
   rw [htk,q7g,List.length_take,Nat.zero_add,Nat.min_eq_left (by omega)]
  generalize hxe:L[k]=x at *
  have hsx:small x.2:=by rw [← hxe];exact hs _ (List.getElem_mem hkl)
  refine hq _ ⟨_,c0,_,_,_,c1,?_⟩
  refine qw rfl one2 fun b14 w16 hb14 B14 e16 s16=>?_
  obtain ⟨y0,y1⟩:=blk2w B14
  have E16:=qb he e16
  refine ⟨_,_,_,y1,q9q x.2 hsx (hF.ext E16) (hf.ext e16) (qoj hx) fun ha hn hc w19 hH e19=>⟨_,_,_,_,rfl,qd (fun gg=>absurd rfl gg) (fun _=>?_)⟩⟩
  have E19:=qb E16 e19
  have z16:=e16.size
  have z19:=e19.size
  have e1619:=qb e16 e19
  have hhl:(qaf x.2 8).length=hn:=by have:=hH.1;simpa using this
  have hh8:=qng x.2 8
  have C14:=B14.ext e19
  have hO19:=Owns.ext hO e1619
  have hbO:∀ j,bk oa j→j < W.heap.size:=fun j hj=>(hO.bk hj).2
  refine qd (fun gz=>?_) (fun gz=>?_)
  ·have hnil:qaf x.2 8=[]:=List.eq_nil_of_length_eq_zero (by omega)
   have hso:qg8 k x=[(x.1,(k:Int),0)]:=by unfold qg8;rw [if_pos hnil]
   refine ⟨_,(blk2w C14).1,?_⟩
   refine OwnL.push (E:=encSr) q8a hO19 (by omega) (x.1,(k:Int),0) (by omega) (by omega) fun a25 c25 w26 ho hc' hn'=>?_
   refine ⟨n - (k + 1),by omega,k + 1,by rw [qj (by omega)],by omega,rfl,by rw [hall,hso];exact ho,qi E19 hc' fun j hj=>(hO.bk hj).1⟩
  ·have hne:qaf x.2 8≠[]:=fun hh=>gz (by rw [hh] at hhl;simp at hhl;omega)
   have hso:qg8 k x=(x.1++[42],(k:Int),0) :: (qaf x.2 8).map fun h=>(x.1++[UInt8.ofNat (48 + h.toNat)],(k:Int),h):=by unfold qg8;rw [if_neg hne]
   refine ⟨_,(blk2w C14).1,q8b (by simp;omega) ?_⟩
   refine OwnL.push (E:=encSr) q8a hO19 (by omega) (x.1++[42],(k:Int),0) (by omega) (by omega) fun a32 c32 w33 ho hc' hn'=>?_
   have E33:=qi E19 hc' fun j hj=>(hO.bk hj).1
   refine ⟨fun ob obn obc i W2 m=>∃ t:Nat,i=t∧t≤hn∧m=hn - t∧OwnL encSr W2 w.heap.size 65 ob obn obc (allS (L.take k) 0++[(x.1++[42],(k:Int),0)]++((qaf x.2 8).take t).map fun h=>(x.1++[UInt8.ofNat (48 + h.toNat)],(k:Int),h))∧(∀ j,bk ob j→j≠b14∧¬ bk ha j)∧Blk W2 b14 [.string ⟨⟨x.1⟩⟩,.slice a' x.2.len c'] 45∧Owns W2 w16.heap.size 3 1 ha hn hc (intV (qaf x.2 8))∧Ext w W2,
    ⟨_,0,rfl,by omega,rfl,by simpa using ho,fun j hj=>?_,hc'.blk C14 (fun hh=>by have:=hbO _ hh;omega),hH.chg hc' (fun j hj hh=>by have:=hbO _ hh;have:=(hH.bk hj).1;omega),E33⟩,?_⟩
   ·rcases hn' j hj with h1 | h1
    ·have:=hbO j h1
     exact ⟨by omega,fun hh=>by have:=(hH.bk hh).1;omega⟩
    ·exact ⟨by omega,fun hh=>by have:=(hH.bk hh).2;omega⟩
   rintro ob obn obc _ W2 m ⟨t,rfl,ht,rfl,pO,pD,pB,pH,pE⟩ _
   have pon:=OwnL.length pO
   simp only [List.length_append,List.length_cons,List.length_nil,List.length_map,List.length_take] at pon
   have zW2:=pE.size
   refine qd (fun hlt2=>?_) (fun hge2=>?_)
   ·have hth:t < (qaf x.2 8).length:=by omega
    refine owns_int pH hth _ fun p hp=>⟨_,hp,?_⟩
    have hbd:=hands_bd (List.getElem_mem hth)
    have htt:(qaf x.2 8).take (t + 1)=(qaf x.2 8).take t++[(qaf x.2 8)[t]]:=List.take_succ_eq_append_getElem hth
    unfold drw
    have ed:=qs W2
    have qO:=Owns.ext pO ed
    have qB:=pB.ext ed
    have qH:=Owns.ext pH ed
    have qE:=qb pE ed
    generalize W2.drew=wd at *
    obtain ⟨d0,_⟩:=blk2w qB
    have zd:=qE.size
    generalize (qaf x.2 8)[t]=hh at *
    have last:al wd 65 [.string ⟨⟨x.1++[UInt8.ofNat (48 + hh.toNat)]⟩⟩,.int .i64 (k:Int),.int .i64 hh] fun p48 w49=>app prog [27,27] 27 (.slice ob obn obc) (.slice (some p48) 1 1) w49 fun a50 a50n a50c w51 =>
      ∃ m52:Nat,m52 < hn - t∧∃ t':Nat,i64.wrap ((t:Int) + 1)=t'∧t'≤hn∧m52=hn - t'∧OwnL encSr w51 w.heap.size 65 a50 a50n a50c (allS (L.take k) 0++[(x.1++[42],(k:Int),0)]++((qaf x.2 8).take t').map fun h=>(x.1++[UInt8.ofNat (48 + h.toNat)],(k:Int),h))∧(∀ j,bk a50 j→j≠b14∧¬ bk ha j)∧Blk w51 b14 [.string ⟨⟨x.1⟩⟩,.slice a' x.2.len c'] 45∧Owns w51 w16.heap.size 3 1 ha hn hc (intV (qaf x.2 8))∧Ext w w51:=by
     refine OwnL.push (E:=encSr) q8a qO (by omega) (x.1++[UInt8.ofNat (48 + hh.toNat)],(k:Int),hh) (by omega) (by omega) fun a50 c50 w51 ro rc rn=>?_
     refine ⟨hn - (t + 1),by omega,t + 1,by rw [qj (by omega)],by omega,rfl,?_,fun j hj=>?_,rc.blk qB (fun hh=>(pD _ hh).1 rfl),qH.chg rc (fun j hj hh=>(pD _ hh).2 hj),qi qE rc fun j hj=>(qO.bk hj).1⟩
     ·rw [htt,List.map_append,← List.append_assoc];exact ro
     ·rcases rn j hj with h1 | h1
      ·exact pD j h1
      ·have:=qB.lt
       exact ⟨by omega,fun hh=>by have:=(qH.bk hh).2;omega⟩
    refine ⟨⟨_,d0,q7n (by omega) (by omega) ⟨_,rfl,q8b (by simp;omega) ⟨?_,trivial⟩⟩,trivial⟩,q7n (by omega) (by omega) ⟨_,rfl,_,d0,q8b (by simp;omega) ⟨?_,trivial⟩⟩,trivial⟩
    ·exact And.intro last trivial
    ·exact And.intro last trivial
   ·have:t=hn:=by omega
    subst this
    rw [show (qaf x.2 8).take t=qaf x.2 8 from List.take_of_length_le (by omega)] at pO
    refine ⟨n - (k + 1),by omega,k + 1,by rw [qj (by omega)],by omega,rfl,?_,pE⟩
    rw [hall,hso]
    rw [List.append_assoc] at pO
    exact pO
 ·have hkn:k=L.length:=by omega
  rw [List.take_of_length_le (by omega)] at hO hon hal
  have hRow:=OwnL.out hO
  have hnod:srcE L=if ((allS L 0).map (·.1)).Nodup then (if 32 < (allS L 0).length then 4 else 0) else 7:=by unfold srcE;rw [if_neg g]
  refine qpi fun b64 w65 hb64 hm64 e65 s65=>?_
  have E65:=qb he e65
  have z65:=e65.size
  refine ⟨fun i W2 m=>∃ (t:Nat) (f2:List UInt8→Option Bool),i=t∧t≤on∧m=on - t∧MapT prog 9 eS eB W2 b64 t f2∧(∀ s,(f2 s).getD false=decide (s∈((allS L 0).take t).map (·.1)))∧(((allS L 0).take t).map (·.1)).Nodup∧Chg (fun j=>j=b64) w65 W2,
   ⟨_,0,fun _=>none,rfl,by omega,rfl,hm64 _ _ _ _,fun s=>by simp,by simp,Chg.refl _ _⟩,?_⟩
  rintro _ W2 m ⟨t,f2,rfl,ht,rfl,M2,hf2,hnd,hc2⟩ _
  have EW2:Ext w W2:=qi E65 hc2 fun j hj=>by omega
  have O2:=(Owns.ext hO e65).chg hc2 (fun j hj hh=>by have:=(hO.bk hj).2;omega)
  have R2:=OwnL.out (E:=encSr) O2
  refine qd (fun hlt2=>?_) (fun hge2=>?_)
  ·have htl:t < (allS L 0).length:=by omega
   obtain ⟨q,hq,d0,d1,d2⟩:=qrv R2 (show (allS L 0)[t]? = some (allS L 0)[t] by simp [htl])
   have htt:(allS L 0).take (t + 1)=(allS L 0).take t++[(allS L 0)[t]]:=List.take_succ_eq_append_getElem htl
   have hsub:List.Sublist (((allS L 0).take (t + 1)).map (·.1)) ((allS L 0).map (·.1)):=(List.take_sublist _ _).map _
   have hyl:((allS L 0)[t]).1.length≤4611686018427387904:=by
    obtain ⟨i,x,hx,hy⟩:=q44 (List.getElem_mem htl)
    have h1:=srcs_name hy
    have h2:=(q90 (hwit x (List.mem_of_getElem? hx))).2
    omega
   generalize (allS L 0)[t]=y at *
   refine hq _ ⟨_,d0,_,d1,_,d2,?_⟩
   refine qw rfl (by intro u hu;simp only [List.mem_cons,List.not_mem_nil,or_false] at hu;rcases hu with rfl | rfl | rfl <;> rfl) fun b75 w77 hb75 B75 e77 s77=>?_
   have k0:w77.cell? ((⟨b75,0,none⟩:Addr).add 0)=some (.string ⟨⟨y.1⟩⟩):=by rw [qg,B75.cell];rfl
   have M77:=M2.ext e77
   have hlk:=MapT.look (eV:=eB) M77 kd9 (t:=95) (e:=4) (by kernel_rfl) (z:=.bool false) (qvr (by kernel_rfl) w77) (keyS hyl)
   refine ⟨_,k0,(f2 y.1).getD false,?_,?_⟩
   ·cases hv:f2 y.1 with
    | none=>rw [hv] at hlk;exact hlk
    | some v=>rw [hv] at hlk;exact hlk
   rw [hf2]
   refine qd (fun gm=>?_) (fun gm=>?_)
   ·refine bad 7 w77 (qb EW2 e77) ?_ (by decide)
    rw [hnod,if_neg]
    intro hn2
    have:=hn2.sublist hsub
    rw [htt,List.map_append,List.nodup_append] at this
    exact this.2.2 y.1 gm y.1 (by simp) rfl
   ·refine ⟨_,k0,?_⟩
    refine MapT.update (eV:=eB) (v:=true) M77 kd9 (t:=95) (e:=4) (by kernel_rfl) (by simp only [maxLen];omega) (keyS hyl) (fun z hz=>by simpa using hz) fun w81 g81 M81 hc81 hv81 ho81=>?_
    have hc81':Chg (fun j=>j=b64) w77 w81:=hc81
    refine ⟨on - (t + 1),by omega,t + 1,g81,by rw [qj (by omega)],by omega,rfl,M81,fun s=>?_,?_,(hc2.trans (Chg.of_ext e77)).trans hc81'⟩
    ·rw [htt,List.map_append]
     by_cases hsy:s=y.1
     ·rw [hsy,hv81];simp
     ·rw [ho81 s hsy,hf2];simp [hsy]
    ·rw [htt,List.map_append,List.nodup_append]
     refine ⟨hnd,by simp,fun p hp q hq hpq=>gm ?_⟩
     rw [List.map_singleton,List.mem_singleton] at hq
     rw [← hq,← hpq];exact hp
  ·have:t=on:=by omega
   subst this
   rw [List.take_of_length_le (by omega)] at hnd
   rw [if_pos hnd] at hnod
   refine qd (fun g3=>bad 4 W2 EW2 (by rw [hnod,if_pos (by omega)]) (by decide)) (fun g3=>?_)
   rw [if_neg (by omega)] at hnod
   have h1:srcR L=allS L 0:=by unfold srcR;rw [if_pos hnod]
   rw [h1,hnod] at h
   exact h oa t oc W2 O2 EW2
end
abbrev Nm:=List UInt8
def ddS:List Nm→List Nm→List Nm
 | acc,[]=>acc
 | acc,s :: l=>ddS (if s∈acc then acc else acc++[s]) l
theorem q86:∀ (l m acc:List Nm),ddS acc (l++m)=ddS (ddS acc l) m
 | [],m,acc=>rfl
 | s :: l,m,acc=>by rw [List.cons_append,ddS,q86 l m,ddS]
theorem ddS_snoc (acc l:List Nm) (s:Nm):ddS acc (l++[s])=if s∈ddS acc l then ddS acc l else ddS acc l++[s]:=by
 rw [q86];rfl
theorem q8w:∀ {l acc:List Nm} {x:Nm},x∈ddS acc l↔x∈acc∨x∈l
 | [],acc,x=>by simp [ddS]
 | s :: l,acc,x=>by
  rw [ddS,q8w,List.mem_cons]
  split
  ·rename_i h
   constructor
   ·rintro (h1 | h1)
    ·exact .inl h1
    ·exact .inr (.inr h1)
   ·rintro (h1 | rfl | h1)
    ·exact .inl h1
    ·exact .inl h
    ·exact .inr h1
  ·rw [List.mem_append,List.mem_singleton,or_assoc]
theorem q32:∀ (l acc:List Nm),(ddS acc l).length≤acc.length + l.length
 | [],acc=>by simp [ddS]
 | s :: l,acc=>by
  have:=q32 l (if s∈acc then acc else acc++[s])
  rw [ddS,List.length_cons]
  split at this
  ·rename_i h;rw [if_pos h];omega
  ·rename_i h;rw [if_neg h];simp at this;omega
theorem find_pre {α:Type} {P:α→Bool} {p:List α} {x:α} (r:List α) (h:p.find? P=none) (hx:P x=true):(p++x :: r).find? P=some x:=by
 rw [List.find?_append,h,List.find?_cons,hx];rfl
theorem idxw_at {own:List Nm} {s:Nm} {j:Nat} (hj:j < own.length) (hs:own[j]=s) (hn:s∉own.take j):own.idxOf s=j:=by
 have h1:own=own.take j++own.drop j:=(List.take_append_drop j own).symm
 have h2:own.drop j=s :: own.drop (j + 1):=by rw [List.drop_eq_getElem_cons hj,hs]
 conv=>lhs;arg 2;rw [h1]
 rw [List.idxOf_append,if_neg hn,h2,List.idxOf_cons_self,List.length_take]
 omega
theorem idxw_ge {own:List Nm} {s:Nm} {j:Nat} (hj:j≤own.length) (hn:s∉own.take j):j≤own.idxOf s:=by
 have h1:own=own.take j++own.drop j:=(List.take_append_drop j own).symm
 have h3:own.idxOf s=(own.drop j).idxOf s + (own.take j).length:=by
  conv=>lhs;arg 2;rw [h1]
  rw [List.idxOf_append,if_neg hn]
 rw [h3,List.length_take];omega
def okO (tk:List Nm) (s:Nm) (own:List Nm):Bool:=!decide (s∈own)||(own.take (own.idxOf s)).all fun o=>decide (o∈tk)
def freeB (A:List (List Nm)) (tk:List Nm) (s:Nm):Bool:=A.all (okO tk s)
def canB (A:List (List Nm)) (tk:List Nm) (s:Nm):Bool:=!decide (s∈tk)&&freeB A tk s
def nextS (A:List (List Nm)) (tk:List Nm):Option Nm:=A.flatten.find? (canB A tk)
def ordG (A:List (List Nm)):Nat→List Nm→Option (List Nm)
 | 0,out=>some out
 | m + 1,out=>match nextS A out with
  | none=>none
  | some s=>ordG A m (out++[s])
def secL (L:List Wt):List (List Nm):=L.map fun x=>secs x.2
def ddL (L:List Wt):List Nm:=ddS [] (secL L).flatten
theorem okO_past {tk:List Nm} {s:Nm} {own:List Nm} (h:s∉own):okO tk s own=true:=by
 unfold okO;rw [decide_eq_false h];rfl
theorem okO_at {tk:List Nm} {s:Nm} {own:List Nm} {j:Nat} (hj:j < own.length) (hs:own[j]=s) (hn:s∉own.take j) (ht:∀ o∈own.take j,o∈tk):okO tk s own=true:=by
 unfold okO
 rw [idxw_at hj hs hn,Bool.or_eq_true,List.all_eq_true]
 exact .inr fun o ho=>decide_eq_true (ht o ho)
theorem okO_bad {tk:List Nm} {s:Nm} {own:List Nm} {j:Nat} (hj:j < own.length) (hm:s∈own) (hn:s∉own.take (j + 1)) (ht:own[j]∉tk):okO tk s own=false:=by
 have h1:=idxw_ge (by omega) hn
 unfold okO
 rw [decide_eq_true hm,Bool.not_true,Bool.false_or,List.all_eq_false]
 refine ⟨own[j],?_,by simpa using ht⟩
 exact List.mem_take_iff_getElem.2 ⟨j,by have:=List.idxOf_le_length (a:=s) (l:=own);omega,rfl⟩
theorem nextS_mem {A:List (List Nm)} {tk:List Nm} {s:Nm} (h:nextS A tk=some s):s∈A.flatten∧s∉tk∧freeB A tk s=true:=by
 have h1:=List.find?_some h
 unfold canB at h1
 simp only [Bool.and_eq_true,Bool.not_eq_true',decide_eq_false_iff_not] at h1
 exact ⟨List.mem_of_find?_eq_some h,h1⟩
end Go.Proofs
namespace Go.Sh
open Go Go.RowKit
section
variable {α:Type} {E:Enc α} {w:World} {B:Nat} {e:TypeId} {a:Option Addr} {n c:Nat} {l:List α}
end
end Go.Sh
namespace Go.Proofs
open Go Go.Sh Go.RowKit Go.Proofs.Tryz IntKind
theorem get_str {S:Nat→Prop} {w:World} {a:Option Addr} {n:Nat} {L:List (List UInt8)} (h:RowAt Sh.encStr S w a n L) {k:Nat} (hk:k < L.length) :
  ∃ q:Addr,(∀ K:Addr→Prop,K q→idx a n (k:Int) 1 K)∧w.cell? q=some (.string ⟨⟨L[k]⟩⟩):=by
 obtain ⟨bb,o,hq,_,_,hc⟩:=h.get (i:=k) (x:=L[k]) (List.getElem?_eq_getElem hk)
 exact ⟨⟨bb,o,none⟩,hq,hc 0 _ rfl⟩
theorem qmo {R:Ending→World→Prop} {S:Nat→Prop} {w:World} {a:Option Addr} {n c:Nat} {L:List (List UInt8)} (v:List UInt8) (h1:RowAt Sh.encStr S w a n L) (hs:n≤4611686018427387904)
  (h:R (.returned (.bool (decide (v∈L)))) w):Calls prog qa3 ⟨[.slice a n c,.string ⟨⟨v⟩⟩]⟩ w R:=by
 apply qc3
 have hn:=h1.1
 apply qd7
 refine ⟨fun i W m=>∃ k:Nat,i=k∧k≤n∧m=n - k∧v∉L.take k∧W=w,⟨_,0,rfl,by omega,rfl,by simp,rfl⟩,?_⟩
 rintro _ W m ⟨k,rfl,hk,rfl,hno,rfl⟩ _
 refine qd (fun hlt=>?_) (fun hge=>?_)
 ·have hkL:k < L.length:=by omega
  obtain ⟨p,hp1,hc⟩:=get_str h1 hkL
  refine hp1 _ ⟨_,hc,qd (fun g=>?_) (fun g=>?_)⟩
  ·refine ⟨_,rfl,?_⟩
   rw [decide_eq_true (show (0:Int)≤(k:Int) by omega)]
   rw [decide_eq_true (show v∈L by rw [g];exact List.getElem_mem hkL)] at h
   exact h
  ·refine ⟨n - (k + 1),by omega,k + 1,by rw [qj (by omega)],by omega,rfl,?_,rfl⟩
   rw [List.take_add_one,List.getElem?_eq_getElem hkL,List.mem_append]
   rintro (hh | hh)
   ·exact hno hh
   ·simp at hh;exact g hh
 ·refine ⟨_,rfl,?_⟩
  rw [List.take_of_length_le (by omega)] at hno
  rw [decide_eq_false hno] at h
  exact h
end Go.Proofs
