/- The contracts of the functions that the law reaches, one after the other, and at the end the law's card. -/
import Derived.Test.YtkecgnlelgdndaaGreatDoorLawB
import Derived.Deep.Slices
set_option linter.all false
set_option maxRecDepth 20000
namespace Go.Proofs
open Go Go.Sh Go.RowKit Go.Proofs.Tryz IntKind
theorem q9o:∀ (f:Fo) {R:Ending→World→Prop} {S:Nat→Prop} {w:World} {a:Option Addr} {n c:Nat},f.size≤1000000000→tlen f≤4611686018427387904→SlF S w a n f →
  (∀ a' n' c' w',SlF (fun k=>S k∨w.heap.size≤k) w' a' n' (qam f)→Ext w w'→R (.returned (.slice a' n' c')) w')→Calls prog qin ⟨[.slice a n c]⟩ w R:=by
 intro f
 induction hz:f.size using Nat.strongRecOn generalizing f with
 | _ z ih =>
 intro R S w a n c hs ht hf0 h
 apply qqc
 have hn:=hf0.1
 have hfl:=f.len_le_size
 have hf:SlF (fun k=>S k∧k < w.heap.size) w a n f:=hf0.imp fun k hk hl=>⟨hk,hl⟩
 refine qh fun b0 w0 hb0 hB0 e0 s0=>?_
 refine ⟨fun oa on oc i W m=>∃ (p r out:Fo),f=p.app r∧i=p.len∧m=r.len∧OwnF 56 (fun k=>S k∧k < w.heap.size) w.heap.size W oa on oc out∧out.len≤p.len∧(∀ pre k t m ps,out=Fo.app pre (.one k t m ps)→t.length≤tlen p)∧Ext w W∧qam f=mgo r out,
  ⟨_,.nil,f,.nil,rfl,rfl,rfl,⟨rfl,[],Owns.made hB0 (by omega),rfl⟩,by simp,?_,e0,rfl⟩,?_⟩
 ·intro pre k t m ps he
  have:=congrArg Fo.len he;simp [Fo.one] at this
 rintro oa on oc _ W m ⟨p,r,out,hpr,rfl,rfl,hout,holen,hlast,he,heq⟩ _
 have hon:=hout.len
 have hwW:=he.size
 refine qd (fun hlt=>?_) (fun hge=>?_)
 ·obtain ⟨k,t,mm,ps,r,rfl⟩:=Fo.next hpr (by omega)
  have hsl:=Fo.sub_len hpr
  have hsz:=Fo.sub_size hpr
  have htl:tlen f=tlen p + (t.length + tlen ps + tlen r):=by rw [hpr,qco];rfl
  have e1:f=(p.app (.one k t mm ps)).app r:=by rw [Fo.app_one_app];exact hpr
  have i1:i64.wrap ((p.len:Int) + 1)=((p.app (.one k t mm ps)).len:Int):=by rw [qj (by omega)];simp [Fo.one]
  have t1:tlen (p.app (.one k t mm ps))=tlen p + (t.length + tlen ps):=by rw [qco];simp [Fo.one,tlen]
  rw [mgo] at heq
  have done:∀ (oa':Option Addr) (on' oc':Nat) (W':World),OwnF 56 (fun k=>S k∧k < w.heap.size) w.heap.size W' oa' on' oc' (snocM out k t mm (mgo ps .nil))→Ext w W' →
    ∃ m42,m42 < (Fo.cons k t mm ps r).len∧∃ (p' r' out':Fo),f=p'.app r'∧i64.wrap ((p.len:Int) + 1)=p'.len∧m42=r'.len∧OwnF 56 (fun k=>S k∧k < w.heap.size) w.heap.size W' oa' on' oc' out'∧out'.len≤p'.len∧(∀ pre k t m ps,out'=Fo.app pre (.one k t m ps)→t.length≤tlen p')∧Ext w W'∧qam f=mgo r' out':=by
   intro oa' on' oc' W' ho' he'
   refine ⟨r.len,by simp,_,r,_,e1,i1,rfl,ho',?_,?_,he',heq⟩
   ·have:=qvu out k t mm (mgo ps .nil)
    simp [Fo.one];omega
   ·intro pre k1 t1' m1 ps1 hsn
    have:=qoo hlast pre k1 t1' m1 ps1 hsn
    omega
  obtain ⟨q,a',c',hq,hSq,hql,hN⟩:=(hf.ext he).get hpr
  refine hq _ ⟨k,hN.kind,t,hN.text,mm,hN.num,a',ps.len,c',hN.parts,?_⟩
  refine qw (by simp) (by intro u hu;simp only [List.mem_cons,List.not_mem_nil,or_false] at hu;rcases hu with rfl | rfl | rfl | rfl <;> rfl) fun bx w1 hbx hBx e2 s2=>?_
  obtain ⟨x0,x1,x2,x3⟩:=blk4 hBx
  have E1:=qb he e2
  have ho1:=hout.ext e2
  have hzz:=e2.size
  intro K18 hK18
  have k18:¬ (k=1∧t=[])→K18 w1:=by
   intro hne
   refine hK18 _ fun _=>?_
   intro K20 hK20
   -- the parts have been merged
   have k20:∀ (a3:Option Addr) (c3:Nat) (w4:World),Ext W w4→Blk w4 bx [.int .i64 k,.string ⟨⟨t⟩⟩,.int .i64 mm,.slice a3 (qam ps).len c3] 56→SlF (fun j=>(S j∧j < w.heap.size)∨w1.heap.size≤j) w4 a3 (qam ps).len (qam ps)→K20 w4:=by
    intro a3 c3 w4 EW4 b1 hp4
    obtain ⟨y0,y1,y2,y3⟩:=blk4 b1
    have E4:=qb he EW4
    have ho4:=hout.ext EW4
    have z4:=EW4.size
    refine hK20 _ fun _=>?_
    intro K22 hK22
    have k22:∀ g,g=decide (k=1∧lastT out=true)→K22 g w4:=by
     rintro _ rfl
     refine hK22 _ _ fun _=>qd (fun g=>?_) (fun g=>?_)
     ·have hsn:snocM out k t mm (mgo ps .nil)=addL out t:=by unfold snocM;rw [if_neg hne,if_pos g]
      rcases qdh out with rfl | ⟨pre,k2,t2,n2,ps2,rfl⟩
      ·simp [lastT] at g
      rw [qbw] at hsn
      have hdr:=qs w4
      obtain ⟨q2,hq2,l0,l1,lst⟩:=(ho4.ext hdr).last
      have onl:on=pre.len + 1:=by rw [hon];simp [Fo.one]
      have e:i64.wrap ((on:Int) - 1)=(pre.len:Int):=by rw [qeh (by omega) (by omega),onl];simp
      have hl2:=hlast pre k2 t2 n2 ps2 rfl
      unfold drw
      rw [e]
      refine hq2 _ ⟨t2,l1,t,(blk4 (b1.ext hdr)).2.1,by omega,hq2 _ ⟨lst _ _ fun w5 ho5 hc5=>?_,trivial⟩⟩
      refine done _ _ _ w5 (by rw [hsn];exact ho5) ?_
      exact qi (qb E4 hdr) hc5 fun j hj=>((ho4.ext hdr).bk hj).1
     ·have hsn:snocM out k t mm (mgo ps .nil)=out.app (.one k t mm (qam ps)):=by unfold snocM;rw [if_neg hne,if_neg g];rfl
      refine ⟨k,y0,t,y1,mm,y2,a3,_,c3,y3,?_⟩
      refine OwnF.push qa1 ho4 (by omega) (qel hp4 (fun j hj=>hj.2) hout (by omega) (by omega)) (by omega) (by omega) fun a5 n5 c5 w5 ho5 hc5=>?_
      refine done a5 n5 c5 w5 (by rw [hsn];exact ho5) ?_
      exact qi E4 hc5 fun j hj=>(hout.bk hj).1
    rcases qdh out with hv | ⟨pre,k2,t2,m2,ps2,hv⟩
    ·subst hv
     have:on=0:=hon
     subst this
     refine ⟨k,y0,qd (fun g=>qd (fun g2=>absurd g2 (by omega)) (fun g2=>k22 _ (by simp [lastT]))) (fun g=>k22 _ (by simp [lastT]))⟩
    ·have hl1:lastT out=decide (k2=1):=by rw [hv,qcy]
     have hl2:on=pre.len + 1:=by rw [hon,hv];simp [Fo.one]
     have e:i64.wrap ((on:Int) - 1)=(pre.len:Int):=by rw [qeh (by omega) (by omega),hl2];simp
     rw [e]
     refine ⟨k,y0,qd (fun g2=>qd (fun g=>?_) (fun g=>absurd (by omega) g)) (fun g2=>k22 _ (by simp [g2]))⟩
     subst hv
     obtain ⟨q2,hq2,l0,l1,lst⟩:=ho4.last
     exact hq2 _ ⟨k2,l0,k22 _ (by rw [hl1];simp [g2])⟩
   refine ⟨a',ps.len,c',x3,qd (fun g=>⟨a',ps.len,c',x3,?_⟩) (fun g=>?_)⟩
   ·refine ih _ (hz ▸ hsz) ps rfl (S:=fun k=>S k∧k < w.heap.size) (by omega) (by omega) (hN.sl.ext e2) fun a3 n3 c3 w3 hsl3 e3=>⟨_,_,_,rfl,?_⟩
    have hBx3:=hBx.ext e3
    have hn3:=hsl3.1
    rw [qg]
    refine qae hBx3 (by simp) (by intro u hu;simp only [List.mem_singleton] at hu;subst hu;rfl) fun w4 b1 b2 b3 b4 b5 b6=>?_
    simp only [putAt,List.set] at b1
    have hc4:Chg (· = bx) w3 w4:=⟨b4,b5,b6,by omega,fun k _ hk=>b2 k hk⟩
    have EW4:Ext W w4:=qi (qb e2 e3) hc4 fun j hj=>by omega
    have hp4:SlF (fun j=>(S j∧j < w.heap.size)∨w1.heap.size≤j) w4 a3 n3 (qam ps):=hsl3.chg hc4 fun j hj he=>by
     subst he;rcases hj with hj | hj <;> omega
    subst hn3
    exact k20 a3 c3 w4 EW4 b1 hp4
   ·have hp:ps=.nil:=Fo.eq_nil_of_len (by omega)
    subst hp
    exact k20 a' c' w1 e2 hBx (SlF.nil a')
  refine ⟨k,x0,qd (fun g=>⟨t,x1,qd (fun g2=>?_) (fun g2=>k18 fun hh=>g2 hh.2)⟩) (fun g=>k18 fun hh=>g hh.1)⟩
  exact done oa on oc w1 (by unfold snocM;rw [if_pos ⟨g,g2⟩];exact ho1) E1
 ·obtain ⟨rfl,rfl⟩:=Fo.last hpr (by omega)
  rw [heq] at h
  refine h oa on oc W (hout.out.imp fun k hk _=>hk.imp (fun h=>h.1) id) he
def brkF (k:Int):Bool:=decide (k=2∨k=3∨k=4)
def qag:Fo→Fo
 | .nil=>.nil
 | .cons k t n ps r=>(if brkF k then .one k t n ps else qag ps).app (qag r)
def partF (k:Int) (t:List UInt8) (n:Int) (ps:Fo):Fo:=if ps.len=0 then .nil else .one k t n ps
theorem q9f (f g:Fo):qag (f.app g)=(qag f).app (qag g):=by
 induction f with
 | nil=>rfl
 | cons k t n ps r _ ih=>simp only [Fo.cons_app,qag,ih,Fo.app_assoc]
theorem qcb:∀ f:Fo,(qag f).size≤f.size
 | .nil=>Nat.le_refl _
 | .cons k t n ps r=>by
  have h1:=qcb ps
  have h2:=qcb r
  simp only [qag,Fo.size_app,Fo.size]
  split
  ·simp [Fo.one,Fo.size];omega
  ·omega
theorem part_spec {R:Ending→World→Prop} {S:Nat→Prop} {w:World} (k:Int) (t:List UInt8) (n:Int) (a0:Option Addr) (n0 c0:Nat) {a:Option Addr} {m c:Nat} (ps:Fo) (hf:SlF S w a m ps)
  (h:∀ a' n' c' w',SlF (fun k=>S k∨w.heap.size≤k) w' a' n' (partF k t n ps)→Ext w w'→R (.returned (.slice a' n' c')) w') :
  Calls prog qt7 ⟨[.agg ⟨[.int .i64 k,.string ⟨⟨t⟩⟩,.int .i64 n,.slice a0 n0 c0]⟩,.slice a m c]⟩ w R:=by
 apply q65
 have hm:=hf.1
 refine qh fun b w1 hb hB e1 s1=>qd (fun g=>?_) (fun g=>?_)
 ·refine h none 0 0 w1 ?_ e1
  unfold partF;rw [if_pos (by omega)];exact SlF.nil none
 ·rw [qg]
  refine qae hB (by simp) (by intro u hu;simp only [List.mem_singleton] at hu;subst hu;rfl) fun w2 b1 b2 b3 b4 b5 b6=>?_
  simp only [putAt,List.set] at b1
  obtain ⟨x0,x1,x2,x3⟩:=blk4 b1
  have hc:Chg (· = b) w1 w2:=⟨b4,b5,b6,by omega,fun k _ hk=>b2 k hk⟩
  have E2:Ext w w2:=qi e1 hc fun k hk=>by omega
  refine ⟨k,x0,t,x1,n,x2,a,m,c,x3,qh fun b' w3 hb' hB' e3 s3=>?_⟩
  have E3:=qb E2 e3
  have z2:=E2.size
  refine h (some ⟨b',0,none⟩) 1 1 w3 ⟨?_,[.int .i64 k,.string ⟨⟨t⟩⟩,.int .i64 n,.slice a m c],.inr ⟨b',0,rfl,.inr (by omega),hB'.lt,?_⟩,?_⟩ E3
  ·unfold partF;rw [if_neg (by omega)];rfl
  ·intro j v hj;rw [Nat.zero_add,hB'.cell];exact hj
  ·unfold partF;rw [if_neg (by omega)]
   obtain ⟨hm',us,q1,q2⟩:=(hf.ext E3).imp (S':=fun k=>S k∨w.heap.size≤k) fun k hk _=>.inl hk
   subst hm'
   exact ⟨a,c,us,[],rfl,q1,q2,rfl⟩
theorem q9e:∀ (f:Fo) {R:Ending→World→Prop} {S:Nat→Prop} {w:World} {a:Option Addr} {n c:Nat},f.size≤1000000000→SlF S w a n f →
  (∀ a' n' c' w',SlF (fun k=>S k∨w.heap.size≤k) w' a' n' (qag f)→Ext w w'→R (.returned (.slice a' n' c')) w')→Calls prog qme ⟨[.slice a n c]⟩ w R:=by
 intro f
 induction hz:f.size using Nat.strongRecOn generalizing f with
 | _ z ih =>
 intro R S w a n c hs hf0 h
 apply q0i
 have hn:=hf0.1
 have hfl:=f.len_le_size
 have hf:SlF (fun k=>S k∧k < w.heap.size) w a n f:=hf0.imp fun k hk hl=>⟨hk,hl⟩
 refine ⟨fun oa on oc i W m=>∃ (p r out:Fo),f=p.app r∧i=p.len∧m=r.len∧OwnF 56 (fun k=>S k∧k < w.heap.size) w.heap.size W oa on oc out∧out=qag p∧Ext w W,
  ⟨_,.nil,f,.nil,rfl,rfl,rfl,OwnF.nil w,rfl,Below.refl _ _⟩,?_⟩
 rintro oa on oc _ W m ⟨p,r,out,hpr,rfl,rfl,hout,rfl,he⟩ _
 have hon:=hout.len
 have hwW:=he.size
 refine qd (fun hlt=>?_) (fun hge=>?_)
 ·obtain ⟨k,t,mm,ps,r,rfl⟩:=Fo.next hpr (by omega)
  have hsl:=Fo.sub_len hpr
  have hsz:=Fo.sub_size hpr
  have hss:f.size=p.size + (ps.size + r.size + 1):=by rw [hpr,Fo.size_app];rfl
  have bl:=(qag p).len_le_size
  have bs:=qcb p
  have bl2:=(qag ps).len_le_size
  have bs2:=qcb ps
  have e1:f=(p.app (.one k t mm ps)).app r:=by rw [Fo.app_one_app];exact hpr
  have i1:i64.wrap ((p.len:Int) + 1)=((p.app (.one k t mm ps)).len:Int):=by rw [qj (by omega)];simp [Fo.one]
  have p1:qag (p.app (.one k t mm ps))=(qag p).app (if brkF k then .one k t mm ps else qag ps):=by rw [q9f];simp [Fo.one,qag]
  obtain ⟨q,a',c',hq,hSq,hql,hN⟩:=(hf.ext he).get hpr
  refine hq _ ⟨k,hN.kind,?_⟩
  intro K10 hK10
  have k10:∀ g,g=brkF k→K10 g W:=by
   rintro _ rfl
   refine hK10 _ _ fun _=>ql (fun g=>hq _ ⟨k,hN.kind,t,hN.text,mm,hN.num,a',ps.len,c',hN.parts,?_⟩) (fun g=>hq _ ⟨a',ps.len,c',hN.parts,?_⟩)
   ·refine OwnF.push qa1 hout (by omega) (hN.sl.imp fun j hj _=>⟨.inl hj,fun hb=>by have:=(hout.bk hb).1;have:=hj.2;omega⟩) (by omega) (by omega) fun a5 n5 c5 w5 ho5 hc5=>?_
    refine ⟨r.len,by simp,_,r,_,e1,i1,rfl,ho5,by rw [p1,g];rfl,qi he hc5 fun j hj=>(hout.bk hj).1⟩
   ·refine ih _ (hz ▸ hsz) ps rfl (S:=fun k=>S k∧k < w.heap.size) (by omega) hN.sl fun a3 n3 c3 w3 hsl3 e3=>⟨_,_,_,rfl,?_⟩
    have z3:=e3.size
    have hn3:=hsl3.1
    refine OwnF.pushAll qa1 (hout.ext e3) (by omega) (qel hsl3 (fun j hj=>hj.2) hout (by omega) (by omega)) (by omega) (by omega) fun a5 n5 c5 w5 ho5 hc5=>?_
    refine ⟨r.len,by simp,_,r,_,e1,i1,rfl,ho5,by rw [p1,g];simp,qi (qb he e3) hc5 fun j hj=>(hout.bk hj).1⟩
  refine qd (fun g=>k10 _ (by simp [g,brkF])) (fun g=>qd (fun g2=>k10 _ (by simp [g2,brkF])) (fun g2=>k10 _ (by simp [g,g2,brkF])))
 ·obtain ⟨rfl,rfl⟩:=Fo.last hpr (by omega)
  exact h oa on oc W (hout.out.imp fun k hk _=>hk.imp (fun h=>h.1) id) he
def qm:Fo→Int→Bool→Fo
 | .nil,_,_=>.nil
 | .cons k t n ps r,hand,adv =>
  (if k=9∧n≤hand then qag ps else if k=8∧n≤hand then qm ps hand adv else if (k=8∨k=9)∧adv=true then partF k t n (qm ps hand adv) else if k=8 then qag ps
  else if k=9 then qm ps hand adv else if k=7∨k=10∨k=11 then partF k t n (qm ps hand adv) else .one k t n ps).app (qm r hand adv)
theorem q6b (f g:Fo) (hand:Int) (adv:Bool):qm (f.app g) hand adv=(qm f hand adv).app (qm g hand adv):=by
 induction f with
 | nil=>rfl
 | cons k t n ps r _ ih=>simp only [Fo.cons_app,qm,ih,Fo.app_assoc]
theorem qsd (k t n) (ps:Fo):(partF k t n ps).size≤ps.size + 1:=by
 unfold partF
 split
 ·simp [Fo.size]
 ·simp [Fo.one,Fo.size]
theorem qbn:∀ (f:Fo) (hand:Int) (adv:Bool),(qm f hand adv).size≤f.size
 | .nil,_,_=>Nat.le_refl _
 | .cons k t n ps r,hand,adv=>by
  have h1:=qbn ps hand adv
  have h2:=qbn r hand adv
  have h3:=qcb ps
  have h4:=qsd k t n (qm ps hand adv)
  simp only [qm,Fo.size_app,Fo.size]
  split
  ·omega
  split
  ·omega
  split
  ·omega
  split
  ·omega
  split
  ·omega
  split
  ·omega
  ·simp [Fo.one,Fo.size];omega
theorem q6a:∀ (f:Fo) {R:Ending→World→Prop} {S:Nat→Prop} {w:World} {a:Option Addr} {n c:Nat} (hand:Int) (adv:Bool),f.size≤1000000000→SlF S w a n f →
  (∀ a' n' c' w',SlF (fun k=>S k∨w.heap.size≤k) w' a' n' (qm f hand adv)→Ext w w'→R (.returned (.slice a' n' c')) w')→Calls prog qkw ⟨[.slice a n c,.int .i64 hand,.bool adv]⟩ w R:=by
 intro f
 induction hz:f.size using Nat.strongRecOn generalizing f with
 | _ z ih =>
 intro R S w a n c hand adv hs hf0 h
 apply qya
 have hn:=hf0.1
 have hfl:=f.len_le_size
 have hf:SlF (fun k=>S k∧k < w.heap.size) w a n f:=hf0.imp fun k hk hl=>⟨hk,hl⟩
 refine ⟨fun oa on oc i W m=>∃ (p r out:Fo),f=p.app r∧i=p.len∧m=r.len∧OwnF 56 (fun k=>S k∧k < w.heap.size) w.heap.size W oa on oc out∧out=qm p hand adv∧Ext w W,
  ⟨_,.nil,f,.nil,rfl,rfl,rfl,OwnF.nil w,rfl,Below.refl _ _⟩,?_⟩
 rintro oa on oc _ W m ⟨p,r,out,hpr,rfl,rfl,hout,rfl,he⟩ _
 have hon:=hout.len
 have hwW:=he.size
 refine qd (fun hlt=>?_) (fun hge=>?_)
 ·obtain ⟨k,t,mm,ps,r,rfl⟩:=Fo.next hpr (by omega)
  have hsl:=Fo.sub_len hpr
  have hsz:=Fo.sub_size hpr
  have hss:f.size=p.size + (ps.size + r.size + 1):=by rw [hpr,Fo.size_app];rfl
  have rl:=(qm p hand adv).len_le_size
  have rs:=qbn p hand adv
  have rs2:=qbn ps hand adv
  have e1:f=(p.app (.one k t mm ps)).app r:=by rw [Fo.app_one_app];exact hpr
  have i1:i64.wrap ((p.len:Int) + 1)=((p.app (.one k t mm ps)).len:Int):=by rw [qj (by omega)];simp [Fo.one]
  have p1:qm (p.app (.one k t mm ps)) hand adv=(qm p hand adv).app (qm (.one k t mm ps) hand adv):=q6b _ _ _ _
  obtain ⟨q,a',c',hq,hSq,hql,hN⟩:=(hf.ext he).get hpr
  refine hq _ ⟨k,hN.kind,t,hN.text,mm,hN.num,a',ps.len,c',hN.parts,?_⟩
  refine qw (by simp) (by intro u hu;simp only [List.mem_cons,List.not_mem_nil,or_false] at hu;rcases hu with rfl | rfl | rfl | rfl <;> rfl) fun bx w1 hbx hBx e2 s2=>?_
  obtain ⟨x0,x1,x2,x3⟩:=blk4 hBx
  have E1:=qb he e2
  have z2:=e2.size
  -- appending what a call gave
  have fin:∀ (g:Fo) {a3:Option Addr} {n3 c3:Nat} {w3:World},g=qm (.one k t mm ps) hand adv→g.len≤1000000000→SlF (fun j=>(S j∧j < w.heap.size)∨w1.heap.size≤j) w3 a3 n3 g→Ext w1 w3 →
    app prog [43,43] 43 (.slice oa on oc) (.slice a3 n3 c3) w3 fun a' n' c' w'=>∃ m55:Nat,m55 < (Fo.cons k t mm ps r).len∧∃ (p' r' out:Fo),f=p'.app r'∧i64.wrap ((p.len:Int) + 1)=p'.len∧m55=r'.len∧OwnF 56 (fun k=>S k∧k < w.heap.size) w.heap.size w' a' n' c' out∧out=qm p' hand adv∧Ext w w':=by
   intro g a3 n3 c3 w3 hg hgl hsl3 e3
   have z3:=e3.size
   have hn3:=hsl3.1
   refine OwnF.pushAll qa1 ((hout.ext e2).ext e3) (by omega) (qel hsl3 (fun j hj=>hj.2) hout (by omega) (by omega)) (by omega) (by omega) fun a5 n5 c5 w5 ho5 hc5=>?_
   exact ⟨r.len,by simp,_,r,_,e1,i1,rfl,ho5,by rw [p1,hg],qi (qb E1 e3) hc5 fun j hj=>(hout.bk hj).1⟩
  have hsx:=hN.sl.ext e2
  have rec38:∀ {v:World} {R':Ending→World→Prop},Ext w1 v→(∀ a3 n3 c3 w3,SlF (fun j=>(S j∧j < w.heap.size)∨w1.heap.size≤j) w3 a3 n3 (qm ps hand adv)→Ext v w3→R' (.returned (.slice a3 n3 c3)) w3) →
    Calls prog 139 ⟨[.slice a' ps.len c',.int .i64 hand,.bool adv]⟩ v R':=fun {v R'} hv hR =>
   ih _ (hz ▸ hsz) ps rfl (S:=fun j=>S j∧j < w.heap.size) hand adv (by omega) (hsx.ext hv) fun a3 n3 c3 w3 h1 h2=>hR a3 n3 c3 w3 (h1.imp fun j hj _=>hj.imp id fun h=>by have:=hv.size;omega) h2
  have rec60:∀ {R':Ending→World→Prop},(∀ a3 n3 c3 w3,SlF (fun j=>(S j∧j < w.heap.size)∨w1.heap.size≤j) w3 a3 n3 (qag ps)→Ext w1 w3→R' (.returned (.slice a3 n3 c3)) w3) →
    Calls prog 186 ⟨[.slice a' ps.len c']⟩ w1 R':=fun hR=>q9e ps (by omega) hsx hR
  have hdr:=qs w1
  have X:∀ {v:World},Ext w1.drew v→∀ j,v.cell? ((⟨bx,0,none⟩:Addr).add j)=[Value.int .i64 k,.string ⟨⟨t⟩⟩,.int .i64 mm,.slice a' ps.len c'][j]?:=fun he j=>by rw [qg,((hBx.ext hdr).ext he).cell];simp
  have r0:=Below.refl w1.drew.heap.size w1.drew
  have bl:=(qag ps).len_le_size
  have bs:=qcb ps
  have rl2:=(qm ps hand adv).len_le_size
  have fin61:partF k t mm (qm ps hand adv)=qm (.one k t mm ps) hand adv→∀ {a3:Option Addr} {n3 c3:Nat} {w3:World},SlF (fun j=>(S j∧j < w.heap.size)∨w1.heap.size≤j) w3 a3 n3 (qm ps hand adv)→Ext w1.drew w3 →
    Calls prog 187 ⟨[.agg ⟨[.int .i64 k,.string ⟨⟨t⟩⟩,.int .i64 mm,.slice a' ps.len c']⟩,.slice a3 n3 c3]⟩ w3 fun (e47:Ending) (w48:World)=>∃ (x49:Option Addr) (x49n:Nat) (x49c:Nat),e47=.returned (.slice x49 x49n x49c) ∧
     ((app prog [43,43] 43 (.slice oa on oc) (.slice x49 x49n x49c) w48 fun a' n' c' w'=>∃ m55:Nat,m55 < (Fo.cons k t mm ps r).len∧∃ (p' r' out:Fo),f=p'.app r'∧i64.wrap ((p.len:Int) + 1)=p'.len∧m55=r'.len∧OwnF 56 (fun k=>S k∧k < w.heap.size) w.heap.size w' a' n' c' out∧out=qm p' hand adv∧Ext w w')∧True):=by
   intro hg a3 n3 c3 w3 hsl3 e3
   refine part_spec k t mm a' _ c' _ hsl3 fun a4 n4 c4 w4 hsl4 e4=>⟨_,_,_,rfl,?_,trivial⟩
   have z3:=(qb hdr e3).size
   refine fin _ hg ?_ (hsl4.imp fun j hj _=>hj.elim id fun h=>.inr (by omega)) (qb (qb hdr e3) e4)
   have:=qsd k t mm (qm ps hand adv)
   have:=(partF k t mm (qm ps hand adv)).len_le_size
   omega
  intro K18 hK18
  have k18:∀ g,g=decide (k=9∧mm≤hand)→K18 g w1:=by
   rintro _ rfl
   refine hK18 _ _ fun _=>qd (fun g1=>⟨a',ps.len,c',x3,rec60 fun a3 n3 c3 w3 h3 e3=>⟨_,_,_,rfl,fin _ (by simp [qm,Fo.one,g1]) (by omega) h3 e3⟩⟩) (fun g1=>?_)
   intro K28 hK28
   have k28:∀ g,g=decide (k=8∧mm≤hand)→K28 g w1:=by
    rintro _ rfl
    refine hK28 _ _ fun _=>qd (fun g2=>⟨a',ps.len,c',x3,rec38 (Below.refl _ _) fun a3 n3 c3 w3 h3 e3=>⟨_,_,_,rfl,fin _ (by simp [qm,Fo.one,g2]) (by omega) h3 e3⟩⟩) (fun g2=>?_)
    intro K38 hK38
    have k38:∀ g,g=decide ((k=8∨k=9)∧adv=true)→K38 g w1:=by
     rintro _ rfl
     refine hK38 _ _ fun _=>qd (fun g3=>?_) (fun g3=>?_)
     ·have hg:partF k t mm (qm ps hand adv)=qm (.one k t mm ps) hand adv:=by simp only [qm,Fo.one,if_neg g1,if_neg g2,if_pos g3,Fo.app_nil]
      unfold drw
      repeat' (first
       | exact True.intro
       | exact rec38 hdr fun a3 n3 c3 w3 hsl3 e3=>⟨a3,n3,c3,rfl,fin61 hg hsl3 e3,trivial⟩
       | exact rec38 hdr fun a3 n3 c3 w3 hsl3 e3=>⟨a3,n3,c3,rfl,k,X e3 0,t,X e3 1,mm,X e3 2,a',ps.len,c',X e3 3,fin61 hg hsl3 e3,trivial⟩
       | refine ⟨k,X r0 0,?_⟩
       | refine ⟨t,X r0 1,?_⟩
       | refine ⟨mm,X r0 2,?_⟩
       | refine ⟨a',ps.len,c',X r0 3,?_⟩
       | refine And.intro ?_ ?_)
     ·refine ⟨k,x0,qd (fun g4=>⟨a',ps.len,c',x3,rec60 fun a3 n3 c3 w3 h3 e3=>⟨_,_,_,rfl,fin _ (by simp only [qm,Fo.one,if_neg g1,if_neg g2,if_neg g3,if_pos g4,Fo.app_nil]) (by omega) h3 e3⟩⟩) (fun g4=>?_)⟩
      refine ⟨k,x0,qd (fun g5=>⟨a',ps.len,c',x3,rec38 (Below.refl _ _) fun a3 n3 c3 w3 h3 e3=>⟨_,_,_,rfl,fin _ (by simp only [qm,Fo.one,if_neg g1,if_neg g2,if_neg g3,if_neg g4,if_pos g5,Fo.app_nil]) (by omega) h3 e3⟩⟩) (fun g5=>?_)⟩
      intro K696 hK696
      have k696:∀ g,g=decide (k=7∨k=10∨k=11)→K696 g w1:=by
       rintro _ rfl
       refine hK696 _ _ fun _=>qd (fun g6=>?_) (fun g6=>?_)
       ·have hg:partF k t mm (qm ps hand adv)=qm (.one k t mm ps) hand adv:=by simp only [qm,Fo.one,if_neg g1,if_neg g2,if_neg g3,if_neg g4,if_neg g5,if_pos g6,Fo.app_nil]
        unfold drw
        repeat' (first
         | exact True.intro
         | exact rec38 hdr fun a3 n3 c3 w3 hsl3 e3=>⟨a3,n3,c3,rfl,fin61 hg hsl3 e3,trivial⟩
         | exact rec38 hdr fun a3 n3 c3 w3 hsl3 e3=>⟨a3,n3,c3,rfl,k,X e3 0,t,X e3 1,mm,X e3 2,a',ps.len,c',X e3 3,fin61 hg hsl3 e3,trivial⟩
         | refine ⟨k,X r0 0,?_⟩
         | refine ⟨t,X r0 1,?_⟩
         | refine ⟨mm,X r0 2,?_⟩
         | refine ⟨a',ps.len,c',X r0 3,?_⟩
         | refine And.intro ?_ ?_)
       ·have hg:qm (.one k t mm ps) hand adv=.one k t mm ps:=by simp only [qm,Fo.one,if_neg g1,if_neg g2,if_neg g3,if_neg g4,if_neg g5,if_neg g6];rfl
        refine ⟨k,x0,t,x1,mm,x2,a',ps.len,c',x3,?_⟩
        refine OwnF.push qa1 (hout.ext e2) (by omega) (hsx.imp fun j hj _=>⟨.inl hj,fun hb=>by have:=(hout.bk hb).1;have:=hj.2;omega⟩) (by omega) (by omega) fun a5 n5 c5 w5 ho5 hc5=>?_
        refine ⟨r.len,by simp,_,r,_,e1,i1,rfl,ho5,by rw [p1,hg],qi E1 hc5 fun j hj=>(hout.bk hj).1⟩
      refine ⟨k,x0,qd (fun g6=>k696 _ (by simp [g6])) (fun g6=>⟨k,x0,qd (fun g7=>k696 _ (by simp [g7])) (fun g7=>⟨k,x0,k696 _ (by simp [g6,g7])⟩)⟩)⟩
    refine ⟨k,x0,qd (fun g3=>k38 _ (by simp [g3])) (fun g3=>⟨k,x0,qd (fun g4=>k38 _ (by simp [g4])) (fun g4=>k38 _ (by simp [g3,g4]))⟩)⟩
   refine ⟨k,x0,qd (fun g2=>⟨mm,x2,k28 _ (by simp [g2])⟩) (fun g2=>k28 _ (by simp [g2]))⟩
  refine ⟨k,x0,qd (fun g1=>⟨mm,x2,k18 _ (by simp [g1])⟩) (fun g1=>k18 _ (by simp [g1]))⟩
 ·obtain ⟨rfl,rfl⟩:=Fo.last hpr (by omega)
  exact h oa on oc W (hout.out.imp fun k hk _=>hk.imp (fun h=>h.1) id) he
end Go.Proofs
namespace Go.Sh
open Go Go.RowKit
section
variable {S:Nat→Prop} {w w':World} {e:TypeId} {B:Nat} {a:Option Addr} {n c:Nat}
theorem OwnF.lastNode {pre:Fo} {k:Int} {t:List UInt8} {m:Int} {ps:Fo} (h:OwnF e S B w a n c (pre.app (.one k t m ps))) :
  ∃ g:Nat,a=some ⟨g,0,none⟩∧(∀ K:Addr→Prop,K ⟨g,pre.len * 4,none⟩→idx a n (pre.len:Int) 4 K) ∧
   ∀ (k':Int) (t':List UInt8) (m':Int) (a1:Option Addr) (c1:Nat) (ps':Fo) (K:World→Prop),SlF (fun k=>(S k∨B≤k)∧¬ Sh.bk a k) w a1 ps'.len ps' →
    (∀ w',OwnF e S B w' a n c (pre.app (.one k' t' m' ps'))→Chg (Sh.bk a) w w'→K w')→stL w ⟨g,pre.len * 4,none⟩ 0 [.int .i64 k',.string ⟨⟨t'⟩⟩,.int .i64 m',.slice a1 ps'.len c1] K:=by
 obtain ⟨h0,xs,h1,h2⟩:=h
 obtain ⟨us,ys,rfl,f1,a',c',zs,vs',rfl,g1,g2,g3⟩:=h2.split
 have hvs:vs'=[]:=g3
 subst hvs
 have hl:=f1.len
 have hn:n=pre.len + 1:=by rw [h0];simp [Fo.one]
 rcases h1.2 with h | ⟨g,cap,cur,e1,e2,e3,e4,e5,e6,e7⟩
 ·omega
 obtain ⟨rfl,_,rfl⟩:a=some ⟨g,0,none⟩∧True∧c=cap:=by simpa using e1
 have hB:Blk w g cur.toList e:=e3
 have hcl:cur.toList.length=c * 4:=by simpa using e6
 have hxl:n * 4≤cur.toList.length:=by rw [hcl];omega
 refine ⟨g,rfl,fun K hK=>⟨by omega,by omega,?_⟩,fun k' t' m' a1 c1 ps' K hps hK=>?_⟩
 ·show K _
  rw [qg,Int.toNat_natCast,Nat.zero_add];exact hK
 refine qae hB (by simp only [List.length_cons,List.length_nil];omega) (by intro u hu;simp only [List.mem_cons,List.not_mem_nil,or_false] at hu;rcases hu with rfl | rfl | rfl | rfl <;> rfl) fun w' b1 b2 b3 b4 b5 b6=>?_
 have hc:Chg (Sh.bk (some (⟨g,0,none⟩:Addr))) w w':=⟨b4,b5,b6,by omega,fun k' _ hk=>b2 k' fun e=>hk (by simp [Sh.bk,e])⟩
 refine hK w' ⟨by simp [Fo.one];exact hn,us++[.int .i64 k',.string ⟨⟨t'⟩⟩,.int .i64 m',.slice a1 ps'.len c1],⟨by simp only [List.length_append,List.length_cons,List.length_nil];omega,.inr ⟨g,c,⟨_⟩,rfl,e2,b1,e4,e5,?_,?_⟩⟩,?_⟩ hc
 ·simp [putAt];omega
 ·have hx:n * 4=us.length + 4:=by omega
  simp only [putAt,Nat.add_zero]
  rw [List.take_set,List.take_set,List.take_set,List.take_set,e7,show pre.len * 4=us.length by omega,List.set_append_right _ _ (by omega),List.set_append_right _ _ (by omega),List.set_append_right _ _ (by omega),List.set_append_right _ _ (by omega)]
  simp
  rw [show us.length + 1 + 1 - us.length=2 by omega,show us.length + 1 + 1 + 1 - us.length=3 by omega]
  rfl
 ·have hs:∀ j,((S j∨B≤j)∧¬ Sh.bk (some (⟨g,0,none⟩:Addr)) j)→j < w.heap.size→((S j∨B≤j)∧¬ Sh.bk (some (⟨g,0,none⟩:Addr)) j)∧w'.heap[j]? = w.heap[j]?:=fun j hj hlt=>⟨hj,hc.block j hlt hj.2⟩
  obtain ⟨_,us',q1,q2⟩:=hps
  exact (f1.keep hs hc.size).app ⟨a1,c1,us',[],rfl,q1.keep hs hc.size,q2.keep hs hc.size,rfl⟩
end
end Go.Sh
namespace Go.Proofs
open Go Go.Sh Go.RowKit Go.Proofs.Tryz IntKind
structure Nn where
 k:Int
 t:List UInt8
 n:Int
 ps:Fo
def qo:Fo→List Nn
 | .nil=>[]
 | .cons k t n ps r=>⟨k,t,n,ps⟩ :: (qo ps++qo r)
def NnE (T:Nat→Prop) (w0:World) (x:Nn) (vs:List Value):Prop :=
 ∃ a c,vs=[.agg ⟨[.int .i64 x.k,.string ⟨⟨x.t⟩⟩,.int .i64 x.n,.slice a x.ps.len c]⟩]∧SlF T w0 a x.ps.len x.ps
theorem nodes_walk {yf:Fn} {ya yb:Array Value} {S T:Nat→Prop} {J:List Nn→World→Prop} {Jx:World→Prop} {w0:World} {xs:List Nn} {ty tw:Nat}
  (hS:∀ k,S k→k < w0.heap.size∧¬ T k)
  (hJ:∀ pre W W',J pre W→Chg (fun k=>w0.heap.size≤k) W W'→J pre W')
  (hbody:∀ pre x vs W,NnE T w0 x vs→pre++[x] <+: xs→w0.heap.size≤W.heap.size→J pre W→CallV prog (.func yf ya yb) vs W fun e W'=>Chg S W W'∧((e=.returned (.bool true)∧J (pre++[x]) W')∨(e=.returned (.bool false)∧Jx W')))
  (hty:w0.heap.size≤ty) (htw:w0.heap.size≤tw) :
  ∀ (f:Fo) {R:Ending→World→Prop} {w:World} {a:Option Addr} {n c:Nat} (pre:List Nn),small f→SlF T w0 a n f→Chg (fun k=>S k∨w0.heap.size≤k) w0 w→Blk w ty [.func yf ya yb] 57→Blk w tw [.func (.func 154) ⟨[]⟩ ⟨[.pointer (some ⟨ty,0,none⟩),.pointer (some ⟨tw,0,none⟩)]⟩] 89 →
   pre++qo f <+: xs→J pre w→(∀ W',Chg S w W'→J (pre++qo f) W'→R (.returned (.bool true)) W')→(∀ W',Chg S w W'→Jx W'→R (.returned (.bool false)) W') →
   Calls prog qe0 ⟨[.slice a n c,.pointer (some ⟨ty,0,none⟩),.pointer (some ⟨tw,0,none⟩)]⟩ w R:=by
 intro f
 induction hz:f.size using Nat.strongRecOn generalizing f with
 | _ z ih =>
 intro R w a n c pre hs hf hc0 hBy hBw hpre hj hend hstop
 unfold small at hs
 apply qiv
 have hn:=hf.1
 have hfl:=f.len_le_size
 have nS:∀ k,w0.heap.size≤k→¬ S k:=fun k hk h=>by have:=(hS k h).1;omega
 refine ⟨fun i W m=>∃ (p r:Fo) (ps:List Nn),f=p.app r∧i=p.len∧m=r.len∧Chg S w W∧J ps W∧pre++qo f=ps++qo r,⟨_,.nil,f,pre,rfl,rfl,rfl,Chg.refl _ _,hj,rfl⟩,?_⟩
 rintro _ W m ⟨p,r,xs',hpr,rfl,rfl,hcW,hjW,heq⟩ _
 refine qd (fun hlt=>?_) (fun hge=>?_)
 ·obtain ⟨k,t,mm,ps,r,rfl⟩:=Fo.next hpr (by omega)
  have hsl:=Fo.sub_len hpr
  have hsz:=Fo.sub_size hpr
  have e1:f=(p.app (.one k t mm ps)).app r:=by rw [Fo.app_one_app];exact hpr
  have i1:i64.wrap ((p.len:Int) + 1)=((p.app (.one k t mm ps)).len:Int):=by rw [qj (by omega)];simp [Fo.one]
  have hc0W:Chg (fun k=>S k∨w0.heap.size≤k) w0 W:=hc0.trans (hcW.mono fun k _ h=>.inl h)
  obtain ⟨q,a',c',hq,hTq,hql,hN0⟩:=hf.get hpr
  obtain ⟨q',a'',c'',hq',hTq',hql',hN0'⟩:=(hf.imp (S':=fun k=>T k∧k < w0.heap.size) fun k hk hl=>⟨hk,hl⟩).get hpr
  have hN:=NodeIs.chg hN0' hql' hTq' hc0W fun k hk h=>h.elim (fun h=>(hS k h).2 hk.1) (fun h=>by omega)
  have hNT:SlF T w0 a'' ps.len ps:=hN0'.sl.imp fun k hk _=>hk.1
  refine hq' _ ⟨k,hN.kind,t,hN.text,mm,hN.num,a'',ps.len,c'',hN.parts,?_⟩
  refine qw (by simp) (by intro u hu;simp only [List.mem_cons,List.not_mem_nil,or_false] at hu;rcases hu with rfl | rfl | rfl | rfl <;> rfl) fun bx w1 hbx hBx e2 _=>?_
  have hszW:=hc0W.size
  have hc1:Chg S W w1:=Chg.of_ext e2
  have hcw1:=hcW.trans hc1
  obtain ⟨x0,x1,x2,x3⟩:=blk4 hBx
  have hBy1:=hcw1.blk hBy (nS _ hty)
  refine dr_ok ⟨_,_,_,by rw [hBy1.cell];rfl,k,x0,t,x1,mm,x2,a'',ps.len,c'',x3,?_⟩
  have hj1:J xs' w1:=hJ _ _ _ hjW (Chg.of_ext e2)
  rw [qo] at heq
  have hpx:xs'++[⟨k,t,mm,ps⟩] <+: xs:=by
   refine List.IsPrefix.trans ?_ hpre
   rw [heq]
   exact ⟨_,by rw [List.append_assoc];rfl⟩
  refine qbh (hbody xs' ⟨k,t,mm,ps⟩ _ w1 ⟨a'',c'',rfl,hNT⟩ hpx (by have:=hc1.size;omega) hj1) ?_
  rintro e w2 ⟨hc2,⟨rfl,hj2⟩ | ⟨rfl,hjx⟩⟩
  ·refine ⟨true,rfl,?_⟩
   have hcw2:=hcw1.trans hc2
   have hBx2:=hc2.blk hBx (nS _ (by omega))
   obtain ⟨y0,y1,y2,y3⟩:=blk4 hBx2
   have hBw2:=hcw2.blk hBw (nS _ htw)
   have hBy2:=hcw2.blk hBy (nS _ hty)
   simp only [Bool.not_true,br_f]
   refine dr_ok ⟨.func 154,⟨[]⟩,⟨[.pointer (some ⟨ty,0,none⟩),.pointer (some ⟨tw,0,none⟩)]⟩,by rw [hBw2.cell];rfl,a'',ps.len,c'',y3,by kernel_rfl,?_⟩
   refine ih _ (hz ▸ hsz) ps rfl (xs'++[⟨k,t,mm,ps⟩]) (by unfold small;omega) hNT (hc0.trans (hcw2.mono fun k _ h=>.inl h)) hBy2 hBw2 ?_ hj2 (fun w3 hc3 hj3=>?_) (fun w3 hc3 hjx=>?_)
   ·refine List.IsPrefix.trans ?_ hpre
    rw [heq]
    exact ⟨qo r,by simp⟩
   ·refine ⟨true,rfl,?_⟩
    refine ⟨r.len,by simp,_,r,_,e1,i1,rfl,hcw2.trans hc3,hj3,?_⟩
    rw [heq];simp
   ·exact ⟨false,rfl,hstop _ (hcw2.trans hc3) hjx⟩
  ·exact ⟨false,rfl,hstop _ (hcw1.trans hc2) hjx⟩
 ·obtain ⟨rfl,rfl⟩:=Fo.last hpr (by omega)
  have e:xs'=pre++qo p:=by rw [heq];simp [qo]
  rw [e] at hjW
  exact hend _ hcW hjW
theorem nodes_iter {T:Nat→Prop} (f:Fo) (hs:small f) {a:Option Addr} {n c:Nat} (b:Nat) (w:World) (hb:Blk w b [.slice a n c] 43) (hf:SlF T w a n f) (hbT:T b) :
  IterR prog qby [.pointer (some ⟨b,0,none⟩)] (qo f) (NnE T w) T w:=by
 intro yf ya yb S J Jx R hS hJ hJx hbody h0 hend hstop
 apply ql8
 refine qh fun ty w1 hty hBy e1 s1=>?_
 refine qh fun tw w1' htw hBw' e2' s2'=>?_
 refine qr hBw' rfl fun w2 hBw hcc hss=>?_
 have e2:Ext w1 w2:=qi e2' hcc fun k hk=>by omega
 have E:=qb e1 e2
 refine ⟨.func 154,⟨[]⟩,⟨[.pointer (some ⟨ty,0,none⟩),.pointer (some ⟨tw,0,none⟩)]⟩,by rw [hBw.cell];rfl,dr_ok ⟨a,n,c,by rw [((hb.ext e1).ext e2).cell];rfl,by kernel_rfl,?_⟩⟩
 have hz:=E.size
 have hz1:=e1.size
 have hch:Chg (fun k=>w.heap.size≤k) w w2:=Chg.of_ext E
 refine nodes_walk (w0:=w) (xs:=qo f) hS hJ hbody (by omega) (by omega) f [] hs hf (Chg.of_ext E) (hBy.ext e2) hBw (List.prefix_refl _) (hJ _ _ _ h0 hch) (fun W' hc hj=>?_) (fun W' hc hjx=>?_)
 ·exact ⟨_,rfl,hend _ (Nat.le_trans hz hc.size) hj⟩
 ·exact ⟨_,rfl,hstop _ (Nat.le_trans hz hc.size) hjx⟩
theorem q5p {R:Ending→World→Prop} {w:World} {a:Option Addr} {n c:Nat}
  (h:∀ b w',Blk w' b [.slice a n c] 43→Ext w w'→b=w.heap.size→R (.returned (.func (.func qby) ⟨[]⟩ ⟨[.pointer (some ⟨b,0,none⟩)]⟩)) w') :
  Calls prog quf ⟨[.slice a n c]⟩ w R:=by
 apply q7b
 refine qh fun b w' hb h1 h2 h3=>?_
 exact h b w' h1 h2 hb
def pickB:List Nn→Fo
 | []=>.nil
 | x :: l=>if brkF x.k then .cons x.k x.t x.n x.ps (pickB l) else pickB l
theorem qxb (l m:List Nn):pickB (l++m)=(pickB l).app (pickB m):=by
 induction l with
 | nil=>rfl
 | cons x l ih =>
  simp only [List.cons_append,pickB,ih]
  split <;> rfl
theorem pickB_len (l:List Nn):(pickB l).len≤l.length:=by
 induction l with
 | nil=>simp [pickB]
 | cons x l ih=>simp only [pickB];split <;> simp <;> omega
theorem qhf:∀ f:Fo,(qo f).length=f.size
 | .nil=>rfl
 | .cons k t n ps r=>by simp [qo,Fo.size,qhf ps,qhf r]
theorem qnd:∀ (f:Fo),good f→pickB (qo f)=qag f
 | .nil,_=>rfl
 | .cons k t n ps r,h=>by
  have h1:=qnd ps h.2.1
  have h2:=qnd r h.2.2
  simp only [qo,pickB,qag,qxb,h1,h2]
  by_cases hb:brkF k=true
  ·have hk:k=2∨k=3∨k=4:=by simpa [brkF] using hb
   have hp:ps.len=0:=h.1.2.2.2.2.1 (by unfold qx;simp;omega)
   have:=Fo.eq_nil_of_len hp
   subst this
   simp [hb,Fo.one,qag]
  ·simp [hb]
end Go.Proofs
namespace Go.Sh
open Go Go.RowKit
def IterO {α:Type} (P:Program) (gf:FuncId) (cap:List Value) (xs:List α) (E:α→List Value→Prop) (Rd:Nat→Prop) (w:World):Prop :=
 ∀ (yf:Fn) (ya yb:Array Value) (S0:Nat→Prop) (J:List α→(Nat→Prop)→World→Prop) (Jx:(Nat→Prop)→World→Prop) (R:Ending→World→Prop),
  (∀ k,S0 k→k < w.heap.size∧¬ Rd k) →
  (∀ pre S W W',J pre S W→Chg (fun k=>w.heap.size≤k∧¬ S k) W W'→J pre S W')→(∀ S W W',Jx S W→Chg (fun k=>w.heap.size≤k∧¬ S k) W W'→Jx S W') →
  (∀ pre x vs S W,E x vs→pre++[x] <+: xs→w.heap.size≤W.heap.size→(∀ k,S k→k < W.heap.size∧¬ Rd k)→J pre S W→CallV P (.func yf ya yb) vs W fun e W'=>Chg S W W' ∧
   ∃ S':Nat→Prop,(∀ k,S' k→(S k∨W.heap.size≤k)∧k < W'.heap.size)∧((e=.returned (.bool true)∧J (pre++[x]) S' W')∨(e=.returned (.bool false)∧Jx S' W'))) →
  J [] S0 w→(∀ S W,w.heap.size≤W.heap.size→J xs S W→R (.returned (.tuple ⟨[]⟩)) W)→(∀ S W,w.heap.size≤W.heap.size→Jx S W→R (.returned (.tuple ⟨[]⟩)) W) →
  Calls P gf ⟨.func yf ya yb :: cap⟩ w R
theorem IterO.mono {α:Type} {P:Program} {gf:FuncId} {cap:List Value} {xs:List α} {E E':α→List Value→Prop} {Rd:Nat→Prop} {w:World} (h:IterO P gf cap xs E Rd w) (hE:∀ x vs,E x vs→E' x vs):IterO P gf cap xs E' Rd w :=
 fun yf ya yb S0 J Jx R hS hJ hJx hbody h0 h1 h2=>h yf ya yb S0 J Jx R hS hJ hJx (fun pre x vs S W he=>hbody pre x vs S W (hE _ _ he)) h0 h1 h2
theorem qgh {α:Type} {P:Program} {N:Nat} {g:Operand} {ps:Array Tmp} {assign body:Code} {env:Env} {ds:List Deferred} {w:World} {x:Nat} {Qn Qr Qx:List Deferred→World→Prop}
  (xA xB:Ann) {gf:FuncId} {cap:List Value} (hg:ev env g=.func (.func gf) ⟨[]⟩ ⟨cap⟩) (hok:okFn P gf=true)
  {xs:List α} {E:α→List Value→Prop} {Rd:Nat→Prop} (hit:∀ w1,Ext w w1→IterO P gf cap xs E Rd w1)
  (hps:∀ y vs,E y vs→vs.length=ps.size) (hpN:∀ p∈ps.toList,p < N)
  (hRd:∀ k,Rd k→k < w.heap.size) (S0:Nat→Prop) (hS:∀ k,S0 k→k < w.heap.size∧¬ Rd k)
  (I:List α→(Nat→Prop)→World→Prop) (Kr Kx:(Nat→Prop)→World→Prop)
  (hI:∀ pre S W W',I pre S W→Chg (fun k=>w.heap.size≤k∧¬ S k) W W'→I pre S W')
  (hKr:∀ S W W',Kr S W→Chg (fun k=>w.heap.size≤k∧¬ S k) W W'→Kr S W') (hKx:∀ S W W',Kx S W→Chg (fun k=>w.heap.size≤k∧¬ S k) W W'→Kx S W')
  (h0:I [] S0 w)
  (hround:∀ pre y vs S W l,E y vs→pre++[y] <+: xs→w.heap.size≤l→l < W.heap.size→¬ S l→(∀ k,S k→k < W.heap.size∧¬ Rd k)→I pre S W →
   fragV P N xA xB assign body l x (fun W2 W'=>Chg (fun k=>S k∨W.heap.size≤k) W2 W'∧∃ S':Nat→Prop,(∀ k,S' k→(S k∨W.heap.size≤k)∧k < W'.heap.size)∧I (pre++[y]) S' W')
    (fun W2 W'=>Chg (fun k=>S k∨W.heap.size≤k) W2 W'∧∃ S':Nat→Prop,(∀ k,S' k→(S k∨W.heap.size≤k)∧k < W'.heap.size)∧Kr S' W')
    (fun W2 W'=>Chg (fun k=>S k∨W.heap.size≤k) W2 W'∧∃ S':Nat→Prop,(∀ k,S' k→(S k∨W.heap.size≤k)∧k < W'.heap.size)∧Kx S' W') (updPs ps.toList vs env) W)
  (hn:∀ D S W,w.heap.size≤D→D < W.heap.size→¬ S D→W.heap[D]? = some (.deferred (some []))→I xs S W→Qn ({ target:=.collected D,args:=#[] } :: ds) W)
  (hr:∀ D S W,w.heap.size≤D→D < W.heap.size→¬ S D→W.heap[D]? = some (.deferred (some []))→Kr S W→Qr ({ target:=.collected D,args:=#[] } :: ds) W)
  (hx:∀ D S W,w.heap.size≤D→D < W.heap.size→¬ S D→W.heap[D]? = some (.deferred (some []))→Kx S W→Qx ({ target:=.collected D,args:=#[] } :: ds) W) :
  RFw P none N (.rangeFunc g ps assign body) env ds w x Qn Qr Qx:=by
 intro a ha hd
 refine wpIn_rangeFunc fun fn _=>?_
 let rec0:Loop:={ state:=.ready,pending:=none,fn,tmps:=a.tmps,params:=ps,assign,body,defers:=w.heap.size }
 let w1:World:=(w.alloc (.deferred (some []))).alloc (.loop rec0)
 have hw1:w1.heap.size=w.heap.size + 2:=by simp [w1]
 have hext:Ext w w1:=((Below.refl _ w).alloc (Nat.le_refl _) _).alloc (by simp) _
 have hD1:w1.heap[w.heap.size]? = some (.deferred (some [])):=by
  show ((w.alloc _).alloc _).heap[w.heap.size]? = _
  rw [Below.heap_alloc _ _ _ (by simp),World.alloc_heap_new]
 have hl1:w1.heap[w.heap.size + 1]? = some (.loop rec0):=by
  have:=World.alloc_heap_new (w.alloc (.deferred (some []))) (.loop rec0)
  simpa [w1] using this
 have hgv:a.eval g=.func (.func gf) ⟨[]⟩ ⟨cap⟩:=by rw [ha.ev];exact hg
 refine ⟨w.heap.size + 1,[{ target:=.collected w.heap.size,args:=#[] }],w1,{ target:=.fn (.func gf) ⟨cap⟩,args:=#[.func (.yield (w.heap.size + 1)) #[] #[]] },w1,gf,
  ⟨.func (.yield (w.heap.size + 1)) #[] #[] :: cap⟩,w1,run_enterLoop_outer fn a.tmps ps assign body,?_,fun _ _=>trivial,?_,fun h=>by simp [Fr,Fence.wide] at h,?_⟩
 ·have em:Array.map a.eval #[Operand.const (.func (.yield (w.heap.size + 1)) #[] #[])]=#[.func (.yield (w.heap.size + 1)) #[] #[]]:=by simp [Act.eval]
  simp only [resolve,rangeCall,hgv,Deferred.ofValue,em]
  simp
 ·have e:(#[.func (.yield (w.heap.size + 1)) #[] #[]]:Array Value)++(⟨cap⟩:Array Value)=⟨.func (.yield (w.heap.size + 1)) #[] #[] :: cap⟩:=by apply Array.ext';simp
  simp only [invoke,e]
  exact qeo _ w1 hok
 ·show CallsIn Fence.wide 0 P gf _ w1 _
  refine callsIn_wide.2 ?_
  refine hit w1 hext (.yield (w.heap.size + 1)) #[] #[] (fun k=>S0 k∨k=w.heap.size + 1)
   (fun pre S W=>∃ Sb:Nat→Prop,(∀ k,S k↔Sb k∨k=w.heap.size + 1)∧¬ Sb (w.heap.size + 1)∧¬ Sb w.heap.size∧I pre Sb W∧W.heap[w.heap.size + 1]? = some (.loop rec0)∧W.heap[w.heap.size]? = some (.deferred (some [])))
   (fun S W=>∃ Sb:Nat→Prop,(∀ k,S k↔Sb k∨k=w.heap.size + 1)∧¬ Sb (w.heap.size + 1)∧¬ Sb w.heap.size∧W.heap[w.heap.size]? = some (.deferred (some []))∧((W.heap[w.heap.size + 1]? = some (.loop { rec0 with state:=.done,pending:=some .ret })∧Kr Sb W) ∨
    (W.heap[w.heap.size + 1]? = some (.loop { rec0 with state:=.done,pending:=some (.exit x) })∧Kx Sb W)))
   _ (fun k hk=>hk.elim (fun h=>⟨by have:=(hS k h).1;omega,(hS k h).2⟩) (fun h=>⟨by omega,fun hr=>by have:=hRd k hr;omega⟩)) ?_ ?_ ?_
   ⟨S0,fun k=>Iff.rfl,fun h=>by have:=(hS _ h).1;omega,fun h=>by have:=(hS _ h).1;omega,hI _ _ _ _ h0 (.of_ext hext),hl1,hD1⟩ ?_ ?_
  ·rintro pre S W W' ⟨Sb,hb1,hb2,hb3,h1,h2,h3⟩ hc
   have hlt:=(Array.getElem?_eq_some_iff.1 h2).1
   have hlt':=(Array.getElem?_eq_some_iff.1 h3).1
   exact ⟨Sb,hb1,hb2,hb3,hI _ _ _ _ h1 (hc.mono fun k _ hk=>⟨by omega,fun hh=>hk.2 ((hb1 k).2 (.inl hh))⟩),(hc.block _ hlt (by omega)).trans h2,(hc.block _ hlt' (by omega)).trans h3⟩
  ·rintro S W W' ⟨Sb,hb1,hb2,hb3,h3,h⟩ hc
   have hlt':=(Array.getElem?_eq_some_iff.1 h3).1
   have hc':Chg (fun k=>w.heap.size≤k∧¬ Sb k) W W':=hc.mono fun k _ hk=>⟨by omega,fun hh=>hk.2 ((hb1 k).2 (.inl hh))⟩
   refine ⟨Sb,hb1,hb2,hb3,(hc.block _ hlt' (by omega)).trans h3,?_⟩
   rcases h with ⟨h1,h2⟩ | ⟨h1,h2⟩
   ·exact .inl ⟨(hc.block _ (Array.getElem?_eq_some_iff.1 h1).1 (by omega)).trans h1,hKr _ _ _ h2 hc'⟩
   ·exact .inr ⟨(hc.block _ (Array.getElem?_eq_some_iff.1 h1).1 (by omega)).trans h1,hKx _ _ _ h2 hc'⟩
  ·rintro pre y vs S W hE hpre hsz hSW ⟨Sb,hb1,hb2,hb3,h1,h2,h3⟩
   have hlt:=(Array.getElem?_eq_some_iff.1 h2).1
   have hlt':=(Array.getElem?_eq_some_iff.1 h3).1
   refine ⟨_,_,_,_,run_yield h2 (by simp [rec0,hps y vs hE]),?_⟩
   have hfr:=hround pre y vs Sb W (w.heap.size + 1) hE hpre (by omega) hlt hb2 (fun k hk=>hSW k ((hb1 k).2 (.inl hk))) h1
   have hrep:Rep N (updPs ps.toList (vs) env) { tmps:=(ps.toList.zip (vs)).foldl (fun t (p,v)=>t.setIfInBounds p v) a.tmps,defers:=[] } :=
    qpp _ _ _ _ ⟨ha.1,ha.2⟩ hpN
   have ezip:(ps.zip (⟨(#[]:Array Value).toList++vs⟩:Array Value)).foldl (fun t (x:Nat × Value)=>t.setIfInBounds x.1 x.2) a.tmps=(ps.toList.zip (vs)).foldl (fun t (p,v)=>t.setIfInBounds p v) a.tmps:=by
    rw [← Array.foldl_toList]
    simp [Array.toList_zip]
   refine roundIn_of_wpIn (F:=Fence.wide) (l:=w.heap.size + 1) trivial ?_
   show assign.wpIn (Fr (some (w.heap.size + 1))) 0 P _ _ W
   have hva:=qia xA assign hfr hrep rfl
   refine wpIn_mono (Eq.mp (by rw [← ezip]) hva) fun e a1 W1 hh=>?_
   obtain ⟨env1,r1,q1,_⟩:=hh
   cases e with
   | normal =>
    obtain ⟨e1,q1⟩:=q1
    have hl':W1.heap[w.heap.size + 1]? = some (.loop rec0):=(e1.block _ hlt).trans h2
    have hD':W1.heap[w.heap.size]? = some (.deferred (some [])):=(e1.block _ hlt').trans h3
    refine ⟨_,run_beginRound hl' rfl,?_⟩
    have hl2:(W1.putObj (w.heap.size + 1) (.loop { rec0 with state:=.busy })).heap[w.heap.size + 1]? = some (.loop { rec0 with state:=.busy }) :=
     World.putObj_heap_same (Array.getElem?_eq_some_iff.1 hl').1
    have hD2:(W1.putObj (w.heap.size + 1) (.loop { rec0 with state:=.busy })).heap[w.heap.size]? = some (.deferred (some [])):=(World.putObj_heap_other (by omega)).trans hD'
    have hq:=q1 _ (Upd.put (w.heap.size + 1) W1 (.loop { rec0 with state:=.busy }))
    have hvb:=qia xB body hq r1 rfl
    have hlt1:=(Array.getElem?_eq_some_iff.1 hl').1
    have hWW2:Chg S W (W1.putObj (w.heap.size + 1) (.loop { rec0 with state:=.busy })) :=
     (Chg.of_ext e1).trans (Chg.put _ _ _ ((hb1 _).2 (.inr rfl)))
    generalize W1.putObj (w.heap.size + 1) (.loop { rec0 with state:=.busy })=W2 at hl2 hD2 hvb hWW2 ⊢
    refine wpIn_mono hvb fun e' a' W' hh'=>?_
    obtain ⟨env2,r2,q2,_⟩:=hh'
    have nS:¬ (Sb (w.heap.size + 1)∨W.heap.size≤w.heap.size + 1):=fun h=>h.elim hb2 (by omega)
    have nS':¬ (Sb w.heap.size∨W.heap.size≤w.heap.size):=fun h=>h.elim hb3 (by omega)
    have fin:∀ (jump:Option Code) (st:LoopState),Chg (fun k=>Sb k∨W.heap.size≤k) W2 W'→∀ S':Nat→Prop,(∀ k,S' k→(Sb k∨W.heap.size≤k)∧k < W'.heap.size)→∀ Z,Z=W'.putObj (w.heap.size + 1) (.loop { rec0 with state:=st,pending:=jump }) →
      Chg S W Z∧(∀ k,(S' k∨k=w.heap.size + 1)→(S k∨W.heap.size≤k)∧k < Z.heap.size)∧¬ S' (w.heap.size + 1)∧¬ S' w.heap.size∧Z.heap[w.heap.size + 1]? = some (.loop { rec0 with state:=st,pending:=jump })∧Z.heap[w.heap.size]? = some (.deferred (some [])) ∧
      Chg (fun k=>w.heap.size≤k∧¬ S' k) W' Z:=by
     intro jump st hc S' hS' Z hZ
     have hl3:=(hc.block _ (Array.getElem?_eq_some_iff.1 hl2).1 nS).trans hl2
     have hD3:=(hc.block _ (Array.getElem?_eq_some_iff.1 hD2).1 nS').trans hD2
     have n1:¬ S' (w.heap.size + 1):=fun hh=>nS (hS' _ hh).1
     have n2:¬ S' w.heap.size:=fun hh=>nS' (hS' _ hh).1
     have l3:=(Array.getElem?_eq_some_iff.1 hl3).1
     subst hZ
     refine ⟨?_,?_,n1,n2,World.putObj_heap_same l3,(World.putObj_heap_other (by omega)).trans hD3,Chg.put _ _ _ ⟨by omega,n1⟩⟩
     ·have hW2':Chg S W W':=⟨hc.os.trans hWW2.os,hc.tape.trans hWW2.tape,hc.output.trans hWW2.output,Nat.le_trans hWW2.size hc.size,
       fun k hk hn=>(hc.block k (Nat.lt_of_lt_of_le hk hWW2.size) (fun hh=>hh.elim (fun h=>hn ((hb1 k).2 (.inl h))) (fun h=>by omega))).trans (hWW2.block k hk hn)⟩
      exact hW2'.trans (Chg.put _ _ _ ((hb1 _).2 (.inr rfl)))
     ·rintro k (hk | rfl)
      ·exact ⟨(hS' k hk).1.imp (fun h=>(hb1 k).2 (.inl h)) id,by simpa using (hS' k hk).2⟩
      ·exact ⟨.inl ((hb1 _).2 (.inr rfl)),by simpa using l3⟩
    have hrec:∀ (jump:Option Code),Chg (fun k=>Sb k∨W.heap.size≤k) W2 W'→(Instr.endRound (w.heap.size + 1) jump).run P W'=.ok (.bool jump.isNone) (W'.putObj (w.heap.size + 1) (.loop { rec0 with state:=if jump.isNone then .ready else .done,pending:=jump })):=by
     intro jump hc
     exact run_endRound (r:={ rec0 with state:=.busy }) jump ((hc.block _ (Array.getElem?_eq_some_iff.1 hl2).1 nS).trans hl2)
    cases e' with
    | normal =>
     obtain ⟨hc,S',hS',hi⟩:=q2
     obtain ⟨f1,f2,f3,f4,f5,f6,f7⟩:=fin none .ready hc S' hS' _ rfl
     exact ⟨_,_,hrec none hc,f1,_,f2,.inl ⟨rfl,S',fun k=>Iff.rfl,f3,f4,hI _ _ _ _ hi f7,f5,f6⟩⟩
    | ret =>
     obtain ⟨hc,S',hS',hi⟩:=q2
     obtain ⟨f1,f2,f3,f4,f5,f6,f7⟩:=fin (some .ret) .done hc S' hS' _ rfl
     exact ⟨_,_,hrec (some .ret) hc,f1,_,f2,.inr ⟨rfl,S',fun k=>Iff.rfl,f3,f4,f6,.inl ⟨f5,hKr _ _ _ hi f7⟩⟩⟩
    | exit i =>
     simp only [fragQ] at q2
     cases hb:Nat.beq i x <;> rw [hb] at q2
     ·exact q2.elim
     have hix:=Nat.eq_of_beq_eq_true hb
     subst hix
     obtain ⟨hc,S',hS',hi⟩:=q2
     obtain ⟨f1,f2,f3,f4,f5,f6,f7⟩:=fin (some (.exit i)) .done hc S' hS' _ rfl
     exact ⟨_,_,hrec (some (.exit i)) hc,f1,_,f2,.inr ⟨rfl,S',fun k=>Iff.rfl,f3,f4,f6,.inr ⟨f5,hKx _ _ _ hi f7⟩⟩⟩
    | goto l=>exact q2.elim
    | panic c=>exact q2.elim
    | outgrown=>exact q2.elim
   | exit i=>exact q1.elim
   | ret=>exact q1.elim
   | goto t=>exact q1.elim
   | panic c=>exact q1.elim
   | outgrown=>exact q1.elim
  ·rintro S W hsz ⟨Sb,hb1,hb2,hb3,h1,h2,h3⟩
   refine ⟨none,_,run_endLoop h2 (by simp [rec0]),?_⟩
   have hlt:=(Array.getElem?_eq_some_iff.1 h2).1
   refine ⟨rfl,?_⟩
   show Qn (_ :: a.defers) _
   rw [hd]
   refine hn w.heap.size Sb _ (Nat.le_refl _) (by simp;omega) hb3 ((World.putObj_heap_other (by omega)).trans h3) (hI _ _ _ _ h1 (Chg.put _ _ _ ⟨by omega,hb2⟩))
  ·rintro S W hsz ⟨Sb,hb1,hb2,hb3,h3,h⟩
   rcases h with ⟨h1,h2⟩ | ⟨h1,h2⟩
   ·have hlt:=(Array.getElem?_eq_some_iff.1 h1).1
    refine ⟨some .ret,_,run_endLoop h1 (by simp),?_⟩
    refine wpIn_ret ⟨rfl,?_⟩
    show Qr (_ :: a.defers) _
    rw [hd]
    exact hr w.heap.size Sb _ (Nat.le_refl _) (by simp;omega) hb3 ((World.putObj_heap_other (by omega)).trans h3) (hKr _ _ _ h2 (Chg.put _ _ _ ⟨by omega,hb2⟩))
   ·have hlt:=(Array.getElem?_eq_some_iff.1 h1).1
    refine ⟨some (.exit x),_,run_endLoop h1 (by simp),?_⟩
    refine wpIn_exit ⟨rfl,rfl,?_⟩
    show Qx (_ :: a.defers) _
    rw [hd]
    exact hx w.heap.size Sb _ (Nat.le_refl _) (by simp;omega) hb3 ((World.putObj_heap_other (by omega)).trans h3) (hKx _ _ _ h2 (Chg.put _ _ _ ⟨by omega,hb2⟩))
end Go.Sh
namespace Go.Proofs
open Go Go.Sh Go.RowKit Go.Proofs.Tryz IntKind
theorem q8s {yf:Fn} {ya yb:Array Value} {T:Nat→Prop} {J:List Nn→(Nat→Prop)→World→Prop} {Jx:(Nat→Prop)→World→Prop} {w0:World} {xs:List Nn} {ty tw:Nat}
  (hTl:∀ k,T k→k < w0.heap.size)
  (hJ:∀ pre S W W',J pre S W→Chg (fun k=>w0.heap.size≤k∧¬ S k) W W'→J pre S W')
  (hbody:∀ pre x vs S W,NnE T w0 x vs→pre++[x] <+: xs→w0.heap.size≤W.heap.size→(∀ k,S k→k < W.heap.size∧¬ T k)→J pre S W→CallV prog (.func yf ya yb) vs W fun e W'=>Chg S W W' ∧
   ∃ S':Nat→Prop,(∀ k,S' k→(S k∨W.heap.size≤k)∧k < W'.heap.size)∧((e=.returned (.bool true)∧J (pre++[x]) S' W')∨(e=.returned (.bool false)∧Jx S' W'))) :
  ∀ (f:Fo) {R:Ending→World→Prop} {S:Nat→Prop} {w:World} {a:Option Addr} {n c:Nat} (pre:List Nn),small f→SlF T w0 a n f→w0.heap.size≤w.heap.size→(∀ k,T k→w.heap[k]? = w0.heap[k]?)→(∀ k,S k→k < w.heap.size∧¬ T k) →
   Blk w ty [.func yf ya yb] 57→Blk w tw [.func (.func 154) ⟨[]⟩ ⟨[.pointer (some ⟨ty,0,none⟩),.pointer (some ⟨tw,0,none⟩)]⟩] 89→¬ S ty→¬ S tw →
   pre++qo f <+: xs→J pre S w→(∀ S' W',Chg S w W'→(∀ k,S' k→(S k∨w.heap.size≤k)∧k < W'.heap.size)→J (pre++qo f) S' W'→R (.returned (.bool true)) W') →
   (∀ S' W',Chg S w W'→(∀ k,S' k→(S k∨w.heap.size≤k)∧k < W'.heap.size)→Jx S' W'→R (.returned (.bool false)) W') →
   Calls prog qe0 ⟨[.slice a n c,.pointer (some ⟨ty,0,none⟩),.pointer (some ⟨tw,0,none⟩)]⟩ w R:=by
 intro f
 induction hz:f.size using Nat.strongRecOn generalizing f with
 | _ z ih =>
 intro R S w a n c pre hs hf hw0 hT hS hBy hBw nSy nSw hpre hj hend hstop
 unfold small at hs
 apply qiv
 have hn:=hf.1
 have hfl:=f.len_le_size
 have lty:=hBy.lt
 have ltw:=hBw.lt
 refine ⟨fun i W m=>∃ (p r:Fo) (ps:List Nn) (S1:Nat→Prop),f=p.app r∧i=p.len∧m=r.len∧Chg S w W∧(∀ k,S1 k→(S k∨w.heap.size≤k)∧k < W.heap.size)∧J ps S1 W∧pre++qo f=ps++qo r,
  ⟨_,.nil,f,pre,S,rfl,rfl,rfl,Chg.refl _ _,fun k hk=>⟨.inl hk,(hS k hk).1⟩,hj,rfl⟩,?_⟩
 rintro _ W m ⟨p,r,xs',S1,hpr,rfl,rfl,hcW,hS1,hjW,heq⟩ _
 have hwW:=hcW.size
 refine qd (fun hlt=>?_) (fun hge=>?_)
 ·obtain ⟨k,t,mm,ps,r,rfl⟩:=Fo.next hpr (by omega)
  have hsl:=Fo.sub_len hpr
  have hsz:=Fo.sub_size hpr
  have e1:f=(p.app (.one k t mm ps)).app r:=by rw [Fo.app_one_app];exact hpr
  have i1:i64.wrap ((p.len:Int) + 1)=((p.app (.one k t mm ps)).len:Int):=by rw [qj (by omega)];simp [Fo.one]
  have hTW:∀ k,T k→W.heap[k]? = w0.heap[k]?:=fun k hk=>(hcW.block k (by have:=hTl k hk;omega) (fun h=>(hS k h).2 hk)).trans (hT k hk)
  obtain ⟨q,a',c',hq,hTq,hql,hN⟩:=(hf.keep (S':=T) (w':=W) (fun k hk _=>⟨hk,hTW k hk⟩) (by omega)).get hpr
  have hNT:SlF T w0 a' ps.len ps:=hN.sl.keep' fun k hk _=>⟨hk,hTl k hk,(hTW k hk).symm⟩
  refine hq _ ⟨k,hN.kind,t,hN.text,mm,hN.num,a',ps.len,c',hN.parts,?_⟩
  refine qw (by simp) (by intro u hu;simp only [List.mem_cons,List.not_mem_nil,or_false] at hu;rcases hu with rfl | rfl | rfl | rfl <;> rfl) fun bx w1 hbx hBx e2 s2=>?_
  have z2:=e2.size
  obtain ⟨x0,x1,x2,x3⟩:=blk4 hBx
  have hBy1:=(hcW.blk hBy nSy).ext e2
  have hBw1:=(hcW.blk hBw nSw).ext e2
  have n1y:¬ S1 ty:=fun h=>(hS1 _ h).1.elim nSy (by omega)
  have n1w:¬ S1 tw:=fun h=>(hS1 _ h).1.elim nSw (by omega)
  have n1x:¬ S1 bx:=fun h=>by have:=(hS1 _ h).2;omega
  refine dr_ok ⟨_,_,_,by rw [hBy1.cell];rfl,k,x0,t,x1,mm,x2,a',ps.len,c',x3,?_⟩
  have hj1:J xs' S1 w1:=hJ _ _ _ _ hjW (Chg.of_ext e2)
  rw [qo] at heq
  have hpx:xs'++[⟨k,t,mm,ps⟩] <+: xs:=by
   refine List.IsPrefix.trans ?_ hpre
   rw [heq]
   exact ⟨_,by rw [List.append_assoc];rfl⟩
  have hS1T:∀ k,S1 k→k < w1.heap.size∧¬ T k:=fun j hj=>⟨by have:=(hS1 j hj).2;omega,fun ht=>(hS1 j hj).1.elim (fun h=>(hS j h).2 ht) (fun h=>by have:=hTl j ht;omega)⟩
  refine qbh (hbody xs' ⟨k,t,mm,ps⟩ _ S1 w1 ⟨a',c',rfl,hNT⟩ hpx (by omega) hS1T hj1) ?_
  rintro e w2 ⟨hc2,S2,hS2,hres⟩
  have z3:=hc2.size
  have hcw2:Chg S w w2:=qa5 (hcW.trans (Chg.of_ext e2)) hc2 fun i hi hh=>(hS1 i hh).1.elim id fun h=>by omega
  have hS2w:∀ k,S2 k→(S k∨w.heap.size≤k)∧k < w2.heap.size:=fun j hj=>⟨(hS2 j hj).1.elim (fun h=>(hS1 j h).1) (fun h=>.inr (by omega)),(hS2 j hj).2⟩
  rcases hres with ⟨rfl,hj2⟩ | ⟨rfl,hjx⟩
  ·refine ⟨true,rfl,?_⟩
   have hBx2:=hc2.blk hBx n1x
   obtain ⟨y0,y1,y2,y3⟩:=blk4 hBx2
   have hBw2:=hc2.blk hBw1 n1w
   have hBy2:=hc2.blk hBy1 n1y
   simp only [Bool.not_true,br_f]
   refine dr_ok ⟨.func 154,⟨[]⟩,⟨[.pointer (some ⟨ty,0,none⟩),.pointer (some ⟨tw,0,none⟩)]⟩,by rw [hBw2.cell];rfl,a',ps.len,c',y3,by kernel_rfl,?_⟩
   refine ih _ (hz ▸ hsz) ps rfl (S:=S2) (xs'++[⟨k,t,mm,ps⟩]) (by unfold small;omega) hNT (by omega) (fun j hj=>(hcw2.block j (by have:=hTl j hj;omega) (fun h=>(hS j h).2 hj)).trans (hT j hj))
    (fun j hj=>⟨(hS2 j hj).2,fun ht=>(hS2 j hj).1.elim (fun h=>(hS1T j h).2 ht) (fun h=>by have:=hTl j ht;omega)⟩) hBy2 hBw2 (fun h=>(hS2 _ h).1.elim n1y (by omega)) (fun h=>(hS2 _ h).1.elim n1w (by omega)) ?_ hj2 (fun S3 w3 hc3 hS3 hj3=>?_) (fun S3 w3 hc3 hS3 hjx=>?_)
   ·refine List.IsPrefix.trans ?_ hpre
    rw [heq]
    exact ⟨qo r,by simp⟩
   ·refine ⟨true,rfl,?_⟩
    refine ⟨r.len,by simp,_,r,_,S3,e1,i1,rfl,qa5 hcw2 hc3 fun i hi hh=>(hS2w i hh).1.elim id fun h=>by omega,fun j hj=>⟨(hS3 j hj).1.elim (fun h=>(hS2w j h).1) (fun h=>.inr (by omega)),(hS3 j hj).2⟩,hj3,?_⟩
    rw [heq];simp
   ·exact ⟨false,rfl,hstop S3 _ (qa5 hcw2 hc3 fun i hi hh=>(hS2w i hh).1.elim id fun h=>by omega) (fun j hj=>⟨(hS3 j hj).1.elim (fun h=>(hS2w j h).1) (fun h=>.inr (by omega)),(hS3 j hj).2⟩) hjx⟩
  ·exact ⟨false,rfl,hstop S2 _ hcw2 hS2w hjx⟩
 ·obtain ⟨rfl,rfl⟩:=Fo.last hpr (by omega)
  have e:xs'=pre++qo p:=by rw [heq];simp [qo]
  rw [e] at hjW
  exact hend S1 _ hcW hS1 hjW
theorem q8t {T:Nat→Prop} (f:Fo) (hs:small f) {a:Option Addr} {n c:Nat} (b:Nat) (w:World) (hTl:∀ k,T k→k < w.heap.size) (hb:Blk w b [.slice a n c] 43) (hf:SlF T w a n f) (hbT:T b) :
  IterO prog qby [.pointer (some ⟨b,0,none⟩)] (qo f) (NnE T w) T w:=by
 intro yf ya yb S0 J Jx R hS hJ hJx hbody h0 hend hstop
 apply ql8
 refine qh fun ty w1 hty hBy e1 s1=>?_
 refine qh fun tw w1' htw hBw' e2' s2'=>?_
 refine qr hBw' rfl fun w2 hBw hcc hss=>?_
 have e2:Ext w1 w2:=qi e2' hcc fun k hk=>by omega
 have E:=qb e1 e2
 refine ⟨.func 154,⟨[]⟩,⟨[.pointer (some ⟨ty,0,none⟩),.pointer (some ⟨tw,0,none⟩)]⟩,by rw [hBw.cell];rfl,dr_ok ⟨a,n,c,by rw [((hb.ext e1).ext e2).cell];rfl,by kernel_rfl,?_⟩⟩
 have hz:=E.size
 have hz1:=e1.size
 refine q8s (w0:=w) (xs:=qo f) hTl hJ hbody f (S:=S0) [] hs hf hz (fun k hk=>E.block k (hTl k hk)) (fun k hk=>⟨by have:=(hS k hk).1;omega,(hS k hk).2⟩) (hBy.ext e2) hBw (fun h=>by have:=(hS _ h).1;omega) (fun h=>by have:=(hS _ h).1;omega) (List.prefix_refl _)
  (hJ _ _ _ _ h0 (Chg.of_ext E)) (fun S' W' hc hS' hj=>?_) (fun S' W' hc hS' hjx=>?_)
 ·exact ⟨_,rfl,hend S' _ (Nat.le_trans hz hc.size) hj⟩
 ·exact ⟨_,rfl,hstop S' _ (Nat.le_trans hz hc.size) hjx⟩
end Go.Proofs
namespace Go.Sh
open Go Go.RowKit
section
variable {S:Nat→Prop} {w w':World} {e:TypeId} {B:Nat} {a:Option Addr} {n c:Nat} {f:Fo}
theorem OwnF.push2 {P:Program} {t bytes:Nat} {z:Value} (hT:SlT P t e 4 bytes z) (h:OwnF e S B w a n c f) (hB:B≤w.heap.size) {k:Int} {s:List UInt8} {m:Int} {a':Option Addr} {c':Nat} {ps:Fo}
  (hps:SlF (fun k=>(S k∨B≤k)∧¬ Sh.bk a k) w a' ps.len ps) (hlen:n + 1≤4611686018427387904) (hbytes:(n + 1) * bytes≤140737488355328) {ty:TypeId} {K:Option Addr→Nat→Nat→World→Prop}
  (hk:∀ a'' n'' c'' w',OwnF e S B w' a'' n'' c'' (f.app (.one k s m ps))→Chg (Sh.bk a) w w'→(∀ k,Sh.bk a'' k→Sh.bk a k∨w.heap.size≤k)→K a'' n'' c'' w') :
  al w e [.int .i64 k,.string ⟨⟨s⟩⟩,.int .i64 m,.slice a' ps.len c'] fun p w1=>app P [t,t] ty (.slice a n c) (.slice (some p) 1 1) w1 K:=by
 obtain ⟨h0,xs,h1,h2⟩:=h
 refine qfd hT h1 hB [.int .i64 k,.string ⟨⟨s⟩⟩,.int .i64 m,.slice a' ps.len c'] rfl (by intro u hu;simp only [List.mem_cons,List.not_mem_nil,or_false] at hu;rcases hu with rfl | rfl | rfl | rfl <;> rfl) hlen hbytes fun a'' c'' w' ho hc hn=>hk _ _ _ _ ⟨?_,_,ho,?_⟩ hc hn
 ·simp [Fo.one];exact h0
 ·obtain ⟨_,us,h3,h4⟩:=hps
  have hs:∀ k,((S k∨B≤k)∧¬ Sh.bk a k)→k < w.heap.size→((S k∨B≤k)∧¬ Sh.bk a'' k)∧w'.heap[k]? = w.heap[k]?:=fun k hk hl =>
   ⟨⟨hk.1,fun hb=>(hn k hb).elim hk.2 (fun h=>by omega)⟩,hc.block k hl hk.2⟩
  exact (h2.keep hs hc.size).app ⟨a',c',us,[],rfl,h3.keep hs hc.size,h4.keep hs hc.size,rfl⟩
def flat:Fo→Prop
 | .nil=>True
 | .cons _ _ _ ps r=>ps=.nil∧flat r
theorem flat_app {f g:Fo}:flat (f.app g)↔flat f∧flat g:=by
 induction f with
 | nil=>simp [flat]
 | cons k t n ps r _ ih=>simp only [Fo.cons_app,flat,ih,and_assoc]
theorem FoC.flat {S':Nat→Prop}:∀ {f:Fo} {vs:List Value},Sh.flat f→FoC S w f vs→FoC S' w' f vs
 | .nil,vs,_,h=>h
 | .cons k t n ps r,vs,⟨hp,hr⟩,⟨a,c,us,vs',e,h1,h2,h3⟩=>by
  subst hp
  exact ⟨a,c,[],vs',e,.inl rfl,rfl,FoC.flat hr h3⟩
theorem OwnF.flat {T:Nat→Prop} (h:OwnF e S B w a n c f) (hf:Sh.flat f) (hc:Chg T w w') (hT:∀ k,Sh.bk a k→¬ T k):OwnF e S B w' a n c f:=by
 obtain ⟨h0,xs,h1,h2⟩:=h
 exact ⟨h0,xs,h1.chg hc hT,FoC.flat hf h2⟩
end
end Go.Sh
namespace Go.Proofs
open Go Go.Sh Go.RowKit Go.Proofs.Tryz IntKind
theorem qsi:∀ (f:Fo),good f→∀ x∈qo f,q17 x.k x.t x.n x.ps
 | .nil,_,x,hx=>by simp [qo] at hx
 | .cons k t n ps r,h,x,hx=>by
  simp only [qo,List.mem_cons,List.mem_append] at hx
  rcases hx with rfl | hx | hx
  ·exact h.1
  ·exact qsi ps h.2.1 x hx
  ·exact qsi r h.2.2 x hx
theorem al_true {w:World} {T:TypeId} {cs:List Value} {A:Addr→World→Prop} (h:al w T cs A):al w T cs fun p w1=>A p w1∧True:=⟨h,trivial⟩
theorem q7c {R:Ending→World→Prop} {S:Nat→Prop} {w:World} (k:Int) (t:List UInt8) (n:Int) (a:Option Addr) (c:Nat) (f:Fo) (hs:f.size≤1000000000) (hg:good f) (hf0:SlF S w a f.len f)
  (h:∀ a' n' c' w',SlF (fun k=>S k∨w.heap.size≤k) w' a' n' (qag f)→Ext w w'→R (.returned (.slice a' n' c')) w') :
  Calls prog qmm ⟨[.agg ⟨[.int .i64 k,.string ⟨⟨t⟩⟩,.int .i64 n,.slice a f.len c]⟩]⟩ w R:=by
 apply q0q
 refine qh fun b5 w1 hb5 B5 e1 s1=>?_
 refine qh fun b7 w2 hb7 B7 e2 s2=>?_
 have E2:=qb e1 e2
 refine ⟨a,f.len,c,(blk4 (B5.ext e2)).2.2.2,q5p fun bs w3 Bs e3 hbs=>⟨_,_,_,rfl,fun base=>?_⟩⟩
 have E3:=qb E2 e3
 have B7:=B7.ext e3
 have l7:=B7.lt
 have ls:=Bs.lt
 have z1:=e1.size
 have z3:=E3.size
 have hf:SlF (fun k=>S k∧k < w.heap.size) w a f.len f:=hf0.imp fun k hk hl=>⟨hk,hl⟩
 have hgn:=qsi f hg
 rw [qsr]
 refine qgh qgg qge (gf:=qby) rfl (by kernel_rfl) (xs:=qo f) (E:=NnE (fun k=>(S k∧k < w.heap.size)∨k=bs) w3) (Rd:=fun k=>(S k∧k < w.heap.size)∨k=bs)
  (fun v1 he=>(q8t f (by unfold small;omega) bs v1 (fun k hk=>by have:=he.size;omega) (Bs.ext he) ((hf.ext (qb E3 he)).imp fun k hk _=>.inl hk) (.inr rfl)).mono ?_) (fun y vs hE=>by obtain ⟨a',c',rfl,_⟩:=hE;rfl) (by decide) (fun k hk=>by omega) (fun k=>k=b7) (fun k hk=>by omega)
  (fun pre S1 W=>∃ (oa:Option Addr) (on oc:Nat),Blk W b7 [.slice oa on oc] 43∧OwnF 56 (fun k=>S k∧k < w.heap.size) w3.heap.size W oa on oc (pickB pre)∧flat (pickB pre)∧pre.length≤f.size∧(∀ k,S1 k↔k=b7∨bk oa k)∧Ext w W) (fun _ _=>False) (fun _ _=>False)
  ?_ (fun _ _ _ h=>h.elim) (fun _ _ _ h=>h.elim) ⟨none,0,0,B7,OwnF.nil _,trivial,by simp,fun k=>by simp [bk],E3⟩ ?_ ?_ (fun _ _ _ _ _ _ _ h=>h.elim) (fun _ _ _ _ _ _ _ h=>h.elim)
 ·rintro x vs ⟨a',c',rfl,hsl⟩
  exact ⟨a',c',rfl,hsl.keep' fun k hk hl=>⟨hk,by omega,((he.block k (by omega))).symm⟩⟩
 ·rintro pre S1 W W' ⟨oa,on,oc,g1,g2,g3,g4,g5,g6⟩ hc
  refine ⟨oa,on,oc,hc.blk g1 (fun hh=>by omega),g2.flat g3 hc fun k hk hh=>hh.2 ((g5 k).2 (.inr hk)),g3,g4,g5,qi g6 hc fun k hk=>by omega⟩
 ·rintro pre ⟨k1,t1,m1,ps1⟩ vs S1 W l ⟨a',c',rfl,hsl⟩ hpre hl1 hl2 hl3 hS1 ⟨oa,on,oc,g1,g2,g3,g4,g5,g6⟩
  refine Eq.mpr (qsk base _ _ _ _ _ _ _ _ _ _ _ _ _ _ _ _ _ _) ?_
  refine qw (by simp) (by intro u hu;simp only [List.mem_cons,List.not_mem_nil,or_false] at hu;rcases hu with rfl | rfl | rfl | rfl <;> rfl) fun bx W1 hbx hBx ex sx=>?_
  refine ⟨ex,fun W2 hU=>?_⟩
  have zx:=ex.size
  have zU:=hU.size
  have hX2:=qgx hU hBx (by omega)
  obtain ⟨x0,x1,x2,x3⟩:=blk4 hX2
  have hmem:=qe9 hpre
  have hok:=hgn _ hmem
  have hpl:pre.length + 1≤f.size:=by have:=hpre.length_le;rw [qhf] at this;simpa using this
  have hUc:Chg (fun k=>k=l) W1 W2:=⟨hU.os,hU.tape,hU.output,by omega,fun k _ hk=>hU.block k hk⟩
  have hWc:Chg (fun k=>k=l) W W2:=(Chg.of_ext ex).trans hUc
  have nl:¬ bk oa l:=fun hh=>hl3 ((g5 l).2 (.inr hh))
  have h1:=hWc.blk g1 (by omega)
  have h2:=g2.flat g3 hWc fun k hk hh=>nl (hh ▸ hk)
  have E2':Ext w W2:=qi g6 hWc fun k hk=>by omega
  have hpk:=pickB_len pre
  have hon:=g2.len
  intro K32 hK32
  have k32:∀ g,g=brkF k1→K32 g W2:=by
   rintro _ rfl
   refine hK32 _ _ fun _=>ql (fun g=>?_) (fun g=>?_)
   ·have hp1:ps1=.nil:=by
     have hk:k1=2∨k1=3∨k1=4:=by simpa [brkF] using g
     exact Fo.eq_nil_of_len (hok.2.2.2.2.1 (by unfold qx;simp;omega))
    have hpp:pickB (pre++[⟨k1,t1,m1,ps1⟩])=(pickB pre).app (.one k1 t1 m1 ps1):=by rw [qxb];simp [pickB,g];rfl
    have hfl:flat (pickB (pre++[⟨k1,t1,m1,ps1⟩])):=by rw [hpp,flat_app];exact ⟨g3,hp1,trivial⟩
    subst hp1
    have hdr:=qs W2
    have hD1:=h1.ext hdr
    have hD2:=h2.ext hdr
    obtain ⟨d0,d1,d2,d3⟩:=blk4 (hX2.ext hdr)
    unfold drw
    refine dr_ok ⟨oa,on,oc,by rw [hD1.cell];rfl,k1,d0,t1,d1,m1,d2,a',0,c',d3,?_,trivial⟩
    refine al_true ?_
    refine OwnF.push2 qa1 hD2 (by show _≤W2.heap.size;omega) (k:=0) (s:=[]) (m:=0) (a':=none) (c':=0) (ps:=.nil) (SlF.nil none) (by omega) (by omega) fun a4 n4 c4 w4 ho4 hc4 hn4=>?_
    have zd:W2.drew.heap.size=W2.heap.size:=rfl
    have z4:=hc4.size
    have hn4':=ho4.len
    have hon1:on=(pickB pre).len:=hon
    obtain ⟨g0,ha4,hidx,hst⟩:=ho4.lastNode
    have l7':=h1.lt
    have n7:¬ bk oa b7:=fun hh=>by have:=(h2.bk hh).1;omega
    have hb4:Blk w4 b7 [.slice oa on oc] 43:=hc4.blk hD1 n7
    have n74:¬ bk a4 b7:=fun hh=>(hn4 _ hh).elim n7 (by omega)
    have sub4:∀ j,bk a4 j→(S1 j∨W.heap.size≤j):=fun j hj=>(hn4 j hj).elim (fun h=>.inl ((g5 j).2 (.inr h))) (fun h=>.inr (by omega))
    have cW2:Chg (fun j=>S1 j∨W.heap.size≤j) W2 w4:=(Chg.of_ext hdr).trans (hc4.mono fun j _ hj=>.inl ((g5 j).2 (.inr hj)))
    have E4:Ext w w4:=qi (qb E2' hdr) hc4 fun j hj=>by have:=(h2.bk hj).1;omega
    -- what both orders end in
    have fin:∀ w6,Chg (fun j=>j=b7∨bk a4 j) w4 w6→Blk w6 b7 [.slice a4 n4 c4] 43→OwnF 56 (fun k=>S k∧k < w.heap.size) w3.heap.size w6 a4 n4 c4 ((pickB pre).app (.one k1 t1 m1 .nil)) →
      Chg (fun j=>S1 j∨W.heap.size≤j) W2 w6∧∃ S':Nat→Prop,(∀ j,S' j→(S1 j∨W.heap.size≤j)∧j < w6.heap.size)∧∃ (oa:Option Addr) (on oc:Nat),Blk w6 b7 [.slice oa on oc] 43∧OwnF 56 (fun k=>S k∧k < w.heap.size) w3.heap.size w6 oa on oc (pickB (pre++[(⟨k1,t1,m1,.nil⟩:Nn)]))∧flat (pickB (pre++[(⟨k1,t1,m1,.nil⟩:Nn)]))∧(pre++[(⟨k1,t1,m1,.nil⟩:Nn)]).length≤f.size∧(∀ j,S' j↔j=b7∨bk oa j)∧Ext w w6:=by
     intro w6 hc6 hb6 ho6
     refine ⟨cW2.trans (hc6.mono fun j _ hj=>hj.elim (fun h=>.inl ((g5 j).2 (.inl h))) (sub4 j)),fun j=>j=b7∨bk a4 j,fun j hj=>⟨hj.elim (fun h=>.inl ((g5 j).2 (.inl h))) (sub4 j),hj.elim (fun h=>by have:=hb6.lt;omega) (fun h=>(ho6.bk h).2)⟩,a4,n4,c4,hb6,by rw [hpp];exact ho6,hfl,by simpa using hpl,fun j=>Iff.rfl,?_⟩
     exact qi E4 hc6 fun j hj=>hj.elim (fun h=>by omega) (fun h=>by have:=(ho4.bk h).1;omega)
    rw [hon1]
    refine hidx _ ⟨?_,?_,trivial⟩
    ·refine hst k1 t1 m1 a' c' .nil _ (SlF.nil a') fun w5 ho5 hc5=>⟨?_,trivial⟩
     refine dr_ok (qr (hc5.blk hb4 n74) rfl fun w6 q1 q2 q3=>?_)
     refine fin w6 ((hc5.mono fun j _ h=>.inr h).trans (q2.mono fun j _ h=>.inl h)) q1 ?_
     have hfl5:flat ((pickB pre).app (.one k1 t1 m1 .nil)):=by rw [← hpp];exact hfl
     exact ho5.flat hfl5 q2 fun j hj he=>n74 (he ▸ hj)
    ·refine dr_ok (qr hb4 rfl fun w5 q1 q2 q3=>⟨?_,trivial⟩)
     have hfl5:flat ((pickB pre).app (.one 0 [] 0 .nil)):=by rw [flat_app];exact ⟨g3,rfl,trivial⟩
     have ho5:=ho4.flat hfl5 q2 fun j hj he=>n74 (he ▸ hj)
     obtain ⟨g1',ha5,hidx5,hst5⟩:=ho5.lastNode
     have:g1'=g0:=by rw [ha4] at ha5;simpa using ha5.symm
     subst this
     refine hst5 k1 t1 m1 a' c' .nil _ (SlF.nil a') fun w6 ho6 hc6=>?_
     exact fin w6 ((q2.mono fun j _ h=>.inl h).trans (hc6.mono fun j _ h=>.inr h)) (hc6.blk q1 n74) ho6
   ·have hpp:pickB (pre++[⟨k1,t1,m1,ps1⟩])=pickB pre:=by rw [qxb];simp [pickB,g]
    refine ⟨Chg.refl _ _,S1,fun j hj=>⟨.inl hj,by have:=(hS1 j hj).1;omega⟩,oa,on,oc,h1,by rw [hpp];exact h2,by rw [hpp];exact g3,by simpa using hpl,g5,E2'⟩
  refine ⟨k1,x0,qd (fun g=>k32 _ (by simp [brkF,g])) (fun g=>⟨k1,x0,qd (fun g'=>k32 _ (by simp [brkF,g'])) (fun g'=>⟨k1,x0,k32 _ (by simp [brkF,g,g'])⟩)⟩)⟩
 ·rintro D S1 W hD1 hD2 hD3 hD4 ⟨oa,on,oc,g1,g2,g3,g4,g5,g6⟩
  have l7':=g1.lt
  have hne:b7≠D:=by omega
  refine ⟨oa,on,oc,by rw [g1.cell];rfl,qbm hD4 ?_⟩
  have hDb:¬ bk oa D:=fun hh=>hD3 ((g5 D).2 (.inr hh))
  have hcp:Chg (fun k=>k=D) W (W.putObj D (.deferred none)):=Chg.put W D _ rfl
  have ho:=g2.flat g3 hcp fun k hk hh=>hDb (hh ▸ hk)
  rw [qnd f hg] at ho
  exact h oa on oc _ (ho.out.imp fun k hk _=>hk.imp (fun h=>h.1) (fun h=>by omega)) (qb9 g6 (by omega) _)
def eachR (rep:Int→List UInt8→Int→Fo→Fo→Fo):Fo→Fo
 | .nil=>.nil
 | .cons k t n ps r=>(if k=8∨k=9 then rep k t n ps (eachR rep ps) else if 0 < ps.len then partF k t n (eachR rep ps) else .one k t n ps).app (eachR rep r)
theorem eachR_app (rep) (f g:Fo):eachR rep (f.app g)=(eachR rep f).app (eachR rep g):=by
 induction f with
 | nil=>rfl
 | cons k t n ps r _ ih=>simp only [Fo.cons_app,eachR,ih,Fo.app_assoc]
theorem qfi {rep:Int→List UInt8→Int→Fo→Fo→Fo} (hrs:∀ k t n ps ps',ps'.size≤ps.size→(rep k t n ps ps').size≤ps.size + 1):∀ f:Fo,(eachR rep f).size≤f.size
 | .nil=>Nat.le_refl _
 | .cons k t n ps r=>by
  have h1:=qfi hrs ps
  have h2:=qfi hrs r
  have h3:=hrs k t n ps _ h1
  have h4:=qsd k t n (eachR rep ps)
  simp only [eachR,Fo.size_app,Fo.size]
  split
  ·omega
  split
  ·omega
  ·simp [Fo.one,Fo.size];omega
theorem qj8 {R:Ending→World→Prop} {w:World} (k:Int) (t:List UInt8) (n:Int) (a:Option Addr) (m c:Nat) (h:∀ w',Ext w w'→R (.returned (.bool (decide (k=8∨k=9)))) w') :
  Calls prog qgt ⟨[.agg ⟨[.int .i64 k,.string ⟨⟨t⟩⟩,.int .i64 n,.slice a m c]⟩]⟩ w R:=by
 apply qqe
 refine qh fun b w1 hb hB e1 s1=>?_
 obtain ⟨x0,x1,x2,x3⟩:=blk4 hB
 refine ⟨k,x0,qd (fun g=>?_) (fun g=>⟨k,x0,?_⟩)⟩
 ·have:=h _ e1;rw [decide_eq_true (.inl g)] at this;exact this
 ·have:=h _ e1;simp only [g,false_or] at this;exact this
def PartsOK (pf:Value) (W:World) (S:Nat→Prop) (g:Fo):Prop :=
 ∀ (W':World) (R':Ending→World→Prop),Ext W W'→(∀ a n c W'',SlF (fun k=>S k∨W'.heap.size≤k) W'' a n g→Ext W' W''→R' (.returned (.slice a n c)) W'')→CallV prog pf [] W' R'
def RepOK (rep:Int→List UInt8→Int→Fo→Fo→Fo) (rv:Value) (w0:World):Prop :=
 ∀ (W:World) (S:Nat→Prop) (R':Ending→World→Prop) (k:Int) (t:List UInt8) (n:Int) (a:Option Addr) (c:Nat) (ps:Fo) (pf:Fn) (pa pb:Array Value),Ext w0 W→q17 k t n ps→good ps→ps.size≤1000000000→(k=8∨k=9)→(∀ j,S j→j < W.heap.size)→SlF S W a ps.len ps →
  PartsOK (.func pf pa pb) W S (eachR rep ps)→(∀ a' n' c' W',SlF (fun k=>S k∨W.heap.size≤k) W' a' n' (rep k t n ps (eachR rep ps))→Ext W W'→R' (.returned (.slice a' n' c')) W') →
  CallV prog rv [.agg ⟨[.int .i64 k,.string ⟨⟨t⟩⟩,.int .i64 n,.slice a ps.len c]⟩,.func pf pa pb] W R'
theorem q6x {rep:Int→List UInt8→Int→Fo→Fo→Fo} (hrs:∀ k t n ps ps',ps'.size≤ps.size→(rep k t n ps ps').size≤ps.size + 1) {rf:Fn} {ra rb:Array Value} {w0:World} (hrep:RepOK rep (.func rf ra rb) w0) {t1 t2:Nat}
  (hB1:Blk w0 t1 [.func rf ra rb] 164) (hB2:Blk w0 t2 [.func (.func 177) ⟨[]⟩ ⟨[.pointer (some ⟨t1,0,none⟩),.pointer (some ⟨t2,0,none⟩)]⟩] 108) :
  ∀ (f:Fo) {R:Ending→World→Prop} {S:Nat→Prop} {w:World} {a:Option Addr} {n c:Nat},f.size≤1000000000→good f→Ext w0 w→SlF S w a n f →
  (∀ a' n' c' w',SlF (fun k=>S k∨w.heap.size≤k) w' a' n' (eachR rep f)→Ext w w'→R (.returned (.slice a' n' c')) w')→Calls prog qh7 ⟨[.slice a n c,.pointer (some ⟨t1,0,none⟩),.pointer (some ⟨t2,0,none⟩)]⟩ w R:=by
 intro f
 induction hz:f.size using Nat.strongRecOn generalizing f with
 | _ z ih =>
 intro R S w a n c hs hg hw0 hf0 h
 apply qs7
 have hn:=hf0.1
 have hfl:=f.len_le_size
 have hf:SlF (fun k=>S k∧k < w.heap.size) w a n f:=hf0.imp fun k hk hl=>⟨hk,hl⟩
 refine ⟨fun oa on oc i W m=>∃ (p r out:Fo),f=p.app r∧i=p.len∧m=r.len∧OwnF 56 (fun k=>S k∧k < w.heap.size) w.heap.size W oa on oc out∧out=eachR rep p∧Ext w W,
  ⟨_,.nil,f,.nil,rfl,rfl,rfl,OwnF.nil w,rfl,Below.refl _ _⟩,?_⟩
 rintro oa on oc _ W m ⟨p,r,out,hpr,rfl,rfl,hout,rfl,he⟩ _
 have hon:=hout.len
 have hwW:=he.size
 refine qd (fun hlt=>?_) (fun hge=>?_)
 ·obtain ⟨k,t,mm,ps,r,rfl⟩:=Fo.next hpr (by omega)
  have hsl:=Fo.sub_len hpr
  have hsz:=Fo.sub_size hpr
  have hss:f.size=p.size + (ps.size + r.size + 1):=by rw [hpr,Fo.size_app];rfl
  have hgg:=hg
  rw [hpr,q3w] at hgg
  obtain ⟨hgp,hok,hgs,hgr⟩:=hgg
  have rl:=(eachR rep p).len_le_size
  have rs:=qfi hrs p
  have rs2:=qfi hrs ps
  have rs3:=hrs k t mm ps _ rs2
  have rl3:=(rep k t mm ps (eachR rep ps)).len_le_size
  have e1:f=(p.app (.one k t mm ps)).app r:=by rw [Fo.app_one_app];exact hpr
  have i1:i64.wrap ((p.len:Int) + 1)=((p.app (.one k t mm ps)).len:Int):=by rw [qj (by omega)];simp [Fo.one]
  have p1:eachR rep (p.app (.one k t mm ps))=(eachR rep p).app (eachR rep (.one k t mm ps)):=eachR_app _ _ _
  obtain ⟨q,a',c',hq,hSq,hql,hN⟩:=(hf.ext he).get hpr
  refine hq _ ⟨k,hN.kind,t,hN.text,mm,hN.num,a',ps.len,c',hN.parts,?_⟩
  refine qw (by simp) (by intro u hu;simp only [List.mem_cons,List.not_mem_nil,or_false] at hu;rcases hu with rfl | rfl | rfl | rfl <;> rfl) fun bx w1 hbx hBx e2 s2=>?_
  obtain ⟨x0,x1,x2,x3⟩:=blk4 hBx
  have E1:=qb he e2
  have z2:=e2.size
  refine ⟨k,x0,t,x1,mm,x2,a',ps.len,c',x3,qj8 k t mm a' ps.len c' fun w3 e3=>⟨_,rfl,?_⟩⟩
  have E3:=qb E1 e3
  have EW3:=qb e2 e3
  have E03:=qb hw0 E3
  have hBx3:=hBx.ext e3
  obtain ⟨y0,y1,y2,y3⟩:=blk4 hBx3
  have hsx:=hN.sl.ext EW3
  have z3:=EW3.size
  have fin:∀ (g:Fo) {a3:Option Addr} {n3 c3:Nat} {w4:World},g=eachR rep (.one k t mm ps)→g.len≤1000000001→SlF (fun j=>(S j∧j < w.heap.size)∨w3.heap.size≤j) w4 a3 n3 g→Ext w3 w4 →
    app prog [43,43] 43 (.slice oa on oc) (.slice a3 n3 c3) w4 fun a' n' c' w'=>∃ m55:Nat,m55 < (Fo.cons k t mm ps r).len∧∃ (p' r' out:Fo),f=p'.app r'∧i64.wrap ((p.len:Int) + 1)=p'.len∧m55=r'.len∧OwnF 56 (fun k=>S k∧k < w.heap.size) w.heap.size w' a' n' c' out∧out=eachR rep p'∧Ext w w':=by
   intro g a3 n3 c3 w4 hgq hgl hsl3 e4
   have z4:=e4.size
   have hn3:=hsl3.1
   refine OwnF.pushAll qa1 (hout.ext (qb EW3 e4)) (by omega) (qel hsl3 (fun j hj=>hj.2) hout (by omega) (by omega)) (by omega) (by omega) fun a5 n5 c5 w5 ho5 hc5=>?_
   exact ⟨r.len,by simp,_,r,_,e1,i1,rfl,ho5,by rw [p1,hgq],qi (qb E3 e4) hc5 fun j hj=>(hout.bk hj).1⟩
  refine qd (fun g=>?_) (fun g=>?_)
  ·refine dr_ok ⟨_,_,_,by rw [(hB1.ext E03).cell];rfl,k,y0,t,y1,mm,y2,a',ps.len,c',y3,?_⟩
   refine hrep w3 (fun j=>S j∧j < w.heap.size) _ k t mm a' c' ps _ _ _ E03 hok hgs (by omega) g (fun j hj=>by have:=hj.2;omega) hsx ?_ fun a4 n4 c4 w4 hsl4 e4=>⟨_,_,_,rfl,fin _ (by simp only [eachR,Fo.one,if_pos g,Fo.app_nil]) (by omega) hsl4 e4⟩
   intro W' R' hE hR
   refine ⟨by kernel_rfl,?_⟩
   apply qnu
   refine dr_ok ⟨.func 177,⟨[]⟩,⟨[.pointer (some ⟨t1,0,none⟩),.pointer (some ⟨t2,0,none⟩)]⟩,by rw [((hB2.ext E03).ext hE).cell];rfl,dr_ok ⟨a',ps.len,c',(blk4 (hBx3.ext hE)).2.2.2,by kernel_rfl,?_⟩⟩
   exact ih _ (hz ▸ hsz) ps rfl (by omega) hgs (qb E03 hE) (hsx.ext hE) fun a4 n4 c4 w4 hsl4 e4=>⟨_,_,_,rfl,hR a4 n4 c4 w4 hsl4 e4⟩
  ·refine ⟨a',ps.len,c',y3,qd (fun g2=>?_) (fun g2=>⟨k,y0,t,y1,mm,y2,a',ps.len,c',y3,?_⟩)⟩
   ·have g2':0 < ps.len:=by omega
    refine dr_ok ⟨.func 177,⟨[]⟩,⟨[.pointer (some ⟨t1,0,none⟩),.pointer (some ⟨t2,0,none⟩)]⟩,by rw [(hB2.ext E03).cell];rfl,a',ps.len,c',y3,by kernel_rfl,?_⟩
    refine ih _ (hz ▸ hsz) ps rfl (by omega) hgs E03 hsx fun a4 n4 c4 w4 hsl4 e4=>⟨_,_,_,rfl,?_⟩
    have hB4:=hBx3.ext e4
    have z4:=e4.size
    have hn4:=hsl4.1
    rw [qg]
    refine qae hB4 (by simp) (by intro u hu;simp only [List.mem_singleton] at hu;subst hu;rfl) fun w5 b1 b2 b3 b4 b5 b6=>?_
    simp only [putAt,List.set] at b1
    have hc5:Chg (· = bx) w4 w5:=⟨b4,b5,b6,by omega,fun k _ hk=>b2 k hk⟩
    have EW5:Ext W w5:=qi (qb EW3 e4) hc5 fun j hj=>by omega
    have z5:=EW5.size
    have hp5:SlF (fun j=>(S j∧j < w.heap.size)∨w3.heap.size≤j) w5 a4 n4 (eachR rep ps):=hsl4.chg hc5 fun j hj he=>by
     have:=e3.size
     subst he;rcases hj with hj | hj <;> omega
    subst hn4
    obtain ⟨u0,u1,u2,u3⟩:=blk4 b1
    have hge:eachR rep (.one k t mm ps)=partF k t mm (eachR rep ps):=by simp only [eachR,Fo.one,if_neg g,if_pos g2',Fo.app_nil]
    have rl2:=(eachR rep ps).len_le_size
    refine ⟨a4,(eachR rep ps).len,c4,u3,qd (fun g3=>⟨k,u0,t,u1,mm,u2,a4,(eachR rep ps).len,c4,u3,?_⟩) (fun g3=>?_)⟩
    ·have hpf:partF k t mm (eachR rep ps)=.one k t mm (eachR rep ps):=by unfold partF;rw [if_neg (by omega)]
     refine OwnF.push qa1 (hout.ext EW5) (by omega) (qel hp5 (fun j hj=>hj.2) hout (by omega) (by omega)) (by omega) (by omega) fun a5 n5 c5 w6 ho5 hc6=>?_
     exact ⟨r.len,by simp,_,r,_,e1,i1,rfl,ho5,by rw [p1,hge,hpf],qi (qb he EW5) hc6 fun j hj=>(hout.bk hj).1⟩
    ·have hpf:partF k t mm (eachR rep ps)=.nil:=by unfold partF;rw [if_pos (by omega)]
     exact ⟨r.len,by simp,_,r,_,e1,i1,rfl,hout.ext EW5,by rw [p1,hge,hpf,Fo.app_nil],qb he EW5⟩
   ·have hg2:eachR rep (.one k t mm ps)=.one k t mm ps:=by simp only [eachR,Fo.one,if_neg g,if_neg (show ¬ 0 < ps.len by omega)];rfl
    refine OwnF.push qa1 (hout.ext EW3) (by omega) (hsx.imp fun j hj _=>⟨.inl hj,fun hb=>by have:=(hout.bk hb).1;have:=hj.2;omega⟩) (by omega) (by omega) fun a5 n5 c5 w5 ho5 hc5=>?_
    refine ⟨r.len,by simp,_,r,_,e1,i1,rfl,ho5,by rw [p1,hg2],qi E3 hc5 fun j hj=>(hout.bk hj).1⟩
 ·obtain ⟨rfl,rfl⟩:=Fo.last hpr (by omega)
  exact h oa on oc W (hout.out.imp fun k hk _=>hk.imp (fun h=>h.1) id) he
def repR (hand:Int) (k:Int) (_t:List UInt8) (n:Int) (ps ps':Fo):Fo:=if (decide (k=8)=decide (n≤hand)) then ps' else qag ps
theorem q6c (hand:Int):∀ k t n ps ps',Fo.size ps'≤Fo.size ps→(repR hand k t n ps ps').size≤ps.size + 1:=by
 intro k t n ps ps' h
 have:=qcb ps
 unfold repR;split <;> omega
theorem repR_ok {hand:Int} {bh:Nat} {w0:World} (hB:Blk w0 bh [.int .i64 hand] 3):RepOK (repR hand) (.func (.func 123) ⟨[]⟩ ⟨[.pointer (some ⟨bh,0,none⟩)]⟩) w0:=by
 intro W S R' k t n a c ps pf pa pb hE hok hg hs hk hSl hsl hpf h
 refine ⟨by kernel_rfl,?_⟩
 apply qqd
 refine qh fun b w1 hb hBx e1 s1=>?_
 obtain ⟨x0,x1,x2,x3⟩:=blk4 hBx
 have hz:=e1.size
 refine ⟨k,x0,n,x2,dr_ok ⟨hand,by rw [((hB.ext hE).ext e1).cell];rfl,qd (fun g=>?_) (fun g=>⟨k,x0,t,x1,n,x2,a,ps.len,c,x3,?_⟩)⟩⟩
 ·refine hpf w1 _ e1 fun a4 n4 c4 w4 h4 e4=>⟨_,_,_,rfl,h a4 n4 c4 w4 ?_ (qb e1 e4)⟩
  have e:repR hand k t n ps (eachR (repR hand) ps)=eachR (repR hand) ps:=by unfold repR;rw [if_pos g]
  rw [e]
  exact h4.imp fun j hj _=>hj.imp id fun h=>by omega
 ·refine q7c k t n a c ps hs hg (hsl.ext e1) fun a4 n4 c4 w4 h4 e4=>⟨_,_,_,rfl,h a4 n4 c4 w4 ?_ (qb e1 e4)⟩
  have e:repR hand k t n ps (eachR (repR hand) ps)=qag ps:=by unfold repR;rw [if_neg g]
  rw [e]
  exact h4.imp fun j hj _=>hj.imp id fun h=>by omega
theorem q6d {rep:Int→List UInt8→Int→Fo→Fo→Fo} (hrs:∀ k t n ps ps',ps'.size≤ps.size→(rep k t n ps ps').size≤ps.size + 1) {rf:Fn} {ra rb:Array Value} {w:World} (hrep:RepOK rep (.func rf ra rb) w)
  (f:Fo) {R:Ending→World→Prop} {S:Nat→Prop} {a:Option Addr} {n c:Nat} (hs:f.size≤1000000000) (hg:good f) (ht:tlen (eachR rep f)≤4611686018427387904) (hf:SlF S w a n f)
  (h:∀ a' n' c' w',SlF (fun k=>S k∨w.heap.size≤k) w' a' n' (qam (eachR rep f))→Ext w w'→R (.returned (.slice a' n' c')) w') :
  Calls prog qf0 ⟨[.slice a n c,.func rf ra rb]⟩ w R:=by
 apply qki
 refine qh fun t1 w1 ht1 hB1 e1 s1=>?_
 refine qh fun t2 w2 ht2 hB2' e2' s2=>?_
 refine qr hB2' rfl fun w3 hB2 hc3 hs3=>?_
 have e2:Ext w1 w3:=qi e2' hc3 fun k hk=>by omega
 have E:=qb e1 e2
 have z:=E.size
 have hrs':=qfi hrs f
 refine ⟨.func 177,⟨[]⟩,⟨[.pointer (some ⟨t1,0,none⟩),.pointer (some ⟨t2,0,none⟩)]⟩,by rw [hB2.cell];rfl,by kernel_rfl,?_⟩
 have hrep3:RepOK rep (.func rf ra rb) w3:=fun W S R' k t n a c ps pf pa pb hE=>hrep W S R' k t n a c ps pf pa pb (qb E hE)
 refine q6x hrs hrep3 (hB1.ext e2) hB2 f hs hg (Below.refl _ _) (hf.ext E) fun a4 n4 c4 w4 h4 e4=>⟨_,_,_,rfl,?_⟩
 refine q2g _ (by omega) ht h4 fun a5 n5 c5 w5 h5 e5=>⟨_,_,_,rfl,h a5 n5 c5 w5 (h5.imp fun j hj _=>?_) (qb (qb E e4) e5)⟩
 have:=e4.size
 rcases hj with (h | h) | h
 ·exact .inl h
 ·right;omega
 ·right;omega
theorem qpb (f:Fo) {R:Ending→World→Prop} {S:Nat→Prop} {w:World} {a:Option Addr} {n c:Nat} (hand:Int) (hs:f.size≤1000000000) (hg:good f) (ht:tlen (eachR (repR hand) f)≤4611686018427387904) (hf:SlF S w a n f)
  (h:∀ a' n' c' w',SlF (fun k=>S k∨w.heap.size≤k) w' a' n' (qam (eachR (repR hand) f))→Ext w w'→R (.returned (.slice a' n' c')) w') :
  Calls prog qe1 ⟨[.slice a n c,.int .i64 hand]⟩ w R:=by
 apply qiw
 refine qh fun bh w1 hbh hB e1 s1=>?_
 have z:=e1.size
 refine q6d (q6c hand) (repR_ok hB) f hs hg ht (hf.ext e1) fun a5 n5 c5 w5 h5 e5=>⟨_,_,_,rfl,h a5 n5 c5 w5 (h5.imp fun j hj _=>hj.imp id fun h=>by omega) (qb e1 e5)⟩
theorem qem (hand:Int):∀ f:Fo,good f→eachR (repR hand) f=qm f hand false
 | .nil,_=>rfl
 | .cons k t n ps r,h=>by
  have h1:=qem hand ps h.2.1
  have h2:=qem hand r h.2.2
  simp only [eachR,qm,h1,h2]
  congr 1
  by_cases g8:k=8
  ·subst g8
   by_cases gn:n≤hand
   ·simp [repR,gn]
   ·simp [repR,gn]
  ·by_cases g9:k=9
   ·subst g9
    by_cases gn:n≤hand
    ·simp [repR,gn]
    ·simp [repR,gn]
   ·simp only [g8,g9,false_and,if_false,false_or]
    obtain ⟨hk1,hk2,_,_,hp1,hp2⟩:=h.1
    by_cases gp:k=7∨k=10∨k=11
    ·rw [if_pos gp,if_pos (hp2 (by unfold qx;simp;omega))]
    ·rw [if_neg gp,if_neg (by have:=hp1 (by unfold qx;simp;omega);omega)]
theorem qwg:∀ f:Fo,good f→tlen f≤65536 * f.size
 | .nil,_=>by simp [tlen]
 | .cons k t n ps r,h=>by
  have h1:=qwg ps h.2.1
  have h2:=qwg r h.2.2
  have h3:=h.1.2.2.2.1
  simp only [tlen,Fo.size];omega
theorem qmq:∀ f:Fo,tlen (qag f)≤tlen f
 | .nil=>Nat.le_refl _
 | .cons k t n ps r=>by
  have h1:=qmq ps
  have h2:=qmq r
  simp only [qag,qco,tlen]
  split
  ·simp [Fo.one,tlen];omega
  ·omega
theorem tlen_part (k t n) (ps:Fo):tlen (partF k t n ps)≤t.length + tlen ps:=by
 unfold partF;split
 ·simp [tlen]
 ·simp [Fo.one,tlen]
theorem qcx:∀ (f:Fo) (hand:Int) (adv:Bool),tlen (qm f hand adv)≤tlen f
 | .nil,_,_=>Nat.le_refl _
 | .cons k t n ps r,hand,adv=>by
  have h1:=qcx ps hand adv
  have h2:=qcx r hand adv
  have h3:=qmq ps
  have h4:=tlen_part k t n (qm ps hand adv)
  simp only [qm,qco,tlen]
  split
  ·omega
  split
  ·omega
  split
  ·omega
  split
  ·omega
  split
  ·omega
  split
  ·omega
  ·simp [Fo.one,tlen];omega
theorem qcz {f:Fo} (h:qak f=0):f.size≤4096∧good f∧tlen f≤268435456:=by
 unfold qak at h
 split at h
 ·rename_i h1
  split at h
  ·rename_i h2;exact absurd h h2
  ·rename_i h2
   have hg:=qq1 f _ _ (Decidable.not_not.1 h2)
   have:=qwg f hg
   exact ⟨h1.1,hg,by omega⟩
 ·cases h
def errS (f:Fo) (hand:Int):Int:=if qak f≠0 then 1 else if hand < 0∨8 < hand then 13 else 0
def resS (f:Fo) (hand:Int) (adv:Bool):Fo:=if errS f hand=0 then qam (qm f hand adv) else .nil
section
variable {R:Ending→World→Prop} {S:Nat→Prop} {w:World} {a:Option Addr} {n c:Nat}
theorem q61 (f:Fo) (hand fr:Int) (hf:SlF S w a n f) (h:∀ w',Ext w w'→R (.returned (.int .i64 (if qak f≠0 then 1 else if hand < fr∨8 < hand then 13 else 0))) w') :
  Calls prog qrb ⟨[.slice a n c,.int .i64 hand,.int .i64 fr]⟩ w R:=by
 apply q4b
 refine qug f hf fun w1 e1=>⟨_,rfl,qd (fun g=>?_) (fun g=>qd (fun g2=>?_) (fun g2=>qd (fun g3=>?_) (fun g3=>?_)))⟩
 ·rw [if_pos g] at h;exact h _ e1
 ·rw [if_neg g,if_pos (.inl g2)] at h;exact h _ e1
 ·rw [if_neg g,if_pos (.inr g3)] at h;exact h _ e1
 ·rw [if_neg g,if_neg (by omega)] at h;exact h _ e1
end
theorem addL_size (f:Fo) (t):(addL f t).size=f.size:=by
 rcases qdh f with rfl | ⟨pre,k,s,n,ps,rfl⟩
 ·rfl
 ·rw [qbw,Fo.size_app,Fo.size_app];rfl
theorem snocM_size (out:Fo) (k t n ps):(snocM out k t n ps).size≤out.size + ps.size + 1:=by
 unfold snocM
 split
 ·omega
 ·split
  ·rw [addL_size];omega
  ·rw [Fo.size_app];simp [Fo.one,Fo.size];omega
theorem q3p:∀ (f out:Fo),(mgo f out).size≤f.size + out.size
 | .nil,out=>by simp [mgo]
 | .cons k t n ps r,out=>by
  have h1:=q3p ps .nil
  have h2:=q3p r (snocM out k t n (mgo ps .nil))
  have h3:=snocM_size out k t n (mgo ps .nil)
  simp only [mgo,Fo.size] at *
  omega
theorem qxk (f:Fo):(qam f).size≤f.size:=by
 have:=q3p f .nil
 simpa [qam,Fo.size] using this
theorem len4 {α:Type} {l:List α} (h:l.length=4):∃ a b c d,l=[a,b,c,d]:=by
 match l,h with
 | [a,b,c,d],_=>exact ⟨a,b,c,d,rfl⟩
theorem open_nodes {H:Type} {enc:TypeId × Value→H} {w:World} {base:Nat} {sp:Nat→Bool} {hd:Bool}:∀ (fuel:Nat) (cs:List Value) (x:DataW H × List MemPlace),DataW.trod enc prog w base sp hd fuel 43 cs=some x →
  ∃ (a:Option Addr) (n c:Nat) (f:Fo),cs=[.slice a n c]∧SlF (fun _=>True) w a n f:=by
 intro fuel
 induction fuel using Nat.strongRecOn with
 | _ fuel ih =>
 intro cs x h
 rcases DataW.trod_slice Tryz.underlying43 h with ⟨rfl,_⟩ | ⟨a,len,cap,elems,rest,n,rfl,rfl,_,hb,hl,hm,hel,hall,_⟩
 ·exact ⟨none,0,0,.nil,rfl,SlF.nil none⟩
 have h4:Tryz.prog.cellsOf 56=4:=by kernel_rfl
 have h3:Tryz.prog.cellsOf 3=1:=by kernel_rfl
 have h9:Tryz.prog.cellsOf 9=1:=by kernel_rfl
 have h22:Tryz.prog.cellsOf 43=1:=by kernel_rfl
 have node:∀ i,i < len→∃ (k:Int) (t:List UInt8) (m:Int) (a1:Option Addr) (c1:Nat) (ps:Fo),(∀ j v,([.int .i64 k,.string ⟨⟨t⟩⟩,.int .i64 m,.slice a1 ps.len c1]:List Value)[j]? = some v→w.cell? ((a.add (i * 4)).add j)=some v)∧SlF (fun _=>True) w a1 ps.len ps:=by
  intro i hi
  have hh:=hall i hi
  rw [List.getElem?_eq_getElem (by omega)] at hh
  obtain ⟨cs',hc1,hc2⟩:=Option.bind_eq_some_iff.1 hh
  rw [h4] at hc1
  obtain ⟨_,hlen,hcell⟩:=World.cells?_some hc1
  obtain ⟨xs,n',rfl,_,hcl,hxl,hf⟩:=DataW.trod_struct Tryz.underlying56 hc2
  obtain ⟨v0,v1,v2,v3,rfl⟩:=len4 hlen
  obtain ⟨y0,y1,y2,y3,rfl⟩:=len4 (show xs.length=4 from hxl)
  have g0:=hf 0 _ rfl
  have g1:=hf 1 _ rfl
  have g2:=hf 2 _ rfl
  have g3:=hf 3 _ rfl
  try dsimp only at g0
  try simp only [h3] at g0
  try dsimp only at g1
  try simp only [h9] at g1
  try dsimp only at g2
  try simp only [h3] at g2
  try dsimp only at g3
  try simp only [h22] at g3
  obtain ⟨k,e0,_,_⟩:=DataW.trod_int (k:=.i64) Tryz.underlying3 g0
  obtain ⟨t,e1,_,_⟩:=DataW.trod_string Tryz.underlying9 g1
  obtain ⟨m,e2,_,_⟩:=DataW.trod_int (k:=.i64) Tryz.underlying3 g2
  obtain ⟨a1,n1,c1,ps,e3,hs⟩:=ih n' (by omega) _ _ g3
  simp [h3,h9,h22] at e0 e1 e2 e3
  subst e0 e1 e2 e3
  have hn1:=hs.1
  subst hn1
  refine ⟨k,t.data.toList,m,a1,c1,ps,fun j v hj=>?_,hs⟩
  have hj4:j < 4:=by have:=(List.getElem?_eq_some_iff.1 hj).1;simpa using this
  rw [hcell j hj4]
  exact hj
 by_cases hl0:len=0
 ·subst hl0
  exact ⟨some a,0,cap,.nil,rfl,SlF.nil _⟩
 obtain ⟨b,o,rfl⟩:∃ b o,a=⟨b,o,none⟩:=by
  obtain ⟨kd,t,m,a1,c1,ps,hcells,_⟩:=node 0 (by omega)
  have h0:=hcells 0 _ rfl
  obtain ⟨b,o,spot⟩:=a
  have hspot:spot=none:=by simpa [Addr.add] using World.cell?_spot h0
  subst hspot
  exact ⟨b,o,rfl⟩
 have build:∀ k,k≤len→∃ (f:Fo) (us:List Value),f.len=k∧(∀ j v,us[j]? = some v→w.cell? ((⟨b,o,none⟩:Addr).add j)=some v)∧FoC (fun _=>True) w f us:=by
  intro k
  induction k with
  | zero=>exact fun _=>⟨.nil,[],rfl,fun j v hj=>by simp at hj,rfl⟩
  | succ k ihk =>
   intro hk
   obtain ⟨f,us,hfl,hus,hF⟩:=ihk (by omega)
   obtain ⟨kd,t,m,a1,c1,ps,hcells,hm,vs,hat,hfo⟩:=node k (by omega)
   have hul:=hF.len
   refine ⟨f.app (.one kd t m ps),us++[.int .i64 kd,.string ⟨⟨t⟩⟩,.int .i64 m,.slice a1 ps.len c1],by simp [Fo.one,hfl],fun j v hj=>?_,hF.app ⟨a1,c1,vs,[],rfl,hat,hfo,rfl⟩⟩
   by_cases hlt:j < us.length
   ·rw [List.getElem?_append_left hlt] at hj
    exact hus j v hj
   ·rw [List.getElem?_append_right (by omega)] at hj
    have:=hcells _ _ hj
    have hadd:((⟨b,o,none⟩:Addr).add (k * 4)).add (j - us.length)=(⟨b,o,none⟩:Addr).add j:=by
     rw [qg,qg,qg]
     have e:o + k * 4 + (j - us.length)=o + j:=by omega
     rw [e]
    rw [hadd] at this;exact this
 obtain ⟨f,us,hfl,hus,hF⟩:=build len (Nat.le_refl _)
 refine ⟨some ⟨b,o,none⟩,len,cap,f,rfl,hfl.symm,us,?_,hF⟩
 cases us with
 | nil=>exact .inl rfl
 | cons u us =>
  have h0:=hus 0 u rfl
  refine .inr ⟨b,o,rfl,trivial,?_,fun j v hj=>?_⟩
  ·have:=World.block_lt_of_cell? w _ h0
   simpa [Addr.add] using this
  ·have:=hus j v hj
   rw [qg] at this;exact this
end Go.Proofs
namespace Go.Proofs
open Go Go.Sh
def consM (k:Int) (t:List UInt8) (n:Int) (ps r:Fo):Fo :=
 if k=1 then (if t=[] then r else match r with
  | .nil=>.cons k t n ps .nil
  | .cons k' t' n' ps' r'=>if k'=1 then .cons k (t++t') n ps r' else .cons k t n ps (.cons k' t' n' ps' r'))
 else .cons k t n ps r
def q2a:Fo→Fo
 | .nil=>.nil
 | .cons k t n ps r=>consM k t n (q2a ps) (q2a r)
def glue (out:Fo):Fo→Fo
 | .nil=>out
 | .cons k t n ps r=>if k=1∧lastT out=true then (addL out t).app r else out.app (.cons k t n ps r)
theorem addL_addL (f:Fo) (s t:List UInt8):addL (addL f s) t=addL f (s++t):=by
 rcases qdh f with rfl | ⟨pre,k,u,n,ps,rfl⟩
 ·rfl
 ·rw [qbw,qbw,qbw,List.append_assoc]
theorem lastT_addL (f:Fo) (s:List UInt8):lastT (addL f s)=lastT f:=by
 rcases qdh f with rfl | ⟨pre,k,u,n,ps,rfl⟩
 ·rfl
 ·rw [qbw,qcy,qcy]
theorem glue_nil (g:Fo):glue .nil g=g:=by
 cases g <;> simp [glue,lastT]
theorem glue_snoc (out:Fo) (k:Int) (t:List UInt8) (n:Int) (p g:Fo):glue (snocM out k t n p) g=glue out (consM k t n p g):=by
 unfold snocM consM
 by_cases hk:k=1
 ·subst hk
  by_cases ht:t=[]
  ·simp [ht]
  ·simp only [ht,and_false,if_false,true_and,if_true]
   by_cases hl:lastT out=true
   ·rw [if_pos hl]
    cases g with
    | nil=>simp [glue,hl]
    | cons k' t' n' ps' r' =>
     by_cases hk':k'=1
     ·simp [glue,hk',lastT_addL,hl,addL_addL]
     ·simp [glue,hk',hl]
   ·rw [if_neg hl]
    cases g with
    | nil=>simp [glue,hl,Fo.one]
    | cons k' t' n' ps' r' =>
     by_cases hk':k'=1
     ·simp [glue,hk',qcy,qbw,hl,Fo.app_one_app]
     ·simp [glue,hk',hl,Fo.app_one_app]
 ·simp only [hk,false_and,if_false]
  cases g with
  | nil=>simp [glue,hk,Fo.one]
  | cons k' t' n' ps' r'=>simp [glue,hk,qcy,Fo.app_one_app]
theorem q3q:∀ (f out:Fo),mgo f out=glue out (q2a f)
 | .nil,out=>rfl
 | .cons k t n ps r,out=>by
  rw [mgo,q3q r,q3q ps,glue_nil,glue_snoc];rfl
theorem mergeF_eq (f:Fo):qam f=q2a f:=by rw [qam,q3q,glue_nil]
def okF (w:Bool):Fo→Prop
 | .nil=>True
 | .cons k t n ps r=>qy k t n ps false w=0∧okF true ps∧okF w r
def mgd (b:Bool):Fo→Prop
 | .nil=>True
 | .cons k _ _ ps r=>¬ (k=1∧b=true)∧mgd false ps∧mgd (decide (k=1)) r
theorem q5x (k t n ps b w):qy k t n ps b w=0↔qy k t n ps false w=0∧¬ (k=1∧b=true):=by
 unfold qy
 split
 ·simp
 split
 ·simp
 split
 ·rename_i hk
  split
  ·simp
  ·simp [hk]
 ·rename_i h;simp [h]
theorem qq0:∀ (f:Fo) (b w:Bool),allF f b w=0↔okF w f∧mgd b f
 | .nil,_,_=>by simp [allF,okF,mgd]
 | .cons k t n ps r,b,w=>by
  have h1:=qq0 ps false true
  have h2:=qq0 r (decide (k=1)) w
  have h3:=q5x k t n ps b w
  simp only [allF,okF,mgd]
  constructor
  ·intro h
   split at h
   ·rename_i g;exact absurd h g
   ·rename_i g
    split at h
    ·rename_i g2;exact absurd h g2
    ·rename_i g2
     have a1:=h3.1 (Decidable.not_not.1 g)
     have a2:=h1.1 (Decidable.not_not.1 g2)
     have a3:=h2.1 h
     exact ⟨⟨a1.1,a2.1,a3.1⟩,a1.2,a2.2,a3.2⟩
  ·rintro ⟨⟨x1,x2,x3⟩,y1,y2,y3⟩
   rw [if_neg (by simpa using h3.2 ⟨x1,y1⟩),if_neg (by simpa using h1.2 ⟨x2,y2⟩)]
   exact h2.2 ⟨x3,y3⟩
theorem q8q {w:Bool}:∀ {f g:Fo},okF w (f.app g)↔okF w f∧okF w g
 | .nil,g=>by simp [okF]
 | .cons k t n ps r,g=>by simp only [Fo.cons_app,okF,q8q (f:=r),and_assoc]
theorem q21 {k t n ps w} (h:qy k t n ps false w=0):qy k t n ps false false=0:=by
 cases w with
 | false=>exact h
 | true =>
  unfold qy at h ⊢
  split
  ·rename_i g;rw [if_pos g] at h;exact h
  ·rename_i g;rw [if_neg g] at h
   split
   ·rename_i g2;rw [if_pos g2] at h;exact h
   ·rename_i g2;rw [if_neg g2] at h
    split
    ·rename_i g3;rw [if_pos g3] at h;exact h
    ·rename_i g3;rw [if_neg g3] at h
     split
     ·rename_i g4;rw [if_pos g4] at h
      split
      ·rename_i g5;rw [if_pos g5] at h;exact h
      ·simp
     ·rename_i g4;rw [if_neg g4] at h;exact h
theorem qfh {w:Bool}:∀ {f:Fo},okF true f→okF w f
 | .nil,_=>trivial
 | .cons k t n ps r,⟨h1,h2,h3⟩=>by
  cases w with
  | true=>exact ⟨h1,h2,h3⟩
  | false=>exact ⟨q21 h1,h2,qfh h3⟩
theorem q50 {k t n ps ps' b w} (h:qy k t n ps b w=0) (hl:ps.len=0↔ps'.len=0):qy k t n ps' b w=0:=by
 have h2:(0 < ps.len↔0 < ps'.len):=by omega
 unfold qy at h ⊢
 simp only [← h2,← hl];exact h
theorem q8z {s t:List UInt8} {i:Nat} (h:i < s.length):kA (s++t) i=kA s i:=by simp [kA,List.getD,List.getElem?_append_left h]
theorem rtB_left {s t:List UInt8}:∀ {i:Nat},i < s.length→rtB (s++t) i=rtB s i
 | 0,_=>rfl
 | i + 1,h=>by simp only [rtB,q8z h,q8z (show i < s.length by omega),rtB_left (show i < s.length by omega)]
theorem qkj:∀ {w:Bool} {f:Fo},okF w f→okF w (qag f)
 | _,.nil,_=>trivial
 | w,.cons k t n ps r,⟨h1,h2,h3⟩=>by
  simp only [qag]
  rw [q8q]
  refine ⟨?_,qkj h3⟩
  split
  ·exact ⟨h1,h2,trivial⟩
  ·exact qfh (qkj h2)
theorem part_ok {w:Bool} {k t n ps ps'} (h:qy k t n ps false w=0) (h0:ps.len≠0) (h2:okF true ps'):okF w (partF k t n ps'):=by
 unfold partF
 split
 ·trivial
 ·exact ⟨q50 h (by omega),h2,trivial⟩
theorem qr9:∀ {w:Bool} {f:Fo} (hand:Int) (adv:Bool),okF w f→okF w (qm f hand adv)
 | _,.nil,_,_,_=>trivial
 | w,.cons k t n ps r,hand,adv,⟨h1,h2,h3⟩=>by
  have hp:=(q51 h1).2.2.2.2.2
  have pk:k=7∨k=8∨k=9∨k=10∨k=11→ps.len≠0:=fun h=>by have:=hp (by unfold qx;simp;omega);omega
  have i2:=qr9 hand adv h2
  simp only [qm]
  rw [q8q]
  refine ⟨?_,qr9 hand adv h3⟩
  split
  ·exact qfh (qkj h2)
  split
  ·exact qfh i2
  split
  ·exact part_ok h1 (pk (by omega)) i2
  split
  ·exact qfh (qkj h2)
  split
  ·exact qfh i2
  split
  ·exact part_ok h1 (pk (by omega)) i2
  ·exact ⟨h1,h2,trivial⟩
structure FineF (f:Fo):Prop where
 size:f.size≤24
 tl:tlen f≤192
 depth:f.depth≤6
 ok:okF false f
 m:mgd false f
end Go.Proofs
