/- The contracts of the functions that the law reaches, one after the other, and at the end the law's card. -/
import Derived.Test.YtkecgnlelgdndaaGreatDoorLawG
import Derived.Lib.Replace
import Derived.Lib.SliceRun
set_option linter.all false
set_option maxRecDepth 20000
namespace Go.Proofs
open Go Go.Sh Go.RowKit Go.Proofs.Tryz IntKind
abbrev eI (n:Int):Value:=.int .i64 n
theorem dw_nil (p:UInt8→Bool):∀ l:List UInt8,l.dropWhile p=[]↔l.all p=true
 | []=>by simp
 | x :: l=>by
  rw [List.dropWhile_cons,List.all_cons]
  cases h:p x
  ·simp
  ·simp only [if_true,Bool.true_and];exact dw_nil p l
theorem dw_all (p:UInt8→Bool):∀ l:List UInt8,(l.dropWhile p).all p=true→l.all p=true
 | []=>fun h=>h
 | x :: l=>fun h=>by
  rw [List.dropWhile_cons] at h
  cases hx:p x
  ·rw [hx] at h;exact h
  ·rw [hx,if_pos rfl] at h
   rw [List.all_cons,hx,dw_all p l h];rfl
theorem spc_trim (s:List UInt8):Lib.trimB s 32=[]↔spc s=true:=by
 have e:spc s=s.all (· == (32:UInt8)):=by
  unfold spc;congr 1
 rw [e]
 unfold Lib.trimB Lib.trimLeftB Lib.trimRightB
 rw [dw_nil,List.all_reverse]
 constructor
 ·intro h
  have:=dw_all _ _ h
  rwa [List.all_reverse] at this
 ·intro h
  have:(s.reverse.dropWhile (· == (32:UInt8)))=[]:=(dw_nil _ _).2 (by rw [List.all_reverse];exact h)
  rw [this];rfl
theorem Trim_spec {R:Ending→World→Prop} {w:World} (s:List UInt8) (hs:s.length≤4611686018427387904) (h:∀ w',Ext w w'→R (.returned (.string ⟨⟨Lib.trimB s 32⟩⟩)) w'):Calls prog q3a ⟨[.string ⟨⟨s⟩⟩,.string ⟨⟨[32]⟩⟩]⟩ w R:=by
 refine (Tryz.strings_Trim_one ⟨⟨s⟩⟩ 32 (by decide) w (by show s.length≤_;omega)).mono ?_
 rintro _ w' ⟨rfl,rfl | rfl⟩
 ·exact h _ (Below.refl _ _)
 ·exact h _ (qw _)
theorem qxq {f:Fo} (hc:qad f=0):okF false f:=by
 unfold qad at hc
 by_cases hs:f.size≤4096∧f.depth≤16
 ·rw [if_pos hs] at hc
  have ha:allF f false false=0:=by
   split at hc
   ·rename_i h;exact absurd hc h
   ·rename_i h;exact Decidable.not_not.1 h
  exact ((qih f false false).1 ha).1
 ·rw [if_neg hs] at hc;cases hc
theorem q5o {S T:Nat→Prop} {w W W':World} (h:Chg S w W) (hc:Chg T W W') (hT:∀ k,T k→w.heap.size≤k):Chg S w W' :=
 ⟨hc.os.trans h.os,hc.tape.trans h.tape,hc.output.trans h.output,Nat.le_trans h.size hc.size,fun k hk hn=>(hc.block k (Nat.lt_of_lt_of_le hk h.size) (fun hh=>by have:=hT k hh;omega)).trans (h.block k hk hn)⟩
theorem qzi:∀ {p:Fo} {g:Fo},hdr p=0→secs p=[]→hdr (p.app g)=hdr g
 | .nil,g,_,_=>rfl
 | .cons k t n ps r,g,h,hs=>by
  rw [secs] at hs
  have hk:k≠4:=fun hk=>by rw [if_pos hk] at hs;simp at hs
  rw [if_neg hk,List.nil_append] at hs
  rw [hdr,if_neg hk] at h
  rw [Fo.cons_app,hdr,if_neg hk]
  split at h
  ·rename_i h3;rw [if_pos h3];exact qzi h hs
  ·cases h
theorem qma {R:Ending→World→Prop} {w:World} {S:Nat→Prop} {a:Option Addr} {n c:Nat} (s:List UInt8) (f:Fo) (hs:small f) (hF:Forms w) (hf0:SlF S w a n f) (h:∀ w',Ext w w'→R (.returned (.int .i64 (witE (s,f)))) w') :
  Calls prog qlz ⟨[.agg ⟨[.string ⟨⟨s⟩⟩,.slice a n c]⟩]⟩ w R:=by
 apply qz0
 have hf:SlF (fun k=>S k∧k < w.heap.size) w a n f:=hf0.imp fun k hk hl=>⟨hk,hl⟩
 refine qh fun b3 w4 hb3 B3 e4 s4=>qh fun b5 w6 hb5 B5 e6 s6=>?_
 have E6:=qb e4 e6
 have B36:=B3.ext e6
 obtain ⟨x0,x1⟩:=blk2w B36
 have ret:∀ (e:Int) (w':World),Ext w6 w'→(e=witE (s,f))→stL w' ⟨b5,0,none⟩ 0 [.int .i64 e] fun w13=>∃ x14:Int,w13.cell? (⟨b5,0,none⟩:Addr)=some (.int .i64 x14)∧R (.returned (.int .i64 x14)) w13:=by
  intro e w' he hh
  refine qn (B5.ext he) rfl fun w13 g1 g2 g3=>⟨_,g1.cell 0,?_⟩
  rw [hh]
  exact h w13 (qi (qb E6 he) g2 fun k hk=>by have:=E6.size;omega)
 intro K7 hK
 refine ⟨s,x0,qcg s ⟨_,rfl,qm (fun g=>?_) (fun g=>⟨s,x0,qd (fun g2=>?_) (fun g2=>?_)⟩)⟩⟩
 ·exact ret 14 w6 (Below.refl _ _) (by unfold witE;rw [if_pos (.inl (by simpa using g))])
 ·exact ret 14 w6 (Below.refl _ _) (by unfold witE;rw [if_pos (.inr (by simp only;omega))])
 have hname:qp s=true:=by simpa using g
 have w1:witE (s,f)=if qad f≠0 then 1 else if (secs f).Nodup then hdr f else 7:=by
  unfold witE;rw [if_neg (by rw [hname];simp only;simp;omega)]
 refine hK w6 fun _=>⟨_,_,_,x1,qci f hs (hf.ext E6) (hF.ext E6) fun w11 e11=>⟨_,rfl,qd (fun g3=>?_) (fun g3=>?_)⟩⟩
 ·exact ret 1 w11 e11 (by rw [w1,if_pos g3])
 have hc0:qad f=0:=Decidable.not_not.1 g3
 rw [if_neg (by rw [hc0];simp)] at w1
 have hok:=qxq hc0
 obtain ⟨hsz,_,htl⟩:=qby hc0
 have z11:=e11.size
 refine qrd fun b15 w16 hb15 hm15 e16 s16=>?_
 refine qh fun b17 w18 hb17 B17 e18 s18=>?_
 refine qn B17 rfl fun w19 g1 g2 g3'=>?_
 have E16:=qb E6 (qb e11 e16)
 have e19:Ext w16 w19:=qi e18 g2 fun k hk=>by omega
 have B519:=(B5.ext (qb e11 e16)).ext e19
 have B319:=(B36.ext (qb e11 e16)).ext e19
 have E19:=qb E16 e19
 have M19:MapT prog 9 eS eI w19 b15 0 (fun _=>none):=(hm15 _ _ _ _).ext e19
 refine ⟨_,_,_,(blk2w B319).2,?_⟩
 refine qi0 fun bs w22 Bs e22 hbs s22=>⟨_,_,_,rfl,fun base=>?_⟩
 have E22:=qb E19 e22
 have z22:=e22.size
 have z19:=e19.size
 have hf22:=hf.ext E22
 have B522:=B519.ext e22
 have B322:=B319.ext e22
 have B1722:=g1.ext e22
 have M22:=M19.ext e22
 have hfl:=f.len_le_size
 have hsl:=qq0 f
 rw [qrs]
 refine qex qgd qga (gf:=qak) rfl (by kernel_rfl) (xs:=secsI f 0) (E:=fun x vs=>vs=[.string ⟨⟨x.1⟩⟩,.int .i64 (x.2:Int)]) (Rd:=fun k=>(S k∧k < w.heap.size)∨k=bs)
  (fun v1 he=>qhk f hs bs v1 (fun k hk=>by have:=he.size;have:=E22.size;omega) (Bs.ext he) ((hf22.ext he).imp fun k hk _=>.inl hk) (.inr rfl)) (fun y vs hE=>by rw [hE];rfl) (by decide) (fun k hk=>by have:=E22.size;omega) (fun k=>k=b15∨k=b5) (fun k hk=>by have:=E6.size;omega)
  (fun pre S1 W=>(∀ k,S1 k↔k=b15∨k=b5)∧Chg (fun k=>k=b15) w22 W∧(pre.map (·.1)).Nodup∧∃ f2:List UInt8→Option Int,MapT prog 9 eS eI W b15 pre.length f2∧∀ s,(f2 s).isSome=decide (s∈pre.map (·.1)))
  (fun S1 W=>(∀ k,S1 k↔k=b15∨k=b5)∧Chg (fun k=>k=b15∨k=b5) w22 W∧Blk W b5 [.int .i64 7] 28∧¬ (secs f).Nodup) (fun _ _=>False)
  ?_ ?_ (fun _ _ _ h=>h.elim) ⟨fun k=>Iff.rfl,Chg.refl _ _,by simp,fun _=>none,M22,fun s=>by simp⟩ ?_ ?_ ?_ (fun _ _ _ _ _ _ _ h=>h.elim)
 ·rintro pre S1 W W' ⟨i1,i2,i3,f2,i4,i5⟩ hc
  exact ⟨i1,q5o i2 hc fun k hk=>hk.1,i3,f2,i4.chg hc (fun hh=>hh.2 ((i1 _).2 (.inl rfl))),i5⟩
 ·rintro S1 W W' ⟨i1,i2,i3,i4⟩ hc
  exact ⟨i1,q5o i2 hc fun k hk=>hk.1,hc.blk i3 (fun hh=>hh.2 ((i1 _).2 (.inr rfl))),i4⟩
 ·rintro pre x vs S1 W l rfl hpre hl1 hl2 hl3 hS1 ⟨i1,i2,i3,f2,i4,i5⟩
  refine Eq.mpr (qrn base _ _ _ _ _ _ _ _ _ _ _ _ _) ?_
  refine ⟨Below.refl _ _,fun W2 hU=>?_⟩
  have zU:=hU.size
  have zW:=i2.size
  have n15:b15≠l:=fun hh=>hl3 ((i1 l).2 (.inl hh.symm))
  have n5:b5≠l:=fun hh=>hl3 ((i1 l).2 (.inr hh.symm))
  have hUc:Chg (fun k=>k=l) W W2:=⟨hU.os,hU.tape,hU.output,by omega,fun k _ hk=>hU.block k hk⟩
  have c2:Chg (fun k=>k=b15) w22 W2:=q5o i2 hUc fun k hk=>by omega
  have M2:=i4.chg hUc n15
  have B17W:=c2.blk B1722 (by omega)
  have B5W:=c2.blk B522 (by have:=E6.size;omega)
  have hxm:x.1∈secs f:=by
   rw [← qdk f 0]
   exact List.mem_map_of_mem (hpre.subset (by simp))
  have hxl:x.1.length≤4611686018427387904:=by
   have:=q3j hok x.1 hxm
   unfold qp at this
   simp only [Bool.and_eq_true,decide_eq_true_eq] at this
   omega
  have hpl:pre.length + 1≤4096:=by
   have h1:=hpre.length_le
   have h2:=congrArg List.length (qdk f 0)
   simp at h1 h2
   omega
  have hlk:=M2.look2 kd9 (t:=130) (e:=3) (by kernel_rfl) (z:=.int .i64 0) (qw9 (by kernel_rfl) W2) (keyS hxl)
  refine dr_ok ⟨_,B17W.cell 0,(f2 x.1).getD 0,(f2 x.1).isSome,?_,?_⟩
  ·cases hf2:f2 x.1 with
   | none=>rw [hf2] at hlk;exact hlk
   | some v=>rw [hf2] at hlk;exact hlk
  rw [i5]
  refine qd (fun gm=>?_) (fun gm=>?_)
  ·refine dr_ok (qn B5W rfl fun w27 q1 q2 q3=>?_)
   refine ⟨q2.mono fun k _ hk=>.inl ((i1 k).2 (.inr hk)),S1,fun k hk=>⟨.inl hk,?_⟩,i1,(c2.mono fun k _ hk=>.inl hk).trans (q2.mono fun k _ hk=>.inr hk),q1,?_⟩
   ·have:=(hS1 k hk).1;omega
   ·intro hn
    rw [← qdk f 0] at hn
    obtain ⟨t,ht⟩:=hpre
    rw [← ht,List.map_append,List.map_append] at hn
    have:=(List.nodup_append.1 (List.nodup_append.1 hn).1).2.2
    exact this x.1 gm x.1 (by simp) rfl
  ·refine dr_ok ⟨_,B17W.cell 0,?_⟩
   refine MapT.update (eV:=eI) M2 kd9 (t:=130) (e:=3) (by kernel_rfl) (by simp only [maxLen];omega) (keyS hxl) (fun y hy=>by simpa using hy) fun w31 g31 M31 hc31 hv31 ho31=>?_
   have hc31':Chg (fun j=>j=b15) W2 w31:=hc31
   refine ⟨hc31'.mono fun k _ hk=>.inl ((i1 k).2 (.inl hk)),S1,fun k hk=>⟨.inl hk,?_⟩,i1,c2.trans hc31',?_,g31,by simpa using M31,fun s=>?_⟩
   ·have:=(hS1 k hk).1;have:=hc31'.size;omega
   ·rw [List.map_append,List.nodup_append]
    refine ⟨i3,by simp,fun p hp q hq hpq=>gm ?_⟩
    rw [List.map_singleton,List.mem_singleton] at hq
    rw [← hq,← hpq];exact hp
   ·by_cases hsx:s=x.1
    ·rw [hsx,hv31];simp
    ·rw [ho31 s hsx,i5];simp [hsx]
 ·rintro D S1 W hD1 hD2 hD3 hD4 ⟨i1,i2,i3,f2,i4,i5⟩
  rw [qdk] at i3
  rw [if_pos i3] at w1
  have zW:=i2.size
  have B3W:=i2.blk B322 (by omega)
  have B5W:=i2.blk B522 (by omega)
  have nD:b5≠D:=fun hh=>hD3 ((i1 D).2 (.inr hh.symm))
  have EW:Ext w W:=qi E22 i2 fun k hk=>by have:=E6.size;omega
  have fin:∀ (W1:World) (e:Int),Ext W W1→e=witE (s,f)→W1.heap[D]? = some (.deferred (some []))→stL W1 ⟨b5,0,none⟩ 0 [.int .i64 e] fun w81=>retD [{ target:=.collected D,args:=#[] }] w81 fun w82=>∃ x83:Int,w82.cell? (⟨b5,0,none⟩:Addr)=some (.int .i64 x83)∧R (.returned (.int .i64 x83)) w82:=by
   intro W1 e he hh hD
   refine qn (B5W.ext he) rfl fun w81 q1 q2 q3=>?_
   have hD':w81.heap[D]? = some (.deferred (some [])):=(q2.block D (by have:=he.size;omega) (fun hh=>nD hh.symm)).trans hD
   refine qa4 hD' ⟨_,(qcf q1 nD _).cell 0,?_⟩
   rw [hh]
   exact h _ (qbk (qi (qb EW he) q2 fun k hk=>by omega) (by omega) _)
  refine ⟨_,_,_,(blk2w B3W).2,?_⟩
  refine ⟨fun i W1 m=>∃ (p r:Fo),f=p.app r∧i=p.len∧m=r.len∧hdr p=0∧secs p=[]∧Ext W W1,⟨_,.nil,f,rfl,rfl,rfl,rfl,rfl,Below.refl _ _⟩,?_⟩
  rintro _ W1 m ⟨p,r,hpr,rfl,rfl,hp0,hps,he⟩ _
  have hnl:=hf.1
  have hD1':W1.heap[D]? = some (.deferred (some [])):=(he.block D hD2).trans hD4
  refine qd (fun hlt=>?_) (fun hge=>?_)
  ·obtain ⟨k,t,mm,ps,r,rfl⟩:=Fo.next hpr (by omega)
   have hsl:=Fo.sub_len hpr
   have e1:f=(p.app (.one k t mm ps)).app r:=by rw [Fo.app_one_app];exact hpr
   have hl1:(p.app (.one k t mm ps)).len=p.len + 1:=by simp [Fo.one]
   have i1':i64.wrap ((p.len:Int) + 1)=((p.app (.one k t mm ps)).len:Int):=by rw [ql (by omega),hl1]
   obtain ⟨q,a',c',hq,hSq,hql,hN⟩:=((hf.ext EW).ext he).get hpr
   have hwit:witE (s,f)=hdr (.cons k t mm ps r):=by rw [w1,hpr,qzi hp0 hps]
   have htl':t.length≤268435456:=by
    have:tlen f=tlen p + (t.length + tlen ps + tlen r):=by rw [hpr,qet];rfl
    omega
   refine hq _ ⟨k,hN.kind,t,hN.text,mm,hN.num,a',ps.len,c',hN.parts,?_⟩
   refine qx rfl one4w fun bx w40 hbx Bx e40 s40=>?_
   obtain ⟨y0,y1,_⟩:=blk4 Bx
   have he40:=qb he e40
   have hD40:w40.heap[D]? = some (.deferred (some [])):=(e40.block D (by have:=he.size;omega)).trans hD1'
   refine ⟨k,y0,qd (fun g4=>fin w40 0 he40 (by rw [hwit,hdr,if_pos g4]) hD40) (fun g4=>?_)⟩
   rw [hdr,if_neg g4] at hwit
   have hgo:(k=3∨k=2∨(k=1∧spc t=true))→∀ W2,Ext w40 W2→∃ m',m' < (Fo.cons k t mm ps r).len∧∃ (p' r':Fo),f=p'.app r'∧i64.wrap ((p.len:Int) + 1)=p'.len∧m'=r'.len∧hdr p'=0∧secs p'=[]∧Ext W W2:=by
    intro hk W2 he2
    refine ⟨r.len,by simp,_,r,e1,i1',rfl,?_,?_,qb he40 he2⟩
    ·rw [qzi hp0 hps];unfold Fo.one;rw [hdr,if_neg g4,if_pos hk];rfl
    ·rw [qeu,hps];unfold Fo.one;rw [secs,if_neg g4];rfl
   have hbad:¬ (k=3∨k=2∨(k=1∧spc t=true))→witE (s,f)=10:=fun hk=>by rw [hwit,if_neg hk]
   intro K84 hK84
   have hend:¬ (k=3∨k=2)→K84 false w40:=by
    intro hk
    refine hK84 false w40 fun _=>?_
    rw [br_f]
    refine ⟨k,y0,qd (fun g1'=>⟨t,y1,Trim_spec t (by omega) fun w91 e91=>⟨_,rfl,qd (fun g5=>?_) (fun g5=>?_)⟩⟩) (fun g1'=>?_)⟩
    ·exact hgo (.inr (.inr ⟨g1',(spc_trim t).1 g5⟩)) w91 e91
    ·refine fin w91 10 (qb he40 e91) (hbad ?_).symm ((e91.block D (by have:=he40.size;omega)).trans hD40)
     rintro (h3 | h3 | h3)
     ·exact hk (.inl h3)
     ·exact hk (.inr h3)
     ·exact g5 ((spc_trim t).2 h3.2)
    ·refine fin w40 10 he40 (hbad ?_).symm hD40
     rintro (h3 | h3 | h3)
     ·exact hk (.inl h3)
     ·exact hk (.inr h3)
     ·exact g1' h3.1
   refine ⟨k,y0,qd (fun g3'=>?_) (fun g3'=>⟨k,y0,?_⟩)⟩
   ·refine hK84 true w40 fun _=>?_
    rw [br_t]
    exact hgo (.inl g3') w40 (Below.refl _ _)
   ·by_cases g2':k=2
    ·rw [decide_eq_true g2']
     refine hK84 true w40 fun _=>?_
     rw [br_t]
     exact hgo (.inr (.inl g2')) w40 (Below.refl _ _)
    ·rw [decide_eq_false g2']
     exact hend fun hh=>hh.elim g3' g2'
  ·obtain ⟨rfl,rfl⟩:=Fo.last hpr (by omega)
   exact fin W1 0 he (by rw [w1,hp0]) hD1'
 ·rintro D S1 W hD1 hD2 hD3 hD4 ⟨i1,i2,i3,i4⟩
  have nD:b5≠D:=fun hh=>hD3 ((i1 D).2 (.inr hh.symm))
  refine qa4 hD4 ⟨_,(qcf i3 nD _).cell 0,?_⟩
  rw [if_neg i4] at w1
  rw [← w1]
  exact h _ (qbk (qi E22 i2 fun k hk=>by have:=E6.size;omega) (by have:=E22.size;omega) _)
section
variable {R:Ending→World→Prop} {w:World}
theorem placeI_get {L:List (List UInt8)} {k:Nat} (hk:k < L.length):q7w L L[k]=(k:Int)↔L[k]∉L.take k:=by
 unfold q7w
 rw [if_pos (List.getElem_mem hk)]
 have h1:L=L.take k++L.drop k:=(List.take_append_drop k L).symm
 have h2:L.drop k=L[k] :: L.drop (k + 1):=List.drop_eq_getElem_cons hk
 constructor
 ·intro h hm
  have h4:L.idxOf L[k]=(L.take k).idxOf L[k]:=by
   conv=>lhs;arg 2;rw [h1]
   rw [List.idxOf_append,if_pos hm]
  have:=List.idxOf_lt_length_of_mem hm
  rw [List.length_take] at this
  omega
 ·intro h
  have h3:L.idxOf L[k]=k:=by
   conv=>lhs;arg 2;rw [h1]
   rw [List.idxOf_append,if_neg h,h2,List.idxOf_cons_self,List.length_take]
   omega
  rw [h3]
theorem q87 {S:Nat→Prop} {a:Option Addr} {n c:Nat} (s:List UInt8) (f:Fo) (hs:f.size≤1000000) (hf0:SlF S w a n f) (h:∀ w',Ext w w'→R (.returned (.int .i64 (witE (s,f)))) w') :
  Calls prog qs3 ⟨[.agg ⟨[.string ⟨⟨s⟩⟩,.slice a n c]⟩]⟩ w R:=by
 apply q5s
 have hf:SlF (fun k=>S k∧k < w.heap.size) w a n f:=hf0.imp fun k hk hl=>⟨hk,hl⟩
 refine qh fun b3 w4 hb3 B3 e4 s4=>?_
 obtain ⟨x0,x1⟩:=blk2w B3
 intro K5 hK
 have ret:∀ (e:Int) (w':World),Ext w4 w'→(e=witE (s,f))→R (.returned (.int .i64 e)) w':=by
  intro e w' he hh
  rw [hh]
  exact h w' (qb e4 he)
 refine ⟨s,x0,qvs s fun w54 e54=>⟨_,rfl,qm (fun g=>?_) (fun g=>⟨s,(blk2w (B3.ext e54)).1,qd (fun g2=>?_) (fun g2=>?_)⟩)⟩⟩
 ·exact ret 14 _ e54 (by unfold witE;rw [if_pos (.inl (by simpa using g))])
 ·exact ret 14 _ e54 (by unfold witE;rw [if_pos (.inr (by simp only;omega))])
 have hname:qp s=true:=by simpa using g
 have w1:witE (s,f)=if qad f≠0 then 1 else if (secs f).Nodup then hdr f else 7:=by
  unfold witE;rw [if_neg (by rw [hname];simp only;simp;omega)]
 have E54:=qb e4 e54
 refine hK w54 fun _=>⟨_,_,_,(blk2w (B3.ext e54)).2,q88 f (hf.ext E54) fun w9 e9=>⟨_,rfl,qd (fun g3=>?_) (fun g3=>?_)⟩⟩
 ·exact ret 1 _ (qb e54 e9) (by rw [w1,if_pos g3])
 have hc0:qad f=0:=Decidable.not_not.1 g3
 rw [if_neg (by rw [hc0];simp)] at w1
 obtain ⟨hsz,_,htl⟩:=qby hc0
 have e49:=qb e54 e9
 have E9:=qb E54 e9
 refine ⟨_,_,_,(blk2w (B3.ext e49)).2,q73 f hs (hf.ext E9) fun an nn nc w13 hO e13=>⟨_,_,_,rfl,?_⟩⟩
 have hL:=OwnL.out hO
 have hln:=hL.1
 have hfl:=f.len_le_size
 have hsl:=qq0 f
 have e413:=qb e49 e13
 refine ⟨fun i W m=>∃ k:Nat,i=k∧k≤nn∧m=nn - k∧((secs f).take k).Nodup∧Ext w13 W,⟨_,0,rfl,by omega,rfl,by simp,Below.refl _ _⟩,?_⟩
 rintro _ W m ⟨k,rfl,hk,rfl,hz,he⟩ _
 refine qd (fun hlt=>?_) (fun hge=>?_)
 ·have hkl:k < (secs f).length:=by omega
  obtain ⟨q,hq,c0⟩:=qdh (hL.ext he) hkl
  have htk:(secs f).take (k + 1)=(secs f).take k++[(secs f)[k]]:=List.take_succ_eq_append_getElem hkl
  have hpl:=placeI_get hkl
  refine hq _ ⟨_,c0,place_spec (secs f) _ (hL.ext he) (by omega) ⟨_,rfl,qd (fun g4=>?_) (fun g4=>?_)⟩⟩
  ·refine ret 7 W (qb e413 he) ?_
   rw [w1,if_neg]
   intro hn
   have h2:((secs f).take (k + 1)).Nodup:=hn.sublist (List.take_sublist _ _)
   rw [htk,List.nodup_append] at h2
   exact g4 (hpl.2 fun hm=>h2.2.2 _ hm _ (by simp) rfl)
  ·refine ⟨nn - (k + 1),by omega,k + 1,by rw [ql (by omega)],by omega,rfl,?_,he⟩
   rw [htk,List.nodup_append]
   refine ⟨hz,by simp,fun p hp q hq hpq=>hpl.1 (Decidable.not_not.1 g4) ?_⟩
   rw [List.mem_singleton] at hq
   rw [← hq,← hpq];exact hp
 ·rw [List.take_of_length_le (by omega)] at hz
  rw [if_pos hz] at w1
  refine ⟨fun i W1 m=>∃ (p r:Fo),f=p.app r∧i=p.len∧m=r.len∧hdr p=0∧secs p=[]∧Ext W W1,⟨_,.nil,f,rfl,rfl,rfl,rfl,rfl,Below.refl _ _⟩,?_⟩
  rintro _ W1 m ⟨p,r,hpr,rfl,rfl,hp0,hps,he1⟩ _
  have hnl:=hf.1
  have E1:=qb (qb e413 he) he1
  have X1:=(blk2w (B3.ext E1)).2
  refine ⟨_,_,_,X1,qd (fun hlt=>⟨_,_,_,X1,?_⟩) (fun hge=>?_)⟩
  ·obtain ⟨k,t,mm,ps,r,rfl⟩:=Fo.next hpr (by omega)
   have hsl:=Fo.sub_len hpr
   have e1:f=(p.app (.one k t mm ps)).app r:=by rw [Fo.app_one_app];exact hpr
   have hl1:(p.app (.one k t mm ps)).len=p.len + 1:=by simp [Fo.one]
   have i1':i64.wrap ((p.len:Int) + 1)=((p.app (.one k t mm ps)).len:Int):=by rw [ql (by omega),hl1]
   obtain ⟨q,a',c',hq,hSq,hql,hN⟩:=(hf.ext (qb e4 E1)).get hpr
   have hwit:witE (s,f)=hdr (.cons k t mm ps r):=by rw [w1,hpr,qzi hp0 hps]
   have htl':t.length≤268435456:=by
    have:tlen f=tlen p + (t.length + tlen ps + tlen r):=by rw [hpr,qet];rfl
    omega
   refine hq _ ⟨k,hN.kind,t,hN.text,mm,hN.num,a',ps.len,c',hN.parts,?_⟩
   refine qx rfl one4w fun bx w40 hbx Bx e40 s40=>?_
   obtain ⟨y0,y1,_⟩:=blk4 Bx
   have E40:=qb E1 e40
   refine ⟨k,y0,qd (fun g4=>ret 0 w40 E40 (by rw [hwit,hdr,if_pos g4])) (fun g4=>?_)⟩
   rw [hdr,if_neg g4] at hwit
   have hgo:(k=3∨k=2∨(k=1∧spc t=true))→∃ m',m' < (Fo.cons k t mm ps r).len∧∃ (p' r':Fo),f=p'.app r'∧i64.wrap ((p.len:Int) + 1)=p'.len∧m'=r'.len∧hdr p'=0∧secs p'=[]∧Ext W w40:=by
    intro hk
    refine ⟨r.len,by simp,_,r,e1,i1',rfl,?_,?_,qb he1 e40⟩
    ·rw [qzi hp0 hps];unfold Fo.one;rw [hdr,if_neg g4,if_pos hk];rfl
    ·rw [qeu,hps];unfold Fo.one;rw [secs,if_neg g4];rfl
   have hbad:¬ (k=3∨k=2∨(k=1∧spc t=true))→R (.returned (.int .i64 10)) w40:=fun hk=>ret 10 w40 E40 (by rw [hwit,if_neg hk])
   refine ⟨k,y0,qd (fun g3'=>⟨k,y0,qd (fun g2'=>⟨k,y0,qd (fun g1'=>?_) (fun g1'=>⟨t,y1,q9l t (by omega) ⟨_,rfl,qm (fun g5=>?_) (fun g5=>?_)⟩⟩)⟩) (fun g2'=>hgo (.inr (.inl (Decidable.not_not.1 g2'))))⟩) (fun g3'=>hgo (.inl (Decidable.not_not.1 g3')))⟩
   ·refine hbad ?_
    rintro (h3 | h3 | h3)
    ·exact g3' h3
    ·exact g2' h3
    ·exact g1' h3.1
   ·refine hbad ?_
    rintro (h3 | h3 | h3)
    ·exact g3' h3
    ·exact g2' h3
    ·rw [h3.2] at g5;cases g5
   ·exact hgo (.inr (.inr ⟨Decidable.not_not.1 g1',by simpa using g5⟩))
  ·obtain ⟨rfl,rfl⟩:=Fo.last hpr (by omega)
   exact ret 0 W1 E1 (by rw [w1,hp0])
def chkW (L:List Wt):Int:=if 32 < L.length then 4 else if (L.any fun x=>decide (witE x≠0))=true then 1 else 0
theorem q8i {S:Nat→Prop} {a:Option Addr} {n c:Nat} (x:Wt) (hs:small x.2) (hF:Forms w) (hf:SlF S w a n x.2) (h:∀ w',Ext w w'→R (.returned (.bool (decide (witE x≠0)))) w') :
  Calls prog qeq ⟨[.agg ⟨[.string ⟨⟨x.1⟩⟩,.slice a n c]⟩]⟩ w R:=by
 apply que
 refine qh fun b3 w4 hb3 B3 e4 s4=>?_
 obtain ⟨x0,x1⟩:=blk2w B3
 exact ⟨_,x0,_,_,_,x1,qma x.1 x.2 hs (hF.ext e4) (hf.ext e4) fun w8 e8=>⟨_,rfl,h w8 (qb e4 e8)⟩⟩
theorem qn3 {S:Nat→Prop} {a:Option Addr} {n c:Nat} (l:List Wt) (q:Wt→Bool) (fn:FuncId) (hok:okFn prog fn=true) (hF:Forms w)
  (hp:∀ {R:Ending→World→Prop} {v:World} {S:Nat→Prop} {a:Option Addr} {n c:Nat} (x:Wt),x∈l→Forms v→SlF S v a n x.2→(∀ v',Ext v v'→R (.returned (.bool (q x))) v')→Calls prog fn ⟨[.agg ⟨[.string ⟨⟨x.1⟩⟩,.slice a n c]⟩]⟩ v R)
  (hR:SlW S w a n l) (hn:n≤4611686018427387904) (h:∀ w',Ext w w'→R (.returned (.bool (l.any q))) w'):Calls prog F_slices_ContainsFunc_of_api_Witness_api_Witness ⟨[.slice a n c,.func (.func fn) #[] #[]]⟩ w R:=by
 apply c_slices_ContainsFunc_of_api_Witness_api_Witness
 apply c_slices_IndexFunc_of_api_Witness_api_Witness
 have hln:=hR.1
 refine ⟨fun i W m=>∃ k:Nat,i=k∧k≤n∧m=n - k∧Ext w W∧(l.take k).any q=false,⟨_,0,rfl,by omega,rfl,Below.refl _ _,rfl⟩,?_⟩
 rintro _ W m ⟨k,rfl,hk,rfl,he,hz⟩ _
 refine qd (fun hlt=>?_) (fun hge=>?_)
 ·have hkl:k < l.length:=by omega
  obtain ⟨p,a',c',hq,c0,c1,hf⟩:=(hR.ext he).get (show l[k]? = some l[k] by simp [hkl])
  refine hq _ ⟨_,c0,_,_,_,c1,hok,?_⟩
  refine hp l[k] (List.getElem_mem hkl) (hF.ext he) hf fun w16 e16=>⟨_,rfl,qm (fun g=>?_) (fun g=>?_)⟩
  ·refine ⟨_,rfl,?_⟩
   have:l.any q=true:=List.any_eq_true.2 ⟨l[k],List.getElem_mem hkl,g⟩
   rw [decide_eq_true (show (0:Int)≤(k:Int) by omega),← this]
   exact h w16 (qb he e16)
  ·refine ⟨n - (k + 1),by omega,k + 1,by rw [ql (by omega)],by omega,rfl,qb he e16,?_⟩
   rw [List.take_succ_eq_append_getElem hkl,List.any_append,hz];simp [g]
 ·rw [List.take_of_length_le (by omega)] at hz
  rw [hz] at h
  exact ⟨_,rfl,h W he⟩
theorem qzw {S:Nat→Prop} {a:Option Addr} {n c:Nat} (l:List Wt) (hs:∀ x∈l,small x.2) (hF:Forms w) (hR:SlW S w a n l) (h:∀ w',Ext w w'→R (.returned (.int .i64 (chkW l))) w') :
  Calls prog qlx ⟨[.slice a n c]⟩ w R:=by
 apply qzy
 have hln:=hR.1
 unfold chkW at h
 refine qd (fun g=>?_) (fun g=>?_)
 ·rw [if_pos (by omega)] at h;exact h w (Below.refl _ _)
 ·rw [if_neg (by omega)] at h
  refine qn3 l (fun x=>decide (witE x≠0)) qeq (by kernel_rfl) hF (fun x hx hF' hf' h'=>q8i x (hs x hx) hF' hf' h') hR (by omega) fun w' he=>⟨_,rfl,qm (fun g2=>?_) (fun g2=>?_)⟩
  ·rw [if_pos g2] at h;exact h w' he
  ·rw [if_neg (by rw [g2];simp)] at h;exact h w' he
def q5c (l:List Wt):Bool:=if 35 < l.length then true else l.any fun x=>qf5 x||(decide (4 < l.length)&&(decide (l.length≤32)||decide (0 < x.2.len)))
theorem q5d {S:Nat→Prop} {a:Option Addr} {n c:Nat} (l:List Wt) (hR:SlW S w a n l) (h:∀ w',Ext w w'→R (.returned (.bool (q5c l))) w') :
  Calls prog qs2 ⟨[.slice a n c]⟩ w R:=by
 apply q5r
 have hln:=hR.1
 unfold q5c at h
 refine qd (fun g=>?_) (fun g=>?_)
 ·rw [if_pos (by omega)] at h;exact h w (Below.refl _ _)
 rw [if_neg (by omega)] at h
 refine ⟨fun i W m=>∃ k:Nat,i=k∧k≤n∧m=n - k∧Ext w W∧((l.take k).any fun x=>qf5 x||(decide (4 < l.length)&&(decide (l.length≤32)||decide (0 < x.2.len))))=false,⟨_,0,rfl,by omega,rfl,Below.refl _ _,rfl⟩,?_⟩
 rintro _ W m ⟨k,rfl,hk,rfl,he,hz⟩ _
 refine qd (fun hlt=>?_) (fun hge=>?_)
 ·have hkl:k < l.length:=by omega
  obtain ⟨p,a',c',hq,c0,c1,hf⟩:=(hR.ext he).get (show l[k]? = some l[k] by simp [hkl])
  have yes:(qf5 l[k]||(decide (4 < l.length)&&(decide (l.length≤32)||decide (0 < l[k].2.len))))=true→∀ v,Ext w v→R (.returned (.bool true)) v:=fun hh v hv=>by
   have:(l.any fun x=>qf5 x||(decide (4 < l.length)&&(decide (l.length≤32)||decide (0 < x.2.len))))=true:=List.any_eq_true.2 ⟨l[k],List.getElem_mem hkl,hh⟩
   rw [this] at h;exact h v hv
  refine hq _ ⟨_,_,_,c1,Great_spec hf fun w10 e10=>⟨_,rfl,qm (fun g1=>yes (by unfold qf5;rw [g1];rfl) _ (qb he e10)) (fun g1=>?_)⟩⟩
  have he10:=qb he e10
  obtain ⟨p,a',c',hq,c0,c1,hf⟩:=(hR.ext he10).get (show l[k]? = some l[k] by simp [hkl])
  have go:(qf5 l[k]||(decide (4 < l.length)&&(decide (l.length≤32)||decide (0 < l[k].2.len))))=false→∃ m',m' < n - k∧∃ k':Nat,i64.wrap ((k:Int) + 1)=k'∧k'≤n∧m'=n - k'∧Ext w w10∧((l.take k').any fun x=>qf5 x||(decide (4 < l.length)&&(decide (l.length≤32)||decide (0 < x.2.len))))=false:=by
   intro hh
   refine ⟨n - (k + 1),by omega,k + 1,by rw [ql (by omega)],by omega,rfl,he10,?_⟩
   rw [List.take_succ_eq_append_getElem hkl,List.any_append,hz]
   simpa using hh
  refine hq _ ⟨_,c0,qd (fun g2=>yes ?_ _ he10) (fun g2=>qd (fun g4=>qd (fun g5=>yes ?_ _ he10) (fun g5=>hq _ ⟨_,_,_,c1,qd (fun g6=>yes ?_ _ he10) (fun g6=>go ?_)⟩)) (fun g4=>go ?_))⟩
  ·unfold qf5;rw [decide_eq_true (by omega)];simp
  ·rw [decide_eq_true (show 4 < l.length by omega),decide_eq_true (show l.length≤32 by omega)];simp
  ·rw [decide_eq_true (show 4 < l.length by omega),decide_eq_true (show 0 < l[k].2.len by omega)];simp
  ·unfold qf5;rw [g1,decide_eq_false (by omega),decide_eq_false (show ¬ l.length≤32 by omega),decide_eq_false (show ¬ 0 < l[k].2.len by omega)];simp
  ·unfold qf5;rw [g1,decide_eq_false (by omega),decide_eq_false (show ¬ 4 < l.length by omega)];simp
 ·rw [List.take_of_length_le (by omega)] at hz
  rw [hz] at h
  exact h W he
def secR (x:Wt):List (List UInt8):=if witE x=0 then secs x.2 else []
def secE (x:Wt):Int:=if witE x=0 then 0 else 1
theorem qqc {x:Wt} (h:witE x=0):x.2.size≤4096:=by
 unfold witE at h
 split at h
 ·cases h
 split at h
 ·cases h
 ·rename_i h2;exact (qby (Decidable.not_not.1 h2)).1
theorem qsw {S:Nat→Prop} {a:Option Addr} {n c:Nat} (x:Wt) (hs:small x.2) (hF:Forms w) (hf:SlF S w a n x.2) (h:∀ a' n' c' w',OwnL Sh.encStr w' w.heap.size 9 a' n' c' (secR x)→Ext w w'→R (.returned (.tuple ⟨[.slice a' n' c',.int .i64 (secE x)]⟩)) w') :
  Calls prog qg4 ⟨[.agg ⟨[.string ⟨⟨x.1⟩⟩,.slice a n c]⟩]⟩ w R:=by
 apply qrv
 refine qh fun b3 w4 hb3 B3 e4 s4=>?_
 obtain ⟨x0,x1⟩:=blk2w B3
 refine ⟨_,x0,_,_,_,x1,qma x.1 x.2 hs (hF.ext e4) (hf.ext e4) fun w8 e8=>⟨_,rfl,qd (fun g=>?_) (fun g=>?_)⟩⟩
 ·have h1:secR x=[]:=if_neg g
  have h2:secE x=1:=if_neg g
  rw [h1,h2] at h
  exact h none 0 0 w8 (Owns.nil _ _ _ _) (qb e4 e8)
 ·have g0:witE x=0:=Decidable.not_not.1 g
  have h1:secR x=secs x.2:=if_pos g0
  have h2:secE x=0:=if_pos g0
  rw [h1,h2] at h
  have E8:=qb e4 e8
  have:=qqc g0
  refine ⟨_,_,_,(blk2w (B3.ext e8)).2,qt3 x.2 (by omega) (hf.ext E8) fun a' n' c' w' hO he=>⟨_,_,_,rfl,h a' n' c' w' (Owns.weak hO E8.size) (qb E8 he)⟩⟩
end
theorem owns_cap {w:World} {B:Nat} {e:TypeId} {size:Nat} {a:Option Addr} {n c:Nat} {xs:List Value} (h:Owns w B e size a n c xs):n≤c:=by
 obtain ⟨_,h | ⟨g,cap,cur,h,_,_,h2,_⟩⟩:=h
 ·omega
 ·simp only [Value.slice.injEq] at h;omega
theorem ownF_cap {e:TypeId} {S:Nat→Prop} {B:Nat} {w:World} {a:Option Addr} {n c:Nat} {f:Fo} (h:OwnF e S B w a n c f):n≤c:=by
 obtain ⟨_,xs,h,_⟩:=h
 exact owns_cap h
theorem MergeC_spec:∀ (f:Fo) {R:Ending→World→Prop} {S:Nat→Prop} {w:World} {a:Option Addr} {n c:Nat},f.size≤1000000000→tlen f≤4611686018427387904→SlF S w a n f →
  (∀ a' n' c' w',n'≤c'→SlF (fun k=>S k∨w.heap.size≤k) w' a' n' (qct f)→Ext w w'→R (.returned (.slice a' n' c')) w')→Calls prog qdu ⟨[.slice a n c]⟩ w R:=by
 intro f
 intro R S w a n c hs ht hf0 h
 apply qgv
 have hn:=hf0.1
 have hfl:=f.len_le_size
 have hf:SlF (fun k=>S k∧k < w.heap.size) w a n f:=hf0.imp fun k hk hl=>⟨hk,hl⟩
 refine ⟨fun oa on oc i W m=>∃ (p r out:Fo),f=p.app r∧i=p.len∧m=r.len∧OwnF 56 (fun k=>S k∧k < w.heap.size) w.heap.size W oa on oc out∧out.len≤p.len∧(∀ pre k t m ps,out=Fo.app pre (.one k t m ps)→t.length≤tlen p)∧Ext w W∧qct f=mgo r out,
  ⟨_,.nil,f,.nil,rfl,rfl,rfl,OwnF.nil w,by simp,?_,Below.refl _ _,rfl⟩,?_⟩
 ·intro pre k t m ps he
  have:=congrArg Fo.len he;simp [Fo.one] at this
 rintro oa on oc _ W m ⟨p,r,out,hpr,rfl,rfl,hout,holen,hlast,he,heq⟩ _
 have hon:=hout.len
 have hwW:=he.size
 refine qd (fun hlt=>?_) (fun hge=>?_)
 ·obtain ⟨k,t,mm,ps,r,rfl⟩:=Fo.next hpr (by omega)
  have hsl:=Fo.sub_len hpr
  have hsz:=Fo.sub_size hpr
  have htl:tlen f=tlen p + (t.length + tlen ps + tlen r):=by rw [hpr,qet];rfl
  have e1:f=(p.app (.one k t mm ps)).app r:=by rw [Fo.app_one_app];exact hpr
  have i1:i64.wrap ((p.len:Int) + 1)=((p.app (.one k t mm ps)).len:Int):=by rw [ql (by omega)];simp [Fo.one]
  have t1:tlen (p.app (.one k t mm ps))=tlen p + (t.length + tlen ps):=by rw [qet];simp [Fo.one,tlen]
  rw [mgo] at heq
  -- what every way ends in
  have done:∀ (oa':Option Addr) (on' oc':Nat) (W':World),OwnF 56 (fun k=>S k∧k < w.heap.size) w.heap.size W' oa' on' oc' (snocM out k t mm (mgo ps .nil))→Ext w W' →
    ∃ m42,m42 < (Fo.cons k t mm ps r).len∧∃ (p' r' out':Fo),f=p'.app r'∧i64.wrap ((p.len:Int) + 1)=p'.len∧m42=r'.len∧OwnF 56 (fun k=>S k∧k < w.heap.size) w.heap.size W' oa' on' oc' out'∧out'.len≤p'.len∧(∀ pre k t m ps,out'=Fo.app pre (.one k t m ps)→t.length≤tlen p')∧Ext w W'∧qct f=mgo r' out':=by
   intro oa' on' oc' W' ho' he'
   refine ⟨r.len,by simp,_,r,_,e1,i1,rfl,ho',?_,?_,he',heq⟩
   ·have:=snoc_len out k t mm (mgo ps .nil)
    simp [Fo.one];omega
   ·intro pre k1 t1' m1 ps1 hsn
    have:=q68 hlast pre k1 t1' m1 ps1 hsn
    omega
  obtain ⟨q,a',c',hq,hSq,hql,hN⟩:=(hf.ext he).get hpr
  refine hq _ ⟨k,hN.kind,t,hN.text,mm,hN.num,a',ps.len,c',hN.parts,?_⟩
  refine qx (by simp) (by intro u hu;simp only [List.mem_cons,List.not_mem_nil,or_false] at hu;rcases hu with rfl | rfl | rfl | rfl <;> rfl) fun bx w1 hbx hBx e2 s2=>?_
  obtain ⟨x0,x1,x2,x3⟩:=blk4 hBx
  have E1:=qb he e2
  have ho1:=hout.ext e2
  have hzz:=e2.size
  intro K16 hK16
  have k16:¬ (k=1∧t=[])→K16 w1:=by
   intro hne
   refine hK16 _ fun _=>?_
   intro K18 hK18
   have k18:∀ g,g=decide (k=1∧lastT out=true)→K18 g w1:=by
    rintro _ rfl
    refine hK18 _ _ fun _=>qd (fun g=>?_) (fun g=>?_)
    ·have hsn:snocM out k t mm (mgo ps .nil)=addL out t:=by unfold snocM;rw [if_neg hne,if_pos g]
     rcases qho out with rfl | ⟨pre,k2,t2,n2,ps2,rfl⟩
     ·simp [lastT] at g
     rw [qcv] at hsn
     have hdr:=qw w1
     obtain ⟨q2,hq2,l0,l1,lst⟩:=(ho1.ext hdr).last
     have onl:on=pre.len + 1:=by rw [hon];simp [Fo.one]
     have e:i64.wrap ((on:Int) - 1)=(pre.len:Int):=by rw [qqb (by omega) (by omega),onl];simp
     have hl2:=hlast pre k2 t2 n2 ps2 rfl
     unfold drw
     rw [e]
     refine hq2 _ ⟨t2,l1,t,(blk4 (hBx.ext hdr)).2.1,by omega,hq2 _ ⟨lst _ _ fun w3 ho3 hc3=>?_,trivial⟩⟩
     refine done _ _ _ w3 (by rw [hsn];exact ho3) ?_
     exact qi (qb E1 hdr) hc3 fun j hj=>((ho1.ext hdr).bk hj).1
    ·have hsn:snocM out k t mm (mgo ps .nil)=out.app (.one k t mm (qct ps)):=by unfold snocM;rw [if_neg hne,if_neg g];rfl
     refine ⟨a',ps.len,c',x3,?_⟩
     refine q31 ps (S:=fun k=>S k∧k < w.heap.size) (by omega) (by omega) (hN.sl.ext e2) fun a3 n3 c3 w3 hsl3 e3=>⟨_,_,_,rfl,?_⟩
     have hBx3:=hBx.ext e3
     have hn3:=hsl3.1
     rw [qg]
     refine qaf hBx3 (by simp) (by intro u hu;simp only [List.mem_singleton] at hu;subst hu;rfl) fun w4 b1 b2 b3 b4 b5 b6=>?_
     simp only [putAt,List.set] at b1
     have hc4:Chg (· = bx) w3 w4:=⟨b4,b5,b6,by omega,fun k _ hk=>b2 k hk⟩
     have E4:Ext w w4:=qi (qb E1 e3) hc4 fun j hj=>by omega
     have z3:=e3.size
     have EW4:Ext W w4:=qi (qb e2 e3) hc4 fun j hj=>by omega
     have ho4:=hout.ext EW4
     have z4:=EW4.size
     have hp4:SlF (fun j=>(S j∧j < w.heap.size)∨w1.heap.size≤j) w4 a3 n3 (qct ps):=hsl3.chg hc4 fun j hj he=>by
      subst he;rcases hj with hj | hj <;> omega
     subst hn3
     obtain ⟨y0,y1,y2,y3⟩:=blk4 b1
     refine ⟨k,y0,t,y1,mm,y2,a3,_,c3,y3,?_⟩
     refine OwnF.push qcz ho4 (by omega) (qq8 hp4 (fun j hj=>hj.2) hout (by omega) (by omega)) (by omega) (by omega) fun a5 n5 c5 w5 ho5 hc5=>?_
     refine done a5 n5 c5 w5 (by rw [hsn];exact ho5) ?_
     exact qi E4 hc5 fun j hj=>(hout.bk hj).1
   have lt:∀ (pre:Fo) (k2:Int) (t2:List UInt8) (m2:Int) (ps2:Fo),out=pre.app (.one k2 t2 m2 ps2)→lastT out=decide (k2=1)∧on=pre.len + 1:=fun pre k2 t2 m2 ps2 hv=>by
    subst hv;exact ⟨qfz ..,by rw [hon];simp [Fo.one]⟩
   rcases qho out with hv | ⟨pre,k2,t2,m2,ps2,hv⟩
   ·subst hv
    have:on=0:=hon
    subst this
    refine qd (fun g=>?_) (fun g=>k18 _ (by simp [lastT]))
    rw [qr (by omega)] at g;simp at g
   ·obtain ⟨hl1,hl2⟩:=lt _ _ _ _ _ hv
    have e:i64.wrap ((on:Int) - 1)=(pre.len:Int):=by rw [qqb (by omega) (by omega),hl2];simp
    rw [e]
    refine qd (fun g=>⟨k,x0,qd (fun g2=>?_) (fun g2=>k18 _ (by simp [g2]))⟩) (fun g=>absurd (by omega) g)
    subst hv
    obtain ⟨q2,hq2,l0,l1,lst⟩:=ho1.last
    exact hq2 _ ⟨k2,l0,k18 _ (by rw [hl1];simp [g2])⟩
  refine ⟨k,x0,qd (fun g=>⟨t,x1,qd (fun g2=>?_) (fun g2=>k16 fun hh=>g2 hh.2)⟩) (fun g=>k16 fun hh=>g hh.1)⟩
  exact done oa on oc w1 (by unfold snocM;rw [if_pos ⟨g,g2⟩];exact ho1) E1
 ·obtain ⟨rfl,rfl⟩:=Fo.last hpr (by omega)
  rw [heq] at h
  refine h oa on oc W (ownF_cap hout) (hout.out.imp fun k hk _=>hk.imp (fun h=>h.1) id) he
theorem q4y {rep:Int→List UInt8→Int→Fo→Fo→Fo} (hrs:∀ k t n ps ps',ps'.size≤ps.size→(rep k t n ps ps').size≤ps.size + 1) {rf:Fn} {ra rb:Array Value} {w:World} (hrep:RepOK rep (.func rf ra rb) w)
  (f:Fo) {R:Ending→World→Prop} {S:Nat→Prop} {a:Option Addr} {n c:Nat} (hs:f.size≤1000000000) (hg:good f) (ht:tlen (eachR rep f)≤4611686018427387904) (hf:SlF S w a n f)
  (h:∀ a' n' c' w',n'≤c'→SlF (fun k=>S k∨w.heap.size≤k) w' a' n' (qct (eachR rep f))→Ext w w'→R (.returned (.slice a' n' c')) w') :
  Calls prog qgk ⟨[.slice a n c,.func rf ra rb]⟩ w R:=by
 apply qli
 refine qh fun t1 w1 ht1 hB1 e1 s1=>?_
 refine qh fun t2 w2 ht2 hB2' e2' s2=>?_
 refine qn hB2' rfl fun w3 hB2 hc3 hs3=>?_
 have e2:Ext w1 w3:=qi e2' hc3 fun k hk=>by omega
 have E:=qb e1 e2
 have z:=E.size
 have hrs':=qf0 hrs f
 refine ⟨.func 177,⟨[]⟩,⟨[.pointer (some ⟨t1,0,none⟩),.pointer (some ⟨t2,0,none⟩)]⟩,by rw [hB2.cell];rfl,by kernel_rfl,?_⟩
 have hrep3:RepOK rep (.func rf ra rb) w3:=fun W S R' k t n a c ps pf pa pb hE=>hrep W S R' k t n a c ps pf pa pb (qb E hE)
 refine q8g hrs hrep3 (hB1.ext e2) hB2 f hs hg (Below.refl _ _) (hf.ext E) fun a4 n4 c4 w4 h4 e4=>⟨_,_,_,rfl,?_⟩
 refine MergeC_spec _ (by omega) ht h4 fun a5 n5 c5 w5 hc5 h5 e5=>⟨_,_,_,rfl,h a5 n5 c5 w5 hc5 (h5.imp fun j hj _=>?_) (qb (qb E e4) e5)⟩
 have:=e4.size
 rcases hj with (h | h) | h
 ·exact .inl h
 ·right;omega
 ·right;omega
theorem q11 (f:Fo) {R:Ending→World→Prop} {S:Nat→Prop} {w:World} {a:Option Addr} {n c:Nat} (hand:Int) (hs:f.size≤1000000000) (hg:good f) (ht:tlen (eachR (repR hand) f)≤4611686018427387904) (hf:SlF S w a n f)
  (h:∀ a' n' c' w',n'≤c'→SlF (fun k=>S k∨w.heap.size≤k) w' a' n' (qct (eachR (repR hand) f))→Ext w w'→R (.returned (.slice a' n' c')) w') :
  Calls prog qff ⟨[.slice a n c,.int .i64 hand]⟩ w R:=by
 apply qjn
 refine qh fun bh w1 hbh hB e1 s1=>?_
 have z:=e1.size
 refine q4y (q7n hand) (repR_ok hB) f hs hg ht (hf.ext e1) fun a5 n5 c5 w5 hc5 h5 e5=>⟨_,_,_,rfl,h a5 n5 c5 w5 hc5 (h5.imp fun j hj _=>hj.imp id fun h=>by omega) (qb e1 e5)⟩
section
variable {R:Ending→World→Prop} {S:Nat→Prop} {w:World} {a:Option Addr} {n c:Nat}
theorem q0r (f:Fo) (hand:Int) (hs:small f) (hF:Forms w) (hf:SlF S w a n f) (h:∀ a' n' c' w',n'≤c'→SlF (fun k=>S k∨w.heap.size≤k) w' a' n' (resS f hand false)→Ext w w'→R (.returned (.tuple ⟨[.slice a' n' c',.int .i64 (errS f hand)]⟩)) w') :
  Calls prog qti ⟨[.slice a n c,.int .i64 hand]⟩ w R:=by
 apply q57
 refine qci f hs hf hF fun w1 e1=>⟨_,rfl,qd (fun g=>?_) (fun g=>?_)⟩
 ·have e:errS f hand=1:=by unfold errS;rw [if_pos g]
  have:=h none 0 0 w1 (Nat.le_refl _) (by unfold resS;rw [if_neg (by rw [e];decide)];exact SlF.nil none) e1
  rw [e] at this;exact this
 ·have hc:qad f=0:=Decidable.not_not.1 g
  obtain ⟨c1,c2,c3⟩:=qby hc
  have z1:=e1.size
  intro K6 hK6
  have bad:(hand < 0∨8 < hand)→R (.returned (.tuple ⟨[.slice none 0 0,.int .i64 13]⟩)) w1:=fun hh=>by
   have e:errS f hand=13:=by unfold errS;rw [if_neg g,if_pos hh]
   have:=h none 0 0 w1 (Nat.le_refl _) (by unfold resS;rw [if_neg (by rw [e];decide)];exact SlF.nil none) e1
   rw [e] at this;exact this
  refine qd (fun g2=>bad (.inl g2)) (fun g2=>qd (fun g3=>bad (.inr g3)) (fun g3=>hK6 _ fun _=>?_))
  have e:errS f hand=0:=by unfold errS;rw [if_neg g,if_neg (by omega)]
  have er:=qe2 hand f c2
  have t2:=qc8 f hand false
  refine q11 f hand (by omega) c2 (by rw [er];omega) (hf.ext e1) fun a2 n2 c2' w2 hc2 h2 e2=>⟨_,_,_,rfl,?_⟩
  rw [er] at h2
  have:=h a2 n2 c2' w2 hc2 (by unfold resS;rw [if_pos e];exact h2.imp fun j hj _=>hj.imp id fun h=>by omega) (qb e1 e2)
  rw [e] at this;exact this
end
def wkF (p:Ps) (f:Fo):Ps:=endL p (qj f)
theorem q9e (p0:Ps) (f g:Fo):wkF p0 (f.app g)=wkF (wkF p0 f) g:=by
 unfold wkF;rw [qmg,qmo]
theorem wkF_one (p0:Ps) (k:Int) (t:List UInt8) (n:Int) (ps:Fo):wkF p0 (.one k t n ps)=wkF (posN p0 ⟨k,t,n,ps⟩).1 ps:=by
 unfold wkF Fo.one;rw [qj,endL,qj,List.append_nil]
theorem posN_3 (p:Ps) (t:List UInt8) (n:Int) (ps:Fo):(posN p ⟨3,t,n,ps⟩).1=(t,0):=by unfold posN;simp
theorem posN_2 (p:Ps) (t:List UInt8) (n:Int) (ps:Fo):(posN p ⟨2,t,n,ps⟩).1=(p.1,p.2 + 1):=by unfold posN;simp
theorem posN_o (p:Ps) {k:Int} (t:List UInt8) (n:Int) (ps:Fo) (h3:k≠3) (h2:k≠2):(posN p ⟨k,t,n,ps⟩).1=p:=by
 unfold posN;simp only [h3,h2,if_false];split
 ·rfl
 ·split <;> rfl
theorem posN_bd (p:Ps) (x:Nn) (h:0≤p.2):0≤(posN p x).1.2∧(posN p x).1.2≤p.2 + 1:=by
 obtain ⟨k,t,n,ps⟩:=x
 by_cases h3:k=3
 ·subst h3;rw [posN_3];exact ⟨Int.le_refl _,by show (0:Int)≤_;omega⟩
 ·by_cases h2:k=2
  ·subst h2;rw [posN_2];exact ⟨by show 0≤p.2 + 1;omega,Int.le_refl _⟩
  ·rw [posN_o _ _ _ _ h3 h2];omega
theorem q9h {s:List UInt8} {i:Int}:∀ v∈([.string ⟨⟨s⟩⟩,.int .i64 i]:List Value),v.oneCell'=true:=by
 intro v hv;simp only [List.mem_cons,List.not_mem_nil,or_false] at hv;rcases hv with rfl | rfl <;> rfl
theorem stPos {w:World} {b:Nat} {v0 v1:Value} {s:List UInt8} {i:Int} {K:World→Prop} (hb:Blk w b [v0,v1] 51) (h:∀ w',Blk w' b [.string ⟨⟨s⟩⟩,.int .i64 i] 51→Chg (· = b) w w'→w'.heap.size=w.heap.size→K w') :
  stL w ⟨b,0,none⟩ 0 [.string ⟨⟨s⟩⟩,.int .i64 i] K:=by
 refine qaf hb (by simp) q9h fun v r1 r2 r3 r4 r5 r6=>?_
 exact h v r1 ⟨r4,r5,r6,by omega,fun k _ hk=>r2 k hk⟩ r3
theorem stPos1 {w:World} {b:Nat} {v0 v1:Value} {i:Int} {K:World→Prop} (hb:Blk w b [v0,v1] 51) (h:∀ w',Blk w' b [v0,.int .i64 i] 51→Chg (· = b) w w'→w'.heap.size=w.heap.size→K w') :
  stL w ((⟨b,0,none⟩:Addr).add 1) 0 [.int .i64 i] K:=by
 rw [qg]
 refine qaf hb (by simp) (by intro u hu;simp only [List.mem_singleton] at hu;subst hu;rfl) fun v r1 r2 r3 r4 r5 r6=>?_
 simp only [putAt,List.set] at r1
 exact h v r1 ⟨r4,r5,r6,by omega,fun k _ hk=>r2 k hk⟩ r3
theorem q9f:∀ (f:Fo) {R:Ending→World→Prop} {S:Nat→Prop} {w:World} {a:Option Addr} {n c:Nat} (p0:Ps),f.size≤1000000→0≤p0.2→p0.2 + f.size≤1000000000→SlF S w a n f →
  (∀ w',Ext w w'→R (.returned (.agg ⟨[.string ⟨⟨(wkF p0 f).1⟩⟩,.int .i64 (wkF p0 f).2]⟩)) w') →
  Calls prog qnq ⟨[.agg ⟨[.string ⟨⟨p0.1⟩⟩,.int .i64 p0.2]⟩,.slice a n c]⟩ w R:=by
 intro f
 induction hz:f.size using Nat.strongRecOn generalizing f with
 | _ z ih =>
 intro R S w a n c p0 hs hp0 hpb hf0 h
 apply q14
 have hn:=hf0.1
 have hf:SlF (fun k=>S k∧k < w.heap.size) w a n f:=hf0.imp fun k hk hl=>⟨hk,hl⟩
 refine qh fun b4 w5 hb4 B4 e5 s5=>qh fun b6 w7 hb6 B6 e7 s7=>?_
 have E7:=qb e5 e7
 refine ⟨fun i W m=>∃ (p r:Fo),f=p.app r∧i=p.len∧m=r.len∧Blk W b4 [.string ⟨⟨(wkF p0 p).1⟩⟩,.int .i64 (wkF p0 p).2] 51∧Blk W b6 [.string ⟨⟨[]⟩⟩,.int .i64 0] 51∧Ext w W,
  ⟨_,.nil,f,rfl,rfl,rfl,B4.ext e7,B6,E7⟩,?_⟩
 rintro _ W m ⟨p,r,hpr,rfl,rfl,C4,C6,he⟩ _
 have c4:=C4.lt
 have c6:=C6.lt
 refine qd (fun hlt=>?_) (fun hge=>?_)
 ·obtain ⟨k,t,mm,ps,r,rfl⟩:=Fo.next hpr (by omega)
  have hsl:=Fo.sub_len hpr
  have hsz:=Fo.sub_size hpr
  have hfl:=f.len_le_size
  have hss:f.size=p.size + (ps.size + r.size + 1):=by rw [hpr,Fo.size_app];rfl
  have e1:f=(p.app (.one k t mm ps)).app r:=by rw [Fo.app_one_app];exact hpr
  have i1:i64.wrap ((p.len:Int) + 1)=((p.app (.one k t mm ps)).len:Int):=by rw [ql (by omega)];simp [Fo.one]
  obtain ⟨po1,po0,_⟩:=qrp p p0 hp0
  have po1:(wkF p0 p).2≤p0.2 + cntF 2 p:=po1
  have po0:0≤(wkF p0 p).2:=po0
  have hcp:=qxp 2 p
  obtain ⟨pb0,pb1⟩:=posN_bd (wkF p0 p) ⟨k,t,mm,ps⟩ po0
  have hwk:wkF p0 (p.app (.one k t mm ps))=wkF (posN (wkF p0 p) ⟨k,t,mm,ps⟩).1 ps:=by rw [q9e,wkF_one]
  obtain ⟨q,a',c',hq,hSq,hql,hN⟩:=(hf.ext he).get hpr
  refine hq _ ⟨k,hN.kind,t,hN.text,mm,hN.num,a',ps.len,c',hN.parts,?_⟩
  refine qx rfl one4w fun bx w20 hbx Bx e20 s20=>?_
  obtain ⟨x0,x1,x2,x3⟩:=blk4 Bx
  have E20:=qb he e20
  have D4:=C4.ext e20
  intro K21 hK21
  have k21:∀ W2,Chg (· = b4) w20 W2→Blk W2 b4 [.string ⟨⟨(posN (wkF p0 p) ⟨k,t,mm,ps⟩).1.1⟩⟩,.int .i64 (posN (wkF p0 p) ⟨k,t,mm,ps⟩).1.2] 51→K21 W2:=by
   intro W2 hc hB
   refine hK21 W2 fun _=>?_
   obtain ⟨y0,y1⟩:=blk2w hB
   obtain ⟨_,_,_,z3⟩:=blk4 (hc.blk Bx (by omega))
   have EW2:Ext w W2:=qi E20 hc fun j hj=>by omega
   have hps:SlF (fun j=>S j∧j < w.heap.size) W2 a' ps.len ps:=(hN.sl.ext e20).chg hc fun j hj hh=>by have:=hj.2;omega
   refine ⟨_,y0,_,y1,_,_,_,z3,ih _ (hz ▸ hsz) ps rfl _ (by omega) pb0 (by omega) hps fun w27 e27=>⟨_,_,rfl,?_⟩⟩
   refine stPos (hB.ext e27) fun w30 q1 q2 q3=>?_
   have c20:Chg (· = b4) W2 w30:=(Chg.of_ext e27).trans q2
   refine ⟨r.len,by simp,_,r,e1,i1,rfl,by rw [hwk];exact q1,?_,qi EW2 c20 fun j hj=>by omega⟩
   exact c20.blk (hc.blk (C6.ext e20) (by omega)) (by omega)
  refine ⟨k,x0,qd (fun g3=>⟨t,x1,?_⟩) (fun g3=>qd (fun g2=>?_) (fun g2=>?_))⟩
  ·subst g3
   refine stPos D4 fun w34 q1 q2 q3=>k21 w34 q2 ?_
   rw [posN_3];exact q1
  ·subst g2
   refine ⟨_,(blk2w D4).2,?_⟩
   refine stPos1 D4 fun w36 q1 q2 q3=>k21 w36 q2 ?_
   rw [posN_2]
   rw [qr (by omega)] at q1
   exact q1
  ·refine k21 w20 (Chg.refl _ _) ?_
   rw [posN_o _ _ _ _ g3 g2];exact D4
 ·obtain ⟨rfl,rfl⟩:=Fo.last hpr (by omega)
  obtain ⟨y0,y1⟩:=blk2w C4
  refine ⟨_,y0,_,y1,stPos C6 fun v q1 q2 q3=>?_⟩
  obtain ⟨t0,t1⟩:=blk2w q1
  exact ⟨_,t0,_,t1,h v (qi he q2 fun j hj=>by omega)⟩
theorem SlF.cut {S:Nat→Prop} {w:World} {a:Option Addr} {n c:Nat} {f p g r:Fo} (h:SlF S w a n f) (hc:n≤c) (hf:f=p.app (g.app r)) {lo hi:Int} (hlo:lo=p.len) (hhi:hi=p.len + g.len) {K:Option Addr→Nat→Nat→Prop}
  (hK:∀ a' c',SlF S w a' g.len g→g.len≤c'→K a' g.len c'):sls a c lo hi 4 K:=by
 subst hlo hhi
 obtain ⟨hn,us,hat,hfo⟩:=h
 have hl:f.len=p.len + (g.len + r.len):=by rw [hf,Fo.len_app,Fo.len_app]
 refine ⟨by omega,by omega,by omega,?_⟩
 have e2:((p.len:Int) + (g.len:Int)).toNat - ((p.len:Int)).toNat=g.len:=by omega
 have e3:c - ((p.len:Int)).toNat=c - p.len:=by omega
 have e4:((p.len:Int)).toNat=p.len:=by omega
 rw [e2,e3,e4]
 rw [hf] at hfo
 obtain ⟨xs,ys,rfl,hx,hy⟩:=hfo.split
 obtain ⟨gs,rs,rfl,hg,hr⟩:=hy.split
 refine hK _ _ ⟨rfl,gs,?_,hg⟩ (by omega)
 by_cases hg0:gs=[]
 ·exact .inl hg0
 have hgl:0 < g.len:=by
  have:=hg.len
  have:0 < gs.length:=List.length_pos_iff.2 hg0
  omega
 have hne:c≠p.len:=by omega
 rcases hat with hat | ⟨b,o,rfl,hS,hb,hcell⟩
 ·have:gs=[]:=by simp at hat;exact hat.2.1
  exact absurd this hg0
 ·refine .inr ⟨b,o + p.len * 4,?_,hS,hb,fun j v hj=>?_⟩
  ·unfold slA;rw [if_neg hne];simp [qg]
  ·have:=hx.len
   have hj2:(xs++(gs++rs))[p.len * 4 + j]? = some v:=by
    rw [List.getElem?_append_right (by omega),List.getElem?_append_left]
    ·rw [← hj];congr 1;omega
    ·have h1:=(List.getElem?_eq_some_iff.1 hj).1
     omega
   have:=hcell _ _ hj2
   rw [← Nat.add_assoc] at this;exact this
theorem CloneF_spec {R:Ending→World→Prop} {S:Nat→Prop} {w:World} {a:Option Addr} {n c:Nat} (f:Fo) (hs:f.len≤1000000) (hf:SlF S w a n f) (h:∀ a' n' c' w',n'≤c'→SlF (fun k=>S k∨w.heap.size≤k) w' a' n' f→Ext w w'→R (.returned (.slice a' n' c')) w') :
  Calls prog qa3 ⟨[.slice a n c]⟩ w R:=by
 apply qc4
 have hn:=hf.1
 refine qm (fun g=>?_) (fun g=>?_)
 ·have ha:a=none:=by cases a with | none=>rfl | some _=>cases g
  subst ha
  have hf0:f=.nil:=by
   obtain ⟨_,us,hat,hfo⟩:=hf
   rcases hat with rfl | ⟨b,o,hh,_⟩
   ·exact Fo.eq_nil_of_len (by have:=hfo.len;simp at this;omega)
   ·cases hh
  subst hf0
  exact h none 0 0 w (Nat.le_refl _) (SlF.nil none) (Below.refl _ _)
 ·refine qh fun b2 w3 hb2 B2 e3 s3=>?_
  have hf3:SlF (fun k=>((S k∧k < w.heap.size)∨w.heap.size≤k)∧¬ Sh.bk (some ⟨b2,0,none⟩) k) w3 a n f :=
   ((hf.imp (S':=fun k=>S k∧k < w.heap.size) fun k hk hl=>⟨hk,hl⟩).ext e3).imp fun k hk _=>⟨.inl hk,fun hh=>by simp [Sh.bk] at hh;omega⟩
  have hO:OwnF 56 (fun k=>S k∧k < w.heap.size) w.heap.size w3 (some ⟨b2,0,none⟩) 0 0 .nil:=⟨rfl,[],Owns.made B2 (by omega),rfl⟩
  refine OwnF.pushAll (P:=prog) qcz hO (by omega) hf3 (by omega) (by omega) fun a4 n4 c4 w5 ho hc=>?_
  rw [Fo.nil_app] at ho
  refine h a4 n4 c4 w5 (ownF_cap ho) (ho.out.imp fun k hk _=>hk.imp (fun h=>h.1) id) (qi e3 hc fun k hk=>by simp [Sh.bk] at hk;omega)
theorem q4r:∀ {f:Fo} {j:Nat} {pre:List (List UInt8 × Nat)} {t:List UInt8} {i:Nat},pre++[(t,i)] <+: secsI f j→∃ p n ps r,f=Fo.app p (.cons 4 t n ps r)∧secsI p j=pre∧i=j + p.len
 | .nil,j,pre,t,i,h=>by
  have:=h.length_le
  simp [secsI] at this
 | .cons k t' n ps r,j,pre,t,i,h=>by
  rw [secsI] at h
  by_cases hk:k=4
  ·subst hk
   rw [if_pos rfl] at h
   cases pre with
   | nil =>
    have h:(t,i) :: [] <+: (t',j) :: secsI r (j + 1):=h
    rw [List.cons_prefix_cons] at h
    obtain ⟨h1,_⟩:=h
    simp only [Prod.mk.injEq] at h1
    obtain ⟨rfl,rfl⟩:=h1
    exact ⟨.nil,n,ps,r,rfl,rfl,rfl⟩
   | cons y pre =>
    have h:y :: (pre++[(t,i)]) <+: (t',j) :: secsI r (j + 1):=h
    rw [List.cons_prefix_cons] at h
    obtain ⟨rfl,h2⟩:=h
    obtain ⟨p,n',ps',r',e1,e2,e3⟩:=q4r h2
    refine ⟨.cons 4 t' n ps p,n',ps',r',by rw [Fo.cons_app,← e1],by rw [secsI,e2];rfl,by rw [e3,Fo.len_cons];omega⟩
  ·rw [if_neg hk,List.nil_append] at h
   obtain ⟨p,n',ps',r',e1,e2,e3⟩:=q4r h
   refine ⟨.cons k t' n ps p,n',ps',r',by rw [Fo.cons_app,← e1],by rw [secsI,e2,if_neg hk];rfl,by rw [e3,Fo.len_cons];omega⟩
theorem cutS_at {f p:Fo} {s:List UInt8} {n:Int} {ps r:Fo} (h:f=p.app (.cons 4 s n ps r)) (hs:s∉secs p):cutS f s=some (p,r):=by
 rw [h,cutS_pre hs,cutS,if_pos ⟨rfl,rfl⟩];simp
theorem q8q:∀ {g:Fo} (r:Fo),secs g=[]→bodyF (g.app r)=g.app (bodyF r)
 | .nil,r,_=>rfl
 | .cons k t n ps g,r,h=>by
  rw [secs] at h
  have hk:k≠4:=fun hk=>by rw [if_pos hk] at h;simp at h
  rw [if_neg hk,List.nil_append] at h
  rw [Fo.cons_app,bodyF,if_neg hk,q8q r h,Fo.cons_app]
theorem qz9 {r g r':Fo} (h:r=g.app r') (hg:secs g=[]) (hr:r'=.nil∨∃ t n ps r2,r'=.cons 4 t n ps r2):bodyF r=g:=by
 rw [h,q8q _ hg]
 rcases hr with rfl | ⟨t,n,ps,r2,rfl⟩
 ·rw [bodyF,Fo.app_nil]
 ·rw [bodyF,if_pos rfl,Fo.app_nil]
def posS (f:Fo) (s:List UInt8):Ps:=wkF ([],0) (preS f s)
section
variable {R:Ending→World→Prop} {w:World}
theorem partW_spec {S:Nat→Prop} {a:Option Addr} {n c:Nat} (f:Fo) (s:List UInt8) (hs:f.size≤1000000) (hc:n≤c) (hf0:SlF S w a n f)
  (h:∀ a' n' c' w',SlF (fun k=>S k∨w.heap.size≤k) w' a' n' (bodyS f s)→Ext w w'→R (.returned (.tuple ⟨[.slice a' n' c',.agg ⟨[.string ⟨⟨(posS f s).1⟩⟩,.int .i64 (posS f s).2]⟩,.bool (cutS f s).isSome]⟩)) w') :
  Calls prog qnr ⟨[.slice a n c,.string ⟨⟨s⟩⟩]⟩ w R:=by
 apply q15
 have hsm:small f:=by unfold small;omega
 have hn:=hf0.1
 have hfl:=f.len_le_size
 have hf:SlF (fun k=>S k∧k < w.heap.size) w a n f:=hf0.imp fun k hk hl=>⟨hk,hl⟩
 refine qh fun b3 w4 hb3 B3 e4 s4=>qh fun b5 w6 hb5 B5 e6 s6=>qh fun b7 w8 hb7 B7 e8 s8=>qh fun b9 w10 hb9 B9 e10 s10=>qh fun b11 w12 hb11 B11 e12 s12=>?_
 have F3:=(((B3.ext e6).ext e8).ext e10).ext e12
 have F5:=((B5.ext e8).ext e10).ext e12
 have F7:=(B7.ext e10).ext e12
 have F9:=B9.ext e12
 have E12:=qb e4 (qb e6 (qb e8 (qb e10 e12)))
 refine ⟨_,_,_,by rw [F3.cell];rfl,?_⟩
 refine qi0 fun bs w15 Bs e15 hbs s15=>⟨_,_,_,rfl,fun base=>?_⟩
 have E15:=qb E12 e15
 have z15:=E15.size
 have G3:=F3.ext e15
 have G5:=F5.ext e15
 have G7:=F7.ext e15
 have G9:=F9.ext e15
 have G11:=B11.ext e15
 have hf15:=hf.ext E15
 rw [quc]
 refine qex qg1 qgz (gf:=qak) rfl (by kernel_rfl) (xs:=secsI f 0) (E:=fun x vs=>vs=[.string ⟨⟨x.1⟩⟩,.int .i64 (x.2:Int)]) (Rd:=fun k=>(S k∧k < w.heap.size)∨k=bs)
  (fun v1 he=>qhk f hsm bs v1 (fun k hk=>by have:=he.size;omega) (Bs.ext he) ((hf15.ext he).imp fun k hk _=>.inl hk) (.inr rfl)) (fun y vs hE=>by rw [hE];rfl) (by decide) (fun k hk=>by omega) (fun k=>k=b7∨k=b9∨k=b11) (fun k hk=>by omega)
  (fun pre S1 W=>(∀ k,S1 k↔k=b7∨k=b9∨k=b11)∧Ext w15 W∧s∉pre.map (·.1))
  (fun S1 W=>(∀ k,S1 k↔k=b7∨k=b9∨k=b11)∧Chg (fun k=>k=b7∨k=b9∨k=b11) w15 W∧∃ (p r:Fo) (a':Option Addr) (c':Nat),cutS f s=some (p,r)∧Blk W b7 [.slice a' (bodyF r).len c'] 43∧SlF (fun k=>S k∧k < w.heap.size) W a' (bodyF r).len (bodyF r)∧Blk W b9 [.string ⟨⟨(wkF ([],0) p).1⟩⟩,.int .i64 (wkF ([],0) p).2] 51∧Blk W b11 [.bool true] 4) (fun _ _=>False)
  ?_ ?_ (fun _ _ _ h=>h.elim) ⟨fun k=>Iff.rfl,Below.refl _ _,by simp⟩ ?_ ?_ ?_ (fun _ _ _ _ _ _ _ h=>h.elim)
 ·rintro pre S1 W W' ⟨i1,i2,i3⟩ hc
  exact ⟨i1,qi i2 hc fun k hk=>hk.1,i3⟩
 ·rintro S1 W W' ⟨i1,i2,p,r,a',c',i3,i4,i5,i6,i7⟩ hc
  exact ⟨i1,q5o i2 hc fun k hk=>hk.1,p,r,a',c',i3,hc.blk i4 (fun hh=>hh.2 ((i1 _).2 (.inl rfl))),i5.chg hc fun k hk hh=>by have:=hh.1;have:=hk.2;omega,hc.blk i6 (fun hh=>hh.2 ((i1 _).2 (.inr (.inl rfl)))),hc.blk i7 (fun hh=>hh.2 ((i1 _).2 (.inr (.inr rfl))))⟩
 ·rintro pre x vs S1 W l rfl hpre hl1 hl2 hl3 hS1 ⟨i1,i2,i3⟩
  refine Eq.mpr (qt5 base _ _ _ _ _ _ _ _ _ _ _ _ _ _ _) ?_
  refine ⟨Below.refl _ _,fun W2 hU=>?_⟩
  have zU:=hU.size
  have hUc:Chg (fun k=>k=l) W W2:=⟨hU.os,hU.tape,hU.output,by omega,fun k _ hk=>hU.block k hk⟩
  have E2:Ext w15 W2:=qi i2 hUc fun k hk=>by omega
  obtain ⟨t,i⟩:=x
  obtain ⟨p,mm,ps,r,hpr,hp1,hi⟩:=q4r hpre
  rw [Nat.zero_add] at hi
  subst hi
  have hsp:secs p=pre.map (·.1):=by rw [← hp1,qdk]
  have hsl:=Fo.sub_len hpr
  refine dr_ok ⟨s,by rw [(G5.ext E2).cell];rfl,qd (fun g=>?_) (fun g=>?_)⟩
  ·refine ⟨Chg.refl _ _,S1,fun k hk=>⟨.inl hk,by have:=(hS1 k hk).1;omega⟩,i1,E2,?_⟩
   rw [List.map_append,List.mem_append,not_or]
   exact ⟨i3,by simpa using fun hh=>g hh.symm⟩
  have g:t=s:=Decidable.not_not.1 g
  subst g
  have hcut:cutS f t=some (p,r):=cutS_at hpr (by rw [hsp];exact i3)
  have hbl:=congrArg Fo.len (qbb r)
  rw [Fo.len_app] at hbl
  have hps:p.size≤f.size:=by rw [hpr,Fo.size_app];omega
  have D3:=G3.ext E2
  have c3:W2.cell? (⟨b3,0,none⟩:Addr)=some (.slice a n c):=by rw [D3.cell];rfl
  have hf2:=hf15.ext E2
  intro K52 hK52
  have fin:∀ {Kr':World→Prop},(∀ w70 a' c',Chg (fun k=>k=b7∨k=b9∨k=b11) W2 w70→Blk w70 b7 [.slice a' (bodyF r).len c'] 43→SlF (fun k=>S k∧k < w.heap.size) w70 a' (bodyF r).len (bodyF r)→Blk w70 b9 [.string ⟨⟨(wkF ([],0) p).1⟩⟩,.int .i64 (wkF ([],0) p).2] 51→Blk w70 b11 [.bool true] 4→Kr' w70) →
    ∀ a' c' W3,Ext W2 W3→SlF (fun k=>S k∧k < w.heap.size) W3 a' (bodyF r).len (bodyF r)→(dr (some ⟨b7,0,none⟩) fun p67=>stL W3 p67 0 [.slice a' (bodyF r).len c'] fun w66=>(dr (some ⟨b9,0,none⟩) fun p69=>stL w66 p69 0 [.string ⟨⟨(wkF ([],0) p).1⟩⟩,.int .i64 (wkF ([],0) p).2] fun w68=>(dr (some ⟨b11,0,none⟩) fun p71=>stL w68 p71 0 [.bool true] fun w70=>Kr' w70)∧True)∧True):=by
   intro Kr' hKr a' c' W3 e3 hsl3
   refine dr_ok (qn ((G7.ext E2).ext e3) rfl fun w66 q1 q2 q3=>⟨dr_ok ?_,trivial⟩)
   refine stPos (q2.blk ((G9.ext E2).ext e3) (by omega)) fun w68 r1 r2 r3=>⟨dr_ok ?_,trivial⟩
   refine qn (r2.blk (q2.blk ((G11.ext E2).ext e3) (by omega)) (by omega)) rfl fun w70 t1 t2 t3=>?_
   have hc:Chg (fun k=>k=b7∨k=b9∨k=b11) W3 w70:=((q2.mono fun k _ hk=>.inl hk).trans (r2.mono fun k _ hk=>.inr (.inl hk))).trans (t2.mono fun k _ hk=>.inr (.inr hk))
   exact hKr w70 a' c' ((Chg.of_ext e3).trans hc) (t2.blk (r2.blk q1 (by omega)) (by omega)) (hsl3.chg hc fun k hk hh=>by have:=hk.2;omega) (t2.blk r1 (by omega)) t1
  have kr:∀ w70 a' c',Chg (fun k=>k=b7∨k=b9∨k=b11) W2 w70→Blk w70 b7 [.slice a' (bodyF r).len c'] 43→SlF (fun k=>S k∧k < w.heap.size) w70 a' (bodyF r).len (bodyF r)→Blk w70 b9 [.string ⟨⟨(wkF ([],0) p).1⟩⟩,.int .i64 (wkF ([],0) p).2] 51→Blk w70 b11 [.bool true] 4 →
    (Chg (fun k=>S1 k∨W.heap.size≤k) W2 w70∧∃ S':Nat→Prop,(∀ k,S' k→(S1 k∨W.heap.size≤k)∧k < w70.heap.size)∧((∀ k,S' k↔k=b7∨k=b9∨k=b11)∧Chg (fun k=>k=b7∨k=b9∨k=b11) w15 w70∧∃ (p r:Fo) (a':Option Addr) (c':Nat),cutS f t=some (p,r)∧Blk w70 b7 [.slice a' (bodyF r).len c'] 43∧SlF (fun k=>S k∧k < w.heap.size) w70 a' (bodyF r).len (bodyF r)∧Blk w70 b9 [.string ⟨⟨(wkF ([],0) p).1⟩⟩,.int .i64 (wkF ([],0) p).2] 51∧Blk w70 b11 [.bool true] 4)):=by
   intro w70 a' c' k1 k2 k3 k4 k5
   exact ⟨k1.mono fun k _ hk=>.inl ((i1 k).2 hk),S1,fun k hk=>⟨.inl hk,by have:=(hS1 k hk).1;have:=k1.size;omega⟩,i1,(Chg.of_ext E2).trans k1,p,r,a',c',hcut,k2,k3,k4,k5⟩
  have k52:∀ e:Int,e=p.len + 1 + (bodyF r).len→K52 e W2:=by
   intro e he
   refine hK52 e W2 fun _=>?_
   unfold drw
   have ed:=qw W2
   have cd3:W2.drew.cell? (⟨b3,0,none⟩:Addr)=some (.slice a n c):=by rw [(D3.ext ed).cell];rfl
   have hfd:=hf2.ext ed
   generalize W2.drew=wd at *
   refine dr_ok ⟨_,_,_,cd3,?_⟩
   refine SlF.cut hfd hc (p:=.nil) (g:=p) (r:=.cons 4 t mm ps r) hpr (by simp) (by simp) fun a58 c58 h58 hc58=>?_
   have cut61:∀ {v:World},Ext wd v→∀ {K:Option Addr→Nat→Nat→Prop},(∀ a' c',SlF (fun k=>S k∧k < w.heap.size) v a' (bodyF r).len (bodyF r)→(bodyF r).len≤c'→K a' (bodyF r).len c')→sls a c (i64.wrap ((p.len:Int) + 1)) e 4 K:=by
    intro v ev K hK
    refine SlF.cut (hfd.ext ev) hc (p:=p.app (.one 4 t mm ps)) (g:=bodyF r) (r:=fromS r) (by rw [qbb,Fo.app_one_app];exact hpr) (by rw [ql (by omega)];simp [Fo.one]) (by rw [he];simp [Fo.one]) hK
   have wk:∀ {Q:Ending→World→Prop},(∀ v,Ext wd v→Q (.returned (.agg ⟨[.string ⟨⟨(wkF ([],0) p).1⟩⟩,.int .i64 (wkF ([],0) p).2]⟩)) v)→Calls prog 125 ⟨[.agg ⟨[.string ⟨⟨[]⟩⟩,.int .i64 0]⟩,.slice a58 p.len c58]⟩ wd Q:=fun hQ=>q9f p ([],0) (by omega) (by decide) (by show (0:Int) + _≤_;omega) h58 hQ
   refine ⟨dr_ok ⟨_,_,_,cd3,?_⟩,?_,trivial⟩
   ·refine cut61 (Below.refl _ _) fun a61 c61 h61 hc61=>⟨wk fun v ev=>⟨_,_,rfl,fin kr a61 c61 v (qb ed ev) (h61.ext ev),trivial⟩,trivial⟩
   ·refine wk fun v ev=>⟨_,_,rfl,dr_ok ⟨_,_,_,by rw [((D3.ext ed).ext ev).cell];rfl,?_⟩⟩
    refine cut61 ev fun a61 c61 h61 hc61=>⟨fin kr a61 c61 v (qb ed ev) h61,trivial⟩
  refine ⟨fun e W3 m=>∃ g r',r=Fo.app g r'∧secs g=[]∧e=p.len + 1 + g.len∧m=r'.len∧W3=W2,⟨_,.nil,r,rfl,rfl,by rw [ql (by omega)];simp,rfl,rfl⟩,?_⟩
  rintro _ W3 m ⟨g,r',hgr,hgs,rfl,rfl,rfl⟩ _
  have hgl:=congrArg Fo.len hgr
  rw [Fo.len_app] at hgl
  refine dr_ok ⟨_,_,_,c3,qd (fun hlt=>dr_ok ⟨_,_,_,c3,?_⟩) (fun hge=>?_)⟩
  ·cases r' with
   | nil=>simp at hgl;omega
   | cons k2 t2 m2 ps2 r2 =>
    have hp2:f=(p.app ((Fo.one 4 t mm ps).app g)).app (.cons k2 t2 m2 ps2 r2):=by
     rw [hpr,hgr,Fo.app_assoc,Fo.app_assoc];rfl
    obtain ⟨q,a',c',hq,hSq,hql,hN⟩:=hf2.get hp2
    have el:((p.app ((Fo.one 4 t mm ps).app g)).len:Int)=p.len + 1 + g.len:=by simp [Fo.one];omega
    rw [el] at hq
    refine hq _ ⟨k2,hN.kind,qd (fun g4=>?_) (fun g4=>?_)⟩
    ·have hl2:(Fo.cons k2 t2 m2 ps2 r2).len=r2.len + 1:=rfl
     refine ⟨r2.len,by simp,g.app (.one k2 t2 m2 ps2),r2,by rw [Fo.app_one_app];exact hgr,?_,?_,rfl,rfl⟩
     ·rw [qeu,hgs];unfold Fo.one;rw [secs,if_neg g4];rfl
     ·rw [show ((p.len:Int) + 1 + g.len + 1)=((p.len + 1 + g.len:Nat):Int) + 1 by omega,ql (by omega)];simp [Fo.one];omega
    ·have g4:k2=4:=Decidable.not_not.1 g4
     subst g4
     exact k52 _ (by rw [qz9 hgr hgs (.inr ⟨_,_,_,_,rfl⟩)])
  ·have hr0:r'=.nil:=Fo.eq_nil_of_len (by omega)
   exact k52 _ (by rw [qz9 hgr hgs (.inl hr0)])
 ·rintro D S1 W hD1 hD2 hD3 hD4 ⟨i1,i2,i3⟩
  rw [qdk] at i3
  have hcut:cutS f s=none:=qzr i3
  have h1:bodyS f s=.nil:=by unfold bodyS;rw [hcut]
  have h2:posS f s=([],0):=by unfold posS preS;rw [hcut];rfl
  rw [h1,h2,hcut] at h
  have n7:b7≠D:=fun hh=>hD3 ((i1 D).2 (.inl hh.symm))
  have n9:b9≠D:=fun hh=>hD3 ((i1 D).2 (.inr (.inl hh.symm)))
  have n11:b11≠D:=fun hh=>hD3 ((i1 D).2 (.inr (.inr hh.symm)))
  refine qn (G7.ext i2) rfl fun w28 q1 q2 q3=>?_
  refine stPos (q2.blk (G9.ext i2) (by omega)) fun w29 r1 r2 r3=>?_
  refine qn (r2.blk (q2.blk (G11.ext i2) (by omega)) (by omega)) rfl fun w30 t1 t2 t3=>?_
  have hcc:Chg (fun k=>k=b7∨k=b9∨k=b11) W w30:=((q2.mono fun k _ hk=>.inl hk).trans (r2.mono fun k _ hk=>.inr (.inl hk))).trans (t2.mono fun k _ hk=>.inr (.inr hk))
  have hD':w30.heap[D]? = some (.deferred (some [])):=(hcc.block D hD2 (by omega)).trans hD4
  refine qa4 hD' ?_
  have u7:=qcf (t2.blk (r2.blk q1 (by omega)) (by omega)) n7 (.deferred none)
  have u9:=qcf (t2.blk r1 (by omega)) n9 (.deferred none)
  have u11:=qcf t1 n11 (.deferred none)
  obtain ⟨y0,y1⟩:=blk2w u9
  refine ⟨_,_,_,by rw [u7.cell];rfl,_,y0,_,y1,_,by rw [u11.cell];rfl,?_⟩
  exact h none 0 0 _ (SlF.nil none) (qbk (qi (qb E15 i2) hcc fun k hk=>by omega) (by omega) _)
 ·rintro D S1 W hD1 hD2 hD3 hD4 ⟨i1,i2,p,r,a',c',i3,i4,i5,i6,i7⟩
  have h1:bodyS f s=bodyF r:=by unfold bodyS;rw [i3]
  have h2:posS f s=wkF ([],0) p:=by unfold posS preS;rw [i3]
  rw [h1,h2,i3] at h
  have n7:b7≠D:=fun hh=>hD3 ((i1 D).2 (.inl hh.symm))
  have n9:b9≠D:=fun hh=>hD3 ((i1 D).2 (.inr (.inl hh.symm)))
  have n11:b11≠D:=fun hh=>hD3 ((i1 D).2 (.inr (.inr hh.symm)))
  refine qa4 hD4 ?_
  have u7:=qcf i4 n7 (.deferred none)
  have u9:=qcf i6 n9 (.deferred none)
  have u11:=qcf i7 n11 (.deferred none)
  obtain ⟨y0,y1⟩:=blk2w u9
  refine ⟨_,_,_,by rw [u7.cell];rfl,_,y0,_,y1,_,by rw [u11.cell];rfl,?_⟩
  refine h a' _ c' _ ((i5.chg (Chg.put (S:=fun k=>k=D) W D (.deferred none) rfl) fun k hk hh=>by have:=hk.2;omega).imp fun k hk _=>.inl hk.1) (qbk (qi E15 i2 fun k hk=>by omega) (by omega) _)
def parE (x:Wt) (s:List UInt8) (hand:Int):Int:=if witE x≠0 then 1 else if hand < 0∨8 < hand then 13 else if s∈secs x.2 then 0 else 6
def parR (x:Wt) (s:List UInt8) (hand:Int):Fo:=if parE x s hand=0 then bodyS (stF x.2 hand) s else .nil
def parP (x:Wt) (s:List UInt8) (hand:Int):Ps:=if parE x s hand=0 then posS (stF x.2 hand) s else ([],0)
theorem qxz {x:Wt} (h:witE x=0):qad x.2=0:=by
 unfold witE at h
 split at h
 ·cases h
 split at h
 ·cases h
 ·rename_i h2;exact Decidable.not_not.1 h2
theorem cut_is {f:Fo} (s:List UInt8):(cutS f s).isSome=decide (s∈secs f):=by
 by_cases h:s∈secs f
 ·obtain ⟨a,b,e⟩:=cutS_some h
  rw [e,decide_eq_true h];rfl
 ·rw [qzr h,decide_eq_false h];rfl
theorem st_size (f:Fo) (hand:Int):(stF f hand).size≤f.size:=by
 unfold stF
 have h1:=qo0 (qv f hand false)
 have h2:=qdm f hand false
 omega
theorem q0u {S:Nat→Prop} {a:Option Addr} {n c:Nat} (x:Wt) (s:List UInt8) (hand:Int) (hs:small x.2) (hF:Forms w) (hf0:SlF S w a n x.2)
  (h:∀ a' n' c' w',SlF (fun k=>S k∨w.heap.size≤k) w' a' n' (parR x s hand)→Ext w w'→R (.returned (.tuple ⟨[.slice a' n' c',.agg ⟨[.string ⟨⟨(parP x s hand).1⟩⟩,.int .i64 (parP x s hand).2]⟩,.int .i64 (parE x s hand)]⟩)) w') :
  Calls prog qns ⟨[.agg ⟨[.string ⟨⟨x.1⟩⟩,.slice a n c]⟩,.string ⟨⟨s⟩⟩,.int .i64 hand]⟩ w R:=by
 apply q16
 have hf:SlF (fun k=>S k∧k < w.heap.size) w a n x.2:=hf0.imp fun k hk hl=>⟨hk,hl⟩
 refine qh fun b5 w6 hb5 B5 e6 s6=>qh fun b7 w8 hb7 B7 e8 s8=>?_
 have F5:=B5.ext e8
 have E8:=qb e6 e8
 obtain ⟨x0,x1⟩:=blk2w F5
 have bad:∀ (e:Int) (v:World),Ext w8 v→parE x s hand=e→e≠0→stL v ⟨b7,0,none⟩ 0 [.string ⟨⟨[]⟩⟩,.int .i64 0] fun w14=>∃ x15:List UInt8,w14.cell? ((⟨b7,0,none⟩:Addr).add 0)=some (.string ⟨⟨x15⟩⟩)∧(∃ x16:Int,w14.cell? ((⟨b7,0,none⟩:Addr).add 1)=some (.int .i64 x16)∧(R (.returned (.tuple ⟨[.slice none 0 0,.agg ⟨[.string ⟨⟨x15⟩⟩,.int .i64 x16]⟩,.int .i64 e]⟩)) w14)):=by
  intro e v ev he h0
  have h1:parR x s hand=.nil:=by unfold parR;rw [if_neg (by omega)]
  have h2:parP x s hand=([],0):=by unfold parP;rw [if_neg (by omega)]
  rw [h1,h2,he] at h
  refine stPos (B7.ext ev) fun v' q1 q2 q3=>?_
  obtain ⟨y0,y1⟩:=blk2w q1
  exact ⟨_,y0,_,y1,h none 0 0 v' (SlF.nil none) (qi (qb E8 ev) q2 fun k hk=>by have:=e6.size;omega)⟩
 refine ⟨_,x0,_,_,_,x1,qma x.1 x.2 hs (hF.ext E8) (hf.ext E8) fun w12 e12=>⟨_,rfl,qd (fun g=>?_) (fun g=>?_)⟩⟩
 ·exact bad 1 w12 e12 (by unfold parE;rw [if_pos g]) (by decide)
 have g0:witE x=0:=Decidable.not_not.1 g
 intro K17 hK17
 have E12:=qb E8 e12
 have hb:(hand < 0∨8 < hand)→K17 true w12:=fun hh=>hK17 true w12 fun _=>by
  rw [br_t]
  exact bad 13 w12 e12 (by unfold parE;rw [if_neg g,if_pos hh]) (by decide)
 refine qd (fun g1=>hb (.inl g1)) (fun g1=>?_)
 by_cases g2:8 < hand
 ·rw [decide_eq_true g2];exact hb (.inr g2)
 rw [decide_eq_false g2]
 refine hK17 false w12 fun _=>?_
 rw [br_f]
 have hc0:=qxz g0
 have hsz:=qqc g0
 have he:errS x.2 hand=0:=by unfold errS;rw [if_neg (by rw [hc0];simp),if_neg (by omega)]
 have hr:resS x.2 hand false=stF x.2 hand:=by unfold resS;rw [if_pos he];rfl
 have hss:=st_size x.2 hand
 have hsec:secs (stF x.2 hand)=secs x.2:=secs_stF (qxq hc0) hand
 refine ⟨_,_,_,(blk2w (F5.ext e12)).2,q0r x.2 hand hs (hF.ext E12) (hf.ext E12) fun a2 n2 c2 w25 hc2 h2 e25=>⟨_,_,_,_,rfl,qd (fun gg=>absurd he gg) (fun _=>?_)⟩⟩
 rw [hr] at h2
 have E25:=qb E12 e25
 refine partW_spec _ s (by omega) hc2 h2 fun a3 n3 c3 w32 h3 e32=>⟨_,_,_,_,_,_,rfl,?_⟩
 have E32:=qb E25 e32
 refine qx rfl q9h fun b37 w39 hb37 B37 e39 s39=>?_
 rw [cut_is,hsec]
 have E39:=qb E32 e39
 have ee:Ext w8 w39:=qb e12 (qb e25 (qb e32 e39))
 refine qm (fun g3=>?_) (fun g3=>?_)
 ·have g3:s∉secs x.2:=by simpa using g3
  exact bad 6 w39 ee (by unfold parE;rw [if_neg g,if_neg (by omega),if_neg g3]) (by decide)
 have g3:s∈secs x.2:=by simpa using g3
 have hpe:parE x s hand=0:=by unfold parE;rw [if_neg g,if_neg (by omega),if_pos g3]
 have h1:parR x s hand=bodyS (stF x.2 hand) s:=by unfold parR;rw [if_pos hpe]
 have h2':parP x s hand=posS (stF x.2 hand) s:=by unfold parP;rw [if_pos hpe]
 rw [h1,h2',hpe] at h
 unfold drw
 have ed:=qw w39
 have Ed:=qb E39 ed
 have eed:=qb ee ed
 have Cd:=B37.ext ed
 have hbd:=(h3.ext e39).ext ed
 generalize w39.drew=wd at *
 have hbl:(bodyS (stF x.2 hand) s).len≤1000000:=by
  have h5:(bodyS (stF x.2 hand) s).len≤(stF x.2 hand).len:=by
   unfold bodyS
   cases hc:cutS (stF x.2 hand) s with
   | none=>simp
   | some q =>
    obtain ⟨p,r⟩:=q
    obtain ⟨m,ps,h6,_⟩:=qmp hc
    have h7:=congrArg Fo.len h6
    have h8:=congrArg Fo.len (qbb r)
    rw [Fo.len_app] at h7 h8
    simp at h7
    show (bodyF r).len≤_
    omega
  have:=(stF x.2 hand).len_le_size
  omega
 have cl:∀ {Q:Ending→World→Prop},(∀ a' n' c' v,SlF (fun k=>(S k∧k < w.heap.size)∨w8.heap.size≤k) v a' n' (bodyS (stF x.2 hand) s)→Ext wd v→Q (.returned (.slice a' n' c')) v)→Calls prog 74 ⟨[.slice a3 n3 c3]⟩ wd Q:=fun hQ =>
  CloneF_spec _ hbl hbd fun a' n' c' v _ h' ev=>hQ a' n' c' v (h'.imp fun k hk _=>by
   have:=e12.size;have:=e25.size;have:=eed.size
   rcases hk with ((hk | hk) | hk) | hk
   ·exact .inl hk
   ·right;omega
   ·right;omega
   ·right;omega) ev
 obtain ⟨y0,y1⟩:=blk2w Cd
 have last:∀ a' n' c' v,SlF (fun k=>(S k∧k < w.heap.size)∨w8.heap.size≤k) v a' n' (bodyS (stF x.2 hand) s)→Ext wd v→stL v ⟨b7,0,none⟩ 0 [.string ⟨⟨(posS (stF x.2 hand) s).1⟩⟩,.int .i64 (posS (stF x.2 hand) s).2] fun w49=>∃ x50:List UInt8,w49.cell? ((⟨b7,0,none⟩:Addr).add 0)=some (.string ⟨⟨x50⟩⟩)∧(∃ x51:Int,w49.cell? ((⟨b7,0,none⟩:Addr).add 1)=some (.int .i64 x51)∧(R (.returned (.tuple ⟨[.slice a' n' c',.agg ⟨[.string ⟨⟨x50⟩⟩,.int .i64 x51]⟩,.int .i64 0]⟩)) w49)):=by
  intro a' n' c' v h' ev
  refine stPos ((B7.ext eed).ext ev) fun v' q1 q2 q3=>?_
  obtain ⟨y0,y1⟩:=blk2w q1
  exact ⟨_,y0,_,y1,h a' n' c' v' ((h'.chg q2 fun k hk hh=>by have:=B7.lt;have:=e6.size;omega).imp fun k hk _=>hk.imp (fun h=>h.1) fun h=>by have:=E8.size;omega) (qi (qb Ed ev) q2 fun k hk=>by have:=e6.size;omega)⟩
 refine ⟨cl fun a' n' c' v h' ev=>⟨_,_,_,rfl,?_⟩,⟨_,y0,_,y1,cl fun a' n' c' v h' ev=>⟨_,_,_,rfl,last a' n' c' v h' ev,trivial⟩,trivial⟩,trivial⟩
 obtain ⟨t0,t1⟩:=blk2w (Cd.ext ev)
 exact ⟨_,t0,_,t1,last a' n' c' v h' ev,trivial⟩
end
section
variable {R:Ending→World→Prop} {w:World}
abbrev Src:=List UInt8 × Int × Int
def encSr:Enc Src:=⟨fun x=>[.string ⟨⟨x.1⟩⟩,.int .i64 x.2.1,.int .i64 x.2.2],3,fun _=>rfl,by decide,by intro x v hv;simp only [List.mem_cons,List.not_mem_nil,or_false] at hv;rcases hv with rfl | rfl | rfl <;> rfl⟩
theorem q4k {S:Nat→Prop} {a:Option Addr} {n i:Nat} {l:List Src} {x:Src} (hR:RowAt encSr S w a n l) (hi:l[i]? = some x) :
  ∃ q:Addr,(∀ K:Addr→Prop,K q→idx a n (i:Int) 3 K)∧w.cell? (q.add 0)=some (.string ⟨⟨x.1⟩⟩)∧w.cell? (q.add 1)=some (.int .i64 x.2.1)∧w.cell? (q.add 2)=some (.int .i64 x.2.2):=by
 obtain ⟨bb,o,hq,_,_,hc⟩:=hR.get hi
 exact ⟨_,hq,by rw [qg];exact hc 0 _ rfl,by rw [qg];exact hc 1 _ rfl,by rw [qg];exact hc 2 _ rfl⟩
theorem q86 {S S':Nat→Prop} {a a':Option Addr} {n n' c c':Nat} (L M:List Src) (hL:RowAt encSr S w a n L) (hM:RowAt encSr S' w a' n' M) (hb:n≤1000000000) (h:∀ w',Ext w w'→R (.returned (.bool (decide (L=M)))) w') :
  Calls prog qat ⟨[.slice a n c,.slice a' n' c']⟩ w R:=by
 apply qce
 have:=fun (h':qfh a n c a' n' c' R w)=>(show qan a n c a' n' c' R w from h')
 apply this
 have hl:=hL.1
 have hm:=hM.1
 refine qd (fun g=>?_) (fun g=>?_)
 ·have:¬ L=M:=fun e=>by rw [e] at hl;exact g (by omega)
  rw [decide_eq_false this] at h;exact h w (Below.refl _ _)
 refine ⟨fun i W m=>∃ k:Nat,i=k∧k≤n∧m=n - k∧L.take k=M.take k∧Ext w W,⟨_,0,rfl,by omega,rfl,rfl,Below.refl _ _⟩,?_⟩
 rintro _ W m ⟨k,rfl,hk,rfl,hz,he⟩ _
 refine qd (fun hlt=>?_) (fun hge=>?_)
 ·have hkl:k < L.length:=by omega
  have hkm:k < M.length:=by omega
  unfold drw
  have ed:=qb he (qw W)
  obtain ⟨q,hq,c0,c1,c2⟩:=q4k (hL.ext ed) (show L[k]? = some L[k] by simp [hkl])
  obtain ⟨q',hq',d0,d1,d2⟩:=q4k (hM.ext ed) (show M[k]? = some M[k] by simp [hkm])
  refine hq _ ⟨_,c0,_,c1,_,c2,hq' _ ⟨_,d0,_,d1,_,d2,qm (fun g2=>?_) (fun g2=>?_)⟩⟩
  ·have:¬ L=M:=fun e=>by
    subst e
    simp at g2
   rw [decide_eq_false this] at h;exact h _ ed
  ·refine ⟨n - (k + 1),by omega,k + 1,by rw [ql (by omega)],by omega,rfl,?_,ed⟩
   rw [List.take_succ_eq_append_getElem hkl,List.take_succ_eq_append_getElem hkm,hz]
   congr 1
   simp only [Bool.not_eq_false',Bool.and_eq_true,decide_eq_true_eq,and_true] at g2
   rw [Prod.ext g2.1 (Prod.ext g2.2.1 g2.2.2)]
 ·rw [List.take_of_length_le (by omega),List.take_of_length_le (by omega)] at hz
  rw [decide_eq_true hz] at h;exact h W he
end
section
variable {R:Ending→World→Prop} {S:Nat→Prop} {w:World} {a:Option Addr} {n c:Nat}
end
def qhu (i:Nat) (x:Wt):List Src:=if qae x.2 8=[] then [(x.1,(i:Int),0)] else (x.1++[42],(i:Int),0) :: (qae x.2 8).map fun h=>(x.1++[UInt8.ofNat (48 + h.toNat)],(i:Int),h)
def allS:List Wt→Nat→List Src
 | [],_=>[]
 | x :: l,i=>qhu i x++allS l (i + 1)
theorem q8v:∀ (l:List Wt) (x:Wt) (i:Nat),allS (l++[x]) i=allS l i++qhu (i + l.length) x
 | [],x,i=>by simp [allS]
 | y :: l,x,i=>by
  rw [List.cons_append,allS,q8v l x (i + 1),allS,List.append_assoc,List.length_cons]
  congr 3;omega
theorem srcs_len (i:Nat) (x:Wt):(qhu i x).length≤9:=by
 have:=qo3 x.2 8
 unfold qhu
 split
 ·simp
 ·simp;omega
theorem allS_len:∀ (l:List Wt) (i:Nat),(allS l i).length≤9 * l.length
 | [],_=>by simp [allS]
 | x :: l,i=>by
  have h1:=srcs_len i x
  have h2:=allS_len l (i + 1)
  rw [allS,List.length_append,List.length_cons];omega
theorem q6g:∀ {l:List Wt} {i:Nat} {y:Src},y∈allS l i→∃ k x,l[k]? = some x∧y∈qhu (i + k) x
 | [],_,_,h=>by cases h
 | x :: l,i,y,h=>by
  rw [allS] at h
  rcases List.mem_append.1 h with h1 | h1
  ·exact ⟨0,x,rfl,h1⟩
  ·obtain ⟨k,z,h2,h3⟩:=q6g h1
   exact ⟨k + 1,z,by simpa using h2,by rw [show i + (k + 1)=i + 1 + k by omega];exact h3⟩
theorem srcs_name {i:Nat} {x:Wt} {y:Src} (h:y∈qhu i x):y.1.length≤x.1.length + 1:=by
 unfold qhu at h
 split at h
 ·rw [List.mem_singleton] at h;rw [h];exact Nat.le_succ _
 ·rw [List.mem_cons,List.mem_map] at h
  rcases h with rfl | ⟨j,_,rfl⟩
  ·simp
  ·simp
def srcE (L:List Wt):Int:=if chkW L≠0 then chkW L else if ((allS L 0).map (·.1)).Nodup then (if 32 < (allS L 0).length then 4 else 0) else 7
def srcR (L:List Wt):List Src:=if srcE L=0 then allS L 0 else []
theorem dig_one {h:Nat} (hh:h < 10):Lib.decDigits h=[UInt8.ofNat (48 + h)]:=by
 unfold Lib.decDigits;rw [dif_pos hh]
theorem hands_bd {f:Fo} {x:Int} (h:x∈qae f 8):1≤x∧x≤8:=by
 refine ⟨?_,handsTo_le f 8 x h⟩
 simp only [qae,List.mem_filter,List.mem_map,List.mem_range] at h
 obtain ⟨⟨i,hi,rfl⟩,_⟩:=h
 omega
theorem most_bd {f:Fo} (h:okF false f):∃ m:Nat,mostN (qj f)=m∧m≤8:=by
 have h1:=(q99 (qj f) 0).1
 have h2:=most_le 8 (qj f) 0 (by decide) fun x hx hk=>(qo2 h x hx hk).2
 have h1:0≤mostN (qj f):=h1
 have h2:mostN (qj f)≤8:=h2
 exact ⟨(mostN (qj f)).toNat,by omega,by omega⟩
theorem qzv {L:List Wt} (h:chkW L=0):L.length≤32∧∀ x∈L,witE x=0:=by
 unfold chkW at h
 split at h
 ·cases h
 rename_i h1
 split at h
 ·cases h
 rename_i h2
 refine ⟨by omega,fun x hx=>?_⟩
 apply Decidable.not_not.1
 intro hn
 exact h2 (List.any_eq_true.2 ⟨x,hx,decide_eq_true hn⟩)
theorem wit_name {x:Wt} (h:witE x=0):qp x.1=true∧x.1.length≤14:=by
 unfold witE at h
 split at h
 ·cases h
 ·rename_i h1
  rw [not_or] at h1
  exact ⟨by simpa using h1.1,by omega⟩
theorem q9n:SlT prog 27 65 3 32 (.agg #[.string ⟨⟨[]⟩⟩,.int .i64 0,.int .i64 0]):=⟨by kernel_rfl,by kernel_rfl,rfl,by decide⟩
section
variable {R:Ending→World→Prop} {w:World}
theorem HandsW_spec {S:Nat→Prop} {a:Option Addr} {n c:Nat} (f:Fo) (hs:small f) (hF:Forms w) (hf:SlF S w a n f) (hc0:qad f=0)
  (h:∀ a' n' c' w',Owns w' w.heap.size 3 1 a' n' c' (intV (qae f 8))→Ext w w'→R (.returned (.tuple ⟨[.slice a' n' c',.int .i64 0]⟩)) w'):Calls prog qjj ⟨[.slice a n c]⟩ w R:=by
 obtain ⟨m,hm,hm8⟩:=most_bd (qxq hc0)
 have:=qvm m hm (8 - m)
 rw [show m + (8 - m)=8 by omega] at this
 refine HandsL_spec f m hm hm8 hs hF hf hc0 fun a' n' c' w' ho he=>h a' n' c' w' (by rw [this];exact ho) he
theorem q81 {h:Int} (h1:0≤h) (h9:h < 10) (hk:R (.returned (.string ⟨⟨[UInt8.ofNat (48 + h.toNat)]⟩⟩)) w):Calls prog 59 ⟨[.int .i64 h]⟩ w R:=by
 have hmm:h=((h.toNat:Nat):Int):=by omega
 have hI:=Tryz.strconv_Itoa_small h.toNat (by omega) w
 rw [← hmm] at hI
 refine hI.mono ?_
 rintro _ _ ⟨rfl,rfl⟩
 rw [dig_one (by omega)]
 exact hk
theorem qvq {S:Nat→Prop} {a:Option Addr} {n c:Nat} (L:List Wt) (hs:∀ x∈L,small x.2) (hF:Forms w) (hR:SlW S w a n L)
  (h:∀ a' n' c' w',OwnL encSr w' w.heap.size 65 a' n' c' (srcR L)→Ext w w'→R (.returned (.tuple ⟨[.slice a' n' c',.int .i64 (srcE L)]⟩)) w'):Calls prog qii ⟨[.slice a n c]⟩ w R:=by
 apply quf
 have bad:∀ (e:Int) (v:World),Ext w v→srcE L=e→e≠0→R (.returned (.tuple ⟨[.slice none 0 0,.int .i64 e]⟩)) v:=by
  intro e v ev he h0
  have h1:srcR L=[]:=by unfold srcR;rw [if_neg (by omega)]
  rw [h1,he] at h
  exact h none 0 0 v (Owns.nil _ _ _ _) ev
 refine qzw L hs hF hR fun w3 e3=>⟨_,rfl,qd (fun g=>bad _ w3 e3 (by unfold srcE;rw [if_pos g]) g) (fun g=>?_)⟩
 have g0:chkW L=0:=Decidable.not_not.1 g
 obtain ⟨hl32,hwit⟩:=qzv g0
 have hln:=hR.1
 have z3:=e3.size
 refine ⟨fun oa on oc i W m=>∃ k:Nat,i=k∧k≤n∧m=n - k∧OwnL encSr W w.heap.size 65 oa on oc (allS (L.take k) 0)∧Ext w W,⟨_,0,rfl,by omega,rfl,Owns.nil _ _ _ _,e3⟩,?_⟩
 rintro oa on oc _ W m ⟨k,rfl,hk,rfl,hO,he⟩ _
 have hon:=OwnL.length hO
 have hal:=allS_len (L.take k) 0
 rw [List.length_take] at hal
 have zW:=he.size
 refine qd (fun hlt=>?_) (fun hge=>?_)
 ·have hkl:k < L.length:=by omega
  obtain ⟨q,a',c',hq,c0,c1,hf⟩:=(hR.ext he).get (show L[k]? = some L[k] by simp [hkl])
  have hx:=hwit L[k] (List.getElem_mem hkl)
  have hnm:=wit_name hx
  have htk:L.take (k + 1)=L.take k++[L[k]]:=List.take_succ_eq_append_getElem hkl
  have hall:allS (L.take (k + 1)) 0=allS (L.take k) 0++qhu k L[k]:=by
   rw [htk,q8v,List.length_take,Nat.zero_add,Nat.min_eq_left (by omega)]
  generalize hxe:L[k]=x at *
  have hsx:small x.2:=by rw [← hxe];exact hs _ (List.getElem_mem hkl)
  refine hq _ ⟨_,c0,_,_,_,c1,?_⟩
  refine qx rfl one2 fun b14 w16 hb14 B14 e16 s16=>?_
  obtain ⟨y0,y1⟩:=blk2w B14
  have E16:=qb he e16
  refine ⟨_,_,_,y1,HandsW_spec x.2 hsx (hF.ext E16) (hf.ext e16) (qxz hx) fun ha hn hc w19 hH e19=>⟨_,_,_,_,rfl,qd (fun gg=>absurd rfl gg) (fun _=>?_)⟩⟩
  have E19:=qb E16 e19
  have z16:=e16.size
  have z19:=e19.size
  have e1619:=qb e16 e19
  have hhl:(qae x.2 8).length=hn:=by have:=hH.1;simpa using this
  have hh8:=qo3 x.2 8
  have C14:=B14.ext e19
  have hO19:=Owns.ext hO e1619
  have hbO:∀ j,bk oa j→j < W.heap.size:=fun j hj=>(hO.bk hj).2
  refine qd (fun gz=>?_) (fun gz=>?_)
  ·have hnil:qae x.2 8=[]:=List.eq_nil_of_length_eq_zero (by omega)
   have hso:qhu k x=[(x.1,(k:Int),0)]:=by unfold qhu;rw [if_pos hnil]
   refine ⟨_,(blk2w C14).1,?_⟩
   refine OwnL.push (E:=encSr) q9n hO19 (by omega) (x.1,(k:Int),0) (by omega) (by omega) fun a25 c25 w26 ho hc' hn'=>?_
   refine ⟨n - (k + 1),by omega,k + 1,by rw [ql (by omega)],by omega,rfl,by rw [hall,hso];exact ho,qi E19 hc' fun j hj=>(hO.bk hj).1⟩
  ·have hne:qae x.2 8≠[]:=fun hh=>gz (by rw [hh] at hhl;simp at hhl;omega)
   have hso:qhu k x=(x.1++[42],(k:Int),0) :: (qae x.2 8).map fun h=>(x.1++[UInt8.ofNat (48 + h.toNat)],(k:Int),h):=by unfold qhu;rw [if_neg hne]
   refine ⟨_,(blk2w C14).1,q9o (by simp;omega) ?_⟩
   refine OwnL.push (E:=encSr) q9n hO19 (by omega) (x.1++[42],(k:Int),0) (by omega) (by omega) fun a32 c32 w33 ho hc' hn'=>?_
   have E33:=qi E19 hc' fun j hj=>(hO.bk hj).1
   refine ⟨fun ob obn obc i W2 m=>∃ t:Nat,i=t∧t≤hn∧m=hn - t∧OwnL encSr W2 w.heap.size 65 ob obn obc (allS (L.take k) 0++[(x.1++[42],(k:Int),0)]++((qae x.2 8).take t).map fun h=>(x.1++[UInt8.ofNat (48 + h.toNat)],(k:Int),h))∧(∀ j,bk ob j→j≠b14∧¬ bk ha j)∧Blk W2 b14 [.string ⟨⟨x.1⟩⟩,.slice a' x.2.len c'] 45∧Owns W2 w16.heap.size 3 1 ha hn hc (intV (qae x.2 8))∧Ext w W2,
    ⟨_,0,rfl,by omega,rfl,by simpa using ho,fun j hj=>?_,hc'.blk C14 (fun hh=>by have:=hbO _ hh;omega),hH.chg hc' (fun j hj hh=>by have:=hbO _ hh;have:=(hH.bk hj).1;omega),E33⟩,?_⟩
   ·rcases hn' j hj with h1 | h1
    ·have:=hbO j h1
     exact ⟨by omega,fun hh=>by have:=(hH.bk hh).1;omega⟩
    ·exact ⟨by omega,fun hh=>by have:=(hH.bk hh).2;omega⟩
   rintro ob obn obc _ W2 m ⟨t,rfl,ht,rfl,pO,pD,pB,pH,pE⟩ _
   have pon:=OwnL.length pO
   simp only [List.length_append,List.length_cons,List.length_nil,List.length_map,List.length_take] at pon
   have zW2:=pE.size
   refine qd (fun hlt2=>?_) (fun hge2=>?_)
   ·have hth:t < (qae x.2 8).length:=by omega
    refine owns_int pH hth _ fun p hp=>⟨_,hp,?_⟩
    have hbd:=hands_bd (List.getElem_mem hth)
    have htt:(qae x.2 8).take (t + 1)=(qae x.2 8).take t++[(qae x.2 8)[t]]:=List.take_succ_eq_append_getElem hth
    unfold drw
    have ed:=qw W2
    have qO:=Owns.ext pO ed
    have qB:=pB.ext ed
    have qH:=Owns.ext pH ed
    have qE:=qb pE ed
    generalize W2.drew=wd at *
    obtain ⟨d0,_⟩:=blk2w qB
    have zd:=qE.size
    generalize (qae x.2 8)[t]=hh at *
    have last:al wd 65 [.string ⟨⟨x.1++[UInt8.ofNat (48 + hh.toNat)]⟩⟩,.int .i64 (k:Int),.int .i64 hh] fun p48 w49=>app prog [27,27] 27 (.slice ob obn obc) (.slice (some p48) 1 1) w49 fun a50 a50n a50c w51 =>
      ∃ m52:Nat,m52 < hn - t∧∃ t':Nat,i64.wrap ((t:Int) + 1)=t'∧t'≤hn∧m52=hn - t'∧OwnL encSr w51 w.heap.size 65 a50 a50n a50c (allS (L.take k) 0++[(x.1++[42],(k:Int),0)]++((qae x.2 8).take t').map fun h=>(x.1++[UInt8.ofNat (48 + h.toNat)],(k:Int),h))∧(∀ j,bk a50 j→j≠b14∧¬ bk ha j)∧Blk w51 b14 [.string ⟨⟨x.1⟩⟩,.slice a' x.2.len c'] 45∧Owns w51 w16.heap.size 3 1 ha hn hc (intV (qae x.2 8))∧Ext w w51:=by
     refine OwnL.push (E:=encSr) q9n qO (by omega) (x.1++[UInt8.ofNat (48 + hh.toNat)],(k:Int),hh) (by omega) (by omega) fun a50 c50 w51 ro rc rn=>?_
     refine ⟨hn - (t + 1),by omega,t + 1,by rw [ql (by omega)],by omega,rfl,?_,fun j hj=>?_,rc.blk qB (fun hh=>(pD _ hh).1 rfl),qH.chg rc (fun j hj hh=>(pD _ hh).2 hj),qi qE rc fun j hj=>(qO.bk hj).1⟩
     ·rw [htt,List.map_append,← List.append_assoc];exact ro
     ·rcases rn j hj with h1 | h1
      ·exact pD j h1
      ·have:=qB.lt
       exact ⟨by omega,fun hh=>by have:=(qH.bk hh).2;omega⟩
    refine ⟨⟨_,d0,q81 (by omega) (by omega) ⟨_,rfl,q9o (by simp;omega) ⟨?_,trivial⟩⟩,trivial⟩,q81 (by omega) (by omega) ⟨_,rfl,_,d0,q9o (by simp;omega) ⟨?_,trivial⟩⟩,trivial⟩
    ·exact And.intro last trivial
    ·exact And.intro last trivial
   ·have:t=hn:=by omega
    subst this
    rw [show (qae x.2 8).take t=qae x.2 8 from List.take_of_length_le (by omega)] at pO
    refine ⟨n - (k + 1),by omega,k + 1,by rw [ql (by omega)],by omega,rfl,?_,pE⟩
    rw [hall,hso]
    rw [List.append_assoc] at pO
    exact pO
 ·have hkn:k=L.length:=by omega
  rw [List.take_of_length_le (by omega)] at hO hon hal
  have hRow:=OwnL.out hO
  have hnod:srcE L=if ((allS L 0).map (·.1)).Nodup then (if 32 < (allS L 0).length then 4 else 0) else 7:=by unfold srcE;rw [if_neg g]
  refine qrd fun b64 w65 hb64 hm64 e65 s65=>?_
  have E65:=qb he e65
  have z65:=e65.size
  refine ⟨fun i W2 m=>∃ (t:Nat) (f2:List UInt8→Option Bool),i=t∧t≤on∧m=on - t∧MapT prog 9 eS eB W2 b64 t f2∧(∀ s,(f2 s).getD false=decide (s∈((allS L 0).take t).map (·.1)))∧(((allS L 0).take t).map (·.1)).Nodup∧Chg (fun j=>j=b64) w65 W2,
   ⟨_,0,fun _=>none,rfl,by omega,rfl,hm64 _ _ _ _,fun s=>by simp,by simp,Chg.refl _ _⟩,?_⟩
  rintro _ W2 m ⟨t,f2,rfl,ht,rfl,M2,hf2,hnd,hc2⟩ _
  have EW2:Ext w W2:=qi E65 hc2 fun j hj=>by omega
  have O2:=(Owns.ext hO e65).chg hc2 (fun j hj hh=>by have:=(hO.bk hj).2;omega)
  have R2:=OwnL.out (E:=encSr) O2
  refine qd (fun hlt2=>?_) (fun hge2=>?_)
  ·have htl:t < (allS L 0).length:=by omega
   obtain ⟨q,hq,d0,d1,d2⟩:=q4k R2 (show (allS L 0)[t]? = some (allS L 0)[t] by simp [htl])
   have htt:(allS L 0).take (t + 1)=(allS L 0).take t++[(allS L 0)[t]]:=List.take_succ_eq_append_getElem htl
   have hsub:List.Sublist (((allS L 0).take (t + 1)).map (·.1)) ((allS L 0).map (·.1)):=(List.take_sublist _ _).map _
   have hyl:((allS L 0)[t]).1.length≤4611686018427387904:=by
    obtain ⟨i,x,hx,hy⟩:=q6g (List.getElem_mem htl)
    have h1:=srcs_name hy
    have h2:=(wit_name (hwit x (List.mem_of_getElem? hx))).2
    omega
   generalize (allS L 0)[t]=y at *
   refine hq _ ⟨_,d0,_,d1,_,d2,?_⟩
   refine qx rfl (by intro u hu;simp only [List.mem_cons,List.not_mem_nil,or_false] at hu;rcases hu with rfl | rfl | rfl <;> rfl) fun b75 w77 hb75 B75 e77 s77=>?_
   have k0:w77.cell? ((⟨b75,0,none⟩:Addr).add 0)=some (.string ⟨⟨y.1⟩⟩):=by rw [qg,B75.cell];rfl
   have M77:=M2.ext e77
   have hlk:=MapT.look (eV:=eB) M77 kd9 (t:=95) (e:=4) (by kernel_rfl) (z:=.bool false) (qw9 (by kernel_rfl) w77) (keyS hyl)
   refine ⟨_,k0,(f2 y.1).getD false,?_,?_⟩
   ·cases hv:f2 y.1 with
    | none=>rw [hv] at hlk;exact hlk
    | some v=>rw [hv] at hlk;exact hlk
   rw [hf2]
   refine qd (fun gm=>?_) (fun gm=>?_)
   ·refine bad 7 w77 (qb EW2 e77) ?_ (by decide)
    rw [hnod,if_neg]
    intro hn2
    have:=hn2.sublist hsub
    rw [htt,List.map_append,List.nodup_append] at this
    exact this.2.2 y.1 gm y.1 (by simp) rfl
   ·refine ⟨_,k0,?_⟩
    refine MapT.update (eV:=eB) (v:=true) M77 kd9 (t:=95) (e:=4) (by kernel_rfl) (by simp only [maxLen];omega) (keyS hyl) (fun z hz=>by simpa using hz) fun w81 g81 M81 hc81 hv81 ho81=>?_
    have hc81':Chg (fun j=>j=b64) w77 w81:=hc81
    refine ⟨on - (t + 1),by omega,t + 1,g81,by rw [ql (by omega)],by omega,rfl,M81,fun s=>?_,?_,(hc2.trans (Chg.of_ext e77)).trans hc81'⟩
    ·rw [htt,List.map_append]
     by_cases hsy:s=y.1
     ·rw [hsy,hv81];simp
     ·rw [ho81 s hsy,hf2];simp [hsy]
    ·rw [htt,List.map_append,List.nodup_append]
     refine ⟨hnd,by simp,fun p hp q hq hpq=>gm ?_⟩
     rw [List.map_singleton,List.mem_singleton] at hq
     rw [← hq,← hpq];exact hp
  ·have:t=on:=by omega
   subst this
   rw [List.take_of_length_le (by omega)] at hnd
   rw [if_pos hnd] at hnod
   refine qd (fun g3=>bad 4 W2 EW2 (by rw [hnod,if_pos (by omega)]) (by decide)) (fun g3=>?_)
   rw [if_neg (by omega)] at hnod
   have h1:srcR L=allS L 0:=by unfold srcR;rw [if_pos hnod]
   rw [h1,hnod] at h
   exact h oa t oc W2 O2 EW2
end
abbrev Nm:=List UInt8
def ddS:List Nm→List Nm→List Nm
 | acc,[]=>acc
 | acc,s :: l=>ddS (if s∈acc then acc else acc++[s]) l
theorem ddS_app:∀ (l m acc:List Nm),ddS acc (l++m)=ddS (ddS acc l) m
 | [],m,acc=>rfl
 | s :: l,m,acc=>by rw [List.cons_append,ddS,ddS_app l m,ddS]
theorem ddS_snoc (acc l:List Nm) (s:Nm):ddS acc (l++[s])=if s∈ddS acc l then ddS acc l else ddS acc l++[s]:=by
 rw [ddS_app];rfl
theorem mem_ddS:∀ {l acc:List Nm} {x:Nm},x∈ddS acc l↔x∈acc∨x∈l
 | [],acc,x=>by simp [ddS]
 | s :: l,acc,x=>by
  rw [ddS,mem_ddS,List.mem_cons]
  split
  ·rename_i h
   constructor
   ·rintro (h1 | h1)
    ·exact .inl h1
    ·exact .inr (.inr h1)
   ·rintro (h1 | rfl | h1)
    ·exact .inl h1
    ·exact .inl h
    ·exact .inr h1
  ·rw [List.mem_append,List.mem_singleton,or_assoc]
theorem q5k:∀ (l acc:List Nm),(ddS acc l).length≤acc.length + l.length
 | [],acc=>by simp [ddS]
 | s :: l,acc=>by
  have:=q5k l (if s∈acc then acc else acc++[s])
  rw [ddS,List.length_cons]
  split at this
  ·rename_i h;rw [if_pos h];omega
  ·rename_i h;rw [if_neg h];simp at this;omega
theorem find_pre {α:Type} {P:α→Bool} {p:List α} {x:α} (r:List α) (h:p.find? P=none) (hx:P x=true):(p++x :: r).find? P=some x:=by
 rw [List.find?_append,h,List.find?_cons,hx];rfl
theorem idxw_at {own:List Nm} {s:Nm} {j:Nat} (hj:j < own.length) (hs:own[j]=s) (hn:s∉own.take j):own.idxOf s=j:=by
 have h1:own=own.take j++own.drop j:=(List.take_append_drop j own).symm
 have h2:own.drop j=s :: own.drop (j + 1):=by rw [List.drop_eq_getElem_cons hj,hs]
 conv=>lhs;arg 2;rw [h1]
 rw [List.idxOf_append,if_neg hn,h2,List.idxOf_cons_self,List.length_take]
 omega
theorem idxw_ge {own:List Nm} {s:Nm} {j:Nat} (hj:j≤own.length) (hn:s∉own.take j):j≤own.idxOf s:=by
 have h1:own=own.take j++own.drop j:=(List.take_append_drop j own).symm
 have h3:own.idxOf s=(own.drop j).idxOf s + (own.take j).length:=by
  conv=>lhs;arg 2;rw [h1]
  rw [List.idxOf_append,if_neg hn]
 rw [h3,List.length_take];omega
def okO (tk:List Nm) (s:Nm) (own:List Nm):Bool:=!decide (s∈own)||(own.take (own.idxOf s)).all fun o=>decide (o∈tk)
def freeB (A:List (List Nm)) (tk:List Nm) (s:Nm):Bool:=A.all (okO tk s)
def canB (A:List (List Nm)) (tk:List Nm) (s:Nm):Bool:=!decide (s∈tk)&&freeB A tk s
def nextS (A:List (List Nm)) (tk:List Nm):Option Nm:=A.flatten.find? (canB A tk)
def ordG (A:List (List Nm)):Nat→List Nm→Option (List Nm)
 | 0,out=>some out
 | m + 1,out=>match nextS A out with
  | none=>none
  | some s=>ordG A m (out++[s])
def secL (L:List Wt):List (List Nm):=L.map fun x=>secs x.2
def ddL (L:List Wt):List Nm:=ddS [] (secL L).flatten
theorem okO_past {tk:List Nm} {s:Nm} {own:List Nm} (h:s∉own):okO tk s own=true:=by
 unfold okO;rw [decide_eq_false h];rfl
theorem okO_at {tk:List Nm} {s:Nm} {own:List Nm} {j:Nat} (hj:j < own.length) (hs:own[j]=s) (hn:s∉own.take j) (ht:∀ o∈own.take j,o∈tk):okO tk s own=true:=by
 unfold okO
 rw [idxw_at hj hs hn,Bool.or_eq_true,List.all_eq_true]
 exact .inr fun o ho=>decide_eq_true (ht o ho)
theorem okO_bad {tk:List Nm} {s:Nm} {own:List Nm} {j:Nat} (hj:j < own.length) (hm:s∈own) (hn:s∉own.take (j + 1)) (ht:own[j]∉tk):okO tk s own=false:=by
 have h1:=idxw_ge (by omega) hn
 unfold okO
 rw [decide_eq_true hm,Bool.not_true,Bool.false_or,List.all_eq_false]
 refine ⟨own[j],?_,by simpa using ht⟩
 exact List.mem_take_iff_getElem.2 ⟨j,by have:=List.idxOf_le_length (a:=s) (l:=own);omega,rfl⟩
theorem nextS_mem {A:List (List Nm)} {tk:List Nm} {s:Nm} (h:nextS A tk=some s):s∈A.flatten∧s∉tk∧freeB A tk s=true:=by
 have h1:=List.find?_some h
 unfold canB at h1
 simp only [Bool.and_eq_true,Bool.not_eq_true',decide_eq_false_iff_not] at h1
 exact ⟨List.mem_of_find?_eq_some h,h1⟩
end Go.Proofs
namespace Go.Sh
open Go Go.RowKit
section
variable {α:Type} {E:Enc α} {w:World} {B:Nat} {e:TypeId} {a:Option Addr} {n c:Nat} {l:List α}
end
end Go.Sh
namespace Go.Proofs
open Go Go.Sh Go.RowKit Go.Proofs.Tryz IntKind
theorem get_str {S:Nat→Prop} {w:World} {a:Option Addr} {n:Nat} {L:List (List UInt8)} (h:RowAt Sh.encStr S w a n L) {k:Nat} (hk:k < L.length) :
  ∃ q:Addr,(∀ K:Addr→Prop,K q→idx a n (k:Int) 1 K)∧w.cell? q=some (.string ⟨⟨L[k]⟩⟩):=by
 obtain ⟨bb,o,hq,_,_,hc⟩:=h.get (i:=k) (x:=L[k]) (List.getElem?_eq_getElem hk)
 exact ⟨⟨bb,o,none⟩,hq,hc 0 _ rfl⟩
theorem qn4 {R:Ending→World→Prop} {S:Nat→Prop} {w:World} {a:Option Addr} {n c:Nat} {L:List (List UInt8)} (v:List UInt8) (h1:RowAt Sh.encStr S w a n L) (hs:n≤4611686018427387904)
  (h:R (.returned (.bool (decide (v∈L)))) w):Calls prog qa6 ⟨[.slice a n c,.string ⟨⟨v⟩⟩]⟩ w R:=by
 apply qde
 have hn:=h1.1
 apply qen
 refine ⟨fun i W m=>∃ k:Nat,i=k∧k≤n∧m=n - k∧v∉L.take k∧W=w,⟨_,0,rfl,by omega,rfl,by simp,rfl⟩,?_⟩
 rintro _ W m ⟨k,rfl,hk,rfl,hno,rfl⟩ _
 refine qd (fun hlt=>?_) (fun hge=>?_)
 ·have hkL:k < L.length:=by omega
  obtain ⟨p,hp1,hc⟩:=get_str h1 hkL
  refine hp1 _ ⟨_,hc,qd (fun g=>?_) (fun g=>?_)⟩
  ·refine ⟨_,rfl,?_⟩
   rw [decide_eq_true (show (0:Int)≤(k:Int) by omega)]
   rw [decide_eq_true (show v∈L by rw [g];exact List.getElem_mem hkL)] at h
   exact h
  ·refine ⟨n - (k + 1),by omega,k + 1,by rw [ql (by omega)],by omega,rfl,?_,rfl⟩
   rw [List.take_add_one,List.getElem?_eq_getElem hkL,List.mem_append]
   rintro (hh | hh)
   ·exact hno hh
   ·simp at hh;exact g hh
 ·refine ⟨_,rfl,?_⟩
  rw [List.take_of_length_le (by omega)] at hno
  rw [decide_eq_false hno] at h
  exact h
end Go.Proofs
