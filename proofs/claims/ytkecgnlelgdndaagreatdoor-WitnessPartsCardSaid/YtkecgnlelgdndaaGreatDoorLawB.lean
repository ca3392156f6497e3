/- The contracts of the functions that the law reaches, one after the other, and at the end the law's card. -/
import Derived.Test.YtkecgnlelgdndaaGreatDoorLawA
set_option linter.all false
set_option maxRecDepth 20000
namespace Go.Proofs
open Go Go.Sh Go.RowKit Go.Proofs.Tryz IntKind
theorem q6y (f g:Fo):(f.app g).depth=max f.depth g.depth:=by
 induction f with
 | nil=>simp [Fo.depth]
 | cons k t n ps r _ ih=>simp only [Fo.cons_app,Fo.depth_parts,ih];omega
def szF (f:Fo) (depth most:Nat):List Value:=if f.size≤most∧f.depth≤depth then [.int .i64 f.size,.int .i64 f.depth,.bool true] else [.int .i64 0,.int .i64 0,.bool false]
theorem qwi {S:Nat→Prop}:∀ (f:Fo) {R:Ending→World→Prop} {w:World} {a:Option Addr} {n c:Nat} (d most:Nat) (hd:d≤4611686018427387904) (hm:most≤4611686018427387904) (hf:SlF S w a n f)
  (h:∀ w',Ext w w'→R (.returned (.tuple ⟨szF f d most⟩)) w'),Calls prog qt8 ⟨[.slice a n c,.int .i64 (d:Int),.int .i64 (most:Int)]⟩ w R:=by
 intro f
 induction hz:f.size using Nat.strongRecOn generalizing f with
 | _ z ih =>
 intro R w a n c d most hd hm hf h
 apply q66
 have hn:=hf.1
 refine ⟨fun k deep i W m=>∃ (pre r:Fo),f=pre.app r∧i=pre.len∧k=pre.size∧deep=pre.depth∧m=r.len∧Ext w W∧pre.size≤most∧pre.depth≤d,⟨_,.nil,f,rfl,rfl,rfl,rfl,rfl,Below.refl _ _,by simp [Fo.size],by simp [Fo.depth]⟩,?_⟩
 rintro _ _ _ W m ⟨pre,r,hpr,rfl,rfl,rfl,rfl,he,hs1,hs2⟩ _
 have hpl:=pre.len_le_size
 refine qd (fun hlt=>?_) (fun hge=>?_)
 ·obtain ⟨kd,t,mm,ps,r,rfl⟩:=Fo.next hpr (by omega)
  have hsl:=Fo.sub_len hpr
  have hsz:f.size=pre.size + (ps.size + r.size + 1):=by rw [hpr,Fo.size_app];rfl
  have hdp:f.depth=max pre.depth (max (if ps.len=0 then 0 else ps.depth + 1) r.depth):=by rw [hpr,q6y,Fo.depth_parts]
  obtain ⟨q,a',c',hq,hSq,hql,hN⟩:=(hf.ext he).get hpr
  have fail:¬ (f.size≤most∧f.depth≤d)→∀ w',Ext w w'→R (.returned (.tuple ⟨[.int .i64 0,.int .i64 0,.bool false]⟩)) w':=fun hno w' he'=>by
   have:=h w' he'
   rw [szF,if_neg hno] at this;exact this
  rw [qj (by omega)]
  have i1:i64.wrap ((pre.len:Int) + 1)=((pre.app (.one kd t mm ps)).len:Int):=by rw [qj (by omega)];simp [Fo.one]
  have e1:f=(pre.app (.one kd t mm ps)).app r:=by rw [Fo.app_one_app];exact hpr
  have z1:(pre.app (.one kd t mm ps)).size=pre.size + (ps.size + 1):=by rw [Fo.size_app];simp [Fo.one,Fo.size]
  have d1:(pre.app (.one kd t mm ps)).depth=max pre.depth (if ps.len=0 then 0 else ps.depth + 1):=by rw [q6y,Fo.one,Fo.depth_parts];simp [Fo.depth]
  refine qd (fun h1=>?_) (fun h1=>hq _ ⟨a',ps.len,c',hN.parts,?_⟩)
  ·exact fail (by omega) _ he
  refine qd (fun h2=>?_) (fun h2=>qd (fun h3=>?_) (fun h3=>hq _ ⟨a',ps.len,c',hN.parts,?_⟩))
  ·have hp0:ps=.nil:=Fo.eq_nil_of_len (by omega)
   subst hp0
   refine ⟨r.len,by simp,_,r,e1,i1,?_,?_,rfl,he,?_,?_⟩
   ·rw [z1];simp [Fo.size]
   ·rw [d1];simp
   ·rw [z1];simp [Fo.size];omega
   ·rw [d1];simp;omega
  ·refine fail ?_ _ he
   rw [hdp,if_neg (by omega)];omega
  ·rw [show i64.wrap ((d:Int) - 1)=((d - 1:Nat):Int) by rw [qu (by omega)];omega,
    show i64.wrap ((most:Int) - ((pre.size + 1:Nat):Int))=((most - (pre.size + 1):Nat):Int) by rw [qu (by omega)];omega]
   have hne:ps.len≠0:=by omega
   rw [if_neg hne] at hdp d1
   refine ih _ (hz ▸ Fo.sub_size hpr) ps rfl (d - 1) _ (by omega) (by omega) hN.sl fun w' he'=>?_
   by_cases hok:ps.size≤most - (pre.size + 1)∧ps.depth≤d - 1
   ·rw [szF,if_pos hok]
    refine ⟨_,_,_,rfl,?_⟩
    refine ⟨r.len,by simp,_,r,e1,i1,?_,?_,rfl,qb he he',?_,?_⟩
    ·rw [z1,qu (by omega)];omega
    ·rw [d1,qj (by omega)];omega
    ·rw [z1];omega
    ·rw [d1];omega
   ·rw [szF,if_neg hok]
    refine ⟨_,_,_,rfl,?_⟩
    exact fail (by omega) _ (qb he he')
 ·obtain ⟨rfl,rfl⟩:=Fo.last hpr (by omega)
  have:=h _ he
  rw [szF,if_pos ⟨hs1,hs2⟩] at this
  exact this
theorem qph {R:Ending→World→Prop} {w:World} (k:Int) (h1:1≤k) (h2:k≤11) (h:∀ w',Ext w w'→R (.returned (.string ⟨⟨tagF k⟩⟩)) w'):Calls prog qt9 ⟨[.int .i64 k]⟩ w R:=by
 apply q67
 refine qh fun b w' hb g1 g2 g3=>⟨by omega,by omega,dr_ok ⟨tagF k,?_,h _ g2⟩⟩
 rw [qg,g1.cell]
 rcases qlc h1 h2 with rfl | rfl | rfl | rfl | rfl | rfl | rfl | rfl | rfl | rfl | rfl <;> rfl
theorem all_spec {S:Nat→Prop}:∀ (f:Fo) {R:Ending→World→Prop} {w:World} {a:Option Addr} {n c:Nat} (within:Bool) (hs:small f) (hf:SlF S w a n f)
  (h:∀ w',Ext w w'→R (.returned (.int .i64 (allF f false within))) w'),Calls prog qza ⟨[.slice a n c,.bool within]⟩ w R:=by
 intro f
 induction hz:f.size using Nat.strongRecOn generalizing f with
 | _ z ih =>
 intro R w a n c within hs hf h
 unfold small at hs
 apply q9c
 have hn:=hf.1
 have hfl:=f.len_le_size
 refine ⟨fun i W m=>∃ (pre r:Fo) (bf:Bool),f=pre.app r∧i=pre.len∧m=r.len∧Ext w W∧allF f false within=allF r bf within∧((pre=.nil∧bf=false)∨∃ (p1:Fo) (k:Int) (t:List UInt8) (m:Int) (ps:Fo),pre=p1.app (.one k t m ps)∧bf=decide (k=1)),⟨_,.nil,f,false,rfl,rfl,rfl,Below.refl _ _,rfl,.inl ⟨rfl,rfl⟩⟩,?_⟩
 rintro _ W m ⟨pre,r,bf,hpr,rfl,rfl,he,heq,hbf⟩ _
 rw [heq] at h
 refine qd (fun hlt=>?_) (fun hge=>?_)
 ·obtain ⟨kd,t,mm,ps,r,rfl⟩:=Fo.next hpr (by omega)
  have hsl:=Fo.sub_len hpr
  have hsz:=Fo.sub_size hpr
  intro K hK
  have hd:=qb he (qs W)
  obtain ⟨q,a',c',hq,hSq,hql,hN⟩:=(hf.ext hd).get hpr
  have cont:∀ w2,Ext W.drew w2→K (qy kd t mm ps bf within) w2:=fun w2 he2=>by
   refine hK _ _ fun _=>?_
   rw [allF] at h heq
   have he3:=qb hd he2
   refine qd (fun g1=>?_) (fun g1=>?_)
   ·rw [if_pos g1] at h;exact h _ he3
   ·rw [if_neg g1] at h heq
    have hN2:=hN.ext hql he2
    refine hq _ ⟨a',ps.len,c',hN2.parts,?_⟩
    refine ih _ (hz ▸ hsz) ps rfl true (by unfold small;omega) hN2.sl fun w3 he4=>⟨_,rfl,?_⟩
    refine qd (fun g2=>?_) (fun g2=>?_)
    ·rw [if_pos g2] at h;exact h _ (qb he3 he4)
    ·rw [if_neg g2] at h heq
     refine ⟨r.len,by simp,pre.app (.one kd t mm ps),r,decide (kd=1),by rw [Fo.app_one_app];exact hpr,?_,rfl,qb he3 he4,heq,.inr ⟨pre,kd,t,mm,ps,rfl,rfl⟩⟩
     rw [qj (by omega)];simp [Fo.one]
  unfold drw
  refine hq _ ⟨kd,hN.kind,t,hN.text,mm,hN.num,a',ps.len,c',hN.parts,qd (fun g1=>?_) (fun g1=>?_)⟩
  ·rcases hbf with ⟨rfl,_⟩ | ⟨p1,k1,t1,m1,ps1,rfl,rfl⟩
   ·simp at g1
   rw [Fo.app_one_app] at hpr
   obtain ⟨q1,a1,c1,hq1,_,_,hN1⟩:=(hf.ext hd).get hpr
   have e:i64.wrap (((p1.app (.one k1 t1 m1 ps1)).len:Int) - 1)=(p1.len:Int):=by rw [qu (by omega)];simp [Fo.one]
   rw [e]
   refine hq1 _ ⟨k1,hN1.kind,?_,trivial⟩
   exact qwj kd t mm a' c' ps _ within fun w2 he2=>⟨_,rfl,cont _ he2⟩
  ·rcases hbf with ⟨rfl,rfl⟩ | ⟨p1,k1,t1,m1,ps1,rfl,rfl⟩
   ·refine ⟨qwj kd t mm a' c' ps _ within fun w2 he2=>⟨_,rfl,cont _ he2⟩,trivial⟩
   ·simp [Fo.one] at g1
 ·obtain ⟨rfl,rfl⟩:=Fo.last hpr (by omega)
  exact h _ he
theorem nums_texts {k:Int} (h:qad k=true):numsF k=false:=by
 have h':k=1∨k=3∨k=4∨k=10∨k=11:=by simpa [qad] using h
 rcases h' with rfl | rfl | rfl | rfl | rfl <;> decide
theorem print_spec {S:Nat→Prop}:∀ (f:Fo) {R:Ending→World→Prop} {w:World} {a:Option Addr} {n c:Nat} (hs:f.size≤1000000000) (hg:good f) (hf:SlF S w a n f)
  (h:∀ w',Ext w w'→R (.returned (.string ⟨⟨qat f⟩⟩)) w'),Calls prog qim ⟨[.slice a n c]⟩ w R:=by
 intro f
 induction hz:f.size using Nat.strongRecOn generalizing f with
 | _ z ih =>
 intro R w a n c hs hg hf h
 apply q4e
 have hn:=hf.1
 have hfl:=f.len_le_size
 refine ⟨fun out i W m=>∃ (pre r:Fo),f=pre.app r∧i=pre.len∧m=r.len∧Ext w W∧out=qat pre,⟨_,.nil,f,rfl,rfl,rfl,Below.refl _ _,rfl⟩,?_⟩
 rintro _ _ W m ⟨pre,r,hpr,rfl,rfl,he,rfl⟩ _
 refine qd (fun hlt=>?_) (fun hge=>?_)
 ·obtain ⟨k,t,mm,ps,r,rfl⟩:=Fo.next hpr (by omega)
  have hsl:=Fo.sub_len hpr
  have hsz:f.size=pre.size + (ps.size + r.size + 1):=by rw [hpr,Fo.size_app];rfl
  have hgg:=hg
  rw [hpr,q3w] at hgg
  obtain ⟨hgp,hok,hgs,hgr⟩:=hgg
  have l1:=qfg pre hgp
  have l2:=qfg ps hgs
  have l3:=q2x hok.1 hok.2.1
  have l4:=q2p hok
  have l5:=hok.2.2.2.1
  have e1:f=(pre.app (.one k t mm ps)).app r:=by rw [Fo.app_one_app];exact hpr
  have i1:i64.wrap ((pre.len:Int) + 1)=((pre.app (.one k t mm ps)).len:Int):=by rw [qj (by omega)];simp [Fo.one]
  have p1:qat (pre.app (.one k t mm ps))=qat pre++nodeF k t mm (qat ps):=by rw [q12];simp [Fo.one,qat]
  obtain ⟨q,a',c',hq,hSq,hql,hN⟩:=(hf.ext he).get hpr
  refine hq _ ⟨k,hN.kind,t,hN.text,mm,hN.num,a',ps.len,c',hN.parts,?_⟩
  refine qw (by simp) (by intro u hu;simp only [List.mem_cons,List.not_mem_nil,or_false] at hu;rcases hu with rfl | rfl | rfl | rfl <;> rfl) fun b w1 hb hB g2 g3=>?_
  obtain ⟨c0,c1,c2,c3⟩:=blk4 hB
  have he1:=qb he g2
  refine ⟨k,c0,qd (fun hk1=>?_) (fun hk1=>?_)⟩
  ·refine ⟨t,c1,by omega,r.len,by simp,_,r,e1,i1,rfl,he1,?_⟩
   rw [p1,nodeF,if_pos hk1]
  refine ⟨k,c0,qph k hok.1 hok.2.1 fun w2 he2=>⟨_,rfl,by simp;omega,?_⟩⟩
  have hB2:=hB.ext he2
  obtain ⟨c0',c1',c2',c3'⟩:=blk4 hB2
  have hE2:=qb he1 he2
  intro K25 hK25
  have k25:K25 ([60]++tagF k++(if qad k then 32 :: t else [])) w2:=by
   refine hK25 _ _ fun _=>?_
   intro K28 hK28
   have lt:(if qad k then 32 :: t else ([]:List UInt8)).length≤65537:=by split <;> simp;omega
   have k28:K28 ([60]++tagF k++valF k t mm) w2:=by
    refine hK28 _ _ fun _=>⟨k,c0',qsb k ⟨_,rfl,?_⟩⟩
    refine ql (fun hp=>?_) (fun hp=>?_)
    ·refine ⟨by simp only [List.length_append,List.length_cons,List.length_nil];omega,by simp only [List.length_append,List.length_cons,List.length_nil];omega,r.len,by simp,_,r,e1,i1,rfl,hE2,?_⟩
     rw [p1,nodeF,if_neg hk1,if_neg (by simpa using hp)]
     simp
    ·have hdr:=qs w2
     have hB3:=hB2.ext hdr
     obtain ⟨d0,d1,d2,d3⟩:=blk4 hB3
     have hE3:=qb hE2 hdr
     have hsl3:=hN.sl.ext (qb g2 (qb he2 hdr))
     have sub:∀ {R':Ending→World→Prop},(∀ w',Ext w2.drew w'→R' (.returned (.string ⟨⟨qat ps⟩⟩)) w')→Calls prog qim ⟨[.slice a' ps.len c']⟩ w2.drew R':=fun h' =>
      ih _ (hz ▸ Fo.sub_size hpr) ps rfl (by omega) hgs hsl3 h'
     have fin:∀ w3,Ext w2.drew w3→∃ m53,m53 < (Fo.cons k t mm ps r).len∧∃ (pre' r':Fo),f=pre'.app r'∧i64.wrap ((pre.len:Int) + 1)=pre'.len∧m53=r'.len∧Ext w w3∧qat pre++([60]++tagF k++valF k t mm)++[62]++qat ps++[60,47]++tagF k++[62]=qat pre':=fun w3 he3 =>
      ⟨r.len,by simp,_,r,e1,i1,rfl,qb hE3 he3,by rw [p1,nodeF,if_neg hk1,if_pos (by simpa using hp)];simp⟩
     unfold drw
     refine ⟨by simp only [List.length_append,List.length_cons,List.length_nil];omega,by simp only [List.length_append,List.length_cons,List.length_nil];omega,a',ps.len,c',d3,?_⟩
     refine ⟨?_,⟨?_,⟨k,d0,?_,trivial⟩,trivial⟩,trivial⟩
     ·exact sub fun w3 he3=>⟨_,rfl,by simp only [List.length_append,List.length_cons,List.length_nil];omega,by simp only [List.length_append,List.length_cons,List.length_nil];omega,k,(blk4 (hB3.ext he3)).1,qph k hok.1 hok.2.1 fun w4 he4=>⟨_,rfl,by simp only [List.length_append,List.length_cons,List.length_nil];omega,by simp only [List.length_append,List.length_cons,List.length_nil];omega,fin _ (qb he3 he4)⟩,trivial⟩
     ·exact sub fun w3 he3=>⟨_,rfl,by simp only [List.length_append,List.length_cons,List.length_nil];omega,by simp only [List.length_append,List.length_cons,List.length_nil];omega,k,(blk4 (hB3.ext he3)).1,qph k hok.1 hok.2.1 fun w4 he4=>⟨_,rfl,by simp only [List.length_append,List.length_cons,List.length_nil];omega,by simp only [List.length_append,List.length_cons,List.length_nil];omega,fin _ (qb he3 he4)⟩,trivial⟩
     ·exact sub fun w3 he3=>⟨_,rfl,by simp only [List.length_append,List.length_cons,List.length_nil];omega,by simp only [List.length_append,List.length_cons,List.length_nil];omega,qph k hok.1 hok.2.1 fun w4 he4=>⟨_,rfl,by simp only [List.length_append,List.length_cons,List.length_nil];omega,by simp only [List.length_append,List.length_cons,List.length_nil];omega,fin _ (qb he3 he4)⟩,trivial⟩
   refine ⟨k,c0',qtt k ⟨_,rfl,ql (fun hnu=>?_) (fun hnu=>?_)⟩⟩
   ·have htx:qad k=false:=by
     cases htx:qad k with
     | false=>rfl
     | true=>rw [nums_texts htx] at hnu;cases hnu
    have hr:=hok.2.2.1 hnu
    have e:valF k t mm=32 :: Lib.decDigits mm.toNat:=by unfold valF;rw [htx,hnu];rfl
    rw [htx]
    rw [e] at k28
    have hdl:=qfb mm.toNat (by omega)
    refine ⟨by simp;omega,mm,c2',?_⟩
    have hmm:mm=((mm.toNat:Nat):Int):=by omega
    rw [hmm]
    refine (Tryz.strconv_Itoa_small mm.toNat (by omega) _).mono ?_
    rintro _ _ ⟨rfl,rfl⟩
    refine ⟨_,rfl,by simp;omega,?_⟩
    simpa using k28
   ·have e:valF k t mm=if qad k then 32 :: t else []:=by unfold valF;rw [hnu];simp
    rw [e] at k28;exact k28
  refine ⟨k,c0',q1t k ⟨_,rfl,ql (fun htx=>?_) (fun htx=>?_)⟩⟩
  ·rw [htx] at k25
   refine ⟨by simp;omega,t,c1',by simp;omega,?_⟩
   simpa using k25
  ·rw [htx] at k25
   simpa using k25
 ·obtain ⟨rfl,rfl⟩:=Fo.last hpr (by omega)
  exact h _ he
def qak (f:Fo):Int:=if f.size≤4096∧f.depth≤16 then (if allF f false false≠0 then allF f false false else if 65536 < (qat f).length then 4 else 0) else 4
theorem qug {S:Nat→Prop} (f:Fo) {R:Ending→World→Prop} {w:World} {a:Option Addr} {n c:Nat} (hf:SlF S w a n f)
  (h:∀ w',Ext w w'→R (.returned (.int .i64 (qak f))) w'):Calls prog qrg ⟨[.slice a n c]⟩ w R:=by
 apply q4h
 unfold qak at h
 refine qwi f 16 4096 (by omega) (by omega) hf fun w1 he1=>?_
 by_cases h1:f.size≤4096∧f.depth≤16
 ·rw [if_pos h1] at h
  rw [szF,if_pos h1]
  refine ⟨_,_,_,rfl,all_spec f false (by unfold small;omega) (hf.ext he1) fun w2 he2=>⟨_,rfl,?_⟩⟩
  have hE:=qb he1 he2
  refine qd (fun h2=>?_) (fun h2=>?_)
  ·rw [if_pos h2] at h;exact h _ hE
  ·rw [if_neg h2] at h
   have hg:=qq1 f _ _ (Decidable.not_not.1 h2)
   refine print_spec f (by omega) hg (hf.ext hE) fun w3 he3=>⟨_,rfl,?_⟩
   have hE3:=qb hE he3
   refine qd (fun h3=>?_) (fun h3=>?_)
   ·rw [if_pos (by omega)] at h;exact h _ hE3
   ·rw [if_neg (by omega)] at h;exact h _ hE3
 ·rw [if_neg h1] at h
  rw [szF,if_neg h1]
  exact ⟨_,_,_,rfl,h _ he1⟩
def formsCells:List Value:=[.string ⟨⟨[]⟩⟩,.bool false,.bool false,.bool false,.string ⟨⟨[]⟩⟩,.bool true,.bool false,.bool false,.string ⟨⟨[108,98]⟩⟩,.bool false,.bool false,.bool false,
 .string ⟨⟨[112,98]⟩⟩,.bool true,.bool false,.bool false,.string ⟨⟨[115,101,99]⟩⟩,.bool true,.bool false,.bool false,.string ⟨⟨[118]⟩⟩,.bool false,.bool false,.bool false,
 .string ⟨⟨[103,97,112]⟩⟩,.bool false,.bool true,.bool false,.string ⟨⟨[117,110,99,108,101,97,114]⟩⟩,.bool false,.bool false,.bool true,.string ⟨⟨[97,100,100]⟩⟩,.bool false,.bool true,.bool true,
 .string ⟨⟨[100,101,108]⟩⟩,.bool false,.bool true,.bool true,.string ⟨⟨[97,98]⟩⟩,.bool true,.bool false,.bool true,.string ⟨⟨[110,97,109,101]⟩⟩,.bool true,.bool false,.bool true]
def Forms (w:World):Prop:=qk < w.heap.size∧∀ j v,formsCells[j]? = some v→w.cell? ⟨qk,j,none⟩=some v
theorem Forms.keep {w w':World} (h:Forms w) (he:w'.heap[qk]? = w.heap[qk]?) (hz:w.heap.size≤w'.heap.size):Forms w':=by
 refine ⟨Nat.lt_of_lt_of_le h.1 hz,fun j v hj=>?_⟩
 have:=h.2 j v hj
 unfold World.cell? at this ⊢
 rw [he];exact this
theorem Forms.ext {w w':World} (h:Forms w) (he:Ext w w'):Forms w':=h.keep (he.block qk h.1) he.size
theorem Forms.chg {S:Nat→Prop} {w w':World} (h:Forms w) (he:Chg S w w') (hS:¬ S qk):Forms w':=h.keep (he.block qk h.1 hS) he.size
theorem Forms.get {w:World} (h:Forms w) {k:Int} (h1:1≤k) (h2:k≤11) :
  ∃ q,(∀ K:Addr→Prop,K q→idx (some ⟨qk,0,none⟩) 12 k 4 K)∧w.cell? (q.add 0)=some (.string ⟨⟨tagF k⟩⟩)∧w.cell? (q.add 1)=some (.bool (qad k))∧w.cell? (q.add 2)=some (.bool (numsF k))∧w.cell? (q.add 3)=some (.bool (qx k)):=by
 refine ⟨⟨qk,k.toNat * 4,none⟩,fun K hK=>⟨by omega,by omega,?_⟩,?_⟩
 ·show K _
  rw [qg,Nat.zero_add];exact hK
 ·simp only [qg]
  rcases qlc h1 h2 with rfl | rfl | rfl | rfl | rfl | rfl | rfl | rfl | rfl | rfl | rfl <;>
   exact ⟨h.2 _ _ rfl,h.2 _ _ rfl,h.2 _ _ rfl,h.2 _ _ rfl⟩
def c8 (k:Int) (t:List UInt8) (n:Int) (ps:Fo):Bool:=decide ((qad k=false∧t≠[])∨(numsF k=false∧n≠0)∨(qx k=false∧0 < ps.len))
def c5 (k:Int) (t:List UInt8) (ps:Fo):Bool:=decide ((k=1∧t=[])∨(qx k=true∧ps.len=0))
def c11 (k:Int) (t:List UInt8):Bool:=decide (k=1∧qa8 t≠0)
def c14 (k:Int) (t:List UInt8):Bool:=decide ((k=10∧qv t=false)∨(qad k=true∧k≠1∧k≠10∧qaa t=false))
def c2 (k n:Int):Bool:=decide ((numsF k=true∧n < 1)∨(k=6∧64 < n)∨(numsF k=true∧k≠6∧8 < n))
def rightF (k:Int) (t:List UInt8) (n:Int) (ps:Fo) (before within:Bool):Int :=
 if k < 1∨11 < k then 8 else if c8 k t n ps=true then 8 else if c5 k t ps=true then 5 else if c11 k t=true then 11 else if c14 k t=true then 14 else if c2 k n=true then 2
 else if k=1∧before=true then 10 else if k=4∧within=true then 12 else 0
theorem q5z (k:Int) (t:List UInt8) (n:Int) (ps:Fo) (before within:Bool):qy k t n ps before within=rightF k t n ps before within:=by
 unfold rightF
 by_cases h1:k < 1∨11 < k
 ·rw [if_pos h1];unfold qy;rw [if_pos (by omega)]
 rw [if_neg h1]
 by_cases h3:c8 k t n ps=true
 ·rw [if_pos h3]
  unfold qy
  rw [if_pos]
  rcases of_decide_eq_true h3 with ⟨a,b⟩ | ⟨a,b⟩ | ⟨a,b⟩
  ·exact .inr (.inr (.inl ⟨b,a⟩))
  ·exact .inr (.inr (.inr (.inl ⟨b,a⟩)))
  ·exact .inr (.inr (.inr (.inr ⟨b,a⟩)))
 rw [if_neg h3]
 unfold qy
 rw [if_neg]
 rotate_left
 ·rintro (a | a | ⟨a,b⟩ | ⟨a,b⟩ | ⟨a,b⟩)
  ·omega
  ·omega
  ·exact h3 (decide_eq_true (.inl ⟨b,a⟩))
  ·exact h3 (decide_eq_true (.inr (.inl ⟨b,a⟩)))
  ·exact h3 (decide_eq_true (.inr (.inr ⟨b,a⟩)))
 by_cases h4:c5 k t ps=true
 ·rw [if_pos h4,if_pos (of_decide_eq_true h4)]
 rw [if_neg h4,if_neg (fun hh=>h4 (decide_eq_true hh))]
 unfold c11 c14 c2
 rcases qlc (k:=k) (by omega) (by omega) with rfl | rfl | rfl | rfl | rfl | rfl | rfl | rfl | rfl | rfl | rfl <;> simp [qad,numsF]
theorem q3f {R:Ending→World→Prop} {w:World} (hF:Forms w) (k:Int) (t:List UInt8) (n:Int) (a:Option Addr) (c:Nat) (ps:Fo) (d:Nat) (before:Bool)
  (h:∀ w',Ext w w'→R (.returned (.int .i64 (qy k t n ps before (decide (0 < d))))) w') :
  Calls prog qgl ⟨[.agg ⟨[.int .i64 k,.string ⟨⟨t⟩⟩,.int .i64 n,.slice a ps.len c,.int .i64 (d:Int),.bool before]⟩]⟩ w R:=by
 apply qp4
 rw [q5z] at h
 unfold rightF at h
 refine qh fun b0 w1 hb0 hB0 e1 _=>?_
 have p0:∀ {v:World},Blk v b0 [.int .i64 k,.string ⟨⟨t⟩⟩,.int .i64 n,.slice a ps.len c,.int .i64 (d:Int),.bool before] 159→∀ j,v.cell? (((⟨b0,0,none⟩:Addr).add 0).add j)=[Value.int .i64 k,.string ⟨⟨t⟩⟩,.int .i64 n,.slice a ps.len c,.int .i64 (d:Int),.bool before][j]? :=
  fun hB j=>by rw [qg,qg,hB.cell];simp
 refine ⟨k,p0 hB0 0,t,p0 hB0 1,n,p0 hB0 2,a,ps.len,c,p0 hB0 3,?_⟩
 refine qw (by simp) (by intro u hu;simp only [List.mem_cons,List.not_mem_nil,or_false] at hu;rcases hu with rfl | rfl | rfl | rfl <;> rfl) fun b1 w2 hb1 hB1 e2 _=>?_
 have E2:=qb e1 e2
 obtain ⟨x0,x1,x2,x3⟩:=blk4 hB1
 intro K16 hK16
 have k16:1≤k→k≤11→K16 w2:=by
  intro hk1 hk2
  rw [if_neg (by omega)] at h
  refine hK16 _ fun _=>⟨k,x0,?_⟩
  obtain ⟨q,hq,f0,f1,f2,f3⟩:=(hF.ext E2).get hk1 hk2
  refine hq _ ⟨_,f0,_,f1,_,f2,_,f3,?_⟩
  refine qw (by simp) (by intro u hu;simp only [List.mem_cons,List.not_mem_nil,or_false] at hu;rcases hu with rfl | rfl | rfl | rfl <;> rfl) fun b2 v hb2 hB2 e3 _=>?_
  have E3:=qb E2 e3
  have hX:=hB1.ext e3
  have hP:=(hB0.ext e2).ext e3
  have X:∀ {v':World},Ext v v'→∀ j,v'.cell? ((⟨b1,0,none⟩:Addr).add j)=[Value.int .i64 k,.string ⟨⟨t⟩⟩,.int .i64 n,.slice a ps.len c][j]?:=fun he j=>by rw [qg,(hX.ext he).cell];simp
  have F:∀ {v':World},Ext v v'→∀ j,v'.cell? ((⟨b2,0,none⟩:Addr).add j)=[Value.string ⟨⟨tagF k⟩⟩,.bool (qad k),.bool (numsF k),.bool (qx k)][j]?:=fun he j=>by rw [qg,(hB2.ext he).cell];simp
  have Pl:∀ {v':World},Ext v v'→∀ j,v'.cell? ((⟨b0,0,none⟩:Addr).add j)=[Value.int .i64 k,.string ⟨⟨t⟩⟩,.int .i64 n,.slice a ps.len c,.int .i64 (d:Int),.bool before][j]?:=fun he j=>by rw [qg,(hP.ext he).cell];simp
  have r0:=Below.refl v.heap.size v
  refine ⟨k,X r0 0,?_⟩
  intro K28 hK28
  have k28:∀ g,g=c8 k t n ps→K28 g v:=by
   rintro _ rfl
   refine hK28 _ _ fun _=>ql (fun g8=>by rw [if_pos g8] at h;exact h _ E3) (fun g8=>?_)
   rw [if_neg (by simp [g8])] at h
   intro K31 hK31
   have k31:∀ g,g=c5 k t ps→K31 g v:=by
    rintro _ rfl
    refine hK31 _ _ fun _=>ql (fun g5=>by rw [if_pos g5] at h;exact h _ E3) (fun g5=>?_)
    rw [if_neg (by simp [g5])] at h
    intro K34 hK34
    have k34:∀ v1,Ext v v1→∀ g,g=c11 k t→K34 g v1:=by
     rintro v1 E4 _ rfl
     refine hK34 _ _ fun _=>ql (fun g11=>by rw [if_pos g11] at h;exact h _ (qb E3 E4)) (fun g11=>?_)
     rw [if_neg (by simp [g11])] at h
     intro K37 hK37
     have k37:∀ v2,Ext v v2→∀ g,g=c14 k t→K37 g v2:=by
      rintro v2 E5 _ rfl
      refine hK37 _ _ fun _=>ql (fun g14=>by rw [if_pos g14] at h;exact h _ (qb E3 E5)) (fun g14=>?_)
      rw [if_neg (by simp [g14])] at h
      intro K40 hK40
      have k40:∀ g,g=c2 k n→K40 g v2:=by
       rintro _ rfl
       refine hK40 _ _ fun _=>ql (fun g2=>by rw [if_pos g2] at h;exact h _ (qb E3 E5)) (fun g2=>?_)
       rw [if_neg (by simp [g2])] at h
       intro K43 hK43
       have k43:∀ g,g=decide (k=1∧before=true)→K43 g v2:=by
        rintro _ rfl
        refine hK43 _ _ fun _=>qd (fun g10=>by rw [if_pos g10] at h;exact h _ (qb E3 E5)) (fun g10=>?_)
        rw [if_neg g10] at h
        refine ⟨k,X E5 0,qd (fun g4=>⟨(d:Int),Pl E5 4,qd (fun g5=>?_) (fun g5=>?_)⟩) (fun g4=>?_)⟩
        ·rw [if_pos ⟨g4,decide_eq_true (by omega)⟩] at h;exact h _ (qb E3 E5)
        ·rw [if_neg (by simp;omega)] at h;exact h _ (qb E3 E5)
        ·rw [if_neg (by simp [g4])] at h;exact h _ (qb E3 E5)
       refine ⟨k,X E5 0,qd (fun g1=>⟨before,Pl E5 5,k43 _ (by simp [g1])⟩) (fun g1=>k43 _ (by simp [g1]))⟩
      intro K50 hK50
      have k50:∀ g,g=decide (numsF k=true∧n < 1)→K50 g v2:=by
       rintro _ rfl
       refine hK50 _ _ fun _=>qd (fun gg=>by rw [decide_eq_true gg];exact k40 _ (by unfold c2;rw [decide_eq_true (.inl gg)])) (fun gg=>?_)
       intro K53 hK53
       have k53:∀ g,g=decide (k=6∧64 < n)→K53 g v2:=by
        rintro _ rfl
        refine hK53 _ _ fun _=>qd (fun gg2=>by rw [decide_eq_true gg2];exact k40 _ (by unfold c2;rw [decide_eq_true (.inr (.inl gg2))])) (fun gg2=>?_)
        have ec:c2 k n=decide (numsF k=true∧k≠6∧8 < n):=by
         unfold c2;rw [decide_eq_decide]
         exact ⟨fun hh=>hh.elim (fun h=>absurd h gg) (fun h=>h.elim (fun h=>absurd h gg2) id),fun hh=>.inr (.inr hh)⟩
        rw [ec] at k40
        refine ⟨numsF k,F E5 2,ql (fun q1=>ql (fun q2=>⟨n,X E5 2,k40 _ ?_⟩) (fun q2=>k40 _ ?_)) (fun q1=>k40 _ ?_)⟩
        ·have:k≠6:=by simpa using q2
         simp [q1,this]
        ·have:k=6:=by simpa using q2
         simp [this]
        ·simp [q1]
       refine qd (fun q1=>⟨n,X E5 2,k53 _ (by simp [q1])⟩) (fun q1=>k53 _ (by simp [q1]))
      refine ⟨numsF k,F E5 2,ql (fun q1=>⟨n,X E5 2,k50 _ (by simp [q1])⟩) (fun q1=>k50 _ (by simp [q1]))⟩
     intro K61 hK61
     have k61:∀ v2,Ext v v2→∀ g,g=decide (k=10∧qv t=false)→K61 g v2:=by
      rintro v2 E5 _ rfl
      refine hK61 _ _ fun _=>qd (fun gg=>by rw [decide_eq_true gg];exact k37 _ E5 _ (by unfold c14;rw [decide_eq_true (.inl gg)])) (fun gg=>?_)
      have ec:c14 k t=decide (qad k=true∧k≠1∧k≠10∧qaa t=false):=by
       unfold c14;rw [decide_eq_decide]
       exact ⟨fun hh=>hh.elim (fun h=>absurd h gg) id,fun hh=>.inr hh⟩
      rw [ec] at k37
      refine ⟨qad k,F E5 1,ql (fun q1=>⟨k,X E5 0,qd (fun q2=>⟨k,X E5 0,qd (fun q3=>⟨t,X E5 1,qea t ⟨_,rfl,k37 _ E5 _ ?_⟩⟩) (fun q3=>k37 _ E5 _ ?_)⟩) (fun q2=>k37 _ E5 _ ?_)⟩) (fun q1=>k37 _ E5 _ ?_)⟩
      ·simp [q1,q2,q3]
      ·simp [Decidable.not_not.1 q3]
      ·simp [Decidable.not_not.1 q2]
      ·simp [q1]
     refine ⟨k,X E4 0,qd (fun q1=>⟨t,X E4 1,qy4 t fun v2 E5=>⟨_,rfl,k61 _ (qb E4 E5) _ (by simp [q1])⟩⟩) (fun q1=>k61 _ E4 _ (by simp [q1]))⟩
    refine ⟨k,X r0 0,qd (fun q1=>⟨t,X r0 1,qlg t fun v2 E5=>⟨_,rfl,k34 _ E5 _ (by unfold c11;simp [q1])⟩⟩) (fun q1=>k34 _ r0 _ (by unfold c11;simp [q1]))⟩
   have tail:¬ (k=1∧t=[])→(∃ (x85:Bool),World.cell? v ((⟨b2,0,none⟩:Addr).add 3)=some (.bool x85)∧(br x85 (∃ (x86:Option Addr) (x86n:Nat) (x86c:Nat),World.cell? v ((⟨b1,0,none⟩:Addr).add 3)=some (.slice x86 x86n x86c)∧(K31 (decide ((((x86n:Int)):Int)=0)) v)) (K31 false v))):=by
    intro hno
    have ec:c5 k t ps=decide (qx k=true∧ps.len=0):=by
     unfold c5;rw [decide_eq_decide]
     exact ⟨fun hh=>hh.elim (fun h=>absurd h hno) id,fun hh=>.inr hh⟩
    rw [ec] at k31
    exact ⟨qx k,F r0 3,ql (fun q1=>⟨a,ps.len,c,X r0 3,k31 _ (by simp [q1])⟩) (fun q1=>k31 _ (by simp [q1]))⟩
   refine ⟨k,X r0 0,qd (fun q1=>⟨t,X r0 1,qd (fun q2=>k31 _ (by unfold c5;rw [decide_eq_true (.inl ⟨q1,q2⟩)])) (fun q2=>tail fun hh=>q2 hh.2)⟩) (fun q1=>tail fun hh=>q1 hh.1)⟩
  have t3:¬ (qad k=false∧t≠[])→¬ (numsF k=false∧n≠0)→(∃ (x91:Bool),World.cell? v ((⟨b2,0,none⟩:Addr).add 3)=some (.bool x91)∧(br (!x91) (∃ (x92:Option Addr) (x92n:Nat) (x92c:Nat),World.cell? v ((⟨b1,0,none⟩:Addr).add 3)=some (.slice x92 x92n x92c)∧(K28 (decide ((0:Int) < ((x92n:Int)))) v)) (K28 false v))):=by
   intro n1 n2
   have ec:c8 k t n ps=decide (qx k=false∧0 < ps.len):=by
    unfold c8;rw [decide_eq_decide]
    exact ⟨fun hh=>hh.elim (fun h=>absurd h n1) (fun h=>h.elim (fun h=>absurd h n2) id),fun hh=>.inr (.inr hh)⟩
   rw [ec] at k28
   refine ⟨qx k,F r0 3,ql (fun q1=>⟨a,ps.len,c,X r0 3,k28 _ ?_⟩) (fun q1=>k28 _ ?_)⟩
   ·have:qx k=false:=by simpa using q1
    simp [this]
   ·have:qx k=true:=by simpa using q1
    simp [this]
  have t2:¬ (qad k=false∧t≠[])→(∃ (x89:Bool),World.cell? v ((⟨b2,0,none⟩:Addr).add 2)=some (.bool x89)∧(br (!x89) (∃ (x90:Int),World.cell? v ((⟨b1,0,none⟩:Addr).add 2)=some (.int .i64 x90)∧(br (decide ((x90:Int)≠0)) (K28 true v) (∃ (x91:Bool),World.cell? v ((⟨b2,0,none⟩:Addr).add 3)=some (.bool x91)∧(br (!x91) (∃ (x92:Option Addr) (x92n:Nat) (x92c:Nat),World.cell? v ((⟨b1,0,none⟩:Addr).add 3)=some (.slice x92 x92n x92c)∧(K28 (decide ((0:Int) < ((x92n:Int)))) v)) (K28 false v))))) (∃ (x93:Bool),World.cell? v ((⟨b2,0,none⟩:Addr).add 3)=some (.bool x93)∧(br (!x93) (∃ (x94:Option Addr) (x94n:Nat) (x94c:Nat),World.cell? v ((⟨b1,0,none⟩:Addr).add 3)=some (.slice x94 x94n x94c)∧(K28 (decide ((0:Int) < ((x94n:Int)))) v)) (K28 false v))))):=by
   intro n1
   refine ⟨numsF k,F r0 2,ql (fun q1=>⟨n,X r0 2,qd (fun q2=>k28 _ ?_) (fun q2=>t3 n1 fun hh=>q2 hh.2)⟩) (fun q1=>t3 n1 fun hh=>?_)⟩
   ·unfold c8;rw [decide_eq_true (.inr (.inl ⟨by simpa using q1,q2⟩))]
   ·rw [hh.1] at q1;cases q1
  refine ⟨qad k,F r0 1,ql (fun q1=>⟨t,X r0 1,qd (fun q2=>k28 _ ?_) (fun q2=>t2 fun hh=>q2 hh.2)⟩) (fun q1=>t2 fun hh=>?_)⟩
  ·unfold c8;rw [decide_eq_true (.inl ⟨by simpa using q1,q2⟩)]
  ·rw [hh.1] at q1;cases q1
 refine ⟨k,x0,qd (fun q1=>?_) (fun q1=>⟨k,x0,qd (fun q2=>?_) (fun q2=>k16 (by omega) (by omega))⟩)⟩
 ·rw [if_pos (.inl q1)] at h;exact h _ E2
 ·rw [if_pos (.inr q2)] at h;exact h _ E2
end Go.Proofs
namespace Go.Sh
open Go Go.RowKit
def IterR {α:Type} (P:Program) (gf:FuncId) (cap:List Value) (xs:List α) (E:α→List Value→Prop) (Rd:Nat→Prop) (w:World):Prop :=
 ∀ (yf:Fn) (ya yb:Array Value) (S:Nat→Prop) (J:List α→World→Prop) (Jx:World→Prop) (R:Ending→World→Prop),
  (∀ k,S k→k < w.heap.size∧¬ Rd k) →
  (∀ pre W W',J pre W→Chg (fun k=>w.heap.size≤k) W W'→J pre W')→(∀ W W',Jx W→Chg (fun k=>w.heap.size≤k) W W'→Jx W') →
  (∀ pre x vs W,E x vs→pre++[x] <+: xs→w.heap.size≤W.heap.size→J pre W→CallV P (.func yf ya yb) vs W fun e W'=>Chg S W W'∧((e=.returned (.bool true)∧J (pre++[x]) W')∨(e=.returned (.bool false)∧Jx W'))) →
  J [] w→(∀ W,w.heap.size≤W.heap.size→J xs W→R (.returned (.tuple ⟨[]⟩)) W)→(∀ W,w.heap.size≤W.heap.size→Jx W→R (.returned (.tuple ⟨[]⟩)) W) →
  Calls P gf ⟨.func yf ya yb :: cap⟩ w R
theorem q46 {α:Type} {P:Program} {N:Nat} {g:Operand} {ps:Array Tmp} {assign body:Code} {env:Env} {ds:List Deferred} {w:World} {x:Nat} {Qn Qr Qx:List Deferred→World→Prop}
  (xA xB:Ann) {gf:FuncId} {cap:List Value} (hg:ev env g=.func (.func gf) ⟨[]⟩ ⟨cap⟩) (hok:okFn P gf=true)
  {xs:List α} {E:α→List Value→Prop} {Rd:Nat→Prop} (hit:∀ w1,Ext w w1→IterR P gf cap xs E Rd w1)
  (hps:∀ y vs,E y vs→vs.length=ps.size) (hpN:∀ p∈ps.toList,p < N)
  (hRd:∀ k,Rd k→k < w.heap.size) (S:Nat→Prop) (hS:∀ k,S k→k < w.heap.size∧¬ Rd k)
  (I:List α→World→Prop) (Kr Kx:World→Prop)
  (hI:∀ pre W W',I pre W→Chg (fun k=>w.heap.size≤k) W W'→I pre W')
  (hKr:∀ W W',Kr W→Chg (fun k=>w.heap.size≤k) W W'→Kr W') (hKx:∀ W W',Kx W→Chg (fun k=>w.heap.size≤k) W W'→Kx W')
  (h0:I [] w)
  (hround:∀ pre y vs W l,E y vs→pre++[y] <+: xs→w.heap.size≤l→l < W.heap.size→I pre W →
   fragV P N xA xB assign body l x (fun W2 W'=>Chg S W2 W'∧I (pre++[y]) W') (fun W2 W'=>Chg S W2 W'∧Kr W') (fun W2 W'=>Chg S W2 W'∧Kx W') (updPs ps.toList vs env) W)
  (hn:∀ D W,w.heap.size≤D→D < W.heap.size→W.heap[D]? = some (.deferred (some []))→I xs W→Qn ({ target:=.collected D,args:=#[] } :: ds) W)
  (hr:∀ D W,w.heap.size≤D→D < W.heap.size→W.heap[D]? = some (.deferred (some []))→Kr W→Qr ({ target:=.collected D,args:=#[] } :: ds) W)
  (hx:∀ D W,w.heap.size≤D→D < W.heap.size→W.heap[D]? = some (.deferred (some []))→Kx W→Qx ({ target:=.collected D,args:=#[] } :: ds) W) :
  RFw P none N (.rangeFunc g ps assign body) env ds w x Qn Qr Qx:=by
 intro a ha hd
 refine wpIn_rangeFunc fun fn _=>?_
 let rec0:Loop:={ state:=.ready,pending:=none,fn,tmps:=a.tmps,params:=ps,assign,body,defers:=w.heap.size }
 let w1:World:=(w.alloc (.deferred (some []))).alloc (.loop rec0)
 have hw1:w1.heap.size=w.heap.size + 2:=by simp [w1]
 have hext:Ext w w1:=((Below.refl _ w).alloc (Nat.le_refl _) _).alloc (by simp) _
 have hD1:w1.heap[w.heap.size]? = some (.deferred (some [])):=by
  show ((w.alloc _).alloc _).heap[w.heap.size]? = _
  rw [Below.heap_alloc _ _ _ (by simp),World.alloc_heap_new]
 have hl1:w1.heap[w.heap.size + 1]? = some (.loop rec0):=by
  have:=World.alloc_heap_new (w.alloc (.deferred (some []))) (.loop rec0)
  simpa [w1] using this
 have hgv:a.eval g=.func (.func gf) ⟨[]⟩ ⟨cap⟩:=by rw [ha.ev];exact hg
 refine ⟨w.heap.size + 1,[{ target:=.collected w.heap.size,args:=#[] }],w1,{ target:=.fn (.func gf) ⟨cap⟩,args:=#[.func (.yield (w.heap.size + 1)) #[] #[]] },w1,gf,
  ⟨.func (.yield (w.heap.size + 1)) #[] #[] :: cap⟩,w1,run_enterLoop_outer fn a.tmps ps assign body,?_,fun _ _=>trivial,?_,fun h=>by simp [Fr,Fence.wide] at h,?_⟩
 ·have em:Array.map a.eval #[Operand.const (.func (.yield (w.heap.size + 1)) #[] #[])]=#[.func (.yield (w.heap.size + 1)) #[] #[]]:=by simp [Act.eval]
  simp only [resolve,rangeCall,hgv,Deferred.ofValue,em]
  simp
 ·have e:(#[.func (.yield (w.heap.size + 1)) #[] #[]]:Array Value)++(⟨cap⟩:Array Value)=⟨.func (.yield (w.heap.size + 1)) #[] #[] :: cap⟩:=by apply Array.ext';simp
  simp only [invoke,e]
  exact qeo _ w1 hok
 ·show CallsIn Fence.wide 0 P gf _ w1 _
  refine callsIn_wide.2 ?_
  have stab:∀ {A B:World},Chg (fun k=>w1.heap.size≤k) A B→Chg (fun k=>w.heap.size≤k) A B:=fun h=>h.mono fun k _ hk=>by omega
  refine hit w1 hext (.yield (w.heap.size + 1)) #[] #[] (fun k=>S k∨k=w.heap.size + 1)
   (fun pre W=>I pre W∧W.heap[w.heap.size + 1]? = some (.loop rec0)∧W.heap[w.heap.size]? = some (.deferred (some [])))
   (fun W=>W.heap[w.heap.size]? = some (.deferred (some []))∧((W.heap[w.heap.size + 1]? = some (.loop { rec0 with state:=.done,pending:=some .ret })∧Kr W) ∨
    (W.heap[w.heap.size + 1]? = some (.loop { rec0 with state:=.done,pending:=some (.exit x) })∧Kx W)))
   _ (fun k hk=>hk.elim (fun h=>⟨by have:=(hS k h).1;omega,(hS k h).2⟩) (fun h=>⟨by omega,fun hr=>by have:=hRd k hr;omega⟩)) ?_ ?_ ?_ ⟨hI _ _ _ h0 (.of_ext hext),hl1,hD1⟩ ?_ ?_
  ·rintro pre W W' ⟨h1,h2,h3⟩ hc
   have hlt:=(Array.getElem?_eq_some_iff.1 h2).1
   have hlt':=(Array.getElem?_eq_some_iff.1 h3).1
   exact ⟨hI _ _ _ h1 (stab hc),(hc.block _ hlt (by omega)).trans h2,(hc.block _ hlt' (by omega)).trans h3⟩
  ·rintro W W' ⟨h3,h⟩ hc
   have hlt':=(Array.getElem?_eq_some_iff.1 h3).1
   refine ⟨(hc.block _ hlt' (by omega)).trans h3,?_⟩
   rcases h with ⟨h1,h2⟩ | ⟨h1,h2⟩
   ·exact .inl ⟨(hc.block _ (Array.getElem?_eq_some_iff.1 h1).1 (by omega)).trans h1,hKr _ _ h2 (stab hc)⟩
   ·exact .inr ⟨(hc.block _ (Array.getElem?_eq_some_iff.1 h1).1 (by omega)).trans h1,hKx _ _ h2 (stab hc)⟩
  ·rintro pre y vs W hE hpre hsz ⟨h1,h2,h3⟩
   have hlt:=(Array.getElem?_eq_some_iff.1 h2).1
   have hlt':=(Array.getElem?_eq_some_iff.1 h3).1
   refine ⟨_,_,_,_,run_yield h2 (by simp [rec0,hps y vs hE]),?_⟩
   have hfr:=hround pre y vs W (w.heap.size + 1) hE hpre (by omega) hlt h1
   have hrep:Rep N (updPs ps.toList (vs) env) { tmps:=(ps.toList.zip (vs)).foldl (fun t (p,v)=>t.setIfInBounds p v) a.tmps,defers:=[] } :=
    qpp _ _ _ _ ⟨ha.1,ha.2⟩ hpN
   have ezip:(ps.zip (⟨(#[]:Array Value).toList++vs⟩:Array Value)).foldl (fun t (x:Nat × Value)=>t.setIfInBounds x.1 x.2) a.tmps=(ps.toList.zip (vs)).foldl (fun t (p,v)=>t.setIfInBounds p v) a.tmps:=by
    rw [← Array.foldl_toList]
    simp [Array.toList_zip]
   refine roundIn_of_wpIn (F:=Fence.wide) (l:=w.heap.size + 1) trivial ?_
   show assign.wpIn (Fr (some (w.heap.size + 1))) 0 P _ _ W
   have hva:=qia xA assign hfr hrep rfl
   refine wpIn_mono (Eq.mp (by rw [← ezip]) hva) fun e a1 W1 hh=>?_
   obtain ⟨env1,r1,q1,_⟩:=hh
   cases e with
   | normal =>
    obtain ⟨e1,q1⟩:=q1
    have hl':W1.heap[w.heap.size + 1]? = some (.loop rec0):=(e1.block _ hlt).trans h2
    have hD':W1.heap[w.heap.size]? = some (.deferred (some [])):=(e1.block _ hlt').trans h3
    refine ⟨_,run_beginRound hl' rfl,?_⟩
    have hl2:(W1.putObj (w.heap.size + 1) (.loop { rec0 with state:=.busy })).heap[w.heap.size + 1]? = some (.loop { rec0 with state:=.busy }) :=
     World.putObj_heap_same (Array.getElem?_eq_some_iff.1 hl').1
    have hD2:(W1.putObj (w.heap.size + 1) (.loop { rec0 with state:=.busy })).heap[w.heap.size]? = some (.deferred (some [])):=(World.putObj_heap_other (by omega)).trans hD'
    have hq:=q1 _ (Upd.put (w.heap.size + 1) W1 (.loop { rec0 with state:=.busy }))
    have hvb:=qia xB body hq r1 rfl
    have hlt1:=(Array.getElem?_eq_some_iff.1 hl').1
    have hWW2:Chg (fun k=>S k∨k=w.heap.size + 1) W (W1.putObj (w.heap.size + 1) (.loop { rec0 with state:=.busy })) :=
     (Chg.of_ext e1).trans (Chg.put _ _ _ (.inr rfl))
    generalize W1.putObj (w.heap.size + 1) (.loop { rec0 with state:=.busy })=W2 at hl2 hD2 hvb hWW2 ⊢
    refine wpIn_mono hvb fun e' a' W' hh'=>?_
    obtain ⟨env2,r2,q2,_⟩:=hh'
    have nS:¬ S (w.heap.size + 1):=fun h=>by have:=(hS _ h).1;omega
    have nS':¬ S w.heap.size:=fun h=>by have:=(hS _ h).1;omega
    have fin:∀ (jump:Option Code) (st:LoopState),Chg S W2 W'→∀ Z,Z=W'.putObj (w.heap.size + 1) (.loop { rec0 with state:=st,pending:=jump }) →
      Chg (fun k=>S k∨k=w.heap.size + 1) W Z∧Z.heap[w.heap.size + 1]? = some (.loop { rec0 with state:=st,pending:=jump })∧Z.heap[w.heap.size]? = some (.deferred (some [])) ∧
      Chg (fun k=>w.heap.size≤k) W' Z:=by
     intro jump st hc Z hZ
     have hl3:=(hc.block _ (Array.getElem?_eq_some_iff.1 hl2).1 nS).trans hl2
     have hD3:=(hc.block _ (Array.getElem?_eq_some_iff.1 hD2).1 nS').trans hD2
     subst hZ
     exact ⟨(hWW2.trans (hc.mono fun k _ h=>.inl h)).trans (Chg.put _ _ _ (.inr rfl)),World.putObj_heap_same (Array.getElem?_eq_some_iff.1 hl3).1,
      (World.putObj_heap_other (by omega)).trans hD3,Chg.put _ _ _ (by omega)⟩
    have hrec:∀ (jump:Option Code),Chg S W2 W'→(Instr.endRound (w.heap.size + 1) jump).run P W'=.ok (.bool jump.isNone) (W'.putObj (w.heap.size + 1) (.loop { rec0 with state:=if jump.isNone then .ready else .done,pending:=jump })):=by
     intro jump hc
     exact run_endRound (r:={ rec0 with state:=.busy }) jump ((hc.block _ (Array.getElem?_eq_some_iff.1 hl2).1 nS).trans hl2)
    cases e' with
    | normal =>
     obtain ⟨hc,hi⟩:=q2
     obtain ⟨f1,f2,f3,f4⟩:=fin none .ready hc _ rfl
     exact ⟨_,_,hrec none hc,f1,.inl ⟨rfl,hI _ _ _ hi f4,f2,f3⟩⟩
    | ret =>
     obtain ⟨hc,hi⟩:=q2
     obtain ⟨f1,f2,f3,f4⟩:=fin (some .ret) .done hc _ rfl
     exact ⟨_,_,hrec (some .ret) hc,f1,.inr ⟨rfl,f3,.inl ⟨f2,hKr _ _ hi f4⟩⟩⟩
    | exit i =>
     simp only [fragQ] at q2
     cases hb:Nat.beq i x <;> rw [hb] at q2
     ·exact q2.elim
     have hix:=Nat.eq_of_beq_eq_true hb
     subst hix
     obtain ⟨hc,hi⟩:=q2
     obtain ⟨f1,f2,f3,f4⟩:=fin (some (.exit i)) .done hc _ rfl
     exact ⟨_,_,hrec (some (.exit i)) hc,f1,.inr ⟨rfl,f3,.inr ⟨f2,hKx _ _ hi f4⟩⟩⟩
    | goto l=>exact q2.elim
    | panic c=>exact q2.elim
    | outgrown=>exact q2.elim
   | exit i=>exact q1.elim
   | ret=>exact q1.elim
   | goto t=>exact q1.elim
   | panic c=>exact q1.elim
   | outgrown=>exact q1.elim
  ·rintro W hsz ⟨h1,h2,h3⟩
   refine ⟨none,_,run_endLoop h2 (by simp [rec0]),?_⟩
   have hlt:=(Array.getElem?_eq_some_iff.1 h2).1
   refine ⟨rfl,?_⟩
   show Qn (_ :: a.defers) _
   rw [hd]
   refine hn w.heap.size _ (Nat.le_refl _) (by simp;omega) ((World.putObj_heap_other (by omega)).trans h3) (hI _ _ _ h1 (Chg.put _ _ _ (by omega)))
  ·rintro W hsz ⟨h3,h⟩
   rcases h with ⟨h1,h2⟩ | ⟨h1,h2⟩
   ·have hlt:=(Array.getElem?_eq_some_iff.1 h1).1
    refine ⟨some .ret,_,run_endLoop h1 (by simp),?_⟩
    refine wpIn_ret ⟨rfl,?_⟩
    show Qr (_ :: a.defers) _
    rw [hd]
    exact hr w.heap.size _ (Nat.le_refl _) (by simp;omega) ((World.putObj_heap_other (by omega)).trans h3) (hKr _ _ h2 (Chg.put _ _ _ (by omega)))
   ·have hlt:=(Array.getElem?_eq_some_iff.1 h1).1
    refine ⟨some (.exit x),_,run_endLoop h1 (by simp),?_⟩
    refine wpIn_exit ⟨rfl,rfl,?_⟩
    show Qx (_ :: a.defers) _
    rw [hd]
    exact hx w.heap.size _ (Nat.le_refl _) (by simp;omega) ((World.putObj_heap_other (by omega)).trans h3) (hKx _ _ h2 (Chg.put _ _ _ (by omega)))
end Go.Sh
namespace Go.Proofs
open Go Go.Sh Go.RowKit Go.Proofs.Tryz IntKind
structure Pl where
 k:Int
 t:List UInt8
 n:Int
 ps:Fo
 d:Nat
 b:Bool
def qt:Fo→Nat→Bool→List Pl
 | .nil,_,_=>[]
 | .cons k t n ps r,d,b=>⟨k,t,n,ps,d,b⟩ :: ((if d≤16 then qt ps (d + 1) false else [])++qt r d (decide (k=1)))
def PlE (T:Nat→Prop) (w0:World) (x:Pl) (vs:List Value):Prop :=
 ∃ a c,vs=[.agg ⟨[.int .i64 x.k,.string ⟨⟨x.t⟩⟩,.int .i64 x.n,.slice a x.ps.len c,.int .i64 (x.d:Int),.bool x.b]⟩]∧SlF T w0 a x.ps.len x.ps
theorem q8m {yf:Fn} {ya yb:Array Value} {S T:Nat→Prop} {J:List Pl→World→Prop} {Jx:World→Prop} {w0:World} {xs:List Pl} {ty tw:Nat}
  (hS:∀ k,S k→k < w0.heap.size∧¬ T k)
  (hJ:∀ pre W W',J pre W→Chg (fun k=>w0.heap.size≤k) W W'→J pre W')
  (hbody:∀ pre x vs W,PlE T w0 x vs→pre++[x] <+: xs→w0.heap.size≤W.heap.size→J pre W→CallV prog (.func yf ya yb) vs W fun e W'=>Chg S W W'∧((e=.returned (.bool true)∧J (pre++[x]) W')∨(e=.returned (.bool false)∧Jx W')))
  (hty:w0.heap.size≤ty) (htw:w0.heap.size≤tw) :
  ∀ (f:Fo) {R:Ending→World→Prop} {w:World} {a:Option Addr} {n c:Nat} (d:Nat) (pre:List Pl),small f→d≤17→SlF T w0 a n f→Chg (fun k=>S k∨w0.heap.size≤k) w0 w→Blk w ty [.func yf ya yb] 209→Blk w tw [.func (.func 172) ⟨[]⟩ ⟨[.pointer (some ⟨ty,0,none⟩),.pointer (some ⟨tw,0,none⟩)]⟩] 136 →
   pre++qt f d false <+: xs→J pre w→(∀ W',Chg S w W'→J (pre++qt f d false) W'→R (.returned (.bool true)) W')→(∀ W',Chg S w W'→Jx W'→R (.returned (.bool false)) W') →
   Calls prog qbq ⟨[.slice a n c,.int .i64 (d:Int),.pointer (some ⟨ty,0,none⟩),.pointer (some ⟨tw,0,none⟩)]⟩ w R:=by
 intro f
 induction hz:f.size using Nat.strongRecOn generalizing f with
 | _ z ih =>
 intro R w a n c d pre hs hd hf hc0 hBy hBw hpre hj hend hstop
 unfold small at hs
 apply qdc
 have hn:=hf.1
 have hfl:=f.len_le_size
 have nS:∀ k,w0.heap.size≤k→¬ S k:=fun k hk h=>by have:=(hS k h).1;omega
 refine ⟨fun tx i W m=>∃ (p r:Fo) (ps:List Pl),f=p.app r∧i=p.len∧m=r.len∧Chg S w W∧J ps W∧pre++qt f d false=ps++qt r d tx,⟨_,.nil,f,pre,rfl,rfl,rfl,Chg.refl _ _,hj,rfl⟩,?_⟩
 rintro b _ W m ⟨p,r,xs',hpr,rfl,rfl,hcW,hjW,heq⟩ _
 refine qd (fun hlt=>?_) (fun hge=>?_)
 ·obtain ⟨k,t,mm,ps,r,rfl⟩:=Fo.next hpr (by omega)
  have hsl:=Fo.sub_len hpr
  have hsz:=Fo.sub_size hpr
  have e1:f=(p.app (.one k t mm ps)).app r:=by rw [Fo.app_one_app];exact hpr
  have i1:i64.wrap ((p.len:Int) + 1)=((p.app (.one k t mm ps)).len:Int):=by rw [qj (by omega)];simp [Fo.one]
  have hc0W:Chg (fun k=>S k∨w0.heap.size≤k) w0 W:=hc0.trans (hcW.mono fun k _ h=>.inl h)
  obtain ⟨q,a',c',hq,hTq,hql,hN0⟩:=hf.get hpr
  have hN:NodeIs T W q k t mm a' c' ps:=by
   have key:∀ j,W.cell? (q.add j)=w0.cell? (q.add j):=fun j=>by
    unfold World.cell?
    have:(q.add j).block=q.block:=by unfold Addr.add;split <;> rfl
    rw [this,hc0W.block _ hql (fun h=>h.elim (fun h=>(hS _ h).2 hTq) (fun h=>by omega))]
   exact ⟨(key 0).trans hN0.kind,(key 1).trans hN0.text,(key 2).trans hN0.num,(key 3).trans hN0.parts,hN0.sl.keep (fun k hk hl=>⟨hk,hc0W.block k hl fun h=>h.elim (fun h=>(hS _ h).2 hk) (fun h=>by omega)⟩) hc0W.size⟩
  refine hq _ ⟨k,hN.kind,t,hN.text,mm,hN.num,a',ps.len,c',hN.parts,?_⟩
  refine qw (by simp) (by intro u hu;simp only [List.mem_cons,List.not_mem_nil,or_false] at hu;rcases hu with rfl | rfl | rfl | rfl <;> rfl) fun bx w1 hbx hBx e2 _=>?_
  have hszW:=hc0W.size
  have hc1:Chg S W w1:=Chg.of_ext e2
  have hcw1:=hcW.trans hc1
  obtain ⟨x0,x1,x2,x3⟩:=blk4 hBx
  have hBy1:=hcw1.blk hBy (nS _ hty)
  have hBw1:=hcw1.blk hBw (nS _ htw)
  refine dr_ok ⟨_,_,_,by rw [hBy1.cell];rfl,k,x0,t,x1,mm,x2,a',ps.len,c',x3,?_⟩
  have hj1:J xs' w1:=hJ _ _ _ hjW (Chg.of_ext e2)
  rw [qt] at heq
  have hpx:xs'++[⟨k,t,mm,ps,d,b⟩] <+: xs:=by
   refine List.IsPrefix.trans ?_ hpre
   rw [heq]
   exact ⟨_,by rw [List.append_assoc];rfl⟩
  refine qbh (hbody xs' ⟨k,t,mm,ps,d,b⟩ _ w1 ⟨a',c',rfl,hN0.sl⟩ hpx (by have:=hc1.size;omega) hj1) ?_
  rintro e w2 ⟨hc2,⟨rfl,hj2⟩ | ⟨rfl,hjx⟩⟩
  ·refine ⟨true,rfl,?_⟩
   have hcw2:=hcw1.trans hc2
   have hBx2:=hc2.blk hBx (nS _ (by omega))
   obtain ⟨y0,y1,y2,y3⟩:=blk4 hBx2
   refine qd (fun hd16=>?_) (fun hd16=>?_)
   ·have hd16':d≤16:=by omega
    rw [if_pos hd16'] at heq
    have hBw2:=hcw2.blk hBw (nS _ htw)
    have hBy2:=hcw2.blk hBy (nS _ hty)
    refine dr_ok ⟨.func 172,⟨[]⟩,⟨[.pointer (some ⟨ty,0,none⟩),.pointer (some ⟨tw,0,none⟩)]⟩,by rw [hBw2.cell];rfl,a',ps.len,c',y3,by kernel_rfl,?_⟩
    rw [qj (by omega)]
    refine ih _ (hz ▸ hsz) ps rfl (d + 1) (xs'++[⟨k,t,mm,ps,d,b⟩]) (by unfold small;omega) (by omega) hN0.sl (hc0.trans (hcw2.mono fun k _ h=>.inl h)) hBy2 hBw2 ?_ hj2 (fun w3 hc3 hj3=>?_) (fun w3 hc3 hjx=>?_)
    ·refine List.IsPrefix.trans ?_ hpre
     rw [heq]
     exact ⟨qt r d (decide (k=1)),by simp⟩
    ·refine ⟨true,rfl,?_⟩
     have hBx3:=hc3.blk hBx2 (nS _ (by omega))
     refine ⟨k,(blk4 hBx3).1,r.len,by simp,_,r,_,e1,i1,rfl,hcw2.trans hc3,hj3,?_⟩
     rw [heq];simp
    ·exact ⟨false,rfl,hstop _ (hcw2.trans hc3) hjx⟩
   ·rw [if_neg (by omega)] at heq
    refine ⟨k,y0,r.len,by simp,_,r,_,e1,i1,rfl,hcw2,hj2,?_⟩
    rw [heq];simp
  ·exact ⟨false,rfl,hstop _ (hcw1.trans hc2) hjx⟩
 ·obtain ⟨rfl,rfl⟩:=Fo.last hpr (by omega)
  have e:xs'=pre++qt p d false:=by rw [heq];simp [qt]
  rw [e] at hjW
  exact hend _ hcW hjW
theorem qw9 {T:Nat→Prop} (f:Fo) (hs:small f) {a:Option Addr} {n c:Nat} (b:Nat) (w:World) (hb:Blk w b [.slice a n c] 43) (hf:SlF T w a n f) (hbT:T b) :
  IterR prog qab [.pointer (some ⟨b,0,none⟩)] (qt f 0 false) (PlE T w) T w:=by
 intro yf ya yb S J Jx R hS hJ hJx hbody h0 hend hstop
 apply qep
 refine qh fun ty w1 hty hBy e1 s1=>?_
 refine qh fun tw w1' htw hBw' e2' s2'=>?_
 refine qr hBw' rfl fun w2 hBw hcc hss=>?_
 have e2:Ext w1 w2:=qi e2' hcc fun k hk=>by omega
 have E:=qb e1 e2
 refine ⟨.func 172,⟨[]⟩,⟨[.pointer (some ⟨ty,0,none⟩),.pointer (some ⟨tw,0,none⟩)]⟩,by rw [hBw.cell];rfl,dr_ok ⟨a,n,c,by rw [((hb.ext e1).ext e2).cell];rfl,by kernel_rfl,?_⟩⟩
 have hz:=E.size
 have hz1:=e1.size
 have hch:Chg (fun k=>w.heap.size≤k) w w2:=Chg.of_ext E
 refine q8m (w0:=w) (xs:=qt f 0 false) hS hJ hbody (by omega) (by omega) f 0 [] hs (by omega) hf (Chg.of_ext E) (hBy.ext e2) hBw (List.prefix_refl _) (hJ _ _ _ h0 hch) (fun W' hc hj=>?_) (fun W' hc hjx=>?_)
 ·exact ⟨_,rfl,hend _ (Nat.le_trans hz hc.size) hj⟩
 ·exact ⟨_,rfl,hstop _ (Nat.le_trans hz hc.size) hjx⟩
theorem qnb {R:Ending→World→Prop} {w:World} {a:Option Addr} {n c:Nat}
  (h:∀ b w',Blk w' b [.slice a n c] 43→Ext w w'→b=w.heap.size→R (.returned (.func (.func qab) ⟨[]⟩ ⟨[.pointer (some ⟨b,0,none⟩)]⟩)) w') :
  Calls prog qfv ⟨[.slice a n c]⟩ w R:=by
 apply qnn
 refine qh fun b w' hb h1 h2 h3=>?_
 exact h b w' h1 h2 hb
theorem qff {R:Ending→World→Prop} {w:World} (hF:Forms w) (k:Int) (t:List UInt8) (n:Int) (a:Option Addr) (c:Nat) (ps:Fo) (hok:q17 k t n ps)
  (h:∀ w',Ext w w'→R (.returned (.string ⟨⟨valF k t n⟩⟩)) w'):Calls prog qgk ⟨[.agg ⟨[.int .i64 k,.string ⟨⟨t⟩⟩,.int .i64 n,.slice a ps.len c]⟩]⟩ w R:=by
 apply qp3
 refine qh fun b w1 hb hB e1 s1=>?_
 obtain ⟨x0,x1,x2,x3⟩:=blk4 hB
 obtain ⟨q,hq,f0,f1,f2,f3⟩:=(hF.ext e1).get hok.1 hok.2.1
 refine ⟨k,x0,hq _ ⟨_,f0,_,f1,_,f2,_,f3,?_⟩⟩
 refine qw (by simp) (by intro u hu;simp only [List.mem_cons,List.not_mem_nil,or_false] at hu;rcases hu with rfl | rfl | rfl | rfl <;> rfl) fun b2 v hb2 hB2 e2 s2=>?_
 have E:=qb e1 e2
 have F:∀ j,v.cell? ((⟨b2,0,none⟩:Addr).add j)=[Value.string ⟨⟨tagF k⟩⟩,.bool (qad k),.bool (numsF k),.bool (qx k)][j]?:=fun j=>by rw [qg,hB2.cell];simp
 obtain ⟨y0,y1,y2,y3⟩:=blk4 (hB.ext e2)
 have hl:=hok.2.2.2.1
 refine ⟨_,F 1,ql (fun g=>⟨t,y1,by simp;omega,?_⟩) (fun g=>⟨_,F 2,ql (fun g2=>⟨n,y2,?_⟩) (fun g2=>?_)⟩)⟩
 ·have e:valF k t n=[32]++t:=by unfold valF;rw [g];rfl
  rw [e] at h;exact h _ E
 ·have hr:=hok.2.2.1 g2
  have e:valF k t n=[32]++Lib.decDigits n.toNat:=by unfold valF;rw [g,g2];rfl
  rw [e] at h
  have hdl:=qfb n.toNat (by omega)
  have hmm:n=((n.toNat:Nat):Int):=by omega
  rw [hmm]
  refine (Tryz.strconv_Itoa_small n.toNat (by omega) _).mono ?_
  rintro _ _ ⟨rfl,rfl⟩
  exact ⟨_,rfl,by simp;omega,h _ E⟩
 ·have e:valF k t n=[]:=by unfold valF;rw [g,g2];rfl
  rw [e] at h;exact h _ E
theorem qa5 {S S':Nat→Prop} {A B C:World} (h:Chg S A B) (k:Chg S' B C) (hs:∀ i,i < A.heap.size→S' i→S i):Chg S A C :=
 ⟨k.os.trans h.os,k.tape.trans h.tape,k.output.trans h.output,Nat.le_trans h.size k.size,fun i hi hn=>(k.block i (Nat.lt_of_lt_of_le hi h.size) (fun hh=>hn (hs i hi hh))).trans (h.block i hi hn)⟩
theorem NodeIs.chg {S T:Nat→Prop} {w w':World} {q:Addr} {k:Int} {t:List UInt8} {n:Int} {a:Option Addr} {c:Nat} {ps:Fo} (h:NodeIs S w q k t n a c ps) (hl:q.block < w.heap.size) (hq:S q.block) (he:Chg T w w') (hd:∀ k,S k→¬ T k):NodeIs S w' q k t n a c ps:=by
 have key:∀ j,w'.cell? (q.add j)=w.cell? (q.add j):=fun j=>by
  unfold World.cell?
  have:(q.add j).block=q.block:=by unfold Addr.add;split <;> rfl
  rw [this,he.block _ hl (hd _ hq)]
 exact ⟨(key 0).trans h.kind,(key 1).trans h.text,(key 2).trans h.num,(key 3).trans h.parts,h.sl.chg he hd⟩
theorem write_walk {b tw:Nat}:∀ (f:Fo) {R:Ending→World→Prop} {S:Nat→Prop} {w:World} {a:Option Addr} {n c:Nat} {bo:Option Addr} {acc:List UInt8},f.size≤1000000→good f→SlF S w a n f→Forms w→qk < b→BldAt w b bo acc →
  (∀ k,S k→k≠b∧¬ bk bo k)→Blk w tw [.func (.func 175) ⟨[]⟩ ⟨[.pointer (some ⟨b,0,none⟩),.pointer (some ⟨tw,0,none⟩)]⟩] 188→tw≠b→¬ bk bo tw→acc.length + 65600 * f.size≤100000000000 →
  (∀ bo' w',BldAt w' b bo' (acc++qat f)→(∀ k,bk bo' k→bk bo k∨w.heap.size≤k)→Chg (fun k=>k=b∨bk bo k) w w'→R (.returned (.tuple ⟨[]⟩)) w') →
  Calls prog qet ⟨[.slice a n c,.pointer (some ⟨b,0,none⟩),.pointer (some ⟨tw,0,none⟩)]⟩ w R:=by
 intro f
 induction hz:f.size using Nat.strongRecOn generalizing f with
 | _ z ih =>
 intro R S w a n c bo acc hs hg hf0 hF hb0 hbld hSd0 hBw htwb htwo hacc h
 apply qke
 have hn:=hf0.1
 have hfl:=f.len_le_size
 have hf:SlF (fun k=>S k∧k < w.heap.size) w a n f:=hf0.imp fun k hk hl=>⟨hk,hl⟩
 have hblt:=hbld.lt
 have htlt:=hBw.lt
 refine ⟨fun i W m=>∃ (p r:Fo) (bo1:Option Addr),f=p.app r∧i=p.len∧m=r.len∧BldAt W b bo1 (acc++qat p)∧(∀ k,bk bo1 k→bk bo k∨w.heap.size≤k)∧Chg (fun k=>k=b∨bk bo k) w W,
  ⟨_,.nil,f,bo,rfl,rfl,rfl,by simpa [qat] using hbld,fun k hk=>.inl hk,Chg.refl _ _⟩,?_⟩
 rintro _ W m ⟨p,r,bo1,hpr,rfl,rfl,hbW,hbk1,hcW⟩ _
 refine qd (fun hlt=>?_) (fun hge=>?_)
 ·obtain ⟨k,t,mm,ps,r,rfl⟩:=Fo.next hpr (by omega)
  have hsl:=Fo.sub_len hpr
  have hsz:f.size=p.size + (ps.size + r.size + 1):=by rw [hpr,Fo.size_app];rfl
  have hgg:=hg
  rw [hpr,q3w] at hgg
  obtain ⟨hgp,hok,hgs,hgr⟩:=hgg
  have l1:=qfg p hgp
  have l2:=qfg ps hgs
  have l3:=q2x hok.1 hok.2.1
  have l4:=q2p hok
  have l5:=hok.2.2.2.1
  have e1:f=(p.app (.one k t mm ps)).app r:=by rw [Fo.app_one_app];exact hpr
  have i1:i64.wrap ((p.len:Int) + 1)=((p.app (.one k t mm ps)).len:Int):=by rw [qj (by omega)];simp [Fo.one]
  have p1:qat (p.app (.one k t mm ps))=qat p++nodeF k t mm (qat ps):=by rw [q12];simp [Fo.one,qat]
  have hSd:∀ k,(S k∧k < w.heap.size)→¬ (k=b∨bk bo k):=fun k hk hh=>hh.elim (hSd0 k hk.1).1 (hSd0 k hk.1).2
  obtain ⟨q,a',c',hq,hSq,hql,hN⟩:=(hf.chg hcW hSd).get hpr
  refine hq _ ⟨k,hN.kind,t,hN.text,mm,hN.num,a',ps.len,c',hN.parts,?_⟩
  refine qw (by simp) (by intro u hu;simp only [List.mem_cons,List.not_mem_nil,or_false] at hu;rcases hu with rfl | rfl | rfl | rfl <;> rfl) fun bx w1 hbx hBx e2 s2=>?_
  obtain ⟨x0,x1,x2,x3⟩:=blk4 hBx
  have hbS:∀ k,bk bo k→b < k∧k < w.heap.size:=fun k hk=>hbld.bk hk
  have n0:¬ (qk=b∨bk bo qk):=fun hh=>hh.elim (fun h=>by omega) (fun h=>by have:=(hbS _ h).1;omega)
  have hFW:=hF.chg hcW n0
  obtain ⟨qf,hqf,f0,f1,f2,f3⟩:=(hFW.ext e2).get hok.1 hok.2.1
  refine ⟨k,x0,hqf _ ⟨_,f0,_,f1,_,f2,_,f3,?_⟩⟩
  refine qw (by simp) (by intro u hu;simp only [List.mem_cons,List.not_mem_nil,or_false] at hu;rcases hu with rfl | rfl | rfl | rfl <;> rfl) fun bf w2 hbf hBf e3 s3=>?_
  have E:=qb e2 e3
  have hwW:=hcW.size
  have hEz:=E.size
  have FF:∀ {v:World},Blk v bf [Value.string ⟨⟨tagF k⟩⟩,.bool (qad k),.bool (numsF k),.bool (qx k)] 211→∀ j,v.cell? ((⟨bf,0,none⟩:Addr).add j)=[Value.string ⟨⟨tagF k⟩⟩,.bool (qad k),.bool (numsF k),.bool (qx k)][j]?:=fun hB j=>by rw [qg,hB.cell];simp
  have hX2:=hBx.ext e3
  obtain ⟨y0,y1,y2,y3⟩:=blk4 hX2
  have hF2:=hFW.ext E
  have hb2:=hbW.ext E
  have hc2:Chg (fun k=>k=b∨bk bo k) w w2:=hcW.trans (Chg.of_ext E)
  have hbW1:∀ k,bk bo1 k→k < W.heap.size:=fun k hk=>(hbW.bk hk).2
  refine ⟨k,y0,qd (fun hk1=>?_) (fun hk1=>?_)⟩
  ·refine ⟨t,y1,qez hb2 (by simp;omega) fun bo3 w3 hb3 hk3 hc3=>⟨_,_,rfl,r.len,by simp,_,r,bo3,e1,i1,rfl,?_,?_,?_⟩⟩
   ·rw [p1,nodeF,if_pos hk1,← List.append_assoc];exact hb3
   ·exact fun j hj=>(hk3 j hj).elim (fun h=>hbk1 j h) (fun h=>.inr (by omega))
   ·exact qa5 hc2 hc3 fun j hj hh=>hh.imp id fun h=>(hbk1 j h).elim id fun h=>by omega
  -- the writing of the tag
  have tagW:∀ {R':Ending→World→Prop} {v:World} (s:List UInt8),Ext w2 v→s.length≤65600 →
    (∀ bo3 w3,BldAt w3 b bo3 (acc++qat p++s)→(∀ j,bk bo3 j→bk bo1 j∨w2.heap.size≤j)→Chg (fun j=>j=b∨bk bo1 j) w2 w3→R' (.returned (.tuple ⟨[.int .i64 s.length,.nilIface]⟩)) w3) →
    Calls prog 159 ⟨[.pointer (some ⟨b,0,none⟩),.string ⟨⟨s⟩⟩]⟩ v R':=by
   intro R' v s he hl hh
   refine qez (hb2.ext he) (by simp;omega) fun bo3 w3 hb3 hk3 hc3=>hh bo3 w3 hb3 (fun j hj=>(hk3 j hj).imp id fun h=>by have:=he.size;omega) ?_
   exact (Chg.of_ext he).trans hc3
  refine ⟨qx k,FF hBf 3,ql (fun hp=>?_) (fun hp=>?_)⟩
  ·intro K34 hK34
   have k34:∀ bo3 w3,BldAt w3 b bo3 (acc++qat p++([60]++tagF k++valF k t mm++[62]))→(∀ j,bk bo3 j→bk bo1 j∨w2.heap.size≤j)→Chg (fun j=>j=b∨bk bo1 j) w2 w3→K34 w3:=by
    intro bo3 w3 hb3 hk3 hc3
    have nb:∀ {j:Nat},b < j→W.heap.size≤j→¬ (j=b∨bk bo1 j):=fun hj1 hj2 hh=>hh.elim (fun h=>by omega) (fun h=>by have:=hbW1 _ h;omega)
    have hX3:=hc3.blk hX2 (nb (by omega) (by omega))
    have hBf3:=hc3.blk hBf (nb (by omega) (by omega))
    have hc03:Chg (fun k=>k=b∨bk bo k) w w3:=qa5 hc2 hc3 fun j hj hh=>hh.imp id fun h=>(hbk1 j h).elim id fun h=>by omega
    have hBw3:=hc03.blk hBw (fun hh=>hh.elim htwb htwo)
    have bo3bo:∀ j,bk bo3 j→bk bo j∨w.heap.size≤j:=fun j hj=>(hk3 j hj).elim (fun h=>hbk1 j h) (fun h=>.inr (by omega))
    have hz3:=hc3.size
    refine hK34 _ fun _=>dr_ok ⟨.func 175,⟨[]⟩,⟨[.pointer (some ⟨b,0,none⟩),.pointer (some ⟨tw,0,none⟩)]⟩,by rw [hBw3.cell];rfl,a',ps.len,c',(blk4 hX3).2.2.2,by kernel_rfl,?_⟩
    have lens:((acc++qat p++([60]++tagF k++valF k t mm++[62])).length)≤acc.length + 65600 * p.size + 65600:=by
     simp only [List.length_append,List.length_cons,List.length_nil];omega
    refine ih _ (hz ▸ Fo.sub_size hpr) ps rfl (S:=fun k=>S k∧k < w.heap.size) (by omega) hgs ((hN.sl.ext E).chg hc3 fun j hj hh=>hh.elim (hSd0 j hj.1).1 fun h=>(hbk1 j h).elim (hSd0 j hj.1).2 fun h=>by have:=hj.2;omega) (hF.chg hc03 n0) hb0 hb3 ?_ hBw3 htwb ?_ (by omega) fun bo4 w4 hb4 hk4 hc4=>⟨rfl,?_⟩
    ·exact fun j hj=>⟨(hSd0 j hj.1).1,fun hh=>(bo3bo j hh).elim (hSd0 j hj.1).2 fun h=>by have:=hj.2;omega⟩
    ·exact fun hh=>(bo3bo _ hh).elim htwo fun h=>by omega
    have nb3:¬ (bf=b∨bk bo3 bf):=fun hh=>hh.elim (fun h=>by omega) (fun h=>(hk3 _ h).elim (fun h=>by have:=hbW1 _ h;omega) (fun h=>by omega))
    have hBf4:=hc4.blk hBf3 nb3
    have hc04:Chg (fun k=>k=b∨bk bo k) w w4:=qa5 hc03 hc4 fun j hj hh=>hh.imp id fun h=>(bo3bo j h).elim id fun h=>by omega
    refine ⟨tagF k,FF hBf4 0,by simp;omega,by simp;omega,?_⟩
    refine qez hb4 (by simp only [List.length_append,List.length_cons,List.length_nil] at lens ⊢;omega) fun bo5 w5 hb5 hk5 hc5=>⟨_,_,rfl,r.len,by simp,_,r,bo5,e1,i1,rfl,?_,?_,?_⟩
    ·rw [p1,nodeF,if_neg hk1,if_pos hp]
     simpa using hb5
    ·exact fun j hj=>(hk5 j hj).elim (fun h=>(hk4 j h).elim (fun h=>bo3bo j h) fun h=>.inr (by omega)) (fun h=>.inr (by have:=hc4.size;omega))
    ·exact qa5 hc04 hc5 fun j hj hh=>hh.imp id fun h=>(hk4 j h).elim (fun h=>(bo3bo j h).elim id fun h=>by omega) fun h=>by omega
   have hdr:=qs w2
   obtain ⟨d0,d1,d2,d3⟩:=blk4 (hX2.ext hdr)
   have Fd:=FF (hBf.ext hdr)
   unfold drw
   have L:([60]++tagF k++valF k t mm++[62]).length≤65600:=by simp;omega
   refine ⟨⟨tagF k,Fd 0,by simp;omega,k,d0,t,d1,mm,d2,a',ps.len,c',d3,?_,trivial⟩,⟨k,d0,t,d1,mm,d2,a',ps.len,c',d3,⟨tagF k,Fd 0,by simp;omega,?_,trivial⟩,?_,trivial⟩,trivial⟩
   ·exact qff (hF2.ext hdr) k t mm a' c' ps hok fun v he=>⟨_,rfl,by simp;omega,by simp;omega,tagW _ (qb hdr he) L fun bo3 w3 h1 h2 h3=>⟨_,_,rfl,k34 bo3 w3 h1 h2 h3⟩,trivial⟩
   ·exact qff (hF2.ext hdr) k t mm a' c' ps hok fun v he=>⟨_,rfl,by simp;omega,by simp;omega,tagW _ (qb hdr he) L fun bo3 w3 h1 h2 h3=>⟨_,_,rfl,k34 bo3 w3 h1 h2 h3⟩,trivial⟩
   ·exact qff (hF2.ext hdr) k t mm a' c' ps hok fun v he=>⟨_,rfl,tagF k,FF (hBf.ext (qb hdr he)) 0,by simp;omega,by simp;omega,by simp;omega,tagW _ (qb hdr he) L fun bo3 w3 h1 h2 h3=>⟨_,_,rfl,k34 bo3 w3 h1 h2 h3⟩,trivial⟩
  ·have fin:∀ bo3 w3,BldAt w3 b bo3 (acc++qat p++([60]++tagF k++valF k t mm++[47,62]))→(∀ j,bk bo3 j→bk bo1 j∨w2.heap.size≤j)→Chg (fun j=>j=b∨bk bo1 j) w2 w3 →
     ∃ m107,m107 < (Fo.cons k t mm ps r).len∧∃ (p' r':Fo) (bo1':Option Addr),f=p'.app r'∧i64.wrap ((p.len:Int) + 1)=p'.len∧m107=r'.len∧BldAt w3 b bo1' (acc++qat p')∧(∀ k,bk bo1' k→bk bo k∨w.heap.size≤k)∧Chg (fun k=>k=b∨bk bo k) w w3:=by
    intro bo3 w3 hb3 hk3 hc3
    refine ⟨r.len,by simp,_,r,bo3,e1,i1,rfl,?_,?_,?_⟩
    ·rw [p1,nodeF,if_neg hk1,if_neg (by simp [hp]),← List.append_assoc];exact hb3
    ·exact fun j hj=>(hk3 j hj).elim (fun h=>hbk1 j h) (fun h=>.inr (by omega))
    ·exact qa5 hc2 hc3 fun j hj hh=>hh.imp id fun h=>(hbk1 j h).elim id fun h=>by omega
   have hdr:=qs w2
   obtain ⟨d0,d1,d2,d3⟩:=blk4 (hX2.ext hdr)
   have Fd:=FF (hBf.ext hdr)
   unfold drw
   have L:([60]++tagF k++valF k t mm++[47,62]).length≤65600:=by simp;omega
   refine ⟨⟨tagF k,Fd 0,by simp;omega,k,d0,t,d1,mm,d2,a',ps.len,c',d3,?_,trivial⟩,⟨k,d0,t,d1,mm,d2,a',ps.len,c',d3,⟨tagF k,Fd 0,by simp;omega,?_,trivial⟩,?_,trivial⟩,trivial⟩
   ·exact qff (hF2.ext hdr) k t mm a' c' ps hok fun v he=>⟨_,rfl,by simp;omega,by simp;omega,tagW _ (qb hdr he) L fun bo3 w3 h1 h2 h3=>⟨_,_,rfl,fin bo3 w3 h1 h2 h3⟩,trivial⟩
   ·exact qff (hF2.ext hdr) k t mm a' c' ps hok fun v he=>⟨_,rfl,by simp;omega,by simp;omega,tagW _ (qb hdr he) L fun bo3 w3 h1 h2 h3=>⟨_,_,rfl,fin bo3 w3 h1 h2 h3⟩,trivial⟩
   ·exact qff (hF2.ext hdr) k t mm a' c' ps hok fun v he=>⟨_,rfl,tagF k,FF (hBf.ext (qb hdr he)) 0,by simp;omega,by simp;omega,by simp;omega,tagW _ (qb hdr he) L fun bo3 w3 h1 h2 h3=>⟨_,_,rfl,fin bo3 w3 h1 h2 h3⟩,trivial⟩
 ·obtain ⟨rfl,rfl⟩:=Fo.last hpr (by omega)
  exact h bo1 W hbW hbk1 hcW
end Go.Proofs
namespace Go.Sh
open Go Go.RowKit
section
variable {S S':Nat→Prop} {w w':World}
theorem At.keep' {a:Option Addr} {us:List Value} (h:At S w a us) (hs:∀ k,S k→k < w.heap.size→S' k∧k < w'.heap.size∧w'.heap[k]? = w.heap[k]?):At S' w' a us:=by
 rcases h with h | ⟨b,o,rfl,hb,hl,hc⟩
 ·exact .inl h
 ·obtain ⟨h1,h3,h2⟩:=hs b hb hl
  refine .inr ⟨b,o,rfl,h1,h3,fun j v hj=>?_⟩
  have:=hc j v hj
  unfold World.cell? at this ⊢
  rw [h2];exact this
theorem FoC.keep' (hs:∀ k,S k→k < w.heap.size→S' k∧k < w'.heap.size∧w'.heap[k]? = w.heap[k]?):∀ {f:Fo} {vs:List Value},FoC S w f vs→FoC S' w' f vs
 | .nil,vs,h=>h
 | .cons k t n ps r,vs,⟨a,c,us,vs',e,h1,h2,h3⟩=>⟨a,c,us,vs',e,h1.keep' hs,FoC.keep' hs h2,FoC.keep' hs h3⟩
theorem SlF.keep' {a:Option Addr} {n:Nat} {f:Fo} (h:SlF S w a n f) (hs:∀ k,S k→k < w.heap.size→S' k∧k < w'.heap.size∧w'.heap[k]? = w.heap[k]?):SlF S' w' a n f:=by
 obtain ⟨h1,us,h2,h3⟩:=h
 exact ⟨h1,us,h2.keep' hs,h3.keep' hs⟩
end
theorem IterR.mono {α:Type} {P:Program} {gf:FuncId} {cap:List Value} {xs:List α} {E E':α→List Value→Prop} {Rd:Nat→Prop} {w:World} (h:IterR P gf cap xs E Rd w) (hE:∀ x vs,E x vs→E' x vs):IterR P gf cap xs E' Rd w :=
 fun yf ya yb S J Jx R hS hJ hJx hbody h0 h1 h2=>h yf ya yb S J Jx R hS hJ hJx (fun pre x vs W he=>hbody pre x vs W (hE _ _ he)) h0 h1 h2
end Go.Sh
namespace Go.Proofs
open Go Go.Sh Go.RowKit Go.Proofs.Tryz IntKind
theorem q8x {R:Ending→World→Prop} {S:Nat→Prop} {w:World} {a:Option Addr} {n c:Nat} (f:Fo) (hs:f.size≤1000000) (hg:good f) (hf:SlF S w a n f) (hF:Forms w)
  (h:∀ w',Ext w w'→R (.returned (.string ⟨⟨qat f⟩⟩)) w'):Calls prog qfw ⟨[.slice a n c]⟩ w R:=by
 apply qnp
 refine qh fun b w1 hb hB e1 s1=>?_
 refine qh fun tw w2 htw hBw e2 s2=>?_
 refine qr hBw rfl fun w3 hBw3 hc3 hs3=>?_
 have E2:=qb e1 e2
 have E3:Ext w w3:=qi E2 hc3 fun k hk=>by omega
 refine ⟨.func 175,⟨[]⟩,⟨[.pointer (some ⟨b,0,none⟩),.pointer (some ⟨tw,0,none⟩)]⟩,by rw [hBw3.cell];rfl,by kernel_rfl,?_⟩
 have hbld:BldAt w3 b none []:=⟨.pointer none,0,hc3.blk (hB.ext e2) (by omega),.inl rfl,Owns.nil _ _ _ _⟩
 have hw:=hF.1
 refine write_walk f (S:=fun k=>S k∧k < w.heap.size) (acc:=[]) hs hg ((hf.imp fun k hk hl=>⟨hk,hl⟩).ext E3) (hF.ext E3) (by omega) hbld (fun k hk=>⟨by omega,by simp [bk]⟩) hBw3 (by omega) (by simp [bk]) (by simp;omega) fun bo w4 hb4 hk4 hc4=>⟨rfl,?_⟩
 refine q9k hb4 fun w5 hbel=>⟨_,rfl,?_⟩
 have E4:Ext w w4:=qi E3 hc4 fun k hk=>hk.elim (fun h=>by omega) (fun h=>by simp [bk] at h)
 exact h w5 (E4.trans (hbel.mono (by omega)))
theorem qif:∀ (f:Fo) (d:Nat) (b:Bool),(qt f d b).length≤f.size
 | .nil,_,_=>by simp [qt,Fo.size]
 | .cons k t n ps r,d,b=>by
  have h1:=qif ps (d + 1) false
  have h2:=qif r d (decide (k=1))
  simp only [qt,Fo.size,List.length_cons,List.length_append]
  split
  ·omega
  ·simp;omega
theorem qjv:∀ (f:Fo) (d:Nat) (b:Bool),∀ x∈qt f d b,0 < x.ps.len→x.d + 1≤d + f.depth
 | .nil,_,_,x,hx,_=>by simp [qt] at hx
 | .cons k t n ps r,d,b,x,hx,hp=>by
  rw [Fo.depth_parts]
  simp only [qt,List.mem_cons,List.mem_append] at hx
  rcases hx with rfl | hx | hx
  ·simp only at hp ⊢
   rw [if_neg (by omega)];omega
  ·split at hx
   ·have:=qjv ps (d + 1) false x hx hp
    have:ps.len≠0:=fun e=>by
     have e':=Fo.eq_nil_of_len e
     subst e'
     simp [qt] at hx
    rw [if_neg this];omega
   ·simp at hx
  ·have:=qjv r d _ x hx hp
   omega
theorem qnc:∀ (f:Fo) (d:Nat) (b:Bool),d≤16→(∀ x∈qt f d b,¬ (16≤x.d∧0 < x.ps.len))→(qt f d b).length=f.size∧f.depth + d≤16
 | .nil,_,_,hd,_=>⟨rfl,by simp [Fo.depth];omega⟩
 | .cons k t n ps r,d,b,hd,h=>by
  rw [Fo.depth_parts]
  simp only [qt,if_pos hd] at h ⊢
  have h1:¬ (16≤d∧0 < ps.len):=h ⟨k,t,n,ps,d,b⟩ (by simp)
  have i2:=qnc r d (decide (k=1)) hd fun x hx=>h x (by simp [hx])
  by_cases hp:ps.len=0
  ·have e':=Fo.eq_nil_of_len hp
   subst e'
   simp only [qt,List.nil_append,List.length_cons,Fo.size,Fo.len_nil,if_true]
   omega
  ·have i1:=qnc ps (d + 1) false (by omega) fun x hx=>h x (by simp [hx])
   rw [if_neg hp]
   simp only [List.length_cons,List.length_append,Fo.size]
   omega
def errP (x:Pl):Int:=qy x.k x.t x.n x.ps x.b (decide (0 < x.d))
def errs:List Pl→Int
 | []=>0
 | x :: l=>if errP x≠0 then errP x else errs l
theorem qv2 (l m:List Pl):errs (l++m)=if errs l≠0 then errs l else errs m:=by
 induction l with
 | nil=>simp [errs]
 | cons x l ih =>
  simp only [List.cons_append,errs,ih]
  by_cases h:errP x≠0
  ·simp [h]
  ·simp [h]
theorem qnj:∀ (f:Fo) (d:Nat) (b:Bool),f.depth + d≤16→errs (qt f d b)=allF f b (decide (0 < d))
 | .nil,_,_,_=>rfl
 | .cons k t n ps r,d,b,h=>by
  rw [Fo.depth_parts] at h
  have i2:=qnj r d (decide (k=1)) (by omega)
  simp only [qt,allF]
  rw [if_pos (by omega)]
  simp only [errs,qv2,i2]
  by_cases hp:ps.len=0
  ·have e':=Fo.eq_nil_of_len hp
   subst e'
   simp only [qt,errs,allF];rfl
  ·rw [if_neg hp] at h
   rw [qnj ps (d + 1) false (by omega)]
   simp only [Nat.zero_lt_succ,decide_true]
   rfl
theorem errs_stop {pre l:List Pl} {x:Pl} (h:pre++[x] <+: l) (hp:errs pre=0) (hx:errP x≠0):errs l=errP x:=by
 obtain ⟨t,rfl⟩:=h
 rw [qv2,qv2,hp]
 simp [errs,hx]
theorem spend_spec {R:Ending→World→Prop} {W:World} {b4:Nat} {x:Int} (hb:Blk W b4 [.int .i64 x] 3) (hx:-9223372036854775807≤x∧x≤9223372036854775807)
  (h:∀ W',Blk W' b4 [.int .i64 (x - 1)] 3→Chg (· = b4) W W'→R (.returned (.bool (decide (0≤x - 1)))) W'):Calls prog qe6 ⟨[.pointer (some ⟨b4,0,none⟩)]⟩ W R:=by
 apply qlq
 refine dr_ok ⟨x,hb.cell 0,dr_ok ?_⟩
 rw [qu (by omega)]
 exact qr hb rfl fun W' h1 h2 h3=>dr_ok ⟨x - 1,h1.cell 0,h W' h1 h2⟩
def thirdQ (a:Option Addr) (n c b2:Nat) (R:Ending→World→Prop) (ds:List Deferred) (W':World):Prop :=
 Calls prog 121 ⟨[.slice a n c]⟩ W' fun (e39:Ending) (w40:World) =>
 ∃ (x41:List UInt8),e39=.returned (.string ⟨⟨x41⟩⟩)∧(br (decide ((65536:Int) < ((List.length x41:Int)))) (stL w40 (⟨b2,0,none⟩:Addr) 0 [.int .i64 4] fun w42 =>
 retD ds w42 fun w43 =>
 ∃ (x44:Int),World.cell? w43 (⟨b2,0,none⟩:Addr)=some (.int .i64 x44)∧(R (.returned (.int .i64 x44)) w43)) (stL w40 (⟨b2,0,none⟩:Addr) 0 [.int .i64 0] fun w45 =>
 retD ds w45 fun w46 =>
 ∃ (x47:Int),World.cell? w46 (⟨b2,0,none⟩:Addr)=some (.int .i64 x47)∧(R (.returned (.int .i64 x47)) w46)))
def secondQ (a:Option Addr) (n c b2:Nat) (R:Ending→World→Prop) (ds:List Deferred) (W:World):Prop :=
 Calls prog 119 ⟨[.slice a n c]⟩ W fun (e33:Ending) (w34:World) =>
 ∃ (x35:Fn) (x35a:Array Value) (x35b:Array Value),e33=.returned (.func x35 x35a x35b)∧(∀ base36:Env,RFw prog none 39 (cdAt Tryz.f71 [1,1,1,1,0,1,2]) (upd (upd (upd base36 28 (.func x35 x35a x35b)) 2 (.pointer (some ⟨b2,0,none⟩))) 0 (.slice a n c)) ds w34 0
  (fun ds37 w38=>thirdQ a n c b2 R ds37 w38) (fun ds37 w38 =>
 retD ds37 w38 fun w48 =>
 ∃ (x49:Int),World.cell? w48 (⟨b2,0,none⟩:Addr)=some (.int .i64 x49)∧(R (.returned (.int .i64 x49)) w48)) (fun _ _=>False))
theorem qc2 {R:Ending→World→Prop} {S:Nat→Prop} {w:World} {a:Option Addr} {n c:Nat} (f:Fo) (hs:small f) (hf0:SlF S w a n f) (hF:Forms w)
  (h:∀ w',Ext w w'→R (.returned (.int .i64 (qak f))) w'):Calls prog qgo ⟨[.slice a n c]⟩ w R:=by
 apply qp7
 refine qh fun b2 w1 hb2 B2 e1 s1=>?_
 refine qh fun b4 w3 hb4 B4 e3 s3=>?_
 refine qr B4 rfl fun w4 B4 hc4 s4=>?_
 refine qh fun b7 w5 hb7 B7 e5 s5=>?_
 refine qr B7 rfl fun w6 B7 hc6 s6=>?_
 have z1:=e1.size
 have E3:=qb e1 e3
 have E4:Ext w w4:=qi E3 hc4 fun k hk=>by omega
 have E6:Ext w w6:=qi (qb E4 e5) hc6 fun k hk=>by omega
 have B2:=hc6.blk ((hc4.blk (B2.ext e3) (by omega)).ext e5) (by omega)
 have B4:=hc6.blk (B4.ext e5) (by omega)
 refine qnb fun bs w7 Bs e7 hbs=>⟨_,_,_,rfl,fun base=>?_⟩
 have E7:=qb E6 e7
 have B2:=B2.ext e7
 have B4:=B4.ext e7
 have B7:=B7.ext e7
 have l2:=B2.lt
 have l4:=B4.lt
 have l7:=B7.lt
 have ls:=Bs.lt
 have hf:SlF (fun k=>k < w.heap.size) w a n f:=hf0.imp fun k _ hl=>hl
 have z6:=E6.size
 have z7:=E7.size
 have hfw7:SlF (fun k=>k < w.heap.size∨k=bs) w7 a n f:=(hf.ext E7).imp fun k hk _=>.inl hk
 -- the second range,once the first has ended
 have second:∀ (D:Nat) (W:World),w7.heap.size≤D→D < W.heap.size→W.heap[D]? = some (.deferred (some []))→Blk W b2 [.int .i64 0] 28→Ext w W→(f.size≤4096∧f.depth≤16)→secondQ a n c b2 R [{ target:=.collected D,args:=#[] }] W:=by
  intro D W hD1 hD2 hD3 B2 EW hok
  have hfW:=hf.ext EW
  have hck:qak f=if allF f false false≠0 then allF f false false else if 65536 < (qat f).length then 4 else 0:=by unfold qak;rw [if_pos hok]
  have her:=qnj f 0 false (by omega)
  simp only [Nat.lt_irrefl,decide_false] at her
  rw [hck,← her] at h
  refine qnb fun bt v Bt ev hbt=>⟨_,_,_,rfl,fun base=>?_⟩
  have EV:=qb EW ev
  have zv:=ev.size
  have zW:=EW.size
  have l2:=B2.lt
  have hwz:=E7.size
  rw [qkb]
  have lt:=Bt.lt
  have hD4:v.heap[D]? = some (.deferred (some [])):=(ev.block D hD2).trans hD3
  refine q46 qd3 qdz (gf:=qab) rfl (by kernel_rfl) (xs:=qt f 0 false) (E:=PlE (fun k=>k < w.heap.size∨k=bt) v) (Rd:=fun k=>k < w.heap.size∨k=bt)
   (fun v1 he=>(qw9 f hs bt v1 (Bt.ext he) ((hf.ext (qb EV he)).imp fun k hk _=>.inl hk) (.inr rfl)).mono ?_) (fun y vs hE=>by obtain ⟨a',c',rfl,_⟩:=hE;rfl) (by decide) (fun k hk=>by omega) (· = b2) (fun k hk=>by omega)
   (fun pre W'=>Blk W' b2 [.int .i64 0] 28∧errs pre=0∧Ext w W'∧W'.heap[D]? = some (.deferred (some []))) (fun W'=>Blk W' b2 [.int .i64 (errs (qt f 0 false))] 28∧errs (qt f 0 false)≠0∧Ext w W'∧W'.heap[D]? = some (.deferred (some []))) (fun _=>False)
   ?_ ?_ (fun _ _ h=>h.elim) ⟨B2.ext ev,rfl,EV,hD4⟩ ?_ ?_ ?_ (fun _ _ _ _ _ h=>h.elim)
  ·rintro x vs ⟨a',c',rfl,hsl⟩
   exact ⟨a',c',rfl,hsl.keep' fun k hk hl=>⟨hk,by omega,((he.block k (by omega))).symm⟩⟩
  ·rintro pre W1 W2 ⟨g1,g2,g3,g4⟩ hc
   exact ⟨hc.blk g1 (by omega),g2,qex g3 hc (by omega),(hc.block D (Array.getElem?_eq_some_iff.1 g4).1 (by omega)).trans g4⟩
  ·rintro W1 W2 ⟨g1,g2,g3,g4⟩ hc
   exact ⟨hc.blk g1 (by omega),g2,qex g3 hc (by omega),(hc.block D (Array.getElem?_eq_some_iff.1 g4).1 (by omega)).trans g4⟩
  ·rintro pre ⟨k,t,m,ps,d,b⟩ vs W1 l ⟨a',c',rfl,hsl⟩ hpre hl1 hl2 ⟨g1,g2,g3,g4⟩
   refine Eq.mpr (qj4 base _ _ _ _ _ _ _ _ _ _ _ _ _ _ _ _ _ _ _ _) ?_
   refine qw (by simp) (by intro u hu;simp only [List.mem_cons,List.not_mem_nil,or_false] at hu;rcases hu with rfl | rfl | rfl | rfl | rfl | rfl <;> rfl) fun bp W2 hbp Bp ep sp=>?_
   refine ⟨ep,fun W3 hU=>?_⟩
   have Bp3:=qgx hU Bp (by omega)
   have P3:∀ j,W3.cell? ((⟨bp,0,none⟩:Addr).add j)=[Value.int .i64 k,.string ⟨⟨t⟩⟩,.int .i64 m,.slice a' ps.len c',.int .i64 (d:Int),.bool b][j]?:=fun j=>by rw [qg,Bp3.cell];simp
   have E3:Ext w W3:=qex (qb g3 ep) (q2q hU (Nat.le_refl l)) (by omega)
   have zz:=ep.size
   have hD5:W3.heap[D]? = some (.deferred (some [])):=by
    rw [hU.block D (by omega),ep.block D (Array.getElem?_eq_some_iff.1 g4).1];exact g4
   have g1':=qgx hU (g1.ext ep) (by omega)
   refine ⟨k,P3 0,t,P3 1,m,P3 2,a',ps.len,c',P3 3,d,P3 4,b,P3 5,q3f (hF.ext E3) k t m a' c' ps d b fun W4 e4=>⟨_,rfl,qd (fun q=>?_) (fun q=>?_)⟩⟩
   ·have hes:=errs_stop hpre g2 (x:=⟨k,t,m,ps,d,b⟩) q
    refine dr_ok (qr (g1'.ext e4) rfl fun W5 q1 q2 q3=>?_)
    have l2':=(g1'.ext e4).lt
    refine ⟨(Chg.of_ext e4).trans q2,?_,?_,qi (qb E3 e4) q2 fun k hk=>by omega,?_⟩
    ·rw [hes];exact q1
    ·rw [hes];exact q
    ·exact (q2.block D (Nat.lt_of_lt_of_le (Array.getElem?_eq_some_iff.1 hD5).1 e4.size) (by omega)).trans ((e4.block D (Array.getElem?_eq_some_iff.1 hD5).1).trans hD5)
   ·refine ⟨Chg.of_ext e4,g1'.ext e4,?_,qb E3 e4,(e4.block D (Array.getElem?_eq_some_iff.1 hD5).1).trans hD5⟩
    rw [qv2,g2]
    simp only [errs,ne_eq,not_true,if_false]
    exact if_neg (fun hh=>q hh)
  ·rintro D' W1 hD1' hD2' hD3' ⟨g1,g2,g3,g4⟩
   rw [g2] at h
   simp only [ne_eq,not_true,if_false] at h
   have hgood:good f:=qq1 f _ _ (by rw [← her];exact g2)
   refine q8x f (by omega) hgood (hf.ext g3) (hF.ext g3) fun W2 e2=>⟨_,rfl,?_⟩
   have hne:D≠D':=by omega
   have tl:∀ x:Int,qak f=x→(stL W2 (⟨b2,0,none⟩:Addr) 0 [.int .i64 x] fun w42 =>
     retD [{ target:=.collected D',args:=#[] },{ target:=.collected D,args:=#[] }] w42 fun w43=>∃ (x44:Int),World.cell? w43 (⟨b2,0,none⟩:Addr)=some (.int .i64 x44)∧(R (.returned (.int .i64 x44)) w43)):=by
    intro x hx
    refine qr (g1.ext e2) rfl fun W3 q1 q2 q3=>?_
    have l2':=(g1.ext e2).lt
    have dl:=(Array.getElem?_eq_some_iff.1 g4).1
    have dl':=(Array.getElem?_eq_some_iff.1 hD3').1
    have z2:=e2.size
    have d1:W3.heap[D']? = some (.deferred (some [])):=(q2.block D' (by omega) (by omega)).trans ((e2.block D' dl').trans hD3')
    have d2:W3.heap[D]? = some (.deferred (some [])):=(q2.block D (by omega) (by omega)).trans ((e2.block D dl).trans g4)
    refine ⟨D',rfl,d1,?_⟩
    refine qbm ((World.putObj_heap_other hne).trans d2) ⟨x,(qct (qct q1 (by omega) _) (by omega) _).cell 0,?_⟩
    have:=h _ (qb9 (qb9 (qi (qb g3 e2) q2 fun k hk=>by omega) (D:=D') (by omega) (.deferred none)) (D:=D) (by omega) (.deferred none))
    rw [hck,if_neg (by rw [← her,g2];simp)] at hx
    rw [hx] at this
    exact this
   refine qd (fun q=>tl 4 ?_) (fun q=>tl 0 ?_)
   ·rw [hck,← her,g2];simp only [ne_eq,not_true,if_false];rw [if_pos (by omega)]
   ·rw [hck,← her,g2];simp only [ne_eq,not_true,if_false];rw [if_neg (by omega)]
  ·rintro D' W1 hD1' hD2' hD3' ⟨g1,g2,g3,g4⟩
   rw [if_pos g2] at h
   have hne:D≠D':=by omega
   refine ⟨D',rfl,hD3',?_⟩
   refine qbm ((World.putObj_heap_other hne).trans g4) ⟨_,(qct (qct g1 (by omega) _) (by omega) _).cell 0,?_⟩
   exact h _ (qb9 (qb9 g3 (D:=D') (by omega) (.deferred none)) (D:=D) (by omega) (.deferred none))
 rw [qkc]
 refine q46 qd4 qd0 (gf:=qab) rfl (by kernel_rfl) (xs:=qt f 0 false) (E:=PlE (fun k=>k < w.heap.size∨k=bs) w7) (Rd:=fun k=>k < w.heap.size∨k=bs)
  (fun v1 he=>(qw9 f hs bs v1 (Bs.ext he) ((hf.ext (qb E7 he)).imp fun k hk _=>.inl hk) (.inr rfl)).mono ?_) (fun y vs hE=>by obtain ⟨a',c',rfl,_⟩:=hE;rfl) (by decide) (fun k hk=>by omega) (fun k=>k=b2∨k=b4) (fun k hk=>by omega)
  (fun pre W'=>Blk W' b2 [.int .i64 0] 28∧Blk W' b4 [.int .i64 (4096 - (pre.length:Int))] 3∧Blk W' b7 [.func (.func 118) ⟨[]⟩ ⟨[.pointer (some ⟨b4,0,none⟩)]⟩] 26∧pre.length≤4096∧(∀ x∈pre,¬ (16≤x.d∧0 < x.ps.len))∧Ext w W')
  (fun W'=>Blk W' b2 [.int .i64 4] 28∧¬ (f.size≤4096∧f.depth≤16)∧Ext w W') (fun _=>False)
  ?_ ?_ (fun _ _ h=>h.elim) ⟨B2,(by simpa using B4),B7,by simp,by simp,E7⟩ ?_ ?_ ?_ (fun _ _ _ _ _ h=>h.elim)
 ·rintro x vs ⟨a',c',rfl,hsl⟩
  exact ⟨a',c',rfl,hsl.keep' fun k hk hl=>⟨hk,by omega,((he.block k (by omega))).symm⟩⟩
 ·rintro pre W1 W2 ⟨g1,g2,g3,g4,g5,g6⟩ hc
  exact ⟨hc.blk g1 (by omega),hc.blk g2 (by omega),hc.blk g3 (by omega),g4,g5,qex g6 hc (by omega)⟩
 ·rintro W1 W2 ⟨g1,g2,g3⟩ hc
  exact ⟨hc.blk g1 (by omega),g2,qex g3 hc (by omega)⟩
 ·rintro pre ⟨k,t,m,ps,d,b⟩ vs W1 l ⟨a',c',rfl,hsl⟩ hpre hl1 hl2 ⟨g1,g2,g3,g4,g5,g6⟩
  refine Eq.mpr (qj5 base _ _ _ _ _ _ _ _ _ _ _ _ _ _ _ _ _ _ _ _ _) ?_
  refine qw (by simp) (by intro u hu;simp only [List.mem_cons,List.not_mem_nil,or_false] at hu;rcases hu with rfl | rfl | rfl | rfl | rfl | rfl <;> rfl) fun bp W2 hbp Bp ep sp=>?_
  refine ⟨ep,fun W3 hU=>?_⟩
  have Bp3:=qgx hU Bp (by omega)
  have E3:Ext w W3:=qex (qb g6 ep) (q2q hU (Nat.le_refl l)) (by omega)
  have zz:=ep.size
  have h1:=qgx hU (g1.ext ep) (by omega)
  have h2:=qgx hU (g2.ext ep) (by omega)
  have h3:=qgx hU (g3.ext ep) (by omega)
  have lb4:=h2.lt
  refine dr_ok ⟨.func 118,⟨[]⟩,⟨[.pointer (some ⟨b4,0,none⟩)]⟩,by rw [h3.cell];rfl,by kernel_rfl,spend_spec h2 (by omega) fun W4 k4 kc=>⟨_,rfl,?_⟩⟩
  have k1:=kc.blk h1 (by omega)
  have k3:=kc.blk h3 (by omega)
  have kp:=kc.blk Bp3 (by omega)
  have E4:Ext w W4:=qi E3 kc fun k hk=>by omega
  have l2':=k1.lt
  have kc':Chg (fun k=>k=b2∨k=b4) W3 W4:=kc.mono fun k _ h=>.inr h
  have stop:¬ (f.size≤4096∧f.depth≤16)→dr (some ⟨b2,0,none⟩) fun p72=>stL W4 p72 0 [.int .i64 4] fun w71=>Chg (fun k=>k=b2∨k=b4) W3 w71∧Blk w71 b2 [.int .i64 4] 28∧¬ (f.size≤4096∧f.depth≤16)∧Ext w w71:=by
   intro hno
   refine dr_ok (qr k1 rfl fun W5 q1 q2 q3=>?_)
   exact ⟨kc'.trans (q2.mono fun k _ h=>.inl h),q1,hno,qi E4 q2 fun k hk=>by omega⟩
  have hplen:pre.length + 1≤(qt f 0 false).length:=by
   have:=hpre.length_le;simpa using this
  have hpl:=qif f 0 false
  have go:¬ (16≤d∧0 < ps.len)→pre.length + 1≤4096→Chg (fun k=>k=b2∨k=b4) W3 W4∧Blk W4 b2 [.int .i64 0] 28∧Blk W4 b4 [.int .i64 (4096 - ((pre++[(⟨k,t,m,ps,d,b⟩:Pl)]).length:Int))] 3∧Blk W4 b7 [.func (.func 118) ⟨[]⟩ ⟨[.pointer (some ⟨b4,0,none⟩)]⟩] 26∧(pre++[(⟨k,t,m,ps,d,b⟩:Pl)]).length≤4096∧(∀ x∈(pre++[(⟨k,t,m,ps,d,b⟩:Pl)]),¬ (16≤x.d∧0 < x.ps.len))∧Ext w W4:=by
   intro hn1 hn2
   refine ⟨kc',k1,?_,k3,by simpa using hn2,?_,E4⟩
   ·have e:(4096 - ((pre++[(⟨k,t,m,ps,d,b⟩:Pl)]).length:Int))=4096 - (pre.length:Int) - 1:=by simp;omega
    rw [e];exact k4
   ·intro x hx
    rw [List.mem_append,List.mem_singleton] at hx
    rcases hx with hx | rfl
    ·exact g5 x hx
    ·exact hn1
  refine ql (fun q=>stop ?_) (fun q=>?_)
  ·simp only [Bool.not_eq_true',decide_eq_false_iff_not] at q
   omega
  ·simp only [Bool.not_eq_false',decide_eq_true_eq] at q
   refine ⟨d,by rw [qg,kp.cell];rfl,qd (fun q2=>⟨a',ps.len,c',by rw [qg,qg,kp.cell];rfl,qd (fun q3=>stop ?_) (fun q3=>go (by omega) (by omega))⟩) (fun q2=>go (by omega) (by omega))⟩
   have:=qjv f 0 false ⟨k,t,m,ps,d,b⟩ (qe9 hpre) (by simp only;omega)
   simp only at this
   omega
 ·rintro D W hD1 hD2 hD3 ⟨g1,g2,g3,g4,g5,g6⟩
  have hall:=qnc f 0 false (by omega) g5
  exact second D W (by omega) hD2 hD3 g1 g6 ⟨by omega,by omega⟩
 ·rintro D W hD1 hD2 hD3 ⟨g1,g2,g3⟩
  refine qbm hD3 ⟨4,(qct g1 (by omega) _).cell 0,?_⟩
  have e:qak f=4:=by unfold qak;rw [if_neg g2]
  rw [← e]
  exact h _ (qb9 g3 (by omega) _)
end Go.Proofs
namespace Go.Sh
open Go Go.RowKit
section
variable {S:Nat→Prop} {w w':World} {e:TypeId} {B:Nat} {a:Option Addr} {n c:Nat}
theorem OwnF.last {pre:Fo} {k:Int} {t:List UInt8} {m:Int} {ps:Fo} (h:OwnF e S B w a n c (pre.app (.one k t m ps))) :
  ∃ q:Addr,(∀ K:Addr→Prop,K q→idx a n (pre.len:Int) 4 K)∧w.cell? (q.add 0)=some (.int .i64 k)∧w.cell? (q.add 1)=some (.string ⟨⟨t⟩⟩) ∧
   ∀ (t':List UInt8) (K:World→Prop),(∀ w',OwnF e S B w' a n c (pre.app (.one k t' m ps))→Chg (Sh.bk a) w w'→K w')→stL w (q.add 1) 0 [.string ⟨⟨t'⟩⟩] K:=by
 obtain ⟨h0,xs,h1,h2⟩:=h
 obtain ⟨us,ys,rfl,f1,a',c',zs,vs',rfl,g1,g2,g3⟩:=h2.split
 have hvs:vs'=[]:=g3
 subst hvs
 have hl:=f1.len
 have hn:n=pre.len + 1:=by rw [h0];simp [Fo.one]
 rcases h1.2 with h | ⟨g,cap,cur,e1,e2,e3,e4,e5,e6,e7⟩
 ·omega
 obtain ⟨rfl,_,rfl⟩:a=some ⟨g,0,none⟩∧True∧c=cap:=by simpa using e1
 have hB:Blk w g cur.toList e:=e3
 have hcl:cur.toList.length=c * 4:=by simpa using e6
 have hxl:n * 4≤cur.toList.length:=by rw [hcl];omega
 have hget:∀ j,j < n * 4→cur.toList[j]? = (us++[.int .i64 k,.string ⟨⟨t⟩⟩,.int .i64 m,.slice a' ps.len c'])[j]?:=fun j hj=>by
  rw [← e7,List.getElem?_take,if_pos hj]
 have key:∀ j,j < 4→w.cell? ((⟨g,pre.len * 4,none⟩:Addr).add j)=[Value.int .i64 k,.string ⟨⟨t⟩⟩,.int .i64 m,.slice a' ps.len c'][j]?:=fun j hj=>by
  rw [qg,hB.cell,hget _ (by omega),List.getElem?_append_right (by omega),show pre.len * 4 + j - us.length=j by omega]
 refine ⟨⟨g,pre.len * 4,none⟩,fun K hK=>⟨by omega,by omega,?_⟩,key 0 (by omega),key 1 (by omega),fun t' K hK=>?_⟩
 ·show K _
  rw [qg,Int.toNat_natCast,Nat.zero_add];exact hK
 rw [qg]
 refine qae hB (by simp;omega) (by intro u hu;simp only [List.mem_singleton] at hu;subst hu;rfl) fun w' b1 b2 b3 b4 b5 b6=>?_
 have hc:Chg (Sh.bk (some (⟨g,0,none⟩:Addr))) w w':=⟨b4,b5,b6,by omega,fun k' _ hk=>b2 k' fun e=>hk (by simp [Sh.bk,e])⟩
 refine hK w' ⟨by simp [Fo.one];exact hn,us++[.int .i64 k,.string ⟨⟨t'⟩⟩,.int .i64 m,.slice a' ps.len c'],⟨by simp;omega,.inr ⟨g,c,⟨putAt cur.toList (pre.len * 4 + 1 + 0) [.string ⟨⟨t'⟩⟩]⟩,rfl,e2,b1,e4,e5,?_,?_⟩⟩,?_⟩ hc
 ·simp [putAt];omega
 ·have hx:n * 4=us.length + 4:=by omega
  simp only [putAt]
  show ((cur.toList.set (pre.len * 4 + 1 + 0) (.string ⟨⟨t'⟩⟩)).take (n * 4))=_
  rw [List.take_set,e7,show pre.len * 4 + 1 + 0=us.length + 1 by omega,List.set_append_right _ _ (by omega)]
  simp
 ·have hs:∀ j,((S j∨B≤j)∧¬ Sh.bk (some (⟨g,0,none⟩:Addr)) j)→j < w.heap.size→((S j∨B≤j)∧¬ Sh.bk (some (⟨g,0,none⟩:Addr)) j)∧w'.heap[j]? = w.heap[j]?:=fun j hj hlt=>⟨hj,hc.block j hlt hj.2⟩
  exact (f1.keep hs hc.size).app ⟨a',c',zs,[],rfl,g1.keep hs hc.size,g2.keep hs hc.size,rfl⟩
end
end Go.Sh
namespace Go.Proofs
open Go Go.Sh Go.RowKit Go.Proofs.Tryz IntKind
def addL:Fo→List UInt8→Fo
 | .nil,_=>.nil
 | .cons k t n ps r,s=>match r with
  | .nil=>.cons k (t++s) n ps .nil
  | .cons k' t' n' ps' r'=>.cons k t n ps (addL (.cons k' t' n' ps' r') s)
def lastT:Fo→Bool
 | .nil=>false
 | .cons k _ _ _ r=>match r with
  | .nil=>decide (k=1)
  | .cons k' t' n' ps' r'=>lastT (.cons k' t' n' ps' r')
theorem qbw (pre:Fo) (k t n ps s):addL (pre.app (.one k t n ps)) s=pre.app (.one k (t++s) n ps):=by
 induction pre with
 | nil=>rfl
 | cons k1 t1 n1 ps1 r _ ih =>
  cases r with
  | nil=>rfl
  | cons k2 t2 n2 ps2 r2=>simp only [Fo.cons_app,addL] at ih ⊢;rw [ih]
theorem qcy (pre:Fo) (k t n ps):lastT (pre.app (.one k t n ps))=decide (k=1):=by
 induction pre with
 | nil=>rfl
 | cons k1 t1 n1 ps1 r _ ih =>
  cases r with
  | nil=>rfl
  | cons k2 t2 n2 ps2 r2=>simp only [Fo.cons_app,lastT] at ih ⊢;rw [ih]
theorem qdh:∀ (f:Fo),f=.nil∨∃ (pre:Fo) (k:Int) (t:List UInt8) (n:Int) (ps:Fo),f=pre.app (.one k t n ps)
 | .nil=>.inl rfl
 | .cons k t n ps r=>.inr (by
  rcases qdh r with rfl | ⟨pre,k1,t1,n1,ps1,rfl⟩
  ·exact ⟨.nil,k,t,n,ps,rfl⟩
  ·exact ⟨.cons k t n ps pre,k1,t1,n1,ps1,rfl⟩)
def tlen:Fo→Nat
 | .nil=>0
 | .cons _ t _ ps r=>t.length + tlen ps + tlen r
theorem qco (f g:Fo):tlen (f.app g)=tlen f + tlen g:=by
 induction f with
 | nil=>simp [tlen]
 | cons k t n ps r _ ih=>simp only [Fo.cons_app,tlen,ih];omega
def snocM (out:Fo) (k:Int) (t:List UInt8) (n:Int) (ps:Fo):Fo :=
 if k=1∧t=[] then out else if k=1∧lastT out=true then addL out t else out.app (.one k t n ps)
def mgo:Fo→Fo→Fo
 | .nil,out=>out
 | .cons k t n ps r,out=>mgo r (snocM out k t n (mgo ps .nil))
def qam (f:Fo):Fo:=mgo f .nil
theorem qa1:SlT prog 43 56 4 56 (.agg #[.int .i64 0,.string ⟨⟨[]⟩⟩,.int .i64 0,.slice none 0 0]):=⟨by kernel_rfl,by kernel_rfl,rfl,by decide⟩
theorem qel {S:Nat→Prop} {e:TypeId} {B Z:Nat} {W W0:World} {a a':Option Addr} {n c m:Nat} {f ps:Fo} (h:SlF (fun k=>S k∨Z≤k) W a' m ps) (hS:∀ k,S k→k < B) (ho:OwnF e S B W0 a n c f) (hZ:W0.heap.size≤Z) (hB:B≤W0.heap.size) :
  SlF (fun k=>(S k∨B≤k)∧¬ bk a k) W a' m ps :=
 h.imp fun k hk _=>hk.elim (fun h=>⟨.inl h,fun hb=>by have:=(ho.bk hb).1;have:=hS k h;omega⟩) (fun h=>⟨.inr (by omega),fun hb=>by have:=(ho.bk hb).2;omega⟩)
theorem qvu (out:Fo) (k t n ps):(snocM out k t n ps).len≤out.len + 1:=by
 unfold snocM
 split
 ·omega
 ·split
  ·rcases qdh out with rfl | ⟨pre,k1,t1,n1,ps1,rfl⟩
   ·simp [addL]
   ·rw [qbw];simp [Fo.one]
  ·simp [Fo.one]
theorem qoo {out:Fo} {k t n ps} {L:Nat} (h:∀ pre k t m ps,out=Fo.app pre (.one k t m ps)→t.length≤L):∀ (pre:Fo) (k1:Int) (t1:List UInt8) (m1:Int) (ps1:Fo),snocM out k t n ps=pre.app (.one k1 t1 m1 ps1)→t1.length≤L + t.length:=by
 intro pre k1 t1 m1 ps1 he
 have inj:∀ {p q:Fo} {k k' t t' n n' ps ps'},p.app (.one k t n ps)=q.app (.one k' t' n' ps')→t=t':=by
  intro p
  induction p with
  | nil =>
   intro q k k' t t' n n' ps ps' h
   cases q with
   | nil=>simp [Fo.one] at h;exact h.2.1
   | cons a b c d e=>simp only [Fo.nil_app,Fo.one,Fo.cons_app,Fo.cons.injEq] at h;have:=congrArg Fo.len h.2.2.2.2;simp [Fo.one] at this
  | cons a b c d e _ ih =>
   intro q k k' t t' n n' ps ps' h
   cases q with
   | nil=>simp only [Fo.nil_app,Fo.one,Fo.cons_app,Fo.cons.injEq] at h;have:=congrArg Fo.len h.2.2.2.2;simp [Fo.one] at this
   | cons a' b' c' d' e'=>simp only [Fo.cons_app,Fo.cons.injEq] at h;exact ih h.2.2.2.2
 unfold snocM at he
 split at he
 ·have:=h _ _ _ _ _ he;omega
 ·split at he
  ·rcases qdh out with rfl | ⟨p2,k2,t2,n2,ps2,rfl⟩
   ·simp [addL] at he
    have:=congrArg Fo.len he;simp [Fo.one] at this
   ·rw [qbw] at he
    have e:=inj he
    have:=h p2 k2 t2 n2 ps2 rfl
    rw [← e];simp;omega
  ·have e:=inj he
   rw [← e];omega
theorem qeh {n:Nat} (h:0 < n) (h2:n≤4611686018427387904):i64.wrap ((n:Int) - 1)=((n - 1:Nat):Int):=by rw [qu (by omega)];omega
theorem q2g:∀ (f:Fo) {R:Ending→World→Prop} {S:Nat→Prop} {w:World} {a:Option Addr} {n c:Nat},f.size≤1000000000→tlen f≤4611686018427387904→SlF S w a n f →
  (∀ a' n' c' w',SlF (fun k=>S k∨w.heap.size≤k) w' a' n' (qam f)→Ext w w'→R (.returned (.slice a' n' c')) w')→Calls prog qdi ⟨[.slice a n c]⟩ w R:=by
 intro f
 induction hz:f.size using Nat.strongRecOn generalizing f with
 | _ z ih =>
 intro R S w a n c hs ht hf0 h
 apply qgc
 have hn:=hf0.1
 have hfl:=f.len_le_size
 have hf:SlF (fun k=>S k∧k < w.heap.size) w a n f:=hf0.imp fun k hk hl=>⟨hk,hl⟩
 refine ⟨fun oa on oc i W m=>∃ (p r out:Fo),f=p.app r∧i=p.len∧m=r.len∧OwnF 56 (fun k=>S k∧k < w.heap.size) w.heap.size W oa on oc out∧out.len≤p.len∧(∀ pre k t m ps,out=Fo.app pre (.one k t m ps)→t.length≤tlen p)∧Ext w W∧qam f=mgo r out,
  ⟨_,.nil,f,.nil,rfl,rfl,rfl,OwnF.nil w,by simp,?_,Below.refl _ _,rfl⟩,?_⟩
 ·intro pre k t m ps he
  have:=congrArg Fo.len he;simp [Fo.one] at this
 rintro oa on oc _ W m ⟨p,r,out,hpr,rfl,rfl,hout,holen,hlast,he,heq⟩ _
 have hon:=hout.len
 have hwW:=he.size
 refine qd (fun hlt=>?_) (fun hge=>?_)
 ·obtain ⟨k,t,mm,ps,r,rfl⟩:=Fo.next hpr (by omega)
  have hsl:=Fo.sub_len hpr
  have hsz:=Fo.sub_size hpr
  have htl:tlen f=tlen p + (t.length + tlen ps + tlen r):=by rw [hpr,qco];rfl
  have e1:f=(p.app (.one k t mm ps)).app r:=by rw [Fo.app_one_app];exact hpr
  have i1:i64.wrap ((p.len:Int) + 1)=((p.app (.one k t mm ps)).len:Int):=by rw [qj (by omega)];simp [Fo.one]
  have t1:tlen (p.app (.one k t mm ps))=tlen p + (t.length + tlen ps):=by rw [qco];simp [Fo.one,tlen]
  rw [mgo] at heq
  -- what every way ends in
  have done:∀ (oa':Option Addr) (on' oc':Nat) (W':World),OwnF 56 (fun k=>S k∧k < w.heap.size) w.heap.size W' oa' on' oc' (snocM out k t mm (mgo ps .nil))→Ext w W' →
    ∃ m42,m42 < (Fo.cons k t mm ps r).len∧∃ (p' r' out':Fo),f=p'.app r'∧i64.wrap ((p.len:Int) + 1)=p'.len∧m42=r'.len∧OwnF 56 (fun k=>S k∧k < w.heap.size) w.heap.size W' oa' on' oc' out'∧out'.len≤p'.len∧(∀ pre k t m ps,out'=Fo.app pre (.one k t m ps)→t.length≤tlen p')∧Ext w W'∧qam f=mgo r' out':=by
   intro oa' on' oc' W' ho' he'
   refine ⟨r.len,by simp,_,r,_,e1,i1,rfl,ho',?_,?_,he',heq⟩
   ·have:=qvu out k t mm (mgo ps .nil)
    simp [Fo.one];omega
   ·intro pre k1 t1' m1 ps1 hsn
    have:=qoo hlast pre k1 t1' m1 ps1 hsn
    omega
  obtain ⟨q,a',c',hq,hSq,hql,hN⟩:=(hf.ext he).get hpr
  refine hq _ ⟨k,hN.kind,t,hN.text,mm,hN.num,a',ps.len,c',hN.parts,?_⟩
  refine qw (by simp) (by intro u hu;simp only [List.mem_cons,List.not_mem_nil,or_false] at hu;rcases hu with rfl | rfl | rfl | rfl <;> rfl) fun bx w1 hbx hBx e2 s2=>?_
  obtain ⟨x0,x1,x2,x3⟩:=blk4 hBx
  have E1:=qb he e2
  have ho1:=hout.ext e2
  have hzz:=e2.size
  intro K16 hK16
  have k16:¬ (k=1∧t=[])→K16 w1:=by
   intro hne
   refine hK16 _ fun _=>?_
   intro K18 hK18
   have k18:∀ g,g=decide (k=1∧lastT out=true)→K18 g w1:=by
    rintro _ rfl
    refine hK18 _ _ fun _=>qd (fun g=>?_) (fun g=>?_)
    ·have hsn:snocM out k t mm (mgo ps .nil)=addL out t:=by unfold snocM;rw [if_neg hne,if_pos g]
     rcases qdh out with rfl | ⟨pre,k2,t2,n2,ps2,rfl⟩
     ·simp [lastT] at g
     rw [qbw] at hsn
     have hdr:=qs w1
     obtain ⟨q2,hq2,l0,l1,lst⟩:=(ho1.ext hdr).last
     have onl:on=pre.len + 1:=by rw [hon];simp [Fo.one]
     have e:i64.wrap ((on:Int) - 1)=(pre.len:Int):=by rw [qeh (by omega) (by omega),onl];simp
     have hl2:=hlast pre k2 t2 n2 ps2 rfl
     unfold drw
     rw [e]
     refine hq2 _ ⟨t2,l1,t,(blk4 (hBx.ext hdr)).2.1,by omega,hq2 _ ⟨lst _ _ fun w3 ho3 hc3=>?_,trivial⟩⟩
     refine done _ _ _ w3 (by rw [hsn];exact ho3) ?_
     exact qi (qb E1 hdr) hc3 fun j hj=>((ho1.ext hdr).bk hj).1
    ·have hsn:snocM out k t mm (mgo ps .nil)=out.app (.one k t mm (qam ps)):=by unfold snocM;rw [if_neg hne,if_neg g];rfl
     refine ⟨a',ps.len,c',x3,?_⟩
     refine ih _ (hz ▸ hsz) ps rfl (S:=fun k=>S k∧k < w.heap.size) (by omega) (by omega) (hN.sl.ext e2) fun a3 n3 c3 w3 hsl3 e3=>⟨_,_,_,rfl,?_⟩
     have hBx3:=hBx.ext e3
     have hn3:=hsl3.1
     rw [qg]
     refine qae hBx3 (by simp) (by intro u hu;simp only [List.mem_singleton] at hu;subst hu;rfl) fun w4 b1 b2 b3 b4 b5 b6=>?_
     simp only [putAt,List.set] at b1
     have hc4:Chg (· = bx) w3 w4:=⟨b4,b5,b6,by omega,fun k _ hk=>b2 k hk⟩
     have E4:Ext w w4:=qi (qb E1 e3) hc4 fun j hj=>by omega
     have z3:=e3.size
     have EW4:Ext W w4:=qi (qb e2 e3) hc4 fun j hj=>by omega
     have ho4:=hout.ext EW4
     have z4:=EW4.size
     have hp4:SlF (fun j=>(S j∧j < w.heap.size)∨w1.heap.size≤j) w4 a3 n3 (qam ps):=hsl3.chg hc4 fun j hj he=>by
      subst he;rcases hj with hj | hj <;> omega
     subst hn3
     obtain ⟨y0,y1,y2,y3⟩:=blk4 b1
     refine ⟨k,y0,t,y1,mm,y2,a3,_,c3,y3,?_⟩
     refine OwnF.push qa1 ho4 (by omega) (qel hp4 (fun j hj=>hj.2) hout (by omega) (by omega)) (by omega) (by omega) fun a5 n5 c5 w5 ho5 hc5=>?_
     refine done a5 n5 c5 w5 (by rw [hsn];exact ho5) ?_
     exact qi E4 hc5 fun j hj=>(hout.bk hj).1
   have lt:∀ (pre:Fo) (k2:Int) (t2:List UInt8) (m2:Int) (ps2:Fo),out=pre.app (.one k2 t2 m2 ps2)→lastT out=decide (k2=1)∧on=pre.len + 1:=fun pre k2 t2 m2 ps2 hv=>by
    subst hv;exact ⟨qcy ..,by rw [hon];simp [Fo.one]⟩
   rcases qdh out with hv | ⟨pre,k2,t2,m2,ps2,hv⟩
   ·subst hv
    have:on=0:=hon
    subst this
    refine qd (fun g=>?_) (fun g=>k18 _ (by simp [lastT]))
    rw [qu (by omega)] at g;simp at g
   ·obtain ⟨hl1,hl2⟩:=lt _ _ _ _ _ hv
    have e:i64.wrap ((on:Int) - 1)=(pre.len:Int):=by rw [qeh (by omega) (by omega),hl2];simp
    rw [e]
    refine qd (fun g=>⟨k,x0,qd (fun g2=>?_) (fun g2=>k18 _ (by simp [g2]))⟩) (fun g=>absurd (by omega) g)
    subst hv
    obtain ⟨q2,hq2,l0,l1,lst⟩:=ho1.last
    exact hq2 _ ⟨k2,l0,k18 _ (by rw [hl1];simp [g2])⟩
  refine ⟨k,x0,qd (fun g=>⟨t,x1,qd (fun g2=>?_) (fun g2=>k16 fun hh=>g2 hh.2)⟩) (fun g=>k16 fun hh=>g hh.1)⟩
  exact done oa on oc w1 (by unfold snocM;rw [if_pos ⟨g,g2⟩];exact ho1) E1
 ·obtain ⟨rfl,rfl⟩:=Fo.last hpr (by omega)
  rw [heq] at h
  refine h oa on oc W (hout.out.imp fun k hk _=>hk.imp (fun h=>h.1) id) he
end Go.Proofs
