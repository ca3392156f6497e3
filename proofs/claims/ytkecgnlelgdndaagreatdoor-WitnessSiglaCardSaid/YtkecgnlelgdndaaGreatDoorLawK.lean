/- The contracts of the functions that the law reaches, one after the other, and at the end the law's card. -/
import Derived.Test.YtkecgnlelgdndaaGreatDoorLawJ
set_option linter.all false
set_option maxRecDepth 20000
namespace Go.Proofs
open Go Go.Sh Go.RowKit Go.Proofs.Tryz IntKind
theorem qmk {i:Nat} {x:Wt} {y:Src} (h:y∈qce i x):y.2.1=(i:Int):=by
 unfold qce at h
 split at h
 ·rw [List.mem_singleton] at h;rw [h]
 ·rw [List.mem_cons,List.mem_map] at h
  rcases h with rfl | ⟨j,_,rfl⟩ <;> rfl
theorem allS_idx:∀ {l:List Wt} {i:Nat} {y:Src},y∈allS l i→(i:Int)≤y.2.1
 | [],_,_,h=>by cases h
 | x :: l,i,y,h=>by
  rw [allS] at h
  rcases List.mem_append.1 h with h1 | h1
  ·rw [qmk h1];omega
  ·have:=allS_idx h1;omega
theorem q89:∀ (l:List Wt) (i:Nat),(allS l i).Pairwise fun a b=>a.2.1≤b.2.1
 | [],_=>List.Pairwise.nil
 | x :: l,i=>by
  rw [allS,List.pairwise_append]
  refine ⟨?_,q89 l (i + 1),fun a ha b hb=>?_⟩
  ·exact List.pairwise_of_forall_mem_list fun a ha b hb=>by rw [qmk ha,qmk hb];omega
  ·rw [qmk ha];have:=allS_idx hb;omega
theorem q0o:∀ (l:List Wt) (j i:Nat),(allS l j).filter (fun y=>decide (y.2.1=(i:Int)))=if j≤i then ((l[i - j]?).map (qce i)).getD [] else []
 | [],j,i=>by simp [allS]
 | x :: l,j,i=>by
  rw [allS,List.filter_append,q0o l (j + 1) i]
  by_cases hj:j=i
  ·subst hj
   have h1:(qce j x).filter (fun y=>decide (y.2.1=(j:Int)))=qce j x:=by
    rw [List.filter_eq_self]
    exact fun y hy=>decide_eq_true (qmk hy)
   rw [h1,if_neg (by omega),if_pos (Nat.le_refl _),List.append_nil,Nat.sub_self];rfl
  ·have h1:(qce j x).filter (fun y=>decide (y.2.1=(i:Int)))=[]:=by
    rw [List.filter_eq_nil_iff]
    exact fun y hy=>by rw [qmk hy];simpa using fun hh=>hj (by omega)
   rw [h1,List.nil_append]
   by_cases hji:j≤i
   ·rw [if_pos hji,if_pos (by omega)]
    obtain ⟨k,hk⟩:∃ k,i - j=k + 1:=⟨i - j - 1,by omega⟩
    rw [show i - (j + 1)=k by omega,hk];rfl
   ·rw [if_neg hji,if_neg (by omega)]
section
variable {R:Ending→World→Prop} {w:World}
theorem q04 {S:Nat→Prop} {a:Option Addr} {n c:Nat} (L:List Src) (y:Src) (hR:RowAt encSr S w a n L) (hn:n≤1000000000) (h:∀ w',Ext w w'→R (.returned (.bool (decide (y∈L)))) w') :
  Calls prog qaq ⟨[.slice a n c,.agg ⟨[.string ⟨⟨y.1⟩⟩,.int .i64 y.2.1,.int .i64 y.2.2]⟩]⟩ w R:=by
 apply qck
 have hln:=hR.1
 have cl3:∀ {b:Nat} {v:World},Blk v b [.string ⟨⟨y.1⟩⟩,.int .i64 y.2.1,.int .i64 y.2.2] 65→v.cell? ((⟨b,0,none⟩:Addr).add 0)=some (.string ⟨⟨y.1⟩⟩)∧v.cell? ((⟨b,0,none⟩:Addr).add 1)=some (.int .i64 y.2.1)∧v.cell? ((⟨b,0,none⟩:Addr).add 2)=some (.int .i64 y.2.2):=fun hb=>by
  simp only [qg,hb.cell];exact ⟨rfl,rfl,rfl⟩
 refine qh fun b5 w6 hb5 B5 e6 s6=>?_
 obtain ⟨x0,x1,x2⟩:=cl3 B5
 refine ⟨_,x0,_,x1,_,x2,?_⟩
 apply qc5
 refine qh fun b7 w8 hb7 B7 e8 s8=>?_
 have E8:=qb e6 e8
 refine ⟨fun i W m=>∃ k:Nat,i=k∧k≤n∧m=n - k∧y∉L.take k∧Ext w8 W,⟨_,0,rfl,by omega,rfl,by simp,Below.refl _ _⟩,?_⟩
 rintro _ W m ⟨k,rfl,hk,rfl,hz,he⟩ _
 refine qd (fun hlt=>?_) (fun hge=>?_)
 ·have hkl:k < L.length:=by omega
  unfold drw
  have ed:=qb he (qr W)
  obtain ⟨z0,z1,z2⟩:=cl3 (B7.ext ed)
  obtain ⟨q,hq,c0,c1,c2⟩:=qgu (hR.ext (qb E8 ed)) (show L[k]? = some L[k] by simp [hkl])
  refine ⟨_,z0,_,z1,_,z2,hq _ ⟨_,c0,_,c1,_,c2,qk (fun g=>?_) (fun g=>?_)⟩⟩
  ·have hm:y∈L:=by
    simp only [Bool.and_eq_true,decide_eq_true_eq,and_true] at g
    rw [show y=L[k] from Prod.ext g.1 (Prod.ext g.2.1 g.2.2)];exact List.getElem_mem hkl
   refine ⟨_,rfl,?_⟩
   rw [decide_eq_true (show (0:Int)≤(k:Int) by omega)]
   rw [decide_eq_true hm] at h
   exact h _ (qb E8 ed)
  ·refine ⟨n - (k + 1),by omega,k + 1,by rw [qj (by omega)],by omega,rfl,?_,ed⟩
   rw [List.take_succ_eq_append_getElem hkl,List.mem_append,not_or]
   refine ⟨hz,fun hh=>?_⟩
   rw [List.mem_singleton] at hh
   rw [hh] at g
   simp at g
 ·rw [List.take_of_length_le (by omega)] at hz
  rw [decide_eq_false hz] at h
  exact ⟨_,rfl,h W (qb E8 he)⟩
theorem q9c {b1 b2:Nat} {T1 T2:TypeId} (y:Src) (i hd:Int) (B1:Blk w b1 [.int .i64 i] T1) (B2:Blk w b2 [.int .i64 hd] T2) (h:∀ w',Ext w w'→R (.returned (.bool (decide (y.2.1=i∧y.2.2=hd)))) w') :
  Calls prog F_law16_WitnessSigla_1 ⟨[.agg ⟨[.string ⟨⟨y.1⟩⟩,.int .i64 y.2.1,.int .i64 y.2.2]⟩,.pointer (some ⟨b1,0,none⟩),.pointer (some ⟨b2,0,none⟩)]⟩ w R:=by
 apply c_law16_WitnessSigla_1
 refine qh fun b6 w7 hb6 B6 e7 s7=>?_
 refine ⟨_,by rw [qg,B6.cell];rfl,dr_ok ⟨i,by rw [(B1.ext e7).cell];rfl,qd (fun g=>⟨_,by rw [qg,B6.cell];rfl,dr_ok ⟨hd,by rw [(B2.ext e7).cell];rfl,?_⟩⟩) (fun g=>?_)⟩⟩
 ·rw [show decide (y.2.1=i∧y.2.2=hd)=decide (y.2.2=hd) from decide_eq_decide.2 ⟨fun hh=>hh.2,fun hh=>⟨g,hh⟩⟩] at h
  exact h w7 e7
 ·rw [decide_eq_false (fun hh:y.2.1=i∧y.2.2=hd=>g hh.1)] at h
  exact h w7 e7
theorem qw1 {S:Nat→Prop} {a:Option Addr} {n c b1 b2:Nat} {T1 T2:TypeId} (L:List Src) (i hd:Int) (B1:Blk w b1 [.int .i64 i] T1) (B2:Blk w b2 [.int .i64 hd] T2) (hR:RowAt encSr S w a n L) (hn:n≤1000000000)
  (h:∀ w',Ext w w'→R (.returned (.bool (L.any fun y=>decide (y.2.1=i∧y.2.2=hd)))) w') :
  Calls prog qah ⟨[.slice a n c,.func (.func 48) ⟨[]⟩ ⟨[.pointer (some ⟨b1,0,none⟩),.pointer (some ⟨b2,0,none⟩)]⟩]⟩ w R:=by
 apply qbn
 apply qal
 have hln:=hR.1
 refine ⟨fun j W m=>∃ k:Nat,j=k∧k≤n∧m=n - k∧((L.take k).any fun y=>decide (y.2.1=i∧y.2.2=hd))=false∧Ext w W,⟨_,0,rfl,by omega,rfl,rfl,Below.refl _ _⟩,?_⟩
 rintro _ W m ⟨k,rfl,hk,rfl,hz,he⟩ _
 refine qd (fun hlt=>?_) (fun hge=>?_)
 ·have hkl:k < L.length:=by omega
  obtain ⟨q,hq,c0,c1,c2⟩:=qgu (hR.ext he) (show L[k]? = some L[k] by simp [hkl])
  refine hq _ ⟨_,c0,_,c1,_,c2,by kernel_rfl,?_⟩
  refine q9c L[k] i hd (B1.ext he) (B2.ext he) fun v ev=>⟨_,rfl,qk (fun g=>?_) (fun g=>?_)⟩
  ·refine ⟨_,rfl,?_⟩
   rw [decide_eq_true (show (0:Int)≤(k:Int) by omega)]
   rw [List.any_eq_true.2 ⟨L[k],List.getElem_mem hkl,g⟩] at h
   exact h v (qb he ev)
  ·refine ⟨n - (k + 1),by omega,k + 1,by rw [qj (by omega)],by omega,rfl,?_,qb he ev⟩
   rw [List.take_succ_eq_append_getElem hkl,List.any_append,hz,List.any_cons,g];rfl
 ·rw [List.take_of_length_le (by omega)] at hz
  rw [hz] at h
  exact ⟨_,rfl,h W he⟩
end
section
variable {R:Ending→World→Prop} {w:World}
theorem WitnessSigla_spec {S:Nat→Prop} {a:Option Addr} {n c:Nat} (L:List Wt) (hF:Forms w) (hM:Mk w) (hR:SlW S w a n L) (h:∀ w',Ext w w'→R (.returned (.bool true)) w') :
  Calls prog F_law16_WitnessSigla ⟨[.slice a n c]⟩ w R:=by
 apply c_law16_WitnessSigla
 have aw:∀ {v:World},Ext w v→Calls prog qcd ⟨[]⟩ v fun e w'=>∃ y:Bool,e=.returned (.bool y)∧R (.returned (.bool y)) w':=fun hv =>
  qft (hF.ext hv) (hM.ext hv) fun w3 e3=>⟨_,rfl,h w3 (qb hv e3)⟩
 have hln:=hR.1
 intro K2 hK2
 refine qd (fun _=>aw (Below.refl _ _)) (fun g4=>?_)
 refine qix L hF hR (by omega) fun w104 e104=>⟨_,rfl,qk (fun _=>aw e104) (fun g=>hK2 w104 fun _=>?_)⟩
 have hok:=qzf (l:=L) (by simpa using g)
 have hchk:chkW L=0:=by
  unfold chkW
  rw [if_neg (by omega),if_neg]
  intro hh
  obtain ⟨x,hx,hxe⟩:=List.any_eq_true.1 hh
  rw [(hok x hx).wit] at hxe
  simp at hxe
 refine qhv L (fun x hx=>(hok x hx).fine.small) (hF.ext e104) (hR.ext e104) fun xa xn xc w5 hX e5=>⟨_,_,_,_,rfl,qd (fun g7=>?_) (fun g7=>?_)⟩
 ·have h1:srcR L=[]:=by unfold srcR;rw [if_neg g7]
  rw [h1] at hX
  have hx0:=OwnL.length hX
  simp at hx0
  have E5:=qb e104 e5
  refine qd (fun _=>qd (fun _=>aw E5) (fun hh=>absurd (by omega) hh)) (fun n7=>qd (fun _=>qd (fun _=>aw E5) (fun hh=>absurd (by omega) hh)) (fun n4=>?_))
  exfalso
  unfold srcE at g7 n7 n4
  rw [if_neg (by rw [hchk];simp)] at g7 n7 n4
  by_cases hnd:((allS L 0).map (·.1)).Nodup
  ·rw [if_pos hnd] at g7 n4
   by_cases h32:32 < (allS L 0).length
   ·rw [if_pos h32] at n4;exact n4 rfl
   ·rw [if_neg h32] at g7;exact g7 rfl
  ·rw [if_neg hnd] at n7;exact n7 rfl
 have g0:srcE L=0:=Decidable.not_not.1 g7
 obtain ⟨_,gl,gn⟩:=qxs g0
 have hsr:srcR L=allS L 0:=by unfold srcR;rw [if_pos g0]
 rw [hsr] at hX
 have hXR:=OwnL.out (E:=encSr) hX
 have hxn:=hXR.1
 have E5:=qb e104 e5
 refine ⟨fun i W m=>∃ k:Nat,i=k∧k≤xn∧m=xn - k∧Ext w5 W,⟨_,0,rfl,by omega,rfl,Below.refl _ _⟩,?_⟩
 rintro _ W m ⟨k,rfl,hk,rfl,he⟩ _
 have EW:=qb E5 he
 refine qd (fun hlt=>?_) (fun hge=>?_)
 ·have hkl:k < (allS L 0).length:=by omega
  obtain ⟨q,hq,c0,c1,c2⟩:=qgu (hXR.ext he) (show (allS L 0)[k]? = some (allS L 0)[k] by simp [hkl])
  refine hq _ ⟨_,c0,_,c1,_,c2,?_⟩
  refine qz rfl (by intro u hu;simp only [List.mem_cons,List.not_mem_nil,or_false] at hu;rcases hu with rfl | rfl | rfl <;> rfl) fun b23 w25 hb23 B23 e25 s25=>?_
  refine ⟨_,by rw [qg,B23.cell];rfl,?_⟩
  have hnot:(allS L 0)[k].1∉((allS L 0).take k).map (·.1):=by
   have h1:(((allS L 0).take (k + 1)).map (·.1)).Nodup:=gn.sublist ((List.take_sublist _ _).map _)
   rw [List.take_succ_eq_append_getElem hkl,List.map_append,List.nodup_append] at h1
   exact fun hm=>h1.2.2 _ hm _ (by simp) rfl
  obtain ⟨f1,f2⟩:=fin_at hkl rfl hnot
  obtain ⟨wi,y1,y2,_,_⟩:=qxr (List.getElem_mem hkl)
  have hwi:=(List.getElem?_eq_some_iff.1 y2).1
  refine Find_spec _ _ (hXR.ext (qb he e25)) (by omega) fun w28 e28=>⟨_,_,rfl,?_⟩
  rw [f1,f2]
  unfold drw
  have ed:=qr w28
  have B31:=(B23.ext e28).ext ed
  have eW:=qb e25 (qb e28 ed)
  generalize w28.drew=w31 at *
  have r1:w31.cell? ((⟨b23,0,none⟩:Addr).add 1)=some (.int .i64 (allS L 0)[k].2.1):=by rw [qg,B31.cell];rfl
  have go:∃ m',m' < xn - k∧∃ k':Nat,i64.wrap ((k:Int) + 1)=k'∧k'≤xn∧m'=xn - k'∧Ext w5 w31:=⟨xn - (k + 1),by omega,k + 1,by rw [qj (by omega)],by omega,rfl,qb he eW⟩
  refine qd (fun hh=>absurd rfl hh) (fun _=>qd (fun hh=>absurd rfl hh) (fun _=>⟨_,r1,qd (fun hh=>absurd hh (by omega)) (fun _=>⟨_,r1,qd (fun hh=>absurd hh (by omega)) (fun _=>qd (fun hk0=>⟨_,r1,?_⟩) (fun _=>go))⟩)⟩))
  obtain ⟨k',rfl⟩:∃ k',k=k' + 1:=⟨k - 1,by omega⟩
  have ei:i64.wrap (((k' + 1:Nat):Int) - 1)=(k':Int):=by rw [qs (by omega)];omega
  rw [ei]
  have hkl':k' < (allS L 0).length:=by omega
  obtain ⟨q',hq',_,d1,_⟩:=qgu (hXR.ext (qb he eW)) (show (allS L 0)[k']? = some (allS L 0)[k'] by simp [hkl'])
  have hmono:=List.pairwise_iff_getElem.1 (q89 L 0) k' (k' + 1) hkl' hkl (by omega)
  exact hq' _ ⟨_,d1,qd (fun hh=>absurd hh (by omega)) (fun _=>go)⟩
 ·refine ⟨fun i W2 m=>∃ t:Nat,i=t∧t≤n∧m=n - t∧Ext w5 W2,⟨_,0,rfl,by omega,rfl,he⟩,?_⟩
  rintro _ W2 m ⟨t,rfl,ht,rfl,he2⟩ _
  have EW2:=qb E5 he2
  refine qd (fun hlt2=>?_) (fun hge2=>aw EW2)
  have htl:t < L.length:=by omega
  obtain ⟨q,a',c',hq,c0,c1,hf⟩:=(hR.ext EW2).get (show L[t]? = some L[t] by simp [htl])
  have hx:=hok L[t] (List.getElem_mem htl)
  have hfil:=q0o L 0 t
  rw [if_pos (Nat.zero_le _),Nat.sub_zero,show L[t]? = some L[t] by simp [htl]] at hfil
  have hfil:(allS L 0).filter (fun y=>decide (y.2.1=(t:Int)))=qce t L[t]:=hfil
  generalize L[t]=x at *
  have hmemS:∀ y:Src,y.2.1=(t:Int)→(y∈allS L 0↔y∈qce t x):=fun y hy=>by
   rw [← hfil,List.mem_filter];simp [hy]
  have hpl:((x.1,(t:Int),(0:Int)):Src)∈allS L 0↔qy x.2 8=[]:=by
   rw [hmemS _ rfl]
   unfold qce
   by_cases h0:qy x.2 8=[]
   ·rw [if_pos h0];simp [h0]
   ·rw [if_neg h0]
    simp only [List.mem_cons,List.mem_map,h0,iff_false,not_or]
    refine ⟨fun hh=>?_,fun ⟨j,_,hh⟩=>?_⟩
    ·have:=congrArg (fun z:Src=>z.1.length) hh
     simp at this
    ·have:=congrArg (fun z:Src=>z.1.length) hh
     simp at this
  have hcnt:(qce t x).length=if qy x.2 8=[] then 1 else (qy x.2 8).length + 1:=by
   unfold qce
   by_cases h0:qy x.2 8=[]
   ·rw [if_pos h0,if_pos h0];rfl
   ·rw [if_neg h0,if_neg h0];simp
  refine hq _ ⟨_,c0,_,_,_,c1,?_⟩
  refine qh fun b47 w48 hb47 B47 e48 s48=>qh fun b49 w50 hb49 B49 e50 s50=>?_
  refine qp (B47.ext e50) rfl fun w51 q1 q2 q3=>?_
  refine qai (q2.blk B49 (by omega)) (by simp) one2 fun w52 r1 r2 r3 r4 r5 r6=>?_
  have r1:Blk w52 b49 [.string ⟨⟨x.1⟩⟩,.slice a' x.2.len c'] 45:=r1
  have hcv:Chg (· = b49) w51 w52:=⟨r4,r5,r6,by omega,fun k _ hk=>r2 k hk⟩
  have C47:Blk w52 b47 [.int .i64 (t:Int)] 3:=hcv.blk q1 (by omega)
  have e52:Ext W2 w52:=qi (qi (qb e48 e50) q2 fun k hk=>by omega) hcv fun k hk=>by have:=e48.size;omega
  have E52:=qb EW2 e52
  obtain ⟨z0,z1⟩:=blk2w r1
  refine ⟨_,_,_,z1,q0u x.2 hx.fine.small (hF.ext E52) (hf.ext e52) hx.fine.check fun ha hn hc w55 hH e55=>⟨_,_,_,_,rfl,?_⟩⟩
  obtain ⟨y0,_⟩:=blk2w (r1.ext e55)
  refine ⟨_,y0,_,by rw [(C47.ext e55).cell];rfl,?_⟩
  have e555:Ext w5 w55:=qb he2 (qb e52 e55)
  have hhl:(qy x.2 8).length=hn:=by have:=hH.1;simpa using this
  have hh8:=qjy x.2 8
  refine q04 (allS L 0) (x.1,(t:Int),0) (hXR.ext e555) (by omega) fun w61 e61=>⟨_,rfl,?_⟩
  have e561:=qb e555 e61
  have C61:=(C47.ext e55).ext e61
  have hH61:=Owns.ext hH e61
  refine ⟨fun cnt i W3 m=>∃ u:Nat,i=u∧u≤xn∧m=xn - u∧cnt=((((allS L 0).take u).filter (fun y=>decide (y.2.1=(t:Int)))).length:Int)∧Ext w61 W3,⟨_,0,rfl,by omega,rfl,rfl,Below.refl _ _⟩,?_⟩
  rintro _ _ W3 m ⟨u,rfl,hu,rfl,rfl,he3⟩ _
  have e53:=qb e561 he3
  have D47:=C61.ext he3
  refine qd (fun hlt3=>?_) (fun hge3=>?_)
  ·have hul:u < (allS L 0).length:=by omega
   have hfl:=List.length_filter_le (fun y:Src=>decide (y.2.1=(t:Int))) ((allS L 0).take u)
   rw [List.length_take] at hfl
   obtain ⟨q',hq',d0,d1,d2⟩:=qgu (hXR.ext e53) (show (allS L 0)[u]? = some (allS L 0)[u] by simp [hul])
   refine hq' _ ⟨_,d0,_,d1,_,d2,?_⟩
   refine qz rfl (by intro v hv;simp only [List.mem_cons,List.not_mem_nil,or_false] at hv;rcases hv with rfl | rfl | rfl <;> rfl) fun b73 w75 hb73 B73 e75 s75=>?_
   have hsn:((allS L 0).take (u + 1)).filter (fun y=>decide (y.2.1=(t:Int)))=((allS L 0).take u).filter (fun y=>decide (y.2.1=(t:Int)))++if (allS L 0)[u].2.1=(t:Int) then [(allS L 0)[u]] else []:=by
    rw [List.take_succ_eq_append_getElem hul,List.filter_append,List.filter_cons]
    congr 1
    by_cases hh:(allS L 0)[u].2.1=(t:Int)
    ·rw [if_pos (decide_eq_true hh),if_pos hh];rfl
    ·rw [if_neg (by simpa using hh),if_neg hh];rfl
   refine ⟨_,by rw [qg,B73.cell];rfl,_,by rw [(D47.ext e75).cell];rfl,qd (fun g=>?_) (fun g=>?_)⟩
   ·rw [if_pos g] at hsn
    exact ⟨xn - (u + 1),by omega,u + 1,by rw [qj (by omega)],by omega,rfl,by rw [hsn,qj (by omega),List.length_append];rfl,qb he3 e75⟩
   ·rw [if_neg g,List.append_nil] at hsn
    exact ⟨xn - (u + 1),by omega,u + 1,by rw [qj (by omega)],by omega,rfl,by rw [hsn],qb he3 e75⟩
  ·rw [List.take_of_length_le (by omega),hfil,hcnt]
   intro K80 hK80
   have k80:K80 W3:=by
    refine hK80 W3 fun _=>?_
    refine ⟨fun i W4 m=>∃ v:Nat,i=v∧v≤hn∧m=hn - v∧Ext W3 W4,⟨_,0,rfl,by omega,rfl,Below.refl _ _⟩,?_⟩
    rintro _ W4 m ⟨v,rfl,hv,rfl,he4⟩ _
    refine qd (fun hlt4=>?_) (fun hge4=>⟨n - (t + 1),by omega,t + 1,by rw [qj (by omega)],by omega,rfl,qb (qb he2 (qb e52 (qb e55 (qb e61 he3)))) he4⟩)
    have hvl:v < (qy x.2 8).length:=by omega
    refine owns_int (Owns.ext hH61 (qb he3 he4)) hvl _ fun p hp=>⟨_,hp,?_⟩
    refine qh fun b89 w90 hb89 B89 e90 s90=>qp B89 rfl fun w91 t1 t2 t3=>?_
    have e91:Ext W4 w91:=qi e90 t2 fun k hk=>by omega
    have eall:=qb e53 (qb he4 e91)
    refine qw1 (allS L 0) (t:Int) (qy x.2 8)[v] ((D47.ext he4).ext e91) t1 (hXR.ext eall) (by omega) fun w93 e93=>⟨_,rfl,?_⟩
    have hne:qy x.2 8≠[]:=fun hh=>by rw [hh] at hvl;simp at hvl
    have hany:((allS L 0).any fun y=>decide (y.2.1=(t:Int)∧y.2.2=(qy x.2 8)[v]))=true:=by
     rw [List.any_eq_true]
     refine ⟨(x.1++[UInt8.ofNat (48 + ((qy x.2 8)[v]).toNat)],(t:Int),(qy x.2 8)[v]),(hmemS _ rfl).2 ?_,by simp⟩
     unfold qce
     rw [if_neg hne]
     exact List.mem_cons_of_mem _ (List.mem_map.2 ⟨_,List.getElem_mem hvl,rfl⟩)
    rw [hany]
    refine qk (fun g=>by cases g) (fun _=>?_)
    exact ⟨hn - (v + 1),by omega,v + 1,by rw [qj (by omega)],by omega,rfl,qb he4 (qb e91 e93)⟩
   refine qd (fun g=>absurd rfl g) (fun _=>?_)
   by_cases h0:qy x.2 8=[]
   ·have hn0:hn=0:=by rw [← hhl,h0];rfl
    rw [decide_eq_true (hpl.2 h0),if_pos h0]
    subst hn0
    refine qd (fun g=>absurd rfl g) (fun _=>?_)
    rw [br_t]
    refine qd (fun g=>absurd rfl g) (fun _=>?_)
    exact k80
   ·have hn0:hn≠0:=fun hh=>h0 (List.eq_nil_of_length_eq_zero (by omega))
    rw [decide_eq_false (fun hh=>h0 (hpl.1 hh)),if_neg h0]
    refine qd (fun g=>absurd (by rw [decide_eq_false (by omega)]) g) (fun _=>?_)
    rw [br_f]
    refine qd (fun g=>absurd ?_ g) (fun _=>k80)
    rw [qj (by omega),hhl]
end
def Legal (A:List (List Nm)) (out:List Nm):Prop:=∀ (k:Nat) (hk:k < out.length),canB A (out.take k) out[k]=true
theorem Legal.snoc {A:List (List Nm)} {out:List Nm} {s:Nm} (h:Legal A out) (hs:canB A out s=true):Legal A (out++[s]):=by
 intro k hk
 rw [List.length_append,List.length_singleton] at hk
 by_cases hl:k < out.length
 ·rw [List.take_append_of_le_length (by omega),List.getElem_append_left hl];exact h k hl
 ·have:k=out.length:=by omega
  subst this
  rw [List.take_append_of_le_length (by omega),List.take_length,List.getElem_append_right (by omega)]
  simpa using hs
theorem q3s:∀ {A:List (List Nm)} {m:Nat} {out res:List Nm},ordG A m out=some res→Legal A out→(∀ s∈out,s∈A.flatten)→Legal A res∧∀ s∈res,s∈A.flatten
 | A,0,out,res,h,hl,hm=>by
  rw [ordG] at h
  rw [← Option.some.inj h];exact ⟨hl,hm⟩
 | A,m + 1,out,res,h,hl,hm=>by
  rw [ordG] at h
  cases hn:nextS A out with
  | none=>rw [hn] at h;cases h
  | some s =>
   rw [hn] at h
   have hs:canB A out s=true:=List.find?_some hn
   refine q3s h (hl.snoc hs) fun x hx=>?_
   rcases List.mem_append.1 hx with hx | hx
   ·exact hm x hx
   ·rw [List.mem_singleton.1 hx];exact (q8g hn).1
theorem q55 {A:List (List Nm)} {tk:List Nm} {s:Nm} (h:canB A tk s=true):s∉tk∧freeB A tk s=true:=by
 unfold canB at h
 simpa only [Bool.and_eq_true,Bool.not_eq_true',decide_eq_false_iff_not] using h
theorem Legal.nodup {A:List (List Nm)} {out:List Nm} (h:Legal A out):out.Nodup:=by
 rw [List.nodup_iff_pairwise_ne,List.pairwise_iff_getElem]
 intro i j hi hj hij he
 refine (q55 (h j hj)).1 ?_
 rw [← he]
 exact List.mem_take_iff_getElem.2 ⟨i,by omega,rfl⟩
theorem Legal.mono {A:List (List Nm)} {out own:List Nm} (h:Legal A out) (ho:own∈A) (hn:own.Nodup) {i j:Nat} (hj:j < own.length) (hij:i < j) (hm:own[j]∈out) :
  own[i]∈out∧out.idxOf own[i] < out.idxOf own[j]:=by
 have hk:=List.idxOf_lt_length_of_mem hm
 have hg:out[out.idxOf own[j]]=own[j]:=List.getElem_idxOf hk
 have h1:=(q55 (h _ hk)).2
 rw [hg] at h1
 unfold freeB at h1
 have h2:=List.all_eq_true.1 h1 own ho
 unfold okO at h2
 rw [decide_eq_true (List.getElem_mem hj)] at h2
 have hix:own.idxOf own[j]=j:=idxw_at hj rfl fun hh=>by
  obtain ⟨t,ht,he⟩:=List.mem_take_iff_getElem.1 hh
  have h5:=(List.pairwise_iff_getElem.1 (List.nodup_iff_pairwise_ne.1 hn)) t j (by omega) hj (by omega)
  exact h5 he
 rw [hix,Bool.not_true,Bool.false_or,List.all_eq_true] at h2
 have h3:=of_decide_eq_true (h2 own[i] (List.mem_take_iff_getElem.2 ⟨i,by omega,rfl⟩))
 refine ⟨List.mem_of_mem_take h3,?_⟩
 have h4:out.idxOf own[i] < (out.take (out.idxOf own[j])).length:=by
  conv=>lhs;arg 2;rw [← List.take_append_drop (out.idxOf own[j]) out]
  rw [List.idxOf_append,if_pos h3]
  exact List.idxOf_lt_length_of_mem h3
 rw [List.length_take] at h4;omega
theorem qyq {o:List Nm} {B:List (List Nm)} (hn:o.Nodup) (hf:∀ (k:Nat) (hk:k < o.length),freeB B (o.take k) o[k]=true):∀ (m k:Nat),k + m=o.length→ordG (o :: B) m (o.take k)=some o
 | 0,k,h=>by rw [ordG,List.take_of_length_le (by omega)]
 | m + 1,k,h=>by
  have hk:k < o.length:=by omega
  have hnt:o[k]∉o.take k:=fun hh=>by
   obtain ⟨t,ht,he⟩:=List.mem_take_iff_getElem.1 hh
   exact (List.pairwise_iff_getElem.1 (List.nodup_iff_pairwise_ne.1 hn)) t k (by omega) hk (by omega) he
  have hc:canB (o :: B) (o.take k) o[k]=true:=by
   unfold canB freeB
   rw [decide_eq_false hnt,List.all_cons,okO_at hk rfl hnt (fun x hx=>hx)]
   exact hf k hk
  have hs:nextS (o :: B) (o.take k)=some o[k]:=by
   unfold nextS
   have h1:o=o.take k++o[k] :: o.drop (k + 1):=by rw [← List.drop_eq_getElem_cons hk,List.take_append_drop]
   have h2:(o :: B).flatten=o.take k++o[k] :: (o.drop (k + 1)++B.flatten):=by
    rw [List.flatten_cons];conv=>lhs;arg 1;rw [h1]
    rw [List.append_assoc];rfl
   rw [h2]
   refine find_pre _ (List.find?_eq_none.2 fun x hx=>?_) hc
   unfold canB;rw [decide_eq_true hx];simp
  rw [ordG,hs]
  have:=qyq hn hf m (k + 1) (by omega)
  rwa [List.take_succ_eq_append_getElem hk] at this
theorem q3k:∀ {l m:List Nm},l.Nodup→(∀ x∈l,x∈m)→l.length≤m.length
 | [],m,_,_=>Nat.zero_le _
 | x :: l,m,hn,hs=>by
  rw [List.nodup_cons] at hn
  have hx:=hs x (List.mem_cons_self ..)
  have h1:=q3k (l:=l) (m:=m.erase x) hn.2 fun y hy=>(List.mem_erase_of_ne fun hh=>hn.1 (by rw [← hh];exact hy)).2 (hs y (List.mem_cons_of_mem _ hy))
  rw [List.length_erase_of_mem hx] at h1
  have:=List.length_pos_of_mem hx
  rw [List.length_cons];omega
theorem sub_all {l m:List Nm} (hn:l.Nodup) (hs:∀ x∈l,x∈m) (hl:m.length≤l.length):∀ x∈m,x∈l:=by
 intro x hx
 refine Decidable.by_contra fun hh=>?_
 have h1:=q3k (l:=l) (m:=m.erase x) hn fun y hy=>(List.mem_erase_of_ne fun he=>hh (by rw [← he];exact hy)).2 (hs y hy)
 rw [List.length_erase_of_mem hx] at h1
 have:=List.length_pos_of_mem hx
 omega
theorem q5w:∀ {l acc:List Nm},(acc++l).Nodup→ddS acc l=acc++l
 | [],acc,_=>by rw [ddS,List.append_nil]
 | s :: l,acc,h=>by
  have h1:s∉acc:=fun hh=>(List.nodup_append.1 h).2.2 s hh s (List.mem_cons_self ..) rfl
  rw [ddS,if_neg h1,q5w (by simpa using h),List.append_assoc];rfl
theorem ddS_in:∀ {l acc:List Nm},(∀ x∈l,x∈acc)→ddS acc l=acc
 | [],acc,_=>rfl
 | s :: l,acc,h=>by rw [ddS,if_pos (h s (List.mem_cons_self ..))];exact ddS_in fun x hx=>h x (List.mem_cons_of_mem _ hx)
theorem ordE_cases (L:List Wt) (hc:chkW L=0):ordE L=0∨ordE L=4∨(ordE L=15∧(ordG (secL L) (ddL L).length [])=none):=by
 unfold ordE
 rw [if_neg (by rw [hc];simp)]
 split
 ·exact .inr (.inl rfl)
 ·cases h:ordG (secL L) (ddL L).length [] with
  | none=>exact .inr (.inr ⟨rfl,rfl⟩)
  | some r=>exact .inl rfl
theorem ord_one (x:Wt) (hn:(secs x.2).Nodup):ordG (secL [x]) (ddL [x]).length []=some (secs x.2):=by
 have h1:ddL [x]=secs x.2:=by
  unfold ddL secL
  rw [List.map_cons,List.map_nil,List.flatten_cons,List.flatten_nil,List.append_nil,q5w (by simpa using hn)];rfl
 rw [h1]
 exact qyq (B:=[]) hn (fun _ _=>rfl) _ 0 (by omega)
theorem ord_nil:ordG (secL []) (ddL []).length []=some []:=rfl
theorem ord_ok {L:List Wt} (h:ordE L=0):Legal (secL L) (ordR L)∧(∀ s∈ordR L,s∈(secL L).flatten)∧(ordR L).length=(ddL L).length∧(∀ s∈(secL L).flatten,s∈ordR L)∧(ordR L).length≤64∧chkW L=0:=by
 unfold ordE at h
 have hc:chkW L=0:=Decidable.by_contra fun hh=>by rw [if_pos hh] at h;exact hh h
 rw [if_neg (by rw [hc];simp)] at h
 have h64:¬ 64 < (ddL L).length:=fun hh=>by rw [if_pos hh] at h;cases h
 rw [if_neg h64] at h
 have he:ordE L=0:=by unfold ordE;rw [if_neg (by rw [hc];simp),if_neg h64];exact h
 have hr:ordR L=(ordG (secL L) (ddL L).length []).getD []:=by unfold ordR;rw [if_pos he]
 cases hg:ordG (secL L) (ddL L).length [] with
 | none=>rw [hg] at h;cases h
 | some r =>
  rw [hg] at hr
  have hr:ordR L=r:=hr
  rw [hr]
  obtain ⟨h1,h2⟩:=q3s hg (fun k hk=>by cases hk) (fun s hs=>by cases hs)
  have h3:=q8f hg
  rw [List.length_nil,Nat.zero_add] at h3
  have hd:(ddL L).Nodup:=q8u List.nodup_nil
  have h4:=sub_all h1.nodup (m:=ddL L) (fun x hx=>mem_ddS.2 (.inr (h2 x hx))) (by omega)
  exact ⟨h1,h2,h3,fun s hs=>h4 s (mem_ddS.2 (.inr hs)),by omega,hc⟩
theorem q4y:∀ l:List Nm,secs (scF l)=l
 | []=>rfl
 | s :: l=>by show secs (Fo.cons 4 s 0 .nil (scF l))=_;rw [secs,if_pos rfl,q4y l];rfl
theorem q4x:∀ l:List Nm,(scF l).size=l.length
 | []=>rfl
 | s :: l=>by show (Fo.nil.size + (scF l).size + 1)=_;rw [q4x l];simp [Fo.size]
theorem q7x:∀ l:List Nm,(scF l).depth≤1
 | []=>by decide
 | s :: l=>by have:=q7x l;show Nat.max _ _≤1;exact Nat.max_le.2 ⟨by simp [Fo.depth],this⟩
theorem scF_ok:∀ {l:List Nm},(∀ s∈l,qt s=true)→okF false (scF l)
 | [],_=>trivial
 | s :: l,h=>by
  have h1:=h s (List.mem_cons_self ..)
  refine ⟨?_,trivial,scF_ok fun x hx=>h x (List.mem_cons_of_mem _ hx)⟩
  unfold qu
  have e1:qae 4=true:=by decide
  have e2:qaa 4=false:=by decide
  rw [if_neg (by rw [e1];simp [Fo.len]),if_neg (by rw [e2];simp),if_neg (by decide),if_pos (by decide),h1]
  simp
theorem scF_mgd:∀ (l:List Nm) (b:Bool),mgd b (scF l)
 | [],_=>trivial
 | s :: l,b=>⟨fun hh=>absurd hh.1 (by decide),trivial,scF_mgd l _⟩
theorem scF_tlen:∀ {l:List Nm},(∀ s∈l,s.length≤16)→tlen (scF l)≤16 * l.length
 | [],_=>by simp [scF,tlen]
 | s :: l,h=>by
  have h1:=h s (List.mem_cons_self ..)
  have h2:=scF_tlen (l:=l) fun x hx=>h x (List.mem_cons_of_mem _ hx)
  show s.length + tlen .nil + tlen (scF l)≤_
  rw [List.length_cons];simp [tlen];omega
theorem name_len {s:Nm} (h:qt s=true):s.length≤16:=by
 unfold qt at h
 simp only [Bool.and_eq_true,decide_eq_true_eq] at h
 omega
theorem scF_check {l:List Nm} (hl:l.length≤64) (h:∀ s∈l,qt s=true):qag (scF l)=0:=by
 have h1:=q4x l
 have h2:=q7x l
 have h3:=scF_tlen fun s hs=>name_len (h s hs)
 have hok:=scF_ok h
 have ha:allF (scF l) false false=0:=(qg8 _ false false).2 ⟨hok,scF_mgd l _⟩
 have hp:=qjv (scF l) (qqx hok)
 unfold qag
 rw [if_pos (by omega),ha]
 simp;omega
theorem scF_wit {sg:Nm} {l:List Nm} (hs:qt sg=true) (hsl:sg.length≤14) (hl:l.length≤64) (hn:l.Nodup) (h:∀ s∈l,qt s=true):witE (sg,scF l)=0:=by
 unfold witE
 rw [if_neg (by rw [hs];simp;omega),if_neg (by rw [scF_check hl h];simp),if_pos (by rw [q4y];exact hn)]
 cases l with
 | nil=>rfl
 | cons s l=>show hdr (Fo.cons 4 s 0 .nil (scF l))=0;rw [hdr,if_pos rfl]
theorem ord_again {L:List Wt} {z:Wt} (h:ordE L=0) (hz:witE z=0) (hzs:secs z.2=ordR L) (hl:L.length≤31):ordE (z :: L)=0∧ordR (z :: L)=ordR L:=by
 obtain ⟨h1,h2,h3,h4,h5,h6⟩:=ord_ok h
 have hn:=h1.nodup
 have hc:chkW (z :: L)=0:=by
  unfold chkW
  rw [List.length_cons,if_neg (by omega),if_neg]
  rw [List.any_cons,hz]
  unfold chkW at h6
  rw [if_neg (by omega)] at h6
  intro hh
  rw [if_pos (by simpa using hh)] at h6;cases h6
 have hs:secL (z :: L)=ordR L :: secL L:=by unfold secL;rw [List.map_cons,hzs]
 have hd:ddL (z :: L)=ordR L:=by
  unfold ddL
  have h7:ddS [] (ordR L)=ordR L:=by rw [q5w (by simpa using hn)];rfl
  rw [hs,List.flatten_cons,q5x,h7,ddS_in h4]
 have hg:ordG (secL (z :: L)) (ddL (z :: L)).length []=some (ordR L):=by
  rw [hd,hs]
  exact qyq hn (fun k hk=>(q55 (h1 k hk)).2) _ 0 (by omega)
 have he:ordE (z :: L)=0:=by
  unfold ordE
  rw [if_neg (by rw [hc];simp),hg,hd,if_neg (by omega)];rfl
 refine ⟨he,?_⟩
 unfold ordR
 rw [if_pos he,hg];rfl
section
variable {R:Ending→World→Prop} {w:World}
theorem owns_full {b B:Nat} {e:TypeId} {size:Nat} {cs:List Value} {n:Nat} (h:Blk w b cs e) (hB:B≤b) (hn:n≤maxLen) (hl:cs.length=n * size):Owns w B e size (some ⟨b,0,none⟩) n n cs :=
 ⟨hl,.inr ⟨b,n,⟨cs⟩,rfl,hB,h,Nat.le_refl _,hn,hl,List.take_of_length_le (by show cs.length≤_;omega)⟩⟩
theorem WtC.len {S:Nat→Prop}:∀ {L:List Wt} {us:List Value},WtC S w L us→us.length=L.length * 2
 | [],us,h=>by
  have h:us=[]:=h
  subst h;rfl
 | _ :: _,_,⟨a,c,vs,h1,_,h3⟩=>by have:=WtC.len h3;rw [h1];simp only [List.length_cons];omega
theorem WtC.one {S:Nat→Prop}:∀ {L:List Wt} {us:List Value},WtC S w L us→∀ u∈us,u.oneCell'=true
 | [],us,h=>by
  have h:us=[]:=h
  subst h;intro u hu;cases hu
 | _ :: _,_,⟨a,c,vs,h1,_,h3⟩=>by
  rw [h1]
  intro u hu
  rcases List.mem_cons.1 hu with rfl | hu
  ·rfl
  rcases List.mem_cons.1 hu with rfl | hu
  ·rfl
  ·exact WtC.one h3 u hu
theorem WtC.take {S:Nat→Prop}:∀ {L:List Wt} {us:List Value} (k:Nat),WtC S w L us→WtC S w (L.take k) (us.take (k * 2))
 | _,us,0,_=>by rw [Nat.zero_mul];exact rfl
 | [],us,k + 1,h=>by
  have h:us=[]:=h
  subst h;rw [List.take_nil,List.take_nil];exact rfl
 | x :: L,_,k + 1,⟨a,c,vs,h1,h2,h3⟩=>⟨a,c,vs.take (k * 2),by rw [h1,Nat.succ_mul];rfl,h2,WtC.take k h3⟩
theorem SlW.take {S:Nat→Prop} {a:Option Addr} {n:Nat} {L:List Wt} (h:SlW S w a n L) {k:Nat} (hk:k≤n):SlW S w a k (L.take k):=by
 obtain ⟨h1,us,h2,h3⟩:=h
 refine ⟨by rw [List.length_take];omega,us.take (k * 2),?_,h3.take k⟩
 rcases h2 with rfl | ⟨b,o,e1,e2,e3,e4⟩
 ·exact .inl (by simp)
 ·refine .inr ⟨b,o,e1,e2,e3,fun j v hj=>e4 j v ?_⟩
  rw [List.getElem?_take] at hj
  split at hj
  ·exact hj
  ·cases hj
theorem SlW.addr {S:Nat→Prop} {a:Option Addr} {n:Nat} {L:List Wt} (h:SlW S w a n L) (hn:0 < n):∀ p,a=some p→p.add 0=p:=by
 obtain ⟨h1,us,h2,h3⟩:=h
 intro p hp
 have:=h3.len
 rcases h2 with rfl | ⟨b,o,e1,e2,e3,e4⟩
 ·simp at this;omega
 ·rw [hp] at e1;rw [Option.some.inj e1];simp [qg]
theorem slT_wit:SlT prog 22 45 2 40 (.agg #[.string ⟨⟨[]⟩⟩,.slice none 0 0]):=⟨by kernel_rfl,by kernel_rfl,rfl,by decide⟩
theorem wit_app {S S':Nat→Prop} {a a':Option Addr} {n c c' b:Nat} {s:Nm} {f:Fo} {L:List Wt} (hB:Blk w b [.string ⟨⟨s⟩⟩,.slice a' f.len c'] 45) (hf:SlF S' w a' f.len f) (hR:SlW S w a n L) (hn:n≤1000000)
  (hS:∀ k,S k→k≠b) (hS':∀ k,S' k→k≠b) {K:Option Addr→Nat→Nat→World→Prop} (hk:∀ a2 c2 w',SlW (fun _=>True) w' a2 (1 + n) ((s,f) :: L)→Chg (fun k=>k=b) w w'→K a2 (1 + n) c2 w') :
  app prog [22,22] 22 (.slice (some ⟨b,0,none⟩) 1 1) (.slice a n c) w K:=by
 obtain ⟨h1,us,h2,h3⟩:=hR
 have ho:Owns w b 45 2 (some ⟨b,0,none⟩) 1 1 [.string ⟨⟨s⟩⟩,.slice a' f.len c']:=owns_full hB (Nat.le_refl _) (by simp [maxLen]) rfl
 refine qrz slT_wit ho (by have:=hB.lt;omega) us (by rw [h3.len,h1]) h2 h3.one (by omega) (by omega) fun a2 c2 w' ho2 hc hb=>hk a2 c2 w' ?_ (hc.mono fun k hk=>by simpa [bk,eq_comm] using hk)
 have hcb:Chg (fun k=>k=b) w w':=hc.mono fun k hk=>by simpa [bk,eq_comm] using hk
 refine ⟨by simp;omega,_,(q49 ho2).keep (fun _ _ _=>⟨trivial,rfl⟩) (Nat.le_refl _),a',c',us,rfl,(hf.chg hcb hS').imp fun _ _ _=>trivial,?_⟩
 exact h3.keep (fun k hk hl=>⟨trivial,hcb.block k hl (hS k hk)⟩) hcb.size
theorem IndexS_spec {S:Nat→Prop} {a:Option Addr} {n c:Nat} {L:List Nm} (v:Nm) (h1:RowAt Sh.encStr S w a n L) (hs:n≤4611686018427387904) (hv:v∈L) (h:R (.returned (.int .i64 (L.idxOf v:Int))) w) :
  Calls prog qbw ⟨[.slice a n c,.string ⟨⟨v⟩⟩]⟩ w R:=by
 apply qbu
 have hn:=h1.1
 refine ⟨fun i W m=>∃ k:Nat,i=k∧k≤n∧m=n - k∧v∉L.take k∧W=w,⟨_,0,rfl,by omega,rfl,by simp,rfl⟩,?_⟩
 rintro _ W m ⟨k,rfl,hk,rfl,hno,rfl⟩ _
 refine qd (fun hlt=>?_) (fun hge=>?_)
 ·have hkl:k < L.length:=by omega
  obtain ⟨q,hq,c0⟩:=qbr h1 hkl
  refine hq _ ⟨_,c0,qd (fun g=>?_) (fun g=>?_)⟩
  ·rw [idxw_at hkl g.symm hno] at h;exact h
  ·refine ⟨n - (k + 1),by omega,k + 1,by rw [qj (by omega)],by omega,rfl,?_,rfl⟩
   rw [List.take_succ_eq_append_getElem hkl,List.mem_append,not_or]
   exact ⟨hno,by simpa using g⟩
 ·rw [List.take_of_length_le (by omega)] at hno
  exact absurd hv hno
theorem WitnessOrders_spec {S:Nat→Prop} {a:Option Addr} {n c:Nat} (L:List Wt) (hnc:n≤c) (hF:Forms w) (hM:Mk w) (hR0:SlW S w a n L) (h:∀ w',Ext w w'→R (.returned (.bool true)) w') :
  Calls prog F_law16_WitnessOrders ⟨[.slice a n c]⟩ w R:=by
 apply c_law16_WitnessOrders
 have hR:SlW (fun k=>k < w.heap.size) w a n L:=hR0.imp fun k _ hl=>hl
 have aw:∀ {v:World},Ext w v→Calls prog qcd ⟨[]⟩ v fun e w'=>∃ y:Bool,e=.returned (.bool y)∧R (.returned (.bool y)) w':=fun hv =>
  qft (hF.ext hv) (hM.ext hv) fun w3 e3=>⟨_,rfl,h w3 (qb hv e3)⟩
 have hln:=hR.1
 intro K2 hK2
 refine qd (fun _=>aw (Below.refl _ _)) (fun g4=>?_)
 refine qix L hF hR (by omega) fun w99 e99=>⟨_,rfl,qk (fun _=>aw e99) (fun g=>hK2 w99 fun _=>?_)⟩
 have hok:=qzf (l:=L) (by simpa using g)
 have hchk:chkW L=0:=by
  unfold chkW
  rw [if_neg (by omega),if_neg]
  intro hh
  obtain ⟨x,hx,hxe⟩:=List.any_eq_true.1 hh
  rw [(hok x hx).wit] at hxe
  simp at hxe
 refine qu0 L (fun x hx=>(hok x hx).fine.small) (hF.ext e99) (hR.ext e99) fun oa on oc w5 hO e5=>⟨_,_,_,_,rfl,qd (fun g7=>?_) (fun g7=>?_)⟩
 ·have h1:ordR L=[]:=by unfold ordR;rw [if_neg g7]
  rw [h1] at hO
  have hx0:=OwnL.length hO
  simp at hx0
  have E5:=qb e99 e5
  rcases ordE_cases L hchk with h0 | h0 | ⟨h0,hno⟩
  ·exact absurd h0 g7
  ·rw [h0]
   exact qd (fun hh=>absurd hh (by decide)) (fun _=>qd (fun _=>qd (fun _=>aw E5) (fun hh=>absurd (by omega) hh)) (fun hh=>absurd rfl hh))
  ·rw [h0]
   refine qd (fun _=>qd (fun _=>qd (fun _=>aw E5) (fun hh=>absurd (by omega) hh)) (fun hl=>?_)) (fun hh=>absurd rfl hh)
   exfalso
   match L,hln,hno,hok with
   | [],_,hno,_=>rw [ord_nil] at hno;cases hno
   | [x],_,hno,hok=>rw [ord_one x (hok x (List.mem_singleton.2 rfl)).nodup] at hno;cases hno
   | _ :: _ :: l,hln,_,_=>simp at hln;omega
 have g0:ordE L=0:=Decidable.not_not.1 g7
 obtain ⟨hleg,hsub,hlen,hall,h64,_⟩:=ord_ok g0
 have hOR:=OwnL.out (E:=Sh.encStr) hO
 have hon:=hOR.1
 have E5:=qb e99 e5
 have hon64:on≤64:=by omega
 refine ⟨fun count i W m=>∃ k:Nat,i=k∧k≤n∧m=n - k∧count=((ddL (L.take k)).length:Int)∧Ext w5 W,⟨_,0,rfl,by omega,rfl,rfl,Below.refl _ _⟩,?_⟩
 rintro _ _ W m ⟨k,rfl,hk,rfl,rfl,he⟩ _
 have EW:=qb E5 he
 have dl:∀ l:List Wt,(∀ x∈l,OkW x)→(ddL l).length≤40 * l.length:=fun l hl=>by
  have h1:=qo1 (secL l).flatten []
  have h2:(secL l).flatten.length≤40 * l.length:=by
   induction l with
   | nil=>simp [secL]
   | cons x l ih =>
    have h3:=ih (fun y hy=>hl y (List.mem_cons_of_mem _ hy)) (qo1 _ _)
    have h4:=qgd x.2
    have h5:=x.2.len_le_size
    have h6:=(hl x (List.mem_cons_self ..)).fine.size
    have h7:secL (x :: l)=secs x.2 :: secL l:=rfl
    rw [h7,List.flatten_cons,List.length_append,List.length_cons];omega
  unfold ddL
  rw [List.length_nil,Nat.zero_add] at h1;omega
 have hdk:=dl (L.take k) fun x hx=>hok x (List.mem_of_mem_take hx)
 rw [List.length_take] at hdk
 refine qd (fun hlt=>?_) (fun hge=>?_)
 ·have hkl:k < L.length:=by omega
  obtain ⟨q,a',c',hq,c0,c1,hf⟩:=(hR.ext EW).get (show L[k]? = some L[k] by simp [hkl])
  have hx:=hok L[k] (List.getElem_mem hkl)
  have hdd:ddL (L.take (k + 1))=ddS (ddL (L.take k)) (secs L[k].2):=by rw [List.take_succ_eq_append_getElem hkl,q5y]
  have hmemA:secs L[k].2∈secL L:=List.mem_map_of_mem (f:=fun x:Wt=>secs x.2) (List.getElem_mem hkl)
  generalize L[k]=x at *
  refine hq _ ⟨_,c0,_,_,_,c1,?_⟩
  refine qz rfl one2 fun b26 w28 hb26 B26 e28 s28=>?_
  obtain ⟨y0,y1⟩:=blk2w B26
  have E28:=qb EW e28
  refine ⟨_,y0,_,_,_,y1,qek x hx.fine.small (hF.ext E28) (hf.ext e28) fun sa sn sc w32 hN e32=>⟨_,_,_,_,rfl,?_⟩⟩
  have sR:secR x=secs x.2:=by unfold secR;rw [if_pos hx.wit]
  have sE:secE x=0:=by unfold secE;rw [if_pos hx.wit]
  rw [sR] at hN
  rw [sE]
  have hNR:=OwnL.out (E:=Sh.encStr) hN
  have hnn:=hNR.1
  have hsl:=qgd x.2
  have hxl:=x.2.len_le_size
  have hxs:=hx.fine.size
  have hnd:=hx.nodup
  have e32':=qb he (qb e28 e32)
  refine ⟨fun count at_ i W2 m=>∃ j:Nat,i=j∧j≤sn∧m=sn - j∧count=((ddS (ddL (L.take k)) ((secs x.2).take j)).length:Int)∧(∀ t (ht:t < (secs x.2).length),j≤t→at_ < ((ordR L).idxOf (secs x.2)[t]:Int))∧Ext w32 W2,
   ⟨_,0,rfl,by omega,rfl,rfl,fun t ht _=>by omega,Below.refl _ _⟩,?_⟩
  rintro _ at_ _ W2 m ⟨j,rfl,hj,rfl,rfl,hat,he2⟩ _
  have e52:=qb e32' he2
  have EW2:=qb E5 e52
  refine qd (fun hlt2=>?_) (fun hge2=>?_)
  ·have hjl:j < (secs x.2).length:=by omega
   obtain ⟨q2,hq2,d0⟩:=qbr (hNR.ext he2) hjl
   refine hq2 _ ⟨_,d0,?_⟩
   have hsin:(secs x.2)[j]∈ordR L:=hall _ (List.mem_flatten.2 ⟨_,hmemA,List.getElem_mem hjl⟩)
   refine IndexS_spec _ (hOR.ext e52) (by omega) hsin ⟨_,rfl,?_⟩
   intro K47 hK47
   refine qd (fun hh=>absurd rfl hh) (fun _=>qd (fun hh=>absurd hh (by have:=hat j hjl (Nat.le_refl _);omega)) (fun _=>hK47 W2 fun _=>?_))
   refine q4p (by omega) (hR.addr (by omega)) ?_
   have hmono:∀ t (ht:t < (secs x.2).length),j + 1≤t→((ordR L).idxOf (secs x.2)[j]:Int) < ((ordR L).idxOf (secs x.2)[t]:Int):=fun t ht hjt=>by
    have:=(hleg.mono hmemA hnd ht (show j < t by omega) (hall _ (List.mem_flatten.2 ⟨_,hmemA,List.getElem_mem ht⟩))).2
    omega
   have hsnoc:(secs x.2).take (j + 1)=(secs x.2).take j++[(secs x.2)[j]]:=List.take_succ_eq_append_getElem hjl
   have hnew:(secs x.2)[j]∉(secs x.2).take j:=fun hh=>by
    obtain ⟨t,ht,he⟩:=List.mem_take_iff_getElem.1 hh
    exact (List.pairwise_iff_getElem.1 (List.nodup_iff_pairwise_ne.1 hnd)) t j (by omega) hjl (by omega) he
   have hcl:=qo1 ((secs x.2).take j) (ddL (L.take k))
   rw [List.length_take] at hcl
   generalize (secs x.2)[j]=s at *
   have hRk:=(hR.take hk).ext EW2
   refine ⟨fun first i W3 m=>∃ t:Nat,i=t∧t≤k∧m=k - t∧first=!decide (s∈ddL (L.take t))∧Ext W2 W3,⟨_,0,rfl,by omega,rfl,by simp [ddL,secL,ddS],Below.refl _ _⟩,?_⟩
   rintro _ _ W3 m ⟨t,rfl,ht,rfl,rfl,he3⟩ _
   refine qd (fun hlt3=>?_) (fun hge3=>?_)
   ·have htl:t < L.length:=by omega
    obtain ⟨q3,a3,c3,hq3,f0,f1,hv⟩:=(hRk.ext he3).get (i:=t) (x:=L[t]) (by rw [List.getElem?_take];simp [htl];omega)
    have hvo:=hok L[t] (List.getElem_mem htl)
    have htd:ddL (L.take (t + 1))=ddS (ddL (L.take t)) (secs L[t].2):=by rw [List.take_succ_eq_append_getElem htl,q5y]
    generalize L[t]=v at *
    refine hq3 _ ⟨_,f0,_,_,_,f1,?_⟩
    refine qz rfl one2 fun b59 w61 hb59 B59 e61 s61=>?_
    obtain ⟨z0,z1⟩:=blk2w B59
    refine ⟨_,z0,_,_,_,z1,qek v hvo.fine.small (hF.ext (qb EW2 (qb he3 e61))) (hv.ext e61) fun va vn vc w65 hV e65=>⟨_,_,_,_,rfl,?_⟩⟩
    have vR:secR v=secs v.2:=by unfold secR;rw [if_pos hvo.wit]
    have vE:secE v=0:=by unfold secE;rw [if_pos hvo.wit]
    rw [vR] at hV
    rw [vE]
    have hVR:=OwnL.out (E:=Sh.encStr) hV
    have hvn:=hVR.1
    have hvsl:=qgd v.2
    have hvl:=v.2.len_le_size
    have hvs:=hvo.fine.size
    have e65':=qb he3 (qb e61 e65)
    have hmem:s∈ddL (L.take (t + 1))↔s∈ddL (L.take t)∨s∈secs v.2:=by rw [htd,mem_ddS]
    refine qk (fun hf1=>qd (fun _=>?_) (fun hh=>absurd rfl hh)) (fun hf0=>?_)
    ·refine qik s hVR (by omega) ⟨_,rfl,?_⟩
     refine ⟨k - (t + 1),by omega,t + 1,by rw [qj (by omega)],by omega,rfl,?_,e65'⟩
     have hf1:s∉ddL (L.take t):=by simpa using hf1
     congr 1
     exact decide_eq_decide.2 ⟨fun hh=>hmem.2 (.inr hh),fun hh=>(hmem.1 hh).resolve_left hf1⟩
    ·refine ⟨k - (t + 1),by omega,t + 1,by rw [qj (by omega)],by omega,rfl,?_,e65'⟩
     have hf0:s∈ddL (L.take t):=by simpa using hf0
     rw [decide_eq_true (hmem.2 (.inl hf0))];rfl
   ·have htk:t=k:=by omega
    subst htk
    have hms:s∈ddS (ddL (L.take t)) ((secs x.2).take j)↔s∈ddL (L.take t):=by
     rw [mem_ddS];exact ⟨fun hh=>hh.resolve_right hnew,.inl⟩
    refine qk (fun hf1=>?_) (fun hf0=>?_)
    ·have hf1:s∉ddL (L.take t):=by simpa using hf1
     refine ⟨sn - (j + 1),by omega,j + 1,by rw [qj (by omega)],by omega,rfl,?_,hmono,qb he2 he3⟩
     rw [hsnoc,q5v,if_neg fun hh=>hf1 (hms.1 hh),List.length_append,qj (by omega)];rfl
    ·have hf0:s∈ddL (L.take t):=by simpa using hf0
     refine ⟨sn - (j + 1),by omega,j + 1,by rw [qj (by omega)],by omega,rfl,?_,hmono,qb he2 he3⟩
     rw [hsnoc,q5v,if_pos (hms.2 hf0)]
  ·have hjt:(secs x.2).take j=secs x.2:=List.take_of_length_le (by omega)
   rw [hjt,← hdd]
   exact ⟨n - (k + 1),by omega,k + 1,by rw [qj (by omega)],by omega,rfl,rfl,e52⟩
 ·rw [List.take_of_length_le (by omega)]
  refine qd (fun hh=>absurd (by omega) hh) (fun _=>?_)
  refine qid [122] (ordR L) (by omega) (hOR.ext he) fun za zc w78 hZ e78=>⟨_,_,_,_,rfl,?_⟩
  refine qh fun b81 w82 hb81 B81 e82 s82=>?_
  have E78:=qb EW e78
  have E82:=qb E78 e82
  have z78:=E78.size
  have hZ78:SlF (fun j=>j < w78.heap.size) w78 za (scF (ordR L)).len (scF (ordR L)):=hZ.imp fun j _ hl=>hl
  refine wit_app B81 (hZ78.ext e82) (hR.ext E82) (by omega) (fun j hj=>by omega) (fun j hj=>by omega) fun a83 c83 w84 hS84 h84=>?_
  have e84:Ext w78 w84:=qi e82 h84 fun j hj=>by omega
  have E84:=qb E78 e84
  have hnm:∀ s∈ordR L,qt s=true:=fun s hs=>by
   obtain ⟨own,h1,h2⟩:=List.mem_flatten.1 (hsub s hs)
   obtain ⟨x,hx,rfl⟩:=List.mem_map.1 h1
   exact qml (hok x hx).fine.ok s h2
  have hzw:witE (([122]:Nm),scF (ordR L))=0:=scF_wit (by decide) (by decide) h64 hleg.nodup hnm
  obtain ⟨k1,k2⟩:=ord_again (z:=(([122]:Nm),scF (ordR L))) g0 hzw (q4y _) (by omega)
  have hsz:=q4x (ordR L)
  refine qu0 ((([122]:Nm),scF (ordR L)) :: L) (fun x hx=>?_) (hF.ext E84) hS84 fun ya yn yc w86 hY e86=>⟨_,_,_,_,rfl,?_⟩
  ·rcases List.mem_cons.1 hx with rfl | hx
   ·unfold small;show (scF (ordR L)).size≤_;omega
   ·exact (hok x hx).fine.small
  rw [k2] at hY
  rw [k1]
  refine qd (fun _=>?_) (fun hh=>absurd rfl hh)
  refine qmx _ _ (OwnL.out (E:=Sh.encStr) hY) (hOR.ext (qb he (qb e78 (qb e84 e86)))) (by omega) fun w90 e90=>⟨_,rfl,?_⟩
  exact qd (fun _=>aw (qb E84 (qb e86 e90))) (fun hh=>absurd rfl hh)
end
def qzb (L:List Rw):Bool :=
 decide (4099 < L.length)||L.any fun p=>decide (30 < p.1.length)||(decide (30 < p.2.length)||(decide (8 < L.length)&&(decide (L.length≤4096)||!decide (p=([],[])))))
theorem qsk {R:Ending→World→Prop} {S:Nat→Prop} {w:World} {a:Option Addr} {n c:Nat} {L:List Rw} (h1:RowAt encRw S w a n L)
  (h:R (.returned (.bool (qzb L))) w):Calls prog qfz ⟨[.slice a n c]⟩ w R:=by
 apply qly
 have hn:=h1.1
 refine qd (fun g=>?_) (fun g=>?_)
 ·have:qzb L=true:=by unfold qzb;rw [decide_eq_true (by omega)];rfl
  rw [this] at h;exact h
 let q:Rw→Bool:=fun p=>decide (30 < p.1.length)||(decide (30 < p.2.length)||(decide (8 < L.length)&&(decide (L.length≤4096)||!decide (p=([],[])))))
 have hg:qzb L=L.any q:=by unfold qzb;rw [decide_eq_false (by omega)];rfl
 rw [hg] at h
 refine ⟨fun i W m=>∃ k:Nat,i=k∧k≤n∧m=n - k∧(L.take k).any q=false∧W=w,⟨_,0,rfl,by omega,rfl,rfl,rfl⟩,?_⟩
 rintro _ W m ⟨k,rfl,hk,rfl,hno,rfl⟩ _
 refine qd (fun hlt=>?_) (fun hge=>?_)
 ·have hkL:k < L.length:=by omega
  have yes:q L[k]=true→R (.returned (.bool true)) W:=fun hq=>by rw [List.any_eq_true.2 ⟨_,List.getElem_mem hkL,hq⟩] at h;exact h
  have no:q L[k]=false→∃ m',m' < n - k∧∃ k':Nat,i64.wrap ((k:Int) + 1)=k'∧k'≤n∧m'=n - k'∧(L.take k').any q=false∧W=W:=fun hq =>
   ⟨n - (k + 1),by omega,k + 1,by rw [qj (by omega)],by omega,rfl,by rw [List.take_succ_eq_append_getElem hkL,List.any_append,hno];simp [hq],rfl⟩
  obtain ⟨p,hp1,c0,c1⟩:=get_rw h1 hkL
  refine hp1 _ ⟨_,c0,qd (fun g1=>yes ?_) (fun g1=>hp1 _ ⟨_,c1,qd (fun g2=>yes ?_) (fun g2=>qd (fun g3=>qd (fun g4=>yes ?_) (fun g4=>hp1 _ ⟨_,c0,_,c1,?_⟩)) (fun g3=>no ?_))⟩)⟩
  ·show (decide (30 < _)||_)=true
   rw [decide_eq_true (by omega)];rfl
  ·show (_||(decide (30 < _)||_))=true
   rw [decide_eq_true (p:=30 < L[k].2.length) (by omega)];simp
  ·show (_||(_||(decide _&&(decide _||_))))=true
   rw [decide_eq_true (p:=8 < L.length) (by omega),decide_eq_true (p:=L.length≤4096) (by omega)];simp
  ·rw [decRw L[k] ([],[])]
   have hq:q L[k]=!decide (L[k]=([],[])):=by
    show (decide _||(decide _||(decide _&&(decide _||_))))=_
    rw [decide_eq_false (p:=30 < L[k].1.length) (by omega),decide_eq_false (p:=30 < L[k].2.length) (by omega),decide_eq_true (p:=8 < L.length) (by omega),decide_eq_false (p:=L.length≤4096) (by omega)]
    simp
   refine qk (fun g5=>yes (by rw [hq];exact g5)) (fun g5=>no (by rw [hq];exact g5))
  ·show (decide _||(decide _||(decide _&&(decide _||_))))=false
   rw [decide_eq_false (p:=30 < L[k].1.length) (by omega),decide_eq_false (p:=30 < L[k].2.length) (by omega),decide_eq_false (p:=8 < L.length) (by omega)]
   rfl
 ·rw [List.take_of_length_le (by omega)] at hno
  rw [hno] at h
  exact h
theorem smallR_gr {rs:List Rw} (h:qzb rs=false):qu6 rs:=by
 unfold qzb at h
 rw [Bool.or_eq_false_iff] at h
 intro x hx
 have:=List.any_eq_false.1 h.2 x hx
 simp at this
 omega
section
variable {R:Ending→World→Prop} {w:World}
theorem WitnessTokens_spec {S S2:Nat→Prop} {a a2:Option Addr} {n c n2 c2:Nat} (L:List Wt) (rs:List Rw) (sec:Nm) (hF:Forms w) (hM:Mk w) (hR:SlW S w a n L) (hRu:RowAt encRw S2 w a2 n2 rs) (h:∀ w',Ext w w'→R (.returned (.bool true)) w') :
  Calls prog F_law16_WitnessTokens ⟨[.slice a n c,.slice a2 n2 c2,.string ⟨⟨sec⟩⟩]⟩ w R:=by
 apply c_law16_WitnessTokens
 have aw:∀ {v:World},Ext w v→Calls prog qcd ⟨[]⟩ v fun e w'=>∃ y:Bool,e=.returned (.bool y)∧R (.returned (.bool y)) w':=fun hv =>
  qft (hF.ext hv) (hM.ext hv) fun w3 e3=>⟨_,rfl,h w3 (qb hv e3)⟩
 have hln:=hR.1
 intro K4 hK4
 refine qd (fun _=>aw (Below.refl _ _)) (fun g4=>?_)
 refine qix L hF hR (by omega) fun w88 e88=>⟨_,rfl,qk (fun _=>aw e88) (fun g=>?_)⟩
 have hok:=qzf (l:=L) (by simpa using g)
 refine qsk (hRu.ext e88) ⟨_,rfl,qk (fun _=>aw e88) (fun gr=>hK4 w88 fun _=>?_)⟩
 have hsmr:=smallR_gr gr
 have hsmL:∀ x∈L,small x.2:=fun x hx=>(hok x hx).fine.small
 refine qvi L rs sec hsmL (hF.ext e88) (hR.ext e88) hsmr (hRu.ext e88) fun sa sn sc ta tn tc w7 hS hT e7=>⟨_,_,_,_,_,_,_,rfl,?_⟩
 have E7:=qb e88 e7
 refine qhv L hsmL (hF.ext E7) (hR.ext E7) fun xa xn xc w12 hX e12=>⟨_,_,_,_,rfl,?_⟩
 have E12:=qb E7 e12
 have hS12:=hS.ext e12
 have hT12:=hT.ext e12
 have hsn:=hS.1
 have htn:=hT.1
 intro K15 hK15
 have bad:tokWE L rs sec≠0→K15 true w12:=fun hne=>by
  have h1:tokWS L rs sec=[]:=by unfold tokWS;rw [if_neg hne]
  have h2:tokWT L rs sec=[]:=by unfold tokWT;rw [if_neg hne]
  rw [h1] at hsn
  rw [h2] at htn
  simp at hsn htn
  refine hK15 true w12 fun _=>?_
  rw [br_t]
  exact qd (fun _=>qd (fun _=>qd (fun _=>aw E12) (fun hh=>absurd (by omega) hh)) (fun hh=>absurd (by omega) hh)) (fun hh=>absurd hne hh)
 refine qd (fun hne=>bad hne) (fun h0=>?_)
 have h0:tokWE L rs sec=0:=Decidable.not_not.1 h0
 have hse:srcE L=0:=by
  unfold tokWE at h0
  exact Decidable.by_contra fun hh=>by rw [if_pos hh] at h0;exact hh h0
 rw [decide_eq_false (show ¬ srcE L≠0 by simp [hse])]
 refine hK15 false w12 fun _=>?_
 rw [br_f]
 have hWS:tokWS L rs sec=(selS L sec).map (·.1):=by unfold tokWS;rw [if_pos h0]
 have hWT:tokWT L rs sec=(selS L sec).map (tkR1 L rs sec):=by unfold tokWT;rw [if_pos h0]
 have hne:selS L sec≠[]:=fun hh=>by
  unfold tokWE at h0
  rw [if_neg (by simp [hse]),if_pos hh] at h0
  cases h0
 have hfir:∀ y∈selS L sec,tkE1 L rs sec y=0:=by
  unfold tokWE at h0
  rw [if_neg (by simp [hse]),if_neg hne] at h0
  have:∀ l:List Int,firE l=0→∀ x∈l,x=0:=by
   intro l
   induction l with
   | nil=>intro _ x hx;cases hx
   | cons e l ih =>
    intro hl x hx
    by_cases he:e=0
    ·rw [firE,if_neg (by simp [he])] at hl
     rcases List.mem_cons.1 hx with rfl | hx
     ·exact he
     ·exact ih hl x hx
    ·rw [firE,if_pos he] at hl;exact absurd hl he
  exact fun y hy=>this _ h0 _ (List.mem_map_of_mem hy)
 have hsr:srcR L=allS L 0:=by unfold srcR;rw [if_pos hse]
 rw [hsr] at hX
 obtain ⟨_,gl,_⟩:=qxs hse
 have hXR:=OwnL.out (E:=encSr) hX
 have hxn:=hXR.1
 rw [hWS] at hS12 hsn
 rw [hWT] at hT12 htn
 rw [List.length_map] at hsn htn
 have hsel:(selS L sec).length≤(allS L 0).length:=List.length_filter_le _ _
 refine qd (fun hh=>absurd (by omega) hh) (fun _=>?_)
 refine ⟨fun kk i W m=>∃ t:Nat,i=t∧t≤xn∧m=xn - t∧kk=((((allS L 0).take t).filter (hasS L sec)).length:Int)∧Ext w12 W,⟨_,0,rfl,by omega,rfl,rfl,Below.refl _ _⟩,?_⟩
 rintro _ _ W m ⟨t,rfl,ht,rfl,rfl,he⟩ _
 have EW:=qb E12 he
 refine qd (fun hlt=>?_) (fun hge=>?_)
 ·have htl:t < (allS L 0).length:=by omega
  obtain ⟨q,hq,d0,d1,d2⟩:=qgu (hXR.ext he) (show (allS L 0)[t]? = some (allS L 0)[t] by simp [htl])
  obtain ⟨wi,y1,y2,y3,y4⟩:=qxr (List.getElem_mem htl)
  have htk:((allS L 0).take (t + 1)).filter (hasS L sec)=((allS L 0).take t).filter (hasS L sec)++if hasS L sec (allS L 0)[t]=true then [(allS L 0)[t]] else []:=by
   rw [List.take_succ_eq_append_getElem htl,List.filter_append,List.filter_cons];rfl
  have hpre:hasS L sec (allS L 0)[t]=true→(selS L sec)[(((allS L 0).take t).filter (hasS L sec)).length]? = some (allS L 0)[t]:=fun hh=>by
   unfold selS
   conv=>lhs;arg 1;arg 2;rw [← List.take_append_drop t (allS L 0),List.drop_eq_getElem_cons htl]
   rw [List.filter_append,List.filter_cons,if_pos hh,List.getElem?_append_right (Nat.le_refl _),Nat.sub_self];rfl
  have hkb:=List.length_filter_le (hasS L sec) ((allS L 0).take t)
  rw [List.length_take] at hkb
  have hmem:=List.getElem_mem htl
  have hset:(allS L 0)[t]∈allS L 0:=hmem
  have hsin:hasS L sec (allS L 0)[t]=true→(allS L 0)[t]∈selS L sec:=fun hh=>List.mem_filter.2 ⟨hset,hh⟩
  generalize hy:(allS L 0)[t]=y at *
  generalize hk0:(((allS L 0).take t).filter (hasS L sec)).length=k0 at *
  refine hq _ ⟨_,d0,_,d1,_,d2,?_⟩
  refine qz rfl (by intro u hu;simp only [List.mem_cons,List.not_mem_nil,or_false] at hu;rcases hu with rfl | rfl | rfl <;> rfl) fun b31 w33 hb31 B31 e33 s33=>?_
  have hxk:witOf L y∈L:=List.mem_of_getElem? y2
  have hxo:=hok _ hxk
  have hxw:=hxo.wit
  have hpe:parE (witOf L y) sec y.2.2=if hasS L sec y=true then 0 else 6:=by
   unfold parE hasS
   rw [if_neg (by rw [hxw];simp),if_neg (by omega)]
   by_cases hh:sec∈secs (witOf L y).2
   ·rw [if_pos hh,if_pos (decide_eq_true hh)]
   ·rw [if_neg hh,if_neg (by simpa using hh)]
  intro K34 hK34
  have fin:∀ (pa:Option Addr) (pn pc b36:Nat) (v:World) (SP:Nat→Prop),Ext w33 v→SlF SP v pa pn (parR (witOf L y) sec y.2.2)→Blk v b36 [.string ⟨⟨(parP (witOf L y) sec y.2.2).1⟩⟩,.int .i64 (parP (witOf L y) sec y.2.2).2] 51 →
    K34 pa pn pc (some ⟨b36,0,none⟩) (parE (witOf L y) sec y.2.2) v:=by
   intro pa pn pc b36 v SP ev hPv hBv
   refine hK34 _ _ _ _ _ _ fun _=>?_
   rw [hpe]
   have Ev:=qb EW (qb e33 ev)
   by_cases hh:hasS L sec y=true
   ·have hpz:parE (witOf L y) sec y.2.2=0:=by rw [hpe,if_pos hh]
    have hpr:parR (witOf L y) sec y.2.2=bodyS (stF (witOf L y).2 y.2.2) sec:=by unfold parR;rw [if_pos hpz]
    have hpp:parP (witOf L y) sec y.2.2=posS (stF (witOf L y).2 y.2.2) sec:=by unfold parP;rw [if_pos hpz]
    rw [hpr] at hPv
    rw [hpp] at hBv
    rw [if_pos hh]
    obtain ⟨p0,p1⟩:=blk2w hBv
    refine qd (fun g6=>absurd g6 (by decide)) (fun _=>⟨_,p0,_,p1,?_⟩)
    have hfb:=(hxo.fine.st y.2.2).body sec
    refine q0p _ _ rs hfb.small (hF.ext Ev) hPv hsmr (hRu.ext Ev) fun za zn zc w44 hzn hZ e44=>⟨_,_,_,_,rfl,?_⟩
    have hte:=hfir y (hsin hh)
    unfold tkE1 at hte
    rw [hte]
    unfold drw
    have e47:=qb e44 (qr w44)
    have hZ47:=(OwnL.out (E:=encTk) hZ).ext (qr w44)
    generalize w44.drew=w47 at *
    have B47:=B31.ext (qb ev e47)
    have eW47:=qb e33 (qb ev e47)
    have e1247:=qb he eW47
    have hkl:k0 < (selS L sec).length:=by
     have:=hpre hh
     exact (List.getElem?_eq_some_iff.1 this).1
    refine qd (fun hx=>absurd rfl hx) (fun _=>qd (fun hx=>absurd rfl hx) (fun _=>qd (fun hx=>absurd hx (by omega)) (fun _=>?_)))
    have hgs:k0 < ((selS L sec).map (·.1)).length:=by rw [List.length_map];exact hkl
    obtain ⟨q1,hq1,f0⟩:=qbr (hS12.ext e1247) hgs
    have hs1:((selS L sec).map (·.1))[k0]=y.1:=by
     rw [List.getElem_map]
     have:=hpre hh
     rw [List.getElem?_eq_getElem hkl] at this
     rw [Option.some.inj this]
    rw [hs1] at f0
    obtain ⟨q2,a5,c5,hq2,f1,hr5⟩:=(hT12.ext e1247).get (i:=k0) (o:=tkR1 L rs sec y) (by rw [List.getElem?_map,hpre hh];rfl)
    refine hq1 _ ⟨_,f0,_,by rw [qg,B47.cell];rfl,qd (fun hx=>absurd rfl hx) (fun _=>hq2 _ ⟨_,_,_,f1,And.intro ?_ trivial⟩)⟩
    have hzl:=hZ47.1
    have htb:(tkR1 L rs sec y).length≤1000000000:=by
     have h5:=tks_len (posS (stF (witOf L y).2 y.2.2) sec) (bodyS (stF (witOf L y).2 y.2.2) sec) rs
     unfold tkR1;omega
    refine q9h _ _ hr5 hZ47 htb fun w54 e54=>⟨_,rfl,?_⟩
    unfold tkR1
    rw [decide_eq_true rfl]
    refine qk (fun hx=>by cases hx) (fun _=>?_)
    refine ⟨xn - (t + 1),by omega,t + 1,by rw [qj (by omega)],by omega,rfl,?_,qb he (qb eW47 e54)⟩
    rw [htk,if_pos hh,qj (by omega),List.length_append,hk0];rfl
   ·rw [if_neg hh]
    refine qd (fun _=>?_) (fun g6=>absurd rfl g6)
    refine ⟨xn - (t + 1),by omega,t + 1,by rw [qj (by omega)],by omega,rfl,?_,qb he (qb e33 ev)⟩
    rw [htk,if_neg hh,List.append_nil,hk0]
  unfold drw
  have ed:=qr w33
  have B57:=B31.ext ed
  have hR57:=hR.ext (qb EW (qb e33 ed))
  have EF:=qb EW (qb e33 ed)
  generalize w33.drew=w57 at *
  obtain ⟨q6,a6,c6,hq6,g0,g1,hf6⟩:=hR57.get y2
  refine ⟨_,by rw [qg,B57.cell];rfl,?_⟩
  have y1':y.2.1=(wi:Int):=y1
  rw [y1']
  refine hq6 _ ⟨_,g0,_,_,_,g1,_,by rw [qg,B57.cell];rfl,?_,?_⟩
  ·refine qfv (witOf L y) sec y.2.2 hxo.fine.small (hF.ext EF) hf6 fun pa pn pc w64 hP e64=>⟨_,_,_,_,_,_,rfl,And.intro ?_ trivial⟩
   refine qh fun b69 w70 hb69 B69 e70 s70=>And.intro ?_ trivial
   refine stPos B69 fun w71 B71 c71 s71=>?_
   have hP64:SlF (fun k=>k < w64.heap.size) w64 pa pn (parR (witOf L y) sec y.2.2):=hP.imp fun k _ hl=>hl
   exact fin pa pn pc b69 w71 _ (qb ed (qi (qb e64 e70) c71 fun k hk=>by have:=e64.size;omega)) ((hP64.ext e70).chg c71 fun j hj hh=>by omega) B71
  ·refine And.intro (qh fun b72 w73 hb72 B72 e73 s73=>And.intro ?_ trivial) trivial
   have hf7:SlF (fun k=>k < w57.heap.size) w57 a6 (witOf L y).2.len (witOf L y).2:=hf6.imp fun k _ hl=>hl
   refine qfv (witOf L y) sec y.2.2 hxo.fine.small (hF.ext (qb EF e73)) (hf7.ext e73) fun pa pn pc w75 hP e75=>⟨_,_,_,_,_,_,rfl,And.intro ?_ trivial⟩
   refine stPos (B72.ext e75) fun w80 B80 c80 s80=>?_
   exact fin pa pn pc b72 w80 _ (qb ed (qi (qb e73 e75) c80 fun k hk=>by omega)) (hP.chg c80 fun j hj hh=>by omega) B80
 ·rw [List.take_of_length_le (by omega)]
  refine qd (fun _=>qd (fun _=>aw EW) (fun hh=>absurd ?_ hh)) (fun hh=>absurd ?_ hh)
  ·have:=List.length_pos_iff.2 hne
   unfold selS at this
   omega
  ·unfold selS at hsn;omega
end
end Go.Proofs
