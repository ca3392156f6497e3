/- The contracts of the functions that the law reaches, one after the other, and at the end the law's card. -/
import Derived.Test.YtncjonkmhfdabaaGreatDoorLawH
import Derived.Carry
import Derived.ChangeSame
import Derived.RowKit
import Derived.OpenShut
import Derived.Test.YtncjonkmhfdabaaGreatDoorCards
import Derived.Test.YtncjonkmhfdabaaGreatDoorTie
import Derived.Deep.DeepHandedRow
import Derived.Lib.LaidTab
import Derived.Lib.LaidU8
import Derived.WalkKit
import Derived.ProofKit
import Derived.ChangeMaps5
import Derived.Deep.Slices
import Derived.Lib.SmallJoins
import Derived.SizedLaws
set_option linter.all false
set_option maxRecDepth 20000
namespace Go.Proofs
open Go Go.Sh Go.RowKit Go.Proofs.Tryz IntKind
section
variable {R:Ending→World→Prop} {S S2 S3:Nat→Prop} {w:World} {v:KV} {x:Kol}
theorem pc1_call {y:Wd} {c:Nat} {t:List UInt8} {b1 b2:Nat} (B1:Blk w b1 [.int .i64 (c:Int)] 3) (B2:Blk w b2 [.string ⟨⟨t⟩⟩] 9) {K:Ending→World→Prop} (h:∀ w',Ext w w'→K (.returned (.bool (decide (y.c=c∧y.t=t)))) w') :
  CallV prog (.func (.func 118) ⟨[]⟩ ⟨[.pointer (some ⟨b1,0,none⟩),.pointer (some ⟨b2,0,none⟩)]⟩) [.agg ⟨y.cs⟩] w K:=by
 refine ⟨by kernel_rfl,?_⟩
 apply qo2
 refine qd fun b10 w11 hb10 B10 e11 s11=>?_
 have h:=h w11 e11
 refine ⟨_,bat B10 rfl,dr_ok ⟨_,qk (B1.ext e11),qc (fun g=>?_) (fun g=>?_)⟩⟩
 ·refine ⟨_,bat B10 rfl,dr_ok ⟨_,qk (B2.ext e11),?_⟩⟩
  rw [decide_eq_decide.2 (show y.c=c∧y.t=t↔y.t=t from ⟨fun q=>q.2,fun q=>⟨g,q⟩⟩)] at h
  exact h
 ·rw [decide_eq_false (fun q=>g q.1)] at h;exact h
theorem pChk_spec (hV:Vk x) (hC:ColV S w v x) (hM:Mk w) {a:Option Addr} {n cc:Nat} (hU:RowV vUn S2 w a n x.units) {ba:Option Addr} {bn bc:Nat} {BL:List Wd} (hB:RowV vWd S3 w ba bn BL) {lead:Nat} (hE:BsOk x lead BL) (h:∀ w',Ext w w'→R (.returned (.int .i64 0)) w') :
  Calls prog qig ⟨[.agg ⟨kcs x v⟩,.slice a n cc,.slice ba bn bc]⟩ w R:=by
 apply qtu
 have hun:=hU.1
 have hul:=qfs x
 have hrl:=qsy hV
 have h24:=hV.gr.col
 have hcn:=hC.cl.1
 have hbn:=hB.1
 have hbl:=hE.len
 refine qd fun b7 w8 hb7 B7 e8 s8=>?_
 refine ⟨_,bat B7 rfl,_,_,_,bat B7 rfl,_,_,_,bat B7 rfl,_,_,_,bat B7 rfl,?_⟩
 refine q5b hV (hC.ext e8) (hM.ext e8) (hU.ext e8) fun w14 e14=>⟨_,rfl,ql (by decide) ?_⟩
 have B7:=B7.ext e14
 have e014:=qa e8 e14
 refine ⟨_,_,_,bat B7 rfl,?_⟩
 refine qs6 (l:=v.c.2.1) (c:=v.c.2.1) (Nat.le_refl _) (by omega) fun b17 w18 hb17 B17 e18 s18=>?_
 rw [q9i] at B17
 refine qd fun b19 w20 hb19 B19 e20 s20=>?_
 have e020:=qa e014 (qa e18 e20)
 have B720:=B7.ext (qa e18 e20)
 have B17:=B17.ext e20
 have l7:=B7.lt
 have z014:=e014.size
 have hCz:=(hC.imp (S':=fun k=>S k∧k < w.heap.size) fun k hk hl=>⟨hk,hl⟩).ext e020
 have hUz:=(hU.imp (S':=fun k=>S2 k∧k < w.heap.size) fun k hk hl=>⟨hk,hl⟩).ext e020
 have hBz:=(hB.imp (S':=fun k=>S3 k∧k < w.heap.size) fun k hk hl=>⟨hk,hl⟩).ext e020
 refine ⟨fun i W m=>∃ (k:Nat) (b:Wd),i=k∧k≤bn∧m=bn - k∧Chg (fun j=>j=b17∨j=b19) w20 W∧Blk W b17 (fC v.c.2.1 fun j=>.int .i64 ((cntW (BL.take k) j:Nat):Int)) 3∧Blk W b19 b.cs 36∧(∀ h:0 < k,∀ h2:k - 1 < BL.length,b=BL[k - 1]),
  ⟨_,0,⟨[],0,0,0,false,false,[]⟩,rfl,Nat.zero_le _,rfl,Chg.refl _ _,B17,B19,fun q=>by omega⟩,?_⟩
 rintro _ W m ⟨k,b,rfl,hk,rfl,cW,W17,W19,hbb⟩ _
 have zW:=cW.size
 have l17:=W17.lt
 have l19:=W19.lt
 have W7:=cW.blk B720 (by omega)
 have hCW:=hCz.chg cW fun j hj _ hh=>by omega
 have hUW:=hUz.chg cW fun j hj _ hh=>by omega
 have hBW:=hBz.chg cW fun j hj _ hh=>by omega
 refine qc (fun hlt=>?_) (fun hge=>?_)
 ·have hkB:k < BL.length:=by omega
  obtain ⟨p,hp,dd⟩:=qqo hBW hkB
  obtain ⟨c,hy⟩:=hE.wd hV hkB
  refine hp _ ⟨_,dd 0 _ rfl,_,dd 1 _ rfl,_,dd 2 _ rfl,_,dd 3 _ rfl,_,dd 4 _ rfl,_,dd 5 _ rfl,_,dd 6 _ rfl,?_⟩
  refine qac rfl (qxm BL[k]) fun b34 w36 hb34 B34 e36 s36=>?_
  have W7':=W7.ext e36
  have W19':=W19.ext e36
  have W17':=W17.ext e36
  refine ⟨_,bat W7' rfl,_,_,_,bat W7' rfl,_,_,_,bat W7' rfl,_,_,_,bat W7' rfl,_,bat B34 rfl,_,bat B34 rfl,_,bat B34 rfl,_,bat B34 rfl,_,bat B34 rfl,_,bat B34 rfl,_,bat B34 rfl,_,bat W19' rfl,_,bat W19' rfl,_,bat W19' rfl,_,bat W19' rfl,_,bat W19' rfl,_,bat W19' rfl,_,bat W19' rfl,?_⟩
  refine pWord_spec hcn (hUW.ext e36) (by omega) hy (b:=b) (fun hf=>?_) fun w56 e56=>⟨_,rfl,ql (by decide) ?_⟩
  ·have h0:0 < k:=by
    have:=of_decide_eq_false hf
    omega
   rw [hbb h0 (by omega)]
   have:=hE.nxt hV (k:=k - 1) (by omega)
   simp only [show k - 1 + 1=k by omega] at this
   exact this
  have B34:=B34.ext e56
  have W19:=W19'.ext e56
  have W17:=W17'.ext e56
  have eW56:=qa e36 e56
  have z56:=eW56.size
  refine ⟨_,bat B34 rfl,_,bat B34 rfl,_,bat B34 rfl,_,bat B34 rfl,_,bat B34 rfl,_,bat B34 rfl,_,bat B34 rfl,?_⟩
  refine qa7 W19 (by simp) (qxm BL[k]) fun w65 W65' y1 y2 y3 y4 y5=>?_
  have W65:Blk w65 b19 BL[k].cs 36:=W65'
  have c65:Chg (fun j=>j=b19) w56 w65:=⟨y3,y4,y5,by omega,fun j _ hj=>y1 j hj⟩
  have B34:=c65.blk B34 (by omega)
  have W17:=c65.blk W17 (by omega)
  have hcy:=hy.col
  have hcl:=hy.lt
  have hc1024:=cntW_le (BL.take k) c
  rw [List.length_take] at hc1024
  refine ⟨_,bat B34 rfl,?_⟩
  rw [hcy]
  refine qg6 (n:=v.c.2.1) (by omega) ⟨_,qio W17 (by omega),qg6 (n:=v.c.2.1) (by omega) (q8w W17 (by omega) rfl fun w70 B70 c70 s70=>?_)⟩
  refine ⟨bn - (k + 1),by omega,k + 1,BL[k],by rw [qg (by omega)],by omega,rfl,?_,?_,c70.blk W65 (by omega),fun _ _=>rfl⟩
  ·exact ((cW.trans (.of_ext eW56)).trans (c65.mono fun j _ hj=>.inr hj)).trans (c70.mono fun j _ hj=>.inl hj)
  ·rw [qfp (g:=fun i=>if i=c then .int .i64 (i64.wrap (((cntW (BL.take k) c:Nat):Int) + 1)) else .int .i64 ((cntW (BL.take k) i:Nat):Int)) fun i _=>?_]
   ·exact B70
   ·rw [List.take_succ_eq_append_getElem hkB,cntW_snoc]
    by_cases q:i=c
    ·subst q;rw [if_pos hcy,if_pos rfl,qg (by omega)]
    ·rw [if_neg q,if_neg (by omega),Nat.add_zero]
 ·rw [List.take_of_length_le (by omega)] at W17
  have e0W:Ext w W:=qi e020 cW fun j hj=>by omega
  refine ⟨_,_,_,bat W7 rfl,?_⟩
  refine ⟨fun i W2 m=>∃ c:Nat,i=c∧c≤x.col.length∧m=x.col.length - c∧Ext W W2,⟨_,0,rfl,Nat.zero_le _,rfl,Below.refl _ _⟩,?_⟩
  rintro _ W2 m ⟨c,rfl,hc,rfl,e2⟩ _
  have e02:=qa e0W e2
  refine qc (fun hlt2=>?_) (fun hge2=>h W2 e02)
  have hcl:c < x.col.length:=by omega
  obtain ⟨b1,o1,a1,c1,hq1,_,_,hc1,_,hrow1⟩:=(hCW.ext e2).cl.getS (List.getElem?_eq_getElem hcl)
  refine hq1 _ ⟨_,_,_,hc1,?_⟩
  refine qac rfl (by intro v hv;simp only [List.mem_singleton] at hv;subst hv;rfl) fun b80 w82 hb80 B80 e82 s82=>⟨_,qk B80,?_⟩
  refine q02 (hUW.ext (qa e2 e82)) (by omega) c fun w85 e85=>⟨_,_,rfl,?_⟩
  rw [q2x]
  have e285:=qa e82 e85
  refine qc (fun _=>⟨x.col.length - (c + 1),by omega,c + 1,by rw [qg (by omega)],by omega,rfl,qa e2 e285⟩) (fun gneg=>?_)
  obtain ⟨t,ht,hcnt,y,hyB,hyc,hyt⟩:=hE.col hV hcl (by omega)
  unfold drw
  have ed:=qn w85
  have eAll:=qa e2 (qa e285 ed)
  have eRow:=qa e285 ed
  have B80:=(B80.ext e85).ext ed
  have W7':=W7.ext eAll
  have W17':=W17.ext eAll
  have e08:=qa e0W eAll
  generalize w85.drew=w89 at *
  have hs0:0 < x.sig.length:=by have:=hV.n1;omega
  have htok:0 < x.tok.length:=by have:=hV.tl;omega
  have hci:¬ x.ci c 0 < 0:=cell_ci (by rw [ht];rfl)
  have hb:=(hV.ci_bd hcl hs0).resolve_left (by omega)
  obtain ⟨b2,o2,a2,c2,hq2,_,_,hc2,_,hrow2⟩:=(hC.ext e08).tk.getS (List.getElem?_eq_getElem htok)
  rw [gD_at htok] at hb
  have hlt0:(x.ci c 0).toNat < x.tok[0].length:=by omega
  obtain ⟨q,hq3,d0,_⟩:=qpy (rowV_enc.1 hrow2) (i:=(x.ci c 0).toNat) (List.getElem?_eq_getElem hlt0)
  rw [show (((x.ci c 0).toNat:Nat):Int)=x.ci c 0 by omega] at hq3
  have htx:x.tok[0][(x.ci c 0).toNat].t=t:=by
   unfold Kol.cell Kol.tk at ht
   rw [if_neg hci,gD_at htok,gD_at hlt0] at ht
   exact Option.some.inj ht
  rw [htx] at d0
  obtain ⟨pp,hpp,dp⟩:=(hrow1.ext eRow).int (k:=0) (by rw [(al_bd hV.al c hcl).1];exact hs0)
  rw [← ci_at hV hcl hs0] at dp
  refine ⟨_,_,_,bat W7' rfl,hq2 _ ⟨_,_,_,hc2,hpp _ ⟨_,dp,hq3 _ ⟨_,d0,?_⟩⟩⟩⟩
  refine ⟨qd fun b97 w98 hb97 B97 e98 s98=>⟨qam B97 rfl fun w99 B99 c99 s99=>?_,trivial⟩,trivial⟩
  have e99:Ext w89 w99:=qi e98 c99 fun j hj=>by omega
  have B80:=B80.ext e99
  have W17':=W17'.ext e99
  have e099:=qa e08 e99
  refine ⟨_,qk B80,qg6 (n:=v.c.2.1) (by omega) ⟨_,qio W17' (by omega),ql (by rw [hcnt];simp) ?_⟩⟩
  refine q18 (q:=fun y=>decide (y.c=c∧y.t=t)) (J:=fun V=>Ext w99 V) (hB.ext e099) (by omega) (fun y _ V K eV hK=>pc1_call (B80.ext eV) (B99.ext eV) hK) (Below.refl _ _) (fun _ _=>qa) fun w104 e104=>⟨_,rfl,?_⟩
  rw [List.any_eq_true.2 ⟨y,hyB,decide_eq_true ⟨hyc,hyt⟩⟩]
  show br false _ _
  rw [br_f]
  exact ⟨x.col.length - (c + 1),by omega,c + 1,by rw [qg (by omega)],by omega,rfl,qa eAll (qa e99 e104)⟩
end
def WdE (y:Wd) (vs:List Value):Prop:=∃ i:Int,vs=[.int .i64 i,.agg ⟨y.cs⟩]
section
variable {R:Ending→World→Prop} {S S2 S3:Nat→Prop} {w:World} {v:KV} {x:Kol}
theorem q64 {ba:Option Addr} {bn bc:Nat} {BL:List Wd} (hB:RowV vWd S w ba bn BL) (hl:BL.length≤1024) {b1 b2:Nat} {u:Int} (B1:Blk w b1 [.slice ba bn bc] 27) (B2:Blk w b2 [.int .i64 u] 3) :
  IterO prog qc6 [.pointer (some ⟨b1,0,none⟩),.pointer (some ⟨b2,0,none⟩)] (BL.filter fun y=>decide (y.u=u)) WdE (fun k=>(k=b1∨k=b2)∨(S k∧k < w.heap.size)) w:=by
 intro yf ya yb S0 J Jx R hS0 hJ hJx hbody h0 hend hstop
 apply qoy
 have hbn:=hB.1
 have l1:=B1.lt
 have l2:=B2.lt
 have rd:∀ {W:World},Chg (fun k=>S0 k∨w.heap.size≤k) w W→RowV vWd S W ba bn BL∧Blk W b2 [.int .i64 u] 3:=by
  intro W hc
  refine ⟨((hB.imp (S':=fun k=>S k∧k < w.heap.size) fun k hk hl=>⟨hk,hl⟩).chg hc fun k hk hl hh=>?_).imp fun k hk _=>hk.1,hc.blk B2 fun hh=>?_⟩
  ·rcases hh with hh | hh
   ·exact (hS0 _ hh).2 (.inr hk)
   ·omega
  ·rcases hh with hh | hh
   ·exact (hS0 _ hh).2 (.inl (.inr rfl))
   ·omega
 refine dr_ok ⟨_,_,_,qk B1,?_⟩
 refine ⟨fun i W m=>∃ (k:Nat) (S1:Nat→Prop),i=k∧m=bn - k∧k≤bn∧J ((BL.take k).filter fun y=>decide (y.u=u)) S1 W ∧
   Chg (fun k=>S0 k∨w.heap.size≤k) w W∧(∀ k,S1 k→(S0 k∨w.heap.size≤k)∧k < W.heap.size),⟨_,0,S0,rfl,rfl,Nat.zero_le _,h0,Chg.refl _ _,fun k hk=>⟨.inl hk,(hS0 k hk).1⟩⟩,?_⟩
 rintro _ W m ⟨k,S1,rfl,rfl,hk,hj,hc,hS1⟩ _
 have zW:=hc.size
 obtain ⟨hBW,B2W⟩:=rd hc
 refine qc (fun hlt=>?_) (fun hge=>?_)
 ·have hkB:k < BL.length:=by omega
  obtain ⟨p,hp,dd⟩:=qqo hBW hkB
  have htk:(BL.take (k + 1)).filter (fun y=>decide (y.u=u))=(BL.take k).filter (fun y=>decide (y.u=u))++[BL[k]].filter (fun y=>decide (y.u=u)):=by rw [List.take_succ_eq_append_getElem hkB,List.filter_append]
  have hpre:(BL.take (k + 1)).filter (fun y=>decide (y.u=u)) <+: BL.filter (fun y=>decide (y.u=u)):=by
   refine ⟨(BL.drop (k + 1)).filter (fun y=>decide (y.u=u)),?_⟩
   rw [← List.filter_append,List.take_append_drop]
  generalize BL[k]=y at *
  refine hp _ ⟨_,dd 0 _ rfl,_,dd 1 _ rfl,_,dd 2 _ rfl,_,dd 3 _ rfl,_,dd 4 _ rfl,_,dd 5 _ rfl,_,dd 6 _ rfl,?_⟩
  refine qac rfl (qxm y) fun b19 w21 hb19 B19 e21 s21=>?_
  have hc:=hc.trans (.of_ext e21)
  have hj:=hJ _ _ _ _ hj (.of_ext e21)
  have z21:=e21.size
  have hS1:∀ k,S1 k→(S0 k∨w.heap.size≤k)∧k < w21.heap.size:=fun k hk=>⟨(hS1 k hk).1,by have:=(hS1 k hk).2;omega⟩
  refine ⟨_,bat B19 rfl,dr_ok ⟨_,qk (B2W.ext e21),qc (fun g=>?_) (fun g=>?_)⟩⟩
  ·rw [List.filter_cons,if_pos (decide_eq_true g),List.filter_nil] at htk
   rw [htk] at hpre
   refine ⟨_,bat B19 rfl,_,bat B19 rfl,_,bat B19 rfl,_,bat B19 rfl,_,bat B19 rfl,_,bat B19 rfl,_,bat B19 rfl,?_⟩
   refine qch (hbody _ y _ S1 w21 ⟨_,rfl⟩ hpre (by omega) (fun j hj'=>⟨(hS1 j hj').2,fun hh=>?_⟩) hj) ?_
   ·rcases (hS1 j hj').1 with h1 | h1
    ·exact (hS0 _ h1).2 hh
    ·rcases hh with (hh | hh) | hh <;> omega
   ·rintro e112 w112 ⟨hcb,S',hS',hres⟩
    have zb:=hcb.size
    have hc4:Chg (fun k=>S0 k∨w.heap.size≤k) w w112:=hc.trans (hcb.mono fun j _ hj'=>(hS1 j hj').1)
    rcases hres with ⟨rfl,hjn⟩ | ⟨rfl,hjx⟩
    ·refine ⟨_,rfl,?_⟩
     refine ⟨bn - (k + 1),by omega,k + 1,S',by rw [qg (by omega)],rfl,by omega,by rw [htk];exact hjn,hc4,fun j hj'=>⟨?_,(hS' j hj').2⟩⟩
     rcases (hS' j hj').1 with h1 | h1
     ·exact (hS1 j h1).1
     ·exact .inr (by omega)
    ·exact ⟨_,rfl,hstop S' w112 (by omega) hjx⟩
  ·rw [List.filter_cons,if_neg (by simpa using g),List.filter_nil,List.append_nil] at htk
   exact ⟨bn - (k + 1),by omega,k + 1,S1,by rw [qg (by omega)],rfl,by omega,by rw [htk];exact hj,hc,hS1⟩
 ·rw [List.take_of_length_le (by omega)] at hj
  exact hend S1 W zW hj
theorem ofU_eq (BL:List Wd) (u:Int):ofU (BL.map (·.core)) u=(BL.filter fun y=>decide (y.u=u)).map (·.t):=by
 unfold ofU
 rw [List.filter_map,List.map_map]
 rfl
theorem q3y (hV:Vk x) {a:Option Addr} {n cc:Nat} (hU:RowV vUn S2 w a n x.units) {ba:Option Addr} {bn bc:Nat} {BL:List Wd} (hB:RowV vWd S3 w ba bn BL) (hl:BL.length≤1024) {k:Nat} (hk:k < x.runs.length) (h:∀ w',Ext w w'→R (.returned (.int .i64 (rdI (Unt.rd x.units k) (ofU (BL.map (·.core)) (k:Int))))) w') :
  Calls prog qgn ⟨[.slice a n cc,.slice ba bn bc,.int .i64 (k:Int)]⟩ w R:=by
 apply qo0
 have hul:=qfs x
 have hku:k < x.units.length:=by omega
 refine qd fun b4 w5 hb4 B4 e5 s5=>?_
 apply qtt
 refine qd fun b1 v1 hb1 B1 f1 t1=>qd fun b2 v2 hb2 B2 f2 t2=>⟨_,_,_,rfl,fun base=>?_⟩
 have e02:=qa e5 (qa f1 f2)
 have B1:=B1.ext f2
 have B4:=B4.ext (qa f1 f2)
 have z5:=e5.size
 have z1:=f1.size
 have hB2:=(hB.imp (S':=fun k=>S3 k∧k < w.heap.size) fun k hk hl=>⟨hk,hl⟩).ext e02
 have hU2:=(hU.imp (S':=fun k=>S2 k∧k < w.heap.size) fun k hk hl=>⟨hk,hl⟩).ext e02
 have l1:=B1.lt
 have l2:=B2.lt
 have l4:=B4.lt
 have hfl:(BL.filter fun y=>decide (y.u=(k:Int))).length≤1024:=Nat.le_trans (List.length_filter_le ..) hl
 rw [qkt]
 refine qh4 qds qdp (gf:=qc6) rfl (by kernel_rfl) (xs:=BL.filter fun y=>decide (y.u=(k:Int))) (E:=WdE) (Rd:=fun j=>(j=b1∨j=b2)∨((S3 j∧j < w.heap.size)∧j < v2.heap.size))
  (fun v5 e5'=>?_) (fun y vs hE=>by obtain ⟨_,rfl⟩:=hE;rfl) (by decide) (fun j hj=>by rcases hj with (hh | hh) | hh <;> omega) (fun j=>j=b4) (fun j hj=>⟨by omega,fun hr=>by rcases hr with (hh | hh) | hh <;> omega⟩)
  (fun pre S1 W=>∃ (oa:Option Addr) (on oc:Nat),Blk W b4 [.slice oa on oc] 23∧OwnL Sh.encStr W v2.heap.size 9 oa on oc (pre.map (·.t))∧(∀ k,S1 k↔k=b4∨bk oa k)∧Chg (fun j=>j=b4) v2 W) (fun _ _=>False) (fun _ _=>False)
  ?_ (fun _ _ _ h=>h.elim) (fun _ _ _ h=>h.elim) ⟨none,0,0,B4,Owns.nil _ _ _ _,fun k=>by simp [bk],Chg.refl _ _⟩ ?_ ?_ (fun _ _ _ _ _ _ _ h=>h.elim) (fun _ _ _ _ _ _ _ h=>h.elim)
 ·have hi:=q64 (hB2.ext e5') hl (B1.ext e5') (B2.ext e5')
  have z5':=e5'.size
  have eq:(fun j=>(j=b1∨j=b2)∨((S3 j∧j < w.heap.size)∧j < v5.heap.size))=(fun j=>(j=b1∨j=b2)∨((S3 j∧j < w.heap.size)∧j < v2.heap.size)):=by
   funext j
   exact propext ⟨fun q=>q.imp id fun t=>⟨t.1,by omega⟩,fun q=>q.imp id fun t=>⟨t.1,by omega⟩⟩
  rw [eq] at hi;exact hi
 ·rintro pre S1 W W' ⟨oa,on,oc,g1,g3,g5,g6⟩ hc
  exact ⟨oa,on,oc,hc.blk g1 (fun hh=>hh.2 ((g5 _).2 (.inl rfl))),Owns.chg g3 hc fun k hk hh=>hh.2 ((g5 k).2 (.inr hk)),g5,chgT g6 hc fun j hj hh=>by omega⟩
 ·rintro pre y vs S1 W l ⟨i,rfl⟩ hpre hl1 hl2 hl3 hS1 ⟨oa,on,oc,g1,g3,g5,g6⟩
  refine Eq.mpr (qkp base _ _ _ _ _ _ _ _ _ _ y.t y.c y.u y.d y.j y.v y.n _ _ _ _ _) ?_
  refine qac rfl (qxm y) fun b39 w41 hb39 B39 e41 s41=>⟨e41,fun W2 hUp=>?_⟩
  have zUp:=hUp.size
  have z41:=e41.size
  have zg:=g6.size
  have hpl:pre.length + 1≤(BL.filter fun y=>decide (y.u=(k:Int))).length:=by have:=hpre.length_le;simpa using this
  have hUc:Chg (fun k=>k=l) w41 W2:=⟨hUp.os,hUp.tape,hUp.output,by omega,fun k _ hk=>hUp.block k hk⟩
  have nl:¬ bk oa l:=fun hh=>hl3 ((g5 l).2 (.inr hh))
  have nb:b4≠l:=fun hh=>hl3 ((g5 l).2 (.inl hh.symm))
  have h1:=hUc.blk (g1.ext e41) (fun hh=>nb hh)
  have B39':Blk W2 b39 y.cs 36:=hUc.blk B39 (by omega)
  have h2:=Owns.chg (Owns.ext g3 e41) hUc fun k hk hh=>nl (hh ▸ hk)
  have hon:=OwnL.length g3
  rw [List.length_map] at hon
  have n3:¬ bk oa b4:=fun hh=>by have:=(Owns.bk g3 hh).1;omega
  refine dr_ok ⟨_,_,_,qk h1,_,bat B39' rfl,?_⟩
  refine OwnL.push (E:=Sh.encStr) q3i h2 (by omega) y.t (by omega) (by omega) fun a' c' w23 ho hc hn=>?_
  have zc:=hc.size
  have h1':=hc.blk h1 n3
  refine dr_ok (qam h1' rfl fun w24 B24 c24 s24=>?_)
  have n3':¬ bk a' b4:=fun hh=>by
   rcases hn _ hh with q | q
   ·exact n3 q
   ·have:=h1.lt;omega
  have sub4:∀ j,bk a' j→(S1 j∨W.heap.size≤j):=fun j hj=>(hn j hj).elim (fun h=>.inl ((g5 j).2 (.inr h))) (fun h=>.inr (by omega))
  have ho':=Owns.chg ho c24 fun k hk e=>n3' (e ▸ hk)
  refine ⟨(hc.mono fun j _ hj=>.inl ((g5 j).2 (.inr hj))).trans (c24.mono fun j _ hj=>.inl ((g5 j).2 (.inl hj))),fun j=>j=b4∨bk a' j,fun j hj=>⟨hj.elim (fun h=>.inl ((g5 j).2 (.inl h))) (sub4 j),hj.elim (fun h=>by subst h;exact B24.lt) (fun h=>(Owns.bk ho' h).2)⟩,a',on + 1,c',B24,by rw [List.map_append];exact ho',fun j=>Iff.rfl,?_⟩
  refine chgT (chgT (chgT (chgT g6 (Chg.of_ext (S:=fun _=>False) e41) fun _ _ hh=>hh.elim) hUc fun j hj hh=>by omega) hc fun j hj hh=>by have:=(Owns.bk h2 hh).1;omega) c24 fun j hj hh=>hh
 ·rintro D S1 W hD1 hD2 hD3 hD4 ⟨oa,on,oc,g1,g3,g5,g6⟩
  have hon:=OwnL.length g3
  rw [List.length_map] at hon
  have hUW:=hU2.chg g6 fun j hj _ hh=>by omega
  obtain ⟨p,a1,c1,hq,d0,d1,d2,hcap,r1⟩:=qzq hUW hku
  have hrd:Unt.rd x.units k=x.units[k].2:=by unfold Unt.rd;rw [gD_at hku]
  rw [← hrd] at d2 r1 hcap
  have hrdl:(Unt.rd x.units k).length≤32∧∀ r∈Unt.rd x.units k,r.1.length≤24:=by
   rw [hrd]
   have:x.units[k]=(x.runs[k],x.rds x.runs[k].1 x.runs[k].2 x.sig.length):=by simp only [Kol.units,List.getElem_map]
   rw [this]
   have h1:=q3u x x.runs[k].1 x.runs[k].2 x.sig.length
   have h2:=hV.n32
   have h3:=hV.gr.col
   have h4:=(q7d hV hk).2
   exact ⟨by show (x.rds _ _ _).length≤32;omega,fun r hr=>by have:=qyy x _ _ _ r hr;omega⟩
  have e0W:Ext w W:=qi e02 g6 fun j hj=>by omega
  have hown:RowV vS (bk oa) W oa on (ofU (BL.map (·.core)) (k:Int)):=by rw [ofU_eq];exact rowV_enc.2 (OwnL.out g3)
  refine hq _ ⟨_,_,_,d2,?_⟩
  refine qnw (q:=fun r=>decide (r.1=ofU (BL.map (·.core)) (k:Int))) (J:=fun V=>Ext W V) r1 (by omega) ?_ (Below.refl _ _) (fun _ _=>qa) fun w15 e15=>⟨_,rfl,?_⟩
  ·intro r hr V a1 c1 a2 c2 K eV r1 r2 hK
   refine ⟨by kernel_rfl,?_⟩
   apply qlt
   refine qd fun b4' w5' hb4' B4' e5' s5'=>⟨_,_,_,bat B4' rfl,dr_ok ⟨_,_,_,qk ((g1.ext eV).ext e5'),?_⟩⟩
   have:=hrdl.2 r hr
   refine qj4 r.1 _ (rowV_enc.1 (r1.ext e5')) (rowV_enc.1 (hown.ext (qa eV e5'))) (by omega) fun w10 e10=>⟨_,rfl,hK w10 (qa e5' e10)⟩
  ·have hD4':w15.heap[D]? = some (.deferred (some [])):=(e15.block D hD2).trans hD4
   refine qfm hD4' ?_
   exact h _ (qin (qa e0W e15) (by omega) _)
end
section
variable {R:Ending→World→Prop} {S S2 S3:Nat→Prop} {w:World} {v:KV} {x:Kol}
theorem range_snoc (k:Nat):(List.range (k + 1)).map (fun i:Nat=>(i:Int))=(List.range k).map (fun i:Nat=>(i:Int))++[(k:Int)]:=by
 rw [List.range_succ,List.map_append];rfl
theorem q3x (hV:Vk x) (hC:ColV S w v x) {a:Option Addr} {n cc:Nat} (hU:RowV vUn S2 w a n x.units) {ba:Option Addr} {bn bc:Nat} {BL:List Wd} (hB:RowV vWd S3 w ba bn BL) {lead:Nat} (hE:BsOk x lead BL) {i:Nat} (hi:i < BL.length)
  (h:∀ oa on oc w',RowV vI (fun _=>True) w' oa on (srcK x.sig.length x.units (BL.map (·.core)) BL[i].u)→Ext w w'→R (.returned (.slice oa on oc)) w') :
  Calls prog qgm ⟨[.agg ⟨kcs x v⟩,.slice a n cc,.slice ba bn bc,.int .i64 (i:Int)]⟩ w R:=by
 apply qoz
 have hul:=qfs x
 have hun:=hU.1
 have hsn:=hC.sg.1
 have h32:=hV.n32
 refine qd fun b8 w9 hb8 B8 e9 s9=>?_
 obtain ⟨p,hp,dd⟩:=qqo (hB.ext e9) hi
 obtain ⟨c,hy⟩:=hE.wd hV hi
 generalize BL[i]=y at *
 refine hp _ ⟨_,dd 2 _ rfl,qc (fun g=>?_) (fun g=>?_)⟩
 ·refine ⟨_,_,_,bat B8 rfl,?_⟩
  refine ⟨fun oa on oc t W m=>∃ k:Nat,t=k∧k≤x.sig.length∧m=x.sig.length - k∧on=k∧OwnL Sh.encI W w9.heap.size 3 oa on oc ((List.range k).map fun i:Nat=>(i:Int))∧Ext w9 W,⟨_,0,rfl,Nat.zero_le _,rfl,rfl,Owns.nil _ _ _ _,Below.refl _ _⟩,?_⟩
  rintro oa on oc _ W m ⟨k,rfl,hk,rfl,rfl,hO,eW⟩ _
  refine qc (fun hlt=>?_) (fun hge=>?_)
  ·refine OwnL.push (E:=Sh.encI) slT_i hO eW.size (on:Int) (by omega) (by omega) fun a' c' w22 ho hc hnn=>?_
   exact ⟨x.sig.length - (on + 1),by omega,on + 1,by rw [qg (by omega)],by omega,rfl,rfl,by rw [range_snoc];exact ho,qko eW hc fun j hj=>(Owns.bk hO hj).1⟩
  ·have hke:on=x.sig.length:=by omega
   subst hke
   refine h oa _ oc W ?_ (qa e9 eW)
   unfold srcK
   rw [if_pos g]
   exact (rowV_enc.2 (OwnL.out hO)).imp fun _ _ _=>trivial
 ·obtain ⟨j,hj,hj1,_⟩:=qz9 (U:=x.runs) (k:=0) (c:=c) (by rw [hy.un];omega)
  rw [Nat.zero_add,hy.un] at hj1
  have hju:y.u.toNat=j:=by omega
  have hku:j < x.units.length:=by omega
  rw [hj1]
  refine q3y hV (hU.ext e9) (hB.ext e9) hE.len hj fun w25 e25=>⟨_,rfl,?_⟩
  have e025:=qa e9 e25
  unfold srcK at h
  rw [if_neg g,hj1,Int.toNat_natCast] at h
  refine qc (fun g2=>?_) (fun g2=>?_)
  ·rw [if_neg (by omega)] at h
   obtain ⟨q,hq,hq1,_⟩:=qmr (show ¬ rdI (Unt.rd x.units j) (ofU (BL.map (·.core)) (j:Int)) < 0 by omega)
   have hq1:rdI (Unt.rd x.units j) (ofU (BL.map (·.core)) (j:Int))=q:=hq1
   rw [hq1,Int.toNat_natCast,gD_at hq] at h
   obtain ⟨pu,a1,c1,hpu,_,_,d2,hcap,r1⟩:=qzq (hU.ext e025) hku
   have hrd:Unt.rd x.units j=x.units[j].2:=by unfold Unt.rd;rw [gD_at hku]
   rw [← hrd] at d2 r1
   obtain ⟨pr,a2,c2,a3,c3,hpr,_,g1,_,hcap3,_,r3⟩:=q3q r1 hq
   have hsrc:=(q2m x x.runs[j].1 x.runs[j].2 x.sig.length (Unt.rd x.units j)[q] (by
    have:=List.getElem_mem hq
    have e1:Unt.rd x.units j=x.rds x.runs[j].1 x.runs[j].2 x.sig.length:=by rw [hrd];simp only [Kol.units,List.getElem_map]
    rw [← e1];exact this)).1
   refine hpu _ ⟨_,_,_,d2,?_⟩
   rw [hq1]
   refine hpr _ ⟨_,_,_,g1,?_⟩
   refine q8p r3 (by omega) fun a' c' w32 ho e32=>⟨_,_,_,rfl,h _ _ _ w32 (ho.out.imp fun _ _ _=>trivial) (qa e025 e32)⟩
  ·rw [if_pos (by omega)] at h
   exact h none 0 0 w25 (RowV.nil _) e025
theorem qnu (hV:Vk x) (hC:ColV S w v x) (hM:Mk w) {a:Option Addr} {n cc:Nat} (hU:RowV vUn S2 w a n x.units) {ba:Option Addr} {bn bc:Nat} {BL:List Wd} (hB:RowV vWd S3 w ba bn BL) {lead:Nat} (hE:BsOk x lead BL) {i:Nat} (hi:i < BL.length)
  (h:∀ oa on oc w',RowV vI (fun _=>True) w' oa on (srcK x.sig.length x.units (BL.map (·.core)) BL[i].u)→Ext w w'→R (.returned (.tuple ⟨[.slice oa on oc,.int .i64 0]⟩)) w') :
  Calls prog qgo ⟨[.agg ⟨kcs x v⟩,.slice a n cc,.slice ba bn bc,.int .i64 (i:Int)]⟩ w R:=by
 apply qo1
 have hbn:=hB.1
 refine qd fun b8 w9 hb8 B8 e9 s9=>?_
 refine ⟨_,bat B8 rfl,_,_,_,bat B8 rfl,_,_,_,bat B8 rfl,_,_,_,bat B8 rfl,?_⟩
 refine pChk_spec hV (hC.ext e9) (hM.ext e9) (hU.ext e9) (hB.ext e9) hE fun w15 e15=>⟨_,rfl,ql (by decide) ?_⟩
 have B8:=B8.ext e15
 have e015:=qa e9 e15
 intro K17 hK17
 refine ql (by omega) (ql (by omega) (hK17 _ fun _=>?_))
 refine ⟨_,bat B8 rfl,_,_,_,bat B8 rfl,_,_,_,bat B8 rfl,_,_,_,bat B8 rfl,?_⟩
 exact q3x hV (hC.ext e015) (hU.ext e015) (hB.ext e015) hE hi fun oa on oc w24 hr e24=>⟨_,_,_,rfl,h oa on oc w24 hr (qa e015 e24)⟩
theorem q0e {ba:Option Addr} {bn bc:Nat} {BL:List Wd} (hB:RowV vWd S3 w ba bn BL) (hl:BL.length≤1024) (h:∀ oa on oc w',OwnL Sh.encStr w' w.heap.size 9 oa on oc (BL.map (·.t))→Ext w w'→R (.returned (.slice oa on oc)) w') :
  Calls prog qlg ⟨[.slice ba bn bc]⟩ w R:=by
 apply qyg
 have hbn:=hB.1
 refine ⟨fun oa on oc i W m=>∃ k:Nat,i=k∧k≤bn∧m=bn - k∧OwnL Sh.encStr W w.heap.size 9 oa on oc ((BL.take k).map (·.t))∧Ext w W,⟨_,0,rfl,Nat.zero_le _,rfl,Owns.nil _ _ _ _,Below.refl _ _⟩,?_⟩
 rintro oa on oc _ W m ⟨k,rfl,hk,rfl,hO,eW⟩ _
 have hon:=OwnL.length hO
 rw [List.length_map,List.length_take] at hon
 refine qc (fun hlt=>?_) (fun hge=>?_)
 ·have hkB:k < BL.length:=by omega
  obtain ⟨p,hp,dd⟩:=qqo (hB.ext eW) hkB
  refine hp _ ⟨_,dd 0 _ rfl,_,dd 1 _ rfl,_,dd 2 _ rfl,_,dd 3 _ rfl,_,dd 4 _ rfl,_,dd 5 _ rfl,_,dd 6 _ rfl,?_⟩
  refine qac rfl (qxm BL[k]) fun b16 w18 hb16 B16 e18 s18=>⟨_,bat B16 rfl,?_⟩
  have eW18:=qa eW e18
  refine OwnL.push (E:=Sh.encStr) q3i (Owns.ext hO e18) eW18.size BL[k].t (by omega) (by omega) fun a' c' w23 ho hc hnn=>?_
  refine ⟨bn - (k + 1),by omega,k + 1,by rw [qg (by omega)],by omega,rfl,?_,qko eW18 hc fun j hj=>(Owns.bk hO hj).1⟩
  rw [List.take_succ_eq_append_getElem hkB,List.map_append];exact ho
 ·rw [List.take_of_length_le (by omega)] at hO
  exact h oa on oc W hO eW
theorem q2z (hV:Vk x) (hC:ColV S w v x) (hM:Mk w) {s:Nat} (hs:s < x.sig.length) (h:∀ oa on oc w',OwnL Sh.encStr w' w.heap.size 9 oa on oc ((x.tok.getD s []).map (·.t))→on≤1024→Ext w w'→R (.returned (.tuple ⟨[.slice oa on oc,.int .i64 0]⟩)) w') :
  Calls prog qlh ⟨[.agg ⟨kcs x v⟩,.int .i64 (s:Int)]⟩ w R:=by
 apply qyh
 have hsn:=hC.sg.1
 have hst:s < x.tok.length:=by rw [hV.tl];exact hs
 refine qd fun b6 w7 hb6 B6 e7 s7=>?_
 refine ⟨_,bat B6 rfl,_,_,_,bat B6 rfl,_,_,_,bat B6 rfl,_,_,_,bat B6 rfl,?_⟩
 refine qte hV (hC.ext e7) (hM.ext e7) fun w13 e13=>⟨_,rfl,ql (by decide) ?_⟩
 have B6:=B6.ext e13
 have e013:=qa e7 e13
 intro K15 hK15
 refine ql (by omega) ⟨_,_,_,bat B6 rfl,ql (by omega) (hK15 _ fun _=>?_)⟩
 obtain ⟨b1,o1,a1,c1,hq1,_,_,hc1,_,hrow1⟩:=(hC.ext e013).tk.getS (List.getElem?_eq_getElem hst)
 have hm:=hV.tm _ (List.getElem_mem hst)
 refine ⟨_,_,_,bat B6 rfl,hq1 _ ⟨_,_,_,hc1,?_⟩⟩
 refine q22 x.tok[s] (rowV_enc.1 hrow1) (by omega) fun a' c' w21 ho e21=>⟨_,_,_,rfl,?_⟩
 refine h a' _ c' w21 ?_ hm (qa e013 e21)
 rw [gD_at hst]
 exact Owns.weak ho e013.size
end
def tkA (c:UInt8):Tok:=⟨[c],[c],([],0),0,[]⟩
def xA:Kol:=⟨[73],[[65],[66]],[[tkA 97,tkA 99],[tkA 98,tkA 99]],[[0,0],[1,1]]⟩
theorem xA_gr:GrK xA:=by
 refine ⟨by decide,by decide,by decide,by decide,?_⟩
 intro l hl t ht
 have hl:l=[tkA 97,tkA 99]∨l=[tkA 98,tkA 99]:=by simpa [xA] using hl
 rcases hl with rfl | rfl
 ·have ht:t=tkA 97∨t=tkA 99:=by simpa using ht
  rcases ht with rfl | rfl <;> exact ⟨by decide,by decide,by decide,by decide⟩
 ·have ht:t=tkA 98∨t=tkA 99:=by simpa using ht
  rcases ht with rfl | rfl <;> exact ⟨by decide,by decide,by decide,by decide⟩
theorem xA_al:alP (fun j=>(xA.tok.getD j []).length) xA.sig.length (fun _=>0) xA.col:=by
 refine ⟨⟨rfl,fun j hj=>?_,0,by decide,by decide⟩,⟨rfl,fun j hj=>?_,0,by decide,by decide⟩,fun j hj=>?_⟩ <;>
  (have hj:j=0∨j=1:=(by have:j < 2:=hj; omega); rcases hj with rfl | rfl <;> decide)
theorem xA_ok:Vk xA:=by
 refine ⟨by decide +kernel,by decide +kernel,by decide,by decide,by decide,by decide,by decide,?_,xA_al,xA_gr⟩
 intro l hl t ht
 have hl:l=[tkA 97,tkA 99]∨l=[tkA 98,tkA 99]:=by simpa [xA] using hl
 rcases hl with rfl | rfl
 ·have ht:t=tkA 97∨t=tkA 99:=by simpa using ht
  rcases ht with rfl | rfl <;> decide +kernel
 ·have ht:t=tkA 98∨t=tkA 99:=by simpa using ht
  rcases ht with rfl | rfl <;> decide +kernel
def coreA:List Core:=[([98],0,0,-1),([99],1,-1,-1)]
theorem asmA:asmK xA (q0K xA 1) 1 xA.col.length 0 0 xA.runs=coreA:=by decide +kernel
theorem srcA0:srcK xA.sig.length xA.units coreA 0=[1]:=by decide +kernel
theorem srcA1:srcK xA.sig.length xA.units coreA (-1)=[0,1]:=by decide +kernel
section
variable {R:Ending→World→Prop} {S S2 S3:Nat→Prop} {w:World} {v:KV} {x:Kol}
theorem qn1 (c:UInt8) {K:Ending→World→Prop} (h:∀ w',Ext w w'→K (.returned (aggT (tkA c))) w'):CallV prog (.func (.func 57) #[] #[]) [.string ⟨⟨[c]⟩⟩] w K:=by
 refine ⟨by kernel_rfl,?_⟩
 apply qhs
 refine qac rfl (one6t (tkA c)) fun b2 w4 hb2 B2 e4 s4=>?_
 exact ⟨_,bat B2 rfl,_,bat B2 rfl,_,bat B2 rfl,_,bat B2 rfl,_,bat B2 rfl,_,bat B2 rfl,h w4 e4⟩
theorem rowT_b {b:Nat} {l:List Tok} {T:TypeId} (h:Blk w b (encTk.row l) T):RowV vTk (fun _=>True) w (some ⟨b,0,none⟩) l.length l:=(rowV_enc.2 (q7i (E:=encTk) h)).imp fun _ _ _=>trivial
theorem rowS_b {b:Nat} {l:List (List UInt8)} {T:TypeId} (h:Blk w b (Sh.encStr.row l) T):RowV vS (fun _=>True) w (some ⟨b,0,none⟩) l.length l:=(rowV_enc.2 (q7i (E:=Sh.encStr) h)).imp fun _ _ _=>trivial
theorem rowTs_b {b:Nat} {l:List (List Tok)} {vs:List Value} {T:TypeId} (h:Blk w b vs T) (ha:AllV vTs (fun _=>True) w l vs):RowV vTs (fun _=>True) w (some ⟨b,0,none⟩) l.length l :=
 ⟨rfl,vs,.inr ⟨b,0,rfl,trivial,h.lt,fun j v hj=>by rw [Nat.zero_add,h.cell];exact hj⟩,ha⟩
theorem q6i (hM:Mk w) (hF:Forms w) (h:∀ w',Ext w w'→R (.returned (.bool true)) w'):Calls prog qdx ⟨[]⟩ w R:=by
 apply qje
 refine qd fun b1 w2 hb1 B1 e2 s2=>?_
 refine qn1 97 fun w4 e4=>⟨_,_,_,_,_,_,rfl,qn1 99 fun w12 e12=>⟨_,_,_,_,_,_,rfl,?_⟩⟩
 refine qd fun b19 w20 hb19 B19 e20 s20=>?_
 refine qn1 98 fun w22 e22=>⟨_,_,_,_,_,_,rfl,qn1 99 fun w30 e30=>⟨_,_,_,_,_,_,rfl,?_⟩⟩
 refine qd fun b37 w38 hb37 B37 e38 s38=>qd fun b39 w40 hb39 B39 e40 s40=>qd fun b41 w42 hb41 B41 e42 s42=>qd fun b43 w44 hb43 B43 e44 s44=>qd fun b45 w46 hb45 B45 e46 s46=>?_
 refine qac rfl (by intro v hv;simp only [List.mem_cons,List.not_mem_nil,or_false] at hv;rcases hv with rfl | rfl | rfl | rfl <;> rfl) fun b47 w49 hb47 B47 e49 s49=>?_
 have f45:=e49
 have f43:=qa e46 f45
 have f41:=qa e44 f43
 have f39:=qa e42 f41
 have f37:=qa e40 f39
 have f19:=qa e22 (qa e30 (qa e38 f37))
 have f1:=qa e4 (qa e12 (qa e20 f19))
 have e0:=qa e2 f1
 have hT1:RowV vTk (fun _=>True) w49 (some ⟨b19,0,none⟩) 2 [tkA 97,tkA 99]:=rowT_b (l:=[tkA 97,tkA 99]) (B19.ext f19)
 have hT2:RowV vTk (fun _=>True) w49 (some ⟨b37,0,none⟩) 2 [tkA 98,tkA 99]:=rowT_b (l:=[tkA 98,tkA 99]) (B37.ext f37)
 have hC1:RowV vI (fun _=>True) w49 (some ⟨b41,0,none⟩) 2 [0,0]:=q81 (l:=[0,0]) (B41.ext f41) rfl
 have hC2:RowV vI (fun _=>True) w49 (some ⟨b43,0,none⟩) 2 [1,1]:=q81 (l:=[1,1]) (B43.ext f43) rfl
 have hC:ColV (fun _=>True) w49 ⟨(some ⟨b1,0,none⟩,2,2),(some ⟨b39,0,none⟩,2,2),(some ⟨b45,0,none⟩,2,2)⟩ xA :=
  ⟨rowS_b (l:=[[65],[66]]) (B1.ext f1),Nat.le_refl _,rowTs_b (l:=[[tkA 97,tkA 99],[tkA 98,tkA 99]]) (B39.ext f39) ⟨[.slice (some ⟨b19,0,none⟩) 2 2],[.slice (some ⟨b37,0,none⟩) 2 2],rfl,⟨_,2,rfl,Nat.le_refl _,hT1⟩,⟨[.slice (some ⟨b37,0,none⟩) 2 2],[],rfl,⟨_,2,rfl,Nat.le_refl _,hT2⟩,rfl⟩⟩,
   rowIs_b (l:=[[0,0],[1,1]]) (B45.ext f45) rfl ⟨[.slice (some ⟨b41,0,none⟩) 2 2],[.slice (some ⟨b43,0,none⟩) 2 2],rfl,⟨_,2,rfl,Nat.le_refl _,hC1⟩,⟨[.slice (some ⟨b43,0,none⟩) 2 2],[],rfl,⟨_,2,rfl,Nat.le_refl _,hC2⟩,rfl⟩⟩⟩
 have hM:=hM.ext e0
 have hF:=hF.ext e0
 have B47:Blk w49 b47 (kcs xA ⟨(some ⟨b1,0,none⟩,2,2),(some ⟨b39,0,none⟩,2,2),(some ⟨b45,0,none⟩,2,2)⟩) 62:=B47
 refine ⟨_,bat B47 rfl,_,_,_,bat B47 rfl,_,_,_,bat B47 rfl,_,_,_,bat B47 rfl,?_⟩
 refine q23 xA_ok hC hM fun ua un uc w55 hcap hU e55=>⟨_,_,_,_,rfl,?_⟩
 have B47:=B47.ext e55
 refine ⟨_,bat B47 rfl,_,_,_,bat B47 rfl,_,_,_,bat B47 rfl,_,_,_,bat B47 rfl,?_⟩
 refine qpu xA_ok (hC.ext e55) (hM.ext e55) (hF.ext e55) hU (D:=[]) (S3:=fun _=>True) (RowV.nil none) (by omega) (fun d hd=>by cases hd) (lead:=1) (by decide) fun e oa on oc w63 e63 hR h0=>⟨_,_,_,_,rfl,?_⟩
 have he:=h0 rfl (by rw [asmA];decide)
 subst he
 obtain ⟨BL,_,_,hB,Q,hq1,hq2,hq3⟩:=hR rfl
 rw [hq3 rfl,asmA] at hq1
 have hBL:BL.length=2:=by rw [← List.length_map (f:=fun y:Wd=>y.core),hq1];rfl
 have hE:BsOk xA 1 BL:=⟨by decide,by omega,q0K xA 1,by rw [hq1,asmA],by rw [← hq3 rfl];exact hq2⟩
 have hu0:BL[0].u=0:=by
  have:=List.getElem_of_eq hq1 (i:=0) (by rw [List.length_map];omega)
  rw [List.getElem_map] at this
  exact congrArg (fun z:Core=>z.2.2.1) this
 have hu1:BL[1].u=-1:=by
  have:=List.getElem_of_eq hq1 (i:=1) (by rw [List.length_map];omega)
  rw [List.getElem_map] at this
  exact congrArg (fun z:Core=>z.2.2.1) this
 have hts:BL.map (·.t)=[[98],[99]]:=by
  have:BL.map (·.t)=(BL.map (·.core)).map (·.1):=by rw [List.map_map];rfl
  rw [this,hq1];rfl
 have B47:=B47.ext e63
 have e6363:=qa e55 e63
 refine ⟨_,bat B47 rfl,_,_,_,bat B47 rfl,_,_,_,bat B47 rfl,_,_,_,bat B47 rfl,?_⟩
 refine qnu xA_ok (hC.ext e6363) (hM.ext e6363) (hU.ext e63) hB hE (i:=0) (by omega) fun sa sn sc w71 hr1 e71=>⟨_,_,_,_,rfl,?_⟩
 rw [hq1,hu0,srcA0] at hr1
 have B47:=B47.ext e71
 have e71':=qa e6363 e71
 refine ⟨_,bat B47 rfl,_,_,_,bat B47 rfl,_,_,_,bat B47 rfl,_,_,_,bat B47 rfl,?_⟩
 refine qnu xA_ok (hC.ext e71') (hM.ext e71') (hU.ext (qa e63 e71)) (hB.ext e71) hE (i:=1) (by omega) fun ta tn tc w79 hr2 e79=>⟨_,_,_,_,rfl,?_⟩
 rw [hq1,hu1,srcA1] at hr2
 refine qnf rfl (qnf rfl (qnf rfl (qnf rfl ?_)))
 refine q0e (hB.ext (qa e71 e79)) (by omega) fun wa wn wc w83 ho e83=>⟨_,_,_,rfl,?_⟩
 rw [hts] at ho
 refine qd fun b85 w86 hb85 B85 e86 s86=>?_
 refine qj4 [[98],[99]] [[98],[99]] ((OwnL.out ho).ext e86) (rowV_enc.1 (rowS_b (l:=[[98],[99]]) B85)) (by decide) fun w88 e88=>⟨_,rfl,?_⟩
 rw [decide_eq_true rfl,br_t]
 refine qd fun b90 w91 hb90 B90 e91 s91=>?_
 have e7191:=qa e79 (qa e83 (qa e86 (qa e88 e91)))
 have hsn:=hr1.1
 refine q41 (hr1.ext e7191) (q81 (l:=[1]) B90 rfl) (by rw [hsn];decide) fun w93 e93=>⟨_,rfl,?_⟩
 rw [decide_eq_true rfl,br_t]
 refine qd fun b95 w96 hb95 B95 e96 s96=>?_
 have e7996:=qa e83 (qa e86 (qa e88 (qa e91 (qa e93 e96))))
 have htn:=hr2.1
 refine q41 (hr2.ext e7996) (q81 (l:=[0,1]) B95 rfl) (by rw [htn];decide) fun w98 e98=>⟨_,rfl,?_⟩
 rw [decide_eq_true rfl]
 exact h w98 (qa e0 (qa e71' (qa e79 (qa e7996 e98))))
end
theorem rd_len {x:Kol} {k:Nat} {r:Rdg} (hr:r∈Unt.rd x.units k):r.2.length≤x.sig.length:=by
 unfold Unt.rd at hr
 by_cases hk:k < x.units.length
 ·rw [gD_at hk] at hr
  have hkr:k < x.runs.length:=by rw [← qfs];exact hk
  have:x.units[k]=(x.runs[k],x.rds x.runs[k].1 x.runs[k].2 x.sig.length):=by simp only [Kol.units,List.getElem_map]
  rw [this] at hr
  exact (q2m x _ _ _ r hr).1
 ·rw [List.getD_eq_getElem?_getD,List.getElem?_eq_none (by omega)] at hr
  cases hr
theorem srcK_len (x:Kol) (L:List Core) (u:Int):(srcK x.sig.length x.units L u).length≤x.sig.length:=by
 unfold srcK
 by_cases g:u < 0
 ·rw [if_pos g];simp
 ·rw [if_neg g]
  by_cases g2:rdI (Unt.rd x.units u.toNat) (ofU L u) < 0
  ·rw [if_pos g2];simp
  ·rw [if_neg g2]
   obtain ⟨q,hq,hq1,_⟩:=qmr g2
   have hq1:rdI (Unt.rd x.units u.toNat) (ofU L u)=q:=hq1
   rw [hq1,Int.toNat_natCast,gD_at hq]
   exact rd_len (List.getElem_mem hq)
section
variable {R:Ending→World→Prop} {S S2 S3:Nat→Prop} {w:World} {v:KV} {x:Kol}
abbrev dcBad (d:Dc):Bool:=decide (80 < d.x.length)||decide (20 < d.s.length)
theorem dcBad_call {d:Dc} {K:Ending→World→Prop} (h:∀ w',Ext w w'→K (.returned (.bool (dcBad d))) w'):CallV prog (.func (.func 22) #[] #[]) [.agg ⟨d.cs⟩] w K:=by
 refine ⟨by kernel_rfl,?_⟩
 apply qit
 refine qd fun b5 w6 hb5 B5 e6 s6=>⟨_,bat B5 rfl,?_⟩
 have h:=h w6 e6
 unfold dcBad at h
 refine qc (fun g=>?_) (fun g=>⟨_,bat B5 rfl,?_⟩)
 ·rw [decide_eq_true (by omega),Bool.true_or] at h;exact h
 ·rw [decide_eq_false (by omega),Bool.false_or,decide_eq_decide.2 (show 20 < d.s.length↔(20:Int) < (d.s.length:Int) by omega)] at h
  exact h
theorem q2b {a:Option Addr} {n c:Nat} {L:List Dc} (h1:RowV vDc S w a n L) (hs:n≤4611686018427387904) (h:∀ w',Ext w w'→R (.returned (.bool (L.any dcBad))) w') :
  Calls prog qv ⟨[.slice a n c,.func (.func 22) #[] #[]]⟩ w R:=by
 apply qa4
 apply qbe
 have hn:=h1.1
 refine ⟨fun i W m=>∃ k:Nat,i=k∧k≤n∧m=n - k∧(∀ x∈L.take k,dcBad x=false)∧Ext w W,⟨_,0,rfl,by omega,rfl,by simp,Below.refl _ _⟩,?_⟩
 rintro _ W m ⟨k,rfl,hk,rfl,hno,he⟩ _
 refine qc (fun hlt=>?_) (fun hge=>?_)
 ·have hkL:k < L.length:=by omega
  obtain ⟨p,hp,dd⟩:=q7h (h1.ext he) hkL
  refine hp _ ⟨_,dd 0 _ rfl,_,dd 1 _ rfl,_,dd 2 _ rfl,_,dd 3 _ rfl,dcBad_call fun W' e'=>⟨_,rfl,qh (fun g=>⟨_,rfl,?_⟩) (fun g=>?_)⟩⟩
  ·have:=h W' (qa he e')
   rw [← qs9,q2t hkL g hno] at this;exact this
  ·exact ⟨n - (k + 1),by omega,k + 1,by rw [qg (by omega)],by omega,rfl,qv2 hkL g hno,qa he e'⟩
 ·rw [List.take_of_length_le (by omega)] at hno
  have:=h W he
  rw [← qs9,q2r hno] at this
  exact ⟨_,rfl,this⟩
set_option maxHeartbeats 1000000 in
theorem TopTraced_spec (hC:ColV S w v x) {da:Option Addr} {dn dc:Nat} {D:List Dc} (hD:RowV vDc S3 w da dn D) (hn1:v.s.2.1≤4611686018427387904) (hn2:v.t.2.1≤4611686018427387904) (hn3:v.c.2.1≤4611686018427387904) {lead:Nat} (hlead:lead≤255) (hF:Forms w) (hM:Mk w) (h:∀ w',Ext w w'→R (.returned (.bool true)) w') :
  Calls prog qeo ⟨[.agg ⟨kcs x v⟩,.slice da dn dc,.int .u8 (lead:Int)]⟩ w R:=by
 apply qkx
 have hsn:=hC.sg.1
 have hdl:=hD.1
 refine qd fun b7 w8 hb7 B7 e8 s8=>?_
 have awk:∀ V,Ext w V→Calls prog 23 ⟨[]⟩ V fun (e:Ending) (w':World)=>∃ (y:Bool),e=.returned (.bool y)∧(R (.returned (.bool y)) w'):=fun V eV=>q6i (hM.ext eV) (hF.ext eV) fun w' e'=>⟨_,rfl,h w' (qa eV e')⟩
 intro K9 hK9
 refine ⟨_,bat B7 rfl,_,_,_,bat B7 rfl,_,_,_,bat B7 rfl,_,_,_,bat B7 rfl,?_⟩
 refine q6p (hC.ext e8) hn1 hn2 hn3 fun gr w139 e139 hgr=>⟨_,rfl,qh (fun _=>awk _ (qa e8 e139)) (fun g=>?_)⟩
 have hG:=hgr g
 have e0139:=qa e8 e139
 have B139:=B7.ext e139
 refine ⟨_,bat B139 rfl,_,_,_,bat B139 rfl,_,_,_,bat B139 rfl,_,_,_,bat B139 rfl,?_⟩
 refine chkR_spec hG (hC.ext e0139) hn1 hn2 fun e w149 e149 hck=>⟨_,rfl,qc (fun _=>awk _ (qa e0139 e149)) (fun ge=>?_)⟩
 have hV:=hck (Decidable.not_not.1 ge)
 have e0149:=qa e0139 e149
 have B149:=B139.ext e149
 have hv1:=hV.n1
 have h32:=hV.n32
 refine ⟨_,_,_,bat B149 rfl,qc (fun _=>awk _ e0149) (fun _=>qc (fun _=>awk _ e0149) (fun gd8=>?_))⟩
 refine q2b (hD.ext e0149) (by omega) fun w162 e162=>⟨_,rfl,qh (fun _=>awk _ (qa e0149 e162)) (fun gany=>hK9 _ fun _=>?_)⟩
 have hdx:∀ d∈D,d.x.length≤80:=fun d hd=>by
  have:=List.any_eq_false.1 gany d hd
  unfold dcBad at this
  simp only [Bool.or_eq_true,decide_eq_true_eq,not_or] at this
  omega
 have e0162:=qa e0149 e162
 have B162:=B149.ext e162
 refine ⟨_,bat B162 rfl,_,_,_,bat B162 rfl,_,_,_,bat B162 rfl,_,_,_,bat B162 rfl,?_⟩
 refine q23 hV (hC.ext e0162) (hM.ext e0162) fun ua un uc w16 hucap hU e16=>⟨_,_,_,_,rfl,?_⟩
 have e016:=qa e0162 e16
 have B16:=B162.ext e16
 have hun:=hU.1
 have hul:=qfs x
 intro K19 hK19
 have hll:lead % x.sig.length < x.sig.length:=Nat.mod_lt _ (by omega)
 generalize hlm:lead % x.sig.length=ld at *
 -- with a base text
 have k19:∀ (e:Int) (oa:Option Addr) (on oc:Nat) (w22:World),Ext w16 w22→(e=0→∃ BL:List Wd,on≤oc∧on≤1024∧RowV vWd (fun _=>True) w22 oa on BL∧EstR x ld D BL)→K19 oa on oc e w22:=by
  intro e oa on oc w22 e22 hR
  have e022:=qa e016 e22
  have B22:=B16.ext e22
  refine hK19 _ _ _ _ _ fun _=>ql (by decide) (qc (fun _=>awk _ e022) (fun he=>?_))
  obtain ⟨BL,_,hon,hB,Q,hq1,hq2,_⟩:=hR (Decidable.not_not.1 he)
  have hbn:=hB.1
  have hE:BsOk x ld BL:=⟨hll,by omega,Q,hq1,hq2⟩
  have hU22:=hU.ext e22
  refine ⟨fun i W m=>∃ k:Nat,i=k∧k≤on∧m=on - k∧Ext w22 W,⟨_,0,rfl,Nat.zero_le _,rfl,Below.refl _ _⟩,?_⟩
  rintro _ W m ⟨k,rfl,hk,rfl,eW⟩ _
  have e0W:=qa e022 eW
  have BW:=B22.ext eW
  refine qc (fun hlt=>?_) (fun hge=>?_)
  ·have hkB:k < BL.length:=by omega
   obtain ⟨p,hp,dd⟩:=qqo (hB.ext eW) hkB
   refine hp _ ⟨_,dd 0 _ rfl,_,dd 1 _ rfl,_,dd 2 _ rfl,_,dd 3 _ rfl,_,dd 4 _ rfl,_,dd 5 _ rfl,_,dd 6 _ rfl,?_⟩
   refine qac rfl (qxm BL[k]) fun b39 w41 hb39 B39 e41 s41=>?_
   have e041:=qa e0W e41
   have e2241:=qa eW e41
   have B41:=BW.ext e41
   refine ⟨_,bat B41 rfl,_,_,_,bat B41 rfl,_,_,_,bat B41 rfl,_,_,_,bat B41 rfl,?_⟩
   refine qnu hV (hC.ext e041) (hM.ext e041) (hU22.ext e2241) (hB.ext e2241) hE hkB fun sa sn sc w47 hsrc e47=>⟨_,_,_,_,rfl,ql (by decide) ?_⟩
   have e047:=qa e041 e47
   have B47:=B41.ext e47
   have B39:=B39.ext e47
   have hsl:=srcK_len x (BL.map (·.core)) BL[k].u
   have hsn2:=hsrc.1
   refine ⟨_,_,_,bat B47 rfl,?_⟩
   refine ⟨fun i W2 m2=>∃ s:Nat,i=s∧s≤x.sig.length∧m2=x.sig.length - s∧Ext w47 W2,⟨_,0,rfl,Nat.zero_le _,rfl,Below.refl _ _⟩,?_⟩
   rintro _ W2 m2 ⟨s,rfl,hs,rfl,e2⟩ _
   have e02:=qa e047 e2
   have B2:=B47.ext e2
   refine qc (fun hlt2=>?_) (fun hge2=>?_)
   ·have hss:s < x.sig.length:=by omega
    refine ⟨_,bat B2 rfl,_,_,_,bat B2 rfl,_,_,_,bat B2 rfl,_,_,_,bat B2 rfl,?_⟩
    refine q2z hV (hC.ext e02) (hM.ext e02) hss fun ta tn tc w61 hO htn e61=>⟨_,_,_,_,rfl,ql (by decide) ?_⟩
    have e261:=qa e2 e61
    refine q2a (s:Int) (hsrc.ext e261) (by omega) ⟨_,rfl,qc (fun hin=>?_) (fun _=>?_)⟩
    ·refine ⟨_,bat (B39.ext e261) rfl,?_⟩
     refine qpv BL[k].t (rowV_enc.2 (OwnL.out hO)) (by omega) ⟨_,rfl,?_⟩
     have hmem:BL[k].t∈(x.tok.getD s []).map (·.t):=by
      rw [hq1] at hin
      refine src_text hV hll hq2 (y:=BL[k].core) ?_ hss hin
      rw [← hq1]
      exact List.mem_map_of_mem (List.getElem_mem hkB)
     rw [decide_eq_true hmem]
     show br false _ _
     rw [br_f]
     exact ⟨x.sig.length - (s + 1),by omega,s + 1,by rw [qg (by omega)],by omega,rfl,e261⟩
    ·exact ⟨x.sig.length - (s + 1),by omega,s + 1,by rw [qg (by omega)],by omega,rfl,e261⟩
   ·exact ⟨on - (k + 1),by omega,k + 1,by rw [qg (by omega)],by omega,rfl,qa e2241 (qa e47 e2)⟩
  ·refine qc (fun _=>awk _ e0W) (fun gl=>⟨_,_,_,bat BW rfl,?_⟩)
   have hr0:x.runs=[]:=List.eq_nil_of_length_eq_zero (by omega)
   refine ⟨fun i W2 m2=>∃ s:Nat,i=s∧s≤x.sig.length∧m2=x.sig.length - s∧Ext W W2,⟨_,0,rfl,Nat.zero_le _,rfl,Below.refl _ _⟩,?_⟩
   rintro _ W2 m2 ⟨s,rfl,hs,rfl,e2⟩ _
   have e02:=qa e0W e2
   have B2:=BW.ext e2
   refine qc (fun hlt2=>?_) (fun hge2=>awk _ e02)
   have hss:s < x.sig.length:=by omega
   refine ⟨_,bat B2 rfl,_,_,_,bat B2 rfl,_,_,_,bat B2 rfl,_,_,_,bat B2 rfl,?_⟩
   refine q2z hV (hC.ext e02) (hM.ext e02) hss fun ta tn tc w61 hO htn e61=>⟨_,_,_,_,rfl,ql (by decide) ?_⟩
   refine q0e (hB.ext (qa eW (qa e2 e61))) hE.len fun wa wn wc w92 hO2 e92=>⟨_,_,_,rfl,?_⟩
   have hln:=OwnL.length hO
   have heq:(x.tok.getD s []).map (·.t)=BL.map (·.t):=by
    rw [all_text hV (Q:=Q) hll hr0 hss,← hq1,List.map_map];rfl
   refine qj4 _ _ ((OwnL.out hO).ext e92) (OwnL.out hO2) (by omega) fun w95 e95=>⟨_,rfl,?_⟩
   rw [decide_eq_true heq]
   show br false _ _
   rw [br_f]
   exact ⟨x.sig.length - (s + 1),by omega,s + 1,by rw [qg (by omega)],by omega,rfl,qa e2 (qa e61 (qa e92 e95))⟩
 unfold drw
 have ed:=qn w16
 have B16d:=B16.ext ed
 have e0d:=qa e016 ed
 have hUd:=hU.ext ed
 generalize w16.drew=wd at *
 have hmod:Int.tmod (i64.wrap (lead:Int)) ((v.s.2.1:Nat):Int)=((ld:Nat):Int):=by
  rw [qai (by omega),hsn,← hlm]
  exact (Int.ofNat_tmod lead x.sig.length).symm
 have est:Calls prog 25 ⟨[.agg ⟨kcs x v⟩,.slice ua un uc,.slice da dn dc,.int .i64 (Int.tmod (i64.wrap (lead:Int)) ((v.s.2.1:Nat):Int))]⟩ wd fun (e107:Ending) (w108:World)=>∃ (y:Option Addr) (yn yc:Nat) (z:Int),e107=.returned (.tuple ⟨[.slice y yn yc,.int .i64 z]⟩)∧(K19 y yn yc z w108):=by
  rw [hmod]
  refine qpu hV (hC.ext e0d) (hM.ext e0d) (hF.ext e0d) hUd (hD.ext e0d) (by omega) hdx hll fun e oa on oc w' e' hR _=>⟨_,_,_,_,rfl,k19 e oa on oc w' (qa ed e') fun he=>?_⟩
  obtain ⟨BL,q1,q2,q3,q4⟩:=hR he
  exact ⟨BL,q1,q2,q3.imp fun _ _ _=>trivial,q4⟩
 have hne:((v.s.2.1:Nat):Int)≠0:=by omega
 have div:∀ {A:Prop},A→idiv ((v.s.2.1:Nat):Int) A:=fun {A} hA=>⟨hne,hA⟩
 have rx0:∀ {Q:List UInt8→Prop},Q x.sec→∃ (y:List UInt8),World.cell? wd ((⟨b7,0,none⟩:Addr).add 0)=some (.string ⟨⟨y⟩⟩)∧Q y:=fun {Q} q=>⟨_,bat B16d rfl,q⟩
 have rx1:∀ {Q:Option Addr→Nat→Nat→Prop},Q v.s.1 v.s.2.1 v.s.2.2→∃ (y:Option Addr) (yn yc:Nat),World.cell? wd ((⟨b7,0,none⟩:Addr).add 1)=some (.slice y yn yc)∧Q y yn yc:=fun {Q} q=>⟨_,_,_,bat B16d rfl,q⟩
 have rx2:∀ {Q:Option Addr→Nat→Nat→Prop},Q v.t.1 v.t.2.1 v.t.2.2→∃ (y:Option Addr) (yn yc:Nat),World.cell? wd ((⟨b7,0,none⟩:Addr).add 2)=some (.slice y yn yc)∧Q y yn yc:=fun {Q} q=>⟨_,_,_,bat B16d rfl,q⟩
 have rx3:∀ {Q:Option Addr→Nat→Nat→Prop},Q v.c.1 v.c.2.1 v.c.2.2→∃ (y:Option Addr) (yn yc:Nat),World.cell? wd ((⟨b7,0,none⟩:Addr).add 3)=some (.slice y yn yc)∧Q y yn yc:=fun {Q} q=>⟨_,_,_,bat B16d rfl,q⟩
 clear k19 hK19
 repeat' first
  | exact trivial
  | with_reducible exact est
  | with_reducible refine div ?_
  | with_reducible refine rx0 ?_
  | with_reducible refine rx1 ?_
  | with_reducible refine rx2 ?_
  | with_reducible refine rx3 ?_
  | with_reducible refine And.intro ?_ ?_
end
end Go.Proofs
namespace Go.Sh
open Go Go.RowKit Go.ChangeShapes
section
variable {H:Type} {enc:TypeId × Value→H} {P:Program} {W W':World}
theorem qr8 {sp:Nat→Bool}:∀ {ts:List TypeId} {vs:List Value} {ds:List (DataW H)} {ps:List MemPlace},DataW.TrodAll enc P W 0 sp true ts vs ds ps→(∀ p∈ps,W.sameAt W' p)→DataW.TrodAll enc P W' 0 sp true ts vs ds ps
 | [],[],[],_,h,_=>h
 | _ :: _,_ :: _,_ :: _,_,⟨p,q,⟨n,hn⟩,h2,e⟩,hs =>
  ⟨p,q,⟨n,DataW.trod_carry n _ _ _ hn fun x hx=>hs x (by rw [e];exact List.mem_append_left _ hx)⟩,qr8 h2 (fun x hx=>hs x (by rw [e];exact List.mem_append_right _ hx)),e⟩
 | [],[],_ :: _,_,h,_=>h.elim
 | [],_ :: _,_,_,h,_=>h.elim
 | _ :: _,[],_,_,h,_=>h.elim
 | _ :: _,_ :: _,[],_,h,_=>h.elim
theorem qr9 (hl:laidOutB P=true):∀ {ts:List TypeId} {vs:List Value} {ds:List (DataW H)} {ps:List MemPlace},(∀ t∈ts,P.readableRec t=true∧t < P.types.size)→DataW.TrodAll enc P W 0 (fun _=>true) true ts vs ds ps→Below W.heap.size W W'→(∀ x∈ps,x.block < W.heap.size) →
  DataW.TrodAll enc P W' 0 (fun b=>decide (b < W.heap.size)) true ts vs ds ps
 | [],[],[],_,_,h,_,_=>h
 | _ :: _,_ :: _,_ :: _,_,ht,⟨p,q,h1,h2,e⟩,hb,hlt =>
  ⟨p,q,Below.trod hl (ht _ (by simp)).1 (ht _ (by simp)).2 h1 hb (fun x hx=>hlt x (by rw [e];exact List.mem_append_left _ hx)),
   qr9 hl (fun t h=>ht t (List.mem_cons_of_mem _ h)) h2 hb (fun x hx=>hlt x (by rw [e];exact List.mem_append_right _ hx)),e⟩
 | [],[],_ :: _,_,_,h,_,_=>h.elim
 | [],_ :: _,_,_,_,h,_,_=>h.elim
 | _ :: _,[],_,_,_,h,_,_=>h.elim
 | _ :: _,_ :: _,[],_,_,h,_,_=>h.elim
theorem post_ext {f:Func} {s:ChangeSpec} {apart fresh handsOn again:Bool} {args:Array Value} {ds gs:List (DataW H)} {before:List MemPlace} {tb:TypeId} (hl:laidOutB P=true) (hts:∀ t∈f.params.toList,P.readableRec t=true∧t < P.types.size) (hres:f.resultTypes=#[tb]) (htb:P.underlying tb=some .bool) (hvars:s.vars=[])
  (hW:DataW.Whole enc P f.params.toList s.vars apart W args.toList ds gs before) (hfn:s.fn H (ds++gs)={ results:=[.lit (.bool true)],args:=ds }) (he:Ext W W') :
  s.post enc P f apart fresh handsOn again W args (.bool true) W':=by
 have hlt:=hW.lt
 have hW0:=hW
 obtain ⟨p,q,h1,h2,hpq,hz,hn⟩:=hW0
 rw [hvars] at h2
 obtain ⟨hg,hq⟩:=trodVars_none h2
 subst hg hq
 simp only [List.append_nil] at hpq
 subst hpq
 have hbool:∀ (b:Nat) (sp:Nat→Bool) (hd:Bool),DataW.TrodAll enc P W' b sp hd f.resultTypes.toList ((Value.bool true).resultList f.resultTypes.size) [.lit (.bool true)] []:=by
  intro b sp hd
  rw [hres]
  exact trodAll_mk1 (shut_bool htb true)
 refine ⟨ds,[],before,[],before,[],hW,?_,?_,?_,he.frame _,fun _=>⟨ok_one hres rfl (okWide_bool_mk htb true),[.lit (.bool true)]++ds,[],[]++before,⟨[]++before,[],?_,?_,by simp,?_,?_⟩,?_⟩⟩
 ·rw [hfn];exact hbool _ _ _
 ·rw [hfn];exact qr9 hl hts h1 he hlt
 ·rw [hfn,hvars];rfl
 ·exact trodAll_append (qr8 h1 fun x hx=>he.same (hlt x hx)) (hbool _ _ _)
 ·rw [hvars];rfl
 ·intro b off hp
  simp only [List.nil_append] at hp
  rw [he.frozen (hlt _ hp)]
  exact hz b off hp
 ·intro ha;simpa using hn ha
 ·intro x hx _;simpa using hx
end
end Go.Sh
namespace Go.Proofs.YtncjonkmhfdabaaGreatDoor
open Go Go.Sh Go.RowKit Go.ChangeShapes Go.WideShapes Go.ChangeAt Go.Proofs.Tryz IntKind
theorem own:ownKnob Tryz.prog.godebug=none:=by kernel_rfl
theorem laidOut:laidOutB prog=true:=by kernel_rfl
theorem rec62:Tryz.prog.readableRec 62=true∧62 < Tryz.prog.types.size:=⟨by kernel_rfl,of_decide_eq_true (by kernel_rfl)⟩
theorem rec63:Tryz.prog.readableRec 63=true∧63 < Tryz.prog.types.size:=⟨by kernel_rfl,of_decide_eq_true (by kernel_rfl)⟩
theorem l2 {α:Type} {l:List α} (h:l.length=2):∃ a b,l=[a,b]:=match l,h with | [a,b],_=>⟨a,b,rfl⟩
theorem l4 {α:Type} {l:List α} (h:l.length=4):∃ a b c d,l=[a,b,c,d]:=match l,h with | [a,b,c,d],_=>⟨a,b,c,d,rfl⟩
theorem l5 {α:Type} {l:List α} (h:l.length=5):∃ a b c d e,l=[a,b,c,d,e]:=match l,h with | [a,b,c,d,e],_=>⟨a,b,c,d,e,rfl⟩
theorem l6 {α:Type} {l:List α} (h:l.length=6):∃ a b c d e f,l=[a,b,c,d,e,f]:=match l,h with | [a,b,c,d,e,f],_=>⟨a,b,c,d,e,f,rfl⟩
theorem form_row {W:World} {m:Nat} {cs:List Value} {x:DataW Unit × List MemPlace} {tag:List UInt8} {a b c:Bool} (h:DataW.trod (fun _=>()) prog W 0 (fun _=>true) false m 305 cs=some x)
  (hx:x.1=.agg [.lit (.string tag),.lit (.bool a),.lit (.bool b),.lit (.bool c)]):cs=[.string ⟨⟨tag⟩⟩,.bool a,.bool b,.bool c]:=by
 have h96:Tryz.prog.cellsOf 305=4:=by kernel_rfl
 have h9:Tryz.prog.cellsOf 9=1:=by kernel_rfl
 have h4:Tryz.prog.cellsOf 4=1:=by kernel_rfl
 obtain ⟨xs,n,rfl,rfl,hl,hxl,hf⟩:=DataW.trod_struct Tryz.underlying305 h
 rw [h96] at hl
 obtain ⟨v0,v1,v2,v3,rfl⟩:=l4 hl
 obtain ⟨y0,y1,y2,y3,rfl⟩:=l4 (show xs.length=4 from hxl)
 simp only [List.map_cons,List.map_nil,DataW.agg.injEq,List.cons.injEq,and_true] at hx
 obtain ⟨z0,z1,z2,z3⟩:=hx
 have g0:=hf 0 _ rfl
 have g1:=hf 1 _ rfl
 have g2:=hf 2 _ rfl
 have g3:=hf 3 _ rfl
 obtain ⟨t,e0,f0,_⟩:=DataW.trod_string Tryz.underlying9 g0
 obtain ⟨b1,e1,f1⟩:=DataW.trod_bool Tryz.underlying4 g1
 obtain ⟨b2,e2,f2⟩:=DataW.trod_bool Tryz.underlying4 g2
 obtain ⟨b3,e3,f3⟩:=DataW.trod_bool Tryz.underlying4 g3
 simp [h9,h4] at e0 e1 e2 e3
 subst e0 e1 e2 e3
 try simp at f0 f1 f2 f3
 rw [f0] at z0
 rw [f1] at z1
 rw [f2] at z2
 rw [f3] at z3
 simp at z0 z1 z2 z3
 subst z0 z1 z2 z3
 rfl
theorem forms_of {W : World} (h : Go.Lib.VarReads prog W "apograph/transcript.forms" Rows.laid_apograph_transcript_forms) : Forms W := by
 obtain ⟨g4,t4,cs,f4,p4,hg,ht,hvar,hd⟩:=h
 have hg0 : Tryz.prog.globalNamed "apograph/transcript.forms" = some qj := by kernel_rfl
 have ht0:(Tryz.prog.globals[qj]?).map (·.type)=some 306:=by kernel_rfl
 obtain rfl:=Option.some.inj (hg0.symm.trans hg)
 obtain rfl:=Option.some.inj (ht0.symm.trans ht)
 have h96:Tryz.prog.cellsOf 305=4:=by kernel_rfl
 have h97:Tryz.prog.cellsOf 306=48:=by kernel_rfl
 obtain ⟨xs,m,rfl,hx,hl,hxl,hall⟩:=DataW.trod_array Tryz.underlying306 hd
 rw [h97] at hl
 rw [h96] at hall
 simp only [Prod.mk.injEq,Rows.laid_apograph_transcript_forms,DataW.agg.injEq] at hx
 obtain ⟨hm,_⟩:=hx
 have chunk:∀ i,i < 12→(cs.toList.drop (i * 4)).take 4=(formsCells.drop (i * 4)).take 4:=by
  intro i hi
  have hh:=hall i hi
  have hxi:(xs[i]?).map (·.1)=_:=(List.getElem?_map (f:=(·.1)) (l:=xs) (i:=i)).symm.trans (by rw [← hm])
  rw [List.getElem?_eq_getElem (by omega)] at hh hxi
  simp only [Option.map_some] at hxi
  rcases (by omega:i=0∨i=1∨i=2∨i=3∨i=4∨i=5∨i=6∨i=7∨i=8∨i=9∨i=10∨i=11) with rfl | rfl | rfl | rfl | rfl | rfl | rfl | rfl | rfl | rfl | rfl | rfl <;>
   exact form_row hh (Option.some.inj hxi)
 have hsz:qj < W.heap.size:=by
  simp only [World.var?,hg0,Option.bind_some] at hvar
  split at hvar
  ·rename_i hh;exact (Array.getElem?_eq_some_iff.1 hh).1
  ·cases hvar
 refine ⟨hsz,fun j v hj=>?_⟩
 have hj48:j < 48:=by have:=(List.getElem?_eq_some_iff.1 hj).1;exact this
 rw [World.var?_cell hg0 hvar j]
 have hc:=chunk (j / 4) (by omega)
 have e:∀ l:List Value,l[j]? = ((l.drop (j / 4 * 4)).take 4)[j - j / 4 * 4]?:=fun l=>by
  rw [List.getElem?_take,if_pos (by omega),List.getElem?_drop]
  congr 1;omega
 rw [← Array.getElem?_toList,e,hc,← e];exact hj
theorem rec5:Tryz.prog.readableRec 5=true∧5 < Tryz.prog.types.size:=⟨by kernel_rfl,of_decide_eq_true (by kernel_rfl)⟩
theorem u8_wf {n:Int} (h:(Lit.int .u8 n).wf=true):0≤n∧n < 256:=by
 simp [Lit.wf,IntKind.min,IntKind.max,IntKind.signed,IntKind.bits] at h
 omega
noncomputable def flatV:Nat→DataW Unit→List Value
 | n + 1,.agg l=>l.flatMap (flatV n)
 | _,.lit (.int k n)=>[.int k n]
 | _,.lit (.bool b)=>[.bool b]
 | _,.lit (.string s)=>[.string ⟨s.toArray⟩]
 | _,_=>[]
theorem trod_iface {P:Program} {W:World} {fuel:Nat} {t:TypeId} {cs:List Value} {ms:Array (String × TypeId)} {nm:String} {d:DataW Unit} {p:List MemPlace} (hu:P.underlying t=some (.interface ms)) (h:DataW.trod (fun _=>()) P W 0 (fun _=>true) false fuel t cs=some (.iface nm d,p)):∃ u v,cs=[.iface u v]:=by
 cases fuel with
 | zero=>simp [DataW.trod] at h
 | succ n =>
  unfold DataW.trod at h
  rw [hu] at h
  split at h <;> simp_all
theorem err_of {W:World} {n:String} {nm:String} {d:DataW Unit} {g:Nat} {ti:TypeId} {ms:Array (String × TypeId)} (h:Go.Lib.VarReads prog W n (.iface nm d)) (hg:Tryz.prog.globalNamed n=some g) (ht:(Tryz.prog.globals[g]?).map (·.type)=some ti) (hi:Tryz.prog.underlying ti=some (.interface ms)) :
  ∃ t p,W.cell? ⟨g,0,none⟩=some (.iface t p):=by
 obtain ⟨g',t',cs,fuel,p,hg',ht',hv,hd⟩:=h
 obtain rfl:=Option.some.inj (hg.symm.trans hg')
 obtain rfl:=Option.some.inj (ht.symm.trans ht')
 obtain ⟨u,v,hc⟩:=trod_iface hi hd
 refine ⟨u,v,?_⟩
 rw [World.var?_cell hg hv 0]
 have:=congrArg (fun l=>l[0]?) hc
 simpa using this
theorem max_of {W:World} (hSh:W.ShapedOpen prog):∃ m,W.cell? ⟨qdb,0,none⟩=some (.int .i64 m):=Tryz.laysM143.s1_3 W hSh
theorem mk_of {W : World} (e1 : Go.Lib.VarReads prog W "strconv.ErrSyntax" Rows.laid_strconv_ErrSyntax) (e2 : Go.Lib.VarReads prog W "strconv.ErrRange" Rows.laid_strconv_ErrRange) (hSh : W.ShapedOpen prog) : Mk W :=
 ⟨max_of hSh,err_of e1 (by kernel_rfl) (by kernel_rfl) Tryz.underlying162,err_of e2 (by kernel_rfl) (by kernel_rfl) Tryz.underlying162⟩
noncomputable def putG (h:Array Obj) (g:Nat) (cs:List Value):Array Obj:=h.modify g fun
 | .cells _ t frozen=>.cells ⟨cs⟩ t frozen
 | o=>o
noncomputable def layOne (h:Array Obj) (g:Nat) (d:DataW Unit):Array Obj:=match d with
 | .iface _ (.ptr (.agg [.lit (.string t)]))=>putG (h.push (.cells ⟨[.string ⟨t.toArray⟩]⟩ 339 (0,0))) g [.iface 337 (.pointer (some ⟨h.size,0,none⟩))]
 | d=>putG h g (flatV 5 d)
noncomputable def layAll (laid:List (String × DataW Unit)) (h:Array Obj):Array Obj :=
 laid.foldl (fun h x=>match Tryz.prog.globalNamed x.1 with
  | some g=>layOne h g x.2
  | none=>h) h
noncomputable def q7t (laid:List (String × DataW Unit)) (os:Os):World :=
 { World.holding prog os ⟨#[],#[],[]⟩ with heap:=layAll laid (World.holding prog os ⟨#[],#[],[]⟩).heap }
end Go.Proofs.YtncjonkmhfdabaaGreatDoor
namespace Go.Sh
open Go Go.RowKit Go.ChangeShapes
section
variable {H:Type} {enc:TypeId × Value→H} {P:Program} {w:World} {base:Nat} {sp:Nat→Bool} {hd:Bool} {α:Type}
theorem ql5 {e:TypeId}:∀ {ds:List (DataW H)} {d:DataW H} {m:Nat},d∈ds→m∈d.weights P e→m∈DataW.weightsAll P e ds
 | d0 :: ds,d,m,hd,hm=>by
  rw [DataW.weightsAll,List.mem_append]
  rcases List.mem_cons.1 hd with rfl | hd
  ·exact .inl hm
  ·exact .inr (ql5 hd hm)
theorem rowV_build {V:View α} {Q:α→Prop} {a:Addr} {len:Nat} (hel:∀ i,i < len→∃ (x:α) (us:List Value),Q x∧V.C (fun _=>True) w x us∧∀ j v,us[j]? = some v→w.cell? ((a.add (i * V.size)).add j)=some v) :
  ∃ L:List α,RowV V (fun _=>True) w (some a) len L∧∀ x∈L,Q x:=by
 by_cases hl0:len=0
 ·subst hl0;exact ⟨[],RowV.nil _,fun x hx=>by cases hx⟩
 obtain ⟨b,o,rfl⟩:∃ b o,a=⟨b,o,none⟩:=by
  obtain ⟨x,us,_,hC,hx⟩:=hel 0 (by omega)
  have hp:=V.pos
  have hl:=V.len hC
  have h0:=hx 0 _ (List.getElem?_eq_getElem (by omega))
  obtain ⟨b,o,spot⟩:=a
  have hspot:spot=none:=by simpa [Addr.add] using World.cell?_spot h0
  subst hspot
  exact ⟨b,o,rfl⟩
 have build:∀ k,k≤len→∃ (L:List α) (us:List Value),L.length=k∧us.length=k * V.size∧AllV V (fun _=>True) w L us∧(∀ x∈L,Q x)∧∀ j v,us[j]? = some v→w.cell? ((⟨b,o,none⟩:Addr).add j)=some v:=by
  intro k
  induction k with
  | zero=>exact fun _=>⟨[],[],rfl,by simp,rfl,fun x hx=>(by cases hx),fun j v hj=>(by simp at hj)⟩
  | succ k ihk =>
   intro hk
   obtain ⟨L,us,hL,hul,hC,hQ,hus⟩:=ihk (by omega)
   obtain ⟨x,vs,hq,hV,hx⟩:=hel k (by omega)
   refine ⟨L++[x],us++vs,by simp [hL],by rw [List.length_append,hul,V.len hV,Nat.succ_mul],hC.app (AllV.single hV),fun y hy=>?_,fun j v hj=>?_⟩
   ·rw [List.mem_append,List.mem_singleton] at hy
    rcases hy with hy | rfl
    ·exact hQ y hy
    ·exact hq
   ·by_cases hlt:j < us.length
    ·rw [List.getElem?_append_left hlt] at hj;exact hus j v hj
    ·rw [List.getElem?_append_right (by omega)] at hj
     have:=hx _ _ hj
     rw [qe,qe] at this
     rw [qe,← this]
     congr 2;omega
 obtain ⟨L,us,hL,hul,hC,hQ,hus⟩:=build len (Nat.le_refl _)
 have hlt:b < w.heap.size:=by
  obtain ⟨x,vs,_,hV,hx⟩:=hel 0 (by omega)
  have hp:=V.pos
  have hl:=V.len hV
  have h0:=hx 0 _ (List.getElem?_eq_getElem (by omega))
  have:=World.block_lt_of_cell? w _ h0
  simpa [Addr.add] using this
 exact ⟨L,⟨hL.symm,us,.inr ⟨b,o,rfl,trivial,hlt,fun j v hj=>by have:=hus j v hj;rwa [qe] at this⟩,hC⟩,hQ⟩
theorem qs3 {V:View α} {Q:α→Prop} {t e:TypeId} (ht:P.underlying t=some (.slice e)) (hc:P.cellsOf e=V.size) (hb:0 < P.bytesOf e)
  (hel:∀ n cs y,(∀ m∈y.1.weights P e,m≤reachBytes)→cs.length=P.cellsOf e→DataW.trod enc P w base sp hd n e cs=some y→∃ x,Q x∧V.C (fun _=>True) w x cs)
  (fuel:Nat) (cs:List Value) (x:DataW H × List MemPlace) (hz:∀ m∈x.1.weights P t,m≤reachBytes) (h:DataW.trod enc P w base sp hd fuel t cs=some x) :
  ∃ (a:Option Addr) (n c:Nat) (L:List α),cs=[.slice a n c]∧n≤c∧RowV V (fun _=>True) w a n L∧L.length≤140737488355328∧∀ x∈L,Q x:=by
 rcases DataW.trod_slice ht h with ⟨rfl,_⟩ | ⟨a,len,cap,elems,rest,n,rfl,rfl,hx,hb',hl,hm,hel',hall,_⟩
 ·exact ⟨none,0,0,[],rfl,Nat.le_refl _,RowV.nil _,by simp,fun x hx=>by cases hx⟩
 have hr:reachBytes=140737488351232:=rfl
 have hw:x.1.weights P t=(elems.length + rest.length) * P.bytesOf e :: (DataW.weightsAll P e (elems.map (·.1))++DataW.weightsAll P e (rest.map (·.1))):=by
  rw [hx]
  simp only [DataW.weights,ht,List.length_map]
 rw [hw] at hz
 have hlen:len≤140737488355328:=by
  have h1:=hz _ List.mem_cons_self
  have h2:(elems.length + rest.length) * 1≤(elems.length + rest.length) * P.bytesOf e:=Nat.mul_le_mul (Nat.le_refl _) hb
  omega
 obtain ⟨L,hL,hq⟩:=rowV_build (V:=V) (Q:=Q) (w:=w) (a:=a) (len:=len) fun i hi=>by
  have hh:=hall i hi
  have hei:elems[i]? = some (elems[i]'(by omega)):=List.getElem?_eq_getElem (by omega)
  rw [hei] at hh
  obtain ⟨cs',hc1,hc2⟩:=Option.bind_eq_some_iff.1 hh
  obtain ⟨_,hlen',hcell⟩:=World.cells?_some hc1
  have hwe:∀ q∈(elems[i]'(by omega)).1.weights P e,q≤reachBytes:=fun q hq=>hz q (List.mem_cons_of_mem _ (List.mem_append_left _ (ql5 (List.mem_map_of_mem (List.getElem_mem (by omega))) hq)))
  obtain ⟨y,hy1,hy2⟩:=hel n cs' _ hwe hlen' hc2
  refine ⟨y,cs',hy1,hy2,fun j v hj=>?_⟩
  have hjl:j < cs'.length:=(List.getElem?_eq_some_iff.1 hj).1
  rw [← hc,hcell j (by omega)];exact hj
 exact ⟨some a,len,cap,L,rfl,hl,hL,by have:=hL.1;omega,hq⟩
theorem el_int {e:TypeId} (he:P.underlying e=some (.int .i64)):∀ (n:Nat) (cs:List Value) (y:DataW H × List MemPlace),(∀ m∈y.1.weights P e,m≤reachBytes)→cs.length=P.cellsOf e→DataW.trod enc P w base sp hd n e cs=some y→∃ x:Int,(-9223372036854775808≤x∧x≤9223372036854775807)∧vI.C (fun _=>True) w x cs:=by
 intro n cs y _ _ h
 obtain ⟨k,e0,_,wf⟩:=DataW.trod_int he h
 refine ⟨k,?_,e0⟩
 simp [Lit.wf,IntKind.min,IntKind.max,IntKind.signed,IntKind.bits] at wf
 omega
theorem el_str {e:TypeId} (he:P.underlying e=some .string):∀ (n:Nat) (cs:List Value) (y:DataW H × List MemPlace),(∀ m∈y.1.weights P e,m≤reachBytes)→cs.length=P.cellsOf e→DataW.trod enc P w base sp hd n e cs=some y→∃ x:List UInt8,x.length≤140737488355328∧vS.C (fun _=>True) w x cs:=by
 intro n cs y hz _ h
 obtain ⟨t,e0,z0,_⟩:=DataW.trod_string he h
 have hr:reachBytes=140737488351232:=rfl
 refine ⟨t.data.toList,?_,e0⟩
 have:=hz t.data.toList.length (by rw [z0];simp [DataW.weights])
 omega
theorem el_sl {V:View α} {Q:α→Prop} {t e:TypeId} (ht:P.underlying t=some (.slice e)) (hc:P.cellsOf e=V.size) (hb:0 < P.bytesOf e)
  (hel:∀ n cs y,(∀ m∈y.1.weights P e,m≤reachBytes)→cs.length=P.cellsOf e→DataW.trod enc P w base sp hd n e cs=some y→∃ x,Q x∧V.C (fun _=>True) w x cs) :
  ∀ (n:Nat) (cs:List Value) (y:DataW H × List MemPlace),(∀ m∈y.1.weights P t,m≤reachBytes)→cs.length=P.cellsOf t→DataW.trod enc P w base sp hd n t cs=some y→∃ x:List α,(x.length≤140737488355328∧∀ z∈x,Q z)∧(View.sl V).C (fun _=>True) w x cs:=by
 intro n cs y hz _ h
 obtain ⟨a,m,c,L,e0,hmc,hL,hl,hq⟩:=qs3 ht hc hb hel n cs y hz h
 obtain rfl:m=L.length:=hL.1
 exact ⟨L,⟨hl,hq⟩,a,c,e0,hmc,hL⟩
end
end Go.Sh
