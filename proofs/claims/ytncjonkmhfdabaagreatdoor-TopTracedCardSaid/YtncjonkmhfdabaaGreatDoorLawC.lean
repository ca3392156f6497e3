/- The contracts of the functions that the law reaches, one after the other, and at the end the law's card. -/
import Derived.Test.YtncjonkmhfdabaaGreatDoorLawB
import Derived.Lib.Repeat
import Derived.Lib.AtoiAll
import Derived.Lib.ItoaNum
import Derived.Maps.Own
import Derived.Lib.SliceRun
set_option linter.all false
namespace Go.Proofs
open Go Go.Sh Go.RowKit Go.Proofs.Tryz IntKind
theorem q5y {yf:Fn} {ya yb:Array Value} {T:Nat→Prop} {J:List Pl→(Nat→Prop)→World→Prop} {Jx:(Nat→Prop)→World→Prop} {w0:World} {xs:List Pl} {ty tw:Nat}
  (hTl:∀ k,T k→k < w0.heap.size)
  (hJ:∀ pre S W W',J pre S W→Chg (fun k=>w0.heap.size≤k∧¬ S k) W W'→J pre S W')
  (hbody:∀ pre x vs S W,PlE T w0 x vs→pre++[x] <+: xs→w0.heap.size≤W.heap.size→(∀ k,S k→k < W.heap.size∧¬ T k)→J pre S W→CallV prog (.func yf ya yb) vs W fun e W'=>Chg S W W' ∧
   ∃ S':Nat→Prop,(∀ k,S' k→(S k∨W.heap.size≤k)∧k < W'.heap.size)∧((e=.returned (.bool true)∧J (pre++[x]) S' W')∨(e=.returned (.bool false)∧Jx S' W'))) :
  ∀ (f:Fo) {R:Ending→World→Prop} {S:Nat→Prop} {w:World} {a:Option Addr} {n c:Nat} (d:Nat) (pre:List Pl),small f→d≤17→SlF T w0 a n f→w0.heap.size≤w.heap.size→(∀ k,T k→w.heap[k]? = w0.heap[k]?)→(∀ k,S k→k < w.heap.size∧¬ T k) →
   Blk w ty [.func yf ya yb] 302→Blk w tw [.func (.func 239) ⟨[]⟩ ⟨[.pointer (some ⟨ty,0,none⟩),.pointer (some ⟨tw,0,none⟩)]⟩] 303→¬ S ty→¬ S tw →
   pre++qo f d false <+: xs→J pre S w→(∀ S' W',Chg S w W'→(∀ k,S' k→(S k∨w.heap.size≤k)∧k < W'.heap.size)→J (pre++qo f d false) S' W'→R (.returned (.bool true)) W') →
   (∀ S' W',Chg S w W'→(∀ k,S' k→(S k∨w.heap.size≤k)∧k < W'.heap.size)→Jx S' W'→R (.returned (.bool false)) W') →
   Calls prog qb8 ⟨[.slice a n c,.int .i64 (d:Int),.pointer (some ⟨ty,0,none⟩),.pointer (some ⟨tw,0,none⟩)]⟩ w R:=by
 intro f
 induction hz:f.size using Nat.strongRecOn generalizing f with
 | _ z ih =>
 intro R S w a n c d pre hs hd hf hw0 hT hS hBy hBw nSy nSw hpre hj hend hstop
 unfold small at hs
 apply qee
 have hn:=hf.1
 have hfl:=f.len_le_size
 have lty:=hBy.lt
 have ltw:=hBw.lt
 refine ⟨fun tx i W m=>∃ (p r:Fo) (ps:List Pl) (S1:Nat→Prop),f=p.app r∧i=p.len∧m=r.len∧Chg S w W∧(∀ k,S1 k→(S k∨w.heap.size≤k)∧k < W.heap.size)∧J ps S1 W∧pre++qo f d false=ps++qo r d tx,
  ⟨_,.nil,f,pre,S,rfl,rfl,rfl,Chg.refl _ _,fun k hk=>⟨.inl hk,(hS k hk).1⟩,hj,rfl⟩,?_⟩
 rintro b _ W m ⟨p,r,xs',S1,hpr,rfl,rfl,hcW,hS1,hjW,heq⟩ _
 have hwW:=hcW.size
 refine qc (fun hlt=>?_) (fun hge=>?_)
 ·obtain ⟨k,t,mm,ps,r,rfl⟩:=Fo.next hpr (by omega)
  have hsl:=Fo.sub_len hpr
  have hsz:=Fo.sub_size hpr
  have e1:f=(p.app (.one k t mm ps)).app r:=by rw [Fo.app_one_app];exact hpr
  have i1:i64.wrap ((p.len:Int) + 1)=((p.app (.one k t mm ps)).len:Int):=by rw [qg (by omega)];simp [Fo.one]
  have hTW:∀ k,T k→W.heap[k]? = w0.heap[k]?:=fun k hk=>(hcW.block k (by have:=hTl k hk;omega) (fun h=>(hS k h).2 hk)).trans (hT k hk)
  obtain ⟨q,a',c',hq,hTq,hql,hN⟩:=(hf.keep (S':=T) (w':=W) (fun k hk _=>⟨hk,hTW k hk⟩) (by omega)).get hpr
  have hNT:SlF T w0 a' ps.len ps:=hN.sl.keep' fun k hk _=>⟨hk,hTl k hk,(hTW k hk).symm⟩
  refine hq _ ⟨k,hN.kind,t,hN.text,mm,hN.num,a',ps.len,c',hN.parts,?_⟩
  refine qac (by simp) (by intro u hu;simp only [List.mem_cons,List.not_mem_nil,or_false] at hu;rcases hu with rfl | rfl | rfl | rfl <;> rfl) fun bx w1 hbx hBx e2 s2=>?_
  have z2:=e2.size
  obtain ⟨x0,x1,x2,x3⟩:=blk4 hBx
  have hBy1:=(hcW.blk hBy nSy).ext e2
  have hBw1:=(hcW.blk hBw nSw).ext e2
  have n1y:¬ S1 ty:=fun h=>(hS1 _ h).1.elim nSy (by omega)
  have n1w:¬ S1 tw:=fun h=>(hS1 _ h).1.elim nSw (by omega)
  have n1x:¬ S1 bx:=fun h=>by have:=(hS1 _ h).2;omega
  refine dr_ok ⟨_,_,_,by rw [hBy1.cell];rfl,k,x0,t,x1,mm,x2,a',ps.len,c',x3,?_⟩
  have hj1:J xs' S1 w1:=hJ _ _ _ _ hjW (Chg.of_ext e2)
  rw [qo] at heq
  have hpx:xs'++[⟨k,t,mm,ps,d,b⟩] <+: xs:=by
   refine List.IsPrefix.trans ?_ hpre
   rw [heq]
   exact ⟨_,by rw [List.append_assoc];rfl⟩
  have hS1T:∀ k,S1 k→k < w1.heap.size∧¬ T k:=fun j hj=>⟨by have:=(hS1 j hj).2;omega,fun ht=>(hS1 j hj).1.elim (fun h=>(hS j h).2 ht) (fun h=>by have:=hTl j ht;omega)⟩
  refine qch (hbody xs' ⟨k,t,mm,ps,d,b⟩ _ S1 w1 ⟨a',c',rfl,hNT⟩ hpx (by omega) hS1T hj1) ?_
  rintro e w2 ⟨hc2,S2,hS2,hres⟩
  have z3:=hc2.size
  have hcw2:Chg S w w2:=qb3 (hcW.trans (Chg.of_ext e2)) hc2 fun i hi hh=>(hS1 i hh).1.elim id fun h=>by omega
  have hS2w:∀ k,S2 k→(S k∨w.heap.size≤k)∧k < w2.heap.size:=fun j hj=>⟨(hS2 j hj).1.elim (fun h=>(hS1 j h).1) (fun h=>.inr (by omega)),(hS2 j hj).2⟩
  rcases hres with ⟨rfl,hj2⟩ | ⟨rfl,hjx⟩
  ·refine ⟨true,rfl,?_⟩
   have hBx2:=hc2.blk hBx n1x
   obtain ⟨y0,y1,y2,y3⟩:=blk4 hBx2
   have hBw2:=hc2.blk hBw1 n1w
   have hBy2:=hc2.blk hBy1 n1y
   have n2x:¬ S2 bx:=fun h=>(hS2 _ h).1.elim n1x (by omega)
   refine qc (fun hd16=>?_) (fun hd16=>?_)
   ·have hd16':d≤16:=by omega
    rw [if_pos hd16'] at heq
    refine dr_ok ⟨.func 239,⟨[]⟩,⟨[.pointer (some ⟨ty,0,none⟩),.pointer (some ⟨tw,0,none⟩)]⟩,by rw [hBw2.cell];rfl,a',ps.len,c',y3,by kernel_rfl,?_⟩
    rw [qg (by omega)]
    refine ih _ (hz ▸ hsz) ps rfl (S:=S2) (d + 1) (xs'++[⟨k,t,mm,ps,d,b⟩]) (by unfold small;omega) (by omega) hNT (by omega) (fun j hj=>(hcw2.block j (by have:=hTl j hj;omega) (fun h=>(hS j h).2 hj)).trans (hT j hj))
     (fun j hj=>⟨(hS2 j hj).2,fun ht=>(hS2 j hj).1.elim (fun h=>(hS1T j h).2 ht) (fun h=>by have:=hTl j ht;omega)⟩) hBy2 hBw2 (fun h=>(hS2 _ h).1.elim n1y (by omega)) (fun h=>(hS2 _ h).1.elim n1w (by omega)) ?_ hj2 (fun S3 w3 hc3 hS3 hj3=>?_) (fun S3 w3 hc3 hS3 hjx=>?_)
    ·refine List.IsPrefix.trans ?_ hpre
     rw [heq]
     exact ⟨qo r d (decide (k=1)),by simp⟩
    ·refine ⟨true,rfl,?_⟩
     have hBx3:=hc3.blk hBx2 n2x
     refine ⟨k,(blk4 hBx3).1,r.len,by simp,_,r,_,S3,e1,i1,rfl,qb3 hcw2 hc3 fun i hi hh=>(hS2w i hh).1.elim id fun h=>by omega,fun j hj=>⟨(hS3 j hj).1.elim (fun h=>(hS2w j h).1) (fun h=>.inr (by omega)),(hS3 j hj).2⟩,hj3,?_⟩
     rw [heq];simp
    ·exact ⟨false,rfl,hstop S3 _ (qb3 hcw2 hc3 fun i hi hh=>(hS2w i hh).1.elim id fun h=>by omega) (fun j hj=>⟨(hS3 j hj).1.elim (fun h=>(hS2w j h).1) (fun h=>.inr (by omega)),(hS3 j hj).2⟩) hjx⟩
   ·rw [if_neg (by omega)] at heq
    refine ⟨k,y0,r.len,by simp,_,r,_,S2,e1,i1,rfl,hcw2,hS2w,hj2,?_⟩
    rw [heq];simp
  ·exact ⟨false,rfl,hstop S2 _ hcw2 hS2w hjx⟩
 ·obtain ⟨rfl,rfl⟩:=Fo.last hpr (by omega)
  have e:xs'=pre++qo p d false:=by rw [heq];simp [qo]
  rw [e] at hjW
  exact hend S1 _ hcW hS1 hjW
theorem q5z {T:Nat→Prop} (f:Fo) (hs:small f) {a:Option Addr} {n c:Nat} (b:Nat) (w:World) (hTl:∀ k,T k→k < w.heap.size) (hb:Blk w b [.slice a n c] 224) (hf:SlF T w a n f) (hbT:T b) :
  IterO prog qt [.pointer (some ⟨b,0,none⟩)] (qo f 0 false) (PlE T w) T w:=by
 intro yf ya yb S0 J Jx R hS hJ hJx hbody h0 hend hstop
 apply qfy
 refine qd fun ty w1 hty hBy e1 s1=>?_
 refine qd fun tw w1' htw hBw' e2' s2'=>?_
 refine qam hBw' rfl fun w2 hBw hcc hss=>?_
 have e2:Ext w1 w2:=qi e2' hcc fun k hk=>by omega
 have E:=qa e1 e2
 refine ⟨.func 239,⟨[]⟩,⟨[.pointer (some ⟨ty,0,none⟩),.pointer (some ⟨tw,0,none⟩)]⟩,by rw [hBw.cell];rfl,dr_ok ⟨a,n,c,by rw [((hb.ext e1).ext e2).cell];rfl,by kernel_rfl,?_⟩⟩
 have hz:=E.size
 have hz1:=e1.size
 refine q5y (w0:=w) (xs:=qo f 0 false) hTl hJ hbody f (S:=S0) 0 [] hs (by omega) hf hz (fun k hk=>E.block k (hTl k hk)) (fun k hk=>⟨by have:=(hS k hk).1;omega,(hS k hk).2⟩) (hBy.ext e2) hBw (fun h=>by have:=(hS _ h).1;omega) (fun h=>by have:=(hS _ h).1;omega) (List.prefix_refl _)
  (hJ _ _ _ _ h0 (Chg.of_ext E)) (fun S' W' hc hS' hj=>?_) (fun S' W' hc hS' hjx=>?_)
 ·exact ⟨_,rfl,hend S' _ (Nat.le_trans hz hc.size) hj⟩
 ·exact ⟨_,rfl,hstop S' _ (Nat.le_trans hz hc.size) hjx⟩
theorem blk6 {w:World} {b:Nat} {v0 v1 v2 v3 v4 v5:Value} {T:TypeId} (h:Blk w b [v0,v1,v2,v3,v4,v5] T) :
  w.cell? ((⟨b,0,none⟩:Addr).add 0 |>.add 0)=some v0∧w.cell? ((⟨b,0,none⟩:Addr).add 0 |>.add 1)=some v1:=by
 simp only [qe,h.cell];exact ⟨rfl,rfl⟩
theorem slT_int:SlT prog 40 3 1 8 (.int .i64 0):=⟨by kernel_rfl,by kernel_rfl,rfl,by decide⟩
def hle (a:Int):Fo→Prop
 | .nil=>True
 | .cons k _ n ps r=>((k=8∨k=9)→n≤a)∧hle a ps∧hle a r
theorem most_ge:∀ (l:List Nn) (m:Int),m≤l.foldl (fun m (x:Nn)=>if x.k=8∨x.k=9 then max m x.n else m) m∧∀ x∈l,(x.k=8∨x.k=9)→x.n≤l.foldl (fun m (x:Nn)=>if x.k=8∨x.k=9 then max m x.n else m) m
 | [],m=>⟨Int.le_refl _,fun x hx=>by simp at hx⟩
 | y :: l,m=>by
  simp only [List.foldl_cons,List.mem_cons]
  obtain ⟨h1,h2⟩:=most_ge l (if y.k=8∨y.k=9 then max m y.n else m)
  refine ⟨Int.le_trans ?_ h1,?_⟩
  ·split <;> omega
  ·rintro x (rfl | hx) hk
   ·rw [if_pos hk] at h1 ⊢;omega
   ·exact h2 x hx hk
theorem most_le (b:Int):∀ (l:List Nn) (m:Int),m≤b→(∀ x∈l,(x.k=8∨x.k=9)→x.n≤b)→l.foldl (fun m (x:Nn)=>if x.k=8∨x.k=9 then max m x.n else m) m≤b
 | [],m,h,_=>h
 | y :: l,m,h,hl=>by
  simp only [List.foldl_cons]
  refine most_le b l _ ?_ fun x hx=>hl x (by simp [hx])
  split
  ·rename_i hk;have:=hl y (by simp) hk;omega
  ·exact h
theorem qqt:∀ {w:Bool} {f:Fo},okF w f→∀ x∈qbp f,(x.k=8∨x.k=9)→1≤x.n∧x.n≤8
 | _,.nil,_,x,hx,_=>by simp [qbp] at hx
 | w,.cons k t n ps r,⟨h1,h2,h3⟩,x,hx,hk=>by
  simp only [qbp,List.mem_cons,List.mem_append] at hx
  rcases hx with rfl | hx | hx
  ·simp only at hk ⊢
   unfold qaf at h1
   split at h1
   ·cases h1
   split at h1
   ·cases h1
   rw [if_neg (by omega),if_neg (by omega),if_neg (by omega),if_neg (by omega)] at h1
   try rw [if_pos hk] at h1
   split at h1
   ·cases h1
   ·omega
  ·exact qqt h2 x hx hk
  ·exact qqt h3 x hx hk
theorem FineF.most {f:Fo} (h:FineF f):0≤mostN (qbp f)∧mostN (qbp f)≤8 :=
 ⟨(most_ge (qbp f) 0).1,most_le 8 _ 0 (by decide) fun x hx hk=>(qqt h.ok x hx hk).2⟩
end Go.Proofs
namespace Go.Sh
open Go Go.RowKit
structure Enc (α:Type) where
 enc:α→List Value
 size:Nat
 len:∀ x,(enc x).length=size
 pos:0 < size
 one:∀ x,∀ v∈enc x,v.oneCell'=true
section
variable {α:Type} {E:Enc α}
def Enc.row (E:Enc α) (l:List α):List Value:=l.flatMap E.enc
@[simp] theorem row_nil:E.row []=[]:=rfl
theorem qcl (x:α) (l:List α):E.row (x :: l)=E.enc x++E.row l:=rfl
theorem row_app (l m:List α):E.row (l++m)=E.row l++E.row m:=by simp [Enc.row]
theorem q8z (l:List α) (x:α):E.row (l++[x])=E.row l++E.enc x:=by simp [Enc.row]
theorem qa8:∀ l:List α,(E.row l).length=l.length * E.size
 | []=>by simp
 | x :: l=>by rw [qcl,List.length_append,E.len,qa8 l,List.length_cons,Nat.add_mul,Nat.one_mul];omega
theorem row_one (l:List α):∀ v∈E.row l,v.oneCell'=true:=by
 intro v hv
 obtain ⟨x,_,hx⟩:=List.mem_flatMap.1 hv
 exact E.one x v hx
theorem q3p {x:α}:∀ {l:List α} {i j:Nat},l[i]? = some x→j < E.size→(E.row l)[i * E.size + j]? = (E.enc x)[j]?
 | [],i,j,h,_=>by simp at h
 | y :: l,0,j,h,hj=>by
  simp at h;subst h
  rw [qcl,Nat.zero_mul,Nat.zero_add,List.getElem?_append_left (by rw [E.len];exact hj)]
 | y :: l,i + 1,j,h,hj=>by
  simp at h
  rw [qcl,List.getElem?_append_right (by rw [E.len,Nat.add_mul,Nat.one_mul];omega),E.len,show (i + 1) * E.size + j - E.size=i * E.size + j by rw [Nat.add_mul,Nat.one_mul];omega]
  exact q3p h hj
theorem qzs:∀ (vs:List Value) (a b:List Value) (o:Nat),putAt (a++b) (a.length + o) vs=a++putAt b o vs
 | [],a,b,o=>rfl
 | v :: vs,a,b,o=>by
  rw [putAt,putAt,List.set_append_right _ _ (by omega),show a.length + o - a.length=o by omega,Nat.add_assoc,qzs vs a (b.set o v) (o + 1)]
theorem q2n:∀ (vs a:List Value) (rest:List Value),vs.length=a.length→putAt (a++rest) 0 vs=vs++rest:=by
 intro vs a rest h
 apply List.ext_getElem?
 intro i
 rw [qi6]
 by_cases hi:i < vs.length
 ·rw [if_pos ⟨by omega,by omega,by simp;omega⟩,List.getElem?_append_left (by omega)];simp
 ·rw [if_neg (by omega),List.getElem?_append_right (by omega),List.getElem?_append_right (by omega),h]
theorem q7g {x:α} {rest:List Value}:∀ {l:List α} {i:Nat},i < l.length→putAt (E.row l++rest) (i * E.size) (E.enc x)=E.row (l.set i x)++rest
 | [],i,h=>by simp at h
 | y :: l,0,h=>by
  rw [Nat.zero_mul,qcl,List.set_cons_zero,qcl,List.append_assoc,q2n _ _ _ (by rw [E.len,E.len]),List.append_assoc]
 | y :: l,i + 1,h=>by
  rw [qcl,List.set_cons_succ,qcl,List.append_assoc,List.append_assoc,show (i + 1) * E.size=(E.enc y).length + i * E.size by rw [E.len,Nat.add_mul,Nat.one_mul];omega,qzs,q7g (by simpa using h)]
def RowAt (E:Enc α) (S:Nat→Prop) (w:World) (a:Option Addr) (n:Nat) (l:List α):Prop:=n=l.length∧At S w a (E.row l)
section
variable {S S':Nat→Prop} {w w':World} {a:Option Addr} {n:Nat} {l:List α}
theorem RowAt.keep (h:RowAt E S w a n l) (hs:∀ k,S k→k < w.heap.size→S' k∧w'.heap[k]? = w.heap[k]?) (hz:w.heap.size≤w'.heap.size):RowAt E S' w' a n l:=⟨h.1,h.2.keep hs hz⟩
theorem RowAt.ext (h:RowAt E S w a n l) (he:Ext w w'):RowAt E S w' a n l:=h.keep (fun k hk hl=>⟨hk,he.block k hl⟩) he.size
theorem RowAt.chg {T:Nat→Prop} (h:RowAt E S w a n l) (he:Chg T w w') (hd:∀ k,S k→¬ T k):RowAt E S w' a n l:=h.keep (fun k hk hl=>⟨hk,he.block k hl (hd k hk)⟩) he.size
theorem RowAt.imp (h:RowAt E S w a n l) (hs:∀ k,S k→k < w.heap.size→S' k):RowAt E S' w a n l:=h.keep (fun k hk hl=>⟨hs k hk hl,rfl⟩) (Nat.le_refl _)
theorem RowAt.nil (a:Option Addr):RowAt E S w a 0 []:=⟨rfl,.inl rfl⟩
theorem RowAt.get (h:RowAt E S w a n l) {i:Nat} {x:α} (hi:l[i]? = some x) :
  ∃ b o,(∀ K:Addr→Prop,K ⟨b,o,none⟩→idx a n (i:Int) E.size K)∧S b∧b < w.heap.size∧∀ j v,(E.enc x)[j]? = some v→w.cell? ⟨b,o + j,none⟩=some v:=by
 have hlt:=(List.getElem?_eq_some_iff.1 hi).1
 have hn:=h.1
 rcases h.2 with h2 | ⟨b,o,rfl,hb,hbl,hc⟩
 ·have:=congrArg List.length h2
  rw [qa8] at this
  simp only [List.length_nil] at this
  rcases Nat.mul_eq_zero.1 this with h | h
  ·omega
  ·have:=E.pos;omega
 refine ⟨b,o + i * E.size,fun K hK=>⟨by omega,by omega,?_⟩,hb,hbl,fun j v hj=>?_⟩
 ·show K _
  rw [qe,Int.toNat_natCast];exact hK
 ·rw [Nat.add_assoc]
  refine hc _ _ ?_
  rw [q3p hi (by have:=(List.getElem?_eq_some_iff.1 hj).1;rw [E.len] at this;exact this)];exact hj
end
abbrev OwnL (E:Enc α) (w:World) (B:Nat) (e:TypeId) (a:Option Addr) (n c:Nat) (l:List α):Prop:=Owns w B e E.size a n c (E.row l)
section
variable {w w':World} {B:Nat} {e:TypeId} {a:Option Addr} {n c:Nat} {l:List α}
theorem OwnL.length (h:OwnL E w B e a n c l):l.length=n:=by
 have:=h.len
 rw [qa8] at this
 exact Nat.eq_of_mul_eq_mul_right E.pos this
theorem OwnL.out (h:OwnL E w B e a n c l):RowAt E (bk a) w a n l:=by
 refine ⟨h.length.symm,?_⟩
 by_cases hn:0 < n
 ·obtain ⟨g,rfl,hg,hc⟩:=h.cell hn
  exact .inr ⟨g,0,rfl,by simp [bk],(h.bk (by simp [bk])).2,fun j v hj=>by rw [Nat.zero_add];exact hc j v hj⟩
 ·have hx:l=[]:=List.eq_nil_of_length_eq_zero (by rw [h.length];omega)
  subst hx
  exact .inl rfl
theorem OwnL.push {P:Program} {t ty:TypeId} {bytes:Nat} {z:Value} (hT:SlT P t e E.size bytes z) (h:OwnL E w B e a n c l) (hB:B≤w.heap.size) (x:α) (hlen:n + 1≤4611686018427387904) (hbytes:(n + 1) * bytes≤140737488355328) {K:Option Addr→Nat→Nat→World→Prop}
  (hk:∀ a' c'' w',OwnL E w' B e a' (n + 1) c'' (l++[x])→Chg (bk a) w w'→(∀ k,bk a' k→bk a k∨w.heap.size≤k)→K a' (n + 1) c'' w') :
  al w e (E.enc x) fun p w1=>app P [t,t] ty (.slice a n c) (.slice (some p) 1 1) w1 K :=
 qy4 hT h hB _ (E.len x) (E.one x) hlen hbytes fun a' c'' w' ho hc hn=>hk a' c'' w' (by unfold OwnL;rw [q8z];exact ho) hc hn
theorem OwnL.pushAll {P:Program} {t ty:TypeId} {bytes:Nat} {z:Value} (hT:SlT P t e E.size bytes z) (h:OwnL E w B e a n c l) (hB:B≤w.heap.size) {S:Nat→Prop} {a1:Option Addr} {m c1:Nat} {l':List α} (hg:RowAt E S w a1 m l') (hlen:n + m≤4611686018427387904) (hbytes:(n + m) * bytes≤140737488355328) {K:Option Addr→Nat→Nat→World→Prop}
  (hk:∀ a' c'' w',OwnL E w' B e a' (n + m) c'' (l++l')→Chg (bk a) w w'→(∀ k,bk a' k→bk a k∨w.heap.size≤k)→K a' (n + m) c'' w') :
  app P [t,t] ty (.slice a n c) (.slice a1 m c1) w K :=
 qod hT h hB (E.row l') (by rw [qa8,← hg.1]) hg.2 (row_one l') hlen hbytes fun a' c'' w' ho hc hn=>hk a' c'' w' (by unfold OwnL;rw [row_app];exact ho) hc hn
theorem OwnL.store (h:OwnL E w B e a n c l) {i:Nat} (hi:i < n) (x:α) :
  ∃ g,a=some ⟨g,0,none⟩∧(∀ K:Addr→Prop,K ⟨g,i * E.size,none⟩→idx a n (i:Int) E.size K) ∧
   ∀ K:World→Prop,(∀ w',OwnL E w' B e a n c (l.set i x)→Chg (bk a) w w'→w'.heap.size=w.heap.size→K w')→stL w ⟨g,i * E.size,none⟩ 0 (E.enc x) K:=by
 have hl:=h.length
 rcases h.2 with h1 | ⟨g,cap,cur,e1,e2,e3,e4,e5,e6,e7⟩
 ·omega
 obtain ⟨rfl,_,rfl⟩:a=some ⟨g,0,none⟩∧True∧c=cap:=by simpa using e1
 have hB:Blk w g cur.toList e:=e3
 have hcl:cur.toList.length=c * E.size:=by simpa using e6
 have hcur:cur.toList=E.row l++cur.toList.drop (n * E.size):=by rw [← e7,List.take_append_drop]
 have hin:i * E.size + E.size≤n * E.size:=by
  have:(i + 1) * E.size≤n * E.size:=Nat.mul_le_mul_right _ hi
  rwa [Nat.add_mul,Nat.one_mul] at this
 have hnc:n * E.size≤c * E.size:=Nat.mul_le_mul_right _ e4
 refine ⟨g,rfl,fun K hK=>⟨by omega,by omega,?_⟩,fun K hK=>?_⟩
 ·show K _
  rw [qe,Int.toNat_natCast,Nat.zero_add];exact hK
 refine qa7 hB (by rw [E.len];omega) (E.one x) fun w' b1 b2 b3 b4 b5 b6=>?_
 have hc:Chg (bk (some (⟨g,0,none⟩:Addr))) w w':=⟨b4,b5,b6,by omega,fun k' _ hk=>b2 k' fun e=>hk (by simp [bk,e])⟩
 rw [Nat.add_zero,hcur,q7g (by omega)] at b1
 refine hK w' ⟨by rw [qa8,List.length_set,hl],.inr ⟨g,c,⟨_⟩,rfl,e2,b1,e4,e5,?_,?_⟩⟩ hc b3
 ·show (E.row (l.set i x)++cur.toList.drop (n * E.size)).length=c * E.size
  rw [List.length_append,List.length_drop,hcl,qa8,List.length_set,hl];omega
 ·show List.take (n * E.size) (E.row (l.set i x)++_)=_
  rw [List.take_append_of_le_length (by rw [qa8,List.length_set,hl];exact Nat.le_refl _),List.take_of_length_le (by rw [qa8,List.length_set,hl];exact Nat.le_refl _)]
end
theorem qs6 {w:World} {elem:TypeId} {bytes:Nat} {zero:List Value} {l c:Nat} {K:Addr→World→Prop} (hlc:l≤c) (hb:bytes * c≤140737488355328)
  (h:∀ b w',b=w.heap.size→Blk w' b (List.replicate c zero).flatten elem→Ext w w'→w'.heap.size=b + 1→K ⟨b,0,none⟩ w'):mks w elem bytes zero (l:Int) (c:Int) K:=by
 refine ⟨by omega,by omega,by rw [← Int.natCast_mul];exact Int.ofNat_le.2 hb,?_⟩
 refine h _ _ rfl ?_ ((Below.refl _ w).alloc (Nat.le_refl _) _) (by simp)
 rw [Int.toNat_natCast]
 exact Blk.new w _ _
theorem q3o (x:α) (n:Nat):E.row (List.replicate n x)=(List.replicate n (E.enc x)).flatten:=by
 induction n with
 | zero=>rfl
 | succ n ih=>rw [List.replicate_succ,qcl,ih,List.replicate_succ,List.flatten_cons]
theorem OwnL.made {w:World} {b B:Nat} {e:TypeId} {x:α} {n:Nat} (h:Blk w b (List.replicate n (E.enc x)).flatten e) (hB:B≤b) (hn:n≤maxLen):OwnL E w B e (some ⟨b,0,none⟩) n n (List.replicate n x):=by
 rw [← q3o] at h
 refine ⟨by rw [qa8,List.length_replicate],.inr ⟨b,n,_,rfl,hB,h,Nat.le_refl _,hn,?_,?_⟩⟩
 ·show (E.row (List.replicate n x)).length=n * E.size
  rw [qa8,List.length_replicate]
 ·show List.take _ (E.row _)=_
  rw [List.take_of_length_le (by rw [qa8,List.length_replicate];exact Nat.le_refl _)]
end
def encI:Enc Int:=⟨fun i=>[.int .i64 i],1,fun _=>rfl,by decide,by intro x v hv;simp only [List.mem_singleton] at hv;subst hv;rfl⟩
def encStr:Enc (List UInt8):=⟨fun s=>[.string ⟨⟨s⟩⟩],1,fun _=>rfl,by decide,by intro x v hv;simp only [List.mem_singleton] at hv;subst hv;rfl⟩
end Go.Sh
namespace Go.Proofs
open Go Go.Sh Go.RowKit
abbrev Ps:=List UInt8 × Int
def posN (at_:Ps) (x:Nn):Ps × Nat :=
 if x.k=1 then (at_,x.t.length) else if x.k=6 then (at_,x.n.toNat) else if x.k=3 then ((x.t,0),0) else if x.k=2 then ((at_.1,at_.2 + 1),0) else (at_,0)
def endL:Ps→List Nn→Ps
 | p,[]=>p
 | p,x :: l=>endL (posN p x).1 l
theorem q4e:∀ (l:List Nn) (p:Ps) (m:List Nn),endL p (l++m)=endL (endL p l) m
 | [],_,_=>rfl
 | x :: l,p,m=>by simp only [List.cons_append,endL,q4e l]
theorem endL_bd:∀ (l:List Nn) (p:Ps) (B:Int),0≤p.2→p.2≤B→0≤B→0≤(endL p l).2∧(endL p l).2≤B + l.length
 | [],p,B,h0,h1,h2=>⟨h0,by simp [endL];omega⟩
 | x :: l,p,B,h0,h1,h2=>by
  rw [endL]
  have key:0≤(posN p x).1.2∧(posN p x).1.2≤B + 1:=by
   unfold posN
   split
   ·exact ⟨h0,by show p.2≤_;omega⟩
   ·split
    ·exact ⟨h0,by show p.2≤_;omega⟩
    ·split
     ·exact ⟨Int.le_refl _,by show (0:Int)≤_;omega⟩
     ·split
      ·exact ⟨by show 0≤p.2 + 1;omega,by show p.2 + 1≤_;omega⟩
      ·exact ⟨h0,by show p.2≤_;omega⟩
  have:=endL_bd l (posN p x).1 (B + 1) key.1 key.2 (by omega)
  exact ⟨this.1,by simp only [List.length_cons];omega⟩
structure PTo (b6 b10:Nat) (oa:Option Addr) (W:World) (oa':Option Addr) (W':World):Prop where
 chg:Chg (fun j=>j=b6∨j=b10∨bk oa j) W W'
 bk:∀ k,Sh.bk oa' k→Sh.bk oa k∨W.heap.size≤k
section
variable {b6 b10 B:Nat} {W W' W'':World} {oa oa' oa'':Option Addr} {L:List Ps} {p:Ps}
theorem PTo.refl (W:World) (oa:Option Addr):PTo b6 b10 oa W oa W:=⟨Chg.refl _ _,fun _ h=>.inl h⟩
theorem PTo.trans (h6:b6 < W.heap.size) (h10:b10 < W.heap.size) (h:PTo b6 b10 oa W oa' W') (k:PTo b6 b10 oa' W' oa'' W''):PTo b6 b10 oa W oa'' W'' :=
 ⟨qb3 h.chg k.chg fun i hi hh=>hh.elim .inl fun hh=>hh.elim (fun e=>.inr (.inl e)) fun hh=>(h.bk i hh).elim (fun e=>.inr (.inr e)) (fun e=>by omega),
 fun j hj=>(k.bk j hj).elim (h.bk j) (fun e=>.inr (Nat.le_trans h.chg.size e))⟩
theorem PTo.ext (h:Ext W W'):PTo b6 b10 oa W oa W':=⟨Chg.of_ext h,fun _ h=>.inl h⟩
end
theorem blk2 {w:World} {b:Nat} {v0 v1:Value} {T:TypeId} (h:Blk w b [v0,v1] T):w.cell? ((⟨b,0,none⟩:Addr).add 0)=some v0∧w.cell? ((⟨b,0,none⟩:Addr).add 1)=some v1:=by
 simp only [qe,h.cell];exact ⟨rfl,rfl⟩
theorem q9x:∀ i:Nat,i < 64→Lib.atoiAll (Lib.decDigits (i + 1))=.ok ((i + 1:Nat):Int):=by decide +kernel
inductive Am where
 | ch (c:UInt8) (p:Ps) (u:Bool) (nm:List UInt8)
 | gap (n:Int) (p:Ps) (u:Bool) (nm:List UInt8)
 | brk (v:Bool)
structure Nc where
 x:Nn
 u:Bool
 nm:List UInt8
def qi8:Fo→Bool→List UInt8→List Nc
 | .nil,_,_=>[]
 | .cons k t n ps r,u,nm=>⟨⟨k,t,n,ps⟩,u,nm⟩ :: (qi8 ps (u||decide (k=7)) (if k=11 then t else nm)++qi8 r u nm)
def amT (t:List UInt8) (p:Ps) (u:Bool) (nm:List UInt8):List Am:=t.map fun c=>.ch c p u nm
def amN (p:Ps) (x:Nc):List Am :=
 if x.x.k=1 then amT x.x.t p x.u x.nm else if x.x.k=6 then [.gap x.x.n p x.u x.nm] else if x.x.k=4∨x.x.k=5 then [.brk (decide (x.x.k=5))] else []
def amsL:Ps→List Nc→List Am
 | _,[]=>[]
 | p,x :: l=>amN p x++amsL (posN p x.x).1 l
def amsF (p:Ps) (f:Fo) (u:Bool) (nm:List UInt8):List Am:=amsL p (qi8 f u nm)
theorem qv1:∀ (f:Fo) (u:Bool) (nm:List UInt8),(qi8 f u nm).map (·.x)=qbp f
 | .nil,_,_=>rfl
 | .cons k t n ps r,u,nm=>by simp only [qi8,qbp,List.map_cons,List.map_append,qv1 ps,qv1 r]
theorem q9y:∀ (l:List Nc) (p:Ps) (m:List Nc),amsL p (l++m)=amsL p l++amsL (endL p (l.map (·.x))) m
 | [],_,_=>rfl
 | x :: l,p,m=>by simp only [List.cons_append,amsL,List.map_cons,endL,q9y l,List.append_assoc]
theorem q0w (p:Ps) (k t n ps r) (u:Bool) (nm:List UInt8):amsF p (.cons k t n ps r) u nm =
  amN p ⟨⟨k,t,n,ps⟩,u,nm⟩++(amsF (posN p ⟨k,t,n,ps⟩).1 ps (u||decide (k=7)) (if k=11 then t else nm)++amsF (endL (posN p ⟨k,t,n,ps⟩).1 (qbp ps)) r u nm):=by
 unfold amsF
 rw [qi8,amsL,q9y,qv1]
structure Tok where
 t:List UInt8
 m:List UInt8
 p:Ps
 g:Int
 a:List UInt8
def encTk:Enc Tok:=⟨fun x=>[.string ⟨⟨x.t⟩⟩,.string ⟨⟨x.m⟩⟩,.string ⟨⟨x.p.1⟩⟩,.int .i64 x.p.2,.int .i64 x.g,.string ⟨⟨x.a⟩⟩],6,fun _=>rfl,by decide,by intro x v hv;simp only [List.mem_cons,List.not_mem_nil,or_false] at hv;rcases hv with rfl | rfl | rfl | rfl | rfl | rfl <;> rfl⟩
def innC (c:UInt8):Bool:=letB c||(decide (kd c=2)||decide (kd c=4))
def inA:Am→Bool
 | .ch c _ _ _=>innC c
 | _=>false
def chA:Am→List UInt8
 | .ch c _ _ _=>[c]
 | _=>[]
def unA:Am→Bool
 | .ch _ _ u _=>u
 | .gap _ _ u _=>u
 | .brk _=>false
def flI (u j v:Bool) (base:Int):Int:=base + (if u then 1 else 0) + (if v then 4 else 0) + (if j then 16 else 0)
def gapT (n:Int):List UInt8:=91 :: (Lib.decDigits n.toNat++[93])
theorem qm1 {α:Type} (p:α→Bool):∀ l:List α,(l.dropWhile p).length≤l.length
 | []=>by simp
 | x :: l=>by
  have:=qm1 p l
  rw [List.dropWhile_cons]
  split
  ·simp only [List.length_cons];omega
  ·exact Nat.le_refl _
def divF (j v:Bool):List Am→List Tok
 | []=>[]
 | .brk b :: r=>divF false (v||b) r
 | .gap n p u nm :: r=>⟨gapT n,[],p,flI u j v 2,nm⟩ :: divF true false r
 | .ch c p u nm :: r =>
  if kd c=6 then divF false v r
  else if letB c=true then ⟨c :: (r.takeWhile inA).flatMap chA,[],p,flI (u||(r.takeWhile inA).any unA) j v 0,nm⟩ :: divF true false (r.dropWhile inA)
  else ⟨[c],[],p,flI u j v 8,nm⟩ :: divF true false r
 termination_by l=>l.length
 decreasing_by
  all_goals simp only [List.length_cons]
  all_goals first | omega | (have:=qm1 inA r;omega)
structure Bs where
 out:List Tok
 cur:Option (Tok × List UInt8)
 j:Bool
 v:Bool
def shut (b:Bs):List Tok:=match b.cur with
 | none=>b.out
 | some (t,w)=>b.out++[{ t with t:=w }]
def orU (g:Int) (u:Bool):Int:=if u=true∧g % 2=0 then g + 1 else g
def addB (b:Bs):Am→Bs
 | .ch c p u nm=>match b.cur,innC c with
  | some (t,w),true=>⟨b.out,some ({ t with g:=orU t.g u },w++[c]),b.j,b.v⟩
  | _,_ =>
   if letB c=true then ⟨shut b,some (⟨[],[],p,flI u b.j b.v 0,nm⟩,[c]),true,false⟩
   else if kd c=6 then ⟨shut b,none,false,b.v⟩
   else ⟨shut b++[⟨[c],[],p,flI u b.j b.v 8,nm⟩],none,true,false⟩
 | .gap n p u nm=>⟨shut b++[⟨gapT n,[],p,flI u b.j b.v 2,nm⟩],none,true,false⟩
 | .brk x=>⟨shut b,none,false,b.v||x⟩
def bs0:Bs:=⟨[],none,false,false⟩
theorem orU_orU (g:Int) (u v:Bool):orU (orU g u) v=orU g (u||v):=by
 unfold orU
 cases u <;> cases v
 ·simp
 ·simp
 ·simp
 ·by_cases h:g % 2=0
  ·simp only [h,and_self,if_true,Bool.or_self]
   rw [if_neg (by omega)]
  ·simp [h]
theorem orU_fl (u u' j v:Bool) (base:Int) (hb:base % 2=0):orU (flI u j v base) u'=flI (u||u') j v base:=by
 unfold orU flI
 cases u <;> cases u' <;> cases j <;> cases v <;> simp <;> omega
theorem space_let {c:UInt8} (h:kd c=6):letB c=false:=by unfold letB;rw [h];rfl
theorem q34 {c:UInt8} (h:letB c=true):innC c=true:=by unfold innC;rw [h];rfl
theorem qkm:∀ (l:List Am) (b:Bs),shut (l.foldl addB b)=match b.cur with
  | none=>b.out++divF b.j b.v l
  | some (t,w)=>b.out++{ t with g:=orU t.g ((l.takeWhile inA).any unA),t:=w++(l.takeWhile inA).flatMap chA } :: divF b.j b.v (l.dropWhile inA)
 | [],⟨out,none,j,v⟩=>by simp [shut,divF]
 | [],⟨out,some (t,w),j,v⟩=>by simp [shut,divF,orU]
 | .brk x :: r,⟨out,none,j,v⟩=>by
  rw [List.foldl_cons,qkm r]
  show out++divF false (v||x) r=_
  rw [divF]
 | .brk x :: r,⟨out,some (t,w),j,v⟩=>by
  rw [List.foldl_cons,qkm r]
  have e:inA (.brk x)=false:=rfl
  simp only [List.takeWhile_cons,List.dropWhile_cons,e,Bool.false_eq_true,if_false]
  rw [divF]
  simp [addB,shut,orU]
 | .gap n p u nm :: r,⟨out,none,j,v⟩=>by
  rw [List.foldl_cons,qkm r,divF]
  simp [addB,shut]
 | .gap n p u nm :: r,⟨out,some (t,w),j,v⟩=>by
  rw [List.foldl_cons,qkm r]
  have e:inA (.gap n p u nm)=false:=rfl
  simp only [List.takeWhile_cons,List.dropWhile_cons,e,Bool.false_eq_true,if_false]
  rw [divF]
  simp [addB,shut,orU]
 | .ch c p u nm :: r,⟨out,none,j,v⟩=>by
  rw [List.foldl_cons,qkm r,divF]
  by_cases hl:letB c=true
  ·have h6:¬ kd c=6:=fun h=>by rw [space_let h] at hl;cases hl
   simp only [addB,hl,h6,if_true,if_false,shut]
   rw [orU_fl _ _ _ _ _ rfl]
   rfl
  ·by_cases h6:kd c=6
   ·simp [addB,hl,h6,shut]
   ·simp [addB,hl,h6,shut]
 | .ch c p u nm :: r,⟨out,some (t,w),j,v⟩=>by
  rw [List.foldl_cons,qkm r]
  by_cases hi:innC c=true
  ·have e:inA (.ch c p u nm)=true:=hi
   simp only [List.takeWhile_cons,List.dropWhile_cons,e,if_true]
   have h1:orU (orU t.g u) ((r.takeWhile inA).any unA)=orU t.g (u||(r.takeWhile inA).any unA):=orU_orU _ _ _
   simp [addB,hi,chA,unA,h1]
  ·have e:inA (.ch c p u nm)=false:=by show innC c=false;simpa using hi
   have hl:¬ letB c=true:=fun h=>hi (q34 h)
   simp only [List.takeWhile_cons,List.dropWhile_cons,e,Bool.false_eq_true,if_false]
   rw [divF]
   by_cases h6:kd c=6
   ·simp [addB,hi,hl,h6,shut,orU]
   ·simp [addB,hi,hl,h6,shut,orU]
theorem fold_tok (l:List Am):shut (l.foldl addB bs0)=divF false false l:=by rw [qkm];rfl
def mkS (b:Bool):List UInt8→Bool
 | []=>true
 | c :: r=>!decide (kd c=0)&&(if kd c=2 then b&&mkS true r else mkS (decide (kd c=1)) r)
theorem mkS_at:∀ (t a:List UInt8) (b:Bool),(b=true↔∃ i,a.length=i + 1∧(kA a i=1∨rtB a i=true))→(mkS b t=true↔∀ j,a.length≤j→j < (a++t).length→okAt (a++t) j=true)
 | [],a,b,_=>by simp [mkS];intro j h1 h2;omega
 | c :: r,a,b,hb=>by
  have e:a++c :: r=(a++[c])++r:=by simp
  have hk:kA (a++c :: r) a.length=kd c:=by simp [kA]
  have hr:∀ s,rtB (a++c :: s) a.length=(decide (kd c=2)&&b):=by
   intro s
   have hk':kA (a++c :: s) a.length=kd c:=by simp [kA]
   cases hz:a.length with
   | zero =>
    have:b=false:=by
     cases hbb:b with
     | false=>rfl
     | true=>obtain ⟨i,h,_⟩:=hb.1 hbb;omega
    rw [this];simp [rtB]
   | succ i =>
    rw [hz] at hk'
    rw [rtB,hk',q36 (by omega),q3n (by omega)]
    have hbb:b=(kA a i == 1||rtB a i):=by
     rw [Bool.eq_iff_iff,hb]
     constructor
     ·rintro ⟨i',h1,h2⟩
      have:i'=i:=by omega
      subst this;simpa using h2
     ·intro h;exact ⟨i,hz,by simpa using h⟩
    rw [← hbb]
    by_cases h2:kd c=2 <;> simp [h2]
  have hok:okAt (a++c :: r) a.length=true↔kd c≠0∧(kd c=2→b=true):=by
   unfold okAt;rw [hk,hr]
   by_cases h0:kd c=0 <;> by_cases h2:kd c=2 <;> simp [h0,h2]
  have ih:=mkS_at r (a++[c]) (decide (kd c=1)||(decide (kd c=2)&&b)) (by
   have hk1:kA (a++[c]) a.length=kd c:=by simp [kA]
   constructor
   ·intro h
    refine ⟨a.length,by simp,?_⟩
    rw [hk1,hr []]
    simpa using h
   ·rintro ⟨i,h1,h2⟩
    have:i=a.length:=by simpa using h1.symm
    subst this
    rw [hk1,hr []] at h2
    simpa using h2)
  rw [← e] at ih
  have hsplit:(∀ j,a.length≤j→j < (a++c :: r).length→okAt (a++c :: r) j=true)↔okAt (a++c :: r) a.length=true∧∀ j,(a++[c]).length≤j→j < (a++c :: r).length→okAt (a++c :: r) j=true:=by
   constructor
   ·intro h;exact ⟨h _ (Nat.le_refl _) (by simp),fun j h1 h2=>h j (by simp at h1;omega) h2⟩
   ·rintro ⟨h1,h2⟩ j h3 h4
    by_cases hj:j=a.length
    ·rw [hj];exact h1
    ·exact h2 j (by simp;omega) h4
  rw [hsplit,hok,← ih,mkS]
  by_cases h0:kd c=0
  ·simp [h0]
  ·by_cases h2:kd c=2
   ·cases b <;> simp [h2]
   ·simp [h0,h2]
theorem mkS_ok (s:List UInt8):mkS false s=qbd s:=by
 rw [Bool.eq_iff_iff,mkS_at s [] false (by simp)]
 simp [qbd]
theorem checkC_mk {s:List UInt8}:qar s=0↔s.length≤65536∧mkS false s=true:=by
 rw [qm3,mkS_ok]
 by_cases h:65536 < s.length
 ·rw [if_pos h]
  constructor
  ·intro hh;cases hh
  ·intro hh;have:=hh.1;omega
 ·by_cases h2:qbd s=true
  ·simp [h,h2];omega
  ·simp [h,h2]
def plOk (p:Ps):Prop:=0≤p.2∧(p.1=[]∨qad p.1=true)
def okA (b:Bool):List Am→Prop
 | []=>True
 | .ch c p _ nm :: r=>kd c≠0∧(kd c=2→b=true)∧plOk p∧(nm=[]∨qad nm=true)∧okA (decide (kd c=1)||decide (kd c=2)) r
 | .gap n p _ nm :: r=>(1≤n∧n≤64)∧plOk p∧(nm=[]∨qad nm=true)∧okA false r
 | .brk _ :: r=>okA false r
theorem okA_mono:∀ {l:List Am} {b:Bool},okA false l→okA b l
 | [],_,_=>trivial
 | .ch c p _ nm :: r,b,⟨h1,h2,h3⟩=>⟨h1,fun h=>absurd (h2 h) (by decide),h3⟩
 | .gap n p _ nm :: r,_,h=>h
 | .brk _ :: r,_,h=>h
theorem qzv:∀ {l m:List Am} {b:Bool},okA b l→okA false m→okA b (l++m)
 | [],_,_,_,h=>okA_mono h
 | .ch c p _ nm :: r,m,b,⟨h1,h2,h3,h4,h5⟩,h=>⟨h1,h2,h3,h4,qzv h5 h⟩
 | .gap n p _ nm :: r,m,_,⟨h1,h2,h3,h4⟩,h=>⟨h1,h2,h3,qzv h4 h⟩
 | .brk _ :: r,m,_,h1,h=>qzv (l:=r) h1 h
theorem q3z {p:Ps} {u:Bool} {nm:List UInt8} (hp:plOk p) (hn:nm=[]∨qad nm=true):∀ {t:List UInt8} {b:Bool},mkS b t=true→okA b (amT t p u nm)
 | [],_,_=>trivial
 | c :: r,b,h=>by
  unfold mkS at h
  rw [Bool.and_eq_true] at h
  have h0:kd c≠0:=by simpa using h.1
  refine ⟨h0,fun h2=>?_,hp,hn,?_⟩
  ·have:=h.2;rw [if_pos h2,Bool.and_eq_true] at this;exact this.1
  ·have:=h.2
   by_cases h2:kd c=2
   ·rw [if_pos h2,Bool.and_eq_true] at this
    simp only [h2];exact q3z hp hn this.2
   ·rw [if_neg h2] at this
    simp only [h2,decide_false,Bool.or_false];exact q3z hp hn this
theorem qma {k:Int} {t:List UInt8} {n:Int} {ps:Fo} {w:Bool} (h:qaf k t n ps false w=0) :
  1≤k∧k≤11∧(k=1→t≠[]∧qar t=0)∧(k=3∨k=4∨k=11→qad t=true)∧(k=6→1≤n∧n≤64)∧(k < 7→ps=.nil)∧(7≤k→ps≠.nil):=by
 unfold qaf at h
 split at h
 ·cases h
 rename_i h1
 split at h
 ·cases h
 rename_i h2
 simp only [not_or,not_and] at h1 h2
 obtain ⟨a1,a2,a3,a4,a5⟩:=h1
 refine ⟨by omega,by omega,fun hk=>?_,fun hk=>?_,fun hk=>?_,fun hk=>?_,fun hk=>?_⟩
 ·rw [if_pos hk] at h
  refine ⟨h2.1 hk,?_⟩
  by_cases hc:qar t=0
  ·exact hc
  ·rw [if_pos hc] at h;cases h
 ·rw [if_neg (by omega),if_pos hk] at h
  cases hi:qad t with
  | true=>rfl
  | false=>rw [if_pos hi] at h;cases h
 ·rw [if_neg (by omega),if_neg (by omega),if_neg (by omega),if_pos hk] at h
  by_cases hn:n < 1∨64 < n
  ·rw [if_pos hn] at h;cases h
  ·omega
 ·have hp:qao k=false:=by unfold qao;exact decide_eq_false (by omega)
  exact Fo.eq_nil_of_len (by
   rcases Nat.eq_zero_or_pos ps.len with h0 | h0
   ·exact h0
   ·exact absurd hp (a5 h0))
 ·have hp:qao k=true:=by unfold qao;exact decide_eq_true (by omega)
  intro hh
  subst hh
  exact h2.2 hp rfl
theorem posN_ok {k t n ps} {w:Bool} {p:Ps} (h:qaf k t n ps false w=0) (hp:plOk p):plOk (posN p ⟨k,t,n,ps⟩).1:=by
 have hf:=qma h
 unfold posN
 split
 ·exact hp
 ·split
  ·exact hp
  ·split
   ·rename_i h3;exact ⟨Int.le_refl _,.inr (hf.2.2.2.1 (.inl h3))⟩
   ·split
    ·exact ⟨by have:=hp.1;show (0:Int)≤p.2 + 1;omega,hp.2⟩
    ·exact hp
theorem q7x:∀ {f:Fo} {w:Bool} {p:Ps},okF w f→plOk p→plOk (endL p (qbp f))
 | .nil,_,_,_,hp=>hp
 | .cons k t n ps r,w,p,⟨h1,h2,h3⟩,hp=>by
  rw [qbp,endL,q4e]
  exact q7x h3 (q7x h2 (posN_ok h1 hp))
theorem qzw:∀ {f:Fo} {w:Bool} {p:Ps} {u:Bool} {nm:List UInt8},okF w f→plOk p→(nm=[]∨qad nm=true)→okA false (amsF p f u nm)
 | .nil,_,_,_,_,_,_,_=>trivial
 | .cons k t n ps r,w,p,u,nm,⟨h1,h2,h3⟩,hp,hn=>by
  obtain ⟨f1,f2,f3,f4,f5,f6,f7⟩:=qma h1
  rw [q0w]
  have hp1:=posN_ok h1 hp
  refine qzv ?_ (qzv (qzw h2 hp1 ?_) (qzw h3 (q7x h2 hp1) hn))
  ·unfold amN
   simp only
   split
   ·rename_i hk;exact q3z hp hn (checkC_mk.1 (f3 hk).2).2
   ·split
    ·rename_i hk;exact ⟨f5 hk,hp,hn,trivial⟩
    ·split
     ·exact trivial
     ·exact trivial
  ·split
   ·rename_i hk;exact .inr (f4 (.inr (.inr hk)))
   ·exact hn
theorem okA_run:∀ {l:List Am} {b:Bool},okA b l→mkS b ((l.takeWhile inA).flatMap chA)=true∧okA false (l.dropWhile inA)∧∀ c∈(l.takeWhile inA).flatMap chA,innC c=true
 | [],_,_=>⟨rfl,trivial,fun c h=>by cases h⟩
 | .gap n p u nm :: r,b,h=>by
  have e:inA (.gap n p u nm)=false:=rfl
  simp only [List.takeWhile_cons,List.dropWhile_cons,e,Bool.false_eq_true,if_false]
  exact ⟨rfl,h,fun c h=>by cases h⟩
 | .brk v :: r,b,h=>by
  have e:inA (.brk v)=false:=rfl
  simp only [List.takeWhile_cons,List.dropWhile_cons,e,Bool.false_eq_true,if_false]
  exact ⟨rfl,h,fun c h=>by cases h⟩
 | .ch c p u nm :: r,b,h=>by
  by_cases hi:innC c=true
  ·have e:inA (.ch c p u nm)=true:=hi
   simp only [List.takeWhile_cons,List.dropWhile_cons,e,if_true,List.flatMap_cons]
   obtain ⟨h1,h2,h3,h4,h5⟩:=h
   obtain ⟨i1,i2,i3⟩:=okA_run h5
   refine ⟨?_,i2,fun d hd=>?_⟩
   ·show mkS b (c :: _)=true
    rw [mkS]
    by_cases k2:kd c=2
    ·rw [if_pos k2,h2 k2]
     simp only [k2,decide_true,Bool.or_true] at i1
     simp [k2,i1]
    ·rw [if_neg k2]
     simp only [k2,decide_false,Bool.or_false] at i1
     simp [h1,i1]
   ·rcases List.mem_cons.1 hd with rfl | hd
    ·exact hi
    ·exact i3 d hd
  ·have e:inA (.ch c p u nm)=false:=by show innC c=false;simpa using hi
   simp only [List.takeWhile_cons,List.dropWhile_cons,e,Bool.false_eq_true,if_false]
   refine ⟨rfl,?_,fun c h=>by cases h⟩
   obtain ⟨h1,h2,h3⟩:=h
   refine ⟨h1,fun h=>?_,h3⟩
   exact absurd (show innC c=true by unfold innC;rw [h];simp) hi
def hasG (g m:Int):Bool:=decide (g / m % 2=1)
def wordG (g:Int):Bool:=!hasG g 2&&!hasG g 8
theorem q4b (u j v:Bool) (base:Int) (hb:base=0∨base=2∨base=8) :
  0≤flI u j v base∧flI u j v base≤31∧hasG (flI u j v base) 1=u∧hasG (flI u j v base) 2=decide (base=2)∧hasG (flI u j v base) 4=v∧hasG (flI u j v base) 8=decide (base=8)∧hasG (flI u j v base) 16=j:=by
 rcases hb with rfl | rfl | rfl <;> cases u <;> cases j <;> cases v <;> decide
def gapB (s:List UInt8):Bool:=(List.range 64).any fun i=>decide (gapT ((i:Int) + 1)=s)
def markB:List UInt8→Bool
 | [c]=>decide (kd c=5)||decide (kd c=4)
 | _=>false
def normB (s:List UInt8):Bool:=decide (s≠[])&&decide (s.length≤64)&&s.all innC
def qdo (s:List UInt8):Bool:=decide (s=[])||qad s
def textB (x:Tok):Bool :=
 if hasG x.g 2=true then gapB x.t&&decide (x.m=x.t) else if hasG x.g 8=true then markB x.t&&decide (x.m=x.t) else qm x.t&&normB x.m
def tokE (x:Tok):Int :=
 if x.g < 0∨31 < x.g then 2 else if hasG x.g 2=true∧hasG x.g 8=true then 8 else if textB x=false then 11 else if x.p.2 < 0 then 2
 else if qdo x.p.1=false∨qdo x.a=false then 14 else 0
theorem kd_bd (c:UInt8):0≤kd c∧kd c≤6:=by
 unfold kd kindF
 repeat' split
 all_goals omega
theorem inn_kd {c:UInt8} (h:innC c=true):1≤kd c∧kd c≤4:=by
 unfold innC letB at h
 simp only [Bool.or_eq_true,beq_iff_eq,decide_eq_true_eq] at h
 omega
structure Raw (x:Tok):Prop where
 g0:0≤x.g
 g1:x.g≤31
 p:plOk x.p
 a:x.a=[]∨qad x.a=true
 m:x.m=[]
 k:(hasG x.g 2=true∧hasG x.g 8=false∧∃ n:Int,1≤n∧n≤64∧x.t=gapT n)∨(hasG x.g 2=false∧hasG x.g 8=true∧∃ c,x.t=[c]∧(kd c=4∨kd c=5)) ∨
  (hasG x.g 2=false∧hasG x.g 8=false∧∃ c s,x.t=c :: s∧letB c=true∧mkS false (c :: s)=true∧∀ d∈s,innC d=true)
theorem qqy:∀ (n:Nat) (l:List Am) (j v:Bool),l.length≤n→okA false l→∀ x∈divF j v l,Raw x
 | _,[],j,v,_,_,x,hx=>by rw [divF] at hx;cases hx
 | 0,_ :: _,_,_,h,_,_,_=>absurd h (by simp)
 | n + 1,.brk b :: r,j,v,hl,h,x,hx=>by
  rw [divF] at hx
  exact qqy n r _ _ (by simpa using hl) h x hx
 | n + 1,.gap m p u nm :: r,j,v,hl,⟨h1,h2,h3,h4⟩,x,hx=>by
  rw [divF] at hx
  rcases List.mem_cons.1 hx with rfl | hx
  ·obtain ⟨f1,f2,_,f3,_,f4,_⟩:=q4b u j v 2 (by simp)
   exact ⟨f1,f2,h2,h3,rfl,.inl ⟨f3,f4,m,h1.1,h1.2,rfl⟩⟩
  ·exact qqy n r _ _ (by simpa using hl) h4 x hx
 | n + 1,.ch c p u nm :: r,j,v,hl,⟨h1,h2,h3,h4,h5⟩,x,hx=>by
  have hl':r.length≤n:=by simpa using hl
  have h2':kd c≠2:=fun h=>absurd (h2 h) (by decide)
  rw [divF] at hx
  by_cases h6:kd c=6
  ·rw [if_pos h6] at hx
   exact qqy n r _ _ hl' (by simpa [h6] using h5) x hx
  ·rw [if_neg h6] at hx
   by_cases hlt:letB c=true
   ·rw [if_pos hlt] at hx
    obtain ⟨i1,i2,i3⟩:=okA_run h5
    rcases List.mem_cons.1 hx with rfl | hx
    ·obtain ⟨f1,f2,_,f3,_,f4,_⟩:=q4b (u||(r.takeWhile inA).any unA) j v 0 (by simp)
     refine ⟨f1,f2,h3,h4,rfl,.inr (.inr ⟨f3,f4,c,_,rfl,hlt,?_,i3⟩)⟩
     rw [mkS,if_neg h2']
     simp only [h2',decide_false,Bool.or_false] at i1
     simp [h1,i1]
    ·exact qqy n _ _ _ (by have:=qm1 inA r;omega) i2 x hx
   ·rw [if_neg hlt] at hx
    have hk:=kd_bd c
    have hk2:kd c=4∨kd c=5:=by
     have:¬ (kd c=1∨kd c=3):=fun hh=>hlt ((qfo c).2 hh)
     omega
    rcases List.mem_cons.1 hx with rfl | hx
    ·obtain ⟨f1,f2,_,f3,_,f4,_⟩:=q4b u j v 8 (by simp)
     exact ⟨f1,f2,h3,h4,rfl,.inr (.inl ⟨f3,f4,c,rfl,hk2⟩)⟩
    ·refine qqy n r _ _ hl' ?_ x hx
     have e:(decide (kd c=1)||decide (kd c=2))=false:=by rcases hk2 with h | h <;> rw [h] <;> rfl
     rw [e] at h5;exact h5
theorem gap_all {n:Int} (h1:1≤n) (h2:n≤64):gapB (gapT n)=true:=by
 unfold gapB
 rw [List.any_eq_true]
 refine ⟨(n - 1).toNat,by rw [List.mem_range];omega,?_⟩
 rw [show (((n - 1).toNat:Nat):Int) + 1=n by omega]
 simp
theorem word_ok {c:UInt8} {s:List UInt8} (h1:letB c=true) (h2:mkS false (c :: s)=true) (h3:∀ d∈s,innC d=true) (hl:(c :: s).length≤64):qm (c :: s)=true:=by
 unfold qm
 have e1:qar (c :: s)=0:=checkC_mk.2 ⟨by omega,h2⟩
 have e2:(c :: s).all (fun c=>decide (kd c≤4))=true:=by
  rw [List.all_eq_true]
  intro d hd
  rcases List.mem_cons.1 hd with rfl | hd
  ·exact decide_eq_true (inn_kd (q34 h1)).2
  ·exact decide_eq_true (inn_kd (h3 d hd)).2
 rw [e2,decide_eq_true e1,decide_eq_true hl]
 simp [h1]
theorem gap_word (n:Int):qm (gapT n)=false:=by
 unfold qm gapT
 have:letB 91=false:=by decide
 simp [this]
theorem mark_word {c:UInt8} (h:kd c=4∨kd c=5):qm [c]=false:=by
 unfold qm
 have:letB c=false:=by
  cases hl:letB c with
  | false=>rfl
  | true=>rcases (qfo c).1 hl with h' | h' <;> omega
 simp [this]
def setM (x:Tok) (m:List UInt8):Tok:={ x with m:=m }
theorem Raw.ok {x:Tok} (h:Raw x) (hl:x.t.length≤64) {m:List UInt8} (hm:if wordG x.g=true then normB m=true else m=x.t):tokE (setM x m)=0∧(qm x.t=wordG x.g):=by
 have hnp:qdo x.p.1=true:=by unfold qdo;rcases h.p.2 with e | e <;> simp [e]
 have hna:qdo x.a=true:=by unfold qdo;rcases h.a with e | e <;> simp [e]
 have hp:=h.p.1
 have h0:=h.g0
 have h1:=h.g1
 unfold tokE setM textB
 simp only
 rw [if_neg (by omega)]
 rcases h.k with ⟨k1,k2,n,n1,n2,n3⟩ | ⟨k1,k2,c,c1,c2⟩ | ⟨k1,k2,c,s,c1,c2,c3,c4⟩
 ·have hw:wordG x.g=false:=by unfold wordG;rw [k1];rfl
  rw [hw] at hm ⊢
  have hm:m=x.t:=by simpa using hm
  rw [if_neg (by rw [k1,k2];decide),k1]
  simp only [if_true,hm,n3,gap_all n1 n2,decide_true,Bool.and_true]
  refine ⟨?_,gap_word n⟩
  rw [if_neg (by decide),if_neg (by omega),if_neg (by rw [hnp,hna];decide)]
 ·have hw:wordG x.g=false:=by unfold wordG;rw [k1,k2];rfl
  rw [hw] at hm ⊢
  have hm:m=x.t:=by simpa using hm
  have hmk:markB [c]=true:=by unfold markB;rcases c2 with e | e <;> simp [e]
  rw [if_neg (by rw [k1,k2];decide),k1,k2]
  simp only [Bool.false_eq_true,if_false,if_true,hm,c1,hmk,decide_true,Bool.and_true]
  refine ⟨?_,mark_word c2⟩
  rw [if_neg (by decide),if_neg (by omega),if_neg (by rw [hnp,hna];decide)]
 ·have hw:wordG x.g=true:=by unfold wordG;rw [k1,k2];rfl
  rw [hw,if_pos rfl] at hm
  rw [hw]
  have hwd:qm x.t=true:=by rw [c1] at hl ⊢;exact word_ok c2 c3 c4 hl
  rw [if_neg (by rw [k1,k2];decide),k1,k2]
  simp only [Bool.false_eq_true,if_false,hwd,hm,Bool.and_true]
  refine ⟨?_,trivial⟩
  rw [if_neg (by decide),if_neg (by omega),if_neg (by rw [hnp,hna];decide)]
end Go.Proofs
namespace Go.Sh
open Go Go.RowKit
def IterW {α:Type} (P:Program) (gf:FuncId) (cap:List Value) (xs:List α) (E:α→List Value→Prop) (Rd Wr:Nat→Prop) (w:World):Prop :=
 ∀ (yf:Fn) (ya yb:Array Value) (S0:Nat→Prop) (J:List α→(Nat→Prop)→World→Prop) (Jx:(Nat→Prop)→World→Prop) (R:Ending→World→Prop),
  (∀ k,S0 k→k < w.heap.size∧¬ Rd k) →
  (∀ pre S W W',J pre S W→Chg (fun k=>(w.heap.size≤k∧¬ S k)∨Wr k) W W'→J pre S W')→(∀ S W W',Jx S W→Chg (fun k=>(w.heap.size≤k∧¬ S k)∨Wr k) W W'→Jx S W') →
  (∀ pre x vs S W,E x vs→pre++[x] <+: xs→w.heap.size≤W.heap.size→(∀ k,S k→k < W.heap.size∧¬ Rd k)→J pre S W→CallV P (.func yf ya yb) vs W fun e W'=>Chg S W W' ∧
   ∃ S':Nat→Prop,(∀ k,S' k→(S k∨W.heap.size≤k)∧k < W'.heap.size)∧((e=.returned (.bool true)∧J (pre++[x]) S' W')∨(e=.returned (.bool false)∧Jx S' W'))) →
  J [] S0 w→(∀ S W,w.heap.size≤W.heap.size→J xs S W→R (.returned (.tuple ⟨[]⟩)) W)→(∀ S W,w.heap.size≤W.heap.size→Jx S W→R (.returned (.tuple ⟨[]⟩)) W) →
  Calls P gf ⟨.func yf ya yb :: cap⟩ w R
theorem IterW.mono {α:Type} {P:Program} {gf:FuncId} {cap:List Value} {xs:List α} {E E':α→List Value→Prop} {Rd Wr:Nat→Prop} {w:World} (h:IterW P gf cap xs E Rd Wr w) (hE:∀ x vs,E x vs→E' x vs):IterW P gf cap xs E' Rd Wr w :=
 fun yf ya yb S0 J Jx R hS hJ hJx hbody h0 h1 h2=>h yf ya yb S0 J Jx R hS hJ hJx (fun pre x vs S W he=>hbody pre x vs S W (hE _ _ he)) h0 h1 h2
end Go.Sh
namespace Go.Sh
open Go Go.RowKit
def IterC {α:Type} (P:Program) (gf:FuncId) (cap:List Value) (Fam:List α→Prop) (E:α→List Value→World→Prop) (Rd Wr:Nat→Prop) (w:World):Prop :=
 ∀ (yf:Fn) (ya yb:Array Value) (S0:Nat→Prop) (J:List α→(Nat→Prop)→World→Prop) (Jx:(Nat→Prop)→World→Prop) (R:Ending→World→Prop),
  (∀ k,S0 k→k < w.heap.size∧¬ Rd k) →
  (∀ pre S W W',J pre S W→Chg (fun k=>(w.heap.size≤k∧¬ S k)∨Wr k) W W'→J pre S W')→(∀ S W W',Jx S W→Chg (fun k=>(w.heap.size≤k∧¬ S k)∨Wr k) W W'→Jx S W') →
  (∀ pre x vs S W,E x vs W→(∃ xs,Fam xs∧pre++[x] <+: xs)→w.heap.size≤W.heap.size→(∀ k,S k→k < W.heap.size∧¬ Rd k)→J pre S W→CallV P (.func yf ya yb) vs W fun e W'=>Chg S W W' ∧
   ∃ S':Nat→Prop,(∀ k,S' k→(S k∨W.heap.size≤k)∧k < W'.heap.size)∧((e=.returned (.bool true)∧J (pre++[x]) S' W')∨(e=.returned (.bool false)∧Jx S' W'))) →
  J [] S0 w→(∀ xs S W,Fam xs→w.heap.size≤W.heap.size→J xs S W→R (.returned (.tuple ⟨[]⟩)) W)→(∀ S W,w.heap.size≤W.heap.size→Jx S W→R (.returned (.tuple ⟨[]⟩)) W) →
  Calls P gf ⟨.func yf ya yb :: cap⟩ w R
theorem IterC.mono {α:Type} {P:Program} {gf:FuncId} {cap:List Value} {Fam:List α→Prop} {E E':α→List Value→World→Prop} {Rd Wr:Nat→Prop} {w:World} (h:IterC P gf cap Fam E Rd Wr w) (hE:∀ x vs W,E x vs W→E' x vs W):IterC P gf cap Fam E' Rd Wr w :=
 fun yf ya yb S0 J Jx R hS hJ hJx hbody h0 h1 h2=>h yf ya yb S0 J Jx R hS hJ hJx (fun pre x vs S W he=>hbody pre x vs S W (hE _ _ _ he)) h0 h1 h2
end Go.Sh
namespace Go.Sh
open Go Go.RowKit
structure View (α:Type) where
 size:Nat
 C:(Nat→Prop)→World→α→List Value→Prop
 pos:0 < size
 len:∀ {S w x vs},C S w x vs→vs.length=size
 one:∀ {S w x vs},C S w x vs→∀ v∈vs,v.oneCell'=true
 keep:∀ {S S':Nat→Prop} {w w':World} {x vs},C S w x vs→(∀ k,S k→k < w.heap.size→S' k∧w'.heap[k]? = w.heap[k]?)→w.heap.size≤w'.heap.size→C S' w' x vs
section
variable {α β:Type} {V:View α} {S S':Nat→Prop} {w w':World}
def AllV (V:View α) (S:Nat→Prop) (w:World):List α→List Value→Prop
 | [],vs=>vs=[]
 | x :: l,vs=>∃ us vs',vs=us++vs'∧V.C S w x us∧AllV V S w l vs'
theorem AllV.keep (hs:∀ k,S k→k < w.heap.size→S' k∧w'.heap[k]? = w.heap[k]?) (hz:w.heap.size≤w'.heap.size):∀ {l:List α} {vs:List Value},AllV V S w l vs→AllV V S' w' l vs
 | [],_,h=>h
 | _ :: _,_,⟨us,vs',h1,h2,h3⟩=>⟨us,vs',h1,V.keep h2 hs hz,AllV.keep hs hz h3⟩
theorem AllV.len:∀ {l:List α} {vs:List Value},AllV V S w l vs→vs.length=l.length * V.size
 | [],vs,h=>by rw [show vs=[] from h];simp
 | _ :: l,_,⟨us,vs',h1,h2,h3⟩=>by rw [h1,List.length_append,V.len h2,AllV.len h3,List.length_cons,Nat.add_mul,Nat.one_mul];omega
theorem AllV.one:∀ {l:List α} {vs:List Value},AllV V S w l vs→∀ v∈vs,v.oneCell'=true
 | [],vs,h,v,hv=>by rw [show vs=[] from h] at hv;cases hv
 | _ :: _,_,⟨us,vs',h1,h2,h3⟩,v,hv=>by
  rw [h1,List.mem_append] at hv
  exact hv.elim (V.one h2 v) (AllV.one h3 v)
theorem AllV.app:∀ {l m:List α} {us vs:List Value},AllV V S w l us→AllV V S w m vs→AllV V S w (l++m) (us++vs)
 | [],_,us,_,h,k=>by rw [show us=[] from h];exact k
 | _ :: _,_,_,_,⟨us,vs',h1,h2,h3⟩,k=>⟨us,vs'++_,by rw [h1,List.append_assoc],h2,AllV.app h3 k⟩
theorem AllV.single {x:α} {us:List Value} (h:V.C S w x us):AllV V S w [x] us:=⟨us,[],by simp,h,rfl⟩
theorem AllV.split:∀ {l m:List α} {vs:List Value},AllV V S w (l++m) vs→∃ us us',vs=us++us'∧AllV V S w l us∧AllV V S w m us'
 | [],_,vs,h=>⟨[],vs,rfl,rfl,h⟩
 | _ :: _,_,_,⟨us,vs',h1,h2,h3⟩=>by
  obtain ⟨a,b,e1,e2,e3⟩:=AllV.split h3
  exact ⟨us++a,b,by rw [h1,e1,List.append_assoc],⟨us,a,rfl,h2,e2⟩,e3⟩
theorem AllV.get {x:α}:∀ {l:List α} {vs:List Value} {i:Nat},AllV V S w l vs→l[i]? = some x→∃ us,V.C S w x us∧∀ j v,us[j]? = some v→vs[i * V.size + j]? = some v
 | [],_,i,_,h=>by simp at h
 | y :: l,vs,0,⟨us,vs',h1,h2,_⟩,h=>by
  simp only [List.getElem?_cons_zero,Option.some.injEq] at h
  subst h
  refine ⟨us,h2,fun j v hj=>?_⟩
  rw [h1,Nat.zero_mul,Nat.zero_add,List.getElem?_append_left (List.getElem?_eq_some_iff.1 hj).1];exact hj
 | y :: l,vs,i + 1,⟨us,vs',h1,h2,h3⟩,h=>by
  simp only [List.getElem?_cons_succ] at h
  obtain ⟨u,e1,e2⟩:=AllV.get h3 h
  refine ⟨u,e1,fun j v hj=>?_⟩
  have hl:=V.len h2
  rw [h1,List.getElem?_append_right (by rw [hl,Nat.add_mul,Nat.one_mul];omega),hl,show (i + 1) * V.size + j - V.size=i * V.size + j by rw [Nat.add_mul,Nat.one_mul];omega]
  exact e2 j v hj
theorem AllV.set {x:α} {us:List Value} (hx:V.C S w x us):∀ {l:List α} {vs rest:List Value} {i:Nat},AllV V S w l vs→i < l.length→∃ vs',putAt (vs++rest) (i * V.size) us=vs'++rest∧AllV V S w (l.set i x) vs'
 | [],_,_,i,_,h=>by simp at h
 | y :: l,vs,rest,0,⟨u,vs',h1,h2,h3⟩,_=>by
  refine ⟨us++vs',?_,us,vs',rfl,hx,h3⟩
  rw [h1,Nat.zero_mul,List.append_assoc,q2n _ _ _ (by rw [V.len hx,V.len h2]),List.append_assoc]
 | y :: l,vs,rest,i + 1,⟨u,vs',h1,h2,h3⟩,h=>by
  obtain ⟨z,e1,e2⟩:=AllV.set hx (rest:=rest) h3 (by simpa using h)
  refine ⟨u++z,?_,u,z,rfl,h2,e2⟩
  rw [h1,List.append_assoc,show (i + 1) * V.size=u.length + i * V.size by rw [V.len h2,Nat.add_mul,Nat.one_mul];omega,qzs,e1,List.append_assoc]
def RowV (V:View α) (S:Nat→Prop) (w:World) (a:Option Addr) (n:Nat) (l:List α):Prop:=n=l.length∧∃ vs,At S w a vs∧AllV V S w l vs
section
variable {a:Option Addr} {n c:Nat} {l:List α}
theorem RowV.keep (h:RowV V S w a n l) (hs:∀ k,S k→k < w.heap.size→S' k∧w'.heap[k]? = w.heap[k]?) (hz:w.heap.size≤w'.heap.size):RowV V S' w' a n l:=by
 obtain ⟨h1,vs,h2,h3⟩:=h
 exact ⟨h1,vs,h2.keep hs hz,h3.keep hs hz⟩
theorem RowV.ext (h:RowV V S w a n l) (he:Ext w w'):RowV V S w' a n l:=h.keep (fun k hk hl=>⟨hk,he.block k hl⟩) he.size
theorem RowV.chg {T:Nat→Prop} (h:RowV V S w a n l) (he:Chg T w w') (hd:∀ k,S k→k < w.heap.size→¬ T k):RowV V S w' a n l:=h.keep (fun k hk hl=>⟨hk,he.block k hl (hd k hk hl)⟩) he.size
theorem RowV.imp (h:RowV V S w a n l) (hs:∀ k,S k→k < w.heap.size→S' k):RowV V S' w a n l:=h.keep (fun k hk hl=>⟨hs k hk hl,rfl⟩) (Nat.le_refl _)
theorem RowV.nil (a:Option Addr):RowV V S w a 0 []:=⟨rfl,[],.inl rfl,rfl⟩
theorem RowV.get (h:RowV V S w a n l) {i:Nat} {x:α} (hi:l[i]? = some x) :
  ∃ b o us,(∀ K:Addr→Prop,K ⟨b,o,none⟩→idx a n (i:Int) V.size K)∧S b∧b < w.heap.size∧V.C S w x us∧∀ j v,us[j]? = some v→w.cell? ⟨b,o + j,none⟩=some v:=by
 obtain ⟨h1,vs,h2,h3⟩:=h
 obtain ⟨us,g1,g2⟩:=h3.get hi
 have hlt:=(List.getElem?_eq_some_iff.1 hi).1
 rcases h2 with h2 | ⟨b,o,rfl,hb,hbl,hc⟩
 ·have:=h3.len
  rw [h2,List.length_nil] at this
  rcases Nat.mul_eq_zero.1 this.symm with h | h
  ·omega
  ·have:=V.pos;omega
 refine ⟨b,o + i * V.size,us,fun K hK=>⟨by omega,by omega,?_⟩,hb,hbl,g1,fun j v hj=>?_⟩
 ·show K _
  rw [qe,Int.toNat_natCast];exact hK
 ·rw [Nat.add_assoc];exact hc _ _ (g2 j v hj)
theorem RowV.cut (h:RowV V S w a n l) (hc:n≤c) {i j:Nat} (hij:i≤j) (hj:j≤n) {K:Option Addr→Nat→Nat→Prop}
  (hK:∀ a',RowV V S w a' (j - i) ((l.take j).drop i)→K a' (j - i) (c - i)):sls a c (i:Int) (j:Int) V.size K:=by
 obtain ⟨h1,vs,h2,h3⟩:=h
 refine ⟨by omega,by omega,by omega,?_⟩
 rw [Int.toNat_natCast,Int.toNat_natCast]
 refine hK _ ⟨by rw [List.length_drop,List.length_take];omega,?_⟩
 have e:l=l.take i++((l.take j).drop i++l.drop j):=by
  have e1:l.take j=l.take i++(l.take j).drop i:=by
   conv=>lhs;rw [← List.take_append_drop i (l.take j)]
   rw [List.take_take,Nat.min_eq_left hij]
  rw [← List.append_assoc,← e1,List.take_append_drop]
 rw [e] at h3
 obtain ⟨x1,y1,r1,r2,r3⟩:=AllV.split h3
 obtain ⟨x2,y2,r4,r5,r6⟩:=AllV.split r3
 refine ⟨x2,?_,r5⟩
 by_cases hx:x2=[]
 ·exact .inl hx
 rcases h2 with h2 | ⟨b,o,rfl,hb,hbl,hcl⟩
 ·rw [r1,r4] at h2;simp at h2;exact .inl h2.2.1
 have hni:i≠c:=by
  rintro rfl
  have:=r5.len
  rw [List.length_drop,List.length_take] at this
  have:x2.length=0:=by rw [this,show min j l.length - i=0 by omega,Nat.zero_mul]
  exact hx (List.eq_nil_of_length_eq_zero this)
 refine .inr ⟨b,o + i * V.size,?_,hb,hbl,fun k v hk=>?_⟩
 ·unfold slA
  rw [if_neg (fun hh=>hni hh.symm)]
  simp [qe]
 ·have hx1:x1.length=i * V.size:=by rw [r2.len,List.length_take,Nat.min_eq_left (by omega)]
  rw [Nat.add_assoc]
  refine hcl _ _ ?_
  rw [r1,r4,List.getElem?_append_right (by omega),hx1,Nat.add_sub_cancel_left,List.getElem?_append_left (List.getElem?_eq_some_iff.1 hk).1];exact hk
end
def View.enc (E:Enc α):View α:=⟨E.size,fun _ _ x vs=>vs=E.enc x,E.pos,fun h=>by rw [h];exact E.len _,fun h v hv=>by rw [h] at hv;exact E.one _ v hv,fun h _ _=>h⟩
def View.sl (V:View α):View (List α):=⟨1,fun S w l vs=>∃ a c,vs=[.slice a l.length c]∧l.length≤c∧RowV V S w a l.length l,Nat.one_pos,fun ⟨_,_,h,_⟩=>by rw [h];rfl,
 fun ⟨_,_,h,_⟩ v hv=>by rw [h] at hv;simp only [List.mem_singleton] at hv;subst hv;rfl,fun ⟨a,c,h1,h2,h3⟩ hs hz=>⟨a,c,h1,h2,h3.keep hs hz⟩⟩
def View.pair (V:View α) (U:View β):View (α × β):=⟨V.size + U.size,fun S w x vs=>∃ us ts,vs=us++ts∧V.C S w x.1 us∧U.C S w x.2 ts,Nat.add_pos_left V.pos _,
 fun ⟨_,_,h,h1,h2⟩=>by rw [h,List.length_append,V.len h1,U.len h2],fun ⟨_,_,h,h1,h2⟩ v hv=>by
  rw [h,List.mem_append] at hv
  exact hv.elim (V.one h1 v) (U.one h2 v),fun ⟨us,ts,h,h1,h2⟩ hs hz=>⟨us,ts,h,V.keep h1 hs hz,U.keep h2 hs hz⟩⟩
theorem allV_enc {E:Enc α}:∀ {l:List α} {vs:List Value},AllV (View.enc E) S w l vs↔vs=E.row l
 | [],vs=>Iff.rfl
 | x :: l,vs=>by
  show (∃ us vs',vs=us++vs'∧us=E.enc x∧AllV (View.enc E) S w l vs')↔_
  rw [qcl]
  constructor
  ·rintro ⟨us,vs',rfl,rfl,h⟩;rw [allV_enc.1 h]
  ·rintro rfl;exact ⟨_,_,rfl,rfl,allV_enc.2 rfl⟩
theorem rowV_enc {E:Enc α} {a:Option Addr} {n:Nat} {l:List α}:RowV (View.enc E) S w a n l↔RowAt E S w a n l:=by
 constructor
 ·rintro ⟨h1,vs,h2,h3⟩;rw [allV_enc.1 h3] at h2;exact ⟨h1,h2⟩
 ·rintro ⟨h1,h2⟩;exact ⟨h1,_,h2,allV_enc.2 rfl⟩
theorem RowV.getS {a:Option Addr} {n:Nat} {A:List (List α)} (h:RowV (View.sl V) S w a n A) {i:Nat} {l:List α} (hi:A[i]? = some l) :
  ∃ b o a' c',(∀ K:Addr→Prop,K ⟨b,o,none⟩→idx a n (i:Int) 1 K)∧S b∧b < w.heap.size∧w.cell? ⟨b,o,none⟩=some (.slice a' l.length c')∧l.length≤c'∧RowV V S w a' l.length l:=by
 obtain ⟨b,o,us,g1,g2,g3,⟨a',c',rfl,g4,g5⟩,g6⟩:=h.get hi
 exact ⟨b,o,a',c',g1,g2,g3,g6 0 _ rfl,g4,g5⟩
theorem RowV.get1 {E:Enc α} {a:Option Addr} {n:Nat} {l:List α} (h:RowV (View.enc E) S w a n l) {i:Nat} {x:α} (hi:l[i]? = some x) {v:Value} (hv:E.enc x=[v]) :
  ∃ b o,(∀ K:Addr→Prop,K ⟨b,o,none⟩→idx a n (i:Int) E.size K)∧S b∧b < w.heap.size∧w.cell? ⟨b,o,none⟩=some v:=by
 obtain ⟨b,o,us,g1,g2,g3,g4,g6⟩:=h.get hi
 have g4:us=E.enc x:=g4
 exact ⟨b,o,g1,g2,g3,g6 0 v (by rw [g4,hv];rfl)⟩
def OwnV (V:View α) (S:Nat→Prop) (e:TypeId) (B:Nat) (w:World) (a:Option Addr) (n c:Nat) (l:List α):Prop :=
 n=l.length∧∃ xs,Owns w B e V.size a n c xs∧AllV V (fun k=>S k∧¬ bk a k) w l xs
section
variable {e:TypeId} {B:Nat} {a:Option Addr} {n c:Nat} {l:List α}
theorem OwnV.nil (w:World):OwnV V S e B w none 0 0 []:=⟨rfl,[],Owns.nil w B e V.size,rfl⟩
theorem OwnV.len (h:OwnV V S e B w a n c l):n=l.length:=h.1
theorem OwnV.bk (h:OwnV V S e B w a n c l) {k:Nat} (hk:Sh.bk a k):B≤k∧k < w.heap.size:=by
 obtain ⟨_,xs,h1,_⟩:=h
 exact h1.bk hk
theorem OwnV.cap (h:OwnV V S e B w a n c l):n≤c:=by
 obtain ⟨_,xs,⟨_,h | ⟨g,cap,cur,h,_,_,h2,_⟩⟩,_⟩:=h
 ·omega
 ·simp only [Value.slice.injEq] at h;omega
theorem OwnV.imp (h:OwnV V S e B w a n c l) (hs:∀ k,S k→k < w.heap.size→S' k):OwnV V S' e B w a n c l:=by
 obtain ⟨h0,xs,h1,h2⟩:=h
 exact ⟨h0,xs,h1,h2.keep (fun k hk hl=>⟨⟨hs k hk.1 hl,hk.2⟩,rfl⟩) (Nat.le_refl _)⟩
theorem OwnV.chg {T:Nat→Prop} (h:OwnV V S e B w a n c l) (hc:Chg T w w') (hT:∀ k,T k→k < w.heap.size→¬ S k∧¬ Sh.bk a k):OwnV V S e B w' a n c l:=by
 obtain ⟨h0,xs,h1,h2⟩:=h
 refine ⟨h0,xs,h1.chg (S:=fun k=>T k∧k < w.heap.size) ⟨hc.os,hc.tape,hc.output,hc.size,fun k hl hk=>hc.block k hl fun ht=>hk ⟨ht,hl⟩⟩ fun k hk ht=>(hT k ht.1 ht.2).2 hk,h2.keep (fun k hk hl=>⟨hk,hc.block k hl fun ht=>(hT k ht hl).1 hk.1⟩) hc.size⟩
theorem OwnV.ext (h:OwnV V S e B w a n c l) (hc:Ext w w'):OwnV V S e B w' a n c l:=h.chg (T:=fun _=>False) (.of_ext hc) fun k h=>h.elim
theorem OwnV.out (h:OwnV V S e B w a n c l):RowV V (fun k=>S k∨Sh.bk a k) w a n l:=by
 obtain ⟨h0,xs,h1,h2⟩:=h
 refine ⟨h0,xs,?_,h2.keep (fun k hk _=>⟨.inl hk.1,rfl⟩) (Nat.le_refl _)⟩
 by_cases hn:0 < n
 ·obtain ⟨g,rfl,hg,hc⟩:=h1.cell hn
  exact .inr ⟨g,0,rfl,.inr rfl,(h1.bk rfl).2,fun j v hj=>by rw [Nat.zero_add];exact hc j v hj⟩
 ·have h9:n=0:=by omega
  have h8:=h1.len
  rw [h9,Nat.zero_mul] at h8
  exact .inl (List.eq_nil_of_length_eq_zero h8)
theorem OwnV.push {P:Program} {t ty bytes:Nat} {z:Value} (hT:SlT P t e V.size bytes z) (h:OwnV V S e B w a n c l) (hB:B≤w.heap.size) {x:α} {us:List Value}
  (hx:V.C (fun k=>S k∧¬ Sh.bk a k) w x us) (hlen:n + 1≤4611686018427387904) (hbytes:(n + 1) * bytes≤140737488355328) {K:Option Addr→Nat→Nat→World→Prop}
  (hk:∀ a' c' w',OwnV V S e B w' a' (n + 1) c' (l++[x])→Chg (Sh.bk a) w w'→(∀ k,Sh.bk a' k→Sh.bk a k∨w.heap.size≤k)→K a' (n + 1) c' w') :
  al w e us fun p w1=>app P [t,t] ty (.slice a n c) (.slice (some p) 1 1) w1 K:=by
 obtain ⟨h0,xs,h1,h2⟩:=h
 refine qy4 hT h1 hB us (V.len hx) (V.one hx) hlen hbytes fun a' c' w' ho hc hn=>hk _ _ _ ⟨?_,_,ho,?_⟩ hc hn
 ·simp;exact h0
 ·have hs:∀ k,(S k∧¬ Sh.bk a k)→k < w.heap.size→(S k∧¬ Sh.bk a' k)∧w'.heap[k]? = w.heap[k]?:=fun k hk hl =>
   ⟨⟨hk.1,fun hb=>(hn k hb).elim hk.2 (fun h=>by omega)⟩,hc.block k hl hk.2⟩
  exact (h2.keep hs hc.size).app (.single (V.keep hx hs hc.size))
theorem OwnV.pushAll {P:Program} {t ty bytes:Nat} {z:Value} (hT:SlT P t e V.size bytes z) (h:OwnV V S e B w a n c l) (hB:B≤w.heap.size) {a1:Option Addr} {m c1:Nat} {l':List α} {S1:Nat→Prop}
  (hg:RowV V S1 w a1 m l') (hS:∀ us,AllV V S1 w l' us→AllV V (fun k=>S k∧¬ Sh.bk a k) w l' us) (hlen:n + m≤4611686018427387904) (hbytes:(n + m) * bytes≤140737488355328) {K:Option Addr→Nat→Nat→World→Prop}
  (hk:∀ a' c' w',OwnV V S e B w' a' (n + m) c' (l++l')→Chg (Sh.bk a) w w'→(∀ k,Sh.bk a' k→Sh.bk a k∨w.heap.size≤k)→K a' (n + m) c' w') :
  app P [t,t] ty (.slice a n c) (.slice a1 m c1) w K:=by
 obtain ⟨h0,xs,h1,h2⟩:=h
 obtain ⟨hm,us,h3,h4⟩:=hg
 have h4:=hS us h4
 refine qod hT h1 hB us (by rw [h4.len,hm]) h3 h4.one hlen hbytes fun a' c' w' ho hc hn=>hk _ _ _ ⟨?_,_,ho,?_⟩ hc hn
 ·rw [List.length_append];omega
 ·have hs:∀ k,(S k∧¬ Sh.bk a k)→k < w.heap.size→(S k∧¬ Sh.bk a' k)∧w'.heap[k]? = w.heap[k]?:=fun k hk hl =>
   ⟨⟨hk.1,fun hb=>(hn k hb).elim hk.2 (fun h=>by omega)⟩,hc.block k hl hk.2⟩
  exact (h2.keep hs hc.size).app (h4.keep hs hc.size)
theorem OwnV.store (h:OwnV V S e B w a n c l) {i:Nat} (hi:i < n) {x:α} {us:List Value} (hx:V.C (fun k=>S k∧¬ Sh.bk a k) w x us) :
  ∃ g,a=some ⟨g,0,none⟩∧(∀ K:Addr→Prop,K ⟨g,i * V.size,none⟩→idx a n (i:Int) V.size K) ∧
   ∀ K:World→Prop,(∀ w',OwnV V S e B w' a n c (l.set i x)→Chg (Sh.bk a) w w'→w'.heap.size=w.heap.size→K w')→stL w ⟨g,i * V.size,none⟩ 0 us K:=by
 obtain ⟨h0,xs,h1,h2⟩:=h
 rcases h1.2 with h3 | ⟨g,cap,cur,e1,e2,e3,e4,e5,e6,e7⟩
 ·omega
 obtain ⟨rfl,_,rfl⟩:a=some ⟨g,0,none⟩∧True∧c=cap:=by simpa using e1
 have hB:Blk w g cur.toList e:=e3
 have hcl:cur.toList.length=c * V.size:=by simpa using e6
 have hcur:cur.toList=xs++cur.toList.drop (n * V.size):=by rw [← e7,List.take_append_drop]
 have hin:i * V.size + V.size≤n * V.size:=by
  have:(i + 1) * V.size≤n * V.size:=Nat.mul_le_mul_right _ hi
  rwa [Nat.add_mul,Nat.one_mul] at this
 have hnc:n * V.size≤c * V.size:=Nat.mul_le_mul_right _ e4
 refine ⟨g,rfl,fun K hK=>⟨by omega,by omega,?_⟩,fun K hK=>?_⟩
 ·show K _
  rw [qe,Int.toNat_natCast,Nat.zero_add];exact hK
 refine qa7 hB (by rw [V.len hx];omega) (V.one hx) fun w' b1 b2 b3 b4 b5 b6=>?_
 have hc:Chg (Sh.bk (some (⟨g,0,none⟩:Addr))) w w':=⟨b4,b5,b6,by omega,fun k' _ hk=>b2 k' fun e=>hk (by simp [Sh.bk,e])⟩
 have hs:∀ k,(S k∧¬ Sh.bk (some (⟨g,0,none⟩:Addr)) k)→k < w.heap.size→(S k∧¬ Sh.bk (some (⟨g,0,none⟩:Addr)) k)∧w'.heap[k]? = w.heap[k]?:=fun k hk hl=>⟨hk,hc.block k hl hk.2⟩
 obtain ⟨vs',p1,p2⟩:=AllV.set (V.keep hx hs hc.size) (rest:=cur.toList.drop (n * V.size)) (h2.keep hs hc.size) (i:=i) (by omega)
 rw [Nat.add_zero,hcur,p1] at b1
 have hl':=p2.len
 rw [List.length_set,← h0] at hl'
 refine hK w' ⟨by rw [List.length_set];exact h0,vs',⟨hl',.inr ⟨g,c,⟨_⟩,rfl,e2,b1,e4,e5,?_,?_⟩⟩,p2⟩ hc b3
 ·show (vs'++cur.toList.drop (n * V.size)).length=c * V.size
  rw [List.length_append,List.length_drop,hcl,hl'];omega
 ·show List.take (n * V.size) (vs'++_)=_
  rw [List.take_append_of_le_length (by rw [hl'];exact Nat.le_refl _),List.take_of_length_le (by rw [hl'];exact Nat.le_refl _)]
theorem AllV.rep {x:α} {us:List Value} (h:V.C S w x us):∀ n:Nat,AllV V S w (List.replicate n x) (List.replicate n us).flatten
 | 0=>rfl
 | n + 1=>⟨us,_,by rw [List.replicate_succ,List.flatten_cons],h,AllV.rep h n⟩
theorem OwnV.made {b:Nat} {x:α} {us:List Value} {n:Nat} (h:Blk w b (List.replicate n us).flatten e) (hB:B≤b) (hn:n≤maxLen) (hx:V.C (fun k=>S k∧¬ Sh.bk (some (⟨b,0,none⟩:Addr)) k) w x us):OwnV V S e B w (some ⟨b,0,none⟩) n n (List.replicate n x):=by
 have ha:=AllV.rep hx n
 have hl:=ha.len
 rw [List.length_replicate] at hl
 refine ⟨by rw [List.length_replicate],_,⟨hl,.inr ⟨b,n,_,rfl,hB,h,Nat.le_refl _,hn,hl,?_⟩⟩,ha⟩
 show List.take _ _=_
 exact List.take_of_length_le (by rw [hl];exact Nat.le_refl _)
end
theorem qko {w1:World} {a:Option Addr} (he:Ext w w1) (hc:Chg (bk a) w1 w') (ha:∀ k,bk a k→w.heap.size≤k):Ext w w' :=
 ((Chg.of_ext (S:=fun k=>w.heap.size≤k) he).trans (hc.mono fun k _ hk=>ha k hk)).ext fun k hk=>by omega
end
theorem qs2 {α:Type} {E:Enc α} {S:Nat→Prop} {e:TypeId} {B:Nat} {w:World} {a:Option Addr} {n c:Nat} {l:List α}:OwnV (View.enc E) S e B w a n c l↔OwnL E w B e a n c l:=by
 constructor
 ·rintro ⟨h1,xs,h2,h3⟩
  rw [allV_enc.1 h3] at h2;exact h2
 ·intro h
  exact ⟨(OwnL.length h).symm,_,h,allV_enc.2 rfl⟩
abbrev vI:View Int:=View.enc Sh.encI
abbrev vS:View (List UInt8):=View.enc Sh.encStr
abbrev vIs:View (List Int):=View.sl vI
theorem allV_any {α:Type} {E:Enc α} {S S':Nat→Prop} {w w':World} {l:List α}:∀ us,AllV (View.enc E) S w l us→AllV (View.enc E) S' w' l us:=fun _ h=>allV_enc.2 (allV_enc.1 h)
theorem RowV.int {S:Nat→Prop} {w:World} {a:Option Addr} {n:Nat} {L:List Int} (h:RowV vI S w a n L) {k:Nat} (hk:k < L.length) :
  ∃ q:Addr,(∀ K:Addr→Prop,K q→idx a n (k:Int) 1 K)∧w.cell? q=some (.int .i64 L[k]):=by
 obtain ⟨b,o,h1,_,_,h2⟩:=h.get1 (i:=k) (x:=L[k]) (List.getElem?_eq_getElem hk) (v:=.int .i64 L[k]) rfl
 exact ⟨_,h1,h2⟩
theorem RowV.str {S:Nat→Prop} {w:World} {a:Option Addr} {n:Nat} {L:List (List UInt8)} (h:RowV vS S w a n L) {k:Nat} (hk:k < L.length) :
  ∃ q:Addr,(∀ K:Addr→Prop,K q→idx a n (k:Int) 1 K)∧w.cell? q=some (.string ⟨⟨L[k]⟩⟩):=by
 obtain ⟨b,o,h1,_,_,h2⟩:=h.get1 (i:=k) (x:=L[k]) (List.getElem?_eq_getElem hk) (v:=.string ⟨⟨L[k]⟩⟩) rfl
 exact ⟨_,h1,h2⟩
theorem RowV.isNone {α:Type} {V:View α} {S:Nat→Prop} {w:World} {n:Nat} {L:List α} (h:RowV V S w none n L):L=[]:=by
 obtain ⟨_,vs,h2,h3⟩:=h
 rcases h2 with h2 | ⟨b,o,h2,_⟩
 ·have:=h3.len
  rw [h2,List.length_nil] at this
  rcases Nat.mul_eq_zero.1 this.symm with h | h
  ·exact List.eq_nil_of_length_eq_zero h
  ·have:=V.pos;omega
 ·cases h2
end Go.Sh
namespace Go.Sh
open Go Go.RowKit
open Go.WideElems (Fit)
open Go.Maps (Keyed)
def anyV:Value→Option (DataW Unit × List MemPlace):=fun _=>some (.nil,[])
def MapT {K V:Type} (P:Program) (k:TypeId) (eK:K→Value) (eV:V→Value) (w:World) (b n:Nat) (f:K→Option V):Prop :=
 ∃ es clock,w.heap[b]? = some (.map es clock)∧Fit P k anyV es clock∧es.size≤n ∧
  ∀ x,(f x=none∧∀ e∈es.toList,e.key≠eK x)∨∃ v,f x=some v∧∃ e∈es.toList,e.key=eK x∧e.val=eV v
section
variable {K V:Type} {P:Program} {k t e:TypeId} {eK:K→Value} {eV:V→Value} {w w':World} {b n:Nat} {f:K→Option V}
theorem MapT.made (w:World):MapT P k eK eV (w.alloc (.map #[] 0)) w.heap.size 0 (fun _=>none) :=
 ⟨#[],0,(MapKept.heap_alloc w _).1,⟨by simp,MapKept.stamped_empty 0,by simp⟩,Nat.le_refl _,fun x=>.inl ⟨rfl,by simp⟩⟩
theorem MapT.lt (h:MapT P k eK eV w b n f):b < w.heap.size:=by
 obtain ⟨es,clock,hb,_⟩:=h
 exact (Array.getElem?_eq_some_iff.1 hb).1
theorem MapT.keep (h:MapT P k eK eV w b n f) (hw:w'.heap[b]? = w.heap[b]?):MapT P k eK eV w' b n f:=by
 obtain ⟨es,clock,hb,h⟩:=h
 exact ⟨es,clock,hw.trans hb,h⟩
theorem MapT.ext (h:MapT P k eK eV w b n f) (hw:Ext w w'):MapT P k eK eV w' b n f:=h.keep (hw.block b h.lt)
theorem MapT.chg {S:Nat→Prop} (h:MapT P k eK eV w b n f) (hw:Chg S w w') (hs:¬ S b):MapT P k eK eV w' b n f:=h.keep (hw.block b h.lt hs)
theorem MapT.mono (h:MapT P k eK eV w b n f) {m:Nat} (hm:n≤m):MapT P k eK eV w b m f:=by
 obtain ⟨es,clock,hb,F,hs,h⟩:=h
 exact ⟨es,clock,hb,F,Nat.le_trans hs hm,h⟩
theorem MapT.congr {g:K→Option V} (h:MapT P k eK eV w b n f) (hg:∀ x,f x=g x):MapT P k eK eV w b n g:=by
 rw [← (funext hg:f=g)];exact h
theorem MapT.look (h:MapT P k eK eV w b n f) (Kd:Keyed P k) (ht:P.underlying t=some (.map k e)) {z:Value} (hz:(zeroValue e).run P w=.ok z w) {x:K} {kl:Lit} (hkey:keyOf P k (eK x)=some kl) :
  lkAt P t (.map (some b)) (eK x) w (((f x).map eV).getD z):=by
 obtain ⟨es,clock,hb,F,_,hf⟩:=h
 unfold lkAt
 rcases Maps.fit_look false Kd ht hz hb F hkey with ⟨hrun,hno,_⟩ | ⟨e0,y,h1,h2,hrun,_⟩
 ·rcases hf x with ⟨h0,_⟩ | ⟨v,_,e1,he1,hk1,_⟩
  ·rw [h0];exact hrun
  ·exact absurd hk1 (hno e1 he1)
 ·rcases hf x with ⟨_,h0⟩ | ⟨v,hv,e1,he1,hk1,hv1⟩
  ·exact absurd h2 (h0 e0 h1)
  ·rw [hv]
   have:e0=e1:=by
    have hn:es.toList.Pairwise (fun x y=>x.key≠y.key):=((MapKept.stamped_iff es clock).1 F.stamped).2.2
    obtain ⟨i,hi,rfl⟩:=List.getElem_of_mem h1
    obtain ⟨j,hj,rfl⟩:=List.getElem_of_mem he1
    have:i=j:=by
     apply Classical.byContradiction
     intro hne
     rcases Nat.lt_or_gt_of_ne hne with hl | hl
     ·exact List.pairwise_iff_getElem.1 hn i j hi hj hl (h2.trans hk1.symm)
     ·exact List.pairwise_iff_getElem.1 hn j i hj hi hl (hk1.trans h2.symm)
    subst this;rfl
   subst this
   rw [hv1] at hrun
   simpa using hrun
end
end Go.Sh
namespace Go.Sh
open Go Go.RowKit
section
variable {α:Type} {E:Enc α} {w:World} {B:Nat} {e:TypeId} {a:Option Addr} {n c:Nat} {l:List α}
end
end Go.Sh
namespace Go.Proofs
open Go Go.Sh Go.RowKit Go.Proofs.Tryz IntKind
def ixF {α:Type} (q:α→Bool) (l:List α):Int:=if l.any q then (l.findIdx q:Int) else -1
theorem qs9 {α:Type} (q:α→Bool) (l:List α):decide ((0:Int)≤ixF q l)=l.any q:=by
 unfold ixF
 cases l.any q <;> simp
theorem q2t {α:Type} {q:α→Bool} {l:List α} {k:Nat} (hk:k < l.length) (hq:q l[k]=true) (hno:∀ x∈l.take k,q x=false):ixF q l=k:=by
 unfold ixF
 rw [if_pos (List.any_eq_true.2 ⟨_,List.getElem_mem hk,hq⟩),List.findIdx_eq hk |>.2 ⟨hq,fun j hj=>?_⟩]
 have hjl:j < l.length:=by omega
 have:=hno l[j] (by rw [List.mem_take_iff_getElem];exact ⟨j,by omega,rfl⟩)
 simp [this]
theorem q2r {α:Type} {q:α→Bool} {l:List α} (hno:∀ x∈l,q x=false):ixF q l=-1:=by
 unfold ixF
 rw [if_neg]
 rw [Bool.not_eq_true,List.any_eq_false]
 intro x hx;rw [hno x hx];simp
theorem take_s {α:Type} {l:List α} {k:Nat} (h:k < l.length):l.take (k + 1)=l.take k++[l[k]]:=by rw [List.take_add_one,List.getElem?_eq_getElem h];rfl
theorem qv2 {α:Type} {q:α→Bool} {l:List α} {k:Nat} (h:k < l.length) (hq:q l[k]=false) (hno:∀ x∈l.take k,q x=false):∀ x∈l.take (k + 1),q x=false:=by
 intro x hx
 rw [take_s h,List.mem_append,List.mem_singleton] at hx
 rcases hx with hx | rfl
 ·exact hno x hx
 ·exact hq
section
variable {R:Ending→World→Prop} {S:Nat→Prop} {w:World} {a:Option Addr} {n c:Nat}
theorem q8c {L:List Int} (v:Int) (h1:RowV vI S w a n L) (hs:n≤4611686018427387904) (h:R (.returned (.int .i64 (ixF (fun x=>decide (v=x)) L))) w) :
  Calls prog qdd ⟨[.slice a n c,.int .i64 v]⟩ w R:=by
 apply qiq
 have hn:=h1.1
 refine ⟨fun i W m=>∃ k:Nat,i=k∧k≤n∧m=n - k∧(∀ x∈L.take k,decide (v=x)=false)∧W=w,⟨_,0,rfl,by omega,rfl,by simp,rfl⟩,?_⟩
 rintro _ W m ⟨k,rfl,hk,rfl,hno,rfl⟩ _
 refine qc (fun hlt=>?_) (fun hge=>?_)
 ·have hkL:k < L.length:=by omega
  obtain ⟨p,hp1,hc⟩:=h1.int hkL
  refine hp1 _ ⟨_,hc,qc (fun g=>?_) (fun g=>?_)⟩
  ·rw [q2t hkL (decide_eq_true g) hno] at h;exact h
  ·exact ⟨n - (k + 1),by omega,k + 1,by rw [qg (by omega)],by omega,rfl,qv2 hkL (decide_eq_false g) hno,rfl⟩
 ·rw [List.take_of_length_le (by omega)] at hno
  rw [q2r hno] at h;exact h
theorem q2a {L:List Int} (v:Int) (h1:RowV vI S w a n L) (hs:n≤4611686018427387904) (h:R (.returned (.bool (decide (v∈L)))) w) :
  Calls prog qcn ⟨[.slice a n c,.int .i64 v]⟩ w R:=by
 apply qgt
 refine q8c v h1 hs ⟨_,rfl,?_⟩
 have e:L.any (fun x=>decide (v=x))=decide (v∈L):=by
  rw [Bool.eq_iff_iff,List.any_eq_true,decide_eq_true_iff]
  constructor
  ·rintro ⟨x,hx,e⟩;have:=of_decide_eq_true e;subst this;exact hx
  ·intro hv;exact ⟨v,hv,by simp⟩
 rw [qs9,e];exact h
theorem qpv {L:List (List UInt8)} (v:List UInt8) (h1:RowV vS S w a n L) (hs:n≤4611686018427387904) (h:R (.returned (.bool (decide (v∈L)))) w) :
  Calls prog qa6 ⟨[.slice a n c,.string ⟨⟨v⟩⟩]⟩ w R:=by
 apply qdz
 have hn:=h1.1
 apply qbr
 refine ⟨fun i W m=>∃ k:Nat,i=k∧k≤n∧m=n - k∧v∉L.take k∧W=w,⟨_,0,rfl,by omega,rfl,by simp,rfl⟩,?_⟩
 rintro _ W m ⟨k,rfl,hk,rfl,hno,rfl⟩ _
 refine qc (fun hlt=>?_) (fun hge=>?_)
 ·have hkL:k < L.length:=by omega
  obtain ⟨p,hp1,hc⟩:=h1.str hkL
  refine hp1 _ ⟨_,hc,qc (fun g=>?_) (fun g=>?_)⟩
  ·refine ⟨_,rfl,?_⟩
   rw [decide_eq_true (show (0:Int)≤(k:Int) by omega)]
   rw [decide_eq_true (show v∈L by rw [g];exact List.getElem_mem hkL)] at h
   exact h
  ·refine ⟨n - (k + 1),by omega,k + 1,by rw [qg (by omega)],by omega,rfl,?_,rfl⟩
   rw [take_s hkL,List.mem_append]
   rintro (hh | hh)
   ·exact hno hh
   ·simp at hh;exact g hh
 ·refine ⟨_,rfl,?_⟩
  rw [List.take_of_length_le (by omega)] at hno
  rw [decide_eq_false hno] at h
  exact h
theorem q8p {L:List Int} (h1:RowV vI S w a n L) (hs:n≤1000000000)
  (h:∀ a' c' w',OwnV vI (fun _=>False) 3 w.heap.size w' a' n c' L→Ext w w'→R (.returned (.slice a' n c')) w'):Calls prog qdf ⟨[.slice a n c]⟩ w R:=by
 apply qis
 have hn:=h1.1
 refine qh (fun hz=>?_) (fun hz=>?_)
 ·obtain rfl:a=none:=by cases a <;> simp_all
  obtain rfl:L=[]:=h1.isNone
  have hn0:n=0:=hn
  subst hn0
  exact h none 0 w (OwnV.nil w) (Below.refl _ _)
 ·refine qd fun b w1 hb B1 e1 s1=>?_
  have hO:OwnV vI (fun _=>False) 3 w.heap.size w1 (some ⟨b,0,none⟩) 0 0 []:=⟨rfl,[],Owns.made B1 (by omega),rfl⟩
  refine hO.pushAll slT_int (by omega) (h1.ext e1) allV_any (by omega) (by omega) fun a' c' w' ho hc hn'=>?_
  rw [Nat.zero_add] at ho ⊢
  exact h a' c' w' ho (qko e1 hc fun k hk=>by simp [bk] at hk;omega)
end
structure Kol where
 sec:List UInt8
 sig:List (List UInt8)
 tok:List (List Tok)
 col:List (List Int)
def tk0:Tok:=⟨[],[],([],0),0,[]⟩
def Kol.ci (x:Kol) (k s:Nat):Int:=(x.col.getD k []).getD s (-1)
def Kol.tk (x:Kol) (k s:Nat):Option Tok:=if x.ci k s < 0 then none else some ((x.tok.getD s []).getD (x.ci k s).toNat tk0)
def Kol.cell (x:Kol) (k s:Nat):Option (List UInt8):=(x.tk k s).map (·.t)
def Kol.com (x:Kol) (k:Nat):Bool:=(x.cell k 0).isSome&&(List.range x.sig.length).all fun s=>decide (x.cell k s=x.cell k 0)
def nxC (c:List Int) (g:Nat→Nat):Nat→Nat:=fun j=>if c.getD j (-1)=-1 then g j else g j + 1
structure okC (ln:Nat→Nat) (m:Nat) (c:List Int) (g:Nat→Nat):Prop where
 len:c.length=m
 at_:∀ j,j < m→c.getD j (-1)=-1∨(c.getD j (-1)=g j∧g j < ln j)
 some_:∃ j,j < m∧c.getD j (-1)≠-1
def alP (ln:Nat→Nat) (m:Nat):(Nat→Nat)→List (List Int)→Prop
 | g,[]=>∀ j,j < m→g j=ln j
 | g,c :: r=>okC ln m c g∧alP ln m (nxC c g) r
def sigF (s:List UInt8):Bool:=if s.getLast? = some 42 then decide (s.length≤16)&&qad s.dropLast else qad s
structure GrK (x:Kol):Prop where
 col:x.col.length≤24
 cl:∀ c∈x.col,c.length≤36
 sig:∀ s∈x.sig,s.length≤20
 sec:x.sec.length≤20
 tl:∀ l∈x.tok,∀ t∈l,t.t.length≤12∧t.m.length≤12∧t.p.1.length≤20∧t.a.length≤20
structure Vk (x:Kol):Prop where
 sec:qad x.sec=true
 sg:∀ s∈x.sig,sigF s=true
 nd:x.sig.Pairwise (fun a b=>a≠b)
 n1:1≤x.sig.length
 n32:x.sig.length≤32
 tl:x.tok.length=x.sig.length
 tm:∀ l∈x.tok,l.length≤1024
 te:∀ l∈x.tok,∀ t∈l,tokE t=0
 al:alP (fun j=>(x.tok.getD j []).length) x.sig.length (fun _=>0) x.col
 gr:GrK x
theorem q4a {α β:Type} {f g:α→Option β}:∀ {l:List α},(∀ x∈l,f x=g x)→l.filterMap f=l.filterMap g
 | [],_=>rfl
 | y :: l,h=>by rw [List.filterMap_cons,List.filterMap_cons,h y List.mem_cons_self,q4a fun x hx=>h x (List.mem_cons_of_mem _ hx)]
theorem gD_at {α:Type} {l:List α} {i:Nat} {d:α} (h:i < l.length):l.getD i d=l[i]:=by rw [List.getD_eq_getElem?_getD,List.getElem?_eq_getElem h];rfl
theorem al_bd {ln:Nat→Nat} {m:Nat}:∀ {cs:List (List Int)} {g:Nat→Nat},alP ln m g cs→∀ k,(h:k < cs.length)→cs[k].length=m∧∀ j,j < m→cs[k].getD j (-1)=-1∨(0≤cs[k].getD j (-1)∧cs[k].getD j (-1) < ln j)
 | [],_,_,k,h=>by simp at h
 | c :: r,g,⟨h1,h2⟩,0,_=>⟨h1.len,fun j hj=>(h1.at_ j hj).imp id fun q=>by
   rw [List.getElem_cons_zero]
   omega⟩
 | c :: r,g,⟨h1,h2⟩,k + 1,h=>by
  rw [List.getElem_cons_succ]
  exact al_bd h2 k (by simpa using h)
theorem al_all {ln:Nat→Nat} {m j:Nat} (hj:j < m):∀ {cs:List (List Int)} {g:Nat→Nat},alP ln m g cs→(∀ k,(h:k < cs.length)→cs[k].getD j (-1)≠-1)→ln j=g j + cs.length∧∀ k,(h:k < cs.length)→cs[k].getD j (-1)=((g j + k:Nat):Int)
 | [],g,h,_=>⟨by have:=h j hj;simp;omega,fun k h=>by simp at h⟩
 | c :: r,g,⟨h1,h2⟩,hn=>by
  have h0:=hn 0 (by simp)
  rw [List.getElem_cons_zero] at h0
  have hg:nxC c g j=g j + 1:=by unfold nxC;rw [if_neg h0]
  obtain ⟨i1,i2⟩:=al_all hj h2 fun k hk=>by have:=hn (k + 1) (by simpa using hk);rwa [List.getElem_cons_succ] at this
  rw [hg] at i1 i2
  refine ⟨by rw [i1,List.length_cons];omega,fun k hk=>?_⟩
  cases k with
  | zero =>
   rw [List.getElem_cons_zero]
   have:=(h1.at_ j hj).resolve_left h0
   omega
  | succ k =>
   rw [List.getElem_cons_succ,i2 k (by simpa using hk)]
   congr 1;omega
section
variable {x:Kol} (V:Vk x)
include V
theorem Vk.ci_bd {k s:Nat} (hk:k < x.col.length) (hs:s < x.sig.length):x.ci k s=-1∨(0≤x.ci k s∧x.ci k s < (x.tok.getD s []).length):=by
 have:=(al_bd V.al k hk).2 s hs
 unfold Kol.ci
 rw [gD_at hk];exact this
theorem Vk.tk_mem {k s:Nat} (hk:k < x.col.length) (hs:s < x.sig.length) {t:Tok} (h:x.tk k s=some t):t∈x.tok.getD s []:=by
 unfold Kol.tk at h
 by_cases g:x.ci k s < 0
 ·rw [if_pos g] at h;cases h
 ·rw [if_neg g] at h
  have hb:=(V.ci_bd hk hs).resolve_left (by omega)
  have hl:(x.ci k s).toNat < (x.tok.getD s []).length:=by omega
  rw [gD_at hl] at h
  cases h
  exact List.getElem_mem hl
theorem Vk.tok_mem {s:Nat} (hs:s < x.sig.length):x.tok.getD s []∈x.tok:=by
 have:s < x.tok.length:=by rw [V.tl];exact hs
 rw [gD_at this]
 exact List.getElem_mem this
theorem Vk.cell_mem {k s:Nat} (hk:k < x.col.length) (hs:s < x.sig.length) {t:List UInt8} (h:x.cell k s=some t):t∈(x.tok.getD s []).map (·.t):=by
 unfold Kol.cell at h
 obtain ⟨u,hu,rfl⟩:=Option.map_eq_some_iff.1 h
 exact List.mem_map_of_mem (V.tk_mem hk hs hu)
omit V in
theorem qfq {k s:Nat} (h:x.com k=true) (hs:s < x.sig.length):x.cell k s=x.cell k 0∧(x.cell k 0).isSome=true:=by
 unfold Kol.com at h
 rw [Bool.and_eq_true,List.all_eq_true] at h
 exact ⟨of_decide_eq_true (h.2 s (List.mem_range.2 hs)),h.1⟩
omit V in
theorem cell_ci {k s:Nat} (h:(x.cell k s).isSome=true):¬ x.ci k s < 0:=by
 intro g
 unfold Kol.cell Kol.tk at h
 rw [if_pos g] at h;cases h
theorem Vk.all_com (hc:∀ k,k < x.col.length→x.com k=true) {s:Nat} (hs:s < x.sig.length) (lead:Nat) (hl:lead < x.sig.length) :
  (List.range x.col.length).filterMap (fun k=>x.cell k lead)=(x.tok.getD s []).map (·.t):=by
 obtain ⟨i1,i2⟩:=al_all hs V.al fun k hk=>by
  have h1:=qfq (hc k hk) hs
  have h2:=cell_ci (by rw [h1.1];exact h1.2)
  unfold Kol.ci at h2
  rw [gD_at hk] at h2
  omega
 rw [Nat.zero_add] at i1
 have e:(List.range x.col.length).filterMap (fun k=>x.cell k lead)=(List.range x.col.length).filterMap (fun k=>some (((x.tok.getD s []).getD k tk0).t)):=by
  refine q4a fun k hk=>?_
  have hk:=List.mem_range.1 hk
  rw [(qfq (hc k hk) hl).1,← (qfq (hc k hk) hs).1]
  have h2:=i2 k hk
  rw [Nat.zero_add] at h2
  have h3:x.ci k s=k:=by unfold Kol.ci;rw [gD_at hk];exact h2
  unfold Kol.cell Kol.tk
  rw [h3,if_neg (by omega)]
  rfl
 rw [e]
 rw [List.filterMap_eq_map' ]
 refine List.ext_getElem (by rw [List.length_map,List.length_range,List.length_map,i1]) fun k h1 h2=>?_
 rw [List.getElem_map,List.getElem_range,List.getElem_map,gD_at]
end
def toK (p:Nat→Bool):Nat→Nat→Nat
 | 0,i=>i
 | m + 1,i=>if p i=true then i else toK p m (i + 1)
def runsG (p:Nat→Bool) (n:Nat):Nat→Nat→List (Nat × Nat)
 | 0,_=>[]
 | m + 1,f=>if f < n then (if f < toK p (n - f) f then [(f,toK p (n - f) f)] else [])++runsG p n m (toK p (n - f) f + 1) else []
theorem qsa (p:Nat→Bool):∀ (m i:Nat),i≤toK p m i∧toK p m i≤i + m∧(∀ k,i≤k→k < toK p m i→p k=false)∧(toK p m i < i + m→p (toK p m i)=true)
 | 0,i=>⟨Nat.le_refl _,Nat.le_refl _,fun k h1 h2=>by simp only [toK] at h2;omega,fun h=>by simp only [toK] at h;omega⟩
 | m + 1,i=>by
  rw [toK]
  by_cases h:p i=true
  ·rw [if_pos h]
   exact ⟨Nat.le_refl _,by omega,fun k h1 h2=>by omega,fun _=>h⟩
  ·rw [if_neg h]
   obtain ⟨a,b,c,d⟩:=qsa p m (i + 1)
   refine ⟨by omega,by omega,fun k h1 h2=>?_,fun q=>d (by omega)⟩
   by_cases e:k=i
   ·subst e;simpa using h
   ·exact c k (by omega) h2
theorem toK_step (p:Nat→Bool) {n f t:Nat} (hf:f≤t) (ht:t < n) (hp:∀ k,f≤k→k < t→p k=false):(p t=true→toK p (n - f) f=t):=by
 intro h
 obtain ⟨a,b,c,d⟩:=qsa p (n - f) f
 by_cases e:toK p (n - f) f < t
 ·have:=d (by omega)
  rw [hp _ a e] at this;cases this
 ·by_cases e2:t < toK p (n - f) f
  ·rw [c t hf e2] at h;cases h
  ·omega
theorem toK_end (p:Nat→Bool) {n f:Nat} (hf:f≤n) (hp:∀ k,f≤k→k < n→p k=false):toK p (n - f) f=n:=by
 obtain ⟨a,b,c,d⟩:=qsa p (n - f) f
 by_cases e:toK p (n - f) f < n
 ·have:=d (by omega)
  rw [hp _ a e] at this;cases this
 ·omega
def AscU (n:Nat):Nat→List (Nat × Nat)→Prop
 | _,[]=>True
 | b,p :: r=>b≤p.1∧p.1 < p.2∧p.2≤n∧AscU n (p.2 + 1) r
theorem AscU.mono {n a b:Nat} (h:a≤b):∀ {U:List (Nat × Nat)},AscU n b U→AscU n a U
 | [],_=>trivial
 | _ :: _,⟨h1,h2⟩=>⟨Nat.le_trans h h1,h2⟩
theorem q5q (p:Nat→Bool) (n:Nat):∀ (m f:Nat),AscU n f (runsG p n m f)
 | 0,_=>trivial
 | m + 1,f=>by
  rw [runsG]
  by_cases h:f < n
  ·rw [if_pos h]
   obtain ⟨a,b,_,_⟩:=qsa p (n - f) f
   have ih:=q5q p n m (toK p (n - f) f + 1)
   by_cases g:f < toK p (n - f) f
   ·rw [if_pos g]
    exact ⟨Nat.le_refl _,g,by show toK p (n - f) f≤n;omega,ih⟩
   ·rw [if_neg g,List.nil_append]
    exact ih.mono (by omega)
  ·rw [if_neg h];trivial
def inU (U:List (Nat × Nat)) (c:Nat):Prop:=∃ p∈U,p.1≤c∧c < p.2
theorem q5r (p:Nat→Bool) (n:Nat):∀ (m f:Nat),n < m + f→∀ c,f≤c→c < n→p c=false→inU (runsG p n m f) c
 | 0,f,hm,c,h1,h2,_=>by omega
 | m + 1,f,hm,c,h1,h2,h3=>by
  rw [runsG,if_pos (by omega)]
  obtain ⟨a,b,_,d⟩:=qsa p (n - f) f
  by_cases g:c < toK p (n - f) f
  ·rw [if_pos (by omega)]
   exact ⟨_,List.mem_append_left _ (List.mem_singleton.2 rfl),h1,g⟩
  ·by_cases e:c=toK p (n - f) f
   ·rw [e,d (by omega)] at h3;cases h3
   ·obtain ⟨q,hq,h4⟩:=q5r p n m (toK p (n - f) f + 1) (by omega) c (by omega) h2 h3
    exact ⟨q,List.mem_append_right _ hq,h4⟩
def Kol.runs (x:Kol):List (Nat × Nat):=runsG x.com x.col.length (x.col.length + 1) 0
abbrev Rdg:=List (List UInt8) × List Int
def Kol.read (x:Kol) (f t s:Nat):List (List UInt8):=(List.range' f (t - f)).filterMap fun k=>x.cell k s
def addR (L:List Rdg) (w:List (List UInt8)) (s:Nat):List Rdg :=
 if L.any (fun r=>decide (w=r.1))=true then L.set (L.findIdx fun r=>decide (w=r.1)) ((L.getD (L.findIdx fun r=>decide (w=r.1)) ([],[])).1,(L.getD (L.findIdx fun r=>decide (w=r.1)) ([],[])).2++[(s:Int)]) else L++[(w,[(s:Int)])]
def Kol.rds (x:Kol) (f t:Nat):Nat→List Rdg
 | 0=>[]
 | m + 1=>addR (x.rds f t m) (x.read f t m) m
abbrev Unt:=(Nat × Nat) × List Rdg
def Kol.units (x:Kol):List Unt:=x.runs.map fun p=>(p,x.rds p.1 p.2 x.sig.length)
theorem q3u (x:Kol) (f t:Nat):∀ m,(x.rds f t m).length≤m
 | 0=>Nat.le_refl _
 | m + 1=>by
  have:=q3u x f t m
  rw [Kol.rds,addR]
  split
  ·rw [List.length_set];omega
  ·rw [List.length_append];simp;exact this
theorem q2m (x:Kol) (f t:Nat):∀ m,∀ r∈x.rds f t m,r.2.length≤m∧∀ s∈r.2,∃ i:Nat,i < m∧s=i∧x.read f t i=r.1
 | 0,r,h=>by cases h
 | m + 1,r,h=>by
  have ih:=q2m x f t m
  have up:∀ r∈x.rds f t m,r.2.length≤m + 1∧∀ s∈r.2,∃ i:Nat,i < m + 1∧s=i∧x.read f t i=r.1:=fun r hr=>by
   obtain ⟨h1,h2⟩:=ih r hr
   refine ⟨by omega,fun s hs=>?_⟩
   obtain ⟨i,h3,h4⟩:=h2 s hs
   exact ⟨i,by omega,h4⟩
  rw [Kol.rds,addR] at h
  split at h
  ·rename_i hany
   have hlt:List.findIdx (fun r=>decide (x.read f t m=r.1)) (x.rds f t m) < (x.rds f t m).length:=List.findIdx_lt_length.2 (by simpa using hany)
   have hw:=List.findIdx_getElem (w:=hlt)
   rcases List.mem_or_eq_of_mem_set h with h | h
   ·exact up r h
   ·rw [gD_at hlt] at h
    obtain ⟨h1,h2⟩:=ih _ (List.getElem_mem hlt)
    subst h
    refine ⟨by simp;omega,fun s hs=>?_⟩
    rcases List.mem_append.1 hs with hs | hs
    ·obtain ⟨i,h3,h4⟩:=h2 s hs
     exact ⟨i,by omega,h4⟩
    ·exact ⟨m,by omega,by simpa using hs,by simpa using hw⟩
  ·rcases List.mem_append.1 h with h | h
   ·exact up r h
   ·rw [List.mem_singleton] at h
    subst h
    exact ⟨by simp,fun s hs=>⟨m,by omega,by simpa using hs,rfl⟩⟩
theorem read_snoc (x:Kol) {f i:Nat} (s:Nat) (h:f≤i):x.read f (i + 1) s=x.read f i s++(x.cell i s).toList:=by
 unfold Kol.read
 rw [show i + 1 - f=(i - f) + 1 by omega,List.range'_concat,List.filterMap_append]
 congr 1
 rw [Nat.one_mul,show f + (i - f)=i by omega,List.filterMap_cons,List.filterMap_nil]
 cases x.cell i s <;> rfl
theorem read_mem {x:Kol} {f t s:Nat} {w:List UInt8} (h:w∈x.read f t s):∃ k,f≤k∧k < t∧x.cell k s=some w:=by
 unfold Kol.read at h
 obtain ⟨k,hk,h⟩:=List.mem_filterMap.1 h
 rw [List.mem_range'_1] at hk
 exact ⟨k,hk.1,by omega,h⟩
end Go.Proofs
