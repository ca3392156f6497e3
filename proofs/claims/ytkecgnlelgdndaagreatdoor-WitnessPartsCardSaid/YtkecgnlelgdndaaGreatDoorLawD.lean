/- The contracts of the functions that the law reaches, one after the other, and at the end the law's card. -/
import Derived.Test.YtkecgnlelgdndaaGreatDoorLawC
import Derived.Lib.Repeat
import Derived.Lib.AppendZerosOnto
import Derived.Maps.Own
import Derived.DeepKeys4
import Derived.Lib.AtoiAll
import Derived.Lib.ItoaNum
import Derived.Lib.IndexAny
import Derived.Lib.IndexMore
import Derived.Lib.Strings
set_option linter.all false
set_option maxRecDepth 20000
namespace Go.Sh
open Go Go.RowKit
theorem qju:∀ (vs cs:List Value) (o i:Nat),(putAt cs o vs)[i]? = if o≤i∧i < o + vs.length∧i < cs.length then vs[i - o]? else cs[i]?
 | [],cs,o,i=>by
  rw [if_neg (by simp;omega)];rfl
 | v :: vs,cs,o,i=>by
  rw [putAt,qju vs (cs.set o v) (o + 1) i]
  simp only [List.length_set,List.length_cons]
  by_cases h1:o + 1≤i∧i < o + 1 + vs.length∧i < cs.length
  ·rw [if_pos h1,if_pos (by omega),show i - o=(i - (o + 1)) + 1 by omega,List.getElem?_cons_succ]
  ·rw [if_neg h1]
   by_cases h2:i=o
   ·subst h2
    by_cases h3:i < cs.length
    ·rw [if_pos (by omega)];simp [h3]
    ·rw [if_neg (by omega)];rw [List.getElem?_eq_none (by simp;omega),List.getElem?_eq_none (by omega)]
   ·rw [List.getElem?_set_ne (Ne.symm h2)]
    rw [if_neg (by omega)]
theorem putAt_last {cs xs zs vs:List Value} {m:Nat} (h:cs.take m=xs++zs) (hl:zs.length=vs.length) (hm:xs.length + vs.length=m) (hc:m≤cs.length):(putAt cs xs.length vs).take m=xs++vs:=by
 apply List.ext_getElem?
 intro i
 have hp:=qju vs cs xs.length i
 have hg:i < m→cs[i]? = (xs++zs)[i]?:=fun hi=>by rw [← h,List.getElem?_take,if_pos hi]
 rw [List.getElem?_take]
 by_cases hi:i < m
 ·rw [if_pos hi,hp]
  by_cases h1:xs.length≤i
  ·rw [if_pos ⟨h1,by omega,by omega⟩,List.getElem?_append_right h1]
  ·rw [if_neg (by omega),hg hi,List.getElem?_append_left (by omega),List.getElem?_append_left (by omega)]
 ·rw [if_neg hi,List.getElem?_eq_none (by simp;omega)]
theorem Owns.storeLast {w:World} {B:Nat} {e:TypeId} {size:Nat} {a:Option Addr} {n c:Nat} {xs zs vs:List Value} (h:Owns w B e size a (n + 1) c (xs++zs)) (hz:zs.length=size) (hv:vs.length=size) (h1:∀ v∈vs,v.oneCell'=true) :
  ∃ g:Nat,a=some ⟨g,0,none⟩∧(∀ K:Addr→Prop,K ⟨g,n * size,none⟩→idx a (n + 1) (n:Int) size K) ∧
   ∀ K:World→Prop,(∀ w',Owns w' B e size a (n + 1) c (xs++vs)→Chg (Sh.bk a) w w'→w'.heap.size=w.heap.size→K w')→stL w ⟨g,n * size,none⟩ 0 vs K:=by
 have hl:=h.1
 simp only [List.length_append,hz,Nat.add_mul,Nat.one_mul] at hl
 rcases h.2 with h | ⟨g,cap,cur,e1,e2,e3,e4,e5,e6,e7⟩
 ·omega
 obtain ⟨rfl,_,rfl⟩:a=some ⟨g,0,none⟩∧True∧c=cap:=by simpa using e1
 have hB:Blk w g cur.toList e:=e3
 have hcl:cur.toList.length=c * size:=by simpa using e6
 have hxl:(n + 1) * size≤cur.toList.length:=by rw [hcl];exact Nat.mul_le_mul_right _ e4
 have hxe:xs.length=n * size:=by omega
 refine ⟨g,rfl,fun K hK=>⟨by omega,by omega,?_⟩,fun K hK=>?_⟩
 ·show K _
  rw [qg,Int.toNat_natCast,Nat.zero_add];exact hK
 refine qae hB (by rw [hv];have:(n + 1) * size=n * size + size:=(by rw [Nat.add_mul,Nat.one_mul]);omega) h1 fun w' b1 b2 b3 b4 b5 b6=>?_
 have hc:Chg (Sh.bk (some (⟨g,0,none⟩:Addr))) w w':=⟨b4,b5,b6,by omega,fun k' _ hk=>b2 k' fun e=>hk (by simp [Sh.bk,e])⟩
 refine hK w' ⟨by simp only [List.length_append,hv,Nat.add_mul,Nat.one_mul];omega,.inr ⟨g,c,⟨_⟩,rfl,e2,b1,e4,e5,?_,?_⟩⟩ hc b3
 ·have:=q6e vs cur.toList (n * size + 0)
  simp only [List.size_toArray];rw [this];exact hcl
 ·show (putAt cur.toList (n * size + 0) vs).take _=_
  rw [Nat.add_zero,← hxe]
  refine putAt_last e7 (by omega) ?_ hxl
  rw [hxe,hv,Nat.add_mul,Nat.one_mul]
end Go.Sh
namespace Go.Proofs
open Go Go.Sh Go.RowKit Go.Proofs.Tryz IntKind
def mostN (l:List Nn):Int:=l.foldl (fun m x=>if x.k=8∨x.k=9 then max m x.n else m) 0
theorem q18 (l:List Nn) (x:Nn):mostN (l++[x])=if x.k=8∨x.k=9 then max (mostN l) x.n else mostN l:=by simp [mostN]
theorem Ext.upd {w W1 W2:World} {l:Nat} (h:Ext w W1) (hU:Upd l W1 W2) (hl:w.heap.size≤l):Ext w W2:=qex h (q2q hU hl) (Nat.le_refl _)
theorem Count_spec {R:Ending→World→Prop} {S:Nat→Prop} {w:World} {a:Option Addr} {n c:Nat} (f:Fo) (hs:small f) (hF:Forms w) (hf0:SlF S w a n f)
  (h:∀ w',Ext w w'→R (.returned (.tuple ⟨[.int .i64 (if qak f≠0 then 0 else mostN (qo f)),.int .i64 (if qak f≠0 then 1 else 0)]⟩)) w') :
  Calls prog qrs ⟨[.slice a n c]⟩ w R:=by
 apply q4t
 refine qc2 f hs hf0 hF fun w1 e1=>⟨_,rfl,qd (fun g=>?_) (fun g=>?_)⟩
 ·rw [if_pos g,if_pos g] at h;exact h _ e1
 rw [if_neg g,if_neg g] at h
 refine qh fun b5 w2 hb5 B5' e2 s2=>?_
 refine qr B5' rfl fun w3 B5 hc3 s3=>?_
 have E2:=qb e1 e2
 have z1:=e1.size
 have E3:Ext w w3:=qi E2 hc3 fun k hk=>by omega
 refine q5p fun bs w4 Bs e4 hbs=>⟨_,_,_,rfl,fun base=>?_⟩
 have E4:=qb E3 e4
 have B5:=B5.ext e4
 have l5:=B5.lt
 have ls:=Bs.lt
 have z4:=E4.size
 have hf:SlF (fun k=>S k∧k < w.heap.size) w a n f:=hf0.imp fun k hk hl=>⟨hk,hl⟩
 rw [qu2]
 refine q46 qhs qhq (gf:=qby) rfl (by kernel_rfl) (xs:=qo f) (E:=NnE (fun k=>(S k∧k < w.heap.size)∨k=bs) w4) (Rd:=fun k=>(S k∧k < w.heap.size)∨k=bs)
  (fun v1 he=>(nodes_iter f hs bs v1 (Bs.ext he) ((hf.ext (qb E4 he)).imp fun k hk _=>.inl hk) (.inr rfl)).mono ?_) (fun y vs hE=>by obtain ⟨a',c',rfl,_⟩:=hE;rfl) (by decide) (fun k hk=>by omega) (fun k=>k=b5) (fun k hk=>by omega)
  (fun pre W=>Blk W b5 [.int .i64 (mostN pre)] 3∧Ext w W) (fun _=>False) (fun _=>False)
  ?_ (fun _ _ h=>h.elim) (fun _ _ h=>h.elim) ⟨B5,E4⟩ ?_ ?_ (fun _ _ _ _ _ h=>h.elim) (fun _ _ _ _ _ h=>h.elim)
 ·rintro x vs ⟨a',c',rfl,hsl⟩
  exact ⟨a',c',rfl,hsl.keep' fun k hk hl=>⟨hk,by omega,((he.block k (by omega))).symm⟩⟩
 ·rintro pre W W' ⟨g1,g2⟩ hc
  exact ⟨hc.blk g1 (by omega),qex g2 hc (by omega)⟩
 ·rintro pre ⟨k1,t1,m1,ps1⟩ vs W l ⟨a',c',rfl,hsl⟩ hpre hl1 hl2 ⟨g1,g2⟩
  refine Eq.mpr (quz base _ _ _ _ _ _ _ _ _ _ _ _ _ _ _ _ _) ?_
  refine qw (by simp) (by intro u hu;simp only [List.mem_cons,List.not_mem_nil,or_false] at hu;rcases hu with rfl | rfl | rfl | rfl <;> rfl) fun bx W1 hbx hBx ex sx=>?_
  refine ⟨ex,fun W2 hU=>?_⟩
  have zx:=ex.size
  have zU:=hU.size
  have hX2:=qgx hU hBx (by omega)
  obtain ⟨x0,x1,x2,x3⟩:=blk4 hX2
  have h1:=qgx hU (g1.ext ex) (by omega)
  have E2':Ext w W2:=Ext.upd (qb g2 ex) hU (by omega)
  refine ⟨k1,x0,t1,x1,m1,x2,a',_,c',x3,qj8 k1 t1 m1 a' ps1.len c' fun W3 e3=>⟨_,rfl,qd (fun q=>?_) (fun q=>?_)⟩⟩
  ·have h3:=h1.ext e3
   refine dr_ok ⟨_,by rw [h3.cell];rfl,m1,(blk4 (hX2.ext e3)).2.2.1,dr_ok (qr h3 rfl fun W4 B4 hc4 s4=>?_)⟩
   have E4':Ext w W4:=qi (qb E2' e3) hc4 fun k hk=>by omega
   refine ⟨(Chg.of_ext e3).trans (hc4.mono fun k _ h=>h),?_,E4'⟩
   rw [q18,if_pos q];exact B4
  ·refine ⟨Chg.of_ext e3,?_,qb E2' e3⟩
   rw [q18,if_neg q];exact h1.ext e3
 ·rintro D W hD1 hD2 hD4 ⟨g1,g2⟩
  refine ⟨_,by rw [g1.cell];rfl,qbm hD4 ?_⟩
  exact h _ (qb9 g2 (by omega) _)
theorem q15:∀ f g:Fo,qo (f.app g)=qo f++qo g
 | .nil,g=>rfl
 | .cons k t n ps r,g=>by simp [qo,q15 r]
theorem q6h {yf:Fn} {ya yb:Array Value} {T:Nat→Prop} {J:List Pl→(Nat→Prop)→World→Prop} {Jx:(Nat→Prop)→World→Prop} {w0:World} {xs:List Pl} {ty tw:Nat}
  (hTl:∀ k,T k→k < w0.heap.size)
  (hJ:∀ pre S W W',J pre S W→Chg (fun k=>w0.heap.size≤k∧¬ S k) W W'→J pre S W')
  (hbody:∀ pre x vs S W,PlE T w0 x vs→pre++[x] <+: xs→w0.heap.size≤W.heap.size→(∀ k,S k→k < W.heap.size∧¬ T k)→J pre S W→CallV prog (.func yf ya yb) vs W fun e W'=>Chg S W W' ∧
   ∃ S':Nat→Prop,(∀ k,S' k→(S k∨W.heap.size≤k)∧k < W'.heap.size)∧((e=.returned (.bool true)∧J (pre++[x]) S' W')∨(e=.returned (.bool false)∧Jx S' W'))) :
  ∀ (f:Fo) {R:Ending→World→Prop} {S:Nat→Prop} {w:World} {a:Option Addr} {n c:Nat} (d:Nat) (pre:List Pl),small f→d≤17→SlF T w0 a n f→w0.heap.size≤w.heap.size→(∀ k,T k→w.heap[k]? = w0.heap[k]?)→(∀ k,S k→k < w.heap.size∧¬ T k) →
   Blk w ty [.func yf ya yb] 209→Blk w tw [.func (.func 172) ⟨[]⟩ ⟨[.pointer (some ⟨ty,0,none⟩),.pointer (some ⟨tw,0,none⟩)]⟩] 136→¬ S ty→¬ S tw →
   pre++qt f d false <+: xs→J pre S w→(∀ S' W',Chg S w W'→(∀ k,S' k→(S k∨w.heap.size≤k)∧k < W'.heap.size)→J (pre++qt f d false) S' W'→R (.returned (.bool true)) W') →
   (∀ S' W',Chg S w W'→(∀ k,S' k→(S k∨w.heap.size≤k)∧k < W'.heap.size)→Jx S' W'→R (.returned (.bool false)) W') →
   Calls prog qbq ⟨[.slice a n c,.int .i64 (d:Int),.pointer (some ⟨ty,0,none⟩),.pointer (some ⟨tw,0,none⟩)]⟩ w R:=by
 intro f
 induction hz:f.size using Nat.strongRecOn generalizing f with
 | _ z ih =>
 intro R S w a n c d pre hs hd hf hw0 hT hS hBy hBw nSy nSw hpre hj hend hstop
 unfold small at hs
 apply qdc
 have hn:=hf.1
 have hfl:=f.len_le_size
 have lty:=hBy.lt
 have ltw:=hBw.lt
 refine ⟨fun tx i W m=>∃ (p r:Fo) (ps:List Pl) (S1:Nat→Prop),f=p.app r∧i=p.len∧m=r.len∧Chg S w W∧(∀ k,S1 k→(S k∨w.heap.size≤k)∧k < W.heap.size)∧J ps S1 W∧pre++qt f d false=ps++qt r d tx,
  ⟨_,.nil,f,pre,S,rfl,rfl,rfl,Chg.refl _ _,fun k hk=>⟨.inl hk,(hS k hk).1⟩,hj,rfl⟩,?_⟩
 rintro b _ W m ⟨p,r,xs',S1,hpr,rfl,rfl,hcW,hS1,hjW,heq⟩ _
 have hwW:=hcW.size
 refine qd (fun hlt=>?_) (fun hge=>?_)
 ·obtain ⟨k,t,mm,ps,r,rfl⟩:=Fo.next hpr (by omega)
  have hsl:=Fo.sub_len hpr
  have hsz:=Fo.sub_size hpr
  have e1:f=(p.app (.one k t mm ps)).app r:=by rw [Fo.app_one_app];exact hpr
  have i1:i64.wrap ((p.len:Int) + 1)=((p.app (.one k t mm ps)).len:Int):=by rw [qj (by omega)];simp [Fo.one]
  have hTW:∀ k,T k→W.heap[k]? = w0.heap[k]?:=fun k hk=>(hcW.block k (by have:=hTl k hk;omega) (fun h=>(hS k h).2 hk)).trans (hT k hk)
  obtain ⟨q,a',c',hq,hTq,hql,hN⟩:=(hf.keep (S':=T) (w':=W) (fun k hk _=>⟨hk,hTW k hk⟩) (by omega)).get hpr
  have hNT:SlF T w0 a' ps.len ps:=hN.sl.keep' fun k hk _=>⟨hk,hTl k hk,(hTW k hk).symm⟩
  refine hq _ ⟨k,hN.kind,t,hN.text,mm,hN.num,a',ps.len,c',hN.parts,?_⟩
  refine qw (by simp) (by intro u hu;simp only [List.mem_cons,List.not_mem_nil,or_false] at hu;rcases hu with rfl | rfl | rfl | rfl <;> rfl) fun bx w1 hbx hBx e2 s2=>?_
  have z2:=e2.size
  obtain ⟨x0,x1,x2,x3⟩:=blk4 hBx
  have hBy1:=(hcW.blk hBy nSy).ext e2
  have hBw1:=(hcW.blk hBw nSw).ext e2
  have n1y:¬ S1 ty:=fun h=>(hS1 _ h).1.elim nSy (by omega)
  have n1w:¬ S1 tw:=fun h=>(hS1 _ h).1.elim nSw (by omega)
  have n1x:¬ S1 bx:=fun h=>by have:=(hS1 _ h).2;omega
  refine dr_ok ⟨_,_,_,by rw [hBy1.cell];rfl,k,x0,t,x1,mm,x2,a',ps.len,c',x3,?_⟩
  have hj1:J xs' S1 w1:=hJ _ _ _ _ hjW (Chg.of_ext e2)
  rw [qt] at heq
  have hpx:xs'++[⟨k,t,mm,ps,d,b⟩] <+: xs:=by
   refine List.IsPrefix.trans ?_ hpre
   rw [heq]
   exact ⟨_,by rw [List.append_assoc];rfl⟩
  have hS1T:∀ k,S1 k→k < w1.heap.size∧¬ T k:=fun j hj=>⟨by have:=(hS1 j hj).2;omega,fun ht=>(hS1 j hj).1.elim (fun h=>(hS j h).2 ht) (fun h=>by have:=hTl j ht;omega)⟩
  refine qbh (hbody xs' ⟨k,t,mm,ps,d,b⟩ _ S1 w1 ⟨a',c',rfl,hNT⟩ hpx (by omega) hS1T hj1) ?_
  rintro e w2 ⟨hc2,S2,hS2,hres⟩
  have z3:=hc2.size
  have hcw2:Chg S w w2:=qa5 (hcW.trans (Chg.of_ext e2)) hc2 fun i hi hh=>(hS1 i hh).1.elim id fun h=>by omega
  have hS2w:∀ k,S2 k→(S k∨w.heap.size≤k)∧k < w2.heap.size:=fun j hj=>⟨(hS2 j hj).1.elim (fun h=>(hS1 j h).1) (fun h=>.inr (by omega)),(hS2 j hj).2⟩
  rcases hres with ⟨rfl,hj2⟩ | ⟨rfl,hjx⟩
  ·refine ⟨true,rfl,?_⟩
   have hBx2:=hc2.blk hBx n1x
   obtain ⟨y0,y1,y2,y3⟩:=blk4 hBx2
   have hBw2:=hc2.blk hBw1 n1w
   have hBy2:=hc2.blk hBy1 n1y
   have n2x:¬ S2 bx:=fun h=>(hS2 _ h).1.elim n1x (by omega)
   refine qd (fun hd16=>?_) (fun hd16=>?_)
   ·have hd16':d≤16:=by omega
    rw [if_pos hd16'] at heq
    refine dr_ok ⟨.func 172,⟨[]⟩,⟨[.pointer (some ⟨ty,0,none⟩),.pointer (some ⟨tw,0,none⟩)]⟩,by rw [hBw2.cell];rfl,a',ps.len,c',y3,by kernel_rfl,?_⟩
    rw [qj (by omega)]
    refine ih _ (hz ▸ hsz) ps rfl (S:=S2) (d + 1) (xs'++[⟨k,t,mm,ps,d,b⟩]) (by unfold small;omega) (by omega) hNT (by omega) (fun j hj=>(hcw2.block j (by have:=hTl j hj;omega) (fun h=>(hS j h).2 hj)).trans (hT j hj))
     (fun j hj=>⟨(hS2 j hj).2,fun ht=>(hS2 j hj).1.elim (fun h=>(hS1T j h).2 ht) (fun h=>by have:=hTl j ht;omega)⟩) hBy2 hBw2 (fun h=>(hS2 _ h).1.elim n1y (by omega)) (fun h=>(hS2 _ h).1.elim n1w (by omega)) ?_ hj2 (fun S3 w3 hc3 hS3 hj3=>?_) (fun S3 w3 hc3 hS3 hjx=>?_)
    ·refine List.IsPrefix.trans ?_ hpre
     rw [heq]
     exact ⟨qt r d (decide (k=1)),by simp⟩
    ·refine ⟨true,rfl,?_⟩
     have hBx3:=hc3.blk hBx2 n2x
     refine ⟨k,(blk4 hBx3).1,r.len,by simp,_,r,_,S3,e1,i1,rfl,qa5 hcw2 hc3 fun i hi hh=>(hS2w i hh).1.elim id fun h=>by omega,fun j hj=>⟨(hS3 j hj).1.elim (fun h=>(hS2w j h).1) (fun h=>.inr (by omega)),(hS3 j hj).2⟩,hj3,?_⟩
     rw [heq];simp
    ·exact ⟨false,rfl,hstop S3 _ (qa5 hcw2 hc3 fun i hi hh=>(hS2w i hh).1.elim id fun h=>by omega) (fun j hj=>⟨(hS3 j hj).1.elim (fun h=>(hS2w j h).1) (fun h=>.inr (by omega)),(hS3 j hj).2⟩) hjx⟩
   ·rw [if_neg (by omega)] at heq
    refine ⟨k,y0,r.len,by simp,_,r,_,S2,e1,i1,rfl,hcw2,hS2w,hj2,?_⟩
    rw [heq];simp
  ·exact ⟨false,rfl,hstop S2 _ hcw2 hS2w hjx⟩
 ·obtain ⟨rfl,rfl⟩:=Fo.last hpr (by omega)
  have e:xs'=pre++qt p d false:=by rw [heq];simp [qt]
  rw [e] at hjW
  exact hend S1 _ hcW hS1 hjW
theorem q6i {T:Nat→Prop} (f:Fo) (hs:small f) {a:Option Addr} {n c:Nat} (b:Nat) (w:World) (hTl:∀ k,T k→k < w.heap.size) (hb:Blk w b [.slice a n c] 43) (hf:SlF T w a n f) (hbT:T b) :
  IterO prog qab [.pointer (some ⟨b,0,none⟩)] (qt f 0 false) (PlE T w) T w:=by
 intro yf ya yb S0 J Jx R hS hJ hJx hbody h0 hend hstop
 apply qep
 refine qh fun ty w1 hty hBy e1 s1=>?_
 refine qh fun tw w1' htw hBw' e2' s2'=>?_
 refine qr hBw' rfl fun w2 hBw hcc hss=>?_
 have e2:Ext w1 w2:=qi e2' hcc fun k hk=>by omega
 have E:=qb e1 e2
 refine ⟨.func 172,⟨[]⟩,⟨[.pointer (some ⟨ty,0,none⟩),.pointer (some ⟨tw,0,none⟩)]⟩,by rw [hBw.cell];rfl,dr_ok ⟨a,n,c,by rw [((hb.ext e1).ext e2).cell];rfl,by kernel_rfl,?_⟩⟩
 have hz:=E.size
 have hz1:=e1.size
 refine q6h (w0:=w) (xs:=qt f 0 false) hTl hJ hbody f (S:=S0) 0 [] hs (by omega) hf hz (fun k hk=>E.block k (hTl k hk)) (fun k hk=>⟨by have:=(hS k hk).1;omega,(hS k hk).2⟩) (hBy.ext e2) hBw (fun h=>by have:=(hS _ h).1;omega) (fun h=>by have:=(hS _ h).1;omega) (List.prefix_refl _)
  (hJ _ _ _ _ h0 (Chg.of_ext E)) (fun S' W' hc hS' hj=>?_) (fun S' W' hc hS' hjx=>?_)
 ·exact ⟨_,rfl,hend S' _ (Nat.le_trans hz hc.size) hj⟩
 ·exact ⟨_,rfl,hstop S' _ (Nat.le_trans hz hc.size) hjx⟩
theorem blk6 {w:World} {b:Nat} {v0 v1 v2 v3 v4 v5:Value} {T:TypeId} (h:Blk w b [v0,v1,v2,v3,v4,v5] T) :
  w.cell? ((⟨b,0,none⟩:Addr).add 0 |>.add 0)=some v0∧w.cell? ((⟨b,0,none⟩:Addr).add 0 |>.add 1)=some v1:=by
 simp only [qg,h.cell];exact ⟨rfl,rfl⟩
theorem q8b {a b:List UInt8} {K:List UInt8→Prop} (h:a.length + b.length≤9223372036854775807) (hK:K (a++b)):sadd a b K:=⟨h,hK⟩
theorem four_one (k:Int) (t:List UInt8) (m:Int) (a:Option Addr) (n c:Nat):∀ u∈[Value.int .i64 k,.string ⟨⟨t⟩⟩,.int .i64 m,.slice a n c],u.oneCell'=true:=by
 intro u hu;simp only [List.mem_cons,List.not_mem_nil,or_false] at hu;rcases hu with rfl | rfl | rfl | rfl <;> rfl
theorem SameT_spec {S S':Nat→Prop}:∀ (f:Fo) {R:Ending→World→Prop} {w:World} {a b:Option Addr} {n c n' c':Nat} {g:Fo} (hf:SlF S w a n f) (hg:SlF S' w b n' g) (hs:small f)
  (h:∀ w',Ext w w'→R (.returned (.bool (decide (f=g)))) w'),Calls prog qhx ⟨[.slice a n c,.slice b n' c']⟩ w R:=by
 intro f
 induction hz:f.size using Nat.strongRecOn generalizing f with
 | _ z ih =>
 intro R w a b n c n' c' g hf hg hs h
 apply qsx
 apply qaq
 have hn:=hf.1
 have hn':=hg.1
 refine qd (fun h1=>⟨_,rfl,?_⟩) (fun h1=>?_)
 ·rw [show decide (f=g)=false by rw [decide_eq_false_iff_not];rintro rfl;omega] at h
  exact h w (Below.refl _ _)
 refine ⟨fun i W m=>∃ (p1 r1 p2 r2:Fo),f=p1.app r1∧g=p2.app r2∧p1.len=p2.len∧i=p1.len∧m=r1.len∧Ext w W∧(f=g↔r1=r2),⟨_,.nil,f,.nil,g,rfl,rfl,rfl,rfl,rfl,Below.refl _ _,Iff.rfl⟩,?_⟩
 rintro _ W m ⟨p1,r1,p2,r2,e1,e2,e3,rfl,rfl,he,hiff⟩ _
 refine qd (fun hlt=>?_) (fun hge=>?_)
 ·obtain ⟨k1,t1,m1,s1,r1,rfl⟩:=Fo.next e1 (by omega)
  obtain ⟨k2,t2,m2,s2,r2,rfl⟩:=Fo.next e2 (by omega)
  obtain ⟨q1,a1,c1,i1,_,l1,n1⟩:=(hf.ext he).get e1
  have hsub:=Fo.sub_size e1
  have hsl:=Fo.sub_len e1
  have hle:=f.len_le_size
  simp only [Fo.cons.injEq] at hiff
  refine i1 _ ⟨_,n1.kind,_,n1.text,_,n1.num,_,_,_,n1.parts,qw (by simp) (four_one _ _ _ _ _ _) fun b1 w1 hb1 B1 x1 s1'=>?_⟩
  have he1:=qb he x1
  obtain ⟨q2,a2,c2,i2,_,l2,n2⟩:=(hg.ext he1).get e2
  rw [← e3] at i2
  refine i2 _ ⟨_,n2.kind,_,n2.text,_,n2.num,_,_,_,n2.parts,qw (by simp) (four_one _ _ _ _ _ _) fun b2 w2 hb2 B2 x2 s2'=>?_⟩
  have he2:=qb he1 x2
  obtain ⟨u0,u1,u2,u3⟩:=blk4 (B1.ext x2)
  obtain ⟨v0,v1,v2,v3⟩:=blk4 B2
  have y1:=(n1.sl.ext x1).ext x2
  have y2:=n2.sl.ext x2
  refine ⟨_,u0,_,u1,_,u2,_,_,_,u3,_,v0,_,v1,_,v2,_,_,_,v3,by kernel_rfl,?_⟩
  -- the closure
  have clo:∀ {R':Ending→World→Prop},(∀ w',Ext w2 w'→R' (.returned (.bool (decide (k1=k2∧t1=t2∧m1=m2∧s1=s2)))) w') →
    Calls prog qfx ⟨[.agg ⟨[.int .i64 k1,.string ⟨⟨t1⟩⟩,.int .i64 m1,.slice a1 s1.len c1]⟩,.agg ⟨[.int .i64 k2,.string ⟨⟨t2⟩⟩,.int .i64 m2,.slice a2 s2.len c2]⟩]⟩ w2 R':=by
   intro R' hR
   apply qnq
   refine qh fun b3 w3 hb3 B3 x3 s3'=>qh fun b4 w4 hb4 B4 x4 s4'=>?_
   obtain ⟨u0,u1,u2,u3⟩:=blk4 (B3.ext x4)
   obtain ⟨v0,v1,v2,v3⟩:=blk4 B4
   have X:=qb x3 x4
   refine ⟨_,u0,_,v0,qd (fun d1=>⟨_,u1,_,v1,qd (fun d2=>⟨_,u2,_,v2,qd (fun d3=>⟨_,_,_,u3,_,_,_,v3,?_⟩) (fun d3=>?_)⟩) (fun d2=>?_)⟩) (fun d1=>?_)⟩
   ·refine ih _ (hz ▸ hsub) s1 rfl (y1.ext X) (y2.ext X) (by unfold small at hs ⊢;omega) fun w' he'=>⟨_,rfl,?_⟩
    have:=hR w' (qb X he')
    rw [show decide (k1=k2∧t1=t2∧m1=m2∧s1=s2)=decide (s1=s2) by simp [d1,d2,d3]] at this
    exact this
   ·have:=hR _ X
    rw [decide_eq_false (fun hh=>d3 hh.2.2.1)] at this;exact this
   ·have:=hR _ X
    rw [decide_eq_false (fun hh=>d2 hh.2.1)] at this;exact this
   ·have:=hR _ X
    rw [decide_eq_false (fun hh=>d1 hh.1)] at this;exact this
  refine clo fun w' he'=>⟨_,rfl,ql (fun d=>?_) (fun d=>?_)⟩
  ·refine ⟨_,rfl,?_⟩
   have hd:¬ (k1=k2∧t1=t2∧m1=m2∧s1=s2):=fun hh=>by rw [decide_eq_true hh] at d;cases d
   rw [show decide (f=g)=false by rw [decide_eq_false_iff_not];intro hh;obtain ⟨z1,z2,z3,z4,_⟩:=hiff.1 hh;exact hd ⟨z1,z2,z3,z4⟩] at h
   exact h _ (qb he2 he')
  ·have hd:k1=k2∧t1=t2∧m1=m2∧s1=s2:=by simpa using d
   refine ⟨r1.len,by simp,p1.app (.one k1 t1 m1 s1),r1,p2.app (.one k2 t2 m2 s2),r2,by rw [Fo.app_one_app];exact e1,by rw [Fo.app_one_app];exact e2,by simp [Fo.one];exact e3,?_,rfl,qb he2 he',?_⟩
   ·rw [qj (by unfold small at hs;omega)];simp [Fo.one]
   ·rw [hiff];simp [hd.1,hd.2.1,hd.2.2.1,hd.2.2.2]
 ·obtain ⟨rfl,rfl⟩:=Fo.last e1 (by omega)
  have:=Fo.last e2 (by omega)
  rw [show decide (p1=g)=true by rw [decide_eq_true_iff];exact hiff.2 this.1.symm] at h
  exact ⟨_,rfl,h _ he⟩
def stF (f:Fo) (h:Int):Fo:=qam (qm f h false)
theorem stF_small {f:Fo} (hs:f.size≤1000000000) (h:Int):small (stF f h):=by
 have a1:=qxk (qm f h false)
 have a2:=qbn f h false
 unfold small stF;omega
theorem q5s (f:Fo) {R:Ending→World→Prop} {S:Nat→Prop} {w:World} {a:Option Addr} {n c:Nat} (hand:Int) (hh:-1000≤hand∧hand≤1000) (hs:f.size≤1000000000) (hg:good f) (ht:tlen f≤4611686018427387904) (hf:SlF S w a n f)
  (h:∀ w',Ext w w'→R (.returned (.bool (decide (stF f (hand - 1)≠stF f hand)))) w'):Calls prog qk2 ⟨[.slice a n c,.int .i64 hand]⟩ w R:=by
 apply qyg
 have t1:=qcx f (hand - 1) false
 have t2:=qcx f hand false
 have q1:=qem (hand - 1) f hg
 have q2:=qem hand f hg
 unfold qis
 rw [qu (by omega)]
 refine qpb f (hand - 1) hs hg (by rw [q1];omega) hf fun a2 n2 c2 w2 h2 e2=>⟨_,_,_,rfl,?_⟩
 refine qpb f hand hs hg (by rw [q2];omega) (hf.ext e2) fun a3 n3 c3 w3 h3 e3=>⟨_,_,_,rfl,?_⟩
 rw [q1] at h2
 rw [q2] at h3
 refine SameT_spec (stF f (hand - 1)) (h2.ext e3) (g:=stF f hand) h3 (stF_small hs _) fun w4 e4=>⟨_,rfl,?_⟩
 have:=h _ (qb (qb e2 e3) e4)
 rw [show decide (stF f (hand - 1)≠stF f hand)=!decide (stF f (hand - 1)=stF f hand) by simp] at this
 exact this
abbrev intV (l:List Int):List Value:=l.map (Value.int .i64)
theorem slT_int:SlT prog 74 3 1 8 (.int .i64 0):=⟨by kernel_rfl,by kernel_rfl,rfl,by decide⟩
theorem owns_int {w:World} {B:Nat} {a:Option Addr} {n c:Nat} {l:List Int} (h:Owns w B 3 1 a n c (intV l)) {i:Nat} (hi:i < l.length) :
  (∀ K:Addr→Prop,(∀ p,w.cell? p=some (.int .i64 l[i])→K p)→idx a n (i:Int) 1 K):=by
 intro K hK
 have hl:l.length=n:=by have:=h.1;simpa using this
 obtain ⟨g,rfl,hg,hc⟩:=h.cell (by omega)
 refine ⟨by omega,by omega,?_⟩
 refine dr_ok (hK _ ?_)
 rw [qg,hc _ _ (by simp [hi];rfl)]
def qaf (f:Fo) (n:Nat):List Int:=((List.range n).map fun i:Nat=>(i:Int) + 1).filter fun h=>decide (stF f (h - 1)≠stF f h)
theorem qtw (f:Fo) (n:Nat):qaf f (n + 1)=qaf f n++if stF f n≠stF f (n + 1) then [(n:Int) + 1] else []:=by
 have e:((n:Int) + 1 - 1)=n:=by omega
 simp only [qaf,List.range_succ,List.map_append,List.filter_append,List.map_cons,List.map_nil]
 congr 1
 by_cases h:stF f n≠stF f (n + 1)
 ·rw [if_pos h];simp [h]
 ·rw [if_neg h];simp at h;simp [h]
theorem qng (f:Fo) (n:Nat):(qaf f n).length≤n:=by
 refine Nat.le_trans (List.length_filter_le _ _) ?_
 simp
theorem handsTo_le (f:Fo) (n:Nat):∀ x∈qaf f n,x≤n:=by
 intro x hx
 simp only [qaf,List.mem_filter,List.mem_map,List.mem_range] at hx
 obtain ⟨⟨i,hi,rfl⟩,_⟩:=hx
 omega
theorem q9r (f:Fo) {R:Ending→World→Prop} {S:Nat→Prop} {w:World} {a:Option Addr} {n c:Nat} (most:Nat) (hmost:mostN (qo f)=most) (hm8:most≤8) (hs:small f) (hF:Forms w) (hf:SlF S w a n f) (hc0:qak f=0)
  (h:∀ a' n' c' w',Owns w' w.heap.size 3 1 a' n' c' (intV (qaf f most))→Ext w w'→R (.returned (.tuple ⟨[.slice a' n' c',.int .i64 0]⟩)) w'):Calls prog qir ⟨[.slice a n c]⟩ w R:=by
 apply q4s
 obtain ⟨c1,c2,c3⟩:=qcz hc0
 refine Count_spec f hs hF hf fun w1 e1=>⟨_,_,rfl,?_⟩
 rw [hc0,hmost]
 simp only [ne_eq,not_true,if_false]
 refine br_neg (by simp) ?_
 have z1:=e1.size
 refine ⟨fun oa on oc i W m=>∃ k:Nat,i=(k:Int) + 1∧k≤most∧m=most - k∧Owns W w.heap.size 3 1 oa on oc (intV (qaf f k))∧Ext w W,⟨_,0,rfl,by omega,rfl,Owns.nil _ _ _ _,e1⟩,?_⟩
 rintro oa on oc _ W m ⟨k,rfl,hk,rfl,ho,he⟩ _
 have hl:(qaf f k).length=on:=by have:=ho.1;simpa using this
 have hlk:=qng f k
 refine qd (fun hlt=>?_) (fun hge=>?_)
 ·have i1:i64.wrap ((k:Int) + 1 + 1)=((k + 1:Nat):Int) + 1:=by rw [qu (by omega)];omega
  have sc:=qtw f k
  refine q5s f ((k:Int) + 1) (by omega) (by omega) c2 (by omega) (hf.ext he) fun w2 e2=>⟨_,rfl,?_⟩
  have e:((k:Int) + 1 - 1)=k:=by omega
  rw [e]
  have he2:=qb he e2
  have z2:=he2.size
  refine qd (fun g=>?_) (fun g=>?_)
  ·refine qfd slT_int (ho.ext e2) (by omega) [.int .i64 ((k:Int) + 1)] rfl (by intro u hu;simp only [List.mem_singleton] at hu;subst hu;rfl) (by omega) (by omega) fun a4 c4 w4 o4 ch4 n4=>?_
   refine ⟨most - (k + 1),by omega,k + 1,i1,by omega,rfl,?_,qi he2 ch4 fun j hj=>(ho.bk hj).1⟩
   rw [sc,if_pos g]
   simpa [intV] using o4
  ·refine ⟨most - (k + 1),by omega,k + 1,i1,by omega,rfl,?_,he2⟩
   rw [sc,if_neg g,List.append_nil];exact ho.ext e2
 ·have:k=most:=by omega
  subst this
  exact h _ _ _ _ ho he
def hle (a:Int):Fo→Prop
 | .nil=>True
 | .cons k _ n ps r=>((k=8∨k=9)→n≤a)∧hle a ps∧hle a r
theorem qxq (a:Int):∀ {f:Fo},(∀ x∈qo f,(x.k=8∨x.k=9)→x.n≤a)→hle a f
 | .nil,_=>trivial
 | .cons k t n ps r,h=>by
  simp only [qo,List.mem_cons,List.mem_append] at h
  exact ⟨h ⟨k,t,n,ps⟩ (.inl rfl),qxq a fun x hx=>h x (.inr (.inl hx)),qxq a fun x hx=>h x (.inr (.inr hx))⟩
theorem q8v:∀ (l:List Nn) (m:Int),m≤l.foldl (fun m (x:Nn)=>if x.k=8∨x.k=9 then max m x.n else m) m∧∀ x∈l,(x.k=8∨x.k=9)→x.n≤l.foldl (fun m (x:Nn)=>if x.k=8∨x.k=9 then max m x.n else m) m
 | [],m=>⟨Int.le_refl _,fun x hx=>by simp at hx⟩
 | y :: l,m=>by
  simp only [List.foldl_cons,List.mem_cons]
  obtain ⟨h1,h2⟩:=q8v l (if y.k=8∨y.k=9 then max m y.n else m)
  refine ⟨Int.le_trans ?_ h1,?_⟩
  ·split <;> omega
  ·rintro x (rfl | hx) hk
   ·rw [if_pos hk] at h1 ⊢;omega
   ·exact h2 x hx hk
theorem most_le (b:Int):∀ (l:List Nn) (m:Int),m≤b→(∀ x∈l,(x.k=8∨x.k=9)→x.n≤b)→l.foldl (fun m (x:Nn)=>if x.k=8∨x.k=9 then max m x.n else m) m≤b
 | [],m,h,_=>h
 | y :: l,m,h,hl=>by
  simp only [List.foldl_cons]
  refine most_le b l _ ?_ fun x hx=>hl x (by simp [hx])
  split
  ·rename_i hk;have:=hl y (by simp) hk;omega
  ·exact h
theorem hle_most (f:Fo):hle (mostN (qo f)) f:=qxq _ fun x hx hk=>(q8v (qo f) 0).2 x hx hk
theorem qnf:∀ {w:Bool} {f:Fo},okF w f→∀ x∈qo f,(x.k=8∨x.k=9)→1≤x.n∧x.n≤8
 | _,.nil,_,x,hx,_=>by simp [qo] at hx
 | w,.cons k t n ps r,⟨h1,h2,h3⟩,x,hx,hk=>by
  simp only [qo,List.mem_cons,List.mem_append] at hx
  rcases hx with rfl | hx | hx
  ·simp only at hk ⊢
   unfold qy at h1
   split at h1
   ·cases h1
   split at h1
   ·cases h1
   rw [if_neg (by omega),if_neg (by omega),if_neg (by omega),if_neg (by omega)] at h1
   try rw [if_pos hk] at h1
   split at h1
   ·cases h1
   ·omega
  ·exact qnf h2 x hx hk
  ·exact qnf h3 x hx hk
theorem qna (a b:Int) (p q:Bool):∀ {f:Fo},hle a f→hle b f→qm f a p=qm f b q
 | .nil,_,_=>rfl
 | .cons k t n ps r,⟨h1,h2,h3⟩,⟨g1,g2,g3⟩=>by
  simp only [qm,qna a b p q h2 g2,qna a b p q h3 g3]
  by_cases k9:k=9
  ·rw [if_pos ⟨k9,h1 (.inr k9)⟩,if_pos ⟨k9,g1 (.inr k9)⟩]
  ·by_cases k8:k=8
   ·rw [if_neg (fun h=>k9 h.1),if_pos ⟨k8,h1 (.inl k8)⟩,if_neg (fun h=>k9 h.1),if_pos ⟨k8,g1 (.inl k8)⟩]
   ·simp only [k8,k9,false_and,false_or,if_false]
theorem qvz {a b:Int} (h:a≤b):∀ {f:Fo},hle a f→hle b f
 | .nil,_=>trivial
 | .cons k t n ps r,⟨h1,h2,h3⟩=>⟨fun hk=>by have:=h1 hk;omega,qvz h h2,qvz h h3⟩
theorem qtx {f:Fo} (most:Nat) (hm:mostN (qo f)=most):∀ d:Nat,qaf f (most + d)=qaf f most
 | 0=>rfl
 | d + 1=>by
  rw [show most + (d + 1)=(most + d) + 1 by omega,qtw,qtx most hm d,if_neg,List.append_nil]
  intro h
  apply h
  unfold stF
  have h0:=hle_most f
  rw [hm] at h0
  rw [qna ((most + d:Nat):Int) (((most + d:Nat):Int) + 1) false false (qvz (by omega) h0) (qvz (by omega) h0)]
def longF:Fo→Nat→Bool
 | .nil,_=>false
 | .cons _ t _ ps r,d=>decide (d=0)||(decide (60 < t.length∧t.length≤65536)||(decide (65540 < t.length)||(longF ps (d - 1)||longF r d)))
theorem q6n {S:Nat→Prop}:∀ (f:Fo) {R:Ending→World→Prop} {w:World} {a:Option Addr} {n c:Nat} (d:Nat) (hd:d≤20) (hs:small f) (hf:SlF S w a n f)
  (h:∀ w',Ext w w'→R (.returned (.bool (longF f d))) w'),Calls prog qua ⟨[.slice a n c,.int .i64 (d:Int)]⟩ w R:=by
 intro f
 induction hz:f.size using Nat.strongRecOn generalizing f with
 | _ z ih =>
 intro R w a n c d hd hs hf h
 unfold small at hs
 apply q68
 have hn:=hf.1
 have hfl:=f.len_le_size
 refine ⟨fun i W m=>∃ (pre r:Fo),f=pre.app r∧i=pre.len∧m=r.len∧Ext w W∧longF f d=longF r d,⟨_,.nil,f,rfl,rfl,rfl,Below.refl _ _,rfl⟩,?_⟩
 rintro _ W m ⟨pre,r,hpr,rfl,rfl,he,heq⟩ _
 refine qd (fun hlt=>?_) (fun hge=>?_)
 ·obtain ⟨kd,t,mm,ps,r,rfl⟩:=Fo.next hpr (by omega)
  have hsl:=Fo.sub_len hpr
  have hsz:=Fo.sub_size hpr
  obtain ⟨q,a',c',hq,hSq,hql,hN⟩:=(hf.ext he).get hpr
  rw [longF] at heq
  have tr:(longF f d=true)→R (.returned (.bool true)) W:=fun e=>by rw [e] at h;exact h _ he
  refine hq _ ⟨t,hN.text,qd (fun h1=>?_) (fun h1=>?_)⟩
  ·exact tr (by rw [heq,decide_eq_true (by omega)];rfl)
  rw [decide_eq_false (p:=d=0) (by omega),Bool.false_or] at heq
  refine qd (fun h2=>qd (fun h3=>tr (by rw [heq,decide_eq_true (by omega)];rfl)) (fun h3=>qd (fun h4=>tr (by rw [heq,decide_eq_true (p:=65540 < t.length) (by omega)];simp)) (fun h4=>?_)))
   (fun h2=>qd (fun h4=>tr (by rw [heq,decide_eq_true (p:=65540 < t.length) (by omega)];simp)) (fun h4=>?_))
  all_goals
   rw [decide_eq_false (p:=60 < t.length∧t.length≤65536) (by omega),decide_eq_false (p:=65540 < t.length) (by omega),Bool.false_or,Bool.false_or] at heq
   refine hq _ ⟨a',ps.len,c',hN.parts,?_⟩
   rw [show i64.wrap ((d:Int) - 1)=((d - 1:Nat):Int) by rw [qu (by omega)];omega]
   refine ih _ (hz ▸ hsz) ps rfl (d - 1) (by omega) (by unfold small;omega) hN.sl fun w' he'=>⟨_,rfl,ql (fun g=>?_) (fun g=>?_)⟩
   ·rw [heq,g] at h;exact h _ (qb he he')
   ·exact ⟨r.len,by simp,pre.app (.one kd t mm ps),r,by rw [Fo.app_one_app];exact hpr,by rw [qj (by omega)];simp [Fo.one],rfl,qb he he',by rw [heq,g];rfl⟩
 ·obtain ⟨rfl,rfl⟩:=Fo.last hpr (by omega)
  have:=h _ he
  rw [heq] at this
  exact this
def qnh (f:Fo):Bool :=
 if f.len≤4096∨4100 < f.len then !decide (f.size≤40∧f.depth≤20)||longF f 20 else decide (f.len < f.size)||longF f 20
theorem Great_spec {R:Ending→World→Prop} {S:Nat→Prop} {w:World} {a:Option Addr} {n c:Nat} {f:Fo} (hf:SlF S w a n f) (h:∀ w',Ext w w'→R (.returned (.bool (qnh f))) w') :
  Calls prog qrf ⟨[.slice a n c]⟩ w R:=by
 apply q4g
 have hn:=hf.1
 intro K hK
 have k:∀ g,g=decide (n≤4096∨4100 < n)→K g w:=by
  rintro _ rfl
  refine hK _ _ fun _=>qd (fun g=>?_) (fun g=>?_)
  ·refine qwi f 20 40 (by omega) (by omega) hf fun w1 e1=>?_
   unfold qnh at h
   rw [if_pos (by omega)] at h
   unfold szF
   split
   ·rename_i hh
    rw [decide_eq_true hh] at h
    refine ⟨_,_,_,rfl,?_⟩
    refine q6n f 20 (by omega) (by unfold small;omega) (hf.ext e1) fun w2 e2=>⟨_,rfl,h _ (qb e1 e2)⟩
   ·rename_i hh
    rw [decide_eq_false hh] at h
    exact ⟨_,_,_,rfl,h _ e1⟩
  ·unfold qnh at h
   rw [if_neg (by omega)] at h
   refine ⟨fun i W m=>∃ (pre r:Fo),f=pre.app r∧i=pre.len∧m=r.len∧Ext w W∧pre.size=pre.len,⟨_,.nil,f,rfl,rfl,rfl,Below.refl _ _,rfl⟩,?_⟩
   rintro _ W m ⟨pre,r,hpr,rfl,rfl,he,heq⟩ _
   refine qd (fun hlt=>?_) (fun hge=>?_)
   ·obtain ⟨kd,t,mm,ps,r,rfl⟩:=Fo.next hpr (by omega)
    have hsl:=Fo.sub_len hpr
    obtain ⟨q,a',c',hq,hSq,hql,hN⟩:=(hf.ext he).get hpr
    refine hq _ ⟨a',ps.len,c',hN.parts,qd (fun g1=>?_) (fun g1=>?_)⟩
    ·have e:f.len < f.size:=by
      have h1:=congrArg Fo.size hpr
      have h2:=congrArg Fo.len hpr
      have h3:=r.len_le_size
      have h4:=ps.len_le_size
      rw [Fo.size_app] at h1
      simp only [Fo.len_app,Fo.len_cons,Fo.size] at h1 h2
      omega
     rw [decide_eq_true e] at h
     exact h _ he
    ·have hp0:ps=.nil:=Fo.eq_nil_of_len (by omega)
     subst hp0
     exact ⟨r.len,by simp,pre.app (.one kd t mm .nil),r,by rw [Fo.app_one_app];exact hpr,by rw [qj (by omega)];simp [Fo.one],rfl,he,by rw [Fo.size_app];simp [Fo.one,Fo.size,heq]⟩
   ·obtain ⟨rfl,rfl⟩:=Fo.last hpr (by omega)
    rw [decide_eq_false (by omega)] at h
    refine q6n _ 20 (by omega) (by unfold small;rw [heq];omega) (hf.ext he) fun w2 e2=>⟨_,rfl,h _ (qb he e2)⟩
 exact qd (fun g=>k _ (by rw [decide_eq_true (by omega)])) (fun g=>k _ (by rw [decide_eq_decide];omega))
end Go.Proofs
namespace Go.Sh
open Go Go.RowKit
theorem round_in {W:World} {T:TypeId} {zs vs:List Value} {l:Nat} {B:Addr→World→World→Prop} (hl:l < W.heap.size) (hlen:vs.length=zs.length) (ho:∀ v∈vs,v.oneCell'=true)
  (h:∀ bx W1 W2,bx=W.heap.size→Ext W W1→Blk W2 bx vs T→Chg (fun k=>k=l) W W2→W2.heap.size=bx + 1→B ⟨bx,0,none⟩ W1 W2) :
  al W T zs fun p w1=>stL w1 p 0 vs fun w2=>Ext W w2∧∀ W2:World,Upd l w2 W2→B p w2 W2:=by
 refine qw hlen ho fun bx w1 hbx hBx e2 s2=>⟨e2,fun W2 hU=>?_⟩
 have zU:=hU.size
 have hUc:Chg (fun k=>k=l) w1 W2:=⟨hU.os,hU.tape,hU.output,by omega,fun k _ hk=>hU.block k hk⟩
 exact h bx w1 W2 hbx e2 (hBx.keep (hU.block bx (by omega))) ((Chg.of_ext e2).trans hUc) (by omega)
theorem RFw_count {α:Type} {P:Program} {N:Nat} {g:Operand} {ps:Array Tmp} {assign body:Code} {env:Env} {ds:List Deferred} {w:World} {x:Nat} {Qn Qr Qx:List Deferred→World→Prop}
  (xA xB:Ann) {gf:FuncId} {cap:List Value} (hg:ev env g=.func (.func gf) ⟨[]⟩ ⟨cap⟩) (hok:okFn P gf=true)
  {xs:List α} {E:α→List Value→Prop} {Rd:Nat→Prop} (hit:∀ w1,Ext w w1→IterO P gf cap xs E Rd w1)
  (hps:∀ y vs,E y vs→vs.length=ps.size) (hpN:∀ p∈ps.toList,p < N)
  (hRd:∀ k,Rd k→k < w.heap.size) {w0:World} (hw0:Ext w0 w) {b5:Nat} {T5:TypeId} (h0:w0.heap.size≤b5) (hn5:¬ Rd b5) (val:List α→Int) (B5:Blk w b5 [.int .i64 (val [])] T5)
  (hround:∀ pre y vs W l,E y vs→pre++[y] <+: xs→w.heap.size≤l→l < W.heap.size→b5≠l→Blk W b5 [.int .i64 (val pre)] T5→Ext w0 W →
   ∀ Kn Kr Kx:World→World→Prop,(∀ W2 W',Ext w0 W2→Chg (fun k=>k=b5) W2 W'→Blk W' b5 [.int .i64 (val (pre++[y]))] T5→Kn W2 W')→fragV P N xA xB assign body l x Kn Kr Kx (updPs ps.toList vs env) W)
  (hn:∀ D W,w.heap.size≤D→D < W.heap.size→b5≠D→W.heap[D]? = some (.deferred (some []))→Blk W b5 [.int .i64 (val xs)] T5→Ext w0 W→Qn ({ target:=.collected D,args:=#[] } :: ds) W) :
  RFw P none N (.rangeFunc g ps assign body) env ds w x Qn Qr Qx:=by
 have l5:=B5.lt
 refine qgh xA xB hg hok (xs:=xs) (E:=E) (Rd:=Rd) hit hps hpN hRd (fun k=>k=b5) (fun k hk=>⟨hk ▸ l5,hk ▸ hn5⟩)
  (fun pre S1 W=>Blk W b5 [.int .i64 (val pre)] T5∧(∀ k,S1 k↔k=b5)∧Ext w0 W) (fun _ _=>False) (fun _ _=>False)
  ?_ (fun _ _ _ h=>h.elim) (fun _ _ _ h=>h.elim) ⟨B5,fun k=>Iff.rfl,hw0⟩ ?_ ?_ (fun _ _ _ _ _ _ _ h=>h.elim) (fun _ _ _ _ _ _ _ h=>h.elim)
 ·rintro pre S1 W W' ⟨g1,g2,g3⟩ hc
  have z:=hw0.size
  refine ⟨hc.blk g1 (fun hh=>hh.2 ((g2 _).2 rfl)),g2,?_⟩
  exact g3.trans ⟨hc.os,hc.tape,hc.output,hc.size,fun k hk=>hc.block k (Nat.lt_of_lt_of_le hk g3.size) (fun hh=>by have:=hh.1;omega)⟩
 ·rintro pre y vs S1 W l hE hpre hl1 hl2 hl3 hS1 ⟨g1,g2,g3⟩
  have nl:b5≠l:=fun he=>hl3 ((g2 l).2 he.symm)
  refine hround pre y vs W l hE hpre hl1 hl2 nl g1 g3 _ _ _ fun W2 W' he hc hb=>⟨hc.mono fun k _ hk=>.inl ((g2 k).2 hk),fun k=>k=b5,fun k hk=>⟨.inl ((g2 k).2 hk),hk ▸ hb.lt⟩,hb,fun k=>Iff.rfl,?_⟩
  exact he.trans ⟨hc.os,hc.tape,hc.output,hc.size,fun k hk=>hc.block k (Nat.lt_of_lt_of_le hk he.size) (fun hh=>by omega)⟩
 ·rintro D S1 W hD1 hD2 hD3 hD4 ⟨g1,g2,g3⟩
  exact hn D W hD1 hD2 (fun he=>hD3 ((g2 D).2 he.symm)) hD4 g1 g3
end Go.Sh
namespace Go.Sh
open Go Go.RowKit
structure Enc (α:Type) where
 enc:α→List Value
 size:Nat
 len:∀ x,(enc x).length=size
 pos:0 < size
 one:∀ x,∀ v∈enc x,v.oneCell'=true
section
variable {α:Type} {E:Enc α}
def Enc.row (E:Enc α) (l:List α):List Value:=l.flatMap E.enc
@[simp] theorem row_nil:E.row []=[]:=rfl
theorem qf9 (x:α) (l:List α):E.row (x :: l)=E.enc x++E.row l:=rfl
theorem row_app (l m:List α):E.row (l++m)=E.row l++E.row m:=by simp [Enc.row]
theorem q3d (l:List α) (x:α):E.row (l++[x])=E.row l++E.enc x:=by simp [Enc.row]
theorem qc9:∀ l:List α,(E.row l).length=l.length * E.size
 | []=>by simp
 | x :: l=>by rw [qf9,List.length_append,E.len,qc9 l,List.length_cons,Nat.add_mul,Nat.one_mul];omega
theorem q8g {x:α}:∀ {l:List α} {i j:Nat},l[i]? = some x→j < E.size→(E.row l)[i * E.size + j]? = (E.enc x)[j]?
 | [],i,j,h,_=>by simp at h
 | y :: l,0,j,h,hj=>by
  simp at h;subst h
  rw [qf9,Nat.zero_mul,Nat.zero_add,List.getElem?_append_left (by rw [E.len];exact hj)]
 | y :: l,i + 1,j,h,hj=>by
  simp at h
  rw [qf9,List.getElem?_append_right (by rw [E.len,Nat.add_mul,Nat.one_mul];omega),E.len,show (i + 1) * E.size + j - E.size=i * E.size + j by rw [Nat.add_mul,Nat.one_mul];omega]
  exact q8g h hj
def RowAt (E:Enc α) (S:Nat→Prop) (w:World) (a:Option Addr) (n:Nat) (l:List α):Prop:=n=l.length∧At S w a (E.row l)
section
variable {S S':Nat→Prop} {w w':World} {a:Option Addr} {n:Nat} {l:List α}
theorem RowAt.keep (h:RowAt E S w a n l) (hs:∀ k,S k→k < w.heap.size→S' k∧w'.heap[k]? = w.heap[k]?) (hz:w.heap.size≤w'.heap.size):RowAt E S' w' a n l:=⟨h.1,h.2.keep hs hz⟩
theorem RowAt.ext (h:RowAt E S w a n l) (he:Ext w w'):RowAt E S w' a n l:=h.keep (fun k hk hl=>⟨hk,he.block k hl⟩) he.size
theorem RowAt.chg {T:Nat→Prop} (h:RowAt E S w a n l) (he:Chg T w w') (hd:∀ k,S k→¬ T k):RowAt E S w' a n l:=h.keep (fun k hk hl=>⟨hk,he.block k hl (hd k hk)⟩) he.size
theorem RowAt.imp (h:RowAt E S w a n l) (hs:∀ k,S k→k < w.heap.size→S' k):RowAt E S' w a n l:=h.keep (fun k hk hl=>⟨hs k hk hl,rfl⟩) (Nat.le_refl _)
theorem RowAt.nil (a:Option Addr):RowAt E S w a 0 []:=⟨rfl,.inl rfl⟩
theorem RowAt.get (h:RowAt E S w a n l) {i:Nat} {x:α} (hi:l[i]? = some x) :
  ∃ b o,(∀ K:Addr→Prop,K ⟨b,o,none⟩→idx a n (i:Int) E.size K)∧S b∧b < w.heap.size∧∀ j v,(E.enc x)[j]? = some v→w.cell? ⟨b,o + j,none⟩=some v:=by
 have hlt:=(List.getElem?_eq_some_iff.1 hi).1
 have hn:=h.1
 rcases h.2 with h2 | ⟨b,o,rfl,hb,hbl,hc⟩
 ·have:=congrArg List.length h2
  rw [qc9] at this
  simp only [List.length_nil] at this
  rcases Nat.mul_eq_zero.1 this with h | h
  ·omega
  ·have:=E.pos;omega
 refine ⟨b,o + i * E.size,fun K hK=>⟨by omega,by omega,?_⟩,hb,hbl,fun j v hj=>?_⟩
 ·show K _
  rw [qg,Int.toNat_natCast];exact hK
 ·rw [Nat.add_assoc]
  refine hc _ _ ?_
  rw [q8g hi (by have:=(List.getElem?_eq_some_iff.1 hj).1;rw [E.len] at this;exact this)];exact hj
end
abbrev OwnL (E:Enc α) (w:World) (B:Nat) (e:TypeId) (a:Option Addr) (n c:Nat) (l:List α):Prop:=Owns w B e E.size a n c (E.row l)
section
variable {w w':World} {B:Nat} {e:TypeId} {a:Option Addr} {n c:Nat} {l:List α}
theorem OwnL.length (h:OwnL E w B e a n c l):l.length=n:=by
 have:=h.len
 rw [qc9] at this
 exact Nat.eq_of_mul_eq_mul_right E.pos this
theorem OwnL.out (h:OwnL E w B e a n c l):RowAt E (bk a) w a n l:=by
 refine ⟨h.length.symm,?_⟩
 by_cases hn:0 < n
 ·obtain ⟨g,rfl,hg,hc⟩:=h.cell hn
  exact .inr ⟨g,0,rfl,by simp [bk],(h.bk (by simp [bk])).2,fun j v hj=>by rw [Nat.zero_add];exact hc j v hj⟩
 ·have hx:l=[]:=List.eq_nil_of_length_eq_zero (by rw [h.length];omega)
  subst hx
  exact .inl rfl
theorem OwnL.push {P:Program} {t ty:TypeId} {bytes:Nat} {z:Value} (hT:SlT P t e E.size bytes z) (h:OwnL E w B e a n c l) (hB:B≤w.heap.size) (x:α) (hlen:n + 1≤4611686018427387904) (hbytes:(n + 1) * bytes≤140737488355328) {K:Option Addr→Nat→Nat→World→Prop}
  (hk:∀ a' c'' w',OwnL E w' B e a' (n + 1) c'' (l++[x])→Chg (bk a) w w'→(∀ k,bk a' k→bk a k∨w.heap.size≤k)→K a' (n + 1) c'' w') :
  al w e (E.enc x) fun p w1=>app P [t,t] ty (.slice a n c) (.slice (some p) 1 1) w1 K :=
 qfd hT h hB _ (E.len x) (E.one x) hlen hbytes fun a' c'' w' ho hc hn=>hk a' c'' w' (by unfold OwnL;rw [q3d];exact ho) hc hn
end
theorem q3e (x:α) (n:Nat):E.row (List.replicate n x)=(List.replicate n (E.enc x)).flatten:=by
 induction n with
 | zero=>rfl
 | succ n ih=>rw [List.replicate_succ,qf9,ih,List.replicate_succ,List.flatten_cons]
theorem OwnL.made {w:World} {b B:Nat} {e:TypeId} {x:α} {n:Nat} (h:Blk w b (List.replicate n (E.enc x)).flatten e) (hB:B≤b) (hn:n≤maxLen):OwnL E w B e (some ⟨b,0,none⟩) n n (List.replicate n x):=by
 rw [← q3e] at h
 refine ⟨by rw [qc9,List.length_replicate],.inr ⟨b,n,_,rfl,hB,h,Nat.le_refl _,hn,?_,?_⟩⟩
 ·show (E.row (List.replicate n x)).length=n * E.size
  rw [qc9,List.length_replicate]
 ·show List.take _ (E.row _)=_
  rw [List.take_of_length_le (by rw [qc9,List.length_replicate];exact Nat.le_refl _)]
end
def encI:Enc Int:=⟨fun i=>[.int .i64 i],1,fun _=>rfl,by decide,by intro x v hv;simp only [List.mem_singleton] at hv;subst hv;rfl⟩
def encStr:Enc (List UInt8):=⟨fun s=>[.string ⟨⟨s⟩⟩],1,fun _=>rfl,by decide,by intro x v hv;simp only [List.mem_singleton] at hv;subst hv;rfl⟩
end Go.Sh
namespace Go.Proofs
open Go Go.Sh Go.RowKit
abbrev Ps:=List UInt8 × Int
def encP:Enc Ps:=⟨fun x=>[.string ⟨⟨x.1⟩⟩,.int .i64 x.2],2,fun _=>rfl,by decide,by intro x v hv;simp only [List.mem_cons,List.not_mem_nil,or_false] at hv;rcases hv with rfl | rfl <;> rfl⟩
def posN (at_:Ps) (x:Nn):Ps × Nat :=
 if x.k=1 then (at_,x.t.length) else if x.k=6 then (at_,x.n.toNat) else if x.k=3 then ((x.t,0),0) else if x.k=2 then ((at_.1,at_.2 + 1),0) else (at_,0)
def endL:Ps→List Nn→Ps
 | p,[]=>p
 | p,x :: l=>endL (posN p x).1 l
theorem qpv:∀ (l:List Nn) (p:Ps) (m:List Nn),endL p (l++m)=endL (endL p l) m
 | [],_,_=>rfl
 | x :: l,p,m=>by simp only [List.cons_append,endL,qpv l]
theorem endL_bd:∀ (l:List Nn) (p:Ps) (B:Int),0≤p.2→p.2≤B→0≤B→0≤(endL p l).2∧(endL p l).2≤B + l.length
 | [],p,B,h0,h1,h2=>⟨h0,by simp [endL];omega⟩
 | x :: l,p,B,h0,h1,h2=>by
  rw [endL]
  have key:0≤(posN p x).1.2∧(posN p x).1.2≤B + 1:=by
   unfold posN
   split
   ·exact ⟨h0,by show p.2≤_;omega⟩
   ·split
    ·exact ⟨h0,by show p.2≤_;omega⟩
    ·split
     ·exact ⟨Int.le_refl _,by show (0:Int)≤_;omega⟩
     ·split
      ·exact ⟨by show 0≤p.2 + 1;omega,by show p.2 + 1≤_;omega⟩
      ·exact ⟨h0,by show p.2≤_;omega⟩
  have:=endL_bd l (posN p x).1 (B + 1) key.1 key.2 (by omega)
  exact ⟨this.1,by simp only [List.length_cons];omega⟩
def PSt (b6 b10 B:Nat) (W:World) (oa:Option Addr) (L:List Ps) (p:Ps):Prop :=
 ∃ oc,Blk W b6 [.slice oa L.length oc] 83∧OwnL encP W B 51 oa L.length oc L∧Blk W b10 [.string ⟨⟨p.1⟩⟩,.int .i64 p.2] 51
structure PTo (b6 b10:Nat) (oa:Option Addr) (W:World) (oa':Option Addr) (W':World):Prop where
 chg:Chg (fun j=>j=b6∨j=b10∨bk oa j) W W'
 bk:∀ k,Sh.bk oa' k→Sh.bk oa k∨W.heap.size≤k
section
variable {b6 b10 B:Nat} {W W' W'':World} {oa oa' oa'':Option Addr} {L:List Ps} {p:Ps}
theorem PSt.bk (h:PSt b6 b10 B W oa L p) {k:Nat} (hk:Sh.bk oa k):B≤k∧k < W.heap.size:=by
 obtain ⟨oc,h1,h2,h3⟩:=h
 exact Owns.bk h2 hk
end
theorem blk2 {w:World} {b:Nat} {v0 v1:Value} {T:TypeId} (h:Blk w b [v0,v1] T):w.cell? ((⟨b,0,none⟩:Addr).add 0)=some v0∧w.cell? ((⟨b,0,none⟩:Addr).add 1)=some v1:=by
 simp only [qg,h.cell];exact ⟨rfl,rfl⟩
end Go.Proofs
namespace Go.Sh
open Go Go.RowKit
open Go.WideElems (Fit)
open Go.Maps (Keyed)
def anyV:Value→Option (DataW Unit × List MemPlace):=fun _=>some (.nil,[])
def MapT {K V:Type} (P:Program) (k:TypeId) (eK:K→Value) (eV:V→Value) (w:World) (b n:Nat) (f:K→Option V):Prop :=
 ∃ es clock,w.heap[b]? = some (.map es clock)∧Fit P k anyV es clock∧es.size≤n ∧
  ∀ x,(f x=none∧∀ e∈es.toList,e.key≠eK x)∨∃ v,f x=some v∧∃ e∈es.toList,e.key=eK x∧e.val=eV v
section
variable {K V:Type} {P:Program} {k t e:TypeId} {eK:K→Value} {eV:V→Value} {w w':World} {b n:Nat} {f:K→Option V}
theorem MapT.made (w:World):MapT P k eK eV (w.alloc (.map #[] 0)) w.heap.size 0 (fun _=>none) :=
 ⟨#[],0,(MapKept.heap_alloc w _).1,⟨by simp,MapKept.stamped_empty 0,by simp⟩,Nat.le_refl _,fun x=>.inl ⟨rfl,by simp⟩⟩
theorem MapT.lt (h:MapT P k eK eV w b n f):b < w.heap.size:=by
 obtain ⟨es,clock,hb,_⟩:=h
 exact (Array.getElem?_eq_some_iff.1 hb).1
theorem MapT.keep (h:MapT P k eK eV w b n f) (hw:w'.heap[b]? = w.heap[b]?):MapT P k eK eV w' b n f:=by
 obtain ⟨es,clock,hb,h⟩:=h
 exact ⟨es,clock,hw.trans hb,h⟩
theorem MapT.ext (h:MapT P k eK eV w b n f) (hw:Ext w w'):MapT P k eK eV w' b n f:=h.keep (hw.block b h.lt)
theorem MapT.chg {S:Nat→Prop} (h:MapT P k eK eV w b n f) (hw:Chg S w w') (hs:¬ S b):MapT P k eK eV w' b n f:=h.keep (hw.block b h.lt hs)
theorem MapT.mono (h:MapT P k eK eV w b n f) {m:Nat} (hm:n≤m):MapT P k eK eV w b m f:=by
 obtain ⟨es,clock,hb,F,hs,h⟩:=h
 exact ⟨es,clock,hb,F,Nat.le_trans hs hm,h⟩
theorem MapT.look (h:MapT P k eK eV w b n f) (Kd:Keyed P k) (ht:P.underlying t=some (.map k e)) {z:Value} (hz:(zeroValue e).run P w=.ok z w) {x:K} {kl:Lit} (hkey:keyOf P k (eK x)=some kl) :
  lkAt P t (.map (some b)) (eK x) w (((f x).map eV).getD z):=by
 obtain ⟨es,clock,hb,F,_,hf⟩:=h
 unfold lkAt
 rcases Maps.fit_look false Kd ht hz hb F hkey with ⟨hrun,hno,_⟩ | ⟨e0,y,h1,h2,hrun,_⟩
 ·rcases hf x with ⟨h0,_⟩ | ⟨v,_,e1,he1,hk1,_⟩
  ·rw [h0];exact hrun
  ·exact absurd hk1 (hno e1 he1)
 ·rcases hf x with ⟨_,h0⟩ | ⟨v,hv,e1,he1,hk1,hv1⟩
  ·exact absurd h2 (h0 e0 h1)
  ·rw [hv]
   have:e0=e1:=by
    have hn:es.toList.Pairwise (fun x y=>x.key≠y.key):=((MapKept.stamped_iff es clock).1 F.stamped).2.2
    obtain ⟨i,hi,rfl⟩:=List.getElem_of_mem h1
    obtain ⟨j,hj,rfl⟩:=List.getElem_of_mem he1
    have:i=j:=by
     apply Classical.byContradiction
     intro hne
     rcases Nat.lt_or_gt_of_ne hne with hl | hl
     ·exact List.pairwise_iff_getElem.1 hn i j hi hj hl (h2.trans hk1.symm)
     ·exact List.pairwise_iff_getElem.1 hn j i hj hi hl (hk1.trans h2.symm)
    subst this;rfl
   subst this
   rw [hv1] at hrun
   simpa using hrun
theorem MapT.look2 (h:MapT P k eK eV w b n f) (Kd:Keyed P k) (ht:P.underlying t=some (.map k e)) {z:Value} (hz:(zeroValue e).run P w=.ok z w) {x:K} {kl:Lit} (hkey:keyOf P k (eK x)=some kl) :
  lkAt2 P t (.map (some b)) (eK x) w (((f x).map eV).getD z) (f x).isSome:=by
 obtain ⟨es,clock,hb,F,_,hf⟩:=h
 unfold lkAt2
 rcases Maps.fit_look true Kd ht hz hb F hkey with ⟨hrun,hno,_⟩ | ⟨e0,y,h1,h2,hrun,_⟩
 ·rcases hf x with ⟨h0,_⟩ | ⟨v,_,e1,he1,hk1,_⟩
  ·rw [h0];exact hrun
  ·exact absurd hk1 (hno e1 he1)
 ·rcases hf x with ⟨_,h0⟩ | ⟨v,hv,e1,he1,hk1,hv1⟩
  ·exact absurd h2 (h0 e0 h1)
  ·rw [hv]
   have:e0=e1:=by
    have hn:es.toList.Pairwise (fun x y=>x.key≠y.key):=((MapKept.stamped_iff es clock).1 F.stamped).2.2
    obtain ⟨i,hi,rfl⟩:=List.getElem_of_mem h1
    obtain ⟨j,hj,rfl⟩:=List.getElem_of_mem he1
    have:i=j:=by
     apply Classical.byContradiction
     intro hne
     rcases Nat.lt_or_gt_of_ne hne with hl | hl
     ·exact List.pairwise_iff_getElem.1 hn i j hi hj hl (h2.trans hk1.symm)
     ·exact List.pairwise_iff_getElem.1 hn j i hj hi hl (hk1.trans h2.symm)
    subst this;rfl
   subst this
   rw [hv1] at hrun
   simpa using hrun
theorem MapT.update (h:MapT P k eK eV w b n f) (Kd:Keyed P k) (ht:P.underlying t=some (.map k e)) (hn:n < maxLen) {x:K} {v:V} {kl:Lit} (hkey:keyOf P k (eK x)=some kl) (hinj:∀ y,eK y=eK x→y=x) {Q:World→Prop}
  (hq:∀ (w':World) (g:K→Option V),MapT P k eK eV w' b (n + 1) g→Chg (fun j=>j=b) w w'→g x=some v→(∀ y,y≠x→g y=f y)→Q w'):mupd P t (.map (some b)) (eK x) (eV v) w Q:=by
 have hlt:=h.lt
 obtain ⟨es,clock,hb,F,hs,hf⟩:=h
 have hsz:es.size < maxLen:=Nat.lt_of_le_of_lt hs hn
 have chg:∀ o,Chg (fun j=>j=b) w (ChangeMaps.setBlock w b o):=fun o=>⟨rfl,rfl,rfl,by simp [ChangeMaps.setBlock],fun i _ hi=>ChangeMaps.heap_setBlock_other hb _ hi⟩
 have fin:∀ es' clock',(Instr.mapUpdate t (.map (some b)) (eK x) (eV v)).run P w=.ok () (ChangeMaps.setBlock w b (.map es' clock'))→Fit P k anyV es' clock'→es'.size≤n + 1 →
   (∃ e1∈es'.toList,e1.key=eK x∧e1.val=eV v)→(∀ e0∈es.toList,e0.key≠eK x→e0∈es'.toList)→(∀ e1∈es'.toList,e1.key≠eK x→e1∈es.toList) →
   mupd P t (.map (some b)) (eK x) (eV v) w Q:=by
  intro es' clock' hrun F' hs' hnew hold hback
  classical
  refine ⟨_,hrun,hq _ (fun y=>if y=x then some v else f y) ⟨es',clock',ChangeMaps.heap_setBlock_same hb _,F',hs',fun y=>?_⟩ (chg _) (by simp) (fun y hy=>by simp [hy])⟩
  by_cases hy:y=x
  ·subst hy
   obtain ⟨e1,h1,h2,h3⟩:=hnew
   exact .inr ⟨v,by simp,e1,h1,h2,h3⟩
  ·have hne:eK y≠eK x:=fun e=>hy (hinj y e)
   rcases hf y with ⟨h0,h1⟩ | ⟨u,hu,e1,h1,h2,h3⟩
   ·refine .inl ⟨by simp [hy,h0],fun e1 he1 hk=>?_⟩
    exact h1 e1 (hback e1 he1 (by rw [hk];exact hne)) hk
   ·exact .inr ⟨u,by simp [hy,hu],e1,hold e1 h1 (by rw [h2];exact hne),h2,h3⟩
 rcases Kd.find w hkey es.toList F.keys with ⟨h1,h2⟩ | ⟨j,e0,h1,h2,h3⟩
 ·refine fin (es.push ⟨eK x,eV v,clock⟩) (clock + 1) ?_ ⟨by simp;omega,MapKept.stamped_push F.stamped h2,?_⟩ (by simp;omega) ⟨⟨eK x,eV v,clock⟩,by simp,rfl,rfl⟩ (fun e0 h0 _=>by simp at h0 ⊢;exact .inl h0) (fun e1 h1 hne=>?_)
  ·simp [Instr.mapUpdate,run_underlying ht,MapKept.run_getObj_map hb,Kd.check w false hkey,h1,MapKept.run_setObj_map _ hb,Result.andThen,ChangeMaps.setBlock]
  ·intro y hy
   simp only [Array.toList_push,List.mem_append,List.mem_singleton] at hy
   rcases hy with hy | rfl
   ·exact F.reads y hy
   ·exact ⟨_,WideElems.rd_mk hkey rfl⟩
  ·simp only [Array.toList_push,List.mem_append,List.mem_singleton] at h1
   rcases h1 with h1 | rfl
   ·exact h1
   ·exact absurd rfl hne
 ·have hj:es[j]? = some e0:=by simpa using h2
  have hjl:j < es.toList.length:=(List.getElem?_eq_some_iff.1 h2).1
  have hkeyf:∀ e',es[j]? = some e'→({ e' with key:=eK x,val:=eV v }:MapEntry).key=e'.key:=fun e' he'=>by rw [hj] at he';cases he';exact h3.symm
  have hlist:(es.modify j (fun e'=>{ e' with key:=eK x,val:=eV v })).toList=es.toList.set j { e0 with key:=eK x,val:=eV v }:=by
   apply List.ext_getElem?
   intro i
   simp only [Array.getElem?_toList,Array.getElem?_modify,List.getElem?_set]
   by_cases hi:j=i
   ·subst hi;simp [hj];exact (Array.getElem?_eq_some_iff.1 hj).1
   ·simp [hi]
  refine fin (es.modify j (fun e'=>{ e' with key:=eK x,val:=eV v })) clock ?_ ⟨by simpa using F.size,MapKept.stamped_modify F.stamped _ _ (fun _ _=>rfl) (fun e' _ he'=>hkeyf e' he'),?_⟩ (by simp;omega) ?_ ?_ ?_
  ·simp [Instr.mapUpdate,run_underlying ht,MapKept.run_getObj_map hb,Kd.check w false hkey,h1,hj,h3,Kd.stays w hkey,MapKept.run_setObj_map _ hb,Result.andThen,ChangeMaps.setBlock]
  ·intro y hy
   rw [hlist] at hy
   rcases List.mem_or_eq_of_mem_set hy with hy | rfl
   ·exact F.reads y hy
   ·exact ⟨_,WideElems.rd_mk hkey rfl⟩
  ·exact ⟨{ e0 with key:=eK x,val:=eV v },by rw [hlist];exact List.mem_iff_getElem.2 ⟨j,by simpa using hjl,by simp⟩,rfl,rfl⟩
  ·intro y hy hne
   rw [hlist]
   obtain ⟨i,hi,rfl⟩:=List.getElem_of_mem hy
   have hij:j≠i:=fun e=>by
    subst e
    have:es.toList[j]=e0:=by rw [List.getElem?_eq_getElem hjl] at h2;exact Option.some.inj h2
    rw [this] at hne;exact hne h3
   exact List.mem_iff_getElem.2 ⟨i,by simpa using hi,by rw [List.getElem_set_ne hij]⟩
  ·intro y hy hne
   rw [hlist] at hy
   rcases List.mem_or_eq_of_mem_set hy with hy | rfl
   ·exact hy
   ·exact absurd rfl hne
end
theorem qpi {w:World} {K:Nat→World→Prop}
  (h:∀ b w',b=w.heap.size→(∀ {A V:Type} (P:Program) (k:TypeId) (eK:A→Value) (eV:V→Value),MapT P k eK eV w' b 0 (fun _=>none))→Ext w w'→w'.heap.size=b + 1→K b w'):mkm w K :=
 h _ _ rfl (fun P k eK eV=>MapT.made w) ((Below.refl _ w).alloc (Nat.le_refl _) _) (by simp)
end Go.Sh
namespace Go.Proofs
open Go Go.Sh Go.RowKit Go.Proofs.Tryz IntKind
def ofK (kind:Int) (f:Fo):List Nn:=(qo f).filter fun x=>decide (x.k=kind)
theorem ofK_cons (kind:Int) (k t n) (ps r:Fo):ofK kind (.cons k t n ps r)=(if k=kind then [⟨k,t,n,ps⟩] else [])++(ofK kind ps++ofK kind r):=by
 unfold ofK
 rw [qo,List.filter_cons,List.filter_append]
 by_cases h:k=kind
 ·simp [h]
 ·simp [h]
theorem kd9:Maps.Keyed prog 9:=Maps.string_keyed (by kernel_rfl)
abbrev eS (s:List UInt8):Value:=.string ⟨⟨s⟩⟩
abbrev eB (b:Bool):Value:=.bool b
theorem keyS {s:List UInt8} (h:s.length≤4611686018427387904):keyOf prog 9 (eS s)=some (.string s) :=
 WideMaps.keyOf_string_mk (P:=prog) (by kernel_rfl) (show (⟨⟨s⟩⟩:ByteArray).size≤maxLen by simp only [maxLen];show s.length≤_;omega)
theorem qvr {P:Program} {T:TypeId} {v:Value} (h:(P.info? T).bind (·.zero)=some v) (w:World):(zeroValue T).run P w=.ok v w:=by
 cases hi:P.info? T with
 | none=>rw [hi] at h;cases h
 | some i =>
  rw [hi] at h
  have hz:i.zero=some v:=h
  simp [zeroValue,typeInfo,hi,hz]
abbrev Rw:=List UInt8 × List UInt8
def encRw:Enc Rw:=⟨fun x=>[.string ⟨⟨x.1⟩⟩,.string ⟨⟨x.2⟩⟩],2,fun _=>rfl,by decide,by intro x v hv;simp only [List.mem_cons,List.not_mem_nil,or_false] at hv;rcases hv with rfl | rfl <;> rfl⟩
theorem row_build {α:Type} {E:Enc α} {w:World} {a:Addr} {len:Nat} (hel:∀ i,i < len→∃ x:α,∀ j v,(E.enc x)[j]? = some v→w.cell? ((a.add (i * E.size)).add j)=some v) :
  ∃ L:List α,RowAt E (fun _=>True) w (some a) len L:=by
 by_cases hl0:len=0
 ·subst hl0;exact ⟨[],RowAt.nil _⟩
 obtain ⟨b,o,rfl⟩:∃ b o,a=⟨b,o,none⟩:=by
  obtain ⟨x,hx⟩:=hel 0 (by omega)
  have hp:=E.pos
  have h0:=hx 0 _ (List.getElem?_eq_getElem (by rw [E.len];exact hp))
  obtain ⟨b,o,spot⟩:=a
  have hspot:spot=none:=by simpa [Addr.add] using World.cell?_spot h0
  subst hspot
  exact ⟨b,o,rfl⟩
 have build:∀ k,k≤len→∃ L:List α,L.length=k∧∀ j v,(E.row L)[j]? = some v→w.cell? ((⟨b,o,none⟩:Addr).add j)=some v:=by
  intro k
  induction k with
  | zero=>exact fun _=>⟨[],rfl,fun j v hj=>by simp at hj⟩
  | succ k ihk =>
   intro hk
   obtain ⟨L,hL,hus⟩:=ihk (by omega)
   obtain ⟨x,hx⟩:=hel k (by omega)
   refine ⟨L++[x],by simp [hL],fun j v hj=>?_⟩
   rw [q3d] at hj
   by_cases hlt:j < (E.row L).length
   ·rw [List.getElem?_append_left hlt] at hj
    exact hus j v hj
   ·rw [List.getElem?_append_right (by omega)] at hj
    have:=hx _ _ hj
    rw [qg,qg] at this
    rw [qc9,hL] at this hlt
    rw [qg,show o + j=o + k * E.size + (j - k * E.size) by omega]
    exact this
 obtain ⟨L,hL,hus⟩:=build len (Nat.le_refl _)
 refine ⟨L,hL.symm,?_⟩
 cases hr:E.row L with
 | nil=>exact .inl rfl
 | cons u us =>
  rw [hr] at hus
  have h0:=hus 0 u rfl
  refine .inr ⟨b,o,rfl,trivial,?_,fun j v hj=>?_⟩
  ·have:=World.block_lt_of_cell? w _ h0
   simpa [Addr.add] using this
  ·have:=hus j v hj
   rw [qg] at this;exact this
structure Lx where
 k:Int
 nm:List UInt8
 vl:List UInt8
 pos:Int
def encX:Enc Lx:=⟨fun x=>[.int .i64 x.k,.string ⟨⟨x.nm⟩⟩,.string ⟨⟨x.vl⟩⟩,.int .i64 x.pos],4,fun _=>rfl,by decide,by intro x v hv;simp only [List.mem_cons,List.not_mem_nil,or_false] at hv;rcases hv with rfl | rfl | rfl | rfl <;> rfl⟩
abbrev aggX (x:Lx):Value:=.agg ⟨[.int .i64 x.k,.string ⟨⟨x.nm⟩⟩,.string ⟨⟨x.vl⟩⟩,.int .i64 x.pos]⟩
def innF (nm vl:List UInt8):List UInt8:=if vl≠[] then nm++([32]++vl) else nm
def textF (x:Lx):List UInt8 :=
 if x.k=2 then ([60]++innF x.nm x.vl)++[62] else if x.k=3 then ([60,47]++innF x.nm x.vl)++[62] else if x.k=4 then ([60]++innF x.nm x.vl)++[47,62] else x.vl
theorem blk4x {w:World} {b:Nat} {x:Lx} {T:TypeId} (h:Blk w b [.int .i64 x.k,.string ⟨⟨x.nm⟩⟩,.string ⟨⟨x.vl⟩⟩,.int .i64 x.pos] T) :
  w.cell? ((⟨b,0,none⟩:Addr).add 0)=some (.int .i64 x.k)∧w.cell? ((⟨b,0,none⟩:Addr).add 1)=some (.string ⟨⟨x.nm⟩⟩)∧w.cell? ((⟨b,0,none⟩:Addr).add 2)=some (.string ⟨⟨x.vl⟩⟩)∧w.cell? ((⟨b,0,none⟩:Addr).add 3)=some (.int .i64 x.pos):=by
 simp only [qg,h.cell];exact ⟨rfl,rfl,rfl,rfl⟩
theorem q1u {R:Ending→World→Prop} {w:World} (x:Lx) (h1:x.nm.length≤1000000000) (h2:x.vl.length≤1000000000) (h:∀ w',Ext w w'→R (.returned (.string ⟨⟨textF x⟩⟩)) w'):Calls prog qio ⟨[aggX x]⟩ w R:=by
 apply q4k
 refine qh fun b5 w6 hb5 B5 e6 s6=>?_
 obtain ⟨c0,c1,c2,c3⟩:=blk4x B5
 have hr:=h w6 e6
 unfold textF at hr
 refine ⟨_,c1,?_⟩
 intro K8 hK8
 have k8:∀ inner,inner=innF x.nm x.vl→inner.length≤3000000000→K8 inner w6:=by
  rintro _ rfl hl
  refine hK8 _ _ fun _=>⟨_,c0,qd (fun g=>?_) (fun g2=>qd (fun g=>?_) (fun g3=>qd (fun g=>?_) (fun g4=>⟨_,c2,?_⟩)))⟩
  ·rw [if_pos g] at hr
   exact ⟨by simp;omega,by simp;omega,hr⟩
  ·rw [if_neg g2,if_pos g] at hr
   exact ⟨by simp;omega,by simp;omega,hr⟩
  ·rw [if_neg g2,if_neg g3,if_pos g] at hr
   exact ⟨by simp;omega,by simp;omega,hr⟩
  ·rw [if_neg g2,if_neg g3,if_neg g4] at hr
   exact hr
 refine ⟨_,c2,qd (fun g=>⟨_,c2,by simp;omega,by simp;omega,k8 _ ?_ ?_⟩) (fun g=>k8 _ ?_ ?_)⟩
 ·unfold innF;rw [if_pos g]
 ·simp;omega
 ·unfold innF;rw [if_neg g]
 ·omega
theorem qxg {R:Ending→World→Prop} {w:World} (s:List UInt8) (h:R (.returned (.bool (decide (s=[])))) w):Calls prog qrl ⟨[.string ⟨⟨s⟩⟩]⟩ w R:=q4n h
theorem qxe {R:Ending→World→Prop} {w:World} (n:Int) (h:∀ b w',b=w.heap.size→Blk w' b [.int .i64 n] 3→Ext w w'→w'.heap.size=b + 1→R (.returned (.func (.func 284) ⟨[]⟩ ⟨[.pointer (some ⟨b,0,none⟩)]⟩)) w'):Calls prog qk0 ⟨[.int .i64 n]⟩ w R:=by
 apply qye
 exact qh fun b w' hb B e s=>h b w' hb B e s
def cutX (t:List UInt8):Nat :=
 if t.head? = some 60 then (if 0≤Lib.indexByte t 62 then (Lib.indexByte t 62).toNat + 1 else t.length)
 else if 0≤Lib.indexByte t 60 then (Lib.indexByte t 60).toNat else t.length
theorem qso {c:UInt8} {r:List UInt8}:1≤cutX (c :: r)∧cutX (c :: r)≤(c :: r).length:=by
 have lt:∀ {x:UInt8},0≤Lib.indexByte (c :: r) x→(Lib.indexByte (c :: r) x).toNat < (c :: r).length:=fun {x} hx=>by
  obtain ⟨h1,_⟩:=Lib.indexByte_some (l:=c :: r) (c:=x) (o:=(Lib.indexByte (c :: r) x).toNat) (by omega)
  exact (List.getElem?_eq_some_iff.1 h1).1
 unfold cutX
 split
 ·split
  ·rename_i h;have:=lt h;omega
  ·simp
 ·rename_i hc
  split
  ·rename_i h
   have:=lt h
   obtain ⟨h1,_⟩:=Lib.indexByte_some (l:=c :: r) (c:=60) (o:=(Lib.indexByte (c :: r) 60).toNat) (by omega)
   refine ⟨?_,by omega⟩
   apply Classical.byContradiction
   intro h0
   have:(Lib.indexByte (c :: r) 60).toNat=0:=by omega
   rw [this] at h1
   simp at h1 hc
   exact hc h1
  ·simp
def qbd:List UInt8→Nat→List (Nat × List UInt8)
 | [],_=>[]
 | c :: r,at_=>(at_,(c :: r).take (cutX (c :: r))) :: qbd ((c :: r).drop (cutX (c :: r))) (at_ + cutX (c :: r))
 termination_by t=>t.length
 decreasing_by
  have:=qso (c:=c) (r:=r)
  rw [List.length_drop];omega
structure TagV where
 nm:List UInt8
 em:Bool
 f:Fn
 fa:Array Value
 fb:Array Value
def encT:Enc TagV:=⟨fun x=>[.string ⟨⟨x.nm⟩⟩,.bool x.em,.func x.f x.fa x.fb],3,fun _=>rfl,by decide,by intro x v hv;simp only [List.mem_cons,List.not_mem_nil,or_false] at hv;rcases hv with rfl | rfl | rfl <;> rfl⟩
def tagsV (b8 b64:Nat):List TagV :=
 let hand:List UInt8→TagV:=fun nm=>⟨nm,false,.func 284,⟨[]⟩,⟨[.pointer (some ⟨b8,0,none⟩)]⟩⟩
 [⟨[97,98],false,.func 174,#[],#[]⟩,hand [97,100,100],hand [100,101,108],⟨[103,97,112],true,.func 284,⟨[]⟩,⟨[.pointer (some ⟨b64,0,none⟩)]⟩⟩,⟨[108,98],true,.func 276,#[],#[]⟩,⟨[110,97,109,101],false,.func 90,#[],#[]⟩,
  ⟨[112,98],true,.func 90,#[],#[]⟩,⟨[115,101,99],true,.func 90,#[],#[]⟩,⟨[117,110,99,108,101,97,114],false,.func 276,#[],#[]⟩,⟨[118],true,.func 276,#[],#[]⟩]
theorem tags_spec {R:Ending→World→Prop} {w:World}
  (h:∀ b8 b64 bt w',w.heap.size≤b8→w.heap.size≤b64→Blk w' b8 [.int .i64 8] 3→Blk w' b64 [.int .i64 64] 3→RowAt encT (fun k=>w.heap.size≤k) w' (some ⟨bt,0,none⟩) 10 (tagsV b8 b64)→Ext w w'→R (.returned (.slice (some ⟨bt,0,none⟩) 10 10)) w') :
  Calls prog qrj ⟨[]⟩ w R:=by
 apply q4l
 refine qxe 8 fun b8 w2 hb8 B8 e2 s2=>⟨_,_,_,rfl,?_⟩
 refine qxe 64 fun b64 w5 hb64 B64 e5 s5=>⟨_,_,_,rfl,?_⟩
 refine qh fun bt w8 hbt Bt e8 s8=>?_
 refine h b8 b64 bt w8 (by omega) (by omega) ((B8.ext e5).ext e8) (B64.ext e8) ⟨rfl,.inr ⟨bt,0,rfl,by show w.heap.size≤bt;omega,Bt.lt,fun j v hj=>?_⟩⟩ (qb (qb e2 e5) e8)
 rw [Nat.zero_add,Bt.cell];exact hj
theorem get_tag {S:Nat→Prop} {w:World} {a:Option Addr} {n:Nat} {L:List TagV} (h:RowAt encT S w a n L) {k:Nat} (hk:k < L.length) :
  ∃ q:Addr,(∀ K:Addr→Prop,K q→idx a n (k:Int) 3 K)∧w.cell? (q.add 0)=some (.string ⟨⟨L[k].nm⟩⟩)∧w.cell? (q.add 1)=some (.bool L[k].em)∧w.cell? (q.add 2)=some (.func L[k].f L[k].fa L[k].fb):=by
 obtain ⟨bb,o,hq,_,_,hc⟩:=h.get (i:=k) (x:=L[k]) (List.getElem?_eq_getElem hk)
 exact ⟨⟨bb,o,none⟩,hq,by rw [qg];exact hc 0 _ rfl,by rw [qg];exact hc 1 _ rfl,by rw [qg];exact hc 2 _ rfl⟩
def tagAt (b8 b64:Nat) (nm:List UInt8):Option TagV:=(tagsV b8 b64).find? fun x=>decide (x.nm=nm)
theorem blk3 {w:World} {b:Nat} {v0 v1 v2:Value} {T:TypeId} (h:Blk w b [v0,v1,v2] T):w.cell? ((⟨b,0,none⟩:Addr).add 0)=some v0∧w.cell? ((⟨b,0,none⟩:Addr).add 1)=some v1∧w.cell? ((⟨b,0,none⟩:Addr).add 2)=some v2:=by
 simp only [qg,h.cell];exact ⟨rfl,rfl,rfl⟩
theorem qxw {R:Ending→World→Prop} {w:World} (nm:List UInt8)
  (h1:∀ b8 b64 w' x,w.heap.size≤b8→w.heap.size≤b64→Blk w' b8 [.int .i64 8] 3→Blk w' b64 [.int .i64 64] 3→tagAt b8 b64 nm=some x→Ext w w'→R (.returned (.tuple ⟨[.agg ⟨[.string ⟨⟨nm⟩⟩,.bool x.em,.func x.f x.fa x.fb]⟩,.bool true]⟩)) w')
  (h2:∀ w',(∀ b8 b64,tagAt b8 b64 nm=none)→Ext w w'→R (.returned (.tuple ⟨[.agg ⟨[.string ⟨⟨[]⟩⟩,.bool false,.nilFunc]⟩,.bool false]⟩)) w') :
  Calls prog qrm ⟨[.string ⟨⟨nm⟩⟩]⟩ w R:=by
 apply q4o
 refine qh fun b2 w3 hb2 B2 e3 s3=>?_
 refine tags_spec fun b8 b64 bt w5 hb8 hb64 B8 B64 hT e5=>⟨_,_,_,rfl,?_⟩
 have E5:=qb e3 e5
 have hlen:(tagsV b8 b64).length=10:=rfl
 have hna:∀ b8' b64',tagAt b8 b64 nm=none→tagAt b8' b64' nm=none:=by
  intro b8' b64' hn
  unfold tagAt at hn ⊢
  rw [List.find?_eq_none] at hn ⊢
  intro x hx
  have hm:(tagsV b8 b64).map (·.nm)=(tagsV b8' b64').map (·.nm):=rfl
  have:x.nm∈(tagsV b8 b64).map (·.nm):=by rw [hm];exact List.mem_map_of_mem hx
  obtain ⟨y,hy,hxy⟩:=List.mem_map.1 this
  have:=hn y hy
  rw [← hxy];exact this
 refine ⟨fun i W m=>∃ k:Nat,i=k∧k≤10∧m=10 - k∧((tagsV b8 b64).take k).all (fun x=>decide (x.nm≠nm))=true∧Ext w5 W,⟨_,0,rfl,by omega,rfl,rfl,Below.refl _ _⟩,?_⟩
 rintro _ W m ⟨k,rfl,hk,rfl,hall,he⟩ _
 have EW:=qb E5 he
 have B2':=(B2.ext e5).ext he
 have z3:=e3.size
 refine qd (fun hlt=>?_) (fun hge=>?_)
 ·have hkL:k < (tagsV b8 b64).length:=by rw [hlen];omega
  obtain ⟨q,hq,c0,c1,c2⟩:=get_tag (hT.ext he) hkL
  refine hq _ ⟨_,c0,_,c1,_,c2,?_⟩
  refine qw (by simp) (by intro u hu;simp only [List.mem_cons,List.not_mem_nil,or_false] at hu;rcases hu with rfl | rfl | rfl <;> rfl) fun bx w18 hbx hBx e18 s18=>?_
  obtain ⟨y0,y1,y2⟩:=blk3 hBx
  have z18:=e18.size
  refine ⟨_,y0,qd (fun g=>?_) (fun g=>?_)⟩
  ·refine ⟨_,y0,_,y1,_,y2,?_⟩
   refine qae (B2'.ext e18) (by simp) (by intro u hu;simp only [List.mem_cons,List.not_mem_nil,or_false] at hu;rcases hu with rfl | rfl | rfl <;> rfl) fun w23 b1 x2 x3 x4 x5 x6=>?_
   have b1':Blk w23 b2 [.string ⟨⟨(tagsV b8 b64)[k].nm⟩⟩,.bool (tagsV b8 b64)[k].em,.func (tagsV b8 b64)[k].f (tagsV b8 b64)[k].fa (tagsV b8 b64)[k].fb] 262:=b1
   have hc:Chg (fun j=>j=b2) w18 w23:=⟨x4,x5,x6,by omega,fun j _ hj=>x2 j hj⟩
   obtain ⟨u0,u1,u2⟩:=blk3 b1'
   have E23:Ext w w23:=qi (qb EW e18) hc fun j hj=>by omega
   refine ⟨_,u0,_,u1,_,u2,?_⟩
   rw [g]
   refine h1 b8 b64 w23 _ (by omega) (by omega) (hc.blk ((B8.ext he).ext e18) (by omega)) (hc.blk ((B64.ext he).ext e18) (by omega)) ?_ E23
   unfold tagAt
   rw [List.find?_eq_some_iff_getElem]
   refine ⟨by simpa using g,k,hkL,rfl,fun j hj=>?_⟩
   have:=List.all_eq_true.1 hall ((tagsV b8 b64)[j]'(by omega)) (by rw [List.mem_take_iff_getElem];exact ⟨j,by omega,rfl⟩)
   simpa using this
  ·refine ⟨10 - (k + 1),by omega,k + 1,by rw [qj (by omega)],by omega,rfl,?_,qb he e18⟩
   rw [List.take_add_one,List.getElem?_eq_getElem hkL,List.all_append,hall]
   simpa using g
 ·have hk10:k=10:=by omega
  subst hk10
  refine qae B2' (by simp) (by intro u hu;simp only [List.mem_cons,List.not_mem_nil,or_false] at hu;rcases hu with rfl | rfl | rfl <;> rfl) fun w28 b1 x2 x3 x4 x5 x6=>?_
  have b1':Blk w28 b2 [.string ⟨⟨[]⟩⟩,.bool false,.nilFunc] 262:=b1
  have hc:Chg (fun j=>j=b2) W w28:=⟨x4,x5,x6,by omega,fun j _ hj=>x2 j hj⟩
  obtain ⟨u0,u1,u2⟩:=blk3 b1'
  refine ⟨_,u0,_,u1,_,u2,h2 w28 (fun b8' b64'=>hna b8' b64' ?_) (qi EW hc fun j hj=>by omega)⟩
  unfold tagAt
  rw [List.find?_eq_none]
  intro x hx
  rw [List.take_of_length_le (by rw [hlen];omega)] at hall
  have:=List.all_eq_true.1 hall x hx
  simpa using this
def numV (most:Nat) (s:List UInt8):Bool:=(List.range most).any fun i=>decide (Lib.decDigits (i + 1)=s)
theorem atoi_dec:∀ i:Nat,i < 64→Lib.atoiAll (Lib.decDigits (i + 1))=.ok ((i + 1:Nat):Int):=by decide +kernel
theorem dec_dig:∀ i:Nat,i < 64→(Lib.decDigits (i + 1)).all (fun c=>decide (kd c=3))=true:=by decide +kernel
theorem qpe {most:Nat} (hm:most≤64) (s:List UInt8):numV most s=true↔∃ n:Nat,Lib.atoiAll s=.ok (n:Int)∧1≤n∧n≤most∧Lib.decDigits n=s:=by
 unfold numV
 rw [List.any_eq_true]
 constructor
 ·rintro ⟨i,hi,h⟩
  have hi:=List.mem_range.1 hi
  have h:=of_decide_eq_true h
  exact ⟨i + 1,by rw [← h];exact atoi_dec i (by omega),by omega,by omega,h⟩
 ·rintro ⟨n,_,h1,h2,h⟩
  exact ⟨n - 1,List.mem_range.2 (by omega),by rw [show n - 1 + 1=n by omega];exact decide_eq_true h⟩
theorem numV_dig {most:Nat} (hm:most≤64) {s:List UInt8} (h:numV most s=true):∀ c∈s,kd c=3:=by
 obtain ⟨n,_,h1,h2,rfl⟩:=(qpe hm s).1 h
 have:=dec_dig (n - 1) (by omega)
 rw [show n - 1 + 1=n by omega] at this
 intro c hc
 exact of_decide_eq_true (List.all_eq_true.1 this c hc)
def qvt:List (List UInt8):=[[97,98],[97,100,100],[100,101,108],[103,97,112],[108,98],[110,97,109,101],[112,98],[115,101,99],[117,110,99,108,101,97,114],[118]]
def qcd (nm:List UInt8):Bool:=decide (nm∈qvt)
def qga (nm:List UInt8):Bool:=decide (nm∈[[108,98],[118],[112,98],[115,101,99],[103,97,112]])
def valB (nm vl:List UInt8):Bool :=
 if nm=[108,98]∨nm=[118]∨nm=[117,110,99,108,101,97,114] then decide (vl=[]) else if nm=[103,97,112] then numV 64 vl
 else if nm=[97,100,100]∨nm=[100,101,108] then numV 8 vl else if nm=[97,98] then qv vl else qaa vl
theorem qxn {nm:List UInt8} {C:List UInt8→Prop} (h:qcd nm=true) (hc:∀ x∈qvt,C x):C nm:=hc nm (of_decide_eq_true h)
theorem word_kd {v:List UInt8} (h:qv v=true):∀ c∈v,kd c≠0∧kd c≤4:=by
 unfold qv at h
 simp only [Bool.and_eq_true,decide_eq_true_eq,List.all_eq_true] at h
 obtain ⟨⟨⟨⟨_,h2⟩,h3⟩,_⟩,h5⟩:=h
 rw [qpx,if_neg (by omega)] at h3
 intro c hc
 refine ⟨?_,h5 c hc⟩
 by_cases ho:qda v=true
 ·obtain ⟨j,hj,rfl⟩:=List.mem_iff_getElem.1 hc
  have:=List.all_eq_true.1 ho j (List.mem_range.2 hj)
  unfold okAt at this
  have hk:=kA_eq hj
  intro h0
  rw [← hk,h0] at this
  simp at this
 ·rw [if_neg ho] at h3;cases h3
theorem name_kd {v:List UInt8} (h:qaa v=true):∀ c∈v,kd c≠0∧kd c≤4:=by
 unfold qaa at h
 simp only [Bool.and_eq_true,decide_eq_true_eq] at h
 intro c hc
 rcases qtu h.2 c hc with h | h <;> rw [h] <;> decide
theorem val_kd {nm v:List UInt8} (h:valB nm v=true):∀ c∈v,kd c≠0∧kd c≤4:=by
 unfold valB at h
 repeat' split at h
 ·intro c hc;rw [of_decide_eq_true h] at hc;cases hc
 ·intro c hc;rw [numV_dig (by omega) h c hc];decide
 ·intro c hc;rw [numV_dig (by omega) h c hc];decide
 ·exact word_kd h
 ·exact name_kd h
theorem kd_bad {c:UInt8} (h:kd c≠0∧kd c≤4):c≠32∧c≠47∧c≠60∧c≠62:=by
 refine ⟨?_,?_,?_,?_⟩ <;> rintro rfl <;> revert h <;> decide
theorem nm_bad {nm:List UInt8} (h:qcd nm=true):nm≠[]∧nm.length≤7∧∀ c∈nm,c≠32∧c≠47∧c≠60∧c≠62 :=
 qxn (C:=fun nm=>nm≠[]∧nm.length≤7∧∀ c∈nm,c≠32∧c≠47∧c≠60∧c≠62) h (by decide)
def nameF (t:List UInt8):List UInt8:=t.takeWhile fun c=>!(c == 32||c == 47)
def qb7 (part:List UInt8):List UInt8:=(part.take (part.length - 1)).drop 1
def tailF:List UInt8→List UInt8
 | []=>[]
 | c :: r=>if c=32 then r.takeWhile (fun c=>!(c == 47)) else []
def qwf (inner nm:List UInt8):List UInt8:=tailF (inner.drop nm.length)
def qdv (inner:List UInt8):List UInt8:=(Lib.cut (Lib.trimSuffix inner [47]) [32]).2.1
def zeroX:Lx:=⟨0,[],[],0⟩
def tagX (nm vl:List UInt8):Lx:=⟨if qga nm=true then 4 else 2,nm,vl,0⟩
def accX (part nm vl:List UInt8):Lx × Int:=if valB nm vl=true∧textF (tagX nm vl)=part then (tagX nm vl,0) else (zeroX,3)
def readF (part:List UInt8):Lx × Int :=
 if (qb7 part).head? = some 47 then
  (if qcd (nameF ((qb7 part).drop 1))=false then (zeroX,12)
  else if qga (nameF ((qb7 part).drop 1))=false∧[60,47]++nameF ((qb7 part).drop 1)++[62]=part then (⟨3,nameF ((qb7 part).drop 1),[],0⟩,0) else (zeroX,3))
 else (if qcd (nameF (qb7 part))=false then (zeroX,12) else accX part (nameF (qb7 part)) (qwf (qb7 part) (nameF (qb7 part))))
theorem qj0 (m:List UInt8):qb7 (60 :: (m++[62]))=m:=by
 unfold qb7
 rw [show (60 :: (m++[62]):List UInt8).length - 1=(60 :: m:List UInt8).length by simp,show (60 :: (m++[62]):List UInt8)=(60 :: m)++[62] by simp,List.take_left]
 rfl
theorem q2c:∀ {l:List UInt8} {c:UInt8},c∉l→Lib.index l [c]=-1
 | [],_,_=>rfl
 | b :: l,c,h=>by
  rw [Lib.index,q2c (fun hh=>h (List.mem_cons_of_mem _ hh))]
  have:¬ c=b:=fun e=>h (by rw [e];exact List.mem_cons_self)
  simp [this]
theorem index_at:∀ {l r:List UInt8} {c:UInt8},c∉l→Lib.index (l++c :: r) [c]=(l.length:Int)
 | [],r,c,_=>by rw [List.nil_append,Lib.index];simp
 | b :: l,r,c,h=>by
  rw [List.cons_append,Lib.index,index_at (fun hh=>h (List.mem_cons_of_mem _ hh))]
  have:¬ c=b:=fun e=>h (by rw [e];exact List.mem_cons_self)
  have h2:¬ ((l.length:Int)=-1):=by omega
  simp [this,h2]
theorem inn_chars {nm v:List UInt8} (hn:∀ c∈nm,c≠32∧c≠47∧c≠60∧c≠62) (hv:∀ c∈v,c≠32∧c≠47∧c≠60∧c≠62):∀ c∈innF nm v,c≠47∧c≠60∧c≠62:=by
 intro c hc
 unfold innF at hc
 split at hc
 ·simp only [List.mem_append,List.mem_cons,List.not_mem_nil,or_false] at hc
  rcases hc with h | rfl | h
  ·exact (hn c h).2
  ·decide
  ·exact (hv c h).2
 ·exact (hn c hc).2
theorem cut_inn {nm v:List UInt8} (hn:∀ c∈nm,c≠32∧c≠47∧c≠60∧c≠62):(Lib.cut (innF nm v) [32]).2.1=v:=by
 have h32:(32:UInt8)∉nm:=fun h=>(hn 32 h).1 rfl
 unfold Lib.cut innF
 by_cases hv:v=[]
 ·subst hv
  have e:(if ([]:List UInt8)≠[] then nm++([32]++[]) else nm)=nm:=if_neg (by simp)
  rw [e,q2c h32]
  rfl
 ·rw [if_pos hv,List.singleton_append,index_at h32,if_pos (by omega)]
  show List.drop ((nm.length:Int).toNat + 1) (nm++32 :: v)=v
  rw [Int.toNat_natCast,← List.drop_drop,List.drop_left]
  rfl
theorem no_suffix {m:List UInt8} (h:∀ c∈m,c≠47∧c≠60∧c≠62):Lib.trimSuffix m [47]=m:=by
 unfold Lib.trimSuffix Lib.hasSuffix
 rw [if_neg]
 intro hs
 obtain ⟨t,ht⟩:=List.isSuffixOf_iff_suffix.1 hs
 exact (h 47 (by rw [← ht];simp)).1 rfl
theorem one_suffix (m:List UInt8):Lib.trimSuffix (m++[47]) [47]=m:=by
 unfold Lib.trimSuffix Lib.hasSuffix
 rw [if_pos (List.isSuffixOf_iff_suffix.2 ⟨m,rfl⟩)]
 simp
theorem q95 {nm v t:List UInt8} (hv:∀ c∈v,c≠32∧c≠47∧c≠60∧c≠62) (ht:t=[]∨t=[47]):qwf (innF nm v++t) nm=v:=by
 unfold qwf innF
 by_cases h:v=[]
 ·subst h
  rw [if_neg (by simp),List.drop_left]
  rcases ht with rfl | rfl <;> rfl
 ·rw [if_pos h,List.append_assoc,List.drop_left]
  show tailF (32 :: (v++t))=v
  rw [tailF,if_pos rfl]
  have hh:∀ c∈v,(!(c == 47))=true:=fun c hc=>by simpa using (hv c hc).2.1
  rw [List.takeWhile_append_of_pos hh]
  rcases ht with rfl | rfl <;> simp
theorem val_key {part nm v:List UInt8} (hn:qcd nm=true) (hv:valB nm v=true) (hp:textF (tagX nm v)=part):qdv (qb7 part)=v∧qwf (qb7 part) nm=v:=by
 obtain ⟨_,_,hc⟩:=nm_bad hn
 have hvc:∀ c∈v,c≠32∧c≠47∧c≠60∧c≠62:=fun c h=>kd_bad (val_kd hv c h)
 have hin:=inn_chars hc hvc
 subst hp
 unfold tagX textF
 by_cases he:qga nm=true
 ·simp only [he,if_true]
  rw [if_neg (by decide),if_neg (by decide)]
  have e:([60]++innF nm v++[47,62]:List UInt8)=60 :: ((innF nm v++[47])++[62]):=by simp
  rw [e,qj0]
  exact ⟨by unfold qdv;rw [one_suffix,cut_inn hc],q95 hvc (.inr rfl)⟩
 ·simp only [he]
  rw [if_pos (by rfl)]
  have e:([60]++innF nm v++[62]:List UInt8)=60 :: (innF nm v++[62]):=by simp
  rw [e,qj0]
  refine ⟨by unfold qdv;rw [no_suffix hin,cut_inn hc],?_⟩
  have:=q95 (nm:=nm) hvc (.inl rfl)
  rwa [List.append_nil] at this
theorem acc_PF {part nm:List UInt8} (hn:qcd nm=true):accX part nm (qdv (qb7 part))=accX part nm (qwf (qb7 part) nm):=by
 by_cases hP:valB nm (qdv (qb7 part))=true∧textF (tagX nm (qdv (qb7 part)))=part
 ·rw [(val_key hn hP.1 hP.2).2]
 ·by_cases hF:valB nm (qwf (qb7 part) nm)=true∧textF (tagX nm (qwf (qb7 part) nm))=part
  ·rw [(val_key hn hF.1 hF.2).1]
  ·unfold accX
   rw [if_neg hP,if_neg hF]
theorem any_name:∀ b:List UInt8,nameF b=if 0≤Lib.indexAny b [32,47] then b.take (Lib.indexAny b [32,47]).toNat else b
 | []=>rfl
 | c :: l=>by
  have ih:=any_name l
  have hg:=Lib.indexAny_ge [32,47] l
  unfold nameF at ih ⊢
  rw [Lib.indexAny,List.takeWhile_cons]
  by_cases hc:c=32∨c=47
  ·have h1:([32,47]:List UInt8).contains c=true:=by rcases hc with rfl | rfl <;> rfl
   have h2:(!(c == 32||c == 47))=false:=by rcases hc with rfl | rfl <;> rfl
   rw [h1,h2]
   rfl
  ·have h1:([32,47]:List UInt8).contains c=false:=by simpa using hc
   have h2:(!(c == 32||c == 47))=true:=by simpa using hc
   rw [h1,h2,ih]
   simp only [if_true,Bool.false_eq_true,if_false]
   by_cases hm:Lib.indexAny l [32,47]=-1
   ·rw [hm];simp
   ·have h0:0≤Lib.indexAny l [32,47]:=by omega
    have hb:(Lib.indexAny l [32,47] == -1)=false:=by simpa using hm
    rw [hb,if_pos h0]
    simp only [Bool.false_eq_true,if_false]
    rw [if_pos (by omega),show (Lib.indexAny l [32,47] + 1).toNat=(Lib.indexAny l [32,47]).toNat + 1 by omega,List.take_succ_cons]
theorem name_le (b:List UInt8):(nameF b).length≤b.length:=(List.takeWhile_prefix _).length_le
def lexP (at_:Nat) (part:List UInt8):Lx × Int :=
 if part.head?≠some 60 then (if qa8 part=0 then (⟨1,[],part,at_⟩,0) else (zeroX,11))
 else if part.getLast?≠some 62 then (zeroX,3)
 else if (readF part).2=0 then ({ (readF part).1 with pos:=at_ },0) else (zeroX,(readF part).2)
def scanL:List (Nat × List UInt8)→List Lx × Int
 | []=>([],0)
 | p :: r=>if (lexP p.1 p.2).2=0 then (if (scanL r).2=0 then ((lexP p.1 p.2).1 :: (scanL r).1,0) else ([],(scanL r).2)) else ([],(lexP p.1 p.2).2)
def scanF (s:List UInt8):List Lx × Int:=if 65536 < s.length then ([],4) else scanL (qbd s 0)
theorem qw1:∀ {pre:List (Nat × List UInt8)} {out:List Lx},scanL pre=(out,0)→∀ r,scanL (pre++r)=if (scanL r).2=0 then (out++(scanL r).1,0) else ([],(scanL r).2)
 | [],out,h,r=>by
  obtain rfl:out=[]:=(Prod.mk.inj h).1.symm
  rw [List.nil_append]
  split
  ·rename_i h0;rw [List.nil_append,← h0]
  ·rename_i h0
   cases r with
   | nil=>exact absurd rfl h0
   | cons p r =>
    rw [scanL] at h0 ⊢
    split
    ·rename_i h1
     rw [if_pos h1] at h0
     split
     ·rename_i h2;rw [if_pos h2] at h0;exact absurd rfl h0
     ·rename_i h2;rfl
    ·rfl
 | p :: pre,out,h,r=>by
  rw [scanL] at h
  by_cases h1:(lexP p.1 p.2).2=0
  ·rw [if_pos h1] at h
   by_cases h2:(scanL pre).2=0
   ·rw [if_pos h2] at h
    obtain rfl:(lexP p.1 p.2).1 :: (scanL pre).1=out:=(Prod.mk.inj h).1
    have ih:=qw1 (pre:=pre) (out:=(scanL pre).1) (by rw [← h2]) r
    rw [List.cons_append,scanL,if_pos h1,ih]
    split
    ·rw [if_pos rfl];rfl
    ·rfl
   ·rw [if_neg h2] at h
    exact absurd (Prod.mk.inj h).2 h2
  ·rw [if_neg h1] at h
   exact absurd (Prod.mk.inj h).2 h1
theorem scanL_one {at_:Nat} {part:List UInt8} {x:Lx} (h:lexP at_ part=(x,0)):scanL [(at_,part)]=([x],0):=by
 rw [scanL];rw [h];rfl
theorem scanL_bad {pre r:List (Nat × List UInt8)} {out:List Lx} {p:Nat × List UInt8} {e:Int} (h:scanL pre=(out,0)) (hl:(lexP p.1 p.2).2=e) (he:e≠0):scanL (pre++p :: r)=([],e):=by
 have e:scanL (p :: r)=([],e):=by rw [scanL,if_neg (by rw [hl];exact he),hl]
 rw [qw1 h,e]
 exact if_neg he
theorem scanL_err:∀ {l:List (Nat × List UInt8)},(scanL l).2≠0→(scanL l).1=[]
 | [],h=>absurd rfl h
 | p :: r,h=>by
  rw [scanL] at h ⊢
  split
  ·rename_i h1
   rw [if_pos h1] at h
   split
   ·rename_i h2;rw [if_pos h2] at h;exact absurd rfl h
   ·rfl
  ·rfl
theorem scanF_err {s:List UInt8} (h:(scanF s).2≠0):(scanF s).1=[]:=by
 unfold scanF at h ⊢
 split
 ·rfl
 ·rename_i h1;rw [if_neg h1] at h;exact scanL_err h
def qbz (x:Lx):Int :=
 if x.k=1 then (if x.nm≠[] then 12 else if x.vl=[] then 5 else if qa8 x.vl≠0 then 11 else 0)
 else if x.k=2∨x.k=3∨x.k=4 then (if qcd x.nm=true∧qga x.nm=decide (x.k=4) then 0 else 12) else 8
def qbu (x:Lx):Bool:=if x.k=3 then decide (x.vl=[]) else valB x.nm x.vl
def qdx (x:Lx) (pt:Bool) (at_:Int):Int :=
 if qbz x≠0 then qbz x else if x.k=1∧pt=true then 10 else if x.k≠1∧qbu x=false then 3 else if x.pos≠at_ then 9 else 0
def chkGo:List Lx→Bool→Nat→Int
 | [],_,at_=>if 65536 < at_ then 4 else 0
 | x :: r,pt,at_=>if qdx x pt at_≠0 then qdx x pt at_ else chkGo r (decide (x.k=1)) (at_ + (textF x).length)
def chkX (l:List Lx):Int:=chkGo l false 0
def qbl (l:List Lx):List UInt8:=l.flatMap textF
def popS (nm:List UInt8) (st:List (List UInt8)):Option (List (List UInt8)):=match st with
 | []=>none
 | t :: st=>if t=nm then some st else none
def qhg:List Lx→List (List UInt8)→Int
 | [],st=>if st=[] then 0 else 12
 | x :: r,st=>if x.k=2 then (if 16 < st.length + 1 then 4 else qhg r (x.nm :: st))
  else if x.k=3 then (match popS x.nm st with
   | none=>12
   | some st'=>qhg r st')
  else qhg r st
def nestX (l:List Lx):Int:=if chkX l≠0 then 1 else qhg l []
theorem read_ok {part:List UInt8} {x:Lx} (h:readF part=(x,0)):textF x=part∧x.pos=0∧x.k≠1∧qbz x=0∧qbu x=true:=by
 unfold readF at h
 split at h
 ·split at h
  ·exact absurd (Prod.mk.inj h).2 (by decide)
  ·rename_i hk
   split at h
   ·rename_i hh
    obtain rfl:=(Prod.mk.inj h).1
    have hk:qcd (nameF (List.drop 1 (qb7 part)))=true:=by simpa using hk
    refine ⟨?_,rfl,by show (3:Int)≠1;decide,?_,?_⟩
    ·exact Eq.trans rfl hh.2
    ·unfold qbz
     rw [if_neg (by simp),if_pos (.inr (.inl rfl)),if_pos ⟨hk,by rw [hh.1];rfl⟩]
    ·rfl
   ·exact absurd (Prod.mk.inj h).2 (by decide)
 ·split at h
  ·exact absurd (Prod.mk.inj h).2 (by decide)
  ·rename_i hk
   have hk:qcd (nameF (qb7 part))=true:=by simpa using hk
   unfold accX at h
   split at h
   ·rename_i hh
    obtain rfl:=(Prod.mk.inj h).1
    refine ⟨hh.2,rfl,?_,?_,?_⟩
    ·unfold tagX;split <;> simp
    ·unfold qbz tagX
     by_cases he:qga (nameF (qb7 part))=true
     ·rw [if_pos he,if_neg (by simp),if_pos (.inr (.inr rfl)),if_pos ⟨hk,by rw [he];rfl⟩]
     ·rw [if_neg he,if_neg (by simp),if_pos (.inl rfl),if_pos ⟨hk,by simpa using he⟩]
    ·unfold qbu
     rw [if_neg (by unfold tagX;split <;> simp)]
     exact hh.1
   ·exact absurd (Prod.mk.inj h).2 (by decide)
theorem lex_ok {at_:Nat} {part:List UInt8} {x:Lx} (hne:part≠[]) (hl:part.length≤65536) (h:lexP at_ part=(x,0)) :
  textF x=part∧x.pos=at_∧(x.k=1↔part.head?≠some 60)∧qbz x=0∧(x.k≠1→qbu x=true):=by
 unfold lexP at h
 split at h
 ·rename_i hp
  split at h
  ·rename_i hc
   obtain rfl:=(Prod.mk.inj h).1
   refine ⟨rfl,rfl,iff_of_true rfl hp,?_,fun h=>absurd rfl h⟩
   unfold qbz
   rw [if_pos rfl,if_neg (by simp),if_neg hne,if_neg (by simpa using hc)]
  ·exact absurd (Prod.mk.inj h).2 (by decide)
 ·rename_i hp
  split at h
  ·exact absurd (Prod.mk.inj h).2 (by decide)
  ·split at h
   ·rename_i h0
    obtain rfl:=(Prod.mk.inj h).1
    obtain ⟨r1,r2,r3,r4,r5⟩:=read_ok (part:=part) (x:=(readF part).1) (by rw [← h0])
    exact ⟨r1,rfl,iff_of_false r3 (by simpa using hp),r4,fun _=>r5⟩
   ·rename_i h0
    exact absurd (Prod.mk.inj h).2 h0
theorem cut_next {c:UInt8} {r:List UInt8} (hc:c≠60):((c :: r).drop (cutX (c :: r))).head? = some 60∨(c :: r).drop (cutX (c :: r))=[]:=by
 unfold cutX
 rw [if_neg (by simpa using hc)]
 split
 ·rename_i h
  obtain ⟨h1,_⟩:=Lib.indexByte_some (l:=c :: r) (c:=60) (o:=(Lib.indexByte (c :: r) 60).toNat) (by omega)
  left
  rw [List.head?_drop,h1]
 ·right;simp
theorem q2v {c:UInt8} {r:List UInt8}:((c :: r).take (cutX (c :: r))).head? = some c:=by
 obtain ⟨h1,_⟩:=qso (c:=c) (r:=r)
 obtain ⟨m,hm⟩:∃ m,cutX (c :: r)=m + 1:=⟨cutX (c :: r) - 1,by omega⟩
 rw [hm];rfl
theorem q1y {p:Nat × List UInt8} {r:List (Nat × List UInt8)} {l:List Lx} (h:scanL (p :: r)=(l,0)):∃ x l',l=x :: l'∧lexP p.1 p.2=(x,0)∧scanL r=(l',0):=by
 rw [scanL] at h
 split at h
 ·rename_i h1
  split at h
  ·rename_i h2
   exact ⟨_,_,(Prod.mk.inj h).1.symm,by rw [← h1],by rw [← h2]⟩
  ·rename_i h2;exact absurd (Prod.mk.inj h).2 h2
 ·rename_i h1;exact absurd (Prod.mk.inj h).2 h1
theorem chk_ok {x:Lx} {pt:Bool} {at_:Nat} (h1:qbz x=0) (h2:¬ (x.k=1∧pt=true)) (h3:x.k≠1→qbu x=true) (h4:x.pos=at_):qdx x pt at_=0:=by
 unfold qdx
 rw [if_neg (by simpa using h1),if_neg h2,if_neg,if_neg (by simpa using h4)]
 rintro ⟨a,b⟩
 rw [h3 a] at b;cases b
theorem chk_inv {x:Lx} {pt:Bool} {at_:Int} (h:qdx x pt at_=0):qbz x=0∧¬ (x.k=1∧pt=true)∧(x.k≠1→qbu x=true)∧x.pos=at_:=by
 unfold qdx at h
 split at h
 ·rename_i h1;exact absurd h h1
 ·rename_i h1
  split at h
  ·cases h
  ·rename_i h2
   split at h
   ·cases h
   ·rename_i h3
    split at h
    ·cases h
    ·rename_i h4
     refine ⟨by simpa using h1,h2,fun hk=>?_,by simpa using h4⟩
     cases hr:qbu x with
     | true=>rfl
     | false=>exact absurd ⟨hk,hr⟩ h3
theorem chkGo_cons {x:Lx} {r:List Lx} {pt:Bool} {at_:Nat}:chkGo (x :: r) pt at_=0↔qdx x pt at_=0∧chkGo r (decide (x.k=1)) (at_ + (textF x).length)=0:=by
 rw [chkGo]
 by_cases h:qdx x pt at_=0
 ·rw [if_neg (by simpa using h)];simp [h]
 ·rw [if_pos h];simp [h]
theorem scan_chk:∀ (n:Nat) (t:List UInt8) (at_:Nat) (pt:Bool) (l:List Lx),t.length≤n→scanL (qbd t at_)=(l,0)→(pt=true→t.head? = some 60∨t=[])→at_ + t.length≤65536→chkGo l pt at_=0∧qbl l=t
 | n,[],at_,pt,l,_,h,_,hb=>by
  rw [qbd] at h
  obtain rfl:=(Prod.mk.inj h).1.symm
  refine ⟨?_,rfl⟩
  rw [chkGo,if_neg (by simp at hb;omega)]
 | 0,c :: r,_,_,_,hn,_,_,_=>absurd hn (by simp)
 | n + 1,c :: r,at_,pt,l,hn,h,hpt,hb=>by
  rw [qbd] at h
  obtain ⟨x,l',rfl,hx,hl⟩:=q1y h
  obtain ⟨b1,b2⟩:=qso (c:=c) (r:=r)
  have hpl:((c :: r).take (cutX (c :: r))).length=cutX (c :: r):=by rw [List.length_take];omega
  obtain ⟨x1,x2,x3,x4,x5⟩:=lex_ok (fun e=>by rw [show (c :: r).take (cutX (c :: r))=[] from e] at hpl;simp at hpl;omega) (show ((c :: r).take (cutX (c :: r))).length≤65536 by rw [hpl];omega) hx
  rw [q2v] at x3
  have hdl:((c :: r).drop (cutX (c :: r))).length=(c :: r).length - cutX (c :: r):=List.length_drop
  obtain ⟨y1,y2⟩:=scan_chk n _ _ (decide (x.k=1)) l' (by omega) hl (fun hk=>by
   have hk:x.k=1:=of_decide_eq_true hk
   have hc:c≠60:=by have:=x3.1 hk;simpa using this
   exact cut_next hc) (by omega)
  refine ⟨chkGo_cons.2 ⟨chk_ok x4 ?_ x5 x2,?_⟩,?_⟩
  ·rintro ⟨a,b⟩
   have h1:=x3.1 a
   rcases hpt b with h2 | h2
   ·exact h1 (by simpa using h2)
   ·cases h2
  ·rw [x1,show ((at_,(c :: r).take (cutX (c :: r))).2).length=_ from hpl];exact y1
  ·rw [qbl,List.flatMap_cons,x1,← qbl,y2,List.take_append_drop]
theorem scan_print {s:List UInt8} {l:List Lx} (h:scanF s=(l,0)):chkX l=0∧qbl l=s:=by
 unfold scanF at h
 split at h
 ·exact absurd (Prod.mk.inj h).2 (by decide)
 ·rename_i hs
  exact scan_chk s.length s 0 false l (Nat.le_refl _) h (fun h=>by cases h) (by omega)
theorem text_form {x:Lx} (h1:qbz x=0) (hk:x.k=1):x.nm=[]∧x.vl≠[]∧qa8 x.vl=0∧textF x=x.vl:=by
 unfold qbz at h1
 rw [if_pos hk] at h1
 split at h1
 ·cases h1
 ·rename_i a
  split at h1
  ·cases h1
  ·rename_i b
   split at h1
   ·cases h1
   ·rename_i c
    refine ⟨by simpa using a,b,by simpa using c,?_⟩
    unfold textF
    rw [if_neg (by omega),if_neg (by omega),if_neg (by omega)]
theorem qsa (x:Lx) (r:List Lx):qbl (x :: r)=textF x++qbl r:=by unfold qbl;rw [List.flatMap_cons]
def lastK (pt:Bool) (l:List Lx):Bool:=match l.getLast? with
 | some x=>decide (x.k=1)
 | none=>pt
theorem q6g (l m:List Lx):qbl (l++m)=qbl l++qbl m:=by unfold qbl;rw [List.flatMap_append]
end Go.Proofs
