/- The contracts of the functions that the law reaches, one after the other, and at the end the law's card. -/
import Derived.Test.YtkecgnlelgdndaaGreatDoorLawI
import Derived.Lib.AppendZerosOnto
set_option linter.all false
set_option maxRecDepth 40000
namespace Go.Proofs
open Go Go.Sh Go.RowKit Go.Proofs.Tryz IntKind
section
variable {R:Ending→World→Prop} {w:World}
theorem slT_strM:SlT prog 31 9 1 16 (.string ⟨#[]⟩):=⟨Tryz.underlying31,by kernel_rfl,rfl,by decide⟩
theorem owns_cut {B:Nat} {e:TypeId} {size:Nat} {a:Option Addr} {n c:Nat} {xs:List Value} (h:Owns w B e size a n c xs) {m:Nat} (hm:m≤n):Owns w B e size a m c (xs.take (m * size)):=by
 obtain ⟨h1,h2⟩:=h
 have hmn:m * size≤n * size:=Nat.mul_le_mul_right _ hm
 refine ⟨by rw [List.length_take,h1];omega,?_⟩
 rcases h2 with ⟨e1,e2⟩ | ⟨g,cap,cur,e1,e2,e3,e4,e5,e6,e7⟩
 ·have hm0:m=0:=by omega
  obtain ⟨rfl,_,rfl⟩:a=none∧n=0∧c=0:=by simpa using e1
  subst hm0
  exact .inl ⟨rfl,rfl⟩
 ·obtain ⟨rfl,rfl⟩:a=some ⟨g,0,none⟩∧c=cap:=by simpa using e1
  refine .inr ⟨g,c,cur,rfl,e2,e3,by omega,e5,e6,?_⟩
  rw [← e7,List.take_take,Nat.min_eq_left hmn]
theorem ownL_cut {α:Type} {E:Enc α} {B:Nat} {e:TypeId} {a:Option Addr} {n c:Nat} {l:List α} (h:OwnL E w B e a n c l) {m:Nat} (hm:m≤n):OwnL E w B e a m c (l.take m):=by
 have h2:=owns_cut h hm
 have hl:=OwnL.length h
 have:(E.row l).take (m * E.size)=E.row (l.take m):=by
  have hr:E.row l=E.row (l.take m)++E.row (l.drop m):=by rw [← row_app,List.take_append_drop]
  have hlen:(E.row (l.take m)).length=m * E.size:=by rw [qc9,List.length_take,Nat.min_eq_left (by omega)]
  rw [hr,List.take_left' hlen]
 rwa [this] at h2
theorem owns_le {B:Nat} {e:TypeId} {size:Nat} {a:Option Addr} {n c:Nat} {xs:List Value} (h:Owns w B e size a n c xs):n≤c:=by
 rcases h.2 with ⟨e1,e2⟩ | ⟨g,cap,cur,e1,_,_,e4,_⟩
 ·obtain ⟨_,h,h'⟩:a=none∧n=0∧c=0:=by simpa using e1
  omega
 ·obtain ⟨_,h⟩:a=some ⟨g,0,none⟩∧c=cap:=by simpa using e1
  omega
theorem q79 {a:Option Addr} {c sz:Nat} {m:Nat} (hm:m≤c) (ha:∀ p,a=some p→p.add 0=p) {K:Option Addr→Nat→Nat→Prop} (h:K a m c):sls a c 0 (m:Int) sz K:=by
 refine ⟨by omega,by omega,by omega,?_⟩
 have e:slA a c (0:Int).toNat sz=a:=by
  unfold slA
  split
  ·rfl
  ·cases a with
   | none=>rfl
   | some p=>show some (p.add (0 * sz))=some p;rw [Nat.zero_mul,ha p rfl]
 rw [e]
 simpa using h
theorem get9_str {S:Nat→Prop} {a:Option Addr} {n:Nat} {L:List (List UInt8)} (h:RowAt Sh.encStr S w a n L) {k:Nat} (hk:k < L.length) :
  ∃ q:Addr,(∀ K:Addr→Prop,K q→idx a n (k:Int) 1 K)∧w.cell? q=some (.string ⟨⟨L[k]⟩⟩):=by
 obtain ⟨bb,o,hq,_,_,hc⟩:=h.get (i:=k) (x:=L[k]) (List.getElem?_eq_getElem hk)
 exact ⟨⟨bb,o,none⟩,hq,by have:=hc 0 _ rfl;rwa [Nat.add_zero] at this⟩
theorem q9n {S:Nat→Prop} {a:Option Addr} {n c:Nat} (L:List Lx) (hL:RowAt encX S w a n L) (hT:totX L≤1000000000) (hM:Mk w) (h:∀ w',Ext w w'→R (.returned (.int .i64 (nestX L))) w') :
  Calls prog qk1 ⟨[.slice a n c]⟩ w R:=by
 apply qyf
 have hn:n=L.length:=hL.1
 have hln:=q2t L
 refine q9z L hL hT hM fun w3 e3=>⟨_,rfl,qd (fun g=>?_) (fun g=>?_)⟩
 ·have:=h w3 e3;unfold nestX at this;rwa [if_pos g] at this
 unfold nestX at h
 rw [if_neg g] at h
 have z3:=e3.size
 refine ⟨fun oa on oc t W m=>∃ (k:Nat) (st:List (List UInt8)),t=k∧k≤n∧m=n - k∧st.length≤16∧on=st.length∧OwnL Sh.encStr W w3.heap.size 9 oa on oc st.reverse∧qhg L []=qhg (L.drop k) st∧Ext w3 W,⟨_,0,[],rfl,by omega,rfl,by simp,rfl,Owns.nil _ _ _ _,rfl,Below.refl _ _⟩,?_⟩
 rintro oa on oc _ W m ⟨k,st,rfl,hk,rfl,hst,rfl,hO,heq,he⟩ _
 refine qd (fun hlt=>?_) (fun hge=>?_)
 ·have hkL:k < L.length:=by omega
  obtain ⟨q,hq,c0,c1,c2,c3⟩:=get_lx (hL.ext (qb e3 he)) hkL
  refine hq _ ⟨_,c0,_,c1,_,c2,_,c3,?_⟩
  refine qw rfl one4 fun bx w18 hbx Bx e18 s18=>?_
  obtain ⟨d0,d1,d2,d3⟩:=blk4x (x:=L[k]) Bx
  rw [List.drop_eq_getElem_cons hkL,qhg] at heq
  generalize hxk:L[k]=x at *
  have z:=he.size
  have E18:=qb (qb e3 he) e18
  refine ⟨_,d0,qd (fun g2=>⟨_,d1,?_⟩) (fun g2=>qd (fun g3=>?_) (fun g3=>?_))⟩
  ·rw [if_pos g2] at heq
   refine OwnL.push slT_strM (hO.ext e18) (by omega) x.nm (by omega) (by omega) fun a' c' w24 o1 o2 o3=>?_
   have E24:Ext w3 w24:=qi (qb he e18) o2 fun j hj=>((hO.ext e18).bk hj).1
   refine qd (fun g16=>?_) (fun g16=>?_)
   ·rw [if_pos (by omega)] at heq
    rw [← heq];exact h w24 (qb e3 E24)
   ·rw [if_neg (by omega)] at heq
    refine ⟨n - (k + 1),by omega,k + 1,x.nm :: st,by rw [qj (by omega)],by omega,rfl,by rw [List.length_cons];omega,by rw [List.length_cons],?_,heq,E24⟩
    rw [List.reverse_cons];exact o1
  ·rw [if_neg g2,if_pos g3] at heq
   intro K26 hK26
   have hOd:=(hO.ext e18).ext (qs w18)
   have Ed:=qb (qb he e18) (qs w18)
   unfold drw
   refine qd (fun g4=>?_) (fun g4=>?_)
   ·have hs0:st=[]:=List.length_eq_zero_iff.1 (by omega)
    subst hs0
    have hp:popS x.nm []=none:=rfl
    rw [hp] at heq
    have:=h _ (qb e3 Ed)
    rwa [heq] at this
   ·obtain ⟨t,st',rfl⟩:∃ t st',st=t :: st':=by
     cases st with
     | nil=>exact absurd rfl g4
     | cons t st'=>exact ⟨t,st',rfl⟩
    have hlr:(t :: st').reverse.length=st'.length + 1:=by simp
    rw [List.length_cons] at *
    rw [show ((st'.length + 1:Nat):Int) - 1=(st'.length:Int) by omega,qu (by omega)]
    obtain ⟨q',hq',cq⟩:=get9_str (OwnL.out hOd) (k:=st'.length) (by rw [hlr];omega)
    have hlast:(t :: st').reverse[st'.length]'(by rw [hlr];omega)=t:=by simp
    rw [hlast] at cq
    refine hq' _ ⟨_,cq,_,qp d1 (qs w18),qd (fun g5=>?_) (fun g5=>?_)⟩
    ·have hp:popS x.nm (t :: st')=none:=if_neg g5
     rw [hp] at heq
     have:=h _ (qb e3 Ed)
     rwa [heq] at this
    ·have hp:popS x.nm (t :: st')=some st':=if_pos (Classical.not_not.1 g5)
     rw [hp] at heq
     refine hK26 _ fun _=>?_
     rw [show ((st'.length + 1:Nat):Int) - 1=(st'.length:Int) by omega,qu (by omega)]
     have hcut:=ownL_cut hOd (m:=st'.length) (by omega)
     rw [List.reverse_cons,List.take_left' (by simp)] at hcut
     have hle:=owns_le hOd
     refine q79 (by omega) ?_ ?_
     ·intro p hp
      rcases hOd.2 with ⟨_,e2⟩ | ⟨gg,cap,cur,e1,_⟩
      ·exact absurd e2 (by omega)
      ·have e1:=(Value.slice.inj e1).1
       rw [e1] at hp;rw [← Option.some.inj hp];rfl
     ·exact ⟨n - (k + 1),by omega,k + 1,st',by rw [qj (by omega)],by omega,rfl,by omega,rfl,hcut,heq,Ed⟩
  ·rw [if_neg g2,if_neg g3] at heq
   exact ⟨n - (k + 1),by omega,k + 1,st,by rw [qj (by omega)],by omega,rfl,hst,rfl,hO.ext e18,heq,qb he e18⟩
 ·have hkn:k=L.length:=by omega
  subst hkn
  rw [List.drop_length,qhg] at heq
  refine qd (fun g5=>?_) (fun g5=>?_)
  ·rw [if_neg (fun hh=>by rw [hh] at g5;simp at g5)] at heq
   rw [← heq];exact h W (qb e3 he)
  ·have hs0:st=[]:=List.length_eq_zero_iff.1 (by omega)
   rw [if_pos hs0] at heq
   rw [← heq];exact h W (qb e3 he)
end
section
instance:DecidableEq Lx:=fun a b=>decidable_of_iff (a.k=b.k∧a.nm=b.nm∧a.vl=b.vl∧a.pos=b.pos) (by
 cases a;cases b;simp)
variable {R:Ending→World→Prop} {w:World}
end
structure Tk where
 k:Int
 nm:List UInt8
 vl:List UInt8
def tkX (x:Lx):Tk:=⟨x.k,x.nm,x.vl⟩
def valT (k:Int) (t:List UInt8) (n:Int):List UInt8:=if qad k then t else if numsF k then Lib.decDigits n.toNat else []
def tksF:Fo→List Tk
 | .nil=>[]
 | .cons k t n ps r=>(if k=1 then [⟨1,[],t⟩] else if qx k then ⟨2,tagF k,valT k t n⟩ :: (tksF ps++[⟨3,tagF k,[]⟩]) else [⟨4,tagF k,valT k t n⟩])++tksF r
theorem q94 (f g:Fo):tksF (f.app g)=tksF f++tksF g:=by
 induction f with
 | nil=>rfl
 | cons k t n ps r _ ih=>simp only [Fo.cons_app,tksF,ih,List.append_assoc]
def kindN (nm:List UInt8):Nat:=match (List.range 12).find? fun i:Nat=>decide (tagF (i:Int)=nm∧nm≠[]) with
 | some i=>i
 | none=>0
def numOf (v:List UInt8):Int:=match Lib.atoiAll v with
 | .ok n=>n
 | _=>0
structure Hd where
 k:Int
 t:List UInt8
 n:Int
def headF (x:Tk):Hd:=if x.k=1 then ⟨1,x.vl,0⟩ else ⟨kindN x.nm,if qad (kindN x.nm) then x.vl else [],if qad (kindN x.nm) then 0 else if numsF (kindN x.nm) then numOf x.vl else 0⟩
structure Fr where
 h:Hd
 f:Fo
def Fr.add (r:Fr) (h:Hd) (ps:Fo):Fr:=⟨r.h,r.f.app (.one h.k h.t h.n ps)⟩
def stepP (st:List Fr) (x:Tk):List Fr :=
 if x.k=2 then ⟨headF x,.nil⟩ :: st
 else if x.k=3 then (match st with
  | f2 :: f1 :: r=>f1.add f2.h f2.f :: r
  | st=>st)
 else match st with
  | f :: r=>f.add (headF x) .nil :: r
  | []=>[]
def treeT (L:List Tk):Fo:=match L.foldl stepP [⟨⟨0,[],0⟩,.nil⟩] with
 | f :: _=>f.f
 | []=>.nil
def q3z (k:Int) (t:List UInt8) (n:Int):Prop:=(k=1∧n=0)∨(2≤k∧k≤11∧(qad k=false→t=[])∧(numsF k=false→n=0)∧(numsF k=true→1≤n∧n≤64))
def qf8:Fo→Prop
 | .nil=>True
 | .cons k t n ps r=>q3z k t n∧(qx k=false→ps=.nil)∧qf8 ps∧qf8 r
end Go.Proofs
namespace Go.Sh
open Go Go.RowKit
def OwnG (e:TypeId) (S O:Nat→Prop) (B:Nat) (w:World) (a:Option Addr) (n c:Nat) (f:Fo):Prop :=
 n=f.len∧(∀ k,bk a k→O k)∧(∀ k,O k→B≤k∧k < w.heap.size)∧∃ xs,Owns w B e 4 a n c xs∧FoC (fun k=>(S k∨O k)∧¬ bk a k) w f xs
section
variable {S O:Nat→Prop} {w w':World} {e:TypeId} {B:Nat} {a:Option Addr} {n c:Nat} {f:Fo}
theorem OwnG.nil (w:World):OwnG e S (fun _=>False) B w none 0 0 .nil:=⟨rfl,fun k h=>by simp [bk] at h,fun k h=>h.elim,[],Owns.nil w B e 4,rfl⟩
theorem OwnG.len (h:OwnG e S O B w a n c f):n=f.len:=h.1
theorem OwnG.own (h:OwnG e S O B w a n c f) {k:Nat} (hk:O k):B≤k∧k < w.heap.size:=h.2.2.1 k hk
theorem OwnG.bk (h:OwnG e S O B w a n c f) {k:Nat} (hk:Sh.bk a k):O k:=h.2.1 k hk
theorem OwnG.chg {T:Nat→Prop} (h:OwnG e S O B w a n c f) (hc:Chg T w w') (hT:∀ k,T k→k < w.heap.size→¬ S k∧¬ O k):OwnG e S O B w' a n c f:=by
 obtain ⟨h0,h1,h2,xs,h3,h4⟩:=h
 have z:=hc.size
 refine ⟨h0,h1,fun k hk=>⟨(h2 k hk).1,by have:=(h2 k hk).2;omega⟩,xs,?_,h4.keep (fun k hk hl=>⟨hk,hc.block k hl fun ht=>?_⟩) z⟩
 ·have h3':=Owns.chg (S:=fun k=>T k∧k < w.heap.size) h3 ⟨hc.os,hc.tape,hc.output,hc.size,fun k hk hn=>hc.block k hk fun ht=>hn ⟨ht,hk⟩⟩ fun k hk ht=>(hT k ht.1 ht.2).2 (h1 k hk)
  exact h3'
 ·rcases hk.1 with hh | hh
  ·exact (hT k ht hl).1 hh
  ·exact (hT k ht hl).2 hh
theorem OwnG.out (h:OwnG e S O B w a n c f):SlF (fun k=>S k∨O k) w a n f:=by
 obtain ⟨h0,h1,h2,xs,h3,h4⟩:=h
 refine ⟨h0,xs,?_,h4.keep (fun k hk _=>⟨hk.1,rfl⟩) (Nat.le_refl _)⟩
 by_cases hn:0 < n
 ·obtain ⟨g,rfl,hg,hc⟩:=h3.cell hn
  exact .inr ⟨g,0,rfl,.inr (h1 g (by simp [Sh.bk])),(h3.bk (by simp [Sh.bk])).2,fun j v hj=>by rw [Nat.zero_add];exact hc j v hj⟩
 ·have hx:xs=[]:=List.eq_nil_of_length_eq_zero (by rw [h3.len];omega)
  exact .inl hx
end
end Go.Sh
namespace Go.Proofs
open Go Go.Sh Go.RowKit Go.Proofs.Tryz IntKind
theorem owns_set {w:World} {B:Nat} {e:TypeId} {size:Nat} {a:Option Addr} {n c:Nat} {xs:List Value} (h:Owns w B e size a n c xs) {j:Nat} (hj:j < n * size) {v:Value} (hv:v.oneCell'=true) :
  ∃ g:Nat,a=some ⟨g,0,none⟩∧∀ K:World→Prop,(∀ w',Owns w' B e size a n c (xs.set j v)→Chg (Sh.bk a) w w'→w'.heap.size=w.heap.size→K w')→stL w ⟨g,j,none⟩ 0 [v] K:=by
 have hl:=h.1
 rcases h.2 with h1 | ⟨g,cap,cur,e1,e2,e3,e4,e5,e6,e7⟩
 ·have:n=0:=by
   have:=h1.1
   simp at this;omega
  subst this;omega
 obtain ⟨rfl,_,rfl⟩:a=some ⟨g,0,none⟩∧True∧c=cap:=by simpa using e1
 have hB:Blk w g cur.toList e:=e3
 have hcl:cur.toList.length=c * size:=by simpa using e6
 have hnc:n * size≤c * size:=Nat.mul_le_mul_right _ e4
 refine ⟨g,rfl,fun K hK=>?_⟩
 refine qae hB (by simp;omega) (fun u hu=>by rw [List.mem_singleton.1 hu];exact hv) fun w' b1 b2 b3 b4 b5 b6=>?_
 have hc:Chg (Sh.bk (some (⟨g,0,none⟩:Addr))) w w':=⟨b4,b5,b6,by omega,fun k' _ hk=>b2 k' fun e=>hk (by simp [Sh.bk,e])⟩
 have e:putAt cur.toList (j + 0) [v]=cur.toList.set j v:=rfl
 rw [e] at b1
 refine hK w' ⟨by rw [List.length_set,hl],.inr ⟨g,c,⟨_⟩,rfl,e2,b1,e4,e5,?_,?_⟩⟩ hc b3
 ·show (cur.toList.set j v).length=c * size
  rw [List.length_set,hcl]
 ·show List.take (n * size) (cur.toList.set j v)=xs.set j v
  rw [List.take_set,e7]
theorem OwnG.pushA {P:Program} {t ty e:TypeId} {bytes:Nat} {z:Value} {S O:Nat→Prop} {B:Nat} {w:World} {a:Option Addr} {n c:Nat} {f:Fo} (hT:SlT P t e 4 bytes z) (h:OwnG e S O B w a n c f) (hB:B≤w.heap.size)
  {k:Int} {s:List UInt8} {m:Int} {a':Option Addr} {c':Nat} {ps:Fo} {O2:Nat→Prop}
  (hps:SlF (fun k=>S k∨O2 k) w a' ps.len ps) (hO2:∀ k,O2 k→(B≤k∧k < w.heap.size)∧¬ Sh.bk a k) (hSB:∀ k,S k→k < B) (hlen:n + 1≤4611686018427387904) (hbytes:(n + 1) * bytes≤140737488355328) {K:Option Addr→Nat→Nat→World→Prop}
  (hk:∀ a'' c'' w' (O':Nat→Prop),OwnG e S O' B w' a'' (n + 1) c'' (f.app (.one k s m ps))→Chg (Sh.bk a) w w'→(∀ j,O' j→O j∨O2 j∨(w.heap.size≤j∧j < w'.heap.size))→K a'' (n + 1) c'' w') :
  al w e [.int .i64 k,.string ⟨⟨s⟩⟩,.int .i64 m,.slice a' ps.len c'] fun p w1=>app P [t,t] ty (.slice a n c) (.slice (some p) 1 1) w1 K:=by
 obtain ⟨h0,h1,h2,xs,h3,h4⟩:=h
 refine qfd hT h3 hB [.int .i64 k,.string ⟨⟨s⟩⟩,.int .i64 m,.slice a' ps.len c'] rfl (by intro u hu;simp only [List.mem_cons,List.not_mem_nil,or_false] at hu;rcases hu with rfl | rfl | rfl | rfl <;> rfl) hlen hbytes
  fun a'' c'' w' ho hc hn=>hk a'' c'' w' (fun j=>O j∨O2 j∨Sh.bk a'' j) ⟨?_,fun j hj=>.inr (.inr hj),fun j hj=>?_,_,ho,?_⟩ hc ?_
 ·simp [Fo.one];exact h0
 ·have z:=hc.size
  rcases hj with hj | hj | hj
  ·exact ⟨(h2 j hj).1,by have:=(h2 j hj).2;omega⟩
  ·exact ⟨(hO2 j hj).1.1,by have:=(hO2 j hj).1.2;omega⟩
  ·exact ho.bk hj
 ·obtain ⟨_,us,g3,g4⟩:=hps
  have na:∀ j,j < w.heap.size→¬ Sh.bk a j→¬ Sh.bk a'' j:=fun j hj hb' hh=>(hn j hh).elim hb' (by omega)
  have hs:∀ j,((S j∨O j)∧¬ Sh.bk a j)→j < w.heap.size→((S j∨O j∨O2 j∨Sh.bk a'' j)∧¬ Sh.bk a'' j)∧w'.heap[j]? = w.heap[j]?:=fun j hj hl =>
   ⟨⟨hj.1.imp id fun h=>.inl h,na j hl hj.2⟩,hc.block j hl hj.2⟩
  have hs2:∀ j,(S j∨O2 j)→j < w.heap.size→((S j∨O j∨O2 j∨Sh.bk a'' j)∧¬ Sh.bk a'' j)∧w'.heap[j]? = w.heap[j]?:=fun j hj hl=>by
   have nb:¬ Sh.bk a j:=hj.elim (fun h=>fun hh=>by have:=(h2 j (h1 j hh)).1;have:=hSB j h;omega) (fun h=>(hO2 j h).2)
   exact ⟨⟨hj.imp id fun h=>.inr (.inl h),na j hl nb⟩,hc.block j hl nb⟩
  exact (h4.keep hs hc.size).app ⟨a',c',us,[],rfl,g3.keep hs2 hc.size,g4.keep hs2 hc.size,rfl⟩
 ·intro j hj
  rcases hj with hj | hj | hj
  ·exact .inl hj
  ·exact .inr (.inl hj)
  ·rcases hn j hj with h' | h'
   ·exact .inl (h1 j h')
   ·exact .inr (.inr ⟨h',(ho.bk hj).2⟩)
abbrev qaz (h:Hd) (pa:Option Addr) (n c:Nat):List Value:=[.int .i64 h.k,.string ⟨⟨h.t⟩⟩,.int .i64 h.n,.slice pa n c]
def FrAt (e:TypeId) (B:Nat) (w:World):List Fr→List Value→(Nat→Prop)→Prop
 | [],xs,O=>xs=[]∧∀ k,¬ O k
 | f :: r,xs,O=>∃ pa pc O1 O2 ys,xs=ys++qaz f.h pa f.f.len pc∧OwnG e (fun _=>False) O1 B w pa f.f.len pc f.f∧FrAt e B w r ys O2∧(∀ k,O k↔O1 k∨O2 k)∧(∀ k,O1 k→¬ O2 k)
theorem FrAt.len {e:TypeId} {B:Nat} {w:World}:∀ {st:List Fr} {xs:List Value} {O:Nat→Prop},FrAt e B w st xs O→xs.length=st.length * 4
 | [],xs,O,⟨h,_⟩=>by rw [h];rfl
 | f :: r,xs,O,⟨pa,pc,O1,O2,ys,h1,h2,h3,_⟩=>by
  rw [h1,List.length_append,FrAt.len h3]
  show r.length * 4 + 4=(r.length + 1) * 4
  omega
theorem FrAt.own {e:TypeId} {B:Nat} {w:World}:∀ {st:List Fr} {xs:List Value} {O:Nat→Prop},FrAt e B w st xs O→∀ k,O k→B≤k∧k < w.heap.size
 | [],xs,O,⟨_,h⟩,k,hk=>absurd hk (h k)
 | f :: r,xs,O,⟨pa,pc,O1,O2,ys,h1,h2,h3,h4,_⟩,k,hk=>by
  rcases (h4 k).1 hk with hk | hk
  ·exact h2.own hk
  ·exact FrAt.own h3 k hk
theorem FrAt.chg {e:TypeId} {B:Nat} {w w':World} {T:Nat→Prop} (hc:Chg T w w'):∀ {st:List Fr} {xs:List Value} {O:Nat→Prop},FrAt e B w st xs O→(∀ k,O k→¬ T k)→FrAt e B w' st xs O
 | [],xs,O,h,_=>h
 | f :: r,xs,O,⟨pa,pc,O1,O2,ys,h1,h2,h3,h4,h5⟩,hT =>
  ⟨pa,pc,O1,O2,ys,h1,h2.chg hc fun k hk _=>⟨fun h=>h,fun ho=>hT k ((h4 k).2 (.inl ho)) hk⟩,FrAt.chg hc h3 fun k hk=>hT k ((h4 k).2 (.inr hk)),h4,h5⟩
def StAt (e:TypeId) (B:Nat) (w:World) (a:Option Addr) (n c:Nat) (st:List Fr) (O:Nat→Prop):Prop :=
 n=st.length∧∃ xs,Owns w B e 4 a n c xs∧FrAt e B w st xs O∧∀ k,O k→¬ Sh.bk a k
section
variable {e:TypeId} {B:Nat} {w w':World} {a:Option Addr} {n c:Nat} {st:List Fr} {O:Nat→Prop}
theorem StAt.bk (h:StAt e B w a n c st O) {k:Nat} (hk:Sh.bk a k):B≤k∧k < w.heap.size:=by
 obtain ⟨_,xs,h1,_⟩:=h
 exact h1.bk hk
theorem StAt.own (h:StAt e B w a n c st O) {k:Nat} (hk:O k):B≤k∧k < w.heap.size:=by
 obtain ⟨_,xs,_,h2,_⟩:=h
 exact h2.own k hk
theorem StAt.chg {T:Nat→Prop} (h:StAt e B w a n c st O) (hc:Chg T w w') (hT:∀ k,T k→¬ Sh.bk a k∧¬ O k):StAt e B w' a n c st O:=by
 obtain ⟨h0,xs,h1,h2,h3⟩:=h
 exact ⟨h0,xs,h1.chg hc fun k hk ht=>(hT k ht).1 hk,h2.chg hc fun k hk ht=>(hT k ht).2 hk,h3⟩
theorem StAt.ext (h:StAt e B w a n c st O) (hc:Ext w w'):StAt e B w' a n c st O:=h.chg (T:=fun _=>False) (.of_ext hc) fun k h=>h.elim
theorem StAt.top {f:Fr} {r:List Fr} (h:StAt e B w a n c (f :: r) O) :
  ∃ (g:Nat) (pa:Option Addr) (pc:Nat) (O1:Nat→Prop),a=some ⟨g,0,none⟩∧(∀ K:Addr→Prop,K ⟨g,r.length * 4,none⟩→idx a n (r.length:Int) 4 K) ∧
   w.cell? ⟨g,r.length * 4,none⟩=some (.int .i64 f.h.k)∧w.cell? ⟨g,r.length * 4 + 1,none⟩=some (.string ⟨⟨f.h.t⟩⟩)∧w.cell? ⟨g,r.length * 4 + 2,none⟩=some (.int .i64 f.h.n)∧w.cell? ⟨g,r.length * 4 + 3,none⟩=some (.slice pa f.f.len pc) ∧
   OwnG e (fun _=>False) O1 B w pa f.f.len pc f.f∧(∀ k,O1 k→O k):=by
 obtain ⟨h0,xs,h1,⟨pa,pc,O1,O2,ys,rfl,h2,h3,h4,h5⟩,h6⟩:=h
 obtain ⟨g,rfl,hg,hc⟩:=h1.cell (by rw [h0];simp)
 have hl:=h3.len
 have key:∀ j v,(qaz f.h pa f.f.len pc)[j]? = some v→w.cell? ⟨g,r.length * 4 + j,none⟩=some v:=fun j v hj=>by
  refine hc _ _ ?_
  rw [List.getElem?_append_right (by omega),show r.length * 4 + j - ys.length=j by omega];exact hj
 refine ⟨g,pa,pc,O1,rfl,fun K hK=>⟨by omega,by rw [h0,List.length_cons];omega,?_⟩,key 0 _ rfl,key 1 _ rfl,key 2 _ rfl,key 3 _ rfl,h2,fun k hk=>(h4 k).2 (.inl hk)⟩
 show K _
 rw [qg,Int.toNat_natCast,Nat.zero_add];exact hK
theorem StAt.push {P:Program} {t ty:TypeId} {bytes:Nat} {z:Value} (hT:SlT P t e 4 bytes z) (h:StAt e B w a n c st O) (hB:B≤w.heap.size) (hd:Hd) (hlen:n + 1≤4611686018427387904) (hbytes:(n + 1) * bytes≤140737488355328) {K:Option Addr→Nat→Nat→World→Prop}
  (hk:∀ a' c' w',StAt e B w' a' (n + 1) c' (⟨hd,.nil⟩ :: st) O→Chg (Sh.bk a) w w'→K a' (n + 1) c' w') :
  al w e (qaz hd none 0 0) fun p w1=>app P [t,t] ty (.slice a n c) (.slice (some p) 1 1) w1 K:=by
 obtain ⟨h0,xs,h1,h2,h3⟩:=h
 refine qfd hT h1 hB _ rfl (by intro u hu;simp only [List.mem_cons,List.not_mem_nil,or_false] at hu;rcases hu with rfl | rfl | rfl | rfl <;> rfl) hlen hbytes fun a' c' w' ho hc hn=>hk a' c' w' ⟨by simp [h0],_,ho,⟨none,0,fun _=>False,O,xs,rfl,OwnG.nil w',h2.chg hc h3,fun k=>by simp,fun k hk=>hk.elim⟩,?_⟩ hc
 intro k hk hb
 rcases hn k hb with h' | h'
 ·exact h3 k hk h'
 ·have:=(h2.own k hk).2;omega
theorem StAt.pop {f:Fr} {r:List Fr} (h:StAt e B w a n c (f :: r) O) :
  ∃ (pa:Option Addr) (pc:Nat) (O1 O':Nat→Prop),StAt e B w a r.length c r O'∧SlF O1 w pa f.f.len f.f∧(∀ k,O1 k→(B≤k∧k < w.heap.size)∧¬ O' k∧¬ Sh.bk a k)∧(∀ k,O1 k→O k)∧(∀ k,O' k→O k) ∧
   ∃ g:Nat,a=some ⟨g,0,none⟩∧w.cell? ⟨g,r.length * 4,none⟩=some (.int .i64 f.h.k)∧w.cell? ⟨g,r.length * 4 + 1,none⟩=some (.string ⟨⟨f.h.t⟩⟩)∧w.cell? ⟨g,r.length * 4 + 2,none⟩=some (.int .i64 f.h.n)∧w.cell? ⟨g,r.length * 4 + 3,none⟩=some (.slice pa f.f.len pc):=by
 obtain ⟨h0,xs,h1,⟨pa,pc,O1,Or,ys,rfl,h2,h3,h4,h5⟩,h6⟩:=h
 obtain ⟨g,ha,hg,hc⟩:=h1.cell (by rw [h0];simp)
 have hl:=h3.len
 have hn:n=r.length + 1:=by rw [h0,List.length_cons]
 have key:∀ j v,(qaz f.h pa f.f.len pc)[j]? = some v→w.cell? ⟨g,r.length * 4 + j,none⟩=some v:=fun j v hj=>by
  refine hc _ _ ?_
  rw [List.getElem?_append_right (by omega),show r.length * 4 + j - ys.length=j by omega];exact hj
 have hcut:=owns_cut h1 (m:=r.length) (by omega)
 rw [List.take_left' hl] at hcut
 refine ⟨pa,pc,O1,Or,⟨rfl,ys,hcut,h3,fun k hk=>h6 k ((h4 k).2 (.inr hk))⟩,?_,fun k hk=>⟨h2.own hk,h5 k hk,h6 k ((h4 k).2 (.inl hk))⟩,fun k hk=>(h4 k).2 (.inl hk),fun k hk=>(h4 k).2 (.inr hk),g,ha,key 0 _ rfl,key 1 _ rfl,key 2 _ rfl,key 3 _ rfl⟩
 exact h2.out.imp fun k hk _=>hk.elim (fun h=>h.elim) id
end
section
variable {e:TypeId} {B:Nat} {w w':World} {a:Option Addr} {n c:Nat} {st:List Fr} {O:Nat→Prop}
theorem StAt.grow {P:Program} {t ty:TypeId} {bytes:Nat} {z:Value} (hT:SlT P t e 4 bytes z) {f:Fr} {r:List Fr} (h:StAt e B w a n c (f :: r) O) (hB:B≤w.heap.size) {bz:Nat} {Tz:TypeId} {zc:List Value} (hbz:Blk w bz zc Tz) (hzc:zc.length=4) (hz1:∀ u∈zc,u.oneCell'=true)
  {hd:Hd} {ps:Fo} {a':Option Addr} {c':Nat} {O2:Nat→Prop}
  (hps:SlF O2 w a' ps.len ps) (hO2:∀ k,O2 k→(B≤k∧k < w.heap.size)∧¬ O k∧¬ Sh.bk a k) (hlen:f.f.len + 1≤4611686018427387904) (hbytes:(f.f.len + 1) * bytes≤140737488355328) {pa:Option Addr} {pc g:Nat} (ha:a=some ⟨g,0,none⟩) (hcell:w.cell? ⟨g,r.length * 4 + 3,none⟩=some (.slice pa f.f.len pc))
  {K4:Option Addr→Nat→Nat→World→Prop}
  (hK:∀ a1 c1 w2 (q:Addr),(∀ KK:Addr→Prop,KK q→idx a1 (f.f.len + 1) (f.f.len:Int) 4 KK) →
   (∀ K:World→Prop,(∀ w' O',StAt e B w' a n c (f.add hd ps :: r) O'→Chg (fun k=>Sh.bk a k∨O k) w w'→(∀ k,O' k→O k∨O2 k∨(w.heap.size≤k∧k < w'.heap.size))→K w') →
    (stL w2 q 0 (qaz hd a' ps.len c') fun w3=>(stL w3 ⟨g,r.length * 4 + 3,none⟩ 0 [.slice a1 (f.f.len + 1) c1] K)∧True) ∧
    (stL w2 ⟨g,r.length * 4 + 3,none⟩ 0 [.slice a1 (f.f.len + 1) c1] fun w3=>(stL w3 q 0 (qaz hd a' ps.len c') K)∧True) ∧
    (stL w2 ⟨g,r.length * 4 + 3,none⟩ 0 [.slice a1 (f.f.len + 1) c1] fun w3=>idx a1 (f.f.len + 1) (f.f.len:Int) 4 fun q=>stL w3 q 0 (qaz hd a' ps.len c') K) ∧
    (zc=qaz hd a' ps.len c'→stL w2 ⟨g,r.length * 4 + 3,none⟩ 0 [.slice a1 (f.f.len + 1) c1] K))→K4 a1 (f.f.len + 1) c1 w2) :
  app P [t,t] ty (.slice pa f.f.len pc) (.slice (some ⟨bz,0,none⟩) 1 1) w K4:=by
 obtain ⟨h0,xs,h1,⟨pa',pc',O0,Or,ys,rfl,h2,h3,h4,h5⟩,h6⟩:=h
 obtain ⟨g',ha',hg,hc⟩:=h1.cell (by rw [h0];simp)
 obtain rfl:g'=g:=by rw [ha] at ha';simpa using ha'.symm
 have hl:=h3.len
 have hn:n=r.length + 1:=by rw [h0,List.length_cons]
 have hcell':w.cell? ⟨g',r.length * 4 + 3,none⟩=some (.slice pa' f.f.len pc'):=by
  refine hc _ _ ?_
  rw [List.getElem?_append_right (by omega),show r.length * 4 + 3 - ys.length=3 by omega];rfl
 obtain ⟨rfl,rfl⟩:pa'=pa∧pc'=pc:=by
  rw [hcell] at hcell'
  have:=Value.slice.inj (Option.some.inj hcell')
  exact ⟨this.1.symm,this.2.2.symm⟩
 obtain ⟨_,o1,o2,px,q1,q2⟩:=h2
 refine qv5 hT q1 hB (S:=fun _=>True) zc (by rw [hzc,Nat.one_mul]) (.inr ⟨bz,0,rfl,trivial,hbz.lt,fun j v hj=>by rw [Nat.zero_add,hbz.cell];exact hj⟩) hz1 hlen hbytes fun a1 c1 w2 ho hcw hnn=>?_
 have z:=hcw.size
 obtain ⟨g1,ha1,hidx,hst⟩:=ho.storeLast (vs:=qaz hd a' ps.len c') hzc rfl (by intro u hu;simp only [List.mem_cons,List.not_mem_nil,or_false] at hu;rcases hu with rfl | rfl | rfl | rfl <;> rfl)
 have paO:∀ k,Sh.bk pa' k→O k:=fun k hk=>(h4 k).2 (.inl (o1 k hk))
 have h1':Owns w2 B e 4 a n c (ys++qaz f.h pa' f.f.len pc'):=h1.chg hcw fun k hk hp=>h6 k (paO k hp) hk
 have na1:∀ k,Sh.bk a1 k→¬ Sh.bk a k:=fun k hk hb=>(hnn k hk).elim (fun h=>h6 k (paO k h) hb) (fun h=>by have:=(h1.bk hb).2;omega)
 have hset:(ys++qaz f.h pa' f.f.len pc').set (r.length * 4 + 3) (.slice a1 (f.f.len + 1) c1)=ys++qaz f.h a1 (f.f.len + 1) c1:=by
  rw [List.set_append_right _ _ (by omega),show r.length * 4 + 3 - ys.length=3 by omega];rfl
 have hlen':(f.add hd ps).f.len=f.f.len + 1:=by unfold Fr.add;simp [Fo.one]
 have fin:∀ w',Owns w' B e 4 a1 (f.f.len + 1) c1 (px++qaz hd a' ps.len c')→Owns w' B e 4 a n c (ys++qaz f.h a1 (f.f.len + 1) c1)→Chg (fun k=>Sh.bk a1 k∨Sh.bk a k) w2 w' →
   StAt e B w' a n c (f.add hd ps :: r) (fun k=>(O0 k∨O2 k∨Sh.bk a1 k)∨Or k)∧Chg (fun k=>Sh.bk a k∨O k) w w'∧(∀ k,((O0 k∨O2 k∨Sh.bk a1 k)∨Or k)→O k∨O2 k∨(w.heap.size≤k∧k < w'.heap.size)):=by
  intro w' x1 x2 x3
  have z3:=x3.size
  have own1:∀ k,(O0 k∨O2 k∨Sh.bk a1 k)→B≤k∧k < w'.heap.size:=fun k hk=>by
   rcases hk with hk | hk | hk
   ·exact ⟨(o2 k hk).1,by have:=(o2 k hk).2;omega⟩
   ·exact ⟨(hO2 k hk).1.1,by have:=(hO2 k hk).1.2;omega⟩
   ·exact x1.bk hk
  have same:∀ k,k < w.heap.size→¬ Sh.bk pa' k→¬ Sh.bk a k→¬ Sh.bk a1 k∧w'.heap[k]? = w.heap[k]?:=fun k hk n1 n2=>by
   have n3:¬ Sh.bk a1 k:=fun hh=>(hnn k hh).elim n1 (by omega)
   exact ⟨n3,(x3.block k (by omega) fun hh=>hh.elim n3 n2).trans (hcw.block k hk n1)⟩
  refine ⟨⟨by rw [h0];rfl,_,x2,⟨a1,c1,_,Or,ys,by rw [hlen'];rfl,?_,?_,fun k=>Iff.rfl,?_⟩,?_⟩,?_,?_⟩
  ·rw [hlen']
   refine ⟨by show _=(f.f.app _).len;simp [Fo.one],fun k hk=>.inr (.inr hk),own1,_,x1,?_⟩
   obtain ⟨_,us,g3,g4⟩:=hps
   have k1:∀ k,((False∨O0 k)∧¬ Sh.bk pa' k)→k < w.heap.size→((False∨O0 k∨O2 k∨Sh.bk a1 k)∧¬ Sh.bk a1 k)∧w'.heap[k]? = w.heap[k]?:=fun k hk hl=>by
    have ho:O0 k:=hk.1.elim (fun h=>h.elim) id
    obtain ⟨s1,s2⟩:=same k hl hk.2 (h6 k ((h4 k).2 (.inl ho)))
    exact ⟨⟨.inr (.inl ho),s1⟩,s2⟩
   have k2:∀ k,O2 k→k < w.heap.size→((False∨O0 k∨O2 k∨Sh.bk a1 k)∧¬ Sh.bk a1 k)∧w'.heap[k]? = w.heap[k]?:=fun k hk hl=>by
    obtain ⟨s1,s2⟩:=same k hl (fun hh=>(hO2 k hk).2.1 (paO k hh)) (hO2 k hk).2.2
    exact ⟨⟨.inr (.inr (.inl hk)),s1⟩,s2⟩
   exact (q2.keep k1 (by omega)).app ⟨a',c',us,[],rfl,g3.keep k2 (by omega),g4.keep k2 (by omega),rfl⟩
  ·exact (h3.chg hcw fun k hk hp=>h5 k (o1 k hp) hk).chg x3 fun k hk hh=>hh.elim (fun hb=>(hnn k hb).elim (fun hp=>h5 k (o1 k hp) hk) (fun hp=>by have:=(h3.own k hk).2;omega)) (h6 k ((h4 k).2 (.inr hk)))
  ·intro k hk h2'
   rcases hk with hk | hk | hk
   ·exact h5 k hk h2'
   ·exact (hO2 k hk).2.1 ((h4 k).2 (.inr h2'))
   ·rcases hnn k hk with hp | hp
    ·exact h5 k (o1 k hp) h2'
    ·have:=(h3.own k h2').2;omega
  ·intro k hk
   rcases hk with hk | hk
   ·rcases hk with hk | hk | hk
    ·exact h6 k ((h4 k).2 (.inl hk))
    ·exact (hO2 k hk).2.2
    ·exact na1 k hk
   ·exact h6 k ((h4 k).2 (.inr hk))
  ·refine ⟨x3.os.trans hcw.os,x3.tape.trans hcw.tape,x3.output.trans hcw.output,by omega,fun k hk hh=>(same k hk (fun hp=>hh (.inr (paO k hp))) (fun hb=>hh (.inl hb))).2⟩
  ·intro k hk
   rcases hk with hk | hk
   ·rcases hk with hk | hk | hk
    ·exact .inl ((h4 k).2 (.inl hk))
    ·exact .inr (.inl hk)
    ·rcases hnn k hk with hp | hp
     ·exact .inl (paO k hp)
     ·exact .inr (.inr ⟨hp,(x1.bk hk).2⟩)
   ·exact .inl ((h4 k).2 (.inr hk))
 have seth:∀ {W:World} {K:World→Prop},Owns W B e 4 a n c (ys++qaz f.h pa' f.f.len pc')→(∀ w',Owns w' B e 4 a n c (ys++qaz f.h a1 (f.f.len + 1) c1)→Chg (Sh.bk a) W w'→w'.heap.size=W.heap.size→K w')→stL W ⟨g',r.length * 4 + 3,none⟩ 0 [.slice a1 (f.f.len + 1) c1] K:=by
  intro W K hW hk
  obtain ⟨g2,hg2,hst2⟩:=owns_set hW (j:=r.length * 4 + 3) (by omega) (v:=.slice a1 (f.f.len + 1) c1) rfl
  obtain rfl:g2=g':=by rw [ha] at hg2;simpa using hg2.symm
  refine hst2 K fun w' x1 x2 x3=>hk w' (by rw [← hset];exact x1) x2 x3
 have sete:∀ {W:World} {K:World→Prop},Owns W B e 4 a1 (f.f.len + 1) c1 (px++zc)→(∀ w',Owns w' B e 4 a1 (f.f.len + 1) c1 (px++qaz hd a' ps.len c')→Chg (Sh.bk a1) W w'→w'.heap.size=W.heap.size→K w')→stL W ⟨g1,f.f.len * 4,none⟩ 0 (qaz hd a' ps.len c') K:=by
  intro W K hW hk
  obtain ⟨g2,hg2,_,hst2⟩:=hW.storeLast (vs:=qaz hd a' ps.len c') hzc rfl (by intro u hu;simp only [List.mem_cons,List.not_mem_nil,or_false] at hu;rcases hu with rfl | rfl | rfl | rfl <;> rfl)
  obtain rfl:g2=g1:=by rw [ha1] at hg2;simpa using hg2.symm
  exact hst2 K hk
 refine hK a1 c1 w2 ⟨g1,f.f.len * 4,none⟩ hidx fun K hk=>?_
 have eh:∀ {K:World→Prop},(∀ w' O',StAt e B w' a n c (f.add hd ps :: r) O'→Chg (fun k=>Sh.bk a k∨O k) w w'→(∀ k,O' k→O k∨O2 k∨(w.heap.size≤k∧k < w'.heap.size))→K w')→stL w2 ⟨g1,f.f.len * 4,none⟩ 0 (qaz hd a' ps.len c') fun w3=>(stL w3 ⟨g',r.length * 4 + 3,none⟩ 0 [.slice a1 (f.f.len + 1) c1] K)∧True:=by
  intro K hk
  refine sete ho fun w3 x1 x2 x3=>⟨seth (h1'.chg x2 fun k hk hh=>na1 k hh hk) fun w4 y1 y2 y3=>?_,trivial⟩
  obtain ⟨f1,f2,f3⟩:=fin w4 (x1.chg y2 fun k hk hh=>na1 k hk hh) y1 ((x2.mono fun k _ hk=>.inl hk).trans (y2.mono fun k _ hk=>.inr hk))
  exact hk w4 _ f1 f2 f3
 have he:∀ {W:World} {K:World→Prop},(∀ w' O',StAt e B w' a n c (f.add hd ps :: r) O'→Chg (fun k=>Sh.bk a k∨O k) w w'→(∀ k,O' k→O k∨O2 k∨(w.heap.size≤k∧k < w'.heap.size))→K w')→Owns W B e 4 a n c (ys++qaz f.h a1 (f.f.len + 1) c1)→Chg (Sh.bk a) w2 W→stL W ⟨g1,f.f.len * 4,none⟩ 0 (qaz hd a' ps.len c') K:=by
  intro W K hk y1 y2
  refine sete (ho.chg y2 fun k hk hh=>na1 k hk hh) fun w4 x1 x2 x3=>?_
  obtain ⟨f1,f2,f3⟩:=fin w4 x1 (y1.chg x2 fun k hk hh=>na1 k hh hk) ((y2.mono fun k _ hk=>.inr hk).trans (x2.mono fun k _ hk=>.inl hk))
  exact hk w4 _ f1 f2 f3
 refine ⟨eh hk,seth h1' fun w3 y1 y2 _=>⟨he hk y1 y2,trivial⟩,seth h1' fun w3 y1 y2 _=>hidx _ (he hk y1 y2),fun hz=>seth h1' fun w3 y1 y2 _=>?_⟩
 obtain ⟨f1,f2,f3⟩:=fin w3 (by rw [← hz];exact ho.chg y2 fun k hk hh=>na1 k hk hh) y1 (y2.mono fun k _ hk=>.inr hk)
 exact hk w3 _ f1 f2 f3
end
def tkOk (x:Tk):Prop:=(x.k=1∧x.nm=[])∨((x.k=2∨x.k=3∨x.k=4)∧qcd x.nm=true∧qga x.nm=decide (x.k=4)∧(x.k=3→x.vl=[])∧(x.k≠3→valB x.nm x.vl=true))
theorem chk_tk {x:Lx} {pt:Bool} {at_:Int} (h:qdx x pt at_=0):tkOk (tkX x):=by
 obtain ⟨h1,_,h3,_⟩:=chk_inv h
 unfold qbz at h1
 unfold tkOk tkX
 by_cases hk:x.k=1
 ·left
  rw [if_pos hk] at h1
  split at h1
  ·cases h1
  ·rename_i hn;exact ⟨hk,Classical.not_not.1 hn⟩
 ·right
  rw [if_neg hk] at h1
  split at h1
  ·rename_i hk2
   split at h1
   ·rename_i hn
    have hr:=h3 hk
    unfold qbu at hr
    refine ⟨hk2,hn.1,hn.2,fun h=>?_,fun h=>?_⟩
    ·rw [if_pos h] at hr;exact of_decide_eq_true hr
    ·rw [if_neg h] at hr;exact hr
   ·cases h1
  ·cases h1
theorem q35:∀ {L:List Lx} {pt:Bool} {at_:Nat},chkGo L pt at_=0→∀ x∈L,tkOk (tkX x)
 | [],_,_,_,x,hx=>by cases hx
 | y :: r,pt,at_,h,x,hx=>by
  obtain ⟨h1,h2⟩:=chkGo_cons.1 h
  rcases List.mem_cons.1 hx with rfl | hx
  ·exact chk_tk h1
  ·exact q35 h2 x hx
theorem q8r {most:Nat} (hm:most≤64) {v:List UInt8} (h:numV most v=true):1≤numOf v∧numOf v≤64∧Lib.decDigits (numOf v).toNat=v:=by
 obtain ⟨n,h1,h2,h3,h4⟩:=(qpe hm v).1 h
 unfold numOf
 rw [h1]
 exact ⟨by show (1:Int)≤(n:Int);omega,by show (n:Int)≤64;omega,h4⟩
theorem qxr {nm vl:List UInt8} {c:Int} (hc:c≠1) (h1:qcd nm=true) (h2:valB nm vl=true) :
  let h:=headF ⟨c,nm,vl⟩
  tagF h.k=nm∧valT h.k h.t h.n=vl∧q3z h.k h.t h.n∧h.k≠1∧qx h.k=!qga nm:=by
 have hm:nm∈qvt:=of_decide_eq_true h1
 unfold headF
 simp only [hc,if_false]
 simp only [qvt,List.mem_cons,List.not_mem_nil,or_false] at hm
 have sm:∀ i:Nat,i < 12→2≤i→(if qad (i:Int)=true then vl else [])=(if qad (i:Int) then vl else []):=fun _ _ _=>rfl
 rcases hm with rfl | rfl | rfl | rfl | rfl | rfl | rfl | rfl | rfl | rfl
 ·rw [show kindN [97,98]=10 by decide +kernel]
  exact ⟨rfl,rfl,.inr ⟨by decide,by decide,fun hh=>(by cases hh),fun _=>rfl,fun hh=>(by cases hh)⟩,by decide,rfl⟩
 ·rw [show kindN [97,100,100]=8 by decide +kernel]
  obtain ⟨a,b,d⟩:=q8r (most:=8) (by omega) h2
  exact ⟨rfl,d,.inr ⟨by decide,by decide,fun _=>rfl,fun hh=>(by cases hh),fun _=>⟨a,b⟩⟩,by decide,rfl⟩
 ·rw [show kindN [100,101,108]=9 by decide +kernel]
  obtain ⟨a,b,d⟩:=q8r (most:=8) (by omega) h2
  exact ⟨rfl,d,.inr ⟨by decide,by decide,fun _=>rfl,fun hh=>(by cases hh),fun _=>⟨a,b⟩⟩,by decide,rfl⟩
 ·rw [show kindN [103,97,112]=6 by decide +kernel]
  obtain ⟨a,b,d⟩:=q8r (most:=64) (by omega) h2
  exact ⟨rfl,d,.inr ⟨by decide,by decide,fun _=>rfl,fun hh=>(by cases hh),fun _=>⟨a,b⟩⟩,by decide,rfl⟩
 ·rw [show kindN [108,98]=2 by decide +kernel]
  exact ⟨rfl,(of_decide_eq_true h2).symm,.inr ⟨by decide,by decide,fun _=>rfl,fun _=>rfl,fun hh=>(by cases hh)⟩,by decide,rfl⟩
 ·rw [show kindN [110,97,109,101]=11 by decide +kernel]
  exact ⟨rfl,rfl,.inr ⟨by decide,by decide,fun hh=>(by cases hh),fun _=>rfl,fun hh=>(by cases hh)⟩,by decide,rfl⟩
 ·rw [show kindN [112,98]=3 by decide +kernel]
  exact ⟨rfl,rfl,.inr ⟨by decide,by decide,fun hh=>(by cases hh),fun _=>rfl,fun hh=>(by cases hh)⟩,by decide,rfl⟩
 ·rw [show kindN [115,101,99]=4 by decide +kernel]
  exact ⟨rfl,rfl,.inr ⟨by decide,by decide,fun hh=>(by cases hh),fun _=>rfl,fun hh=>(by cases hh)⟩,by decide,rfl⟩
 ·rw [show kindN [117,110,99,108,101,97,114]=7 by decide +kernel]
  exact ⟨rfl,(of_decide_eq_true h2).symm,.inr ⟨by decide,by decide,fun _=>rfl,fun _=>rfl,fun hh=>(by cases hh)⟩,by decide,rfl⟩
 ·rw [show kindN [118]=5 by decide +kernel]
  exact ⟨rfl,(of_decide_eq_true h2).symm,.inr ⟨by decide,by decide,fun _=>rfl,fun _=>rfl,fun hh=>(by cases hh)⟩,by decide,rfl⟩
def hdTk (h:Hd):Tk:=⟨2,tagF h.k,valT h.k h.t h.n⟩
def unp:List Fr→List Tk
 | []=>[]
 | [f]=>tksF f.f
 | f :: g :: r=>unp (g :: r)++hdTk f.h :: tksF f.f
def hdOk (h:Hd):Prop:=q3z h.k h.t h.n∧h.k≠1∧qx h.k=true
def frOk:List Fr→Prop
 | []=>False
 | [f]=>qf8 f.f
 | f :: g :: r=>hdOk f.h∧qf8 f.f∧frOk (g :: r)
def qpg:List Fr→List (List UInt8)
 | []=>[]
 | [_]=>[]
 | f :: g :: r=>tagF f.h.k :: qpg (g :: r)
theorem shape_app {f g:Fo}:qf8 (f.app g)↔qf8 f∧qf8 g:=by
 induction f with
 | nil=>simp [qf8]
 | cons k t n ps r _ ih=>simp only [Fo.cons_app,qf8,ih,and_assoc]
theorem q74 (f:Fr) (h:Hd) (ps:Fo) (r:List Fr):unp (f.add h ps :: r)=unp (f :: r)++tksF (.one h.k h.t h.n ps):=by
 cases r with
 | nil=>exact q94 _ _
 | cons g r =>
  show unp (g :: r)++hdTk f.h :: tksF (f.f.app _)=(unp (g :: r)++hdTk f.h :: tksF f.f)++_
  rw [q94];simp
theorem fr_add {f:Fr} {h:Hd} {ps:Fo} {r:List Fr} (hf:frOk (f :: r)) (hs:qf8 (.one h.k h.t h.n ps)):frOk (f.add h ps :: r):=by
 cases r with
 | nil=>exact shape_app.2 ⟨hf,hs⟩
 | cons g r=>exact ⟨hf.1,shape_app.2 ⟨hf.2.1,hs⟩,hf.2.2⟩
theorem qxi (f:Fr) (h:Hd) (ps:Fo) (r:List Fr):qpg (f.add h ps :: r)=qpg (f :: r):=by
 cases r <;> rfl
theorem q75 (h:Hd) (ps:Fo):tksF (.one h.k h.t h.n ps)=(if h.k=1 then [⟨1,[],h.t⟩] else if qx h.k then ⟨2,tagF h.k,valT h.k h.t h.n⟩ :: (tksF ps++[⟨3,tagF h.k,[]⟩]) else [⟨4,tagF h.k,valT h.k h.t h.n⟩]):=by
 unfold Fo.one
 rw [tksF,tksF,List.append_nil]
theorem qxc:∀ (L:List Lx) (st:List Fr),frOk st→(∀ x∈L,tkOk (tkX x))→qhg L (qpg st)=0→∃ fr:Fr,(L.map tkX).foldl stepP st=[fr]∧qf8 fr.f∧tksF fr.f=unp st++L.map tkX
 | [],st,hf,_,hn=>by
  match st,hf with
  | [f],hf=>exact ⟨f,rfl,hf,by simp [unp]⟩
  | f :: g :: r,hf =>
   rw [qpg,qhg] at hn
   simp at hn
 | x :: L,st,hf,ht,hn=>by
  have hx:=ht x List.mem_cons_self
  have htl:∀ y∈L,tkOk (tkX y):=fun y hy=>ht y (List.mem_cons_of_mem _ hy)
  obtain ⟨f,r,rfl⟩:∃ f r,st=f :: r:=by
   cases st with
   | nil=>exact hf.elim
   | cons f r=>exact ⟨f,r,rfl⟩
  rw [List.map_cons,List.foldl_cons]
  rw [qhg] at hn
  have fin:∀ st',stepP (f :: r) (tkX x)=st'→frOk st'→qhg L (qpg st')=0→unp st'=unp (f :: r)++[tkX x]→∃ fr:Fr,(L.map tkX).foldl stepP (stepP (f :: r) (tkX x))=[fr]∧qf8 fr.f∧tksF fr.f=unp (f :: r)++tkX x :: L.map tkX:=by
   intro st' h1 h2 h3 h4
   obtain ⟨fr,g1,g2,g3⟩:=qxc L st' h2 htl h3
   exact ⟨fr,by rw [h1];exact g1,g2,by rw [g3,h4];simp⟩
  by_cases h2:x.k=2
  ·rw [if_pos h2] at hn
   split at hn
   ·cases hn
   rcases hx with hx | ⟨_,hk,he,_,hv⟩
   ·exact absurd (hx.1.symm.trans h2) (by decide)
   have hb:=qxr (c:=x.k) (by omega) hk (hv (by show x.k≠3;omega))
   obtain ⟨b1,b2,b3,b4,b5⟩:=hb
   have hpt:qx (headF (tkX x)).k=true:=by
    rw [show qx (headF (tkX x)).k=!qga x.nm from b5]
    have:qga x.nm=decide (x.k=4):=he
    rw [this,decide_eq_false (by omega)];rfl
   refine fin (⟨headF (tkX x),.nil⟩ :: f :: r) (by unfold stepP;rw [if_pos (show (tkX x).k=2 from h2)]) ⟨⟨b3,b4,hpt⟩,trivial,hf⟩ ?_ ?_
   ·show qhg L (tagF (headF (tkX x)).k :: qpg (f :: r))=0
    rw [show tagF (headF (tkX x)).k=x.nm from b1];exact hn
   ·show unp (f :: r)++[hdTk (headF (tkX x))]=_
    have:hdTk (headF (tkX x))=tkX x:=by
     unfold hdTk
     rw [show tagF (headF (tkX x)).k=x.nm from b1,show valT (headF (tkX x)).k (headF (tkX x)).t (headF (tkX x)).n=x.vl from b2]
     unfold tkX;rw [h2]
    rw [this]
  ·rw [if_neg h2] at hn
   by_cases h3:x.k=3
   ·rw [if_pos h3] at hn
    cases r with
    | nil=>simp [qpg,popS] at hn
    | cons f1 r =>
     rw [qpg] at hn
     by_cases he:tagF f.h.k=x.nm
     ·rw [popS,if_pos he] at hn
      obtain ⟨⟨a1,a2,a3⟩,a4,a5⟩:=hf
      have hvl:x.vl=[]:=by
       rcases hx with hx | ⟨_,_,_,hv,_⟩
       ·exact absurd (hx.1.symm.trans h3) (by decide)
       ·exact hv h3
      refine fin (f1.add f.h f.f :: r) ?_ (fr_add a5 ?_) (by rw [qxi];exact hn) ?_
      ·unfold stepP;rw [if_neg (show ¬ (tkX x).k=2 from h2),if_pos (show (tkX x).k=3 from h3)]
      ·exact ⟨a1,fun hh=>(by rw [a3] at hh;cases hh),a4,trivial⟩
      ·rw [q74,q75,if_neg a2,if_pos a3]
       show _=(unp (f1 :: r)++hdTk f.h :: tksF f.f)++[tkX x]
       have:tkX x=⟨3,tagF f.h.k,[]⟩:=by unfold tkX;rw [h3,he,hvl]
       rw [this];simp [hdTk]
     ·rw [popS,if_neg he] at hn
      simp at hn
   ·rw [if_neg h3] at hn
    have hs:stepP (f :: r) (tkX x)=f.add (headF (tkX x)) .nil :: r:=by
     unfold stepP;rw [if_neg (show ¬ (tkX x).k=2 from h2),if_neg (show ¬ (tkX x).k=3 from h3)]
    rcases hx with hx | ⟨hk4,hk,he,_,hv⟩
    ·obtain ⟨k1,n0⟩:=hx
     have k1:x.k=1:=k1
     have n0:x.nm=[]:=n0
     have hh:headF (tkX x)=⟨1,x.vl,0⟩:=by unfold headF;rw [if_pos (show (tkX x).k=1 from k1)];rfl
     refine fin _ hs (fr_add hf ?_) (by rw [qxi];exact hn) ?_
     ·rw [hh];exact ⟨.inl ⟨rfl,rfl⟩,fun _=>rfl,trivial,trivial⟩
     ·rw [q74,q75,hh,if_pos rfl]
      unfold tkX;rw [k1,n0]
    ·have k4:x.k=4:=by
      have:x.k=2∨x.k=3∨x.k=4:=hk4
      omega
     obtain ⟨b1,b2,b3,b4,b5⟩:=qxr (c:=x.k) (by omega) hk (hv (by show x.k≠3;omega))
     have hpt:qx (headF (tkX x)).k=false:=by
      rw [show qx (headF (tkX x)).k=!qga x.nm from b5]
      have:qga x.nm=decide (x.k=4):=he
      rw [this,decide_eq_true k4];rfl
     refine fin _ hs (fr_add hf ⟨b3,fun _=>rfl,trivial,trivial⟩) (by rw [qxi];exact hn) ?_
     rw [q74,q75,if_neg (show ¬ (headF (tkX x)).k=1 from b4),if_neg (by rw [hpt];decide)]
     rw [show tagF (headF (tkX x)).k=x.nm from b1,show valT (headF (tkX x)).k (headF (tkX x)).t (headF (tkX x)).n=x.vl from b2]
     unfold tkX;rw [k4]
theorem tree_inv {L:List Lx} (h:nestX L=0):qf8 (treeT (L.map tkX))∧tksF (treeT (L.map tkX))=L.map tkX:=by
 unfold nestX at h
 split at h
 ·cases h
 rename_i hc
 obtain ⟨fr,h1,h2,h3⟩:=qxc L [⟨⟨0,[],0⟩,.nil⟩] trivial (q35 (Classical.not_not.1 hc)) h
 unfold treeT
 rw [h1]
 exact ⟨h2,by rw [h3];rfl⟩
theorem all_cons {k:Int} {t:List UInt8} {n:Int} {ps r:Fo} {b w:Bool} (h:allF (.cons k t n ps r) b w=0):qy k t n ps b w=0∧allF ps false true=0∧allF r (decide (k=1)) w=0:=by
 rw [allF] at h
 split at h
 ·rename_i h1;exact absurd h h1
 rename_i h1
 split at h
 ·rename_i h2;exact absurd h h2
 rename_i h2
 exact ⟨Classical.not_not.1 h1,Classical.not_not.1 h2,h⟩
section
variable {R:Ending→World→Prop} {w:World}
theorem setN {b i:Nat} {T:TypeId} {cs:List Value} {v:Value} {w:World} (hb:Blk w b cs T) (hi:i < cs.length) (hv:v.oneCell'=true) {K:World→Prop}
  (h:∀ w',Blk w' b (cs.set i v) T→Chg (fun k=>k=b) w w'→w'.heap.size=w.heap.size→K w'):stL w ((⟨b,0,none⟩:Addr).add i) 0 [v] K:=by
 rw [qg]
 refine qae hb (by simp;omega) (by intro u hu;rw [List.mem_singleton.1 hu];exact hv) fun w' b1 x2 x3 x4 x5 x6=>?_
 have e:putAt cs (0 + i + 0) [v]=cs.set i v:=by rw [Nat.zero_add,Nat.add_zero];rfl
 rw [e] at b1
 exact h w' b1 ⟨x4,x5,x6,by omega,fun j _ hj=>x2 j hj⟩ x3
def lastN (R:Ending→World→Prop) (p7:Addr) (w41:World):Prop :=
 ∃ (x42:Int),World.cell? w41 (p7.add 0)=some (.int .i64 x42)∧(∃ (x43:List UInt8),World.cell? w41 (p7.add 1)=some (.string ⟨⟨x43⟩⟩)∧(∃ (x44:Int),World.cell? w41 (p7.add 2)=some (.int .i64 x44)∧(∃ (x45:Option Addr) (x45n:Nat) (x45c:Nat),World.cell? w41 (p7.add 3)=some (.slice x45 x45n x45c)∧(R (.returned (.agg ⟨[.int .i64 x42,.string ⟨⟨x43⟩⟩,.int .i64 x44,.slice x45 x45n x45c]⟩)) w41))))
def outN (R:Ending→World→Prop) (p20 p7:Addr) (w36:World):Prop :=
 ∃ (x37:Int),World.cell? w36 (p20.add 0)=some (.int .i64 x37)∧(∃ (x38:List UInt8),World.cell? w36 (p20.add 1)=some (.string ⟨⟨x38⟩⟩)∧(∃ (x39:Int),World.cell? w36 (p20.add 2)=some (.int .i64 x39)∧(∃ (x40:Option Addr) (x40n:Nat) (x40c:Nat),World.cell? w36 (p20.add 3)=some (.slice x40 x40n x40c)∧(stL w36 p7 0 [.int .i64 x37,.string ⟨⟨x38⟩⟩,.int .i64 x39,.slice x40 x40n x40c] fun w41=>lastN R p7 w41))))
theorem one4n {k n:Int} {t:List UInt8} {a:Option Addr} {l c:Nat}:∀ u∈([.int .i64 k,.string ⟨⟨t⟩⟩,.int .i64 n,.slice a l c]:List Value),u.oneCell'=true:=by
 intro u hu;simp only [List.mem_cons,List.not_mem_nil,or_false] at hu;rcases hu with rfl | rfl | rfl | rfl <;> rfl
theorem st4n {b7:Nat} {T':TypeId} {cs:List Value} {w:World} {k n:Int} {t:List UInt8} (B7:Blk w b7 cs T') (hl:cs.length=4)
  (h:∀ w',Chg (fun k=>k=b7) w w'→R (.returned (.agg ⟨[.int .i64 k,.string ⟨⟨t⟩⟩,.int .i64 n,.slice none 0 0]⟩)) w'):stL w ⟨b7,0,none⟩ 0 [.int .i64 k,.string ⟨⟨t⟩⟩,.int .i64 n,.slice none 0 0] fun w41=>lastN R ⟨b7,0,none⟩ w41:=by
 refine qae B7 (by simp [hl]) one4n fun w' b1 x2 x3 x4 x5 x6=>?_
 rw [Nat.add_zero,putAt4 hl rfl] at b1
 obtain ⟨y0,y1,y2,y3⟩:=blk4 b1
 exact ⟨_,y0,_,y1,_,y2,_,_,_,y3,h w' ⟨x4,x5,x6,by omega,fun j _ hj=>x2 j hj⟩⟩
theorem q8p {b20 b7:Nat} {T T':TypeId} {cs:List Value} {w:World} {k n:Int} {t:List UInt8} (B20:Blk w b20 [.int .i64 k,.string ⟨⟨t⟩⟩,.int .i64 n,.slice none 0 0] T) (B7:Blk w b7 cs T') (hl:cs.length=4)
  (h:∀ w',Chg (fun k=>k=b7) w w'→R (.returned (.agg ⟨[.int .i64 k,.string ⟨⟨t⟩⟩,.int .i64 n,.slice none 0 0]⟩)) w'):outN R ⟨b20,0,none⟩ ⟨b7,0,none⟩ w:=by
 obtain ⟨y0,y1,y2,y3⟩:=blk4 B20
 exact ⟨_,y0,_,y1,_,y2,_,_,_,y3,st4n B7 hl h⟩
theorem forms_all:∀ i:Nat,i < 12→formsCells[i * 4]? = some (.string ⟨⟨tagF i⟩⟩)∧formsCells[i * 4 + 1]? = some (.bool (qad i))∧formsCells[i * 4 + 2]? = some (.bool (numsF i))∧formsCells[i * 4 + 3]? = some (.bool (qx i)):=by
 intro i hi
 match i,hi with
 | 0,_=>exact ⟨rfl,rfl,rfl,rfl⟩
 | 1,_=>exact ⟨rfl,rfl,rfl,rfl⟩
 | 2,_=>exact ⟨rfl,rfl,rfl,rfl⟩
 | 3,_=>exact ⟨rfl,rfl,rfl,rfl⟩
 | 4,_=>exact ⟨rfl,rfl,rfl,rfl⟩
 | 5,_=>exact ⟨rfl,rfl,rfl,rfl⟩
 | 6,_=>exact ⟨rfl,rfl,rfl,rfl⟩
 | 7,_=>exact ⟨rfl,rfl,rfl,rfl⟩
 | 8,_=>exact ⟨rfl,rfl,rfl,rfl⟩
 | 9,_=>exact ⟨rfl,rfl,rfl,rfl⟩
 | 10,_=>exact ⟨rfl,rfl,rfl,rfl⟩
 | 11,_=>exact ⟨rfl,rfl,rfl,rfl⟩
 | n + 12,h=>omega
theorem Forms.at {w:World} (h:Forms w) {i:Nat} (hi:i < 12) :
  (∀ K:Addr→Prop,K ⟨qk,i * 4,none⟩→idx (some ⟨qk,0,none⟩) 12 (i:Int) 4 K)∧w.cell? ((⟨qk,i * 4,none⟩:Addr).add 0)=some (.string ⟨⟨tagF i⟩⟩)∧w.cell? ((⟨qk,i * 4,none⟩:Addr).add 1)=some (.bool (qad i))∧w.cell? ((⟨qk,i * 4,none⟩:Addr).add 2)=some (.bool (numsF i))∧w.cell? ((⟨qk,i * 4,none⟩:Addr).add 3)=some (.bool (qx i)):=by
 obtain ⟨f0,f1,f2,f3⟩:=forms_all i hi
 refine ⟨fun K hK=>⟨by omega,by omega,?_⟩,?_⟩
 ·show K _
  rw [qg,Int.toNat_natCast,Nat.zero_add];exact hK
 ·simp only [qg]
  exact ⟨h.2 _ _ f0,h.2 _ _ f1,h.2 _ _ f2,h.2 _ _ f3⟩
theorem kindN_at {nm:List UInt8} (h:qcd nm=true):2≤kindN nm∧kindN nm≤11∧∀ i:Nat,i < 12→i≤kindN nm→(decide (tagF i=nm∧tagF i≠[])=decide (i=kindN nm)) :=
 qxn (C:=fun nm=>2≤kindN nm∧kindN nm≤11∧∀ i:Nat,i < 12→i≤kindN nm→(decide (tagF i=nm∧tagF i≠[])=decide (i=kindN nm))) h (by decide +kernel)
theorem node1_spec (tg nm:List UInt8) (b1 b2 b3:Bool) (p:Addr) (hp:w.cell? (p.add 1)=some (.string ⟨⟨nm⟩⟩)) (h:∀ w',Ext w w'→R (.returned (.bool (decide (tg=nm∧tg≠[])))) w') :
  Calls prog qcw ⟨[.agg ⟨[.string ⟨⟨tg⟩⟩,.bool b1,.bool b2,.bool b3]⟩,.pointer (some p)]⟩ w R:=by
 apply qno
 refine qh fun b6 w7 hb6 B6 e7 s7=>?_
 have y0:w7.cell? ((⟨b6,0,none⟩:Addr).add 0)=some (.string ⟨⟨tg⟩⟩):=by rw [qg,B6.cell];rfl
 refine ⟨_,y0,dr_ok ⟨_,qp hp e7,qd (fun g=>⟨_,y0,?_⟩) (fun g=>?_)⟩⟩
 ·have e:decide (tg=nm∧tg≠[])=decide (tg≠[]):=decide_eq_decide.2 ⟨fun hh=>hh.2,fun hh=>⟨g,hh⟩⟩
  rw [← e];exact h w7 e7
 ·have e:decide (tg=nm∧tg≠[])=false:=decide_eq_false fun hh=>g hh.1
  rw [← e];exact h w7 e7
theorem q1h (nm:List UInt8) (hk:qcd nm=true) (hF:Forms w) (p:Addr) (hp:w.cell? (p.add 1)=some (.string ⟨⟨nm⟩⟩)) (h:∀ w',Ext w w'→R (.returned (.int .i64 (kindN nm:Int))) w') :
  Calls prog qz ⟨[.slice (some ⟨qk,0,none⟩) 12 12,.func (.func qcw) ⟨[]⟩ ⟨[.pointer (some p)]⟩]⟩ w R:=by
 apply qax
 obtain ⟨k1,k2,k3⟩:=kindN_at hk
 refine ⟨fun t W m=>∃ k:Nat,t=k∧k≤kindN nm∧m=12 - k∧Ext w W,⟨_,0,rfl,by omega,rfl,Below.refl _ _⟩,?_⟩
 rintro _ W m ⟨k,rfl,hkk,rfl,he⟩ _
 obtain ⟨hq,f0,f1,f2,f3⟩:=(hF.ext he).at (i:=k) (by omega)
 refine qd (fun hlt=>hq _ ⟨_,f0,_,f1,_,f2,_,f3,⟨by kernel_rfl,?_⟩⟩) (fun hge=>by omega)
 refine node1_spec (tagF k) nm _ _ _ p (qp hp he) fun w14 e14=>⟨_,rfl,?_⟩
 rw [k3 k (by omega) hkk]
 refine qd (fun g=>?_) (fun g=>?_)
 ·rw [g];exact h w14 (qb he e14)
 ·exact ⟨12 - (k + 1),by omega,k + 1,by rw [qj (by omega)],by omega,rfl,qb he e14⟩
theorem num_ok {x:Tk} (h:tkOk x) (h1:x.k≠1) (h3:x.k≠3) (hn:numsF (kindN x.nm)=true) (ht:qad (kindN x.nm)=false):∃ v:Int,Lib.atoiAll x.vl=.ok v∧numOf x.vl=v:=by
 rcases h with h | ⟨_,hk,_,_,hv⟩
 ·exact absurd h.1 h1
 have hb:=qxr (c:=x.k) h1 hk (hv h3)
 obtain ⟨b1,b2,b3,b4,b5⟩:=hb
 have e:headF ⟨x.k,x.nm,x.vl⟩=⟨kindN x.nm,[],numOf x.vl⟩:=by unfold headF;rw [if_neg h1];simp only [ht,hn,Bool.false_eq_true,if_false,if_true]
 rw [e] at b3
 rcases b3 with b3 | ⟨_,_,_,_,b3⟩
 ·rw [e] at b4;exact absurd b3.1 b4
 obtain ⟨c1,c2⟩:=b3 hn
 unfold numOf at c1 ⊢
 cases ha:Lib.atoiAll x.vl with
 | ok v=>exact ⟨v,rfl,rfl⟩
 | _=>rw [ha] at c1;exact absurd (show (1:Int)≤0 from c1) (by omega)
theorem q16 (x:Lx) (hx:tkOk (tkX x)) (h3:x.k≠3) (hl:x.vl.length≤1000000000) (hF:Forms w) (hM:Mk w)
  (h:∀ w',Ext w w'→R (.returned (.agg ⟨qaz (headF (tkX x)) none 0 0⟩)) w'):Calls prog qec ⟨[aggX x]⟩ w R:=by
 apply qsw
 refine qh fun b5 w6 hb5 B5 e6 s6=>?_
 refine qh fun b7 w8 hb7 B7 e8 s8=>?_
 obtain ⟨c0,c1,c2,c3⟩:=blk4x (B5.ext e8)
 have E8:=qb e6 e8
 have z6:=e6.size
 refine ⟨_,c0,qd (fun g=>⟨_,c2,?_⟩) (fun g=>?_)⟩
 ·have e:headF (tkX x)=⟨1,x.vl,0⟩:=by unfold headF;rw [if_pos (show (tkX x).k=1 from g)];rfl
  rw [e] at h
  exact st4n B7 rfl fun w' hc=>h w' (qau E8 hc (by omega))
 have hkn:qcd x.nm=true:=by
  rcases hx with hx | hx
  ·exact absurd hx.1 g
  ·exact hx.2.1
 obtain ⟨k1,k2,_⟩:=kindN_at hkn
 have hsl:∀ {K:Option Addr→Nat→Nat→Prop},K (some ⟨qk,0,none⟩) 12 12→sls (some (⟨qk,0,none⟩:Addr)) 12 0 (12:Nat) 4 K:=fun {K} hK=>q79 (m:=12) (by omega) (fun p hp=>by rw [← Option.some.inj hp];rfl) hK
 refine hsl ?_
 refine q1h x.nm hkn (hF.ext E8) ⟨b5,0,none⟩ c1 fun w18 e18=>⟨_,rfl,?_⟩
 refine qw rfl one4n fun b20 w22 hb20 B20 e22 s22=>?_
 have E22:=qb (qb E8 e18) e22
 have B5a:=((B5.ext e8).ext e18).ext e22
 have B7a:=(B7.ext e18).ext e22
 have z8:=e8.size
 have z18:=e18.size
 obtain ⟨_,_,d2,_⟩:=blk4x B5a
 obtain ⟨hq,f0,f1,f2,f3⟩:=(hF.ext E22).at (i:=kindN x.nm) (by omega)
 have hh:headF (tkX x)=⟨kindN x.nm,if qad (kindN x.nm) then x.vl else [],if qad (kindN x.nm) then 0 else if numsF (kindN x.nm) then numOf x.vl else 0⟩:=by unfold headF;rw [if_neg (show ¬ (tkX x).k=1 from g)];rfl
 rw [hh] at h
 refine qd (fun gn=>by omega) (fun _=>hq _ ⟨_,f1,ql (fun gt=>⟨_,d2,?_⟩) (fun gt=>hq _ ⟨_,f2,ql (fun gn=>⟨_,d2,?_⟩) (fun gn=>?_)⟩)⟩)
 ·simp only [gt,if_true] at h
  refine setN B20 (i:=1) (by simp) rfl fun w36 B36 c36 s36=>?_
  exact q8p (t:=x.vl) B36 (c36.blk B7a (by omega)) rfl fun w' hc=>h w' (qau (qau E22 c36 (by omega)) hc (by omega))
 ·simp only [gt,gn,Bool.false_eq_true,if_false,if_true] at h
  obtain ⟨v,hv,hnv⟩:=num_ok hx g h3 gn gt
  rw [show numOf x.vl=v from hnv] at h
  refine (Tryz.strconv_Atoi_ok ⟨⟨x.vl⟩⟩ (by show x.vl.length≤_;omega) v hv w22).mono ?_
  rintro e w50 ⟨rfl,hw⟩
  have he:Ext w22 w50:=by
   rcases hw with rfl | ⟨t,rfl⟩
   ·exact Below.refl _ _
   ·exact Joins.below_bytesWorld _ _ _ _ (Nat.le_refl _)
  have z50:=he.size
  refine ⟨v,.nilIface,rfl,?_⟩
  refine setN (B20.ext he) (i:=2) (by simp) rfl fun w53 B53 c53 s53=>?_
  exact q8p (n:=v) B53 (c53.blk (B7a.ext he) (by omega)) rfl fun w' hc=>h w' (qau (qau (qb E22 he) c53 (by omega)) hc (by omega))
 ·simp only [gt,gn,Bool.false_eq_true,if_false] at h
  exact q8p B20 B7a rfl fun w' hc=>h w' (qau E22 hc (by omega))
end
def wantT (l:List Tk):Nat:=(l.filter fun x=>decide (x.k≠3)).length
theorem qwe (l m:List Tk):wantT (l++m)=wantT l + wantT m:=by unfold wantT;rw [List.filter_append,List.length_append]
theorem q2o:∀ {g:Fo},qf8 g→wantT (tksF g)=g.size
 | .nil,_=>rfl
 | .cons k t n ps r,⟨h1,h2,h3,h4⟩=>by
  rw [tksF,qwe,q2o h4,Fo.size]
  have key:wantT (if k=1 then [⟨1,[],t⟩] else if qx k then ⟨2,tagF k,valT k t n⟩ :: (tksF ps++[⟨3,tagF k,[]⟩]) else [⟨4,tagF k,valT k t n⟩])=ps.size + 1:=by
   by_cases hk:k=1
   ·subst hk
    rw [if_pos rfl,h2 (by decide)]
    simp [wantT,Fo.size]
   ·rw [if_neg hk]
    by_cases hp:qx k=true
    ·rw [if_pos hp]
     have e:(⟨2,tagF k,valT k t n⟩ :: (tksF ps++[⟨3,tagF k,[]⟩]):List Tk)=[⟨2,tagF k,valT k t n⟩]++(tksF ps++[⟨3,tagF k,[]⟩]):=rfl
     rw [e,qwe,qwe,q2o h3]
     simp [wantT]
     omega
    ·have hp:qx k=false:=by simpa using hp
     rw [if_neg (by rw [hp];decide),h2 hp]
     simp [wantT,Fo.size]
  rw [key];omega
def qjw (s:List UInt8):Fo × Int :=
 if (scanF s).2≠0 then (.nil,(scanF s).2)
 else if nestX (scanF s).1≠0 then (.nil,nestX (scanF s).1)
 else if qak (treeT ((scanF s).1.map tkX))≠0 then (.nil,qak (treeT ((scanF s).1.map tkX)))
 else (treeT ((scanF s).1.map tkX),0)
section
variable {R:Ending→World→Prop} {w:World}
theorem qpn {a:Option Addr} {g n i:Nat} (ha:a=some ⟨g,0,none⟩) (hi:i < n) {K:Addr→Prop} (hK:K ⟨g,i * 4,none⟩):idx a n (i:Int) 4 K:=by
 subst ha
 refine ⟨by omega,by omega,?_⟩
 show K _
 rw [qg,Int.toNat_natCast,Nat.zero_add];exact hK
abbrev init0:List Fr:=[⟨⟨0,[],0⟩,.nil⟩]
theorem step_ne {st:List Fr} (h:st≠[]) (x:Tk):stepP st x≠[]:=by
 cases st with
 | nil=>exact absurd rfl h
 | cons f r =>
  unfold stepP
  split
  ·simp
  ·split
   ·cases r with
    | nil=>simp
    | cons f1 r=>simp
   ·simp
theorem step_len {st:List Fr} {x:Tk} {k:Nat} (h1:st.length≤k) (h2:∀ f∈st,f.f.len≤k):(stepP st x).length≤k + 1∧∀ f∈stepP st x,f.f.len≤k + 1:=by
 have hw:∀ f∈st,f.f.len≤k + 1:=fun f hf=>by have:=h2 f hf;omega
 have hadd:∀ (f:Fr) (h:Hd) (ps:Fo),f.f.len≤k→(f.add h ps).f.len≤k + 1:=fun f h ps hf=>by unfold Fr.add;simp [Fo.one];omega
 unfold stepP
 split
 ·refine ⟨by rw [List.length_cons];omega,fun f hf=>?_⟩
  rcases List.mem_cons.1 hf with rfl | hf
  ·simp
  ·exact hw f hf
 ·split
  ·cases st with
   | nil=>exact ⟨by simp,fun f hf=>by cases hf⟩
   | cons f2 st =>
    cases st with
    | nil=>exact ⟨(show [f2].length≤k + 1 by omega),hw⟩
    | cons f1 r =>
     simp only [List.length_cons] at h1
     refine ⟨by rw [List.length_cons];omega,fun f hf=>?_⟩
     rcases List.mem_cons.1 hf with rfl | hf
     ·exact hadd _ _ _ (h2 f1 (by simp))
     ·exact hw f (by simp [hf])
  ·cases st with
   | nil=>exact ⟨by simp,fun f hf=>by cases hf⟩
   | cons f1 r =>
    simp only [List.length_cons] at h1
    refine ⟨by rw [List.length_cons];omega,fun f hf=>?_⟩
    rcases List.mem_cons.1 hf with rfl | hf
    ·exact hadd _ _ _ (h2 f1 (by simp))
    ·exact hw f (by simp [hf])
theorem st_init {B b:Nat} (hb:Blk w b (qaz ⟨0,[],0⟩ none 0 0) 56) (hB:B≤b):StAt 56 B w (some ⟨b,0,none⟩) 1 1 init0 (fun _=>False):=by
 refine ⟨rfl,_,⟨rfl,.inr ⟨b,1,⟨qaz ⟨0,[],0⟩ none 0 0⟩,rfl,hB,hb,Nat.le_refl _,by simp [maxLen],rfl,rfl⟩⟩,⟨none,0,fun _=>False,fun _=>False,[],rfl,OwnG.nil w,⟨rfl,fun _ h=>h⟩,fun k=>by simp,fun k h=>h.elim⟩,fun k h=>h.elim⟩
theorem st_cap {e:TypeId} {B:Nat} {a:Option Addr} {n c:Nat} {st:List Fr} {O:Nat→Prop} (h:StAt e B w a n c st O):n≤c:=by
 obtain ⟨_,xs,h1,_⟩:=h
 exact owns_le h1
theorem app_def {B:Nat} {oa:Option Addr} {on oc:Nat} {f:Fr} {r:List Fr} {O:Nat→Prop} {W:World} (hS:StAt 56 B W oa on oc (f :: r) O) (hB:B≤W.heap.size) {g:Nat} (hg:oa=some ⟨g,0,none⟩) {pa:Option Addr} {pc:Nat} (hc:W.cell? ⟨g,r.length * 4 + 3,none⟩=some (.slice pa f.f.len pc))
  {bz:Nat} (hz:Blk W bz (qaz ⟨0,[],0⟩ none 0 0) 56) (hd:Hd) (hl:f.f.len≤1000000) {Fin:World→Prop}
  (hF:∀ w' O',StAt 56 B w' oa on oc (f.add hd .nil :: r) O'→Chg (fun k=>Sh.bk oa k∨O k) W w'→Fin w') {i:Int} (hi:i=(r.length:Int)) :
  app prog [43,43] 43 (.slice pa f.f.len pc) (.slice (some ⟨bz,0,none⟩) 1 1) W fun a1 n1 c1 w2=>idx a1 n1 (f.f.len:Int) 4 fun p5=>idx oa on i 4 fun p6 =>
   (stL w2 p5 0 (qaz hd none 0 0) fun w7=>(stL w7 (p6.add 3) 0 [.slice a1 n1 c1] Fin)∧True) ∧
   (stL w2 (p6.add 3) 0 [.slice a1 n1 c1] fun w7=>(stL w7 p5 0 (qaz hd none 0 0) Fin)∧True)∧True:=by
 subst hi
 have hn:on=r.length + 1:=hS.1
 refine StAt.grow qa1 hS hB hz rfl one4n (hd:=hd) (ps:=.nil) (a':=none) (c':=0) (O2:=fun _=>False) (SlF.nil none) (fun k h=>h.elim) (by omega) (by omega) hg hc fun a1 c1 w2 q hq ord=>hq _ (qpn hg (by omega) ?_)
 obtain ⟨o1,o2,_⟩:=ord Fin fun w' O' s1 s2 s3=>hF w' O' s1 s2
 rw [qg]
 exact ⟨o1,o2,trivial⟩
theorem Parse_spec (s:List UInt8) (hF:Forms w) (hM:Mk w)
  (h:∀ a n c w',n=(qjw s).1.len→SlF (fun _=>True) w' a n (qjw s).1→Ext w w'→R (.returned (.tuple ⟨[.slice a n c,.int .i64 (qjw s).2]⟩)) w'):Calls prog qgm ⟨[.string ⟨⟨s⟩⟩]⟩ w R:=by
 apply qp5
 obtain ⟨hT,hll⟩:=scan_small s
 refine Scan_spec s hM fun a n c w3 hn hO e3=>⟨_,_,_,_,rfl,?_⟩
 have hL:=OwnL.out hO
 refine qd (fun g=>?_) (fun g=>?_)
 ·have hp:qjw s=(.nil,(scanF s).2):=by unfold qjw;rw [if_pos g]
  rw [hp] at h
  exact h none 0 0 w3 rfl (SlF.nil _) e3
 refine q9n (scanF s).1 hL hT (hM.ext e3) fun w7 e7=>⟨_,rfl,?_⟩
 have E7:=qb e3 e7
 have hL7:=hL.ext e7
 refine qd (fun g1=>?_) (fun g1=>?_)
 ·have hp:qjw s=(.nil,nestX (scanF s).1):=by unfold qjw;rw [if_neg g,if_pos g1]
  rw [hp] at h
  exact h none 0 0 w7 rfl (SlF.nil _) E7
 have hne:nestX (scanF s).1=0:=Classical.not_not.1 g1
 have hp:qjw s=if qak (treeT ((scanF s).1.map tkX))≠0 then (.nil,qak (treeT ((scanF s).1.map tkX))) else (treeT ((scanF s).1.map tkX),0):=by unfold qjw;rw [if_neg g,if_neg g1]
 have hck:chkX (scanF s).1=0:=by
  unfold nestX at hne
  split at hne
  ·cases hne
  ·rename_i hc;exact Classical.not_not.1 hc
 have htk:=q35 hck
 obtain ⟨t1,t2⟩:=tree_inv hne
 obtain ⟨fr,u1,u2,u3⟩:=qxc (scanF s).1 init0 trivial htk (by
  unfold nestX at hne
  rw [if_neg (by rw [hck];simp)] at hne
  exact hne)
 have htree:treeT ((scanF s).1.map tkX)=fr.f:=by unfold treeT;rw [u1]
 have hsz:fr.f.size≤65536:=by
  rw [htree] at t1 t2
  rw [← q2o t1,t2]
  have:wantT ((scanF s).1.map tkX)≤((scanF s).1.map tkX).length:=List.length_filter_le _ _
  rw [List.length_map] at this;omega
 rw [hp,htree] at h
 generalize hLL:(scanF s).1=L at *
 refine qh fun b9 w10 hb9 B9 e10 s10=>?_
 have z10:=e10.size
 refine ⟨fun oa on oc t W m=>∃ (k:Nat) (st:List Fr) (O:Nat→Prop),t=k∧k≤n∧m=n - k∧st=((L.map tkX).take k).foldl stepP init0∧st≠[]∧st.length≤k + 1∧(∀ f∈st,f.f.len≤k + 1)∧StAt 56 w7.heap.size W oa on oc st O∧Ext w7 W,⟨_,0,init0,_,rfl,by omega,rfl,rfl,by simp,by simp,fun f hf=>by rw [List.mem_singleton.1 hf];simp,st_init B9 (by omega),e10⟩,?_⟩
 rintro oa on oc _ W m ⟨k,st,O,rfl,hk,rfl,hst,hne0,hsl,hfl,hS,he⟩ _
 have zW:=he.size
 refine qd (fun hlt=>?_) (fun hge=>?_)
 ·have hkL:k < L.length:=by omega
  obtain ⟨q,hq,c0,c1,c2,c3⟩:=get_lx (hL7.ext he) hkL
  have hx:=q2u hkL
  have htx:=htk L[k] (List.getElem_mem hkL)
  have hstep:((L.map tkX).take (k + 1)).foldl stepP init0=stepP st (tkX L[k]):=by
   rw [List.take_succ_eq_append_getElem (by rw [List.length_map];exact hkL),List.foldl_append,← hst]
   simp
  have hls:=step_len (x:=tkX L[k]) hsl hfl
  have hne':=step_ne hne0 (tkX L[k])
  have next:∀ oa' on' oc' O' v,StAt 56 w7.heap.size v oa' on' oc' (stepP st (tkX L[k])) O'→Ext w7 v→∃ m40:Nat,m40 < n - k∧∃ (k':Nat) (st:List Fr) (O:Nat→Prop),i64.wrap ((k:Int) + 1)=k'∧k'≤n∧m40=n - k'∧st=((L.map tkX).take k').foldl stepP init0∧st≠[]∧st.length≤k' + 1∧(∀ f∈st,f.f.len≤k' + 1)∧StAt 56 w7.heap.size v oa' on' oc' st O∧Ext w7 v:=by
   intro oa' on' oc' O' v h1 h2
   exact ⟨n - (k + 1),by omega,k + 1,_,O',by rw [qj (by omega)],by omega,rfl,hstep.symm,hne',hls.1,hls.2,h1,h2⟩
  refine hq _ ⟨_,c0,_,c1,_,c2,_,c3,?_⟩
  refine qw rfl one4 fun b22 w24 hb22 B22 e24 s24=>?_
  obtain ⟨d0,d1,d2,d3⟩:=blk4x (x:=L[k]) B22
  have E24:=qb he e24
  have S24:=hS.ext e24
  have EW:∀ v,Ext w24 v→Ext w v:=fun v ev=>qb E7 (qb E24 ev)
  have FW:∀ v,Ext w24 v→Forms v:=fun v ev=>hF.ext (EW v ev)
  have MW:∀ v,Ext w24 v→Mk v:=fun v ev=>hM.ext (EW v ev)
  have z24:=e24.size
  generalize hxk:L[k]=x at *
  refine ⟨_,d0,qd (fun g2=>?_) (fun g2=>qd (fun g3=>?_) (fun g3=>?_))⟩
  ·
   have hs2:stepP st (tkX x)=⟨headF (tkX x),.nil⟩ :: st:=by unfold stepP;rw [if_pos (show (tkX x).k=2 from g2)]
   rw [hs2] at next
   refine ⟨_,d0,_,d1,_,d2,_,d3,?_⟩
   refine q16 x htx (by omega) (by omega) (FW _ (Below.refl _ _)) (MW _ (Below.refl _ _)) fun w31 e31=>⟨_,_,_,_,_,_,rfl,?_⟩
   have z31:=e31.size
   have hon:on=st.length:=hS.1
   refine StAt.push qa1 (S24.ext e31) (by omega) (headF (tkX x)) (by omega) (by omega) fun a' c' w' o1 o2=>?_
   exact next _ _ _ _ _ o1 (qi (qb E24 e31) o2 fun j hj=>(hS.bk hj).1)
  ·
   cases st with
   | nil=>exact absurd rfl hne0
   | cons f2 st' =>
    cases st' with
    | nil =>
     have hon:on=1:=hS.1
     have hs2:stepP [f2] (tkX x)=[f2]:=by unfold stepP;rw [if_neg (show ¬ (tkX x).k=2 from g2),if_pos (show (tkX x).k=3 from g3)]
     rw [hs2] at next
     rw [hon,show ((1:Nat):Int) - 1=((0:Nat):Int) by omega,qu (by omega)]
     refine qd (fun hh=>absurd hh (by omega)) (fun _=>?_)
     exact next oa 1 oc O w24 (hon ▸ S24) E24
    | cons f1 r =>
     have hon:on=r.length + 2:=hS.1
     have hs2:stepP (f2 :: f1 :: r) (tkX x)=f1.add f2.h f2.f :: r:=by unfold stepP;rw [if_neg (show ¬ (tkX x).k=2 from g2),if_pos (show (tkX x).k=3 from g3)]
     rw [hs2] at next
     have hfl1:=hfl f1 (by simp)
     have hfl2:=hfl f2 (by simp)
     simp only [List.length_cons] at hsl
     have i1:i64.wrap ((on:Int) - 1)=((r.length + 1:Nat):Int):=by rw [qu (by omega)];omega
     have i2:i64.wrap (((r.length + 1:Nat):Int) - 1)=(r.length:Int):=by rw [qu (by omega)];omega
     rw [i1,i2]
     refine qd (fun _=>?_) (fun hh=>absurd (by omega) hh)
     intro K41 hK41
     have k41:∀ (b:Bool) (v:World),Ext w24 v→K41 b v:=by
      intro b v ev
      refine hK41 _ _ fun _=>?_
      have Sd:=(S24.ext ev).ext (qs v)
      have Ed:=qb (qb E24 ev) (qs v)
      have zd:=Ed.size
      have hcap:=st_cap Sd
      obtain ⟨p2,q2,O1,O',S1,hsl2,hd1,hs1,hs1',g,hg,x0,x1,x2,x3⟩:=Sd.pop
      obtain ⟨g',pa,pc,_,hg',_,_,_,_,y3,_,_⟩:=S1.top
      obtain rfl:g'=g:=by rw [hg] at hg';simpa using hg'.symm
      simp only [List.length_cons] at x0 x1 x2 x3
      have fin:∀ w' O'',StAt 56 w7.heap.size w' oa (f1 :: r).length oc (f1.add f2.h f2.f :: r) O''→Ext w7 w'→sls oa oc 0 ((r.length + 1:Nat):Int) 4 fun a60 a60n a60c=>∃ m40:Nat,m40 < n - k∧∃ (k':Nat) (st:List Fr) (O:Nat→Prop),i64.wrap ((k:Int) + 1)=k'∧k'≤n∧m40=n - k'∧st=((L.map tkX).take k').foldl stepP init0∧st≠[]∧st.length≤k' + 1∧(∀ f∈st,f.f.len≤k' + 1)∧StAt 56 w7.heap.size w' a60 a60n a60c st O∧Ext w7 w':=by
       intro w' O'' h1 h2
       refine q79 (by omega) (fun p hp=>by rw [hg] at hp;rw [← Option.some.inj hp];rfl) ?_
       exact next oa (r.length + 1) oc O'' w' h1 h2
      have ex:∀ {W' w':World},Ext w7 W'→Chg (fun k=>Sh.bk oa k∨O' k) W' w'→Ext w7 w':=fun {W' w'} h1 h2=>qi h1 h2 fun j hj=>hj.elim (fun hb=>(Sd.bk hb).1) (fun ho=>(S1.own ho).1)
      unfold drw
      cases b with
      | true =>
       rw [br_t]
       refine qpn hg (by omega) ⟨_,_,_,by rw [qg];exact y3,qpn hg (i:=r.length + 1) (by omega) ⟨_,by rw [qg,Nat.add_zero];exact x0,_,by rw [qg];exact x1,_,by rw [qg];exact x2,_,_,_,by rw [qg];exact x3,⟨?_,trivial⟩⟩⟩
       refine qh fun bz W' hbz Bz ez sz=>⟨?_,trivial⟩
       refine StAt.grow qa1 (S1.ext ez) (by omega) Bz rfl one4n (hd:=f2.h) (ps:=f2.f) (a':=p2) (c':=q2) (O2:=O1) (hsl2.ext ez) (fun j hj=>⟨⟨(hd1 j hj).1.1,by have:=(hd1 j hj).1.2;omega⟩,(hd1 j hj).2⟩) (by omega) (by omega) hg (by rw [← y3];exact qp y3 ez ▸ y3.symm ▸ rfl) fun a1 c1 w2 qq hqq ord=>?_
       refine qpn hg (by omega) ⟨?_,trivial⟩
       rw [qg]
       exact (ord _ fun w' O'' s1 s2 s3=>fin w' O'' s1 (ex (qb Ed ez) s2)).2.2.1
      | false =>
       rw [br_f]
       refine qpn hg (by omega) ⟨_,_,_,by rw [qg];exact y3,qpn hg (i:=r.length + 1) (by omega) ⟨_,by rw [qg,Nat.add_zero];exact x0,_,by rw [qg];exact x1,_,by rw [qg];exact x2,_,_,_,by rw [qg];exact x3,⟨?_,trivial⟩⟩⟩
       refine qh fun bz W' hbz Bz ez sz=>⟨?_,trivial⟩
       refine StAt.grow qa1 (S1.ext ez) (by omega) Bz rfl one4n (hd:=f2.h) (ps:=f2.f) (a':=p2) (c':=q2) (O2:=O1) (hsl2.ext ez) (fun j hj=>⟨⟨(hd1 j hj).1.1,by have:=(hd1 j hj).1.2;omega⟩,(hd1 j hj).2⟩) (by omega) (by omega) hg (qp y3 ez) fun a1 c1 w2 qq hqq ord=>?_
       refine qpn hg (by omega) ⟨?_,trivial⟩
       rw [qg]
       exact (ord _ fun w' O'' s1 s2 s3=>fin w' O'' s1 (ex (qb Ed ez) s2)).2.2.2 rfl
     unfold drw
     have ed:=qs w24
     refine ⟨qh fun b79 w80 hb79 B79 e80 s80=>⟨?_,?_,trivial⟩,trivial⟩
     ·refine qr B79 rfl fun w81 B81 c81 s81=>⟨qr B81 rfl fun w82 B82 c82 s82=>⟨_,by rw [B82.cell];rfl,?_⟩,trivial⟩
      exact k41 _ _ (qau (qau (qb ed e80) c81 (by have:=ed.size;omega)) c82 (by have:=ed.size;omega))
     ·refine qr B79 rfl fun w81 B81 c81 s81=>⟨qr B81 rfl fun w82 B82 c82 s82=>⟨_,by rw [B82.cell];rfl,?_⟩,trivial⟩
      exact k41 _ _ (qau (qau (qb ed e80) c81 (by have:=ed.size;omega)) c82 (by have:=ed.size;omega))
  ·
   cases st with
   | nil=>exact absurd rfl hne0
   | cons f r =>
    have hon:on=r.length + 1:=hS.1
    have hs2:stepP (f :: r) (tkX x)=f.add (headF (tkX x)) .nil :: r:=by unfold stepP;rw [if_neg (show ¬ (tkX x).k=2 from g2),if_neg (show ¬ (tkX x).k=3 from g3)]
    rw [hs2] at next
    have hfl1:=hfl f (by simp)
    simp only [List.length_cons] at hsl
    have i1:i64.wrap ((on:Int) - 1)=(r.length:Int):=by rw [qu (by omega)];omega
    rw [i1]
    unfold drw
    have ed:=qs w24
    have Sd:=S24.ext ed
    have Ed:=qb E24 ed
    have zd:=Ed.size
    obtain ⟨g,pa,pc,_,hg,_,_,_,_,y3,_,_⟩:=Sd.top
    have y3':w24.drew.cell? ((⟨g,r.length * 4,none⟩:Addr).add 3)=some (.slice pa f.f.len pc):=by rw [qg];exact y3
    have ap:∀ (W':World) (bz:Nat),Ext w24.drew W'→Blk W' bz (qaz ⟨0,[],0⟩ none 0 0) 56→app prog [43,43] 43 (.slice pa f.f.len pc) (.slice (some ⟨bz,0,none⟩) 1 1) W' fun a1 n1 c1 w2=>idx a1 n1 (f.f.len:Int) 4 fun p5=>idx oa on (r.length:Int) 4 fun p6 =>
      (stL w2 p5 0 (qaz (headF (tkX x)) none 0 0) fun w7'=>(stL w7' (p6.add 3) 0 [.slice a1 n1 c1] fun v=>∃ m40:Nat,m40 < n - k∧∃ (k':Nat) (st:List Fr) (O:Nat→Prop),i64.wrap ((k:Int) + 1)=k'∧k'≤n∧m40=n - k'∧st=((L.map tkX).take k').foldl stepP init0∧st≠[]∧st.length≤k' + 1∧(∀ f∈st,f.f.len≤k' + 1)∧StAt 56 w7.heap.size v oa on oc st O∧Ext w7 v)∧True) ∧
      (stL w2 (p6.add 3) 0 [.slice a1 n1 c1] fun w7'=>(stL w7' p5 0 (qaz (headF (tkX x)) none 0 0) fun v=>∃ m40:Nat,m40 < n - k∧∃ (k':Nat) (st:List Fr) (O:Nat→Prop),i64.wrap ((k:Int) + 1)=k'∧k'≤n∧m40=n - k'∧st=((L.map tkX).take k').foldl stepP init0∧st≠[]∧st.length≤k' + 1∧(∀ f∈st,f.f.len≤k' + 1)∧StAt 56 w7.heap.size v oa on oc st O∧Ext w7 v)∧True)∧True:=by
     intro W' bz eW hz
     have zz:=eW.size
     refine app_def (Sd.ext eW) (by omega) hg (qp y3 eW) hz (headF (tkX x)) (by omega) (fun w' O' s1 s2=>?_) rfl
     exact next oa on oc O' w' s1 (qi (qb Ed eW) s2 fun j hj=>hj.elim (fun hb=>(Sd.bk hb).1) (fun ho=>(Sd.own ho).1))
    have nd:∀ (W':World),Ext w24.drew W'→∀ {K:Ending→World→Prop},(∀ v,Ext W' v→K (.returned (.agg ⟨qaz (headF (tkX x)) none 0 0⟩)) v)→Calls prog qec ⟨[aggX x]⟩ W' K:=fun W' eW {K} hK =>
     q16 x htx g3 (by omega) (FW _ (qb ed eW)) (MW _ (qb ed eW)) hK
    have rr:Ext w24.drew w24.drew:=Below.refl _ _
    refine qpn hg (by omega) ⟨_,qp d0 ed,_,qp d1 ed,_,qp d2 ed,_,qp d3 ed,?_⟩
    refine ⟨⟨_,_,_,y3',?_,?_,trivial⟩,?_,?_,trivial⟩
    ·exact nd _ rr fun v ev=>⟨_,_,_,_,_,_,rfl,qh fun bz W' hbz Bz ez sz=>⟨ap W' bz (qb ev ez) Bz,trivial⟩,trivial⟩
    ·exact qh fun bz W' hbz Bz ez sz=>⟨nd _ ez fun v ev=>⟨_,_,_,_,_,_,rfl,ap v bz (qb ez ev) (Bz.ext ev),trivial⟩,trivial⟩
    ·exact nd _ rr fun v ev=>⟨_,_,_,_,_,_,rfl,_,_,_,qp y3' ev,qh fun bz W' hbz Bz ez sz=>⟨ap W' bz (qb ev ez) Bz,trivial⟩,trivial⟩
    ·exact qh fun bz W' hbz Bz ez sz=>⟨nd _ ez fun v ev=>⟨_,_,_,_,_,_,rfl,_,_,_,qp y3' (qb ez ev),ap v bz (qb ez ev) (Bz.ext ev),trivial⟩,trivial⟩
 ·have hkn:k=L.length:=by omega
  have hst':st=[fr]:=by rw [hst,hkn,List.take_of_length_le (by rw [List.length_map];exact Nat.le_refl _),u1]
  subst hst'
  have hon:on=1:=hS.1
  obtain ⟨g,pa,pc,O1,hg,_,_,_,_,y3,hG,_⟩:=hS.top
  have hi:idx oa on 0 4=idx oa on ((0:Nat):Int) 4:=rfl
  rw [hi]
  refine qpn hg (i:=0) (by omega) ⟨_,_,_,by rw [qg];exact y3,?_⟩
  have hsl:=hG.out
  refine qc2 fr.f (by unfold small;omega) hsl (hF.ext (qb E7 he)) fun w172 e172=>⟨_,rfl,qd (fun gc=>?_) (fun gc=>?_)⟩
  ·rw [if_pos gc] at h
   exact h none 0 0 w172 rfl (SlF.nil _) (qb (qb E7 he) e172)
  ·rw [if_neg gc] at h
   exact h _ _ _ w172 rfl ((hsl.ext e172).imp fun _ _ _=>trivial) (qb (qb E7 he) e172)
end
def smF:Fo:=.cons 4 [111,110,101] 0 .nil (.cons 1 [100,101] 0 .nil (.cons 8 [] 1 (.one 1 [117,115] 0 .nil) (.cons 4 [116,119,111] 0 .nil (.one 1 [101,116] 0 .nil))))
def smS:List UInt8:=[60,115,101,99,32,111,110,101,47,62,100,101,60,97,100,100,32,49,62,117,115,60,47,97,100,100,62,60,115,101,99,32,116,119,111,47,62,101,116]
def smL:List Wt:=[([65],smF)]
def scF (l:List (List UInt8)):Fo:=l.foldr (fun s f=>.cons 4 s 0 .nil f) .nil
def scL:List Wt:=[([65],scF [[111,110,101],[116,104,114,101,101]]),([66],scF [[116,119,111],[116,104,114,101,101]])]
set_option maxRecDepth 100000
theorem sm_wit:witE ([65],smF)=0:=by decide +kernel
theorem sm_srcE:srcE smL=0:=by decide +kernel
theorem sm_src:allS smL 0=[([65,42],0,0),([65,49],0,1)]:=by decide +kernel
theorem sm_sec:secs smF=[[111,110,101],[116,119,111]]:=by decide +kernel
theorem sc_ordE:ordE scL=0:=by decide +kernel
theorem sc_ord:ordR scL=[[111,110,101],[116,119,111],[116,104,114,101,101]]:=by decide +kernel
set_option maxRecDepth 100000
theorem sm_parse:(qjw smS).1.beq smF=true:=by decide +kernel
theorem sm_tokE:tokWE smL [] [111,110,101]=0:=by decide +kernel
theorem sm_tokS:tokWS smL [] [111,110,101]=[[65,42],[65,49]]:=by decide +kernel
theorem sm_tokT:(tokWT smL [] [111,110,101]).map (fun l=>l.map (·.t))=[[[100,101]],[[100,101,117,115]]]:=by decide +kernel
theorem scF_snoc (l:List Nm) (s:Nm):scF (l++[s])=(scF l).app (.one 4 s 0 .nil):=by
 induction l with
 | nil=>rfl
 | cons x l ih=>show Fo.cons 4 x 0 .nil (scF (l++[s]))=_;rw [ih];rfl
theorem scF_len (l:List Nm):(scF l).len=l.length:=by
 induction l with
 | nil=>rfl
 | cons x l ih=>show (scF l).len + 1=_;rw [ih];rfl
theorem qs9 {α:Type} {E:Enc α} {w:World} {b:Nat} {cs:List Value} {T:TypeId} (hb:Blk w b cs T) (l:List α) (h:E.row l=cs) {n:Nat} (hn:n=l.length):RowAt E (fun k=>k=b) w (some ⟨b,0,none⟩) n l :=
 ⟨hn,.inr ⟨b,0,rfl,rfl,hb.lt,fun j v hj=>by rw [Nat.zero_add,hb.cell,← h];exact hj⟩⟩
theorem qpq {S:Nat→Prop} {w:World} {b:Nat} {cs:List Value} {T:TypeId} (hb:Blk w b cs T) (hcs:∀ (j:Nat) (k:Int),cs[j]?≠some (Value.int .i64 k)):∀ {f:Fo} {us:List Value},FoC S w f us→(∀ {a},At S w a us→At (fun k=>S k∧k≠b) w a us)∧FoC (fun k=>S k∧k≠b) w f us
 | .nil,us,h=>⟨fun _=>.inl h,h⟩
 | .cons k t n ps r,vs,⟨a,c,us,vs',h1,h2,h3,h4⟩=>by
  refine ⟨fun {a'} hat=>?_,a,c,us,vs',h1,(qpq hb hcs h3).1 h2,(qpq hb hcs h3).2,(qpq hb hcs h4).2⟩
  rcases hat with hat | ⟨b',o,e,hS,hl,hc⟩
  ·exact .inl hat
  ·refine .inr ⟨b',o,e,⟨hS,fun hh=>?_⟩,hl,hc⟩
   subst hh
   have:=hc 0 (.int .i64 k) (by rw [h1];rfl)
   rw [hb.cell] at this
   exact hcs _ _ this
theorem slF_avoid {S:Nat→Prop} {w:World} {b:Nat} {cs:List Value} {T:TypeId} {a:Option Addr} {n:Nat} {f:Fo} (h:SlF S w a n f) (hb:Blk w b cs T) (hcs:∀ (j:Nat) (k:Int),cs[j]?≠some (Value.int .i64 k)):SlF (fun k=>S k∧k≠b) w a n f:=by
 obtain ⟨h1,us,h2,h3⟩:=h
 obtain ⟨g1,g2⟩:=qpq hb hcs h3
 exact ⟨h1,us,g1 h2,g2⟩
theorem great_size {f:Fo} (h:qnh f=false):f.size≤4100:=by
 have hl:=f.len_le_size
 unfold qnh at h
 split at h
 ·rw [Bool.or_eq_false_iff] at h
  have:=h.1;simp at this;omega
 ·rw [Bool.or_eq_false_iff] at h
  have:=h.1;simp at this;omega
theorem greats_one (x:Wt):q3u [x]=qiu x:=by
 unfold q3u;simp
section
variable {R:Ending→World→Prop} {w:World}
theorem qjp (hF:Forms w) (hM:Mk w) (h:∀ a c w',SlF (fun _=>True) w' a smF.len smF→Ext w w'→R (.returned (.agg ⟨[.string ⟨⟨[65]⟩⟩,.slice a smF.len c]⟩)) w'):Calls prog qmk ⟨[]⟩ w R:=by
 apply q0p
 refine qh fun b1 w2 hb1 B1 e2 s2=>?_
 refine Parse_spec smS (hF.ext e2) (hM.ext e2) fun a n c w4 hn hS e4=>⟨_,_,_,_,rfl,?_⟩
 have hp:(qjw smS).1=smF:=(Fo.beq_iff _ _).1 sm_parse
 rw [hp] at hS hn
 subst hn
 have hS':=slF_avoid hS (B1.ext e4) (fun j k=>by rcases j with _ | _ | j <;> simp)
 refine qae (B1.ext e4) (by simp) one2 fun w7 q1 q2 q3 q4 q5 q6=>?_
 obtain ⟨y0,y1⟩:=blk2w (show Blk w7 b1 [.string ⟨⟨[65]⟩⟩,.slice a smF.len c] 45 from q1)
 refine ⟨_,y0,_,_,_,y1,h a c w7 ?_ ?_⟩
 ·exact (hS'.chg (T:=fun k=>k=b1) ⟨q4,q5,q6,by omega,fun k _ hk=>q2 k hk⟩ fun j hj=>hj.2).imp fun _ _ _=>trivial
 ·exact qi (qb e2 e4) (S:=fun k=>k=b1) ⟨q4,q5,q6,by omega,fun k _ hk=>q2 k hk⟩ fun k hk=>by omega
theorem ql6 {S:Nat→Prop} {a:Option Addr} {n c:Nat} (sg:Nm) (l:List Nm) (hl:l.length≤1000) (hR:RowAt Sh.encStr S w a n l) (h:∀ a' c' w',SlF (fun k=>w.heap.size≤k) w' a' (scF l).len (scF l)→Ext w w'→R (.returned (.agg ⟨[.string ⟨⟨sg⟩⟩,.slice a' (scF l).len c']⟩)) w') :
  Calls prog qi3 ⟨[.string ⟨⟨sg⟩⟩,.slice a n c]⟩ w R:=by
 apply qu8
 have hn:=hR.1
 refine qh fun b3 w4 hb3 B3 e4 s4=>?_
 refine qw rfl one2 fun b5 w7 hb5 B5 e7 s7=>?_
 have E7:=qb e4 e7
 refine ⟨fun i W m=>∃ (k:Nat) (oa:Option Addr) (oc:Nat),i=k∧k≤n∧m=n - k∧Blk W b5 [.string ⟨⟨sg⟩⟩,.slice oa k oc] 45∧OwnF 56 (fun _=>False) w7.heap.size W oa k oc (scF (l.take k))∧Blk W b3 [.string ⟨⟨[]⟩⟩,.slice none 0 0] 45∧Ext w W∧w7.heap.size≤W.heap.size,
  ⟨_,0,none,0,rfl,by omega,rfl,B5,OwnF.nil _,B3.ext e7,E7,Nat.le_refl _⟩,?_⟩
 rintro _ W m ⟨k,oa,oc,rfl,hk,rfl,C5,hO,C3,he,hz⟩ _
 refine qd (fun hlt=>?_) (fun hge=>?_)
 ·have hkl:k < l.length:=by omega
  obtain ⟨q,hq,c0⟩:=qei (hR.ext he) hkl
  have htk:l.take (k + 1)=l.take k++[l[k]]:=List.take_succ_eq_append_getElem hkl
  refine hq _ ⟨_,c0,_,_,_,(blk2w C5).2,?_⟩
  refine OwnF.push (P:=prog) (k:=4) (s:=l[k]) (m:=0) (a':=none) (c':=0) (ps:=.nil) qa1 hO (by omega) (SlF.nil none) (by omega) (by omega) fun a18 n18 c18 w19 ho hc=>?_
  have hn18:n18=k + 1:=by rw [ho.len,Fo.len_app,scF_len,List.length_take];simp [Fo.one];omega
  subst hn18
  have D5:=hc.blk C5 (fun hh=>by have:=hO.bk hh;omega)
  have D3:=hc.blk C3 (fun hh=>by have:=hO.bk hh;omega)
  rw [qg]
  refine qae D5 (by simp) (by intro u hu;simp only [List.mem_singleton] at hu;subst hu;rfl) fun v r1 r2 r3 r4 r5 r6=>?_
  simp only [putAt,List.set] at r1
  have hcv:Chg (· = b5) w19 v:=⟨r4,r5,r6,by omega,fun k _ hk=>r2 k hk⟩
  refine ⟨n - (k + 1),by omega,k + 1,a18,c18,by rw [qj (by omega)],by omega,rfl,r1,?_,hcv.blk D3 (by omega),?_,by have:=hc.size;omega⟩
  ·rw [htk,scF_snoc]
   exact ho.chg hcv fun j hj=>⟨fun h=>h,by omega⟩
  ·exact qi (qi he hc fun j hj=>by have:=hO.bk hj;have:=E7.size;omega) hcv fun j hj=>by omega
 ·have:k=n:=by omega
  subst this
  rw [List.take_of_length_le (by omega)] at hO
  obtain ⟨y0,y1⟩:=blk2w C5
  refine ⟨_,y0,_,_,_,y1,?_⟩
  refine qae C3 (by simp) one2 fun v r1 r2 r3 r4 r5 r6=>?_
  have hcv:Chg (· = b3) W v:=⟨r4,r5,r6,by omega,fun k _ hk=>r2 k hk⟩
  obtain ⟨z0,z1⟩:=blk2w (show Blk v b3 [.string ⟨⟨sg⟩⟩,.slice oa k oc] 45 from r1)
  refine ⟨_,z0,_,_,_,z1,?_⟩
  have hkk:k=(scF l).len:=by rw [scF_len];exact hn
  have hS:=(hO.out.chg hcv fun j hj hh=>by rcases hj with hj | hj;exact hj;omega).imp (S':=fun j=>w.heap.size≤j) fun j hj _=>by
   have:=E7.size
   rcases hj with hj | hj
   ·exact hj.elim
   ·omega
  rw [hkk] at hS ⊢
  exact h oa oc v hS (qi he hcv fun j hj=>by omega)
theorem q7e (hF:Forms w) (hM:Mk w) (h:∀ w',Ext w w'→R (.returned (.bool true)) w'):Calls prog qip ⟨[]⟩ w R:=by
 apply q4q
 have hsm:small smF:=by unfold small;decide
 have hsmL:∀ x∈smL,small x.2:=fun x hx=>by rw [List.mem_singleton.1 hx];exact hsm
 refine qjp hF hM fun a1 c1 w2 h1 e2=>⟨_,_,_,_,rfl,?_⟩
 refine qh fun b5 w6 hb5 B5 e6 s6=>?_
 have E6:=qb e2 e6
 refine qt0 smL hsmL (hF.ext E6) (q72 (x:=([65],smF)) B5 (h1.ext e6)) fun xa xn xc w8 hX e8=>⟨_,_,_,_,rfl,?_⟩
 have E8:=qb E6 e8
 refine qjp (hF.ext E8) (hM.ext E8) fun a2 c2 w12 h2 e12=>⟨_,_,_,_,rfl,?_⟩
 have E12:=qb E8 e12
 refine qq3 ([65],smF) hsm (hF.ext E12) h2 fun ya yn yc w16 hY e16=>⟨_,_,_,_,rfl,?_⟩
 have E16:=qb E12 e16
 refine qjp (hF.ext E16) (hM.ext E16) fun a3 c3 w20 h3 e20=>⟨_,_,_,_,rfl,?_⟩
 have E20:=qb E16 e20
 refine qh fun b23 w24 hb23 B23 e24 s24=>?_
 have E24:=qb E20 e24
 refine q7h smL [] [111,110,101] hsmL (hF.ext E24) (q72 (x:=([65],smF)) B23 (h3.ext e24)) smallR_nil (rules_none (fun _=>True) _) fun sa sn sc ta tn tc w26 hS hT e26=>⟨_,_,_,_,_,_,_,rfl,?_⟩
 have E26:=qb E24 e26
 refine qh fun b30 w31 hb30 B30 e31 s31=>?_
 have E31:=qb E26 e31
 refine ql6 [65] [[111,110,101],[116,104,114,101,101]] (by decide) (qs9 B30 [[111,110,101],[116,104,114,101,101]] rfl rfl) fun a4 c4 w33 h4 e33=>⟨_,_,_,_,rfl,?_⟩
 have E33:=qb E31 e33
 refine qh fun b36 w37 hb36 B36 e37 s37=>?_
 have E37:=qb E33 e37
 refine ql6 [66] [[116,119,111],[116,104,114,101,101]] (by decide) (qs9 B36 [[116,119,111],[116,104,114,101,101]] rfl rfl) fun a5 c5 w39 h5 e39=>⟨_,_,_,_,rfl,?_⟩
 have E39:=qb E37 e39
 refine qh fun b42 w43 hb42 B42 e43 s43=>?_
 have E43:=qb E39 e43
 have hsc:SlW (fun _=>True) w43 (some ⟨b42,0,none⟩) 2 scL:=by
  refine ⟨rfl,_,.inr ⟨b42,0,rfl,trivial,B42.lt,fun j v hj=>by rw [Nat.zero_add,B42.cell];exact hj⟩,a4,c4,_,rfl,?_,a5,c5,[],rfl,?_,rfl⟩
  ·exact (h4.ext (qb e37 (qb e39 e43))).imp fun _ _ _=>trivial
  ·exact (h5.ext e43).imp fun _ _ _=>trivial
 have hscs:∀ x∈scL,small x.2:=fun x hx=>by
  unfold scL at hx
  simp only [List.mem_cons,List.not_mem_nil,or_false] at hx
  rcases hx with rfl | rfl <;> (unfold small;decide)
 refine Order_spec scL hscs (hF.ext E43) hsc fun oa on oc w45 hO e45=>⟨_,_,_,_,rfl,?_⟩
 have E45:=qb E43 e45
 have e0:srcE smL=0:=sm_srcE
 have e1:secE ([65],smF)=0:=by unfold secE;rw [if_pos sm_wit]
 have r0:srcR smL=[([65,42],0,0),([65,49],0,1)]:=by unfold srcR;rw [if_pos e0];exact sm_src
 have r1:secR ([65],smF)=[[111,110,101],[116,119,111]]:=by unfold secR;rw [if_pos sm_wit];exact sm_sec
 have r2:tokWS smL [] [111,110,101]=[[65,42],[65,49]]:=sm_tokS
 rw [e0,e1,sm_tokE,sc_ordE]
 rw [r0] at hX
 rw [r1] at hY
 rw [r2] at hS
 rw [sc_ord] at hO
 have hT45:=hT.ext (qb e31 (qb e33 (qb e37 (qb e39 (qb e43 e45)))))
 obtain ⟨t0,t1,ht,ht0,ht1⟩:∃ t0 t1:Tok,tokWT smL [] [111,110,101]=[[t0],[t1]]∧t0.t=[100,101]∧t1.t=[100,101,117,115]:=by
  have:=sm_tokT
  revert this
  generalize tokWT smL [] [111,110,101]=z
  intro hz
  match z,hz with
  | [[t0],[t1]],hz =>
   simp only [List.map_cons,List.map_nil,List.cons.injEq,and_true] at hz
   exact ⟨t0,t1,rfl,hz.1,hz.2⟩
  | [],hz=>simp at hz
  | [_],hz=>simp at hz
  | [[],_],hz=>simp at hz
  | [_ :: _ :: _,_],hz=>simp at hz
  | [[_],[]],hz=>simp at hz
  | [[_],_ :: _ :: _],hz=>simp at hz
  | _ :: _ :: _ :: _,hz=>simp at hz
 rw [ht] at hT45
 have htn:tn=2:=hT45.1
 subst htn
 intro K48 hK48
 obtain ⟨q0,a0,c0,hq0,m0,hr0⟩:=hT45.get (i:=0) (o:=[t0]) rfl
 obtain ⟨q1,a1',c1',hq1,m1,hr1⟩:=hT45.get (i:=1) (o:=[t1]) rfl
 refine qd (fun g=>absurd rfl g) (fun _=>qd (fun g=>absurd rfl g) (fun _=>hq0 _ ⟨_,_,_,m0,qd (fun g=>absurd rfl g) (fun _=>hq1 _ ⟨_,_,_,m1,qd (fun g=>absurd rfl g) (fun _=>?_)⟩)⟩))
 refine hK48 w45 fun _=>?_
 refine qh fun b50 w51 hb50 B50 e51 s51=>?_
 have eX:Ext w8 w51:=qb e12 (qb e16 (qb e20 (qb e24 (qb e26 (qb e31 (qb e33 (qb e37 (qb e39 (qb e43 (qb e45 e51))))))))))
 have eY:Ext w16 w51:=qb e20 (qb e24 (qb e26 (qb e31 (qb e33 (qb e37 (qb e39 (qb e43 (qb e45 e51))))))))
 have eZ:Ext w26 w51:=qb e31 (qb e33 (qb e37 (qb e39 (qb e43 (qb e45 e51)))))
 have hXR:=(OwnL.out (E:=encSr) hX).ext eX
 refine q7r _ [([65,42],0,0),([65,49],0,1)] hXR (qs9 B50 [([65,42],0,0),([65,49],0,1)] rfl rfl) (by have:=hXR.1;simp at this;omega) fun w53 e53=>⟨_,rfl,?_⟩
 rw [decide_eq_true rfl,br_t]
 refine qh fun b55 w56 hb55 B55 e56 s56=>?_
 have e5356:=qb e53 e56
 refine qh9 _ [[111,110,101],[116,119,111]] ((OwnL.out (E:=Sh.encStr) hY).ext (qb eY e5356)) (qs9 B55 [[111,110,101],[116,119,111]] rfl rfl) (by decide) fun w58 e58=>⟨_,rfl,?_⟩
 rw [decide_eq_true rfl,br_t]
 refine qh fun b60 w61 hb60 B60 e61 s61=>?_
 have e5361:=qb e5356 (qb e58 e61)
 refine qh9 _ [[65,42],[65,49]] (hS.ext (qb eZ e5361)) (qs9 B60 [[65,42],[65,49]] rfl rfl) (by decide) fun w63 e63=>⟨_,rfl,?_⟩
 rw [decide_eq_true rfl,br_t]
 have e4563:Ext w45 w63:=qb e51 (qb e5361 e63)
 have hT63:=hT45.ext e4563
 obtain ⟨q0,a0,c0,hq0,m0,hr0⟩:=hT63.get (i:=0) (o:=[t0]) rfl
 obtain ⟨q1,a1',c1',hq1,m1,hr1⟩:=hT63.get (i:=1) (o:=[t1]) rfl
 obtain ⟨p0,hp0,f0,_⟩:=tok_get hr0 (i:=0) (x:=t0) rfl
 obtain ⟨p1,hp1,f1,_⟩:=tok_get hr1 (i:=0) (x:=t1) rfl
 refine hq0 _ ⟨_,_,_,m0,hp0 _ ⟨_,f0,qd (fun _=>?_) (fun g=>absurd ht0 g)⟩⟩
 refine hq1 _ ⟨_,_,_,m1,hp1 _ ⟨_,f1,qd (fun _=>?_) (fun g=>absurd ht1 g)⟩⟩
 refine qh fun b73 w74 hb73 B73 e74 s74=>?_
 have E63:=qb E45 e4563
 refine qh9 _ [[111,110,101],[116,119,111],[116,104,114,101,101]] ((OwnL.out (E:=Sh.encStr) hO).ext (qb e4563 e74)) (qs9 B73 [[111,110,101],[116,119,111],[116,104,114,101,101]] rfl rfl) (by decide) fun w76 e76=>⟨_,rfl,?_⟩
 rw [decide_eq_true rfl]
 exact h w76 (qb E63 (qb e74 e76))
end
theorem bodyS_size (f:Fo) (s:Nm):(bodyS f s).size≤f.size:=by
 unfold bodyS
 cases hc:cutS f s with
 | none=>simp [Fo.size]
 | some q =>
  obtain ⟨p,r⟩:=q
  obtain ⟨m,ps,h6,_⟩:=qv3 hc
  have h7:=congrArg Fo.size h6
  have h8:=congrArg Fo.size (qer r)
  rw [Fo.size_app] at h7 h8
  have h9:(Fo.cons 4 s m ps r).size=ps.size + r.size + 1:=rfl
  show (bodyF r).size≤_
  omega
section
variable {R:Ending→World→Prop} {w:World}
theorem WitnessParts_spec {S S2:Nat→Prop} {a a2:Option Addr} {c n2 c2:Nat} (x:Wt) (sec:Nm) (hand:Int) (L:List Src) (sg:Nm) (hF:Forms w) (hM:Mk w) (hf:SlF S w a x.2.len x.2) (hR:RowAt encSr S2 w a2 n2 L) (h:∀ w',Ext w w'→R (.returned (.bool true)) w') :
  Calls prog F_law16_WitnessParts ⟨[.agg ⟨[.string ⟨⟨x.1⟩⟩,.slice a x.2.len c]⟩,.string ⟨⟨sec⟩⟩,.int .i64 hand,.slice a2 n2 c2,.string ⟨⟨sg⟩⟩]⟩ w R:=by
 apply c_law16_WitnessParts
 have aw:∀ {v:World},Ext w v→Calls prog qip ⟨[]⟩ v fun e w'=>∃ y:Bool,e=.returned (.bool y)∧R (.returned (.bool y)) w':=fun hv =>
  q7e (hF.ext hv) (hM.ext hv) fun w3 e3=>⟨_,rfl,h w3 (qb hv e3)⟩
 refine qh fun b7 w8 hb7 B7 e8 s8=>?_
 obtain ⟨x0,x1⟩:=blk2w B7
 intro K9 hK9
 refine ⟨_,x0,_,_,_,x1,qh fun b100 w101 hb100 B100 e101 s101=>?_⟩
 have E101:=qb e8 e101
 refine q3v [x] (q72 B100 (hf.ext E101)) fun w103 e103=>⟨_,rfl,?_⟩
 have E103:=qb E101 e103
 rw [greats_one]
 refine ql (fun _=>aw E103) (fun g=>qd (fun _=>aw E103) (fun _=>qd (fun _=>aw E103) (fun g8=>qd (fun _=>aw E103) (fun _=>hK9 w103 fun _=>?_))))
 have hg:qnh x.2=false:=by unfold qiu at g;rw [Bool.or_eq_false_iff] at g;exact g.1
 have hsz:=great_size hg
 have hsm:small x.2:=by unfold small;omega
 have e8103:=qb e101 e103
 obtain ⟨x0,x1⟩:=blk2w (B7.ext e8103)
 refine ⟨_,x0,_,_,_,x1,qq3 x hsm (hF.ext E103) (hf.ext E103) fun sa sn sc w14 hN e14=>⟨_,_,_,_,rfl,?_⟩⟩
 have E14:=qb E103 e14
 have f14:=qb e8103 e14
 obtain ⟨x0,x1⟩:=blk2w (B7.ext f14)
 refine ⟨_,x0,_,_,_,x1,qy1 x (by omega) (hf.ext E14) fun ta tn tc w20 hN2 e20=>⟨_,_,_,_,rfl,?_⟩⟩
 have E20:=qb E14 e20
 have f20:=qb f14 e20
 obtain ⟨x0,x1⟩:=blk2w (B7.ext f20)
 refine ⟨_,x0,_,_,_,x1,qy3 x sec hand hsm (hF.ext E20) (hf.ext E20) fun pa pn pc w26 hP e26=>⟨_,_,_,_,_,_,rfl,?_⟩⟩
 refine qw rfl q2s fun b31 w33 hb31 B31 e33 s33=>?_
 have E33:=qb E20 (qb e26 e33)
 have f33:=qb f20 (qb e26 e33)
 obtain ⟨x0,x1⟩:=blk2w (B7.ext f33)
 refine ⟨_,x0,_,_,_,x1,q9m x sec hand (by omega) (hf.ext E33) fun qa qn qc w37 hQ e37=>⟨_,_,_,_,_,_,rfl,?_⟩⟩
 refine qw rfl q2s fun b42 w44 hb42 B42 e44 s44=>?_
 have E44:=qb E33 (qb e37 e44)
 have f44:=qb f33 (qb e37 e44)
 refine Find_spec L sg (hR.ext E44) (by omega) fun w46 e46=>⟨_,_,rfl,?_⟩
 refine q9t L sg (hR.ext (qb E44 e46)) (by omega) ⟨_,_,rfl,?_⟩
 unfold drw
 have e53:=qb e46 (qs w46)
 have E53:=qb E44 e53
 have f53:=qb f44 e53
 generalize w46.drew=w53 at *
 have g14:Ext w14 w53:=qb e20 (qb (qb e26 e33) (qb (qb e37 e44) e53))
 have g20:Ext w20 w53:=qb (qb e26 e33) (qb (qb e37 e44) e53)
 have hNR:=(OwnL.out (E:=Sh.encStr) hN).ext g14
 have hNR2:=(OwnL.out (E:=Sh.encStr) hN2).ext g20
 have hP53:=hP.ext (qb e33 (qb (qb e37 e44) e53))
 have hQ53:=hQ.ext (qb e44 e53)
 have C31:=B31.ext (qb (qb e37 e44) e53)
 have C42:=B42.ext e53
 have hsl:(secR x).length≤1000000000:=by
  unfold secR
  split
  ·have:=qk6 x.2;have:=x.2.len_le_size;omega
  ·simp
 have hps:small (parR x sec hand):=by
  unfold parR
  split
  ·have h1:=bodyS_size (stF x.2 hand) sec
   have h2:=q2z x.2 hand
   unfold small;omega
  ·unfold small;simp [Fo.size]
 obtain ⟨x0,x1⟩:=blk2w (B7.ext f53)
 refine ⟨_,x0,_,_,_,x1,qew x.1 x.2 hsm (hF.ext E53) (hf.ext E53) fun w57 e57=>⟨_,rfl,?_⟩,⟨_,x0,_,_,_,x1,qew x.1 x.2 hsm (hF.ext E53) (hf.ext E53) fun w57 e57=>⟨_,rfl,?_⟩,trivial⟩,trivial⟩
 ·obtain ⟨x0,x1⟩:=blk2w (B7.ext (qb f53 e57))
  refine ⟨_,x0,_,_,_,x1,qgw x.1 x.2 (by omega) (hf.ext (qb E53 e57)) fun w62 e62=>⟨_,rfl,?_⟩,trivial⟩
  have e562:=qb e57 e62
  refine qd (fun _=>And.intro ?_ trivial) (fun hh=>absurd rfl hh)
  refine qh9 _ _ (hNR.ext e562) (hNR2.ext e562) hsl fun w65 e65=>⟨_,rfl,?_⟩
  have e565:=qb e562 e65
  refine qd (fun _=>qd (fun _=>And.intro ?_ trivial) (fun hh=>absurd rfl hh)) (fun hh=>absurd rfl hh)
  refine q7k _ (hP53.ext e565) (hQ53.ext e565) hps fun w68 e68=>⟨_,rfl,?_⟩
  have e568:=qb e565 e68
  obtain ⟨y0,y1⟩:=blk2w (C31.ext e568)
  obtain ⟨z0,z1⟩:=blk2w (C42.ext e568)
  refine qd (fun _=>⟨_,y0,_,y1,_,z0,_,z1,?_⟩) (fun hh=>absurd rfl hh)
  refine ql (fun _=>qd (fun _=>qd (fun _=>And.intro (qd (fun _=>aw (qb E53 e568)) (fun hh=>absurd rfl hh)) trivial) (fun hh=>absurd rfl hh)) (fun hh=>absurd rfl hh)) (fun hh=>absurd hh (by simp))
 ·refine And.intro (qgw x.1 x.2 (by omega) (hf.ext (qb E53 e57)) fun w62 e62=>⟨_,rfl,?_⟩) trivial
  have e562:=qb e57 e62
  refine qd (fun _=>And.intro ?_ trivial) (fun hh=>absurd rfl hh)
  refine qh9 _ _ (hNR.ext e562) (hNR2.ext e562) hsl fun w65 e65=>⟨_,rfl,?_⟩
  have e565:=qb e562 e65
  refine qd (fun _=>qd (fun _=>And.intro ?_ trivial) (fun hh=>absurd rfl hh)) (fun hh=>absurd rfl hh)
  refine q7k _ (hP53.ext e565) (hQ53.ext e565) hps fun w68 e68=>⟨_,rfl,?_⟩
  have e568:=qb e565 e68
  obtain ⟨y0,y1⟩:=blk2w (C31.ext e568)
  obtain ⟨z0,z1⟩:=blk2w (C42.ext e568)
  refine qd (fun _=>⟨_,y0,_,y1,_,z0,_,z1,?_⟩) (fun hh=>absurd rfl hh)
  refine ql (fun _=>qd (fun _=>qd (fun _=>And.intro (qd (fun _=>aw (qb E53 e568)) (fun hh=>absurd rfl hh)) trivial) (fun hh=>absurd rfl hh)) (fun hh=>absurd rfl hh)) (fun hh=>absurd hh (by simp))
end
end Go.Proofs
