/- The contracts of the functions that the law reaches, one after the other, and at the end the law's card. -/
import Derived.Test.YtkecgnlelgdndaaGreatDoorLawI
set_option linter.all false
set_option maxRecDepth 40000
namespace Go.Proofs
open Go Go.Sh Go.RowKit Go.Proofs.Tryz IntKind
theorem owns_set {w:World} {B:Nat} {e:TypeId} {size:Nat} {a:Option Addr} {n c:Nat} {xs:List Value} (h:Owns w B e size a n c xs) {j:Nat} (hj:j < n * size) {v:Value} (hv:v.oneCell'=true) :
  ∃ g:Nat,a=some ⟨g,0,none⟩∧∀ K:World→Prop,(∀ w',Owns w' B e size a n c (xs.set j v)→Chg (Sh.bk a) w w'→w'.heap.size=w.heap.size→K w')→stL w ⟨g,j,none⟩ 0 [v] K:=by
 have hl:=h.1
 rcases h.2 with h1 | ⟨g,cap,cur,e1,e2,e3,e4,e5,e6,e7⟩
 ·have:n=0:=by
   have:=h1.1
   simp at this;omega
  subst this;omega
 obtain ⟨rfl,_,rfl⟩:a=some ⟨g,0,none⟩∧True∧c=cap:=by simpa using e1
 have hB:Blk w g cur.toList e:=e3
 have hcl:cur.toList.length=c * size:=by simpa using e6
 have hnc:n * size≤c * size:=Nat.mul_le_mul_right _ e4
 refine ⟨g,rfl,fun K hK=>?_⟩
 refine qai hB (by simp;omega) (fun u hu=>by rw [List.mem_singleton.1 hu];exact hv) fun w' b1 b2 b3 b4 b5 b6=>?_
 have hc:Chg (Sh.bk (some (⟨g,0,none⟩:Addr))) w w':=⟨b4,b5,b6,by omega,fun k' _ hk=>b2 k' fun e=>hk (by simp [Sh.bk,e])⟩
 have e:putAt cur.toList (j + 0) [v]=cur.toList.set j v:=rfl
 rw [e] at b1
 refine hK w' ⟨by rw [List.length_set,hl],.inr ⟨g,c,⟨_⟩,rfl,e2,b1,e4,e5,?_,?_⟩⟩ hc b3
 ·show (cur.toList.set j v).length=c * size
  rw [List.length_set,hcl]
 ·show List.take (n * size) (cur.toList.set j v)=xs.set j v
  rw [List.take_set,e7]
theorem OwnG.pushA {P:Program} {t ty e:TypeId} {bytes:Nat} {z:Value} {S O:Nat→Prop} {B:Nat} {w:World} {a:Option Addr} {n c:Nat} {f:Fo} (hT:SlT P t e 4 bytes z) (h:OwnG e S O B w a n c f) (hB:B≤w.heap.size)
  {k:Int} {s:List UInt8} {m:Int} {a':Option Addr} {c':Nat} {ps:Fo} {O2:Nat→Prop}
  (hps:SlF (fun k=>S k∨O2 k) w a' ps.len ps) (hO2:∀ k,O2 k→(B≤k∧k < w.heap.size)∧¬ Sh.bk a k) (hSB:∀ k,S k→k < B) (hlen:n + 1≤4611686018427387904) (hbytes:(n + 1) * bytes≤140737488355328) {K:Option Addr→Nat→Nat→World→Prop}
  (hk:∀ a'' c'' w' (O':Nat→Prop),OwnG e S O' B w' a'' (n + 1) c'' (f.app (.one k s m ps))→Chg (Sh.bk a) w w'→(∀ j,O' j→O j∨O2 j∨(w.heap.size≤j∧j < w'.heap.size))→K a'' (n + 1) c'' w') :
  al w e [.int .i64 k,.string ⟨⟨s⟩⟩,.int .i64 m,.slice a' ps.len c'] fun p w1=>app P [t,t] ty (.slice a n c) (.slice (some p) 1 1) w1 K:=by
 obtain ⟨h0,h1,h2,xs,h3,h4⟩:=h
 refine qfj hT h3 hB [.int .i64 k,.string ⟨⟨s⟩⟩,.int .i64 m,.slice a' ps.len c'] rfl (by intro u hu;simp only [List.mem_cons,List.not_mem_nil,or_false] at hu;rcases hu with rfl | rfl | rfl | rfl <;> rfl) hlen hbytes
  fun a'' c'' w' ho hc hn=>hk a'' c'' w' (fun j=>O j∨O2 j∨Sh.bk a'' j) ⟨?_,fun j hj=>.inr (.inr hj),fun j hj=>?_,_,ho,?_⟩ hc ?_
 ·simp [Fo.one];exact h0
 ·have z:=hc.size
  rcases hj with hj | hj | hj
  ·exact ⟨(h2 j hj).1,by have:=(h2 j hj).2;omega⟩
  ·exact ⟨(hO2 j hj).1.1,by have:=(hO2 j hj).1.2;omega⟩
  ·exact ho.bk hj
 ·obtain ⟨_,us,g3,g4⟩:=hps
  have na:∀ j,j < w.heap.size→¬ Sh.bk a j→¬ Sh.bk a'' j:=fun j hj hb' hh=>(hn j hh).elim hb' (by omega)
  have hs:∀ j,((S j∨O j)∧¬ Sh.bk a j)→j < w.heap.size→((S j∨O j∨O2 j∨Sh.bk a'' j)∧¬ Sh.bk a'' j)∧w'.heap[j]? = w.heap[j]?:=fun j hj hl =>
   ⟨⟨hj.1.imp id fun h=>.inl h,na j hl hj.2⟩,hc.block j hl hj.2⟩
  have hs2:∀ j,(S j∨O2 j)→j < w.heap.size→((S j∨O j∨O2 j∨Sh.bk a'' j)∧¬ Sh.bk a'' j)∧w'.heap[j]? = w.heap[j]?:=fun j hj hl=>by
   have nb:¬ Sh.bk a j:=hj.elim (fun h=>fun hh=>by have:=(h2 j (h1 j hh)).1;have:=hSB j h;omega) (fun h=>(hO2 j h).2)
   exact ⟨⟨hj.imp id fun h=>.inr (.inl h),na j hl nb⟩,hc.block j hl nb⟩
  exact (h4.keep hs hc.size).app ⟨a',c',us,[],rfl,g3.keep hs2 hc.size,g4.keep hs2 hc.size,rfl⟩
 ·intro j hj
  rcases hj with hj | hj | hj
  ·exact .inl hj
  ·exact .inr (.inl hj)
  ·rcases hn j hj with h' | h'
   ·exact .inl (h1 j h')
   ·exact .inr (.inr ⟨h',(ho.bk hj).2⟩)
abbrev qa9 (h:Hd) (pa:Option Addr) (n c:Nat):List Value:=[.int .i64 h.k,.string ⟨⟨h.t⟩⟩,.int .i64 h.n,.slice pa n c]
def FrAt (e:TypeId) (B:Nat) (w:World):List Fr→List Value→(Nat→Prop)→Prop
 | [],xs,O=>xs=[]∧∀ k,¬ O k
 | f :: r,xs,O=>∃ pa pc O1 O2 ys,xs=ys++qa9 f.h pa f.f.len pc∧OwnG e (fun _=>False) O1 B w pa f.f.len pc f.f∧FrAt e B w r ys O2∧(∀ k,O k↔O1 k∨O2 k)∧(∀ k,O1 k→¬ O2 k)
theorem FrAt.len {e:TypeId} {B:Nat} {w:World}:∀ {st:List Fr} {xs:List Value} {O:Nat→Prop},FrAt e B w st xs O→xs.length=st.length * 4
 | [],xs,O,⟨h,_⟩=>by rw [h];rfl
 | f :: r,xs,O,⟨pa,pc,O1,O2,ys,h1,h2,h3,_⟩=>by
  rw [h1,List.length_append,FrAt.len h3]
  show r.length * 4 + 4=(r.length + 1) * 4
  omega
theorem FrAt.own {e:TypeId} {B:Nat} {w:World}:∀ {st:List Fr} {xs:List Value} {O:Nat→Prop},FrAt e B w st xs O→∀ k,O k→B≤k∧k < w.heap.size
 | [],xs,O,⟨_,h⟩,k,hk=>absurd hk (h k)
 | f :: r,xs,O,⟨pa,pc,O1,O2,ys,h1,h2,h3,h4,_⟩,k,hk=>by
  rcases (h4 k).1 hk with hk | hk
  ·exact h2.own hk
  ·exact FrAt.own h3 k hk
theorem FrAt.chg {e:TypeId} {B:Nat} {w w':World} {T:Nat→Prop} (hc:Chg T w w'):∀ {st:List Fr} {xs:List Value} {O:Nat→Prop},FrAt e B w st xs O→(∀ k,O k→¬ T k)→FrAt e B w' st xs O
 | [],xs,O,h,_=>h
 | f :: r,xs,O,⟨pa,pc,O1,O2,ys,h1,h2,h3,h4,h5⟩,hT =>
  ⟨pa,pc,O1,O2,ys,h1,h2.chg hc fun k hk _=>⟨fun h=>h,fun ho=>hT k ((h4 k).2 (.inl ho)) hk⟩,FrAt.chg hc h3 fun k hk=>hT k ((h4 k).2 (.inr hk)),h4,h5⟩
def StAt (e:TypeId) (B:Nat) (w:World) (a:Option Addr) (n c:Nat) (st:List Fr) (O:Nat→Prop):Prop :=
 n=st.length∧∃ xs,Owns w B e 4 a n c xs∧FrAt e B w st xs O∧∀ k,O k→¬ Sh.bk a k
section
variable {e:TypeId} {B:Nat} {w w':World} {a:Option Addr} {n c:Nat} {st:List Fr} {O:Nat→Prop}
theorem StAt.bk (h:StAt e B w a n c st O) {k:Nat} (hk:Sh.bk a k):B≤k∧k < w.heap.size:=by
 obtain ⟨_,xs,h1,_⟩:=h
 exact h1.bk hk
theorem StAt.own (h:StAt e B w a n c st O) {k:Nat} (hk:O k):B≤k∧k < w.heap.size:=by
 obtain ⟨_,xs,_,h2,_⟩:=h
 exact h2.own k hk
theorem StAt.chg {T:Nat→Prop} (h:StAt e B w a n c st O) (hc:Chg T w w') (hT:∀ k,T k→¬ Sh.bk a k∧¬ O k):StAt e B w' a n c st O:=by
 obtain ⟨h0,xs,h1,h2,h3⟩:=h
 exact ⟨h0,xs,h1.chg hc fun k hk ht=>(hT k ht).1 hk,h2.chg hc fun k hk ht=>(hT k ht).2 hk,h3⟩
theorem StAt.ext (h:StAt e B w a n c st O) (hc:Ext w w'):StAt e B w' a n c st O:=h.chg (T:=fun _=>False) (.of_ext hc) fun k h=>h.elim
theorem StAt.top {f:Fr} {r:List Fr} (h:StAt e B w a n c (f :: r) O) :
  ∃ (g:Nat) (pa:Option Addr) (pc:Nat) (O1:Nat→Prop),a=some ⟨g,0,none⟩∧(∀ K:Addr→Prop,K ⟨g,r.length * 4,none⟩→idx a n (r.length:Int) 4 K) ∧
   w.cell? ⟨g,r.length * 4,none⟩=some (.int .i64 f.h.k)∧w.cell? ⟨g,r.length * 4 + 1,none⟩=some (.string ⟨⟨f.h.t⟩⟩)∧w.cell? ⟨g,r.length * 4 + 2,none⟩=some (.int .i64 f.h.n)∧w.cell? ⟨g,r.length * 4 + 3,none⟩=some (.slice pa f.f.len pc) ∧
   OwnG e (fun _=>False) O1 B w pa f.f.len pc f.f∧(∀ k,O1 k→O k):=by
 obtain ⟨h0,xs,h1,⟨pa,pc,O1,O2,ys,rfl,h2,h3,h4,h5⟩,h6⟩:=h
 obtain ⟨g,rfl,hg,hc⟩:=h1.cell (by rw [h0];simp)
 have hl:=h3.len
 have key:∀ j v,(qa9 f.h pa f.f.len pc)[j]? = some v→w.cell? ⟨g,r.length * 4 + j,none⟩=some v:=fun j v hj=>by
  refine hc _ _ ?_
  rw [List.getElem?_append_right (by omega),show r.length * 4 + j - ys.length=j by omega];exact hj
 refine ⟨g,pa,pc,O1,rfl,fun K hK=>⟨by omega,by rw [h0,List.length_cons];omega,?_⟩,key 0 _ rfl,key 1 _ rfl,key 2 _ rfl,key 3 _ rfl,h2,fun k hk=>(h4 k).2 (.inl hk)⟩
 show K _
 rw [qg,Int.toNat_natCast,Nat.zero_add];exact hK
theorem StAt.push {P:Program} {t ty:TypeId} {bytes:Nat} {z:Value} (hT:SlT P t e 4 bytes z) (h:StAt e B w a n c st O) (hB:B≤w.heap.size) (hd:Hd) (hlen:n + 1≤4611686018427387904) (hbytes:(n + 1) * bytes≤140737488355328) {K:Option Addr→Nat→Nat→World→Prop}
  (hk:∀ a' c' w',StAt e B w' a' (n + 1) c' (⟨hd,.nil⟩ :: st) O→Chg (Sh.bk a) w w'→K a' (n + 1) c' w') :
  al w e (qa9 hd none 0 0) fun p w1=>app P [t,t] ty (.slice a n c) (.slice (some p) 1 1) w1 K:=by
 obtain ⟨h0,xs,h1,h2,h3⟩:=h
 refine qfj hT h1 hB _ rfl (by intro u hu;simp only [List.mem_cons,List.not_mem_nil,or_false] at hu;rcases hu with rfl | rfl | rfl | rfl <;> rfl) hlen hbytes fun a' c' w' ho hc hn=>hk a' c' w' ⟨by simp [h0],_,ho,⟨none,0,fun _=>False,O,xs,rfl,OwnG.nil w',h2.chg hc h3,fun k=>by simp,fun k hk=>hk.elim⟩,?_⟩ hc
 intro k hk hb
 rcases hn k hb with h' | h'
 ·exact h3 k hk h'
 ·have:=(h2.own k hk).2;omega
theorem StAt.pop {f:Fr} {r:List Fr} (h:StAt e B w a n c (f :: r) O) :
  ∃ (pa:Option Addr) (pc:Nat) (O1 O':Nat→Prop),StAt e B w a r.length c r O'∧SlF O1 w pa f.f.len f.f∧(∀ k,O1 k→(B≤k∧k < w.heap.size)∧¬ O' k∧¬ Sh.bk a k)∧(∀ k,O1 k→O k)∧(∀ k,O' k→O k) ∧
   ∃ g:Nat,a=some ⟨g,0,none⟩∧w.cell? ⟨g,r.length * 4,none⟩=some (.int .i64 f.h.k)∧w.cell? ⟨g,r.length * 4 + 1,none⟩=some (.string ⟨⟨f.h.t⟩⟩)∧w.cell? ⟨g,r.length * 4 + 2,none⟩=some (.int .i64 f.h.n)∧w.cell? ⟨g,r.length * 4 + 3,none⟩=some (.slice pa f.f.len pc):=by
 obtain ⟨h0,xs,h1,⟨pa,pc,O1,Or,ys,rfl,h2,h3,h4,h5⟩,h6⟩:=h
 obtain ⟨g,ha,hg,hc⟩:=h1.cell (by rw [h0];simp)
 have hl:=h3.len
 have hn:n=r.length + 1:=by rw [h0,List.length_cons]
 have key:∀ j v,(qa9 f.h pa f.f.len pc)[j]? = some v→w.cell? ⟨g,r.length * 4 + j,none⟩=some v:=fun j v hj=>by
  refine hc _ _ ?_
  rw [List.getElem?_append_right (by omega),show r.length * 4 + j - ys.length=j by omega];exact hj
 have hcut:=owns_cut h1 (m:=r.length) (by omega)
 rw [List.take_left' hl] at hcut
 refine ⟨pa,pc,O1,Or,⟨rfl,ys,hcut,h3,fun k hk=>h6 k ((h4 k).2 (.inr hk))⟩,?_,fun k hk=>⟨h2.own hk,h5 k hk,h6 k ((h4 k).2 (.inl hk))⟩,fun k hk=>(h4 k).2 (.inl hk),fun k hk=>(h4 k).2 (.inr hk),g,ha,key 0 _ rfl,key 1 _ rfl,key 2 _ rfl,key 3 _ rfl⟩
 exact h2.out.imp fun k hk _=>hk.elim (fun h=>h.elim) id
end
section
variable {e:TypeId} {B:Nat} {w w':World} {a:Option Addr} {n c:Nat} {st:List Fr} {O:Nat→Prop}
theorem StAt.grow {P:Program} {t ty:TypeId} {bytes:Nat} {z:Value} (hT:SlT P t e 4 bytes z) {f:Fr} {r:List Fr} (h:StAt e B w a n c (f :: r) O) (hB:B≤w.heap.size) {bz:Nat} {Tz:TypeId} {zc:List Value} (hbz:Blk w bz zc Tz) (hzc:zc.length=4) (hz1:∀ u∈zc,u.oneCell'=true)
  {hd:Hd} {ps:Fo} {a':Option Addr} {c':Nat} {O2:Nat→Prop}
  (hps:SlF O2 w a' ps.len ps) (hO2:∀ k,O2 k→(B≤k∧k < w.heap.size)∧¬ O k∧¬ Sh.bk a k) (hlen:f.f.len + 1≤4611686018427387904) (hbytes:(f.f.len + 1) * bytes≤140737488355328) {pa:Option Addr} {pc g:Nat} (ha:a=some ⟨g,0,none⟩) (hcell:w.cell? ⟨g,r.length * 4 + 3,none⟩=some (.slice pa f.f.len pc))
  {K4:Option Addr→Nat→Nat→World→Prop}
  (hK:∀ a1 c1 w2 (q:Addr),(∀ KK:Addr→Prop,KK q→idx a1 (f.f.len + 1) (f.f.len:Int) 4 KK) →
   (∀ K:World→Prop,(∀ w' O',StAt e B w' a n c (f.add hd ps :: r) O'→Chg (fun k=>Sh.bk a k∨O k) w w'→(∀ k,O' k→O k∨O2 k∨(w.heap.size≤k∧k < w'.heap.size))→K w') →
    (stL w2 q 0 (qa9 hd a' ps.len c') fun w3=>(stL w3 ⟨g,r.length * 4 + 3,none⟩ 0 [.slice a1 (f.f.len + 1) c1] K)∧True) ∧
    (stL w2 ⟨g,r.length * 4 + 3,none⟩ 0 [.slice a1 (f.f.len + 1) c1] fun w3=>(stL w3 q 0 (qa9 hd a' ps.len c') K)∧True) ∧
    (stL w2 ⟨g,r.length * 4 + 3,none⟩ 0 [.slice a1 (f.f.len + 1) c1] fun w3=>idx a1 (f.f.len + 1) (f.f.len:Int) 4 fun q=>stL w3 q 0 (qa9 hd a' ps.len c') K) ∧
    (zc=qa9 hd a' ps.len c'→stL w2 ⟨g,r.length * 4 + 3,none⟩ 0 [.slice a1 (f.f.len + 1) c1] K))→K4 a1 (f.f.len + 1) c1 w2) :
  app P [t,t] ty (.slice pa f.f.len pc) (.slice (some ⟨bz,0,none⟩) 1 1) w K4:=by
 obtain ⟨h0,xs,h1,⟨pa',pc',O0,Or,ys,rfl,h2,h3,h4,h5⟩,h6⟩:=h
 obtain ⟨g',ha',hg,hc⟩:=h1.cell (by rw [h0];simp)
 obtain rfl:g'=g:=by rw [ha] at ha';simpa using ha'.symm
 have hl:=h3.len
 have hn:n=r.length + 1:=by rw [h0,List.length_cons]
 have hcell':w.cell? ⟨g',r.length * 4 + 3,none⟩=some (.slice pa' f.f.len pc'):=by
  refine hc _ _ ?_
  rw [List.getElem?_append_right (by omega),show r.length * 4 + 3 - ys.length=3 by omega];rfl
 obtain ⟨rfl,rfl⟩:pa'=pa∧pc'=pc:=by
  rw [hcell] at hcell'
  have:=Value.slice.inj (Option.some.inj hcell')
  exact ⟨this.1.symm,this.2.2.symm⟩
 obtain ⟨_,o1,o2,px,q1,q2⟩:=h2
 refine qrz hT q1 hB (S:=fun _=>True) zc (by rw [hzc,Nat.one_mul]) (.inr ⟨bz,0,rfl,trivial,hbz.lt,fun j v hj=>by rw [Nat.zero_add,hbz.cell];exact hj⟩) hz1 hlen hbytes fun a1 c1 w2 ho hcw hnn=>?_
 have z:=hcw.size
 obtain ⟨g1,ha1,hidx,hst⟩:=ho.storeLast (vs:=qa9 hd a' ps.len c') hzc rfl (by intro u hu;simp only [List.mem_cons,List.not_mem_nil,or_false] at hu;rcases hu with rfl | rfl | rfl | rfl <;> rfl)
 have paO:∀ k,Sh.bk pa' k→O k:=fun k hk=>(h4 k).2 (.inl (o1 k hk))
 have h1':Owns w2 B e 4 a n c (ys++qa9 f.h pa' f.f.len pc'):=h1.chg hcw fun k hk hp=>h6 k (paO k hp) hk
 have na1:∀ k,Sh.bk a1 k→¬ Sh.bk a k:=fun k hk hb=>(hnn k hk).elim (fun h=>h6 k (paO k h) hb) (fun h=>by have:=(h1.bk hb).2;omega)
 have hset:(ys++qa9 f.h pa' f.f.len pc').set (r.length * 4 + 3) (.slice a1 (f.f.len + 1) c1)=ys++qa9 f.h a1 (f.f.len + 1) c1:=by
  rw [List.set_append_right _ _ (by omega),show r.length * 4 + 3 - ys.length=3 by omega];rfl
 have hlen':(f.add hd ps).f.len=f.f.len + 1:=by unfold Fr.add;simp [Fo.one]
 have fin:∀ w',Owns w' B e 4 a1 (f.f.len + 1) c1 (px++qa9 hd a' ps.len c')→Owns w' B e 4 a n c (ys++qa9 f.h a1 (f.f.len + 1) c1)→Chg (fun k=>Sh.bk a1 k∨Sh.bk a k) w2 w' →
   StAt e B w' a n c (f.add hd ps :: r) (fun k=>(O0 k∨O2 k∨Sh.bk a1 k)∨Or k)∧Chg (fun k=>Sh.bk a k∨O k) w w'∧(∀ k,((O0 k∨O2 k∨Sh.bk a1 k)∨Or k)→O k∨O2 k∨(w.heap.size≤k∧k < w'.heap.size)):=by
  intro w' x1 x2 x3
  have z3:=x3.size
  have own1:∀ k,(O0 k∨O2 k∨Sh.bk a1 k)→B≤k∧k < w'.heap.size:=fun k hk=>by
   rcases hk with hk | hk | hk
   ·exact ⟨(o2 k hk).1,by have:=(o2 k hk).2;omega⟩
   ·exact ⟨(hO2 k hk).1.1,by have:=(hO2 k hk).1.2;omega⟩
   ·exact x1.bk hk
  have same:∀ k,k < w.heap.size→¬ Sh.bk pa' k→¬ Sh.bk a k→¬ Sh.bk a1 k∧w'.heap[k]? = w.heap[k]?:=fun k hk n1 n2=>by
   have n3:¬ Sh.bk a1 k:=fun hh=>(hnn k hh).elim n1 (by omega)
   exact ⟨n3,(x3.block k (by omega) fun hh=>hh.elim n3 n2).trans (hcw.block k hk n1)⟩
  refine ⟨⟨by rw [h0];rfl,_,x2,⟨a1,c1,_,Or,ys,by rw [hlen'];rfl,?_,?_,fun k=>Iff.rfl,?_⟩,?_⟩,?_,?_⟩
  ·rw [hlen']
   refine ⟨by show _=(f.f.app _).len;simp [Fo.one],fun k hk=>.inr (.inr hk),own1,_,x1,?_⟩
   obtain ⟨_,us,g3,g4⟩:=hps
   have k1:∀ k,((False∨O0 k)∧¬ Sh.bk pa' k)→k < w.heap.size→((False∨O0 k∨O2 k∨Sh.bk a1 k)∧¬ Sh.bk a1 k)∧w'.heap[k]? = w.heap[k]?:=fun k hk hl=>by
    have ho:O0 k:=hk.1.elim (fun h=>h.elim) id
    obtain ⟨s1,s2⟩:=same k hl hk.2 (h6 k ((h4 k).2 (.inl ho)))
    exact ⟨⟨.inr (.inl ho),s1⟩,s2⟩
   have k2:∀ k,O2 k→k < w.heap.size→((False∨O0 k∨O2 k∨Sh.bk a1 k)∧¬ Sh.bk a1 k)∧w'.heap[k]? = w.heap[k]?:=fun k hk hl=>by
    obtain ⟨s1,s2⟩:=same k hl (fun hh=>(hO2 k hk).2.1 (paO k hh)) (hO2 k hk).2.2
    exact ⟨⟨.inr (.inr (.inl hk)),s1⟩,s2⟩
   exact (q2.keep k1 (by omega)).app ⟨a',c',us,[],rfl,g3.keep k2 (by omega),g4.keep k2 (by omega),rfl⟩
  ·exact (h3.chg hcw fun k hk hp=>h5 k (o1 k hp) hk).chg x3 fun k hk hh=>hh.elim (fun hb=>(hnn k hb).elim (fun hp=>h5 k (o1 k hp) hk) (fun hp=>by have:=(h3.own k hk).2;omega)) (h6 k ((h4 k).2 (.inr hk)))
  ·intro k hk h2'
   rcases hk with hk | hk | hk
   ·exact h5 k hk h2'
   ·exact (hO2 k hk).2.1 ((h4 k).2 (.inr h2'))
   ·rcases hnn k hk with hp | hp
    ·exact h5 k (o1 k hp) h2'
    ·have:=(h3.own k h2').2;omega
  ·intro k hk
   rcases hk with hk | hk
   ·rcases hk with hk | hk | hk
    ·exact h6 k ((h4 k).2 (.inl hk))
    ·exact (hO2 k hk).2.2
    ·exact na1 k hk
   ·exact h6 k ((h4 k).2 (.inr hk))
  ·refine ⟨x3.os.trans hcw.os,x3.tape.trans hcw.tape,x3.output.trans hcw.output,by omega,fun k hk hh=>(same k hk (fun hp=>hh (.inr (paO k hp))) (fun hb=>hh (.inl hb))).2⟩
  ·intro k hk
   rcases hk with hk | hk
   ·rcases hk with hk | hk | hk
    ·exact .inl ((h4 k).2 (.inl hk))
    ·exact .inr (.inl hk)
    ·rcases hnn k hk with hp | hp
     ·exact .inl (paO k hp)
     ·exact .inr (.inr ⟨hp,(x1.bk hk).2⟩)
   ·exact .inl ((h4 k).2 (.inr hk))
 have seth:∀ {W:World} {K:World→Prop},Owns W B e 4 a n c (ys++qa9 f.h pa' f.f.len pc')→(∀ w',Owns w' B e 4 a n c (ys++qa9 f.h a1 (f.f.len + 1) c1)→Chg (Sh.bk a) W w'→w'.heap.size=W.heap.size→K w')→stL W ⟨g',r.length * 4 + 3,none⟩ 0 [.slice a1 (f.f.len + 1) c1] K:=by
  intro W K hW hk
  obtain ⟨g2,hg2,hst2⟩:=owns_set hW (j:=r.length * 4 + 3) (by omega) (v:=.slice a1 (f.f.len + 1) c1) rfl
  obtain rfl:g2=g':=by rw [ha] at hg2;simpa using hg2.symm
  refine hst2 K fun w' x1 x2 x3=>hk w' (by rw [← hset];exact x1) x2 x3
 have sete:∀ {W:World} {K:World→Prop},Owns W B e 4 a1 (f.f.len + 1) c1 (px++zc)→(∀ w',Owns w' B e 4 a1 (f.f.len + 1) c1 (px++qa9 hd a' ps.len c')→Chg (Sh.bk a1) W w'→w'.heap.size=W.heap.size→K w')→stL W ⟨g1,f.f.len * 4,none⟩ 0 (qa9 hd a' ps.len c') K:=by
  intro W K hW hk
  obtain ⟨g2,hg2,_,hst2⟩:=hW.storeLast (vs:=qa9 hd a' ps.len c') hzc rfl (by intro u hu;simp only [List.mem_cons,List.not_mem_nil,or_false] at hu;rcases hu with rfl | rfl | rfl | rfl <;> rfl)
  obtain rfl:g2=g1:=by rw [ha1] at hg2;simpa using hg2.symm
  exact hst2 K hk
 refine hK a1 c1 w2 ⟨g1,f.f.len * 4,none⟩ hidx fun K hk=>?_
 have eh:∀ {K:World→Prop},(∀ w' O',StAt e B w' a n c (f.add hd ps :: r) O'→Chg (fun k=>Sh.bk a k∨O k) w w'→(∀ k,O' k→O k∨O2 k∨(w.heap.size≤k∧k < w'.heap.size))→K w')→stL w2 ⟨g1,f.f.len * 4,none⟩ 0 (qa9 hd a' ps.len c') fun w3=>(stL w3 ⟨g',r.length * 4 + 3,none⟩ 0 [.slice a1 (f.f.len + 1) c1] K)∧True:=by
  intro K hk
  refine sete ho fun w3 x1 x2 x3=>⟨seth (h1'.chg x2 fun k hk hh=>na1 k hh hk) fun w4 y1 y2 y3=>?_,trivial⟩
  obtain ⟨f1,f2,f3⟩:=fin w4 (x1.chg y2 fun k hk hh=>na1 k hk hh) y1 ((x2.mono fun k _ hk=>.inl hk).trans (y2.mono fun k _ hk=>.inr hk))
  exact hk w4 _ f1 f2 f3
 have he:∀ {W:World} {K:World→Prop},(∀ w' O',StAt e B w' a n c (f.add hd ps :: r) O'→Chg (fun k=>Sh.bk a k∨O k) w w'→(∀ k,O' k→O k∨O2 k∨(w.heap.size≤k∧k < w'.heap.size))→K w')→Owns W B e 4 a n c (ys++qa9 f.h a1 (f.f.len + 1) c1)→Chg (Sh.bk a) w2 W→stL W ⟨g1,f.f.len * 4,none⟩ 0 (qa9 hd a' ps.len c') K:=by
  intro W K hk y1 y2
  refine sete (ho.chg y2 fun k hk hh=>na1 k hk hh) fun w4 x1 x2 x3=>?_
  obtain ⟨f1,f2,f3⟩:=fin w4 x1 (y1.chg x2 fun k hk hh=>na1 k hh hk) ((y2.mono fun k _ hk=>.inr hk).trans (x2.mono fun k _ hk=>.inl hk))
  exact hk w4 _ f1 f2 f3
 refine ⟨eh hk,seth h1' fun w3 y1 y2 _=>⟨he hk y1 y2,trivial⟩,seth h1' fun w3 y1 y2 _=>hidx _ (he hk y1 y2),fun hz=>seth h1' fun w3 y1 y2 _=>?_⟩
 obtain ⟨f1,f2,f3⟩:=fin w3 (by rw [← hz];exact ho.chg y2 fun k hk hh=>na1 k hk hh) y1 (y2.mono fun k _ hk=>.inr hk)
 exact hk w3 _ f1 f2 f3
end
def tkOk (x:Tk):Prop:=(x.k=1∧x.nm=[])∨((x.k=2∨x.k=3∨x.k=4)∧qde x.nm=true∧qhn x.nm=decide (x.k=4)∧(x.k=3→x.vl=[])∧(x.k≠3→valB x.nm x.vl=true))
theorem chk_tk {x:Lx} {pt:Bool} {at_:Int} (h:qe0 x pt at_=0):tkOk (tkX x):=by
 obtain ⟨h1,_,h3,_⟩:=chk_inv h
 unfold qcn at h1
 unfold tkOk tkX
 by_cases hk:x.k=1
 ·left
  rw [if_pos hk] at h1
  split at h1
  ·cases h1
  ·rename_i hn;exact ⟨hk,Classical.not_not.1 hn⟩
 ·right
  rw [if_neg hk] at h1
  split at h1
  ·rename_i hk2
   split at h1
   ·rename_i hn
    have hr:=h3 hk
    unfold qcg at hr
    refine ⟨hk2,hn.1,hn.2,fun h=>?_,fun h=>?_⟩
    ·rw [if_pos h] at hr;exact of_decide_eq_true hr
    ·rw [if_neg h] at hr;exact hr
   ·cases h1
  ·cases h1
theorem q53:∀ {L:List Lx} {pt:Bool} {at_:Nat},chkGo L pt at_=0→∀ x∈L,tkOk (tkX x)
 | [],_,_,_,x,hx=>by cases hx
 | y :: r,pt,at_,h,x,hx=>by
  obtain ⟨h1,h2⟩:=chkGo_cons.1 h
  rcases List.mem_cons.1 hx with rfl | hx
  ·exact chk_tk h1
  ·exact q53 h2 x hx
theorem num_val {most:Nat} (hm:most≤64) {v:List UInt8} (h:numV most v=true):1≤numOf v∧numOf v≤64∧Lib.decDigits (numOf v).toNat=v:=by
 obtain ⟨n,h1,h2,h3,h4⟩:=(qqy hm v).1 h
 unfold numOf
 rw [h1]
 exact ⟨by show (1:Int)≤(n:Int);omega,by show (n:Int)≤64;omega,h4⟩
theorem qy9 {nm vl:List UInt8} {c:Int} (hc:c≠1) (h1:qde nm=true) (h2:valB nm vl=true) :
  let h:=headF ⟨c,nm,vl⟩
  tagF h.k=nm∧valT h.k h.t h.n=vl∧q5r h.k h.t h.n∧h.k≠1∧qaa h.k=!qhn nm:=by
 have hm:nm∈qw4:=of_decide_eq_true h1
 unfold headF
 simp only [hc,if_false]
 simp only [qw4,List.mem_cons,List.not_mem_nil,or_false] at hm
 have sm:∀ i:Nat,i < 12→2≤i→(if qae (i:Int)=true then vl else [])=(if qae (i:Int) then vl else []):=fun _ _ _=>rfl
 rcases hm with rfl | rfl | rfl | rfl | rfl | rfl | rfl | rfl | rfl | rfl
 ·rw [show kindN [97,98]=10 by decide +kernel]
  exact ⟨rfl,rfl,.inr ⟨by decide,by decide,fun hh=>(by cases hh),fun _=>rfl,fun hh=>(by cases hh)⟩,by decide,rfl⟩
 ·rw [show kindN [97,100,100]=8 by decide +kernel]
  obtain ⟨a,b,d⟩:=num_val (most:=8) (by omega) h2
  exact ⟨rfl,d,.inr ⟨by decide,by decide,fun _=>rfl,fun hh=>(by cases hh),fun _=>⟨a,b⟩⟩,by decide,rfl⟩
 ·rw [show kindN [100,101,108]=9 by decide +kernel]
  obtain ⟨a,b,d⟩:=num_val (most:=8) (by omega) h2
  exact ⟨rfl,d,.inr ⟨by decide,by decide,fun _=>rfl,fun hh=>(by cases hh),fun _=>⟨a,b⟩⟩,by decide,rfl⟩
 ·rw [show kindN [103,97,112]=6 by decide +kernel]
  obtain ⟨a,b,d⟩:=num_val (most:=64) (by omega) h2
  exact ⟨rfl,d,.inr ⟨by decide,by decide,fun _=>rfl,fun hh=>(by cases hh),fun _=>⟨a,b⟩⟩,by decide,rfl⟩
 ·rw [show kindN [108,98]=2 by decide +kernel]
  exact ⟨rfl,(of_decide_eq_true h2).symm,.inr ⟨by decide,by decide,fun _=>rfl,fun _=>rfl,fun hh=>(by cases hh)⟩,by decide,rfl⟩
 ·rw [show kindN [110,97,109,101]=11 by decide +kernel]
  exact ⟨rfl,rfl,.inr ⟨by decide,by decide,fun hh=>(by cases hh),fun _=>rfl,fun hh=>(by cases hh)⟩,by decide,rfl⟩
 ·rw [show kindN [112,98]=3 by decide +kernel]
  exact ⟨rfl,rfl,.inr ⟨by decide,by decide,fun hh=>(by cases hh),fun _=>rfl,fun hh=>(by cases hh)⟩,by decide,rfl⟩
 ·rw [show kindN [115,101,99]=4 by decide +kernel]
  exact ⟨rfl,rfl,.inr ⟨by decide,by decide,fun hh=>(by cases hh),fun _=>rfl,fun hh=>(by cases hh)⟩,by decide,rfl⟩
 ·rw [show kindN [117,110,99,108,101,97,114]=7 by decide +kernel]
  exact ⟨rfl,(of_decide_eq_true h2).symm,.inr ⟨by decide,by decide,fun _=>rfl,fun _=>rfl,fun hh=>(by cases hh)⟩,by decide,rfl⟩
 ·rw [show kindN [118]=5 by decide +kernel]
  exact ⟨rfl,(of_decide_eq_true h2).symm,.inr ⟨by decide,by decide,fun _=>rfl,fun _=>rfl,fun hh=>(by cases hh)⟩,by decide,rfl⟩
def hdTk (h:Hd):Tk:=⟨2,tagF h.k,valT h.k h.t h.n⟩
def unp:List Fr→List Tk
 | []=>[]
 | [f]=>tksF f.f
 | f :: g :: r=>unp (g :: r)++hdTk f.h :: tksF f.f
def hdOk (h:Hd):Prop:=q5r h.k h.t h.n∧h.k≠1∧qaa h.k=true
def frOk:List Fr→Prop
 | []=>False
 | [f]=>qhl f.f
 | f :: g :: r=>hdOk f.h∧qhl f.f∧frOk (g :: r)
def qq0:List Fr→List (List UInt8)
 | []=>[]
 | [_]=>[]
 | f :: g :: r=>tagF f.h.k :: qq0 (g :: r)
theorem shape_app {f g:Fo}:qhl (f.app g)↔qhl f∧qhl g:=by
 induction f with
 | nil=>simp [qhl]
 | cons k t n ps r _ ih=>simp only [Fo.cons_app,qhl,ih,and_assoc]
theorem q9w (f:Fr) (h:Hd) (ps:Fo) (r:List Fr):unp (f.add h ps :: r)=unp (f :: r)++tksF (.one h.k h.t h.n ps):=by
 cases r with
 | nil=>exact tksF_app _ _
 | cons g r =>
  show unp (g :: r)++hdTk f.h :: tksF (f.f.app _)=(unp (g :: r)++hdTk f.h :: tksF f.f)++_
  rw [tksF_app];simp
theorem fr_add {f:Fr} {h:Hd} {ps:Fo} {r:List Fr} (hf:frOk (f :: r)) (hs:qhl (.one h.k h.t h.n ps)):frOk (f.add h ps :: r):=by
 cases r with
 | nil=>exact shape_app.2 ⟨hf,hs⟩
 | cons g r=>exact ⟨hf.1,shape_app.2 ⟨hf.2.1,hs⟩,hf.2.2⟩
theorem qyy (f:Fr) (h:Hd) (ps:Fo) (r:List Fr):qq0 (f.add h ps :: r)=qq0 (f :: r):=by
 cases r <;> rfl
theorem q9x (h:Hd) (ps:Fo):tksF (.one h.k h.t h.n ps)=(if h.k=1 then [⟨1,[],h.t⟩] else if qaa h.k then ⟨2,tagF h.k,valT h.k h.t h.n⟩ :: (tksF ps++[⟨3,tagF h.k,[]⟩]) else [⟨4,tagF h.k,valT h.k h.t h.n⟩]):=by
 unfold Fo.one
 rw [tksF,tksF,List.append_nil]
theorem qyp:∀ (L:List Lx) (st:List Fr),frOk st→(∀ x∈L,tkOk (tkX x))→qit L (qq0 st)=0→∃ fr:Fr,(L.map tkX).foldl stepP st=[fr]∧qhl fr.f∧tksF fr.f=unp st++L.map tkX
 | [],st,hf,_,hn=>by
  match st,hf with
  | [f],hf=>exact ⟨f,rfl,hf,by simp [unp]⟩
  | f :: g :: r,hf =>
   rw [qq0,qit] at hn
   simp at hn
 | x :: L,st,hf,ht,hn=>by
  have hx:=ht x List.mem_cons_self
  have htl:∀ y∈L,tkOk (tkX y):=fun y hy=>ht y (List.mem_cons_of_mem _ hy)
  obtain ⟨f,r,rfl⟩:∃ f r,st=f :: r:=by
   cases st with
   | nil=>exact hf.elim
   | cons f r=>exact ⟨f,r,rfl⟩
  rw [List.map_cons,List.foldl_cons]
  rw [qit] at hn
  have fin:∀ st',stepP (f :: r) (tkX x)=st'→frOk st'→qit L (qq0 st')=0→unp st'=unp (f :: r)++[tkX x]→∃ fr:Fr,(L.map tkX).foldl stepP (stepP (f :: r) (tkX x))=[fr]∧qhl fr.f∧tksF fr.f=unp (f :: r)++tkX x :: L.map tkX:=by
   intro st' h1 h2 h3 h4
   obtain ⟨fr,g1,g2,g3⟩:=qyp L st' h2 htl h3
   exact ⟨fr,by rw [h1];exact g1,g2,by rw [g3,h4];simp⟩
  by_cases h2:x.k=2
  ·rw [if_pos h2] at hn
   split at hn
   ·cases hn
   rcases hx with hx | ⟨_,hk,he,_,hv⟩
   ·exact absurd (hx.1.symm.trans h2) (by decide)
   have hb:=qy9 (c:=x.k) (by omega) hk (hv (by show x.k≠3;omega))
   obtain ⟨b1,b2,b3,b4,b5⟩:=hb
   have hpt:qaa (headF (tkX x)).k=true:=by
    rw [show qaa (headF (tkX x)).k=!qhn x.nm from b5]
    have:qhn x.nm=decide (x.k=4):=he
    rw [this,decide_eq_false (by omega)];rfl
   refine fin (⟨headF (tkX x),.nil⟩ :: f :: r) (by unfold stepP;rw [if_pos (show (tkX x).k=2 from h2)]) ⟨⟨b3,b4,hpt⟩,trivial,hf⟩ ?_ ?_
   ·show qit L (tagF (headF (tkX x)).k :: qq0 (f :: r))=0
    rw [show tagF (headF (tkX x)).k=x.nm from b1];exact hn
   ·show unp (f :: r)++[hdTk (headF (tkX x))]=_
    have:hdTk (headF (tkX x))=tkX x:=by
     unfold hdTk
     rw [show tagF (headF (tkX x)).k=x.nm from b1,show valT (headF (tkX x)).k (headF (tkX x)).t (headF (tkX x)).n=x.vl from b2]
     unfold tkX;rw [h2]
    rw [this]
  ·rw [if_neg h2] at hn
   by_cases h3:x.k=3
   ·rw [if_pos h3] at hn
    cases r with
    | nil=>simp [qq0,popS] at hn
    | cons f1 r =>
     rw [qq0] at hn
     by_cases he:tagF f.h.k=x.nm
     ·rw [popS,if_pos he] at hn
      obtain ⟨⟨a1,a2,a3⟩,a4,a5⟩:=hf
      have hvl:x.vl=[]:=by
       rcases hx with hx | ⟨_,_,_,hv,_⟩
       ·exact absurd (hx.1.symm.trans h3) (by decide)
       ·exact hv h3
      refine fin (f1.add f.h f.f :: r) ?_ (fr_add a5 ?_) (by rw [qyy];exact hn) ?_
      ·unfold stepP;rw [if_neg (show ¬ (tkX x).k=2 from h2),if_pos (show (tkX x).k=3 from h3)]
      ·exact ⟨a1,fun hh=>(by rw [a3] at hh;cases hh),a4,trivial⟩
      ·rw [q9w,q9x,if_neg a2,if_pos a3]
       show _=(unp (f1 :: r)++hdTk f.h :: tksF f.f)++[tkX x]
       have:tkX x=⟨3,tagF f.h.k,[]⟩:=by unfold tkX;rw [h3,he,hvl]
       rw [this];simp [hdTk]
     ·rw [popS,if_neg he] at hn
      simp at hn
   ·rw [if_neg h3] at hn
    have hs:stepP (f :: r) (tkX x)=f.add (headF (tkX x)) .nil :: r:=by
     unfold stepP;rw [if_neg (show ¬ (tkX x).k=2 from h2),if_neg (show ¬ (tkX x).k=3 from h3)]
    rcases hx with hx | ⟨hk4,hk,he,_,hv⟩
    ·obtain ⟨k1,n0⟩:=hx
     have k1:x.k=1:=k1
     have n0:x.nm=[]:=n0
     have hh:headF (tkX x)=⟨1,x.vl,0⟩:=by unfold headF;rw [if_pos (show (tkX x).k=1 from k1)];rfl
     refine fin _ hs (fr_add hf ?_) (by rw [qyy];exact hn) ?_
     ·rw [hh];exact ⟨.inl ⟨rfl,rfl⟩,fun _=>rfl,trivial,trivial⟩
     ·rw [q9w,q9x,hh,if_pos rfl]
      unfold tkX;rw [k1,n0]
    ·have k4:x.k=4:=by
      have:x.k=2∨x.k=3∨x.k=4:=hk4
      omega
     obtain ⟨b1,b2,b3,b4,b5⟩:=qy9 (c:=x.k) (by omega) hk (hv (by show x.k≠3;omega))
     have hpt:qaa (headF (tkX x)).k=false:=by
      rw [show qaa (headF (tkX x)).k=!qhn x.nm from b5]
      have:qhn x.nm=decide (x.k=4):=he
      rw [this,decide_eq_true k4];rfl
     refine fin _ hs (fr_add hf ⟨b3,fun _=>rfl,trivial,trivial⟩) (by rw [qyy];exact hn) ?_
     rw [q9w,q9x,if_neg (show ¬ (headF (tkX x)).k=1 from b4),if_neg (by rw [hpt];decide)]
     rw [show tagF (headF (tkX x)).k=x.nm from b1,show valT (headF (tkX x)).k (headF (tkX x)).t (headF (tkX x)).n=x.vl from b2]
     unfold tkX;rw [k4]
theorem tree_inv {L:List Lx} (h:nestX L=0):qhl (treeT (L.map tkX))∧tksF (treeT (L.map tkX))=L.map tkX:=by
 unfold nestX at h
 split at h
 ·cases h
 rename_i hc
 obtain ⟨fr,h1,h2,h3⟩:=qyp L [⟨⟨0,[],0⟩,.nil⟩] trivial (q53 (Classical.not_not.1 hc)) h
 unfold treeT
 rw [h1]
 exact ⟨h2,by rw [h3];rfl⟩
theorem all_cons {k:Int} {t:List UInt8} {n:Int} {ps r:Fo} {b w:Bool} (h:allF (.cons k t n ps r) b w=0):qu k t n ps b w=0∧allF ps false true=0∧allF r (decide (k=1)) w=0:=by
 rw [allF] at h
 split at h
 ·rename_i h1;exact absurd h h1
 rename_i h1
 split at h
 ·rename_i h2;exact absurd h h2
 rename_i h2
 exact ⟨Classical.not_not.1 h1,Classical.not_not.1 h2,h⟩
section
variable {R:Ending→World→Prop} {w:World}
theorem setN {b i:Nat} {T:TypeId} {cs:List Value} {v:Value} {w:World} (hb:Blk w b cs T) (hi:i < cs.length) (hv:v.oneCell'=true) {K:World→Prop}
  (h:∀ w',Blk w' b (cs.set i v) T→Chg (fun k=>k=b) w w'→w'.heap.size=w.heap.size→K w'):stL w ((⟨b,0,none⟩:Addr).add i) 0 [v] K:=by
 rw [qg]
 refine qai hb (by simp;omega) (by intro u hu;rw [List.mem_singleton.1 hu];exact hv) fun w' b1 x2 x3 x4 x5 x6=>?_
 have e:putAt cs (0 + i + 0) [v]=cs.set i v:=by rw [Nat.zero_add,Nat.add_zero];rfl
 rw [e] at b1
 exact h w' b1 ⟨x4,x5,x6,by omega,fun j _ hj=>x2 j hj⟩ x3
def lastN (R:Ending→World→Prop) (p7:Addr) (w41:World):Prop :=
 ∃ (x42:Int),World.cell? w41 (p7.add 0)=some (.int .i64 x42)∧(∃ (x43:List UInt8),World.cell? w41 (p7.add 1)=some (.string ⟨⟨x43⟩⟩)∧(∃ (x44:Int),World.cell? w41 (p7.add 2)=some (.int .i64 x44)∧(∃ (x45:Option Addr) (x45n:Nat) (x45c:Nat),World.cell? w41 (p7.add 3)=some (.slice x45 x45n x45c)∧(R (.returned (.agg ⟨[.int .i64 x42,.string ⟨⟨x43⟩⟩,.int .i64 x44,.slice x45 x45n x45c]⟩)) w41))))
def outN (R:Ending→World→Prop) (p20 p7:Addr) (w36:World):Prop :=
 ∃ (x37:Int),World.cell? w36 (p20.add 0)=some (.int .i64 x37)∧(∃ (x38:List UInt8),World.cell? w36 (p20.add 1)=some (.string ⟨⟨x38⟩⟩)∧(∃ (x39:Int),World.cell? w36 (p20.add 2)=some (.int .i64 x39)∧(∃ (x40:Option Addr) (x40n:Nat) (x40c:Nat),World.cell? w36 (p20.add 3)=some (.slice x40 x40n x40c)∧(stL w36 p7 0 [.int .i64 x37,.string ⟨⟨x38⟩⟩,.int .i64 x39,.slice x40 x40n x40c] fun w41=>lastN R p7 w41))))
theorem one4n {k n:Int} {t:List UInt8} {a:Option Addr} {l c:Nat}:∀ u∈([.int .i64 k,.string ⟨⟨t⟩⟩,.int .i64 n,.slice a l c]:List Value),u.oneCell'=true:=by
 intro u hu;simp only [List.mem_cons,List.not_mem_nil,or_false] at hu;rcases hu with rfl | rfl | rfl | rfl <;> rfl
theorem st4n {b7:Nat} {T':TypeId} {cs:List Value} {w:World} {k n:Int} {t:List UInt8} (B7:Blk w b7 cs T') (hl:cs.length=4)
  (h:∀ w',Chg (fun k=>k=b7) w w'→R (.returned (.agg ⟨[.int .i64 k,.string ⟨⟨t⟩⟩,.int .i64 n,.slice none 0 0]⟩)) w'):stL w ⟨b7,0,none⟩ 0 [.int .i64 k,.string ⟨⟨t⟩⟩,.int .i64 n,.slice none 0 0] fun w41=>lastN R ⟨b7,0,none⟩ w41:=by
 refine qai B7 (by simp [hl]) one4n fun w' b1 x2 x3 x4 x5 x6=>?_
 rw [Nat.add_zero,putAt4 hl rfl] at b1
 obtain ⟨y0,y1,y2,y3⟩:=blk4 b1
 exact ⟨_,y0,_,y1,_,y2,_,_,_,y3,h w' ⟨x4,x5,x6,by omega,fun j _ hj=>x2 j hj⟩⟩
theorem outN_ok {b20 b7:Nat} {T T':TypeId} {cs:List Value} {w:World} {k n:Int} {t:List UInt8} (B20:Blk w b20 [.int .i64 k,.string ⟨⟨t⟩⟩,.int .i64 n,.slice none 0 0] T) (B7:Blk w b7 cs T') (hl:cs.length=4)
  (h:∀ w',Chg (fun k=>k=b7) w w'→R (.returned (.agg ⟨[.int .i64 k,.string ⟨⟨t⟩⟩,.int .i64 n,.slice none 0 0]⟩)) w'):outN R ⟨b20,0,none⟩ ⟨b7,0,none⟩ w:=by
 obtain ⟨y0,y1,y2,y3⟩:=blk4 B20
 exact ⟨_,y0,_,y1,_,y2,_,_,_,y3,st4n B7 hl h⟩
theorem forms_all:∀ i:Nat,i < 12→formsCells[i * 4]? = some (.string ⟨⟨tagF i⟩⟩)∧formsCells[i * 4 + 1]? = some (.bool (qae i))∧formsCells[i * 4 + 2]? = some (.bool (numsF i))∧formsCells[i * 4 + 3]? = some (.bool (qaa i)):=by
 intro i hi
 match i,hi with
 | 0,_=>exact ⟨rfl,rfl,rfl,rfl⟩
 | 1,_=>exact ⟨rfl,rfl,rfl,rfl⟩
 | 2,_=>exact ⟨rfl,rfl,rfl,rfl⟩
 | 3,_=>exact ⟨rfl,rfl,rfl,rfl⟩
 | 4,_=>exact ⟨rfl,rfl,rfl,rfl⟩
 | 5,_=>exact ⟨rfl,rfl,rfl,rfl⟩
 | 6,_=>exact ⟨rfl,rfl,rfl,rfl⟩
 | 7,_=>exact ⟨rfl,rfl,rfl,rfl⟩
 | 8,_=>exact ⟨rfl,rfl,rfl,rfl⟩
 | 9,_=>exact ⟨rfl,rfl,rfl,rfl⟩
 | 10,_=>exact ⟨rfl,rfl,rfl,rfl⟩
 | 11,_=>exact ⟨rfl,rfl,rfl,rfl⟩
 | n + 12,h=>omega
theorem Forms.at {w:World} (h:Forms w) {i:Nat} (hi:i < 12) :
  (∀ K:Addr→Prop,K ⟨ql,i * 4,none⟩→idx (some ⟨ql,0,none⟩) 12 (i:Int) 4 K)∧w.cell? ((⟨ql,i * 4,none⟩:Addr).add 0)=some (.string ⟨⟨tagF i⟩⟩)∧w.cell? ((⟨ql,i * 4,none⟩:Addr).add 1)=some (.bool (qae i))∧w.cell? ((⟨ql,i * 4,none⟩:Addr).add 2)=some (.bool (numsF i))∧w.cell? ((⟨ql,i * 4,none⟩:Addr).add 3)=some (.bool (qaa i)):=by
 obtain ⟨f0,f1,f2,f3⟩:=forms_all i hi
 refine ⟨fun K hK=>⟨by omega,by omega,?_⟩,?_⟩
 ·show K _
  rw [qg,Int.toNat_natCast,Nat.zero_add];exact hK
 ·simp only [qg]
  exact ⟨h.2 _ _ f0,h.2 _ _ f1,h.2 _ _ f2,h.2 _ _ f3⟩
theorem kindN_at {nm:List UInt8} (h:qde nm=true):2≤kindN nm∧kindN nm≤11∧∀ i:Nat,i < 12→i≤kindN nm→(decide (tagF i=nm∧tagF i≠[])=decide (i=kindN nm)) :=
 qy5 (C:=fun nm=>2≤kindN nm∧kindN nm≤11∧∀ i:Nat,i < 12→i≤kindN nm→(decide (tagF i=nm∧tagF i≠[])=decide (i=kindN nm))) h (by decide +kernel)
theorem node1_spec (tg nm:List UInt8) (b1 b2 b3:Bool) (p:Addr) (hp:w.cell? (p.add 1)=some (.string ⟨⟨nm⟩⟩)) (h:∀ w',Ext w w'→R (.returned (.bool (decide (tg=nm∧tg≠[])))) w') :
  Calls prog qdz ⟨[.agg ⟨[.string ⟨⟨tg⟩⟩,.bool b1,.bool b2,.bool b3]⟩,.pointer (some p)]⟩ w R:=by
 apply qo5
 refine qh fun b6 w7 hb6 B6 e7 s7=>?_
 have y0:w7.cell? ((⟨b6,0,none⟩:Addr).add 0)=some (.string ⟨⟨tg⟩⟩):=by rw [qg,B6.cell];rfl
 refine ⟨_,y0,dr_ok ⟨_,qo hp e7,qd (fun g=>⟨_,y0,?_⟩) (fun g=>?_)⟩⟩
 ·have e:decide (tg=nm∧tg≠[])=decide (tg≠[]):=decide_eq_decide.2 ⟨fun hh=>hh.2,fun hh=>⟨g,hh⟩⟩
  rw [← e];exact h w7 e7
 ·have e:decide (tg=nm∧tg≠[])=false:=decide_eq_false fun hh=>g hh.1
  rw [← e];exact h w7 e7
theorem q25 (nm:List UInt8) (hk:qde nm=true) (hF:Forms w) (p:Addr) (hp:w.cell? (p.add 1)=some (.string ⟨⟨nm⟩⟩)) (h:∀ w',Ext w w'→R (.returned (.int .i64 (kindN nm:Int))) w') :
  Calls prog qab ⟨[.slice (some ⟨ql,0,none⟩) 12 12,.func (.func qdz) ⟨[]⟩ ⟨[.pointer (some p)]⟩]⟩ w R:=by
 apply qa7
 obtain ⟨k1,k2,k3⟩:=kindN_at hk
 refine ⟨fun t W m=>∃ k:Nat,t=k∧k≤kindN nm∧m=12 - k∧Ext w W,⟨_,0,rfl,by omega,rfl,Below.refl _ _⟩,?_⟩
 rintro _ W m ⟨k,rfl,hkk,rfl,he⟩ _
 obtain ⟨hq,f0,f1,f2,f3⟩:=(hF.ext he).at (i:=k) (by omega)
 refine qd (fun hlt=>hq _ ⟨_,f0,_,f1,_,f2,_,f3,⟨by kernel_rfl,?_⟩⟩) (fun hge=>by omega)
 refine node1_spec (tagF k) nm _ _ _ p (qo hp he) fun w14 e14=>⟨_,rfl,?_⟩
 rw [k3 k (by omega) hkk]
 refine qd (fun g=>?_) (fun g=>?_)
 ·rw [g];exact h w14 (qb he e14)
 ·exact ⟨12 - (k + 1),by omega,k + 1,by rw [qj (by omega)],by omega,rfl,qb he e14⟩
theorem num_ok {x:Tk} (h:tkOk x) (h1:x.k≠1) (h3:x.k≠3) (hn:numsF (kindN x.nm)=true) (ht:qae (kindN x.nm)=false):∃ v:Int,Lib.atoiAll x.vl=.ok v∧numOf x.vl=v:=by
 rcases h with h | ⟨_,hk,_,_,hv⟩
 ·exact absurd h.1 h1
 have hb:=qy9 (c:=x.k) h1 hk (hv h3)
 obtain ⟨b1,b2,b3,b4,b5⟩:=hb
 have e:headF ⟨x.k,x.nm,x.vl⟩=⟨kindN x.nm,[],numOf x.vl⟩:=by unfold headF;rw [if_neg h1];simp only [ht,hn,Bool.false_eq_true,if_false,if_true]
 rw [e] at b3
 rcases b3 with b3 | ⟨_,_,_,_,b3⟩
 ·rw [e] at b4;exact absurd b3.1 b4
 obtain ⟨c1,c2⟩:=b3 hn
 unfold numOf at c1 ⊢
 cases ha:Lib.atoiAll x.vl with
 | ok v=>exact ⟨v,rfl,rfl⟩
 | _=>rw [ha] at c1;exact absurd (show (1:Int)≤0 from c1) (by omega)
theorem q3v (x:Lx) (hx:tkOk (tkX x)) (h3:x.k≠3) (hl:x.vl.length≤1000000000) (hF:Forms w) (hM:Mk w)
  (h:∀ w',Ext w w'→R (.returned (.agg ⟨qa9 (headF (tkX x)) none 0 0⟩)) w'):Calls prog qfe ⟨[aggX x]⟩ w R:=by
 apply qua
 refine qh fun b5 w6 hb5 B5 e6 s6=>?_
 refine qh fun b7 w8 hb7 B7 e8 s8=>?_
 obtain ⟨c0,c1,c2,c3⟩:=blk4x (B5.ext e8)
 have E8:=qb e6 e8
 have z6:=e6.size
 refine ⟨_,c0,qd (fun g=>⟨_,c2,?_⟩) (fun g=>?_)⟩
 ·have e:headF (tkX x)=⟨1,x.vl,0⟩:=by unfold headF;rw [if_pos (show (tkX x).k=1 from g)];rfl
  rw [e] at h
  exact st4n B7 rfl fun w' hc=>h w' (qa2 E8 hc (by omega))
 have hkn:qde x.nm=true:=by
  rcases hx with hx | hx
  ·exact absurd hx.1 g
  ·exact hx.2.1
 obtain ⟨k1,k2,_⟩:=kindN_at hkn
 have hsl:∀ {K:Option Addr→Nat→Nat→Prop},K (some ⟨ql,0,none⟩) 12 12→sls (some (⟨ql,0,none⟩:Addr)) 12 0 (12:Nat) 4 K:=fun {K} hK=>q4p (m:=12) (by omega) (fun p hp=>by rw [← Option.some.inj hp];rfl) hK
 refine hsl ?_
 refine q25 x.nm hkn (hF.ext E8) ⟨b5,0,none⟩ c1 fun w18 e18=>⟨_,rfl,?_⟩
 refine qz rfl one4n fun b20 w22 hb20 B20 e22 s22=>?_
 have E22:=qb (qb E8 e18) e22
 have B5a:=((B5.ext e8).ext e18).ext e22
 have B7a:=(B7.ext e18).ext e22
 have z8:=e8.size
 have z18:=e18.size
 obtain ⟨_,_,d2,_⟩:=blk4x B5a
 obtain ⟨hq,f0,f1,f2,f3⟩:=(hF.ext E22).at (i:=kindN x.nm) (by omega)
 have hh:headF (tkX x)=⟨kindN x.nm,if qae (kindN x.nm) then x.vl else [],if qae (kindN x.nm) then 0 else if numsF (kindN x.nm) then numOf x.vl else 0⟩:=by unfold headF;rw [if_neg (show ¬ (tkX x).k=1 from g)];rfl
 rw [hh] at h
 refine qd (fun gn=>by omega) (fun _=>hq _ ⟨_,f1,qk (fun gt=>⟨_,d2,?_⟩) (fun gt=>hq _ ⟨_,f2,qk (fun gn=>⟨_,d2,?_⟩) (fun gn=>?_)⟩)⟩)
 ·simp only [gt,if_true] at h
  refine setN B20 (i:=1) (by simp) rfl fun w36 B36 c36 s36=>?_
  exact outN_ok (t:=x.vl) B36 (c36.blk B7a (by omega)) rfl fun w' hc=>h w' (qa2 (qa2 E22 c36 (by omega)) hc (by omega))
 ·simp only [gt,gn,Bool.false_eq_true,if_false,if_true] at h
  obtain ⟨v,hv,hnv⟩:=num_ok hx g h3 gn gt
  rw [show numOf x.vl=v from hnv] at h
  refine (Tryz.strconv_Atoi_ok ⟨⟨x.vl⟩⟩ (by show x.vl.length≤_;omega) v hv w22).mono ?_
  rintro e w50 ⟨rfl,hw⟩
  have he:Ext w22 w50:=by
   rcases hw with rfl | ⟨t,rfl⟩
   ·exact Below.refl _ _
   ·exact Joins.below_bytesWorld _ _ _ _ (Nat.le_refl _)
  have z50:=he.size
  refine ⟨v,.nilIface,rfl,?_⟩
  refine setN (B20.ext he) (i:=2) (by simp) rfl fun w53 B53 c53 s53=>?_
  exact outN_ok (n:=v) B53 (c53.blk (B7a.ext he) (by omega)) rfl fun w' hc=>h w' (qa2 (qa2 (qb E22 he) c53 (by omega)) hc (by omega))
 ·simp only [gt,gn,Bool.false_eq_true,if_false] at h
  exact outN_ok B20 B7a rfl fun w' hc=>h w' (qa2 E22 hc (by omega))
end
def wantT (l:List Tk):Nat:=(l.filter fun x=>decide (x.k≠3)).length
theorem qxn (l m:List Tk):wantT (l++m)=wantT l + wantT m:=by unfold wantT;rw [List.filter_append,List.length_append]
theorem q4e:∀ {g:Fo},qhl g→wantT (tksF g)=g.size
 | .nil,_=>rfl
 | .cons k t n ps r,⟨h1,h2,h3,h4⟩=>by
  rw [tksF,qxn,q4e h4,Fo.size]
  have key:wantT (if k=1 then [⟨1,[],t⟩] else if qaa k then ⟨2,tagF k,valT k t n⟩ :: (tksF ps++[⟨3,tagF k,[]⟩]) else [⟨4,tagF k,valT k t n⟩])=ps.size + 1:=by
   by_cases hk:k=1
   ·subst hk
    rw [if_pos rfl,h2 (by decide)]
    simp [wantT,Fo.size]
   ·rw [if_neg hk]
    by_cases hp:qaa k=true
    ·rw [if_pos hp]
     have e:(⟨2,tagF k,valT k t n⟩ :: (tksF ps++[⟨3,tagF k,[]⟩]):List Tk)=[⟨2,tagF k,valT k t n⟩]++(tksF ps++[⟨3,tagF k,[]⟩]):=rfl
     rw [e,qxn,qxn,q4e h3]
     simp [wantT]
     omega
    ·have hp:qaa k=false:=by simpa using hp
     rw [if_neg (by rw [hp];decide),h2 hp]
     simp [wantT,Fo.size]
  rw [key];omega
def qlc (s:List UInt8):Fo × Int :=
 if (scanF s).2≠0 then (.nil,(scanF s).2)
 else if nestX (scanF s).1≠0 then (.nil,nestX (scanF s).1)
 else if qag (treeT ((scanF s).1.map tkX))≠0 then (.nil,qag (treeT ((scanF s).1.map tkX)))
 else (treeT ((scanF s).1.map tkX),0)
section
variable {R:Ending→World→Prop} {w:World}
theorem qq7 {a:Option Addr} {g n i:Nat} (ha:a=some ⟨g,0,none⟩) (hi:i < n) {K:Addr→Prop} (hK:K ⟨g,i * 4,none⟩):idx a n (i:Int) 4 K:=by
 subst ha
 refine ⟨by omega,by omega,?_⟩
 show K _
 rw [qg,Int.toNat_natCast,Nat.zero_add];exact hK
abbrev init0:List Fr:=[⟨⟨0,[],0⟩,.nil⟩]
theorem step_ne {st:List Fr} (h:st≠[]) (x:Tk):stepP st x≠[]:=by
 cases st with
 | nil=>exact absurd rfl h
 | cons f r =>
  unfold stepP
  split
  ·simp
  ·split
   ·cases r with
    | nil=>simp
    | cons f1 r=>simp
   ·simp
theorem step_len {st:List Fr} {x:Tk} {k:Nat} (h1:st.length≤k) (h2:∀ f∈st,f.f.len≤k):(stepP st x).length≤k + 1∧∀ f∈stepP st x,f.f.len≤k + 1:=by
 have hw:∀ f∈st,f.f.len≤k + 1:=fun f hf=>by have:=h2 f hf;omega
 have hadd:∀ (f:Fr) (h:Hd) (ps:Fo),f.f.len≤k→(f.add h ps).f.len≤k + 1:=fun f h ps hf=>by unfold Fr.add;simp [Fo.one];omega
 unfold stepP
 split
 ·refine ⟨by rw [List.length_cons];omega,fun f hf=>?_⟩
  rcases List.mem_cons.1 hf with rfl | hf
  ·simp
  ·exact hw f hf
 ·split
  ·cases st with
   | nil=>exact ⟨by simp,fun f hf=>by cases hf⟩
   | cons f2 st =>
    cases st with
    | nil=>exact ⟨(show [f2].length≤k + 1 by omega),hw⟩
    | cons f1 r =>
     simp only [List.length_cons] at h1
     refine ⟨by rw [List.length_cons];omega,fun f hf=>?_⟩
     rcases List.mem_cons.1 hf with rfl | hf
     ·exact hadd _ _ _ (h2 f1 (by simp))
     ·exact hw f (by simp [hf])
  ·cases st with
   | nil=>exact ⟨by simp,fun f hf=>by cases hf⟩
   | cons f1 r =>
    simp only [List.length_cons] at h1
    refine ⟨by rw [List.length_cons];omega,fun f hf=>?_⟩
    rcases List.mem_cons.1 hf with rfl | hf
    ·exact hadd _ _ _ (h2 f1 (by simp))
    ·exact hw f (by simp [hf])
theorem st_init {B b:Nat} (hb:Blk w b (qa9 ⟨0,[],0⟩ none 0 0) 56) (hB:B≤b):StAt 56 B w (some ⟨b,0,none⟩) 1 1 init0 (fun _=>False):=by
 refine ⟨rfl,_,⟨rfl,.inr ⟨b,1,⟨qa9 ⟨0,[],0⟩ none 0 0⟩,rfl,hB,hb,Nat.le_refl _,by simp [maxLen],rfl,rfl⟩⟩,⟨none,0,fun _=>False,fun _=>False,[],rfl,OwnG.nil w,⟨rfl,fun _ h=>h⟩,fun k=>by simp,fun k h=>h.elim⟩,fun k h=>h.elim⟩
theorem st_cap {e:TypeId} {B:Nat} {a:Option Addr} {n c:Nat} {st:List Fr} {O:Nat→Prop} (h:StAt e B w a n c st O):n≤c:=by
 obtain ⟨_,xs,h1,_⟩:=h
 exact owns_le h1
theorem app_def {B:Nat} {oa:Option Addr} {on oc:Nat} {f:Fr} {r:List Fr} {O:Nat→Prop} {W:World} (hS:StAt 56 B W oa on oc (f :: r) O) (hB:B≤W.heap.size) {g:Nat} (hg:oa=some ⟨g,0,none⟩) {pa:Option Addr} {pc:Nat} (hc:W.cell? ⟨g,r.length * 4 + 3,none⟩=some (.slice pa f.f.len pc))
  {bz:Nat} (hz:Blk W bz (qa9 ⟨0,[],0⟩ none 0 0) 56) (hd:Hd) (hl:f.f.len≤1000000) {Fin:World→Prop}
  (hF:∀ w' O',StAt 56 B w' oa on oc (f.add hd .nil :: r) O'→Chg (fun k=>Sh.bk oa k∨O k) W w'→Fin w') {i:Int} (hi:i=(r.length:Int)) :
  app prog [43,43] 43 (.slice pa f.f.len pc) (.slice (some ⟨bz,0,none⟩) 1 1) W fun a1 n1 c1 w2=>idx a1 n1 (f.f.len:Int) 4 fun p5=>idx oa on i 4 fun p6 =>
   (stL w2 p5 0 (qa9 hd none 0 0) fun w7=>(stL w7 (p6.add 3) 0 [.slice a1 n1 c1] Fin)∧True) ∧
   (stL w2 (p6.add 3) 0 [.slice a1 n1 c1] fun w7=>(stL w7 p5 0 (qa9 hd none 0 0) Fin)∧True)∧True:=by
 subst hi
 have hn:on=r.length + 1:=hS.1
 refine StAt.grow qb4 hS hB hz rfl one4n (hd:=hd) (ps:=.nil) (a':=none) (c':=0) (O2:=fun _=>False) (SlF.nil none) (fun k h=>h.elim) (by omega) (by omega) hg hc fun a1 c1 w2 q hq ord=>hq _ (qq7 hg (by omega) ?_)
 obtain ⟨o1,o2,_⟩:=ord Fin fun w' O' s1 s2 s3=>hF w' O' s1 s2
 rw [qg]
 exact ⟨o1,o2,trivial⟩
theorem Parse_spec (s:List UInt8) (hF:Forms w) (hM:Mk w)
  (h:∀ a n c w',n=(qlc s).1.len→SlF (fun _=>True) w' a n (qlc s).1→Ext w w'→R (.returned (.tuple ⟨[.slice a n c,.int .i64 (qlc s).2]⟩)) w'):Calls prog qh0 ⟨[.string ⟨⟨s⟩⟩]⟩ w R:=by
 apply qro
 obtain ⟨hT,hll⟩:=scan_small s
 refine Scan_spec s hM fun a n c w3 hn hO e3=>⟨_,_,_,_,rfl,?_⟩
 have hL:=OwnL.out hO
 refine qd (fun g=>?_) (fun g=>?_)
 ·have hp:qlc s=(.nil,(scanF s).2):=by unfold qlc;rw [if_pos g]
  rw [hp] at h
  exact h none 0 0 w3 rfl (SlF.nil _) e3
 refine Nested_spec (scanF s).1 hL hT (hM.ext e3) fun w7 e7=>⟨_,rfl,?_⟩
 have E7:=qb e3 e7
 have hL7:=hL.ext e7
 refine qd (fun g1=>?_) (fun g1=>?_)
 ·have hp:qlc s=(.nil,nestX (scanF s).1):=by unfold qlc;rw [if_neg g,if_pos g1]
  rw [hp] at h
  exact h none 0 0 w7 rfl (SlF.nil _) E7
 have hne:nestX (scanF s).1=0:=Classical.not_not.1 g1
 have hp:qlc s=if qag (treeT ((scanF s).1.map tkX))≠0 then (.nil,qag (treeT ((scanF s).1.map tkX))) else (treeT ((scanF s).1.map tkX),0):=by unfold qlc;rw [if_neg g,if_neg g1]
 have hck:chkX (scanF s).1=0:=by
  unfold nestX at hne
  split at hne
  ·cases hne
  ·rename_i hc;exact Classical.not_not.1 hc
 have htk:=q53 hck
 obtain ⟨t1,t2⟩:=tree_inv hne
 obtain ⟨fr,u1,u2,u3⟩:=qyp (scanF s).1 init0 trivial htk (by
  unfold nestX at hne
  rw [if_neg (by rw [hck];simp)] at hne
  exact hne)
 have htree:treeT ((scanF s).1.map tkX)=fr.f:=by unfold treeT;rw [u1]
 have hsz:fr.f.size≤65536:=by
  rw [htree] at t1 t2
  rw [← q4e t1,t2]
  have:wantT ((scanF s).1.map tkX)≤((scanF s).1.map tkX).length:=List.length_filter_le _ _
  rw [List.length_map] at this;omega
 rw [hp,htree] at h
 generalize hLL:(scanF s).1=L at *
 refine qh fun b9 w10 hb9 B9 e10 s10=>?_
 have z10:=e10.size
 refine ⟨fun oa on oc t W m=>∃ (k:Nat) (st:List Fr) (O:Nat→Prop),t=k∧k≤n∧m=n - k∧st=((L.map tkX).take k).foldl stepP init0∧st≠[]∧st.length≤k + 1∧(∀ f∈st,f.f.len≤k + 1)∧StAt 56 w7.heap.size W oa on oc st O∧Ext w7 W,⟨_,0,init0,_,rfl,by omega,rfl,rfl,by simp,by simp,fun f hf=>by rw [List.mem_singleton.1 hf];simp,st_init B9 (by omega),e10⟩,?_⟩
 rintro oa on oc _ W m ⟨k,st,O,rfl,hk,rfl,hst,hne0,hsl,hfl,hS,he⟩ _
 have zW:=he.size
 refine qd (fun hlt=>?_) (fun hge=>?_)
 ·have hkL:k < L.length:=by omega
  obtain ⟨q,hq,c0,c1,c2,c3⟩:=get_lx (hL7.ext he) hkL
  have hx:=q4j hkL
  have htx:=htk L[k] (List.getElem_mem hkL)
  have hstep:((L.map tkX).take (k + 1)).foldl stepP init0=stepP st (tkX L[k]):=by
   rw [List.take_succ_eq_append_getElem (by rw [List.length_map];exact hkL),List.foldl_append,← hst]
   simp
  have hls:=step_len (x:=tkX L[k]) hsl hfl
  have hne':=step_ne hne0 (tkX L[k])
  have next:∀ oa' on' oc' O' v,StAt 56 w7.heap.size v oa' on' oc' (stepP st (tkX L[k])) O'→Ext w7 v→∃ m40:Nat,m40 < n - k∧∃ (k':Nat) (st:List Fr) (O:Nat→Prop),i64.wrap ((k:Int) + 1)=k'∧k'≤n∧m40=n - k'∧st=((L.map tkX).take k').foldl stepP init0∧st≠[]∧st.length≤k' + 1∧(∀ f∈st,f.f.len≤k' + 1)∧StAt 56 w7.heap.size v oa' on' oc' st O∧Ext w7 v:=by
   intro oa' on' oc' O' v h1 h2
   exact ⟨n - (k + 1),by omega,k + 1,_,O',by rw [qj (by omega)],by omega,rfl,hstep.symm,hne',hls.1,hls.2,h1,h2⟩
  refine hq _ ⟨_,c0,_,c1,_,c2,_,c3,?_⟩
  refine qz rfl one4 fun b22 w24 hb22 B22 e24 s24=>?_
  obtain ⟨d0,d1,d2,d3⟩:=blk4x (x:=L[k]) B22
  have E24:=qb he e24
  have S24:=hS.ext e24
  have EW:∀ v,Ext w24 v→Ext w v:=fun v ev=>qb E7 (qb E24 ev)
  have FW:∀ v,Ext w24 v→Forms v:=fun v ev=>hF.ext (EW v ev)
  have MW:∀ v,Ext w24 v→Mk v:=fun v ev=>hM.ext (EW v ev)
  have z24:=e24.size
  generalize hxk:L[k]=x at *
  refine ⟨_,d0,qd (fun g2=>?_) (fun g2=>qd (fun g3=>?_) (fun g3=>?_))⟩
  ·
   have hs2:stepP st (tkX x)=⟨headF (tkX x),.nil⟩ :: st:=by unfold stepP;rw [if_pos (show (tkX x).k=2 from g2)]
   rw [hs2] at next
   refine ⟨_,d0,_,d1,_,d2,_,d3,?_⟩
   refine q3v x htx (by omega) (by omega) (FW _ (Below.refl _ _)) (MW _ (Below.refl _ _)) fun w31 e31=>⟨_,_,_,_,_,_,rfl,?_⟩
   have z31:=e31.size
   have hon:on=st.length:=hS.1
   refine StAt.push qb4 (S24.ext e31) (by omega) (headF (tkX x)) (by omega) (by omega) fun a' c' w' o1 o2=>?_
   exact next _ _ _ _ _ o1 (qi (qb E24 e31) o2 fun j hj=>(hS.bk hj).1)
  ·
   cases st with
   | nil=>exact absurd rfl hne0
   | cons f2 st' =>
    cases st' with
    | nil =>
     have hon:on=1:=hS.1
     have hs2:stepP [f2] (tkX x)=[f2]:=by unfold stepP;rw [if_neg (show ¬ (tkX x).k=2 from g2),if_pos (show (tkX x).k=3 from g3)]
     rw [hs2] at next
     rw [hon,show ((1:Nat):Int) - 1=((0:Nat):Int) by omega,qs (by omega)]
     refine qd (fun hh=>absurd hh (by omega)) (fun _=>?_)
     exact next oa 1 oc O w24 (hon ▸ S24) E24
    | cons f1 r =>
     have hon:on=r.length + 2:=hS.1
     have hs2:stepP (f2 :: f1 :: r) (tkX x)=f1.add f2.h f2.f :: r:=by unfold stepP;rw [if_neg (show ¬ (tkX x).k=2 from g2),if_pos (show (tkX x).k=3 from g3)]
     rw [hs2] at next
     have hfl1:=hfl f1 (by simp)
     have hfl2:=hfl f2 (by simp)
     simp only [List.length_cons] at hsl
     have i1:i64.wrap ((on:Int) - 1)=((r.length + 1:Nat):Int):=by rw [qs (by omega)];omega
     have i2:i64.wrap (((r.length + 1:Nat):Int) - 1)=(r.length:Int):=by rw [qs (by omega)];omega
     rw [i1,i2]
     refine qd (fun _=>?_) (fun hh=>absurd (by omega) hh)
     intro K41 hK41
     have k41:∀ (b:Bool) (v:World),Ext w24 v→K41 b v:=by
      intro b v ev
      refine hK41 _ _ fun _=>?_
      have Sd:=(S24.ext ev).ext (qr v)
      have Ed:=qb (qb E24 ev) (qr v)
      have zd:=Ed.size
      have hcap:=st_cap Sd
      obtain ⟨p2,q2,O1,O',S1,hsl2,hd1,hs1,hs1',g,hg,x0,x1,x2,x3⟩:=Sd.pop
      obtain ⟨g',pa,pc,_,hg',_,_,_,_,y3,_,_⟩:=S1.top
      obtain rfl:g'=g:=by rw [hg] at hg';simpa using hg'.symm
      simp only [List.length_cons] at x0 x1 x2 x3
      have fin:∀ w' O'',StAt 56 w7.heap.size w' oa (f1 :: r).length oc (f1.add f2.h f2.f :: r) O''→Ext w7 w'→sls oa oc 0 ((r.length + 1:Nat):Int) 4 fun a60 a60n a60c=>∃ m40:Nat,m40 < n - k∧∃ (k':Nat) (st:List Fr) (O:Nat→Prop),i64.wrap ((k:Int) + 1)=k'∧k'≤n∧m40=n - k'∧st=((L.map tkX).take k').foldl stepP init0∧st≠[]∧st.length≤k' + 1∧(∀ f∈st,f.f.len≤k' + 1)∧StAt 56 w7.heap.size w' a60 a60n a60c st O∧Ext w7 w':=by
       intro w' O'' h1 h2
       refine q4p (by omega) (fun p hp=>by rw [hg] at hp;rw [← Option.some.inj hp];rfl) ?_
       exact next oa (r.length + 1) oc O'' w' h1 h2
      have ex:∀ {W' w':World},Ext w7 W'→Chg (fun k=>Sh.bk oa k∨O' k) W' w'→Ext w7 w':=fun {W' w'} h1 h2=>qi h1 h2 fun j hj=>hj.elim (fun hb=>(Sd.bk hb).1) (fun ho=>(S1.own ho).1)
      unfold drw
      cases b with
      | true =>
       rw [br_t]
       refine qq7 hg (by omega) ⟨_,_,_,by rw [qg];exact y3,qq7 hg (i:=r.length + 1) (by omega) ⟨_,by rw [qg,Nat.add_zero];exact x0,_,by rw [qg];exact x1,_,by rw [qg];exact x2,_,_,_,by rw [qg];exact x3,⟨?_,trivial⟩⟩⟩
       refine qh fun bz W' hbz Bz ez sz=>⟨?_,trivial⟩
       refine StAt.grow qb4 (S1.ext ez) (by omega) Bz rfl one4n (hd:=f2.h) (ps:=f2.f) (a':=p2) (c':=q2) (O2:=O1) (hsl2.ext ez) (fun j hj=>⟨⟨(hd1 j hj).1.1,by have:=(hd1 j hj).1.2;omega⟩,(hd1 j hj).2⟩) (by omega) (by omega) hg (by rw [← y3];exact qo y3 ez ▸ y3.symm ▸ rfl) fun a1 c1 w2 qq hqq ord=>?_
       refine qq7 hg (by omega) ⟨?_,trivial⟩
       rw [qg]
       exact (ord _ fun w' O'' s1 s2 s3=>fin w' O'' s1 (ex (qb Ed ez) s2)).2.2.1
      | false =>
       rw [br_f]
       refine qq7 hg (by omega) ⟨_,_,_,by rw [qg];exact y3,qq7 hg (i:=r.length + 1) (by omega) ⟨_,by rw [qg,Nat.add_zero];exact x0,_,by rw [qg];exact x1,_,by rw [qg];exact x2,_,_,_,by rw [qg];exact x3,⟨?_,trivial⟩⟩⟩
       refine qh fun bz W' hbz Bz ez sz=>⟨?_,trivial⟩
       refine StAt.grow qb4 (S1.ext ez) (by omega) Bz rfl one4n (hd:=f2.h) (ps:=f2.f) (a':=p2) (c':=q2) (O2:=O1) (hsl2.ext ez) (fun j hj=>⟨⟨(hd1 j hj).1.1,by have:=(hd1 j hj).1.2;omega⟩,(hd1 j hj).2⟩) (by omega) (by omega) hg (qo y3 ez) fun a1 c1 w2 qq hqq ord=>?_
       refine qq7 hg (by omega) ⟨?_,trivial⟩
       rw [qg]
       exact (ord _ fun w' O'' s1 s2 s3=>fin w' O'' s1 (ex (qb Ed ez) s2)).2.2.2 rfl
     unfold drw
     have ed:=qr w24
     refine ⟨qh fun b79 w80 hb79 B79 e80 s80=>⟨?_,?_,trivial⟩,trivial⟩
     ·refine qp B79 rfl fun w81 B81 c81 s81=>⟨qp B81 rfl fun w82 B82 c82 s82=>⟨_,by rw [B82.cell];rfl,?_⟩,trivial⟩
      exact k41 _ _ (qa2 (qa2 (qb ed e80) c81 (by have:=ed.size;omega)) c82 (by have:=ed.size;omega))
     ·refine qp B79 rfl fun w81 B81 c81 s81=>⟨qp B81 rfl fun w82 B82 c82 s82=>⟨_,by rw [B82.cell];rfl,?_⟩,trivial⟩
      exact k41 _ _ (qa2 (qa2 (qb ed e80) c81 (by have:=ed.size;omega)) c82 (by have:=ed.size;omega))
  ·
   cases st with
   | nil=>exact absurd rfl hne0
   | cons f r =>
    have hon:on=r.length + 1:=hS.1
    have hs2:stepP (f :: r) (tkX x)=f.add (headF (tkX x)) .nil :: r:=by unfold stepP;rw [if_neg (show ¬ (tkX x).k=2 from g2),if_neg (show ¬ (tkX x).k=3 from g3)]
    rw [hs2] at next
    have hfl1:=hfl f (by simp)
    simp only [List.length_cons] at hsl
    have i1:i64.wrap ((on:Int) - 1)=(r.length:Int):=by rw [qs (by omega)];omega
    rw [i1]
    unfold drw
    have ed:=qr w24
    have Sd:=S24.ext ed
    have Ed:=qb E24 ed
    have zd:=Ed.size
    obtain ⟨g,pa,pc,_,hg,_,_,_,_,y3,_,_⟩:=Sd.top
    have y3':w24.drew.cell? ((⟨g,r.length * 4,none⟩:Addr).add 3)=some (.slice pa f.f.len pc):=by rw [qg];exact y3
    have ap:∀ (W':World) (bz:Nat),Ext w24.drew W'→Blk W' bz (qa9 ⟨0,[],0⟩ none 0 0) 56→app prog [43,43] 43 (.slice pa f.f.len pc) (.slice (some ⟨bz,0,none⟩) 1 1) W' fun a1 n1 c1 w2=>idx a1 n1 (f.f.len:Int) 4 fun p5=>idx oa on (r.length:Int) 4 fun p6 =>
      (stL w2 p5 0 (qa9 (headF (tkX x)) none 0 0) fun w7'=>(stL w7' (p6.add 3) 0 [.slice a1 n1 c1] fun v=>∃ m40:Nat,m40 < n - k∧∃ (k':Nat) (st:List Fr) (O:Nat→Prop),i64.wrap ((k:Int) + 1)=k'∧k'≤n∧m40=n - k'∧st=((L.map tkX).take k').foldl stepP init0∧st≠[]∧st.length≤k' + 1∧(∀ f∈st,f.f.len≤k' + 1)∧StAt 56 w7.heap.size v oa on oc st O∧Ext w7 v)∧True) ∧
      (stL w2 (p6.add 3) 0 [.slice a1 n1 c1] fun w7'=>(stL w7' p5 0 (qa9 (headF (tkX x)) none 0 0) fun v=>∃ m40:Nat,m40 < n - k∧∃ (k':Nat) (st:List Fr) (O:Nat→Prop),i64.wrap ((k:Int) + 1)=k'∧k'≤n∧m40=n - k'∧st=((L.map tkX).take k').foldl stepP init0∧st≠[]∧st.length≤k' + 1∧(∀ f∈st,f.f.len≤k' + 1)∧StAt 56 w7.heap.size v oa on oc st O∧Ext w7 v)∧True)∧True:=by
     intro W' bz eW hz
     have zz:=eW.size
     refine app_def (Sd.ext eW) (by omega) hg (qo y3 eW) hz (headF (tkX x)) (by omega) (fun w' O' s1 s2=>?_) rfl
     exact next oa on oc O' w' s1 (qi (qb Ed eW) s2 fun j hj=>hj.elim (fun hb=>(Sd.bk hb).1) (fun ho=>(Sd.own ho).1))
    have nd:∀ (W':World),Ext w24.drew W'→∀ {K:Ending→World→Prop},(∀ v,Ext W' v→K (.returned (.agg ⟨qa9 (headF (tkX x)) none 0 0⟩)) v)→Calls prog qfe ⟨[aggX x]⟩ W' K:=fun W' eW {K} hK =>
     q3v x htx g3 (by omega) (FW _ (qb ed eW)) (MW _ (qb ed eW)) hK
    have rr:Ext w24.drew w24.drew:=Below.refl _ _
    refine qq7 hg (by omega) ⟨_,qo d0 ed,_,qo d1 ed,_,qo d2 ed,_,qo d3 ed,?_⟩
    refine ⟨⟨_,_,_,y3',?_,?_,trivial⟩,?_,?_,trivial⟩
    ·exact nd _ rr fun v ev=>⟨_,_,_,_,_,_,rfl,qh fun bz W' hbz Bz ez sz=>⟨ap W' bz (qb ev ez) Bz,trivial⟩,trivial⟩
    ·exact qh fun bz W' hbz Bz ez sz=>⟨nd _ ez fun v ev=>⟨_,_,_,_,_,_,rfl,ap v bz (qb ez ev) (Bz.ext ev),trivial⟩,trivial⟩
    ·exact nd _ rr fun v ev=>⟨_,_,_,_,_,_,rfl,_,_,_,qo y3' ev,qh fun bz W' hbz Bz ez sz=>⟨ap W' bz (qb ev ez) Bz,trivial⟩,trivial⟩
    ·exact qh fun bz W' hbz Bz ez sz=>⟨nd _ ez fun v ev=>⟨_,_,_,_,_,_,rfl,_,_,_,qo y3' (qb ez ev),ap v bz (qb ez ev) (Bz.ext ev),trivial⟩,trivial⟩
 ·have hkn:k=L.length:=by omega
  have hst':st=[fr]:=by rw [hst,hkn,List.take_of_length_le (by rw [List.length_map];exact Nat.le_refl _),u1]
  subst hst'
  have hon:on=1:=hS.1
  obtain ⟨g,pa,pc,O1,hg,_,_,_,_,y3,hG,_⟩:=hS.top
  have hi:idx oa on 0 4=idx oa on ((0:Nat):Int) 4:=rfl
  rw [hi]
  refine qq7 hg (i:=0) (by omega) ⟨_,_,_,by rw [qg];exact y3,?_⟩
  have hsl:=hG.out
  refine qdb fr.f (by unfold small;omega) hsl (hF.ext (qb E7 he)) fun w172 e172=>⟨_,rfl,qd (fun gc=>?_) (fun gc=>?_)⟩
  ·rw [if_pos gc] at h
   exact h none 0 0 w172 rfl (SlF.nil _) (qb (qb E7 he) e172)
  ·rw [if_neg gc] at h
   exact h _ _ _ w172 rfl ((hsl.ext e172).imp fun _ _ _=>trivial) (qb (qb E7 he) e172)
end
def smF:Fo:=.cons 4 [111,110,101] 0 .nil (.cons 1 [100,101] 0 .nil (.cons 8 [] 1 (.one 1 [117,115] 0 .nil) (.cons 4 [116,119,111] 0 .nil (.one 1 [101,116] 0 .nil))))
def smS:List UInt8:=[60,115,101,99,32,111,110,101,47,62,100,101,60,97,100,100,32,49,62,117,115,60,47,97,100,100,62,60,115,101,99,32,116,119,111,47,62,101,116]
def smL:List Wt:=[([65],smF)]
def scF (l:List (List UInt8)):Fo:=l.foldr (fun s f=>.cons 4 s 0 .nil f) .nil
def scL:List Wt:=[([65],scF [[111,110,101],[116,104,114,101,101]]),([66],scF [[116,119,111],[116,104,114,101,101]])]
set_option maxRecDepth 100000
theorem sm_wit:witE ([65],smF)=0:=by decide +kernel
theorem sm_srcE:srcE smL=0:=by decide +kernel
theorem sm_src:allS smL 0=[([65,42],0,0),([65,49],0,1)]:=by decide +kernel
theorem sm_sec:secs smF=[[111,110,101],[116,119,111]]:=by decide +kernel
theorem sc_ordE:ordE scL=0:=by decide +kernel
theorem sc_ord:ordR scL=[[111,110,101],[116,119,111],[116,104,114,101,101]]:=by decide +kernel
set_option maxRecDepth 100000
theorem sm_parse:(qlc smS).1.beq smF=true:=by decide +kernel
theorem sm_tokE:tokWE smL [] [111,110,101]=0:=by decide +kernel
theorem sm_tokS:tokWS smL [] [111,110,101]=[[65,42],[65,49]]:=by decide +kernel
theorem sm_tokT:(tokWT smL [] [111,110,101]).map (fun l=>l.map (·.t))=[[[100,101]],[[100,101,117,115]]]:=by decide +kernel
theorem scF_snoc (l:List Nm) (s:Nm):scF (l++[s])=(scF l).app (.one 4 s 0 .nil):=by
 induction l with
 | nil=>rfl
 | cons x l ih=>show Fo.cons 4 x 0 .nil (scF (l++[s]))=_;rw [ih];rfl
theorem scF_len (l:List Nm):(scF l).len=l.length:=by
 induction l with
 | nil=>rfl
 | cons x l ih=>show (scF l).len + 1=_;rw [ih];rfl
theorem qun {α:Type} {E:Enc α} {w:World} {b:Nat} {cs:List Value} {T:TypeId} (hb:Blk w b cs T) (l:List α) (h:E.row l=cs) {n:Nat} (hn:n=l.length):RowAt E (fun k=>k=b) w (some ⟨b,0,none⟩) n l :=
 ⟨hn,.inr ⟨b,0,rfl,rfl,hb.lt,fun j v hj=>by rw [Nat.zero_add,hb.cell,← h];exact hj⟩⟩
theorem qrc {S:Nat→Prop} {w:World} {b:Nat} {cs:List Value} {T:TypeId} (hb:Blk w b cs T) (hcs:∀ (j:Nat) (k:Int),cs[j]?≠some (Value.int .i64 k)):∀ {f:Fo} {us:List Value},FoC S w f us→(∀ {a},At S w a us→At (fun k=>S k∧k≠b) w a us)∧FoC (fun k=>S k∧k≠b) w f us
 | .nil,us,h=>⟨fun _=>.inl h,h⟩
 | .cons k t n ps r,vs,⟨a,c,us,vs',h1,h2,h3,h4⟩=>by
  refine ⟨fun {a'} hat=>?_,a,c,us,vs',h1,(qrc hb hcs h3).1 h2,(qrc hb hcs h3).2,(qrc hb hcs h4).2⟩
  rcases hat with hat | ⟨b',o,e,hS,hl,hc⟩
  ·exact .inl hat
  ·refine .inr ⟨b',o,e,⟨hS,fun hh=>?_⟩,hl,hc⟩
   subst hh
   have:=hc 0 (.int .i64 k) (by rw [h1];rfl)
   rw [hb.cell] at this
   exact hcs _ _ this
theorem slF_avoid {S:Nat→Prop} {w:World} {b:Nat} {cs:List Value} {T:TypeId} {a:Option Addr} {n:Nat} {f:Fo} (h:SlF S w a n f) (hb:Blk w b cs T) (hcs:∀ (j:Nat) (k:Int),cs[j]?≠some (Value.int .i64 k)):SlF (fun k=>S k∧k≠b) w a n f:=by
 obtain ⟨h1,us,h2,h3⟩:=h
 obtain ⟨g1,g2⟩:=qrc hb hcs h3
 exact ⟨h1,us,g1 h2,g2⟩
theorem great_size {f:Fo} (h:qjz f=false):f.size≤4100:=by
 have hl:=f.len_le_size
 unfold qjz at h
 split at h
 ·rw [Bool.or_eq_false_iff] at h
  have:=h.1;simp at this;omega
 ·rw [Bool.or_eq_false_iff] at h
  have:=h.1;simp at this;omega
theorem greats_one (x:Wt):q5m [x]=qgx x:=by
 unfold q5m;simp
section
variable {R:Ending→World→Prop} {w:World}
theorem qk5 (hF:Forms w) (hM:Mk w) (h:∀ a c w',SlF (fun _=>True) w' a smF.len smF→Ext w w'→R (.returned (.agg ⟨[.string ⟨⟨[65]⟩⟩,.slice a smF.len c]⟩)) w'):Calls prog qnz ⟨[]⟩ w R:=by
 apply q2e
 refine qh fun b1 w2 hb1 B1 e2 s2=>?_
 refine Parse_spec smS (hF.ext e2) (hM.ext e2) fun a n c w4 hn hS e4=>⟨_,_,_,_,rfl,?_⟩
 have hp:(qlc smS).1=smF:=(Fo.beq_iff _ _).1 sm_parse
 rw [hp] at hS hn
 subst hn
 have hS':=slF_avoid hS (B1.ext e4) (fun j k=>by rcases j with _ | _ | j <;> simp)
 refine qai (B1.ext e4) (by simp) one2 fun w7 q1 q2 q3 q4 q5 q6=>?_
 obtain ⟨y0,y1⟩:=blk2w (show Blk w7 b1 [.string ⟨⟨[65]⟩⟩,.slice a smF.len c] 45 from q1)
 refine ⟨_,y0,_,_,_,y1,h a c w7 ?_ ?_⟩
 ·exact (hS'.chg (T:=fun k=>k=b1) ⟨q4,q5,q6,by omega,fun k _ hk=>q2 k hk⟩ fun j hj=>hj.2).imp fun _ _ _=>trivial
 ·exact qi (qb e2 e4) (S:=fun k=>k=b1) ⟨q4,q5,q6,by omega,fun k _ hk=>q2 k hk⟩ fun k hk=>by omega
theorem qid {S:Nat→Prop} {a:Option Addr} {n c:Nat} (sg:Nm) (l:List Nm) (hl:l.length≤1000) (hR:RowAt Sh.encStr S w a n l) (h:∀ a' c' w',SlF (fun k=>w.heap.size≤k) w' a' (scF l).len (scF l)→Ext w w'→R (.returned (.agg ⟨[.string ⟨⟨sg⟩⟩,.slice a' (scF l).len c']⟩)) w') :
  Calls prog qkh ⟨[.string ⟨⟨sg⟩⟩,.slice a n c]⟩ w R:=by
 apply qwj
 have hn:=hR.1
 refine qh fun b3 w4 hb3 B3 e4 s4=>?_
 refine qz rfl one2 fun b5 w7 hb5 B5 e7 s7=>?_
 have E7:=qb e4 e7
 refine ⟨fun i W m=>∃ (k:Nat) (oa:Option Addr) (oc:Nat),i=k∧k≤n∧m=n - k∧Blk W b5 [.string ⟨⟨sg⟩⟩,.slice oa k oc] 45∧OwnF 56 (fun _=>False) w7.heap.size W oa k oc (scF (l.take k))∧Blk W b3 [.string ⟨⟨[]⟩⟩,.slice none 0 0] 45∧Ext w W∧w7.heap.size≤W.heap.size,
  ⟨_,0,none,0,rfl,by omega,rfl,B5,OwnF.nil _,B3.ext e7,E7,Nat.le_refl _⟩,?_⟩
 rintro _ W m ⟨k,oa,oc,rfl,hk,rfl,C5,hO,C3,he,hz⟩ _
 refine qd (fun hlt=>?_) (fun hge=>?_)
 ·have hkl:k < l.length:=by omega
  obtain ⟨q,hq,c0⟩:=qbr (hR.ext he) hkl
  have htk:l.take (k + 1)=l.take k++[l[k]]:=List.take_succ_eq_append_getElem hkl
  refine hq _ ⟨_,c0,_,_,_,(blk2w C5).2,?_⟩
  refine OwnF.push (P:=prog) (k:=4) (s:=l[k]) (m:=0) (a':=none) (c':=0) (ps:=.nil) qb4 hO (by omega) (SlF.nil none) (by omega) (by omega) fun a18 n18 c18 w19 ho hc=>?_
  have hn18:n18=k + 1:=by rw [ho.len,Fo.len_app,scF_len,List.length_take];simp [Fo.one];omega
  subst hn18
  have D5:=hc.blk C5 (fun hh=>by have:=hO.bk hh;omega)
  have D3:=hc.blk C3 (fun hh=>by have:=hO.bk hh;omega)
  rw [qg]
  refine qai D5 (by simp) (by intro u hu;simp only [List.mem_singleton] at hu;subst hu;rfl) fun v r1 r2 r3 r4 r5 r6=>?_
  simp only [putAt,List.set] at r1
  have hcv:Chg (· = b5) w19 v:=⟨r4,r5,r6,by omega,fun k _ hk=>r2 k hk⟩
  refine ⟨n - (k + 1),by omega,k + 1,a18,c18,by rw [qj (by omega)],by omega,rfl,r1,?_,hcv.blk D3 (by omega),?_,by have:=hc.size;omega⟩
  ·rw [htk,scF_snoc]
   exact ho.chg hcv fun j hj=>⟨fun h=>h,by omega⟩
  ·exact qi (qi he hc fun j hj=>by have:=hO.bk hj;have:=E7.size;omega) hcv fun j hj=>by omega
 ·have:k=n:=by omega
  subst this
  rw [List.take_of_length_le (by omega)] at hO
  obtain ⟨y0,y1⟩:=blk2w C5
  refine ⟨_,y0,_,_,_,y1,?_⟩
  refine qai C3 (by simp) one2 fun v r1 r2 r3 r4 r5 r6=>?_
  have hcv:Chg (· = b3) W v:=⟨r4,r5,r6,by omega,fun k _ hk=>r2 k hk⟩
  obtain ⟨z0,z1⟩:=blk2w (show Blk v b3 [.string ⟨⟨sg⟩⟩,.slice oa k oc] 45 from r1)
  refine ⟨_,z0,_,_,_,z1,?_⟩
  have hkk:k=(scF l).len:=by rw [scF_len];exact hn
  have hS:=(hO.out.chg hcv fun j hj hh=>by rcases hj with hj | hj;exact hj;omega).imp (S':=fun j=>w.heap.size≤j) fun j hj _=>by
   have:=E7.size
   rcases hj with hj | hj
   ·exact hj.elim
   ·omega
  rw [hkk] at hS ⊢
  exact h oa oc v hS (qi he hcv fun j hj=>by omega)
def fineB (x:Wt):Bool:=qgx x||decide (witE x≠0)
theorem fine_1_spec {S:Nat→Prop} {a:Option Addr} {n c:Nat} (x:Wt) (hf:SlF S w a n x.2) (h:∀ w',Ext w w'→R (.returned (.bool (fineB x))) w') :
  Calls prog qij ⟨[.agg ⟨[.string ⟨⟨x.1⟩⟩,.slice a n c]⟩]⟩ w R:=by
 apply q2f
 have hn:=hf.1
 subst hn
 refine qh fun b3 w4 hb3 B3 e4 s4=>?_
 obtain ⟨x0,x1⟩:=blk2w B3
 refine ⟨_,x0,_,_,_,x1,qh fun b7 w8 hb7 B7 e8 s8=>?_⟩
 have E8:=qb e4 e8
 refine q5n [x] (qxm B7 (hf.ext E8)) fun w10 e10=>⟨_,rfl,?_⟩
 have E10:=qb E8 e10
 rw [greats_one]
 refine qk (fun g=>?_) (fun g=>?_)
 ·have:fineB x=true:=by unfold fineB;rw [g];rfl
  rw [this] at h;exact h w10 E10
 ·have hg:qjz x.2=false:=by unfold qgx at g;rw [Bool.or_eq_false_iff] at g;exact g.1
  have hsz:=great_size hg
  obtain ⟨y0,y1⟩:=blk2w (B3.ext (qb e8 e10))
  refine ⟨_,y0,_,_,_,y1,q9j x.1 x.2 (by omega) (hf.ext E10) fun w15 e15=>⟨_,rfl,?_⟩⟩
  have:fineB x=decide (witE x≠0):=by unfold fineB;rw [g];rfl
  rw [this] at h;exact h w15 (qb E10 e15)
theorem qix {S:Nat→Prop} {a:Option Addr} {n c:Nat} (l:List Wt) (hF:Forms w) (hR:SlW S w a n l) (hn:n≤4611686018427387904) (h:∀ w',Ext w w'→R (.returned (.bool (!(l.any fineB)))) w'):Calls prog qvr ⟨[.slice a n c]⟩ w R:=by
 apply q83
 exact qn3 l fineB qij (by kernel_rfl) hF (fun x hx hF' hf' h'=>fine_1_spec x hf' h') hR hn fun w' he=>⟨_,rfl,h w' he⟩
theorem qzf {l:List Wt} (h:l.any fineB=false):∀ x∈l,OkW x:=by
 intro x hx
 have:=List.any_eq_false.1 h x hx
 unfold fineB at this
 rw [Bool.not_eq_true,Bool.or_eq_false_iff,decide_eq_false_iff_not] at this
 exact okW_of this.1 (Decidable.not_not.1 this.2)
theorem qft (hF:Forms w) (hM:Mk w) (h:∀ w',Ext w w'→R (.returned (.bool true)) w'):Calls prog qcd ⟨[]⟩ w R:=by
 apply q6n
 have hsm:small smF:=by unfold small;decide
 have hsmL:∀ x∈smL,small x.2:=fun x hx=>by rw [List.mem_singleton.1 hx];exact hsm
 refine qk5 hF hM fun a1 c1 w2 h1 e2=>⟨_,_,_,_,rfl,?_⟩
 refine qh fun b5 w6 hb5 B5 e6 s6=>?_
 have E6:=qb e2 e6
 refine qhv smL hsmL (hF.ext E6) (qxm (x:=([65],smF)) B5 (h1.ext e6)) fun xa xn xc w8 hX e8=>⟨_,_,_,_,rfl,?_⟩
 have E8:=qb E6 e8
 refine qk5 (hF.ext E8) (hM.ext E8) fun a2 c2 w12 h2 e12=>⟨_,_,_,_,rfl,?_⟩
 have E12:=qb E8 e12
 refine qek ([65],smF) hsm (hF.ext E12) h2 fun ya yn yc w16 hY e16=>⟨_,_,_,_,rfl,?_⟩
 have E16:=qb E12 e16
 refine qk5 (hF.ext E16) (hM.ext E16) fun a3 c3 w20 h3 e20=>⟨_,_,_,_,rfl,?_⟩
 have E20:=qb E16 e20
 refine qh fun b23 w24 hb23 B23 e24 s24=>?_
 have E24:=qb E20 e24
 refine qvi smL [] [111,110,101] hsmL (hF.ext E24) (qxm (x:=([65],smF)) B23 (h3.ext e24)) smallR_nil (rules_none (fun _=>True) _) fun sa sn sc ta tn tc w26 hS hT e26=>⟨_,_,_,_,_,_,_,rfl,?_⟩
 have E26:=qb E24 e26
 refine qh fun b30 w31 hb30 B30 e31 s31=>?_
 have E31:=qb E26 e31
 refine qid [65] [[111,110,101],[116,104,114,101,101]] (by decide) (qun B30 [[111,110,101],[116,104,114,101,101]] rfl rfl) fun a4 c4 w33 h4 e33=>⟨_,_,_,_,rfl,?_⟩
 have E33:=qb E31 e33
 refine qh fun b36 w37 hb36 B36 e37 s37=>?_
 have E37:=qb E33 e37
 refine qid [66] [[116,119,111],[116,104,114,101,101]] (by decide) (qun B36 [[116,119,111],[116,104,114,101,101]] rfl rfl) fun a5 c5 w39 h5 e39=>⟨_,_,_,_,rfl,?_⟩
 have E39:=qb E37 e39
 refine qh fun b42 w43 hb42 B42 e43 s43=>?_
 have E43:=qb E39 e43
 have hsc:SlW (fun _=>True) w43 (some ⟨b42,0,none⟩) 2 scL:=by
  refine ⟨rfl,_,.inr ⟨b42,0,rfl,trivial,B42.lt,fun j v hj=>by rw [Nat.zero_add,B42.cell];exact hj⟩,a4,c4,_,rfl,?_,a5,c5,[],rfl,?_,rfl⟩
  ·exact (h4.ext (qb e37 (qb e39 e43))).imp fun _ _ _=>trivial
  ·exact (h5.ext e43).imp fun _ _ _=>trivial
 have hscs:∀ x∈scL,small x.2:=fun x hx=>by
  unfold scL at hx
  simp only [List.mem_cons,List.not_mem_nil,or_false] at hx
  rcases hx with rfl | rfl <;> (unfold small;decide)
 refine qu0 scL hscs (hF.ext E43) hsc fun oa on oc w45 hO e45=>⟨_,_,_,_,rfl,?_⟩
 have E45:=qb E43 e45
 have e0:srcE smL=0:=sm_srcE
 have e1:secE ([65],smF)=0:=by unfold secE;rw [if_pos sm_wit]
 have r0:srcR smL=[([65,42],0,0),([65,49],0,1)]:=by unfold srcR;rw [if_pos e0];exact sm_src
 have r1:secR ([65],smF)=[[111,110,101],[116,119,111]]:=by unfold secR;rw [if_pos sm_wit];exact sm_sec
 have r2:tokWS smL [] [111,110,101]=[[65,42],[65,49]]:=sm_tokS
 rw [e0,e1,sm_tokE,sc_ordE]
 rw [r0] at hX
 rw [r1] at hY
 rw [r2] at hS
 rw [sc_ord] at hO
 have hT45:=hT.ext (qb e31 (qb e33 (qb e37 (qb e39 (qb e43 e45)))))
 obtain ⟨t0,t1,ht,ht0,ht1⟩:∃ t0 t1:Tok,tokWT smL [] [111,110,101]=[[t0],[t1]]∧t0.t=[100,101]∧t1.t=[100,101,117,115]:=by
  have:=sm_tokT
  revert this
  generalize tokWT smL [] [111,110,101]=z
  intro hz
  match z,hz with
  | [[t0],[t1]],hz =>
   simp only [List.map_cons,List.map_nil,List.cons.injEq,and_true] at hz
   exact ⟨t0,t1,rfl,hz.1,hz.2⟩
  | [],hz=>simp at hz
  | [_],hz=>simp at hz
  | [[],_],hz=>simp at hz
  | [_ :: _ :: _,_],hz=>simp at hz
  | [[_],[]],hz=>simp at hz
  | [[_],_ :: _ :: _],hz=>simp at hz
  | _ :: _ :: _ :: _,hz=>simp at hz
 rw [ht] at hT45
 have htn:tn=2:=hT45.1
 subst htn
 intro K48 hK48
 obtain ⟨q0,a0,c0,hq0,m0,hr0⟩:=hT45.get (i:=0) (o:=[t0]) rfl
 obtain ⟨q1,a1',c1',hq1,m1,hr1⟩:=hT45.get (i:=1) (o:=[t1]) rfl
 refine qd (fun g=>absurd rfl g) (fun _=>qd (fun g=>absurd rfl g) (fun _=>hq0 _ ⟨_,_,_,m0,qd (fun g=>absurd rfl g) (fun _=>hq1 _ ⟨_,_,_,m1,qd (fun g=>absurd rfl g) (fun _=>?_)⟩)⟩))
 refine hK48 w45 fun _=>?_
 refine qh fun b50 w51 hb50 B50 e51 s51=>?_
 have eX:Ext w8 w51:=qb e12 (qb e16 (qb e20 (qb e24 (qb e26 (qb e31 (qb e33 (qb e37 (qb e39 (qb e43 (qb e45 e51))))))))))
 have eY:Ext w16 w51:=qb e20 (qb e24 (qb e26 (qb e31 (qb e33 (qb e37 (qb e39 (qb e43 (qb e45 e51))))))))
 have eZ:Ext w26 w51:=qb e31 (qb e33 (qb e37 (qb e39 (qb e43 (qb e45 e51)))))
 have hXR:=(OwnL.out (E:=encSr) hX).ext eX
 refine q9i _ [([65,42],0,0),([65,49],0,1)] hXR (qun B50 [([65,42],0,0),([65,49],0,1)] rfl rfl) (by have:=hXR.1;simp at this;omega) fun w53 e53=>⟨_,rfl,?_⟩
 rw [decide_eq_true rfl,br_t]
 refine qh fun b55 w56 hb55 B55 e56 s56=>?_
 have e5356:=qb e53 e56
 refine qmx _ [[111,110,101],[116,119,111]] ((OwnL.out (E:=Sh.encStr) hY).ext (qb eY e5356)) (qun B55 [[111,110,101],[116,119,111]] rfl rfl) (by decide) fun w58 e58=>⟨_,rfl,?_⟩
 rw [decide_eq_true rfl,br_t]
 refine qh fun b60 w61 hb60 B60 e61 s61=>?_
 have e5361:=qb e5356 (qb e58 e61)
 refine qmx _ [[65,42],[65,49]] (hS.ext (qb eZ e5361)) (qun B60 [[65,42],[65,49]] rfl rfl) (by decide) fun w63 e63=>⟨_,rfl,?_⟩
 rw [decide_eq_true rfl,br_t]
 have e4563:Ext w45 w63:=qb e51 (qb e5361 e63)
 have hT63:=hT45.ext e4563
 obtain ⟨q0,a0,c0,hq0,m0,hr0⟩:=hT63.get (i:=0) (o:=[t0]) rfl
 obtain ⟨q1,a1',c1',hq1,m1,hr1⟩:=hT63.get (i:=1) (o:=[t1]) rfl
 obtain ⟨p0,hp0,f0,_⟩:=q4k hr0 (i:=0) (x:=t0) rfl
 obtain ⟨p1,hp1,f1,_⟩:=q4k hr1 (i:=0) (x:=t1) rfl
 refine hq0 _ ⟨_,_,_,m0,hp0 _ ⟨_,f0,qd (fun _=>?_) (fun g=>absurd ht0 g)⟩⟩
 refine hq1 _ ⟨_,_,_,m1,hp1 _ ⟨_,f1,qd (fun _=>?_) (fun g=>absurd ht1 g)⟩⟩
 refine qh fun b73 w74 hb73 B73 e74 s74=>?_
 have E63:=qb E45 e4563
 refine qmx _ [[111,110,101],[116,119,111],[116,104,114,101,101]] ((OwnL.out (E:=Sh.encStr) hO).ext (qb e4563 e74)) (qun B73 [[111,110,101],[116,119,111],[116,104,114,101,101]] rfl rfl) (by decide) fun w76 e76=>⟨_,rfl,?_⟩
 rw [decide_eq_true rfl]
 exact h w76 (qb E63 (qb e74 e76))
end
section
variable {R:Ending→World→Prop} {w:World}
theorem qvl {S:Nat→Prop} {a:Option Addr} {n c:Nat} (fn:FuncId) (hok:okFn prog fn=true)
  (hp:∀ {R:Ending→World→Prop} {v:World} (k:Int) (t:Nm) (m:Int) (a:Option Addr) (n c:Nat),(∀ v',Ext v v'→R (.returned (.bool (decide (k=4)))) v')→Calls prog fn ⟨[.agg ⟨[.int .i64 k,.string ⟨⟨t⟩⟩,.int .i64 m,.slice a n c]⟩]⟩ v R)
  (f:Fo) (hs:f.len≤1000000) (hf:SlF S w a n f) (h:∀ w',Ext w w'→R (.returned (.int .i64 (if secs f=[] then -1 else ((bodyF f).len:Int)))) w') :
  Calls prog qad ⟨[.slice a n c,.func (.func fn) #[] #[]]⟩ w R:=by
 apply qax
 have hn:=hf.1
 refine ⟨fun i W m=>∃ (p r:Fo),f=p.app r∧i=p.len∧m=r.len∧secs p=[]∧Ext w W,⟨_,.nil,f,rfl,rfl,rfl,rfl,Below.refl _ _⟩,?_⟩
 rintro _ W m ⟨p,r,hpr,rfl,rfl,hps,he⟩ _
 refine qd (fun hlt=>?_) (fun hge=>?_)
 ·obtain ⟨k,t,mm,ps,r,rfl⟩:=Fo.next hpr (by omega)
  have hsl:=Fo.sub_len hpr
  have e1:f=(p.app (.one k t mm ps)).app r:=by rw [Fo.app_one_app];exact hpr
  obtain ⟨q,a',c',hq,hSq,hql,hN⟩:=(hf.ext he).get hpr
  refine hq _ ⟨k,hN.kind,t,hN.text,mm,hN.num,a',ps.len,c',hN.parts,hok,?_⟩
  refine hp k t mm a' ps.len c' fun v ev=>⟨_,rfl,qd (fun g=>?_) (fun g=>?_)⟩
  ·subst g
   have hb:bodyF f=p:=qz5 hpr hps (.inr ⟨_,_,_,_,rfl⟩)
   have hn:secs f≠[]:=by rw [hpr,qfg,hps,secs,if_pos rfl];simp
   have:=h v (qb he ev)
   rw [if_neg hn,hb] at this;exact this
  ·refine ⟨r.len,by simp,_,r,e1,by rw [qj (by omega)];simp [Fo.one],rfl,?_,qb he ev⟩
   rw [qfg,hps];unfold Fo.one;rw [secs,if_neg g];rfl
 ·obtain ⟨rfl,rfl⟩:=Fo.last hpr (by omega)
  have:=h W he
  rw [if_pos hps] at this;exact this
theorem div1_spec (k:Int) (t:Nm) (m:Int) (a:Option Addr) (n c:Nat) (h:∀ v',Ext w v'→R (.returned (.bool (decide (k=4)))) v'):Calls prog F_law16_WitnessDivides_1 ⟨[.agg ⟨[.int .i64 k,.string ⟨⟨t⟩⟩,.int .i64 m,.slice a n c]⟩]⟩ w R:=by
 apply c_law16_WitnessDivides_1
 exact qh fun b5 w6 hb5 B5 e6 s6=>⟨_,(blk4 B5).1,h w6 e6⟩
theorem div2_spec (k:Int) (t:Nm) (m:Int) (a:Option Addr) (n c:Nat) (h:∀ v',Ext w v'→R (.returned (.bool (decide (k=4)))) v'):Calls prog F_law16_WitnessDivides_2 ⟨[.agg ⟨[.int .i64 k,.string ⟨⟨t⟩⟩,.int .i64 m,.slice a n c]⟩]⟩ w R:=by
 apply c_law16_WitnessDivides_2
 exact qh fun b5 w6 hb5 B5 e6 s6=>⟨_,(blk4 B5).1,h w6 e6⟩
theorem q8y (f:Fo):∀ l:List Nm,(catS f l).size≤l.length * (f.size + 1)
 | []=>by simp [catS,Fo.size]
 | s :: l=>by
  have h1:=q8y f l
  have h2:(bodyS f s).size≤f.size:=by
   unfold bodyS
   cases hc:cutS f s with
   | none=>simp [Fo.size]
   | some q =>
    obtain ⟨p,r⟩:=q
    obtain ⟨m,ps,h6,_⟩:=qmw hc
    have h7:=congrArg Fo.size h6
    have h8:=congrArg Fo.size (qc8 r)
    rw [Fo.size_app] at h7 h8
    have h9:(Fo.cons 4 s m ps r).size=ps.size + r.size + 1:=rfl
    show (bodyF r).size≤_
    omega
  rw [catS,Fo.size_app,Fo.size_app,List.length_cons,Nat.add_mul]
  have:(Fo.one 4 s 0 .nil).size=1:=rfl
  omega
theorem q5a {x:Wt} (hx:OkW x) {s:Nm} {hd:Int} (h0:0≤hd) (h8:hd≤8) (hs:s∈secs x.2):parE x s hd=0∧parR x s hd=bodyS (stF x.2 hd) s∧parP x s hd=posS (stF x.2 hd) s:=by
 have h1:parE x s hd=0:=by unfold parE;rw [if_neg (by rw [hx.wit];simp),if_neg (by omega),if_pos hs]
 exact ⟨h1,by unfold parR;rw [if_pos h1],by unfold parP;rw [if_pos h1]⟩
theorem WitnessDivides_spec {S:Nat→Prop} {a:Option Addr} {c:Nat} (x:Wt) (hand:Int) (hh:0≤hand∧hand < 256) (hF:Forms w) (hM:Mk w) (hf0:SlF S w a x.2.len x.2) (h:∀ w',Ext w w'→R (.returned (.bool true)) w') :
  Calls prog F_law16_WitnessDivides ⟨[.agg ⟨[.string ⟨⟨x.1⟩⟩,.slice a x.2.len c]⟩,.int .u8 hand]⟩ w R:=by
 apply c_law16_WitnessDivides
 have hf:SlF (fun k=>S k∧k < w.heap.size) w a x.2.len x.2:=hf0.imp fun k hk hl=>⟨hk,hl⟩
 have aw:∀ {v:World},Ext w v→Calls prog qcd ⟨[]⟩ v fun e w'=>∃ y:Bool,e=.returned (.bool y)∧R (.returned (.bool y)) w':=fun hv =>
  qft (hF.ext hv) (hM.ext hv) fun w3 e3=>⟨_,rfl,h w3 (qb hv e3)⟩
 obtain ⟨hw9,h90,h98⟩:=mod9 hh.1 hh.2
 unfold sh_law16_WitnessDivides
 rw [hw9]
 refine qh fun b4 w5 hb4 B4 e5 s5=>?_
 obtain ⟨x0,x1⟩:=blk2w B4
 refine ⟨by decide,_,x0,_,_,_,x1,qh fun b8 w9 hb8 B8 e9 s9=>?_⟩
 have E9:=qb e5 e9
 refine qix [x] (hF.ext E9) (qxm B8 (hf.ext E9)) (by omega) fun w11 e11=>⟨_,rfl,qk (fun g=>aw (qb E9 e11)) (fun g=>?_)⟩
 have hx:OkW x:=qzf (by simpa using g) x (List.mem_singleton.2 rfl)
 have E11:=qb E9 e11
 have e511:=qb e9 e11
 generalize hand.tmod 9=hd at *
 obtain ⟨y0,y1⟩:=blk2w (B4.ext e511)
 have hsm:=hx.fine.small
 have sR:secR x=secs x.2:=by unfold secR;rw [if_pos hx.wit]
 have sE:secE x=0:=by unfold secE;rw [if_pos hx.wit]
 refine ⟨_,y0,_,_,_,y1,qek x hsm (hF.ext E11) (hf.ext E11) fun na nn nc w19 hN e19=>⟨_,_,_,_,rfl,?_⟩⟩
 rw [sR] at hN
 rw [sE]
 have E19:=qb E11 e19
 have e519:=qb e511 e19
 refine ⟨_,_,_,(blk2w (B4.ext e519)).2,q0q x.2 hd hsm (hF.ext E19) (hf.ext E19) fun sa sn sc w24 hcap hS e24=>⟨_,_,_,_,rfl,?_⟩⟩
 rw [hx.fine.resS h90 h98] at hS
 rw [hx.fine.err h90 h98]
 have E24:=qb E19 e24
 have e524:=qb e519 e24
 have hfine:=hx.fine.st hd
 have hsec:secs (stF x.2 hd)=secs x.2:=secs_stF hx.fine.ok hd
 have hnod:=hx.nodup
 have hNR:=(OwnL.out (E:=Sh.encStr) hN).ext e24
 have hnn:=hNR.1
 have hslen:=qgd x.2
 have hxl:=x.2.len_le_size
 have hxs:=hx.fine.size
 have hfs:=hfine.size
 have hfll:=(stF x.2 hd).len_le_size
 intro K27 hK27
 refine qd (fun g=>absurd rfl g) (fun _=>qd (fun g=>absurd rfl g) (fun _=>hK27 w24 fun _=>?_))
 have z24:=E24.size
 refine ⟨fun oa on oc i W m=>∃ k:Nat,i=k∧k≤nn∧m=nn - k∧OwnF 56 (fun j=>S j∧j < w.heap.size) w24.heap.size W oa on oc (catS (stF x.2 hd) ((secs x.2).take k))∧Ext w24 W,⟨_,0,rfl,by omega,rfl,OwnF.nil _,Below.refl _ _⟩,?_⟩
 rintro oa on oc _ W m ⟨k,rfl,hk,rfl,hO,he⟩ _
 have EW:=qb E24 he
 have e5W:=qb e524 he
 have hcs:=q8y (stF x.2 hd) ((secs x.2).take k)
 have hcl:=(catS (stF x.2 hd) ((secs x.2).take k)).len_le_size
 have htl:((secs x.2).take k).length≤40:=by rw [List.length_take];omega
 have hmul:((secs x.2).take k).length * ((stF x.2 hd).size + 1)≤40 * 41:=Nat.mul_le_mul htl (by omega)
 have hon:=hO.len
 refine qd (fun hlt=>?_) (fun hge=>?_)
 ·have hkl:k < (secs x.2).length:=by omega
  obtain ⟨q,hq,c0⟩:=qbr (hNR.ext he) hkl
  have htk:(secs x.2).take (k + 1)=(secs x.2).take k++[(secs x.2)[k]]:=List.take_succ_eq_append_getElem hkl
  obtain ⟨p1,p2,p3⟩:=q5a hx h90 h98 (List.getElem_mem hkl)
  generalize (secs x.2)[k]=s at *
  refine hq _ ⟨_,c0,?_⟩
  obtain ⟨y0,y1⟩:=blk2w (B4.ext e5W)
  refine ⟨_,y0,_,_,_,y1,qfv x s hd hsm (hF.ext EW) (hf.ext EW) fun pa pn pc w40 hP e40=>⟨_,_,_,_,_,_,rfl,?_⟩⟩
  rw [p2] at hP
  rw [p1]
  have hpn:=hP.1
  have hbf:=hfine.body s
  have hbl:=hbf.size
  have hbll:=(bodyS (stF x.2 hd) s).len_le_size
  refine qz rfl qtb fun b45 w47 hb45 B45 e47 s47=>?_
  have hP47:=hP.ext e47
  intro K48 hK48
  have hsb:secs (bodyS (stF x.2 hd) s)=[]:=by
   unfold bodyS
   cases cutS (stF x.2 hd) s with
   | none=>rfl
   | some q=>exact qyc _
  refine qd (fun g=>absurd rfl g) (fun _=>?_)
  apply qap
  refine qvl F_law16_WitnessDivides_1 (by kernel_rfl) (fun k t m a n c h'=>div1_spec k t m a n c h') _ (by omega) hP47 fun w58 e58=>⟨_,rfl,?_⟩
  rw [hsb,if_pos rfl]
  refine ⟨_,rfl,qd (fun g=>absurd g (by decide)) (fun _=>hK48 w58 fun _=>?_)⟩
  have eW58:=qb e40 (qb e47 e58)
  have zW:=he.size
  have z58:=eW58.size
  have hP58:SlF (fun j=>(S j∧j < w.heap.size)∨W.heap.size≤j) w58 pa pn (bodyS (stF x.2 hd) s):=hP47.ext e58
  have hO58:=hO.ext eW58
  have hbO:∀ j,bk oa j→w24.heap.size≤j∧j < W.heap.size:=fun j hj=>hO.bk hj
  refine OwnF.push2 (P:=prog) (k:=4) (s:=s) (m:=0) (a':=none) (c':=0) (ps:=.nil) qb4 hO58 (by omega) (SlF.nil none) (by omega) (by omega) fun a52 n52 c52 w53 ho hc hn=>?_
  have hn52:=ho.len
  rw [Fo.len_app] at hn52
  have h1l:(Fo.one 4 s 0 .nil).len=1:=rfl
  have z53:=hc.size
  have hP53:SlF (fun j=>((S j∧j < w.heap.size)∨w24.heap.size≤j)∧¬ bk a52 j) w53 pa pn (bodyS (stF x.2 hd) s):=hP58.keep (fun j hj hl=>⟨⟨hj.imp id fun h=>by omega,fun hh=>(hn j hh).elim (fun h1=>by
    have:=hbO j h1
    rcases hj with hj | hj
    ·have:=hj.2;omega
    ·omega) fun h1=>by omega⟩,hc.block j hl fun hh=>by
    have:=hbO j hh
    rcases hj with hj | hj
    ·have:=hj.2;omega
    ·omega⟩) z53
  refine OwnF.pushAll (P:=prog) qb4 ho (by omega) hP53 (by omega) (by omega) fun a54 n54 c54 w55 ho2 hc2=>?_
  refine ⟨nn - (k + 1),by omega,k + 1,by rw [qj (by omega)],by omega,rfl,?_,?_⟩
  ·rw [htk,q8x,← Fo.app_assoc];exact ho2
  ·refine qi (qi (qb he eW58) hc fun j hj=>(hbO j hj).1) hc2 fun j hj=>?_
   rcases hn j hj with h1 | h1
   ·exact (hbO j h1).1
   ·omega
 ·have hkn:k=(secs x.2).length:=by omega
  have htake:(secs x.2).take k=secs x.2:=List.take_of_length_le (by omega)
  rw [htake] at hO hcs hmul htl hcl hon
  have hlaw:=qzm (stF x.2 hd) .nil (stF x.2 hd) rfl hfine.ok (by rw [hsec];exact hnod)
  rw [hsec] at hlaw
  rw [hlaw] at hO hon
  have hS':SlF (fun j=>(S j∧j < w.heap.size)∨w19.heap.size≤j) W sa sn (stF x.2 hd):=hS.ext he
  refine qvl F_law16_WitnessDivides_2 (by kernel_rfl) (fun k t m a n c h'=>div2_spec k t m a n c h') _ (by omega) hS' fun w61 e61=>⟨_,rfl,?_⟩
  have E61:=qb EW e61
  by_cases hs0:secs (stF x.2 hd)=[]
  ·rw [if_pos hs0]
   have hfr:fromS (stF x.2 hd)=.nil:=by
    rcases q33 (stF x.2 hd) with h1 | ⟨t,m,ps,r,h1⟩
    ·exact h1
    ·have:=secs_from (stF x.2 hd)
     rw [h1,hs0,secs,if_pos rfl] at this
     simp at this
   refine qd (fun _=>qd (fun _=>aw E61) (fun g=>absurd ?_ g)) (fun g=>absurd (by decide) g)
   rw [hon,hfr];rfl
  ·rw [if_neg hs0]
   refine qd (fun g=>absurd g (by omega)) (fun _=>?_)
   have hbf:=qc8 (stF x.2 hd)
   have hbl:=congrArg Fo.len hbf
   rw [Fo.len_app] at hbl
   have hsn:=hS'.1
   refine SlF.cut (hS'.ext e61) hcap (p:=bodyF (stF x.2 hd)) (g:=fromS (stF x.2 hd)) (r:=.nil) (by rw [Fo.app_nil,hbf]) rfl (by omega) fun a66 c66 h66 hc66=>?_
   refine quz _ (hO.out.ext e61) h66 (by
    have:=hcs
    rw [hlaw] at this
    unfold small
    omega) fun w68 e68=>⟨_,rfl,qd (fun _=>aw (qb E61 e68)) (fun g=>absurd rfl g)⟩
end
theorem st_later {f:Fo} {m:Nat} (hm:mostN (qm f)=m) {l:Int} (h:(m:Int)≤l):stF f l=stF f m:=by
 have h1:hle (m:Int) f:=by have:=hle_most f;rwa [hm] at this
 unfold stF
 rw [qju l m false false (qq8 h h1) h1]
section
variable {R:Ending→World→Prop} {w:World}
theorem WitnessHands_spec {S:Nat→Prop} {a:Option Addr} {c:Nat} (x:Wt) (hand:Int) (hh:0≤hand∧hand < 256) (hF:Forms w) (hM:Mk w) (hf0:SlF S w a x.2.len x.2) (h:∀ w',Ext w w'→R (.returned (.bool true)) w') :
  Calls prog F_law16_WitnessHands ⟨[.agg ⟨[.string ⟨⟨x.1⟩⟩,.slice a x.2.len c]⟩,.int .u8 hand]⟩ w R:=by
 apply c_law16_WitnessHands
 have hf:SlF (fun k=>S k∧k < w.heap.size) w a x.2.len x.2:=hf0.imp fun k hk hl=>⟨hk,hl⟩
 have aw:∀ {v:World},Ext w v→Calls prog qcd ⟨[]⟩ v fun e w'=>∃ y:Bool,e=.returned (.bool y)∧R (.returned (.bool y)) w':=fun hv =>
  qft (hF.ext hv) (hM.ext hv) fun w3 e3=>⟨_,rfl,h w3 (qb hv e3)⟩
 have hw9:i64.wrap hand=hand:=qs (by omega)
 unfold sh_law16_WitnessHands
 rw [hw9]
 refine qh fun b4 w5 hb4 B4 e5 s5=>?_
 obtain ⟨x0,x1⟩:=blk2w B4
 refine ⟨_,x0,_,_,_,x1,qh fun b8 w9 hb8 B8 e9 s9=>?_⟩
 have E9:=qb e5 e9
 refine qix [x] (hF.ext E9) (qxm B8 (hf.ext E9)) (by omega) fun w11 e11=>⟨_,rfl,qk (fun g=>aw (qb E9 e11)) (fun g=>?_)⟩
 have hx:OkW x:=qzf (by simpa using g) x (List.mem_singleton.2 rfl)
 have E11:=qb E9 e11
 have e511:=qb e9 e11
 obtain ⟨y0,y1⟩:=blk2w (B4.ext e511)
 have hsm:=hx.fine.small
 have sR:secR x=secs x.2:=by unfold secR;rw [if_pos hx.wit]
 have sE:secE x=0:=by unfold secE;rw [if_pos hx.wit]
 refine ⟨_,y0,_,_,_,y1,qek x hsm (hF.ext E11) (hf.ext E11) fun na nn nc w19 hN e19=>⟨_,_,_,_,rfl,?_⟩⟩
 rw [sR] at hN
 rw [sE]
 have E19:=qb E11 e19
 have e519:=qb e511 e19
 obtain ⟨m,hm,hm8⟩:=most_bd hx.fine.ok
 refine ⟨_,_,_,(blk2w (B4.ext e519)).2,q4c x.2 hsm (hF.ext E19) (hf.ext E19) fun w24 e24=>⟨_,_,rfl,?_⟩⟩
 rw [if_neg (by rw [hx.fine.check];simp),if_neg (by rw [hx.fine.check];simp),hm]
 have E24:=qb E19 e24
 have e524:=qb e519 e24
 have hNR:=(OwnL.out (E:=Sh.encStr) hN).ext e24
 have hnn:=hNR.1
 have hslen:=qgd x.2
 have hxl:=x.2.len_le_size
 have hxs:=hx.fine.size
 have hw1:i64.wrap (9 - (m:Int))=9 - (m:Int):=qs (by omega)
 rw [hw1]
 have t0:0≤hand.tmod (9 - (m:Int)):=Int.tmod_nonneg _ hh.1
 have t1:hand.tmod (9 - (m:Int)) < 9 - (m:Int):=Int.tmod_lt_of_pos _ (by omega)
 have hw2:i64.wrap ((m:Int) + hand.tmod (9 - (m:Int)))=(m:Int) + hand.tmod (9 - (m:Int)):=qs (by omega)
 rw [hw2]
 have hst:=st_later hm (l:=(m:Int) + hand.tmod (9 - (m:Int))) (by omega)
 have hl0:0≤(m:Int) + hand.tmod (9 - (m:Int)):=by omega
 have hl8:(m:Int) + hand.tmod (9 - (m:Int))≤8:=by omega
 generalize (m:Int) + hand.tmod (9 - (m:Int))=later at *
 have hfine:=hx.fine.st m
 have hcl:=hx.fine.clean m
 intro K27 hK27
 refine qd (fun g=>absurd rfl g) (fun _=>qd (fun g=>absurd rfl g) (fun _=>qd (fun g=>absurd g (by omega)) (fun _=>qd (fun g=>absurd g (by omega)) (fun _=>hK27 w24 fun _=>?_))))
 refine ⟨by omega,fun i W mm=>∃ k:Nat,i=k∧k≤nn∧mm=nn - k∧Ext w24 W,⟨_,0,rfl,by omega,rfl,Below.refl _ _⟩,?_⟩
 rintro _ W mm ⟨k,rfl,hk,rfl,he⟩ _
 have EW:=qb E24 he
 have e5W:=qb e524 he
 obtain ⟨y0,y1⟩:=blk2w (B4.ext e5W)
 refine qd (fun hlt=>?_) (fun hge=>?_)
 ·have hkl:k < (secs x.2).length:=by omega
  obtain ⟨q,hq,c0⟩:=qbr (hNR.ext he) hkl
  obtain ⟨p1,p2,p3⟩:=q5a hx (hd:=(m:Int)) (by omega) (by omega) (List.getElem_mem hkl)
  obtain ⟨r1,r2,r3⟩:=q5a hx hl0 hl8 (List.getElem_mem hkl)
  rw [hst] at r2 r3
  generalize (secs x.2)[k]=s at *
  refine hq _ ⟨_,c0,?_⟩
  refine ⟨_,y0,_,_,_,y1,qfv x s m hsm (hF.ext EW) (hf.ext EW) fun pa pn pc w39 hP e39=>⟨_,_,_,_,_,_,rfl,?_⟩⟩
  rw [p2] at hP
  rw [p1,p3]
  refine qz rfl qtb fun b44 w46 hb44 B44 e46 s46=>?_
  have e3946:=qb e39 e46
  have E46:=qb EW e3946
  obtain ⟨z0,z1⟩:=blk2w (B4.ext (qb e5W e3946))
  refine ⟨_,z0,_,_,_,z1,qfv x s later hsm (hF.ext E46) (hf.ext E46) fun qa qn qc w50 hQ e50=>⟨_,_,_,_,_,_,rfl,?_⟩⟩
  rw [r2] at hQ
  rw [r1,r3]
  refine qz rfl qtb fun b55 w57 hb55 B55 e57 s57=>?_
  have e5057:=qb e50 e57
  have E57:=qb E46 e5057
  have C44:=B44.ext e5057
  intro K58 hK58
  have hbf:=hfine.body s
  refine qd (fun g=>absurd rfl g) (fun _=>qd (fun g=>absurd rfl g) (fun _=>?_))
  refine ⟨_,(blk2w C44).1,_,(blk2w C44).2,_,(blk2w B55).1,_,(blk2w B55).2,qk (fun g=>?_) (fun _=>?_)⟩
  ·simp at g
  refine quz _ ((hP.ext e46).ext e5057) (hQ.ext e57) hbf.small fun w70 e70=>⟨_,rfl,?_⟩
  rw [decide_eq_true rfl]
  refine qk (fun g=>by cases g) (fun _=>hK58 w70 fun _=>?_)
  have E70:=qb E57 e70
  refine Clean_spec _ hbf.small (hF.ext E70) ((hQ.ext e57).ext e70) fun w61 e61=>⟨_,_,rfl,?_⟩
  rw [if_neg (by rw [hbf.check];simp),if_neg (by rw [hbf.check];simp),(qzq _).1 (clean_body hcl s)]
  refine qd (fun g=>absurd rfl g) (fun _=>qk (fun g=>by cases g) (fun _=>?_))
  exact ⟨nn - (k + 1),by omega,k + 1,by rw [qj (by omega)],by omega,rfl,qb he (qb e3946 (qb e5057 (qb e70 e61)))⟩
 ·refine ⟨_,y0,_,_,_,y1,qfv x _ m hsm (hF.ext EW) (hf.ext EW) fun pa pn pc w75 hP e75=>⟨_,_,_,_,_,_,rfl,?_⟩⟩
  refine qz rfl qtb fun b80 w82 hb80 B80 e82 s82=>?_
  have hne:([110,111,32,115,117,99,104,32,115,101,99,116,105,111,110]:Nm)∉secs x.2:=fun hmem=>by
   have:=qml hx.fine.ok _ hmem
   revert this;decide
  have hp6:parE x [110,111,32,115,117,99,104,32,115,101,99,116,105,111,110] m=6:=by
   unfold parE;rw [if_neg (by rw [hx.wit];simp),if_neg (by omega),if_neg hne]
  rw [hp6]
  exact qd (fun _=>aw (qb EW (qb e75 e82))) (fun g=>absurd rfl g)
end
end Go.Proofs
