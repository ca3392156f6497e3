/- The contracts of the functions that the law reaches, one after the other, and at the end the law's card. -/
import Derived.Test.YtncjonkmhfdabaaGreatDoorLawC
import Derived.Lib.AppendZerosOnto
import Derived.Laws.IdiomStrings
set_option linter.all false
set_option maxRecDepth 100000
namespace Go.Proofs
open Go Go.Sh Go.RowKit Go.Proofs.Tryz IntKind
abbrev Core:=List UInt8 × Int × Int × Int
abbrev Pc:=List UInt8 × Nat
def okT (s:List UInt8):Prop:=s≠[]∧s.length≤64
def Kol.spkT (x:Kol) (f t s:Nat):List (Tok × Nat):=(List.range' f (t - f)).filterMap fun k=>(x.tk k s).map fun u=>(u,k)
def Kol.spk (x:Kol) (f t s:Nat):List Pc:=(x.spkT f t s).map fun p=>(p.1.t,p.2)
def coreP (u d:Int) (p:Pc):Core:=(p.1,(p.2:Int),u,d)
def asmK (x:Kol) (Q:Nat→Int × List Pc) (s n:Nat):Nat→Nat→List (Nat × Nat)→List Core
 | nx,_,[]=>(x.spk nx n s).map (coreP (-1) (-1))
 | nx,k,p :: r=>(x.spk nx p.1 s).map (coreP (-1) (-1))++((Q k).2.map (coreP k (Q k).1)++asmK x Q s n p.2 (k + 1) r)
structure PartOk (p:Nat × Nat) (q:Int × List Pc):Prop where
 d:-1≤q.1
 asc:q.2.Pairwise (fun a b=>a.2≤b.2)
 ok:∀ y∈q.2,p.1≤y.2∧y.2 < p.2∧okT y.1
def qbq:Nat→List (Nat × Nat)→Nat→Int
 | _,[],_=>-1
 | k,p :: r,c=>if p.1≤c∧c < p.2 then (k:Int) else qbq (k + 1) r c
theorem q6b {n:Nat}:∀ {U:List (Nat × Nat)} {k b c:Nat},AscU n b U→c < b→qbq k U c=-1
 | [],_,_,_,_,_=>rfl
 | p :: r,k,b,c,⟨h1,h2,h3,h4⟩,h=>by rw [qbq,if_neg (by omega),q6b h4 (by omega)]
theorem qtc:∀ (U:List (Nat × Nat)) (k c:Nat),qbq k U c=-1∨((k:Int)≤qbq k U c∧qbq k U c < k + U.length)
 | [],_,_=>.inl rfl
 | p :: r,k,c=>by
  rw [qbq]
  split
  ·exact .inr ⟨Int.le_refl _,by simp;omega⟩
  ·rcases qtc r (k + 1) c with h | h
   ·exact .inl h
   ·exact .inr ⟨by omega,by simp;omega⟩
theorem qz8:∀ {U:List (Nat × Nat)} {k c:Nat},qbq k U c=-1→¬ inU U c
 | [],_,_,_,⟨_,hq,_⟩=>by cases hq
 | p :: r,k,c,h,⟨q,hq,h1⟩=>by
  rw [qbq] at h
  split at h
  ·omega
  ·rename_i g
   rcases List.mem_cons.1 hq with rfl | hq
   ·exact g h1
   ·exact qz8 h ⟨q,hq,h1⟩
theorem q3h {x:Kol} {f t s:Nat} {p:Pc} (h:p∈x.spk f t s):f≤p.2∧p.2 < t∧∃ u,x.tk p.2 s=some u∧p.1=u.t:=by
 unfold Kol.spk Kol.spkT at h
 obtain ⟨q,hq,rfl⟩:=List.mem_map.1 h
 obtain ⟨k,hk,h2⟩:=List.mem_filterMap.1 hq
 obtain ⟨u,hu,rfl⟩:=Option.map_eq_some_iff.1 h2
 rw [List.mem_range'_1] at hk
 exact ⟨hk.1,by show k < t;omega,u,hu,rfl⟩
theorem spk_asc (x:Kol) (f t s:Nat):(x.spk f t s).Pairwise (fun a b=>a.2≤b.2):=by
 unfold Kol.spk Kol.spkT
 rw [List.pairwise_map,List.pairwise_filterMap]
 refine (List.pairwise_le_range' (step:=1)).imp fun {a b} hab=>?_
 intro p hp q hq
 obtain ⟨_,_,rfl⟩:=Option.map_eq_some_iff.1 hp
 obtain ⟨_,_,rfl⟩:=Option.map_eq_some_iff.1 hq
 exact hab
theorem tok_okT {t:Tok} (h:tokE t=0):okT t.t:=by
 have ht:textB t=true:=by
  cases hb:textB t with
  | true=>rfl
  | false =>
   unfold tokE at h
   rw [hb] at h
   split at h
   ·omega
   ·split at h
    ·omega
    ·rw [if_pos rfl] at h;omega
 have wd:∀ {s:List UInt8},qm s=true→okT s:=fun {s} hs=>by
  unfold qm at hs
  refine ⟨fun e=>by rw [e] at hs;simp at hs,?_⟩
  simp at hs
  omega
 unfold textB at ht
 split at ht
 ·rw [Bool.and_eq_true] at ht
  obtain ⟨i,hi,h2⟩:=List.any_eq_true.1 ht.1
  have:=List.mem_range.1 hi
  rw [← of_decide_eq_true h2]
  refine ⟨fun e=>(by unfold gapT at e;cases e),?_⟩
  have hc:∀ i:Nat,i < 64→(gapT ((i:Int) + 1)).length≤64:=by decide +kernel
  exact hc i this
 ·split at ht
  ·rw [Bool.and_eq_true] at ht
   match hm:t.t with
   | []=>rw [hm] at ht;cases ht.1
   | [c]=>exact ⟨by simp,by simp⟩
   | _ :: _ :: _=>rw [hm] at ht;cases ht.1
  ·rw [Bool.and_eq_true] at ht
   exact wd ht.1
section
variable {x:Kol} (V:Vk x)
include V
theorem Vk.spk_ok {f t s:Nat} (ht:t≤x.col.length) (hs:s < x.sig.length):PartOk (f,t) (-1,x.spk f t s):=by
 refine ⟨Int.le_refl _,spk_asc x f t s,fun p hp=>?_⟩
 obtain ⟨h1,h2,u,hu,h3⟩:=q3h hp
 refine ⟨h1,h2,?_⟩
 rw [h3]
 exact tok_okT (V.te _ (V.tok_mem hs) _ (V.tk_mem (by omega) hs hu))
end
structure BaseOk (n:Nat) (F:Nat→Int) (L:List Core):Prop where
 each:∀ y∈L,okT y.1∧∃ c:Nat,y.2.1=c∧c < n∧F c=y.2.2.1∧-1≤y.2.2.2∧(y.2.2.1 < 0→y.2.2.2=-1)
 pair:L.Pairwise fun a b=>a.2.1≤b.2.1∧(0≤b.2.2.1→b.2.2.1=a.2.2.1→b.2.2.2=a.2.2.2)
theorem q4o {n:Nat} {F:Nat→Int} {p:Nat × Nat} {u d:Int} {l:List Pc} (h:PartOk p (d,l)) (hp:p.2≤n) (hF:∀ c,p.1≤c→c < p.2→F c=u) (hu:u < 0→d=-1):BaseOk n F (l.map (coreP u d)):=by
 refine ⟨fun y hy=>?_,?_⟩
 ·obtain ⟨q,hq,rfl⟩:=List.mem_map.1 hy
  obtain ⟨h1,h2,h3⟩:=h.ok q hq
  exact ⟨h3,q.2,rfl,by omega,hF _ h1 h2,h.d,hu⟩
 ·rw [List.pairwise_map]
  exact h.asc.imp fun {a b} hab=>⟨by show (a.2:Int)≤b.2;omega,fun _ _=>rfl⟩
theorem BaseOk.app {n:Nat} {F:Nat→Int} {A B:List Core} {m:Nat} (hA:BaseOk n F A) (hB:BaseOk n F B) (h1:∀ y∈A,y.2.1 < m) (h2:∀ y∈B,(m:Int)≤y.2.1) (h3:∀ a∈A,∀ b∈B,0≤b.2.2.1→b.2.2.1≠a.2.2.1):BaseOk n F (A++B):=by
 refine ⟨fun y hy=>(List.mem_append.1 hy).elim (hA.each y) (hB.each y),List.pairwise_append.2 ⟨hA.pair,hB.pair,fun a ha b hb=>⟨?_,fun h e=>absurd e (h3 a ha b hb h)⟩⟩⟩
 have:=h1 a ha
 have:=h2 b hb
 omega
theorem BaseOk.congr {n:Nat} {F G:Nat→Int} {A:List Core} (h:BaseOk n F A) (hFG:∀ y∈A,∀ c:Nat,y.2.1=c→F c=G c):BaseOk n G A :=
 ⟨fun y hy=>by
  obtain ⟨h1,c,h2,h3,h4,h5⟩:=h.each y hy
  exact ⟨h1,c,h2,h3,by rw [← hFG y hy c h2];exact h4,h5⟩,h.pair⟩
section
variable {x:Kol} (V:Vk x) {Q:Nat→Int × List Pc} {s:Nat} (hs:s < x.sig.length)
include V hs
theorem asm_ok:∀ {U:List (Nat × Nat)} {nx k:Nat},AscU x.col.length nx U→(∀ j,(h:j < U.length)→PartOk U[j] (Q (k + j))) →
  BaseOk x.col.length (qbq k U) (asmK x Q s x.col.length nx k U)∧(∀ y∈asmK x Q s x.col.length nx k U,(nx:Int)≤y.2.1)∧(∀ y∈asmK x Q s x.col.length nx k U,y.2.2.1=-1∨(k:Int)≤y.2.2.1)
 | [],nx,k,_,_=>by
  rw [asmK]
  refine ⟨q4o (p:=(nx,x.col.length)) (V.spk_ok (Nat.le_refl _) hs) (Nat.le_refl _) (fun _ _ _=>rfl) (fun _=>rfl),fun y hy=>?_,fun y hy=>?_⟩
  ·obtain ⟨q,hq,rfl⟩:=List.mem_map.1 hy
   have:=(q3h hq).1
   show (nx:Int)≤q.2
   omega
  ·obtain ⟨q,hq,rfl⟩:=List.mem_map.1 hy
   exact .inl rfl
 | p :: r,nx,k,⟨h1,h2,h3,h4⟩,hQ=>by
  obtain ⟨i1,i2,i3⟩:=asm_ok (U:=r) (nx:=p.2) (k:=k + 1) (h4.mono (by omega)) fun j hj=>by
   have:=hQ (j + 1) (by simpa using hj)
   rwa [show k + (j + 1)=k + 1 + j by omega] at this
  have hq0:=hQ 0 (by simp)
  rw [List.getElem_cons_zero,Nat.add_zero] at hq0
  rw [asmK]
  have bA:BaseOk x.col.length (qbq k (p :: r)) ((x.spk nx p.1 s).map (coreP (-1) (-1))):=q4o (p:=(nx,p.1)) (V.spk_ok (by omega) hs) (by show p.1≤_;omega) (fun c hc1 hc2=>by
   have hc2:c < p.1:=hc2
   rw [qbq,if_neg (by omega),q6b h4 (by omega)]) (fun _=>rfl)
  have bB:BaseOk x.col.length (qbq k (p :: r)) ((Q k).2.map (coreP k (Q k).1)):=q4o (p:=p) hq0 h3 (fun c hc1 hc2=>by rw [qbq,if_pos ⟨hc1,hc2⟩]) (fun h=>by omega)
  have bC:BaseOk x.col.length (qbq k (p :: r)) (asmK x Q s x.col.length p.2 (k + 1) r):=i1.congr fun y hy c hc=>by
   have:=i2 y hy
   rw [qbq,if_neg (by omega)]
  have mA:∀ y∈(x.spk nx p.1 s).map (coreP (-1) (-1)),y.2.1 < p.1∧(nx:Int)≤y.2.1∧y.2.2.1=-1:=fun y hy=>by
   obtain ⟨q,hq,rfl⟩:=List.mem_map.1 hy
   have:=q3h hq
   exact ⟨by show (q.2:Int) < p.1;omega,by show (nx:Int)≤q.2;omega,rfl⟩
  have mB:∀ y∈(Q k).2.map (coreP k (Q k).1),y.2.1 < p.2∧(p.1:Int)≤y.2.1∧y.2.2.1=k:=fun y hy=>by
   obtain ⟨q,hq,rfl⟩:=List.mem_map.1 hy
   have:=hq0.ok q hq
   exact ⟨by show (q.2:Int) < p.2;omega,by show (p.1:Int)≤q.2;omega,rfl⟩
  have bBC:BaseOk x.col.length (qbq k (p :: r)) ((Q k).2.map (coreP k (Q k).1)++asmK x Q s x.col.length p.2 (k + 1) r):=bB.app (m:=p.2) bC (fun y hy=>(mB y hy).1) i2 fun a ha b hb hb0=>by
   have:=(mB a ha).2.2
   have:=i3 b hb
   omega
  refine ⟨bA.app (m:=p.1) bBC (fun y hy=>(mA y hy).1) (fun y hy=>?_) (fun a ha b hb hb0=>?_),fun y hy=>?_,fun y hy=>?_⟩
  ·rcases List.mem_append.1 hy with hy | hy
   ·exact (mB y hy).2.1
   ·have:=i2 y hy;omega
  ·have:=(mA a ha).2.2;omega
  ·rcases List.mem_append.1 hy with hy | hy
   ·exact (mA y hy).2.1
   ·rcases List.mem_append.1 hy with hy | hy
    ·have:=(mB y hy).2.1;omega
    ·have:=i2 y hy;omega
  ·rcases List.mem_append.1 hy with hy | hy
   ·exact .inl (mA y hy).2.2
   ·rcases List.mem_append.1 hy with hy | hy
    ·have:=(mB y hy).2.2;omega
    ·have:=i3 y hy;omega
end
theorem asm_none {x:Kol} {Q:Nat→Int × List Pc} {s n:Nat}:∀ {U:List (Nat × Nat)} {nx k:Nat} {y:Core},y∈asmK x Q s n nx k U→y.2.2.1 < 0→∃ c:Nat,y.2.1=c∧x.cell c s=some y.1:=by
 have sp:∀ {f t:Nat} {y:Core},y∈(x.spk f t s).map (coreP (-1) (-1))→∃ c:Nat,y.2.1=c∧x.cell c s=some y.1:=fun {f t y} hy=>by
  obtain ⟨q,hq,rfl⟩:=List.mem_map.1 hy
  obtain ⟨_,_,u,h1,h2⟩:=q3h hq
  refine ⟨q.2,rfl,?_⟩
  unfold Kol.cell
  rw [h1,Option.map_some,← h2];rfl
 intro U
 induction U with
 | nil=>intro nx k y hy _;exact sp hy
 | cons p r ih =>
  intro nx k y hy hu
  rw [asmK] at hy
  rcases List.mem_append.1 hy with hy | hy
  ·exact sp hy
  ·rcases List.mem_append.1 hy with hy | hy
   ·obtain ⟨q,_,rfl⟩:=List.mem_map.1 hy
    exact absurd hu (by show ¬ ((k:Int) < 0);omega)
   ·exact ih hy hu
def colB (c:Nat) (y:Core):Bool:=decide (y.2.1=(c:Int))
theorem spk_col {x:Kol} {f t s c:Nat} {w:List UInt8} (hc:x.cell c s=some w):((x.spk f t s).map (coreP (-1) (-1))).filter (colB c)=if f≤c∧c < t then [(w,(c:Int),-1,-1)] else []:=by
 obtain ⟨u,hu,hw⟩:=Option.map_eq_some_iff.1 (show (x.tk c s).map (·.t)=some w from hc)
 have key:∀ (m f:Nat),(((List.range' f m).filterMap fun k=>(x.tk k s).map fun u=>(u,k)).map (fun p:Tok × Nat=>((p.1.t,p.2):Pc)) |>.map (coreP (-1) (-1))).filter (colB c)=if f≤c∧c < f + m then [(w,(c:Int),-1,-1)] else []:=by
  intro m
  induction m with
  | zero=>intro f;rw [if_neg (by omega)];rfl
  | succ m ih =>
   intro f
   rw [List.range'_succ,List.filterMap_cons]
   by_cases e:f=c
   ·subst e
    rw [hu]
    simp only [Option.map_some,List.map_cons]
    rw [List.filter_cons,if_pos (by unfold colB coreP;simp),ih,if_neg (by omega),if_pos (by omega),← hw]
    rfl
   ·cases hk:x.tk f s with
    | none =>
     simp only [Option.map_none]
     rw [ih]
     by_cases g:f + 1≤c∧c < f + 1 + m
     ·rw [if_pos g,if_pos (by omega)]
     ·rw [if_neg g,if_neg (by omega)]
    | some v =>
     simp only [Option.map_some,List.map_cons]
     rw [List.filter_cons,if_neg (by unfold colB coreP;simp;omega),ih]
     by_cases g:f + 1≤c∧c < f + 1 + m
     ·rw [if_pos g,if_pos (by omega)]
     ·rw [if_neg g,if_neg (by omega)]
 unfold Kol.spk Kol.spkT
 rw [key]
 by_cases g:f≤c∧c < t
 ·rw [if_pos g,if_pos (by omega)]
 ·rw [if_neg g,if_neg (by omega)]
theorem asm_col {x:Kol} {Q:Nat→Int × List Pc} {s n c:Nat} {w:List UInt8} (hc:x.cell c s=some w) (hn:c < n):∀ {U:List (Nat × Nat)} {nx k:Nat},AscU n nx U→(∀ j,(h:j < U.length)→PartOk U[j] (Q (k + j)))→¬ inU U c →
  (asmK x Q s n nx k U).filter (colB c)=if nx≤c then [(w,(c:Int),-1,-1)] else []
 | [],nx,k,_,_,_=>by
  rw [asmK,spk_col hc]
  by_cases g:nx≤c
  ·rw [if_pos ⟨g,hn⟩,if_pos g]
  ·rw [if_neg (fun q=>g q.1),if_neg g]
 | p :: r,nx,k,⟨h1,h2,h3,h4⟩,hQ,hno=>by
  have ih:=asm_col hc hn (U:=r) (nx:=p.2) (k:=k + 1) (h4.mono (by omega)) (fun j hj=>by
   have:=hQ (j + 1) (by simpa using hj)
   rwa [show k + (j + 1)=k + 1 + j by omega] at this) fun ⟨q,hq,h⟩=>hno ⟨q,List.mem_cons_of_mem _ hq,h⟩
  have hq0:=hQ 0 (by simp)
  rw [List.getElem_cons_zero,Nat.add_zero] at hq0
  have hnp:¬ (p.1≤c∧c < p.2):=fun h=>hno ⟨p,List.mem_cons_self,h⟩
  have hmid:((Q k).2.map (coreP k (Q k).1)).filter (colB c)=[]:=by
   rw [List.filter_eq_nil_iff]
   intro y hy
   obtain ⟨q,hq,rfl⟩:=List.mem_map.1 hy
   have:=hq0.ok q hq
   unfold colB coreP
   simp
   omega
  rw [asmK,List.filter_append,List.filter_append,spk_col hc,hmid,ih,List.nil_append]
  by_cases g:nx≤c
  ·rw [if_pos g]
   by_cases g2:c < p.1
   ·rw [if_pos ⟨g,g2⟩,if_neg (by omega)];rfl
   ·rw [if_neg (fun q=>g2 q.2),if_pos (by omega)];rfl
  ·rw [if_neg g,if_neg (fun q=>g q.1),if_neg (by omega)];rfl
def ofU (L:List Core) (u:Int):List (List UInt8):=(L.filter fun y=>decide (y.2.2.1=u)).map (·.1)
def Unt.rd (l:List Unt) (k:Nat):List Rdg:=(l.getD k ((0,0),[])).2
def rdI (R:List Rdg) (W:List (List UInt8)):Int:=ixF (fun r=>decide (r.1=W)) R
def srcK (m:Nat) (l:List Unt) (L:List Core) (u:Int):List Int :=
 if u < 0 then (List.range m).map (fun i:Nat=>(i:Int)) else if rdI (Unt.rd l u.toNat) (ofU L u) < 0 then [] else ((Unt.rd l u.toNat).getD (rdI (Unt.rd l u.toNat) (ofU L u)).toNat ([],[])).2
theorem qmr {α:Type} {q:α→Bool} {l:List α} (h:¬ ixF q l < 0):∃ k,∃ hk:k < l.length,ixF q l=k∧q l[k]=true:=by
 unfold ixF at h ⊢
 split at h
 ·rename_i g
  have hlt:List.findIdx q l < l.length:=List.findIdx_lt_length.2 (by simpa using g)
  exact ⟨_,hlt,by rw [if_pos g],List.findIdx_getElem (w:=hlt)⟩
 ·omega
theorem q0p {n:Nat}:∀ {U:List (Nat × Nat)} {b:Nat},AscU n b U→∀ p∈U,p.1 < p.2∧p.2≤n
 | [],_,_,p,h=>by cases h
 | q :: r,b,⟨h1,h2,h3,h4⟩,p,h=>by
  rcases List.mem_cons.1 h with rfl | h
  ·exact ⟨h2,h3⟩
  ·exact q0p h4 p h
theorem qz9:∀ {U:List (Nat × Nat)} {k c:Nat},0≤qbq k U c→∃ j,∃ hj:j < U.length,qbq k U c=((k + j:Nat):Int)∧U[j].1≤c∧c < U[j].2
 | [],k,c,h=>by rw [qbq] at h;omega
 | p :: r,k,c,h=>by
  rw [qbq] at h ⊢
  split at h
  ·rename_i g
   exact ⟨0,by simp,by rw [if_pos g];rfl,g⟩
  ·rename_i g
   obtain ⟨j,hj,h1,h2⟩:=qz9 h
   exact ⟨j + 1,by simpa using hj,by rw [if_neg g,h1];congr 1;omega,h2⟩
section
variable {x:Kol} (V:Vk x) {Q:Nat→Int × List Pc} {lead:Nat} (hl:lead < x.sig.length)
include V hl
theorem qfl (x:Kol):AscU x.col.length 0 x.runs:=q5q _ _ _ _
omit V hl in
theorem q4f {c:Nat} (hc:c < x.col.length) (h:¬ inU x.runs c):x.com c=true:=by
 cases g:x.com c with
 | true=>rfl
 | false=>exact absurd (q5r x.com x.col.length (x.col.length + 1) 0 (by omega) c (by omega) hc g) h
theorem src_text (hQ:∀ j,(h:j < x.runs.length)→PartOk x.runs[j] (Q j)) {y:Core} (hy:y∈asmK x Q lead x.col.length 0 0 x.runs) {s:Nat} (hs:s < x.sig.length)
  (h:(s:Int)∈srcK x.sig.length x.units (asmK x Q lead x.col.length 0 0 x.runs) y.2.2.1):y.1∈(x.tok.getD s []).map (·.t):=by
 have hb:=(asm_ok V hl (Q:=Q) (qfl V hl x) fun j hj=>by rw [Nat.zero_add];exact hQ j hj).1
 obtain ⟨_,c,hc1,hc2,hc3,_,_⟩:=hb.each y hy
 unfold srcK at h
 by_cases g:y.2.2.1 < 0
 ·obtain ⟨c',hc',hcell⟩:=asm_none hy g
  have:c'=c:=by omega
  subst this
  have hcom:=q4f hc2 (qz8 (U:=x.runs) (k:=0) (by rcases qtc x.runs 0 c' with q | q <;> omega))
  refine V.cell_mem hc2 hs (t:=y.1) ?_
  rw [(qfq hcom hs).1,← (qfq hcom hl).1];exact hcell
 ·rw [if_neg g] at h
  split at h
  ·cases h
  ·rename_i g2
   obtain ⟨k,hk,hk1,hk2⟩:=qmr g2
   unfold rdI at h
   rw [hk1,Int.toNat_natCast,gD_at hk] at h
   have hw:=of_decide_eq_true hk2
   obtain ⟨j,hj,hj1,hj2⟩:=qz9 (U:=x.runs) (k:=0) (c:=c) (by omega)
   rw [Nat.zero_add] at hj1
   have hu:y.2.2.1.toNat=j:=by omega
   have hrd:Unt.rd x.units y.2.2.1.toNat=x.rds x.runs[j].1 x.runs[j].2 x.sig.length:=by
    unfold Unt.rd Kol.units
    rw [hu,gD_at (by simpa using hj),List.getElem_map]
   have hmem:=List.getElem_mem hk
   generalize (Unt.rd x.units y.2.2.1.toNat)[k]=r at *
   rw [hrd] at hmem
   obtain ⟨_,h2⟩:=q2m x _ _ _ r hmem
   obtain ⟨i,hi,he,hr⟩:=h2 _ h
   have:i=s:=by omega
   subst this
   have hin:y.1∈ofU (asmK x Q lead x.col.length 0 0 x.runs) y.2.2.1:=List.mem_map_of_mem (List.mem_filter.2 ⟨hy,decide_eq_true rfl⟩)
   rw [← hw,← hr] at hin
   obtain ⟨c3,h3,h4,h5⟩:=read_mem hin
   have:=q0p (qfl V hl x) _ (List.getElem_mem hj)
   exact V.cell_mem (by omega) hs h5
theorem all_text (h0:x.runs=[]) {s:Nat} (hs:s < x.sig.length):(x.tok.getD s []).map (·.t)=(asmK x Q lead x.col.length 0 0 x.runs).map (·.1):=by
 rw [← V.all_com (fun k hk=>q4f hk (by rw [h0];rintro ⟨_,hq,_⟩;cases hq)) hs lead hl,h0,asmK]
 unfold Kol.spk Kol.spkT
 rw [List.map_map,List.map_map,List.map_filterMap,Nat.sub_zero,List.range_eq_range']
 refine q4a fun k _=>?_
 unfold Kol.cell
 cases x.tk k lead <;> rfl
end
theorem bat {w:World} {b:Nat} {cs:List Value} {T:TypeId} (h:Blk w b cs T) {i:Nat} {v:Value} (hv:cs[i]? = some v):w.cell? ((⟨b,0,none⟩:Addr).add i)=some v:=by
 rw [qe,Nat.zero_add,h.cell,hv]
def fC (m:Nat) (f:Nat→Value):List Value:=(List.range m).map f
theorem q9j (m:Nat) (f:Nat→Value):(fC m f).length=m:=by simp [fC]
theorem fC_get {m:Nat} {f:Nat→Value} {j:Nat} (h:j < m):(fC m f)[j]? = some (f j):=by
 unfold fC
 rw [List.getElem?_map,List.getElem?_range h];rfl
theorem fC_set {m:Nat} {f:Nat→Value} {j:Nat} {v:Value}:(fC m f).set j v=fC m (fun i=>if i=j then v else f i):=by
 refine List.ext_getElem? fun i=>?_
 rw [List.getElem?_set,q9j]
 by_cases hi:i < m
 ·rw [fC_get hi,fC_get hi]
  by_cases e:j=i
  ·subst e;simp [hi]
  ·rw [if_neg e,if_neg (fun q=>e q.symm)]
 ·rw [List.getElem?_eq_none (by rw [q9j];omega),List.getElem?_eq_none (by rw [q9j];omega)]
  by_cases e:j=i
  ·rw [if_pos e,if_neg (by omega)]
  ·rw [if_neg e]
theorem qfp {m:Nat} {f g:Nat→Value} (h:∀ j,j < m→f j=g j):fC m f=fC m g:=by
 unfold fC
 exact List.map_congr_left fun j hj=>h j (List.mem_range.1 hj)
theorem q9i (n:Nat) (v:Value):(List.replicate n [v]).flatten=fC n (fun _=>v):=by
 unfold fC
 rw [List.map_const',List.length_range]
 induction n with
 | zero=>rfl
 | succ n ih=>rw [List.replicate_succ,List.replicate_succ,List.flatten_cons,ih];rfl
theorem q8w {w:World} {b m:Nat} {f:Nat→Value} {T:TypeId} {j:Nat} {v:Value} {K:World→Prop} (h:Blk w b (fC m f) T) (hj:j < m) (hv:v.oneCell'=true)
  (hk:∀ w',Blk w' b (fC m fun i=>if i=j then v else f i) T→Chg (fun k=>k=b) w w'→w'.heap.size=w.heap.size→K w'):stL w ⟨b,j,none⟩ 0 [v] K:=by
 refine qa7 h (by rw [q9j];simp;omega) (by simpa using hv) fun w' h1 h2 h3 h4 h5 h6=>hk w' ?_ ⟨h4,h5,h6,by omega,fun k _ hk=>h2 k hk⟩ h3
 rw [← fC_set];exact h1
abbrev Slv:=Option Addr × Nat × Nat
def slC (s:Slv):Value:=.slice s.1 s.2.1 s.2.2
structure RowsG {α:Type} (E:Enc α) (e:TypeId) (B:Nat) (w:World) (m:Nat) (r:Nat→Slv) (F:Nat→List α):Prop where
 own:∀ j,j < m→OwnL E w B e (r j).1 (r j).2.1 (r j).2.2 (F j)
 dj:∀ i j,i < m→j < m→i≠j→∀ k,bk (r i).1 k→¬ bk (r j).1 k
section
variable {α:Type} {E:Enc α} {e:TypeId} {B:Nat} {w w':World} {m:Nat} {r:Nat→Slv} {F:Nat→List α}
theorem RowsG.chg {T:Nat→Prop} (h:RowsG E e B w m r F) (hc:Chg T w w') (hT:∀ j,j < m→∀ k,bk (r j).1 k→¬ T k):RowsG E e B w' m r F :=
 ⟨fun j hj=>Owns.chg (h.own j hj) hc (hT j hj),h.dj⟩
theorem RowsG.ext (h:RowsG E e B w m r F) (hc:Ext w w'):RowsG E e B w' m r F:=⟨fun j hj=>Owns.ext (h.own j hj) hc,h.dj⟩
theorem RowsG.bk (h:RowsG E e B w m r F) {j k:Nat} (hj:j < m) (hk:Sh.bk (r j).1 k):B≤k∧k < w.heap.size:=Owns.bk (h.own j hj) hk
theorem RowsG.nil (w:World) (m:Nat):RowsG E e B w m (fun _=>(none,0,0)) (fun _=>[]):=⟨fun j _=>Owns.nil _ _ _ _,fun i j _ _ _ k hk=>by simp [Sh.bk] at hk⟩
theorem RowsG.row (h:RowsG E e B w m r F) {j:Nat} (hj:j < m):RowAt E (Sh.bk (r j).1) w (r j).1 (r j).2.1 (F j):=OwnL.out (h.own j hj)
theorem RowsG.len (h:RowsG E e B w m r F) {j:Nat} (hj:j < m):(F j).length=(r j).2.1:=OwnL.length (h.own j hj)
theorem RowsG.cap (h:RowsG E e B w m r F) {j:Nat} (hj:j < m):(r j).2.1≤(r j).2.2:=((qs2 (S:=fun _=>True)).2 (h.own j hj)).cap
theorem RowsG.put {j:Nat} {a:Option Addr} {n c:Nat} {l:List α} (h:RowsG E e B w m r F) (hj:j < m) (hO:OwnL E w' B e a n c l) (hc:Chg (Sh.bk (r j).1) w w') (ha:∀ k,Sh.bk a k→Sh.bk (r j).1 k∨w.heap.size≤k) :
  RowsG E e B w' m (fun i=>if i=j then (a,n,c) else r i) (fun i=>if i=j then l else F i):=by
 refine ⟨fun i hi=>?_,fun i i' hi hi' hne k hk=>?_⟩
 ·by_cases e:i=j
  ·simp only [if_pos e];exact hO
  ·simp only [if_neg e]
   exact Owns.chg (h.own i hi) hc fun k hk=>h.dj i j hi hj e k hk
 ·by_cases e:i=j
  ·by_cases e':i'=j
   ·exact absurd (e.trans e'.symm) hne
   ·simp only [if_pos e] at hk
    simp only [if_neg e']
    intro hk'
    rcases ha k hk with h1 | h1
    ·exact h.dj i' j hi' hj e' k hk' h1
    ·have:=(h.bk hi' hk').2;omega
  ·simp only [if_neg e] at hk
   by_cases e':i'=j
   ·simp only [if_pos e']
    intro hk'
    rcases ha k hk' with h1 | h1
    ·exact h.dj i j hi hj e k hk h1
    ·have:=(h.bk hi hk).2;omega
   ·simp only [if_neg e']
    exact h.dj i i' hi hi' hne k hk
theorem RowsG.congr {F':Nat→List α} (h:RowsG E e B w m r F) (hF:∀ j,j < m→F j=F' j):RowsG E e B w m r F':=⟨fun j hj=>by rw [← hF j hj];exact h.own j hj,h.dj⟩
theorem RowsG.out {b:Nat} {T:TypeId} {S:Nat→Prop} (h:RowsG E e B w m r F) (hb:Blk w b (fC m fun j=>slC (r j)) T) (hS:∀ k,(k=b∨B≤k)→k < w.heap.size→S k) :
  RowV (View.sl (View.enc E)) S w (some ⟨b,0,none⟩) m ((List.range m).map F):=by
 have hA:∀ k,k≤m→AllV (View.sl (View.enc E)) S w ((List.range k).map F) (fC k fun j=>slC (r j)):=by
  intro k
  induction k with
  | zero=>exact fun _=>rfl
  | succ k ih =>
   intro hk
   have hkm:k < m:=by omega
   unfold fC
   rw [List.range_succ,List.map_append,List.map_append]
   refine (ih (by omega)).app (AllV.single ⟨(r k).1,(r k).2.2,?_,?_,?_⟩)
   ·show [slC (r k)]=_
    rw [h.len hkm];rfl
   ·rw [h.len hkm];exact h.cap hkm
   ·rw [h.len hkm]
    exact rowV_enc.2 ((h.row hkm).imp fun q hq hl=>hS q (.inr (h.bk hkm hq).1) hl)
 exact ⟨by simp,_,.inr ⟨b,0,rfl,hS b (.inl rfl) hb.lt,hb.lt,fun j v hj=>by rw [Nat.zero_add,hb.cell];exact hj⟩,hA m (Nat.le_refl _)⟩
end
theorem idx_b {b n j sz:Nat} {K:Addr→Prop} (h:j < n) (hK:K ⟨b,j * sz,none⟩):idx (some ⟨b,0,none⟩) n (j:Int) sz K :=
 ⟨by omega,by omega,by show K _;rw [qe,Int.toNat_natCast,Nat.zero_add];exact hK⟩
theorem qg6 {b n j:Nat} {K:Addr→Prop} (h:j < n) (hK:K ⟨b,j,none⟩):idx (some ⟨b,0,none⟩) n (j:Int) 1 K:=idx_b h (by rw [Nat.mul_one];exact hK)
theorem q7i {α:Type} {E:Enc α} {w:World} {b:Nat} {l:List α} {T:TypeId} (h:Blk w b (E.row l) T):RowAt E (fun k=>k=b) w (some ⟨b,0,none⟩) l.length l :=
 ⟨rfl,.inr ⟨b,0,rfl,rfl,h.lt,fun j v hj=>by rw [Nat.zero_add,h.cell];exact hj⟩⟩
theorem qk {w:World} {b:Nat} {v:Value} {vs:List Value} {T:TypeId} (h:Blk w b (v :: vs) T):w.cell? ⟨b,0,none⟩=some v:=by rw [h.cell];rfl
section
variable {w:World}
theorem q81 {b n:Nat} {l:List Int} {T:TypeId} (h:Blk w b (Sh.encI.row l) T) (hn:n=l.length):RowV vI (fun _=>True) w (some ⟨b,0,none⟩) n l:=by
 subst hn
 exact rowV_enc.2 ((q7i (E:=Sh.encI) h).imp fun _ _ _=>trivial)
theorem rowIs_b {b n:Nat} {l:List (List Int)} {vs:List Value} {T:TypeId} (h:Blk w b vs T) (hn:n=l.length) (ha:AllV vIs (fun _=>True) w l vs):RowV vIs (fun _=>True) w (some ⟨b,0,none⟩) n l :=
 ⟨hn,vs,.inr ⟨b,0,rfl,trivial,h.lt,fun j v hj=>by rw [Nat.zero_add,h.cell];exact hj⟩,ha⟩
end
section
attribute [local irreducible] World.shape?
theorem conv_to1 {w:World} {b:Nat} {j:TypeInfo} (hj:Tryz.prog.info? 160=some j) (hjs:j.size=2) (hsh:w.shape? b=some (263,6)) :
  (convert 157 241 (.pointer (some ⟨b,1,none⟩))).run prog w=.ok (.pointer (some ⟨b,1,none⟩)) w:=by
 simp [convert,run_underlying Tryz.underlying157,run_underlying Tryz.underlying241]
 conv=>lhs;whnf
 simp [qyx,qyw,hsh,cellsIn,sizeOf,typeInfo,hj,hjs]
theorem conv_from1 {w:World} {b:Nat} {j:TypeInfo} (hj:Tryz.prog.info? 160=some j) (hsh:w.shape? b=some (263,6)) :
  (convert 241 157 (.pointer (some ⟨b,1,none⟩))).run prog w=.ok (.pointer (some ⟨b,1,none⟩)) w:=by
 have hl:liesAt prog Tryz.prog.depth 263 (6 / Tryz.prog.cellsOf 263) 1 160 1=true:=by kernel_rfl
 simp [convert,run_underlying Tryz.underlying157,run_underlying Tryz.underlying241]
 conv=>lhs;whnf
 simp [qyx,qyw,hsh,sizeOf,typeInfo,hj,variablesAt,hl]
end
theorem q0g (b:Nat) (w:World) (h0:w.cell? ⟨b,1,none⟩=some (.pointer (some ⟨b,1,none⟩))) :
  Calls prog 129 #[.pointer (some ⟨b,1,none⟩)] w fun e w'=>e=.returned (.tuple #[])∧w'=w:=by
 obtain ⟨j,hj,_⟩:=Option.map_eq_some_iff.1 (show (Tryz.prog.info? 160).map (·.size)=some 2 by kernel_rfl)
 go_enter Tryz.func129,Tryz.ntmps129
 go_wp2
 rw [Lib.run_neq_ptr_same w _ Tryz.underlying157 hj]
 go_wp2
 go_end0
 exact ⟨rfl,rfl⟩
theorem qx4 (b:Nat) (w:World) (h0:w.cell? ⟨b,1,none⟩=some (.pointer none)) (hsh:w.shape? b=some (263,6)) (hfz:w.frozen? ⟨b,1,none⟩=false) :
  Calls prog 129 #[.pointer (some ⟨b,1,none⟩)] w fun e w'=>e=.returned (.tuple #[])∧w'=w.setCell ⟨b,1,none⟩ (.pointer (some ⟨b,1,none⟩)):=by
 obtain ⟨j,hj,hjs⟩:=Option.map_eq_some_iff.1 (show (Tryz.prog.info? 160).map (·.size)=some 2 by kernel_rfl)
 go_enter Tryz.func129,Tryz.ntmps129
 go_wp2
 rw [conv_to1 hj hjs hsh]
 simp only [Result.andThen]
 rw [Oper.upon_value]
 go_wp2
 rw [run_callFunc_extern Tryz.func177 (by kernel_rfl) (by kernel_rfl) (by kernel_rfl) (e:=Extern.AbiNoEscape.same) (by kernel_rfl)]
 rw [Lib.run_noEscape]
 simp only [Result.andThen]
 rw [Oper.upon_value]
 go_wp2
 rw [conv_from1 hj hsh]
 simp only [Result.andThen]
 rw [Oper.upon_value]
 go_wp2
 go_end0
 exact ⟨rfl,rfl⟩
theorem freeze_chg (w:World) (g:Nat) (n:Nat):Chg (fun k=>k=g) w (w.freeze ⟨g,0,none⟩ n):=by
 unfold World.freeze
 split
 ·exact Chg.refl _ _
 ·exact ⟨rfl,rfl,rfl,by simp,fun k _ hk=>by simp only [Array.getElem?_modify];rw [if_neg (fun e=>hk e.symm)]⟩
set_option maxHeartbeats 1000000 in
theorem q6m (b g cap:Nat) (cur:Array Value) (l:List UInt8) (w:World) (h0:l≠[]) (h1:w.cell? ⟨b,2,none⟩=some (.slice (some ⟨g,0,none⟩) l.length cap)) (hg:w.heap[g]? = some (.cells cur 5 (0,0)))
  (hnc:l.length≤cap) (hcm:cap≤maxLen) (hcs:cur.size=cap) (htake:cur.toList.take l.length=Lib.byteCells l) :
  Calls prog 89 #[.pointer (some ⟨b,1,none⟩)] w fun e w'=>e=.returned (.string ⟨l.toArray⟩)∧Chg (fun k=>k=g) w w':=by
 have hl0:l.length≠0:=by simpa using h0
 have c1:w.drew.cell? ⟨b,2,none⟩=some (.slice (some ⟨g,0,none⟩) l.length cap):=h1
 have hSD:(Builtin.unsafeSliceData_ #[158] 199 #[.slice (some ⟨g,0,none⟩) l.length cap]).run prog w.drew=.ok (.pointer (some ⟨g,0,none⟩)) w.drew :=
  Lib.run_unsafeSliceData_row _ _ _ _ _ _ (by omega)
 have hUS:(Builtin.unsafeString_ #[199,3] 9 #[.pointer (some ⟨g,0,none⟩),.int .i64 l.length]).run prog w.drew=.ok (.string ⟨l.toArray⟩) (w.drew.freeze ⟨g,0,none⟩ l.length):=by
  refine Lib.run_unsafeString_row w.drew 199 3 9 5 Tryz.underlying199 (by kernel_rfl) g cur.size (by have hg':w.drew.heap[g]? = some (.cells cur 5 (0,0)):=hg;simp [World.shape?,hg']) l h0 (by omega) (by unfold maxLen at hcm;omega) ?_
  intro j x hx
  have hj:j < l.length:=(List.getElem?_eq_some_iff.1 hx).1
  have hc:w.drew.cell? ⟨g,j,none⟩=cur[j]?:=by
   have hg':w.drew.heap[g]? = some (.cells cur 5 (0,0)):=hg
   simp [World.cell?,hg']
  rw [qe,Nat.zero_add,hc]
  have:(cur.toList.take l.length)[j]? = some (.int .u8 x.toNat):=by rw [htake];simp [Lib.byteCells,hx]
  rw [List.getElem?_take,if_pos hj] at this
  simpa using this
 have mixed:Tryz.prog.follows .mixedOrders=true:=by kernel_rfl
 go_enter Tryz.func89,Tryz.ntmps89
 go_wp2
 go_region_o
 all_goals (go_wp2;go_ret;exact ⟨rfl,(Chg.drew w).trans (freeze_chg w.drew g _)⟩)
abbrev qrc (oa:Option Addr) (on oc:Nat) (p:Value) (wa:Option Addr) (wl wc:Nat) (op j v:Bool):List Value:=[.slice oa on oc,p,.slice wa wl wc,.bool op,.bool j,.bool v]
structure BsAt (w:World) (b:Nat) (oa wa:Option Addr) (l:List Tok) (s:List UInt8) (op j v:Bool) (p:Value) (oc wc:Nat):Prop where
 blk:Blk w b (qrc oa l.length oc p wa s.length wc op j v) 263
 p:p=.pointer none∨p=.pointer (some ⟨b,1,none⟩)
 out:OwnL encTk w (b + 1) 117 oa l.length oc l
 word:Owns w (b + 1) 5 1 wa s.length wc (Lib.byteCells s)
section
variable {w w':World} {b:Nat} {oa wa:Option Addr} {l:List Tok} {s:List UInt8} {op j v:Bool} {p:Value} {oc wc:Nat} {R:Ending→World→Prop}
theorem BsAt.apart (h:BsAt w b oa wa l s op j v p oc wc):∀ k,bk oa k→¬ bk wa k:=by
 intro k h1 h2
 rcases h.out.2 with ho | ⟨g,cap,cur,e1,e2,e3,_⟩
 ·simp at ho;rw [ho.1.1] at h1;simp [bk] at h1
 rcases h.word.2 with hw | ⟨g',cap',cur',f1,f2,f3,_⟩
 ·simp at hw;rw [hw.1.1] at h2;simp [bk] at h2
 have q1:oa=some ⟨g,0,none⟩:=by simpa using (Value.slice.inj e1).1
 have q2:wa=some ⟨g',0,none⟩:=by simpa using (Value.slice.inj f1).1
 rw [q1] at h1
 rw [q2] at h2
 simp [bk] at h1 h2
 subst h1
 subst h2
 rw [e3] at f3
 simp at f3
theorem BsAt.bkO (h:BsAt w b oa wa l s op j v p oc wc) {k:Nat} (hk:bk oa k):b < k∧k < w.heap.size:=by have:=h.out.bk hk;omega
theorem BsAt.bkW (h:BsAt w b oa wa l s op j v p oc wc) {k:Nat} (hk:bk wa k):b < k∧k < w.heap.size:=by have:=h.word.bk hk;omega
theorem BsAt.lt (h:BsAt w b oa wa l s op j v p oc wc):b < w.heap.size:=h.blk.lt
theorem BsAt.chg {S:Nat→Prop} (h:BsAt w b oa wa l s op j v p oc wc) (hc:Chg S w w') (h1:¬ S b) (h2:∀ k,bk oa k→¬ S k) (h3:∀ k,bk wa k→¬ S k):BsAt w' b oa wa l s op j v p oc wc :=
 ⟨hc.blk h.blk h1,h.p,h.out.chg hc h2,h.word.chg hc h3⟩
theorem BsAt.ext (h:BsAt w b oa wa l s op j v p oc wc) (hc:Ext w w'):BsAt w' b oa wa l s op j v p oc wc :=
 h.chg (S:=fun _=>False) (.of_ext hc) (fun h=>h) (fun _ _ h=>h) (fun _ _ h=>h)
theorem BsAt.cells (h:BsAt w b oa wa l s op j v p oc wc):w.cell? ((⟨b,0,none⟩:Addr).add 0)=some (.slice oa l.length oc)∧w.cell? ((⟨b,0,none⟩:Addr).add 3)=some (.bool op)∧w.cell? ((⟨b,0,none⟩:Addr).add 4)=some (.bool j)∧w.cell? ((⟨b,0,none⟩:Addr).add 5)=some (.bool v):=by
 simp only [qe,h.blk.cell];exact ⟨rfl,rfl,rfl,rfl⟩
theorem qc4 {w:World} {b i:Nat} {T:TypeId} {cs:List Value} {u:Value} (hb:Blk w b cs T) (hi:i < cs.length) (hu:u.oneCell'=true) {K:World→Prop}
  (h:∀ w',Blk w' b (cs.set i u) T→Chg (fun k=>k=b) w w'→w'.heap.size=w.heap.size→K w'):stL w ((⟨b,0,none⟩:Addr).add i) 0 [u] K:=by
 rw [qe]
 refine qa7 hb (by simp;omega) (by intro x hx;rw [List.mem_singleton.1 hx];exact hu) fun w' b1 x2 x3 x4 x5 x6=>?_
 have e:putAt cs (0 + i + 0) [u]=cs.set i u:=by rw [Nat.zero_add,Nat.add_zero];rfl
 rw [e] at b1
 exact h w' b1 ⟨x4,x5,x6,by omega,fun j _ hj=>x2 j hj⟩ x3
theorem BsAt.setOp (h:BsAt w b oa wa l s op j v p oc wc) (op':Bool) {K:World→Prop} (hk:∀ w',BsAt w' b oa wa l s op' j v p oc wc→Chg (fun k=>k=b) w w'→w'.heap.size=w.heap.size→K w'):stL w ((⟨b,0,none⟩:Addr).add 3) 0 [.bool op'] K :=
 qc4 h.blk (by simp) rfl fun w' b1 hc hs=>hk w' ⟨b1,h.p,h.out.chg hc fun k hk hh=>by have:=h.bkO hk;omega,h.word.chg hc fun k hk hh=>by have:=h.bkW hk;omega⟩ hc hs
theorem BsAt.setJ (h:BsAt w b oa wa l s op j v p oc wc) (j':Bool) {K:World→Prop} (hk:∀ w',BsAt w' b oa wa l s op j' v p oc wc→Chg (fun k=>k=b) w w'→w'.heap.size=w.heap.size→K w'):stL w ((⟨b,0,none⟩:Addr).add 4) 0 [.bool j'] K :=
 qc4 h.blk (by simp) rfl fun w' b1 hc hs=>hk w' ⟨b1,h.p,h.out.chg hc fun k hk hh=>by have:=h.bkO hk;omega,h.word.chg hc fun k hk hh=>by have:=h.bkW hk;omega⟩ hc hs
theorem BsAt.setV (h:BsAt w b oa wa l s op j v p oc wc) (v':Bool) {K:World→Prop} (hk:∀ w',BsAt w' b oa wa l s op j v' p oc wc→Chg (fun k=>k=b) w w'→w'.heap.size=w.heap.size→K w'):stL w ((⟨b,0,none⟩:Addr).add 5) 0 [.bool v'] K :=
 qc4 h.blk (by simp) rfl fun w' b1 hc hs=>hk w' ⟨b1,h.p,h.out.chg hc fun k hk hh=>by have:=h.bkO hk;omega,h.word.chg hc fun k hk hh=>by have:=h.bkW hk;omega⟩ hc hs
theorem slT_tok:SlT prog 112 117 6 80 (.agg #[.string ⟨#[]⟩,.string ⟨#[]⟩,.string ⟨#[]⟩,.int .i64 0,.int .i64 0,.string ⟨#[]⟩]):=⟨by kernel_rfl,by kernel_rfl,rfl,by decide⟩
theorem qnt (h:BsAt w b oa wa l s op j v p oc wc) (c:UInt8) (hlen:s.length≤1000000000)
  (hk:∀ wa' wc' w',BsAt w' b oa wa' l (s++[c]) op j v (.pointer (some ⟨b,1,none⟩)) oc wc'→Chg (fun k=>k=b∨bk wa k) w w'→(∀ k,bk wa' k→bk wa k∨w.heap.size≤k)→R (.returned .nilIface) w') :
  Calls prog qcx ⟨[.pointer (some ⟨b,1,none⟩),.int .u8 (c.toNat:Int)]⟩ w R:=by
 apply qg9
 have hbl:=h.lt
 have main:∀ w1,BsAt w1 b oa wa l s op j v (.pointer (some ⟨b,1,none⟩)) oc wc→Chg (· = b) w w1→w1.heap.size=w.heap.size →
   (dr (some ⟨b,1,none⟩) fun p5 =>
 ∃ (x6:Option Addr) (x6n:Nat) (x6c:Nat),World.cell? w1 (p5.add 1)=some (.slice x6 x6n x6c)∧(al w1 5 [.int .u8 (c.toNat:Int)] fun p7 w8 =>
 app prog [158,158] 158 (.slice x6 x6n x6c) (.slice (some p7) 1 1) w8 fun a9 a9n a9c w10 =>
 dr (some ⟨b,1,none⟩) fun p11 =>
 stL w10 (p11.add 1) 0 [.slice a9 a9n a9c] fun w12 =>
 R (.returned (.nilIface)) w12)):=by
  intro w1 q1 q3 q4
  refine dr_ok ⟨wa,s.length,wc,by rw [qe,q1.blk.cell];rfl,?_⟩
  refine qy4 q8y q1.word (by have:=q1.lt;omega) [.int .u8 (c.toNat:Int)] rfl (by intro u hu;rw [List.mem_singleton.1 hu];rfl) (by omega) (by omega) fun a' c'' w2 ho hc hn=>dr_ok ?_
  have q5:=hc.blk q1.blk (fun hh=>by have:=q1.bkW hh;omega)
  have e:s.length + 1=(s++[c]).length:=by simp
  have eb:Lib.byteCells (s++[c])=Lib.byteCells s++[.int .u8 (c.toNat:Int)]:=by simp [Lib.byteCells]
  have q6:=q1.out.chg hc fun k hk hh=>q1.apart k hk hh
  rw [qe]
  refine qa7 q5 (by simp) (by simp [Value.oneCell']) fun w3 r1 r2 r3 r4 r5 r6=>?_
  have hw23:Chg (· = b) w2 w3:=⟨r4,r5,r6,by omega,fun k _ hk=>r2 k hk⟩
  have hnb':∀ k,bk a' k→¬ k=b:=fun k hk he=>by have:=(ho.bk hk).1;omega
  refine hk a' c'' w3 ⟨?_,.inr rfl,q6.chg hw23 fun k hk he=>by have:=q1.bkO hk;omega,?_⟩ ?_ (fun k hk=>(hn k hk).imp id (by omega))
  ·rw [← e];exact r1
  ·rw [← e,eb];exact ho.chg hw23 hnb'
  ·exact ((q3.mono fun k _ h=>.inl h).trans (hc.mono fun k _ h=>.inr h)).trans (hw23.mono fun k _ h=>.inl h)
 rcases h.p with rfl | rfl
 ·refine (qx4 b w (by rw [h.blk.cell];rfl) (by simp [World.shape?,show w.heap[b]? = _ from h.blk]) (h.blk.frozen 1)).mono ?_
  rintro e w' ⟨rfl,rfl⟩
  have hset:=h.blk.set 1 (.pointer (some ⟨b,1,none⟩))
  have hc:Chg (· = b) w (w.setCell ⟨b,1,none⟩ (.pointer (some ⟨b,1,none⟩))) :=
   ⟨rfl,rfl,rfl,by simp,fun k _ hk=>by simp only [World.setCell,Array.getElem?_modify];rw [if_neg (fun e=>hk e.symm)]⟩
  exact ⟨rfl,main _ ⟨hset,.inr rfl,h.out.chg hc fun k hk he=>by have:=h.bkO hk;omega,h.word.chg hc fun k hk he=>by have:=h.bkW hk;omega⟩ hc (by simp)⟩
 ·refine (q0g b w (by rw [h.blk.cell];rfl)).mono ?_
  rintro e w' ⟨rfl,rfl⟩
  exact ⟨rfl,main _ h (Chg.refl _ _) rfl⟩
end
section
variable {α:Type} {E:Enc α}
theorem q80 {x x':α} {f:Nat} {u:Value} (hf:f < E.size) (hu:E.enc x'=(E.enc x).set f u):∀ {l:List α} {i:Nat},l[i]? = some x→(E.row l).set (i * E.size + f) u=E.row (l.set i x')
 | [],i,h=>by simp at h
 | y :: l,0,h=>by
  obtain rfl:y=x:=by simpa using h
  rw [qcl,Nat.zero_mul,Nat.zero_add,List.set_append_left _ _ (by rw [E.len];exact hf),List.set_cons_zero,qcl,hu]
 | y :: l,i + 1,h=>by
  have h':l[i]? = some x:=by simpa using h
  rw [qcl,List.set_append_right _ _ (by rw [E.len,Nat.add_mul];omega),List.set_cons_succ,qcl,← q80 hf hu h',E.len]
  congr 2
  rw [Nat.add_mul];omega
theorem OwnL.storeCell {w:World} {B:Nat} {e:TypeId} {a:Option Addr} {n c:Nat} {l:List α} (h:OwnL E w B e a n c l) {i:Nat} {x:α} (hx:l[i]? = some x) :
  ∃ g,a=some ⟨g,0,none⟩∧(∀ K:Addr→Prop,K ⟨g,i * E.size,none⟩→idx a n (i:Int) E.size K)∧(∀ j v,(E.enc x)[j]? = some v→w.cell? ⟨g,i * E.size + j,none⟩=some v) ∧
   ∀ (f:Nat) (u:Value) (x':α) (K:World→Prop),f < E.size→u.oneCell'=true→E.enc x'=(E.enc x).set f u→(∀ w',OwnL E w' B e a n c (l.set i x')→Chg (bk a) w w'→w'.heap.size=w.heap.size→K w')→stL w ⟨g,i * E.size + f,none⟩ 0 [u] K:=by
 have hl:=h.length
 have hi:i < n:=by rw [← hl];exact (List.getElem?_eq_some_iff.1 hx).1
 have hrd:=h.out.get hx
 rcases h.2 with h1 | ⟨g,cap,cur,e1,e2,e3,e4,e5,e6,e7⟩
 ·omega
 obtain ⟨rfl,_,rfl⟩:a=some ⟨g,0,none⟩∧True∧c=cap:=by simpa using e1
 have hB:Blk w g cur.toList e:=e3
 have hcl:cur.toList.length=c * E.size:=by simpa using e6
 have hcur:cur.toList=E.row l++cur.toList.drop (n * E.size):=by rw [← e7,List.take_append_drop]
 have hin:i * E.size + E.size≤n * E.size:=by
  have:(i + 1) * E.size≤n * E.size:=Nat.mul_le_mul_right _ hi
  rwa [Nat.add_mul,Nat.one_mul] at this
 have hnc:n * E.size≤c * E.size:=Nat.mul_le_mul_right _ e4
 refine ⟨g,rfl,fun K hK=>⟨by omega,by omega,?_⟩,fun j v hj=>?_,fun f u x' K hf h1 hu hK=>?_⟩
 ·show K _
  rw [qe,Int.toNat_natCast,Nat.zero_add];exact hK
 ·have hjl:j < E.size:=by have:=(List.getElem?_eq_some_iff.1 hj).1;rw [E.len] at this;exact this
  rw [hB.cell,hcur,List.getElem?_append_left (by rw [qa8,hl];omega),q3p hx hjl];exact hj
 refine qa7 hB (by simp only [List.length_cons,List.length_nil];omega) (by intro y hy;rw [List.mem_singleton.1 hy];exact h1) fun w' b1 b2 b3 b4 b5 b6=>?_
 have hc:Chg (bk (some (⟨g,0,none⟩:Addr))) w w':=⟨b4,b5,b6,by omega,fun k' _ hk=>b2 k' fun e=>hk (by simp [bk,e])⟩
 have hp:putAt cur.toList (i * E.size + f + 0) [u]=E.row (l.set i x')++cur.toList.drop (n * E.size):=by
  show cur.toList.set (i * E.size + f + 0) u=_
  rw [Nat.add_zero]
  conv=>lhs;rw [hcur]
  rw [List.set_append_left _ _ (by rw [qa8,hl];omega),q80 hf hu hx]
 rw [hp] at b1
 refine hK w' ⟨by rw [qa8,List.length_set,hl],.inr ⟨g,c,⟨_⟩,rfl,e2,b1,e4,e5,?_,?_⟩⟩ hc b3
 ·show (E.row (l.set i x')++cur.toList.drop (n * E.size)).length=c * E.size
  rw [List.length_append,List.length_drop,hcl,qa8,List.length_set,hl];omega
 ·show List.take (n * E.size) (E.row (l.set i x')++_)=_
  rw [List.take_append_of_le_length (by rw [qa8,List.length_set,hl];exact Nat.le_refl _),List.take_of_length_le (by rw [qa8,List.length_set,hl];exact Nat.le_refl _)]
end
section
variable {w w':World} {b:Nat} {oa wa:Option Addr} {l:List Tok} {s:List UInt8} {op j v:Bool} {p:Value} {oc wc:Nat} {R:Ending→World→Prop}
theorem qg0 {t:Tok} (h:BsAt w b oa wa (l++[t]) s op j v p oc wc) (hl:l.length≤1000000000) (hk:∀ g w',oa=some ⟨g,0,none⟩→BsAt w' b oa wa (l++[t]) s op j v p oc wc→Ext w w'→R (.returned (.pointer (some ⟨g,l.length * 6,none⟩))) w') :
  Calls prog qdw ⟨[.pointer (some ⟨b,0,none⟩)]⟩ w R:=by
 apply qjd
 unfold qc7 drw
 have ed:=qn w
 have h:=h.ext ed
 generalize w.drew=wd at *
 have hx:(l++[t])[l.length]? = some t:=by simp
 obtain ⟨g,rfl,hq,_⟩:=OwnL.storeCell h.out hx
 have e:i64.wrap ((((l++[t]).length:Nat):Int) - 1)=(l.length:Int):=by
  rw [List.length_append,List.length_singleton,qai (by omega)];omega
 refine dr_ok ⟨_,_,_,h.cells.1,dr_ok ⟨_,_,_,h.cells.1,?_⟩⟩
 rw [e]
 exact hq _ (hk g wd rfl h ed)
theorem BsAt.last {t:Tok} (h:BsAt w b oa wa (l++[t]) s op j v p oc wc) {g:Nat} (hg:oa=some ⟨g,0,none⟩) :
  w.cell? ((⟨g,l.length * 6,none⟩:Addr).add 4)=some (.int .i64 t.g) ∧
  (∀ (u:List UInt8) (K:World→Prop),(∀ w',BsAt w' b oa wa (l++[{ t with t:=u }]) s op j v p oc wc→Chg (bk oa) w w'→K w')→stL w ((⟨g,l.length * 6,none⟩:Addr).add 0) 0 [.string ⟨⟨u⟩⟩] K) ∧
  (∀ (u:Int) (K:World→Prop),(∀ w',BsAt w' b oa wa (l++[{ t with g:=u }]) s op j v p oc wc→Chg (bk oa) w w'→K w')→stL w ((⟨g,l.length * 6,none⟩:Addr).add 4) 0 [.int .i64 u] K):=by
 have hx:(l++[t])[l.length]? = some t:=by simp
 obtain ⟨g',hg',_,hc,hs⟩:=OwnL.storeCell h.out hx
 have:g'=g:=by rw [hg] at hg';simpa using hg'.symm
 subst this
 have hset:∀ t':Tok,(l++[t]).set l.length t'=l++[t']:=fun t'=>by rw [List.set_append_right _ _ (Nat.le_refl _)];simp
 have fin:∀ (t':Tok) (w':World),OwnL encTk w' (b + 1) 117 oa (l++[t]).length oc (l++[t'])→Chg (bk oa) w w'→BsAt w' b oa wa (l++[t']) s op j v p oc wc:=by
  intro t' w' ho hcg
  have e:(l++[t']).length=(l++[t]).length:=by simp
  refine ⟨?_,h.p,by rw [e];exact ho,h.word.chg hcg fun k hk hh=>h.apart k hh hk⟩
  rw [e]
  exact hcg.blk h.blk fun hh=>by have:=h.bkO hh;omega
 refine ⟨?_,fun u K hK=>?_,fun u K hK=>?_⟩
 ·rw [qe];exact hc 4 _ rfl
 ·rw [qe]
  refine hs 0 _ { t with t:=u } K (by decide) rfl rfl fun w' ho hcg hsz=>hK w' ?_ hcg
  rw [hset] at ho
  exact fin _ _ ho hcg
 ·rw [qe]
  refine hs 4 _ { t with g:=u } K (by decide) rfl rfl fun w' ho hcg hsz=>hK w' ?_ hcg
  rw [hset] at ho
  exact fin _ _ ho hcg
def stFl (flags:Int) (j v:Bool):Int:=if v=true then bitO .i64 (if j=true then bitO .i64 flags 16 else flags) 4 else if j=true then bitO .i64 flags 16 else flags
theorem OwnL.app1 {α:Type} {E:Enc α} {P:Program} {t ty e:TypeId} {bytes:Nat} {z:Value} (hT:SlT P t e E.size bytes z) {w:World} {B:Nat} {a:Option Addr} {n c:Nat} {l:List α} (h:OwnL E w B e a n c l) (hB:B≤w.heap.size) {b':Nat} {e':TypeId} {x:α} (hb:Blk w b' (E.enc x) e')
  (hlen:n + 1≤4611686018427387904) (hbytes:(n + 1) * bytes≤140737488355328) {K:Option Addr→Nat→Nat→World→Prop}
  (hk:∀ a' c'' w',OwnL E w' B e a' (n + 1) c'' (l++[x])→Chg (bk a) w w'→(∀ k,bk a' k→bk a k∨w.heap.size≤k)→K a' (n + 1) c'' w') :
  app P [t,t] ty (.slice a n c) (.slice (some ⟨b',0,none⟩) 1 1) w K :=
 qod (S:=fun _=>True) hT h hB (E.enc x) (by rw [E.len,Nat.one_mul]) (.inr ⟨b',0,rfl,trivial,hb.lt,fun j u hj=>by rw [Nat.zero_add,hb.cell];exact hj⟩) (E.one x) hlen hbytes
  fun a' c'' w' ho hc hn=>hk a' c'' w' (by unfold OwnL;rw [q8z];exact ho) hc hn
theorem BsAt.mkOut {oa0:Option Addr} {on0 oc0:Nat} (hbk:Blk w b (qrc oa0 on0 oc0 p wa s.length wc op j v) 263) (hp:p=.pointer none∨p=.pointer (some ⟨b,1,none⟩)) {oa':Option Addr} {oc':Nat} {l':List Tok} (ho:OwnL encTk w (b + 1) 117 oa' l'.length oc' l')
  (hw:Owns w (b + 1) 5 1 wa s.length wc (Lib.byteCells s)) {K:World→Prop}
  (hk:∀ w',BsAt w' b oa' wa l' s op j v p oc' wc→Chg (fun k=>k=b) w w'→w'.heap.size=w.heap.size→K w'):stL w ((⟨b,0,none⟩:Addr).add 0) 0 [.slice oa' l'.length oc'] K :=
 qc4 hbk (by simp) rfl fun w' b1 hc hs=>hk w' ⟨b1,hp,ho.chg hc fun k hk hh=>by have:=(ho.bk hk).1;omega,hw.chg hc fun k hk hh=>by have:=(hw.bk hk).1;omega⟩ hc hs
theorem ql8 (h:BsAt w b oa wa l s op j v p oc wc) (hl:l.length≤1000000000) (hj:j=true→l≠[]) (x2 x3 x4:Int) (q:Ps) (u:Bool) (nm:List UInt8) (flags:Int)
  (hk:∀ oa' oc' w',BsAt w' b oa' wa (l++[⟨[],[],q,stFl flags j v,nm⟩]) s op true false p oc' wc→Chg (fun k=>k=b∨bk oa k) w w'→(∀ k,bk oa' k→bk oa k∨w.heap.size≤k)→R (.returned (.tuple ⟨[]⟩)) w') :
  Calls prog qdc ⟨[.pointer (some ⟨b,0,none⟩),.agg ⟨[.int .i64 x2,.int .u8 x3,.int .i64 x4,.string ⟨⟨q.1⟩⟩,.int .i64 q.2,.bool u,.string ⟨⟨nm⟩⟩]⟩,.int .i64 flags]⟩ w R:=by
 apply qip
 refine qd fun b10 w11 hb10 B10 e11 s11=>?_
 have h11:=h.ext e11
 have hbl:=h.lt
 intro K12 hK12
 have k12:K12 (if j=true then bitO .i64 flags 16 else flags) w11:=by
  refine hK12 _ _ fun _=>?_
  intro K15 hK15
  have k15:K15 (stFl flags j v) w11:=by
   refine hK15 _ _ fun _=>?_
   unfold drw
   have ed:=qn w11
   have h12:=h11.ext ed
   have B12:=B10.ext ed
   have zd:w11.drew.heap.size=w11.heap.size:=rfl
   have E12:=qa e11 ed
   generalize w11.drew=wd at *
   have c3:∀ i v,[Value.int .i64 x2,.int .u8 x3,.int .i64 x4,.string ⟨⟨q.1⟩⟩,.int .i64 q.2,.bool u,.string ⟨⟨nm⟩⟩][i]? = some v→wd.cell? ⟨b10,i,none⟩=some v:=fun i v hi=>by rw [B12.cell];exact hi
   refine dr_ok ⟨_,_,_,h12.cells.1,q.1,by rw [qe,qe];exact c3 3 _ rfl,q.2,by rw [qe,qe];exact c3 4 _ rfl,nm,by rw [qe];exact c3 6 _ rfl,?_,trivial⟩
   refine qd fun b24 w25 hb24 B24 e25 s25=>⟨?_,trivial⟩
   have h25:=h12.ext e25
   have E25:=qa E12 e25
   have z25:=E25.size
   have B24':Blk w25 b24 (encTk.enc ⟨[],[],q,stFl flags j v,nm⟩) 117:=B24
   refine OwnL.app1 (P:=prog) slT_tok h25.out (by have:=h25.lt;omega) B24' (by omega) (by omega) fun a' c'' w27 ho hcg hn=>dr_ok ⟨?_,trivial⟩
   have e:l.length + 1=(l++[(⟨[],[],q,stFl flags j v,nm⟩:Tok)]).length:=by simp
   rw [e] at ho ⊢
   have hb27:=hcg.blk h25.blk fun hh=>by have:=h25.bkO hh;omega
   refine BsAt.mkOut hb27 h.p ho (h25.word.chg hcg fun k hk hh=>h25.apart k hh hk) fun w29 h29 c29 s29=>dr_ok ?_
   refine h29.setJ true fun w31 h31 c31 s31=>dr_ok ?_
   refine h31.setV false fun w33 h33 c33 s33=>?_
   refine hk a' c'' w33 h33 ?_ fun k hk=>(hn k hk).imp id fun hh=>by omega
   exact (((((Chg.of_ext E25).trans (hcg.mono fun k _ hk=>.inr hk)).trans (c29.mono fun k _ hk=>.inl hk)).trans (c31.mono fun k _ hk=>.inl hk)).trans (c33.mono fun k _ hk=>.inl hk))
  refine dr_ok ⟨_,h11.cells.2.2.2,qh (fun g=>?_) (fun g=>?_)⟩
  ·have e:stFl flags j v=bitO .i64 (if j=true then bitO .i64 flags 16 else flags) 4:=by unfold stFl;rw [if_pos g]
   rw [← e];exact k15
  ·have e:stFl flags j v=if j=true then bitO .i64 flags 16 else flags:=by unfold stFl;rw [if_neg (by rw [g];decide)]
   rw [← e];exact k15
 refine dr_ok ⟨_,h11.cells.2.2.1,qh (fun g=>dr_ok ⟨_,_,_,h11.cells.1,qc (fun _=>?_) (fun g0=>?_)⟩) (fun g=>?_)⟩
 ·rw [if_pos g] at k12;exact k12
 ·have:=List.length_pos_iff.2 (hj g)
  omega
 ·rw [if_neg (by rw [g];decide)] at k12;exact k12
theorem q0z {wl:Nat} (hb:Blk w b (qrc oa l.length oc p wa wl wc op j v) 263) (ho:OwnL encTk w (b + 1) 117 oa l.length oc l) (hk:∀ w',BsAt w' b oa none l [] op j v (.pointer none) oc 0→Chg (fun k=>k=b) w w'→R (.returned (.tuple ⟨[]⟩)) w') :
  Calls prog qen ⟨[.pointer (some ⟨b,1,none⟩)]⟩ w R:=by
 apply qkw
 have e1:((⟨b,1,none⟩:Addr).add 0)=(⟨b,0,none⟩:Addr).add 1:=by simp only [qe]
 have e2:((⟨b,1,none⟩:Addr).add 1)=(⟨b,0,none⟩:Addr).add 2:=by simp only [qe]
 refine dr_ok ?_
 rw [e1]
 refine qc4 hb (by simp) rfl fun w3 b3 c3 s3=>dr_ok ?_
 rw [e2]
 refine qc4 b3 (by simp) rfl fun w5 b5 c5 s5=>?_
 have hb':∀ k,bk oa k→¬ k=b:=fun k hk hh=>by have:=(ho.bk hk).1;omega
 refine hk w5 ⟨b5,.inl rfl,(ho.chg c3 hb').chg c5 hb',Owns.nil _ _ _ _⟩ (c3.trans c5)
theorem q4d {t:Tok} (h:BsAt w b oa wa (l++[t]) s true j v p oc wc) (hl:l.length≤1000000000) (hs:s≠[])
  (hk:∀ w',BsAt w' b oa none (l++[{ t with t:=s }]) [] false j v (.pointer none) oc 0→Chg (fun k=>k=b∨bk oa k∨bk wa k) w w'→R (.returned (.tuple ⟨[]⟩)) w') :
  Calls prog qav ⟨[.pointer (some ⟨b,0,none⟩)]⟩ w R:=by
 apply qef
 have hbl:=h.lt
 intro K2 hK2
 have k2:∀ w3 wl,Blk w3 b (qrc oa (l++[t]).length oc p wa wl wc true j v) 263→OwnL encTk w3 (b + 1) 117 oa (l++[t]).length oc (l++[{ t with t:=s }])→Chg (fun k=>k=b∨bk oa k∨bk wa k) w w3→K2 w3:=by
  intro w3 wl q1 q2 q3
  refine hK2 _ fun _=>dr_ok ?_
  refine qc4 q1 (by simp) rfl fun w5 b5 c5 s5=>dr_ok ?_
  have hb':∀ k,bk oa k→¬ k=b:=fun k hk hh=>by have:=(q2.bk hk).1;omega
  have e:(l++[t]).length=(l++[({ t with t:=s }:Tok)]).length:=by simp
  rw [qe]
  refine q0z (l:=l++[{ t with t:=s }]) (wl:=wl) (op:=false) (by rw [← e];exact b5) (by rw [← e];exact q2.chg c5 hb') fun w' q4 c6=>⟨rfl,?_⟩
  exact hk w' q4 ((q3.trans (c5.mono fun k _ hk=>.inl hk)).trans (c6.mono fun k _ hk=>.inl hk))
 have hsl:0 < s.length:=List.length_pos_iff.2 hs
 have str:∀ v1 (oa1:Option Addr) (l1:List Tok),BsAt v1 b oa1 wa l1 s true j v p oc wc→∀ R':Ending→World→Prop,(∀ w',Blk w' b (qrc oa1 l1.length oc p wa s.length wc true j v) 263→OwnL encTk w' (b + 1) 117 oa1 l1.length oc l1→Chg (bk wa) v1 w'→R' (.returned (.string ⟨⟨s⟩⟩)) w') →
   Calls prog 89 ⟨[.pointer (some ⟨b,1,none⟩)]⟩ v1 R':=by
  intro v1 oa1 l1 hv R' hR
  rcases hv.word.2 with h1 | ⟨g,cap,cur,e1,e2,e3,e4,e5,e6,e7⟩
  ·omega
  obtain ⟨hwa,_,hcap⟩:wa=some ⟨g,0,none⟩∧True∧wc=cap:=by simpa using e1
  have c2:v1.cell? ⟨b,2,none⟩=some (.slice (some ⟨g,0,none⟩) s.length cap):=by rw [hv.blk.cell,← hwa,← hcap];rfl
  have e6':cur.size=cap:=by simpa using e6
  have e7':cur.toList.take s.length=Lib.byteCells s:=by simpa using e7
  refine (q6m b g cap cur s v1 hs c2 e3 e4 e5 e6' e7').mono ?_
  rintro e w' ⟨rfl,hc⟩
  have hc':Chg (bk wa) v1 w':=hc.mono fun k _ hk=>by rw [hwa,hk];simp [bk]
  exact hR w' (hc'.blk hv.blk fun hh=>by have:=hv.bkW hh;omega) (hv.out.chg hc' fun k hk hh=>hv.apart k hk hh) hc'
 unfold drw
 have ed:=qn w
 have h':=h.ext ed
 have cd:Chg (fun k=>k=b∨bk oa k∨bk wa k) w w.drew:=.of_ext ed
 generalize w.drew=wd at *
 -- the text is written
 have wr:∀ (v1:World) (g:Nat),oa=some ⟨g,0,none⟩→Blk v1 b (qrc oa (l++[t]).length oc p wa s.length wc true j v) 263→OwnL encTk v1 (b + 1) 117 oa (l++[t]).length oc (l++[t])→Chg (fun k=>k=b∨bk oa k∨bk wa k) w v1 →
   stL v1 ((⟨g,l.length * 6,none⟩:Addr).add 0) 0 [.string ⟨⟨s⟩⟩] fun w20=>K2 w20:=by
  intro v1 g hg q1 q2 q3
  have hx:(l++[t])[l.length]? = some t:=by simp
  obtain ⟨g',hg',_,_,hst⟩:=OwnL.storeCell q2 hx
  have:g'=g:=by rw [hg] at hg';simpa using hg'.symm
  subst this
  rw [qe]
  refine hst 0 _ { t with t:=s } _ (by decide) rfl rfl fun w' ho hcg hsz=>?_
  have hset:(l++[t]).set l.length { t with t:=s } = l++[{ t with t:=s }]:=by rw [List.set_append_right _ _ (Nat.le_refl _)];simp
  rw [hset] at ho
  exact k2 w' _ (hcg.blk q1 fun hh=>by have:=(q2.bk hh).1;omega) ho (q3.trans (hcg.mono fun k _ hk=>.inr (.inl hk)))
 have c3:=h.cells.2.1
 refine dr_ok ⟨_,c3,?_⟩
 simp only [br_t]
 have way1:Calls prog 227 ⟨[.pointer (some ⟨b,0,none⟩)]⟩ wd fun (e12:Ending) (w13:World)=>∃ (x14:Option Addr),e12=.returned (.pointer x14)∧(dr (some (⟨b,0,none⟩:Addr)) fun p15=>(Calls prog 89 ⟨[.pointer (some (p15.add 1))]⟩ w13 fun (e16:Ending) (w17:World) =>
   ∃ (x18:List UInt8),e16=.returned (.string ⟨⟨x18⟩⟩)∧(dr x14 fun p19=>(stL w17 (p19.add 0) 0 [.string ⟨⟨x18⟩⟩] fun w20=>K2 w20)∧True))∧True):=by
  refine qg0 h' (by omega) fun g w13 hg h13 e13=>⟨_,rfl,dr_ok ⟨?_,trivial⟩⟩
  rw [qe]
  refine str w13 oa _ h13 _ fun w17 b17 o17 c17=>⟨_,rfl,dr_ok ⟨?_,trivial⟩⟩
  exact wr w17 g hg b17 o17 ((cd.trans (.of_ext e13)).trans (c17.mono fun k _ hk=>.inr (.inr hk)))
 have way2:Calls prog 227 ⟨[.pointer (some ⟨b,0,none⟩)]⟩ wd fun (e12:Ending) (w13:World)=>∃ (x14:Option Addr),e12=.returned (.pointer x14)∧((Calls prog 89 ⟨[.pointer (some ((⟨b,0,none⟩:Addr).add 1))]⟩ w13 fun (e16:Ending) (w17:World) =>
   ∃ (x18:List UInt8),e16=.returned (.string ⟨⟨x18⟩⟩)∧(dr x14 fun p19=>(stL w17 (p19.add 0) 0 [.string ⟨⟨x18⟩⟩] fun w20=>K2 w20)∧True))∧True):=by
  refine qg0 h' (by omega) fun g w13 hg h13 e13=>⟨_,rfl,?_,trivial⟩
  rw [qe]
  refine str w13 oa _ h13 _ fun w17 b17 o17 c17=>⟨_,rfl,dr_ok ⟨?_,trivial⟩⟩
  exact wr w17 g hg b17 o17 ((cd.trans (.of_ext e13)).trans (c17.mono fun k _ hk=>.inr (.inr hk)))
 exact ⟨way1,⟨way1,dr_ok ⟨way2,⟨way2,trivial⟩,trivial⟩,trivial⟩,trivial⟩
theorem q4c (h:BsAt w b oa wa l s false j v p oc wc) (hk:∀ w',BsAt w' b oa none l [] false j v (.pointer none) oc 0→Chg (fun k=>k=b∨bk oa k∨bk wa k) w w'→R (.returned (.tuple ⟨[]⟩)) w') :
  Calls prog qav ⟨[.pointer (some ⟨b,0,none⟩)]⟩ w R:=by
 apply qef
 intro K2 hK2
 refine dr_ok ⟨_,h.cells.2.1,?_⟩
 simp only [br_f]
 refine hK2 _ fun _=>dr_ok ?_
 refine h.setOp false fun w5 h5 c5 s5=>dr_ok ?_
 rw [qe]
 refine q0z h5.blk h5.out fun w' q4 c6=>⟨rfl,?_⟩
 exact hk w' q4 ((c5.mono fun k _ hk=>.inl hk).trans (c6.mono fun k _ hk=>.inl hk))
end
def rowE (e:Nat→Bool) (prev:Nat→Nat) (first:Nat):Nat→Nat
 | 0=>first
 | k + 1=>min (min (prev k + if e k then 0 else 1) (prev (k + 1) + 1)) (rowE e prev first k + 1)
def ed (eq:Nat→Nat→Bool):Nat→Nat→Nat
 | 0=>fun k=>k
 | i + 1=>rowE (eq i) (ed eq i) (i + 1)
def FnRow (w:World) (B b n t:Nat) (f:Nat→Int):Prop:=∃ L:List Int,OwnL Sh.encI w B 3 (some ⟨b,0,none⟩) n n L∧∀ j,j < t→L[j]? = some (f j)
theorem FnRow.chg {S:Nat→Prop} {w w':World} {B b n t:Nat} {f:Nat→Int} (h:FnRow w B b n t f) (hc:Chg S w w') (hS:¬ S b):FnRow w' B b n t f:=by
 obtain ⟨L,h1,h2⟩:=h
 exact ⟨L,h1.chg hc fun k hk hs=>hS (by simp [bk] at hk;subst hk;exact hs),h2⟩
theorem FnRow.ext {w w':World} {B b n t:Nat} {f:Nat→Int} (h:FnRow w B b n t f) (hc:Ext w w'):FnRow w' B b n t f:=h.chg (S:=fun _=>False) (.of_ext hc) id
theorem FnRow.any {w:World} {B b n t:Nat} {f g:Nat→Int} (h:FnRow w B b n t f):FnRow w B b n 0 g:=by
 obtain ⟨L,h1,h2⟩:=h
 exact ⟨L,h1,fun j hj=>by omega⟩
theorem FnRow.lt {w:World} {B b n t:Nat} {f:Nat→Int} (h:FnRow w B b n t f) (hn:0 < n):B≤b∧b < w.heap.size:=by
 obtain ⟨L,h1,h2⟩:=h
 exact h1.bk (by simp [bk])
theorem FnRow.get {w:World} {B b n t:Nat} {f:Nat→Int} (h:FnRow w B b n t f) {j:Nat} (hj:j < t) (htn:t≤n) {K:Addr→Prop} (hK:∀ p,w.cell? p=some (.int .i64 (f j))→K p):idx (some ⟨b,0,none⟩) n (j:Int) 1 K:=by
 obtain ⟨L,h1,h2⟩:=h
 obtain ⟨bb,o,hi,_,_,hc⟩:=h1.out.get (h2 j hj)
 exact hi K (hK _ (hc 0 _ rfl))
theorem FnRow.set {w:World} {B b n t:Nat} {f:Nat→Int} (h:FnRow w B b n t f) (htn:t < n) {v:Int} (hv:v=f t) {K:World→Prop} (hK:∀ w',FnRow w' B b n (t + 1) f→Chg (fun k=>k=b) w w'→w'.heap.size=w.heap.size→K w') :
  idx (some ⟨b,0,none⟩) n (t:Int) 1 fun p=>stL w p 0 [.int .i64 v] K:=by
 obtain ⟨L,h1,h2⟩:=h
 obtain ⟨g,hg,hi,hst⟩:=h1.store htn v
 have hl:=h1.length
 refine hi _ (hst _ fun w' ho hc hz=>hK w' ⟨_,ho,fun j hj=>?_⟩ (hc.mono fun k _ hk=>by simp [bk] at hk;exact hk.symm) hz)
 rw [List.getElem?_set]
 by_cases e:t=j
 ·subst e;rw [if_pos rfl,if_pos (by omega),hv]
 ·rw [if_neg e];exact h2 j (by omega)
def BytesAt (w:World) (b:Nat) (l:List UInt8):Prop:=∀ j (hj:j < l.length),w.cell? ⟨b,j,none⟩=some (.int .u8 (l[j].toNat:Int))
theorem BytesAt.ext {w w':World} {b:Nat} {l:List UInt8} (h:BytesAt w b l) (hb:l≠[]→b < w.heap.size) (he:Ext w w'):BytesAt w' b l:=by
 intro j hj
 have:=h j hj
 unfold World.cell? at this ⊢
 rw [he.block b (hb fun e=>by subst e;simp at hj)];exact this
def slV (m:Nat) (r:Nat):Value:=.slice (some ⟨r,0,none⟩) m m
def Mt (w:World) (B bd n m:Nat) (c:Nat→Nat) (t:Nat) (D:Nat→Nat→Int):Prop :=
 ∃ rs:List Nat,rs.length=t∧t≤n∧rs.Nodup∧Blk w bd (rs.map (slV m)++List.replicate (n - t) (.slice none 0 0)) 40∧B≤bd∧∀ (i r:Nat),rs[i]? = some r→r≠bd∧r < w.heap.size∧FnRow w B r m (c i) (D i)
section
variable {w w':World} {B bd n m t:Nat} {c:Nat→Nat} {D:Nat→Nat→Int}
theorem Mt.ext (h:Mt w B bd n m c t D) (he:Ext w w'):Mt w' B bd n m c t D:=by
 obtain ⟨rs,h1,h2,h3,h4,h5,h6⟩:=h
 have:=he.size
 exact ⟨rs,h1,h2,h3,h4.ext he,h5,fun i r hr=>⟨(h6 i r hr).1,by have:=(h6 i r hr).2.1;omega,(h6 i r hr).2.2.ext he⟩⟩
theorem Mt.congr {c':Nat→Nat} (h:Mt w B bd n m c t D) (hc:∀ i,i < t→c i=c' i):Mt w B bd n m c' t D:=by
 obtain ⟨rs,h1,h2,h3,h4,h5,h6⟩:=h
 refine ⟨rs,h1,h2,h3,h4,h5,fun i r hr=>?_⟩
 rw [← hc i (by rw [← h1];exact (List.getElem?_eq_some_iff.1 hr).1)];exact h6 i r hr
theorem Mt.row (h:Mt w B bd n m c t D) {i:Nat} (hi:i < t) :
  ∃ r,(∀ K:Addr→Prop,(∀ p,w.cell? p=some (.slice (some ⟨r,0,none⟩) m m)→K p)→idx (some ⟨bd,0,none⟩) n (i:Int) 1 K)∧FnRow w B r m (c i) (D i) ∧
   ∀ (w':World) (k:Nat),FnRow w' B r m k (D i)→Chg (fun j=>j=r) w w'→Mt w' B bd n m (fun j=>if j=i then k else c j) t D:=by
 obtain ⟨rs,h1,h2,h3,h4,h5,h6⟩:=h
 have hr:rs[i]? = some rs[i]:=List.getElem?_eq_getElem (by omega)
 obtain ⟨g1,g1',g2⟩:=h6 i _ hr
 refine ⟨rs[i],fun K hK=>⟨by omega,by omega,?_⟩,g2,fun w' k hk hc=>?_⟩
 ·refine dr_ok (hK _ ?_)
  rw [qe,h4.cell,List.getElem?_append_left (by simp;omega)]
  simp [slV]
 ·have:=hc.size
  refine ⟨rs,h1,h2,h3,hc.blk h4 (fun e=>g1 e.symm),h5,fun j r hj=>⟨(h6 j r hj).1,by have:=(h6 j r hj).2.1;omega,?_⟩⟩
  by_cases hji:j=i
  ·subst hji
   dsimp only
   rw [if_pos rfl]
   rw [hr] at hj
   cases hj;exact hk
  ·dsimp only
   rw [if_neg hji]
   refine (h6 j r hj).2.2.chg hc fun e=>hji ?_
   have hjl:=(List.getElem?_eq_some_iff.1 hj).1
   have:rs[j]=rs[i]:=by have:=(List.getElem?_eq_some_iff.1 hj).2;rw [this,e]
   rcases Nat.lt_trichotomy j i with hlt | he' | hlt
   ·exact absurd this (List.pairwise_iff_getElem.1 h3 j i hjl (by omega) hlt)
   ·exact he'
   ·exact absurd this.symm (List.pairwise_iff_getElem.1 h3 i j (by omega) hjl hlt)
theorem Mt.push {w0:World} (h:Mt w0 B bd n m c t D) (he:Ext w0 w) (ht:t < n) {r:Nat} (hrw:FnRow w B r m 0 (D t)) {K:World→Prop} (hw0:w0.heap.size≤r) (hrl:r < w.heap.size)
  (hK:∀ w',Mt w' B bd n m (fun j=>if j=t then 0 else c j) (t + 1) D→Chg (fun k=>k=bd) w w'→w'.heap.size=w.heap.size→K w') :
  idx (some ⟨bd,0,none⟩) n (t:Int) 1 fun p=>stL w p 0 [slV m r] K:=by
 obtain ⟨rs,h1,h2,h3,h4,h5,h6⟩:=h
 have hbl:=h4.lt
 have hB:=h4.ext he
 have hz:=he.size
 refine ⟨by omega,by omega,dr_ok ?_⟩
 rw [qe]
 refine qa7 hB (by simp;omega) (by intro v hv;simp only [List.mem_singleton] at hv;subst hv;rfl) fun w' b1 b2 b3 b4 b5 b6=>?_
 have hc:Chg (fun k=>k=bd) w w':=⟨b4,b5,b6,by omega,fun k' _ hk=>b2 k' hk⟩
 refine hK w' ⟨rs++[r],by simp [h1],by omega,?_,?_,h5,fun i x hx=>?_⟩ hc b3
 ·rw [List.nodup_append]
  refine ⟨h3,by simp,fun x hx y hy=>?_⟩
  simp only [List.mem_singleton] at hy
  subst hy
  obtain ⟨i,hi⟩:=List.getElem?_of_mem hx
  have:=(h6 i x hi).2.1;omega
 ·have e:putAt (List.map (slV m) rs++List.replicate (n - t) (.slice none 0 0)) (0 + (t:Int).toNat * 1 + 0) [slV m r]=List.map (slV m) (rs++[r])++List.replicate (n - (t + 1)) (.slice none 0 0):=by
   simp only [putAt]
   rw [show 0 + (t:Int).toNat * 1 + 0=rs.length by omega,List.set_append_right _ _ (by simp),show n - t=(n - (t + 1)) + 1 by omega,List.replicate_succ]
   simp
  rw [← e];exact b1
 ·by_cases hi:i < t
  ·rw [List.getElem?_append_left (by omega)] at hx
   dsimp only
   rw [if_neg (by omega)]
   obtain ⟨g1,g2,g3⟩:=h6 i x hx
   exact ⟨g1,by omega,(g3.ext he).chg hc g1⟩
  ·have hil:=(List.getElem?_eq_some_iff.1 hx).1
   simp at hil
   obtain rfl:i=t:=by omega
   rw [List.getElem?_append_right (by omega)] at hx
   simp [h1] at hx
   subst hx
   dsimp only
   rw [if_pos rfl]
   exact ⟨by omega,by omega,hrw.chg hc (by omega)⟩
end
theorem Mt.val {w:World} {B bd n m t:Nat} {c:Nat→Nat} {D:Nat→Nat→Int} (h:Mt w B bd n m c t D) {i k:Nat} (hi:i < t) (hk:k < c i) (hc:c i≤m) {K:Int→Prop} (hK:K (D i k)) :
  idx (some ⟨bd,0,none⟩) n (i:Int) 1 fun p=>∃ (x:Option Addr) (xn xc:Nat),w.cell? p=some (.slice x xn xc)∧idx x xn (k:Int) 1 fun q=>∃ v:Int,w.cell? q=some (.int .i64 v)∧K v:=by
 obtain ⟨r,h1,h2,_⟩:=h.row hi
 exact h1 _ fun p hp=>⟨_,_,_,hp,h2.get hk hc fun q hq=>⟨_,hq,hK⟩⟩
theorem b2s_intro {w:World} {B:Nat} {a:Option Addr} {n c:Nat} {l:List UInt8} {K:List UInt8→Prop} (h:Owns w B 5 1 a n c (Lib.byteCells l)) (hK:K l):b2s prog w a n c K:=by
 have hl:l.length=n:=by have:=h.1;simpa [Lib.byteCells] using this
 refine ⟨l,?_,hK⟩
 by_cases hn:0 < n
 ·obtain ⟨g,rfl,_,hc⟩:=h.cell hn
  have:=run_convert_bytes_back (P:=prog) w 158 9 5 ⟨g,0,none⟩ c l (by kernel_rfl) (by kernel_rfl) (by kernel_rfl) (fun j hj=>by rw [qe,Nat.zero_add];exact hc j _ (by simp [Lib.byteCells,hj]))
  rw [run_convert_bytes_string w 158 9 5 _ _ _ (by kernel_rfl) (by kernel_rfl) (by kernel_rfl),hl] at this
  exact this
 ·have hl0:l=[]:=List.eq_nil_of_length_eq_zero (by omega)
  subst hl0
  obtain rfl:n=0:=by omega
  cases a with
  | none=>simp [Conv.bytesToString];rfl
  | some p =>
   have:=run_convert_bytes_back (P:=prog) w 158 9 5 p c [] (by kernel_rfl) (by kernel_rfl) (by kernel_rfl) (fun j hj=>by simp at hj)
   rw [run_convert_bytes_string w 158 9 5 _ _ _ (by kernel_rfl) (by kernel_rfl) (by kernel_rfl)] at this
   exact this
theorem bit_or1 {g:Int} (h0:0≤g) (h1:g≤31) (u:Bool):bitO .i64 g (if u=true then 1 else 0)=orU g u:=by
 have key:∀ n:Fin 32,bitO .i64 (n.val:Int) 1=orU (n.val:Int) true∧bitO .i64 (n.val:Int) 0=orU (n.val:Int) false:=by decide +kernel
 have:=key ⟨g.toNat,by omega⟩
 have e:((g.toNat:Nat):Int)=g:=by omega
 simp only [e] at this
 cases u
 ·exact this.2
 ·exact this.1
theorem st_word (u j v:Bool):stFl (if u=true then 1 else 0) j v=flI u j v 0:=by cases u <;> cases j <;> cases v <;> decide
theorem st_mark (u j v:Bool):stFl (bitO .i64 (if u=true then 1 else 0) 8) j v=flI u j v 8:=by cases u <;> cases j <;> cases v <;> decide
theorem st_gap (u j v:Bool):stFl (if u=true then bitO .i64 2 1 else 2) j v=flI u j v 2:=by cases u <;> cases j <;> cases v <;> decide
def lstB (st:Bs):List Tok:=match st.cur with
 | none=>st.out
 | some (t,_)=>st.out++[t]
def wrdB (st:Bs):List UInt8:=match st.cur with
 | none=>[]
 | some (_,s)=>s
structure StOk (st:Bs):Prop where
 cur:∀ t s,st.cur=some (t,s)→s≠[]∧t.t=[]∧0≤t.g∧t.g≤31
 j:st.j=true→lstB st≠[]
def BsSt (w:World) (b:Nat) (st:Bs) (O:Nat→Prop):Prop :=
 ∃ oa wa p oc wc,BsAt w b oa wa (lstB st) (wrdB st) st.cur.isSome st.j st.v p oc wc∧(∀ k,O k↔k=b∨bk oa k∨bk wa k)
section
variable {w w':World} {b:Nat} {st:Bs} {O:Nat→Prop} {R:Ending→World→Prop}
theorem BsSt.chg {S:Nat→Prop} (h:BsSt w b st O) (hc:Chg S w w') (hS:∀ k,O k→¬ S k):BsSt w' b st O:=by
 obtain ⟨oa,wa,p,oc,wc,h1,h2⟩:=h
 exact ⟨oa,wa,p,oc,wc,h1.chg hc (hS _ ((h2 _).2 (.inl rfl))) (fun k hk=>hS k ((h2 k).2 (.inr (.inl hk)))) (fun k hk=>hS k ((h2 k).2 (.inr (.inr hk)))),h2⟩
theorem BsSt.ext (h:BsSt w b st O) (hc:Ext w w'):BsSt w' b st O:=h.chg (S:=fun _=>False) (.of_ext hc) fun _ _ h=>h
theorem BsSt.own (h:BsSt w b st O) {k:Nat} (hk:O k):b≤k∧k < w.heap.size:=by
 obtain ⟨oa,wa,p,oc,wc,h1,h2⟩:=h
 rcases (h2 k).1 hk with rfl | hk | hk
 ·exact ⟨Nat.le_refl _,h1.lt⟩
 ·have:=h1.bkO hk;omega
 ·have:=h1.bkW hk;omega
theorem qh2 (st:Bs):(shut st).length=(lstB st).length:=by
 unfold shut lstB
 cases st.cur with
 | none=>rfl
 | some p=>simp
theorem q6c (h:BsSt w b st O) (hs:StOk st) (hl:(lstB st).length≤1000000000)
  (hk:∀ oa oc w',BsAt w' b oa none (shut st) [] false st.j st.v (.pointer none) oc 0→(∀ k,k=b∨bk oa k→O k)→Chg O w w'→R (.returned (.tuple ⟨[]⟩)) w') :
  Calls prog qav ⟨[.pointer (some ⟨b,0,none⟩)]⟩ w R:=by
 obtain ⟨oa,wa,p,oc,wc,h1,h2⟩:=h
 obtain ⟨out,cur,j,v⟩:=st
 cases cur with
 | none =>
  refine q4c h1 fun w' q hc=>hk oa oc w' q (fun k hk=>(h2 k).2 (hk.imp id .inl)) (hc.mono fun k _ hk=>(h2 k).2 hk)
 | some ts =>
  obtain ⟨t,s⟩:=ts
  have hl':out.length≤1000000000:=by simp [lstB] at hl;omega
  refine q4d (l:=out) (t:=t) (s:=s) h1 hl' (hs.cur t s rfl).1 fun w' q hc=>hk oa oc w' q (fun k hk=>(h2 k).2 (hk.imp id .inl)) (hc.mono fun k _ hk=>(h2 k).2 hk)
def AmE:Am→List Value→Prop
 | .ch c p u nm,vs=>∃ n:Int,vs=[.int .i64 1,.int .u8 (c.toNat:Int),.int .i64 n,.string ⟨⟨p.1⟩⟩,.int .i64 p.2,.bool u,.string ⟨⟨nm⟩⟩]
 | .gap n p u nm,vs=>∃ c:Int,vs=[.int .i64 6,.int .u8 c,.int .i64 n,.string ⟨⟨p.1⟩⟩,.int .i64 p.2,.bool u,.string ⟨⟨nm⟩⟩]
 | .brk x,vs=>∃ (c n:Int) (p:Ps) (u:Bool) (nm:List UInt8),vs=[.int .i64 (if x=true then 5 else 4),.int .u8 c,.int .i64 n,.string ⟨⟨p.1⟩⟩,.int .i64 p.2,.bool u,.string ⟨⟨nm⟩⟩]
theorem qsb (c:UInt8) (h:R (.returned (.bool (letB c))) w):Calls prog qib ⟨[.int .u8 (c.toNat:Int)]⟩ w R:=by
 apply qtp
 refine qcw c ⟨_,rfl,qc (fun g=>?_) (fun g=>?_)⟩
 ·rw [show letB c=true from (qfo c).2 (.inl g)] at h;exact h
 ·have:letB c=decide (kd c=3):=by
   rw [Bool.eq_iff_iff,qfo,decide_eq_true_eq];exact ⟨fun hh=>hh.resolve_left g,.inr⟩
  rw [this] at h;exact h
theorem qxh (c:UInt8) (h:R (.returned (.bool (innC c))) w):Calls prog qjp ⟨[.int .u8 (c.toNat:Int)]⟩ w R:=by
 apply qwd
 refine qcw c ⟨_,rfl,?_⟩
 refine qsb c ⟨_,rfl,qh (fun g=>?_) (fun g=>qc (fun g2=>?_) (fun g2=>?_))⟩
 ·rw [q34 g] at h;exact h
 ·have:innC c=true:=by unfold innC;rw [g2];simp
  rw [this] at h;exact h
 ·have:innC c=decide (kd c=4):=by unfold innC;rw [g,decide_eq_false g2];simp
  rw [this] at h;exact h
theorem blk7 {w:World} {b:Nat} {v0 v1 v2 v3 v4 v5 v6:Value} {T:TypeId} (h:Blk w b [v0,v1,v2,v3,v4,v5,v6] T) :
  w.cell? ((⟨b,0,none⟩:Addr).add 0)=some v0∧w.cell? ((⟨b,0,none⟩:Addr).add 1)=some v1∧w.cell? ((⟨b,0,none⟩:Addr).add 2)=some v2∧w.cell? ((⟨b,0,none⟩:Addr).add 3)=some v3 ∧
  w.cell? ((⟨b,0,none⟩:Addr).add 4)=some v4∧w.cell? ((⟨b,0,none⟩:Addr).add 5)=some v5∧w.cell? ((⟨b,0,none⟩:Addr).add 6)=some v6:=by
 simp only [qe,h.cell];exact ⟨rfl,rfl,rfl,rfl,rfl,rfl,rfl⟩
theorem byte_own {w:World} {b:Nat} {c:UInt8} (h:Blk w b [.int .u8 (c.toNat:Int)] 5):Owns w b 5 1 (some ⟨b,0,none⟩) 1 1 (Lib.byteCells [c]) :=
 ⟨rfl,.inr ⟨b,1,#[.int .u8 (c.toNat:Int)],rfl,Nat.le_refl _,h,Nat.le_refl _,by simp [maxLen],rfl,rfl⟩⟩
theorem q66 (h:BsSt w b st O) (hs:StOk st) (hl:(lstB st).length≤999999999) (hw:(wrdB st).length≤1000000000) (c:UInt8) (x2 x4:Int) (q:Ps) (u:Bool) (nm:List UInt8)
  (hk:∀ w' O',BsSt w' b (addB st (.ch c q u nm)) O'→Chg O w w'→(∀ k,O' k→O k∨w.heap.size≤k)→R (.returned (.tuple ⟨[]⟩)) w') :
  Calls prog qdv ⟨[.pointer (some ⟨b,0,none⟩),.agg ⟨[.int .i64 x2,.int .u8 (c.toNat:Int),.int .i64 x4,.string ⟨⟨q.1⟩⟩,.int .i64 q.2,.bool u,.string ⟨⟨nm⟩⟩]⟩]⟩ w R:=by
 apply qjc
 refine qd fun b9 w10 hb9 B9 e10 s10=>?_
 have h10:=h.ext e10
 have nO:¬ O b9:=fun hh=>by have:=h.own hh;omega
 have lb:b < w.heap.size:=(h.own (by obtain ⟨_,_,_,_,_,_,h2⟩:=h;exact (h2 b).2 (.inl rfl))).2
 have nb9:b9≠b:=by omega
 obtain ⟨_,_,_,_,_,a5,_⟩:=blk7 B9
 intro K11 hK11
 have k11:K11 (if u=true then 1 else 0) w10:=by
  refine hK11 _ _ fun _=>?_
  obtain ⟨oa,wa,p,oc,wc,h1,h2⟩:=h10
  have a1:w10.cell? ((⟨b9,0,none⟩:Addr).add 1)=some (.int .u8 (c.toNat:Int)):=(blk7 B9).2.1
  intro K14 hK14
  -- within a word
  have kIn:st.cur.isSome=true→innC c=true→K14 true w10:=by
   intro hop hin
   refine hK14 _ _ fun _=>?_
   simp only [br_t]
   obtain ⟨out,cur,j,v⟩:=st
   cases cur with
   | none=>cases hop
   | some ts =>
    obtain ⟨t,s⟩:=ts
    obtain ⟨s1,s2,s3,s4⟩:=hs.cur t s rfl
    have hl':out.length≤1000000000:=by simp [lstB] at hl;omega
    have h1':BsAt w10 b oa wa (out++[t]) s true j v p oc wc:=h1
    refine qg0 h1' (by omega) fun g w18 hg h18 e18=>⟨_,rfl,dr_ok ?_⟩
    obtain ⟨l1,_,l3⟩:=h18.last hg
    refine ⟨_,l1,dr_ok ?_⟩
    rw [bit_or1 s3 s4]
    refine l3 _ _ fun w23 h23 c23=>?_
    unfold drw
    have ed:=qn w23
    have h24:=h23.ext ed
    have hc24:Chg O w w23.drew:=(((Chg.of_ext (qa e10 e18)).trans (c23.mono fun k _ hk=>(h2 k).2 (.inr (.inl hk)))).trans (.of_ext ed))
    have B24:=((B9.ext e18).keep (c23.block b9 (by have:=(B9.ext e18).lt;omega) fun hh=>nO ((h2 b9).2 (.inr (.inl hh))))).ext ed
    generalize w23.drew=w24 at *
    have z24:=hc24.size
    refine dr_ok ⟨_,(blk7 B24).2.1,?_,trivial⟩
    rw [qe]
    refine qnt h24 c (by simp [wrdB] at hw;omega) fun wa' wc' w28 h28 c28 n28=>⟨_,rfl,?_⟩
    have ea:addB ⟨out,some (t,s),j,v⟩ (.ch c q u nm)=⟨out,some ({ t with g:=orU t.g u },s++[c]),j,v⟩:=by simp only [addB,hin]
    refine hk w28 (fun k=>k=b∨bk oa k∨bk wa' k) (by rw [ea];exact ⟨oa,wa',_,oc,wc',h28,fun k=>Iff.rfl⟩) (hc24.trans (c28.mono fun k _ hk=>(h2 k).2 (hk.imp id .inr))) fun k hk=>?_
    rcases hk with rfl | hk | hk
    ·exact .inl ((h2 _).2 (.inl rfl))
    ·exact .inl ((h2 _).2 (.inr (.inl hk)))
    ·rcases n28 k hk with hh | hh
     ·exact .inl ((h2 _).2 (.inr (.inr hh)))
     ·exact .inr (by omega)
  -- elsewhere
  have kOut:(st.cur.isSome&&innC c)=false→K14 false w10:=by
   intro hno
   refine hK14 _ _ fun _=>?_
   simp only [br_f]
   have ea:addB st (.ch c q u nm)=if letB c=true then ⟨shut st,some (⟨[],[],q,flI u st.j st.v 0,nm⟩,[c]),true,false⟩ else if kd c=6 then ⟨shut st,none,false,st.v⟩ else ⟨shut st++[⟨[c],[],q,flI u st.j st.v 8,nm⟩],none,true,false⟩:=by
    obtain ⟨out,cur,j,v⟩:=st
    cases cur with
    | none=>rfl
    | some ts =>
     have:innC c=false:=by simpa using hno
     simp only [addB,this]
   refine ⟨_,a1,qsb c ⟨_,rfl,qh (fun hlt=>?_) (fun hlt=>?_)⟩⟩
   ·
    have hnone:st.cur=none:=by
     cases hc:st.cur with
     | none=>rfl
     | some ts=>rw [hc,q34 hlt] at hno;cases hno
    obtain ⟨d0,d1,d2,d3,d4,d5,d6⟩:=blk7 B9
    refine ⟨_,d0,_,d1,_,d2,_,d3,_,d4,_,d5,_,d6,?_⟩
    have h1':BsAt w10 b oa wa (lstB st) [] false st.j st.v p oc wc:=by
     have e1:wrdB st=[]:=by unfold wrdB;rw [hnone]
     have e2:st.cur.isSome=false:=by rw [hnone];rfl
     rw [e1,e2] at h1;exact h1
    refine ql8 h1' (by omega) hs.j x2 _ x4 q u nm _ fun oa' oc' w42 h42 c42 n42=>⟨rfl,dr_ok ?_⟩
    rw [st_word] at h42
    refine h42.setOp true fun w44 h44 c44 s44=>?_
    unfold drw
    have ed:=qn w44
    have h45:=h44.ext ed
    have hc45:Chg (fun k=>k=b∨bk oa k) w10 w44.drew:=(c42.trans (c44.mono fun k _ hk=>.inl hk)).trans (.of_ext ed)
    have B45:=B9.keep (hc45.block b9 B9.lt fun hh=>hh.elim nb9 fun hh=>nO ((h2 b9).2 (.inr (.inl hh))))
    generalize w44.drew=w45 at *
    have z45:=hc45.size
    refine dr_ok ⟨_,(blk7 B45).2.1,?_,trivial⟩
    rw [qe]
    refine qnt h45 c (by simp) fun wa' wc' w49 h49 c49 n49=>⟨_,rfl,?_⟩
    have hsh:shut st=lstB st:=by unfold shut lstB;rw [hnone]
    refine hk w49 (fun k=>k=b∨bk oa' k∨bk wa' k) (by rw [ea,if_pos hlt,hsh];exact ⟨oa',wa',_,oc',wc',h49,fun k=>Iff.rfl⟩) ?_ fun k hk=>?_
    ·refine ((Chg.of_ext e10).trans (hc45.mono fun k _ hk=>(h2 k).2 (hk.imp id .inl))).trans (c49.mono fun k _ hk=>(h2 k).2 (hk.imp id .inr))
    ·rcases hk with rfl | hk | hk
     ·exact .inl ((h2 _).2 (.inl rfl))
     ·rcases n42 k hk with hh | hh
      ·exact .inl ((h2 _).2 (.inr (.inl hh)))
      ·exact .inr (by omega)
     ·rcases n49 k hk with hh | hh
      ·exact .inl ((h2 _).2 (.inr (.inr hh)))
      ·exact .inr (by omega)
   ·refine ⟨_,a1,qcw c ⟨_,rfl,qc (fun h6=>?_) (fun h6=>?_)⟩⟩
    ·refine q6c (O:=O) ⟨oa,wa,p,oc,wc,h1,h2⟩ hs (by omega) fun oa' oc' w56 h56 hO c56=>⟨rfl,dr_ok ?_⟩
     refine h56.setJ false fun w58 h58 c58 s58=>?_
     refine hk w58 (fun k=>k=b∨bk oa' k∨bk none k) (by rw [ea,if_neg (by rw [hlt];decide),if_pos h6];exact ⟨oa',none,_,oc',0,h58,fun k=>Iff.rfl⟩) (((Chg.of_ext e10).trans c56).trans (c58.mono fun k _ hk=>(h2 k).2 (.inl hk))) fun k hk=>.inl ?_
     rcases hk with hk | hk | hk
     ·exact hO k (.inl hk)
     ·exact hO k (.inr hk)
     ·simp [bk] at hk
    ·refine q6c (O:=O) ⟨oa,wa,p,oc,wc,h1,h2⟩ hs (by omega) fun oa' oc' w60 h60 hO c60=>⟨rfl,?_⟩
     have B60:=c60.blk B9 nO
     obtain ⟨d0,d1,d2,d3,d4,d5,d6⟩:=blk7 B60
     refine ⟨_,d0,_,d1,_,d2,_,d3,_,d4,_,d5,_,d6,?_⟩
     have hjj:st.j=true→shut st≠[]:=fun hh e=>hs.j hh (List.eq_nil_of_length_eq_zero (by rw [← qh2,e];rfl))
     refine ql8 h60 (by rw [qh2];omega) hjj x2 _ x4 q u nm _ fun oa2 oc2 w69 h69 c69 n69=>⟨rfl,?_⟩
     rw [st_mark] at h69
     have hB69:=B60.keep (c69.block b9 B60.lt fun hh=>hh.elim nb9 fun hh=>nO (hO b9 (.inr hh)))
     unfold drw
     have ed:=qn w69
     have h70:=h69.ext ed
     have B70:=hB69.ext ed
     have hc70:Chg O w w69.drew:=(((Chg.of_ext e10).trans c60).trans (c69.mono fun k _ hk=>hO k hk)).trans (.of_ext ed)
     have n70:∀ k,bk oa2 k→O k∨w.heap.size≤k:=fun k hk=>(n69 k hk).imp (fun hh=>hO k (.inr hh)) fun hh=>by have:=c60.size;omega
     generalize w69.drew=w70 at *
     have fin:∀ (v1:World) (g:Nat),oa2=some ⟨g,0,none⟩→BsAt v1 b oa2 none (shut st++[⟨[],[],q,flI u st.j st.v 8,nm⟩]) [] false true false (.pointer none) oc2 0→Ext w70 v1 →
       stL v1 ((⟨g,(shut st).length * 6,none⟩:Addr).add 0) 0 [.string ⟨⟨[c]⟩⟩] fun w79=>R (.returned (.tuple ⟨[]⟩)) w79:=by
      intro v1 g hg hv ev
      refine (hv.last hg).2.1 [c] _ fun w' hw' cw'=>?_
      refine hk w' (fun k=>k=b∨bk oa2 k∨bk none k) (by rw [ea,if_neg (by rw [hlt];decide),if_neg h6];exact ⟨oa2,none,_,oc2,0,hw',fun k=>Iff.rfl⟩) ?_ fun k hk=>?_
      ·exact qb3 (hc70.trans (.of_ext ev)) cw' fun k hk hh=>by
        rcases n70 k hh with h' | h'
        ·exact h'
        ·omega
      ·rcases hk with hk | hk | hk
       ·exact .inl (hO k (.inl hk))
       ·exact n70 k hk
       ·simp [bk] at hk
     have lst:∀ v1,BsAt v1 b oa2 none (shut st++[⟨[],[],q,flI u st.j st.v 8,nm⟩]) [] false true false (.pointer none) oc2 0→∀ R':Ending→World→Prop,(∀ g w',oa2=some ⟨g,0,none⟩→BsAt w' b oa2 none (shut st++[⟨[],[],q,flI u st.j st.v 8,nm⟩]) [] false true false (.pointer none) oc2 0→Ext v1 w'→R' (.returned (.pointer (some ⟨g,(shut st).length * 6,none⟩))) w') →
       Calls prog 227 ⟨[.pointer (some ⟨b,0,none⟩)]⟩ v1 R':=fun v1 hv R' hR=>qg0 hv (by rw [qh2];omega) hR
     have byt:∀ v1 b75 (K:List UInt8→Prop),Blk v1 b75 [.int .u8 (c.toNat:Int)] 5→K [c]→b2s prog v1 (some ⟨b75,0,none⟩) 1 1 K:=fun v1 b75 K hb hK=>b2s_intro (byte_own hb) hK
     refine ⟨?_,⟨?_,⟨_,(blk7 B70).2.1,?_,?_,trivial⟩,trivial⟩,trivial⟩
     ·refine lst w70 h70 _ fun g w72 hg h72 e72=>⟨_,rfl,_,(blk7 (B70.ext e72)).2.1,?_,trivial⟩
      refine qd fun b75 w76 hb75 B75 e76 s76=>⟨byt _ _ _ B75 (dr_ok ⟨fin w76 g hg (h72.ext e76) (qa e72 e76),trivial⟩),trivial⟩
     ·refine lst w70 h70 _ fun g w72 hg h72 e72=>⟨_,rfl,_,(blk7 (B70.ext e72)).2.1,?_,trivial⟩
      refine qd fun b75 w76 hb75 B75 e76 s76=>⟨byt _ _ _ B75 (dr_ok ⟨fin w76 g hg (h72.ext e76) (qa e72 e76),trivial⟩),trivial⟩
     ·refine lst w70 h70 _ fun g w72 hg h72 e72=>⟨_,rfl,?_,trivial⟩
      refine qd fun b75 w76 hb75 B75 e76 s76=>⟨byt _ _ _ B75 (dr_ok ⟨fin w76 g hg (h72.ext e76) (qa e72 e76),trivial⟩),trivial⟩
     ·refine qd fun b98 w99 hb98 B98 e99 s99=>⟨?_,?_,trivial⟩
      ·refine lst w99 (h70.ext e99) _ fun g w101 hg h101 e101=>⟨_,rfl,?_,trivial⟩
       exact byt _ _ _ (B98.ext e101) (dr_ok ⟨fin w101 g hg h101 (qa e99 e101),trivial⟩)
      ·refine byt _ _ _ B98 ⟨?_,trivial⟩
       refine lst w99 (h70.ext e99) _ fun g w101 hg h101 e101=>⟨_,rfl,dr_ok ⟨fin w101 g hg h101 (qa e99 e101),trivial⟩⟩
  refine dr_ok ⟨_,h1.cells.2.1,?_⟩
  cases hop:st.cur.isSome with
  | false=>simp only [br_f];exact kOut (by rw [hop];rfl)
  | true =>
   simp only [br_t]
   refine ⟨_,a1,qxh c ⟨_,rfl,?_⟩⟩
   cases hin:innC c with
   | true=>exact kIn hop hin
   | false=>exact kOut (by rw [hin];simp)
 refine ⟨_,a5,?_⟩
 cases u
 ·simp only [br_f];exact k11
 ·simp only [br_t];exact k11
end
end Go.Proofs
