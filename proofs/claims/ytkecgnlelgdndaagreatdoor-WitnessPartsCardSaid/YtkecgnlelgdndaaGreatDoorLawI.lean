/- The contracts of the functions that the law reaches, one after the other, and at the end the law's card. -/
import Derived.Test.YtkecgnlelgdndaaGreatDoorLawH
set_option linter.all false
set_option maxRecDepth 20000
namespace Go.Sh
open Go Go.RowKit
open Go.WideElems (Fit)
open Go.Maps (Keyed)
def MapN {K V:Type} (P:Program) (k:TypeId) (eK:K→Value) (eV:V→Value) (w:World) (b n:Nat) (f:K→Option V):Prop :=
 ∃ es clock,w.heap[b]? = some (.map es clock)∧Fit P k anyV es clock∧es.size=n ∧
  ∀ x,(f x=none∧∀ e∈es.toList,e.key≠eK x)∨∃ v,f x=some v∧∃ e∈es.toList,e.key=eK x∧e.val=eV v
section
variable {K V:Type} {P:Program} {k t e:TypeId} {eK:K→Value} {eV:V→Value} {w w':World} {b n:Nat} {f:K→Option V}
theorem MapN.toT (h:MapN P k eK eV w b n f):MapT P k eK eV w b n f:=by
 obtain ⟨es,clock,hb,F,hs,h⟩:=h
 exact ⟨es,clock,hb,F,Nat.le_of_eq hs,h⟩
theorem MapN.of0 (h:MapT P k eK eV w b 0 f):MapN P k eK eV w b 0 f:=by
 obtain ⟨es,clock,hb,F,hs,h⟩:=h
 exact ⟨es,clock,hb,F,Nat.le_zero.1 hs,h⟩
theorem MapN.keep (h:MapN P k eK eV w b n f) (hw:w'.heap[b]? = w.heap[b]?):MapN P k eK eV w' b n f:=by
 obtain ⟨es,clock,hb,h⟩:=h
 exact ⟨es,clock,hw.trans hb,h⟩
theorem MapN.ext (h:MapN P k eK eV w b n f) (hw:Ext w w'):MapN P k eK eV w' b n f:=h.keep (hw.block b h.toT.lt)
theorem MapN.chg {S:Nat→Prop} (h:MapN P k eK eV w b n f) (hw:Chg S w w') (hs:¬ S b):MapN P k eK eV w' b n f:=h.keep (hw.block b h.toT.lt hs)
theorem MapN.len (h:MapN P k eK eV w b n f) {Q:Int→Prop} (hq:Q n):mlenV w (.map (some b)) Q:=by
 obtain ⟨es,clock,hb,_,hs,_⟩:=h
 exact ⟨es,clock,hb,by rw [hs];exact hq⟩
theorem MapN.update (h:MapN P k eK eV w b n f) (Kd:Keyed P k) (ht:P.underlying t=some (.map k e)) (hn:n < maxLen) {x:K} {v:V} {kl:Lit} (hkey:keyOf P k (eK x)=some kl) (hinj:∀ y,eK y=eK x→y=x) {Q:World→Prop}
  (hq:∀ (w':World) (g:K→Option V),MapN P k eK eV w' b (if (f x).isSome then n else n + 1) g→Chg (fun j=>j=b) w w'→g x=some v→(∀ y,y≠x→g y=f y)→Q w'):mupd P t (.map (some b)) (eK x) (eV v) w Q:=by
 have hlt:=h.toT.lt
 obtain ⟨es,clock,hb,F,hs,hf⟩:=h
 have hsz:es.size < maxLen:=by rw [hs];exact hn
 have chg:∀ o,Chg (fun j=>j=b) w (ChangeMaps.setBlock w b o):=fun o=>⟨rfl,rfl,rfl,by simp [ChangeMaps.setBlock],fun i _ hi=>ChangeMaps.heap_setBlock_other hb _ hi⟩
 have fin:∀ es' clock',(Instr.mapUpdate t (.map (some b)) (eK x) (eV v)).run P w=.ok () (ChangeMaps.setBlock w b (.map es' clock'))→Fit P k anyV es' clock'→es'.size=(if (f x).isSome then n else n + 1) →
   (∃ e1∈es'.toList,e1.key=eK x∧e1.val=eV v)→(∀ e0∈es.toList,e0.key≠eK x→e0∈es'.toList)→(∀ e1∈es'.toList,e1.key≠eK x→e1∈es.toList) →
   mupd P t (.map (some b)) (eK x) (eV v) w Q:=by
  intro es' clock' hrun F' hs' hnew hold hback
  classical
  refine ⟨_,hrun,hq _ (fun y=>if y=x then some v else f y) ⟨es',clock',ChangeMaps.heap_setBlock_same hb _,F',hs',fun y=>?_⟩ (chg _) (by simp) (fun y hy=>by simp [hy])⟩
  by_cases hy:y=x
  ·subst hy
   obtain ⟨e1,h1,h2,h3⟩:=hnew
   exact .inr ⟨v,by simp,e1,h1,h2,h3⟩
  ·have hne:eK y≠eK x:=fun e=>hy (hinj y e)
   rcases hf y with ⟨h0,h1⟩ | ⟨u,hu,e1,h1,h2,h3⟩
   ·refine .inl ⟨by simp [hy,h0],fun e1 he1 hk=>?_⟩
    exact h1 e1 (hback e1 he1 (by rw [hk];exact hne)) hk
   ·exact .inr ⟨u,by simp [hy,hu],e1,hold e1 h1 (by rw [h2];exact hne),h2,h3⟩
 rcases Kd.find w hkey es.toList F.keys with ⟨h1,h2⟩ | ⟨j,e0,h1,h2,h3⟩
 ·have hfx:(f x).isSome=false:=by
   rcases hf x with ⟨h0,_⟩ | ⟨u,hu,e1,g1,g2,_⟩
   ·rw [h0];rfl
   ·exact absurd g2 (h2 e1 g1)
  refine fin (es.push ⟨eK x,eV v,clock⟩) (clock + 1) ?_ ⟨by simp;omega,MapKept.stamped_push F.stamped h2,?_⟩ (by rw [hfx];simp [hs]) ⟨⟨eK x,eV v,clock⟩,by simp,rfl,rfl⟩ (fun e0 h0 _=>by simp at h0 ⊢;exact .inl h0) (fun e1 h1 hne=>?_)
  ·simp [Instr.mapUpdate,run_underlying ht,MapKept.run_getObj_map hb,Kd.check w false hkey,h1,MapKept.run_setObj_map _ hb,Result.andThen,ChangeMaps.setBlock]
  ·intro y hy
   simp only [Array.toList_push,List.mem_append,List.mem_singleton] at hy
   rcases hy with hy | rfl
   ·exact F.reads y hy
   ·exact ⟨_,WideElems.rd_mk hkey rfl⟩
  ·simp only [Array.toList_push,List.mem_append,List.mem_singleton] at h1
   rcases h1 with h1 | rfl
   ·exact h1
   ·exact absurd rfl hne
 ·have hj:es[j]? = some e0:=by simpa using h2
  have hjl:j < es.toList.length:=(List.getElem?_eq_some_iff.1 h2).1
  have hkeyf:∀ e',es[j]? = some e'→({ e' with key:=eK x,val:=eV v }:MapEntry).key=e'.key:=fun e' he'=>by rw [hj] at he';cases he';exact h3.symm
  have hlist:(es.modify j (fun e'=>{ e' with key:=eK x,val:=eV v })).toList=es.toList.set j { e0 with key:=eK x,val:=eV v }:=by
   apply List.ext_getElem?
   intro i
   simp only [Array.getElem?_toList,Array.getElem?_modify,List.getElem?_set]
   by_cases hi:j=i
   ·subst hi;simp [hj];exact (Array.getElem?_eq_some_iff.1 hj).1
   ·simp [hi]
  have hfx:(f x).isSome=true:=by
   rcases hf x with ⟨_,h0⟩ | ⟨u,hu,_⟩
   ·exact absurd h3 (h0 e0 (List.mem_of_getElem? h2))
   ·rw [hu];rfl
  refine fin (es.modify j (fun e'=>{ e' with key:=eK x,val:=eV v })) clock ?_ ⟨by simpa using F.size,MapKept.stamped_modify F.stamped _ _ (fun _ _=>rfl) (fun e' _ he'=>hkeyf e' he'),?_⟩ (by rw [hfx];simpa using hs) ?_ ?_ ?_
  ·simp [Instr.mapUpdate,run_underlying ht,MapKept.run_getObj_map hb,Kd.check w false hkey,h1,hj,h3,Kd.stays w hkey,MapKept.run_setObj_map _ hb,Result.andThen,ChangeMaps.setBlock]
  ·intro y hy
   rw [hlist] at hy
   rcases List.mem_or_eq_of_mem_set hy with hy | rfl
   ·exact F.reads y hy
   ·exact ⟨_,WideElems.rd_mk hkey rfl⟩
  ·exact ⟨{ e0 with key:=eK x,val:=eV v },by rw [hlist];exact List.mem_iff_getElem.2 ⟨j,by simpa using hjl,by simp⟩,rfl,rfl⟩
  ·intro y hy hne
   rw [hlist]
   obtain ⟨i,hi,rfl⟩:=List.getElem_of_mem hy
   have hij:j≠i:=fun e=>by
    subst e
    have:es.toList[j]=e0:=by rw [List.getElem?_eq_getElem hjl] at h2;exact Option.some.inj h2
    rw [this] at hne;exact hne h3
   exact List.mem_iff_getElem.2 ⟨i,by simpa using hi,by rw [List.getElem_set_ne hij]⟩
  ·intro y hy hne
   rw [hlist] at hy
   rcases List.mem_or_eq_of_mem_set hy with hy | rfl
   ·exact hy
   ·exact absurd rfl hne
end
end Go.Sh
namespace Go.Proofs
open Go Go.Sh Go.RowKit Go.Proofs.Tryz IntKind
def AllC (S:Nat→Prop) (w:World):List (List Nm)→List Value→Prop
 | [],vs=>vs=[]
 | o :: A,vs=>∃ a c vs',vs=.slice a o.length c :: vs'∧RowAt Sh.encStr S w a o.length o∧AllC S w A vs'
def RowsAt (S:Nat→Prop) (w:World) (a:Option Addr) (n:Nat) (A:List (List Nm)):Prop:=n=A.length∧∃ vs,At S w a vs∧AllC S w A vs
section
variable {S S':Nat→Prop} {w w':World}
theorem AllC.keep (hs:∀ k,S k→k < w.heap.size→S' k∧w'.heap[k]? = w.heap[k]?) (hz:w.heap.size≤w'.heap.size):∀ {A:List (List Nm)} {vs:List Value},AllC S w A vs→AllC S' w' A vs
 | [],_,h=>h
 | _ :: _,_,⟨a,c,vs',h1,h2,h3⟩=>⟨a,c,vs',h1,h2.keep hs hz,AllC.keep hs hz h3⟩
theorem AllC.snoc {o:List Nm} {a:Option Addr} {c:Nat} (ho:RowAt Sh.encStr S w a o.length o):∀ {A:List (List Nm)} {vs:List Value},AllC S w A vs→AllC S w (A++[o]) (vs++[.slice a o.length c])
 | [],vs,h=>by
  have h:vs=[]:=h
  subst h
  exact ⟨a,c,[],rfl,ho,rfl⟩
 | _ :: _,_,⟨a',c',vs',h1,h2,h3⟩=>⟨a',c',vs'++[.slice a o.length c],by rw [h1];rfl,h2,AllC.snoc ho h3⟩
theorem AllC.get {o:List Nm}:∀ {A:List (List Nm)} {vs:List Value} {i:Nat},AllC S w A vs→A[i]? = some o→∃ a c,vs[i]? = some (.slice a o.length c)∧RowAt Sh.encStr S w a o.length o
 | [],_,i,_,h=>by simp at h
 | y :: A,vs,0,⟨a,c,vs',h1,h2,h3⟩,h=>by
  simp only [List.getElem?_cons_zero,Option.some.injEq] at h
  subst h
  exact ⟨a,c,by rw [h1];rfl,h2⟩
 | y :: A,vs,i + 1,⟨a,c,vs',h1,h2,h3⟩,h=>by
  obtain ⟨a',c',e1,e2⟩:=AllC.get (i:=i) h3 (by simpa using h)
  exact ⟨a',c',by rw [h1];exact e1,e2⟩
theorem AllC.len:∀ {A:List (List Nm)} {vs:List Value},AllC S w A vs→vs.length=A.length
 | [],vs,h=>by rw [show vs=[] from h];rfl
 | _ :: _,_,⟨a,c,vs',h1,h2,h3⟩=>by rw [h1,List.length_cons,List.length_cons,AllC.len h3]
theorem RowsAt.keep {a:Option Addr} {n:Nat} {A:List (List Nm)} (h:RowsAt S w a n A) (hs:∀ k,S k→k < w.heap.size→S' k∧w'.heap[k]? = w.heap[k]?) (hz:w.heap.size≤w'.heap.size):RowsAt S' w' a n A:=by
 obtain ⟨h1,vs,h2,h3⟩:=h
 exact ⟨h1,vs,h2.keep hs hz,h3.keep hs hz⟩
theorem RowsAt.get {a:Option Addr} {n:Nat} {A:List (List Nm)} (h:RowsAt S w a n A) {i:Nat} {o:List Nm} (hi:A[i]? = some o) :
  ∃ q a' c',(∀ K:Addr→Prop,K q→idx a n (i:Int) 1 K)∧w.cell? q=some (.slice a' o.length c')∧RowAt Sh.encStr S w a' o.length o:=by
 obtain ⟨h1,vs,h2,h3⟩:=h
 obtain ⟨a',c',e1,e2⟩:=h3.get hi
 rcases h2 with h2 | ⟨b,o',rfl,hS,hb,hc⟩
 ·rw [h2] at e1;simp at e1
 ·refine ⟨⟨b,o' + i,none⟩,a',c',fun K hK=>⟨by omega,?_,?_⟩,hc _ _ e1,e2⟩
  ·have:=(List.getElem?_eq_some_iff.1 hi).1
   omega
  ·show K _
   rw [qg,Int.toNat_natCast,Nat.mul_one];exact hK
end
theorem q8o {w:World} {B:Nat} {e:TypeId} {size:Nat} {a:Option Addr} {n c:Nat} {xs:List Value} (h:Owns w B e size a n c xs):At (bk a) w a xs:=by
 by_cases hn:n=0
 ·left
  have:=h.len
  rw [hn,Nat.zero_mul] at this
  exact List.eq_nil_of_length_eq_zero this
 ·obtain ⟨g,rfl,hg,hc⟩:=h.cell (by omega)
  exact .inr ⟨g,0,rfl,rfl,(h.bk rfl).2,fun j v hj=>by rw [Nat.zero_add];exact hc j v hj⟩
section
variable {R:Ending→World→Prop} {w:World}
theorem free_spec {S:Nat→Prop} {b5 b43 b41 m:Nat} {oa:Option Addr} {on oc:Nat} {f2:Nm→Option Bool} (A:List (List Nm)) (tk:List Nm) (s:Nm) (hA:∀ own∈A,own.length≤1000000∧∀ x∈own,x.length≤4611686018427387904) (hn:on≤1000000)
  (B5:Blk w b5 [.slice oa on oc] 96) (hR:RowsAt S w oa on A) (B43:Blk w b43 [.map (some b41)] 95) (hM:MapT prog 9 eS eB w b41 m f2) (hf2:∀ s,(f2 s).getD false=decide (s∈tk)) (h:R (.returned (.bool (freeB A tk s))) w) :
  Calls prog qhw ⟨[.string ⟨⟨s⟩⟩,.pointer (some ⟨b5,0,none⟩),.pointer (some ⟨b43,0,none⟩)]⟩ w R:=by
 apply qsv
 have hln:=hR.1
 refine dr_ok ⟨_,_,_,by rw [B5.cell];rfl,?_⟩
 refine ⟨fun i W m=>∃ k:Nat,i=k∧k≤on∧m=on - k∧(A.take k).all (okO tk s)=true∧W=w,⟨_,0,rfl,by omega,rfl,rfl,rfl⟩,?_⟩
 rintro _ W m ⟨k,rfl,hk,rfl,hz,rfl⟩ _
 refine qd (fun hlt=>?_) (fun hge=>?_)
 ·have hkl:k < A.length:=by omega
  have hAk:=hA A[k] (List.getElem_mem hkl)
  obtain ⟨q,a',c',hq,c0,hrow⟩:=hR.get (show A[k]? = some A[k] by simp [hkl])
  have htk:A.take (k + 1)=A.take k++[A[k]]:=List.take_succ_eq_append_getElem hkl
  have hno:okO tk s A[k]=false→freeB A tk s=false:=fun hh=>by
   unfold freeB;rw [List.all_eq_false];exact ⟨_,List.getElem_mem hkl,by rw [hh];simp⟩
  have hyes:okO tk s A[k]=true→∃ m',m' < on - k∧∃ k':Nat,i64.wrap ((k:Int) + 1)=k'∧k'≤on∧m'=on - k'∧(A.take k').all (okO tk s)=true∧W=W:=fun hh=>by
   refine ⟨on - (k + 1),by omega,k + 1,by rw [qj (by omega)],by omega,rfl,?_,rfl⟩
   rw [htk,List.all_append,hz,List.all_cons,hh];rfl
  generalize A[k]=own at *
  refine hq _ ⟨_,_,_,c0,?_⟩
  refine ⟨fun i W2 m=>∃ j:Nat,i=j∧j≤own.length∧m=own.length - j∧s∉own.take j∧(s∈own→∀ o∈own.take j,o∈tk)∧W2=W,⟨_,0,rfl,by omega,rfl,by simp,by simp,rfl⟩,?_⟩
  rintro _ W2 m ⟨j,rfl,hj,rfl,hsn,hall,rfl⟩ _
  refine qd (fun hlt2=>?_) (fun hge2=>?_)
  ·have hjl:j < own.length:=by omega
   obtain ⟨q2,hq2,d0⟩:=qei hrow hjl
   have htj:own.take (j + 1)=own.take j++[own[j]]:=List.take_succ_eq_append_getElem hjl
   have hol:=hAk.2 own[j] (List.getElem_mem hjl)
   refine hq2 _ ⟨_,d0,qd (fun g=>?_) (fun g=>dr_ok ⟨_,by rw [B43.cell];rfl,(f2 own[j]).getD false,?_,?_⟩)⟩
   ·have hm:s∈own:=by rw [← g];exact List.getElem_mem hjl
    exact hyes (okO_at hjl g hsn (hall hm))
   ·have hlk:=hM.look kd9 (t:=95) (e:=4) (by kernel_rfl) (z:=.bool false) (qvr (by kernel_rfl) W2) (keyS hol)
    cases hv:f2 own[j] with
    | none=>rw [hv] at hlk;exact hlk
    | some v=>rw [hv] at hlk;exact hlk
   have hsn1:s∉own.take (j + 1):=by
    rw [htj,List.mem_append,not_or]
    exact ⟨hsn,by simpa using fun hh=>g hh.symm⟩
   rw [hf2]
   refine ql (fun g2=>?_) (fun g2=>?_)
   ·have g2:own[j]∉tk:=by simpa using g2
    refine qmo s hrow (by omega) ⟨_,rfl,qd (fun g3=>?_) (fun g3=>?_)⟩
    ·rw [hno (okO_bad hjl g3 hsn1 g2)] at h;exact h
    ·exact ⟨own.length - (j + 1),by omega,j + 1,by rw [qj (by omega)],by omega,rfl,hsn1,fun hm=>absurd hm g3,rfl⟩
   ·have g2:own[j]∈tk:=by simpa using g2
    refine ⟨own.length - (j + 1),by omega,j + 1,by rw [qj (by omega)],by omega,rfl,hsn1,fun hm o ho=>?_,rfl⟩
    rw [htj,List.mem_append,List.mem_singleton] at ho
    rcases ho with ho | rfl
    ·exact hall hm o ho
    ·exact g2
  ·rw [List.take_of_length_le (by omega)] at hsn
   exact hyes (okO_past hsn)
 ·rw [List.take_of_length_le (by omega)] at hz
  unfold freeB at h
  rw [hz] at h;exact h
theorem next_spec {S:Nat→Prop} {b5 b43 b46 b41 m:Nat} {oa:Option Addr} {on oc:Nat} {f2:Nm→Option Bool} (A:List (List Nm)) (tk:List Nm) (hA:∀ own∈A,own.length≤1000000∧∀ x∈own,x.length≤4611686018427387904) (hn:on≤1000000)
  (B5:Blk w b5 [.slice oa on oc] 96) (hR:RowsAt S w oa on A) (B43:Blk w b43 [.map (some b41)] 95) (hM:MapT prog 9 eS eB w b41 m f2) (hf2:∀ s,(f2 s).getD false=decide (s∈tk))
  (B46:Blk w b46 [.func (.func 63) ⟨[]⟩ ⟨[.pointer (some ⟨b5,0,none⟩),.pointer (some ⟨b43,0,none⟩)]⟩] 98) (h:R (.returned (.tuple ⟨[.string ⟨⟨(nextS A tk).getD []⟩⟩,.bool (nextS A tk).isSome]⟩)) w) :
  Calls prog qhv ⟨[.pointer (some ⟨b5,0,none⟩),.pointer (some ⟨b43,0,none⟩),.pointer (some ⟨b46,0,none⟩)]⟩ w R:=by
 apply qsu
 have hln:=hR.1
 refine dr_ok ⟨_,_,_,by rw [B5.cell];rfl,?_⟩
 refine ⟨fun i W m=>∃ k:Nat,i=k∧k≤on∧m=on - k∧(A.take k).flatten.find? (canB A tk)=none∧W=w,⟨_,0,rfl,by omega,rfl,rfl,rfl⟩,?_⟩
 rintro _ W m ⟨k,rfl,hk,rfl,hz,rfl⟩ _
 refine qd (fun hlt=>?_) (fun hge=>?_)
 ·have hkl:k < A.length:=by omega
  have hAk:=hA A[k] (List.getElem_mem hkl)
  obtain ⟨q,a',c',hq,c0,hrow⟩:=hR.get (show A[k]? = some A[k] by simp [hkl])
  have htk:A.take (k + 1)=A.take k++[A[k]]:=List.take_succ_eq_append_getElem hkl
  have hfl:A.flatten=(A.take k).flatten++(A[k]++(A.drop (k + 1)).flatten):=by
   conv=>lhs;rw [← List.take_append_drop k A,List.drop_eq_getElem_cons hkl]
   rw [List.flatten_append,List.flatten_cons]
  generalize A[k]=own at *
  refine hq _ ⟨_,_,_,c0,?_⟩
  refine ⟨fun i W2 m=>∃ j:Nat,i=j∧j≤own.length∧m=own.length - j∧((A.take k).flatten++own.take j).find? (canB A tk)=none∧W2=W,⟨_,0,rfl,by omega,rfl,by simpa using hz,rfl⟩,?_⟩
  rintro _ W2 m ⟨j,rfl,hj,rfl,hfn,rfl⟩ _
  refine qd (fun hlt2=>?_) (fun hge2=>?_)
  ·have hjl:j < own.length:=by omega
   obtain ⟨q2,hq2,d0⟩:=qei hrow hjl
   have htj:own.take (j + 1)=own.take j++[own[j]]:=List.take_succ_eq_append_getElem hjl
   have hol:=hAk.2 own[j] (List.getElem_mem hjl)
   have hdj:own=own.take j++own[j] :: own.drop (j + 1):=by
    conv=>lhs;rw [← List.take_append_drop j own,List.drop_eq_getElem_cons hjl]
   have go:canB A tk own[j]=false→∃ m',m' < own.length - j∧∃ j':Nat,i64.wrap ((j:Int) + 1)=j'∧j'≤own.length∧m'=own.length - j'∧((A.take k).flatten++own.take j').find? (canB A tk)=none∧W2=W2:=fun hh=>by
    refine ⟨own.length - (j + 1),by omega,j + 1,by rw [qj (by omega)],by omega,rfl,?_,rfl⟩
    rw [htj,← List.append_assoc,List.find?_append,hfn,List.find?_cons,hh];rfl
   refine hq2 _ ⟨_,d0,dr_ok ⟨_,by rw [B43.cell];rfl,(f2 own[j]).getD false,?_,?_⟩⟩
   ·have hlk:=hM.look kd9 (t:=95) (e:=4) (by kernel_rfl) (z:=.bool false) (qvr (by kernel_rfl) W2) (keyS hol)
    cases hv:f2 own[j] with
    | none=>rw [hv] at hlk;exact hlk
    | some v=>rw [hv] at hlk;exact hlk
   rw [hf2]
   refine ql (fun g2=>?_) (fun g2=>go ?_)
   ·have g2:own[j]∉tk:=by simpa using g2
    refine dr_ok ⟨.func 63,⟨[]⟩,⟨[.pointer (some ⟨b5,0,none⟩),.pointer (some ⟨b43,0,none⟩)]⟩,by rw [B46.cell];rfl,by kernel_rfl,?_⟩
    refine free_spec A tk own[j] hA hn B5 hR B43 hM hf2 ⟨_,rfl,ql (fun g3=>?_) (fun g3=>go ?_)⟩
    ·have hc:canB A tk own[j]=true:=by unfold canB;rw [decide_eq_false g2,g3];rfl
     have:nextS A tk=some own[j]:=by
      unfold nextS
      rw [hfl]
      conv=>lhs;arg 2;rw [hdj]
      rw [List.append_assoc,List.cons_append,← List.append_assoc]
      exact find_pre _ hfn hc
     rw [this] at h;exact h
    ·unfold canB;rw [g3,Bool.and_false]
   ·have g2:own[j]∈tk:=by simpa using g2
    unfold canB;rw [decide_eq_true g2];rfl
  ·rw [show own.take j=own from List.take_of_length_le (by omega)] at hfn
   refine ⟨on - (k + 1),by omega,k + 1,by rw [qj (by omega)],by omega,rfl,?_,rfl⟩
   rw [htk,List.flatten_append,List.flatten_cons,List.flatten_nil,List.append_nil];exact hfn
 ·rw [List.take_of_length_le (by omega)] at hz
  unfold nextS at h
  rw [hz] at h;exact h
end
def ordE (L:List Wt):Int:=if chkW L≠0 then chkW L else if 64 < (ddL L).length then 4 else if (ordG (secL L) (ddL L).length []).isSome=true then 0 else 15
def ordR (L:List Wt):List Nm:=if ordE L=0 then (ordG (secL L) (ddL L).length []).getD [] else []
theorem q54 (L:List Wt) (x:Wt):secL (L++[x])=secL L++[secs x.2]:=by unfold secL;rw [List.map_append];rfl
theorem ddL_snoc (L:List Wt) (x:Wt):ddL (L++[x])=ddS (ddL L) (secs x.2):=by
 unfold ddL
 rw [q54,List.flatten_append,q86];simp
theorem qvs {x:Wt} (h:witE x=0):(secs x.2).length≤4096∧∀ s∈secs x.2,s.length≤16:=by
 have h1:=qk6 x.2
 have h2:=x.2.len_le_size
 have h3:=qk5 h
 refine ⟨by omega,fun s hs=>?_⟩
 have:=q1w (qpw (qoj h)) s hs
 unfold qaa at this
 simp only [Bool.and_eq_true,decide_eq_true_eq] at this
 omega
theorem secL_bd {L:List Wt} (h:∀ x∈L,witE x=0):∀ own∈secL L,own.length≤1000000∧∀ x∈own,x.length≤4611686018427387904:=by
 intro own ho
 unfold secL at ho
 obtain ⟨x,hx,rfl⟩:=List.mem_map.1 ho
 obtain ⟨h1,h2⟩:=qvs (h x hx)
 exact ⟨by omega,fun s hs=>by have:=h2 s hs;omega⟩
theorem ddL_bd {L:List Wt} (h:∀ x∈L,witE x=0):∀ s∈ddL L,s.length≤4611686018427387904:=by
 intro s hs
 unfold ddL at hs
 rw [q8w] at hs
 rcases hs with hs | hs
 ·cases hs
 ·obtain ⟨own,h1,h2⟩:=List.mem_flatten.1 hs
  exact (secL_bd h own h1).2 s h2
theorem slT_rows:SlT prog 96 31 1 24 (.slice none 0 0):=⟨by kernel_rfl,by kernel_rfl,rfl,by decide⟩
section
variable {R:Ending→World→Prop} {w:World}
theorem Order_spec {S:Nat→Prop} {a:Option Addr} {n c:Nat} (L:List Wt) (hs:∀ x∈L,small x.2) (hF:Forms w) (hR:SlW S w a n L)
  (h:∀ a' n' c' w',OwnL Sh.encStr w' w.heap.size 9 a' n' c' (ordR L)→Ext w w'→R (.returned (.tuple ⟨[.slice a' n' c',.int .i64 (ordE L)]⟩)) w'):Calls prog qkr ⟨[.slice a n c]⟩ w R:=by
 apply qx8
 have bad:∀ (e:Int) (v:World),Ext w v→ordE L=e→e≠0→R (.returned (.tuple ⟨[.slice none 0 0,.int .i64 e]⟩)) v:=by
  intro e v ev he h0
  have h1:ordR L=[]:=by unfold ordR;rw [if_neg (by omega)]
  rw [h1,he] at h
  exact h none 0 0 v (Owns.nil _ _ _ _) ev
 refine qx5 L hs hF hR fun w3 e3=>⟨_,rfl,qd (fun g=>bad _ w3 e3 (by unfold ordE;rw [if_pos g]) g) (fun g=>?_)⟩
 have g0:chkW L=0:=Decidable.not_not.1 g
 obtain ⟨hl32,hwit⟩:=qx4 g0
 have hln:=hR.1
 have z3:=e3.size
 refine qh fun b5 w6 hb5 B5 e6 s6=>qpi fun b7 w8 hb7 hm7 e8 s8=>?_
 have E8:=qb e3 (qb e6 e8)
 have B58:=B5.ext e8
 have M8:MapN prog 9 eS eB w8 b7 0 (fun _=>none):=MapN.of0 (hm7 _ _ _ _)
 refine ⟨fun i W m=>∃ (k:Nat) (oa:Option Addr) (oc:Nat) (vs:List Value) (f2:Nm→Option Bool),i=k∧k≤n∧m=n - k∧Blk W b5 [.slice oa k oc] 96∧Owns W w8.heap.size 31 1 oa k oc vs∧AllC (fun j=>w8.heap.size≤j∧¬ bk oa j) W (secL (L.take k)) vs∧MapN prog 9 eS eB W b7 (ddL (L.take k)).length f2∧(∀ s,(f2 s).isSome=decide (s∈ddL (L.take k)))∧Ext w W∧w8.heap.size≤W.heap.size,
  ⟨_,0,none,0,[],fun _=>none,rfl,by omega,rfl,B58,Owns.nil _ _ _ _,rfl,M8,fun s=>by simp [ddL,secL,ddS],E8,Nat.le_refl _⟩,?_⟩
 rintro _ W m ⟨k,oa,oc,vs,f2,rfl,hk,rfl,C5,hO,hA,hM,hf2,he,z8⟩ _
 have hbO:∀ j,bk oa j→w8.heap.size≤j∧j < W.heap.size:=fun j hj=>hO.bk hj
 refine qd (fun hlt=>?_) (fun hge=>?_)
 ·have hkl:k < L.length:=by omega
  obtain ⟨q,a',c',hq,c0,c1,hf⟩:=(hR.ext he).get (show L[k]? = some L[k] by simp [hkl])
  have hx:=hwit L[k] (List.getElem_mem hkl)
  have htk:L.take (k + 1)=L.take k++[L[k]]:=List.take_succ_eq_append_getElem hkl
  have hsec:secL (L.take (k + 1))=secL (L.take k)++[secs L[k].2]:=by rw [htk,q54]
  have hddl:ddL (L.take (k + 1))=ddS (ddL (L.take k)) (secs L[k].2):=by rw [htk,ddL_snoc]
  have hddlen:=q32 (secL (L.take k)).flatten []
  generalize L[k]=x at *
  obtain ⟨hsl,hsn⟩:=qvs hx
  have hsz:=qk5 hx
  refine hq _ ⟨_,c0,_,_,_,c1,?_⟩
  refine qw rfl one2 fun b17 w19 hb17 B17 e19 s19=>?_
  obtain ⟨y0,y1⟩:=blk2w B17
  have E19:=qb he e19
  refine ⟨_,_,_,y1,qsg x.2 (by omega) (hf.ext e19) fun an nn nc w22 hN e22=>⟨_,_,_,rfl,?_⟩⟩
  have e1922:=qb e19 e22
  have E22:=qb he e1922
  have hRow:=OwnL.out hN
  have hnn:=hRow.1
  subst hnn
  have z19:=e19.size
  have z22:=e22.size
  have D5:=C5.ext e1922
  refine ⟨_,_,_,by rw [D5.cell];rfl,?_⟩
  have hbN:∀ j,bk an j→w19.heap.size≤j∧j < w22.heap.size:=fun j hj=>hN.bk hj
  refine qfd slT_rows (hO.ext e1922) (by omega) [.slice an (secs x.2).length nc] rfl (by intro u hu;simp only [List.mem_singleton] at hu;subst hu;rfl) (by omega) (by omega) fun a27 c27 w28 ho hc hn=>?_
  have hA22:AllC (fun j=>w8.heap.size≤j∧¬ bk a27 j) w28 (secL (L.take k)) vs:=hA.keep (fun j hj hl=>⟨⟨hj.1,fun hh=>(hn j hh).elim hj.2 fun h=>by omega⟩,(hc.block j (by omega) hj.2).trans (e1922.block j hl)⟩) (by have:=hc.size;omega)
  have hR28:RowAt Sh.encStr (fun j=>w8.heap.size≤j∧¬ bk a27 j) w28 an (secs x.2).length (secs x.2):=hRow.keep (fun j hj hl=>⟨⟨by have:=hbN j hj;omega,fun hh=>(hn j hh).elim (fun h=>by have:=hbO j h;have:=hbN j hj;omega) fun h=>by omega⟩,hc.block j hl fun h=>by have:=hbO j h;have:=hbN j hj;omega⟩) hc.size
  have hA28:=AllC.snoc (c:=nc) hR28 hA22
  rw [← hsec] at hA28
  have b5l:=B58.lt
  have D528:=hc.blk D5 (fun hh=>by have:=hbO _ hh;omega)
  refine qr D528 rfl fun w29 q1 q2 q3=>?_
  have hb27:∀ j,bk a27 j→w8.heap.size≤j:=fun j hj=>(ho.bk hj).1
  have hO29:=ho.chg q2 (fun j hj hh=>by have:=hb27 j hj;omega)
  have hA29:AllC (fun j=>w8.heap.size≤j∧¬ bk a27 j) w29 (secL (L.take (k + 1))) (vs++[.slice an (secs x.2).length nc]):=hA28.keep (fun j hj hl=>⟨hj,q2.block j hl (by omega)⟩) (by omega)
  have hR29:RowAt Sh.encStr (fun j=>w8.heap.size≤j∧¬ bk a27 j) w29 an (secs x.2).length (secs x.2):=hR28.keep (fun j hj hl=>⟨hj,q2.block j hl (by omega)⟩) (by omega)
  have hM29:=(((hM.ext e1922).chg hc (fun hh=>by have:=hbO _ hh;have:=hM.toT.lt;omega)).chg q2 (by omega))
  have E29:Ext w w29:=qi (qi E22 hc fun j hj=>by have:=hbO j hj;have:=E8.size;omega) q2 fun j hj=>by omega
  have z28:=hc.size
  have z29:w8.heap.size≤w29.heap.size:=by omega
  refine ⟨fun i W2 m=>∃ (t:Nat) (f3:Nm→Option Bool),i=t∧t≤(secs x.2).length∧m=(secs x.2).length - t∧MapN prog 9 eS eB W2 b7 (ddS (ddL (L.take k)) ((secs x.2).take t)).length f3∧(∀ s,(f3 s).isSome=decide (s∈ddS (ddL (L.take k)) ((secs x.2).take t)))∧Chg (fun j=>j=b7) w29 W2,
   ⟨_,0,f2,rfl,by omega,rfl,hM29,hf2,Chg.refl _ _⟩,?_⟩
  rintro _ W2 m ⟨t,f3,rfl,ht,rfl,M2,hf3,hc2⟩ _
  have zW2:=hc2.size
  have R2:=hR29.keep (S':=fun j=>w8.heap.size≤j∧¬ bk a27 j) (w':=W2) (fun j hj hl=>⟨hj,hc2.block j hl (by omega)⟩) zW2
  refine qd (fun hlt2=>?_) (fun hge2=>?_)
  ·have htl:t < (secs x.2).length:=by omega
   obtain ⟨q,hq,d0⟩:=qei R2 htl
   have htt:(secs x.2).take (t + 1)=(secs x.2).take t++[(secs x.2)[t]]:=List.take_succ_eq_append_getElem htl
   have hyl:=hsn _ (List.getElem_mem htl)
   have hdl2:=q32 ((secs x.2).take t) (ddL (L.take k))
   have hdl3:(ddL (L.take k)).length≤4096 * 32:=by
    have h1:∀ L':List Wt,(∀ x∈L',witE x=0)→(ddL L').length≤4096 * L'.length:=by
     intro L' hL'
     unfold ddL
     have h2:=q32 (secL L').flatten []
     have h3:(secL L').flatten.length≤4096 * L'.length:=by
      clear h2
      induction L' with
      | nil=>simp [secL]
      | cons y l ih =>
       have h4:=ih fun z hz=>hL' z (List.mem_cons_of_mem _ hz)
       have h5:=(qvs (hL' y (List.mem_cons_self))).1
       have h6:secL (y :: l)=secs y.2 :: secL l:=rfl
       rw [h6,List.flatten_cons,List.length_append,List.length_cons];omega
     rw [List.length_nil,Nat.zero_add] at h2;omega
    have:=h1 (L.take k) fun z hz=>hwit z (List.mem_of_mem_take hz)
    rw [List.length_take] at this
    omega
   rw [List.length_take] at hdl2
   refine hq _ ⟨_,d0,?_⟩
   have sn:=ddS_snoc (ddL (L.take k)) ((secs x.2).take t) (secs x.2)[t]
   rw [← htt] at sn
   generalize (secs x.2)[t]=y at *
   refine MapN.update (eV:=eB) (v:=true) M2 kd9 (t:=95) (e:=4) (by kernel_rfl) (by simp only [maxLen];omega) (keyS (by omega)) (fun z hz=>by simpa using hz) fun w37 g37 M37 hc37 hv37 ho37=>?_
   rw [hf3] at M37
   refine ⟨(secs x.2).length - (t + 1),by omega,t + 1,g37,by rw [qj (by omega)],by omega,rfl,?_,fun s=>?_,hc2.trans hc37⟩
   ·rw [sn]
    by_cases hy:y∈ddS (ddL (L.take k)) ((secs x.2).take t)
    ·rw [if_pos hy]
     rw [decide_eq_true hy,if_pos rfl] at M37;exact M37
    ·rw [if_neg hy,List.length_append]
     rw [decide_eq_false hy,if_neg (by decide)] at M37;exact M37
   ·by_cases hsy:s=y
    ·rw [hsy,hv37,sn]
     by_cases hy:y∈ddS (ddL (L.take k)) ((secs x.2).take t)
     ·rw [if_pos hy,decide_eq_true hy];rfl
     ·rw [if_neg hy];simp
    ·rw [ho37 s hsy,hf3,sn]
     by_cases hy:y∈ddS (ddL (L.take k)) ((secs x.2).take t)
     ·rw [if_pos hy]
     ·rw [if_neg hy];simp [hsy]
  ·have:t=(secs x.2).length:=by omega
   subst this
   rw [show (secs x.2).take (secs x.2).length=secs x.2 from List.take_of_length_le (by omega),← hddl] at M2 hf3
   refine ⟨n - (k + 1),by omega,k + 1,a27,c27,vs++[.slice an (secs x.2).length nc],f3,by rw [qj (by omega)],by omega,rfl,hc2.blk q1 (by omega),hO29.chg hc2 (fun j hj hh=>by have:=hb27 j hj;omega),hA29.keep (fun j hj hl=>⟨hj,hc2.block j hl (by omega)⟩) zW2,M2,hf3,qi E29 hc2 fun j hj=>by have:=e3.size;have:=e6.size;omega,by omega⟩
 ·have hkn:k=L.length:=by omega
  rw [List.take_of_length_le (by omega)] at hA hM hf2
  have hordE:ordE L=if 64 < (ddL L).length then 4 else if (ordG (secL L) (ddL L).length []).isSome=true then 0 else 15:=by unfold ordE;rw [if_neg g]
  have z6:=e6.size
  refine hM.len (qd (fun g64=>bad 4 W he (by rw [hordE,if_pos (by omega)]) (by decide)) (fun g64=>?_))
  rw [if_neg (by omega)] at hordE
  refine qpi fun b41 w42 hb41 hm41 e42 s42=>?_
  refine qh fun b43 w44 hb43 B43 e44 s44=>qr B43 rfl fun w45 q1 q2 q3=>?_
  refine qh fun b46 w47 hb46 B46 e47 s47=>qr B46 rfl fun w48 r1 r2 r3=>?_
  have e4245:Ext w42 w45:=qi e44 q2 fun j hj=>by omega
  have e4548:Ext w45 w48:=qi e47 r2 fun j hj=>by omega
  have eW48:Ext W w48:=qb e42 (qb e4245 e4548)
  have zW:=eW48.size
  have F5:=C5.ext eW48
  have F43:=q1.ext e4548
  have M48:MapT prog 9 eS eB w48 b41 0 (fun _=>none):=((hm41 _ _ _ _).ext e4245).ext e4548
  have hRows:RowsAt (fun j=>w8.heap.size≤j) w48 oa k (secL L):=by
   refine ⟨by unfold secL;rw [List.length_map];exact hkn,vs,((q8o hO).keep (S':=fun j=>w8.heap.size≤j) (w':=w48) (fun j hj hl=>⟨(hbO j hj).1,eW48.block j hl⟩) zW),hA.keep (fun j hj hl=>⟨hj.1,eW48.block j hl⟩) zW⟩
  have hRl:RowsAt (fun j=>w8.heap.size≤j∧j < W.heap.size) w48 oa k (secL L):=by
   refine ⟨by unfold secL;rw [List.length_map];exact hkn,vs,((q8o hO).keep (w':=w48) (fun j hj hl=>⟨hbO j hj,eW48.block j hl⟩) zW),?_⟩
   have:=hA.keep (S':=fun j=>w8.heap.size≤j∧j < W.heap.size) (w':=w48) (fun j hj hl=>⟨⟨hj.1,hl⟩,eW48.block j hl⟩) zW
   exact this
  have M48d:=hM.ext eW48
  have hbd:=secL_bd hwit
  have hdbd:=ddL_bd hwit
  refine ⟨fun ob obn obc W2 m=>∃ (out:List Nm) (f4:Nm→Option Bool),out.length≤(ddL L).length∧m=(ddL L).length - out.length∧ordG (secL L) m out=ordG (secL L) (ddL L).length []∧OwnL Sh.encStr W2 w48.heap.size 9 ob obn obc out∧MapT prog 9 eS eB W2 b41 out.length f4∧(∀ s,(f4 s).getD false=decide (s∈out))∧Chg (fun j=>j=b41) w48 W2,
   ⟨_,[],fun _=>none,Nat.zero_le _,rfl,rfl,Owns.nil _ _ _ _,M48,fun s=>by simp,Chg.refl _ _⟩,?_⟩
  rintro ob obn obc W2 m ⟨out,f4,hol,rfl,hog,pO,pM,hf4,pc⟩ _
  have pon:=OwnL.length pO
  have zW2:=pc.size
  have md:=M48d.chg pc (by have:=hM.toT.lt;omega)
  have E48:Ext w w48:=qb he eW48
  have EW2:Ext w W2:=qi E48 pc fun j hj=>by have:=he.size;omega
  refine md.len (qd (fun hlt2=>?_) (fun hge2=>?_))
  ·have hm1:(ddL L).length - out.length=(ddL L).length - (out.length + 1) + 1:=by omega
   rw [hm1,ordG] at hog
   have R2:=hRl.keep (S':=fun j=>w8.heap.size≤j∧j < W.heap.size) (w':=W2) (fun j hj hl=>⟨hj,pc.block j hl (by omega)⟩) zW2
   have X43:=pc.blk F43 (by omega)
   refine ⟨by kernel_rfl,next_spec (secL L) out hbd (by omega) (pc.blk F5 (by have:=C5.lt;omega)) R2 X43 pM hf4 (pc.blk r1 (by omega)) ⟨_,_,rfl,?_⟩⟩
   cases hns:nextS (secL L) out with
   | none =>
    rw [hns] at hog
    refine bad 15 W2 EW2 ?_ (by decide)
    rw [hordE,← hog];rfl
   | some s =>
    rw [hns] at hog
    obtain ⟨n1,n2,n3⟩:=nextS_mem hns
    have hsl:s.length≤4611686018427387904:=hdbd s (by unfold ddL;rw [q8w];exact .inr n1)
    refine ⟨_,by rw [X43.cell];rfl,?_⟩
    refine MapT.update (eV:=eB) (v:=true) pM kd9 (t:=95) (e:=4) (by kernel_rfl) (by simp only [maxLen];omega) (keyS hsl) (fun z hz=>by simpa using hz) fun w60 g60 M60 hc60 hv60 ho60=>?_
    have hc60':Chg (fun j=>j=b41) W2 w60:=hc60
    have pO60:OwnL Sh.encStr w60 w48.heap.size 9 ob obn obc out:=Owns.chg pO hc60' (fun j hj hh=>by have:=pO.bk hj;omega)
    refine OwnL.push (E:=Sh.encStr) qop pO60 (by have:=hc60'.size;omega) s (by omega) (by omega) fun a63 c63 w64 ro rc rn=>?_
    have nb:∀ j,bk ob j→w48.heap.size≤j:=fun j hj=>(pO.bk hj).1
    refine ⟨(ddL L).length - (out.length + 1),by omega,out++[s],g60,by simp;omega,by simp,hog,ro,(M60.chg rc (fun hh=>by have:=nb _ hh;omega)).mono (by simp),fun t=>?_,?_⟩
    ·by_cases hts:t=s
     ·rw [hts,hv60];simp
     ·rw [ho60 t hts,hf4];simp [hts]
    ·refine ⟨rc.os.trans ((pc.trans hc60').os),rc.tape.trans ((pc.trans hc60').tape),rc.output.trans ((pc.trans hc60').output),Nat.le_trans (pc.trans hc60').size rc.size,fun j hj hn=>?_⟩
     exact (rc.block j (Nat.lt_of_lt_of_le hj (pc.trans hc60').size) (fun hh=>by have:=nb _ hh;omega)).trans ((pc.trans hc60').block j hj hn)
  ·have hl0:(ddL L).length - out.length=0:=by omega
   rw [hl0,ordG] at hog
   have h0:ordE L=0:=by rw [hordE,← hog];rfl
   have h1:ordR L=out:=by unfold ordR;rw [if_pos h0,← hog];rfl
   rw [h1,h0] at h
   exact h ob obn obc W2 (Owns.weak pO (by have:=E48.size;omega)) EW2
end
section
variable {α:Type}
def AllE (E:Enc α) (S:Nat→Prop) (w:World):List (List α)→List Value→Prop
 | [],vs=>vs=[]
 | o :: A,vs=>∃ a c vs',vs=.slice a o.length c :: vs'∧RowAt E S w a o.length o∧AllE E S w A vs'
variable {E:Enc α} {S S':Nat→Prop} {w w':World}
theorem AllE.keep (hs:∀ k,S k→k < w.heap.size→S' k∧w'.heap[k]? = w.heap[k]?) (hz:w.heap.size≤w'.heap.size):∀ {A:List (List α)} {vs:List Value},AllE E S w A vs→AllE E S' w' A vs
 | [],_,h=>h
 | _ :: _,_,⟨a,c,vs',h1,h2,h3⟩=>⟨a,c,vs',h1,h2.keep hs hz,AllE.keep hs hz h3⟩
theorem AllE.snoc {o:List α} {a:Option Addr} {c:Nat} (ho:RowAt E S w a o.length o):∀ {A:List (List α)} {vs:List Value},AllE E S w A vs→AllE E S w (A++[o]) (vs++[.slice a o.length c])
 | [],vs,h=>by
  have h:vs=[]:=h
  subst h
  exact ⟨a,c,[],rfl,ho,rfl⟩
 | _ :: _,_,⟨a',c',vs',h1,h2,h3⟩=>⟨a',c',vs'++[.slice a o.length c],by rw [h1];rfl,h2,AllE.snoc ho h3⟩
theorem AllE.get {o:List α}:∀ {A:List (List α)} {vs:List Value} {i:Nat},AllE E S w A vs→A[i]? = some o→∃ a c,vs[i]? = some (.slice a o.length c)∧RowAt E S w a o.length o
 | [],_,i,_,h=>by simp at h
 | y :: A,vs,0,⟨a,c,vs',h1,h2,h3⟩,h=>by
  simp only [List.getElem?_cons_zero,Option.some.injEq] at h
  subst h
  exact ⟨a,c,by rw [h1];rfl,h2⟩
 | y :: A,vs,i + 1,⟨a,c,vs',h1,h2,h3⟩,h=>by
  obtain ⟨a',c',e1,e2⟩:=AllE.get (i:=i) h3 (by simpa using h)
  exact ⟨a',c',by rw [h1];exact e1,e2⟩
def RowsE (E:Enc α) (S:Nat→Prop) (w:World) (a:Option Addr) (n:Nat) (A:List (List α)):Prop:=n=A.length∧∃ vs,At S w a vs∧AllE E S w A vs
theorem RowsE.keep {a:Option Addr} {n:Nat} {A:List (List α)} (h:RowsE E S w a n A) (hs:∀ k,S k→k < w.heap.size→S' k∧w'.heap[k]? = w.heap[k]?) (hz:w.heap.size≤w'.heap.size):RowsE E S' w' a n A:=by
 obtain ⟨h1,vs,h2,h3⟩:=h
 exact ⟨h1,vs,h2.keep hs hz,h3.keep hs hz⟩
theorem RowsE.ext {a:Option Addr} {n:Nat} {A:List (List α)} (h:RowsE E S w a n A) (he:Ext w w'):RowsE E S w' a n A:=h.keep (fun k hk hl=>⟨hk,he.block k hl⟩) he.size
theorem RowsE.get {a:Option Addr} {n:Nat} {A:List (List α)} (h:RowsE E S w a n A) {i:Nat} {o:List α} (hi:A[i]? = some o) :
  ∃ q a' c',(∀ K:Addr→Prop,K q→idx a n (i:Int) 1 K)∧w.cell? q=some (.slice a' o.length c')∧RowAt E S w a' o.length o:=by
 obtain ⟨h1,vs,h2,h3⟩:=h
 obtain ⟨a',c',e1,e2⟩:=h3.get hi
 rcases h2 with h2 | ⟨b,o',rfl,hS,hb,hc⟩
 ·rw [h2] at e1;simp at e1
 ·refine ⟨⟨b,o' + i,none⟩,a',c',fun K hK=>⟨by omega,?_,?_⟩,hc _ _ e1,e2⟩
  ·have:=(List.getElem?_eq_some_iff.1 hi).1
   omega
  ·show K _
   rw [qg,Int.toNat_natCast,Nat.mul_one];exact hK
end
def witOf (L:List Wt) (y:Src):Wt:=(L[y.2.1.toNat]?).getD ([],.nil)
def hasS (L:List Wt) (sec:Nm) (y:Src):Bool:=decide (sec∈secs (witOf L y).2)
def tkE1 (L:List Wt) (rs:List Rw) (sec:Nm) (y:Src):Int:=tksE (posS (stF (witOf L y).2 y.2.2) sec) (bodyS (stF (witOf L y).2 y.2.2) sec) rs
def tkR1 (L:List Wt) (rs:List Rw) (sec:Nm) (y:Src):List Tok:=tksR (posS (stF (witOf L y).2 y.2.2) sec) (bodyS (stF (witOf L y).2 y.2.2) sec) rs
def firE:List Int→Int
 | []=>0
 | e :: l=>if e≠0 then e else firE l
theorem firE_app:∀ {l:List Int} (e:Int) (m:List Int),(∀ x∈l,x=0)→e≠0→firE (l++e :: m)=e
 | [],e,m,_,h=>by rw [List.nil_append,firE,if_pos h]
 | x :: l,e,m,hl,h=>by
  rw [List.cons_append,firE,if_neg (by rw [hl x (List.mem_cons_self)];simp),firE_app e m (fun y hy=>hl y (List.mem_cons_of_mem _ hy)) h]
theorem q6u:∀ {l:List Int},(∀ x∈l,x=0)→firE l=0
 | [],_=>rfl
 | x :: l,hl=>by rw [firE,if_neg (by rw [hl x (List.mem_cons_self)];simp),q6u fun y hy=>hl y (List.mem_cons_of_mem _ hy)]
def selS (L:List Wt) (sec:Nm):List Src:=(allS L 0).filter (hasS L sec)
def tokWE (L:List Wt) (rs:List Rw) (sec:Nm):Int:=if srcE L≠0 then srcE L else if selS L sec=[] then 6 else firE ((selS L sec).map (tkE1 L rs sec))
def tokWS (L:List Wt) (rs:List Rw) (sec:Nm):List Nm:=if tokWE L rs sec=0 then (selS L sec).map (·.1) else []
def tokWT (L:List Wt) (rs:List Rw) (sec:Nm):List (List Tok):=if tokWE L rs sec=0 then (selS L sec).map (tkR1 L rs sec) else []
theorem srcE_zero {L:List Wt} (h:srcE L=0):chkW L=0∧(allS L 0).length≤32∧((allS L 0).map (·.1)).Nodup:=by
 unfold srcE at h
 split at h
 ·rename_i h1;exact absurd h h1
 rename_i h1
 split at h
 ·rename_i h2
  split at h
  ·cases h
  ·rename_i h3;exact ⟨Decidable.not_not.1 h1,by omega,h2⟩
 ·cases h
theorem src_facts {L:List Wt} {y:Src} (h:y∈allS L 0):∃ k:Nat,y.2.1=(k:Int)∧L[k]? = some (witOf L y)∧0≤y.2.2∧y.2.2≤8:=by
 obtain ⟨k,x,h1,h2⟩:=q44 h
 rw [Nat.zero_add] at h2
 have hw:y.2.1=(k:Int)∧0≤y.2.2∧y.2.2≤8:=by
  unfold qg8 at h2
  split at h2
  ·rw [List.mem_singleton] at h2;subst h2;exact ⟨rfl,by show (0:Int)≤0;decide,by show (0:Int)≤8;decide⟩
  ·rw [List.mem_cons,List.mem_map] at h2
   rcases h2 with rfl | ⟨j,hj,rfl⟩
   ·exact ⟨rfl,by show (0:Int)≤0;decide,by show (0:Int)≤8;decide⟩
   ·have:=hands_bd hj
    exact ⟨rfl,by show 0≤j;omega,by show j≤8;omega⟩
 refine ⟨k,hw.1,?_,hw.2⟩
 unfold witOf
 rw [hw.1,Int.toNat_natCast,h1];rfl
theorem slT_tkr:SlT prog 36 40 1 24 (.slice none 0 0):=⟨by kernel_rfl,by kernel_rfl,rfl,by decide⟩
section
variable {R:Ending→World→Prop} {w:World}
theorem q7h {S S2:Nat→Prop} {a a2:Option Addr} {n c n2 c2:Nat} (L:List Wt) (rs:List Rw) (sec:Nm) (hs:∀ x∈L,small x.2) (hF:Forms w) (hR:SlW S w a n L) (hsm:qwh rs) (hRu:RowAt encRw S2 w a2 n2 rs)
  (h:∀ a' n' c' a'' n'' c'' w',RowAt Sh.encStr (fun k=>w.heap.size≤k) w' a' n' (tokWS L rs sec)→RowsE encTk (fun k=>w.heap.size≤k) w' a'' n'' (tokWT L rs sec)→Ext w w'→R (.returned (.tuple ⟨[.slice a' n' c',.slice a'' n'' c'',.int .i64 (tokWE L rs sec)]⟩)) w') :
  Calls prog qix ⟨[.slice a n c,.slice a2 n2 c2,.string ⟨⟨sec⟩⟩]⟩ w R:=by
 apply qu3
 have bad:∀ (e:Int) (v:World),Ext w v→tokWE L rs sec=e→e≠0→R (.returned (.tuple ⟨[.slice none 0 0,.slice none 0 0,.int .i64 e]⟩)) v:=by
  intro e v ev he h0
  have h1:tokWS L rs sec=[]:=by unfold tokWS;rw [if_neg (by omega)]
  have h2:tokWT L rs sec=[]:=by unfold tokWT;rw [if_neg (by omega)]
  rw [h1,h2,he] at h
  exact h none 0 0 none 0 0 v (RowAt.nil _) ⟨rfl,[],.inl rfl,rfl⟩ ev
 refine qt0 L hs hF hR fun xa xn xc w5 hX e5=>⟨_,_,_,_,rfl,qd (fun g=>bad _ w5 e5 (by unfold tokWE;rw [if_pos g]) g) (fun g=>?_)⟩
 have g0:srcE L=0:=Decidable.not_not.1 g
 obtain ⟨gc,gl,gn⟩:=srcE_zero g0
 obtain ⟨hl32,hwit⟩:=qx4 gc
 have hsr:srcR L=allS L 0:=by unfold srcR;rw [if_pos g0]
 rw [hsr] at hX
 have hXR:=(OwnL.out (E:=encSr) hX)
 have hxn:=hXR.1
 have z5:=e5.size
 have hlx:∀ j,bk xa j→j < w5.heap.size:=fun j hj=>(hX.bk hj).2
 have htE:tokWE L rs sec=if selS L sec=[] then 6 else firE ((selS L sec).map (tkE1 L rs sec)):=by unfold tokWE;rw [if_neg g]
 refine ⟨fun sa sn sc ta tn tc i W m=>∃ (k:Nat) (vs:List Value),i=k∧k≤xn∧m=xn - k∧OwnL Sh.encStr W w5.heap.size 9 sa sn sc ((((allS L 0).take k).filter (hasS L sec)).map (·.1))∧Owns W w5.heap.size 40 1 ta tn tc vs∧tn=sn ∧
   AllE encTk (fun j=>w5.heap.size≤j∧¬ bk sa j∧¬ bk ta j) W ((((allS L 0).take k).filter (hasS L sec)).map (tkR1 L rs sec)) vs∧(∀ j,bk sa j→¬ bk ta j)∧(∀ y∈((allS L 0).take k).filter (hasS L sec),tkE1 L rs sec y=0)∧Ext w5 W,
  ⟨_,0,[],rfl,by omega,rfl,Owns.nil _ _ _ _,Owns.nil _ _ _ _,rfl,rfl,fun j hj=>by simp [bk] at hj,fun y hy=>by simp at hy,Below.refl _ _⟩,?_⟩
 rintro sa sn sc ta tn tc _ W m ⟨k,vs,rfl,hk,rfl,pS,pT,rfl,pA,pD,pE,he5⟩ _
 have he:=qb e5 he5
 have zW:=he5.size
 have psl:=OwnL.length pS
 have pfl:(((allS L 0).take k).filter (hasS L sec)).length≤k:=by
  refine Nat.le_trans (List.length_filter_le _ _) ?_
  rw [List.length_take];omega
 rw [List.length_map] at psl
 refine qd (fun hlt=>?_) (fun hge=>?_)
 ·have hkl:k < (allS L 0).length:=by omega
  obtain ⟨q,hq,c0,c1,c2⟩:=qrv (hXR.ext he5) (show (allS L 0)[k]? = some (allS L 0)[k] by simp [hkl])
  have htk:(allS L 0).take (k + 1)=(allS L 0).take k++[(allS L 0)[k]]:=List.take_succ_eq_append_getElem hkl
  have hdk:allS L 0=(allS L 0).take k++(allS L 0)[k] :: (allS L 0).drop (k + 1):=by
   conv=>lhs;rw [← List.take_append_drop k (allS L 0),List.drop_eq_getElem_cons hkl]
  obtain ⟨wi,y1,y2,y3,y4⟩:=src_facts (List.getElem_mem hkl)
  generalize (allS L 0)[k]=y at *
  have hx:=hwit (witOf L y) (List.mem_of_getElem? y2)
  have hsx:=hs (witOf L y) (List.mem_of_getElem? y2)
  have hxz:=qk5 hx
  refine hq _ ⟨_,c0,_,c1,_,c2,?_⟩
  refine qw rfl (by intro u hu;simp only [List.mem_cons,List.not_mem_nil,or_false] at hu;rcases hu with rfl | rfl | rfl <;> rfl) fun b19 w21 hb19 B19 e21 s21=>?_
  have cl:∀ {v:World} (_:Ext w21 v),v.cell? ((⟨b19,0,none⟩:Addr).add 0)=some (.string ⟨⟨y.1⟩⟩)∧v.cell? ((⟨b19,0,none⟩:Addr).add 1)=some (.int .i64 y.2.1)∧v.cell? ((⟨b19,0,none⟩:Addr).add 2)=some (.int .i64 y.2.2):=fun hv=>by
   simp only [qg,(B19.ext hv).cell];exact ⟨rfl,rfl,rfl⟩
  obtain ⟨d0,d1,d2⟩:=cl (Below.refl _ _)
  have E21:=qb he e21
  have E521:=qb he5 e21
  have rdW:∀ {v:World},Ext w v→∃ q a' c',(∀ K:Addr→Prop,K q→idx a n y.2.1 2 K)∧v.cell? (q.add 0)=some (.string ⟨⟨(witOf L y).1⟩⟩)∧v.cell? (q.add 1)=some (.slice a' (witOf L y).2.len c')∧SlF S v a' (witOf L y).2.len (witOf L y).2:=fun hv=>by
   rw [y1];exact (hR.ext hv).get y2
  obtain ⟨q3,a3,c3,hq3,f0,f1,hf3⟩:=rdW E21
  refine ⟨_,d1,hq3 _ ⟨_,_,_,f1,qsg _ (by omega) hf3 fun an nn nc w26 hN e26=>⟨_,_,_,rfl,?_⟩⟩⟩
  have hNR:=OwnL.out hN
  have hnn:=hNR.1
  have hsl:=(qvs hx).1
  refine qmo sec hNR (by omega) ⟨_,rfl,?_⟩
  have e2126:=qb e21 e26
  have E26:=qb he e2126
  have E526:=qb he5 e2126
  have z26:=e2126.size
  refine ql (fun gs=>?_) (fun gs=>?_)
  ·have gs:sec∉secs (witOf L y).2:=by simpa using gs
   have hfil:((allS L 0).take (k + 1)).filter (hasS L sec)=((allS L 0).take k).filter (hasS L sec):=by
    rw [htk,List.filter_append,List.filter_cons,if_neg (by unfold hasS;simpa using gs)];simp
   exact ⟨xn - (k + 1),by omega,k + 1,vs,by rw [qj (by omega)],by omega,rfl,by rw [hfil];exact Owns.ext pS e2126,Owns.ext pT e2126,rfl,by rw [hfil];exact pA.keep (fun j hj hl=>⟨hj,e2126.block j hl⟩) z26,pD,by rw [hfil];exact pE,E526⟩
  have gs:sec∈secs (witOf L y).2:=by simpa using gs
  have hfil:((allS L 0).take (k + 1)).filter (hasS L sec)=((allS L 0).take k).filter (hasS L sec)++[y]:=by
   rw [htk,List.filter_append,List.filter_cons,if_pos (by unfold hasS;simpa using gs)];simp
  have hpe:parE (witOf L y) sec y.2.2=0:=by unfold parE;rw [if_neg (by rw [hx];simp),if_neg (by omega),if_pos gs]
  have hpR:parR (witOf L y) sec y.2.2=bodyS (stF (witOf L y).2 y.2.2) sec:=by unfold parR;rw [if_pos hpe]
  have hpP:parP (witOf L y) sec y.2.2=posS (stF (witOf L y).2 y.2.2) sec:=by unfold parP;rw [if_pos hpe]
  have hselne:selS L sec≠[]:=by
   unfold selS
   rw [hdk,List.filter_append,List.filter_cons,if_pos (by unfold hasS;simpa using gs)];simp
  have hst:=q2z (witOf L y).2 y.2.2
  have hbs:(bodyS (stF (witOf L y).2 y.2.2) sec).size≤(stF (witOf L y).2 y.2.2).size:=by
   unfold bodyS
   cases hc:cutS (stF (witOf L y).2 y.2.2) sec with
   | none=>simp [Fo.size]
   | some q =>
    obtain ⟨p,r⟩:=q
    obtain ⟨m,ps,h6,_⟩:=qv3 hc
    have h7:=congrArg Fo.size h6
    have h8:=congrArg Fo.size (qer r)
    rw [Fo.size_app] at h7 h8
    have h9:(Fo.cons 4 sec m ps r).size=ps.size + r.size + 1:=rfl
    show (bodyF r).size≤_
    omega
  intro K32 hK32
  have k32:∀ na nn nc b v,Ext w26 v→Blk v b [.string ⟨⟨(parP (witOf L y) sec y.2.2).1⟩⟩,.int .i64 (parP (witOf L y) sec y.2.2).2] 51→SlF (fun _=>True) v na nn (parR (witOf L y) sec y.2.2)→K32 na nn nc (some ⟨b,0,none⟩) (parE (witOf L y) sec y.2.2) v:=by
   intro na nn nc b v ev hB hP
   refine hK32 na nn nc _ _ v fun _=>qd (fun gg=>absurd hpe gg) (fun _=>?_)
   rw [hpP] at hB
   rw [hpR] at hP
   obtain ⟨k0,k1⟩:=blk2w hB
   have Ev:=qb E26 ev
   refine dr_ok ⟨_,k0,_,k1,?_⟩
   refine q9j (posS (stF (witOf L y).2 y.2.2) sec) _ rs (by unfold small;omega) (hF.ext Ev) hP hsm (hRu.ext Ev) fun ka kn kc w41 hkn hK e41=>⟨_,_,_,_,rfl,qd (fun gg=>?_) (fun gg=>?_)⟩
   ·refine bad _ w41 (qb Ev e41) ?_ gg
    rw [htE,if_neg hselne]
    unfold selS
    conv=>lhs;arg 1;arg 2;arg 2;rw [hdk]
    rw [List.filter_append,List.filter_cons,if_pos (by unfold hasS;simpa using gs),List.map_append,List.map_cons]
    refine firE_app _ _ (fun e he=>?_) gg
    obtain ⟨y',hy',rfl⟩:=List.mem_map.1 he
    exact pE y' hy'
   ·have gg0:tkE1 L rs sec y=0:=Decidable.not_not.1 gg
    have ev41:Ext w21 w41:=qb e26 (qb ev e41)
    have eW41:Ext W w41:=qb e21 ev41
    have E41:=qb he5 eW41
    have z41:=eW41.size
    refine ⟨_,(cl ev41).1,?_⟩
    have qS:=Owns.ext pS eW41
    have qT:=Owns.ext pT eW41
    have hbS:∀ j,bk sa j→w5.heap.size≤j∧j < W.heap.size:=fun j hj=>pS.bk hj
    have hbT:∀ j,bk ta j→w5.heap.size≤j∧j < W.heap.size:=fun j hj=>pT.bk hj
    have hbK:∀ j,bk ka j→w26.heap.size≤j∧j < w41.heap.size:=fun j hj=>⟨by have:=(hK.bk hj).1;have:=ev.size;omega,(hK.bk hj).2⟩
    refine OwnL.push (E:=Sh.encStr) qop qS (by omega) y.1 (by omega) (by omega) fun a47 c47 w48 ro rc rn=>?_
    have z48:=rc.size
    have qT48:=qT.chg rc (fun j hj hh=>pD j hh hj)
    refine qfd slT_tkr qT48 (by omega) [.slice ka kn kc] rfl (by intro u hu;simp only [List.mem_singleton] at hu;subst hu;rfl) (by omega) (by omega) fun a51 c51 w52 so sc sn=>?_
    have z52:=sc.size
    have hne:∀ j,bk a47 j→¬ bk ta j:=fun j hj hh=>by
     rcases rn j hj with h1 | h1
     ·exact pD j h1 hh
     ·have:=hbT j hh;omega
    have hall:∀ j,w5.heap.size≤j→j < w41.heap.size→¬ bk sa j→¬ bk ta j→(w5.heap.size≤j∧¬ bk a47 j∧¬ bk a51 j)∧w52.heap[j]? = w41.heap[j]?:=fun j h1 h2 h3 h4 =>
     ⟨⟨h1,fun hh=>(rn j hh).elim h3 fun h=>by omega,fun hh=>(sn j hh).elim h4 fun h=>by omega⟩,(sc.block j (by omega) h4).trans (rc.block j h2 h3)⟩
    have hA52:=pA.keep (S':=fun j=>w5.heap.size≤j∧¬ bk a47 j∧¬ bk a51 j) (w':=w52) (fun j hj hl=>⟨(hall j hj.1 (by omega) hj.2.1 hj.2.2).1,(hall j hj.1 (by omega) hj.2.1 hj.2.2).2.trans (eW41.block j hl)⟩) (by omega)
    have hK52:RowAt encTk (fun j=>w5.heap.size≤j∧¬ bk a47 j∧¬ bk a51 j) w52 ka kn (tkR1 L rs sec y):=(OwnL.out (E:=encTk) hK).keep (fun j hj hl=>hall j (by have:=hbK j hj;omega) hl (fun hh=>by have:=hbS j hh;have:=hbK j hj;omega) (fun hh=>by have:=hbT j hh;have:=hbK j hj;omega)) (by omega)
    have hkn':kn=(tkR1 L rs sec y).length:=hkn
    rw [hkn'] at hK52 so
    have hA:=AllE.snoc (c:=kc) hK52 hA52
    refine ⟨xn - (k + 1),by omega,k + 1,_,by rw [qj (by omega)],by omega,rfl,?_,so,rfl,?_,fun j hj hh=>?_,?_,?_⟩
    ·rw [hfil,List.map_append]
     exact Owns.chg ro sc (fun j hj hh=>hne j hj hh)
    ·rw [hfil,List.map_append];exact hA
    ·rcases sn j hh with h1 | h1
     ·exact hne j hj h1
     ·have:=(ro.bk hj).2;omega
    ·rw [hfil]
     intro y' hy'
     rcases List.mem_append.1 hy' with h1 | h1
     ·exact pE y' h1
     ·rw [List.mem_singleton.1 h1];exact gg0
    ·exact qi (qi E41 rc fun j hj=>(hbS j hj).1) sc fun j hj=>(hbT j hj).1
  unfold drw
  have ed:=qs w26
  have edw:=qb E26 ed
  have e21d:=qb e26 ed
  obtain ⟨_,t1,t2⟩:=cl e21d
  obtain ⟨q4,a4,c4,hq4,u0,u1,hf4⟩:=rdW edw
  generalize w26.drew=wd at *
  refine ⟨_,t1,hq4 _ ⟨_,u0,_,_,_,u1,_,t2,?_,?_,trivial⟩⟩
  ·refine qy3 (witOf L y) sec y.2.2 hsx (hF.ext edw) hf4 fun na nn nc w61 hP e61=>⟨_,_,_,_,_,_,rfl,?_⟩
   refine And.intro ?_ trivial
   refine qh fun b66 w67 hb66 B66 e67 s67=>?_
   refine And.intro ?_ trivial
   refine stPos B66 fun w68 r1 r2 r3=>?_
   have hz:b66=w61.heap.size:=hb66
   refine k32 na nn nc b66 w68 (qb ed (qb e61 (qi e67 r2 fun j hj=>by omega))) r1 ?_
   have hP':=(hP.imp (S':=fun j=>j < w61.heap.size) fun j hj hl=>hl).ext e67
   exact (hP'.chg r2 fun j hj hh=>by omega).imp fun j hj _=>trivial
  ·refine qh fun b69 w70 hb69 B69 e70 s70=>?_
   have E70:=qb edw e70
   refine And.intro ?_ trivial
   have hf70:=hf4.ext e70
   refine qy3 (S:=fun j=>S j∧j < wd.heap.size) (witOf L y) sec y.2.2 hsx (hF.ext E70) ((hf4.imp fun j hj hl=>⟨hj,hl⟩).ext e70) fun na nn nc w72 hP e72=>⟨_,_,_,_,_,_,rfl,?_⟩
   refine And.intro ?_ trivial
   refine stPos (B69.ext e72) fun w77 r1 r2 r3=>?_
   refine k32 na nn nc b69 w77 (qb ed (qi (qb e70 e72) r2 fun j hj=>by omega)) r1 ?_
   exact (hP.chg r2 fun j hj hh=>by have:=B69.lt;rcases hj with hj | hj <;> omega).imp fun j hj _=>trivial
 ·have hkn:k=(allS L 0).length:=by omega
  have htake:(allS L 0).take k=allS L 0:=List.take_of_length_le (by omega)
  rw [htake] at pS pA pE psl
  have hsel:selS L sec=(allS L 0).filter (hasS L sec):=rfl
  refine qd (fun g3=>?_) (fun g3=>?_)
  ·have hn0:selS L sec=[]:=List.eq_nil_of_length_eq_zero (by rw [hsel];omega)
   exact bad 6 W he (by rw [htE,if_pos hn0]) (by decide)
  ·have hn0:selS L sec≠[]:=fun hh=>g3 (by rw [hsel] at hh;rw [hh] at psl;simp at psl;omega)
   have h0:tokWE L rs sec=0:=by
    rw [htE,if_neg hn0]
    refine q6u fun e he=>?_
    obtain ⟨y',hy',rfl⟩:=List.mem_map.1 he
    exact pE y' hy'
   have h1:tokWS L rs sec=(selS L sec).map (·.1):=by unfold tokWS;rw [if_pos h0]
   have h2:tokWT L rs sec=(selS L sec).map (tkR1 L rs sec):=by unfold tokWT;rw [if_pos h0]
   rw [h1,h2,h0] at h
   refine h sa tn sc ta tn tc W ((OwnL.out (E:=Sh.encStr) pS).imp fun j hj hl=>by have:=(pS.bk hj).1;omega) ⟨?_,vs,(q8o pT).keep (fun j hj hl=>⟨by have:=(pT.bk hj).1;omega,rfl⟩) (Nat.le_refl _),pA.keep (fun j hj hl=>⟨by have:=hj.1;omega,rfl⟩) (Nat.le_refl _)⟩ he
   rw [List.length_map,hsel];omega
end
def putX (R:Ending→World→Prop) (p:Addr) (a:Int) (b c:List UInt8) (d e:Int) (w:World):Prop :=
 stL w p 0 [.int .i64 a,.string ⟨⟨b⟩⟩,.string ⟨⟨c⟩⟩,.int .i64 d] fun w20 =>
 ∃ (x21:Int),World.cell? w20 (p.add 0)=some (.int .i64 x21)∧(∃ (x22:List UInt8),World.cell? w20 (p.add 1)=some (.string ⟨⟨x22⟩⟩)∧(∃ (x23:List UInt8),World.cell? w20 (p.add 2)=some (.string ⟨⟨x23⟩⟩)∧(∃ (x24:Int),World.cell? w20 (p.add 3)=some (.int .i64 x24)∧(R (.returned (.tuple ⟨[.agg ⟨[.int .i64 x21,.string ⟨⟨x22⟩⟩,.string ⟨⟨x23⟩⟩,.int .i64 x24]⟩,.int .i64 e]⟩)) w20))))
theorem one4 {a d:Int} {b c:List UInt8}:∀ v∈([.int .i64 a,.string ⟨⟨b⟩⟩,.string ⟨⟨c⟩⟩,.int .i64 d]:List Value),v.oneCell'=true:=by
 intro v hv;simp only [List.mem_cons,List.not_mem_nil,or_false] at hv;rcases hv with rfl | rfl | rfl | rfl <;> rfl
theorem putAt4 {cs vs:List Value} (hc:cs.length=4) (hv:vs.length=4):putAt cs 0 vs=vs:=by
 obtain ⟨a,b,c,d,rfl⟩:∃ a b c d,cs=[a,b,c,d]:=by
  match cs,hc with
  | [a,b,c,d],_=>exact ⟨a,b,c,d,rfl⟩
 obtain ⟨a,b,c,d,rfl⟩:∃ a b c d,vs=[a,b,c,d]:=by
  match vs,hv with
  | [a,b,c,d],_=>exact ⟨a,b,c,d,rfl⟩
 rfl
theorem stX {b:Nat} {T:TypeId} {cs:List Value} {w:World} {a d:Int} {n v:List UInt8} (hb:Blk w b cs T) (hl:cs.length=4) {K:World→Prop}
  (h:∀ w',Blk w' b [.int .i64 a,.string ⟨⟨n⟩⟩,.string ⟨⟨v⟩⟩,.int .i64 d] T→Chg (fun k=>k=b) w w'→w'.heap.size=w.heap.size→K w'):stL w ⟨b,0,none⟩ 0 [.int .i64 a,.string ⟨⟨n⟩⟩,.string ⟨⟨v⟩⟩,.int .i64 d] K:=by
 refine qae hb (by simp [hl]) one4 fun w' b1 x2 x3 x4 x5 x6=>?_
 rw [Nat.add_zero,putAt4 hl rfl] at b1
 exact h w' b1 ⟨x4,x5,x6,by omega,fun j _ hj=>x2 j hj⟩ x3
theorem qw7 {R:Ending→World→Prop} {b:Nat} {T:TypeId} {cs:List Value} {w:World} (hb:Blk w b cs T) (hl:cs.length=4) (y:Lx) (e:Int)
  (h:∀ w',Chg (fun k=>k=b) w w'→R (.returned (.tuple ⟨[aggX y,.int .i64 e]⟩)) w'):putX R ⟨b,0,none⟩ y.k y.nm y.vl y.pos e w:=by
 refine stX hb hl fun w' b1 hc _=>?_
 obtain ⟨c0,c1,c2,c3⟩:=blk4x (x:=y) b1
 exact ⟨_,c0,_,c1,_,c2,_,c3,h w' hc⟩
theorem setX0 {b:Nat} {T:TypeId} {w:World} {a a' d:Int} {n v:List UInt8} (hb:Blk w b [.int .i64 a,.string ⟨⟨n⟩⟩,.string ⟨⟨v⟩⟩,.int .i64 d] T) {K:World→Prop}
  (h:∀ w',Blk w' b [.int .i64 a',.string ⟨⟨n⟩⟩,.string ⟨⟨v⟩⟩,.int .i64 d] T→Chg (fun k=>k=b) w w'→w'.heap.size=w.heap.size→K w'):stL w ((⟨b,0,none⟩:Addr).add 0) 0 [.int .i64 a'] K:=by
 rw [qg]
 refine qae hb (by simp) (by intro u hu;rw [List.mem_singleton.1 hu];rfl) fun w' b1 x2 x3 x4 x5 x6=>?_
 exact h w' b1 ⟨x4,x5,x6,by omega,fun j _ hj=>x2 j hj⟩ x3
theorem setX2 {b:Nat} {T:TypeId} {w:World} {a d:Int} {n v v':List UInt8} (hb:Blk w b [.int .i64 a,.string ⟨⟨n⟩⟩,.string ⟨⟨v⟩⟩,.int .i64 d] T) {K:World→Prop}
  (h:∀ w',Blk w' b [.int .i64 a,.string ⟨⟨n⟩⟩,.string ⟨⟨v'⟩⟩,.int .i64 d] T→Chg (fun k=>k=b) w w'→w'.heap.size=w.heap.size→K w'):stL w ((⟨b,0,none⟩:Addr).add 2) 0 [.string ⟨⟨v'⟩⟩] K:=by
 rw [qg]
 refine qae hb (by simp) (by intro u hu;rw [List.mem_singleton.1 hu];rfl) fun w' b1 x2 x3 x4 x5 x6=>?_
 exact h w' b1 ⟨x4,x5,x6,by omega,fun j _ hj=>x2 j hj⟩ x3
theorem setX3 {b:Nat} {T:TypeId} {w:World} {a d d':Int} {n v:List UInt8} (hb:Blk w b [.int .i64 a,.string ⟨⟨n⟩⟩,.string ⟨⟨v⟩⟩,.int .i64 d] T) {K:World→Prop}
  (h:∀ w',Blk w' b [.int .i64 a,.string ⟨⟨n⟩⟩,.string ⟨⟨v⟩⟩,.int .i64 d'] T→Chg (fun k=>k=b) w w'→w'.heap.size=w.heap.size→K w'):stL w ((⟨b,0,none⟩:Addr).add 3) 0 [.int .i64 d'] K:=by
 rw [qg]
 refine qae hb (by simp) (by intro u hu;rw [List.mem_singleton.1 hu];rfl) fun w' b1 x2 x3 x4 x5 x6=>?_
 exact h w' b1 ⟨x4,x5,x6,by omega,fun j _ hj=>x2 j hj⟩ x3
def readTail (R:Ending→World→Prop) (part:List UInt8) (b2 b26:Nat) (w32:World):Prop :=
 ∃ (x40:Int),World.cell? w32 ((⟨b26,0,none⟩:Addr).add 0)=some (.int .i64 x40)∧(∃ (x41:List UInt8),World.cell? w32 ((⟨b26,0,none⟩:Addr).add 1)=some (.string ⟨⟨x41⟩⟩)∧(∃ (x42:List UInt8),World.cell? w32 ((⟨b26,0,none⟩:Addr).add 2)=some (.string ⟨⟨x42⟩⟩)∧(∃ (x43:Int),World.cell? w32 ((⟨b26,0,none⟩:Addr).add 3)=some (.int .i64 x43)∧(Calls prog qg4 ⟨[.agg ⟨[.int .i64 x40,.string ⟨⟨x41⟩⟩,.string ⟨⟨x42⟩⟩,.int .i64 x43]⟩]⟩ w32 fun (e44:Ending) (w45:World) =>
 ∃ (x46:Bool),e44=.returned (.bool x46)∧(br (!x46) (putX R ⟨b2,0,none⟩ 0 [] [] 0 3 w45) (∃ (x52:Int),World.cell? w45 ((⟨b26,0,none⟩:Addr).add 0)=some (.int .i64 x52)∧(∃ (x53:List UInt8),World.cell? w45 ((⟨b26,0,none⟩:Addr).add 1)=some (.string ⟨⟨x53⟩⟩)∧(∃ (x54:List UInt8),World.cell? w45 ((⟨b26,0,none⟩:Addr).add 2)=some (.string ⟨⟨x54⟩⟩)∧(∃ (x55:Int),World.cell? w45 ((⟨b26,0,none⟩:Addr).add 3)=some (.int .i64 x55)∧(Calls prog qio ⟨[.agg ⟨[.int .i64 x52,.string ⟨⟨x53⟩⟩,.string ⟨⟨x54⟩⟩,.int .i64 x55]⟩]⟩ w45 fun (e56:Ending) (w57:World) =>
 ∃ (x58:List UInt8),e56=.returned (.string ⟨⟨x58⟩⟩)∧(br (decide ((x58:List UInt8)≠part)) (putX R ⟨b2,0,none⟩ 0 [] [] 0 3 w57) (∃ (x64:Int),World.cell? w57 ((⟨b26,0,none⟩:Addr).add 0)=some (.int .i64 x64)∧(∃ (x65:List UInt8),World.cell? w57 ((⟨b26,0,none⟩:Addr).add 1)=some (.string ⟨⟨x65⟩⟩)∧(∃ (x66:List UInt8),World.cell? w57 ((⟨b26,0,none⟩:Addr).add 2)=some (.string ⟨⟨x66⟩⟩)∧(∃ (x67:Int),World.cell? w57 ((⟨b26,0,none⟩:Addr).add 3)=some (.int .i64 x67)∧(putX R ⟨b2,0,none⟩ x64 x65 x66 x67 0 w57))))))))))))))))
abbrev cellsX (x:Lx):List Value:=[.int .i64 x.k,.string ⟨⟨x.nm⟩⟩,.string ⟨⟨x.vl⟩⟩,.int .i64 x.pos]
theorem qw6 {R:Ending→World→Prop} {part:List UInt8} {b2 b26:Nat} {w:World} (x:Lx) (B2:Blk w b2 (cellsX zeroX) 202) (B26:Blk w b26 (cellsX x) 202) (hk:x.k=3∨qcd x.nm=true) (hn:x.nm.length≤1000000000) (hv:x.vl.length≤1000000000) (hM:Mk w)
  (h:∀ w1 w',Ext w w1→Chg (fun k=>k=b2) w1 w'→R (.returned (.tuple ⟨[aggX (if qbu x=true∧textF x=part then (x,0) else (zeroX,3):Lx × Int).1,.int .i64 (if qbu x=true∧textF x=part then (x,0) else (zeroX,3):Lx × Int).2]⟩)) w') :
  readTail R part b2 b26 w:=by
 obtain ⟨c0,c1,c2,c3⟩:=blk4x B26
 refine ⟨_,c0,_,c1,_,c2,_,c3,qw4 x hk hv hM fun w45 e45=>⟨_,rfl,?_⟩⟩
 refine ql (fun g=>?_) (fun g=>?_)
 ·have g:qbu x=false:=by simpa using g
  have hi:(if qbu x=true∧textF x=part then (x,0) else (zeroX,3):Lx × Int)=(zeroX,3):=if_neg (fun hh=>by rw [g] at hh;cases hh.1)
  rw [hi] at h
  exact qw7 (B2.ext e45) rfl zeroX 3 fun w' hc=>h w45 w' e45 hc
 ·have g:qbu x=true:=by simpa using g
  refine ⟨_,qp c0 e45,_,qp c1 e45,_,qp c2 e45,_,qp c3 e45,q1u x hn hv fun w57 e57=>⟨_,rfl,qd (fun g2=>?_) (fun g2=>?_)⟩⟩
  ·have hi:(if qbu x=true∧textF x=part then (x,0) else (zeroX,3):Lx × Int)=(zeroX,3):=if_neg (fun hh=>g2 hh.2)
   rw [hi] at h
   exact qw7 ((B2.ext e45).ext e57) rfl zeroX 3 fun w' hc=>h w57 w' (qb e45 e57) hc
  ·have hi:(if qbu x=true∧textF x=part then (x,0) else (zeroX,3):Lx × Int)=(x,0):=if_pos ⟨g,Classical.not_not.1 g2⟩
   rw [hi] at h
   exact ⟨_,qp (qp c0 e45) e57,_,qp (qp c1 e45) e57,_,qp (qp c2 e45) e57,_,qp (qp c3 e45) e57,qw7 ((B2.ext e45).ext e57) rfl x 0 fun w' hc=>h w57 w' (qb e45 e57) hc⟩
theorem q5r (m:List UInt8):Lib.trimPrefix m [47]=if m.head? = some 47 then m.drop 1 else m:=by
 unfold Lib.trimPrefix Lib.hasPrefix
 cases m with
 | nil=>rfl
 | cons a r =>
  by_cases h:a=47
  ·subst h;rfl
  ·have h':¬ 47=a:=fun e=>h e.symm
   simp [h,h']
theorem has_head (m:List UInt8):Lib.hasPrefix m [47]=decide (m.head? = some 47):=by
 unfold Lib.hasPrefix
 cases m with
 | nil=>rfl
 | cons a r =>
  by_cases h:a=47
  ·subst h;rfl
  ·have h':¬ 47=a:=fun e=>h e.symm
   rw [List.head?_cons,decide_eq_false (by simpa using h)]
   simp [List.isPrefixOf,h']
theorem qtv:∀ b:List UInt8,Lib.indexAny b [32,47]≤(b.length:Int)
 | []=>by simp [Lib.indexAny]
 | c :: l=>by
  have ih:=qtv l
  rw [Lib.indexAny,List.length_cons]
  split
  ·omega
  ·split
   ·omega
   ·omega
theorem qau {w w1 w2:World} {b:Nat} (h:Ext w w1) (hc:Chg (fun k=>k=b) w1 w2) (hb:w.heap.size≤b):Ext w w2:=qi h hc fun k hk=>by rw [hk];exact hb
theorem read_spec {R:Ending→World→Prop} {w:World} (m:List UInt8) (hl:m.length≤100000000) (hM:Mk w)
  (h:∀ w',Ext w w'→R (.returned (.tuple ⟨[aggX (readF (60 :: (m++[62]))).1,.int .i64 (readF (60 :: (m++[62]))).2]⟩)) w'):Calls prog qrk ⟨[.string ⟨⟨60 :: (m++[62])⟩⟩]⟩ w R:=by
 apply q4m
 refine qh fun b2 w3 hb2 B2 e3 s3=>?_
 have hlen:(60 :: (m++[62]):List UInt8).length=m.length + 2:=by simp
 rw [hlen,show ((m.length + 2:Nat):Int) - 1=((m.length + 1:Nat):Int) by omega,qu (by omega)]
 refine qgy (i:=1) (by omega) (by rw [hlen];omega) ?_
 have hin:((60 :: (m++[62]):List UInt8).take (m.length + 1)).drop 1=m:=by
  have:=qj0 m
  unfold qb7 at this
  rw [hlen] at this
  exact this
 rw [hin]
 have hz:(⟨⟨m⟩⟩:ByteArray).size=m.length:=rfl
 refine (Tryz.strings_TrimPrefix ⟨⟨m⟩⟩ ⟨⟨[47]⟩⟩ w3).mono ?_
 rintro _ w6 ⟨rfl,hw6⟩
 rw [hw6]
 refine ⟨Lib.trimPrefix m [47],rfl,?_⟩
 intro K8 hK8
 have hb0:(Lib.trimPrefix m [47]).length≤m.length:=by
  rw [q5r];split
  ·rw [List.length_drop];omega
  ·exact Nat.le_refl _
 have hn0:=name_le (Lib.trimPrefix m [47])
 have k8:∀ w10,Ext w3 w10→K8 (nameF (Lib.trimPrefix m [47])) w10:=by
  intro w10 e10
  refine hK8 _ _ fun _=>?_
  have hrd:readF (60 :: (m++[62]))=if qcd (nameF (Lib.trimPrefix m [47]))=false then (zeroX,12) else if m.head? = some 47 then (if qga (nameF (Lib.trimPrefix m [47]))=false∧[60,47]++nameF (Lib.trimPrefix m [47])++[62]=60 :: (m++[62]) then (⟨3,nameF (Lib.trimPrefix m [47]),[],0⟩,0) else (zeroX,3))
    else accX (60 :: (m++[62])) (nameF (Lib.trimPrefix m [47])) (qdv m):=by
   unfold readF
   rw [qj0,q5r]
   by_cases hc:m.head? = some 47
   ·simp only [hc,if_true]
   ·simp only [hc,if_false]
    by_cases hk:qcd (nameF m)=false
    ·rw [if_pos hk,if_pos hk]
    ·rw [if_neg hk,if_neg hk]
     have:=acc_PF (part:=60 :: (m++[62])) (nm:=nameF m) (by simpa using hk)
     rw [qj0] at this
     exact this.symm
  generalize hnm:nameF (Lib.trimPrefix m [47])=nm at hrd hn0
  refine qxw nm (fun b8 b64 w12 t hb8 hb64 B8 B64 ht e12=>⟨_,_,_,_,rfl,?_⟩) (fun w12 hno e12=>⟨_,_,_,_,rfl,?_⟩)
  ·refine qw (by simp) (by intro u hu;simp only [List.mem_cons,List.not_mem_nil,or_false] at hu;rcases hu with rfl | rfl | rfl <;> rfl) fun b17 w19 hb17 B17 e19 s19=>?_
   obtain ⟨t1,t2⟩:=q96 ht
   obtain ⟨y0,y1,y2⟩:=blk3 B17
   have E19:=qb (qb e10 e12) e19
   have z19:=E19.size
   have B2':=B2.ext E19
   rw [if_neg (by rw [t1];decide)] at hrd
   simp only [Bool.not_true,br_f]
   refine ⟨_,y0,?_⟩
   refine qw rfl one4 fun b26 w28 hb26 B26 e28 s28=>?_
   have z28:=e28.size
   intro K29 hK29
   have k29:∀ w30 (k:Int),k=(if qga nm=true then 4 else 2)→Ext w19 w30→Blk w30 b26 [.int .i64 k,.string ⟨⟨nm⟩⟩,.string ⟨⟨[]⟩⟩,.int .i64 0] 202→K29 w30:=by
    intro w30 k hk e30 B30
    refine hK29 _ fun _=>?_
    intro K31 hK31
    have E30:=qb (qb e3 E19) e30
    have B2a:=B2'.ext e30
    have z30:=e30.size
    have B17a:=B17.ext e30
    have k3:k≠3:=by rw [hk];split <;> decide
    refine (Tryz.strings_HasPrefix ⟨⟨m⟩⟩ ⟨⟨[47]⟩⟩ w30).mono ?_
    rintro _ w107 ⟨rfl,hw⟩
    rw [hw]
    refine ⟨_,rfl,?_⟩
    show br (Lib.hasPrefix m [47]) _ _
    rw [has_head]
    refine qd (fun hc=>?_) (fun hc=>?_)
    ·rw [if_pos hc] at hrd
     refine setX0 B30 fun w32 B32 c32 s32=>hK31 _ fun _=>?_
     obtain ⟨d0,d1,d2,d3⟩:=blk4x (x:=⟨3,nm,[],0⟩) B32
     have B17b:=c32.blk B17a (by omega)
     have B2b:=c32.blk B2a (by omega)
     have E32:=qau E30 c32 (by omega)
     obtain ⟨_,y1',_⟩:=blk3 B17b
     refine ⟨_,d0,?_⟩
     rw [decide_eq_true rfl,br_t]
     refine ⟨_,y1',?_⟩
     rw [t2]
     refine ql (fun he=>?_) (fun he=>?_)
     ·rw [if_neg (fun hh=>by rw [he] at hh;cases hh.1)] at hrd
      refine qw7 B2b rfl zeroX 3 fun w' hc'=>?_
      have:=h w' (qau E32 hc' (by omega))
      rwa [hrd] at this
     ·refine qw6 ⟨3,nm,[],0⟩ B2b B32 (.inl rfl) (show nm.length≤_ by omega) (by simp) (hM.ext E32) fun w1 w' e1 c1=>?_
      have:=h w' (qau (qb E32 e1) c1 (by omega))
      rw [hrd] at this
      have e1:qbu ⟨3,nm,[],0⟩=true:=rfl
      have e2:textF ⟨3,nm,[],0⟩=[60,47]++nm++[62]:=rfl
      rw [e1,e2]
      by_cases hp:[60,47]++nm++[62]=60 :: (m++[62])
      ·rw [if_pos ⟨he,hp⟩] at this;rw [if_pos ⟨rfl,hp⟩];exact this
      ·rw [if_neg (fun hh=>hp hh.2)] at this;rw [if_neg (fun hh=>hp hh.2)];exact this
    ·rw [if_neg hc] at hrd
     have k31:∀ w32,Ext w32 w32→Ext w19 w32→Blk w32 b26 [.int .i64 k,.string ⟨⟨nm⟩⟩,.string ⟨⟨qdv m⟩⟩,.int .i64 0] 202→K31 w32:=by
      intro w32 _ e32 B32
      refine hK31 _ fun _=>?_
      have E32:=qb (qb e3 E19) e32
      have B2b:=B2'.ext e32
      have z32:=e32.size
      have hx:tagX nm (qdv m)=⟨k,nm,qdv m,0⟩:=by unfold tagX;rw [hk]
      obtain ⟨d0,d1,d2,d3⟩:=blk4x (x:=⟨k,nm,qdv m,0⟩) B32
      refine ⟨_,d0,?_⟩
      rw [decide_eq_false k3,br_f]
      have hvl:(qdv m).length≤1000000000:=by
       unfold qdv Lib.cut Lib.trimSuffix
       split <;> split <;> simp <;> omega
      refine qw6 ⟨k,nm,qdv m,0⟩ B2b B32 (.inr t1) (show nm.length≤_ by omega) hvl (hM.ext E32) fun w1 w' e1 c1=>?_
      have:=h w' (qau (qb E32 e1) c1 (by omega))
      rw [hrd] at this
      unfold accX at this
      rw [hx] at this
      have er:qbu ⟨k,nm,qdv m,0⟩=valB nm (qdv m):=by unfold qbu;rw [if_neg k3]
      rw [er];exact this
     refine (Tryz.strings_TrimSuffix ⟨⟨m⟩⟩ ⟨⟨[47]⟩⟩ w30 (by rw [hz];omega)).mono ?_
     rintro _ w111 ⟨rfl,hw1⟩
     rw [hw1]
     refine ⟨Lib.trimSuffix m [47],rfl,?_⟩
     obtain ⟨mm,hmm⟩:=(hM.ext E30).1
     have hts:(Lib.trimSuffix m [47]).length≤m.length:=by
      unfold Lib.trimSuffix;split
      ·rw [List.length_take];omega
      ·exact Nat.le_refl _
     have hzs:(⟨⟨Lib.trimSuffix m [47]⟩⟩:ByteArray).size=(Lib.trimSuffix m [47]).length:=rfl
     refine (Tryz.strings_Cut ⟨⟨Lib.trimSuffix m [47]⟩⟩ ⟨⟨[32]⟩⟩ mm w30 (by rw [hzs];omega) hmm).mono ?_
     rintro _ w114 ⟨rfl,n,rfl⟩
     have ed:Ext w30 (w30.drewN n):=Go.below_drewN (Below.refl _ _) n
     refine ⟨_,_,_,rfl,?_⟩
     show br (Lib.cut (Lib.trimSuffix m [47]) [32]).2.2 _ _
     refine ql (fun hf=>?_) (fun hf=>?_)
     ·refine setX2 (B30.ext ed) fun w32 B32 c32 s32=>k31 w32 (Below.refl _ _) (qau (qb e30 ed) c32 (by omega)) B32
     ·have hv:qdv m=[]:=by
       unfold qdv
       unfold Lib.cut at hf ⊢
       split at hf
       ·cases hf
       ·rename_i hi;rw [if_neg hi]
      refine k31 _ (Below.refl _ _) (qb e30 ed) ?_
      rw [hv];exact B30.ext ed
   obtain ⟨v0,v1,v2⟩:=blk3 (B17.ext e28)
   refine ⟨_,v1,?_⟩
   rw [t2]
   refine ql (fun he=>?_) (fun he=>?_)
   ·refine setX0 B26 fun w120 B120 c120 s120=>k29 w120 4 (by rw [if_pos he]) (qau e28 c120 (by omega)) B120
   ·exact k29 w28 2 (by rw [if_neg (by rw [he];decide)]) e28 B26
  ·refine qw (by simp) (by intro u hu;simp only [List.mem_cons,List.not_mem_nil,or_false] at hu;rcases hu with rfl | rfl | rfl <;> rfl) fun b17 w19 hb17 B17 e19 s19=>?_
   simp only [Bool.not_false,br_t]
   have E19:=qb (qb e10 e12) e19
   rw [if_pos (q2w hno)] at hrd
   refine qw7 (B2.ext E19) rfl zeroX 12 fun w' hc'=>?_
   have:=h w' (qau (qb e3 E19) hc' (by omega))
   rwa [hrd] at this
 refine q5d _ (by omega) fun w122 e122=>⟨_,rfl,?_⟩
 have ha:=any_name (Lib.trimPrefix m [47])
 refine qd (fun g=>?_) (fun g=>?_)
 ·rw [if_pos g] at ha
  obtain ⟨i,hi⟩:∃ i:Nat,Lib.indexAny (Lib.trimPrefix m [47]) [32,47]=i:=⟨(Lib.indexAny (Lib.trimPrefix m [47]) [32,47]).toNat,by omega⟩
  rw [hi] at ha ⊢
  rw [Int.toNat_natCast] at ha
  have hil:i≤(Lib.trimPrefix m [47]).length:=by
   apply Classical.byContradiction
   intro hh
   have:=qtv (Lib.trimPrefix m [47])
   omega
  refine qgy (i:=0) (by omega) hil ?_
  rw [List.drop_zero,← ha]
  exact k8 w122 e122
 ·rw [if_neg g] at ha
  have:=k8 w122 e122
  rwa [ha] at this
theorem q6k (s:List UInt8) (hs:s.length≤4611686018427387904) (b:Nat) (w:World) (hb:Blk w b [.string ⟨⟨s⟩⟩] 9) :
  IterO prog qcp [.pointer (some ⟨b,0,none⟩)] (qbd s 0) (fun x vs=>vs=[.int .i64 (x.1:Int),.string ⟨⟨x.2⟩⟩]) (fun k=>k=b) w:=by
 intro yf ya yb S0 J Jx R hS hJ hJx hbody h0 hend hstop
 apply qu7
 have hbl:=hb.lt
 refine ⟨fun i W m=>∃ (k:Nat) (pre:List (Nat × List UInt8)) (S:Nat→Prop),i=k∧k≤s.length∧m=s.length - k∧qbd s 0=pre++qbd (s.drop k) k∧J pre S W∧Blk W b [.string ⟨⟨s⟩⟩] 9∧w.heap.size≤W.heap.size∧(∀ j,S j→j < W.heap.size∧¬ j=b),⟨_,0,[],S0,rfl,by omega,rfl,rfl,h0,hb,Nat.le_refl _,hS⟩,?_⟩
 rintro _ W m ⟨k,pre,S,rfl,hk,rfl,heq,hj,hB,hW,hS⟩ _
 have cB:W.cell? ⟨b,0,none⟩=some (.string ⟨⟨s⟩⟩):=by rw [hB.cell];rfl
 refine dr_ok ⟨_,cB,qd (fun hlt=>?_) (fun hge=>?_)⟩
 ·have hkl:k < s.length:=by omega
  obtain ⟨c,r,hcr⟩:∃ c r,s.drop k=c :: r:=⟨s[k],s.drop (k + 1),List.drop_eq_getElem_cons hkl⟩
  have hck:s[k]=c:=by have:=List.drop_eq_getElem_cons hkl;rw [hcr] at this;exact (List.cons.inj this).1.symm
  obtain ⟨b1,b2⟩:=qso (c:=c) (r:=r)
  have hll:(c :: r).length=s.length - k:=by rw [← hcr,List.length_drop]
  refine dr_ok ⟨_,cB,?_⟩
  intro K12 hK12
  have k12:K12 ((k + cutX (c :: r):Nat):Int) W:=by
   refine hK12 _ _ fun _=>dr_ok ⟨_,cB,?_⟩
   refine qgy (by omega) (by omega) ?_
   have hsub:(s.take (k + cutX (c :: r))).drop k=(c :: r).take (cutX (c :: r)):=by rw [List.drop_take,hcr,Nat.add_sub_cancel_left]
   rw [hsub]
   have hp:qbd (s.drop k) k=(k,(c :: r).take (cutX (c :: r))) :: qbd (s.drop (k + cutX (c :: r))) (k + cutX (c :: r)):=by
    rw [hcr,qbd,← hcr,List.drop_drop]
   refine qbh (hbody pre (k,(c :: r).take (cutX (c :: r))) _ S W rfl (by rw [heq,hp];exact ⟨qbd (s.drop (k + cutX (c :: r))) (k + cutX (c :: r)),by simp⟩) hW hS hj) ?_
   rintro e W3 ⟨hc3,S',hS',hh⟩
   have hS3:∀ j,S' j→j < W3.heap.size∧¬ j=b:=fun j hj=>⟨(hS' j hj).2,(hS' j hj).1.elim (fun h=>(hS j h).2) (fun h=>by have:=hB.lt;omega)⟩
   have z3:=hc3.size
   have hB3:=hc3.blk hB (fun hh=>(hS b hh).2 rfl)
   rcases hh with ⟨rfl,hj3⟩ | ⟨rfl,hj3⟩
   ·refine ⟨true,rfl,?_⟩
    simp only [Bool.not_true,br_f]
    exact ⟨s.length - (k + cutX (c :: r)),by omega,k + cutX (c :: r),pre++[(k,(c :: r).take (cutX (c :: r)))],S',rfl,by omega,rfl,by rw [heq,hp];simp,hj3,hB3,by omega,hS3⟩
   ·refine ⟨false,rfl,?_⟩
    simp only [Bool.not_false,br_t]
    exact hstop S' W3 (by omega) hj3
  have hdd:(s.take s.length).drop k=c :: r:=by rw [List.take_length,hcr]
  have lt:∀ {x:UInt8},0≤Lib.indexByte (c :: r) x→(Lib.indexByte (c :: r) x).toNat < (c :: r).length:=fun {x} hx=>by
   obtain ⟨h1,_⟩:=Lib.indexByte_some (l:=c :: r) (c:=x) (o:=(Lib.indexByte (c :: r) x).toNat) (by omega)
   exact (List.getElem?_eq_some_iff.1 h1).1
  refine dr_ok ⟨_,cB,?_⟩
  refine qb3 hkl ?_
  rw [hck]
  refine qd (fun g=>dr_ok ⟨_,cB,?_⟩) (fun g=>dr_ok ⟨_,cB,?_⟩)
  ·have hc60:c=60:=by
    have:c.toNat=60:=by omega
    exact UInt8.toNat_inj.1 this
   refine qgy (by omega) (Nat.le_refl _) ?_
   rw [hdd]
   refine (Tryz.strings_IndexByte ⟨⟨c :: r⟩⟩ 62 W).mono ?_
   rintro e w29 ⟨rfl,rfl⟩
   refine ⟨_,rfl,?_⟩
   show br (decide (0≤Lib.indexByte (c :: r) 62)) (K12 (i64.wrap (i64.wrap ((k:Int) + Lib.indexByte (c :: r) 62) + 1)) w29) (K12 (s.length:Int) w29)
   have hcx:cutX (c :: r)=if 0≤Lib.indexByte (c :: r) 62 then (Lib.indexByte (c :: r) 62).toNat + 1 else (c :: r).length:=by unfold cutX;rw [if_pos (by simp [hc60])]
   refine qd (fun gi=>?_) (fun gi=>?_)
   ·have:=lt gi
    rw [if_pos gi] at hcx
    have e1:i64.wrap ((k:Int) + Lib.indexByte (c :: r) 62)=(k:Int) + Lib.indexByte (c :: r) 62:=qu (by omega)
    rw [e1,qu (by omega),show (k:Int) + Lib.indexByte (c :: r) 62 + 1=((k + cutX (c :: r):Nat):Int) by omega]
    exact k12
   ·rw [if_neg gi] at hcx
    rw [show (s.length:Int)=((k + cutX (c :: r):Nat):Int) by omega]
    exact k12
  ·have hc60:¬ c=60:=fun e=>g (by rw [e];rfl)
   refine qgy (by omega) (Nat.le_refl _) ?_
   rw [hdd]
   refine (Tryz.strings_IndexByte ⟨⟨c :: r⟩⟩ 60 W).mono ?_
   rintro e w29 ⟨rfl,rfl⟩
   refine ⟨_,rfl,?_⟩
   show br (decide (0≤Lib.indexByte (c :: r) 60)) (K12 (i64.wrap ((k:Int) + Lib.indexByte (c :: r) 60)) w29) (K12 (s.length:Int) w29)
   have hcx:cutX (c :: r)=if 0≤Lib.indexByte (c :: r) 60 then (Lib.indexByte (c :: r) 60).toNat else (c :: r).length:=by unfold cutX;rw [if_neg (by simp [hc60])]
   refine qd (fun gi=>?_) (fun gi=>?_)
   ·have:=lt gi
    rw [if_pos gi] at hcx
    rw [qu (by omega),show (k:Int) + Lib.indexByte (c :: r) 60=((k + cutX (c :: r):Nat):Int) by omega]
    exact k12
   ·rw [if_neg gi] at hcx
    rw [show (s.length:Int)=((k + cutX (c :: r):Nat):Int) by omega]
    exact k12
 ·have hkk:k=s.length:=by omega
  rw [hkk,List.drop_length,qbd,List.append_nil] at heq
  rw [heq] at hend
  exact hend S W hW hj
theorem q8n {R:Ending→World→Prop} {w:World} (s:List UInt8) (h:∀ b w',b=w.heap.size→Blk w' b [.string ⟨⟨s⟩⟩] 9→Ext w w'→w'.heap.size=b + 1→R (.returned (.func (.func qcp) ⟨[]⟩ ⟨[.pointer (some ⟨b,0,none⟩)]⟩)) w') :
  Calls prog qmi ⟨[.string ⟨⟨s⟩⟩]⟩ w R:=by
 apply q0n
 exact qh fun b w' hb B e sz=>h b w' hb B e sz
theorem slT_lex:SlT prog 197 202 4 48 (.agg #[.int .i64 0,.string ⟨#[]⟩,.string ⟨#[]⟩,.int .i64 0]):=⟨Tryz.underlying197,by kernel_rfl,rfl,by decide⟩
theorem qsc:∀ (n:Nat) (t:List UInt8) (at_:Nat),t.length≤n→(qbd t at_).length≤t.length
 | n,[],_,_=>by rw [qbd];exact Nat.le_refl _
 | 0,_ :: _,_,h=>absurd h (by simp)
 | n + 1,c :: r,at_,h=>by
  obtain ⟨b1,b2⟩:=qso (c:=c) (r:=r)
  have hdl:((c :: r).drop (cutX (c :: r))).length=(c :: r).length - cutX (c :: r):=List.length_drop
  have:=qsc n ((c :: r).drop (cutX (c :: r))) (at_ + cutX (c :: r)) (by omega)
  rw [qbd,List.length_cons];omega
theorem qw0:∀ {l:List (Nat × List UInt8)} {out:List Lx},scanL l=(out,0)→out.length=l.length
 | [],out,h=>by rw [← (Prod.mk.inj h).1];rfl
 | p :: r,out,h=>by
  obtain ⟨x,l',rfl,_,hr⟩:=q1y h
  rw [List.length_cons,qw0 hr];rfl
theorem part_mid {part:List UInt8} (h1:part.head? = some 60) (h2:part.getLast? = some 62):∃ m,part=60 :: (m++[62]):=by
 cases part with
 | nil=>cases h1
 | cons a r =>
  obtain rfl:a=60:=by simpa using h1
  cases hr:r with
  | nil=>subst hr;simp at h2
  | cons b t =>
   have hne:(60 :: b :: t:List UInt8)≠[]:=by simp
   have hl:(b :: t:List UInt8).getLast? = some 62:=by rw [← hr];rw [hr] at h2 ⊢;rwa [List.getLast?_cons_cons] at h2
   obtain ⟨ys,hys⟩:=List.getLast?_eq_some_iff.1 hl
   exact ⟨ys,by rw [hys]⟩
theorem q6j:∀ (n:Nat) (t:List UInt8) (at_:Nat),t.length≤n→∀ p∈qbd t at_,p.2.length≤t.length∧p.2≠[]∧p.1≤at_ + t.length
 | n,[],_,_,p,hp=>by rw [qbd] at hp;cases hp
 | 0,_ :: _,_,h,_,_=>absurd h (by simp)
 | n + 1,c :: r,at_,h,p,hp=>by
  obtain ⟨b1,b2⟩:=qso (c:=c) (r:=r)
  have hdl:((c :: r).drop (cutX (c :: r))).length=(c :: r).length - cutX (c :: r):=List.length_drop
  rw [qbd] at hp
  rcases List.mem_cons.1 hp with rfl | hp
  ·have hl:((c :: r).take (cutX (c :: r))).length=cutX (c :: r):=by rw [List.length_take];omega
   refine ⟨by show ((c :: r).take (cutX (c :: r))).length≤_;omega,fun e=>?_,by show at_≤_;omega⟩
   rw [show (c :: r).take (cutX (c :: r))=[] from e] at hl
   simp at hl;omega
  ·obtain ⟨q1,q2,q3⟩:=q6j n _ _ (by omega) p hp
   exact ⟨by omega,q2,by omega⟩
theorem Scan_spec {R:Ending→World→Prop} {w:World} (s:List UInt8) (hM:Mk w)
  (h:∀ a n c w',n=(scanF s).1.length→OwnL encX w' w.heap.size 202 a n c (scanF s).1→Ext w w'→R (.returned (.tuple ⟨[.slice a n c,.int .i64 (scanF s).2]⟩)) w'):Calls prog qrn ⟨[.string ⟨⟨s⟩⟩]⟩ w R:=by
 apply q4p
 refine qh fun b2 w3 hb2 B2 e3 s3=>?_
 refine qh fun b4 w5 hb4 B4 e5 s5=>?_
 have B2a:=B2.ext e5
 have E5:=qb e3 e5
 refine qd (fun g=>?_) (fun g=>?_)
 ·have hf:scanF s=([],4):=by unfold scanF;rw [if_pos (by omega)]
  rw [hf] at h
  refine qr B2a rfl fun w6 B2b c6 s6=>?_
  refine qr (c6.blk B4 (by omega)) rfl fun w7 B4b c7 s7=>?_
  have B2c:=c7.blk B2b (by omega)
  refine ⟨_,_,_,by rw [B2c.cell];rfl,_,by rw [B4b.cell];rfl,?_⟩
  exact h none 0 0 w7 rfl (Owns.nil _ _ _ _) (qau (qau E5 c6 (by omega)) c7 (by omega))
 have hs:s.length≤65536:=by omega
 have hf:scanF s=scanL (qbd s 0):=by unfold scanF;rw [if_neg (by omega)]
 rw [hf] at h
 refine qh fun b10 w11 hb10 B10 e11 s11=>?_
 refine q8n s fun bs w13 hbs Bs e13 s13=>⟨_,_,_,rfl,fun base=>?_⟩
 have E11:=qb E5 e11
 have E13:=qb E11 e13
 have B2b:=(B2a.ext e11).ext e13
 have B4b:=(B4.ext e11).ext e13
 have B10b:=B10.ext e13
 have hpl:=qsc s.length s 0 (Nat.le_refl _)
 rw [qu1]
 refine qgh qhr qhp (gf:=qcp) rfl (by kernel_rfl) (xs:=qbd s 0) (E:=fun x vs=>vs=[.int .i64 (x.1:Int),.string ⟨⟨x.2⟩⟩]) (Rd:=fun k=>k=bs)
  (fun v1 he=>q6k s (by omega) bs v1 (Bs.ext he)) (fun y vs hE=>by rw [hE];rfl) (by decide) (fun k hk=>by omega) (fun k=>k=b2∨k=b4∨k=b10) (fun k hk=>by omega)
  (fun pre S1 W=>∃ (oa:Option Addr) (on oc:Nat) (out:List Lx),Blk W b10 [.slice oa on oc] 197∧Blk W b2 [.slice none 0 0] 197∧Blk W b4 [.int .i64 0] 28∧scanL pre=(out,0)∧OwnL encX W w13.heap.size 202 oa on oc out∧(∀ k,S1 k↔k=b2∨k=b4∨k=b10∨bk oa k)∧Ext w W)
  (fun S1 W=>∃ e:Int,scanL (qbd s 0)=([],e)∧Blk W b2 [.slice none 0 0] 197∧Blk W b4 [.int .i64 e] 28∧Ext w W) (fun _ _=>False)
  ?_ ?_ (fun _ _ _ h=>h.elim) ⟨none,0,0,[],B10b,B2b,B4b,rfl,Owns.nil _ _ _ _,fun k=>by simp [bk],E13⟩ ?_ ?_ ?_ (fun _ _ _ _ _ _ _ h=>h.elim)
 ·rintro pre S1 W W' ⟨oa,on,oc,out,g1,g2,g3,g4,g5,g6,g7⟩ hc
  exact ⟨oa,on,oc,out,hc.blk g1 (fun hh=>by omega),hc.blk g2 (fun hh=>by omega),hc.blk g3 (fun hh=>by omega),g4,g5.chg hc fun k hk hh=>hh.2 ((g6 k).2 (.inr (.inr (.inr hk)))),g6,qi g7 hc fun k hk=>by omega⟩
 ·rintro S1 W W' ⟨e,g1,g2,g3,g4⟩ hc
  exact ⟨e,g1,hc.blk g2 (fun hh=>by omega),hc.blk g3 (fun hh=>by omega),qi g4 hc fun k hk=>by omega⟩
 ·rintro pre ⟨at_,part⟩ vs S1 W l rfl hpre hl1 hl2 hl3 hS1 ⟨oa,on,oc,out,g1,g2,g3,g4,g5,g6,g7⟩
  refine Eq.mpr (quy base _ _ _ _ _ _ _ _ _ _ _ _ _) ?_
  refine ⟨Below.refl _ _,fun W2 hU=>?_⟩
  have zU:=hU.size
  have hUc:Chg (fun k=>k=l) W W2:=⟨hU.os,hU.tape,hU.output,by omega,fun k _ hk=>hU.block k hk⟩
  have nl:¬ bk oa l:=fun hh=>hl3 ((g6 l).2 (.inr (.inr (.inr hh))))
  have h1:=hUc.blk g1 (by omega)
  have h2:=hUc.blk g2 (by omega)
  have h3:=hUc.blk g3 (by omega)
  have h5:=g5.chg hUc fun k hk hh=>nl (hh ▸ hk)
  have E2:Ext w W2:=qi g7 hUc fun k hk=>by have:=E13.size;omega
  obtain ⟨rest,hrest⟩:=hpre
  have hrest:qbd s 0=pre++(at_,part) :: rest:=by rw [← hrest];simp
  have hpt:part.length≤65536∧part≠[]∧at_≤65536:=by
   have:part.length≤s.length∧part≠[]∧at_≤0 + s.length:=q6j s.length s 0 (Nat.le_refl _) (at_,part) (by rw [hrest];simp)
   exact ⟨by have:=this.1;omega,this.2.1,by have:=this.2.2;omega⟩
  have hbad:∀ e:Int,e≠0→(lexP at_ part).2=e→scanL (qbd s 0)=([],e):=fun e he hl=>by rw [hrest];exact scanL_bad g4 hl he
  refine qw rfl one4 fun b40 w42 hb40 B40 e42 s42=>?_
  have z42:=e42.size
  have E42:=qb E2 e42
  have kr:∀ (e:Int) (v:World),e≠0→(lexP at_ part).2=e→Ext w42 v→(stL v ⟨b2,0,none⟩ 0 [.slice none 0 0] fun w62=>dr (some ⟨b4,0,none⟩) fun p65=>stL w62 p65 0 [.int .i64 e] fun w64=>Chg (fun k=>S1 k∨W.heap.size≤k) W2 w64∧∃ S':Nat→Prop,(∀ k,S' k→(S1 k∨W.heap.size≤k)∧k < w64.heap.size) ∧
    ∃ e:Int,scanL (qbd s 0)=([],e)∧Blk w64 b2 [.slice none 0 0] 197∧Blk w64 b4 [.int .i64 e] 28∧Ext w w64):=by
   intro e v he hl ev
   have ez:=ev.size
   refine qr ((h2.ext e42).ext ev) rfl fun w62 Ba ca sa=>dr_ok ?_
   refine qr (ca.blk ((h3.ext e42).ext ev) (by omega)) rfl fun w64 Bb cb sb=>?_
   have E1:Ext w w64:=qau (qau (qb E42 ev) ca (by omega)) cb (by omega)
   refine ⟨?_,S1,fun k hk=>⟨.inl hk,by have:=(hS1 k hk).1;omega⟩,e,hbad e he hl,cb.blk Ba (by omega),Bb,E1⟩
   refine (Chg.of_ext (qb e42 ev)).trans ((ca.mono fun k _ hk=>.inl ((g6 k).2 (.inl hk))).trans (cb.mono fun k _ hk=>.inl ((g6 k).2 (.inr (.inl hk)))))
  have kn:∀ (x:Lx) (v:World),lexP at_ part=({ x with pos:=at_ },0)→Ext w42 v∨(∃ v',Ext w42 v'∧Chg (fun k=>k=b40) v' v)→Blk v b40 (cellsX x) 202→(stL v ((⟨b40,0,none⟩:Addr).add 3) 0 [.int .i64 (at_:Int)] fun w45 =>
    dr (some ⟨b10,0,none⟩) fun p46 =>
    ∃ (x47:Option Addr) (x47n:Nat) (x47c:Nat),World.cell? w45 p46=some (.slice x47 x47n x47c)∧(∃ (x48:Int),World.cell? w45 ((⟨b40,0,none⟩:Addr).add 0)=some (.int .i64 x48)∧(∃ (x49:List UInt8),World.cell? w45 ((⟨b40,0,none⟩:Addr).add 1)=some (.string ⟨⟨x49⟩⟩)∧(∃ (x50:List UInt8),World.cell? w45 ((⟨b40,0,none⟩:Addr).add 2)=some (.string ⟨⟨x50⟩⟩)∧(∃ (x51:Int),World.cell? w45 ((⟨b40,0,none⟩:Addr).add 3)=some (.int .i64 x51)∧(al w45 202 [.int .i64 x48,.string ⟨⟨x49⟩⟩,.string ⟨⟨x50⟩⟩,.int .i64 x51] fun p52 w53 =>
    app prog [197,197] 197 (.slice x47 x47n x47c) (.slice (some p52) 1 1) w53 fun a54 a54n a54c w55 =>
    dr (some ⟨b10,0,none⟩) fun p57 =>
    stL w55 p57 0 [.slice a54 a54n a54c] fun w56 =>
    Chg (fun k=>S1 k∨W.heap.size≤k) W2 w56∧∃ S':Nat→Prop,(∀ k,S' k→(S1 k∨W.heap.size≤k)∧k < w56.heap.size) ∧
     ∃ (oa:Option Addr) (on oc:Nat) (out:List Lx),Blk w56 b10 [.slice oa on oc] 197∧Blk w56 b2 [.slice none 0 0] 197∧Blk w56 b4 [.int .i64 0] 28∧scanL (pre++[(at_,part)])=(out,0)∧OwnL encX w56 w13.heap.size 202 oa on oc out∧(∀ k,S' k↔k=b2∨k=b4∨k=b10∨bk oa k)∧Ext w w56)))))):=by
   intro x v hx hv Bv
   have cv:Chg (fun k=>k=b40) w42 v:=by
    rcases hv with hv | ⟨v',hv,hc⟩
    ·exact Chg.of_ext hv
    ·exact (Chg.of_ext hv).trans hc
   have zv:=cv.size
   refine setX3 Bv fun w45 B45 c45 s45=>dr_ok ?_
   have cc:Chg (fun k=>k=b40) w42 w45:=cv.trans c45
   obtain ⟨d0,d1,d2,d3⟩:=blk4x (x:={ x with pos:=at_ }) B45
   have n40:¬ bk oa b40:=fun hh=>by have:=(h5.bk hh).2;omega
   have q10:=cc.blk (h1.ext e42) (by omega)
   have q2:=cc.blk (h2.ext e42) (by omega)
   have q4:=cc.blk (h3.ext e42) (by omega)
   have q5:=(h5.ext e42).chg cc fun k hk hh=>n40 (hh ▸ hk)
   refine ⟨oa,on,oc,by rw [q10.cell];rfl,_,d0,_,d1,_,d2,_,d3,?_⟩
   have hlen:out.length≤65536:=by
    rw [qw0 g4]
    have:pre.length≤(qbd s 0).length:=by rw [hrest];simp
    omega
   have hon:=OwnL.length q5
   refine OwnL.push slT_lex q5 (by omega) { x with pos:=at_ } (by omega) (by omega) fun a54 c54 w55 o1 o2 o3=>dr_ok ?_
   have n10:∀ k,bk oa k→w13.heap.size≤k:=fun k hk=>(q5.bk hk).1
   refine qr (o2.blk q10 (fun hh=>by have:=n10 _ hh;omega)) rfl fun w56 B56 c56 s56=>?_
   have n5:∀ k,bk a54 k→w13.heap.size≤k:=fun k hk=>(o1.bk hk).1
   have sub4:∀ j,bk a54 j→(S1 j∨W.heap.size≤j):=fun j hj=>(o3 j hj).elim (fun h=>.inl ((g6 j).2 (.inr (.inr (.inr h))))) (fun h=>.inr (by omega))
   have e13s:=E13.size
   refine ⟨?_,fun j=>j=b2∨j=b4∨j=b10∨bk a54 j,?_,a54,on + 1,c54,out++[{ x with pos:=at_ }],B56,?_,?_,?_,?_,fun k=>Iff.rfl,?_⟩
   ·refine (Chg.of_ext e42).trans ((cc.mono fun k _ hk=>.inr (by omega)).trans ((o2.mono fun k _ hk=>.inl ((g6 k).2 (.inr (.inr (.inr hk))))).trans (c56.mono fun k _ hk=>.inl ((g6 k).2 (.inr (.inr (.inl hk)))))))
   ·intro k hk
    have zz:=o2.size
    rcases hk with rfl | rfl | rfl | hk
    ·exact ⟨.inl ((g6 _).2 (.inl rfl)),by omega⟩
    ·exact ⟨.inl ((g6 _).2 (.inr (.inl rfl))),by omega⟩
    ·exact ⟨.inl ((g6 _).2 (.inr (.inr (.inl rfl)))),by omega⟩
    ·exact ⟨sub4 k hk,by have:=(o1.bk hk).2;omega⟩
   ·exact c56.blk (o2.blk q2 (fun hh=>by have:=n10 _ hh;omega)) (by omega)
   ·exact c56.blk (o2.blk q4 (fun hh=>by have:=n10 _ hh;omega)) (by omega)
   ·rw [qw1 g4,scanL_one hx];rfl
   ·exact o1.chg c56 fun k hk hh=>by have:=n5 k hk;omega
   ·refine qau (qi (qau (qb E2 e42) cc (by omega)) o2 fun k hk=>by have:=n10 k hk;omega) c56 (by omega)
  intro K43 hK43
  have hpos:part.length≠0:=fun hh=>hpt.2.1 (List.length_eq_zero_iff.1 hh)
  obtain ⟨c0,r0,hcr⟩:∃ c0 r0,part=c0 :: r0:=by
   cases part with
   | nil=>exact absurd rfl hpt.2.1
   | cons c0 r0=>exact ⟨c0,r0,rfl⟩
  refine qvv (l:=part) 0 rfl (by omega) ?_
  have hp0:part[0]'(by omega)=c0:=by simp [hcr]
  rw [hp0]
  have hhd:part.head? = some c0:=by rw [hcr];rfl
  refine qd (fun g60=>?_) (fun g60=>?_)
  ·have hne:part.head?≠some 60:=by
    rw [hhd];intro hh
    have:c0=60:=Option.some.inj hh
    exact g60 (by rw [this];rfl)
   refine qlg part fun w60 e60=>⟨_,rfl,qd (fun gc=>dr_ok ?_) (fun gc=>?_)⟩
   ·exact kr 11 w60 (by decide) (by unfold lexP;rw [if_pos hne,if_neg gc]) e60
   ·refine hK43 _ fun _=>kn ⟨1,[],part,0⟩ w60 ?_ (.inl e60) (B40.ext e60)
    unfold lexP;rw [if_pos hne,if_pos (by simpa using gc)]
  ·have h60:c0=60:=by
    have:c0.toNat=60:=by omega
    exact UInt8.toNat_inj.1 this
   have hhd':part.head? = some 60:=by rw [hhd,h60]
   have hlast:part.getLast? = some (part[part.length - 1]'(by omega)):=by rw [List.getLast?_eq_getElem?,List.getElem?_eq_getElem]
   rw [show (((at_,part):Nat × List UInt8).2.length:Int) - 1=((part.length - 1:Nat):Int) by show ((part.length:Int) - 1)=_;omega,qu (by omega)]
   refine qb3 (l:=part) (by omega) ?_
   refine qd (fun g62=>dr_ok ?_) (fun g62=>?_)
   ·refine kr 3 w42 (by decide) ?_ (Below.refl _ _)
    unfold lexP
    rw [if_neg (by simpa using hhd'),if_pos]
    rw [hlast];intro hh
    exact g62 (by rw [Option.some.inj hh];rfl)
   ·have hl62:part.getLast? = some 62:=by
     have:(part[part.length - 1]'(by omega))=62:=UInt8.toNat_inj.1 (by show _=62;omega)
     rw [hlast,this]
    obtain ⟨m,hm⟩:=part_mid hhd' hl62
    have hlx:lexP at_ part=if (readF part).2=0 then ({ (readF part).1 with pos:=at_ },0) else (zeroX,(readF part).2):=by
     unfold lexP;rw [if_neg (by simpa using hhd'),if_neg (by simpa using hl62)]
    have hml:m.length≤100000000:=by
     have:=congrArg List.length hm
     simp at this;omega
    have hrs:=fun K hk=>read_spec (R:=K) m hml (hM.ext E42) hk
    rw [← hm] at hrs
    refine hrs _ fun w72 e72=>⟨_,_,_,_,_,rfl,?_⟩
    refine qw rfl one4 fun b78 w80 hb78 B78 e80 s80=>?_
    have e4280:=qb e72 e80
    have z80:=e4280.size
    refine qd (fun ge=>dr_ok ?_) (fun ge=>?_)
    ·exact kr (readF part).2 w80 ge (by rw [hlx,if_neg ge]) e4280
    ·obtain ⟨y0,y1,y2,y3⟩:=blk4x B78
     refine ⟨_,y0,_,y1,_,y2,_,y3,?_⟩
     refine stX (B40.ext e4280) rfl fun w89 B89 c89 s89=>hK43 _ fun _=>kn (readF part).1 w89 ?_ (.inr ⟨w80,e4280,c89⟩) B89
     rw [hlx,if_pos (by simpa using ge)]
 ·rintro D S1 W hD1 hD2 hD3 hD4 ⟨oa,on,oc,out,g1,g2,g3,g4,g5,g6,g7⟩
  rw [g4] at h
  have hDb:¬ bk oa D:=fun hh=>hD3 ((g6 D).2 (.inr (.inr (.inr hh))))
  have e13s:=E13.size
  refine ⟨oa,on,oc,by rw [g1.cell];rfl,?_⟩
  refine qr g2 rfl fun w25 Ba ca sa=>?_
  refine qr (ca.blk g3 (by omega)) rfl fun w26 Bb cb sb=>?_
  have hD4':w26.heap[D]? = some (.deferred (some [])):=by rw [cb.block D (by omega) (by omega),ca.block D (by omega) (by omega)];exact hD4
  refine qbm hD4' ?_
  have hcp:Chg (fun k=>k=D) w26 (w26.putObj D (.deferred none)):=Chg.put w26 D _ rfl
  have n10:∀ k,bk oa k→w13.heap.size≤k:=fun k hk=>(g5.bk hk).1
  have o1:=((g5.chg ca fun k hk hh=>by have:=n10 k hk;omega).chg cb fun k hk hh=>by have:=n10 k hk;omega).chg hcp fun k hk hh=>hDb (hh ▸ hk)
  have E26:Ext w w26:=qau (qau g7 ca (by omega)) cb (by omega)
  refine ⟨oa,on,oc,by rw [(hcp.blk (cb.blk Ba (by omega)) (by omega)).cell];rfl,0,by rw [(hcp.blk Bb (by omega)).cell];rfl,?_⟩
  refine h oa on oc _ (OwnL.length g5).symm ⟨o1.1,o1.2.imp id ?_⟩ (qb9 E26 (by omega) _)
  rintro ⟨g,cap,cur,p1,p2,p3⟩
  exact ⟨g,cap,cur,p1,by omega,p3⟩
 ·rintro D S1 W hD1 hD2 hD3 hD4 ⟨e,g1,g2,g3,g4⟩
  rw [g1] at h
  have e13s:=E13.size
  refine qbm hD4 ?_
  have hcp:Chg (fun k=>k=D) W (W.putObj D (.deferred none)):=Chg.put W D _ rfl
  refine ⟨none,0,0,by rw [(hcp.blk g2 (by omega)).cell];rfl,e,by rw [(hcp.blk g3 (by omega)).cell];rfl,?_⟩
  exact h none 0 0 _ rfl (Owns.nil _ _ _ _) (qb9 g4 (by omega) _)
section
variable {R:Ending→World→Prop} {w:World}
theorem get_lx {S:Nat→Prop} {a:Option Addr} {n:Nat} {L:List Lx} (h:RowAt encX S w a n L) {k:Nat} (hk:k < L.length) :
  ∃ q:Addr,(∀ K:Addr→Prop,K q→idx a n (k:Int) 4 K)∧w.cell? (q.add 0)=some (.int .i64 L[k].k)∧w.cell? (q.add 1)=some (.string ⟨⟨L[k].nm⟩⟩)∧w.cell? (q.add 2)=some (.string ⟨⟨L[k].vl⟩⟩)∧w.cell? (q.add 3)=some (.int .i64 L[k].pos):=by
 obtain ⟨bb,o,hq,_,_,hc⟩:=h.get (i:=k) (x:=L[k]) (List.getElem?_eq_getElem hk)
 exact ⟨⟨bb,o,none⟩,hq,by rw [qg];exact hc 0 _ rfl,by rw [qg];exact hc 1 _ rfl,by rw [qg];exact hc 2 _ rfl,by rw [qg];exact hc 3 _ rfl⟩
def totX:List Lx→Nat
 | []=>0
 | x :: r=>x.nm.length + x.vl.length + 4 + totX r
theorem text_le (x:Lx):(textF x).length≤x.nm.length + x.vl.length + 4:=by
 have hi:(innF x.nm x.vl).length≤x.nm.length + x.vl.length + 1:=by unfold innF;split <;> first | omega | (simp;omega)
 unfold textF
 repeat' split
 all_goals first | omega | (simp;omega)
theorem print_le:∀ l:List Lx,(qbl l).length≤totX l
 | []=>Nat.le_refl _
 | x :: r=>by
  have:=print_le r
  have:=text_le x
  rw [qsa,List.length_append,totX];omega
theorem q2u:∀ {l:List Lx} {k:Nat} (h:k < l.length),l[k].nm.length + l[k].vl.length + 4≤totX l
 | x :: r,0,_=>by rw [totX];simp
 | x :: r,k + 1,h=>by
  have:=q2u (l:=r) (k:=k) (by simpa using h)
  rw [totX]
  simp only [List.getElem_cons_succ];omega
theorem q2t:∀ l:List Lx,l.length≤totX l
 | []=>Nat.le_refl _
 | x :: r=>by have:=q2t r;rw [totX,List.length_cons];omega
theorem print_take (l:List Lx) (k:Nat):(qbl (l.take k)).length≤totX l:=by
 have h:=print_le l
 have:qbl l=qbl (l.take k)++qbl (l.drop k):=by rw [← q6g,List.take_append_drop]
 rw [this,List.length_append] at h;omega
theorem q11 {l:List Lx} {k:Nat} (h:k < l.length):qbl (l.take (k + 1))=qbl (l.take k)++textF l[k]:=by
 rw [List.take_succ_eq_append_getElem h,q6g,qsa]
 show _++(_++[])=_
 rw [List.append_nil]
theorem qsh {l:List Lx} {k:Nat} (h:k < l.length) (pt:Bool):lastK pt (l.take (k + 1))=decide (l[k].k=1):=by
 unfold lastK
 rw [List.take_succ_eq_append_getElem h,List.getLast?_concat]
theorem q9z {S:Nat→Prop} {a:Option Addr} {n c:Nat} (L:List Lx) (hL:RowAt encX S w a n L) (hT:totX L≤1000000000) (hM:Mk w) (h:∀ w',Ext w w'→R (.returned (.int .i64 (chkX L))) w') :
  Calls prog qmj ⟨[.slice a n c]⟩ w R:=by
 apply q0o
 have hn:n=L.length:=hL.1
 have hln:=q2t L
 refine ⟨fun at_ t W m=>∃ k:Nat,t=k∧k≤n∧m=n - k∧at_=((qbl (L.take k)).length:Int)∧chkX L=chkGo (L.drop k) (lastK false (L.take k)) (qbl (L.take k)).length∧Ext w W,⟨_,0,rfl,by omega,rfl,rfl,rfl,Below.refl _ _⟩,?_⟩
 rintro _ _ W m ⟨k,rfl,hk,rfl,rfl,heq,he⟩ _
 have hpk:=print_take L k
 refine qd (fun hlt=>?_) (fun hge=>?_)
 ·have hkL:k < L.length:=by omega
  obtain ⟨q,hq,c0,c1,c2,c3⟩:=get_lx (hL.ext he) hkL
  have hx:=q2u hkL
  refine hq _ ⟨_,c0,_,c1,_,c2,_,c3,?_⟩
  refine qw rfl one4 fun bx w15 hbx Bx e15 s15=>?_
  obtain ⟨d0,d1,d2,d3⟩:=blk4x (x:=L[k]) Bx
  refine ⟨_,d0,_,d1,_,d2,_,d3,?_⟩
  have E15:=qb he e15
  rw [List.drop_eq_getElem_cons hkL,chkGo] at heq
  generalize hxk:L[k]=x at *
  refine q5y x fun w21 e21=>⟨_,rfl,qd (fun g1=>?_) (fun g1=>?_)⟩
  ·have:qdx x (lastK false (L.take k)) ((qbl (L.take k)).length:Int)=qbz x:=by unfold qdx;rw [if_pos g1]
   rw [this,if_pos g1] at heq
   rw [← heq];exact h w21 (qb E15 e21)
  intro K23 hK23
  have hsx:qbz x=0:=Classical.not_not.1 g1
  have k23:∀ w24,Ext w15 w24→¬ (x.k=1∧lastK false (L.take k)=true)→K23 w24:=by
   intro w24 e24 g2
   refine hK23 _ fun _=>?_
   intro K25 hK25
   have k25:∀ w26,Ext w15 w26→(x.k≠1→qbu x=true)→K25 w26:=by
    intro w26 e26 g3
    refine hK25 _ fun _=>?_
    refine ⟨_,qp d3 e26,qd (fun g4=>?_) (fun g4=>?_)⟩
    ·have:qdx x (lastK false (L.take k)) ((qbl (L.take k)).length:Int)=9:=by
      unfold qdx
      rw [if_neg (by simpa using hsx),if_neg g2,if_neg (fun hh=>by rw [g3 hh.1] at hh;cases hh.2),if_pos g4]
     rw [this,if_pos (by decide)] at heq
     rw [← heq];exact h w26 (qb E15 e26)
    ·have h0:qdx x (lastK false (L.take k)) ((qbl (L.take k)).length:Int)=0:=chk_ok hsx g2 g3 (Classical.not_not.1 g4)
     rw [h0,if_neg (by decide)] at heq
     refine ⟨_,qp d0 e26,_,qp d1 e26,_,qp d2 e26,_,qp d3 e26,?_⟩
     refine q1u x (by omega) (by omega) fun w33 e33=>⟨_,rfl,?_⟩
     have htl:=text_le x
     refine ⟨n - (k + 1),by omega,k + 1,by rw [qj (by omega)],by omega,rfl,?_,?_,qb E15 (qb e26 e33)⟩
     ·rw [q11 hkL,hxk,List.length_append,qu (by omega)];omega
     ·rw [heq,q11 hkL,qsh hkL,hxk,List.length_append]
   refine ⟨_,qp d0 e24,qd (fun gk=>?_) (fun gk=>k25 w24 e24 (fun hh=>absurd hh gk))⟩
   refine ⟨_,qp d0 e24,_,qp d1 e24,_,qp d2 e24,_,qp d3 e24,?_⟩
   have hkn:x.k=3∨qcd x.nm=true:=by
    right
    unfold qbz at hsx
    rw [if_neg gk] at hsx
    split at hsx
    ·split at hsx
     ·rename_i hh;exact hh.1
     ·cases hsx
    ·cases hsx
   refine qw4 x hkn (by omega) (hM.ext (qb E15 e24)) fun w42 e42=>⟨_,rfl,?_⟩
   refine ql (fun g3=>?_) (fun g3=>k25 w42 (qb e24 e42) fun _=>by simpa using g3)
   have g3:qbu x=false:=by simpa using g3
   have:qdx x (lastK false (L.take k)) ((qbl (L.take k)).length:Int)=3:=by
    unfold qdx
    rw [if_neg (by simpa using hsx),if_neg g2,if_pos ⟨gk,g3⟩]
   rw [this,if_pos (by decide)] at heq
   rw [← heq];exact h w42 (qb E15 (qb e24 e42))
  refine ⟨_,qp d0 e21,qd (fun gk=>?_) (fun gk=>k23 w21 e21 (fun hh=>gk hh.1))⟩
  refine qd (fun gt=>?_) (fun gt=>?_)
  ·obtain ⟨j,rfl⟩:∃ j,k=j + 1:=⟨k - 1,by omega⟩
   have hj:j < L.length:=by omega
   obtain ⟨q',hq',c0',_⟩:=get_lx (hL.ext (qb E15 e21)) hj
   rw [show ((j + 1:Nat):Int) - 1=(j:Int) by omega,qu (by omega)]
   refine hq' _ ⟨_,c0',qd (fun gj=>?_) (fun gj=>?_)⟩
   ·have:qdx x (lastK false (L.take (j + 1))) ((qbl (L.take (j + 1))).length:Int)=10:=by
     unfold qdx
     rw [if_neg (by simpa using hsx),if_pos ⟨gk,by rw [qsh hj];exact decide_eq_true gj⟩]
    rw [this,if_pos (by decide)] at heq
    rw [← heq];exact h w21 (qb E15 e21)
   ·exact k23 w21 e21 fun hh=>by rw [qsh hj] at hh;exact gj (of_decide_eq_true hh.2)
  ·refine k23 w21 e21 fun hh=>?_
   have:k=0:=by omega
   subst this
   rw [List.take_zero] at hh
   cases hh.2
 ·have hkn:k=L.length:=by omega
  subst hkn
  rw [List.drop_length,List.take_length,chkGo] at heq
  rw [List.take_length]
  refine qd (fun g=>?_) (fun g=>?_)
  ·rw [if_pos (by omega)] at heq;rw [← heq];exact h W he
  ·rw [if_neg (by omega)] at heq;rw [← heq];exact h W he
theorem q93:∀ (l:List Lx) (pt:Bool) (at_:Nat),chkGo l pt at_=0→totX l≤5 * (qbl l).length + 4 * l.length
 | [],_,_,_=>Nat.zero_le _
 | x :: r,pt,at_,h=>by
  have ih:=q93 r _ _ (chkGo_cons.1 h).2
  have hx:x.nm.length + x.vl.length≤(textF x).length:=by
   have hi:x.nm.length + x.vl.length≤(innF x.nm x.vl).length:=by
    unfold innF;split
    ·simp <;> omega
    ·rename_i hv;have:x.vl=[]:=by simpa using hv
     rw [this];simp
   obtain ⟨a,_⟩:=chk_inv (chkGo_cons.1 h).1
   by_cases hk:x.k=1
   ·obtain ⟨e1,_,_,e4⟩:=text_form a hk
    rw [e4,e1];simp
   ·unfold qbz at a
    rw [if_neg hk] at a
    split at a
    ·rename_i h3
     unfold textF
     rcases h3 with h3 | h3 | h3 <;> simp [h3] <;> omega
    ·cases a
  rw [totX,qsa,List.length_append,List.length_cons];omega
theorem scan_small (s:List UInt8):totX (scanF s).1≤1000000000∧(scanF s).1.length≤65536:=by
 by_cases h0:(scanF s).2=0
 ·have he:scanF s=((scanF s).1,0):=by rw [← h0]
  obtain ⟨h1,h2⟩:=scan_print he
  have h3:=q93 _ _ _ h1
  have hs:s.length≤65536:=by
   unfold scanF at h0
   split at h0
   ·cases h0
   ·omega
  have h4:(scanF s).1.length≤65536:=by
   have e:scanL (qbd s 0)=((scanF s).1,0):=by
    have:=he
    unfold scanF at this ⊢
    rw [if_neg (by omega)] at this ⊢
    exact this
   have:=qw0 e
   have:=qsc s.length s 0 (Nat.le_refl _)
   omega
  rw [h2] at h3
  exact ⟨by omega,h4⟩
 ·rw [scanF_err h0];exact ⟨Nat.zero_le _,Nat.zero_le _⟩
end
end Go.Proofs
