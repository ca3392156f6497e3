/- The contracts of the functions that the law reaches, one after the other, and at the end the law's card. -/
import Derived.Test.YtkecgnlelgdndaaGreatDoorLawD
import Derived.Lib.AtoiAll
import Derived.Lib.ItoaNum
import Derived.Lib.IndexAny
import Derived.Lib.IndexMore
import Derived.Lib.Strings
import Derived.Laws.Runes
import Derived.Laws.RangeString
import Derived.Laws.Strings3
import Derived.Scope
import Derived.WalkMore
import Derived.LoopN
import Derived.WalkSmall
import Derived.Deep.QuietTactic
import Derived.BigQuiet
import Derived.Lib.IndexBytes
import Derived.Deep.LoopGhost
import Derived.Lib.OthersKept
import Derived.Laws.RangeAny
import Derived.Lib.SmallJoins
import Derived.Carry
import Derived.ChangeSame
import Derived.RowKit
import Derived.OpenShut
import Derived.Test.YtkecgnlelgdndaaGreatDoorCards
import Derived.Test.YtkecgnlelgdndaaGreatDoorTie
import Derived.Deep.DeepHandedRow
import Derived.Lib.LaidTab
import Derived.Lib.LaidU8
import Derived.WalkKit
import Derived.ProofKit
set_option linter.all false
set_option maxRecDepth 1000000
namespace Go.Proofs
open Go Go.Sh Go.RowKit Go.Proofs.Tryz IntKind
theorem get_tag {S:Nat→Prop} {w:World} {a:Option Addr} {n:Nat} {L:List TagV} (h:RowAt encT S w a n L) {k:Nat} (hk:k < L.length) :
  ∃ q:Addr,(∀ K:Addr→Prop,K q→idx a n (k:Int) 3 K)∧w.cell? (q.add 0)=some (.string ⟨⟨L[k].nm⟩⟩)∧w.cell? (q.add 1)=some (.bool L[k].em)∧w.cell? (q.add 2)=some (.func L[k].f L[k].fa L[k].fb):=by
 obtain ⟨bb,o,hq,_,_,hc⟩:=h.get (i:=k) (x:=L[k]) (List.getElem?_eq_getElem hk)
 exact ⟨⟨bb,o,none⟩,hq,by rw [qg];exact hc 0 _ rfl,by rw [qg];exact hc 1 _ rfl,by rw [qg];exact hc 2 _ rfl⟩
def tagAt (b8 b64:Nat) (nm:List UInt8):Option TagV:=(tagsV b8 b64).find? fun x=>decide (x.nm=nm)
theorem blk3 {w:World} {b:Nat} {v0 v1 v2:Value} {T:TypeId} (h:Blk w b [v0,v1,v2] T):w.cell? ((⟨b,0,none⟩:Addr).add 0)=some v0∧w.cell? ((⟨b,0,none⟩:Addr).add 1)=some v1∧w.cell? ((⟨b,0,none⟩:Addr).add 2)=some v2:=by
 simp only [qg,h.cell];exact ⟨rfl,rfl,rfl⟩
theorem qzm {R:Ending→World→Prop} {w:World} (nm:List UInt8)
  (h1:∀ b8 b64 w' x,w.heap.size≤b8→w.heap.size≤b64→Blk w' b8 [.int .i64 8] 3→Blk w' b64 [.int .i64 64] 3→tagAt b8 b64 nm=some x→Ext w w'→R (.returned (.tuple ⟨[.agg ⟨[.string ⟨⟨nm⟩⟩,.bool x.em,.func x.f x.fa x.fb]⟩,.bool true]⟩)) w')
  (h2:∀ w',(∀ b8 b64,tagAt b8 b64 nm=none)→Ext w w'→R (.returned (.tuple ⟨[.agg ⟨[.string ⟨⟨[]⟩⟩,.bool false,.nilFunc]⟩,.bool false]⟩)) w') :
  Calls prog qtd ⟨[.string ⟨⟨nm⟩⟩]⟩ w R:=by
 apply q54
 refine qh fun b2 w3 hb2 B2 e3 s3=>?_
 refine tags_spec fun b8 b64 bt w5 hb8 hb64 B8 B64 hT e5=>⟨_,_,_,rfl,?_⟩
 have E5:=qb e3 e5
 have hlen:(tagsV b8 b64).length=10:=rfl
 have hna:∀ b8' b64',tagAt b8 b64 nm=none→tagAt b8' b64' nm=none:=by
  intro b8' b64' hn
  unfold tagAt at hn ⊢
  rw [List.find?_eq_none] at hn ⊢
  intro x hx
  have hm:(tagsV b8 b64).map (·.nm)=(tagsV b8' b64').map (·.nm):=rfl
  have:x.nm∈(tagsV b8 b64).map (·.nm):=by rw [hm];exact List.mem_map_of_mem hx
  obtain ⟨y,hy,hxy⟩:=List.mem_map.1 this
  have:=hn y hy
  rw [← hxy];exact this
 refine ⟨fun i W m=>∃ k:Nat,i=k∧k≤10∧m=10 - k∧((tagsV b8 b64).take k).all (fun x=>decide (x.nm≠nm))=true∧Ext w5 W,⟨_,0,rfl,by omega,rfl,rfl,Below.refl _ _⟩,?_⟩
 rintro _ W m ⟨k,rfl,hk,rfl,hall,he⟩ _
 have EW:=qb E5 he
 have B2':=(B2.ext e5).ext he
 have z3:=e3.size
 refine qd (fun hlt=>?_) (fun hge=>?_)
 ·have hkL:k < (tagsV b8 b64).length:=by rw [hlen];omega
  obtain ⟨q,hq,c0,c1,c2⟩:=get_tag (hT.ext he) hkL
  refine hq _ ⟨_,c0,_,c1,_,c2,?_⟩
  refine qx (by simp) (by intro u hu;simp only [List.mem_cons,List.not_mem_nil,or_false] at hu;rcases hu with rfl | rfl | rfl <;> rfl) fun bx w18 hbx hBx e18 s18=>?_
  obtain ⟨y0,y1,y2⟩:=blk3 hBx
  have z18:=e18.size
  refine ⟨_,y0,qd (fun g=>?_) (fun g=>?_)⟩
  ·refine ⟨_,y0,_,y1,_,y2,?_⟩
   refine qaf (B2'.ext e18) (by simp) (by intro u hu;simp only [List.mem_cons,List.not_mem_nil,or_false] at hu;rcases hu with rfl | rfl | rfl <;> rfl) fun w23 b1 x2 x3 x4 x5 x6=>?_
   have b1':Blk w23 b2 [.string ⟨⟨(tagsV b8 b64)[k].nm⟩⟩,.bool (tagsV b8 b64)[k].em,.func (tagsV b8 b64)[k].f (tagsV b8 b64)[k].fa (tagsV b8 b64)[k].fb] 262:=b1
   have hc:Chg (fun j=>j=b2) w18 w23:=⟨x4,x5,x6,by omega,fun j _ hj=>x2 j hj⟩
   obtain ⟨u0,u1,u2⟩:=blk3 b1'
   have E23:Ext w w23:=qi (qb EW e18) hc fun j hj=>by omega
   refine ⟨_,u0,_,u1,_,u2,?_⟩
   rw [g]
   refine h1 b8 b64 w23 _ (by omega) (by omega) (hc.blk ((B8.ext he).ext e18) (by omega)) (hc.blk ((B64.ext he).ext e18) (by omega)) ?_ E23
   unfold tagAt
   rw [List.find?_eq_some_iff_getElem]
   refine ⟨by simpa using g,k,hkL,rfl,fun j hj=>?_⟩
   have:=List.all_eq_true.1 hall ((tagsV b8 b64)[j]'(by omega)) (by rw [List.mem_take_iff_getElem];exact ⟨j,by omega,rfl⟩)
   simpa using this
  ·refine ⟨10 - (k + 1),by omega,k + 1,by rw [ql (by omega)],by omega,rfl,?_,qb he e18⟩
   rw [List.take_add_one,List.getElem?_eq_getElem hkL,List.all_append,hall]
   simpa using g
 ·have hk10:k=10:=by omega
  subst hk10
  refine qaf B2' (by simp) (by intro u hu;simp only [List.mem_cons,List.not_mem_nil,or_false] at hu;rcases hu with rfl | rfl | rfl <;> rfl) fun w28 b1 x2 x3 x4 x5 x6=>?_
  have b1':Blk w28 b2 [.string ⟨⟨[]⟩⟩,.bool false,.nilFunc] 262:=b1
  have hc:Chg (fun j=>j=b2) W w28:=⟨x4,x5,x6,by omega,fun j _ hj=>x2 j hj⟩
  obtain ⟨u0,u1,u2⟩:=blk3 b1'
  refine ⟨_,u0,_,u1,_,u2,h2 w28 (fun b8' b64'=>hna b8' b64' ?_) (qi EW hc fun j hj=>by omega)⟩
  unfold tagAt
  rw [List.find?_eq_none]
  intro x hx
  rw [List.take_of_length_le (by rw [hlen];omega)] at hall
  have:=List.all_eq_true.1 hall x hx
  simpa using this
def numV (most:Nat) (s:List UInt8):Bool:=(List.range most).any fun i=>decide (Lib.decDigits (i + 1)=s)
theorem atoi_dec:∀ i:Nat,i < 64→Lib.atoiAll (Lib.decDigits (i + 1))=.ok ((i + 1:Nat):Int):=by decide +kernel
theorem dec_dig:∀ i:Nat,i < 64→(Lib.decDigits (i + 1)).all (fun c=>decide (kd c=3))=true:=by decide +kernel
theorem qq9 {most:Nat} (hm:most≤64) (s:List UInt8):numV most s=true↔∃ n:Nat,Lib.atoiAll s=.ok (n:Int)∧1≤n∧n≤most∧Lib.decDigits n=s:=by
 unfold numV
 rw [List.any_eq_true]
 constructor
 ·rintro ⟨i,hi,h⟩
  have hi:=List.mem_range.1 hi
  have h:=of_decide_eq_true h
  exact ⟨i + 1,by rw [← h];exact atoi_dec i (by omega),by omega,by omega,h⟩
 ·rintro ⟨n,_,h1,h2,h⟩
  exact ⟨n - 1,List.mem_range.2 (by omega),by rw [show n - 1 + 1=n by omega];exact decide_eq_true h⟩
theorem numV_dig {most:Nat} (hm:most≤64) {s:List UInt8} (h:numV most s=true):∀ c∈s,kd c=3:=by
 obtain ⟨n,_,h1,h2,rfl⟩:=(qq9 hm s).1 h
 have:=dec_dig (n - 1) (by omega)
 rw [show n - 1 + 1=n by omega] at this
 intro c hc
 exact of_decide_eq_true (List.all_eq_true.1 this c hc)
def qxb:List (List UInt8):=[[97,98],[97,100,100],[100,101,108],[103,97,112],[108,98],[110,97,109,101],[112,98],[115,101,99],[117,110,99,108,101,97,114],[118]]
def qcl (nm:List UInt8):Bool:=decide (nm∈qxb)
def qgt (nm:List UInt8):Bool:=decide (nm∈[[108,98],[118],[112,98],[115,101,99],[103,97,112]])
def valB (nm vl:List UInt8):Bool :=
 if nm=[108,98]∨nm=[118]∨nm=[117,110,99,108,101,97,114] then decide (vl=[]) else if nm=[103,97,112] then numV 64 vl
 else if nm=[97,100,100]∨nm=[100,101,108] then numV 8 vl else if nm=[97,98] then qt vl else qp vl
theorem qzd {nm:List UInt8} {C:List UInt8→Prop} (h:qcl nm=true) (hc:∀ x∈qxb,C x):C nm:=hc nm (of_decide_eq_true h)
theorem word_kd {v:List UInt8} (h:qt v=true):∀ c∈v,kd c≠0∧kd c≤4:=by
 unfold qt at h
 simp only [Bool.and_eq_true,decide_eq_true_eq,List.all_eq_true] at h
 obtain ⟨⟨⟨⟨_,h2⟩,h3⟩,_⟩,h5⟩:=h
 rw [qh5,if_neg (by omega)] at h3
 intro c hc
 refine ⟨?_,h5 c hc⟩
 by_cases ho:qa7 v=true
 ·obtain ⟨j,hj,rfl⟩:=List.mem_iff_getElem.1 hc
  have:=List.all_eq_true.1 ho j (List.mem_range.2 hj)
  unfold okAt at this
  have hk:=kA_eq hj
  intro h0
  rw [← hk,h0] at this
  simp at this
 ·rw [if_neg ho] at h3;cases h3
theorem name_kd {v:List UInt8} (h:qp v=true):∀ c∈v,kd c≠0∧kd c≤4:=by
 unfold qp at h
 simp only [Bool.and_eq_true,decide_eq_true_eq] at h
 intro c hc
 rcases qvj h.2 c hc with h | h <;> rw [h] <;> decide
theorem val_kd {nm v:List UInt8} (h:valB nm v=true):∀ c∈v,kd c≠0∧kd c≤4:=by
 unfold valB at h
 repeat' split at h
 ·intro c hc;rw [of_decide_eq_true h] at hc;cases hc
 ·intro c hc;rw [numV_dig (by omega) h c hc];decide
 ·intro c hc;rw [numV_dig (by omega) h c hc];decide
 ·exact word_kd h
 ·exact name_kd h
theorem kd_bad {c:UInt8} (h:kd c≠0∧kd c≤4):c≠32∧c≠47∧c≠60∧c≠62:=by
 refine ⟨?_,?_,?_,?_⟩ <;> rintro rfl <;> revert h <;> decide
theorem nm_bad {nm:List UInt8} (h:qcl nm=true):nm≠[]∧nm.length≤7∧∀ c∈nm,c≠32∧c≠47∧c≠60∧c≠62 :=
 qzd (C:=fun nm=>nm≠[]∧nm.length≤7∧∀ c∈nm,c≠32∧c≠47∧c≠60∧c≠62) h (by decide)
def nameF (t:List UInt8):List UInt8:=t.takeWhile fun c=>!(c == 32||c == 47)
def qcb (part:List UInt8):List UInt8:=(part.take (part.length - 1)).drop 1
def tailF:List UInt8→List UInt8
 | []=>[]
 | c :: r=>if c=32 then r.takeWhile (fun c=>!(c == 47)) else []
def qx1 (inner nm:List UInt8):List UInt8:=tailF (inner.drop nm.length)
def qd9 (inner:List UInt8):List UInt8:=(Lib.cut (Lib.trimSuffix inner [47]) [32]).2.1
def zeroX:Lx:=⟨0,[],[],0⟩
def tagX (nm vl:List UInt8):Lx:=⟨if qgt nm=true then 4 else 2,nm,vl,0⟩
def accX (part nm vl:List UInt8):Lx × Int:=if valB nm vl=true∧textF (tagX nm vl)=part then (tagX nm vl,0) else (zeroX,3)
def readF (part:List UInt8):Lx × Int :=
 if (qcb part).head? = some 47 then
  (if qcl (nameF ((qcb part).drop 1))=false then (zeroX,12)
  else if qgt (nameF ((qcb part).drop 1))=false∧[60,47]++nameF ((qcb part).drop 1)++[62]=part then (⟨3,nameF ((qcb part).drop 1),[],0⟩,0) else (zeroX,3))
 else (if qcl (nameF (qcb part))=false then (zeroX,12) else accX part (nameF (qcb part)) (qx1 (qcb part) (nameF (qcb part))))
theorem qkw (m:List UInt8):qcb (60 :: (m++[62]))=m:=by
 unfold qcb
 rw [show (60 :: (m++[62]):List UInt8).length - 1=(60 :: m:List UInt8).length by simp,show (60 :: (m++[62]):List UInt8)=(60 :: m)++[62] by simp,List.take_left]
 rfl
theorem q3w:∀ {l:List UInt8} {c:UInt8},c∉l→Lib.index l [c]=-1
 | [],_,_=>rfl
 | b :: l,c,h=>by
  rw [Lib.index,q3w (fun hh=>h (List.mem_cons_of_mem _ hh))]
  have:¬ c=b:=fun e=>h (by rw [e];exact List.mem_cons_self)
  simp [this]
theorem index_at:∀ {l r:List UInt8} {c:UInt8},c∉l→Lib.index (l++c :: r) [c]=(l.length:Int)
 | [],r,c,_=>by rw [List.nil_append,Lib.index];simp
 | b :: l,r,c,h=>by
  rw [List.cons_append,Lib.index,index_at (fun hh=>h (List.mem_cons_of_mem _ hh))]
  have:¬ c=b:=fun e=>h (by rw [e];exact List.mem_cons_self)
  have h2:¬ ((l.length:Int)=-1):=by omega
  simp [this,h2]
theorem inn_chars {nm v:List UInt8} (hn:∀ c∈nm,c≠32∧c≠47∧c≠60∧c≠62) (hv:∀ c∈v,c≠32∧c≠47∧c≠60∧c≠62):∀ c∈innF nm v,c≠47∧c≠60∧c≠62:=by
 intro c hc
 unfold innF at hc
 split at hc
 ·simp only [List.mem_append,List.mem_cons,List.not_mem_nil,or_false] at hc
  rcases hc with h | rfl | h
  ·exact (hn c h).2
  ·decide
  ·exact (hv c h).2
 ·exact (hn c hc).2
theorem cut_inn {nm v:List UInt8} (hn:∀ c∈nm,c≠32∧c≠47∧c≠60∧c≠62):(Lib.cut (innF nm v) [32]).2.1=v:=by
 have h32:(32:UInt8)∉nm:=fun h=>(hn 32 h).1 rfl
 unfold Lib.cut innF
 by_cases hv:v=[]
 ·subst hv
  have e:(if ([]:List UInt8)≠[] then nm++([32]++[]) else nm)=nm:=if_neg (by simp)
  rw [e,q3w h32]
  rfl
 ·rw [if_pos hv,List.singleton_append,index_at h32,if_pos (by omega)]
  show List.drop ((nm.length:Int).toNat + 1) (nm++32 :: v)=v
  rw [Int.toNat_natCast,← List.drop_drop,List.drop_left]
  rfl
theorem no_suffix {m:List UInt8} (h:∀ c∈m,c≠47∧c≠60∧c≠62):Lib.trimSuffix m [47]=m:=by
 unfold Lib.trimSuffix Lib.hasSuffix
 rw [if_neg]
 intro hs
 obtain ⟨t,ht⟩:=List.isSuffixOf_iff_suffix.1 hs
 exact (h 47 (by rw [← ht];simp)).1 rfl
theorem one_suffix (m:List UInt8):Lib.trimSuffix (m++[47]) [47]=m:=by
 unfold Lib.trimSuffix Lib.hasSuffix
 rw [if_pos (List.isSuffixOf_iff_suffix.2 ⟨m,rfl⟩)]
 simp
theorem tail_inn {nm v t:List UInt8} (hv:∀ c∈v,c≠32∧c≠47∧c≠60∧c≠62) (ht:t=[]∨t=[47]):qx1 (innF nm v++t) nm=v:=by
 unfold qx1 innF
 by_cases h:v=[]
 ·subst h
  rw [if_neg (by simp),List.drop_left]
  rcases ht with rfl | rfl <;> rfl
 ·rw [if_pos h,List.append_assoc,List.drop_left]
  show tailF (32 :: (v++t))=v
  rw [tailF,if_pos rfl]
  have hh:∀ c∈v,(!(c == 47))=true:=fun c hc=>by simpa using (hv c hc).2.1
  rw [List.takeWhile_append_of_pos hh]
  rcases ht with rfl | rfl <;> simp
theorem val_key {part nm v:List UInt8} (hn:qcl nm=true) (hv:valB nm v=true) (hp:textF (tagX nm v)=part):qd9 (qcb part)=v∧qx1 (qcb part) nm=v:=by
 obtain ⟨_,_,hc⟩:=nm_bad hn
 have hvc:∀ c∈v,c≠32∧c≠47∧c≠60∧c≠62:=fun c h=>kd_bad (val_kd hv c h)
 have hin:=inn_chars hc hvc
 subst hp
 unfold tagX textF
 by_cases he:qgt nm=true
 ·simp only [he,if_true]
  rw [if_neg (by decide),if_neg (by decide)]
  have e:([60]++innF nm v++[47,62]:List UInt8)=60 :: ((innF nm v++[47])++[62]):=by simp
  rw [e,qkw]
  exact ⟨by unfold qd9;rw [one_suffix,cut_inn hc],tail_inn hvc (.inr rfl)⟩
 ·simp only [he]
  rw [if_pos (by rfl)]
  have e:([60]++innF nm v++[62]:List UInt8)=60 :: (innF nm v++[62]):=by simp
  rw [e,qkw]
  refine ⟨by unfold qd9;rw [no_suffix hin,cut_inn hc],?_⟩
  have:=tail_inn (nm:=nm) hvc (.inl rfl)
  rwa [List.append_nil] at this
theorem acc_PF {part nm:List UInt8} (hn:qcl nm=true):accX part nm (qd9 (qcb part))=accX part nm (qx1 (qcb part) nm):=by
 by_cases hP:valB nm (qd9 (qcb part))=true∧textF (tagX nm (qd9 (qcb part)))=part
 ·rw [(val_key hn hP.1 hP.2).2]
 ·by_cases hF:valB nm (qx1 (qcb part) nm)=true∧textF (tagX nm (qx1 (qcb part) nm))=part
  ·rw [(val_key hn hF.1 hF.2).1]
  ·unfold accX
   rw [if_neg hP,if_neg hF]
theorem any_name:∀ b:List UInt8,nameF b=if 0≤Lib.indexAny b [32,47] then b.take (Lib.indexAny b [32,47]).toNat else b
 | []=>rfl
 | c :: l=>by
  have ih:=any_name l
  have hg:=Lib.indexAny_ge [32,47] l
  unfold nameF at ih ⊢
  rw [Lib.indexAny,List.takeWhile_cons]
  by_cases hc:c=32∨c=47
  ·have h1:([32,47]:List UInt8).contains c=true:=by rcases hc with rfl | rfl <;> rfl
   have h2:(!(c == 32||c == 47))=false:=by rcases hc with rfl | rfl <;> rfl
   rw [h1,h2]
   rfl
  ·have h1:([32,47]:List UInt8).contains c=false:=by simpa using hc
   have h2:(!(c == 32||c == 47))=true:=by simpa using hc
   rw [h1,h2,ih]
   simp only [if_true,Bool.false_eq_true,if_false]
   by_cases hm:Lib.indexAny l [32,47]=-1
   ·rw [hm];simp
   ·have h0:0≤Lib.indexAny l [32,47]:=by omega
    have hb:(Lib.indexAny l [32,47] == -1)=false:=by simpa using hm
    rw [hb,if_pos h0]
    simp only [Bool.false_eq_true,if_false]
    rw [if_pos (by omega),show (Lib.indexAny l [32,47] + 1).toNat=(Lib.indexAny l [32,47]).toNat + 1 by omega,List.take_succ_cons]
theorem name_le (b:List UInt8):(nameF b).length≤b.length:=(List.takeWhile_prefix _).length_le
def lexP (at_:Nat) (part:List UInt8):Lx × Int :=
 if part.head?≠some 60 then (if qay part=0 then (⟨1,[],part,at_⟩,0) else (zeroX,11))
 else if part.getLast?≠some 62 then (zeroX,3)
 else if (readF part).2=0 then ({ (readF part).1 with pos:=at_ },0) else (zeroX,(readF part).2)
def scanL:List (Nat × List UInt8)→List Lx × Int
 | []=>([],0)
 | p :: r=>if (lexP p.1 p.2).2=0 then (if (scanL r).2=0 then ((lexP p.1 p.2).1 :: (scanL r).1,0) else ([],(scanL r).2)) else ([],(lexP p.1 p.2).2)
def scanF (s:List UInt8):List Lx × Int:=if 65536 < s.length then ([],4) else scanL (qbj s 0)
theorem qyo:∀ {pre:List (Nat × List UInt8)} {out:List Lx},scanL pre=(out,0)→∀ r,scanL (pre++r)=if (scanL r).2=0 then (out++(scanL r).1,0) else ([],(scanL r).2)
 | [],out,h,r=>by
  obtain rfl:out=[]:=(Prod.mk.inj h).1.symm
  rw [List.nil_append]
  split
  ·rename_i h0;rw [List.nil_append,← h0]
  ·rename_i h0
   cases r with
   | nil=>exact absurd rfl h0
   | cons p r =>
    rw [scanL] at h0 ⊢
    split
    ·rename_i h1
     rw [if_pos h1] at h0
     split
     ·rename_i h2;rw [if_pos h2] at h0;exact absurd rfl h0
     ·rename_i h2;rfl
    ·rfl
 | p :: pre,out,h,r=>by
  rw [scanL] at h
  by_cases h1:(lexP p.1 p.2).2=0
  ·rw [if_pos h1] at h
   by_cases h2:(scanL pre).2=0
   ·rw [if_pos h2] at h
    obtain rfl:(lexP p.1 p.2).1 :: (scanL pre).1=out:=(Prod.mk.inj h).1
    have ih:=qyo (pre:=pre) (out:=(scanL pre).1) (by rw [← h2]) r
    rw [List.cons_append,scanL,if_pos h1,ih]
    split
    ·rw [if_pos rfl];rfl
    ·rfl
   ·rw [if_neg h2] at h
    exact absurd (Prod.mk.inj h).2 h2
  ·rw [if_neg h1] at h
   exact absurd (Prod.mk.inj h).2 h1
theorem scanL_one {at_:Nat} {part:List UInt8} {x:Lx} (h:lexP at_ part=(x,0)):scanL [(at_,part)]=([x],0):=by
 rw [scanL];rw [h];rfl
theorem scanL_bad {pre r:List (Nat × List UInt8)} {out:List Lx} {p:Nat × List UInt8} {e:Int} (h:scanL pre=(out,0)) (hl:(lexP p.1 p.2).2=e) (he:e≠0):scanL (pre++p :: r)=([],e):=by
 have e:scanL (p :: r)=([],e):=by rw [scanL,if_neg (by rw [hl];exact he),hl]
 rw [qyo h,e]
 exact if_neg he
theorem scanL_err:∀ {l:List (Nat × List UInt8)},(scanL l).2≠0→(scanL l).1=[]
 | [],h=>absurd rfl h
 | p :: r,h=>by
  rw [scanL] at h ⊢
  split
  ·rename_i h1
   rw [if_pos h1] at h
   split
   ·rename_i h2;rw [if_pos h2] at h;exact absurd rfl h
   ·rfl
  ·rfl
theorem scanF_err {s:List UInt8} (h:(scanF s).2≠0):(scanF s).1=[]:=by
 unfold scanF at h ⊢
 split
 ·rfl
 ·rename_i h1;rw [if_neg h1] at h;exact scanL_err h
def qb0 (x:Lx):Int :=
 if x.k=1 then (if x.nm≠[] then 12 else if x.vl=[] then 5 else if qay x.vl≠0 then 11 else 0)
 else if x.k=2∨x.k=3∨x.k=4 then (if qcl x.nm=true∧qgt x.nm=decide (x.k=4) then 0 else 12) else 8
def qbw (x:Lx):Bool:=if x.k=3 then decide (x.vl=[]) else valB x.nm x.vl
def qeb (x:Lx) (pt:Bool) (at_:Int):Int :=
 if qb0 x≠0 then qb0 x else if x.k=1∧pt=true then 10 else if x.k≠1∧qbw x=false then 3 else if x.pos≠at_ then 9 else 0
def chkGo:List Lx→Bool→Nat→Int
 | [],_,at_=>if 65536 < at_ then 4 else 0
 | x :: r,pt,at_=>if qeb x pt at_≠0 then qeb x pt at_ else chkGo r (decide (x.k=1)) (at_ + (textF x).length)
def chkX (l:List Lx):Int:=chkGo l false 0
def qbq (l:List Lx):List UInt8:=l.flatMap textF
def popS (nm:List UInt8) (st:List (List UInt8)):Option (List (List UInt8)):=match st with
 | []=>none
 | t :: st=>if t=nm then some st else none
def qh2:List Lx→List (List UInt8)→Int
 | [],st=>if st=[] then 0 else 12
 | x :: r,st=>if x.k=2 then (if 16 < st.length + 1 then 4 else qh2 r (x.nm :: st))
  else if x.k=3 then (match popS x.nm st with
   | none=>12
   | some st'=>qh2 r st')
  else qh2 r st
def nestX (l:List Lx):Int:=if chkX l≠0 then 1 else qh2 l []
theorem read_ok {part:List UInt8} {x:Lx} (h:readF part=(x,0)):textF x=part∧x.pos=0∧x.k≠1∧qb0 x=0∧qbw x=true:=by
 unfold readF at h
 split at h
 ·split at h
  ·exact absurd (Prod.mk.inj h).2 (by decide)
  ·rename_i hk
   split at h
   ·rename_i hh
    obtain rfl:=(Prod.mk.inj h).1
    have hk:qcl (nameF (List.drop 1 (qcb part)))=true:=by simpa using hk
    refine ⟨?_,rfl,by show (3:Int)≠1;decide,?_,?_⟩
    ·exact Eq.trans rfl hh.2
    ·unfold qb0
     rw [if_neg (by simp),if_pos (.inr (.inl rfl)),if_pos ⟨hk,by rw [hh.1];rfl⟩]
    ·rfl
   ·exact absurd (Prod.mk.inj h).2 (by decide)
 ·split at h
  ·exact absurd (Prod.mk.inj h).2 (by decide)
  ·rename_i hk
   have hk:qcl (nameF (qcb part))=true:=by simpa using hk
   unfold accX at h
   split at h
   ·rename_i hh
    obtain rfl:=(Prod.mk.inj h).1
    refine ⟨hh.2,rfl,?_,?_,?_⟩
    ·unfold tagX;split <;> simp
    ·unfold qb0 tagX
     by_cases he:qgt (nameF (qcb part))=true
     ·rw [if_pos he,if_neg (by simp),if_pos (.inr (.inr rfl)),if_pos ⟨hk,by rw [he];rfl⟩]
     ·rw [if_neg he,if_neg (by simp),if_pos (.inl rfl),if_pos ⟨hk,by simpa using he⟩]
    ·unfold qbw
     rw [if_neg (by unfold tagX;split <;> simp)]
     exact hh.1
   ·exact absurd (Prod.mk.inj h).2 (by decide)
theorem lex_ok {at_:Nat} {part:List UInt8} {x:Lx} (hne:part≠[]) (hl:part.length≤65536) (h:lexP at_ part=(x,0)) :
  textF x=part∧x.pos=at_∧(x.k=1↔part.head?≠some 60)∧qb0 x=0∧(x.k≠1→qbw x=true):=by
 unfold lexP at h
 split at h
 ·rename_i hp
  split at h
  ·rename_i hc
   obtain rfl:=(Prod.mk.inj h).1
   refine ⟨rfl,rfl,iff_of_true rfl hp,?_,fun h=>absurd rfl h⟩
   unfold qb0
   rw [if_pos rfl,if_neg (by simp),if_neg hne,if_neg (by simpa using hc)]
  ·exact absurd (Prod.mk.inj h).2 (by decide)
 ·rename_i hp
  split at h
  ·exact absurd (Prod.mk.inj h).2 (by decide)
  ·split at h
   ·rename_i h0
    obtain rfl:=(Prod.mk.inj h).1
    obtain ⟨r1,r2,r3,r4,r5⟩:=read_ok (part:=part) (x:=(readF part).1) (by rw [← h0])
    exact ⟨r1,rfl,iff_of_false r3 (by simpa using hp),r4,fun _=>r5⟩
   ·rename_i h0
    exact absurd (Prod.mk.inj h).2 h0
theorem cut_next {c:UInt8} {r:List UInt8} (hc:c≠60):((c :: r).drop (cutX (c :: r))).head? = some 60∨(c :: r).drop (cutX (c :: r))=[]:=by
 unfold cutX
 rw [if_neg (by simpa using hc)]
 split
 ·rename_i h
  obtain ⟨h1,_⟩:=Lib.indexByte_some (l:=c :: r) (c:=60) (o:=(Lib.indexByte (c :: r) 60).toNat) (by omega)
  left
  rw [List.head?_drop,h1]
 ·right;simp
theorem q4g {c:UInt8} {r:List UInt8}:((c :: r).take (cutX (c :: r))).head? = some c:=by
 obtain ⟨h1,_⟩:=qua (c:=c) (r:=r)
 obtain ⟨m,hm⟩:∃ m,cutX (c :: r)=m + 1:=⟨cutX (c :: r) - 1,by omega⟩
 rw [hm];rfl
theorem q3l {p:Nat × List UInt8} {r:List (Nat × List UInt8)} {l:List Lx} (h:scanL (p :: r)=(l,0)):∃ x l',l=x :: l'∧lexP p.1 p.2=(x,0)∧scanL r=(l',0):=by
 rw [scanL] at h
 split at h
 ·rename_i h1
  split at h
  ·rename_i h2
   exact ⟨_,_,(Prod.mk.inj h).1.symm,by rw [← h1],by rw [← h2]⟩
  ·rename_i h2;exact absurd (Prod.mk.inj h).2 h2
 ·rename_i h1;exact absurd (Prod.mk.inj h).2 h1
theorem chk_ok {x:Lx} {pt:Bool} {at_:Nat} (h1:qb0 x=0) (h2:¬ (x.k=1∧pt=true)) (h3:x.k≠1→qbw x=true) (h4:x.pos=at_):qeb x pt at_=0:=by
 unfold qeb
 rw [if_neg (by simpa using h1),if_neg h2,if_neg,if_neg (by simpa using h4)]
 rintro ⟨a,b⟩
 rw [h3 a] at b;cases b
theorem chk_inv {x:Lx} {pt:Bool} {at_:Int} (h:qeb x pt at_=0):qb0 x=0∧¬ (x.k=1∧pt=true)∧(x.k≠1→qbw x=true)∧x.pos=at_:=by
 unfold qeb at h
 split at h
 ·rename_i h1;exact absurd h h1
 ·rename_i h1
  split at h
  ·cases h
  ·rename_i h2
   split at h
   ·cases h
   ·rename_i h3
    split at h
    ·cases h
    ·rename_i h4
     refine ⟨by simpa using h1,h2,fun hk=>?_,by simpa using h4⟩
     cases hr:qbw x with
     | true=>rfl
     | false=>exact absurd ⟨hk,hr⟩ h3
theorem chkGo_cons {x:Lx} {r:List Lx} {pt:Bool} {at_:Nat}:chkGo (x :: r) pt at_=0↔qeb x pt at_=0∧chkGo r (decide (x.k=1)) (at_ + (textF x).length)=0:=by
 rw [chkGo]
 by_cases h:qeb x pt at_=0
 ·rw [if_neg (by simpa using h)];simp [h]
 ·rw [if_pos h];simp [h]
theorem scan_chk:∀ (n:Nat) (t:List UInt8) (at_:Nat) (pt:Bool) (l:List Lx),t.length≤n→scanL (qbj t at_)=(l,0)→(pt=true→t.head? = some 60∨t=[])→at_ + t.length≤65536→chkGo l pt at_=0∧qbq l=t
 | n,[],at_,pt,l,_,h,_,hb=>by
  rw [qbj] at h
  obtain rfl:=(Prod.mk.inj h).1.symm
  refine ⟨?_,rfl⟩
  rw [chkGo,if_neg (by simp at hb;omega)]
 | 0,c :: r,_,_,_,hn,_,_,_=>absurd hn (by simp)
 | n + 1,c :: r,at_,pt,l,hn,h,hpt,hb=>by
  rw [qbj] at h
  obtain ⟨x,l',rfl,hx,hl⟩:=q3l h
  obtain ⟨b1,b2⟩:=qua (c:=c) (r:=r)
  have hpl:((c :: r).take (cutX (c :: r))).length=cutX (c :: r):=by rw [List.length_take];omega
  obtain ⟨x1,x2,x3,x4,x5⟩:=lex_ok (fun e=>by rw [show (c :: r).take (cutX (c :: r))=[] from e] at hpl;simp at hpl;omega) (show ((c :: r).take (cutX (c :: r))).length≤65536 by rw [hpl];omega) hx
  rw [q4g] at x3
  have hdl:((c :: r).drop (cutX (c :: r))).length=(c :: r).length - cutX (c :: r):=List.length_drop
  obtain ⟨y1,y2⟩:=scan_chk n _ _ (decide (x.k=1)) l' (by omega) hl (fun hk=>by
   have hk:x.k=1:=of_decide_eq_true hk
   have hc:c≠60:=by have:=x3.1 hk;simpa using this
   exact cut_next hc) (by omega)
  refine ⟨chkGo_cons.2 ⟨chk_ok x4 ?_ x5 x2,?_⟩,?_⟩
  ·rintro ⟨a,b⟩
   have h1:=x3.1 a
   rcases hpt b with h2 | h2
   ·exact h1 (by simpa using h2)
   ·cases h2
  ·rw [x1,show ((at_,(c :: r).take (cutX (c :: r))).2).length=_ from hpl];exact y1
  ·rw [qbq,List.flatMap_cons,x1,← qbq,y2,List.take_append_drop]
theorem scan_print {s:List UInt8} {l:List Lx} (h:scanF s=(l,0)):chkX l=0∧qbq l=s:=by
 unfold scanF at h
 split at h
 ·exact absurd (Prod.mk.inj h).2 (by decide)
 ·rename_i hs
  exact scan_chk s.length s 0 false l (Nat.le_refl _) h (fun h=>by cases h) (by omega)
theorem text_form {x:Lx} (h1:qb0 x=0) (hk:x.k=1):x.nm=[]∧x.vl≠[]∧qay x.vl=0∧textF x=x.vl:=by
 unfold qb0 at h1
 rw [if_pos hk] at h1
 split at h1
 ·cases h1
 ·rename_i a
  split at h1
  ·cases h1
  ·rename_i b
   split at h1
   ·cases h1
   ·rename_i c
    refine ⟨by simpa using a,b,by simpa using c,?_⟩
    unfold textF
    rw [if_neg (by omega),if_neg (by omega),if_neg (by omega)]
theorem qty (x:Lx) (r:List Lx):qbq (x :: r)=textF x++qbq r:=by unfold qbq;rw [List.flatMap_cons]
def lastK (pt:Bool) (l:List Lx):Bool:=match l.getLast? with
 | some x=>decide (x.k=1)
 | none=>pt
theorem q7r (l m:List Lx):qbq (l++m)=qbq l++qbq m:=by unfold qbq;rw [List.flatMap_append]
end Go.Proofs
namespace Go.Proofs
open Go Go.Sh Go.RowKit Go.Lib Go.Proofs.Tryz IntKind
set_option maxHeartbeats 4000000 in
theorem q6m (s:ByteArray) (r:Int) (w:World) (h1:128≤r) (h2:r≠65533) (hv:Go.validRune r=false) :
  Calls prog 224 #[.string s,.int .i32 r] w fun e w'=>e=.returned (.int .i64 (-1))∧w'=w:=by
 have hv':Lib.validRune r=false:=hv
 go_enter Tryz.func224,Tryz.ntmps224
 go_wp2_with (go_at_call 255;refine (Tryz.utf8_ValidRune _ _).mono ?_;rintro e w' ⟨rfl,hw⟩;rw [hw,hv'])
 go_ret
 exact ⟨rfl,rfl⟩
theorem q8f (r:Int) (h1:128≤r) (hv:Go.validRune r=true):(∃ x y:UInt8,128≤y.toNat∧Utf8.encode r=⟨#[x,y]⟩)∨(∃ x y z:UInt8,Utf8.encode r=⟨#[x,y,z]⟩)∨(∃ x y z u:UInt8,Utf8.encode r=⟨#[x,y,z,u]⟩):=by
 have hv:Utf8.valid r=true:=by rw [validRune_eq];exact hv
 have hc:¬ r.toNat < 128:=by omega
 unfold Utf8.encode
 simp only [hv,if_true,hc,if_false]
 split
 ·exact .inl ⟨_,_,by simp;omega,rfl⟩
 ·split
  ·exact .inr (.inl ⟨_,_,_,rfl⟩)
  ·exact .inr (.inr ⟨_,_,_,_,rfl⟩)
section
variable (r:Int) (w:World) (h1:128≤r) (h2:r≠65533) (hv':Lib.validRune r=true)
set_option maxHeartbeats 4000000 in
include h1 h2 hv' in
theorem q6k (x y:UInt8) (hy:128≤y.toNat) (he:Utf8.encode r=⟨#[x,y]⟩) :
  Calls prog 224 #[.string ⟨#[32,47]⟩,.int .i32 r] w fun e w'=>e=.returned (.int .i64 (-1))∧∃ n,w'=w.drewN n:=by
 have hcv:∀ w,(convert 21 9 (.int .i32 r)).run prog w=.ok (.string ⟨#[x,y]⟩) w:=fun w=>by rw [← he];exact run_convert_int_string w 21 9 .i32 r (by rw [Tryz.underlying21];rfl) Tryz.underlying9
 have hne:¬ ((47:Int)=(y.toNat:Int)):=by omega
 have hwr:i64.wrap 2=2:=rfl
 have hsz:(⟨#[32,47]⟩:ByteArray).size=2:=rfl
 have hib:Lib.indexByte (ByteArray.extract ⟨#[32,47]⟩ 2 2).data.toList ((y.toNat:Int)).toNat.toUInt8=-1:=rfl
 go_enter Tryz.func224,Tryz.ntmps224
 go_wp2_with (go_at_call 255;refine (Tryz.utf8_ValidRune _ _).mono ?_;rintro e w' ⟨rfl,hw⟩;rw [hw,hv'])
 subst hw
 go_step3
 go_wp2
 refine wp_loop_rounds 1 ?_
 rw [rounds_succ]
 go_wp2
 go_step3
 go_wp2_with fail
 go_quiet (fail)
 go_wp2_with fail
 go_quiet (first | (go_at_call 220;refine (Tryz.strings_IndexByte _ _ _).mono ?_;rintro e w'' ⟨rfl,rfl⟩;exact ⟨rfl,_,rfl⟩))
 go_wp2
 ·simp only [Exit.noGoto,Exit.inBlock,Exit.then]
  go_ret
  exact ⟨rfl,_,rfl⟩
 ·exfalso
  have hh:((47:Int) != (y.toNat:Int))=false:=by assumption
  simp at hh
  omega
set_option maxHeartbeats 4000000 in
include h1 h2 hv' in
theorem q0w (x y z:UInt8) (he:Utf8.encode r=⟨#[x,y,z]⟩) :
  Calls prog 224 #[.string ⟨#[32,47]⟩,.int .i32 r] w fun e w'=>e=.returned (.int .i64 (-1))∧w'=w:=by
 have hcv:∀ w,(convert 21 9 (.int .i32 r)).run prog w=.ok (.string ⟨#[x,y,z]⟩) w:=fun w=>by rw [← he];exact run_convert_int_string w 21 9 .i32 r (by rw [Tryz.underlying21];rfl) Tryz.underlying9
 go_enter Tryz.func224,Tryz.ntmps224
 go_wp2_with (go_at_call 255;refine (Tryz.utf8_ValidRune _ _).mono ?_;rintro e w' ⟨rfl,hw⟩;rw [hw,hv'])
 subst hw
 go_step3
 go_wp2
 refine wp_loop_rounds 1 ?_
 rw [rounds_succ]
 go_wp2
 simp only [Exit.noGoto,Exit.inBlock]
 go_ret
 exact ⟨rfl,rfl⟩
set_option maxHeartbeats 4000000 in
include h1 h2 hv' in
theorem q24 (x y z u:UInt8) (he:Utf8.encode r=⟨#[x,y,z,u]⟩) :
  Calls prog 224 #[.string ⟨#[32,47]⟩,.int .i32 r] w fun e w'=>e=.returned (.int .i64 (-1))∧w'=w:=by
 have hcv:∀ w,(convert 21 9 (.int .i32 r)).run prog w=.ok (.string ⟨#[x,y,z,u]⟩) w:=fun w=>by rw [← he];exact run_convert_int_string w 21 9 .i32 r (by rw [Tryz.underlying21];rfl) Tryz.underlying9
 go_enter Tryz.func224,Tryz.ntmps224
 go_wp2_with (go_at_call 255;refine (Tryz.utf8_ValidRune _ _).mono ?_;rintro e w' ⟨rfl,hw⟩;rw [hw,hv'])
 subst hw
 go_step3
 go_wp2
 refine wp_loop_rounds 1 ?_
 rw [rounds_succ]
 go_wp2
 simp only [Exit.noGoto,Exit.inBlock]
 go_ret
 exact ⟨rfl,rfl⟩
end
set_option maxHeartbeats 4000000 in
theorem q6l (w:World):Calls prog 224 #[.string ⟨#[32,47]⟩,.int .i32 65533] w fun e w'=>e=.returned (.int .i64 (-1))∧∃ pos,w'=w.iter ⟨#[32,47]⟩ pos:=by
 go_enter Tryz.func224,Tryz.ntmps224
 have k0:=fun ty=>run_next_ascii (P:=prog) w ⟨#[32,47]⟩ 0 ty (by decide) (by decide)
 have k1:=fun ty=>run_next_ascii (P:=prog) w ⟨#[32,47]⟩ 1 ty (by decide) (by decide)
 have k2:=run_next_end (P:=prog) w ⟨#[32,47]⟩ 2
 have e0:((⟨#[32,47]⟩:ByteArray)[0]'(by decide)).toNat=32:=rfl
 have e1:((⟨#[32,47]⟩:ByteArray)[1]'(by decide)).toNat=47:=rfl
 rw [e0] at k0
 rw [e1] at k1
 go_wp2
 refine wp_loop_rounds 3 ?_
 rw [rounds_succ]
 go_wp2
 rw [rounds_succ]
 go_wp2
 rw [rounds_succ]
 go_wp2
 go_ret
 exact ⟨rfl,_,rfl⟩
theorem q6n (r:Int) (w:World) (h1:128≤r) (h3:r≤2147483647):Calls prog 224 #[.string ⟨#[32,47]⟩,.int .i32 r] w fun e w'=>e=.returned (.int .i64 (-1))∧Below w.heap.size w w':=by
 by_cases h2:r=65533
 ·subst h2
  refine (q6l w).mono ?_
  rintro e w' ⟨he,pos,rfl⟩
  exact ⟨he,(Below.refl _ _).alloc (Nat.le_refl _) _⟩
 ·cases hv:Go.validRune r with
  | false =>
   refine (q6m ⟨#[32,47]⟩ r w h1 h2 hv).mono ?_
   rintro e w' ⟨he,rfl⟩
   exact ⟨he,Below.refl _ _⟩
  | true =>
   rcases q8f r h1 hv with ⟨x,y,hy,he⟩ | ⟨x,y,z,he⟩ | ⟨x,y,z,u,he⟩
   ·refine (q6k r w h1 h2 hv x y hy he).mono ?_
    rintro e w' ⟨he,n,rfl⟩
    exact ⟨he,Go.below_drewN (Below.refl _ _) n⟩
   ·refine (q0w r w h1 h2 hv x y z he).mono ?_
    rintro e w' ⟨he,rfl⟩
    exact ⟨he,Below.refl _ _⟩
   ·refine (q24 r w h1 h2 hv x y z u he).mono ?_
    rintro e w' ⟨he,rfl⟩
    exact ⟨he,Below.refl _ _⟩
theorem decode_span (s:ByteArray) (pos:Nat) (h:pos < s.size) (ha:128≤(s[pos]'h).toNat):∃ n,(Utf8.decode s pos).2=n∧1≤n∧pos + n≤s.size∧∀ k,k < n→128≤(s.get! (pos + k)).toNat:=by
 have hg:=get_at s pos h
 have hn:¬ (s[pos]'h).toNat < 128:=by omega
 have one:∃ n,(1:Nat)=n∧1≤n∧pos + n≤s.size∧∀ k,k < n→128≤(s.get! (pos + k)).toNat :=
  ⟨1,rfl,Nat.le_refl _,by omega,by
   intro k hk
   have hk0:k=0:=by omega
   subst hk0
   rw [hg];exact ha⟩
 simp only [Utf8.decode,hg,hn,if_false]
 split
 ·rename_i h1
  simp only [Bool.and_eq_true,decide_eq_true_eq,beq_iff_eq] at h1
  split
  ·refine ⟨2,rfl,by omega,by omega,fun k hk=>?_⟩
   rcases (by omega:k=0∨k=1) with rfl | rfl
   ·rw [hg];exact ha
   ·omega
  ·exact one
 ·split
  ·rename_i h1
   simp only [Bool.and_eq_true,decide_eq_true_eq,beq_iff_eq] at h1
   split
   ·refine ⟨3,rfl,by omega,by omega,fun k hk=>?_⟩
    rcases (by omega:k=0∨k=1∨k=2) with rfl | rfl | rfl
    ·rw [hg];exact ha
    ·omega
    ·omega
   ·exact one
  ·split
   ·rename_i h1
    simp only [Bool.and_eq_true,decide_eq_true_eq,beq_iff_eq] at h1
    split
    ·refine ⟨4,rfl,by omega,by omega,fun k hk=>?_⟩
     rcases (by omega:k=0∨k=1∨k=2∨k=3) with rfl | rfl | rfl | rfl
     ·rw [hg];exact ha
     ·omega
     ·omega
     ·omega
    ·exact one
   ·exact one
theorem noany_span {s:ByteArray} {i n:Nat} (h:Lib.NoAny s.data.toList [32,47] i) (hn:i + n≤s.size) (hs:∀ k,k < n→128≤(s.get! (i + k)).toNat):Lib.NoAny s.data.toList [32,47] (i + n):=by
 intro j b hj hb
 by_cases hji:j < i
 ·exact h j b hji hb
 ·have hk:=hs (j - i) (by omega)
  have hjs:j < s.size:=by omega
  have e:s.get! (i + (j - i))=b:=by
   rw [show i + (j - i)=j by omega]
   have h1:=Lib.data_getElem? s j hjs
   rw [h1] at hb
   rw [← Option.some.inj hb]
   have:=get_at s j hjs
   rwa [Nat.add_zero] at this
  rw [e] at hk
  have h1:b≠32:=by rintro rfl;exact absurd hk (by decide)
  have h2:b≠47:=by rintro rfl;exact absurd hk (by decide)
  simp [h1,h2]
set_option maxHeartbeats 8000000 in
theorem q26 (s:ByteArray) (w:World) (h8:s.size≤8) :
  Calls prog 234 #[.string s,.string ⟨#[32,47]⟩] w fun e w'=>e=.returned (.int .i64 (Lib.indexAny s.data.toList [32,47]))∧Below w.heap.size w w':=by
 have h8z:decide ((8:Int) < (s.size:Int))=false:=decide_eq_false (by omega)
 go_enter Tryz.func234,Tryz.ntmps234
 go_wp2_with (go_at_call 260;refine (Tryz.strings_shouldUseASCIISet _ _).mono ?_;rintro e w' ⟨rfl,hw⟩;rw [hw,h8z])
 subst hw
 go_loopg [9,10] s.size (fun gf _ _ wx=>∃ pos:Nat,wx.heap[w'.heap.size]? = some (.stringIter s pos)∧Below w'.heap.size w' wx∧Aside (Lib.NoAny s.data.toList [32,47] pos∧pos≤s.size)∧s.size≤pos + gf)
 case atStart=>exact ⟨0,World.iter_heap w' s 0,(Below.refl _ w').alloc (Nat.le_refl _) _,⟨Lib.NoAny.zero _ _,Nat.zero_le _⟩,by omega⟩
 case round =>
  obtain ⟨pos,hit,hbw,HN,hfu⟩:=hrel
  by_cases hps:pos < s.size
  ·obtain ⟨g',rfl⟩:∃ g',gk=g' + 1:=⟨gk - 1,by omega⟩
   have hnx:∀ ty,(Instr.next (.pointer (some ⟨w'.heap.size,0,none⟩)) true ty).run prog wr=_:=fun ty=>Lib.run_next_any_at wr w'.heap.size s pos ty hit hps
   have hle:=decode_le s pos
   have HA:Aside ((s[pos]'hps).toNat < 128→Utf8.decode s pos=((s[pos]'hps).toNat,1)):=decode_ascii s pos hps
   have HB:Aside (128≤(s[pos]'hps).toNat→128≤(Utf8.decode s pos).1∧∃ n,(Utf8.decode s pos).2=n∧1≤n∧pos + n≤s.size∧∀ k,k < n→128≤(s.get! (pos + k)).toNat):=fun ha=>⟨(decode_high s pos hps ha).1,decode_span s pos hps ha⟩
   obtain ⟨R,hR⟩:∃ R,(Utf8.decode s pos).1=R:=⟨_,rfl⟩
   obtain ⟨K,hK⟩:∃ K,(Utf8.decode s pos).2=K:=⟨_,rfl⟩
   rw [hR,hK] at hnx
   rw [hR] at hle
   have hit2:=Lib.iterAt_heap wr w'.heap.size s pos (pos + K) hit
   have hbw2:=Lib.below_iterAt hbw (k:=w'.heap.size) (Nat.le_refl _) s (pos + K)
   obtain ⟨W,hWd⟩:∃ W,wr.iterAt w'.heap.size s (pos + K)=W:=⟨_,rfl⟩
   rw [hWd] at hnx hit2 hbw2
   have hltW:w'.heap.size < W.heap.size:=(Array.getElem?_eq_some_iff.1 hit2).1
   obtain ⟨x,hx⟩:∃ x:UInt8,s[pos]'hps=x:=⟨_,rfl⟩
   have Hx:Aside (s.data.toList[pos]? = some x):=by rw [← hx];exact Lib.data_getElem? s pos hps
   by_cases hx128:x.toNat < 128
   ·have hd:=HA.out (by rw [hx];exact hx128)
    rw [hx] at hd
    obtain rfl:x.toNat=R:=by rw [← hR,hd]
    obtain rfl:1=K:=by rw [← hK,hd]
    clear HA HB hR hK hx hWd
    have hcon:=Lib.contains_iff_indexByte [32,47] x
    have hback:((x.toNat:Int)).toNat.toUInt8=x:=by simp
    have c0:Calls prog 224 #[.string ⟨#[32,47]⟩,.int .i32 (x.toNat:Int)] W fun e w'=>e=.returned (.int .i64 (Lib.indexByte [32,47] x))∧w'=W:=by
     refine (Tryz.strings_IndexRune_ascii ⟨#[32,47]⟩ _ W (by omega) (by omega)).mono ?_
     rintro e w' ⟨rfl,hw⟩
     rw [hback];exact ⟨rfl,hw⟩
    cases hin:([32,47]:List UInt8).contains x
    ·rw [hin] at hcon
     have hlt:¬ ((0:Int)≤Lib.indexByte [32,47] x):=of_decide_eq_false hcon.symm
     have HS:Aside (Lib.NoAny s.data.toList [32,47] (pos + 1)):=HN.out.1.succ Hx.out hin
     clear hcon hin
     generalize Lib.indexByte [32,47] x=q at c0 hlt
     go_wp2_with (go_at_call 224;refine c0.mono ?_;rintro e W' ⟨rfl,hbc⟩;rw [hbc])
     go_roundg g'
     case measure=>omega
     case rel=>exact ⟨pos + 1,hit2,hbw2,⟨HS.out,by omega⟩,by omega⟩
    ·rw [hin] at hcon
     have hge:(0:Int)≤Lib.indexByte [32,47] x:=of_decide_eq_true hcon.symm
     have HS:Aside (Lib.indexAny s.data.toList [32,47]=pos):=Lib.indexAny_hit HN.out.1 Hx.out hin
     clear hcon hin
     generalize Lib.indexByte [32,47] x=q at c0 hge
     go_wp2_with (go_at_call 224;refine c0.mono ?_;rintro e W' ⟨rfl,hbc⟩;rw [hbc])
     go_ret
     exact ⟨by rw [HS.out];rfl,hbw2⟩
   ·obtain ⟨h128,n,hn,hn1,hn2,hn3⟩:=HB.out (by rw [hx];omega)
    rw [hR] at h128
    rw [hK] at hn
    subst hn
    have HS:Aside (Lib.NoAny s.data.toList [32,47] (pos + K)):=noany_span HN.out.1 hn2 hn3
    clear HA HB hR hK hx hWd hn3
    have c0:=q6n (R:Int) W (by omega) (by omega)
    go_wp2_with (go_at_call 224;refine c0.mono ?_;rintro e W' ⟨rfl,hbc⟩)
    go_roundg g'
    case measure=>omega
    case rel=>exact ⟨pos + K,(hbc.block _ hltW).trans hit2,hbw2.trans (hbc.mono hbw2.size),⟨HS.out,hn2⟩,by omega⟩
  ·have hnx:∀ ty,(Instr.next (.pointer (some ⟨w'.heap.size,0,none⟩)) true ty).run prog wr=_:=fun ty=>Lib.run_next_end_at wr w'.heap.size s pos ty hit hps
   go_wp2
   go_ret
   refine ⟨?_,hbw⟩
   obtain ⟨h1,h2⟩:=HN.out
   have hp:pos=s.data.toList.length:=by rw [← Lib.size_eq];omega
   rw [hp] at h1
   rw [Lib.indexAny_none h1];rfl
theorem q6o {R:Ending→World→Prop} {w:World} (s:List UInt8) (hs:s.length≤4000000000) (h:∀ w',Ext w w'→R (.returned (.int .i64 (Lib.indexAny s [32,47]))) w') :
  Calls prog qsz ⟨[.string ⟨⟨s⟩⟩,.string ⟨⟨[32,47]⟩⟩]⟩ w R:=by
 have hz:(⟨⟨s⟩⟩:ByteArray).size=s.length:=rfl
 by_cases h8:s.length≤8
 ·refine (q26 ⟨⟨s⟩⟩ w (by rw [hz];exact h8)).mono ?_
  rintro e w' ⟨rfl,hb⟩
  exact h w' hb
 ·refine (Tryz.strings_IndexAny_long (fun w=>(Tryz.zeroValue180 w).trans (by rw [show Tryz.zeroCells180=Array.replicate 256 (.bool false) by kernel_rfl])) ⟨⟨s⟩⟩ ⟨⟨[32,47]⟩⟩ w (by decide) (by rw [hz];omega) (by rw [hz];omega) (by decide) ?_).mono ?_
  ·intro j b hb
   have:b∈([32,47]:List UInt8):=List.mem_of_getElem? hb
   simp only [List.mem_cons,List.not_mem_nil,or_false] at this
   rcases this with rfl | rfl <;> decide
  ·rintro e w' ⟨rfl,rfl⟩
   exact h _ (((Below.refl _ _).alloc (Nat.le_refl _) _).alloc (((Below.refl w.heap.size w).alloc (Nat.le_refl _) _).size) _)
end Go.Proofs
namespace Go.Proofs
open Go Go.Sh Go.RowKit Go.Proofs.Tryz IntKind
def Mk (w:World):Prop:=(∃ m,w.cell? ⟨qcx,0,none⟩=some (.int .i64 m))∧(∃ t p,w.cell? ⟨qp7,0,none⟩=some (.iface t p))∧(∃ t p,w.cell? ⟨qsx,0,none⟩=some (.iface t p))
theorem qo {w w':World} {a:Addr} {v:Value} (h:w.cell? a=some v) (he:Ext w w'):w'.cell? a=some v:=by
 rw [he.cell (World.block_lt_of_cell? w _ h)];exact h
theorem Mk.ext {w w':World} (h:Mk w) (he:Ext w w'):Mk w':=by
 obtain ⟨⟨m,h1⟩,⟨t,p,h2⟩,⟨t',p',h3⟩⟩:=h
 exact ⟨⟨m,qo h1 he⟩,⟨t,p,qo h2 he⟩,⟨t',p',qo h3 he⟩⟩
theorem ifc_nil {K:Bool→Prop} (h:K true):ifc .nilIface K:=h
theorem ifc_some {K:Bool→Prop} {t:TypeId} {v:Value} (h:K false):ifc (.iface t v) K:=h
variable {R:Ending→World→Prop} {w:World}
theorem qku (s:List UInt8) (hs:s.length≤1000000000000) (b most:Nat) (hm:most≤64) (hb:w.cell? ⟨b,0,none⟩=some (.int .i64 most)) (hM:Mk w)
  (h:∀ w',Ext w w'→R (.returned (.bool (numV most s))) w'):Calls prog qit ⟨[.string ⟨⟨s⟩⟩,.pointer (some ⟨b,0,none⟩)]⟩ w R:=by
 apply qut
 have hz:(⟨⟨s⟩⟩:ByteArray).size=s.length:=rfl
 obtain ⟨_,⟨t,p,h2⟩,⟨t',p',h3⟩⟩:=hM
 have bad:(∀ v,Lib.atoiAll s≠.ok v)→∀ w',Ext w w'→R (.returned (.bool false)) w':=by
  intro hv w' he
  have:numV most s=false:=by
   rw [Bool.eq_false_iff]
   intro hn
   obtain ⟨n,ha,_⟩:=(qq9 hm s).1 hn
   exact hv _ ha
  rw [← this];exact h w' he
 cases ha:Lib.atoiAll s
 ·rename_i v
  refine (Tryz.strconv_Atoi_ok ⟨⟨s⟩⟩ (by rw [hz];omega) v ha w).mono ?_
  rintro e w4 ⟨rfl,hw⟩
  have he:Ext w w4:=by
   rcases hw with rfl | ⟨t,rfl⟩
   ·exact Below.refl _ _
   ·exact Joins.below_bytesWorld _ _ _ _ (Nat.le_refl _)
  refine ⟨v,.nilIface,rfl,?_⟩
  have no:(∀ n:Nat,v=n→1≤n→n≤most→Lib.decDigits n≠s)→R (.returned (.bool false)) w4:=by
   intro hn
   have:numV most s=false:=by
    rw [Bool.eq_false_iff]
    intro hh
    obtain ⟨n,ha',h1,h2,h3⟩:=(qq9 hm s).1 hh
    rw [ha] at ha'
    injection ha' with ha'
    exact hn n ha' h1 h2 h3
   rw [← this];exact h w4 he
  refine ifc_nil ?_
  simp only [br_t]
  refine qd (fun g=>dr_ok ⟨_,qo hb he,qd (fun g2=>?_) (fun g2=>?_)⟩) (fun g=>?_)
  ·obtain ⟨n,rfl⟩:∃ n:Nat,v=n:=⟨v.toNat,by omega⟩
   refine (Tryz.strconv_Itoa_small n (by omega) w4).mono ?_
   rintro _ _ ⟨rfl,rfl⟩
   refine ⟨_,rfl,?_⟩
   have e:decide (Lib.decDigits n=s)=numV most s:=by
    rw [Bool.eq_iff_iff,qq9 hm,decide_eq_true_eq]
    constructor
    ·intro hd;exact ⟨n,ha,by omega,by omega,hd⟩
    ·rintro ⟨k,ha',_,_,hd⟩
     rw [ha] at ha'
     injection ha' with ha'
     have:n=k:=by omega
     rw [this];exact hd
   show R (.returned (.bool (decide (Lib.decDigits n=s)))) _
   rw [e];exact h _ he
  ·exact no fun n hn _ h2=>by omega
  ·exact no fun n hn h1 _=>by omega
 ·refine (Tryz.strconv_Atoi_syntax ⟨⟨s⟩⟩ (by rw [hz];omega) ha _ w h2 (.inr ⟨_,_,rfl⟩)).mono ?_
  rintro e w4 ⟨N,rfl,_,_,he⟩
  refine ⟨_,_,rfl,?_⟩
  refine ifc_some ?_
  simp only [br_f]
  exact bad (fun v hv=>by rw [ha] at hv;cases hv) w4 he
 ·refine (Tryz.strconv_Atoi_range ⟨⟨s⟩⟩ (by rw [hz];omega) ha _ w h3 (.inr ⟨_,_,rfl⟩)).mono ?_
  rintro e w4 ⟨N,rfl,_,_,he⟩
  refine ⟨_,_,rfl,?_⟩
  refine ifc_some ?_
  simp only [br_f]
  exact bad (fun v hv=>by rw [ha] at hv;cases hv) w4 he
theorem val_call {nm:List UInt8} {x:TagV} {b8 b64:Nat} (ht:tagAt b8 b64 nm=some x) (B8:Blk w b8 [.int .i64 8] 3) (B64:Blk w b64 [.int .i64 64] 3) (hM:Mk w) (v:List UInt8) (hv:v.length≤1000000000)
  (h:∀ w',Ext w w'→R (.returned (.bool (valB nm v))) w'):CallV prog (.func x.f x.fa x.fb) [.string ⟨⟨v⟩⟩] w R:=by
 have hm:=List.mem_of_find?_eq_some ht
 have hn:x.nm=nm:=by simpa using List.find?_some ht
 have c8:w.cell? ⟨b8,0,none⟩=some (.int .i64 ((8:Nat):Int)):=by rw [B8.cell];rfl
 have c64:w.cell? ⟨b64,0,none⟩=some (.int .i64 ((64:Nat):Int)):=by rw [B64.cell];rfl
 simp only [tagsV,List.mem_cons,List.not_mem_nil,or_false] at hm
 rcases hm with rfl | rfl | rfl | rfl | rfl | rfl | rfl | rfl | rfl | rfl <;> subst hn
 ·exact ⟨by kernel_rfl,q0v v fun w' he=>h w' he⟩
 ·exact ⟨by kernel_rfl,qku v (by omega) b8 8 (by omega) c8 hM fun w' he=>h w' he⟩
 ·exact ⟨by kernel_rfl,qku v (by omega) b8 8 (by omega) c8 hM fun w' he=>h w' he⟩
 ·exact ⟨by kernel_rfl,qku v (by omega) b64 64 (by omega) c64 hM fun w' he=>h w' he⟩
 ·exact ⟨by kernel_rfl,qy4 v (h w (Below.refl _ _))⟩
 ·exact ⟨by kernel_rfl,qcg v (h w (Below.refl _ _))⟩
 ·exact ⟨by kernel_rfl,qcg v (h w (Below.refl _ _))⟩
 ·exact ⟨by kernel_rfl,qcg v (h w (Below.refl _ _))⟩
 ·exact ⟨by kernel_rfl,qy4 v (h w (Below.refl _ _))⟩
 ·exact ⟨by kernel_rfl,qy4 v (h w (Below.refl _ _))⟩
theorem tag_some {b8 b64:Nat} {nm:List UInt8} {x:TagV} (h:tagAt b8 b64 nm=some x):qcl nm=true∧x.em=qgt nm:=by
 have hm:=List.mem_of_find?_eq_some h
 have hn:x.nm=nm:=by simpa using List.find?_some h
 simp only [tagsV,List.mem_cons,List.not_mem_nil,or_false] at hm
 rcases hm with rfl | rfl | rfl | rfl | rfl | rfl | rfl | rfl | rfl | rfl <;> subst hn <;> exact ⟨by kernel_rfl,by kernel_rfl⟩
theorem q4h {nm:List UInt8} (h:∀ b8 b64,tagAt b8 b64 nm=none):qcl nm=false:=by
 have h0:=h 0 0
 unfold tagAt at h0
 rw [List.find?_eq_none] at h0
 unfold qcl
 rw [decide_eq_false_iff_not]
 intro hm
 have:nm∈(tagsV 0 0).map (·.nm):=hm
 obtain ⟨x,hx,hxn⟩:=List.mem_map.1 this
 exact h0 x hx (decide_eq_true hxn)
theorem qyr (x:Lx) (hk:x.k=3∨qcl x.nm=true) (hv:x.vl.length≤1000000000) (hM:Mk w) (h:∀ w',Ext w w'→R (.returned (.bool (qbw x))) w'):Calls prog qhp ⟨[aggX x]⟩ w R:=by
 apply q2b
 refine qh fun b5 w6 hb5 B5 e6 s6=>?_
 obtain ⟨c0,c1,c2,c3⟩:=blk4x B5
 refine ⟨_,c0,qd (fun g=>⟨_,c2,?_⟩) (fun g=>⟨_,c1,?_⟩)⟩
 ·have e:qbw x=decide (x.vl=[]):=by unfold qbw;rw [if_pos g]
  rw [← e];exact h w6 e6
 ·refine qzm x.nm (fun b8 b64 w11 t hb8 hb64 B8 B64 ht e11=>⟨_,_,_,_,rfl,?_⟩) (fun w11 hn e11=>?_)
  ·refine qx (by simp) (by intro u hu;simp only [List.mem_cons,List.not_mem_nil,or_false] at hu;rcases hu with rfl | rfl | rfl <;> rfl) fun b16 w18 hb16 B16 e18 s18=>?_
   obtain ⟨y0,y1,y2⟩:=blk3 B16
   refine ⟨_,_,_,y2,_,qo (qo c2 e11) e18,?_⟩
   have E18:=qb (qb e6 e11) e18
   refine val_call ht (B8.ext e18) (B64.ext e18) (hM.ext E18) x.vl hv fun w22 e22=>⟨_,rfl,?_⟩
   have e:qbw x=valB x.nm x.vl:=by unfold qbw;rw [if_neg g]
   rw [← e];exact h w22 (qb E18 e22)
  ·exfalso
   rcases hk with hk | hk
   ·exact g hk
   ·rw [q4h hn] at hk;cases hk
theorem q7a (x:Lx) (h:∀ w',Ext w w'→R (.returned (.int .i64 (qb0 x))) w'):Calls prog ql4 ⟨[aggX x]⟩ w R:=by
 apply qz3
 refine qh fun b5 w6 hb5 B5 e6 s6=>?_
 obtain ⟨c0,c1,c2,c3⟩:=blk4x B5
 unfold qb0 at h
 refine ⟨_,c0,qd (fun g=>⟨_,c1,qd (fun g1=>?_) (fun g1=>⟨_,c2,qd (fun g2=>?_) (fun g2=>⟨_,c2,?_⟩)⟩)⟩) (fun g=>?_)⟩
 ·have:=h w6 e6;rwa [if_pos g,if_pos g1] at this
 ·have:=h w6 e6;rwa [if_pos g,if_neg g1,if_pos g2] at this
 ·refine qmq x.vl fun w12 e12=>⟨_,rfl,qd (fun g3=>?_) (fun g3=>?_)⟩
  ·have:=h w12 (qb e6 e12);rwa [if_pos g,if_neg g1,if_neg g2,if_pos g3] at this
  ·have:=h w12 (qb e6 e12);rwa [if_pos g,if_neg g1,if_neg g2,if_neg g3] at this
 ·intro K hK
  have kT:(x.k=2∨x.k=3∨x.k=4)→K true w6:=by
   intro hk
   refine hK _ _ fun _=>?_
   show br true _ _
   rw [br_t]
   refine ⟨_,c1,qzm x.nm (fun b8 b64 w19 t hb8 hb64 B8 B64 ht e19=>⟨_,_,_,_,rfl,?_⟩) (fun w19 hn e19=>⟨_,_,_,_,rfl,?_⟩)⟩
   ·refine qx (by simp) (by intro u hu;simp only [List.mem_cons,List.not_mem_nil,or_false] at hu;rcases hu with rfl | rfl | rfl <;> rfl) fun b24 w26 hb24 B24 e26 s26=>?_
    obtain ⟨y0,y1,y2⟩:=blk3 B24
    obtain ⟨t1,t2⟩:=tag_some ht
    have E:=qb (qb e6 e19) e26
    have hr:=h w26 E
    rw [if_neg g,if_pos hk] at hr
    simp only [Bool.not_true,br_f]
    refine ⟨_,y1,_,qo (qo c0 e19) e26,qd (fun g3=>?_) (fun g3=>?_)⟩
    ·rw [if_neg (fun hh=>g3 (by rw [t2];exact hh.2))] at hr;exact hr
    ·rw [if_pos ⟨t1,by rw [← t2];exact Classical.not_not.1 g3⟩] at hr;exact hr
   ·refine qx (by simp) (by intro u hu;simp only [List.mem_cons,List.not_mem_nil,or_false] at hu;rcases hu with rfl | rfl | rfl <;> rfl) fun b24 w26 hb24 B24 e26 s26=>?_
    simp only [Bool.not_false,br_t]
    have hr:=h w26 (qb (qb e6 e19) e26)
    rw [if_neg g,if_pos hk,if_neg (fun hh=>by rw [q4h hn] at hh;cases hh.1)] at hr
    exact hr
  refine qd (fun g2=>?_) (fun g2=>qd (fun g3=>?_) (fun g3=>?_))
  ·rw [decide_eq_true g2];exact kT (.inl g2)
  ·rw [decide_eq_true g3];exact kT (.inr (.inl g3))
  ·by_cases g4:x.k=4
   ·rw [decide_eq_true g4];exact kT (.inr (.inr g4))
   ·rw [decide_eq_false g4]
    refine hK _ _ fun _=>?_
    show br false _ _
    rw [br_f]
    have hr:=h w6 e6
    rw [if_neg g,if_neg (by omega)] at hr
    exact hr
end Go.Proofs
namespace Go.Sh
open Go Go.RowKit Go.ChangeShapes
section
variable {H:Type} {enc:TypeId × Value→H} {P:Program} {W W':World}
theorem qqd {sp:Nat→Bool}:∀ {ts:List TypeId} {vs:List Value} {ds:List (DataW H)} {ps:List MemPlace},DataW.TrodAll enc P W 0 sp true ts vs ds ps→(∀ p∈ps,W.sameAt W' p)→DataW.TrodAll enc P W' 0 sp true ts vs ds ps
 | [],[],[],_,h,_=>h
 | _ :: _,_ :: _,_ :: _,_,⟨p,q,⟨n,hn⟩,h2,e⟩,hs =>
  ⟨p,q,⟨n,DataW.trod_carry n _ _ _ hn fun x hx=>hs x (by rw [e];exact List.mem_append_left _ hx)⟩,qqd h2 (fun x hx=>hs x (by rw [e];exact List.mem_append_right _ hx)),e⟩
 | [],[],_ :: _,_,h,_=>h.elim
 | [],_ :: _,_,_,h,_=>h.elim
 | _ :: _,[],_,_,h,_=>h.elim
 | _ :: _,_ :: _,[],_,h,_=>h.elim
theorem qqe (hl:laidOutB P=true):∀ {ts:List TypeId} {vs:List Value} {ds:List (DataW H)} {ps:List MemPlace},(∀ t∈ts,P.readableRec t=true∧t < P.types.size)→DataW.TrodAll enc P W 0 (fun _=>true) true ts vs ds ps→Below W.heap.size W W'→(∀ x∈ps,x.block < W.heap.size) →
  DataW.TrodAll enc P W' 0 (fun b=>decide (b < W.heap.size)) true ts vs ds ps
 | [],[],[],_,_,h,_,_=>h
 | _ :: _,_ :: _,_ :: _,_,ht,⟨p,q,h1,h2,e⟩,hb,hlt =>
  ⟨p,q,Below.trod hl (ht _ (by simp)).1 (ht _ (by simp)).2 h1 hb (fun x hx=>hlt x (by rw [e];exact List.mem_append_left _ hx)),
   qqe hl (fun t h=>ht t (List.mem_cons_of_mem _ h)) h2 hb (fun x hx=>hlt x (by rw [e];exact List.mem_append_right _ hx)),e⟩
 | [],[],_ :: _,_,_,h,_,_=>h.elim
 | [],_ :: _,_,_,_,h,_,_=>h.elim
 | _ :: _,[],_,_,_,h,_,_=>h.elim
 | _ :: _,_ :: _,[],_,_,h,_,_=>h.elim
theorem post_ext {f:Func} {s:ChangeSpec} {apart fresh handsOn again:Bool} {args:Array Value} {ds gs:List (DataW H)} {before:List MemPlace} {tb:TypeId} (hl:laidOutB P=true) (hts:∀ t∈f.params.toList,P.readableRec t=true∧t < P.types.size) (hres:f.resultTypes=#[tb]) (htb:P.underlying tb=some .bool) (hvars:s.vars=[])
  (hW:DataW.Whole enc P f.params.toList s.vars apart W args.toList ds gs before) (hfn:s.fn H (ds++gs)={ results:=[.lit (.bool true)],args:=ds }) (he:Ext W W') :
  s.post enc P f apart fresh handsOn again W args (.bool true) W':=by
 have hlt:=hW.lt
 have hW0:=hW
 obtain ⟨p,q,h1,h2,hpq,hz,hn⟩:=hW0
 rw [hvars] at h2
 obtain ⟨hg,hq⟩:=trodVars_none h2
 subst hg hq
 simp only [List.append_nil] at hpq
 subst hpq
 have hbool:∀ (b:Nat) (sp:Nat→Bool) (hd:Bool),DataW.TrodAll enc P W' b sp hd f.resultTypes.toList ((Value.bool true).resultList f.resultTypes.size) [.lit (.bool true)] []:=by
  intro b sp hd
  rw [hres]
  exact trodAll_mk1 (shut_bool htb true)
 refine ⟨ds,[],before,[],before,[],hW,?_,?_,?_,he.frame _,fun _=>⟨ok_one hres rfl (okWide_bool_mk htb true),[.lit (.bool true)]++ds,[],[]++before,⟨[]++before,[],?_,?_,by simp,?_,?_⟩,?_⟩⟩
 ·rw [hfn];exact hbool _ _ _
 ·rw [hfn];exact qqe hl hts h1 he hlt
 ·rw [hfn,hvars];rfl
 ·exact trodAll_append (qqd h1 fun x hx=>he.same (hlt x hx)) (hbool _ _ _)
 ·rw [hvars];rfl
 ·intro b off hp
  simp only [List.nil_append] at hp
  rw [he.frozen (hlt _ hp)]
  exact hz b off hp
 ·intro ha;simpa using hn ha
 ·intro x hx _;simpa using hx
end
end Go.Sh
namespace Go.Proofs.YtkecgnlelgdndaaGreatDoor
open Go Go.Sh Go.RowKit Go.ChangeShapes Go.WideShapes Go.ChangeAt Go.Proofs.Tryz IntKind
theorem own:ownKnob Tryz.prog.godebug=none:=by kernel_rfl
theorem laidOut:laidOutB prog=true:=by kernel_rfl
theorem form_row {W:World} {m:Nat} {cs:List Value} {x:DataW Unit × List MemPlace} {tag:List UInt8} {a b c:Bool} (h:DataW.trod (fun _=>()) prog W 0 (fun _=>true) false m 211 cs=some x)
  (hx:x.1=.agg [.lit (.string tag),.lit (.bool a),.lit (.bool b),.lit (.bool c)]):cs=[.string ⟨⟨tag⟩⟩,.bool a,.bool b,.bool c]:=by
 have h96:Tryz.prog.cellsOf 211=4:=by kernel_rfl
 have h9:Tryz.prog.cellsOf 9=1:=by kernel_rfl
 have h4:Tryz.prog.cellsOf 4=1:=by kernel_rfl
 obtain ⟨xs,n,rfl,rfl,hl,hxl,hf⟩:=DataW.trod_struct Tryz.underlying211 h
 rw [h96] at hl
 obtain ⟨v0,v1,v2,v3,rfl⟩:=len4 hl
 obtain ⟨y0,y1,y2,y3,rfl⟩:=len4 (show xs.length=4 from hxl)
 simp only [List.map_cons,List.map_nil,DataW.agg.injEq,List.cons.injEq,and_true] at hx
 obtain ⟨z0,z1,z2,z3⟩:=hx
 have g0:=hf 0 _ rfl
 have g1:=hf 1 _ rfl
 have g2:=hf 2 _ rfl
 have g3:=hf 3 _ rfl
 obtain ⟨t,e0,f0,_⟩:=DataW.trod_string Tryz.underlying9 g0
 obtain ⟨b1,e1,f1⟩:=DataW.trod_bool Tryz.underlying4 g1
 obtain ⟨b2,e2,f2⟩:=DataW.trod_bool Tryz.underlying4 g2
 obtain ⟨b3,e3,f3⟩:=DataW.trod_bool Tryz.underlying4 g3
 simp [h9,h4] at e0 e1 e2 e3
 subst e0 e1 e2 e3
 try simp at f0 f1 f2 f3
 rw [f0] at z0
 rw [f1] at z1
 rw [f2] at z2
 rw [f3] at z3
 simp at z0 z1 z2 z3
 subst z0 z1 z2 z3
 rfl
theorem forms_of {W : World} (h : Go.Lib.VarReads prog W "apograph/transcript.forms" Rows.laid_apograph_transcript_forms) : Forms W := by
 obtain ⟨g4,t4,cs,f4,p4,hg,ht,hvar,hd⟩:=h
 have hg0 : Tryz.prog.globalNamed "apograph/transcript.forms" = some qk := by kernel_rfl
 have ht0:(Tryz.prog.globals[qk]?).map (·.type)=some 212:=by kernel_rfl
 obtain rfl:=Option.some.inj (hg0.symm.trans hg)
 obtain rfl:=Option.some.inj (ht0.symm.trans ht)
 have h96:Tryz.prog.cellsOf 211=4:=by kernel_rfl
 have h97:Tryz.prog.cellsOf 212=48:=by kernel_rfl
 obtain ⟨xs,m,rfl,hx,hl,hxl,hall⟩:=DataW.trod_array Tryz.underlying212 hd
 rw [h97] at hl
 rw [h96] at hall
 simp only [Prod.mk.injEq,Rows.laid_apograph_transcript_forms,DataW.agg.injEq] at hx
 obtain ⟨hm,_⟩:=hx
 have chunk:∀ i,i < 12→(cs.toList.drop (i * 4)).take 4=(formsCells.drop (i * 4)).take 4:=by
  intro i hi
  have hh:=hall i hi
  have hxi:(xs[i]?).map (·.1)=_:=(List.getElem?_map (f:=(·.1)) (l:=xs) (i:=i)).symm.trans (by rw [← hm])
  rw [List.getElem?_eq_getElem (by omega)] at hh hxi
  simp only [Option.map_some] at hxi
  rcases (by omega:i=0∨i=1∨i=2∨i=3∨i=4∨i=5∨i=6∨i=7∨i=8∨i=9∨i=10∨i=11) with rfl | rfl | rfl | rfl | rfl | rfl | rfl | rfl | rfl | rfl | rfl | rfl <;>
   exact form_row hh (Option.some.inj hxi)
 have hsz:qk < W.heap.size:=by
  simp only [World.var?,hg0,Option.bind_some] at hvar
  split at hvar
  ·rename_i hh;exact (Array.getElem?_eq_some_iff.1 hh).1
  ·cases hvar
 refine ⟨hsz,fun j v hj=>?_⟩
 have hj48:j < 48:=by have:=(List.getElem?_eq_some_iff.1 hj).1;exact this
 rw [World.var?_cell hg0 hvar j]
 have hc:=chunk (j / 4) (by omega)
 have e:∀ l:List Value,l[j]? = ((l.drop (j / 4 * 4)).take 4)[j - j / 4 * 4]?:=fun l=>by
  rw [List.getElem?_take,if_pos (by omega),List.getElem?_drop]
  congr 1;omega
 rw [← Array.getElem?_toList,e,hc,← e];exact hj
theorem u8_wf {n:Int} (h:(Lit.int .u8 n).wf=true):0≤n∧n < 256:=by
 simp [Lit.wf,IntKind.min,IntKind.max,IntKind.signed,IntKind.bits] at h
 omega
noncomputable def flatV:Nat→DataW Unit→List Value
 | n + 1,.agg l=>l.flatMap (flatV n)
 | _,.lit (.int k n)=>[.int k n]
 | _,.lit (.bool b)=>[.bool b]
 | _,.lit (.string s)=>[.string ⟨s.toArray⟩]
 | _,_=>[]
theorem trod_iface {P:Program} {W:World} {fuel:Nat} {t:TypeId} {cs:List Value} {ms:Array (String × TypeId)} {nm:String} {d:DataW Unit} {p:List MemPlace} (hu:P.underlying t=some (.interface ms)) (h:DataW.trod (fun _=>()) P W 0 (fun _=>true) false fuel t cs=some (.iface nm d,p)):∃ u v,cs=[.iface u v]:=by
 cases fuel with
 | zero=>simp [DataW.trod] at h
 | succ n =>
  unfold DataW.trod at h
  rw [hu] at h
  split at h <;> simp_all
theorem err_of {W:World} {n:String} {nm:String} {d:DataW Unit} {g:Nat} {ti:TypeId} {ms:Array (String × TypeId)} (h:Go.Lib.VarReads prog W n (.iface nm d)) (hg:Tryz.prog.globalNamed n=some g) (ht:(Tryz.prog.globals[g]?).map (·.type)=some ti) (hi:Tryz.prog.underlying ti=some (.interface ms)) :
  ∃ t p,W.cell? ⟨g,0,none⟩=some (.iface t p):=by
 obtain ⟨g',t',cs,fuel,p,hg',ht',hv,hd⟩:=h
 obtain rfl:=Option.some.inj (hg.symm.trans hg')
 obtain rfl:=Option.some.inj (ht.symm.trans ht')
 obtain ⟨u,v,hc⟩:=trod_iface hi hd
 refine ⟨u,v,?_⟩
 rw [World.var?_cell hg hv 0]
 have:=congrArg (fun l=>l[0]?) hc
 simpa using this
theorem max_of {W:World} (hSh:W.ShapedOpen prog):∃ m,W.cell? ⟨qcx,0,none⟩=some (.int .i64 m):=Tryz.laysM219.s1_3 W hSh
theorem mk_of {W : World} (e1 : Go.Lib.VarReads prog W "strconv.ErrSyntax" Rows.laid_strconv_ErrSyntax) (e2 : Go.Lib.VarReads prog W "strconv.ErrRange" Rows.laid_strconv_ErrRange) (hSh : W.ShapedOpen prog) : Mk W :=
 ⟨max_of hSh,err_of e1 (by kernel_rfl) (by kernel_rfl) Tryz.underlying193,err_of e2 (by kernel_rfl) (by kernel_rfl) Tryz.underlying193⟩
noncomputable def putG (h:Array Obj) (g:Nat) (cs:List Value):Array Obj:=h.modify g fun
 | .cells _ t frozen=>.cells ⟨cs⟩ t frozen
 | o=>o
noncomputable def layOne (h:Array Obj) (g:Nat) (d:DataW Unit):Array Obj:=match d with
 | .iface _ (.ptr (.agg [.lit (.string t)]))=>putG (h.push (.cells ⟨[.string ⟨t.toArray⟩]⟩ 312 (0,0))) g [.iface 310 (.pointer (some ⟨h.size,0,none⟩))]
 | d=>putG h g (flatV 5 d)
noncomputable def layAll (laid:List (String × DataW Unit)) (h:Array Obj):Array Obj :=
 laid.foldl (fun h x=>match Tryz.prog.globalNamed x.1 with
  | some g=>layOne h g x.2
  | none=>h) h
noncomputable def laidWorldOf (laid:List (String × DataW Unit)) (os:Os):World :=
 { World.holding prog os ⟨#[],#[],[]⟩ with heap:=layAll laid (World.holding prog os ⟨#[],#[],[]⟩).heap }
end Go.Proofs.YtkecgnlelgdndaaGreatDoor
namespace Go.Proofs
open Go Go.Sh Go.RowKit
inductive Am where
 | ch (c:UInt8) (p:Ps) (u:Bool) (nm:List UInt8)
 | gap (n:Int) (p:Ps) (u:Bool) (nm:List UInt8)
 | brk (v:Bool)
structure Nc where
 x:Nn
 u:Bool
 nm:List UInt8
def qh0:Fo→Bool→List UInt8→List Nc
 | .nil,_,_=>[]
 | .cons k t n ps r,u,nm=>⟨⟨k,t,n,ps⟩,u,nm⟩ :: (qh0 ps (u||decide (k=7)) (if k=11 then t else nm)++qh0 r u nm)
def amT (t:List UInt8) (p:Ps) (u:Bool) (nm:List UInt8):List Am:=t.map fun c=>.ch c p u nm
def amN (p:Ps) (x:Nc):List Am :=
 if x.x.k=1 then amT x.x.t p x.u x.nm else if x.x.k=6 then [.gap x.x.n p x.u x.nm] else if x.x.k=4∨x.x.k=5 then [.brk (decide (x.x.k=5))] else []
def amsL:Ps→List Nc→List Am
 | _,[]=>[]
 | p,x :: l=>amN p x++amsL (posN p x.x).1 l
def amsF (p:Ps) (f:Fo) (u:Bool) (nm:List UInt8):List Am:=amsL p (qh0 f u nm)
theorem qt2:∀ (f:Fo) (u:Bool) (nm:List UInt8),(qh0 f u nm).map (·.x)=qj f
 | .nil,_,_=>rfl
 | .cons k t n ps r,u,nm=>by simp only [qh0,qj,List.map_cons,List.map_append,qt2 ps,qt2 r]
theorem amsL_app:∀ (l:List Nc) (p:Ps) (m:List Nc),amsL p (l++m)=amsL p l++amsL (endL p (l.map (·.x))) m
 | [],_,_=>rfl
 | x :: l,p,m=>by simp only [List.cons_append,amsL,List.map_cons,endL,amsL_app l,List.append_assoc]
theorem q0p (p:Ps) (k t n ps r) (u:Bool) (nm:List UInt8):amsF p (.cons k t n ps r) u nm =
  amN p ⟨⟨k,t,n,ps⟩,u,nm⟩++(amsF (posN p ⟨k,t,n,ps⟩).1 ps (u||decide (k=7)) (if k=11 then t else nm)++amsF (endL (posN p ⟨k,t,n,ps⟩).1 (qj ps)) r u nm):=by
 unfold amsF
 rw [qh0,amsL,amsL_app,qt2]
structure Tok where
 t:List UInt8
 m:List UInt8
 p:Ps
 g:Int
 a:List UInt8
def encTk:Enc Tok:=⟨fun x=>[.string ⟨⟨x.t⟩⟩,.string ⟨⟨x.m⟩⟩,.string ⟨⟨x.p.1⟩⟩,.int .i64 x.p.2,.int .i64 x.g,.string ⟨⟨x.a⟩⟩],6,fun _=>rfl,by decide,by intro x v hv;simp only [List.mem_cons,List.not_mem_nil,or_false] at hv;rcases hv with rfl | rfl | rfl | rfl | rfl | rfl <;> rfl⟩
def innC (c:UInt8):Bool:=letB c||(decide (kd c=2)||decide (kd c=4))
def inA:Am→Bool
 | .ch c _ _ _=>innC c
 | _=>false
def chA:Am→List UInt8
 | .ch c _ _ _=>[c]
 | _=>[]
def unA:Am→Bool
 | .ch _ _ u _=>u
 | .gap _ _ u _=>u
 | .brk _=>false
def flI (u j v:Bool) (base:Int):Int:=base + (if u then 1 else 0) + (if v then 4 else 0) + (if j then 16 else 0)
def gapT (n:Int):List UInt8:=91 :: (Lib.decDigits n.toNat++[93])
theorem qk4 {α:Type} (p:α→Bool):∀ l:List α,(l.dropWhile p).length≤l.length
 | []=>by simp
 | x :: l=>by
  have:=qk4 p l
  rw [List.dropWhile_cons]
  split
  ·simp only [List.length_cons];omega
  ·exact Nat.le_refl _
def divF (j v:Bool):List Am→List Tok
 | []=>[]
 | .brk b :: r=>divF false (v||b) r
 | .gap n p u nm :: r=>⟨gapT n,[],p,flI u j v 2,nm⟩ :: divF true false r
 | .ch c p u nm :: r =>
  if kd c=6 then divF false v r
  else if letB c=true then ⟨c :: (r.takeWhile inA).flatMap chA,[],p,flI (u||(r.takeWhile inA).any unA) j v 0,nm⟩ :: divF true false (r.dropWhile inA)
  else ⟨[c],[],p,flI u j v 8,nm⟩ :: divF true false r
 termination_by l=>l.length
 decreasing_by
  all_goals simp only [List.length_cons]
  all_goals first | omega | (have:=qk4 inA r;omega)
structure Bs where
 out:List Tok
 cur:Option (Tok × List UInt8)
 j:Bool
 v:Bool
def shut (b:Bs):List Tok:=match b.cur with
 | none=>b.out
 | some (t,w)=>b.out++[{ t with t:=w }]
def orU (g:Int) (u:Bool):Int:=if u=true∧g % 2=0 then g + 1 else g
def addB (b:Bs):Am→Bs
 | .ch c p u nm=>match b.cur,innC c with
  | some (t,w),true=>⟨b.out,some ({ t with g:=orU t.g u },w++[c]),b.j,b.v⟩
  | _,_ =>
   if letB c=true then ⟨shut b,some (⟨[],[],p,flI u b.j b.v 0,nm⟩,[c]),true,false⟩
   else if kd c=6 then ⟨shut b,none,false,b.v⟩
   else ⟨shut b++[⟨[c],[],p,flI u b.j b.v 8,nm⟩],none,true,false⟩
 | .gap n p u nm=>⟨shut b++[⟨gapT n,[],p,flI u b.j b.v 2,nm⟩],none,true,false⟩
 | .brk x=>⟨shut b,none,false,b.v||x⟩
def bs0:Bs:=⟨[],none,false,false⟩
theorem orU_orU (g:Int) (u v:Bool):orU (orU g u) v=orU g (u||v):=by
 unfold orU
 cases u <;> cases v
 ·simp
 ·simp
 ·simp
 ·by_cases h:g % 2=0
  ·simp only [h,and_self,if_true,Bool.or_self]
   rw [if_neg (by omega)]
  ·simp [h]
theorem orU_fl (u u' j v:Bool) (base:Int) (hb:base % 2=0):orU (flI u j v base) u'=flI (u||u') j v base:=by
 unfold orU flI
 cases u <;> cases u' <;> cases j <;> cases v <;> simp <;> omega
theorem space_let {c:UInt8} (h:kd c=6):letB c=false:=by unfold letB;rw [h];rfl
theorem q48 {c:UInt8} (h:letB c=true):innC c=true:=by unfold innC;rw [h];rfl
theorem qi6:∀ (l:List Am) (b:Bs),shut (l.foldl addB b)=match b.cur with
  | none=>b.out++divF b.j b.v l
  | some (t,w)=>b.out++{ t with g:=orU t.g ((l.takeWhile inA).any unA),t:=w++(l.takeWhile inA).flatMap chA } :: divF b.j b.v (l.dropWhile inA)
 | [],⟨out,none,j,v⟩=>by simp [shut,divF]
 | [],⟨out,some (t,w),j,v⟩=>by simp [shut,divF,orU]
 | .brk x :: r,⟨out,none,j,v⟩=>by
  rw [List.foldl_cons,qi6 r]
  show out++divF false (v||x) r=_
  rw [divF]
 | .brk x :: r,⟨out,some (t,w),j,v⟩=>by
  rw [List.foldl_cons,qi6 r]
  have e:inA (.brk x)=false:=rfl
  simp only [List.takeWhile_cons,List.dropWhile_cons,e,Bool.false_eq_true,if_false]
  rw [divF]
  simp [addB,shut,orU]
 | .gap n p u nm :: r,⟨out,none,j,v⟩=>by
  rw [List.foldl_cons,qi6 r,divF]
  simp [addB,shut]
 | .gap n p u nm :: r,⟨out,some (t,w),j,v⟩=>by
  rw [List.foldl_cons,qi6 r]
  have e:inA (.gap n p u nm)=false:=rfl
  simp only [List.takeWhile_cons,List.dropWhile_cons,e,Bool.false_eq_true,if_false]
  rw [divF]
  simp [addB,shut,orU]
 | .ch c p u nm :: r,⟨out,none,j,v⟩=>by
  rw [List.foldl_cons,qi6 r,divF]
  by_cases hl:letB c=true
  ·have h6:¬ kd c=6:=fun h=>by rw [space_let h] at hl;cases hl
   simp only [addB,hl,h6,if_true,if_false,shut]
   rw [orU_fl _ _ _ _ _ rfl]
   rfl
  ·by_cases h6:kd c=6
   ·simp [addB,hl,h6,shut]
   ·simp [addB,hl,h6,shut]
 | .ch c p u nm :: r,⟨out,some (t,w),j,v⟩=>by
  rw [List.foldl_cons,qi6 r]
  by_cases hi:innC c=true
  ·have e:inA (.ch c p u nm)=true:=hi
   simp only [List.takeWhile_cons,List.dropWhile_cons,e,if_true]
   have h1:orU (orU t.g u) ((r.takeWhile inA).any unA)=orU t.g (u||(r.takeWhile inA).any unA):=orU_orU _ _ _
   simp [addB,hi,chA,unA,h1]
  ·have e:inA (.ch c p u nm)=false:=by show innC c=false;simpa using hi
   have hl:¬ letB c=true:=fun h=>hi (q48 h)
   simp only [List.takeWhile_cons,List.dropWhile_cons,e,Bool.false_eq_true,if_false]
   rw [divF]
   by_cases h6:kd c=6
   ·simp [addB,hi,hl,h6,shut,orU]
   ·simp [addB,hi,hl,h6,shut,orU]
theorem fold_tok (l:List Am):shut (l.foldl addB bs0)=divF false false l:=by rw [qi6];rfl
def mkS (b:Bool):List UInt8→Bool
 | []=>true
 | c :: r=>!decide (kd c=0)&&(if kd c=2 then b&&mkS true r else mkS (decide (kd c=1)) r)
theorem mkS_at:∀ (t a:List UInt8) (b:Bool),(b=true↔∃ i,a.length=i + 1∧(kA a i=1∨rtB a i=true))→(mkS b t=true↔∀ j,a.length≤j→j < (a++t).length→okAt (a++t) j=true)
 | [],a,b,_=>by simp [mkS];intro j h1 h2;omega
 | c :: r,a,b,hb=>by
  have e:a++c :: r=(a++[c])++r:=by simp
  have hk:kA (a++c :: r) a.length=kd c:=by simp [kA]
  have hr:∀ s,rtB (a++c :: s) a.length=(decide (kd c=2)&&b):=by
   intro s
   have hk':kA (a++c :: s) a.length=kd c:=by simp [kA]
   cases hz:a.length with
   | zero =>
    have:b=false:=by
     cases hbb:b with
     | false=>rfl
     | true=>obtain ⟨i,h,_⟩:=hb.1 hbb;omega
    rw [this];simp [rtB]
   | succ i =>
    rw [hz] at hk'
    rw [rtB,hk',q5a (by omega),q4t (by omega)]
    have hbb:b=(kA a i == 1||rtB a i):=by
     rw [Bool.eq_iff_iff,hb]
     constructor
     ·rintro ⟨i',h1,h2⟩
      have:i'=i:=by omega
      subst this;simpa using h2
     ·intro h;exact ⟨i,hz,by simpa using h⟩
    rw [← hbb]
    by_cases h2:kd c=2 <;> simp [h2]
  have hok:okAt (a++c :: r) a.length=true↔kd c≠0∧(kd c=2→b=true):=by
   unfold okAt;rw [hk,hr]
   by_cases h0:kd c=0 <;> by_cases h2:kd c=2 <;> simp [h0,h2]
  have ih:=mkS_at r (a++[c]) (decide (kd c=1)||(decide (kd c=2)&&b)) (by
   have hk1:kA (a++[c]) a.length=kd c:=by simp [kA]
   constructor
   ·intro h
    refine ⟨a.length,by simp,?_⟩
    rw [hk1,hr []]
    simpa using h
   ·rintro ⟨i,h1,h2⟩
    have:i=a.length:=by simpa using h1.symm
    subst this
    rw [hk1,hr []] at h2
    simpa using h2)
  rw [← e] at ih
  have hsplit:(∀ j,a.length≤j→j < (a++c :: r).length→okAt (a++c :: r) j=true)↔okAt (a++c :: r) a.length=true∧∀ j,(a++[c]).length≤j→j < (a++c :: r).length→okAt (a++c :: r) j=true:=by
   constructor
   ·intro h;exact ⟨h _ (Nat.le_refl _) (by simp),fun j h1 h2=>h j (by simp at h1;omega) h2⟩
   ·rintro ⟨h1,h2⟩ j h3 h4
    by_cases hj:j=a.length
    ·rw [hj];exact h1
    ·exact h2 j (by simp;omega) h4
  rw [hsplit,hok,← ih,mkS]
  by_cases h0:kd c=0
  ·simp [h0]
  ·by_cases h2:kd c=2
   ·cases b <;> simp [h2]
   ·simp [h0,h2]
theorem mkS_ok (s:List UInt8):mkS false s=qa7 s:=by
 rw [Bool.eq_iff_iff,mkS_at s [] false (by simp)]
 simp [qa7]
theorem checkC_mk {s:List UInt8}:qay s=0↔s.length≤65536∧mkS false s=true:=by
 rw [qh5,mkS_ok]
 by_cases h:65536 < s.length
 ·rw [if_pos h]
  constructor
  ·intro hh;cases hh
  ·intro hh;have:=hh.1;omega
 ·by_cases h2:qa7 s=true
  ·simp [h,h2];omega
  ·simp [h,h2]
def plOk (p:Ps):Prop:=0≤p.2∧(p.1=[]∨qp p.1=true)
def okA (b:Bool):List Am→Prop
 | []=>True
 | .ch c p _ nm :: r=>kd c≠0∧(kd c=2→b=true)∧plOk p∧(nm=[]∨qp nm=true)∧okA (decide (kd c=1)||decide (kd c=2)) r
 | .gap n p _ nm :: r=>(1≤n∧n≤64)∧plOk p∧(nm=[]∨qp nm=true)∧okA false r
 | .brk _ :: r=>okA false r
theorem okA_mono:∀ {l:List Am} {b:Bool},okA false l→okA b l
 | [],_,_=>trivial
 | .ch c p _ nm :: r,b,⟨h1,h2,h3⟩=>⟨h1,fun h=>absurd (h2 h) (by decide),h3⟩
 | .gap n p _ nm :: r,_,h=>h
 | .brk _ :: r,_,h=>h
theorem qy1:∀ {l m:List Am} {b:Bool},okA b l→okA false m→okA b (l++m)
 | [],_,_,_,h=>okA_mono h
 | .ch c p _ nm :: r,m,b,⟨h1,h2,h3,h4,h5⟩,h=>⟨h1,h2,h3,h4,qy1 h5 h⟩
 | .gap n p _ nm :: r,m,_,⟨h1,h2,h3,h4⟩,h=>⟨h1,h2,h3,qy1 h4 h⟩
 | .brk _ :: r,m,_,h1,h=>qy1 (l:=r) h1 h
theorem q41 {p:Ps} {u:Bool} {nm:List UInt8} (hp:plOk p) (hn:nm=[]∨qp nm=true):∀ {t:List UInt8} {b:Bool},mkS b t=true→okA b (amT t p u nm)
 | [],_,_=>trivial
 | c :: r,b,h=>by
  unfold mkS at h
  rw [Bool.and_eq_true] at h
  have h0:kd c≠0:=by simpa using h.1
  refine ⟨h0,fun h2=>?_,hp,hn,?_⟩
  ·have:=h.2;rw [if_pos h2,Bool.and_eq_true] at this;exact this.1
  ·have:=h.2
   by_cases h2:kd c=2
   ·rw [if_pos h2,Bool.and_eq_true] at this
    simp only [h2];exact q41 hp hn this.2
   ·rw [if_neg h2] at this
    simp only [h2,decide_false,Bool.or_false];exact q41 hp hn this
theorem qez {k:Int} {t:List UInt8} {n:Int} {ps:Fo} {w:Bool} (h:qu k t n ps false w=0) :
  1≤k∧k≤11∧(k=1→t≠[]∧qay t=0)∧(k=3∨k=4∨k=11→qp t=true)∧(k=6→1≤n∧n≤64)∧(k < 7→ps=.nil)∧(7≤k→ps≠.nil):=by
 unfold qu at h
 split at h
 ·cases h
 rename_i h1
 split at h
 ·cases h
 rename_i h2
 simp only [not_or,not_and] at h1 h2
 obtain ⟨a1,a2,a3,a4,a5⟩:=h1
 refine ⟨by omega,by omega,fun hk=>?_,fun hk=>?_,fun hk=>?_,fun hk=>?_,fun hk=>?_⟩
 ·rw [if_pos hk] at h
  refine ⟨h2.1 hk,?_⟩
  by_cases hc:qay t=0
  ·exact hc
  ·rw [if_pos hc] at h;cases h
 ·rw [if_neg (by omega),if_pos hk] at h
  cases hi:qp t with
  | true=>rfl
  | false=>rw [if_pos hi] at h;cases h
 ·rw [if_neg (by omega),if_neg (by omega),if_neg (by omega),if_pos hk] at h
  by_cases hn:n < 1∨64 < n
  ·rw [if_pos hn] at h;cases h
  ·omega
 ·have hp:qy k=false:=by unfold qy;exact decide_eq_false (by omega)
  exact Fo.eq_nil_of_len (by
   rcases Nat.eq_zero_or_pos ps.len with h0 | h0
   ·exact h0
   ·exact absurd hp (a5 h0))
 ·have hp:qy k=true:=by unfold qy;exact decide_eq_true (by omega)
  intro hh
  subst hh
  exact h2.2 hp rfl
theorem posN_ok {k t n ps} {w:Bool} {p:Ps} (h:qu k t n ps false w=0) (hp:plOk p):plOk (posN p ⟨k,t,n,ps⟩).1:=by
 have hf:=qez h
 unfold posN
 split
 ·exact hp
 ·split
  ·exact hp
  ·split
   ·rename_i h3;exact ⟨Int.le_refl _,.inr (hf.2.2.2.1 (.inl h3))⟩
   ·split
    ·exact ⟨by have:=hp.1;show (0:Int)≤p.2 + 1;omega,hp.2⟩
    ·exact hp
theorem q5j:∀ {f:Fo} {w:Bool} {p:Ps},okF w f→plOk p→plOk (endL p (qj f))
 | .nil,_,_,_,hp=>hp
 | .cons k t n ps r,w,p,⟨h1,h2,h3⟩,hp=>by
  rw [qj,endL,qmo]
  exact q5j h3 (q5j h2 (posN_ok h1 hp))
theorem q43:∀ {f:Fo} {w:Bool} {p:Ps} {u:Bool} {nm:List UInt8},okF w f→plOk p→(nm=[]∨qp nm=true)→okA false (amsF p f u nm)
 | .nil,_,_,_,_,_,_,_=>trivial
 | .cons k t n ps r,w,p,u,nm,⟨h1,h2,h3⟩,hp,hn=>by
  obtain ⟨f1,f2,f3,f4,f5,f6,f7⟩:=qez h1
  rw [q0p]
  have hp1:=posN_ok h1 hp
  refine qy1 ?_ (qy1 (q43 h2 hp1 ?_) (q43 h3 (q5j h2 hp1) hn))
  ·unfold amN
   simp only
   split
   ·rename_i hk;exact q41 hp hn (checkC_mk.1 (f3 hk).2).2
   ·split
    ·rename_i hk;exact ⟨f5 hk,hp,hn,trivial⟩
    ·split
     ·exact trivial
     ·exact trivial
  ·split
   ·rename_i hk;exact .inr (f4 (.inr (.inr hk)))
   ·exact hn
theorem okA_run:∀ {l:List Am} {b:Bool},okA b l→mkS b ((l.takeWhile inA).flatMap chA)=true∧okA false (l.dropWhile inA)∧∀ c∈(l.takeWhile inA).flatMap chA,innC c=true
 | [],_,_=>⟨rfl,trivial,fun c h=>by cases h⟩
 | .gap n p u nm :: r,b,h=>by
  have e:inA (.gap n p u nm)=false:=rfl
  simp only [List.takeWhile_cons,List.dropWhile_cons,e,Bool.false_eq_true,if_false]
  exact ⟨rfl,h,fun c h=>by cases h⟩
 | .brk v :: r,b,h=>by
  have e:inA (.brk v)=false:=rfl
  simp only [List.takeWhile_cons,List.dropWhile_cons,e,Bool.false_eq_true,if_false]
  exact ⟨rfl,h,fun c h=>by cases h⟩
 | .ch c p u nm :: r,b,h=>by
  by_cases hi:innC c=true
  ·have e:inA (.ch c p u nm)=true:=hi
   simp only [List.takeWhile_cons,List.dropWhile_cons,e,if_true,List.flatMap_cons]
   obtain ⟨h1,h2,h3,h4,h5⟩:=h
   obtain ⟨i1,i2,i3⟩:=okA_run h5
   refine ⟨?_,i2,fun d hd=>?_⟩
   ·show mkS b (c :: _)=true
    rw [mkS]
    by_cases k2:kd c=2
    ·rw [if_pos k2,h2 k2]
     simp only [k2,decide_true,Bool.or_true] at i1
     simp [k2,i1]
    ·rw [if_neg k2]
     simp only [k2,decide_false,Bool.or_false] at i1
     simp [h1,i1]
   ·rcases List.mem_cons.1 hd with rfl | hd
    ·exact hi
    ·exact i3 d hd
  ·have e:inA (.ch c p u nm)=false:=by show innC c=false;simpa using hi
   simp only [List.takeWhile_cons,List.dropWhile_cons,e,Bool.false_eq_true,if_false]
   refine ⟨rfl,?_,fun c h=>by cases h⟩
   obtain ⟨h1,h2,h3⟩:=h
   refine ⟨h1,fun h=>?_,h3⟩
   exact absurd (show innC c=true by unfold innC;rw [h];simp) hi
def secs:Fo→List (List UInt8)
 | .nil=>[]
 | .cons k t _ _ r=>(if k=4 then [t] else [])++secs r
def secsI:Fo→Nat→List (List UInt8 × Nat)
 | .nil,_=>[]
 | .cons k t _ _ r,i=>(if k=4 then [(t,i)] else [])++secsI r (i + 1)
theorem qdk:∀ (f:Fo) (i:Nat),(secsI f i).map (·.1)=secs f
 | .nil,_=>rfl
 | .cons k t n ps r,i=>by
  rw [secsI,secs,List.map_append,qdk r (i + 1)]
  congr 1
  split <;> rfl
theorem qeu:∀ f g:Fo,secs (f.app g)=secs f++secs g
 | .nil,g=>rfl
 | .cons k t n ps r,g=>by rw [Fo.cons_app,secs,secs,qeu r g,List.append_assoc]
theorem qym:∀ (f g:Fo) (i:Nat),secsI (f.app g) i=secsI f i++secsI g (i + f.len)
 | .nil,g,i=>rfl
 | .cons k t n ps r,g,i=>by
  rw [Fo.cons_app,secsI,secsI,qym r g (i + 1),List.append_assoc,Fo.len_cons]
  congr 3;omega
theorem qq0 (f:Fo):(secs f).length≤f.len:=by
 induction f with
 | nil=>exact Nat.le_refl _
 | cons k t n ps r _ ih =>
  rw [secs,List.length_append,Fo.len_cons]
  split <;> simp <;> omega
theorem sec_within {k:Int} {t:List UInt8} {n:Int} {ps:Fo} (h:qu k t n ps false true=0):k≠4:=by
 intro hk
 subst hk
 unfold qu at h
 split at h
 ·cases h
 split at h
 ·cases h
 split at h
 ·rename_i hh;revert hh;decide
 split at h
 ·split at h
  ·cases h
  ·split at h
   ·cases h
   ·rename_i hh;exact hh ⟨rfl,rfl⟩
 ·rename_i hh;exact hh (.inr (.inl rfl))
theorem sec_node {t:List UInt8} {n:Int} {ps:Fo} {w:Bool} (h:qu 4 t n ps false w=0):n=0∧ps=.nil∧qp t=true:=by
 obtain ⟨_,_,_,h4,_,h6,_⟩:=qez h
 refine ⟨?_,h6 (by decide),h4 (.inr (.inl rfl))⟩
 unfold qu at h
 split at h
 ·cases h
 ·rename_i hh
  by_cases hn:n=0
  ·exact hn
  ·exact absurd (.inr (.inr (.inr (.inl ⟨hn,rfl⟩)))) hh
theorem qos:∀ {f:Fo},okF true f→secs f=[]
 | .nil,_=>rfl
 | .cons k t n ps r,h=>by rw [secs,if_neg (sec_within h.1),qos h.2.2];rfl
theorem q7e {k:Int} {t:List UInt8} {n:Int} {ps:Fo} (h:k≠4):secs (partF k t n ps)=[]:=by
 unfold partF
 split
 ·rfl
 ·unfold Fo.one;rw [secs,if_neg h];rfl
theorem qve (hand:Int):∀ {f:Fo},okF false f→secs (qv f hand false)=secs f
 | .nil,_=>rfl
 | .cons k t n ps r,h=>by
  have h1:=qos (qlj h.2.1)
  have h2:=qos (qmc hand false h.2.1)
  rw [qv,qeu,qve hand h.2.2,secs]
  congr 1
  split
  ·rename_i hh;rw [h1,if_neg (by omega)]
  split
  ·rename_i hh;rw [h2,if_neg (by omega)]
  split
  ·rename_i hh;rw [q7e (by omega),if_neg (by omega)]
  split
  ·rename_i hh;rw [h1,if_neg (by omega)]
  split
  ·rename_i hh;rw [h2,if_neg (by omega)]
  split
  ·rename_i hh;rw [q7e (by omega),if_neg (by omega)]
  ·unfold Fo.one;rw [secs];simp [secs]
theorem secs_consM (k:Int) (t:List UInt8) (n:Int) (ps r:Fo):secs (consM k t n ps r)=(if k=4 then [t] else [])++secs r:=by
 unfold consM
 by_cases hk:k=1
 ·subst hk
  have e:∀ t:List UInt8,(if (1:Int)=4 then [t] else [])=([]:List (List UInt8)):=fun _=>if_neg (by decide)
  rw [if_pos rfl,e,List.nil_append]
  split
  ·rfl
  ·split
   ·simp [secs]
   ·split
    ·rename_i h1
     subst h1
     simp [secs]
    ·simp [secs]
 ·rw [if_neg hk,secs]
theorem q3k:∀ f:Fo,secs (qb9 f)=secs f
 | .nil=>rfl
 | .cons k t n ps r=>by rw [qb9,secs_consM,q3k r,secs]
theorem secs_stF {f:Fo} (h:okF false f) (hand:Int):secs (stF f hand)=secs f:=by
 unfold stF
 rw [qza,q3k,qve hand h]
theorem q3j {f:Fo}:okF false f→∀ s∈secs f,qp s=true:=by
 induction f with
 | nil=>intro _ s hs;cases hs
 | cons k t n ps r _ ih =>
  intro h s hs
  rw [secs] at hs
  rcases List.mem_append.1 hs with h1 | h1
  ·split at h1
   ·rename_i hk
    rw [List.mem_singleton.1 h1]
    subst hk
    exact (sec_node h.1).2.2
   ·cases h1
  ·exact ih h.2.2 s h1
def cutS:Fo→List UInt8→Option (Fo × Fo)
 | .nil,_=>none
 | .cons k t n ps r,s=>if k=4∧t=s then some (.nil,r) else (cutS r s).map fun p=>(.cons k t n ps p.1,p.2)
def bodyF:Fo→Fo
 | .nil=>.nil
 | .cons k t n ps r=>if k=4 then .nil else .cons k t n ps (bodyF r)
def fromS:Fo→Fo
 | .nil=>.nil
 | .cons k t n ps r=>if k=4 then .cons k t n ps r else fromS r
theorem qbb:∀ f:Fo,(bodyF f).app (fromS f)=f
 | .nil=>rfl
 | .cons k t n ps r=>by
  rw [bodyF,fromS]
  split
  ·rfl
  ·rw [Fo.cons_app,qbb r]
theorem q7f:∀ f:Fo,secs (bodyF f)=[]
 | .nil=>rfl
 | .cons k t n ps r=>by
  rw [bodyF]
  split
  ·rfl
  ·rename_i h;rw [secs,if_neg h,q7f r];rfl
theorem secs_from (f:Fo):secs (fromS f)=secs f:=by
 have h:=qeu (bodyF f) (fromS f)
 rw [qbb,q7f] at h
 exact h.symm
theorem q3z:∀ f:Fo,fromS f=.nil∨∃ t n ps r,fromS f=.cons 4 t n ps r
 | .nil=>.inl rfl
 | .cons k t n ps r=>by
  rw [fromS]
  split
  ·rename_i h;subst h;exact .inr ⟨_,_,_,_,rfl⟩
  ·exact q3z r
theorem qzr:∀ {f:Fo} {s:List UInt8},s∉secs f→cutS f s=none
 | .nil,_,_=>rfl
 | .cons k t n ps r,s,h=>by
  rw [secs,List.mem_append,not_or] at h
  rw [cutS,if_neg,qzr h.2];· rfl
  rintro ⟨h1,h2⟩
  exact h.1 (by rw [if_pos h1,h2];simp)
theorem qmp:∀ {f:Fo} {s:List UInt8} {a b:Fo},cutS f s=some (a,b)→∃ n ps,f=a.app (.cons 4 s n ps b)∧s∉secs a
 | .nil,_,_,_,h=>by cases h
 | .cons k t n ps r,s,a,b,h=>by
  rw [cutS] at h
  split at h
  ·rename_i hk
   simp only [Option.some.injEq,Prod.mk.injEq] at h
   obtain ⟨rfl,rfl⟩:=h
   obtain ⟨rfl,rfl⟩:=hk
   exact ⟨n,ps,rfl,by simp [secs]⟩
  ·rename_i hk
   cases hc:cutS r s with
   | none=>rw [hc] at h;cases h
   | some p =>
    obtain ⟨a',b'⟩:=p
    rw [hc] at h
    simp only [Option.map_some,Option.some.injEq,Prod.mk.injEq] at h
    obtain ⟨rfl,rfl⟩:=h
    obtain ⟨n',ps',h1,h2⟩:=qmp hc
    refine ⟨n',ps',by rw [Fo.cons_app,← h1],?_⟩
    rw [secs,List.mem_append,not_or]
    refine ⟨fun hm=>?_,h2⟩
    split at hm
    ·rename_i h4;exact hk ⟨h4,(List.mem_singleton.1 hm).symm⟩
    ·cases hm
theorem cutS_pre:∀ {pre r:Fo} {s:List UInt8},s∉secs pre→cutS (pre.app r) s=(cutS r s).map fun p=>(pre.app p.1,p.2)
 | .nil,r,s,_=>by
  rw [Fo.nil_app]
  cases cutS r s <;> rfl
 | .cons k t n ps p,r,s,h=>by
  rw [secs,List.mem_append,not_or] at h
  rw [Fo.cons_app,cutS,if_neg,cutS_pre h.2]
  ·cases cutS r s <;> rfl
  ·rintro ⟨h1,h2⟩
   exact h.1 (by rw [if_pos h1,h2];simp)
theorem cutS_some {f:Fo} {s:List UInt8} (h:s∈secs f):∃ a b,cutS f s=some (a,b):=by
 induction f with
 | nil=>cases h
 | cons k t n ps r _ ih =>
  rw [cutS]
  split
  ·exact ⟨_,_,rfl⟩
  ·rename_i hk
   rw [secs] at h
   rcases List.mem_append.1 h with h1 | h1
   ·split at h1
    ·rename_i h4;exact absurd ⟨h4,(List.mem_singleton.1 h1).symm⟩ hk
    ·cases h1
   ·obtain ⟨a,b,e⟩:=ih h1
    exact ⟨_,_,by rw [e];rfl⟩
def bodyS (f:Fo) (s:List UInt8):Fo:=match cutS f s with
 | some (_,b)=>bodyF b
 | none=>.nil
def preS (f:Fo) (s:List UInt8):Fo:=match cutS f s with
 | some (a,_)=>a
 | none=>.nil
structure FineW (f:Fo):Prop where
 size:f.size≤40
 tl:tlen f≤2600
 depth:f.depth≤16
 ok:okF false f
 m:mgd false f
theorem FineW.check {f:Fo} (h:FineW f):qad f=0:=by
 unfold qad
 have h1:=h.size
 have h2:=h.tl
 have h3:=h.depth
 have ha:allF f false false=0:=(qih f false false).2 ⟨h.ok,h.m⟩
 have hp:=qow f (qi4 h.ok)
 rw [if_pos (by omega),ha]
 simp;omega
theorem FineW.small {f:Fo} (h:FineW f):small f:=by have:=h.size;unfold Go.Proofs.small;omega
theorem FineW.res {f:Fo} (h:FineW f) (hand:Int) (adv:Bool):FineW (qct (qv f hand adv)):=by
 have h1:=h.size
 have h2:=h.tl
 have h3:=h.depth
 have a1:=qo0 (qv f hand adv)
 have a2:=qdm f hand adv
 have b1:=qmb (qv f hand adv)
 have b2:=qc8 f hand adv
 have c1:=qo8 (qv f hand adv)
 have c2:=qi9 f hand adv
 have hok:=qmc hand adv h.ok
 rw [qza] at a1 ⊢
 exact ⟨by omega,by omega,by omega,q46 hok (by omega),qy9 _⟩
theorem FineW.st {f:Fo} (h:FineW f) (hand:Int):FineW (stF f hand):=h.res hand false
theorem FineW.err {f:Fo} (h:FineW f) {hand:Int} (h0:0≤hand) (h8:hand≤8):errS f hand=0:=by
 unfold errS;rw [if_neg (by rw [h.check];simp),if_neg (by omega)]
theorem FineW.resS {f:Fo} (h:FineW f) {hand:Int} (h0:0≤hand) (h8:hand≤8):resS f hand false=stF f hand:=by
 unfold Go.Proofs.resS;rw [if_pos (h.err h0 h8)];rfl
theorem FineW.clean {f:Fo} (h:FineW f) (hand:Int):clean (stF f hand):=by
 unfold stF
 rw [qza];exact qo9 (qja hand (qi4 h.ok))
theorem mgd_false:∀ {f:Fo} {b:Bool},mgd b f→mgd false f
 | .nil,_,_=>trivial
 | .cons k t n ps r,b,h=>⟨by simp,h.2.1,h.2.2⟩
theorem mgd_app:∀ {f g:Fo} {b:Bool},mgd b (f.app g)→mgd b f∧mgd false g
 | .nil,g,b,h=>⟨trivial,mgd_false h⟩
 | .cons k t n ps r,g,b,h=>by
  rw [Fo.cons_app] at h
  have:=mgd_app h.2.2
  exact ⟨⟨h.1,h.2.1,this.1⟩,this.2⟩
theorem FineW.left {f g:Fo} (h:FineW (f.app g)):FineW f:=by
 have h1:=h.size
 have h2:=h.tl
 have h3:=h.depth
 rw [Fo.size_app] at h1
 rw [qet] at h2
 rw [qf7] at h3
 exact ⟨by omega,by omega,by omega,(okF_app.1 h.ok).1,(mgd_app h.m).1⟩
theorem FineW.right {f g:Fo} (h:FineW (f.app g)):FineW g:=by
 have h1:=h.size
 have h2:=h.tl
 have h3:=h.depth
 rw [Fo.size_app] at h1
 rw [qet] at h2
 rw [qf7] at h3
 exact ⟨by omega,by omega,by omega,(okF_app.1 h.ok).2,(mgd_app h.m).2⟩
theorem FineW.body {f:Fo} (h:FineW f) (s:List UInt8):FineW (bodyS f s):=by
 unfold bodyS
 cases hc:cutS f s with
 | none=>exact ⟨by simp [Fo.size],by simp [tlen],by simp [Fo.depth],trivial,trivial⟩
 | some p =>
  obtain ⟨a,b⟩:=p
  obtain ⟨n,ps,h1,_⟩:=qmp hc
  rw [h1] at h
  have h2:=h.right
  have h3:FineW b:=(show FineW ((Fo.one 4 s n ps).app b) from h2).right
  rw [← qbb b] at h3
  exact h3.left
theorem FineW.pre {f:Fo} (h:FineW f) (s:List UInt8):FineW (preS f s):=by
 unfold preS
 cases hc:cutS f s with
 | none=>exact ⟨by simp [Fo.size],by simp [tlen],by simp [Fo.depth],trivial,trivial⟩
 | some p =>
  obtain ⟨a,b⟩:=p
  obtain ⟨n,ps,h1,_⟩:=qmp hc
  rw [h1] at h
  exact h.left
theorem clean_body {f:Fo} (h:clean f) (s:List UInt8):clean (bodyS f s):=by
 unfold bodyS
 cases hc:cutS f s with
 | none=>trivial
 | some p =>
  obtain ⟨a,b⟩:=p
  obtain ⟨n,ps,h1,_⟩:=qmp hc
  rw [h1] at h
  have h2:=(clean_app.1 h).2.2.2
  rw [← qbb b] at h2
  exact (clean_app.1 h2).1
abbrev Wt:=List UInt8 × Fo
def spc (t:List UInt8):Bool:=t.all fun c=>decide (c=32)
def hdr:Fo→Int
 | .nil=>0
 | .cons k t _ _ r=>if k=4 then 0 else if k=3∨k=2∨(k=1∧spc t=true) then hdr r else 10
def witE (x:Wt):Int:=if qp x.1=false∨14 < x.1.length then 14 else if qad x.2≠0 then 1 else if (secs x.2).Nodup then hdr x.2 else 7
def qf5 (x:Wt):Bool:=qi5 x.2||decide (20 < x.1.length)
theorem q7b {k:Int} {t:List UInt8} {n:Int} {ps:Fo} {w:Bool} (h:qu k t n ps false w=0) (hk:k≠1):t.length≤64:=by
 unfold qu at h
 split at h
 ·cases h
 rename_i h0
 split at h
 ·cases h
 split at h
 ·split at h
  ·cases h
  ·rename_i hn
   have hn:qp t=true:=by simpa using hn
   unfold qp at hn
   simp only [Bool.and_eq_true,decide_eq_true_eq] at hn
   omega
 split at h
 ·split at h
  ·cases h
  ·rename_i hn
   have hn:qt t=true:=by simpa using hn
   unfold qt at hn
   simp only [Bool.and_eq_true,decide_eq_true_eq] at hn
   omega
 ·rename_i a1 a2
  have:qac k=false:=by unfold qac;rw [decide_eq_false_iff_not];omega
  by_cases ht:t=[]
  ·rw [ht];simp
  ·exact absurd (.inr (.inr (.inl ⟨ht,this⟩))) h0
theorem qx7 {w:Bool}:∀ {f:Fo} {d:Nat},okF w f→longF f d=false→tlen f≤64 * f.size
 | .nil,_,_,_=>by simp [tlen]
 | .cons k t n ps r,d,h,hl=>by
  rw [longF,Bool.or_eq_false_iff,Bool.or_eq_false_iff,Bool.or_eq_false_iff,Bool.or_eq_false_iff] at hl
  obtain ⟨_,l1,l2,l3,l4⟩:=hl
  have h1:=qx7 (w:=true) h.2.1 l3
  have h2:=qx7 h.2.2 l4
  rw [decide_eq_false_iff_not] at l1 l2
  have h3:t.length≤64:=by
   by_cases hk:k=1
   ·subst hk
    have:=(qez h.1).2.2.1 rfl
    have hc:=(checkC_mk.1 this.2).1
    omega
   ·exact q7b h.1 hk
  rw [tlen,Fo.size];omega
theorem fineW_of {f:Fo} (hg:qi5 f=false) (hc:qad f=0):FineW f:=by
 have hc0:=hc
 unfold qad at hc
 by_cases hs:f.size≤4096∧f.depth≤16
 ·rw [if_pos hs] at hc
  have ha:allF f false false=0:=by
   split at hc
   ·rename_i h;exact absurd hc h
   ·rename_i h;exact Decidable.not_not.1 h
  have:=(qih f false false).1 ha
  have hl:=f.len_le_size
  unfold qi5 at hg
  rw [if_pos (by omega),Bool.or_eq_false_iff] at hg
  have h1:=hg.1
  simp at h1
  have h2:=qx7 this.1 hg.2
  exact ⟨by omega,by omega,hs.2,this.1,this.2⟩
 ·rw [if_neg hs] at hc;cases hc
structure OkW (x:Wt):Prop where
 fine:FineW x.2
 name:qp x.1=true
 len:x.1.length≤14
 nodup:(secs x.2).Nodup
 hd:hdr x.2=0
theorem okW_of {x:Wt} (hg:qf5 x=false) (he:witE x=0):OkW x:=by
 unfold qf5 at hg
 rw [Bool.or_eq_false_iff] at hg
 unfold witE at he
 split at he
 ·cases he
 rename_i h1
 split at he
 ·rename_i h2;cases he
 rename_i h2
 split at he
 ·rename_i h3
  rw [not_or] at h1
  exact ⟨fineW_of hg.1 (Decidable.not_not.1 h2),by simpa using h1.1,by omega,h3,he⟩
 ·cases he
theorem OkW.wit {x:Wt} (h:OkW x):witE x=0:=by
 unfold witE
 rw [if_neg (by rw [h.name];have:=h.len;simp;omega),if_neg (by rw [h.fine.check];simp),if_pos h.nodup,h.hd]
end Go.Proofs
