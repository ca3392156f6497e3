/- A part of the proof. -/
import Derived.Test.YtkecgnlelgdndaaGreatDoorLawH
import Derived.Lib.Replace
import Derived.Lib.SliceRun
set_option linter.all false
set_option maxRecDepth 20000
namespace Go.Proofs
open Go Go.Sh Go.RowKit Go.Proofs.Tryz IntKind List
section
variable {R:EP} {w:World}
theorem qnb {S:NP} {a:OA} {n c:Nat} (L:List Wt) (hs:∀ x∈L,x.2.size≤1000000) (hR:SlW S w a n L)
  (h:∀ a' n' c' w',OwnL encSr w' w.heap.size 65 a' n' c' (srcR L)→Ext w w'→R (.returned (.tuple ⟨[lV a' n' c',iV (srcE L)]⟩)) w'):Calls prog qlq ⟨[lV a n c]⟩ w R:=by
 apply q0k;have bad:∀ (e:Int) (v:World),Ext w v→srcE L=e→e≠0→R (.returned (.tuple ⟨[lV none 0 0,iV e]⟩)) v:=by
  intro e v ev he h0;have h1:srcR L=[]:=by unfold srcR;rw [if_neg (by omega)]
  rw [h1,he] at h;exact h none 0 0 v (Owns.nil _ _ _ _) ev
 refine qrc L hs hR fun w3 e3=>⟨_,rfl,qb (fun g=>bad _ w3 e3 (by unfold srcE;rw [if_pos g]) g) (fun g=>?_)⟩;have g0:chkW L=0:=Decidable.not_not.1 g;obtain ⟨hl32,hwit⟩:=qhy g0;have hln:=hR.1;have z3:=e3.size;refine qg fun b5 w6 hb5 B5 e6 s6=>?_;have E6:=qa e3 e6;refine ⟨fun oa on oc i W m=>∃ k:Nat,i=k∧k≤n∧m=n - k∧OwnL encSr W w.heap.size 65 oa on oc (allS (L.take k) 0)∧Ext w W,⟨_,0,rfl,by omega,rfl,Owns.made B5 (by omega),E6⟩,?_⟩;rintro oa on oc _ W m ⟨k,rfl,hk,rfl,hO,he⟩ _;have hon:=OwnL.length hO;have hal:=q9a (L.take k) 0;rw [length_take] at hal;have zW:=he.size;refine qb (fun hlt=>?_) (fun hge=>?_)
 ·have hkl:k < L.length:=by omega
  obtain ⟨q,a',c',hq,c0,c1,hf⟩:=(hR.ext he).get (show L[k]? = some L[k] by simp [hkl]);have hx:=hwit L[k] (getElem_mem hkl);have hnm:=q57 hx;have htk:L.take (k + 1)=L.take k++[L[k]]:=take_succ_eq_append_getElem hkl;have hall:allS (L.take (k + 1)) 0=allS (L.take k) 0++qd7 k L[k]:=by
   rw [htk,q1j,length_take,Nat.zero_add,Nat.min_eq_left (by omega)]
  have hget:L[k]? = some L[k]:=by simp [hkl]
  have hsx:L[k].2.size≤1000000000:=by have:=hs _ (getElem_mem hkl);omega
  generalize L[k]=x at *;have hc0:=qhm hx;refine hq _ ⟨_,_,_,c1,Hands11_spec x.2 hsx hf fun ha hn hc w19 hH e19=>⟨_,_,_,_,rfl,?_⟩⟩;rw [if_neg (by rw [hc0];simp)] at hH;have E19:=qa he e19;have z19:=e19.size;have hhl:(qs x.2 8).length=hn:=by have:=hH.1;simpa using this
  have hh8:=qf0 x.2 8;have hO19:=Owns.ext hO e19;have hbO:∀ j,bk oa j→j < W.heap.size:=fun j hj=>(hO.bk hj).2;have rd:∀ {v:World},Ext w v→∀ {K:LU→Prop},K x.1→idx a n (k:Int) 2 fun p=>∃ (y:LU),v.cell? (p.add 0)=some (sV y)∧K y:=by
   intro v hv K hK;obtain ⟨q,a',c',hq,c0,_,_⟩:=(hR.ext hv).get hget;exact hq _ ⟨_,c0,hK⟩
  refine qb (fun gz=>?_) (fun gz=>?_)
  ·have hnil:qs x.2 8=[]:=List.eq_nil_of_length_eq_zero (by omega);have hso:qd7 k x=[(x.1,(k:Int),0)]:=by unfold qd7;rw [if_pos hnil]
   refine rd E19 ?_;refine OwnL.push (E:=encSr) qto hO19 (by omega) (x.1,(k:Int),0) (by omega) (by omega) fun a25 c25 w26 ho hc' hn'=>?_;refine ⟨n - (k + 1),by omega,k + 1,by rw [qj (by omega)],by omega,rfl,by rw [hall,hso];exact ho,qi E19 hc' fun j hj=>(hO.bk hj).1⟩
  ·have hne:qs x.2 8≠[]:=fun hh=>gz (by rw [hh] at hhl;simp at hhl;omega);have hso:qd7 k x=(x.1++[42],(k:Int),0) :: (qs x.2 8).map fun h=>(x.1++[UInt8.ofNat (48 + h.toNat)],(k:Int),h):=by unfold qd7;rw [if_neg hne]
   refine rd E19 (qy9 (by simp;omega) ?_);refine OwnL.push (E:=encSr) qto hO19 (by omega) (x.1++[42],(k:Int),0) (by omega) (by omega) fun a32 c32 w33 ho hc' hn'=>?_;have E33:=qi E19 hc' fun j hj=>(hO.bk hj).1;refine ⟨fun ob obn obc i W2 m=>∃ t:Nat,i=t∧t≤hn∧m=hn - t∧OwnL encSr W2 w.heap.size 65 ob obn obc (allS (L.take k) 0++[(x.1++[42],(k:Int),0)]++((qs x.2 8).take t).map fun h=>(x.1++[UInt8.ofNat (48 + h.toNat)],(k:Int),h))∧(∀ j,bk ob j→¬ bk ha j)∧Owns W2 W.heap.size 3 1 ha hn hc (intV (qs x.2 8))∧Ext w W2,
    ⟨_,0,rfl,by omega,rfl,by simpa using ho,fun j hj=>?_,hH.chg hc' (fun j hj hh=>by have:=hbO _ hh;have:=(hH.bk hj).1;omega),E33⟩,?_⟩
   ·rcases hn' j hj with h1 | h1
    ·have:=hbO j h1
     exact fun hh=>by have:=(hH.bk hh).1;omega
    ·exact fun hh=>by have:=(hH.bk hh).2;omega
   rintro ob obn obc _ W2 m ⟨t,rfl,ht,rfl,pO,pD,pH,pE⟩ _;have pon:=OwnL.length pO;simp only [length_append,length_cons,length_nil,length_map,length_take] at pon;have zW2:=pE.size;refine qb (fun hlt2=>?_) (fun hge2=>?_)
   ·have hth:t < (qs x.2 8).length:=by omega
    have hbd:=q7m (getElem_mem hth);have htt:(qs x.2 8).take (t + 1)=(qs x.2 8).take t++[(qs x.2 8)[t]]:=take_succ_eq_append_getElem hth;unfold drw;have ed:=qn W2;have qO:=Owns.ext pO ed;have qH:=Owns.ext pH ed;have qE:=qa pE ed;generalize W2.drew=wd at *;have zd:=qE.size;have oi:∀ (K:Addr→Prop),(∀ p,wd.cell? p=some (iV (qs x.2 8)[t])→K p)→idx ha hn (t:Int) 1 K:=owns_int qH hth;generalize (qs x.2 8)[t]=hh at *;have hhn:hh=((hh.toNat:Nat):Int):=by omega
    refine rd qE (oi _ fun p hp=>⟨_,hp,oi _ fun p hp=>⟨_,hp,?_⟩⟩);have i1:i64.wrap (hh + 1)=((hh.toNat + 1:Nat):Int):=by rw [qo (by omega)];omega
    rw [i1];refine (show ssl _ hh _ _ from ?_)
    conv=>arg 2;rw [hhn]
    refine qdg (by omega) (by simp;omega) ?_;rw [dig_ref (by omega)];refine qy9 (by simp;omega) (oi _ fun p hp=>⟨_,hp,?_⟩);have last:al wd 65 [sV (x.1++[UInt8.ofNat (48 + hh.toNat)]),iV (k:Int),iV hh] fun p48 w49=>app prog [27,27] 27 (lV ob obn obc) (lV (some p48) 1 1) w49 fun a50 a50n a50c w51 =>
      ∃ m52:Nat,m52 < hn - t∧∃ t':Nat,i64.wrap ((t:Int) + 1)=t'∧t'≤hn∧m52=hn - t'∧OwnL encSr w51 w.heap.size 65 a50 a50n a50c (allS (L.take k) 0++[(x.1++[42],(k:Int),0)]++((qs x.2 8).take t').map fun h=>(x.1++[UInt8.ofNat (48 + h.toNat)],(k:Int),h))∧(∀ j,bk a50 j→¬ bk ha j)∧Owns w51 W.heap.size 3 1 ha hn hc (intV (qs x.2 8))∧Ext w w51:=by
     refine OwnL.push (E:=encSr) qto qO (by omega) (x.1++[UInt8.ofNat (48 + hh.toNat)],(k:Int),hh) (by omega) (by omega) fun a50 c50 w51 ro rc rn=>?_;refine ⟨hn - (t + 1),by omega,t + 1,by rw [qj (by omega)],by omega,rfl,?_,fun j hj=>?_,qH.chg rc (fun j hj hh=>pD _ hh hj),qi qE rc fun j hj=>(qO.bk hj).1⟩
     ·rw [htt,map_append,← append_assoc];exact ro
     ·rcases rn j hj with h1 | h1
      ·exact pD j h1
      ·exact fun hh=>by have:=(qH.bk hh).2;omega
    exact And.intro (And.intro last trivial) trivial
   ·have:t=hn:=by omega
    subst this;rw [show (qs x.2 8).take t=qs x.2 8 from take_of_length_le (by omega)] at pO;refine ⟨n - (k + 1),by omega,k + 1,by rw [qj (by omega)],by omega,rfl,?_,pE⟩;rw [hall,hso];rw [append_assoc] at pO;exact pO
 ·have hkn:k=L.length:=by omega
  rw [take_of_length_le (by omega)] at hO hon hal;have R2:=OwnL.out (E:=encSr) hO;have hnod:srcE L=if ((allS L 0).map (·.1)).Nodup then (if 32 < (allS L 0).length then 4 else 0) else 7:=by unfold srcE;rw [if_neg g]
  refine ⟨fun i W2 m=>∃ t:Nat,i=t∧t≤on∧m=on - t∧(((allS L 0).take t).map (·.1)).Nodup∧Ext W W2,⟨_,0,rfl,by omega,rfl,by simp,bR⟩,?_⟩
  rintro _ W2 m ⟨t,rfl,ht,rfl,hnd,he2⟩ _;refine qb (fun hlt2=>?_) (fun hge2=>?_)
  ·have htl:t < (allS L 0).length:=by omega
   have htt:(allS L 0).take (t + 1)=(allS L 0).take t++[(allS L 0)[t]]:=take_succ_eq_append_getElem htl;have hsub:List.Sublist (((allS L 0).take (t + 1)).map (·.1)) ((allS L 0).map (·.1)):=(List.take_sublist _ _).map _
   refine ⟨fun i W3 m=>∃ u:Nat,i=u∧u≤t∧m=t - u∧(allS L 0)[t].1∉((allS L 0).take u).map (·.1)∧Ext W W3,⟨_,0,rfl,by omega,rfl,by simp,he2⟩,?_⟩
   rintro _ W3 m ⟨u,rfl,hu,rfl,hnu,he3⟩ _;refine qb (fun hlt3=>?_) (fun hge3=>?_)
   ·have hul:u < (allS L 0).length:=by omega
    have hut:(allS L 0).take (u + 1)=(allS L 0).take u++[(allS L 0)[u]]:=take_succ_eq_append_getElem hul;unfold drw;have ed:=qa he3 (qn W3);obtain ⟨q,hq,d0,_,_⟩:=qfv (R2.ext ed) (show (allS L 0)[t]? = some (allS L 0)[t] by simp [htl]);obtain ⟨q',hq',d0',_,_⟩:=qfv (R2.ext ed) (show (allS L 0)[u]? = some (allS L 0)[u] by simp [hul]);refine hq _ ⟨_,d0,hq' _ ⟨_,d0',qb (fun gm=>?_) (fun gm=>?_)⟩⟩
    ·refine bad 7 _ (qa he ed) ?_ (by decide);rw [hnod,if_neg];intro hn2;have:=hn2.sublist hsub
     rw [htt,map_append,List.nodup_append] at this;refine this.2.2 (allS L 0)[u].1 ?_ (allS L 0)[t].1 (by simp) gm.symm;exact mem_map.2 ⟨_,List.mem_take_iff_getElem.2 ⟨u,by omega,rfl⟩,rfl⟩
    ·refine ⟨t - (u + 1),by omega,u + 1,by rw [qj (by omega)],by omega,rfl,?_,ed⟩;rw [hut,map_append,mem_append,not_or];exact ⟨hnu,by simpa using gm⟩
   ·have:u=t:=by omega
    subst this;refine ⟨on - (u + 1),by omega,u + 1,by rw [qj (by omega)],by omega,rfl,?_,he3⟩;rw [htt,map_append,List.nodup_append];refine ⟨hnd,by simp,fun p hp q hq hpq=>hnu ?_⟩;rw [List.map_singleton,mem_singleton] at hq;rw [← hq,← hpq];exact hp
  ·have:t=on:=by omega
   subst this;rw [take_of_length_le (by omega)] at hnd;rw [if_pos hnd] at hnod;refine qb (fun g3=>bad 4 W2 (qa he he2) (by rw [hnod,if_pos (by omega)]) (by decide)) (fun g3=>?_);rw [if_neg (by omega)] at hnod;have h1:srcR L=allS L 0:=by unfold srcR;rw [if_pos hnod]
   rw [h1,hnod] at h;exact h oa t oc W2 (Owns.ext hO he2) (qa he he2)
end
abbrev Nm:=LU
def ddS:List Nm→List Nm→List Nm
 | acc,[]=>acc
 | acc,s :: l=>ddS (if s∈acc then acc else acc++[s]) l
theorem ddS_app:∀ (l m acc:List Nm),ddS acc (l++m)=ddS (ddS acc l) m
 | [],m,acc=>rfl
 | s :: l,m,acc=>by rw [cons_append,ddS,ddS_app l m,ddS]
theorem ddS_snoc (acc l:List Nm) (s:Nm):ddS acc (l++[s])=if s∈ddS acc l then ddS acc l else ddS acc l++[s]:=by
 rw [ddS_app];rfl
theorem mem_ddS:∀ {l acc:List Nm} {x:Nm},x∈ddS acc l↔x∈acc∨x∈l
 | [],acc,x=>by simp [ddS]
 | s :: l,acc,x=>by
  rw [ddS,mem_ddS,mem_cons];split
  ·rename_i h;constructor
   ·rintro (h1 | h1)
    ·exact .inl h1
    ·exact .inr (.inr h1)
   ·rintro (h1 | rfl | h1)
    ·exact .inl h1
    ·exact .inl h
    ·exact .inr h1
  ·rw [mem_append,mem_singleton,or_assoc]
theorem qud:∀ (l acc:List Nm),(ddS acc l).length≤acc.length + l.length
 | [],acc=>by simp [ddS]
 | s :: l,acc=>by
  have:=qud l (if s∈acc then acc else acc++[s])
  rw [ddS,length_cons];split at this
  ·rename_i h;rw [if_pos h];omega
  ·rename_i h;rw [if_neg h];simp at this;omega
theorem find_pre {α:Type} {P:α→Bool} {p:List α} {x:α} (r:List α) (h:p.find? P=none) (hx:P x=true):(p++x :: r).find? P=some x:=by
 rw [List.find?_append,h,List.find?_cons,hx];rfl
theorem ddS_find (P:Nm→Bool):∀ (l acc:List Nm),(ddS acc l).find? P=(acc++l).find? P
 | [],acc=>by rw [ddS,append_nil]
 | s :: l,acc=>by
  rw [ddS,ddS_find P l];split
  ·rename_i h;rw [List.find?_append,List.find?_append];cases hf:acc.find? P with
   | some v=>rfl
   | none =>
    have:P s=false:=by
     have:=List.find?_eq_none.1 hf s h
     simpa using this
    rw [List.find?_cons,this]
  ·rw [append_assoc];rfl
theorem idxw_at {own:List Nm} {s:Nm} {j:Nat} (hj:j < own.length) (hs:own[j]=s) (hn:s∉own.take j):own.idxOf s=j:=by
 have h1:own=own.take j++own.drop j:=(take_append_drop j own).symm;have h2:own.drop j=s :: own.drop (j + 1):=by rw [drop_eq_getElem_cons hj,hs]
 conv=>lhs;arg 2;rw [h1]
 rw [List.idxOf_append,if_neg hn,h2,List.idxOf_cons_self,length_take];omega
theorem idxw_ge {own:List Nm} {s:Nm} {j:Nat} (hj:j≤own.length) (hn:s∉own.take j):j≤own.idxOf s:=by
 have h1:own=own.take j++own.drop j:=(take_append_drop j own).symm;have h3:own.idxOf s=(own.drop j).idxOf s + (own.take j).length:=by
  conv=>lhs;arg 2;rw [h1]
  rw [List.idxOf_append,if_neg hn]
 rw [h3,length_take];omega
def okO (tk:List Nm) (s:Nm) (own:List Nm):Bool:=!decide (s∈own)||(own.take (own.idxOf s)).all fun o=>decide (o∈tk)
def freeB (A:List (List Nm)) (tk:List Nm) (s:Nm):Bool:=A.all (okO tk s)
def canB (A:List (List Nm)) (tk:List Nm) (s:Nm):Bool:=!decide (s∈tk)&&freeB A tk s
def nextS (A:List (List Nm)) (tk:List Nm):Option Nm:=A.flatten.find? (canB A tk)
def ordG (A:List (List Nm)):Nat→List Nm→Option (List Nm)
 | 0,out=>some out
 | m + 1,out=>match nextS A out with
  | none=>none
  | some s=>ordG A m (out++[s])
def secL (L:List Wt):List (List Nm):=L.map fun x=>secs x.2
def ddL (L:List Wt):List Nm:=ddS [] (secL L).flatten
theorem okO_past {tk:List Nm} {s:Nm} {own:List Nm} (h:s∉own):okO tk s own=true:=by
 unfold okO;rw [decide_eq_false h];rfl
theorem okO_at {tk:List Nm} {s:Nm} {own:List Nm} {j:Nat} (hj:j < own.length) (hs:own[j]=s) (hn:s∉own.take j) (ht:∀ o∈own.take j,o∈tk):okO tk s own=true:=by
 unfold okO;rw [idxw_at hj hs hn,Bool.or_eq_true,all_eq_true];exact .inr fun o ho=>decide_eq_true (ht o ho)
theorem okO_bad {tk:List Nm} {s:Nm} {own:List Nm} {j:Nat} (hj:j < own.length) (hm:s∈own) (hn:s∉own.take (j + 1)) (ht:own[j]∉tk):okO tk s own=false:=by
 have h1:=idxw_ge (by omega) hn;unfold okO;rw [decide_eq_true hm,Bool.not_true,Bool.false_or,List.all_eq_false];refine ⟨own[j],?_,by simpa using ht⟩;exact List.mem_take_iff_getElem.2 ⟨j,by have:=List.idxOf_le_length (a:=s) (l:=own);omega,rfl⟩
theorem nextS_mem {A:List (List Nm)} {tk:List Nm} {s:Nm} (h:nextS A tk=some s):s∈A.flatten∧s∉tk∧freeB A tk s=true:=by
 have h1:=List.find?_some h;unfold canB at h1;simp only [Bool.and_eq_true,Bool.not_eq_true',decide_eq_false_iff_not] at h1;exact ⟨List.mem_of_find?_eq_some h,h1⟩
end Go.Proofs
namespace Go.Sh
open Go Go.RowKit
section
variable {α:Type} {E:Enc α} {w:World} {B:Nat} {e:TypeId} {a:OA} {n c:Nat} {l:List α}
end
end Go.Sh
namespace Go.Proofs
open Go Go.Sh Go.RowKit Go.Proofs.Tryz IntKind List
theorem get_str {S:NP} {w:World} {a:OA} {n:Nat} {L:List (LU)} (h:RowAt Sh.encStr S w a n L) {k:Nat} (hk:k < L.length) :
  ∃ q:Addr,(∀ K:Addr→Prop,K q→idx a n (k:Int) 1 K)∧w.cell? q=some (sV (L[k])):=by
 obtain ⟨bb,o,hq,_,_,hc⟩:=h.get (i:=k) (x:=L[k]) (List.getElem?_eq_getElem hk);exact ⟨⟨bb,o,none⟩,hq,hc 0 _ rfl⟩
theorem qnw {R:EP} {S:NP} {w:World} {a:OA} {n c:Nat} {L:List (LU)} (v:LU) (h1:RowAt Sh.encStr S w a n L) (hs:n≤4611686018427387904)
  (h:R (.returned (bV (decide (v∈L)))) w):Calls prog qba ⟨[lV a n c,sV v]⟩ w R:=by
 apply qdc;have hn:=h1.1;apply qej;refine ⟨fun i W m=>∃ k:Nat,i=k∧k≤n∧m=n - k∧v∉L.take k∧W=w,⟨_,0,rfl,by omega,rfl,by simp,rfl⟩,?_⟩;rintro _ W m ⟨k,rfl,hk,rfl,hno,rfl⟩ _;refine qb (fun hlt=>?_) (fun hge=>?_)
 ·have hkL:k < L.length:=by omega
  obtain ⟨p,hp1,hc⟩:=get_str h1 hkL;refine hp1 _ ⟨_,hc,qb (fun g=>?_) (fun g=>?_)⟩
  ·refine ⟨_,rfl,?_⟩;rw [decide_eq_true (show (0:Int)≤(k:Int) by omega)];rw [decide_eq_true (show v∈L by rw [g];exact getElem_mem hkL)] at h;exact h
  ·refine ⟨n - (k + 1),by omega,k + 1,by rw [qj (by omega)],by omega,rfl,?_,rfl⟩;rw [List.take_add_one,List.getElem?_eq_getElem hkL,mem_append];rintro (hh | hh)
   ·exact hno hh
   ·simp at hh;exact g hh
 ·refine ⟨_,rfl,?_⟩;rw [take_of_length_le (by omega)] at hno;rw [decide_eq_false hno] at h;exact h
end Go.Proofs
namespace Go.Sh
open Go Go.RowKit
open Go.WideElems (Fit)
open Go.Maps (Keyed)
def MapN {K V:Type} (P:Program) (k:TypeId) (eK:K→Value) (eV:V→Value) (w:World) (b n:Nat) (f:K→Option V):Prop :=
 ∃ es clock,w.heap[b]? = some (.map es clock)∧Fit P k anyV es clock∧es.size=n ∧
  ∀ x,(f x=none∧∀ e∈es.toList,e.key≠eK x)∨∃ v,f x=some v∧∃ e∈es.toList,e.key=eK x∧e.val=eV v
section
variable {K V:Type} {P:Program} {k t e:TypeId} {eK:K→Value} {eV:V→Value} {w w':World} {b n:Nat} {f:K→Option V}
theorem MapN.toT (h:MapN P k eK eV w b n f):MapT P k eK eV w b n f:=by
 obtain ⟨es,clock,hb,F,hs,h⟩:=h;exact ⟨es,clock,hb,F,Nat.le_of_eq hs,h⟩
theorem MapN.of0 (h:MapT P k eK eV w b 0 f):MapN P k eK eV w b 0 f:=by
 obtain ⟨es,clock,hb,F,hs,h⟩:=h;exact ⟨es,clock,hb,F,Nat.le_zero.1 hs,h⟩
theorem MapN.keep (h:MapN P k eK eV w b n f) (hw:w'.heap[b]? = w.heap[b]?):MapN P k eK eV w' b n f:=by
 obtain ⟨es,clock,hb,h⟩:=h;exact ⟨es,clock,hw.trans hb,h⟩
theorem MapN.ext (h:MapN P k eK eV w b n f) (hw:Ext w w'):MapN P k eK eV w' b n f:=h.keep (hw.block b h.toT.lt)
theorem MapN.chg {S:NP} (h:MapN P k eK eV w b n f) (hw:Chg S w w') (hs:¬ S b):MapN P k eK eV w' b n f:=h.keep (hw.block b h.toT.lt hs)
theorem MapN.len (h:MapN P k eK eV w b n f) {Q:Int→Prop} (hq:Q n):mlenV w (.map (some b)) Q:=by
 obtain ⟨es,clock,hb,_,hs,_⟩:=h;exact ⟨es,clock,hb,by rw [hs];exact hq⟩
theorem MapN.update (h:MapN P k eK eV w b n f) (Kd:Keyed P k) (ht:P.underlying t=some (.map k e)) (hn:n < maxLen) {x:K} {v:V} {kl:Lit} (hkey:keyOf P k (eK x)=some kl) (hinj:∀ y,eK y=eK x→y=x) {Q:WP}
  (hq:∀ (w':World) (g:K→Option V),MapN P k eK eV w' b (if (f x).isSome then n else n + 1) g→Chg (fun j=>j=b) w w'→g x=some v→(∀ y,y≠x→g y=f y)→Q w'):mupd P t (.map (some b)) (eK x) (eV v) w Q:=by
 have hlt:=h.toT.lt;obtain ⟨es,clock,hb,F,hs,hf⟩:=h;have hsz:es.size < maxLen:=by rw [hs];exact hn
 have chg:∀ o,Chg (fun j=>j=b) w (ChangeMaps.setBlock w b o):=fun o=>⟨rfl,rfl,rfl,by simp [ChangeMaps.setBlock],fun i _ hi=>ChangeMaps.heap_setBlock_other hb _ hi⟩;have fin:∀ es' clock',(Instr.mapUpdate t (.map (some b)) (eK x) (eV v)).run P w=.ok () (ChangeMaps.setBlock w b (.map es' clock'))→Fit P k anyV es' clock'→es'.size=(if (f x).isSome then n else n + 1) →
   (∃ e1∈es'.toList,e1.key=eK x∧e1.val=eV v)→(∀ e0∈es.toList,e0.key≠eK x→e0∈es'.toList)→(∀ e1∈es'.toList,e1.key≠eK x→e1∈es.toList) →
   mupd P t (.map (some b)) (eK x) (eV v) w Q:=by
  intro es' clock' hrun F' hs' hnew hold hback
  classical
  refine ⟨_,hrun,hq _ (fun y=>if y=x then some v else f y) ⟨es',clock',ChangeMaps.heap_setBlock_same hb _,F',hs',fun y=>?_⟩ (chg _) (by simp) (fun y hy=>by simp [hy])⟩;by_cases hy:y=x
  ·subst hy;obtain ⟨e1,h1,h2,h3⟩:=hnew;exact .inr ⟨v,by simp,e1,h1,h2,h3⟩
  ·have hne:eK y≠eK x:=fun e=>hy (hinj y e);rcases hf y with ⟨h0,h1⟩ | ⟨u,hu,e1,h1,h2,h3⟩
   ·refine .inl ⟨by simp [hy,h0],fun e1 he1 hk=>?_⟩;exact h1 e1 (hback e1 he1 (by rw [hk];exact hne)) hk
   ·exact .inr ⟨u,by simp [hy,hu],e1,hold e1 h1 (by rw [h2];exact hne),h2,h3⟩
 rcases Kd.find w hkey es.toList F.keys with ⟨h1,h2⟩ | ⟨j,e0,h1,h2,h3⟩
 ·have hfx:(f x).isSome=false:=by
   rcases hf x with ⟨h0,_⟩ | ⟨u,hu,e1,g1,g2,_⟩
   ·rw [h0];rfl
   ·exact absurd g2 (h2 e1 g1)
  refine fin (es.push ⟨eK x,eV v,clock⟩) (clock + 1) ?_ ⟨by simp;omega,MapKept.stamped_push F.stamped h2,?_⟩ (by rw [hfx];simp [hs]) ⟨⟨eK x,eV v,clock⟩,by simp,rfl,rfl⟩ (fun e0 h0 _=>by simp at h0 ⊢;exact .inl h0) (fun e1 h1 hne=>?_)
  ·simp [Instr.mapUpdate,run_underlying ht,MapKept.run_getObj_map hb,Kd.check w false hkey,h1,MapKept.run_setObj_map _ hb,Result.andThen,ChangeMaps.setBlock]
  ·intro y hy;simp only [Array.toList_push,List.mem_append,List.mem_singleton] at hy;rcases hy with hy | rfl
   ·exact F.reads y hy
   ·exact ⟨_,WideElems.rd_mk hkey rfl⟩
  ·simp only [Array.toList_push,List.mem_append,List.mem_singleton] at h1;rcases h1 with h1 | rfl
   ·exact h1
   ·exact absurd rfl hne
 ·have hj:es[j]? = some e0:=by simpa using h2
  have hjl:j < es.toList.length:=(List.getElem?_eq_some_iff.1 h2).1;have hkeyf:∀ e',es[j]? = some e'→({ e' with key:=eK x,val:=eV v }:MapEntry).key=e'.key:=fun e' he'=>by rw [hj] at he';cases he';exact h3.symm
  have hlist:(es.modify j (fun e'=>{ e' with key:=eK x,val:=eV v })).toList=es.toList.set j { e0 with key:=eK x,val:=eV v }:=by
   apply List.ext_getElem?;intro i;simp only [Array.getElem?_toList,Array.getElem?_modify,List.getElem?_set];by_cases hi:j=i
   ·subst hi;simp [hj];exact (Array.getElem?_eq_some_iff.1 hj).1
   ·simp [hi]
  have hfx:(f x).isSome=true:=by
   rcases hf x with ⟨_,h0⟩ | ⟨u,hu,_⟩
   ·exact absurd h3 (h0 e0 (List.mem_of_getElem? h2))
   ·rw [hu];rfl
  refine fin (es.modify j (fun e'=>{ e' with key:=eK x,val:=eV v })) clock ?_ ⟨by simpa using F.size,MapKept.stamped_modify F.stamped _ _ (fun _ _=>rfl) (fun e' _ he'=>hkeyf e' he'),?_⟩ (by rw [hfx];simpa using hs) ?_ ?_ ?_
  ·simp [Instr.mapUpdate,run_underlying ht,MapKept.run_getObj_map hb,Kd.check w false hkey,h1,hj,h3,Kd.stays w hkey,MapKept.run_setObj_map _ hb,Result.andThen,ChangeMaps.setBlock]
  ·intro y hy;rw [hlist] at hy;rcases List.mem_or_eq_of_mem_set hy with hy | rfl
   ·exact F.reads y hy
   ·exact ⟨_,WideElems.rd_mk hkey rfl⟩
  ·exact ⟨{ e0 with key:=eK x,val:=eV v },by rw [hlist];exact List.mem_iff_getElem.2 ⟨j,by simpa using hjl,by simp⟩,rfl,rfl⟩
  ·intro y hy hne;rw [hlist];obtain ⟨i,hi,rfl⟩:=List.getElem_of_mem hy;have hij:j≠i:=fun e=>by
    subst e;have:es.toList[j]=e0:=by rw [List.getElem?_eq_getElem hjl] at h2;exact Option.some.inj h2
    rw [this] at hne;exact hne h3
   exact List.mem_iff_getElem.2 ⟨i,by simpa using hi,by rw [List.getElem_set_ne hij]⟩
  ·intro y hy hne;rw [hlist] at hy;rcases List.mem_or_eq_of_mem_set hy with hy | rfl
   ·exact hy
   ·exact absurd rfl hne
end
end Go.Sh
namespace Go.Proofs
open Go Go.Sh Go.RowKit Go.Proofs.Tryz IntKind List
def AllC (S:NP) (w:World):List (List Nm)→LV→Prop
 | [],vs=>vs=[]
 | o :: A,vs=>∃ a c vs',vs=lV a o.length c :: vs'∧RowAt Sh.encStr S w a o.length o∧AllC S w A vs'
def RowsAt (S:NP) (w:World) (a:OA) (n:Nat) (A:List (List Nm)):Prop:=n=A.length∧∃ vs,At S w a vs∧AllC S w A vs
section
variable {S S':NP} {w w':World}
theorem AllC.keep (hs:∀ k,S k→k < w.heap.size→S' k∧w'.heap[k]? = w.heap[k]?) (hz:w.heap.size≤w'.heap.size):∀ {A:List (List Nm)} {vs:LV},AllC S w A vs→AllC S' w' A vs
 | [],_,h=>h
 | _ :: _,_,⟨a,c,vs',h1,h2,h3⟩=>⟨a,c,vs',h1,h2.keep hs hz,AllC.keep hs hz h3⟩
theorem AllC.snoc {o:List Nm} {a:OA} {c:Nat} (ho:RowAt Sh.encStr S w a o.length o):∀ {A:List (List Nm)} {vs:LV},AllC S w A vs→AllC S w (A++[o]) (vs++[lV a o.length c])
 | [],vs,h=>by
  have h:vs=[]:=h;subst h;exact ⟨a,c,[],rfl,ho,rfl⟩
 | _ :: _,_,⟨a',c',vs',h1,h2,h3⟩=>⟨a',c',vs'++[lV a o.length c],by rw [h1];rfl,h2,AllC.snoc ho h3⟩
theorem AllC.get {o:List Nm}:∀ {A:List (List Nm)} {vs:LV} {i:Nat},AllC S w A vs→A[i]? = some o→∃ a c,vs[i]? = some (lV a o.length c)∧RowAt Sh.encStr S w a o.length o
 | [],_,i,_,h=>by simp at h
 | y :: A,vs,0,⟨a,c,vs',h1,h2,h3⟩,h=>by
  simp only [List.getElem?_cons_zero,Option.some.injEq] at h;subst h;exact ⟨a,c,by rw [h1];rfl,h2⟩
 | y :: A,vs,i + 1,⟨a,c,vs',h1,h2,h3⟩,h=>by
  obtain ⟨a',c',e1,e2⟩:=AllC.get (i:=i) h3 (by simpa using h);exact ⟨a',c',by rw [h1];exact e1,e2⟩
theorem AllC.len:∀ {A:List (List Nm)} {vs:LV},AllC S w A vs→vs.length=A.length
 | [],vs,h=>by rw [show vs=[] from h];rfl
 | _ :: _,_,⟨a,c,vs',h1,h2,h3⟩=>by rw [h1,length_cons,length_cons,AllC.len h3]
theorem RowsAt.keep {a:OA} {n:Nat} {A:List (List Nm)} (h:RowsAt S w a n A) (hs:∀ k,S k→k < w.heap.size→S' k∧w'.heap[k]? = w.heap[k]?) (hz:w.heap.size≤w'.heap.size):RowsAt S' w' a n A:=by
 obtain ⟨h1,vs,h2,h3⟩:=h;exact ⟨h1,vs,h2.keep hs hz,h3.keep hs hz⟩
theorem RowsAt.get {a:OA} {n:Nat} {A:List (List Nm)} (h:RowsAt S w a n A) {i:Nat} {o:List Nm} (hi:A[i]? = some o) :
  ∃ q a' c',(∀ K:Addr→Prop,K q→idx a n (i:Int) 1 K)∧w.cell? q=some (lV a' o.length c')∧RowAt Sh.encStr S w a' o.length o:=by
 obtain ⟨h1,vs,h2,h3⟩:=h;obtain ⟨a',c',e1,e2⟩:=h3.get hi;rcases h2 with h2 | ⟨b,o',rfl,hS,hb,hc⟩
 ·rw [h2] at e1;simp at e1
 ·refine ⟨⟨b,o' + i,none⟩,a',c',fun K hK=>⟨by omega,?_,?_⟩,hc _ _ e1,e2⟩
  ·have:=(List.getElem?_eq_some_iff.1 hi).1
   omega
  ·show K _;rw [qd,Int.toNat_natCast,Nat.mul_one];exact hK
end
theorem q66 {w:World} {B:Nat} {e:TypeId} {size:Nat} {a:OA} {n c:Nat} {xs:LV} (h:Owns w B e size a n c xs):At (bk a) w a xs:=by
 by_cases hn:n=0
 ·left
  have:=h.len
  rw [hn,Nat.zero_mul] at this;exact List.eq_nil_of_length_eq_zero this
 ·obtain ⟨g,rfl,hg,hc⟩:=h.cell (by omega);exact .inr ⟨g,0,rfl,rfl,(h.bk rfl).2,fun j v hj=>by rw [Nat.zero_add];exact hc j v hj⟩
section
variable {R:EP} {w:World}
theorem free_spec {S:NP} {b5 b43 b41 m:Nat} {oa:OA} {on oc:Nat} {f2:Nm→Option Bool} (A:List (List Nm)) (tk:List Nm) (s:Nm) (hA:∀ own∈A,own.length≤1000000∧∀ x∈own,x.length≤4611686018427387904) (hn:on≤1000000)
  (B5:Blk w b5 [lV oa on oc] 96) (hR:RowsAt S w oa on A) (B43:Blk w b43 [.map (some b41)] 95) (hM:MapT prog 9 eS eB w b41 m f2) (hf2:∀ s,(f2 s).getD false=decide (s∈tk)) (h:R (.returned (bV (freeB A tk s))) w) :
  Calls prog qid ⟨[sV s,.pointer (some ⟨b5,0,none⟩),.pointer (some ⟨b43,0,none⟩)]⟩ w R:=by
 apply qul;have hln:=hR.1;refine dr_ok ⟨_,_,_,by show _=_;rw [B5.cell];rfl,?_⟩;refine ⟨fun i W m=>∃ k:Nat,i=k∧k≤on∧m=on - k∧(A.take k).all (okO tk s)=true∧W=w,⟨_,0,rfl,by omega,rfl,rfl,rfl⟩,?_⟩;rintro _ W m ⟨k,rfl,hk,rfl,hz,rfl⟩ _;refine qb (fun hlt=>?_) (fun hge=>?_)
 ·have hkl:k < A.length:=by omega
  have hAk:=hA A[k] (getElem_mem hkl);obtain ⟨q,a',c',hq,c0,hrow⟩:=hR.get (show A[k]? = some A[k] by simp [hkl]);have htk:A.take (k + 1)=A.take k++[A[k]]:=take_succ_eq_append_getElem hkl;have hno:okO tk s A[k]=false→freeB A tk s=false:=fun hh=>by
   unfold freeB;rw [List.all_eq_false];exact ⟨_,getElem_mem hkl,by rw [hh];simp⟩
  have hyes:okO tk s A[k]=true→∃ m',m' < on - k∧∃ k':Nat,i64.wrap ((k:Int) + 1)=k'∧k'≤on∧m'=on - k'∧(A.take k').all (okO tk s)=true∧W=W:=fun hh=>by
   refine ⟨on - (k + 1),by omega,k + 1,by rw [qj (by omega)],by omega,rfl,?_,rfl⟩;rw [htk,List.all_append,hz,List.all_cons,hh];rfl
  generalize A[k]=own at *;refine hq _ ⟨_,_,_,c0,?_⟩;refine ⟨fun i W2 m=>∃ j:Nat,i=j∧j≤own.length∧m=own.length - j∧s∉own.take j∧(s∈own→∀ o∈own.take j,o∈tk)∧W2=W,⟨_,0,rfl,by omega,rfl,by simp,by simp,rfl⟩,?_⟩;rintro _ W2 m ⟨j,rfl,hj,rfl,hsn,hall,rfl⟩ _;refine qb (fun hlt2=>?_) (fun hge2=>?_)
  ·have hjl:j < own.length:=by omega
   obtain ⟨q2,hq2,d0⟩:=qb0 hrow hjl;have htj:own.take (j + 1)=own.take j++[own[j]]:=take_succ_eq_append_getElem hjl;have hol:=hAk.2 own[j] (getElem_mem hjl);refine hq2 _ ⟨_,d0,qb (fun g=>?_) (fun g=>dr_ok ⟨_,by show _=_;rw [B43.cell];rfl,(f2 own[j]).getD false,?_,?_⟩)⟩
   ·have hm:s∈own:=by rw [← g];exact getElem_mem hjl
    exact hyes (okO_at hjl g hsn (hall hm))
   ·have hlk:=hM.look kd9 (t:=95) (e:=4) (by kernel_rfl) (z:=bV false) (qxu (by kernel_rfl) W2) (keyS hol);cases hv:f2 own[j] with
    | none=>rw [hv] at hlk;exact hlk
    | some v=>rw [hv] at hlk;exact hlk
   have hsn1:s∉own.take (j + 1):=by
    rw [htj,mem_append,not_or];exact ⟨hsn,by simpa using fun hh=>g hh.symm⟩
   rw [hf2];refine qk (fun g2=>?_) (fun g2=>?_)
   ·have g2:own[j]∉tk:=by simpa using g2
    refine qnw s hrow (by omega) ⟨_,rfl,qb (fun g3=>?_) (fun g3=>?_)⟩
    ·rw [hno (okO_bad hjl g3 hsn1 g2)] at h;exact h
    ·exact ⟨own.length - (j + 1),by omega,j + 1,by rw [qj (by omega)],by omega,rfl,hsn1,fun hm=>absurd hm g3,rfl⟩
   ·have g2:own[j]∈tk:=by simpa using g2
    refine ⟨own.length - (j + 1),by omega,j + 1,by rw [qj (by omega)],by omega,rfl,hsn1,fun hm o ho=>?_,rfl⟩;rw [htj,mem_append,mem_singleton] at ho;rcases ho with ho | rfl
    ·exact hall hm o ho
    ·exact g2
  ·rw [take_of_length_le (by omega)] at hsn;exact hyes (okO_past hsn)
 ·rw [take_of_length_le (by omega)] at hz;unfold freeB at h;rw [hz] at h;exact h
theorem next_spec {S:NP} {b5 b43 b46 b41 m:Nat} {oa:OA} {on oc:Nat} {f2:Nm→Option Bool} (A:List (List Nm)) (tk:List Nm) (hA:∀ own∈A,own.length≤1000000∧∀ x∈own,x.length≤4611686018427387904) (hn:on≤1000000)
  (B5:Blk w b5 [lV oa on oc] 96) (hR:RowsAt S w oa on A) (B43:Blk w b43 [.map (some b41)] 95) (hM:MapT prog 9 eS eB w b41 m f2) (hf2:∀ s,(f2 s).getD false=decide (s∈tk))
  (B46:Blk w b46 [.func (.func 63) ⟨[]⟩ ⟨[.pointer (some ⟨b5,0,none⟩),.pointer (some ⟨b43,0,none⟩)]⟩] 98) (h:R (.returned (.tuple ⟨[sV ((nextS A tk).getD []),bV (nextS A tk).isSome]⟩)) w) :
  Calls prog qic ⟨[.pointer (some ⟨b5,0,none⟩),.pointer (some ⟨b43,0,none⟩),.pointer (some ⟨b46,0,none⟩)]⟩ w R:=by
 apply quk;have hln:=hR.1;refine dr_ok ⟨_,_,_,by show _=_;rw [B5.cell];rfl,?_⟩;refine ⟨fun i W m=>∃ k:Nat,i=k∧k≤on∧m=on - k∧(A.take k).flatten.find? (canB A tk)=none∧W=w,⟨_,0,rfl,by omega,rfl,rfl,rfl⟩,?_⟩;rintro _ W m ⟨k,rfl,hk,rfl,hz,rfl⟩ _;refine qb (fun hlt=>?_) (fun hge=>?_)
 ·have hkl:k < A.length:=by omega
  have hAk:=hA A[k] (getElem_mem hkl);obtain ⟨q,a',c',hq,c0,hrow⟩:=hR.get (show A[k]? = some A[k] by simp [hkl]);have htk:A.take (k + 1)=A.take k++[A[k]]:=take_succ_eq_append_getElem hkl;have hfl:A.flatten=(A.take k).flatten++(A[k]++(A.drop (k + 1)).flatten):=by
   conv=>lhs;rw [← take_append_drop k A,drop_eq_getElem_cons hkl]
   rw [List.flatten_append,List.flatten_cons]
  generalize A[k]=own at *;refine hq _ ⟨_,_,_,c0,?_⟩;refine ⟨fun i W2 m=>∃ j:Nat,i=j∧j≤own.length∧m=own.length - j∧((A.take k).flatten++own.take j).find? (canB A tk)=none∧W2=W,⟨_,0,rfl,by omega,rfl,by simpa using hz,rfl⟩,?_⟩;rintro _ W2 m ⟨j,rfl,hj,rfl,hfn,rfl⟩ _;refine qb (fun hlt2=>?_) (fun hge2=>?_)
  ·have hjl:j < own.length:=by omega
   obtain ⟨q2,hq2,d0⟩:=qb0 hrow hjl;have htj:own.take (j + 1)=own.take j++[own[j]]:=take_succ_eq_append_getElem hjl;have hol:=hAk.2 own[j] (getElem_mem hjl);have hdj:own=own.take j++own[j] :: own.drop (j + 1):=by
    conv=>lhs;rw [← take_append_drop j own,drop_eq_getElem_cons hjl]
   have go:canB A tk own[j]=false→∃ m',m' < own.length - j∧∃ j':Nat,i64.wrap ((j:Int) + 1)=j'∧j'≤own.length∧m'=own.length - j'∧((A.take k).flatten++own.take j').find? (canB A tk)=none∧W2=W2:=fun hh=>by
    refine ⟨own.length - (j + 1),by omega,j + 1,by rw [qj (by omega)],by omega,rfl,?_,rfl⟩;rw [htj,← append_assoc,List.find?_append,hfn,List.find?_cons,hh];rfl
   refine hq2 _ ⟨_,d0,dr_ok ⟨_,by show _=_;rw [B43.cell];rfl,(f2 own[j]).getD false,?_,?_⟩⟩
   ·have hlk:=hM.look kd9 (t:=95) (e:=4) (by kernel_rfl) (z:=bV false) (qxu (by kernel_rfl) W2) (keyS hol);cases hv:f2 own[j] with
    | none=>rw [hv] at hlk;exact hlk
    | some v=>rw [hv] at hlk;exact hlk
   rw [hf2];refine qk (fun g2=>?_) (fun g2=>go ?_)
   ·have g2:own[j]∉tk:=by simpa using g2
    refine dr_ok ⟨.func 63,⟨[]⟩,⟨[.pointer (some ⟨b5,0,none⟩),.pointer (some ⟨b43,0,none⟩)]⟩,by show _=_;rw [B46.cell];rfl,by kernel_rfl,?_⟩;refine free_spec A tk own[j] hA hn B5 hR B43 hM hf2 ⟨_,rfl,qk (fun g3=>?_) (fun g3=>go ?_)⟩
    ·have hc:canB A tk own[j]=true:=by unfold canB;rw [decide_eq_false g2,g3];rfl
     have:nextS A tk=some own[j]:=by
      unfold nextS;rw [hfl]
      conv=>lhs;arg 2;rw [hdj]
      rw [append_assoc,cons_append,← append_assoc];exact find_pre _ hfn hc
     rw [this] at h;exact h
    ·unfold canB;rw [g3,Bool.and_false]
   ·have g2:own[j]∈tk:=by simpa using g2
    unfold canB;rw [decide_eq_true g2];rfl
  ·rw [show own.take j=own from take_of_length_le (by omega)] at hfn;refine ⟨on - (k + 1),by omega,k + 1,by rw [qj (by omega)],by omega,rfl,?_,rfl⟩;rw [htk,List.flatten_append,List.flatten_cons,List.flatten_nil,append_nil];exact hfn
 ·rw [take_of_length_le (by omega)] at hz;unfold nextS at h;rw [hz] at h;exact h
end
def ordE (L:List Wt):Int:=if chkW L≠0 then chkW L else if 64 < (ddL L).length then 4 else if (ordG (secL L) (ddL L).length []).isSome=true then 0 else 15
def ordR (L:List Wt):List Nm:=if ordE L=0 then (ordG (secL L) (ddL L).length []).getD [] else []
theorem qy6 (L:List Wt) (x:Wt):secL (L++[x])=secL L++[secs x.2]:=by unfold secL;rw [map_append];rfl
theorem ddL_snoc (L:List Wt) (x:Wt):ddL (L++[x])=ddS (ddL L) (secs x.2):=by
 unfold ddL;rw [qy6,List.flatten_append,ddS_app];simp
theorem qfi {x:Wt} (h:witE x=0):(secs x.2).length≤4096∧∀ s∈secs x.2,s.length≤16:=by
 have h1:=qqo x.2;have h2:=x.2.len_le_size;have h3:=qfh h;refine ⟨by omega,fun s hs=>?_⟩;have:=q5d (qmh (qhm h)) s hs
 unfold qaa at this;simp only [Bool.and_eq_true,decide_eq_true_eq] at this;omega
theorem secL_bd {L:List Wt} (h:∀ x∈L,witE x=0):∀ own∈secL L,own.length≤1000000∧∀ x∈own,x.length≤4611686018427387904:=by
 intro own ho;unfold secL at ho;obtain ⟨x,hx,rfl⟩:=mem_map.1 ho;obtain ⟨h1,h2⟩:=qfi (h x hx);exact ⟨by omega,fun s hs=>by have:=h2 s hs;omega⟩
theorem ddL_bd {L:List Wt} (h:∀ x∈L,witE x=0):∀ s∈ddL L,s.length≤4611686018427387904:=by
 intro s hs;unfold ddL at hs;rw [mem_ddS] at hs;rcases hs with hs | hs
 ·cases hs
 ·obtain ⟨own,h1,h2⟩:=List.mem_flatten.1 hs;exact (secL_bd h own h1).2 s h2
theorem ordG_some:∀ {A:List (List Nm)} {m:Nat} {out res:List Nm},ordG A m out=some res→res.length=out.length + m
 | A,0,out,res,h=>by
  rw [ordG] at h;rw [← Option.some.inj h];rfl
 | A,m + 1,out,res,h=>by
  rw [ordG] at h;cases hn:nextS A out with
  | none=>rw [hn] at h;cases h
  | some s =>
   rw [hn] at h;have:=ordG_some h
   simp at this;omega
theorem slT_rows:SlT prog 96 31 1 24 (lV none 0 0):=⟨by kernel_rfl,by kernel_rfl,rfl,by decide⟩
section
variable {R:EP} {w:World}
theorem q5w {S:NP} {a:OA} {n c:Nat} (L:List Wt) (hs:∀ x∈L,small x.2) (hF:Forms w) (hR:SlW S w a n L)
  (h:∀ a' n' c' w',OwnL Sh.encStr w' w.heap.size 9 a' n' c' (ordR L)→Ext w w'→R (.returned (.tuple ⟨[lV a' n' c',iV (ordE L)]⟩)) w'):Calls prog qll ⟨[lV a n c]⟩ w R:=by
 apply q0i;have bad:∀ (e:Int) (v:World),Ext w v→ordE L=e→e≠0→R (.returned (.tuple ⟨[lV none 0 0,iV e]⟩)) v:=by
  intro e v ev he h0;have h1:ordR L=[]:=by unfold ordR;rw [if_neg (by omega)]
  rw [h1,he] at h;exact h none 0 0 v (Owns.nil _ _ _ _) ev
 refine q0f L hs hF hR fun w3 e3=>⟨_,rfl,qb (fun g=>bad _ w3 e3 (by unfold ordE;rw [if_pos g]) g) (fun g=>?_)⟩;have g0:chkW L=0:=Decidable.not_not.1 g;obtain ⟨hl32,hwit⟩:=qhy g0;have hln:=hR.1;have z3:=e3.size;refine qg fun b5 w6 hb5 B5 e6 s6=>qqy fun b7 w8 hb7 hm7 e8 s8=>?_;have E8:=qa e3 (qa e6 e8);have B58:=B5.ext e8;have M8:MapN prog 9 eS eB w8 b7 0 (fun _=>none):=MapN.of0 (hm7 _ _ _ _);refine ⟨fun i W m=>∃ (k:Nat) (oa:OA) (oc:Nat) (vs:LV) (f2:Nm→Option Bool),i=k∧k≤n∧m=n - k∧Blk W b5 [lV oa k oc] 96∧Owns W w8.heap.size 31 1 oa k oc vs∧AllC (fun j=>w8.heap.size≤j∧¬ bk oa j) W (secL (L.take k)) vs∧MapN prog 9 eS eB W b7 (ddL (L.take k)).length f2∧(∀ s,(f2 s).isSome=decide (s∈ddL (L.take k)))∧Ext w W∧w8.heap.size≤W.heap.size,
  ⟨_,0,none,0,[],fun _=>none,rfl,by omega,rfl,B58,Owns.nil _ _ _ _,rfl,M8,fun s=>by simp [ddL,secL,ddS],E8,Nat.le_refl _⟩,?_⟩
 rintro _ W m ⟨k,oa,oc,vs,f2,rfl,hk,rfl,C5,hO,hA,hM,hf2,he,z8⟩ _;have hbO:∀ j,bk oa j→w8.heap.size≤j∧j < W.heap.size:=fun j hj=>hO.bk hj;refine qb (fun hlt=>?_) (fun hge=>?_)
 ·have hkl:k < L.length:=by omega
  obtain ⟨q,a',c',hq,c0,c1,hf⟩:=(hR.ext he).get (show L[k]? = some L[k] by simp [hkl]);have hx:=hwit L[k] (getElem_mem hkl);have htk:L.take (k + 1)=L.take k++[L[k]]:=take_succ_eq_append_getElem hkl;have hsec:secL (L.take (k + 1))=secL (L.take k)++[secs L[k].2]:=by rw [htk,qy6]
  have hddl:ddL (L.take (k + 1))=ddS (ddL (L.take k)) (secs L[k].2):=by rw [htk,ddL_snoc]
  have hddlen:=qud (secL (L.take k)).flatten [];generalize L[k]=x at *;obtain ⟨hsl,hsn⟩:=qfi hx;have hsz:=qfh hx;refine hq _ ⟨_,c0,_,_,_,c1,?_⟩;refine qw rfl one2 fun b17 w19 hb17 B17 e19 s19=>?_;obtain ⟨y0,y1⟩:=blk2w B17;have E19:=qa he e19;refine ⟨_,_,_,y1,qt6 x.2 (by omega) (hf.ext e19) fun an nn nc w22 hN e22=>⟨_,_,_,rfl,?_⟩⟩;have e1922:=qa e19 e22;have E22:=qa he e1922;have hRow:=OwnL.out hN;have hnn:=hRow.1;subst hnn;have z19:=e19.size;have z22:=e22.size;have D5:=C5.ext e1922;refine ⟨_,_,_,by show _=_;rw [D5.cell];rfl,?_⟩;have hbN:∀ j,bk an j→w19.heap.size≤j∧j < w22.heap.size:=fun j hj=>hN.bk hj;refine qdp slT_rows (hO.ext e1922) (by omega) [.slice an (secs x.2).length nc] rfl (by intro u hu;simp only [mem_singleton] at hu;subst hu;rfl) (by omega) (by omega) fun a27 c27 w28 ho hc hn=>?_;have hA22:AllC (fun j=>w8.heap.size≤j∧¬ bk a27 j) w28 (secL (L.take k)) vs:=hA.keep (fun j hj hl=>⟨⟨hj.1,fun hh=>(hn j hh).elim hj.2 fun h=>by omega⟩,(hc.block j (by omega) hj.2).trans (e1922.block j hl)⟩) (by have:=hc.size;omega);have hR28:RowAt Sh.encStr (fun j=>w8.heap.size≤j∧¬ bk a27 j) w28 an (secs x.2).length (secs x.2):=hRow.keep (fun j hj hl=>⟨⟨by have:=hbN j hj;omega,fun hh=>(hn j hh).elim (fun h=>by have:=hbO j h;have:=hbN j hj;omega) fun h=>by omega⟩,hc.block j hl fun h=>by have:=hbO j h;have:=hbN j hj;omega⟩) hc.size;have hA28:=AllC.snoc (c:=nc) hR28 hA22;rw [← hsec] at hA28;have b5l:=B58.lt;have D528:=hc.blk D5 (fun hh=>by have:=hbO _ hh;omega);refine qr D528 rfl fun w29 q1 q2 q3=>?_;have hb27:∀ j,bk a27 j→w8.heap.size≤j:=fun j hj=>(ho.bk hj).1;have hO29:=ho.chg q2 (fun j hj hh=>by have:=hb27 j hj;omega);have hA29:AllC (fun j=>w8.heap.size≤j∧¬ bk a27 j) w29 (secL (L.take (k + 1))) (vs++[.slice an (secs x.2).length nc]):=hA28.keep (fun j hj hl=>⟨hj,q2.block j hl (by omega)⟩) (by omega);have hR29:RowAt Sh.encStr (fun j=>w8.heap.size≤j∧¬ bk a27 j) w29 an (secs x.2).length (secs x.2):=hR28.keep (fun j hj hl=>⟨hj,q2.block j hl (by omega)⟩) (by omega);have hM29:=(((hM.ext e1922).chg hc (fun hh=>by have:=hbO _ hh;have:=hM.toT.lt;omega)).chg q2 (by omega));have E29:Ext w w29:=qi (qi E22 hc fun j hj=>by have:=hbO j hj;have:=E8.size;omega) q2 fun j hj=>by omega
  have z28:=hc.size;have z29:w8.heap.size≤w29.heap.size:=by omega
  refine ⟨fun i W2 m=>∃ (t:Nat) (f3:Nm→Option Bool),i=t∧t≤(secs x.2).length∧m=(secs x.2).length - t∧MapN prog 9 eS eB W2 b7 (ddS (ddL (L.take k)) ((secs x.2).take t)).length f3∧(∀ s,(f3 s).isSome=decide (s∈ddS (ddL (L.take k)) ((secs x.2).take t)))∧Chg (fun j=>j=b7) w29 W2,
   ⟨_,0,f2,rfl,by omega,rfl,hM29,hf2,Chg.refl _ _⟩,?_⟩
  rintro _ W2 m ⟨t,f3,rfl,ht,rfl,M2,hf3,hc2⟩ _;have zW2:=hc2.size;have R2:=hR29.keep (S':=fun j=>w8.heap.size≤j∧¬ bk a27 j) (w':=W2) (fun j hj hl=>⟨hj,hc2.block j hl (by omega)⟩) zW2;refine qb (fun hlt2=>?_) (fun hge2=>?_)
  ·have htl:t < (secs x.2).length:=by omega
   obtain ⟨q,hq,d0⟩:=qb0 R2 htl;have htt:(secs x.2).take (t + 1)=(secs x.2).take t++[(secs x.2)[t]]:=take_succ_eq_append_getElem htl;have hyl:=hsn _ (getElem_mem htl);have hdl2:=qud ((secs x.2).take t) (ddL (L.take k));have hdl3:(ddL (L.take k)).length≤4096 * 32:=by
    have h1:∀ L':List Wt,(∀ x∈L',witE x=0)→(ddL L').length≤4096 * L'.length:=by
     intro L' hL';unfold ddL;have h2:=qud (secL L').flatten [];have h3:(secL L').flatten.length≤4096 * L'.length:=by
      clear h2
      induction L' with
      | nil=>simp [secL]
      | cons y l ih =>
       have h4:=ih fun z hz=>hL' z (List.mem_cons_of_mem _ hz);have h5:=(qfi (hL' y (List.mem_cons_self))).1;have h6:secL (y :: l)=secs y.2 :: secL l:=rfl;rw [h6,List.flatten_cons,length_append,length_cons];omega
     rw [length_nil,Nat.zero_add] at h2;omega
    have:=h1 (L.take k) fun z hz=>hwit z (List.mem_of_mem_take hz)
    rw [length_take] at this;omega
   rw [length_take] at hdl2;refine hq _ ⟨_,d0,?_⟩;have sn:=ddS_snoc (ddL (L.take k)) ((secs x.2).take t) (secs x.2)[t];rw [← htt] at sn;generalize (secs x.2)[t]=y at *;refine MapN.update (eV:=eB) (v:=true) M2 kd9 (t:=95) (e:=4) (by kernel_rfl) (by simp only [maxLen];omega) (keyS (by omega)) (fun z hz=>by simpa using hz) fun w37 g37 M37 hc37 hv37 ho37=>?_;rw [hf3] at M37;refine ⟨(secs x.2).length - (t + 1),by omega,t + 1,g37,by rw [qj (by omega)],by omega,rfl,?_,fun s=>?_,hc2.trans hc37⟩
   ·rw [sn];by_cases hy:y∈ddS (ddL (L.take k)) ((secs x.2).take t)
    ·rw [if_pos hy];rw [decide_eq_true hy,if_pos rfl] at M37;exact M37
    ·rw [if_neg hy,length_append];rw [decide_eq_false hy,if_neg (by decide)] at M37;exact M37
   ·by_cases hsy:s=y
    ·rw [hsy,hv37,sn];by_cases hy:y∈ddS (ddL (L.take k)) ((secs x.2).take t)
     ·rw [if_pos hy,decide_eq_true hy];rfl
     ·rw [if_neg hy];simp
    ·rw [ho37 s hsy,hf3,sn];by_cases hy:y∈ddS (ddL (L.take k)) ((secs x.2).take t)
     ·rw [if_pos hy]
     ·rw [if_neg hy];simp [hsy]
  ·have:t=(secs x.2).length:=by omega
   subst this;rw [show (secs x.2).take (secs x.2).length=secs x.2 from take_of_length_le (by omega),← hddl] at M2 hf3;refine ⟨n - (k + 1),by omega,k + 1,a27,c27,vs++[.slice an (secs x.2).length nc],f3,by rw [qj (by omega)],by omega,rfl,hc2.blk q1 (by omega),hO29.chg hc2 (fun j hj hh=>by have:=hb27 j hj;omega),hA29.keep (fun j hj hl=>⟨hj,hc2.block j hl (by omega)⟩) zW2,M2,hf3,qi E29 hc2 fun j hj=>by have:=e3.size;have:=e6.size;omega,by omega⟩
 ·have hkn:k=L.length:=by omega
  rw [take_of_length_le (by omega)] at hA hM hf2;have hordE:ordE L=if 64 < (ddL L).length then 4 else if (ordG (secL L) (ddL L).length []).isSome=true then 0 else 15:=by unfold ordE;rw [if_neg g]
  have z6:=e6.size;refine hM.len (qb (fun g64=>bad 4 W he (by rw [hordE,if_pos (by omega)]) (by decide)) (fun g64=>?_));rw [if_neg (by omega)] at hordE;refine qqy fun b41 w42 hb41 hm41 e42 s42=>?_;refine qg fun b43 w44 hb43 B43 e44 s44=>qr B43 rfl fun w45 q1 q2 q3=>?_;refine qg fun b46 w47 hb46 B46 e47 s47=>qr B46 rfl fun w48 r1 r2 r3=>?_;have e4245:Ext w42 w45:=qi e44 q2 fun j hj=>by omega
  have e4548:Ext w45 w48:=qi e47 r2 fun j hj=>by omega
  have eW48:Ext W w48:=qa e42 (qa e4245 e4548);have zW:=eW48.size;have F5:=C5.ext eW48;have F43:=q1.ext e4548;have M48:MapT prog 9 eS eB w48 b41 0 (fun _=>none):=((hm41 _ _ _ _).ext e4245).ext e4548;have hRows:RowsAt (fun j=>w8.heap.size≤j) w48 oa k (secL L):=by
   refine ⟨by unfold secL;rw [length_map];exact hkn,vs,((q66 hO).keep (S':=fun j=>w8.heap.size≤j) (w':=w48) (fun j hj hl=>⟨(hbO j hj).1,eW48.block j hl⟩) zW),hA.keep (fun j hj hl=>⟨hj.1,eW48.block j hl⟩) zW⟩
  have hRl:RowsAt (fun j=>w8.heap.size≤j∧j < W.heap.size) w48 oa k (secL L):=by
   refine ⟨by unfold secL;rw [length_map];exact hkn,vs,((q66 hO).keep (w':=w48) (fun j hj hl=>⟨hbO j hj,eW48.block j hl⟩) zW),?_⟩;have:=hA.keep (S':=fun j=>w8.heap.size≤j∧j < W.heap.size) (w':=w48) (fun j hj hl=>⟨⟨hj.1,hl⟩,eW48.block j hl⟩) zW
   exact this
  have M48d:=hM.ext eW48;have hbd:=secL_bd hwit;have hdbd:=ddL_bd hwit;refine ⟨fun ob obn obc W2 m=>∃ (out:List Nm) (f4:Nm→Option Bool),out.length≤(ddL L).length∧m=(ddL L).length - out.length∧ordG (secL L) m out=ordG (secL L) (ddL L).length []∧OwnL Sh.encStr W2 w48.heap.size 9 ob obn obc out∧MapT prog 9 eS eB W2 b41 out.length f4∧(∀ s,(f4 s).getD false=decide (s∈out))∧Chg (fun j=>j=b41) w48 W2,
   ⟨_,[],fun _=>none,Nat.zero_le _,rfl,rfl,Owns.nil _ _ _ _,M48,fun s=>by simp,Chg.refl _ _⟩,?_⟩
  rintro ob obn obc W2 m ⟨out,f4,hol,rfl,hog,pO,pM,hf4,pc⟩ _;have pon:=OwnL.length pO;have zW2:=pc.size;have md:=M48d.chg pc (by have:=hM.toT.lt;omega);have E48:Ext w w48:=qa he eW48;have EW2:Ext w W2:=qi E48 pc fun j hj=>by have:=he.size;omega
  refine md.len (qb (fun hlt2=>?_) (fun hge2=>?_))
  ·have hm1:(ddL L).length - out.length=(ddL L).length - (out.length + 1) + 1:=by omega
   rw [hm1,ordG] at hog;have R2:=hRl.keep (S':=fun j=>w8.heap.size≤j∧j < W.heap.size) (w':=W2) (fun j hj hl=>⟨hj,pc.block j hl (by omega)⟩) zW2;have X43:=pc.blk F43 (by omega);refine ⟨by kernel_rfl,next_spec (secL L) out hbd (by omega) (pc.blk F5 (by have:=C5.lt;omega)) R2 X43 pM hf4 (pc.blk r1 (by omega)) ⟨_,_,rfl,?_⟩⟩;cases hns:nextS (secL L) out with
   | none =>
    rw [hns] at hog;refine bad 15 W2 EW2 ?_ (by decide);rw [hordE,← hog];rfl
   | some s =>
    rw [hns] at hog;obtain ⟨n1,n2,n3⟩:=nextS_mem hns;have hsl:s.length≤4611686018427387904:=hdbd s (by unfold ddL;rw [mem_ddS];exact .inr n1);refine ⟨_,by show _=_;rw [X43.cell];rfl,?_⟩;refine MapT.update (eV:=eB) (v:=true) pM kd9 (t:=95) (e:=4) (by kernel_rfl) (by simp only [maxLen];omega) (keyS hsl) (fun z hz=>by simpa using hz) fun w60 g60 M60 hc60 hv60 ho60=>?_;have hc60':Chg (fun j=>j=b41) W2 w60:=hc60;have pO60:OwnL Sh.encStr w60 w48.heap.size 9 ob obn obc out:=Owns.chg pO hc60' (fun j hj hh=>by have:=pO.bk hj;omega);refine OwnL.push (E:=Sh.encStr) qfx pO60 (by have:=hc60'.size;omega) s (by omega) (by omega) fun a63 c63 w64 ro rc rn=>?_;have nb:∀ j,bk ob j→w48.heap.size≤j:=fun j hj=>(pO.bk hj).1;refine ⟨(ddL L).length - (out.length + 1),by omega,out++[s],g60,by simp;omega,by simp,hog,ro,(M60.chg rc (fun hh=>by have:=nb _ hh;omega)).mono (by simp),fun t=>?_,?_⟩
    ·by_cases hts:t=s
     ·rw [hts,hv60];simp
     ·rw [ho60 t hts,hf4];simp [hts]
    ·refine ⟨rc.os.trans ((pc.trans hc60').os),rc.tape.trans ((pc.trans hc60').tape),rc.output.trans ((pc.trans hc60').output),Nat.le_trans (pc.trans hc60').size rc.size,fun j hj hn=>?_⟩;exact (rc.block j (Nat.lt_of_lt_of_le hj (pc.trans hc60').size) (fun hh=>by have:=nb _ hh;omega)).trans ((pc.trans hc60').block j hj hn)
  ·have hl0:(ddL L).length - out.length=0:=by omega
   rw [hl0,ordG] at hog;have h0:ordE L=0:=by rw [hordE,← hog];rfl
   have h1:ordR L=out:=by unfold ordR;rw [if_pos h0,← hog];rfl
   rw [h1,h0] at h;exact h ob obn obc W2 (Owns.weak pO (by have:=E48.size;omega)) EW2
end
section
variable {R:EP} {w:World}
theorem placeI_mem {L:List Nm} {s:Nm}:qgp L s < 0↔s∉L:=by
 unfold qgp;by_cases h:s∈L
 ·rw [if_pos h];constructor
  ·intro hh;omega
  ·intro hh;exact absurd h hh
 ·rw [if_neg h];constructor
  ·intro _;exact h
  ·intro _;decide
theorem free16_spec {S S2:NP} {a a2:OA} {n c n2 c2:Nat} (L:List Wt) (tk:List Nm) (s:Nm) (hw:∀ x∈L,witE x=0) (hl32:L.length≤32) (hR:SlW S w a n L) (hT:RowAt Sh.encStr S2 w a2 n2 tk) (hn2:n2≤1000000) (h:∀ w',Ext w w'→R (.returned (bV (freeB (secL L) tk s))) w') :
  Calls prog qvy ⟨[lV a n c,lV a2 n2 c2,sV s]⟩ w R:=by
 apply c_ref16_free;have hln:=hR.1;refine ⟨fun i W m=>∃ k:Nat,i=k∧k≤n∧m=n - k∧(secL (L.take k)).all (okO tk s)=true∧Ext w W,⟨_,0,rfl,by omega,rfl,rfl,bR⟩,?_⟩;rintro _ W m ⟨k,rfl,hk,rfl,hz,he⟩ _;refine qb (fun hlt=>?_) (fun hge=>?_)
 ·have hkl:k < L.length:=by omega
  obtain ⟨q,a',c',hq,c0,c1,hf⟩:=(hR.ext he).get (show L[k]? = some L[k] by simp [hkl]);have hx:=hw L[k] (getElem_mem hkl);have htk:secL (L.take (k + 1))=secL (L.take k)++[secs L[k].2]:=by rw [take_succ_eq_append_getElem hkl,qy6]
  have hno:okO tk s (secs L[k].2)=false→freeB (secL L) tk s=false:=fun hh=>by
   unfold freeB;rw [List.all_eq_false];exact ⟨_,mem_map.2 ⟨_,getElem_mem hkl,rfl⟩,by rw [hh];simp⟩
  have hyes:okO tk s (secs L[k].2)=true→∀ v,Ext w v→∃ m',m' < n - k∧∃ k':Nat,i64.wrap ((k:Int) + 1)=k'∧k'≤n∧m'=n - k'∧(secL (L.take k')).all (okO tk s)=true∧Ext w v:=fun hh v hv=>by
   refine ⟨n - (k + 1),by omega,k + 1,by rw [qj (by omega)],by omega,rfl,?_,hv⟩;rw [htk,List.all_append,hz,List.all_cons,hh];rfl
  generalize L[k]=x at *;obtain ⟨hsl,hsn⟩:=qfi hx;have hsz:=qfh hx;refine hq _ ⟨_,_,_,c1,qc7 x.2 (by omega) hf fun an nn nc w12 hN e12=>⟨_,_,_,rfl,?_⟩⟩;have hRow:=OwnL.out hN;have hnn:=hRow.1;have E12:=qa he e12;generalize secs x.2=own at *;refine qc6 own s hRow (by omega) ⟨_,rfl,?_⟩;refine ⟨fun i W2 m=>∃ j:Nat,i=j∧j≤own.length∧m=own.length - j∧s∉own.take j∧(∀ o∈own.take j,o∈tk)∧W2=w12,⟨_,0,rfl,by omega,rfl,by simp,by simp,rfl⟩,?_⟩;rintro _ W2 m ⟨j,rfl,hj,rfl,hsn2,hall,rfl⟩ _;refine qb (fun hlt2=>?_) (fun hge2=>?_)
  ·have hm:s∈own:=by
    apply Decidable.byContradiction;intro hh;have:=placeI_mem.2 hh
    omega
   have hpi:qgp own s=(own.idxOf s:Int):=by unfold qgp;rw [if_pos hm]
   rw [hpi] at hlt2;have hil:=List.idxOf_le_length (a:=s) (l:=own);have hjl:j < own.length:=by omega
   have htj:own.take (j + 1)=own.take j++[own[j]]:=take_succ_eq_append_getElem hjl;have hne:own[j]≠s:=fun hh=>by
    have:=idxw_at hjl hh hsn2
    omega
   have hs1:s∉own.take (j + 1):=by
    rw [htj,mem_append,not_or];exact ⟨hsn2,by simpa using hne.symm⟩
   obtain ⟨q2,hq2,d0⟩:=qb0 hRow hjl;refine hq2 _ ⟨_,d0,qc6 tk own[j] (hT.ext E12) (by omega) ⟨_,rfl,qb (fun g=>?_) (fun g=>?_)⟩⟩
   ·have:=h W2 E12
    rw [hno (okO_bad hjl hm hs1 (placeI_mem.1 g))] at this;exact this
   ·have g:own[j]∈tk:=by
     apply Decidable.byContradiction;exact fun hh=>g (placeI_mem.2 hh)
    refine ⟨own.length - (j + 1),by omega,j + 1,by rw [qj (by omega)],by omega,rfl,hs1,fun o ho=>?_,rfl⟩;rw [htj,mem_append,mem_singleton] at ho;rcases ho with ho | rfl
    ·exact hall o ho
    ·exact g
  ·refine hyes ?_ W2 E12;by_cases hm:s∈own
   ·have hpi:qgp own s=(own.idxOf s:Int):=by unfold qgp;rw [if_pos hm]
    rw [hpi] at hge2;have hil:=List.idxOf_lt_length_of_mem hm;unfold okO;rw [Bool.or_eq_true,all_eq_true]
    right
    intro o ho;refine decide_eq_true (hall o ?_);exact (List.take_subset_take_left own (by omega)) ho
   ·exact okO_past hm
 ·rw [take_of_length_le (by omega)] at hz;have:=h W he
  unfold freeB at this;rw [hz] at this;exact this
theorem Order16_spec {S:NP} {a:OA} {n c:Nat} (L:List Wt) (hs:∀ x∈L,x.2.size≤1000000) (hR:SlW S w a n L)
  (h:∀ a' n' c' w',OwnL Sh.encStr w' w.heap.size 9 a' n' c' (ordR L)→Ext w w'→R (.returned (.tuple ⟨[lV a' n' c',iV (ordE L)]⟩)) w'):Calls prog qsv ⟨[lV a n c]⟩ w R:=by
 apply q74;have bad:∀ (e:Int) (v:World),Ext w v→ordE L=e→e≠0→R (.returned (.tuple ⟨[lV none 0 0,iV e]⟩)) v:=by
  intro e v ev he h0;have h1:ordR L=[]:=by unfold ordR;rw [if_neg (by omega)]
  rw [h1,he] at h;exact h none 0 0 v (Owns.nil _ _ _ _) ev
 refine qrc L hs hR fun w3 e3=>⟨_,rfl,qb (fun g=>bad _ w3 e3 (by unfold ordE;rw [if_pos g]) g) (fun g=>?_)⟩;have g0:chkW L=0:=Decidable.not_not.1 g;obtain ⟨hl32,hwit⟩:=qhy g0;have hln:=hR.1;have z3:=e3.size;have hddb:∀ L':List Wt,(∀ x∈L',witE x=0)→(ddL L').length≤4096 * L'.length:=by
  intro L' hL';unfold ddL;have h2:=qud (secL L').flatten [];have h3:(secL L').flatten.length≤4096 * L'.length:=by
   clear h2
   induction L' with
   | nil=>simp [secL]
   | cons y l ih =>
    have h4:=ih fun z hz=>hL' z (List.mem_cons_of_mem _ hz);have h5:=(qfi (hL' y (List.mem_cons_self))).1;have h6:secL (y :: l)=secs y.2 :: secL l:=rfl;rw [h6,List.flatten_cons,length_append,length_cons];omega
  rw [length_nil,Nat.zero_add] at h2;omega
 refine qg fun b5 w6 hb5 B5 e6 s6=>?_;have E6:=qa e3 e6;refine ⟨fun oa on oc i W m=>∃ k:Nat,i=k∧k≤n∧m=n - k∧OwnL Sh.encStr W w.heap.size 9 oa on oc (ddL (L.take k))∧Ext w W,⟨_,0,rfl,by omega,rfl,Owns.made B5 (by omega),E6⟩,?_⟩;rintro oa on oc _ W m ⟨k,rfl,hk,rfl,hO,he⟩ _;have hon:=OwnL.length hO;have zW:=he.size;refine qb (fun hlt=>?_) (fun hge=>?_)
 ·have hkl:k < L.length:=by omega
  obtain ⟨q,a',c',hq,c0,c1,hf⟩:=(hR.ext he).get (show L[k]? = some L[k] by simp [hkl]);have hx:=hwit L[k] (getElem_mem hkl);have hddl:ddL (L.take (k + 1))=ddS (ddL (L.take k)) (secs L[k].2):=by rw [take_succ_eq_append_getElem hkl,ddL_snoc]
  have hdl3:=hddb (L.take k) fun z hz=>hwit z (List.mem_of_mem_take hz);rw [length_take] at hdl3;generalize L[k]=x at *;obtain ⟨hsl,hsn⟩:=qfi hx;have hsz:=qfh hx;refine hq _ ⟨_,_,_,c1,qc7 x.2 (by omega) hf fun an nn nc w16 hN e16=>⟨_,_,_,rfl,?_⟩⟩;have E16:=qa he e16;have hRow:=OwnL.out hN;have hnn:=hRow.1;have hbN:∀ j,bk an j→W.heap.size≤j∧j < w16.heap.size:=fun j hj=>hN.bk hj;have hbO:∀ j,bk oa j→j < W.heap.size:=fun j hj=>(hO.bk hj).2;refine ⟨fun ob obn obc i W2 m=>∃ t:Nat,i=t∧t≤nn∧m=nn - t∧OwnL Sh.encStr W2 w.heap.size 9 ob obn obc (ddS (ddL (L.take k)) ((secs x.2).take t))∧(∀ j,bk ob j→¬ bk an j)∧RowAt Sh.encStr (bk an) W2 an nn (secs x.2)∧Ext w W2∧w16.heap.size≤W2.heap.size,
   ⟨_,0,rfl,by omega,rfl,Owns.ext hO e16,fun j hj hh=>by have:=hbO j hj;have:=hbN j hh;omega,hRow,E16,Nat.le_refl _⟩,?_⟩
  rintro ob obn obc _ W2 m ⟨t,rfl,ht,rfl,pO,pD,pR,pE,pz⟩ _;have pon:=OwnL.length pO;have hdl2:=qud ((secs x.2).take t) (ddL (L.take k));rw [length_take] at hdl2;refine qb (fun hlt2=>?_) (fun hge2=>?_)
  ·have htl:t < (secs x.2).length:=by omega
   obtain ⟨q,hq,d0⟩:=qb0 pR htl;have htt:(secs x.2).take (t + 1)=(secs x.2).take t++[(secs x.2)[t]]:=take_succ_eq_append_getElem htl;have sn:=ddS_snoc (ddL (L.take k)) ((secs x.2).take t) (secs x.2)[t];rw [← htt] at sn;generalize (secs x.2)[t]=y at *;refine hq _ ⟨_,d0,qc6 _ y (OwnL.out pO) (by omega) ⟨_,rfl,qb (fun gm=>?_) (fun gm=>?_)⟩⟩
   ·have gm:=placeI_mem.1 gm;rw [if_neg gm] at sn;refine OwnL.push (E:=Sh.encStr) qfx pO (by have:=pE.size;omega) y (by omega) (by omega) fun a31 c31 w32 ro rc rn=>?_;refine ⟨nn - (t + 1),by omega,t + 1,by rw [qj (by omega)],by omega,rfl,by rw [sn];exact ro,fun j hj hh=>?_,pR.chg rc (fun j hj hh=>pD j hh hj),qi pE rc fun j hj=>(pO.bk hj).1,by have:=rc.size;omega⟩;rcases rn j hj with h1 | h1
    ·exact pD j h1 hh
    ·have:=hbN j hh;omega
   ·have gm:y∈ddS (ddL (L.take k)) ((secs x.2).take t):=by
     apply Decidable.byContradiction;exact fun hh=>gm (placeI_mem.2 hh)
    rw [if_pos gm] at sn;exact ⟨nn - (t + 1),by omega,t + 1,by rw [qj (by omega)],by omega,rfl,by rw [sn];exact pO,pD,pR,pE,pz⟩
  ·have:t=nn:=by omega
   subst this;rw [show (secs x.2).take t=secs x.2 from take_of_length_le (by omega),← hddl] at pO;exact ⟨n - (k + 1),by omega,k + 1,by rw [qj (by omega)],by omega,rfl,pO,pE⟩
 ·have hkn:k=L.length:=by omega
  rw [take_of_length_le (by omega)] at hO hon;have hordE:ordE L=if 64 < (ddL L).length then 4 else if (ordG (secL L) (ddL L).length []).isSome=true then 0 else 15:=by unfold ordE;rw [if_neg g]
  refine qb (fun g64=>bad 4 W he (by rw [hordE,if_pos (by omega)]) (by decide)) (fun g64=>?_);rw [if_neg (by omega)] at hordE;refine qg fun b36 w37 hb36 B36 e37 s37=>?_;have E37:=qa he e37;have hAll:RowAt Sh.encStr (fun j=>j < W.heap.size) w37 oa on (ddL L):=((OwnL.out (E:=Sh.encStr) hO).imp fun j hj hl=>hl).ext e37;refine ⟨fun ob obn obc W2 m=>∃ (out:List Nm),out.length≤(ddL L).length∧m=(ddL L).length - out.length∧ordG (secL L) m out=ordG (secL L) (ddL L).length []∧OwnL Sh.encStr W2 b36 9 ob obn obc out∧Ext w W2∧RowAt Sh.encStr (fun j=>j < W.heap.size) W2 oa on (ddL L)∧w37.heap.size≤W2.heap.size,
   ⟨_,[],Nat.zero_le _,rfl,rfl,Owns.made B36 (Nat.le_refl _),E37,hAll,Nat.le_refl _⟩,?_⟩
  rintro ob obn obc W2 m ⟨out,hol,rfl,hog,pO,pE,pR,pz⟩ _;have pon:=OwnL.length pO;have hfe:nextS (secL L) out=(ddL L).find? (canB (secL L) out):=by unfold nextS ddL;rw [ddS_find];rfl
  refine qb (fun hlt2=>?_) (fun hge2=>?_)
  ·have hm1:(ddL L).length - out.length=(ddL L).length - (out.length + 1) + 1:=by omega
   rw [hm1,ordG] at hog;refine ⟨fun nx i W3 m=>∃ j:Nat,i=(j:Int) - 1∧j≤(ddL L).length∧m=j∧((nx=-1∧∀ u (hu:u < (ddL L).length),j≤u→canB (secL L) out (ddL L)[u]=false)∨∃ t,nx=((t:Nat):Int)∧j≤t∧∃ ht:t < (ddL L).length,canB (secL L) out (ddL L)[t]=true∧∀ u (hu:u < (ddL L).length),j≤u→u < t→canB (secL L) out (ddL L)[u]=false)∧Ext W2 W3,
    ⟨_,(ddL L).length,by rw [qo (by omega)];omega,Nat.le_refl _,rfl,.inl ⟨rfl,fun u hu hj=>by omega⟩,bR⟩,?_⟩
   rintro nx _ W3 j ⟨_,rfl,hj,rfl,hnx,he3⟩ _;have E3:=qa pE he3;have pR3:=pR.ext he3;refine qb (fun hlt3=>?_) (fun hge3=>?_)
   ·obtain ⟨j',rfl⟩:∃ j',j=j' + 1:=⟨j - 1,by omega⟩;have hjl:j' < (ddL L).length:=by omega
    have ei:((j' + 1:Nat):Int) - 1=(j':Int):=by omega
    have ew:i64.wrap ((j':Int) - 1)=(j':Int) - 1:=qo (by omega);rw [ei,ew];have no:∀ v,Ext W2 v→canB (secL L) out (ddL L)[j']=false→∃ m60,m60 < j' + 1∧∃ j:Nat,(j':Int) - 1=(j:Int) - 1∧j≤(ddL L).length∧m60=j∧((nx=-1∧∀ u (hu:u < (ddL L).length),j≤u→canB (secL L) out (ddL L)[u]=false)∨∃ t,nx=((t:Nat):Int)∧j≤t∧∃ ht:t < (ddL L).length,canB (secL L) out (ddL L)[t]=true∧∀ u (hu:u < (ddL L).length),j≤u→u < t→canB (secL L) out (ddL L)[u]=false)∧Ext W2 v:=by
     intro v hv hc;have key:∀ u (hu:u < (ddL L).length),j'≤u→u < j' + 1→canB (secL L) out (ddL L)[u]=false:=fun u hu h1 h2=>by
      have:u=j':=by omega
      subst this;exact hc
     refine ⟨j',by omega,j',rfl,by omega,rfl,?_,hv⟩;rcases hnx with ⟨h1,h2⟩ | ⟨t,h1,h2,ht,h3,h4⟩
     ·refine .inl ⟨h1,fun u hu hju=>?_⟩;by_cases hh:u < j' + 1
      ·exact key u hu hju hh
      ·exact h2 u hu (by omega)
     ·refine .inr ⟨t,h1,by omega,ht,h3,fun u hu hju hut=>?_⟩;by_cases hh:u < j' + 1
      ·exact key u hu hju hh
      ·exact h4 u hu (by omega) hut
    obtain ⟨q,hq,d0⟩:=qb0 pR3 hjl;refine hq _ ⟨_,d0,qc6 out _ ((OwnL.out (E:=Sh.encStr) pO).ext he3) (by omega) ⟨_,rfl,qb (fun gm=>?_) (fun gm=>?_)⟩⟩
    ·have gm:=placeI_mem.1 gm;refine hq _ ⟨_,d0,free16_spec L out _ hwit hl32 (hR.ext E3) ((OwnL.out (E:=Sh.encStr) pO).ext he3) (by omega) fun w57 e57=>⟨_,rfl,qk (fun gf=>?_) (fun gf=>?_)⟩⟩
     ·refine ⟨j',by omega,j',rfl,by omega,rfl,.inr ⟨j',rfl,Nat.le_refl _,hjl,?_,fun u hu h1 h2=>by omega⟩,qa he3 e57⟩;unfold canB;rw [gf,decide_eq_false gm];rfl
     ·exact no w57 (qa he3 e57) (by unfold canB;rw [gf,Bool.and_false])
    ·have gm:(ddL L)[j']∈out:=by
      apply Decidable.byContradiction;exact fun hh=>gm (placeI_mem.2 hh)
     exact no W3 he3 (by unfold canB;rw [decide_eq_true gm];rfl)
   ·have hj0:j=0:=by omega
    subst hj0;rcases hnx with ⟨rfl,h2⟩ | ⟨t,rfl,_,ht,h3,h4⟩
    ·refine qb (fun _=>bad 15 W3 E3 ?_ (by decide)) (fun gg=>absurd (by decide) gg);have:nextS (secL L) out=none:=by
      rw [hfe,List.find?_eq_none];intro x hx;obtain ⟨u,hu,rfl⟩:=List.getElem_of_mem hx;rw [h2 u hu (Nat.zero_le _)];simp
     rw [this] at hog;rw [hordE,← hog];rfl
    ·refine qb (fun gg=>absurd gg (by omega)) (fun _=>?_);have hn3:nextS (secL L) out=some (ddL L)[t]:=by
      rw [hfe]
      conv=>lhs;arg 2;rw [← take_append_drop t (ddL L),drop_eq_getElem_cons ht]
      refine find_pre _ ?_ h3;rw [List.find?_eq_none];intro x hx;obtain ⟨u,hu,rfl⟩:=List.mem_take_iff_getElem.1 hx;rw [h4 u (by omega) (Nat.zero_le _) (by omega)];simp
     rw [hn3] at hog;obtain ⟨q,hq,d0⟩:=qb0 pR3 ht;refine hq _ ⟨_,d0,?_⟩;have z3':=he3.size;refine OwnL.push (E:=Sh.encStr) qfx (Owns.ext pO he3) (by omega) (ddL L)[t] (by omega) (by omega) fun a66 c66 w67 ro rc rn=>?_;have nb:∀ j,bk ob j→W.heap.size≤j:=fun j hj=>by have:=(pO.bk hj).1;omega
     refine ⟨(ddL L).length - (out.length + 1),by omega,out++[(ddL L)[t]],by simp;omega,by simp,hog,ro,qi E3 rc fun j hj=>by have:=nb j hj;omega,pR3.chg rc (fun j hj hh=>by have:=nb j hh;omega),by have:=rc.size;omega⟩
  ·have hl0:(ddL L).length - out.length=0:=by omega
   rw [hl0,ordG] at hog;have h0:ordE L=0:=by rw [hordE,← hog];rfl
   have h1:ordR L=out:=by unfold ordR;rw [if_pos h0,← hog];rfl
   rw [h1,h0] at h;exact h ob obn obc W2 (Owns.weak pO (by omega)) pE
end
section
variable {α:Type}
def AllE (E:Enc α) (S:NP) (w:World):List (List α)→LV→Prop
 | [],vs=>vs=[]
 | o :: A,vs=>∃ a c vs',vs=lV a o.length c :: vs'∧RowAt E S w a o.length o∧AllE E S w A vs'
variable {E:Enc α} {S S':NP} {w w':World}
theorem AllE.keep (hs:∀ k,S k→k < w.heap.size→S' k∧w'.heap[k]? = w.heap[k]?) (hz:w.heap.size≤w'.heap.size):∀ {A:List (List α)} {vs:LV},AllE E S w A vs→AllE E S' w' A vs
 | [],_,h=>h
 | _ :: _,_,⟨a,c,vs',h1,h2,h3⟩=>⟨a,c,vs',h1,h2.keep hs hz,AllE.keep hs hz h3⟩
theorem AllE.snoc {o:List α} {a:OA} {c:Nat} (ho:RowAt E S w a o.length o):∀ {A:List (List α)} {vs:LV},AllE E S w A vs→AllE E S w (A++[o]) (vs++[lV a o.length c])
 | [],vs,h=>by
  have h:vs=[]:=h;subst h;exact ⟨a,c,[],rfl,ho,rfl⟩
 | _ :: _,_,⟨a',c',vs',h1,h2,h3⟩=>⟨a',c',vs'++[lV a o.length c],by rw [h1];rfl,h2,AllE.snoc ho h3⟩
theorem AllE.get {o:List α}:∀ {A:List (List α)} {vs:LV} {i:Nat},AllE E S w A vs→A[i]? = some o→∃ a c,vs[i]? = some (lV a o.length c)∧RowAt E S w a o.length o
 | [],_,i,_,h=>by simp at h
 | y :: A,vs,0,⟨a,c,vs',h1,h2,h3⟩,h=>by
  simp only [List.getElem?_cons_zero,Option.some.injEq] at h;subst h;exact ⟨a,c,by rw [h1];rfl,h2⟩
 | y :: A,vs,i + 1,⟨a,c,vs',h1,h2,h3⟩,h=>by
  obtain ⟨a',c',e1,e2⟩:=AllE.get (i:=i) h3 (by simpa using h);exact ⟨a',c',by rw [h1];exact e1,e2⟩
def RowsE (E:Enc α) (S:NP) (w:World) (a:OA) (n:Nat) (A:List (List α)):Prop:=n=A.length∧∃ vs,At S w a vs∧AllE E S w A vs
theorem RowsE.keep {a:OA} {n:Nat} {A:List (List α)} (h:RowsE E S w a n A) (hs:∀ k,S k→k < w.heap.size→S' k∧w'.heap[k]? = w.heap[k]?) (hz:w.heap.size≤w'.heap.size):RowsE E S' w' a n A:=by
 obtain ⟨h1,vs,h2,h3⟩:=h;exact ⟨h1,vs,h2.keep hs hz,h3.keep hs hz⟩
theorem RowsE.ext {a:OA} {n:Nat} {A:List (List α)} (h:RowsE E S w a n A) (he:Ext w w'):RowsE E S w' a n A:=h.keep (fun k hk hl=>⟨hk,he.block k hl⟩) he.size
theorem RowsE.get {a:OA} {n:Nat} {A:List (List α)} (h:RowsE E S w a n A) {i:Nat} {o:List α} (hi:A[i]? = some o) :
  ∃ q a' c',(∀ K:Addr→Prop,K q→idx a n (i:Int) 1 K)∧w.cell? q=some (lV a' o.length c')∧RowAt E S w a' o.length o:=by
 obtain ⟨h1,vs,h2,h3⟩:=h;obtain ⟨a',c',e1,e2⟩:=h3.get hi;rcases h2 with h2 | ⟨b,o',rfl,hS,hb,hc⟩
 ·rw [h2] at e1;simp at e1
 ·refine ⟨⟨b,o' + i,none⟩,a',c',fun K hK=>⟨by omega,?_,?_⟩,hc _ _ e1,e2⟩
  ·have:=(List.getElem?_eq_some_iff.1 hi).1
   omega
  ·show K _;rw [qd,Int.toNat_natCast,Nat.mul_one];exact hK
end
def witOf (L:List Wt) (y:Src):Wt:=(L[y.2.1.toNat]?).getD ([],.nil)
def hasS (L:List Wt) (sec:Nm) (y:Src):Bool:=decide (sec∈secs (witOf L y).2)
def tkE1 (L:List Wt) (rs:List Rw) (sec:Nm) (y:Src):Int:=tksE (posS (stF (witOf L y).2 y.2.2) sec) (bodyS (stF (witOf L y).2 y.2.2) sec) rs
def tkR1 (L:List Wt) (rs:List Rw) (sec:Nm) (y:Src):List Tok:=tksR (posS (stF (witOf L y).2 y.2.2) sec) (bodyS (stF (witOf L y).2 y.2.2) sec) rs
def firE:List Int→Int
 | []=>0
 | e :: l=>if e≠0 then e else firE l
theorem q7r:∀ {l:List Int} (e:Int) (m:List Int),(∀ x∈l,x=0)→e≠0→firE (l++e :: m)=e
 | [],e,m,_,h=>by rw [nil_append,firE,if_pos h]
 | x :: l,e,m,hl,h=>by
  rw [cons_append,firE,if_neg (by rw [hl x (List.mem_cons_self)];simp),q7r e m (fun y hy=>hl y (List.mem_cons_of_mem _ hy)) h]
theorem qz6:∀ {l:List Int},(∀ x∈l,x=0)→firE l=0
 | [],_=>rfl
 | x :: l,hl=>by rw [firE,if_neg (by rw [hl x (List.mem_cons_self)];simp),qz6 fun y hy=>hl y (List.mem_cons_of_mem _ hy)]
def selS (L:List Wt) (sec:Nm):List Src:=(allS L 0).filter (hasS L sec)
def tokWE (L:List Wt) (rs:List Rw) (sec:Nm):Int:=if srcE L≠0 then srcE L else if selS L sec=[] then 6 else firE ((selS L sec).map (tkE1 L rs sec))
def tokWS (L:List Wt) (rs:List Rw) (sec:Nm):List Nm:=if tokWE L rs sec=0 then (selS L sec).map (·.1) else []
def tokWT (L:List Wt) (rs:List Rw) (sec:Nm):List (List Tok):=if tokWE L rs sec=0 then (selS L sec).map (tkR1 L rs sec) else []
theorem qp2 {L:List Wt} (h:srcE L=0):chkW L=0∧(allS L 0).length≤32∧((allS L 0).map (·.1)).Nodup:=by
 unfold srcE at h;split at h
 ·rename_i h1;exact absurd h h1
 rename_i h1;split at h
 ·rename_i h2;split at h
  ·cases h
  ·rename_i h3;exact ⟨Decidable.not_not.1 h1,by omega,h2⟩
 ·cases h
theorem qp1 {L:List Wt} {y:Src} (h:y∈allS L 0):∃ k:Nat,y.2.1=(k:Int)∧L[k]? = some (witOf L y)∧0≤y.2.2∧y.2.2≤8:=by
 obtain ⟨k,x,h1,h2⟩:=q89 h;rw [Nat.zero_add] at h2;have hw:y.2.1=(k:Int)∧0≤y.2.2∧y.2.2≤8:=by
  unfold qd7 at h2;split at h2
  ·rw [mem_singleton] at h2;subst h2;exact ⟨rfl,by show (0:Int)≤0;decide,by show (0:Int)≤8;decide⟩
  ·rw [mem_cons,mem_map] at h2;rcases h2 with rfl | ⟨j,hj,rfl⟩
   ·exact ⟨rfl,by show (0:Int)≤0;decide,by show (0:Int)≤8;decide⟩
   ·have:=q7m hj
    exact ⟨rfl,by show 0≤j;omega,by show j≤8;omega⟩
 refine ⟨k,hw.1,?_,hw.2⟩;unfold witOf;rw [hw.1,Int.toNat_natCast,h1];rfl
theorem slT_tkr:SlT prog 36 40 1 24 (lV none 0 0):=⟨by kernel_rfl,by kernel_rfl,rfl,by decide⟩
section
variable {R:EP} {w:World}
theorem qvt {S S2:NP} {a a2:OA} {n c n2 c2:Nat} (L:List Wt) (rs:List Rw) (sec:Nm) (hs:∀ x∈L,small x.2) (hF:Forms w) (hR:SlW S w a n L) (hsm:qfw rs) (hRu:RowAt encRw S2 w a2 n2 rs)
  (h:∀ a' n' c' a'' n'' c'' w',RowAt Sh.encStr (fun k=>w.heap.size≤k) w' a' n' (tokWS L rs sec)→RowsE encTk (fun k=>w.heap.size≤k) w' a'' n'' (tokWT L rs sec)→Ext w w'→R (.returned (.tuple ⟨[lV a' n' c',lV a'' n'' c'',iV (tokWE L rs sec)]⟩)) w') :
  Calls prog qjj ⟨[lV a n c,lV a2 n2 c2,sV sec]⟩ w R:=by
 apply qw3;have bad:∀ (e:Int) (v:World),Ext w v→tokWE L rs sec=e→e≠0→R (.returned (.tuple ⟨[lV none 0 0,lV none 0 0,iV e]⟩)) v:=by
  intro e v ev he h0;have h1:tokWS L rs sec=[]:=by unfold tokWS;rw [if_neg (by omega)]
  have h2:tokWT L rs sec=[]:=by unfold tokWT;rw [if_neg (by omega)]
  rw [h1,h2,he] at h;exact h none 0 0 none 0 0 v (RowAt.nil _) ⟨rfl,[],.inl rfl,rfl⟩ ev
 refine qlh L hs hF hR fun xa xn xc w5 hX e5=>⟨_,_,_,_,rfl,qb (fun g=>bad _ w5 e5 (by unfold tokWE;rw [if_pos g]) g) (fun g=>?_)⟩;have g0:srcE L=0:=Decidable.not_not.1 g;obtain ⟨gc,gl,gn⟩:=qp2 g0;obtain ⟨hl32,hwit⟩:=qhy gc;have hsr:srcR L=allS L 0:=by unfold srcR;rw [if_pos g0]
 rw [hsr] at hX;have hXR:=(OwnL.out (E:=encSr) hX);have hxn:=hXR.1;have z5:=e5.size;have hlx:∀ j,bk xa j→j < w5.heap.size:=fun j hj=>(hX.bk hj).2;have htE:tokWE L rs sec=if selS L sec=[] then 6 else firE ((selS L sec).map (tkE1 L rs sec)):=by unfold tokWE;rw [if_neg g]
 refine ⟨fun sa sn sc ta tn tc i W m=>∃ (k:Nat) (vs:LV),i=k∧k≤xn∧m=xn - k∧OwnL Sh.encStr W w5.heap.size 9 sa sn sc ((((allS L 0).take k).filter (hasS L sec)).map (·.1))∧Owns W w5.heap.size 40 1 ta tn tc vs∧tn=sn ∧
   AllE encTk (fun j=>w5.heap.size≤j∧¬ bk sa j∧¬ bk ta j) W ((((allS L 0).take k).filter (hasS L sec)).map (tkR1 L rs sec)) vs∧(∀ j,bk sa j→¬ bk ta j)∧(∀ y∈((allS L 0).take k).filter (hasS L sec),tkE1 L rs sec y=0)∧Ext w5 W,
  ⟨_,0,[],rfl,by omega,rfl,Owns.nil _ _ _ _,Owns.nil _ _ _ _,rfl,rfl,fun j hj=>by simp [bk] at hj,fun y hy=>by simp at hy,bR⟩,?_⟩
 rintro sa sn sc ta tn tc _ W m ⟨k,vs,rfl,hk,rfl,pS,pT,rfl,pA,pD,pE,he5⟩ _;have he:=qa e5 he5;have zW:=he5.size;have psl:=OwnL.length pS;have pfl:(((allS L 0).take k).filter (hasS L sec)).length≤k:=by
  refine Nat.le_trans (List.length_filter_le _ _) ?_;rw [length_take];omega
 rw [length_map] at psl;refine qb (fun hlt=>?_) (fun hge=>?_)
 ·have hkl:k < (allS L 0).length:=by omega
  obtain ⟨q,hq,c0,c1,c2⟩:=qfv (hXR.ext he5) (show (allS L 0)[k]? = some (allS L 0)[k] by simp [hkl]);have htk:(allS L 0).take (k + 1)=(allS L 0).take k++[(allS L 0)[k]]:=take_succ_eq_append_getElem hkl;have hdk:allS L 0=(allS L 0).take k++(allS L 0)[k] :: (allS L 0).drop (k + 1):=by
   conv=>lhs;rw [← take_append_drop k (allS L 0),drop_eq_getElem_cons hkl]
  obtain ⟨wi,y1,y2,y3,y4⟩:=qp1 (getElem_mem hkl);generalize (allS L 0)[k]=y at *;have hx:=hwit (witOf L y) (List.mem_of_getElem? y2);have hsx:=hs (witOf L y) (List.mem_of_getElem? y2);have hxz:=qfh hx;refine hq _ ⟨_,c0,_,c1,_,c2,?_⟩;refine qw rfl (by intro u hu;simp only [mem_cons,not_mem_nil,or_false] at hu;rcases hu with rfl | rfl | rfl <;> rfl) fun b19 w21 hb19 B19 e21 s21=>?_;have cl:∀ {v:World} (_:Ext w21 v),v.cell? ((⟨b19,0,none⟩:Addr).add 0)=some (sV y.1)∧v.cell? ((⟨b19,0,none⟩:Addr).add 1)=some (iV y.2.1)∧v.cell? ((⟨b19,0,none⟩:Addr).add 2)=some (iV y.2.2):=fun hv=>by
   simp only [qd,(B19.ext hv).cell];exact ⟨rfl,rfl,rfl⟩
  obtain ⟨d0,d1,d2⟩:=cl bR;have E21:=qa he e21;have E521:=qa he5 e21;have rdW:∀ {v:World},Ext w v→∃ q a' c',(∀ K:Addr→Prop,K q→idx a n y.2.1 2 K)∧v.cell? (q.add 0)=some (sV ((witOf L y).1))∧v.cell? (q.add 1)=some (.slice a' (witOf L y).2.len c')∧SlF S v a' (witOf L y).2.len (witOf L y).2:=fun hv=>by
   rw [y1];exact (hR.ext hv).get y2
  obtain ⟨q3,a3,c3,hq3,f0,f1,hf3⟩:=rdW E21;refine ⟨_,d1,hq3 _ ⟨_,_,_,f1,qt6 _ (by omega) hf3 fun an nn nc w26 hN e26=>⟨_,_,_,rfl,?_⟩⟩⟩;have hNR:=OwnL.out hN;have hnn:=hNR.1;have hsl:=(qfi hx).1;refine qnw sec hNR (by omega) ⟨_,rfl,?_⟩;have e2126:=qa e21 e26;have E26:=qa he e2126;have E526:=qa he5 e2126;have z26:=e2126.size;refine qk (fun gs=>?_) (fun gs=>?_)
  ·have gs:sec∉secs (witOf L y).2:=by simpa using gs
   have hfil:((allS L 0).take (k + 1)).filter (hasS L sec)=((allS L 0).take k).filter (hasS L sec):=by
    rw [htk,filter_append,List.filter_cons,if_neg (by unfold hasS;simpa using gs)];simp
   exact ⟨xn - (k + 1),by omega,k + 1,vs,by rw [qj (by omega)],by omega,rfl,by rw [hfil];exact Owns.ext pS e2126,Owns.ext pT e2126,rfl,by rw [hfil];exact pA.keep (fun j hj hl=>⟨hj,e2126.block j hl⟩) z26,pD,by rw [hfil];exact pE,E526⟩
  have gs:sec∈secs (witOf L y).2:=by simpa using gs
  have hfil:((allS L 0).take (k + 1)).filter (hasS L sec)=((allS L 0).take k).filter (hasS L sec)++[y]:=by
   rw [htk,filter_append,List.filter_cons,if_pos (by unfold hasS;simpa using gs)];simp
  have hpe:parE (witOf L y) sec y.2.2=0:=by unfold parE;rw [if_neg (by rw [hx];simp),if_neg (by omega),if_pos gs]
  have hpR:parR (witOf L y) sec y.2.2=bodyS (stF (witOf L y).2 y.2.2) sec:=by unfold parR;rw [if_pos hpe]
  have hpP:parP (witOf L y) sec y.2.2=posS (stF (witOf L y).2 y.2.2) sec:=by unfold parP;rw [if_pos hpe]
  have hselne:selS L sec≠[]:=by
   unfold selS;rw [hdk,filter_append,List.filter_cons,if_pos (by unfold hasS;simpa using gs)];simp
  have hst:=st_size (witOf L y).2 y.2.2;have hbs:(bodyS (stF (witOf L y).2 y.2.2) sec).size≤(stF (witOf L y).2 y.2.2).size:=by
   unfold bodyS;cases hc:cutS (stF (witOf L y).2 y.2.2) sec with
   | none=>simp [Fo.size]
   | some q =>
    obtain ⟨p,r⟩:=q;obtain ⟨m,ps,h6,_⟩:=qx5 hc;have h7:=congrArg Fo.size h6;have h8:=congrArg Fo.size (qe2 r);rw [Fo.size_app] at h7 h8;have h9:(Fo.cons 4 sec m ps r).size=ps.size + r.size + 1:=rfl;show (bodyF r).size≤_;omega
  intro K32 hK32;have k32:∀ na nn nc b v,Ext w26 v→Blk v b [.string ⟨⟨(parP (witOf L y) sec y.2.2).1⟩⟩,iV (parP (witOf L y) sec y.2.2).2] 51→SlF (fun _=>True) v na nn (parR (witOf L y) sec y.2.2)→K32 na nn nc (some ⟨b,0,none⟩) (parE (witOf L y) sec y.2.2) v:=by
   intro na nn nc b v ev hB hP;refine hK32 na nn nc _ _ v fun _=>qb (fun gg=>absurd hpe gg) (fun _=>?_);rw [hpP] at hB;rw [hpR] at hP;obtain ⟨k0,k1⟩:=blk2w hB;have Ev:=qa E26 ev;refine dr_ok ⟨_,k0,_,k1,?_⟩;refine Tokens_spec (posS (stF (witOf L y).2 y.2.2) sec) _ rs (by unfold small;omega) (hF.ext Ev) hP hsm (hRu.ext Ev) fun ka kn kc w41 hkn hK e41=>⟨_,_,_,_,rfl,qb (fun gg=>?_) (fun gg=>?_)⟩
   ·refine bad _ w41 (qa Ev e41) ?_ gg;rw [htE,if_neg hselne];unfold selS
    conv=>lhs;arg 1;arg 2;arg 2;rw [hdk]
    rw [filter_append,List.filter_cons,if_pos (by unfold hasS;simpa using gs),map_append,List.map_cons];refine q7r _ _ (fun e he=>?_) gg;obtain ⟨y',hy',rfl⟩:=mem_map.1 he;exact pE y' hy'
   ·have gg0:tkE1 L rs sec y=0:=Decidable.not_not.1 gg;have ev41:Ext w21 w41:=qa e26 (qa ev e41);have eW41:Ext W w41:=qa e21 ev41;have E41:=qa he5 eW41;have z41:=eW41.size;refine ⟨_,(cl ev41).1,?_⟩;have qS:=Owns.ext pS eW41;have qT:=Owns.ext pT eW41;have hbS:∀ j,bk sa j→w5.heap.size≤j∧j < W.heap.size:=fun j hj=>pS.bk hj;have hbT:∀ j,bk ta j→w5.heap.size≤j∧j < W.heap.size:=fun j hj=>pT.bk hj;have hbK:∀ j,bk ka j→w26.heap.size≤j∧j < w41.heap.size:=fun j hj=>⟨by have:=(hK.bk hj).1;have:=ev.size;omega,(hK.bk hj).2⟩;refine OwnL.push (E:=Sh.encStr) qfx qS (by omega) y.1 (by omega) (by omega) fun a47 c47 w48 ro rc rn=>?_;have z48:=rc.size;have qT48:=qT.chg rc (fun j hj hh=>pD j hh hj);refine qdp slT_tkr qT48 (by omega) [lV ka kn kc] rfl (by intro u hu;simp only [mem_singleton] at hu;subst hu;rfl) (by omega) (by omega) fun a51 c51 w52 so sc sn=>?_;have z52:=sc.size;have hne:∀ j,bk a47 j→¬ bk ta j:=fun j hj hh=>by
     rcases rn j hj with h1 | h1
     ·exact pD j h1 hh
     ·have:=hbT j hh;omega
    have hall:∀ j,w5.heap.size≤j→j < w41.heap.size→¬ bk sa j→¬ bk ta j→(w5.heap.size≤j∧¬ bk a47 j∧¬ bk a51 j)∧w52.heap[j]? = w41.heap[j]?:=fun j h1 h2 h3 h4 =>
     ⟨⟨h1,fun hh=>(rn j hh).elim h3 fun h=>by omega,fun hh=>(sn j hh).elim h4 fun h=>by omega⟩,(sc.block j (by omega) h4).trans (rc.block j h2 h3)⟩
    have hA52:=pA.keep (S':=fun j=>w5.heap.size≤j∧¬ bk a47 j∧¬ bk a51 j) (w':=w52) (fun j hj hl=>⟨(hall j hj.1 (by omega) hj.2.1 hj.2.2).1,(hall j hj.1 (by omega) hj.2.1 hj.2.2).2.trans (eW41.block j hl)⟩) (by omega);have hK52:RowAt encTk (fun j=>w5.heap.size≤j∧¬ bk a47 j∧¬ bk a51 j) w52 ka kn (tkR1 L rs sec y):=(OwnL.out (E:=encTk) hK).keep (fun j hj hl=>hall j (by have:=hbK j hj;omega) hl (fun hh=>by have:=hbS j hh;have:=hbK j hj;omega) (fun hh=>by have:=hbT j hh;have:=hbK j hj;omega)) (by omega);have hkn':kn=(tkR1 L rs sec y).length:=hkn;rw [hkn'] at hK52 so;have hA:=AllE.snoc (c:=kc) hK52 hA52;refine ⟨xn - (k + 1),by omega,k + 1,_,by show _=_;rw [qj (by omega)],by omega,rfl,?_,so,rfl,?_,fun j hj hh=>?_,?_,?_⟩
    ·rw [hfil,map_append];exact Owns.chg ro sc (fun j hj hh=>hne j hj hh)
    ·rw [hfil,map_append];exact hA
    ·rcases sn j hh with h1 | h1
     ·exact hne j hj h1
     ·have:=(ro.bk hj).2;omega
    ·rw [hfil];intro y' hy';rcases mem_append.1 hy' with h1 | h1
     ·exact pE y' h1
     ·rw [mem_singleton.1 h1];exact gg0
    ·exact qi (qi E41 rc fun j hj=>(hbS j hj).1) sc fun j hj=>(hbT j hj).1
  unfold drw;have ed:=qn w26;have edw:=qa E26 ed;have e21d:=qa e26 ed;obtain ⟨_,t1,t2⟩:=cl e21d;obtain ⟨q4,a4,c4,hq4,u0,u1,hf4⟩:=rdW edw;generalize w26.drew=wd at *;refine ⟨_,t1,hq4 _ ⟨_,u0,_,_,_,u1,_,t2,?_,?_,trivial⟩⟩
  ·refine Part_spec (witOf L y) sec y.2.2 hsx (hF.ext edw) hf4 fun na nn nc w61 hP e61=>⟨_,_,_,_,_,_,rfl,?_⟩;refine And.intro ?_ trivial;refine qg fun b66 w67 hb66 B66 e67 s67=>?_;refine And.intro ?_ trivial;refine stPos B66 fun w68 r1 r2 r3=>?_;have hz:b66=w61.heap.size:=hb66;refine k32 na nn nc b66 w68 (qa ed (qa e61 (qi e67 r2 fun j hj=>by omega))) r1 ?_;have hP':=(hP.imp (S':=fun j=>j < w61.heap.size) fun j hj hl=>hl).ext e67;exact (hP'.chg r2 fun j hj hh=>by omega).imp fun j hj _=>trivial
  ·refine qg fun b69 w70 hb69 B69 e70 s70=>?_;have E70:=qa edw e70;refine And.intro ?_ trivial;have hf70:=hf4.ext e70;refine Part_spec (S:=fun j=>S j∧j < wd.heap.size) (witOf L y) sec y.2.2 hsx (hF.ext E70) ((hf4.imp fun j hj hl=>⟨hj,hl⟩).ext e70) fun na nn nc w72 hP e72=>⟨_,_,_,_,_,_,rfl,?_⟩;refine And.intro ?_ trivial;refine stPos (B69.ext e72) fun w77 r1 r2 r3=>?_;refine k32 na nn nc b69 w77 (qa ed (qi (qa e70 e72) r2 fun j hj=>by omega)) r1 ?_;exact (hP.chg r2 fun j hj hh=>by have:=B69.lt;rcases hj with hj | hj <;> omega).imp fun j hj _=>trivial
 ·have hkn:k=(allS L 0).length:=by omega
  have htake:(allS L 0).take k=allS L 0:=take_of_length_le (by omega);rw [htake] at pS pA pE psl;have hsel:selS L sec=(allS L 0).filter (hasS L sec):=rfl;refine qb (fun g3=>?_) (fun g3=>?_)
  ·have hn0:selS L sec=[]:=List.eq_nil_of_length_eq_zero (by rw [hsel];omega);exact bad 6 W he (by rw [htE,if_pos hn0]) (by decide)
  ·have hn0:selS L sec≠[]:=fun hh=>g3 (by rw [hsel] at hh;rw [hh] at psl;simp at psl;omega);have h0:tokWE L rs sec=0:=by
    rw [htE,if_neg hn0];refine qz6 fun e he=>?_;obtain ⟨y',hy',rfl⟩:=mem_map.1 he;exact pE y' hy'
   have h1:tokWS L rs sec=(selS L sec).map (·.1):=by unfold tokWS;rw [if_pos h0]
   have h2:tokWT L rs sec=(selS L sec).map (tkR1 L rs sec):=by unfold tokWT;rw [if_pos h0]
   rw [h1,h2,h0] at h;refine h sa tn sc ta tn tc W ((OwnL.out (E:=Sh.encStr) pS).imp fun j hj hl=>by have:=(pS.bk hj).1;omega) ⟨?_,vs,(q66 pT).keep (fun j hj hl=>⟨by have:=(pT.bk hj).1;omega,rfl⟩) (Nat.le_refl _),pA.keep (fun j hj hl=>⟨by have:=hj.1;omega,rfl⟩) (Nat.le_refl _)⟩ he;rw [length_map,hsel];omega
end
end Go.Proofs