/- A part of the proof. -/
import Derived.Test.YtkecgnlelgdndaaGreatDoorLawE
import Derived.Laws.IdiomStrings
import Derived.Lib.Fields
import Derived.Lib.Join
set_option linter.all false
set_option maxRecDepth 40000
namespace Go.Proofs
open Go Go.Sh Go.RowKit Go.Proofs.Tryz IntKind List
def FnRow (w:World) (B b n t:Nat) (f:Nat→Int):Prop:=∃ L:List Int,OwnL Sh.encI w B 3 (some ⟨b,0,none⟩) n n L∧∀ j,j < t→L[j]? = some (f j)
theorem FnRow.chg {S:NP} {w w':World} {B b n t:Nat} {f:Nat→Int} (h:FnRow w B b n t f) (hc:Chg S w w') (hS:¬ S b):FnRow w' B b n t f:=by
 obtain ⟨L,h1,h2⟩:=h;exact ⟨L,h1.chg hc fun k hk hs=>hS (by simp [bk] at hk;subst hk;exact hs),h2⟩
theorem FnRow.any {w:World} {B b n t:Nat} {f g:Nat→Int} (h:FnRow w B b n t f):FnRow w B b n 0 g:=by
 obtain ⟨L,h1,h2⟩:=h;exact ⟨L,h1,fun j hj=>by omega⟩
def slV (m:Nat) (r:Nat):Value:=lV (some ⟨r,0,none⟩) m m
def Mt (w:World) (B bd n m:Nat) (c:Nat→Nat) (t:Nat) (D:Nat→Nat→Int):Prop :=
 ∃ rs:List Nat,rs.length=t∧t≤n∧rs.Nodup∧Blk w bd (rs.map (slV m)++List.replicate (n - t) (lV none 0 0)) 74∧B≤bd∧∀ (i r:Nat),rs[i]? = some r→r≠bd∧r < w.heap.size∧FnRow w B r m (c i) (D i)
section
variable {w w':World} {B bd n m t:Nat} {c:Nat→Nat} {D:Nat→Nat→Int}
theorem Mt.row (h:Mt w B bd n m c t D) {i:Nat} (hi:i < t) :
  ∃ r,(∀ K:Addr→Prop,(∀ p,w.cell? p=some (lV (some ⟨r,0,none⟩) m m)→K p)→idx (some ⟨bd,0,none⟩) n (i:Int) 1 K)∧FnRow w B r m (c i) (D i) ∧
   ∀ (w':World) (k:Nat),FnRow w' B r m k (D i)→Chg (fun j=>j=r) w w'→Mt w' B bd n m (fun j=>if j=i then k else c j) t D:=by
 obtain ⟨rs,h1,h2,h3,h4,h5,h6⟩:=h;have hr:rs[i]? = some rs[i]:=List.getElem?_eq_getElem (by omega);obtain ⟨g1,g1',g2⟩:=h6 i _ hr;refine ⟨rs[i],fun K hK=>⟨by omega,by omega,?_⟩,g2,fun w' k hk hc=>?_⟩
 ·refine dr_ok (hK _ ?_);show _=_;rw [qd,h4.cell,List.getElem?_append_left (by simp;omega)];simp [slV]
 ·have:=hc.size
  refine ⟨rs,h1,h2,h3,hc.blk h4 (fun e=>g1 e.symm),h5,fun j r hj=>⟨(h6 j r hj).1,by have:=(h6 j r hj).2.1;omega,?_⟩⟩;by_cases hji:j=i
  ·subst hji;dsimp only;rw [if_pos rfl];rw [hr] at hj;cases hj;exact hk
  ·dsimp only;rw [if_neg hji];refine (h6 j r hj).2.2.chg hc fun e=>hji ?_;have hjl:=(List.getElem?_eq_some_iff.1 hj).1;have:rs[j]=rs[i]:=by have:=(List.getElem?_eq_some_iff.1 hj).2;rw [this,e]
   rcases Nat.lt_trichotomy j i with hlt | he' | hlt
   ·exact absurd this (List.pairwise_iff_getElem.1 h3 j i hjl (by omega) hlt)
   ·exact he'
   ·exact absurd this.symm (List.pairwise_iff_getElem.1 h3 i j (by omega) hjl hlt)
end
theorem qla {w:World} {B:Nat} {a:OA} {n c:Nat} {l:LU} {K:LU→Prop} (h:Owns w B 5 1 a n c (Lib.byteCells l)) (hK:K l):b2s prog w a n c K:=by
 have hl:l.length=n:=by have:=h.1;simpa [Lib.byteCells] using this
 refine ⟨l,?_,hK⟩;by_cases hn:0 < n
 ·obtain ⟨g,rfl,_,hc⟩:=h.cell hn;have:=run_convert_bytes_back (P:=prog) w 114 9 5 ⟨g,0,none⟩ c l (by kernel_rfl) (by kernel_rfl) (by kernel_rfl) (fun j hj=>by rw [qd,Nat.zero_add];exact hc j _ (by simp [Lib.byteCells,hj]))
  rw [run_convert_bytes_string w 114 9 5 _ _ _ (by kernel_rfl) (by kernel_rfl) (by kernel_rfl),hl] at this;exact this
 ·have hl0:l=[]:=List.eq_nil_of_length_eq_zero (by omega);subst hl0;obtain rfl:n=0:=by omega
  cases a with
  | none=>simp [Conv.bytesToString];rfl
  | some p =>
   have:=run_convert_bytes_back (P:=prog) w 114 9 5 p c [] (by kernel_rfl) (by kernel_rfl) (by kernel_rfl) (fun j hj=>by simp at hj)
   rw [run_convert_bytes_string w 114 9 5 _ _ _ (by kernel_rfl) (by kernel_rfl) (by kernel_rfl)] at this;exact this
theorem bit_or1 {g:Int} (h0:0≤g) (h1:g≤31) (u:Bool):bitO .i64 g (if u=true then 1 else 0)=orU g u:=by
 have key:∀ n:Fin 32,bitO .i64 (n.val:Int) 1=orU (n.val:Int) true∧bitO .i64 (n.val:Int) 0=orU (n.val:Int) false:=by decide +kernel
 have:=key ⟨g.toNat,by omega⟩
 have e:((g.toNat:Nat):Int)=g:=by omega
 simp only [e] at this;cases u
 ·exact this.2
 ·exact this.1
theorem st_word (u j v:Bool):stFl (if u=true then 1 else 0) j v=flI u j v 0:=by cases u <;> cases j <;> cases v <;> decide
theorem st_mark (u j v:Bool):stFl (bitO .i64 (if u=true then 1 else 0) 8) j v=flI u j v 8:=by cases u <;> cases j <;> cases v <;> decide
theorem st_gap (u j v:Bool):stFl (if u=true then bitO .i64 2 1 else 2) j v=flI u j v 2:=by cases u <;> cases j <;> cases v <;> decide
def lstB (st:Bs):List Tok:=match st.cur with
 | none=>st.out
 | some (t,_)=>st.out++[t]
def wrdB (st:Bs):LU:=match st.cur with
 | none=>[]
 | some (_,s)=>s
structure StOk (st:Bs):Prop where
 cur:∀ t s,st.cur=some (t,s)→s≠[]∧t.t=[]∧0≤t.g∧t.g≤31
 j:st.j=true→lstB st≠[]
def BsSt (w:World) (b:Nat) (st:Bs) (O:NP):Prop :=
 ∃ oa wa p oc wc,BsAt w b oa wa (lstB st) (wrdB st) st.cur.isSome st.j st.v p oc wc∧(∀ k,O k↔k=b∨bk oa k∨bk wa k)
section
variable {w w':World} {b:Nat} {st:Bs} {O:NP} {R:EP}
theorem BsSt.chg {S:NP} (h:BsSt w b st O) (hc:Chg S w w') (hS:∀ k,O k→¬ S k):BsSt w' b st O:=by
 obtain ⟨oa,wa,p,oc,wc,h1,h2⟩:=h;exact ⟨oa,wa,p,oc,wc,h1.chg hc (hS _ ((h2 _).2 (.inl rfl))) (fun k hk=>hS k ((h2 k).2 (.inr (.inl hk)))) (fun k hk=>hS k ((h2 k).2 (.inr (.inr hk)))),h2⟩
theorem BsSt.ext (h:BsSt w b st O) (hc:Ext w w'):BsSt w' b st O:=h.chg (S:=fun _=>False) (.of_ext hc) fun _ _ h=>h
theorem BsSt.own (h:BsSt w b st O) {k:Nat} (hk:O k):b≤k∧k < w.heap.size:=by
 obtain ⟨oa,wa,p,oc,wc,h1,h2⟩:=h;rcases (h2 k).1 hk with rfl | hk | hk
 ·exact ⟨Nat.le_refl _,h1.lt⟩
 ·have:=h1.bkO hk;omega
 ·have:=h1.bkW hk;omega
theorem qgm (st:Bs):(shut st).length=(lstB st).length:=by
 unfold shut lstB;cases st.cur with
 | none=>rfl
 | some p=>simp
theorem end_st (h:BsSt w b st O) (hs:StOk st) (hl:(lstB st).length≤1000000000)
  (hk:∀ oa oc w',BsAt w' b oa none (shut st) [] false st.j st.v (.pointer none) oc 0→(∀ k,k=b∨bk oa k→O k)→Chg O w w'→R (.returned (.tuple ⟨[]⟩)) w') :
  Calls prog qa5 ⟨[.pointer (some ⟨b,0,none⟩)]⟩ w R:=by
 obtain ⟨oa,wa,p,oc,wc,h1,h2⟩:=h;obtain ⟨out,cur,j,v⟩:=st;cases cur with
 | none =>
  refine q7u h1 fun w' q hc=>hk oa oc w' q (fun k hk=>(h2 k).2 (hk.imp id .inl)) (hc.mono fun k _ hk=>(h2 k).2 hk)
 | some ts =>
  obtain ⟨t,s⟩:=ts;have hl':out.length≤1000000000:=by simp [lstB] at hl;omega
  refine q7v (l:=out) (t:=t) (s:=s) h1 hl' (hs.cur t s rfl).1 fun w' q hc=>hk oa oc w' q (fun k hk=>(h2 k).2 (hk.imp id .inl)) (hc.mono fun k _ hk=>(h2 k).2 hk)
def AmE:Am→LV→Prop
 | .ch c p u nm,vs=>∃ n:Int,vs=[iV 1,.int .u8 (c.toNat:Int),iV n,sV p.1,iV p.2,bV u,sV nm]
 | .gap n p u nm,vs=>∃ c:Int,vs=[iV 6,.int .u8 c,iV n,sV p.1,iV p.2,bV u,sV nm]
 | .brk x,vs=>∃ (c n:Int) (p:Ps) (u:Bool) (nm:LU),vs=[iV (if x=true then 5 else 4),.int .u8 c,iV n,sV p.1,iV p.2,bV u,sV nm]
theorem qpz (c:UInt8) (h:R (.returned (bV (letB c))) w):Calls prog qg6 ⟨[.int .u8 (c.toNat:Int)]⟩ w R:=by
 apply qro;refine qcs c ⟨_,rfl,qb (fun g=>?_) (fun g=>?_)⟩
 ·rw [show letB c=true from (qcv c).2 (.inl g)] at h;exact h
 ·have:letB c=decide (kd c=3):=by
   rw [Bool.eq_iff_iff,qcv,decide_eq_true_eq];exact ⟨fun hh=>hh.resolve_left g,.inr⟩
  rw [this] at h;exact h
theorem q92 (c:UInt8) (h:R (.returned (bV (innC c))) w):Calls prog qig ⟨[.int .u8 (c.toNat:Int)]⟩ w R:=by
 apply quq;refine qcs c ⟨_,rfl,?_⟩;refine qpz c ⟨_,rfl,qk (fun g=>?_) (fun g=>qb (fun g2=>?_) (fun g2=>?_))⟩
 ·rw [q7i g] at h;exact h
 ·have:innC c=true:=by unfold innC;rw [g2];simp
  rw [this] at h;exact h
 ·have:innC c=decide (kd c=4):=by unfold innC;rw [g,decide_eq_false g2];simp
  rw [this] at h;exact h
theorem blk7 {w:World} {b:Nat} {v0 v1 v2 v3 v4 v5 v6:Value} {T:TypeId} (h:Blk w b [v0,v1,v2,v3,v4,v5,v6] T) :
  w.cell? ((⟨b,0,none⟩:Addr).add 0)=some v0∧w.cell? ((⟨b,0,none⟩:Addr).add 1)=some v1∧w.cell? ((⟨b,0,none⟩:Addr).add 2)=some v2∧w.cell? ((⟨b,0,none⟩:Addr).add 3)=some v3 ∧
  w.cell? ((⟨b,0,none⟩:Addr).add 4)=some v4∧w.cell? ((⟨b,0,none⟩:Addr).add 5)=some v5∧w.cell? ((⟨b,0,none⟩:Addr).add 6)=some v6:=by
 simp only [qd,h.cell];exact ⟨rfl,rfl,rfl,rfl,rfl,rfl,rfl⟩
theorem qry {w:World} {b:Nat} {c:UInt8} (h:Blk w b [.int .u8 (c.toNat:Int)] 5):Owns w b 5 1 (some ⟨b,0,none⟩) 1 1 (Lib.byteCells [c]) :=
 ⟨rfl,.inr ⟨b,1,#[.int .u8 (c.toNat:Int)],rfl,Nat.le_refl _,h,Nat.le_refl _,by simp [maxLen],rfl,rfl⟩⟩
theorem tkpart_spec (h:BsSt w b st O) (hs:StOk st) (hl:(lstB st).length≤999999999) (hw:(wrdB st).length≤1000000000) (c:UInt8) (x2 x4:Int) (q:Ps) (u:Bool) (nm:LU)
  (hk:∀ w' O',BsSt w' b (addB st (.ch c q u nm)) O'→Chg O w w'→(∀ k,O' k→O k∨w.heap.size≤k)→R (.returned (.tuple ⟨[]⟩)) w') :
  Calls prog qc9 ⟨[.pointer (some ⟨b,0,none⟩),.agg ⟨[iV x2,.int .u8 (c.toNat:Int),iV x4,sV q.1,iV q.2,bV u,sV nm]⟩]⟩ w R:=by
 apply qh0;refine qg fun b9 w10 hb9 B9 e10 s10=>?_;have h10:=h.ext e10;have nO:¬ O b9:=fun hh=>by have:=h.own hh;omega
 have lb:b < w.heap.size:=(h.own (by obtain ⟨_,_,_,_,_,_,h2⟩:=h;exact (h2 b).2 (.inl rfl))).2;have nb9:b9≠b:=by omega
 obtain ⟨_,_,_,_,_,a5,_⟩:=blk7 B9;intro K11 hK11;have k11:K11 (if u=true then 1 else 0) w10:=by
  refine hK11 _ _ fun _=>?_;obtain ⟨oa,wa,p,oc,wc,h1,h2⟩:=h10;have a1:w10.cell? ((⟨b9,0,none⟩:Addr).add 1)=some (.int .u8 (c.toNat:Int)):=(blk7 B9).2.1;intro K14 hK14
  -- within a word
  have kIn:st.cur.isSome=true→innC c=true→K14 true w10:=by
   intro hop hin;refine hK14 _ _ fun _=>?_;simp only [br_t];obtain ⟨out,cur,j,v⟩:=st;cases cur with
   | none=>cases hop
   | some ts =>
    obtain ⟨t,s⟩:=ts;obtain ⟨s1,s2,s3,s4⟩:=hs.cur t s rfl;have hl':out.length≤1000000000:=by simp [lstB] at hl;omega
    have h1':BsAt w10 b oa wa (out++[t]) s true j v p oc wc:=h1;refine qfu h1' (by omega) fun g w18 hg h18 e18=>⟨_,rfl,dr_ok ?_⟩;obtain ⟨l1,_,l3⟩:=h18.last hg;refine ⟨_,l1,dr_ok ?_⟩;rw [bit_or1 s3 s4];refine l3 _ _ fun w23 h23 c23=>?_;unfold drw;have ed:=qn w23;have h24:=h23.ext ed;have hc24:Chg O w w23.drew:=(((Chg.of_ext (qa e10 e18)).trans (c23.mono fun k _ hk=>(h2 k).2 (.inr (.inl hk)))).trans (.of_ext ed));have B24:=((B9.ext e18).keep (c23.block b9 (by have:=(B9.ext e18).lt;omega) fun hh=>nO ((h2 b9).2 (.inr (.inl hh))))).ext ed;generalize w23.drew=w24 at *;have z24:=hc24.size;refine dr_ok ⟨_,(blk7 B24).2.1,?_,trivial⟩;rw [qd];refine qlg h24 c (by simp [wrdB] at hw;omega) fun wa' wc' w28 h28 c28 n28=>⟨_,rfl,?_⟩;have ea:addB ⟨out,some (t,s),j,v⟩ (.ch c q u nm)=⟨out,some ({ t with g:=orU t.g u },s++[c]),j,v⟩:=by simp only [addB,hin]
    refine hk w28 (fun k=>k=b∨bk oa k∨bk wa' k) (by rw [ea];exact ⟨oa,wa',_,oc,wc',h28,fun k=>Iff.rfl⟩) (hc24.trans (c28.mono fun k _ hk=>(h2 k).2 (hk.imp id .inr))) fun k hk=>?_;rcases hk with rfl | hk | hk
    ·exact .inl ((h2 _).2 (.inl rfl))
    ·exact .inl ((h2 _).2 (.inr (.inl hk)))
    ·rcases n28 k hk with hh | hh
     ·exact .inl ((h2 _).2 (.inr (.inr hh)))
     ·exact .inr (by omega)
  -- elsewhere
  have kOut:(st.cur.isSome&&innC c)=false→K14 false w10:=by
   intro hno;refine hK14 _ _ fun _=>?_;simp only [br_f];have ea:addB st (.ch c q u nm)=if letB c=true then ⟨shut st,some (⟨[],[],q,flI u st.j st.v 0,nm⟩,[c]),true,false⟩ else if kd c=6 then ⟨shut st,none,false,st.v⟩ else ⟨shut st++[⟨[c],[],q,flI u st.j st.v 8,nm⟩],none,true,false⟩:=by
    obtain ⟨out,cur,j,v⟩:=st;cases cur with
    | none=>rfl
    | some ts =>
     have:innC c=false:=by simpa using hno
     simp only [addB,this]
   refine ⟨_,a1,qpz c ⟨_,rfl,qk (fun hlt=>?_) (fun hlt=>?_)⟩⟩
   ·
    have hnone:st.cur=none:=by
     cases hc:st.cur with
     | none=>rfl
     | some ts=>rw [hc,q7i hlt] at hno;cases hno
    obtain ⟨d0,d1,d2,d3,d4,d5,d6⟩:=blk7 B9;refine ⟨_,d0,_,d1,_,d2,_,d3,_,d4,_,d5,_,d6,?_⟩;have h1':BsAt w10 b oa wa (lstB st) [] false st.j st.v p oc wc:=by
     have e1:wrdB st=[]:=by unfold wrdB;rw [hnone]
     have e2:st.cur.isSome=false:=by rw [hnone];rfl
     rw [e1,e2] at h1;exact h1
    refine qj4 h1' (by omega) hs.j x2 _ x4 q u nm _ fun oa' oc' w42 h42 c42 n42=>⟨rfl,dr_ok ?_⟩;rw [st_word] at h42;refine h42.setOp true fun w44 h44 c44 s44=>?_;unfold drw;have ed:=qn w44;have h45:=h44.ext ed;have hc45:Chg (fun k=>k=b∨bk oa k) w10 w44.drew:=(c42.trans (c44.mono fun k _ hk=>.inl hk)).trans (.of_ext ed);have B45:=B9.keep (hc45.block b9 B9.lt fun hh=>hh.elim nb9 fun hh=>nO ((h2 b9).2 (.inr (.inl hh))));generalize w44.drew=w45 at *;have z45:=hc45.size;refine dr_ok ⟨_,(blk7 B45).2.1,?_,trivial⟩;rw [qd];refine qlg h45 c (by simp) fun wa' wc' w49 h49 c49 n49=>⟨_,rfl,?_⟩;have hsh:shut st=lstB st:=by unfold shut lstB;rw [hnone]
    refine hk w49 (fun k=>k=b∨bk oa' k∨bk wa' k) (by rw [ea,if_pos hlt,hsh];exact ⟨oa',wa',_,oc',wc',h49,fun k=>Iff.rfl⟩) ?_ fun k hk=>?_
    ·refine ((Chg.of_ext e10).trans (hc45.mono fun k _ hk=>(h2 k).2 (hk.imp id .inl))).trans (c49.mono fun k _ hk=>(h2 k).2 (hk.imp id .inr))
    ·rcases hk with rfl | hk | hk
     ·exact .inl ((h2 _).2 (.inl rfl))
     ·rcases n42 k hk with hh | hh
      ·exact .inl ((h2 _).2 (.inr (.inl hh)))
      ·exact .inr (by omega)
     ·rcases n49 k hk with hh | hh
      ·exact .inl ((h2 _).2 (.inr (.inr hh)))
      ·exact .inr (by omega)
   ·refine ⟨_,a1,qcs c ⟨_,rfl,qb (fun h6=>?_) (fun h6=>?_)⟩⟩
    ·refine end_st (O:=O) ⟨oa,wa,p,oc,wc,h1,h2⟩ hs (by omega) fun oa' oc' w56 h56 hO c56=>⟨rfl,dr_ok ?_⟩;refine h56.setJ false fun w58 h58 c58 s58=>?_;refine hk w58 (fun k=>k=b∨bk oa' k∨bk none k) (by rw [ea,if_neg (by rw [hlt];decide),if_pos h6];exact ⟨oa',none,_,oc',0,h58,fun k=>Iff.rfl⟩) (((Chg.of_ext e10).trans c56).trans (c58.mono fun k _ hk=>(h2 k).2 (.inl hk))) fun k hk=>.inl ?_;rcases hk with hk | hk | hk
     ·exact hO k (.inl hk)
     ·exact hO k (.inr hk)
     ·simp [bk] at hk
    ·refine end_st (O:=O) ⟨oa,wa,p,oc,wc,h1,h2⟩ hs (by omega) fun oa' oc' w60 h60 hO c60=>⟨rfl,?_⟩;have B60:=c60.blk B9 nO;obtain ⟨d0,d1,d2,d3,d4,d5,d6⟩:=blk7 B60;refine ⟨_,d0,_,d1,_,d2,_,d3,_,d4,_,d5,_,d6,?_⟩;have hjj:st.j=true→shut st≠[]:=fun hh e=>hs.j hh (List.eq_nil_of_length_eq_zero (by rw [← qgm,e];rfl));refine qj4 h60 (by rw [qgm];omega) hjj x2 _ x4 q u nm _ fun oa2 oc2 w69 h69 c69 n69=>⟨rfl,?_⟩;rw [st_mark] at h69;have hB69:=B60.keep (c69.block b9 B60.lt fun hh=>hh.elim nb9 fun hh=>nO (hO b9 (.inr hh)));unfold drw;have ed:=qn w69;have h70:=h69.ext ed;have B70:=hB69.ext ed;have hc70:Chg O w w69.drew:=(((Chg.of_ext e10).trans c60).trans (c69.mono fun k _ hk=>hO k hk)).trans (.of_ext ed);have n70:∀ k,bk oa2 k→O k∨w.heap.size≤k:=fun k hk=>(n69 k hk).imp (fun hh=>hO k (.inr hh)) fun hh=>by have:=c60.size;omega
     generalize w69.drew=w70 at *;have fin:∀ (v1:World) (g:Nat),oa2=some ⟨g,0,none⟩→BsAt v1 b oa2 none (shut st++[⟨[],[],q,flI u st.j st.v 8,nm⟩]) [] false true false (.pointer none) oc2 0→Ext w70 v1 →
       stL v1 ((⟨g,(shut st).length * 6,none⟩:Addr).add 0) 0 [sV ([c])] fun w79=>R (.returned (.tuple ⟨[]⟩)) w79:=by
      intro v1 g hg hv ev;refine (hv.last hg).2.1 [c] _ fun w' hw' cw'=>?_;refine hk w' (fun k=>k=b∨bk oa2 k∨bk none k) (by rw [ea,if_neg (by rw [hlt];decide),if_neg h6];exact ⟨oa2,none,_,oc2,0,hw',fun k=>Iff.rfl⟩) ?_ fun k hk=>?_
      ·exact qbd (hc70.trans (.of_ext ev)) cw' fun k hk hh=>by
        rcases n70 k hh with h' | h'
        ·exact h'
        ·omega
      ·rcases hk with hk | hk | hk
       ·exact .inl (hO k (.inl hk))
       ·exact n70 k hk
       ·simp [bk] at hk
     have lst:∀ v1,BsAt v1 b oa2 none (shut st++[⟨[],[],q,flI u st.j st.v 8,nm⟩]) [] false true false (.pointer none) oc2 0→∀ R':EP,(∀ g w',oa2=some ⟨g,0,none⟩→BsAt w' b oa2 none (shut st++[⟨[],[],q,flI u st.j st.v 8,nm⟩]) [] false true false (.pointer none) oc2 0→Ext v1 w'→R' (.returned (.pointer (some ⟨g,(shut st).length * 6,none⟩))) w') →
       Calls prog 131 ⟨[.pointer (some ⟨b,0,none⟩)]⟩ v1 R':=fun v1 hv R' hR=>qfu hv (by rw [qgm];omega) hR
     have byt:∀ v1 b75 (K:LU→Prop),Blk v1 b75 [.int .u8 (c.toNat:Int)] 5→K [c]→b2s prog v1 (some ⟨b75,0,none⟩) 1 1 K:=fun v1 b75 K hb hK=>qla (qry hb) hK;refine ⟨?_,⟨?_,⟨_,(blk7 B70).2.1,?_,?_,trivial⟩,trivial⟩,trivial⟩
     ·refine lst w70 h70 _ fun g w72 hg h72 e72=>⟨_,rfl,_,(blk7 (B70.ext e72)).2.1,?_,trivial⟩;refine qg fun b75 w76 hb75 B75 e76 s76=>⟨byt _ _ _ B75 (dr_ok ⟨fin w76 g hg (h72.ext e76) (qa e72 e76),trivial⟩),trivial⟩
     ·refine lst w70 h70 _ fun g w72 hg h72 e72=>⟨_,rfl,_,(blk7 (B70.ext e72)).2.1,?_,trivial⟩;refine qg fun b75 w76 hb75 B75 e76 s76=>⟨byt _ _ _ B75 (dr_ok ⟨fin w76 g hg (h72.ext e76) (qa e72 e76),trivial⟩),trivial⟩
     ·refine lst w70 h70 _ fun g w72 hg h72 e72=>⟨_,rfl,?_,trivial⟩;refine qg fun b75 w76 hb75 B75 e76 s76=>⟨byt _ _ _ B75 (dr_ok ⟨fin w76 g hg (h72.ext e76) (qa e72 e76),trivial⟩),trivial⟩
     ·refine qg fun b98 w99 hb98 B98 e99 s99=>⟨?_,?_,trivial⟩
      ·refine lst w99 (h70.ext e99) _ fun g w101 hg h101 e101=>⟨_,rfl,?_,trivial⟩;exact byt _ _ _ (B98.ext e101) (dr_ok ⟨fin w101 g hg h101 (qa e99 e101),trivial⟩)
      ·refine byt _ _ _ B98 ⟨?_,trivial⟩;refine lst w99 (h70.ext e99) _ fun g w101 hg h101 e101=>⟨_,rfl,dr_ok ⟨fin w101 g hg h101 (qa e99 e101),trivial⟩⟩
  refine dr_ok ⟨_,h1.cells.2.1,?_⟩;cases hop:st.cur.isSome with
  | false=>simp only [br_f];exact kOut (by rw [hop];rfl)
  | true =>
   simp only [br_t];refine ⟨_,a1,q92 c ⟨_,rfl,?_⟩⟩;cases hin:innC c with
   | true=>exact kIn hop hin
   | false=>exact kOut (by rw [hin];simp)
 refine ⟨_,a5,?_⟩;cases u
 ·simp only [br_f];exact k11
 ·simp only [br_t];exact k11
end
def AmV (x:Am) (vs:LV):Prop:=∃ cs,vs=[.agg ⟨cs⟩]∧AmE x cs
abbrev qer (k c n:Int) (p:Ps) (u:Bool) (nm:LU):LV:=[iV k,.int .u8 c,iV n,sV p.1,iV p.2,bV u,sV nm]
abbrev eachV (bx ty te:Nat):Value:=.func (.func 128) ⟨[]⟩ ⟨[.pointer (some ⟨bx,0,none⟩),.pointer (some ⟨ty,0,none⟩),.pointer (some ⟨te,0,none⟩)]⟩
theorem x_set {w:World} {b i:Nat} {cs:LV} {v:Value} (hb:Blk w b cs 123) (hi:i < cs.length) (hv:v.oneCell'=true) {K:WP}
  (h:∀ w',Blk w' b (cs.set i v) 123→Chg (fun k=>k=b) w w'→w'.heap.size=w.heap.size→K w'):stL w ((⟨b,0,none⟩:Addr).add i) 0 [v] K:=qap hb hi hv h
theorem x_back {bx bb:Nat} {w91:World} {k c n k9 c9 n9:Int} {p p9:Ps} {u u':Bool} {nm nm':LU} (hbb:Blk w91 bb (qer k c n p u nm) 123) (hbx:Blk w91 bx (qer k9 c9 n9 p9 u' nm') 123) (hne:bb≠bx) {G:WP}
  (hG:∀ v,Chg (fun k=>k=bx) w91 v→v.heap.size=w91.heap.size→Blk v bx (qer k9 c9 n9 p9 u nm) 123→G v) :
  drw w91 fun w93=>∃ (x94:Bool),World.cell? w93 ((⟨bb,0,none⟩:Addr).add 5)=some (bV x94)∧((∃ (x95:LU),World.cell? w93 ((⟨bb,0,none⟩:Addr).add 6)=some (sV x95)∧(dr (some (⟨bx,0,none⟩:Addr)) fun p96 =>
   (stL w93 (p96.add 5) 0 [bV x94] fun w97=>dr (some (⟨bx,0,none⟩:Addr)) fun p98=>(stL w97 (p98.add 6) 0 [sV x95] fun w99=>G w99)∧True)∧True))∧(dr (some (⟨bx,0,none⟩:Addr)) fun p101 =>
   (∃ (x102:LU),World.cell? w93 ((⟨bb,0,none⟩:Addr).add 6)=some (sV x102)∧((stL w93 (p101.add 5) 0 [bV x94] fun w103=>dr (some (⟨bx,0,none⟩:Addr)) fun p104=>(stL w103 (p104.add 6) 0 [sV x102] fun w105=>G w105)∧True)∧True)) ∧
   (stL w93 (p101.add 5) 0 [bV x94] fun w107=>∃ (x108:LU),World.cell? w107 ((⟨bb,0,none⟩:Addr).add 6)=some (sV x108)∧(dr (some (⟨bx,0,none⟩:Addr)) fun p109=>(stL w107 (p109.add 6) 0 [sV x108] fun w110=>G w110)∧True))∧True)∧True):=by
 unfold drw;have ed:=qn w91;have zd:w91.drew.heap.size=w91.heap.size:=rfl;have hbb:=hbb.ext ed;have hbx:=hbx.ext ed;have hcd:Chg (fun k=>k=bx) w91 w91.drew:=.of_ext ed;generalize w91.drew=wd at *;obtain ⟨_,_,_,_,_,y5,y6⟩:=blk7 hbb;have two:∀ v,Blk v bx ((qer k9 c9 n9 p9 u' nm').set 5 (bV u)) 123→Chg (fun k=>k=bx) wd v→v.heap.size=wd.heap.size→(stL v ((⟨bx,0,none⟩:Addr).add 6) 0 [sV nm] fun w99=>G w99):=by
  intro v hv hc hs;refine qap hv (by simp) rfl fun v2 hv2 hc2 hs2=>hG v2 ((hcd.trans hc).trans hc2) (by omega) ?_;exact hv2
 have n6:∀ v,Chg (fun k=>k=bx) wd v→v.cell? ((⟨bb,0,none⟩:Addr).add 6)=some (sV nm):=fun v hc=>(blk7 (hc.blk hbb hne)).2.2.2.2.2.2;refine ⟨u,y5,⟨nm,y6,dr_ok ⟨?_,trivial⟩⟩,dr_ok ⟨⟨nm,y6,?_,trivial⟩,?_,trivial⟩,trivial⟩
 ·exact qap hbx (by simp) rfl fun v hv hc hs=>dr_ok ⟨two v hv hc hs,trivial⟩
 ·exact qap hbx (by simp) rfl fun v hv hc hs=>dr_ok ⟨two v hv hc hs,trivial⟩
 ·exact qap hbx (by simp) rfl fun v hv hc hs=>⟨nm,n6 v hc,dr_ok ⟨two v hv hc hs,trivial⟩⟩
theorem x_kind {bx bn:Nat} {w17:World} {k n k9 c9 n9:Int} {v1 v3:Value} {p9:Ps} {u':Bool} {nm':LU} (hbn:Blk w17 bn [iV k,v1,iV n,v3] 56) (hbx:Blk w17 bx (qer k9 c9 n9 p9 u' nm') 123) (hne:bn≠bx) {G:WP}
  (hG:∀ v,Chg (fun k=>k=bx) w17 v→v.heap.size=w17.heap.size→Blk v bx (qer k c9 n p9 u' nm') 123→G v) :
  drw w17 fun w93=>∃ (x94:Int),World.cell? w93 ((⟨bn,0,none⟩:Addr).add 0)=some (iV x94)∧((∃ (x95:Int),World.cell? w93 ((⟨bn,0,none⟩:Addr).add 2)=some (iV x95)∧(dr (some (⟨bx,0,none⟩:Addr)) fun p96 =>
   (stL w93 (p96.add 0) 0 [iV x94] fun w97=>dr (some (⟨bx,0,none⟩:Addr)) fun p98=>(stL w97 (p98.add 2) 0 [iV x95] fun w99=>G w99)∧True)∧True))∧(dr (some (⟨bx,0,none⟩:Addr)) fun p101 =>
   (∃ (x102:Int),World.cell? w93 ((⟨bn,0,none⟩:Addr).add 2)=some (iV x102)∧((stL w93 (p101.add 0) 0 [iV x94] fun w103=>dr (some (⟨bx,0,none⟩:Addr)) fun p104=>(stL w103 (p104.add 2) 0 [iV x102] fun w105=>G w105)∧True)∧True)) ∧
   (stL w93 (p101.add 0) 0 [iV x94] fun w107=>∃ (x108:Int),World.cell? w107 ((⟨bn,0,none⟩:Addr).add 2)=some (iV x108)∧(dr (some (⟨bx,0,none⟩:Addr)) fun p109=>(stL w107 (p109.add 2) 0 [iV x108] fun w110=>G w110)∧True))∧True)∧True):=by
 unfold drw;have ed:=qn w17;have zd:w17.drew.heap.size=w17.heap.size:=rfl;have hbn:=hbn.ext ed;have hbx:=hbx.ext ed;have hcd:Chg (fun k=>k=bx) w17 w17.drew:=.of_ext ed;generalize w17.drew=wd at *;have cell:∀ v,Chg (fun k=>k=bx) wd v→v.cell? ((⟨bn,0,none⟩:Addr).add 0)=some (iV k)∧v.cell? ((⟨bn,0,none⟩:Addr).add 2)=some (iV n):=fun v hc=>by
  have hb:=hc.blk hbn hne;simp only [qd,hb.cell];exact ⟨rfl,rfl⟩
 have two:∀ v,Blk v bx ((qer k9 c9 n9 p9 u' nm').set 0 (iV k)) 123→Chg (fun k=>k=bx) wd v→v.heap.size=wd.heap.size→(stL v ((⟨bx,0,none⟩:Addr).add 2) 0 [iV n] fun w99=>G w99):=by
  intro v hv hc hs;refine qap hv (by simp) rfl fun v2 hv2 hc2 hs2=>hG v2 ((hcd.trans hc).trans hc2) (by omega) ?_;exact hv2
 obtain ⟨y0,y2⟩:=cell wd (Chg.refl _ _);refine ⟨k,y0,⟨n,y2,dr_ok ⟨?_,trivial⟩⟩,dr_ok ⟨⟨n,y2,?_,trivial⟩,?_,trivial⟩,trivial⟩
 ·exact qap hbx (by simp) rfl fun v hv hc hs=>dr_ok ⟨two v hv hc hs,trivial⟩
 ·exact qap hbx (by simp) rfl fun v hv hc hs=>dr_ok ⟨two v hv hc hs,trivial⟩
 ·exact qap hbx (by simp) rfl fun v hv hc hs=>⟨n,(cell v hc).2,dr_ok ⟨two v hv hc hs,trivial⟩⟩
set_option maxHeartbeats 1000000 in
theorem atoms_walk {yf:Fn} {ya yb:Array Value} {T:NP} {J:List Am→(NP)→World→Prop} {Jx:(NP)→World→Prop} {w0:World} {xs:List Am} {bx ty te:Nat}
  (hTl:∀ k,T k→k < w0.heap.size)
  (hJ:∀ pre S W W',J pre S W→Chg (fun k=>w0.heap.size≤k∧¬ S k) W W'→J pre S W') (hJx:∀ S W W',Jx S W→Chg (fun k=>w0.heap.size≤k∧¬ S k) W W'→Jx S W')
  (hbody:∀ pre x vs S W,AmV x vs→pre++[x] <+: xs→w0.heap.size≤W.heap.size→(∀ k,S k→k < W.heap.size∧¬ T k)→J pre S W→CallV prog (.func yf ya yb) vs W fun e W'=>Chg S W W' ∧
   ∃ S':NP,(∀ k,S' k→(S k∨W.heap.size≤k)∧k < W'.heap.size)∧((e=.returned (bV true)∧J (pre++[x]) S' W')∨(e=.returned (bV false)∧Jx S' W')))
  (hbx0:w0.heap.size≤bx) (hxy:bx≠ty) (hxe:bx≠te) :
  ∀ (f:Fo) {wi:Bool} {R:EP} {S:NP} {w:World} {a:OA} {n c:Nat} (pre:List Am) (p:Ps) (u:Bool) (nm:LU) (k0 c0 n0:Int),f.size≤1000000→okF wi f→0≤p.2→p.2 + f.size≤1000000000→SlF T w0 a n f→w0.heap.size≤w.heap.size→(∀ k,T k→w.heap[k]? = w0.heap[k]?)→(∀ k,S k→k < w.heap.size∧¬ T k) →
   Blk w bx (qer k0 c0 n0 p u nm) 123→Blk w ty [.func yf ya yb] 166→Blk w te [eachV bx ty te] 89→¬ S bx→¬ S ty→¬ S te →
   pre++amsF p f u nm <+: xs→J pre S w→(∀ S' W' k1 c1 n1,Chg (fun k=>S k∨k=bx) w W'→(∀ k,S' k→(S k∨w.heap.size≤k)∧k < W'.heap.size)→Blk W' bx (qer k1 c1 n1 (endL p (nodesF f)) u nm) 123→J (pre++amsF p f u nm) S' W'→R (.returned (bV true)) W') →
   (∀ S' W' k1 c1 n1 p1,Chg (fun k=>S k∨k=bx) w W'→(∀ k,S' k→(S k∨w.heap.size≤k)∧k < W'.heap.size)→Blk W' bx (qer k1 c1 n1 p1 u nm) 123→Jx S' W'→R (.returned (bV false)) W') →
   Calls prog qe5 ⟨[lV a n c,.pointer (some ⟨bx,0,none⟩),.pointer (some ⟨ty,0,none⟩),.pointer (some ⟨te,0,none⟩)]⟩ w R:=by
 intro f
 induction hz:f.size using Nat.strongRecOn generalizing f with
 | _ z ih =>
 intro wi R S w a n c pre p u nm k0 c0 n0 hs hok hp0 hp1 hf hw0 hT hS hBx hBy hBe nSx nSy nSe hpre hj hend hstop;apply qk4;have hn:=hf.1;have hfl:=f.len_le_size;have lbx:=hBx.lt;have lty:=hBy.lt;have lte:=hBe.lt;have nTx:¬ T bx:=fun hh=>by have:=hTl _ hh;omega
 obtain ⟨Inv,hInv⟩:∃ Inv:Int→World→Nat→Prop,∀ i W m,Inv i W m↔∃ (pr r:Fo) (ps:List Am) (S1:NP) (p1:Ps) (k1 c1 n1:Int),f=pr.app r∧i=pr.len∧m=r.len∧Chg (fun k=>S k∨k=bx) w W∧(∀ k,S1 k→(S k∨w.heap.size≤k)∧k < W.heap.size)∧J ps S1 W∧pre++amsF p f u nm=ps++amsF p1 r u nm ∧
   Blk W bx (qer k1 c1 n1 p1 u nm) 123∧endL p (nodesF f)=endL p1 (nodesF r)∧okF wi r∧0≤p1.2∧p1.2 + r.size≤1000000000:=⟨_,fun _ _ _=>Iff.rfl⟩
 refine ⟨Inv,⟨_,(hInv _ _ _).2 ⟨.nil,f,pre,S,p,k0,c0,n0,rfl,rfl,rfl,Chg.refl _ _,fun k hk=>⟨.inl hk,(hS k hk).1⟩,hj,rfl,hBx,rfl,hok,hp0,by omega⟩⟩,?_⟩;intro i W m hI _;obtain ⟨pr,r,xs',S1,p1,k1,c1,n1,hpr,rfl,rfl,hcW,hS1,hjW,heq,hBxW,hel,hokr,hpp0,hpp1⟩:=(hInv _ _ _).1 hI;have hwW:=hcW.size;refine qb (fun hlt=>?_) (fun hge=>?_)
 ·obtain ⟨k,t,mm,ps,r,rfl⟩:=Fo.next hpr (by omega);have hsl:=Fo.sub_len hpr;have hsz:=Fo.sub_size hpr;obtain ⟨ok1,ok2,ok3⟩:=hokr;obtain ⟨g1,g2,g3,g4,g5,g6,g7⟩:=qc5 ok1;simp only [Fo.size] at hpp1;have e1:f=(pr.app (.one k t mm ps)).app r:=by rw [Fo.app_one_app];exact hpr
  have i1:i64.wrap ((pr.len:Int) + 1)=((pr.app (.one k t mm ps)).len:Int):=by rw [qj (by omega)];simp [Fo.one]
  have hTW:∀ k,T k→W.heap[k]? = w0.heap[k]?:=fun k hk=>(hcW.block k (by have:=hTl k hk;omega) (fun h=>h.elim (fun h=>(hS k h).2 hk) fun h=>nTx (h ▸ hk))).trans (hT k hk);obtain ⟨q,a',c',hq,hTq,hql,hN⟩:=(hf.keep (S':=T) (w':=W) (fun k hk _=>⟨hk,hTW k hk⟩) (by omega)).get hpr;have hNT:SlF T w0 a' ps.len ps:=hN.sl.keep' fun k hk _=>⟨hk,hTl k hk,(hTW k hk).symm⟩;refine hq _ ⟨k,hN.kind,t,hN.text,mm,hN.num,a',ps.len,c',hN.parts,?_⟩;refine qw (by simp) (by intro u hu;simp only [mem_cons,not_mem_nil,or_false] at hu;rcases hu with rfl | rfl | rfl | rfl <;> rfl) fun bn w1 hbn hBn e2 s2=>?_;have z2:=e2.size;have n1x:¬ S1 bx:=fun h=>(hS1 _ h).1.elim nSx (by omega);have n1y:¬ S1 ty:=fun h=>(hS1 _ h).1.elim nSy (by omega);have n1e:¬ S1 te:=fun h=>(hS1 _ h).1.elim nSe (by omega);have n1n:¬ S1 bn:=fun h=>by have:=(hS1 _ h).2;omega
  have hBx1:=hBxW.ext e2;have hc1:Chg (fun k=>S k∨k=bx) w w1:=hcW.trans (.of_ext e2);have hj1:J xs' S1 w1:=hJ _ _ _ _ hjW (Chg.of_ext e2)
  -- what stands at a later world
  have hy:∀ v,Chg (fun k=>S k∨k=bx) w v→Blk v ty [.func yf ya yb] 166:=fun v hv=>hv.blk hBy (fun h=>h.elim nSy fun h=>hxy h.symm);have he:∀ v,Chg (fun k=>S k∨k=bx) w v→Blk v te [eachV bx ty te] 89:=fun v hv=>hv.blk hBe (fun h=>h.elim nSe fun h=>hxe h.symm);have hT':∀ v,Chg (fun k=>S k∨k=bx) w v→∀ k,T k→v.heap[k]? = w0.heap[k]?:=fun v hv k hk=>(hv.block k (by have:=hTl k hk;omega) (fun h=>h.elim (fun h=>(hS k h).2 hk) fun h=>nTx (h ▸ hk))).trans (hT k hk);have hSS:∀ (S3:NP) (v:World),(∀ k,S3 k→(S k∨w.heap.size≤k)∧k < v.heap.size)→∀ k,S3 k→k < v.heap.size∧¬ T k:=fun S3 v h3 k hk=>⟨(h3 k hk).2,fun ht=>(h3 k hk).1.elim (fun h=>(hS k h).2 ht) (fun h=>by have:=hTl k ht;omega)⟩;rw [qsk] at heq;rw [nodesF,endL,qmg] at hel
  -- a round ends
  have round:∀ (S3:NP) (w3:World) (p3:Ps) (k3 c3 n3:Int),Chg (fun k=>S k∨k=bx) w w3→(∀ k,S3 k→(S k∨w.heap.size≤k)∧k < w3.heap.size)→J (xs'++(amN p1 ⟨⟨k,t,mm,ps⟩,u,nm⟩++amsF (posN p1 ⟨k,t,mm,ps⟩).1 ps (u||decide (k=7)) (if k=11 then t else nm))) S3 w3 →
    p3=endL (posN p1 ⟨k,t,mm,ps⟩).1 (nodesF ps)→Blk w3 bx (qer k3 c3 n3 p3 u nm) 123→∃ m':Nat,m' < (Fo.cons k t mm ps r).len∧Inv (i64.wrap ((pr.len:Int) + 1)) w3 m':=by
   intro S3 w3 p3 k3 c3 n3 r1 r2 r3 r4 r5;have hbd:=endL_bd (⟨k,t,mm,ps⟩ :: nodesF ps) p1 p1.2 hpp0 (Int.le_refl _) hpp0;rw [endL,← r4,length_cons,qhu] at hbd;refine ⟨r.len,by simp,(hInv _ _ _).2 ⟨_,r,_,S3,p3,k3,c3,n3,e1,i1,rfl,r1,r2,r3,?_,r5,?_,ok3,hbd.1,by omega⟩⟩
   ·rw [heq,r4];simp only [append_assoc]
   ·rw [hel,r4]
  have hpreA:xs'++(amN p1 ⟨⟨k,t,mm,ps⟩,u,nm⟩++amsF (posN p1 ⟨k,t,mm,ps⟩).1 ps (u||decide (k=7)) (if k=11 then t else nm)) <+: xs:=by
   refine List.IsPrefix.trans ?_ hpre;rw [heq];exact ⟨amsF (endL (posN p1 ⟨k,t,mm,ps⟩).1 (nodesF ps)) r u nm,by simp only [append_assoc]⟩
  intro K18 hK18;have k18:∀ w19,Chg (fun k=>k=bx) w1 w19→Blk w19 bx (qer k c1 mm p1 u nm) 123→K18 w19:=by
   intro w19 h19 hx19;refine hK18 _ fun _=>?_;have hc19:Chg (fun k=>S k∨k=bx) w w19:=hc1.trans (h19.mono fun k _ hk=>.inr hk);have z19:=h19.size;have hBn19:=h19.blk hBn (by omega);have hj19:J xs' S1 w19:=hJ _ _ _ _ hj1 (h19.mono fun j _ hj=>by subst hj;exact ⟨hbx0,n1x⟩);have hS19:∀ k,S1 k→(S k∨w.heap.size≤k)∧k < w19.heap.size:=fun j hj=>⟨(hS1 j hj).1,by have:=(hS1 j hj).2;omega⟩;obtain ⟨y0,y1,y2,y3⟩:=blk4 hBn19;obtain ⟨x0,x1,x2,x3,x4,x5,x6⟩:=blk7 hx19;have ea4:((⟨bx,0,none⟩:Addr).add 3).add 1=(⟨bx,0,none⟩:Addr).add 4:=by simp only [qd]
   refine ⟨k,y0,qb (fun hk2=>dr_ok ?_) (fun hk2=>qb (fun hk3=>?_) (fun hk3=>qb (fun hk1=>?_) (fun hk1=>?_)))⟩
   ·
    obtain rfl:=g6 (by omega);rw [ea4];refine ⟨p1.2,x4,dr_ok ?_⟩;rw [qo (by omega)];refine x_set hx19 (i:=4) (by simp) rfl fun w24 b24 c24 s24=>?_;have ha:amN p1 ⟨⟨k,t,mm,.nil⟩,u,nm⟩++amsF (posN p1 ⟨k,t,mm,.nil⟩).1 .nil (u||decide (k=7)) (if k=11 then t else nm)=[]:=by unfold amN;simp [hk2,amsF,qew,amsL]
    have hp:posN p1 ⟨k,t,mm,.nil⟩=((p1.1,p1.2 + 1),0):=by unfold posN;simp [hk2]
    refine round S1 w24 (p1.1,p1.2 + 1) k c1 mm (hc19.trans (c24.mono fun k _ hk=>.inr hk)) (fun j hj=>⟨(hS19 j hj).1,by have:=(hS19 j hj).2;omega⟩) ?_ (by rw [hp];rfl) b24;rw [ha,append_nil];exact hJ _ _ _ _ hj19 (c24.mono fun j _ hj=>by subst hj;exact ⟨hbx0,n1x⟩)
   ·
    obtain rfl:=g6 (by omega);refine ⟨t,y1,dr_ok ?_⟩;rw [qd];refine qaf hx19 (by simp) (by simp [Value.oneCell']) fun w28 b28 q2 q3 q4 q5 q6=>?_;have c28:Chg (fun k=>k=bx) w19 w28:=⟨q4,q5,q6,by omega,fun j _ hj=>q2 j hj⟩;have ha:amN p1 ⟨⟨k,t,mm,.nil⟩,u,nm⟩++amsF (posN p1 ⟨k,t,mm,.nil⟩).1 .nil (u||decide (k=7)) (if k=11 then t else nm)=[]:=by unfold amN;simp [hk3,amsF,qew,amsL]
    have hp:posN p1 ⟨k,t,mm,.nil⟩=((t,0),0):=by unfold posN;simp [hk3]
    refine round S1 w28 (t,0) k c1 mm (hc19.trans (c28.mono fun k _ hk=>.inr hk)) (fun j hj=>⟨(hS19 j hj).1,by have:=(hS19 j hj).2;omega⟩) ?_ (by rw [hp];rfl) b28;rw [ha,append_nil];exact hJ _ _ _ _ hj19 (c28.mono fun j _ hj=>by subst hj;exact ⟨hbx0,n1x⟩)
   ·
    subst hk1;obtain rfl:=g6 (by omega);have hp:posN p1 ⟨1,t,mm,.nil⟩=(p1,t.length):=by unfold posN;simp
    have ha:amN p1 ⟨⟨1,t,mm,.nil⟩,u,nm⟩++amsF (posN p1 ⟨1,t,mm,.nil⟩).1 .nil (u||decide ((1:Int)=7)) (if (1:Int)=11 then t else nm)=amT t p1 u nm:=by unfold amN;simp [amsF,qew,amsL]
    rw [ha] at round hpreA;have htl:t.length≤65536:=(checkC_mk.1 (g3 rfl).2).1;refine ⟨t,y1,?_⟩;refine ⟨fun i31 W2 m34=>∃ (jn:Nat) (S2:NP) (cc:Int),i31=jn∧jn≤t.length∧m34=t.length - jn∧Chg (fun k=>S k∨k=bx) w W2∧(∀ k,S2 k→(S k∨w.heap.size≤k)∧k < W2.heap.size)∧J (xs'++(amT t p1 u nm).take jn) S2 W2∧Blk W2 bx (qer 1 cc mm p1 u nm) 123 ∧
      Blk W2 bn [iV 1,sV t,iV mm,.slice a' (Fo.nil).len c'] 56∧¬ S2 bn∧¬ S2 bx,
     ⟨_,0,S1,c1,rfl,by omega,rfl,hc19,hS19,by rw [List.take_zero,append_nil];exact hj19,hx19,hBn19,n1n,n1x⟩,?_⟩
    rintro _ W2 m34 ⟨jn,S2,cc,rfl,hjn,rfl,q1,q2,q3,q4,q5,q6,q7⟩ _;have zW2:=q1.size;refine qb (fun hl2=>?_) (fun hl2=>?_)
    ·have hjl:jn < t.length:=by omega
     refine ⟨t,(blk4 q5).2.1,qbi hjl (dr_ok ?_)⟩;refine x_set q4 (i:=1) (by simp) rfl fun w39 b39 c39 s39=>dr_ok ?_;have hc39:Chg (fun k=>S k∨k=bx) w w39:=q1.trans (c39.mono fun k _ hk=>.inr hk);refine ⟨yf,ya,yb,by show _=_;rw [(hy w39 hc39).cell];rfl,dr_ok ?_⟩;obtain ⟨z0,z1,z2,z3,z4,z5,z6⟩:=blk7 b39;refine ⟨_,z0,_,z1,_,z2,_,z3,_,z4,_,z5,_,z6,?_⟩;have hj39:J (xs'++(amT t p1 u nm).take jn) S2 w39:=hJ _ _ _ _ q3 (c39.mono fun j _ hj=>by subst hj;exact ⟨hbx0,q7⟩);have htk:(amT t p1 u nm).take (jn + 1)=(amT t p1 u nm).take jn++[.ch t[jn] p1 u nm]:=by
      rw [take_succ_eq_append_getElem (by unfold amT;rw [length_map];exact hjl)];unfold amT;rw [List.getElem_map]
     have hpx:(xs'++(amT t p1 u nm).take jn)++[.ch t[jn] p1 u nm] <+: xs:=by
      refine List.IsPrefix.trans ?_ hpreA;rw [append_assoc,← htk];exact (List.prefix_append_right_inj _).2 (List.take_prefix _ _)
     refine qbr (hbody (xs'++(amT t p1 u nm).take jn) (.ch t[jn] p1 u nm) _ S2 w39 ⟨_,rfl,mm,rfl⟩ hpx (by omega) (hSS S2 w39 fun j hj=>⟨(q2 j hj).1,by have:=(q2 j hj).2;omega⟩) hj39) ?_;rintro e w51 ⟨hc2,S3,hS3,hres⟩;have z51:=hc2.size;have hc51:Chg (fun k=>S k∨k=bx) w w51:=qbd hc39 hc2 fun i hi hh=>.inl ((q2 i hh).1.elim id fun h=>by omega);have hS3w:∀ k,S3 k→(S k∨w.heap.size≤k)∧k < w51.heap.size:=fun j hj=>⟨(hS3 j hj).1.elim (fun h=>(q2 j h).1) (fun h=>.inr (by omega)),(hS3 j hj).2⟩;rcases hres with ⟨rfl,hj2⟩ | ⟨rfl,hjx⟩
     ·refine ⟨true,rfl,?_⟩;simp only [Bool.not_true,br_f];have lb:=q5.lt;refine ⟨t.length - (jn + 1),by omega,jn + 1,S3,_,by show _=_;rw [qj (by omega)],by omega,rfl,hc51,hS3w,?_,hc2.blk b39 q7,hc2.blk (c39.blk q5 (by omega)) q6,fun hh=>(hS3 _ hh).1.elim q6 (by omega),fun hh=>(hS3 _ hh).1.elim q7 (by have:=q4.lt;omega)⟩;rw [htk,← append_assoc];exact hj2
     ·refine ⟨false,rfl,?_⟩;simp only [Bool.not_false,br_t];exact hstop S3 _ _ _ _ _ hc51 hS3w (hc2.blk b39 q7) hjx
    ·have:jn=t.length:=by omega
     subst this;have htk:(amT t p1 u nm).take t.length=amT t p1 u nm:=take_of_length_le (by unfold amT;rw [length_map];exact Nat.le_refl _);rw [htk] at q3;exact round S2 W2 p1 1 cc mm q1 q2 q3 (by rw [hp];rfl) q4
   ·intro K55 hK55
    -- a gap,or what ends words
    have kYes:(k=4∨k=5∨k=6)→K55 true w19:=by
     intro hk;obtain rfl:=g6 (by omega);refine hK55 _ _ fun _=>?_;simp only [br_t];obtain ⟨x,hx,hA⟩:∃ x:Am,AmE x (qer k c1 mm p1 u nm)∧amN p1 ⟨⟨k,t,mm,.nil⟩,u,nm⟩++amsF (posN p1 ⟨k,t,mm,.nil⟩).1 .nil (u||decide (k=7)) (if k=11 then t else nm)=[x]:=by
      rcases hk with rfl | rfl | rfl
      ·exact ⟨.brk false,⟨c1,mm,p1,u,nm,rfl⟩,by unfold amN;simp [amsF,qew,amsL]⟩
      ·exact ⟨.brk true,⟨c1,mm,p1,u,nm,rfl⟩,by unfold amN;simp [amsF,qew,amsL]⟩
      ·exact ⟨.gap mm p1 u nm,⟨c1,rfl⟩,by unfold amN;simp [amsF,qew,amsL]⟩
     have hp:posN p1 ⟨k,t,mm,.nil⟩=(p1,(posN p1 ⟨k,t,mm,.nil⟩).2):=by unfold posN;rcases hk with rfl | rfl | rfl <;> simp
     rw [hA] at round hpreA;refine dr_ok ⟨yf,ya,yb,by show _=_;rw [(hy w19 hc19).cell];rfl,dr_ok ⟨_,x0,_,x1,_,x2,_,x3,_,x4,_,x5,_,x6,?_⟩⟩;refine qbr (hbody xs' x _ S1 w19 ⟨_,rfl,hx⟩ hpreA (by omega) (hSS S1 w19 hS19) hj19) ?_;rintro e w69 ⟨hc2,S3,hS3,hres⟩;have z69:=hc2.size;have hc69:Chg (fun k=>S k∨k=bx) w w69:=qbd hc19 hc2 fun i hi hh=>.inl ((hS1 i hh).1.elim id fun h=>by omega);have hS3w:∀ k,S3 k→(S k∨w.heap.size≤k)∧k < w69.heap.size:=fun j hj=>⟨(hS3 j hj).1.elim (fun h=>(hS1 j h).1) (fun h=>.inr (by omega)),(hS3 j hj).2⟩;rcases hres with ⟨rfl,hj2⟩ | ⟨rfl,hjx⟩
     ·refine ⟨true,rfl,?_⟩;simp only [Bool.not_true,br_f];exact round S3 w69 p1 k c1 mm hc69 hS3w hj2 (by rw [hp];rfl) (hc2.blk hx19 n1x)
     ·refine ⟨false,rfl,?_⟩;simp only [Bool.not_false,br_t];exact hstop S3 _ _ _ _ _ hc69 hS3w (hc2.blk hx19 n1x) hjx
    -- the parts
    have kNo:¬ (k=4∨k=5∨k=6)→K55 false w19:=by
     intro hk;have hk7:7≤k:=by omega
     refine hK55 _ _ fun _=>?_;simp only [br_f];have hp:posN p1 ⟨k,t,mm,ps⟩=(p1,0):=by unfold posN;simp [hk1,hk2,hk3,show ¬ k=6 by omega]
     have hA0:amN p1 ⟨⟨k,t,mm,ps⟩,u,nm⟩=[]:=by unfold amN;simp [hk1,show ¬ k=6 by omega,show ¬ k=4 by omega,show ¬ k=5 by omega]
     rw [hp,hA0,nil_append] at round hpreA;refine dr_ok ⟨_,x0,_,x1,_,x2,_,x3,_,x4,_,x5,_,x6,?_⟩;refine qw (by simp) (by intro u hu;simp only [mem_cons,not_mem_nil,or_false] at hu;rcases hu with rfl | rfl | rfl | rfl | rfl | rfl | rfl <;> rfl) fun bb w82 hbb hBb e82 s82=>?_;have z82:=e82.size;have nbb:¬ S1 bb:=fun h=>by have:=(hS19 _ h).2;omega
     intro K83 hK83;have k83:∀ w84,Chg (fun k=>k=bx) w82 w84→Blk w84 bx (qer k c1 mm p1 (u||decide (k=7)) nm) 123→K83 w84:=by
      intro w84 c84 hx84;refine hK83 _ fun _=>?_;have z84:=c84.size;have hc84:Chg (fun k=>S k∨k=bx) w w84:=(hc19.trans (.of_ext e82)).trans (c84.mono fun k _ hk=>.inr hk);have hBn84:=c84.blk (hBn19.ext e82) (by omega);have hBb84:=c84.blk hBb (by omega);intro K85 hK85;have k85:∀ w86,Chg (fun k=>k=bx) w84 w86→Blk w86 bx (qer k c1 mm p1 (u||decide (k=7)) (if k=11 then t else nm)) 123→K85 w86:=by
       intro w86 c86 hx86;refine hK85 _ fun _=>?_;have z86:=c86.size;have hc86:Chg (fun k=>S k∨k=bx) w w86:=hc84.trans (c86.mono fun k _ hk=>.inr hk);have hBn86:=c86.blk hBn84 (by omega);have hBb86:=c86.blk hBb84 (by omega);have hj86:J xs' S1 w86:=hJ _ _ _ _ hj19 (((Chg.of_ext e82).trans (c84.trans c86 |>.mono fun j _ hj=>by subst hj;exact ⟨hbx0,n1x⟩)));have hS86:∀ k,S1 k→(S k∨w.heap.size≤k)∧k < w86.heap.size:=fun j hj=>⟨(hS19 j hj).1,by have:=(hS19 j hj).2;omega⟩;refine dr_ok ⟨.func 128,⟨[]⟩,⟨[.pointer (some ⟨bx,0,none⟩),.pointer (some ⟨ty,0,none⟩),.pointer (some ⟨te,0,none⟩)]⟩,by show _=_;rw [(he w86 hc86).cell];rfl,a',ps.len,c',(blk4 hBn86).2.2.2,by kernel_rfl,?_⟩;refine ih _ (hz ▸ hsz) ps rfl (S:=S1) xs' p1 (u||decide (k=7)) (if k=11 then t else nm) k c1 mm (by omega) ok2 hpp0 (by omega) hNT (by omega) (hT' w86 hc86) (hSS S1 w86 hS86) hx86 (hy w86 hc86) (he w86 hc86) n1x n1y n1e hpreA hj86
        (fun S3 w91 k9 c9 n9 hc3 hS3 hx91 hj3=>⟨true,rfl,?_⟩) (fun S3 w91 k9 c9 n9 p9 hc3 hS3 hx91 hjx=>⟨false,rfl,?_⟩)
       ·have z91:=hc3.size;have nb:bb≠bx:=by have:=hx19.lt;omega
        refine x_back (hc3.blk hBb86 (fun h=>h.elim nbb nb)) hx91 nb fun v hv hsv hxv=>?_;simp only [Bool.not_true,br_f];have hcv:Chg (fun k=>S k∨k=bx) w v:=(qbd hc86 hc3 fun i hi hh=>hh.imp (fun h=>(hS1 i h).1.elim id fun h=>by omega) id).trans (hv.mono fun k _ hk=>.inr hk);have n3:¬ S3 bx:=fun hh=>(hS3 _ hh).1.elim n1x (by have:=hx86.lt;omega);refine round S3 v _ k9 c9 n9 hcv (fun j hj=>⟨(hS3 j hj).1.elim (fun h=>(hS1 j h).1) (fun h=>.inr (by omega)),by have:=(hS3 j hj).2;omega⟩) (hJ _ _ _ _ hj3 (hv.mono fun j _ hj=>by subst hj;exact ⟨hbx0,n3⟩)) rfl hxv
       ·have z91:=hc3.size;have nb:bb≠bx:=by have:=hx19.lt;omega
        refine x_back (hc3.blk hBb86 (fun h=>h.elim nbb nb)) hx91 nb fun v hv hsv hxv=>?_;simp only [Bool.not_false,br_t];have hcv:Chg (fun k=>S k∨k=bx) w v:=(qbd hc86 hc3 fun i hi hh=>hh.imp (fun h=>(hS1 i h).1.elim id fun h=>by omega) id).trans (hv.mono fun k _ hk=>.inr hk);have n3:¬ S3 bx:=fun hh=>(hS3 _ hh).1.elim n1x (by have:=hx86.lt;omega);exact hstop S3 v _ _ _ _ hcv (fun j hj=>⟨(hS3 j hj).1.elim (fun h=>(hS1 j h).1) (fun h=>.inr (by omega)),by have:=(hS3 j hj).2;omega⟩) hxv (hJx _ _ _ hjx (hv.mono fun j _ hj=>by subst hj;exact ⟨hbx0,n3⟩))
      refine ⟨k,(blk4 hBn84).1,qb (fun h11=>⟨t,(blk4 hBn84).2.1,dr_ok ?_⟩) (fun h11=>?_)⟩
      ·refine x_set hx84 (i:=6) (by simp) rfl fun v hv hc hs=>k85 v hc ?_;rw [if_pos h11];exact hv
      ·refine k85 w84 (Chg.refl _ _) ?_;rw [if_neg h11];exact hx84
     have hx82:=hx19.ext e82;refine dr_ok ⟨u,(blk7 hx82).2.2.2.2.2.1,?_⟩;cases u with
     | true =>
      simp only [br_t];refine dr_ok (x_set hx82 (i:=5) (by simp) rfl fun v hv hc hs=>k83 v hc ?_);exact hv
     | false =>
      simp only [br_f];refine ⟨k,(blk4 (hBn19.ext e82)).1,dr_ok (x_set hx82 (i:=5) (by simp) rfl fun v hv hc hs=>k83 v hc ?_)⟩;rw [Bool.false_or];exact hv
    refine qb (fun h6=>?_) (fun h6=>qb (fun h5=>?_) (fun h5=>?_))
    ·rw [decide_eq_true h6];exact kYes (by omega)
    ·rw [decide_eq_true h5];exact kYes (by omega)
    ·by_cases h4:k=4
     ·rw [decide_eq_true h4];exact kYes (by omega)
     ·rw [decide_eq_false h4];exact kNo (by omega)
  exact x_kind hBn hBx1 (by omega) fun v hv hsv hxv=>k18 v hv hxv
 ·obtain ⟨rfl,rfl⟩:=Fo.last hpr (by omega);have e:xs'=pre++amsF p pr u nm:=by rw [heq];simp [amsF,qew,amsL]
  rw [e] at hjW;rw [show endL p1 (nodesF .nil)=p1 from rfl] at hel;rw [← hel] at hBxW;exact hend S1 _ _ _ _ hcW hS1 hBxW hjW
theorem atoms_iterO {T:NP} {wi:Bool} (f:Fo) (p:Ps) (hs:f.size≤1000000) (hok:okF wi f) (h0:0≤p.2) (h1:p.2 + f.size≤1000000000) {a:OA} {n c:Nat} (b1 b2:Nat) (w:World) (hTl:∀ k,T k→k < w.heap.size) (hB1:Blk w b1 [sV p.1,iV p.2] 51) (hB2:Blk w b2 [lV a n c] 43) (hf:SlF T w a n f) :
  IterO prog qbz [.pointer (some ⟨b1,0,none⟩),.pointer (some ⟨b2,0,none⟩)] (amsF p f false []) AmV T w:=by
 intro yf ya yb S0 J Jx R hS hJ hJx hbody hj0 hend hstop;apply qo4;refine qg fun ty w5 hty hBy e5 s5=>dr_ok ?_;obtain ⟨q0,q1⟩:=blk2 (hB1.ext e5);refine ⟨p.1,q0,p.2,q1,?_⟩;refine qw (by simp) (by intro u hu;simp only [mem_cons,not_mem_nil,or_false] at hu;rcases hu with rfl | rfl | rfl | rfl | rfl | rfl | rfl <;> rfl) fun bx w11 hbx hBx e11 s11=>?_;refine qg fun te w13 hte hBe' e13 s13=>?_;refine qr hBe' rfl fun w14 hBe hcc hss=>?_;have E11:=qa e5 e11;have E13:=qa E11 e13;have z5:=e5.size;have z11:=e11.size;have z13:=e13.size;have E14:Ext w w14:=qi E13 hcc fun k hk=>by omega
 have lb2:=hB2.lt;have hB2a:=hB2.ext E14;have hBx':=hcc.blk (hBx.ext e13) (by omega);have hBy':=hcc.blk ((hBy.ext e11).ext e13) (by omega);refine ⟨.func 128,⟨[]⟩,⟨[.pointer (some ⟨bx,0,none⟩),.pointer (some ⟨ty,0,none⟩),.pointer (some ⟨te,0,none⟩)]⟩,by show _=_;rw [hBe.cell];rfl,dr_ok ⟨a,n,c,by show _=_;rw [hB2a.cell];rfl,by kernel_rfl,?_⟩⟩;have hz:=E14.size;refine atoms_walk (w0:=w) (xs:=amsF p f false []) hTl hJ hJx hbody (bx:=bx) (ty:=ty) (te:=te) (by omega) (by omega) (by omega) f (S:=S0) [] p false [] 0 0 0 hs hok h0 h1 hf hz (fun k hk=>E14.block k (hTl k hk)) (fun k hk=>⟨by have:=(hS k hk).1;omega,(hS k hk).2⟩)
  hBx' hBy' hBe (fun h=>by have:=(hS _ h).1;omega) (fun h=>by have:=(hS _ h).1;omega) (fun h=>by have:=(hS _ h).1;omega) (List.prefix_refl _)
  (hJ _ _ _ _ hj0 (Chg.of_ext E14)) (fun S' W' k1 c1 n1 hc hS' hx hj=>?_) (fun S' W' k1 c1 n1 p1 hc hS' hx hjx=>?_)
 ·exact ⟨_,rfl,hend S' _ (Nat.le_trans hz hc.size) hj⟩
 ·exact ⟨_,rfl,hstop S' _ (Nat.le_trans hz hc.size) hjx⟩
theorem atoms_spec {R:EP} {w:World} (p:Ps) {a:OA} {n c:Nat}
  (h:∀ b1 b2 w',b1=w.heap.size→b2=b1 + 1→w'.heap.size=b2 + 1→Blk w' b1 [sV p.1,iV p.2] 51→Blk w' b2 [lV a n c] 43→Ext w w'→R (.returned (.func (.func qbz) ⟨[]⟩ ⟨[.pointer (some ⟨b1,0,none⟩),.pointer (some ⟨b2,0,none⟩)]⟩)) w') :
  Calls prog qih ⟨[.agg ⟨[sV p.1,iV p.2]⟩,lV a n c]⟩ w R:=by
 apply qur;refine qg fun b1 w5 hb1 B1 e5 s5=>?_;refine qg fun b2 w7 hb2 B2 e7 s7=>?_;exact h b1 b2 w7 hb1 (by omega) s7 (B1.ext e7) B2 (qa e5 e7)
section
variable {w w':World} {b:Nat} {st:Bs} {O:NP} {R:EP}
theorem decI {n:Int} (h0:0≤n) (h1:n≤64):(Lib.decDigits n.toNat).length≤2:=qdl n.toNat (by omega)
theorem tkadd_spec (x:Am) {vs:LV} (hE:AmE x vs) (h:BsSt w b st O) (hs:StOk st) (hl:(lstB st).length≤999999999) (hw:(wrdB st).length≤1000000000) (hn:∀ n p u nm,x=.gap n p u nm→1≤n∧n≤64)
  (hk:∀ w' O',BsSt w' b (addB st x) O'→Chg O w w'→(∀ k,O' k→O k∨w.heap.size≤k)→R (.returned (.tuple ⟨[]⟩)) w') :
  Calls prog qdu ⟨[.pointer (some ⟨b,0,none⟩),.agg ⟨vs⟩]⟩ w R:=by
 have lb:b < w.heap.size:=(h.own (by obtain ⟨_,_,_,_,_,_,h2⟩:=h;exact (h2 b).2 (.inl rfl))).2;have hjj:st.j=true→shut st≠[]:=fun hh e=>hs.j hh (List.eq_nil_of_length_eq_zero (by rw [← qgm,e];rfl));cases x with
 | ch c q u nm =>
  obtain ⟨n,rfl⟩:=hE;apply qbx;refine qg fun b9 w10 hb9 B9 e10 s10=>?_;obtain ⟨d0,d1,d2,d3,d4,d5,d6⟩:=blk7 B9;refine ⟨_,d0,qb (fun _=>⟨_,d0,_,d1,_,d2,_,d3,_,d4,_,d5,_,d6,?_⟩) (fun hh=>absurd rfl hh)⟩;refine tkpart_spec (h.ext e10) hs hl hw c 1 n q u nm fun w20 O' h20 c20 n20=>⟨rfl,?_⟩;have z10:=e10.size;exact hk w20 O' h20 ((Chg.of_ext e10).trans c20) fun k hk=>(n20 k hk).imp id fun hh=>by omega
 | gap n q u nm =>
  obtain ⟨c,rfl⟩:=hE;obtain ⟨n1,n2⟩:=hn n q u nm rfl;apply qbx;refine qg fun b9 w10 hb9 B9 e10 s10=>?_;have h10:=h.ext e10;have nO:¬ O b9:=fun hh=>by have:=h.own hh;omega
  have z10:=e10.size;obtain ⟨d0,_⟩:=blk7 B9;refine ⟨_,d0,qb (fun hh=>absurd hh (by decide)) (fun _=>qb (fun _=>?_) (fun hh=>absurd rfl hh))⟩;refine end_st h10 hs (by omega) fun oa oc w22 h22 hO c22=>⟨rfl,?_⟩;have B22:=c22.blk B9 nO;intro K23 hK23;have k23:K23 (if u=true then bitO .i64 2 1 else 2) w22:=by
   refine hK23 _ _ fun _=>?_;obtain ⟨d0,d1,d2,d3,d4,d5,d6⟩:=blk7 B22;refine ⟨_,d0,_,d1,_,d2,_,d3,_,d4,_,d5,_,d6,?_⟩;refine qj4 h22 (by rw [qgm];omega) hjj 6 c n q u nm _ fun oa2 oc2 w34 h34 c34 n34=>⟨rfl,?_⟩;rw [st_gap] at h34;have B34:=B22.keep (c34.block b9 B22.lt fun hh=>hh.elim (by omega) fun hh=>nO (hO b9 (.inr hh)));unfold drw;have ed:=qn w34;have h35:=h34.ext ed;have B35:=B34.ext ed;have hc35:Chg O w w34.drew:=(((Chg.of_ext e10).trans c22).trans (c34.mono fun k _ hk=>hO k hk)).trans (.of_ext ed);have n35:∀ k,bk oa2 k→O k∨w.heap.size≤k:=fun k hk=>(n34 k hk).imp (fun hh=>hO k (.inr hh)) fun hh=>by have:=c22.size;omega
   generalize w34.drew=w35 at *;have ea:addB st (.gap n q u nm)=⟨shut st++[⟨gapT n,[],q,flI u st.j st.v 2,nm⟩],none,true,false⟩:=rfl;have fin:∀ (v1:World) (g:Nat),oa2=some ⟨g,0,none⟩→BsAt v1 b oa2 none (shut st++[⟨[],[],q,flI u st.j st.v 2,nm⟩]) [] false true false (.pointer none) oc2 0→Ext w35 v1 →
     sadd ([91]) (Lib.decDigits n.toNat) fun s43=>sadd s43 ([93]) fun s44=>dr (some (⟨g,(shut st).length * 6,none⟩:Addr)) fun p45=>(stL v1 (p45.add 0) 0 [sV s44] fun w46=>R (.returned (.tuple ⟨[]⟩)) w46)∧True:=by
    intro v1 g hg hv ev;have hdl:=decI (n:=n) (by omega) n2;refine ⟨by simp;omega,?_,dr_ok ⟨?_,trivial⟩⟩
    ·simp only [length_append,length_cons,length_nil];omega
    refine (hv.last hg).2.1 _ _ fun w' hw' cw'=>?_;have et:([91]++Lib.decDigits n.toNat++[93]:LU)=gapT n:=by simp [gapT]
    rw [et] at hw';refine hk w' (fun k=>k=b∨bk oa2 k∨bk none k) (by rw [ea];exact ⟨oa2,none,_,oc2,0,hw',fun k=>Iff.rfl⟩) ?_ fun k hk=>?_
    ·exact qbd (hc35.trans (.of_ext ev)) cw' fun k hk hh=>by
      rcases n35 k hh with h' | h'
      ·exact h'
      ·omega
    ·rcases hk with hk | hk | hk
     ·exact .inl (hO k (.inl hk))
     ·exact n35 k hk
     ·simp [bk] at hk
   have lst:∀ v1,BsAt v1 b oa2 none (shut st++[⟨[],[],q,flI u st.j st.v 2,nm⟩]) [] false true false (.pointer none) oc2 0→∀ R':EP,(∀ g w',oa2=some ⟨g,0,none⟩→BsAt w' b oa2 none (shut st++[⟨[],[],q,flI u st.j st.v 2,nm⟩]) [] false true false (.pointer none) oc2 0→Ext v1 w'→R' (.returned (.pointer (some ⟨g,(shut st).length * 6,none⟩))) w') →
     Calls prog 131 ⟨[.pointer (some ⟨b,0,none⟩)]⟩ v1 R':=fun v1 hv R' hR=>qfu hv (by rw [qgm];omega) hR
   have ito:∀ (v1:World) (R':EP),R' (.returned (sV (Lib.decDigits n.toNat))) v1→Calls prog 59 ⟨[iV n]⟩ v1 R':=by
    intro v1 R' hR;have hmm:n=((n.toNat:Nat):Int):=by omega
    have hI:=Tryz.strconv_Itoa_small n.toNat (by omega) v1;rw [← hmm] at hI;refine hI.mono ?_;rintro _ _ ⟨rfl,rfl⟩;exact hR
   refine ⟨?_,⟨?_,⟨_,(blk7 B35).2.2.1,?_,trivial⟩,trivial⟩,trivial⟩
   ·refine lst w35 h35 _ fun g w37 hg h37 e37=>⟨_,rfl,_,(blk7 (B35.ext e37)).2.2.1,?_,trivial⟩;exact ito w37 _ ⟨_,rfl,fin w37 g hg h37 e37⟩
   ·refine lst w35 h35 _ fun g w37 hg h37 e37=>⟨_,rfl,_,(blk7 (B35.ext e37)).2.2.1,?_,trivial⟩;exact ito w37 _ ⟨_,rfl,fin w37 g hg h37 e37⟩
   ·refine lst w35 h35 _ fun g w37 hg h37 e37=>⟨_,rfl,?_,trivial⟩;exact ito w37 _ ⟨_,rfl,fin w37 g hg h37 e37⟩
  refine ⟨u,(blk7 B22).2.2.2.2.2.1,?_⟩;cases u
  ·simp only [br_f];exact k23
  ·simp only [br_t];exact k23
 | brk x =>
  obtain ⟨c,n,q,u,nm,rfl⟩:=hE;apply qbx;refine qg fun b9 w10 hb9 B9 e10 s10=>?_;have h10:=h.ext e10;have nO:¬ O b9:=fun hh=>by have:=h.own hh;omega
  have z10:=e10.size;obtain ⟨d0,_⟩:=blk7 B9;have k1:¬ (if x=true then (5:Int) else 4)=1:=by cases x <;> decide
  have k6:¬ (if x=true then (5:Int) else 4)=6:=by cases x <;> decide
  refine ⟨_,d0,qb (fun hh=>absurd hh k1) (fun _=>qb (fun hh=>absurd hh k6) (fun _=>?_))⟩;refine end_st h10 hs (by omega) fun oa oc w71 h71 hO c71=>⟨rfl,?_⟩;have B71:=c71.blk B9 nO;unfold drw;have ed:=qn w71;have h72:=h71.ext ed;have B72:=B71.ext ed;have hc72:Chg O w w71.drew:=(((Chg.of_ext e10).trans c71).trans (.of_ext ed));generalize w71.drew=w72 at *;have fin:∀ w78,BsAt w78 b oa none (shut st) [] false false (st.v||x) (.pointer none) oc 0→Chg (fun k=>k=b) w72 w78→R (.returned (.tuple ⟨[]⟩)) w78:=by
   intro w78 h78 c78;refine hk w78 (fun k=>k=b∨bk oa k∨bk none k) ⟨oa,none,_,oc,0,h78,fun k=>Iff.rfl⟩ (hc72.trans (c78.mono fun k _ hk=>hO k (.inl hk))) fun k hk=>.inl ?_;rcases hk with hk | hk | hk
   ·exact hO k (.inl hk)
   ·exact hO k (.inr hk)
   ·simp [bk] at hk
  refine dr_ok ⟨_,h72.cells.2.2.2,?_⟩;cases hv:st.v with
  | true =>
   simp only [br_t];rw [hv] at h72 fin;have two:stL w72 ((⟨b,0,none⟩:Addr).add 4) 0 [bV false] fun w76=>dr (some (⟨b,0,none⟩:Addr)) fun p77=>(stL w76 (p77.add 5) 0 [bV true] fun w78=>R (.returned (.tuple ⟨[]⟩)) w78)∧True:=by
    refine h72.setJ false fun w76 h76 c76 s76=>dr_ok ⟨?_,trivial⟩;refine h76.setV true fun w78 h78 c78 s78=>?_;rw [Bool.true_or] at fin;exact fin w78 h78 (c76.trans c78)
   exact ⟨dr_ok ⟨two,trivial⟩,dr_ok ⟨⟨two,trivial⟩,⟨⟨two,trivial⟩,two,trivial⟩,trivial⟩,trivial⟩
  | false =>
   simp only [br_f];rw [hv] at h72 fin;rw [Bool.false_or] at fin;have e5:decide ((if x=true then (5:Int) else 4)=5)=x:=by cases x <;> rfl
   have nb:b9≠b:=by omega
   have two:stL w72 ((⟨b,0,none⟩:Addr).add 4) 0 [bV false] fun w76=>dr (some (⟨b,0,none⟩:Addr)) fun p77=>(stL w76 (p77.add 5) 0 [bV (decide ((if x=true then (5:Int) else 4)=5))] fun w78=>R (.returned (.tuple ⟨[]⟩)) w78)∧True:=by
    refine h72.setJ false fun w76 h76 c76 s76=>dr_ok ⟨?_,trivial⟩;rw [e5];refine h76.setV x fun w78 h78 c78 s78=>fin w78 h78 (c76.trans c78)
   have two':stL w72 ((⟨b,0,none⟩:Addr).add 4) 0 [bV false] fun w76=>∃ (x104:Int),World.cell? w76 ((⟨b9,0,none⟩:Addr).add 0)=some (iV x104)∧(dr (some (⟨b,0,none⟩:Addr)) fun p77=>(stL w76 (p77.add 5) 0 [bV (decide ((x104:Int)=5))] fun w78=>R (.returned (.tuple ⟨[]⟩)) w78)∧True):=by
    refine h72.setJ false fun w76 h76 c76 s76=>⟨_,(blk7 (c76.blk B72 nb)).1,dr_ok ⟨?_,trivial⟩⟩;rw [e5];refine h76.setV x fun w78 h78 c78 s78=>fin w78 h78 (c76.trans c78)
   have d0:=(blk7 B72).1;exact ⟨⟨_,d0,dr_ok ⟨two,trivial⟩⟩,dr_ok ⟨⟨_,d0,two,trivial⟩,⟨⟨_,d0,two,trivial⟩,two',trivial⟩,trivial⟩,trivial⟩
end
def hasG (g m:Int):Bool:=decide (g / m % 2=1)
def wordG (g:Int):Bool:=!hasG g 2&&!hasG g 8
theorem q7q (u j v:Bool) (base:Int) (hb:base=0∨base=2∨base=8) :
  0≤flI u j v base∧flI u j v base≤31∧hasG (flI u j v base) 1=u∧hasG (flI u j v base) 2=decide (base=2)∧hasG (flI u j v base) 4=v∧hasG (flI u j v base) 8=decide (base=8)∧hasG (flI u j v base) 16=j:=by
 rcases hb with rfl | rfl | rfl <;> cases u <;> cases j <;> cases v <;> decide
def gapB (s:LU):Bool:=(List.range 64).any fun i=>decide (gapT ((i:Int) + 1)=s)
def markB:LU→Bool
 | [c]=>decide (kd c=5)||decide (kd c=4)
 | _=>false
def normB (s:LU):Bool:=decide (s≠[])&&decide (s.length≤64)&&s.all innC
def qd8 (s:LU):Bool:=decide (s=[])||qaa s
def textB (x:Tok):Bool :=
 if hasG x.g 2=true then gapB x.t&&decide (x.m=x.t) else if hasG x.g 8=true then markB x.t&&decide (x.m=x.t) else qu x.t&&normB x.m
def tokE (x:Tok):Int :=
 if x.g < 0∨31 < x.g then 2 else if hasG x.g 2=true∧hasG x.g 8=true then 8 else if textB x=false then 11 else if x.p.2 < 0 then 2
 else if qd8 x.p.1=false∨qd8 x.a=false then 14 else 0
theorem kd_bd (c:UInt8):0≤kd c∧kd c≤6:=by
 unfold kd kindF
 repeat' split
 all_goals omega
theorem inn_kd {c:UInt8} (h:innC c=true):1≤kd c∧kd c≤4:=by
 unfold innC letB at h;simp only [Bool.or_eq_true,beq_iff_eq,decide_eq_true_eq] at h;omega
structure Raw (x:Tok):Prop where
 g0:0≤x.g
 g1:x.g≤31
 p:plOk x.p
 a:x.a=[]∨qaa x.a=true
 m:x.m=[]
 k:(hasG x.g 2=true∧hasG x.g 8=false∧∃ n:Int,1≤n∧n≤64∧x.t=gapT n)∨(hasG x.g 2=false∧hasG x.g 8=true∧∃ c,x.t=[c]∧(kd c=4∨kd c=5)) ∨
  (hasG x.g 2=false∧hasG x.g 8=false∧∃ c s,x.t=c :: s∧letB c=true∧mkS false (c :: s)=true∧∀ d∈s,innC d=true)
theorem qox:∀ (n:Nat) (l:List Am) (j v:Bool),l.length≤n→okA false l→∀ x∈divF j v l,Raw x
 | _,[],j,v,_,_,x,hx=>by rw [divF] at hx;cases hx
 | 0,_ :: _,_,_,h,_,_,_=>absurd h (by simp)
 | n + 1,.brk b :: r,j,v,hl,h,x,hx=>by
  rw [divF] at hx;exact qox n r _ _ (by simpa using hl) h x hx
 | n + 1,.gap m p u nm :: r,j,v,hl,⟨h1,h2,h3,h4⟩,x,hx=>by
  rw [divF] at hx;rcases mem_cons.1 hx with rfl | hx
  ·obtain ⟨f1,f2,_,f3,_,f4,_⟩:=q7q u j v 2 (by simp);exact ⟨f1,f2,h2,h3,rfl,.inl ⟨f3,f4,m,h1.1,h1.2,rfl⟩⟩
  ·exact qox n r _ _ (by simpa using hl) h4 x hx
 | n + 1,.ch c p u nm :: r,j,v,hl,⟨h1,h2,h3,h4,h5⟩,x,hx=>by
  have hl':r.length≤n:=by simpa using hl
  have h2':kd c≠2:=fun h=>absurd (h2 h) (by decide);rw [divF] at hx;by_cases h6:kd c=6
  ·rw [if_pos h6] at hx;exact qox n r _ _ hl' (by simpa [h6] using h5) x hx
  ·rw [if_neg h6] at hx;by_cases hlt:letB c=true
   ·rw [if_pos hlt] at hx;obtain ⟨i1,i2,i3⟩:=okA_run h5;rcases mem_cons.1 hx with rfl | hx
    ·obtain ⟨f1,f2,_,f3,_,f4,_⟩:=q7q (u||(r.takeWhile inA).any unA) j v 0 (by simp);refine ⟨f1,f2,h3,h4,rfl,.inr (.inr ⟨f3,f4,c,_,rfl,hlt,?_,i3⟩)⟩;rw [mkS,if_neg h2'];simp only [h2',decide_false,Bool.or_false] at i1;simp [h1,i1]
    ·exact qox n _ _ _ (by have:=qku inA r;omega) i2 x hx
   ·rw [if_neg hlt] at hx;have hk:=kd_bd c;have hk2:kd c=4∨kd c=5:=by
     have:¬ (kd c=1∨kd c=3):=fun hh=>hlt ((qcv c).2 hh);omega
    rcases mem_cons.1 hx with rfl | hx
    ·obtain ⟨f1,f2,_,f3,_,f4,_⟩:=q7q u j v 8 (by simp);exact ⟨f1,f2,h3,h4,rfl,.inr (.inl ⟨f3,f4,c,rfl,hk2⟩)⟩
    ·refine qox n r _ _ hl' ?_ x hx;have e:(decide (kd c=1)||decide (kd c=2))=false:=by rcases hk2 with h | h <;> rw [h] <;> rfl
     rw [e] at h5;exact h5
theorem gap_all {n:Int} (h1:1≤n) (h2:n≤64):gapB (gapT n)=true:=by
 unfold gapB;rw [any_eq_true];refine ⟨(n - 1).toNat,by rw [mem_range];omega,?_⟩;rw [show (((n - 1).toNat:Nat):Int) + 1=n by omega];simp
theorem word_ok {c:UInt8} {s:LU} (h1:letB c=true) (h2:mkS false (c :: s)=true) (h3:∀ d∈s,innC d=true) (hl:(c :: s).length≤64):qu (c :: s)=true:=by
 unfold qu;have e1:qa1 (c :: s)=0:=checkC_mk.2 ⟨by omega,h2⟩;have e2:(c :: s).all (fun c=>decide (kd c≤4))=true:=by
  rw [all_eq_true];intro d hd;rcases mem_cons.1 hd with rfl | hd
  ·exact decide_eq_true (inn_kd (q7i h1)).2
  ·exact decide_eq_true (inn_kd (h3 d hd)).2
 rw [e2,decide_eq_true e1,decide_eq_true hl];simp [h1]
theorem gap_word (n:Int):qu (gapT n)=false:=by
 unfold qu gapT;have:letB 91=false:=by decide
 simp [this]
theorem mark_word {c:UInt8} (h:kd c=4∨kd c=5):qu [c]=false:=by
 unfold qu;have:letB c=false:=by
  cases hl:letB c with
  | false=>rfl
  | true=>rcases (qcv c).1 hl with h' | h' <;> omega
 simp [this]
def setM (x:Tok) (m:LU):Tok:={ x with m:=m }
theorem Raw.ok {x:Tok} (h:Raw x) (hl:x.t.length≤64) {m:LU} (hm:if wordG x.g=true then normB m=true else m=x.t):tokE (setM x m)=0∧(qu x.t=wordG x.g):=by
 have hnp:qd8 x.p.1=true:=by unfold qd8;rcases h.p.2 with e | e <;> simp [e]
 have hna:qd8 x.a=true:=by unfold qd8;rcases h.a with e | e <;> simp [e]
 have hp:=h.p.1;have h0:=h.g0;have h1:=h.g1;unfold tokE setM textB;simp only;rw [if_neg (by omega)];rcases h.k with ⟨k1,k2,n,n1,n2,n3⟩ | ⟨k1,k2,c,c1,c2⟩ | ⟨k1,k2,c,s,c1,c2,c3,c4⟩
 ·have hw:wordG x.g=false:=by unfold wordG;rw [k1];rfl
  rw [hw] at hm ⊢;have hm:m=x.t:=by simpa using hm
  rw [if_neg (by rw [k1,k2];decide),k1];simp only [if_true,hm,n3,gap_all n1 n2,decide_true,Bool.and_true];refine ⟨?_,gap_word n⟩;rw [if_neg (by decide),if_neg (by omega),if_neg (by rw [hnp,hna];decide)]
 ·have hw:wordG x.g=false:=by unfold wordG;rw [k1,k2];rfl
  rw [hw] at hm ⊢;have hm:m=x.t:=by simpa using hm
  have hmk:markB [c]=true:=by unfold markB;rcases c2 with e | e <;> simp [e]
  rw [if_neg (by rw [k1,k2];decide),k1,k2];simp only [Bool.false_eq_true,if_false,if_true,hm,c1,hmk,decide_true,Bool.and_true];refine ⟨?_,mark_word c2⟩;rw [if_neg (by decide),if_neg (by omega),if_neg (by rw [hnp,hna];decide)]
 ·have hw:wordG x.g=true:=by unfold wordG;rw [k1,k2];rfl
  rw [hw,if_pos rfl] at hm;rw [hw];have hwd:qu x.t=true:=by rw [c1] at hl ⊢;exact word_ok c2 c3 c4 hl
  rw [if_neg (by rw [k1,k2];decide),k1,k2];simp only [Bool.false_eq_true,if_false,hwd,hm,Bool.and_true];refine ⟨?_,trivial⟩;rw [if_neg (by decide),if_neg (by omega),if_neg (by rw [hnp,hna];decide)]
theorem blk2' {w:World} {b:Nat} {v0 v1:Value} {T:TypeId} (h:Blk w b [v0,v1] T):w.cell? ((⟨b,0,none⟩:Addr).add 0)=some v0∧w.cell? ((⟨b,0,none⟩:Addr).add 1)=some v1:=by
 simp only [qd,h.cell];exact ⟨rfl,rfl⟩
theorem decRw (x y:Rw):(decide (x.1=y.1)&&(decide (x.2=y.2)&&true))=decide (x=y):=by
 rw [Bool.and_true,← Bool.decide_and,decide_eq_decide,Prod.ext_iff]
theorem get_rw {S:NP} {w:World} {a:OA} {n:Nat} {L:List Rw} (h:RowAt encRw S w a n L) {k:Nat} (hk:k < L.length) :
  ∃ q:Addr,(∀ K:Addr→Prop,K q→idx a n (k:Int) 2 K)∧w.cell? (q.add 0)=some (sV (L[k].1))∧w.cell? (q.add 1)=some (sV (L[k].2)):=by
 obtain ⟨bb,o,hq,_,_,hc⟩:=h.get (i:=k) (x:=L[k]) (List.getElem?_eq_getElem hk);exact ⟨⟨bb,o,none⟩,hq,by show _=_;rw [qd];exact hc 0 _ rfl,by show _=_;rw [qd];exact hc 1 _ rfl⟩
def cntP (kind:Int) (l:List Pl):Int:=((l.filter fun x=>decide (x.k=kind)).length:Int)
theorem cntP_snoc (kind:Int) (l:List Pl) (x:Pl):cntP kind (l++[x])=cntP kind l + if x.k=kind then 1 else 0:=by
 unfold cntP;rw [filter_append];by_cases h:x.k=kind <;> simp [h]
def cntF (kind:Int) (f:Fo):Nat:=(ofK kind f).length
theorem quf (kind:Int):∀ (f:Fo) (d:Nat) (b:Bool),f.depth + d≤16→cntP kind (qt f d b)=cntF kind f
 | .nil,_,_,_=>rfl
 | .cons k t n ps r,d,b,h=>by
  rw [Fo.depth_parts] at h;have i2:=quf kind r d (decide (k=1)) (by omega);have i1:cntP kind (qt ps (d + 1) false)=cntF kind ps:=by
   by_cases hp:ps.len=0
   ·rw [Fo.eq_nil_of_len hp];rfl
   ·rw [if_neg hp] at h;exact quf kind ps (d + 1) false (by omega)
  unfold cntF at i1 i2 ⊢;rw [ofK_cons];simp only [qt];rw [if_pos (by omega)];have e:∀ (x:Pl) (l m:List Pl),cntP kind (x :: (l++m))=(if x.k=kind then 1 else 0) + (cntP kind l + cntP kind m):=by
   intro x l m;unfold cntP;rw [List.filter_cons,filter_append];by_cases hx:x.k=kind <;> simp [hx] <;> omega
  rw [e,i1,i2];show (if k=kind then (1:Int) else 0) + _=_;by_cases hk:k=kind
  ·simp [hk];omega
  ·simp [hk]
def couE (kind:Int) (f:Fo):Int:=if qab f≠0 then 1 else if kind < 1∨11 < kind then 8 else 0
def couR (kind:Int) (f:Fo):Int:=if couE kind f≠0 then 0 else cntF kind f
theorem q1y {R:EP} {S:NP} {w:World} {a:OA} {n c:Nat} (kind:Int) (f:Fo) (hs:small f) (hF:Forms w) (hf0:SlF S w a n f)
  (h:∀ w',Ext w w'→R (.returned (.tuple ⟨[iV (couR kind f),iV (couE kind f)]⟩)) w'):Calls prog qg3 ⟨[lV a n c,iV kind]⟩ w R:=by
 apply qrl;unfold couR at h;refine qg fun b3 w4 hb3 B3 e4 s4=>?_;refine qdb f hs (hf0.ext e4) (hF.ext e4) fun w6 e6=>⟨_,rfl,qb (fun g=>?_) (fun g=>?_)⟩
 ·have he:couE kind f=1:=by unfold couE;rw [if_pos g]
  rw [he] at h;exact h _ (qa e4 e6)
 have hc0:qab f=0:=Decidable.not_not.1 g;obtain ⟨q1,q2,q3⟩:=qbn hc0;have hdep:f.depth≤16:=by
  unfold qab at hc0;split at hc0
  ·rename_i hh;exact hh.2
  ·cases hc0
 have hcn:=quf kind f 0 false (by omega);have E6:=qa e4 e6;have B3':=B3.ext e6;intro K8 hK8;have k8:1≤kind→kind≤11→K8 0 0 w6:=by
  intro hk1 hk2;have he:couE kind f=0:=by unfold couE;rw [if_neg g,if_neg (by omega)]
  rw [he] at h;refine hK8 _ _ _ fun _=>?_;refine qg fun b12 w13 hb12 B12 e13 s13=>?_;refine qr B12 rfl fun w14 B14 hc14 s14=>?_;have e14:Ext w6 w14:=qi e13 hc14 fun k hk=>by omega
  refine qon fun bs w16 Bs e16 hbs=>⟨_,_,_,rfl,fun base=>?_⟩;have e616:=qa e14 e16;have E16:=qa E6 e616;have z16:=E16.size;have z6:=E6.size;have z616:=e616.size;have ls:=Bs.lt;have l3:=B3'.lt;have hf:SlF (fun k=>S k∧k < w.heap.size) w a n f:=hf0.imp fun k hk hl=>⟨hk,hl⟩;rw [qkz];have B3'':=B3'.ext e616;refine RFw_count qee qea (gf:=qae) rfl (by kernel_rfl) (xs:=qt f 0 false) (E:=PlE (fun k=>(S k∧k < w.heap.size)∨k=bs) w16) (Rd:=fun k=>(S k∧k < w.heap.size)∨k=bs)
   (fun v1 he=>(places_iterO f hs bs v1 (fun k hk=>by have:=he.size;omega) (Bs.ext he) ((hf.ext (qa E16 he)).imp fun k hk _=>.inl hk) (.inr rfl)).mono ?_) (fun y vs hE=>by obtain ⟨a',c',rfl,_⟩:=hE;rfl) (by decide) (fun k hk=>by omega)
   (w0:=w6) e616 (b5:=b12) (by omega) (fun hk=>by omega) (cntP kind) (B14.ext e16) ?_ ?_
  ·rintro x vs ⟨a',c',rfl,hsl⟩;exact ⟨a',c',rfl,hsl.keep' fun k hk hl=>⟨hk,by omega,((he.block k (by omega))).symm⟩⟩
  ·rintro pre ⟨k1,t1,m1,ps1,d1,x1⟩ vs W l ⟨a',c',rfl,hsl⟩ hpre hl1 hl2 hl3 g1 g3 Kn Kr Kx hK;refine Eq.mpr (qkp base _ _ _ _ _ _ _ _ _ _ _ _ _ _ _ _ _ _ _ _) ?_;refine round_in hl2 (by simp) (by intro u hu;simp only [mem_cons,not_mem_nil,or_false] at hu;rcases hu with rfl | rfl | rfl | rfl | rfl | rfl <;> rfl) fun bx W1 W2 hbx _ hX2 hc2 s2=>?_;obtain ⟨x0,x1'⟩:=blk6 hX2;have B2:=hc2.blk g1 hl3;have E2:=qi g3 hc2 fun k hk=>by omega
   have hk3:=B3'.ext E2;have hpl:pre.length≤f.size:=by
    have h1:=hpre.length_le;have h2:=qiy f 0 false;simp at h1;omega
   have hcp:0≤cntP kind pre∧cntP kind pre≤pre.length:=by
    unfold cntP;have:=List.length_filter_le (fun x:Pl=>decide (x.k=kind)) pre
    omega
   have hv:=cntP_snoc kind pre ⟨k1,t1,m1,ps1,d1,x1⟩;refine ⟨k1,x0,dr_ok ⟨kind,by show _=_;rw [hk3.cell];rfl,qb (fun q=>?_) (fun q=>?_)⟩⟩
   ·refine dr_ok ⟨_,by show _=_;rw [B2.cell];rfl,dr_ok (qr B2 rfl fun W3 r3 hc3 s3=>hK _ _ E2 hc3 ?_)⟩;rw [hv,if_pos (show (⟨k1,t1,m1,ps1,d1,x1⟩:Pl).k=kind from q)];rw [qo (by omega)] at r3;exact r3
   ·refine hK _ _ E2 (Chg.refl _ _) ?_;rw [hv,if_neg (show ¬ (⟨k1,t1,m1,ps1,d1,x1⟩:Pl).k=kind from q),Int.add_zero];exact B2
  ·intro D W hD1 hD2 hD3 hD4 g1 g3;rw [hcn] at g1;exact ⟨_,by show _=_;rw [g1.cell];rfl,qbw hD4 (h _ (qch (qa E6 g3) (by omega) _))⟩
 have bad:(kind < 1∨11 < kind)→R (.returned (.tuple ⟨[iV 0,iV 8]⟩)) w6:=by
  intro hh;have he:couE kind f=8:=by unfold couE;rw [if_neg g,if_pos hh]
  rw [he] at h;exact h _ E6
 refine ⟨kind,by show _=_;rw [B3'.cell];rfl,qb (fun g1=>bad (.inl g1)) (fun g1=>⟨kind,by show _=_;rw [B3'.cell];rfl,qb (fun g2=>bad (.inr g2)) (fun g2=>k8 (by omega) (by omega))⟩)⟩
theorem qrb (i:Int) (k t n ps r):cntF i (.cons k t n ps r)=(if k=i then 1 else 0) + (cntF i ps + cntF i r):=by
 unfold cntF ofK;rw [nodesF,List.filter_cons,filter_append];split <;> rename_i h
 ·have:k=i:=by simpa using h
  simp [this];omega
 ·have:¬ k=i:=by simpa using h
  simp [this]
theorem posN_line (p:Ps) (x:Nn) (h:0≤p.2):(posN p x).1.2≤p.2 + (if x.k=2 then 1 else 0)∧0≤(posN p x).1.2∧(x.k≠3→(posN p x).1.1=p.1):=by
 unfold posN;by_cases h1:x.k=1
 ·simp [h1,h]
 ·by_cases h6:x.k=6
  ·simp [h6,h]
  ·by_cases h3:x.k=3
   ·simp [h3,h]
   ·by_cases h2:x.k=2
    ·simp [h2];omega
    ·simp [h1,h6,h3,h2,h]
theorem qkt:∀ (f:Fo) (p:Ps),0≤p.2→(endL p (nodesF f)).2≤p.2 + cntF 2 f∧0≤(endL p (nodesF f)).2∧(cntF 3 f=0→(endL p (nodesF f)).1=p.1)
 | .nil,p,h=>⟨by show p.2≤p.2 + _;omega,h,fun _=>rfl⟩
 | .cons k t n ps r,p,h=>by
  obtain ⟨a1,a2,a3⟩:=posN_line p ⟨k,t,n,ps⟩ h;obtain ⟨b1,b2,b3⟩:=qkt ps _ a2;obtain ⟨c1,c2,c3⟩:=qkt r _ b2;rw [nodesF,endL,qmg,qrb,qrb];refine ⟨?_,c2,fun h3=>?_⟩
  ·have:(posN p ⟨k,t,n,ps⟩).1.2≤p.2 + (if k=2 then 1 else 0):=a1;by_cases hk:k=2
   ·rw [if_pos hk] at this ⊢;omega
   ·rw [if_neg hk] at this ⊢;omega
  ·have hk3:¬ k=3:=fun e=>by simp [e] at h3
   rw [c3 (by split at h3 <;> omega),b3 (by split at h3 <;> omega),a3 hk3]
def qad (s:LU):Bool:=s.all innC
def qbg (x:Rw):Int :=
 if x.1=[]∨x.2=[] then 5 else if 64 < x.1.length∨64 < x.2.length then 4 else if qad x.1=false∨qad x.2=false then 11
 else if x.1.length < x.2.length∨(x.2.length=x.1.length∧Op.bytesLess x.2 x.1=false) then 24 else 0
def qcb:List Rw→Int
 | []=>0
 | x :: r=>if qbg x≠0 then qbg x else qcb r
def ruleE (l:List Rw):Int:=if 64 < l.length then 4 else qcb l
def hitB (w u:LU) (i:Nat):Bool:=decide (i + u.length≤w.length)&&decide ((w.drop i).take u.length=u)
def putW (w:LU) (x:Rw) (i:Nat):LU:=w.take i++(x.2++w.drop (i + x.1.length))
def qax (rs:List Rw) (w:LU) (i:Nat):List (LU):=(rs.filter fun x=>hitB w x.1 i).map fun x=>putW w x i
def resW (rs:List Rw) (w:LU):List (LU):=(List.range w.length).flatMap (qax rs w)
def stepW (rs:List Rw) (w:LU):Option (LU):=(resW rs w).head?
def qdf (rs:List Rw):Nat→LU→Option (LU)
 | 0,w=>match stepW rs w with
  | none=>some w
  | some _=>none
 | n + 1,w=>match stepW rs w with
  | none=>some w
  | some s=>qdf rs n s
def rwE (rs:List Rw) (w:LU):Int:=if ruleE rs≠0 then 1 else if 64 < w.length then 4 else if qad w=false then 11 else if (qdf rs 4095 w).isNone=true then 4 else 0
def rwR (rs:List Rw) (w:LU):LU:=if rwE rs w≠0 then [] else (qdf rs 4095 w).getD []
theorem qzb:∀ {l:List Rw},qcb l=0→∀ x∈l,qbg x=0
 | [],_,_,hx=>by cases hx
 | y :: l,h,x,hx=>by
  rw [qcb] at h;split at h
  ·rename_i hh;exact absurd h hh
  ·rename_i hh;rcases mem_cons.1 hx with rfl | hx
   ·exact Decidable.not_not.1 hh
   ·exact qzb h x hx
theorem q5g {x:Rw} (h:qbg x=0):x.2≠[]∧x.1≠[]∧qad x.2=true∧x.2.length≤x.1.length∧x.1.length≤64:=by
 unfold qbg at h;split at h
 ·cases h
 split at h
 ·cases h
 split at h
 ·cases h
 split at h
 ·cases h
 rename_i h1 h2 h3 h4;simp only [not_or] at h1 h2 h3 h4;exact ⟨h1.2,h1.1,by simpa using h3.2,by omega,by omega⟩
theorem q94 {rs:List Rw} {w s:LU} (hr:qcb rs=0) (hw:qad w=true) (h:s∈resW rs w):qad s=true∧s≠[]∧s.length≤w.length:=by
 unfold resW qax at h;simp only [List.mem_flatMap,mem_range,mem_map,List.mem_filter] at h;obtain ⟨i,hi,x,⟨hx,hh⟩,rfl⟩:=h;obtain ⟨r1,r2,r3,r4,r5⟩:=q5g (qzb hr x hx);unfold hitB at hh;rw [Bool.and_eq_true,decide_eq_true_eq,decide_eq_true_eq] at hh;unfold putW;unfold qad at hw r3 ⊢;rw [all_eq_true] at hw;refine ⟨?_,?_,?_⟩
 ·rw [List.all_append,List.all_append,r3,Bool.true_and,Bool.and_eq_true,all_eq_true,all_eq_true];exact ⟨fun c hc=>hw c (List.mem_of_mem_take hc),fun c hc=>hw c (List.mem_of_mem_drop hc)⟩
 ·intro e;have h1:=congrArg List.length e;have h2:=List.length_pos_iff.2 r1;rw [length_append,length_append,length_nil] at h1;omega
 ·simp only [length_append,length_take,List.length_drop];omega
def nrmE (rs:List Rw):List Tok→Int
 | []=>0
 | x :: r=>if wordG x.g=true∧rwE rs x.t≠0 then rwE rs x.t else nrmE rs r
def nrmT (rs:List Rw) (x:Tok):Tok:=setM x (if wordG x.g=true then rwR rs x.t else x.t)
def cutT (p:Ps) (f:Fo):List Tok:=divF false false (amsF p f false [])
def longT (l:List Tok):Bool:=decide (1024 < l.length)||l.any fun x=>decide (64 < x.t.length)
def tksE (p:Ps) (f:Fo) (rs:List Rw):Int :=
 if qab f≠0∨ruleE rs≠0 then 1 else if p.2 < 0∨4096 < p.2 then 2 else if qd8 p.1=false then 14 else if cntF 8 f + cntF 9 f≠0 then 13
 else if longT (cutT p f)=true then 4 else nrmE rs (cutT p f)
def tksR (p:Ps) (f:Fo) (rs:List Rw):List Tok:=if tksE p f rs≠0 then [] else (cutT p f).map (nrmT rs)
structure TksOk (p:Ps) (f:Fo) (rs:List Rw):Prop where
 c:qab f=0
 r:ruleE rs=0
 p0:0≤p.2
 p1:p.2≤4096
 nm:qd8 p.1=true
 cl:cntF 8 f + cntF 9 f=0
 lg:longT (cutT p f)=false
 n:nrmE rs (cutT p f)=0
theorem tks_ok {p:Ps} {f:Fo} {rs:List Rw} (h:tksE p f rs=0):TksOk p f rs∧tksR p f rs=(cutT p f).map (nrmT rs):=by
 have h0:=h;unfold tksE at h;split at h
 ·cases h
 split at h
 ·cases h
 split at h
 ·cases h
 split at h
 ·cases h
 split at h
 ·cases h
 rename_i h1 h2 h3 h4 h5;simp only [not_or,Decidable.not_not] at h1 h4;refine ⟨⟨h1.1,h1.2,by omega,by omega,by simpa using h3,h4,by simpa using h5,h⟩,?_⟩;unfold tksR;rw [if_neg (by rw [h0];simp)]
section
variable {R:EP} {w:World}
theorem q9x (s:LU) (k:Nat) (h:k < s.length):qad (s.take (k + 1))=(qad (s.take k)&&innC s[k]):=by
 unfold qad;rw [take_succ_eq_append_getElem h,List.all_append];simp
theorem inn_of {c:UInt8}:innC c=decide (kd c=1∨kd c=2∨kd c=3∨kd c=4):=by
 unfold innC letB;rw [Bool.eq_iff_iff];simp only [Bool.or_eq_true,beq_iff_eq,decide_eq_true_eq];omega
theorem q9w (s:LU) (k:Nat) (h:k < s.length) (hn:innC s[k]=false):qad s=false:=by
 unfold qad;rw [List.all_eq_false];exact ⟨s[k],getElem_mem h,by rw [hn];decide⟩
theorem qnx (s:LU) (hs:s.length≤4611686018427387904) (h:R (.returned (bV (qad s))) w):Calls prog qg8 ⟨[sV s]⟩ w R:=by
 apply qrq;refine ⟨fun i W m=>∃ k:Nat,i=k∧k≤s.length∧m=s.length - k∧qad (s.take k)=true∧W=w,⟨_,0,rfl,by omega,rfl,by rw [List.take_zero];rfl,rfl⟩,?_⟩;rintro _ W m ⟨k,rfl,hk,rfl,hw,rfl⟩ _;refine qb (fun hlt=>?_) (fun hge=>?_)
 ·have hkl:k < s.length:=by omega
  refine qbi hkl ?_;refine qcs _ ⟨_,rfl,?_⟩;have yes:(kd s[k]=1∨kd s[k]=2∨kd s[k]=3∨kd s[k]=4)→∃ m',m' < s.length - k∧∃ k':Nat,i64.wrap ((k:Int) + 1)=k'∧k'≤s.length∧m'=s.length - k'∧qad (s.take k')=true∧W=W:=fun hh =>
   ⟨s.length - (k + 1),by omega,k + 1,by rw [qj (by omega)],by omega,rfl,by rw [q9x s k hkl,hw,inn_of,decide_eq_true hh];rfl,rfl⟩
  refine qb (fun g1=>?_) (fun g1=>qb (fun g2=>?_) (fun g2=>qb (fun g3=>?_) (fun g3=>qb (fun g4=>?_) (fun g4=>?_))))
  ·rw [decide_eq_true g1];exact yes (.inl g1)
  ·rw [decide_eq_true g2];exact yes (.inr (.inl g2))
  ·rw [decide_eq_true g3];exact yes (.inr (.inr (.inl g3)))
  ·exact yes (.inr (.inr (.inr g4)))
  ·rw [q9w s k hkl (by rw [inn_of];exact decide_eq_false (by omega))] at h;exact h
 ·rw [take_of_length_le (by omega)] at hw;rw [hw] at h;exact h
theorem rwRight_spec (x:Rw) (h1:x.1.length≤4611686018427387904) (h2:x.2.length≤4611686018427387904) (h:∀ w',Ext w w'→R (.returned (iV (qbg x))) w'):Calls prog qik ⟨[.agg ⟨[sV x.1,sV x.2]⟩]⟩ w R:=by
 apply qut;refine qg fun b3 w4 hb3 B3 e4 s4=>?_;obtain ⟨c0,c1⟩:=blk2' B3;have H:∀ e:Int,qbg x=e→R (.returned (iV e)) w4:=fun e he=>by rw [← he];exact h w4 e4
 intro K5 hK5;have k5:∀ t:Bool,(t=true↔x.1=[]∨x.2=[])→K5 t w4:=by
  intro t ht;refine hK5 _ _ fun _=>qk (fun g=>H 5 (by unfold qbg;rw [if_pos (ht.1 g)])) (fun g=>?_);have n1:¬ (x.1=[]∨x.2=[]):=fun hh=>by rw [ht.2 hh] at g;cases g
  intro K8 hK8;have k8:∀ t:Bool,(t=true↔64 < x.1.length∨64 < x.2.length)→K8 t w4:=by
   intro t ht;refine hK8 _ _ fun _=>qk (fun g=>H 4 (by unfold qbg;rw [if_neg n1,if_pos (ht.1 g)])) (fun g=>?_);have n2:¬ (64 < x.1.length∨64 < x.2.length):=fun hh=>by rw [ht.2 hh] at g;cases g
   intro K11 hK11;have k11:∀ t:Bool,(t=true↔qad x.1=false∨qad x.2=false)→K11 t w4:=by
    intro t ht;refine hK11 _ _ fun _=>qk (fun g=>H 11 (by unfold qbg;rw [if_neg n1,if_neg n2,if_pos (ht.1 g)])) (fun g=>?_);have n3:¬ (qad x.1=false∨qad x.2=false):=fun hh=>by rw [ht.2 hh] at g;cases g
    have fin:∀ e,(if x.1.length < x.2.length∨(x.2.length=x.1.length∧Op.bytesLess x.2 x.1=false) then (24:Int) else 0)=e→R (.returned (iV e)) w4:=fun e he=>H e (by unfold qbg;rw [if_neg n1,if_neg n2,if_neg n3];exact he);refine ⟨_,c1,_,c0,qb (fun q=>fin 24 (if_pos (.inl (by omega)))) (fun q=>⟨_,c1,_,c0,qb (fun q2=>⟨_,c1,_,c0,qk (fun q3=>fin 24 (if_pos (.inr ⟨by omega,by simpa using q3⟩))) (fun q3=>fin 0 (if_neg ?_))⟩) (fun q2=>fin 0 (if_neg ?_))⟩)⟩
    ·rintro (hh | ⟨_,hh⟩)
     ·omega
     ·rw [hh] at q3;cases q3
    ·rintro (hh | ⟨hh,_⟩)
     ·omega
     ·exact q2 (by omega)
   refine ⟨_,c0,qnx _ h1 ⟨_,rfl,qk (fun g=>k11 true ?_) (fun g=>⟨_,c1,qnx _ h2 ⟨_,rfl,k11 _ ?_⟩⟩)⟩⟩
   ·have:qad x.1=false:=by simpa using g
    simp [this]
   ·have:qad x.1=true:=by simpa using g
    simp [this]
  refine ⟨_,c0,qb (fun g=>k8 true ?_) (fun g=>⟨_,c1,k8 _ ?_⟩)⟩
  ·simp;omega
  ·simp;omega
 refine ⟨_,c0,qb (fun g=>k5 true ?_) (fun g=>⟨_,c1,k5 _ ?_⟩)⟩
 ·simp [g]
 ·simp [g]
theorem qzc:∀ {l:List Rw} {k:Nat} (h:k < l.length),qcb (l.take k)=0→qbg l[k]≠0→qcb l=qbg l[k]
 | [],_,h,_,_=>absurd h (by simp)
 | x :: l,0,h,_,h2=>by
  have h2':qbg x≠0:=h2;rw [qcb,if_pos h2'];rfl
 | x :: l,k + 1,h,h1,h2=>by
  rw [List.take_succ_cons,qcb] at h1;have hx:¬ qbg x≠0:=by
   intro hh;rw [if_pos hh] at h1;exact hh h1
  rw [if_neg hx] at h1;rw [qcb,if_neg hx];exact qzc (l:=l) (k:=k) (by simpa using h) h1 h2
theorem qok:∀ {l:List Rw} {k:Nat} (h:k < l.length),qcb (l.take k)=0→qbg l[k]=0→qcb (l.take (k + 1))=0
 | [],_,h,_,_=>absurd h (by simp)
 | x :: l,0,h,_,h2=>by
  have h2':qbg x=0:=h2;rw [List.take_succ_cons,qcb,if_neg (by rw [h2'];simp),List.take_zero];rfl
 | x :: l,k + 1,h,h1,h2=>by
  rw [List.take_succ_cons,qcb] at h1;have hx:¬ qbg x≠0:=by
   intro hh;rw [if_pos hh] at h1;exact hh h1
  rw [if_neg hx] at h1;rw [List.take_succ_cons,qcb,if_neg hx];exact qok (l:=l) (k:=k) (by simpa using h) h1 h2
def qfw (rs:List Rw):Prop:=∀ x∈rs,x.1.length≤4611686018427387904∧x.2.length≤4611686018427387904
theorem qvl {S:NP} {a:OA} {n c:Nat} (rs:List Rw) (hsm:qfw rs) (hR:RowAt encRw S w a n rs) (h:∀ w',Ext w w'→R (.returned (iV (ruleE rs))) w'):Calls prog qim ⟨[lV a n c]⟩ w R:=by
 apply quw;have hn:=hR.1;refine qb (fun g=>?_) (fun g=>?_)
 ·have:ruleE rs=4:=by unfold ruleE;rw [if_pos (by omega)]
  rw [← this];exact h w bR
 have hE:ruleE rs=qcb rs:=by unfold ruleE;rw [if_neg (by omega)]
 rw [hE] at h;refine ⟨fun i W m=>∃ k:Nat,i=k∧k≤n∧m=n - k∧qcb (rs.take k)=0∧Ext w W,⟨_,0,rfl,by omega,rfl,rfl,bR⟩,?_⟩;rintro _ W m ⟨k,rfl,hk,rfl,hz,he⟩ _;refine qb (fun hlt=>?_) (fun hge=>?_)
 ·have hkl:k < rs.length:=by omega
  have hx:rs[k]? = some rs[k]:=by simp [hkl]
  obtain ⟨bb,o,hq,_,_,hc⟩:=(hR.ext he).get hx;refine hq _ ⟨_,by show _=_;rw [qd];exact hc 0 _ rfl,_,by show _=_;rw [qd];exact hc 1 _ rfl,?_⟩;refine qw rfl (by intro u hu;simp only [mem_cons,not_mem_nil,or_false] at hu;rcases hu with rfl | rfl <;> rfl) fun b10 w12 hb10 B10 e12 s12=>?_;obtain ⟨c0,c1⟩:=blk2' B10;obtain ⟨q1,q2⟩:=hsm rs[k] (getElem_mem hkl);refine ⟨_,c0,_,c1,rwRight_spec rs[k] q1 q2 fun w16 e16=>⟨_,rfl,qb (fun g1=>?_) (fun g1=>?_)⟩⟩
  ·rw [← qzc hkl hz g1];exact h w16 (qa (qa he e12) e16)
  ·exact ⟨n - (k + 1),by omega,k + 1,by rw [qj (by omega)],by omega,rfl,qok hkl hz (Decidable.not_not.1 g1),qa (qa he e12) e16⟩
 ·rw [take_of_length_le (by omega)] at hz;rw [hz] at h;exact h W he
def chkE (rs:List Rw) (s:LU):Int:=if ruleE rs≠0 then 1 else if 64 < s.length then 4 else if qad s=false then 11 else 0
theorem rwcheck_spec {S:NP} {a:OA} {n c:Nat} (rs:List Rw) (s:LU) (hsm:qfw rs) (hR:RowAt encRw S w a n rs) (h:∀ w',Ext w w'→R (.returned (iV (chkE rs s))) w'):Calls prog qil ⟨[lV a n c,sV s]⟩ w R:=by
 apply quu;refine qvl rs hsm hR fun w4 e4=>⟨_,rfl,?_⟩;have H:∀ e:Int,chkE rs s=e→R (.returned (iV e)) w4:=fun e he=>by rw [← he];exact h w4 e4
 refine qb (fun g=>H 1 (by unfold chkE;rw [if_pos g])) (fun g=>qb (fun g2=>H 4 (by unfold chkE;rw [if_neg g,if_pos (by omega)])) (fun g2=>?_));refine qnx s (by omega) ⟨_,rfl,qk (fun g3=>H 11 ?_) (fun g3=>H 0 ?_)⟩
 ·unfold chkE;rw [if_neg g,if_neg (by omega),if_pos (by simpa using g3)]
 ·unfold chkE;rw [if_neg g,if_neg (by omega),if_neg (by simpa using g3)]
theorem q41 (s u:LU) (h:R (.returned (.tuple ⟨[sV (if decide (u.length≤s.length)&&decide (s.take u.length=u) then s.drop u.length else s),bV (decide (u.length≤s.length)&&decide (s.take u.length=u))]⟩)) w) :
  Calls prog qgd ⟨[sV s,sV u]⟩ w R:=by
 apply qo5;apply qd1;have hp:∀ R':EP,R' (.returned (bV (decide (u.length≤s.length)&&decide (s.take u.length=u)))) w→Calls prog qbh ⟨[sV s,sV u]⟩ w R':=by
  intro R' hR;apply qd0;refine qb (fun g=>?_) (fun g=>?_)
  ·have hz:((0:Nat):Int)=0:=rfl;rw [← hz];refine qdg (by omega) (by omega) ?_;rw [List.drop_zero];rw [decide_eq_true (show u.length≤s.length by omega),Bool.true_and] at hR;exact hR
  ·rw [decide_eq_false (show ¬ u.length≤s.length by omega),Bool.false_and] at hR;exact hR
 refine hp _ ⟨_,rfl,qk (fun g=>?_) (fun g=>?_)⟩
 ·have g':(decide (u.length≤s.length)&&decide (s.take u.length=u))=false:=by
   rw [Bool.not_eq_true'] at g;exact g
  rw [g'] at h;exact ⟨_,_,rfl,h⟩
 ·have g':(decide (u.length≤s.length)&&decide (s.take u.length=u))=true:=by
   rw [Bool.not_eq_false'] at g;exact g
  have hl:u.length≤s.length:=by rw [Bool.and_eq_true,decide_eq_true_eq] at g';exact g'.1
  rw [g'] at h;refine qdg hl (Nat.le_refl _) ?_;rw [List.take_length];exact ⟨_,_,rfl,h⟩
theorem hit_eq (s u:LU) (k:Nat) (hk:k≤s.length):(decide (u.length≤(s.drop k).length)&&decide ((s.drop k).take u.length=u))=hitB s u k:=by
 unfold hitB;rw [List.length_drop,decide_eq_decide.2 (show u.length≤s.length - k↔k + u.length≤s.length by omega)]
theorem qnz (l:List Rw) (x:Rw) (s:LU) (k:Nat):qax (l++[x]) s k=qax l s k++if hitB s x.1 k=true then [putW s x k] else []:=by
 unfold qax;rw [filter_append,map_append]
 congr 1
 by_cases h:hitB s x.1 k=true
 ·simp [h]
 ·simp [h]
theorem q5c (l m:List Rw) (s:LU) (k:Nat):qax l s k <+: qax (l++m) s k:=by
 unfold qax;rw [filter_append,map_append];exact List.prefix_append _ _
theorem resW_pre (rs:List Rw) (s:LU) (k:Nat) (h:k < s.length):(List.range k).flatMap (qax rs s)++qax rs s k <+: resW rs s:=by
 have e:(List.range k).flatMap (qax rs s)++qax rs s k=(List.range (k + 1)).flatMap (qax rs s):=by rw [List.range_succ,List.flatMap_append];simp
 rw [e];unfold resW;obtain ⟨d,hd⟩:∃ d,s.length=(k + 1) + d:=⟨s.length - (k + 1),by omega⟩;rw [hd,List.range_add (n:=k + 1),List.flatMap_append];exact List.prefix_append _ _
theorem q61 {T:NP} (rs:List Rw) (s:LU) (hln:rs.length≤64) (hr:∀ x∈rs,x.1.length≤64∧x.2.length≤64) (hs:s.length≤64) {a:OA} {n c:Nat} (b5 b3:Nat) (w:World) (hTl:∀ k,T k→k < w.heap.size) (B5:Blk w b5 [sV s] 9) (B3:Blk w b3 [lV a n c] 23) (hR:RowAt encRw T w a n rs) (h5:T b5) (h3:T b3) :
  IterO prog qbe [.pointer (some ⟨b5,0,none⟩),.pointer (some ⟨b3,0,none⟩)] (resW rs s) (fun x vs=>vs=[sV x]) T w:=by
 intro yf ya yb S0 J Jx R hS hJ hJx hbody h0 hend hstop;apply qk5;have hn:=hR.1;refine dr_ok ⟨s,by show _=_;rw [B5.cell];rfl,?_⟩;refine ⟨fun i W m=>∃ (k:Nat) (S:NP),i=k∧k≤s.length∧m=s.length - k∧J ((List.range k).flatMap (qax rs s)) S W∧w.heap.size≤W.heap.size∧(∀ k,T k→W.heap[k]? = w.heap[k]?)∧(∀ k,S k→k < W.heap.size∧¬ T k),
  ⟨_,0,S0,rfl,by omega,rfl,h0,Nat.le_refl _,fun _ _=>rfl,hS⟩,?_⟩
 rintro _ W m ⟨k,S,rfl,hk,rfl,hj,hW,hT,hSW⟩ _;refine qb (fun hlt=>?_) (fun hge=>?_)
 ·have hkl:k < s.length:=by omega
  refine dr_ok ⟨a,n,c,by show _=_;rw [(B3.keep (hT b3 h3)).cell];rfl,?_⟩;refine ⟨fun i2 W2 m2=>∃ (j:Nat) (S2:NP),i2=j∧j≤n∧m2=n - j∧J ((List.range k).flatMap (qax rs s)++qax (rs.take j) s k) S2 W2∧w.heap.size≤W2.heap.size∧(∀ k,T k→W2.heap[k]? = w.heap[k]?)∧(∀ k,S2 k→k < W2.heap.size∧¬ T k),
   ⟨_,0,S,rfl,by omega,rfl,by rw [List.take_zero];simpa [qax] using hj,hW,hT,hSW⟩,?_⟩
  rintro _ W2 m2 ⟨j,S2,rfl,hjn,rfl,hj2,hW2,hT2,hS2⟩ _;refine qb (fun hl2=>?_) (fun hg2=>?_)
  ·have hjl:j < rs.length:=by omega
   have hx:rs[j]? = some rs[j]:=by simp [hjl]
   obtain ⟨r1,r2⟩:=hr rs[j] (getElem_mem hjl);obtain ⟨bb,o,hq,_,_,hc⟩:=(hR.keep (S':=T) (w':=W2) (fun k hk _=>⟨hk,hT2 k hk⟩) hW2).get hx;refine hq _ ⟨_,by show _=_;rw [qd];exact hc 0 _ rfl,_,by show _=_;rw [qd];exact hc 1 _ rfl,?_⟩;refine qw rfl (by intro u hu;simp only [mem_cons,not_mem_nil,or_false] at hu;rcases hu with rfl | rfl <;> rfl) fun b21 w23 hb21 B21 e23 s23=>?_;have z23:=e23.size;unfold drw;have ed:=qn w23;have zd:w23.drew.heap.size=w23.heap.size:=rfl;have B21:=B21.ext ed;have E24:=qa e23 ed;generalize w23.drew=w24 at *;have z24:=E24.size;have lT:∀ k,T k→k < W2.heap.size:=fun k hk=>by have:=hTl k hk;omega
   have hT24:∀ k,T k→w24.heap[k]? = w.heap[k]?:=fun k hk=>(E24.block k (lT k hk)).trans (hT2 k hk);obtain ⟨c0,c1⟩:=blk2' B21;refine dr_ok ⟨s,by show _=_;rw [(B5.keep (hT24 b5 h5)).cell];rfl,?_⟩;refine qdg (by omega) (Nat.le_refl _) ⟨_,c0,?_,trivial⟩;rw [List.take_length];refine q41 (s.drop k) rs[j].1 ⟨_,_,rfl,?_⟩;rw [hit_eq s _ k hk];have ed2:=qn w24;have B21':=B21.ext ed2;have E33:=qa E24 ed2;generalize w24.drew=w33 at *;show br (hitB s rs[j].1 k) _ _;have z33:=E33.size;have hT33:∀ k,T k→w33.heap[k]? = w.heap[k]?:=fun k hk=>(E33.block k (lT k hk)).trans (hT2 k hk);have hj33:=hJ _ _ _ _ hj2 (Chg.of_ext E33 (S:=fun k=>w.heap.size≤k∧¬ S2 k));have hS33:∀ k,S2 k→k < w33.heap.size∧¬ T k:=fun k hk=>⟨by have:=(hS2 k hk).1;omega,(hS2 k hk).2⟩;have htk:qax (rs.take (j + 1)) s k=qax (rs.take j) s k++if hitB s rs[j].1 k=true then [putW s rs[j] k] else []:=by
    rw [take_succ_eq_append_getElem hjl,qnz]
   cases hh:hitB s rs[j].1 k with
   | true =>
    simp only [br_t];refine dr_ok ⟨s,by show _=_;rw [(B5.keep (hT33 b5 h5)).cell];rfl,?_⟩;have hz0:((0:Nat):Int)=0:=rfl;rw [← hz0];refine qdg (by omega) (by omega) ⟨_,(blk2' B21').2,?_⟩;rw [List.drop_zero];simp only [if_true];refine ⟨by simp;omega,by simp;omega,?_,trivial⟩;have hput:s.take k++rs[j].2++(s.drop k).drop rs[j].1.length=putW s rs[j] k:=by unfold putW;rw [List.drop_drop,append_assoc]
    rw [hput];rw [hh,if_pos rfl] at htk;have hpx:((List.range k).flatMap (qax rs s)++qax (rs.take j) s k)++[putW s rs[j] k] <+: resW rs s:=by
     refine List.IsPrefix.trans ?_ (resW_pre rs s k hkl);rw [append_assoc,← htk];refine (List.prefix_append_right_inj _).2 ?_;have:=q5c (rs.take (j + 1)) (rs.drop (j + 1)) s k
     rwa [take_append_drop] at this
    refine qbr (hbody _ (putW s rs[j] k) _ S2 w33 rfl hpx (by omega) hS33 hj33) ?_;rintro e w41 ⟨hc2,S3,hS3,hres⟩;have z41:=hc2.size;have hT41:∀ k,T k→w41.heap[k]? = w.heap[k]?:=fun k hk=>(hc2.block k (by have:=lT k hk;omega) fun hh=>(hS2 k hh).2 hk).trans (hT33 k hk);have hS3':∀ k,S3 k→k < w41.heap.size∧¬ T k:=fun k hk=>⟨(hS3 k hk).2,fun ht=>(hS3 k hk).1.elim (fun hh=>(hS2 k hh).2 ht) fun hh=>by have:=lT k ht;omega⟩;rcases hres with ⟨rfl,hj3⟩ | ⟨rfl,hjx⟩
    ·refine ⟨true,rfl,?_⟩;simp only [Bool.not_true,br_f];refine ⟨n - (j + 1),by omega,j + 1,S3,by rw [qj (by omega)],by omega,rfl,?_,by omega,hT41,hS3'⟩;rw [htk,← append_assoc];exact hj3
    ·refine ⟨false,rfl,?_⟩;simp only [Bool.not_false,br_t];exact hstop S3 _ (by omega) hjx
   | false =>
    simp only [br_f];rw [hh,if_neg (by decide),append_nil] at htk;exact ⟨⟨n - (j + 1),by omega,j + 1,S2,by rw [qj (by omega)],by omega,rfl,by rw [htk];exact hj33,by omega,hT33,hS33⟩,trivial⟩
  ·rw [take_of_length_le (by omega)] at hj2;refine ⟨s.length - (k + 1),by omega,k + 1,S2,by rw [qj (by omega)],by omega,rfl,?_,hW2,hT2,hS2⟩;have e:(List.range (k + 1)).flatMap (qax rs s)=(List.range k).flatMap (qax rs s)++qax rs s k:=by rw [List.range_succ,List.flatMap_append];simp
   rw [e];exact hj2
 ·have:k=s.length:=by omega
  subst this;exact hend S W hW hj
end
end Go.Proofs