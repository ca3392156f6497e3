/- A part of the proof. -/
import Derived.Test.YtkecgnlelgdndaaGreatDoorLawK
set_option linter.all false
set_option maxRecDepth 40000
namespace Go.Proofs
open Go Go.Sh Go.RowKit Go.Proofs.Tryz IntKind List
def okG:Am→Prop
 | .ch c _ _ _=>kd c≠0
 | .gap n _ _ _=>1≤n∧n≤64
 | .brk _=>True
theorem q69:∀ {l:List Am} {b:Bool},okA b l→∀ x∈l,okG x
 | [],_,_,x,hx=>by cases hx
 | .ch c p u nm :: r,b,h,x,hx=>by
  rcases mem_cons.1 hx with rfl | hx
  ·exact h.1
  ·exact q69 h.2.2.2.2 x hx
 | .gap n p u nm :: r,b,h,x,hx=>by
  rcases mem_cons.1 hx with rfl | hx
  ·exact h.1
  ·exact q69 h.2.2.2 x hx
 | .brk v :: r,b,h,x,hx=>by
  rcases mem_cons.1 hx with rfl | hx
  ·trivial
  ·exact q69 (show okA false r from h) x hx
theorem ch_pos {c:UInt8} (h:kd c≠0):(c.toNat:Int)≠0:=by
 intro h0;apply h;unfold kd;rw [h0];rfl
def nnT (x:Tok):Tok:=setM x x.t
theorem q93:∀ {r:List Am} {s:Nat},(∀ y∈r.take s,inA y=true)→(s=r.length∨∃ y,r[s]? = some y∧inA y=false)→r.takeWhile inA=r.take s∧r.dropWhile inA=r.drop s
 | [],s,_,_=>by simp
 | y :: r,0,_,h2=>by
  rcases h2 with h2 | ⟨z,hz,hi⟩
  ·cases h2
  ·simp only [List.getElem?_cons_zero,Option.some.injEq] at hz;subst hz;simp [hi]
 | y :: r,s + 1,h1,h2=>by
  have hy:inA y=true:=h1 y (by simp);have ih:=q93 (r:=r) (s:=s) (fun z hz=>h1 z (by simp [hz])) (by
   rcases h2 with h2 | ⟨z,hz,hi⟩
   ·left;simpa using h2
   ·right;exact ⟨z,by simpa using hz,hi⟩)
  simp [hy,ih.1,ih.2]
section
variable {R:EP} {w:World}
theorem one7 {c0 n0 ln0:Int} {v0 u0:Bool} {nm0 pg0:LU}:∀ u∈([.int .u8 c0,iV n0,bV v0,bV u0,sV nm0,sV pg0,iV ln0]:LV),u.oneCell'=true:=by
 intro u hu;simp only [mem_cons,not_mem_nil,or_false] at hu;rcases hu with rfl | rfl | rfl | rfl | rfl | rfl | rfl <;> rfl
theorem divide_spec {S:NP} {a:OA} {n c:Nat} (l:List Am) (hok:∀ x∈l,okG x) (hl:l.length≤1000000) (hR:RowAt encSg S w a n l)
  (h:∀ a' n' c' w',OwnL encTk w' w.heap.size 69 a' n' c' ((divF false false l).map nnT)→Ext w w'→R (.returned (lV a' n' c')) w') :
  Calls prog qnj ⟨[lV a n c]⟩ w R:=by
 apply q3g;have hn:=hR.1;refine ⟨fun oa on oc j v i W m=>∃ (k:Nat) (d:List Tok),i=k∧k≤n∧m=n - k∧OwnL encTk W w.heap.size 69 oa on oc (d.map nnT)∧divF false false l=d++divF j v (l.drop k)∧(j=true→d≠[])∧d.length≤k∧Ext w W,
  ⟨_,0,[],rfl,by omega,rfl,Owns.nil _ _ _ _,by simp,by simp,by simp,bR⟩,?_⟩
 rintro oa on oc j v _ W m ⟨k,d,rfl,hk,rfl,hO,hdv,hj,hdl,he⟩ _;have hon:=OwnL.length hO;rw [length_map] at hon;have zW:=he.size;refine qb (fun hlt=>?_) (fun hge=>?_)
 ·have hkl:k < l.length:=by omega
  have hdr:l.drop k=l[k] :: l.drop (k + 1):=drop_eq_getElem_cons hkl;have hox:=hok l[k] (getElem_mem hkl);obtain ⟨bb,o,hq,_,_,hc⟩:=(hR.ext he).get (show l[k]? = some l[k] by simp [hkl]);rw [hdr] at hdv;generalize hx:l[k]=x at *;obtain ⟨x0,x1,x2,x3,x4,x5,x6,hx7,hA⟩:∃ (c0 n0:Int) (v0 u0:Bool) (nm0 pg0:LU) (ln0:Int),q70 x=[.int .u8 c0,iV n0,bV v0,bV u0,sV nm0,sV pg0,iV ln0] ∧
    ((x=.brk v0∧c0=0∧n0=0)∨(x=.gap n0 (pg0,ln0) u0 nm0∧c0=0∧1≤n0∧n0≤64)∨∃ ch:UInt8,x=.ch ch (pg0,ln0) u0 nm0∧c0=ch.toNat∧n0=0∧kd ch≠0):=by
   cases x with
   | ch ch p u nm=>exact ⟨_,_,_,_,_,_,_,rfl,.inr (.inr ⟨ch,rfl,rfl,rfl,hox⟩)⟩
   | gap n p u nm=>exact ⟨_,_,_,_,_,_,_,rfl,.inr (.inl ⟨rfl,rfl,hox⟩)⟩
   | brk v=>exact ⟨_,_,_,_,_,_,_,rfl,.inl ⟨rfl,rfl,rfl⟩⟩
  have cx:∀ i v,(q70 x)[i]? = some v→W.cell? ((⟨bb,o,none⟩:Addr).add i)=some v:=fun i v hv=>by rw [qd];exact hc i v hv
  rw [hx7] at cx;refine hq _ ⟨_,cx 0 _ rfl,_,cx 1 _ rfl,_,cx 2 _ rfl,_,cx 3 _ rfl,_,cx 4 _ rfl,_,cx 5 _ rfl,_,cx 6 _ rfl,?_⟩;refine qw rfl one7 fun b18 w20 hb18 B18 e20 s20=>?_;have E20:=qa he e20;have z20:=e20.size;have X:∀ v,Ext w20 v→∀ i,v.cell? ((⟨b18,0,none⟩:Addr).add i)=([.int .u8 x0,iV x1,bV x2,bV x3,sV x4,sV x5,iV x6]:LV)[i]?:=fun v ev i=>by show _=_;rw [qd,(B18.ext ev).cell];simp
  have r0:=Below.refl w20.heap.size w20;have step:∀ (j' v':Bool) (V:World),Ext w20 V→divF j v (x :: l.drop (k + 1))=divF j' v' (l.drop (k + 1))→j'=false→∃ m',m' < n - k∧∃ (k':Nat) (d':List Tok),i64.wrap ((k:Int) + 1)=k'∧k'≤n∧m'=n - k'∧OwnL encTk V w.heap.size 69 oa on oc (d'.map nnT)∧divF false false l=d'++divF j' v' (l.drop k')∧(j'=true→d'≠[])∧d'.length≤k'∧Ext w V:=by
   intro j' v' V eV hd hj';exact ⟨n - (k + 1),by omega,k + 1,d,by rw [qj (by omega)],by omega,rfl,Owns.ext (Owns.ext hO e20) eV,by rw [hdv,hd],fun hh=>(by rw [hj'] at hh;cases hh),by omega,qa E20 eV⟩
  intro K21 hK21;have k21t:x=.brk x2→K21 true w20:=by
   intro hxb;refine hK21 _ _ fun _=>?_;simp only [br_t];unfold drw;have ed:=qn w20;refine qk (fun hv=>?_) (fun hv=>⟨_,X _ ed 2,?_⟩)
   ·exact step false true _ ed (by rw [hxb,divF,hv];rfl) rfl
   ·exact step false x2 _ ed (by rw [hxb,divF,hv,Bool.false_or]) rfl
  have k21f:(∀ b,x≠.brk b)→K21 false w20:=by
   intro hnb;refine hK21 _ _ fun _=>?_;simp only [br_f];intro K28 hK28;have k28t:∀ ch,x=.ch ch (x5,x6) x3 x4→kd ch=6→∀ V,Ext w20 V→K28 true V:=by
    intro ch hxc h6 V eV;refine hK28 _ _ fun _=>?_;simp only [br_t];exact step false v V eV (by rw [hxc,divF,if_pos h6]) rfl
   have k28f:(∀ ch p u nm,x=.ch ch p u nm→kd ch≠6)→∀ V,Ext w20 V→K28 false V:=by
    intro hns V eV;refine hK28 _ _ fun _=>?_;simp only [br_f];have a50:((⟨b18,0,none⟩:Addr).add 5).add 0=(⟨b18,0,none⟩:Addr).add 5:=by simp only [qd]
    have a51:((⟨b18,0,none⟩:Addr).add 5).add 1=(⟨b18,0,none⟩:Addr).add 6:=by simp only [qd]
    refine ⟨_,by show _=_;rw [a50];exact X V eV 5,_,by show _=_;rw [a51];exact X V eV 6,_,X V eV 4,?_⟩;refine qw rfl (by intro u hu;simp only [mem_cons,not_mem_nil,or_false] at hu;rcases hu with rfl | rfl | rfl | rfl | rfl | rfl <;> rfl) fun b35 w37 hb35 B35 e37 s37=>?_;have F37:=qa eV e37;have E37:=qa E20 F37;have zV:=(qa E20 eV).size;have O37:OwnL encTk w37 w.heap.size 69 oa on oc (d.map nnT):=Owns.ext (Owns.ext hO e20) F37;have hob:∀ i,bk oa i→¬ i=b35:=fun i hi hh=>by
     have:=(hO.bk hi).2
     have:=eV.size
     omega
    have hwb:w.heap.size≤b35:=by omega
    refine ⟨_,X _ F37 3,?_⟩;intro K39 hK39;have k39:∀ (un:Bool) (q:Nat) (tx:LU) (base:Int) (V:World),1≤q→k + q≤n→(base=0∨base=2∨base=8)→divF j v (x :: l.drop (k + 1))=⟨tx,[],(x5,x6),flI un j v base,x4⟩ :: divF true false (l.drop (k + q)) →
      Blk V b35 [sV tx,sV ([]),sV x5,iV x6,iV base,sV x4] 69→OwnL encTk V w.heap.size 69 oa on oc (d.map nnT)→Ext w V→K39 un (q:Int) V:=by
     intro un q tx base V hq1 hqn hbase hdq BV OV EV;refine hK39 _ _ _ fun _=>?_;intro K43 hK43;have k43:∀ (g:Int) (V:World),g=base + (if un=true then 1 else 0)→Blk V b35 [sV tx,sV ([]),sV x5,iV x6,iV g,sV x4] 69→OwnL encTk V w.heap.size 69 oa on oc (d.map nnT)→Ext w V→K43 V:=by
      intro g V hg BV OV EV;refine hK43 _ fun _=>?_;intro K45 hK45;have k45:∀ (g:Int) (V:World),g=base + (if un=true then 1 else 0) + (if v=true then 4 else 0)→Blk V b35 [sV tx,sV ([]),sV x5,iV x6,iV g,sV x4] 69→OwnL encTk V w.heap.size 69 oa on oc (d.map nnT)→Ext w V→K45 V:=by
       intro g V hg BV OV EV;refine hK45 _ fun _=>?_;intro K47 hK47;have k47:∀ (g:Int) (V:World),g=flI un j v base→Blk V b35 [sV tx,sV ([]),sV x5,iV x6,iV g,sV x4] 69→OwnL encTk V w.heap.size 69 oa on oc (d.map nnT)→Ext w V→K47 V:=by
        intro g V hg BV OV EV;refine hK47 _ fun _=>⟨_,(blk6' BV).1,?_⟩;refine qap BV (i:=1) (by simp) rfl fun w50 B50 c50 s50=>?_;have B50':Blk w50 b35 [sV tx,sV tx,sV x5,iV x6,iV g,sV x4] 69:=B50;obtain ⟨y0,y1,y2,y3,y4,y5⟩:=blk6' B50';refine ⟨_,y0,_,y1,_,y2,_,y3,_,y4,_,y5,?_⟩;refine qg fun b57 w58 hb57 B57 e58 s58=>?_;have E50:=qi EV c50 fun i hi=>by omega
        have z58:=(qa E50 e58).size;have B57':Blk w58 b57 (encTk.enc (nnT ⟨tx,[],(x5,x6),g,x4⟩)) 69:=B57;have O58:=Owns.ext (OV.chg c50 hob) e58;refine OwnL.app1 (P:=prog) slT_tok O58 (by omega) B57' (by omega) (by omega) fun a' c'' w60 ho hcg hn2=>?_;refine ⟨n - (k + q),by omega,k + q,d++[⟨tx,[],(x5,x6),flI un j v base,x4⟩],by rw [qo (by omega)];omega,by omega,rfl,?_,?_,fun _=>by simp,by simp;omega,qi (qa E50 e58) hcg fun i hi=>(O58.bk hi).1⟩
        ·rw [map_append,List.map_singleton,← hg];exact ho
        ·rw [hdv,hdq];simp
       intro K62 hK62;have k62:K62 j V:=by
        refine hK62 _ _ fun _=>qk (fun hj1=>?_) (fun hj1=>k47 g V (by rw [hg,hj1];unfold flI;simp) BV OV EV);refine ⟨_,(blk6' BV).2.2.2.2.1,?_⟩;refine qap BV (i:=4) (by simp) rfl fun w66 B66 c66 s66=>?_;refine k47 _ w66 ?_ B66 (OV.chg c66 hob) (qi EV c66 fun i hi=>by omega);have:0≤g∧g≤31:=by rw [hg];rcases hbase with rfl | rfl | rfl <;> cases un <;> cases v <;> decide
        rw [qo (by omega),hg,hj1];unfold flI;simp
       refine qk (fun hj1=>?_) (fun hj1=>by rw [hj1] at k62;exact k62);have hne:=hj hj1;have h0:0 < d.length:=by cases d with | nil=>exact absurd rfl hne | cons _ _=>simp
       rw [decide_eq_true (by omega)];rw [hj1] at k62;exact k62
      refine qk (fun hv1=>⟨_,(blk6' BV).2.2.2.2.1,?_⟩) (fun hv1=>k45 g V (by rw [hg,hv1];simp) BV OV EV);refine qap BV (i:=4) (by simp) rfl fun w68 B68 c68 s68=>?_;refine k45 _ w68 ?_ B68 (OV.chg c68 hob) (qi EV c68 fun i hi=>by omega);have:0≤g∧g≤31:=by rw [hg];rcases hbase with rfl | rfl | rfl <;> cases un <;> decide
      rw [qo (by omega),hg,hv1];simp
     refine qk (fun hu1=>⟨_,(blk6' BV).2.2.2.2.1,?_⟩) (fun hu1=>k43 base V (by rw [hu1];simp) BV OV EV);refine qap BV (i:=4) (by simp) rfl fun w70 B70 c70 s70=>?_;refine k43 _ w70 ?_ B70 (OV.chg c70 hob) (qi EV c70 fun i hi=>by omega);rw [qo (by omega),hu1];simp
    refine ⟨_,X _ F37 1,qb (fun gpos=>⟨_,X _ F37 1,?_⟩) (fun gpos=>?_)⟩
    ·
     obtain ⟨hxg,_,g1,g64⟩:x=.gap x1 (x5,x6) x3 x4∧x0=0∧1≤x1∧x1≤64:=by
      rcases hA with ⟨_,_,hh⟩ | hh | ⟨_,_,_,hh,_⟩
      ·omega
      ·exact hh
      ·omega
     have hI:=Tryz.strconv_Itoa_small x1.toNat (by omega) w37;rw [show ((x1.toNat:Nat):Int)=x1 by omega] at hI;refine hI.mono ?_;rintro _ w74 ⟨rfl,hw74⟩;subst hw74;have hdl:=qdl x1.toNat (by omega);refine ⟨_,rfl,by simp;omega,by simp;omega,?_⟩;refine qap B35 (i:=0) (by simp) rfl fun w78 B78 c78 s78=>?_;refine qap B78 (i:=4) (by simp) rfl fun w79 B79 c79 s79=>?_;have egt:gapT x1=[91]++Lib.decDigits x1.toNat++[93]:=by unfold gapT;simp
     have B79':Blk w79 b35 [sV (gapT x1),sV ([]),sV x5,iV x6,iV 2,sV x4] 69:=by rw [egt];exact B79
     exact k39 x3 1 (gapT x1) 2 w79 (by omega) (by omega) (.inr (.inl rfl)) (by rw [hxg,divF]) B79' ((O37.chg c78 hob).chg c79 hob) (qi (qi E37 c78 fun i hi=>by omega) c79 fun i hi=>by omega)
    ·
     obtain ⟨ch,hxc,hx0,hx1,hkd⟩:∃ ch:UInt8,x=.ch ch (x5,x6) x3 x4∧x0=ch.toNat∧x1=0∧kd ch≠0:=by
      rcases hA with ⟨hh,_⟩ | ⟨_,_,hh,_⟩ | hh
      ·exact absurd hh (hnb _)
      ·omega
      ·exact hh
     have h6:=hns ch _ _ _ hxc;subst hx0;refine ⟨_,X _ F37 0,q8v ch ⟨_,rfl,qk (fun hlet=>⟨_,X _ F37 0,?_⟩) (fun hlet=>⟨_,X _ F37 0,?_⟩)⟩⟩
     ·refine qg fun b85 w86 hb85 B85 e86 s86=>?_;refine qla (qry B85) ?_;refine qap (B35.ext e86) (i:=0) (by simp) rfl fun w88 B88 c88 s88=>?_;have O88:=(Owns.ext O37 e86).chg c88 hob;have E88:=qi (qa E37 e86) c88 fun i hi=>by omega
      have hrl:(l.drop (k + 1)).length=n - (k + 1):=by rw [List.length_drop];omega
      have hrg:∀ s,(l.drop (k + 1))[s]? = l[k + 1 + s]?:=fun s=>by rw [List.getElem?_drop]
      have hrd:∀ s,(l.drop (k + 1)).drop s=l.drop (k + 1 + s):=fun s=>by rw [List.drop_drop]
      have hdc:divF j v (x :: l.drop (k + 1))=⟨ch :: ((l.drop (k + 1)).takeWhile inA).flatMap chA,[],(x5,x6),flI (x3||((l.drop (k + 1)).takeWhile inA).any unA) j v 0,x4⟩ :: divF true false ((l.drop (k + 1)).dropWhile inA):=by
       rw [hxc,divF,if_neg h6,if_pos hlet]
      generalize hr:l.drop (k + 1)=r at *;refine ⟨fun un q W2 m2=>∃ s:Nat,q=((s + 1:Nat):Int)∧k + 1 + s≤n∧m2=n - (k + 1 + s)∧un=(x3||(r.take s).any unA)∧(∀ y∈r.take s,inA y=true)∧Blk W2 b35 [sV (ch :: (r.take s).flatMap chA),sV ([]),sV x5,iV x6,iV 0,sV x4] 69∧OwnL encTk W2 w.heap.size 69 oa on oc (d.map nnT)∧Ext w W2,
       ⟨_,0,rfl,by omega,rfl,by simp,by simp,B88,O88,E88⟩,?_⟩
      rintro un _ W2 m2 ⟨s,rfl,hs,rfl,rfl,hall,BW,OW,EW⟩ _;have ei:i64.wrap ((k:Int) + ((s + 1:Nat):Int))=((k + 1 + s:Nat):Int):=by rw [qo (by omega)];omega
      have stop:(s=r.length∨∃ y,r[s]? = some y∧inA y=false)→K39 (x3||(r.take s).any unA) ((s + 1:Nat):Int) W2:=by
       intro hst;obtain ⟨t1,t2⟩:=q93 hall hst;refine k39 _ (s + 1) (ch :: (r.take s).flatMap chA) 0 W2 (by omega) (by omega) (.inl rfl) ?_ BW OW EW;rw [hdc,t1,t2,hrd,show k + (s + 1)=k + 1 + s by omega]
      have hfl:∀ t:List Am,(t.flatMap chA).length≤t.length:=by
       intro t
       induction t with
       | nil=>simp
       | cons y t ih =>
        rw [List.flatMap_cons,length_append,length_cons];have:(chA y).length≤1:=by cases y <;> simp [chA]
        omega
      have hfs:=hfl (r.take s);have hts:(r.take s).length≤s:=by rw [length_take];omega
      intro K95 hK95;have k95:∀ (c2:UInt8) (p2:Ps) (u2:Bool) (nm2:LU),l[k + 1 + s]? = some (.ch c2 p2 u2 nm2)→innC c2=true→k + 1 + s < n→K95 W2:=by
       intro c2 p2 u2 nm2 hy hin hlt2;refine hK95 _ fun _=>?_;intro K97 hK97;have hrt:r.take (s + 1)=r.take s++[.ch c2 p2 u2 nm2]:=by
        have:r[s]? = some (.ch c2 p2 u2 nm2):=by rw [hrg];exact hy
        rw [List.take_add_one,this];rfl
       have k97:∀ V:World,Blk V b35 [.string ⟨⟨ch :: (r.take (s + 1)).flatMap chA⟩⟩,sV ([]),sV x5,iV x6,iV 0,sV x4] 69→OwnL encTk V w.heap.size 69 oa on oc (d.map nnT)→Ext w V→K97 V:=by
        intro V q1 q2 q3;refine hK97 _ fun _=>?_;have fin:∀ un',un'=(x3||(r.take (s + 1)).any unA)→∃ m',m' < n - (k + 1 + s)∧∃ s':Nat,i64.wrap (((s + 1:Nat):Int) + 1)=((s' + 1:Nat):Int)∧k + 1 + s'≤n∧m'=n - (k + 1 + s')∧un'=(x3||(r.take s').any unA)∧(∀ y∈r.take s',inA y=true)∧Blk V b35 [sV (ch :: (r.take s').flatMap chA),sV ([]),sV x5,iV x6,iV 0,sV x4] 69∧OwnL encTk V w.heap.size 69 oa on oc (d.map nnT)∧Ext w V:=by
         intro un' hun;refine ⟨n - (k + 1 + (s + 1)),by omega,s + 1,by rw [qj (by omega)],by omega,rfl,hun,fun y hy2=>?_,q1,q2,q3⟩;rw [hrt] at hy2;rcases mem_append.1 hy2 with h1 | h1
         ·exact hall y h1
         ·rw [mem_singleton.1 h1];exact hin
        refine qk (fun hun=>fin true ?_) (fun hun=>?_)
        ·rw [hrt,any_append,← Bool.or_assoc,hun];rfl
        ·rw [ei];obtain ⟨bb2,o2,hq2,_,_,hc2⟩:=(hR.ext q3).get hy;refine hq2 _ ⟨u2,by show _=_;rw [qd];exact hc2 3 _ rfl,fin u2 ?_⟩;rw [hrt,any_append,← Bool.or_assoc,hun];simp [unA]
       unfold drw;have ed:=qn W2;have Bd:=BW.ext ed;have Od:=Owns.ext OW ed;have Ed:=qa EW ed;generalize W2.drew=Wd at *;rw [ei];obtain ⟨bb2,o2,hq2,_,_,hc2⟩:=(hR.ext Ed).get hy;refine hq2 _ ⟨(c2.toNat:Int),by show _=_;rw [qd];exact hc2 0 _ rfl,?_⟩;have etx:ch :: (r.take s).flatMap chA++[c2]=ch :: (r.take (s + 1)).flatMap chA:=by rw [hrt,List.flatMap_append];simp [chA]
       have fin2:∀ V,Ext Wd V→stL V ((⟨b35,0,none⟩:Addr).add 0) 0 [sV (ch :: (r.take s).flatMap chA++[c2])] fun w111=>K97 w111:=by
        intro V eV2;refine qap (Bd.ext eV2) (i:=0) (by simp) rfl fun w88 B88 c88 s88=>?_;rw [etx] at B88;exact k97 w88 B88 ((Owns.ext Od eV2).chg c88 hob) (qi (qa Ed eV2) c88 fun i hi=>by omega)
       constructor
       ·refine ⟨_,(blk6' Bd).1,⟨?_,trivial⟩⟩;refine qg fun b107 w108 hb107 B107 e108 s108=>⟨?_,trivial⟩;refine qla (qry B107) ⟨by simp only [length_cons,length_nil];omega,?_⟩;exact ⟨fin2 w108 e108,trivial⟩
       ·refine ⟨?_,trivial⟩;refine qg fun b107 w108 hb107 B107 e108 s108=>⟨?_,trivial⟩;refine qla (qry B107) ⟨_,(blk6' (Bd.ext e108)).1,⟨by simp only [length_cons,length_nil];omega,?_⟩⟩;exact ⟨fin2 w108 e108,trivial⟩
      rw [ei];refine qb (fun hlt2=>?_) (fun hge2=>stop (.inl (by rw [hrl];omega)));have hk2:k + 1 + s < l.length:=by omega
      have hy:l[k + 1 + s]? = some l[k + 1 + s]:=by simp [hk2]
      have hoy:=hok l[k + 1 + s] (getElem_mem hk2);generalize hyy:l[k + 1 + s]=y at *;obtain ⟨bb2,o2,hq2,_,_,hc2⟩:=(hR.ext EW).get hy;have hry:r[s]? = some y:=by rw [hrg];exact hy
      cases y with
      | ch c2 p2 u2 nm2 =>
       refine hq2 _ ⟨(c2.toNat:Int),by show _=_;rw [qd];exact hc2 0 _ rfl,qb (fun _=>?_) (fun hh=>absurd (ch_pos hoy) hh)⟩;refine hq2 _ ⟨(c2.toNat:Int),by show _=_;rw [qd];exact hc2 0 _ rfl,?_⟩;refine q56 c2 ⟨_,rfl,qk (fun hin=>k95 c2 p2 u2 nm2 hy hin (by omega)) (fun hin=>stop (.inr ⟨_,hry,hin⟩))⟩
      | gap n2 p2 u2 nm2 =>
       refine hq2 _ ⟨0,by show _=_;rw [qd];exact hc2 0 _ rfl,qb (fun hh=>absurd rfl hh) (fun _=>stop (.inr ⟨_,hry,rfl⟩))⟩
      | brk v2 =>
       refine hq2 _ ⟨0,by show _=_;rw [qd];exact hc2 0 _ rfl,qb (fun hh=>absurd rfl hh) (fun _=>stop (.inr ⟨_,hry,rfl⟩))⟩
     ·refine qg fun b126 w127 hb126 B126 e127 s127=>?_;refine qla (qry B126) ?_;refine qap (B35.ext e127) (i:=0) (by simp) rfl fun w129 B129 c129 s129=>?_;refine qap B129 (i:=4) (by simp) rfl fun w130 B130 c130 s130=>?_;have B130':Blk w130 b35 [sV ([ch]),sV ([]),sV x5,iV x6,iV 8,sV x4] 69:=B130;exact k39 x3 1 [ch] 8 w130 (by omega) (by omega) (.inr (.inr rfl)) (by rw [hxc,divF,if_neg h6,if_neg (by rw [hlet];decide)]) B130' (((Owns.ext O37 e127).chg c129 hob).chg c130 hob) (qi (qi (qa E37 e127) c129 fun i hi=>by omega) c130 fun i hi=>by omega)
   refine ⟨_,X _ r0 0,qb (fun hne=>⟨_,X _ r0 0,?_⟩) (fun heq=>k28f (fun ch p u nm hxc=>?_) w20 r0)⟩
   ·obtain ⟨ch,hxc,hx0,hx1,hkd⟩:∃ ch:UInt8,x=.ch ch (x5,x6) x3 x4∧x0=ch.toNat∧x1=0∧kd ch≠0:=by
     rcases hA with ⟨hh,_⟩ | ⟨_,hh,_⟩ | hh
     ·exact absurd hh (hnb _)
     ·exact absurd hh hne
     ·exact hh
    subst hx0;refine qb6 ch ⟨_,rfl,?_⟩;by_cases h6:kd ch=6
    ·rw [decide_eq_true h6];exact k28t ch hxc h6 w20 r0
    ·rw [decide_eq_false h6];refine k28f (fun ch' p u nm hxc'=>?_) w20 r0;rw [hxc] at hxc';injection hxc' with h1;rw [← h1];exact h6
   ·have heq:=Decidable.not_not.1 heq;rcases hA with ⟨hh,_⟩ | ⟨hh,_⟩ | ⟨ch',hh,h2,_,h4⟩
    ·exact absurd hh (hnb _)
    ·rw [hh] at hxc;cases hxc
    ·exact absurd (by rw [← h2];exact heq) (ch_pos h4)
  refine ⟨_,X _ r0 0,qb (fun h0=>⟨_,X _ r0 1,?_⟩) (fun h0=>k21f (fun b hxb=>?_))⟩
  ·by_cases h1:x1=0
   ·rw [decide_eq_true h1];refine k21t ?_;rcases hA with ⟨hh,_⟩ | ⟨_,_,hh,_⟩ | ⟨ch',_,h2,_,h4⟩
    ·exact hh
    ·omega
    ·exact absurd (by rw [← h2];exact h0) (ch_pos h4)
   ·rw [decide_eq_false h1];refine k21f fun b hxb=>?_;rcases hA with ⟨_,_,hh⟩ | ⟨hh,_⟩ | ⟨ch',hh,_⟩
    ·exact h1 hh
    ·rw [hh] at hxb;cases hxb
    ·rw [hh] at hxb;cases hxb
  ·rcases hA with ⟨_,hh,_⟩ | ⟨hh,_⟩ | ⟨ch',hh,_⟩
   ·exact h0 hh
   ·rw [hh] at hxb;cases hxb
   ·rw [hh] at hxb;cases hxb
 ·have hkn:k=l.length:=by omega
  subst hkn;rw [List.drop_length,divF,append_nil] at hdv;rw [hdv] at h;exact h oa on oc W hO he
end
theorem long_nnW (l:List Tok):longT (l.map nnT)=longT l:=by
 unfold longT;rw [length_map,List.any_map];rfl
theorem q7b (rs:List Rw):∀ l:List Tok,nrmE rs (l.map nnT)=nrmE rs l
 | []=>rfl
 | x :: l=>by rw [List.map_cons,nrmE,nrmE,q7b rs l];rfl
theorem nrmT_nnW (rs:List Rw) (l:List Tok):(l.map nnT).map (nrmT rs)=l.map (nrmT rs):=by
 rw [List.map_map];rfl
section
variable {R:EP} {w:World}
theorem q4r {S S2:NP} {a a2:OA} {n c n2 c2:Nat} (p:Ps) (f:Fo) (rs:List Rw) (hb:qab f=0→tlen f + f.size≤1000000) (hf:SlF S w a n f) (hsm:qfw rs) (hR:RowAt encRw S2 w a2 n2 rs)
  (h:∀ a' n' c' w',n'=(tksR p f rs).length→OwnL encTk w' w.heap.size 69 a' n' c' (tksR p f rs)→Ext w w'→R (.returned (.tuple ⟨[lV a' n' c',iV (tksE p f rs)]⟩)) w') :
  Calls prog qnl ⟨[.agg ⟨[sV p.1,iV p.2]⟩,lV a n c,lV a2 n2 c2]⟩ w R:=by
 apply q3i;refine qg fun b5 w6 hb5 B5 e6 s6=>?_;have bad:∀ (e:Int) (v:World),e≠0→tksE p f rs=e→Ext w v→R (.returned (.tuple ⟨[lV none 0 0,iV e]⟩)) v:=by
  intro e v he h0 hv;have hr:tksR p f rs=[]:=by unfold tksR;rw [h0,if_pos he]
  rw [hr,h0] at h;exact h none 0 0 v rfl (Owns.nil _ _ _ _) hv
 intro K7 hK7;refine qhc f (hf.ext e6) fun w39 e39=>⟨_,rfl,qb (fun g=>?_) (fun g=>?_)⟩
 ·refine bad 1 w39 (by decide) ?_ (qa e6 e39);unfold tksE;rw [if_pos (.inl g)]
 have hck:qab f=0:=Decidable.not_not.1 g;refine qwc rs hsm (hR.ext (qa e6 e39)) fun w42 e42=>⟨_,rfl,qb (fun g2=>?_) (fun g2=>hK7 w42 fun _=>?_)⟩
 ·refine bad 1 w42 (by decide) ?_ (qa e6 (qa e39 e42));unfold tksE;rw [if_pos (.inr g2)]
 have hru:ruleE rs=0:=Decidable.not_not.1 g2;have n1:¬ (qab f≠0∨ruleE rs≠0):=by rw [hck,hru];simp
 obtain ⟨q1,q2,q3⟩:=qbn hck;have hok:=qmh hck;have e642:=qa e39 e42;have E42:=qa e6 e642;intro K9 hK9;obtain ⟨d0,d1⟩:=blk2w (B5.ext e642);refine ⟨_,d1,qb (fun g3=>?_) (fun g3=>⟨_,d1,qb (fun g4=>?_) (fun g4=>hK9 w42 fun _=>?_)⟩)⟩
 ·refine bad 2 w42 (by decide) ?_ E42;unfold tksE;rw [if_neg n1,if_pos (.inl g3)]
 ·refine bad 2 w42 (by decide) ?_ E42;unfold tksE;rw [if_neg n1,if_pos (.inr g4)]
 have n2':¬ (p.2 < 0∨4096 < p.2):=by omega
 refine ⟨_,d0,named15_spec _ fun w13 e13=>⟨_,rfl,qk (fun g5=>?_) (fun g5=>?_)⟩⟩
 ·refine bad 14 w13 (by decide) ?_ (qa E42 e13);unfold tksE;rw [if_neg n1,if_neg n2',if_pos (by simpa using g5)]
 have n3:¬ qd8 p.1=false:=by simpa using g5
 have E13:=qa E42 e13;have e613:=qa e642 e13;obtain ⟨d0,d1⟩:=blk2w (B5.ext e613);have hlenA:=qvc f p false [];have hplo:plOk p:=⟨by omega,by
  have:qd8 p.1=true:=by simpa using n3
  unfold qd8 at this;rw [Bool.or_eq_true,decide_eq_true_eq] at this;exact this⟩
 have hoA:=qzm (u:=false) (nm:=[]) hok hplo (.inl rfl);refine ⟨_,d0,_,d1,signs_spec f p false [] (okF_nk hok) (by omega) (by omega) (by omega) (by omega) (hf.ext E13) fun sa sn sc w18 hO18 e18=>⟨_,_,_,_,_,_,rfl,?_⟩⟩;have E18:=qa E13 e18;refine qw rfl two_one fun b23 w25 hb23 B23 e25 s25=>?_;have E25:=qa E18 e25;rw [hdF_cnt];refine qb (fun g6=>?_) (fun g6=>?_)
 ·refine bad 13 w25 (by decide) ?_ E25;unfold tksE;rw [if_neg n1,if_neg n2',if_neg n3,if_pos g6]
 have hE:tksE p f rs=if longT (cutT p f)=true then 4 else nrmE rs (cutT p f):=by unfold tksE;rw [if_neg n1,if_neg n2',if_neg n3,if_neg g6]
 have hbb:=hb hck;refine divide_spec (amsF p f false []) (q69 hoA) (by omega) (OwnL.out (Owns.ext hO18 e25)) fun ta tn tc w27 hO27 e27=>⟨_,_,_,rfl,?_⟩;have E27:=qa E25 e27;have hsd:divF false false (amsF p f false [])=cutT p f:=rfl;rw [hsd] at hO27;have hR27:=OwnL.out hO27;refine q7h _ hR27 ⟨_,rfl,?_⟩;rw [long_nnW];by_cases hg:longT (cutT p f)=true
 ·rw [if_pos hg] at hE ⊢;rw [decide_eq_true (show (4:Int)≠0 by decide)];exact bad 4 w27 (by decide) hE E27
 ·rw [if_neg hg] at hE ⊢;rw [decide_eq_false (show ¬ (0:Int)≠0 by decide)];have hln:=OwnL.length hO27;have hlb:tn≤1024:=by
   rw [← hln,length_map];unfold longT at hg;rw [Bool.or_eq_true,not_or,decide_eq_true_eq] at hg;omega
  have hraw:=qox _ _ false false (Nat.le_refl _) hoA;refine qwx rs _ hsm (hR.ext E27) hR27 (fun x hx=>?_) (fun x hx _=>?_) (by omega) fun na nn nc w33 e33 hO33=>⟨_,_,_,_,rfl,?_⟩
  ·obtain ⟨y,hy,rfl⟩:=mem_map.1 hx;exact ⟨(hraw y hy).g0,(hraw y hy).g1⟩
  ·obtain ⟨y,hy,rfl⟩:=mem_map.1 hx;rfl
  rw [q7b,nrmT_nnW] at hO33;rw [q7b];have E33:=qa E27 e33;have hres:tksR p f rs=if nrmE rs (cutT p f)=0 then (cutT p f).map (nrmT rs) else []:=by
   unfold tksR;rw [hE];by_cases hz:nrmE rs (cutT p f)=0
   ·rw [if_neg (fun hh=>hh hz),if_pos hz]
   ·rw [if_pos hz,if_neg hz]
  rw [← hres] at hO33;rw [← hE];have hlen:=OwnL.length hO33;exact h na nn nc w33 hlen.symm (Owns.weak hO33 E27.size) E33
end
section
variable {R:EP} {w:World}
theorem placeI_dec (L:List Nm) (s:Nm):decide ((0:Int)≤qgp L s)=decide (s∈L):=by
 refine decide_eq_decide.2 ⟨fun hh=>Decidable.by_contra fun hn=>?_,fun hh=>?_⟩
 ·have:=placeI_mem.2 hn;omega
 ·exact Int.not_lt.1 fun hn=>placeI_mem.1 hn hh
theorem q4q {S S2:NP} {a a2:OA} {n c n2 c2:Nat} (L:List Wt) (rs:List Rw) (sec:Nm) (hs:∀ x∈L,x.2.size≤1000000) (hfw:∀ x∈L,witE x=0→FineW x.2) (hR:SlW S w a n L) (hsm:qfw rs) (hRu:RowAt encRw S2 w a2 n2 rs)
  (h:∀ a' n' c' a'' n'' c'' w',RowAt Sh.encStr (fun k=>w.heap.size≤k) w' a' n' (tokWS L rs sec)→RowsE encTk (fun k=>w.heap.size≤k) w' a'' n'' (tokWT L rs sec)→Ext w w'→R (.returned (.tuple ⟨[lV a' n' c',lV a'' n'' c'',iV (tokWE L rs sec)]⟩)) w') :
  Calls prog qng ⟨[lV a n c,lV a2 n2 c2,sV sec]⟩ w R:=by
 apply q3d;have bad:∀ (e:Int) (v:World),Ext w v→tokWE L rs sec=e→e≠0→R (.returned (.tuple ⟨[lV none 0 0,lV none 0 0,iV e]⟩)) v:=by
  intro e v ev he h0;have h1:tokWS L rs sec=[]:=by unfold tokWS;rw [if_neg (by omega)]
  have h2:tokWT L rs sec=[]:=by unfold tokWT;rw [if_neg (by omega)]
  rw [h1,h2,he] at h;exact h none 0 0 none 0 0 v (RowAt.nil _) ⟨rfl,[],.inl rfl,rfl⟩ ev
 refine qnb L hs hR fun xa xn xc w5 hX e5=>⟨_,_,_,_,rfl,qb (fun g=>bad _ w5 e5 (by unfold tokWE;rw [if_pos g]) g) (fun g=>?_)⟩;have g0:srcE L=0:=Decidable.not_not.1 g;obtain ⟨gc,gl,gn⟩:=qp2 g0;obtain ⟨hl32,hwit⟩:=qhy gc;have hsr:srcR L=allS L 0:=by unfold srcR;rw [if_pos g0]
 rw [hsr] at hX;have hXR:=(OwnL.out (E:=encSr) hX);have hxn:=hXR.1;have z5:=e5.size;have hlx:∀ j,bk xa j→j < w5.heap.size:=fun j hj=>(hX.bk hj).2;have htE:tokWE L rs sec=if selS L sec=[] then 6 else firE ((selS L sec).map (tkE1 L rs sec)):=by unfold tokWE;rw [if_neg g]
 refine qg fun b8 w9 hb8 B8 e9 s9=>qg fun b10 w11 hb10 B10 e11 s11=>?_;have z9:=e9.size;have rdW:∀ {v:World} {y:Src},y∈allS L 0→Ext w v→∃ q a' c',(∀ K:Addr→Prop,K q→idx a n y.2.1 2 K)∧v.cell? (q.add 0)=some (sV ((witOf L y).1))∧v.cell? (q.add 1)=some (.slice a' (witOf L y).2.len c')∧SlF S v a' (witOf L y).2.len (witOf L y).2:=fun {v y} hy hv=>by
  obtain ⟨wi,y1,y2,y3,y4⟩:=qp1 hy;rw [y1];exact (hR.ext hv).get y2
 refine ⟨fun found i W m=>∃ k:Nat,i=k∧k≤xn∧m=xn - k∧found=((allS L 0).take k).any (hasS L sec)∧Ext w11 W,⟨_,0,rfl,by omega,rfl,rfl,bR⟩,?_⟩;rintro _ _ W0 m ⟨k,rfl,hk,rfl,rfl,he0⟩ _;have e511:Ext w5 W0:=qa e9 (qa e11 he0);have E0:=qa e5 e511;refine qb (fun hlt=>?_) (fun hge=>?_)
 ·have hkl:k < (allS L 0).length:=by omega
  have htk:(allS L 0).take (k + 1)=(allS L 0).take k++[(allS L 0)[k]]:=take_succ_eq_append_getElem hkl;refine qk (fun gf=>?_) (fun gf=>?_)
  ·exact ⟨xn - (k + 1),by omega,k + 1,by rw [qj (by omega)],by omega,rfl,by rw [htk,any_append,gf];rfl,he0⟩
  ·obtain ⟨q,hq,c0,c1,c2⟩:=qfv (hXR.ext e511) (show (allS L 0)[k]? = some (allS L 0)[k] by simp [hkl]);obtain ⟨q3,a3,c3,hq3,f0,f1,hf3⟩:=rdW (getElem_mem hkl) E0;obtain ⟨wi,y1,y2,_,_⟩:=qp1 (getElem_mem hkl);generalize (allS L 0)[k]=y at *;have hx:=hwit (witOf L y) (List.mem_of_getElem? y2);have hsl:=(qfi hx).1;refine hq _ ⟨_,c1,hq3 _ ⟨_,_,_,f1,qc7 _ (hs _ (List.mem_of_getElem? y2)) hf3 fun an nn nc w24 hN e24=>⟨_,_,_,rfl,?_⟩⟩⟩;have hNR:=OwnL.out hN;have hnn:=hNR.1;refine qc6 (secs (witOf L y).2) sec hNR (by omega) ⟨_,rfl,?_⟩;refine ⟨xn - (k + 1),by omega,k + 1,by rw [qj (by omega)],by omega,rfl,?_,qa he0 e24⟩;rw [htk,any_append,gf,Bool.false_or,List.any_cons,List.any_nil,Bool.or_false,placeI_dec];rfl
 rw [take_of_length_le (by omega)];refine qk (fun gf=>?_) (fun gf=>?_)
 ·have hno:selS L sec=[]:=by
   unfold selS;rw [List.filter_eq_nil_iff];intro y hy;have:=List.any_eq_false.1 (show (allS L 0).any (hasS L sec)=false by simpa using gf) y hy
   exact this
  exact bad 6 W0 E0 (by rw [htE,if_pos hno]) (by decide)
 have hselne:selS L sec≠[]:=by
  have:(allS L 0).any (hasS L sec)=true:=by simpa using gf
  obtain ⟨y,hy,hh⟩:=any_eq_true.1 this;exact List.ne_nil_of_mem (List.mem_filter.2 ⟨hy,hh⟩)
 clear hge hk k;refine ⟨fun sa sn sc ta tn tc i W m=>∃ (k:Nat) (vs:LV),i=k∧k≤xn∧m=xn - k∧OwnL Sh.encStr W w5.heap.size 9 sa sn sc ((((allS L 0).take k).filter (hasS L sec)).map (·.1))∧Owns W w5.heap.size 40 1 ta tn tc vs∧tn=sn ∧
   AllE encTk (fun j=>w5.heap.size≤j∧¬ bk sa j∧¬ bk ta j) W ((((allS L 0).take k).filter (hasS L sec)).map (tkR1 L rs sec)) vs∧(∀ j,bk sa j→¬ bk ta j)∧(∀ y∈((allS L 0).take k).filter (hasS L sec),tkE1 L rs sec y=0)∧Ext w5 W,
  ⟨_,0,[],rfl,by omega,rfl,Owns.made ((B8.ext e11).ext he0) (by omega),Owns.made (B10.ext he0) (by omega),rfl,rfl,fun j hj=>by simp [bk] at hj ⊢;omega,fun y hy=>by simp at hy,e511⟩,?_⟩
 rintro sa sn sc ta tn tc _ W m ⟨k,vs,rfl,hk,rfl,pS,pT,rfl,pA,pD,pE,he5⟩ _;have he:=qa e5 he5;have zW:=he5.size;have psl:=OwnL.length pS;have pfl:(((allS L 0).take k).filter (hasS L sec)).length≤k:=by
  refine Nat.le_trans (List.length_filter_le _ _) ?_;rw [length_take];omega
 rw [length_map] at psl;refine qb (fun hlt=>?_) (fun hge=>?_)
 ·have hkl:k < (allS L 0).length:=by omega
  have hget:(allS L 0)[k]? = some (allS L 0)[k]:=by simp [hkl]
  obtain ⟨q,hq,c0,c1,c2⟩:=qfv (hXR.ext he5) hget;have htk:(allS L 0).take (k + 1)=(allS L 0).take k++[(allS L 0)[k]]:=take_succ_eq_append_getElem hkl;have hdk:allS L 0=(allS L 0).take k++(allS L 0)[k] :: (allS L 0).drop (k + 1):=by
   conv=>lhs;rw [← take_append_drop k (allS L 0),drop_eq_getElem_cons hkl]
  have hmem:=getElem_mem hkl;obtain ⟨wi,y1,y2,y3,y4⟩:=qp1 (getElem_mem hkl);have hset:(allS L 0)[k]∈allS L 0:=hmem;have rdX:∀ {v:World},Ext w5 v→∃ q,(∀ K:Addr→Prop,K q→idx xa xn (k:Int) 3 K)∧v.cell? (q.add 0)=some (.string ⟨⟨((allS L 0)[k]).1⟩⟩)∧v.cell? (q.add 1)=some (iV ((allS L 0)[k]).2.1)∧v.cell? (q.add 2)=some (iV ((allS L 0)[k]).2.2):=fun hv=>qfv (hXR.ext hv) hget;clear hmem hget;generalize (allS L 0)[k]=y at *;have hx:=hwit (witOf L y) (List.mem_of_getElem? y2);have hsx:=hs (witOf L y) (List.mem_of_getElem? y2);have hxz:=qfh hx;obtain ⟨q3,a3,c3,hq3,f0,f1,hf3⟩:=rdW hset he;refine hq _ ⟨_,c1,hq3 _ ⟨_,f0,_,_,_,f1,?_⟩⟩;refine qw rfl one2 fun b42 w44 hb42 B42 e44 s44=>?_;obtain ⟨d0,d1⟩:=blk2w B42;have E44:=qa he e44;refine ⟨_,_,_,d1,qc7 _ (by omega) (hf3.ext e44) fun an nn nc w47 hN e47=>⟨_,_,_,rfl,?_⟩⟩;have hNR:=OwnL.out hN;have hnn:=hNR.1;have hsl:=(qfi hx).1;refine qc6 (secs (witOf L y).2) sec hNR (by omega) ⟨_,rfl,?_⟩;have e4447:=qa e44 e47;have E47:=qa he e4447;have E547:=qa he5 e4447;have z47:=e4447.size;refine qb (fun gs=>?_) (fun gs=>?_)
  ·have gs:sec∉secs (witOf L y).2:=placeI_mem.1 gs;have hfil:((allS L 0).take (k + 1)).filter (hasS L sec)=((allS L 0).take k).filter (hasS L sec):=by
    rw [htk,filter_append,List.filter_cons,if_neg (by unfold hasS;simpa using gs)];simp
   exact ⟨xn - (k + 1),by omega,k + 1,vs,by rw [qj (by omega)],by omega,rfl,by rw [hfil];exact Owns.ext pS e4447,Owns.ext pT e4447,rfl,by rw [hfil];exact pA.keep (fun j hj hl=>⟨hj,e4447.block j hl⟩) z47,pD,by rw [hfil];exact pE,E547⟩
  have gs:sec∈secs (witOf L y).2:=Decidable.by_contra fun hh=>gs (placeI_mem.2 hh);have hfil:((allS L 0).take (k + 1)).filter (hasS L sec)=((allS L 0).take k).filter (hasS L sec)++[y]:=by
   rw [htk,filter_append,List.filter_cons,if_pos (by unfold hasS;simpa using gs)];simp
  have hpe:parE (witOf L y) sec y.2.2=0:=by unfold parE;rw [if_neg (by rw [hx];simp),if_neg (by omega),if_pos gs]
  have hpR:parR (witOf L y) sec y.2.2=bodyS (stF (witOf L y).2 y.2.2) sec:=by unfold parR;rw [if_pos hpe]
  have hpP:parP (witOf L y) sec y.2.2=posS (stF (witOf L y).2 y.2.2) sec:=by unfold parP;rw [if_pos hpe]
  intro K53 hK53;have k53:∀ na nn nc b v,Ext w47 v→Blk v b [.string ⟨⟨(parP (witOf L y) sec y.2.2).1⟩⟩,iV (parP (witOf L y) sec y.2.2).2] 51→SlF (fun _=>True) v na nn (parR (witOf L y) sec y.2.2)→K53 na nn nc (some ⟨b,0,none⟩) v:=by
   intro na nn nc b v ev hB hP;refine hK53 na nn nc _ v fun _=>?_;rw [hpP] at hB;rw [hpR] at hP;obtain ⟨k0,k1⟩:=blk2w hB;have Ev:=qa E47 ev;refine dr_ok ⟨_,k0,_,k1,?_⟩;have hfb:=((hfw _ (List.mem_of_getElem? y2) hx).st y.2.2).body sec;refine q4r (posS (stF (witOf L y).2 y.2.2) sec) _ rs (fun _=>by have:=hfb.size;have:=hfb.tl;omega) hP hsm (hRu.ext Ev) fun ka kn kc w41 hkn hK e41=>⟨_,_,_,_,rfl,qb (fun gg=>?_) (fun gg=>?_)⟩
   ·refine bad _ w41 (qa Ev e41) ?_ gg;rw [htE,if_neg hselne];unfold selS
    conv=>lhs;arg 1;arg 2;arg 2;rw [hdk]
    rw [filter_append,List.filter_cons,if_pos (by unfold hasS;simpa using gs),map_append,List.map_cons];refine q7r _ _ (fun e he=>?_) gg;obtain ⟨y',hy',rfl⟩:=mem_map.1 he;exact pE y' hy'
   ·have gg0:tkE1 L rs sec y=0:=Decidable.not_not.1 gg;have eW41:Ext W w41:=qa e4447 (qa ev e41);have E41:=qa he5 eW41;have z41:=eW41.size;obtain ⟨q9,hq9,h90,_⟩:=rdX E41;refine hq9 _ ⟨_,h90,?_⟩;have qS:=Owns.ext pS eW41;have qT:=Owns.ext pT eW41;have hbS:∀ j,bk sa j→w5.heap.size≤j∧j < W.heap.size:=fun j hj=>pS.bk hj;have hbT:∀ j,bk ta j→w5.heap.size≤j∧j < W.heap.size:=fun j hj=>pT.bk hj;have hbK:∀ j,bk ka j→w47.heap.size≤j∧j < w41.heap.size:=fun j hj=>⟨by have:=(hK.bk hj).1;have:=ev.size;omega,(hK.bk hj).2⟩;refine OwnL.push (E:=Sh.encStr) qfx qS (by omega) y.1 (by omega) (by omega) fun a47 c47 w48 ro rc rn=>?_;have z48:=rc.size;have qT48:=qT.chg rc (fun j hj hh=>pD j hh hj);refine qdp slT_tkr qT48 (by omega) [lV ka kn kc] rfl (by intro u hu;simp only [mem_singleton] at hu;subst hu;rfl) (by omega) (by omega) fun a51 c51 w52 so sc sn=>?_;have z52:=sc.size;have hne:∀ j,bk a47 j→¬ bk ta j:=fun j hj hh=>by
     rcases rn j hj with h1 | h1
     ·exact pD j h1 hh
     ·have:=hbT j hh;omega
    have hall:∀ j,w5.heap.size≤j→j < w41.heap.size→¬ bk sa j→¬ bk ta j→(w5.heap.size≤j∧¬ bk a47 j∧¬ bk a51 j)∧w52.heap[j]? = w41.heap[j]?:=fun j h1 h2 h3 h4 =>
     ⟨⟨h1,fun hh=>(rn j hh).elim h3 fun h=>by omega,fun hh=>(sn j hh).elim h4 fun h=>by omega⟩,(sc.block j (by omega) h4).trans (rc.block j h2 h3)⟩
    have hA52:=pA.keep (S':=fun j=>w5.heap.size≤j∧¬ bk a47 j∧¬ bk a51 j) (w':=w52) (fun j hj hl=>⟨(hall j hj.1 (by omega) hj.2.1 hj.2.2).1,(hall j hj.1 (by omega) hj.2.1 hj.2.2).2.trans (eW41.block j hl)⟩) (by omega);have hK52:RowAt encTk (fun j=>w5.heap.size≤j∧¬ bk a47 j∧¬ bk a51 j) w52 ka kn (tkR1 L rs sec y):=(OwnL.out (E:=encTk) hK).keep (fun j hj hl=>hall j (by have:=hbK j hj;omega) hl (fun hh=>by have:=hbS j hh;have:=hbK j hj;omega) (fun hh=>by have:=hbT j hh;have:=hbK j hj;omega)) (by omega);have hkn':kn=(tkR1 L rs sec y).length:=hkn;rw [hkn'] at hK52 so;have hA:=AllE.snoc (c:=kc) hK52 hA52;refine ⟨xn - (k + 1),by omega,k + 1,_,by show _=_;rw [qj (by omega)],by omega,rfl,?_,so,rfl,?_,fun j hj hh=>?_,?_,?_⟩
    ·rw [hfil,map_append];exact Owns.chg ro sc (fun j hj hh=>hne j hj hh)
    ·rw [hfil,map_append];exact hA
    ·rcases sn j hh with h1 | h1
     ·exact hne j hj h1
     ·have:=(ro.bk hj).2;omega
    ·rw [hfil];intro y' hy';rcases mem_append.1 hy' with h1 | h1
     ·exact pE y' h1
     ·rw [mem_singleton.1 h1];exact gg0
    ·exact qi (qi E41 rc fun j hj=>(hbS j hj).1) sc fun j hj=>(hbT j hj).1
  unfold drw;have ed:=qn w47;have edw:=qa E47 ed;obtain ⟨t0,t1⟩:=blk2w ((B42.ext e47).ext ed);obtain ⟨q4,hq4,_,_,u2⟩:=rdX (qa E547 ed);have hf4:SlF S w47.drew a3 (witOf L y).2.len (witOf L y).2:=hf3.ext (qa e4447 ed);generalize w47.drew=wd at *;refine ⟨_,t0,_,_,_,t1,hq4 _ ⟨_,u2,?_,?_,trivial⟩⟩
  ·refine q1l (witOf L y) sec y.2.2 hsx hf4 fun na nn nc w61 hP e61=>⟨_,_,_,_,_,_,rfl,?_⟩;refine And.intro ?_ trivial;refine qg fun b66 w67 hb66 B66 e67 s67=>?_;refine And.intro ?_ trivial;refine stPos B66 fun w68 r1 r2 r3=>?_;have hz:b66=w61.heap.size:=hb66;refine k53 na nn nc b66 w68 (qa ed (qa e61 (qi e67 r2 fun j hj=>by omega))) r1 ?_;have hP':=(hP.imp (S':=fun j=>j < w61.heap.size) fun j hj hl=>hl).ext e67;exact (hP'.chg r2 fun j hj hh=>by omega).imp fun j hj _=>trivial
  ·refine qg fun b69 w70 hb69 B69 e70 s70=>?_;refine And.intro ?_ trivial;refine q1l (S:=fun j=>S j∧j < wd.heap.size) (witOf L y) sec y.2.2 hsx ((hf4.imp fun j hj hl=>⟨hj,hl⟩).ext e70) fun na nn nc w72 hP e72=>⟨_,_,_,_,_,_,rfl,?_⟩;refine And.intro ?_ trivial;refine stPos (B69.ext e72) fun w77 r1 r2 r3=>?_;refine k53 na nn nc b69 w77 (qa ed (qi (qa e70 e72) r2 fun j hj=>by omega)) r1 ?_;exact (hP.chg r2 fun j hj hh=>by have:=B69.lt;rcases hj with hj | hj <;> omega).imp fun j hj _=>trivial
 ·have hkn:k=(allS L 0).length:=by omega
  have htake:(allS L 0).take k=allS L 0:=take_of_length_le (by omega);rw [htake] at pS pA pE psl;have hsel:selS L sec=(allS L 0).filter (hasS L sec):=rfl;have h0:tokWE L rs sec=0:=by
   rw [htE,if_neg hselne];refine qz6 fun e he=>?_;obtain ⟨y',hy',rfl⟩:=mem_map.1 he;exact pE y' hy'
  have h1:tokWS L rs sec=(selS L sec).map (·.1):=by unfold tokWS;rw [if_pos h0]
  have h2:tokWT L rs sec=(selS L sec).map (tkR1 L rs sec):=by unfold tokWT;rw [if_pos h0]
  rw [h1,h2,h0] at h;refine h sa tn sc ta tn tc W ((OwnL.out (E:=Sh.encStr) pS).imp fun j hj hl=>by have:=(pS.bk hj).1;omega) ⟨?_,vs,(q66 pT).keep (fun j hj hl=>⟨by have:=(pT.bk hj).1;omega,rfl⟩) (Nat.le_refl _),pA.keep (fun j hj hl=>⟨by have:=hj.1;omega,rfl⟩) (Nat.le_refl _)⟩ he;rw [length_map,hsel];omega
theorem q40 {S S':NP} {a a':OA} {n n' c c':Nat} (A:List (List Tok)) (hA:RowsE encTk S w a n A) (hA':RowsE encTk S' w a' n' A) (hb:∀ l∈A,l.length≤1000000) (hn:n≤1000000) (h:∀ w',Ext w w'→R (.returned (bV true)) w') :
  Calls prog qy ⟨[lV a n c,lV a' n' c',.func (.func qdw) #[] #[]]⟩ w R:=by
 apply qao;have h1:=hA.1;have h2:=hA'.1;refine qb (fun hh=>absurd (by omega) hh) (fun _=>?_);refine ⟨fun i W m=>∃ k:Nat,i=k∧k≤n∧m=n - k∧Ext w W,⟨_,0,rfl,by omega,rfl,bR⟩,?_⟩;rintro _ W m ⟨k,rfl,hk,rfl,he⟩ _;refine qb (fun hlt=>?_) (fun hge=>h W he);have hkl:k < A.length:=by omega
 have hget:A[k]? = some A[k]:=by simp [hkl]
 have hbk:=hb _ (getElem_mem hkl);obtain ⟨q,b1,d1,hq,c0,r1⟩:=(hA.ext he).get hget;obtain ⟨q',b2,d2,hq',c0',r2⟩:=(hA'.ext he).get hget;refine hq _ ⟨_,_,_,c0,hq' _ ⟨_,_,_,c0',by kernel_rfl,?_⟩⟩;refine Same15_spec _ _ r1 r2 (by omega) fun w14 e14=>⟨_,rfl,?_⟩;rw [decide_eq_true rfl];refine qk (fun hh=>by cases hh) (fun _=>?_);exact ⟨n - (k + 1),by omega,k + 1,by rw [qj (by omega)],by omega,rfl,qa he e14⟩
end
def qz2 (L:List Rw):Bool :=
 decide (4099 < L.length)||L.any fun p=>decide (30 < p.1.length)||(decide (30 < p.2.length)||(decide (8 < L.length)&&(decide (L.length≤4096)||!decide (p=([],[])))))
theorem qso {R:EP} {S:NP} {w:World} {a:OA} {n c:Nat} {L:List Rw} (h1:RowAt encRw S w a n L)
  (h:R (.returned (bV (qz2 L))) w):Calls prog qe7 ⟨[lV a n c]⟩ w R:=by
 apply qk7;have hn:=h1.1;refine qb (fun g=>?_) (fun g=>?_)
 ·have:qz2 L=true:=by unfold qz2;rw [decide_eq_true (by omega)];rfl
  rw [this] at h;exact h
 let q:Rw→Bool:=fun p=>decide (30 < p.1.length)||(decide (30 < p.2.length)||(decide (8 < L.length)&&(decide (L.length≤4096)||!decide (p=([],[])))))
 have hg:qz2 L=L.any q:=by unfold qz2;rw [decide_eq_false (by omega)];rfl
 rw [hg] at h;refine ⟨fun i W m=>∃ k:Nat,i=k∧k≤n∧m=n - k∧(L.take k).any q=false∧W=w,⟨_,0,rfl,by omega,rfl,rfl,rfl⟩,?_⟩;rintro _ W m ⟨k,rfl,hk,rfl,hno,rfl⟩ _;refine qb (fun hlt=>?_) (fun hge=>?_)
 ·have hkL:k < L.length:=by omega
  have yes:q L[k]=true→R (.returned (bV true)) W:=fun hq=>by rw [any_eq_true.2 ⟨_,getElem_mem hkL,hq⟩] at h;exact h
  have no:q L[k]=false→∃ m',m' < n - k∧∃ k':Nat,i64.wrap ((k:Int) + 1)=k'∧k'≤n∧m'=n - k'∧(L.take k').any q=false∧W=W:=fun hq =>
   ⟨n - (k + 1),by omega,k + 1,by rw [qj (by omega)],by omega,rfl,by rw [take_succ_eq_append_getElem hkL,any_append,hno];simp [hq],rfl⟩
  obtain ⟨p,hp1,c0,c1⟩:=get_rw h1 hkL;refine hp1 _ ⟨_,c0,qb (fun g1=>yes ?_) (fun g1=>hp1 _ ⟨_,c1,qb (fun g2=>yes ?_) (fun g2=>qb (fun g3=>qb (fun g4=>yes ?_) (fun g4=>hp1 _ ⟨_,c0,_,c1,?_⟩)) (fun g3=>no ?_))⟩)⟩
  ·show (decide (30 < _)||_)=true;rw [decide_eq_true (by omega)];rfl
  ·show (_||(decide (30 < _)||_))=true;rw [decide_eq_true (p:=30 < L[k].2.length) (by omega)];simp
  ·show (_||(_||(decide _&&(decide _||_))))=true;rw [decide_eq_true (p:=8 < L.length) (by omega),decide_eq_true (p:=L.length≤4096) (by omega)];simp
  ·rw [decRw L[k] ([],[])];have hq:q L[k]=!decide (L[k]=([],[])):=by
    show (decide _||(decide _||(decide _&&(decide _||_))))=_;rw [decide_eq_false (p:=30 < L[k].1.length) (by omega),decide_eq_false (p:=30 < L[k].2.length) (by omega),decide_eq_true (p:=8 < L.length) (by omega),decide_eq_false (p:=L.length≤4096) (by omega)];simp
   refine qk (fun g5=>yes (by rw [hq];exact g5)) (fun g5=>no (by rw [hq];exact g5))
  ·show (decide _||(decide _||(decide _&&(decide _||_))))=false;rw [decide_eq_false (p:=30 < L[k].1.length) (by omega),decide_eq_false (p:=30 < L[k].2.length) (by omega),decide_eq_false (p:=8 < L.length) (by omega)];rfl
 ·rw [take_of_length_le (by omega)] at hno;rw [hno] at h;exact h
theorem smallR_gr {rs:List Rw} (h:qz2 rs=false):qfw rs:=by
 unfold qz2 at h;rw [Bool.or_eq_false_iff] at h;intro x hx;have:=List.any_eq_false.1 h.2 x hx
 simp at this;omega
section
variable {R:EP} {w:World}
end
section
variable {R:EP} {w:World}
theorem WitnessSources_spec {S S2:NP} {a a2:OA} {n c n2 c2:Nat} (L:List Wt) (rs:List Rw) (sec:Nm) (hF:Forms w) (hM:Mk w) (hR:SlW S w a n L) (hRu:RowAt encRw S2 w a2 n2 rs) (h:∀ w',Ext w w'→R (.returned (bV true)) w') :
  Calls prog F_law16_WitnessSources ⟨[lV a n c,lV a2 n2 c2,sV sec]⟩ w R:=by
 apply c_law16_WitnessSources;have aw:∀ {v:World},Ext w v→Calls prog qjc ⟨[]⟩ v fun e w'=>∃ y:Bool,e=.returned (bV y)∧R (.returned (bV y)) w':=fun hv =>
  awake16_spec (hF.ext hv) (hM.ext hv) fun w3 e3=>⟨_,rfl,h w3 (qa hv e3)⟩
 have hln:=hR.1;intro K4 hK4;refine q7n L hR fun w50 e50=>⟨_,rfl,qk (fun _=>aw e50) (fun g=>?_)⟩;refine qso (hRu.ext e50) ⟨_,rfl,qk (fun _=>aw e50) (fun gr=>qb (fun _=>aw e50) (fun _=>hK4 w50 fun _=>?_))⟩;have hsmr:=smallR_gr gr;have hgr:L.length≤35∧∀ x∈L,qjg x=false:=by
  unfold greatsW at g;by_cases h35:35 < L.length
  ·rw [if_pos h35] at g;cases g
  rw [if_neg h35] at g;refine ⟨by omega,fun x hx=>?_⟩;have:=List.any_eq_false.1 g x hx
  rw [Bool.not_eq_true,Bool.or_eq_false_iff] at this;exact this.1
 have hg10:∀ x∈L,qi0 x.2=false:=fun x hx=>by
  have:=hgr.2 x hx
  unfold qjg at this;rw [Bool.or_eq_false_iff] at this;exact this.1
 have hsz:∀ x∈L,x.2.size≤1000000:=fun x hx=>by have:=q5t (hg10 x hx);omega
 have hsm:∀ x∈L,small x.2:=fun x hx=>by have:=q5t (hg10 x hx);unfold small;omega
 have hfw:∀ x∈L,witE x=0→FineW x.2:=fun x hx hw=>fineW_of (hg10 x hx) (qhm hw);refine qlh L hsm (hF.ext e50) (hR.ext e50) fun xa xn xc w7 hX e7=>⟨_,_,_,_,rfl,?_⟩;have E7:=qa e50 e7;refine qnb L hsz (hR.ext E7) fun ya yn yc w11 hY e11=>⟨_,_,_,_,rfl,?_⟩;have E11:=qa E7 e11;refine q5w L hsm (hF.ext E11) (hR.ext E11) fun oa on oc w15 hO e15=>⟨_,_,_,_,rfl,?_⟩;have E15:=qa E11 e15;refine Order16_spec L hsz (hR.ext E15) fun pa pn pc w19 hP e19=>⟨_,_,_,_,rfl,?_⟩;have E19:=qa E15 e19;have hXR:=(OwnL.out (E:=encSr) hX).ext (qa e11 (qa e15 e19));have hYR:=(OwnL.out (E:=encSr) hY).ext (qa e15 e19);have hOR:=(OwnL.out (E:=Sh.encStr) hO).ext e19;have hPR:=OwnL.out (E:=Sh.encStr) hP;have hsl:(srcR L).length≤1000000000:=by
  unfold srcR;split
  ·rename_i h0;have:=(qp2 h0).2.1
   omega
  ·simp
 have hol:(ordR L).length≤1000000000:=by
  by_cases h0:ordE L=0
  ·have h1:(ordR L)=(ordG (secL L) (ddL L).length []).getD []:=by unfold ordR;rw [if_pos h0]
   have h64:¬ 64 < (ddL L).length:=fun hh=>by
    unfold ordE at h0;split at h0
    ·rename_i hc;exact hc h0
    ·cases h0
   cases hg:ordG (secL L) (ddL L).length [] with
   | none=>rw [h1,hg];simp
   | some r =>
    have:=ordG_some hg
    rw [h1,hg];simp at this ⊢;omega
  ·unfold ordR;rw [if_neg h0];simp
 intro K22 hK22;have k22:∀ v,Ext w19 v→K22 v:=by
  intro v hv;refine hK22 v fun _=>?_;have Ev:=qa E19 hv;refine qvt L rs sec hsm (hF.ext Ev) (hR.ext Ev) hsmr (hRu.ext Ev) fun sa sn sc ta tn tc w25 hS hT e25=>⟨_,_,_,_,_,_,_,rfl,?_⟩;have E25:=qa Ev e25;refine q4q L rs sec hsz hfw (hR.ext E25) hsmr (hRu.ext E25) fun sa2 sn2 sc2 ta2 tn2 tc2 w30 hS2 hT2 e30=>⟨_,_,_,_,_,_,_,rfl,?_⟩;have E30:=qa E25 e30;have hwl:(tokWS L rs sec).length≤1000000∧(tokWT L rs sec).length≤1000000∧∀ l∈tokWT L rs sec,l.length≤1000000:=by
   by_cases h0:tokWE L rs sec=0
   ·have h1:tokWS L rs sec=(selS L sec).map (·.1):=by unfold tokWS;rw [if_pos h0]
    have h2:tokWT L rs sec=(selS L sec).map (tkR1 L rs sec):=by unfold tokWT;rw [if_pos h0]
    have hse:srcE L=0:=by
     unfold tokWE at h0;exact Decidable.by_contra fun hh=>by rw [if_pos hh] at h0;exact hh h0
    have h3:=(qp2 hse).2.1;have h4:(selS L sec).length≤(allS L 0).length:=List.length_filter_le _ _;rw [h1,h2,length_map,length_map];refine ⟨by omega,by omega,fun l hl=>?_⟩;obtain ⟨y,_,rfl⟩:=mem_map.1 hl;have:=tks_len (posS (stF (witOf L y).2 y.2.2) sec) (bodyS (stF (witOf L y).2 y.2.2) sec) rs
    unfold tkR1;omega
   ·have h1:tokWS L rs sec=[]:=by unfold tokWS;rw [if_neg h0]
    have h2:tokWT L rs sec=[]:=by unfold tokWT;rw [if_neg h0]
    rw [h1,h2];exact ⟨by simp,by simp,fun l hl=>by cases hl⟩
  refine qis _ _ (hS.ext e30) hS2 (by omega) fun w35 e35=>⟨_,rfl,?_⟩;refine qb (fun _=>?_) (fun hh=>absurd rfl hh);have htn:=hT.1;refine q40 (tokWT L rs sec) (hT.ext (qa e30 e35)) (hT2.ext e35) hwl.2.2 (by omega) fun w38 e38=>⟨_,rfl,?_⟩;rw [br_t];exact qb (fun _=>aw (qa E30 (qa e35 e38))) (fun hh=>absurd rfl hh)
 have hxn:=hXR.1;refine qxr _ _ hXR hYR (by omega) fun w44 e44=>⟨_,rfl,?_⟩;rw [decide_eq_true rfl];refine qk (fun hh=>by cases hh) (fun _=>qb (fun hh=>absurd rfl hh) (fun _=>?_));refine qis _ _ (hOR.ext e44) (hPR.ext e44) hol fun w47 e47=>⟨_,rfl,?_⟩;rw [decide_eq_true rfl];exact qk (fun hh=>by cases hh) (fun _=>qb (fun hh=>absurd rfl hh) (fun _=>k22 w47 (qa e44 e47)))
end
end Go.Proofs