/- The contracts of the functions that the law reaches, one after the other, and at the end the law's card. -/
import Derived.Test.YtncjonkmhfdabaaGreatDoorLawE
import Derived.Lib.IndexAny
import Derived.Lib.IndexMore
import Derived.Lib.Strings
import Derived.Laws.Runes
import Derived.Laws.RangeString
import Derived.Laws.Strings3
import Derived.Scope
import Derived.WalkMore
import Derived.LoopN
import Derived.WalkSmall
import Derived.Deep.QuietTactic
import Derived.BigQuiet
import Derived.Lib.IndexBytes
import Derived.Deep.LoopGhost
import Derived.Lib.OthersKept
import Derived.Laws.RangeAny
import Derived.Lib.SmallJoins
set_option linter.all false
set_option maxRecDepth 1000000
namespace Go.Proofs
open Go Go.Sh Go.RowKit Go.Proofs.Tryz IntKind
theorem Owns.weak {w:World} {B B':Nat} {e:TypeId} {size:Nat} {a:Option Addr} {n c:Nat} {xs:List Value} (h:Owns w B e size a n c xs) (hB:B'≤B):Owns w B' e size a n c xs:=by
 refine ⟨h.1,?_⟩
 rcases h.2 with h | ⟨g,cap,cur,e1,e2,e3⟩
 ·exact .inl h
 ·exact .inr ⟨g,cap,cur,e1,Nat.le_trans hB e2,e3⟩
theorem amN_len (p:Ps) (k t n ps) (u:Bool) (nm:List UInt8):(amN p ⟨⟨k,t,n,ps⟩,u,nm⟩).length≤t.length + 1:=by
 unfold amN
 split
 ·unfold amT;rw [List.length_map];exact Nat.le_succ _
 ·split
  ·simp
  ·split <;> simp
theorem q8a:∀ (f:Fo) (p:Ps) (u:Bool) (nm:List UInt8),(amsF p f u nm).length≤tlen f + f.size
 | .nil,_,_,_=>Nat.zero_le _
 | .cons k t n ps r,p,u,nm=>by
  have h1:=amN_len p k t n ps u nm
  have h2:=q8a ps (posN p ⟨k,t,n,ps⟩).1 (u||decide (k=7)) (if k=11 then t else nm)
  have h3:=q8a r (endL (posN p ⟨k,t,n,ps⟩).1 (qbp ps)) u nm
  rw [q0w,List.length_append,List.length_append]
  simp only [tlen,Fo.size]
  omega
theorem addB_len (st:Bs) (x:Am):(lstB (addB st x)).length≤(lstB st).length + 1∧(wrdB (addB st x)).length≤(wrdB st).length + 1:=by
 have hsh:=qh2 st
 cases x with
 | ch c p u nm =>
  obtain ⟨out,cur,j,v⟩:=st
  have key:∀ st':Bs,(st'=(if letB c=true then ⟨shut ⟨out,cur,j,v⟩,some (⟨[],[],p,flI u j v 0,nm⟩,[c]),true,false⟩ else if kd c=6 then ⟨shut ⟨out,cur,j,v⟩,none,false,v⟩ else ⟨shut ⟨out,cur,j,v⟩++[⟨[c],[],p,flI u j v 8,nm⟩],none,true,false⟩:Bs)) →
    (lstB st').length≤(lstB ⟨out,cur,j,v⟩).length + 1∧(wrdB st').length≤(wrdB ⟨out,cur,j,v⟩).length + 1:=by
   intro st' he
   subst he
   split
   ·simp [lstB,wrdB];simp [lstB] at hsh;omega
   ·split
    ·simp [lstB,wrdB];simp [lstB] at hsh;omega
    ·simp [lstB,wrdB];simp [lstB] at hsh;omega
  cases cur with
  | none=>exact key _ rfl
  | some ts =>
   cases hi:innC c with
   | true=>simp [addB,hi,lstB,wrdB]
   | false=>exact key _ (by simp only [addB,hi])
 | gap n p u nm =>
  simp only [addB,lstB,wrdB,List.length_append,List.length_singleton,List.length_nil]
  rw [hsh]
  exact ⟨Nat.le_refl _,Nat.zero_le _⟩
 | brk x =>
  simp only [addB,lstB,wrdB,List.length_nil]
  rw [hsh]
  exact ⟨Nat.le_succ _,Nat.zero_le _⟩
theorem q39:∀ (l:List Am) (st:Bs),(lstB (l.foldl addB st)).length≤(lstB st).length + l.length∧(wrdB (l.foldl addB st)).length≤(wrdB st).length + l.length
 | [],st=>⟨Nat.le_refl _,Nat.le_refl _⟩
 | x :: l,st=>by
  have h1:=addB_len st x
  have h2:=q39 l (addB st x)
  rw [List.foldl_cons,List.length_cons]
  omega
theorem fl_bd (u j v:Bool) (base:Int) (hb:base=0∨base=2∨base=8):0≤flI u j v base∧flI u j v base≤31:=by
 obtain ⟨h1,h2,_⟩:=q4b u j v base hb
 exact ⟨h1,h2⟩
theorem StOk.add {st:Bs} (h:StOk st) (x:Am):StOk (addB st x):=by
 cases x with
 | ch c p u nm =>
  obtain ⟨out,cur,j,v⟩:=st
  have key:∀ st':Bs,(st'=(if letB c=true then ⟨shut ⟨out,cur,j,v⟩,some (⟨[],[],p,flI u j v 0,nm⟩,[c]),true,false⟩ else if kd c=6 then ⟨shut ⟨out,cur,j,v⟩,none,false,v⟩ else ⟨shut ⟨out,cur,j,v⟩++[⟨[c],[],p,flI u j v 8,nm⟩],none,true,false⟩:Bs))→StOk st':=by
   intro st' he
   subst he
   split
   ·refine ⟨fun t s hh=>?_,fun _=>by simp [lstB]⟩
    obtain ⟨rfl,rfl⟩:=Prod.mk.inj (Option.some.inj hh)
    have:=fl_bd u j v 0 (by simp)
    exact ⟨by simp,rfl,this.1,this.2⟩
   ·split
    ·exact ⟨fun t s hh=>(by cases hh),fun hh=>(by cases hh)⟩
    ·exact ⟨fun t s hh=>(by cases hh),fun _=>by simp [lstB]⟩
  cases cur with
  | none=>exact key _ rfl
  | some ts =>
   obtain ⟨t,s⟩:=ts
   cases hi:innC c with
   | true =>
    obtain ⟨h1,h2,h3,h4⟩:=h.cur t s rfl
    have e:addB ⟨out,some (t,s),j,v⟩ (.ch c p u nm)=⟨out,some ({ t with g:=orU t.g u },s++[c]),j,v⟩:=by simp only [addB,hi]
    rw [e]
    refine ⟨fun t' s' hh=>?_,fun _=>by simp [lstB]⟩
    obtain ⟨rfl,rfl⟩:=Prod.mk.inj (Option.some.inj hh)
    refine ⟨by simp,h2,?_,?_⟩
    ·show 0≤orU t.g u
     unfold orU;split <;> omega
    ·show orU t.g u≤31
     unfold orU;split <;> omega
   | false=>exact key _ (by simp only [addB,hi])
 | gap n p u nm=>exact ⟨fun t s hh=>(by cases hh),fun _=>by simp [addB,lstB]⟩
 | brk x=>exact ⟨fun t s hh=>(by cases hh),fun hh=>(by cases hh)⟩
theorem StOk.fold:∀ (l:List Am) {st:Bs},StOk st→StOk (l.foldl addB st)
 | [],_,h=>h
 | x :: l,_,h=>StOk.fold l (h.add x)
theorem ok0:StOk bs0:=⟨fun t s hh=>(by cases hh),fun hh=>(by cases hh)⟩
theorem q30:∀ {l:List Am} {b:Bool},okA b l→∀ n p u nm,.gap n p u nm∈l→1≤n∧n≤64
 | [],_,_,_,_,_,_,h=>by cases h
 | .ch c p _ nm :: r,b,⟨_,_,_,_,h5⟩,n,q,u,m,h=>by
  rcases List.mem_cons.1 h with hh | hh
  ·cases hh
  ·exact q30 h5 n q u m hh
 | .gap k p _ nm :: r,_,⟨h1,_,_,h4⟩,n,q,u,m,h=>by
  rcases List.mem_cons.1 h with hh | hh
  ·cases hh;exact h1
  ·exact q30 h4 n q u m hh
 | .brk _ :: r,_,h1,n,q,u,m,h=>by
  rcases List.mem_cons.1 h with hh | hh
  ·cases hh
  ·exact q30 (l:=r) h1 n q u m hh
theorem q9v (k:Int) (f:Fo):cntF k f≤f.size:=by
 unfold cntF ofK
 have:=List.length_filter_le (fun x:Nn=>decide (x.k=k)) (qbp f)
 rw [qn6] at this
 exact this
section
variable {R:Ending→World→Prop} {w:World}
theorem q6l (x:Tok) (h:∀ w',Ext w w'→R (.returned (.bool (decide (64 < x.t.length)))) w'):Calls prog qc5 ⟨[aggT x]⟩ w R:=by
 apply qox
 refine qd fun b w8 hb B8 e8 s8=>⟨_,(blk6' B8).1,?_⟩
 have:decide ((64:Int) < (x.t.length:Int))=decide (64 < x.t.length):=decide_eq_decide.2 (by omega)
 rw [this]
 exact h w8 e8
theorem q76 {b:Nat} (hb:Blk w b (qrc none 0 0 (.pointer none) none 0 0 false false false) 263):BsSt w b bs0 (fun k=>k=b) :=
 ⟨none,none,.pointer none,0,0,⟨hb,.inl rfl,Owns.nil _ _ _ _,Owns.nil _ _ _ _⟩,fun k=>by simp [bk]⟩
theorem q0y {S S2:Nat→Prop} {a a2:Option Addr} {n c n2 c2:Nat} (p:Ps) (f:Fo) (rs:List Rw) (hs:small f) (hF:Forms w) (hf:SlF S w a n f) (hsm:q2h rs) (hR:RowAt encRw S2 w a2 n2 rs)
  (h:∀ a' n' c' w',n'=(tksR p f rs).length→OwnL encTk w' w.heap.size 117 a' n' c' (tksR p f rs)→Ext w w'→R (.returned (.tuple ⟨[.slice a' n' c',.int .i64 (tksE p f rs)]⟩)) w') :
  Calls prog qic ⟨[.agg ⟨[.string ⟨⟨p.1⟩⟩,.int .i64 p.2]⟩,.slice a n c,.slice a2 n2 c2]⟩ w R:=by
 apply qtq
 refine qd fun b5 w6 hb5 B5 e6 s6=>?_
 have bad:∀ (e:Int) (v:World),e≠0→tksE p f rs=e→Ext w v→R (.returned (.tuple ⟨[.slice none 0 0,.int .i64 e]⟩)) v:=by
  intro e v he h0 hv
  have hr:tksR p f rs=[]:=by unfold tksR;rw [h0,if_pos he]
  rw [hr,h0] at h
  exact h none 0 0 v rfl (Owns.nil _ _ _ _) hv
 intro K7 hK7
 have k7:∀ w10,qec f=0→ruleE rs=0→Ext w6 w10→K7 none 0 0 0 w10:=by
  intro w10 hck hru e10
  refine hK7 _ _ _ _ _ fun _=>?_
  obtain ⟨q1,q2,q3⟩:=q2y hck
  have hok:okF false f:=by
   unfold qec at hck
   split at hck
   ·split at hck
    ·rename_i hh;exact absurd hck hh
    ·rename_i hh;exact ((qnr f false false).1 (Decidable.not_not.1 hh)).1
   ·cases hck
  have E10:=qa e6 e10
  have n1:¬ (qec f≠0∨ruleE rs≠0):=by rw [hck,hru];simp
  intro K11 hK11
  have k11:¬ (p.2 < 0∨4096 < p.2)→K11 none 0 0 0 w10:=by
   intro n2'
   refine hK11 _ _ _ _ _ fun _=>?_
   obtain ⟨d0,d1⟩:=blk2' (B5.ext e10)
   refine ⟨_,d0,qv3 _ ⟨_,rfl,qh (fun g=>?_) (fun g=>?_)⟩⟩
   ·refine bad 14 w10 (by decide) ?_ E10
    unfold tksE;rw [if_neg n1,if_neg n2',if_pos (by simpa using g)]
   have n3:¬ qdo p.1=false:=by simpa using g
   have hc8:=q9v 8 f
   have hc9:=q9v 9 f
   have co:∀ k:Int,1≤k→k≤11→couE k f=0∧couR k f=cntF k f:=fun k h1 h2=>by
    have he:couE k f=0:=by unfold couE;rw [if_neg (by rw [hck];simp),if_neg (by omega)]
    exact ⟨he,by unfold couR;rw [he];rfl⟩
   refine q08 8 f hs (hF.ext E10) (hf.ext E10) fun w20 e20=>⟨_,_,rfl,?_⟩
   have E20:=qa E10 e20
   refine q08 9 f hs (hF.ext E20) (hf.ext E20) fun w24 e24=>⟨_,_,rfl,?_⟩
   have E24:=qa E20 e24
   rw [(co 8 (by decide) (by decide)).2,(co 9 (by decide) (by decide)).2,qai (by omega)]
   refine qc (fun g4=>?_) (fun g4=>?_)
   ·refine bad 13 w24 (by decide) ?_ E24
    unfold tksE;rw [if_neg n1,if_neg n2',if_neg n3,if_pos (by omega)]
   have n4:¬ cntF 8 f + cntF 9 f≠0:=by omega
   have hE:tksE p f rs=if longT (cutT p f)=true then 4 else nrmE rs (cutT p f):=by unfold tksE;rw [if_neg n1,if_neg n2',if_neg n3,if_neg n4]
   refine qd fun b27 w28 hb27 B27 e28 s28=>?_
   have E28:=qa E24 e28
   obtain ⟨f0,f1⟩:=blk2' (((B5.ext e10).ext (qa e20 e24)).ext e28)
   refine ⟨_,f0,_,f1,?_⟩
   refine atoms_spec p fun b1 b2 w32 hb1 hb2 hz32 C1 C2 e32=>⟨_,_,_,rfl,fun base=>?_⟩
   have E32:=qa E28 e32
   have z28:=E28.size
   have z24:=E24.size
   have z32:=E32.size
   have hlenA:=q8a f p false []
   have hlA:(amsF p f false []).length≤268439552:=by omega
   have hplo:plOk p:=⟨by omega,by
    have:qdo p.1=true:=by simpa using n3
    unfold qdo at this
    rw [Bool.or_eq_true,decide_eq_true_eq] at this
    exact this⟩
   have hgapA:=q30 (qzw (u:=false) (nm:=[]) hok hplo (.inl rfl))
   rw [qm8]
   have hf32:SlF (fun k=>(S k∧k < w.heap.size)∨k=b1∨k=b2) w32 a n f:=(((hf.imp (S':=fun k=>S k∧k < w.heap.size) fun k hk hl=>⟨hk,hl⟩).ext E32).imp fun k hk _=>.inl hk)
   refine qh4 qfc qe8 (gf:=qb9) rfl (by kernel_rfl) (xs:=amsF p f false []) (E:=AmV) (Rd:=fun k=>(S k∧k < w.heap.size)∨k=b1∨k=b2)
    (fun v1 he=>q78 f p (by omega) hok (by omega) (by omega) b1 b2 v1 (fun k hk=>by have:=he.size;rcases hk with hk | hk | hk <;> omega) (C1.ext he) (C2.ext he) (hf32.ext he)) (fun y vs hE=>by obtain ⟨cs,rfl,_⟩:=hE;rfl) (by decide) (fun k hk=>by rcases hk with hk | hk | hk <;> omega)
    (fun k=>k=b27) (fun k hk=>⟨by omega,fun hh=>by rcases hh with hh | hh | hh <;> omega⟩)
    (fun pre S1 W=>BsSt W b27 (pre.foldl addB bs0) S1∧Ext w W) (fun _ _=>False) (fun _ _=>False)
    ?_ (fun _ _ _ h=>h.elim) (fun _ _ _ h=>h.elim) ⟨(q76 B27).ext e32,E32⟩ ?_ ?_ (fun _ _ _ _ _ _ _ h=>h.elim) (fun _ _ _ _ _ _ _ h=>h.elim)
   ·rintro pre S1 W W' ⟨g1,g2⟩ hc
    exact ⟨g1.chg hc fun k hk hh=>hh.2 hk,qi g2 hc fun k hk=>by omega⟩
   ·rintro pre x vs S1 W l ⟨cs,rfl,hA⟩ hpre hl1 hl2 hl3 hS1 ⟨g1,g2⟩
    obtain ⟨k1,c1,m1,p1,l1,u1,nm1,rfl⟩:∃ (k1 c1 m1:Int) (p1:List UInt8) (l1:Int) (u1:Bool) (nm1:List UInt8),cs=[.int .i64 k1,.int .u8 c1,.int .i64 m1,.string ⟨⟨p1⟩⟩,.int .i64 l1,.bool u1,.string ⟨⟨nm1⟩⟩]:=by
     cases x with
     | ch c q u m=>obtain ⟨z,rfl⟩:=hA;exact ⟨_,_,_,_,_,_,_,rfl⟩
     | gap z q u m=>obtain ⟨c,rfl⟩:=hA;exact ⟨_,_,_,_,_,_,_,rfl⟩
     | brk v=>obtain ⟨c,z,q,u,m,rfl⟩:=hA;exact ⟨_,_,_,_,_,_,_,rfl⟩
    refine Eq.mpr (qm0 base _ _ _ _ _ _ _ _ _ _ _ _ _ _ _ _ _ _ _ _ _ _ _) ?_
    refine qac (by simp) (by intro u hu;simp only [List.mem_cons,List.not_mem_nil,or_false] at hu;rcases hu with rfl | rfl | rfl | rfl | rfl | rfl | rfl <;> rfl) fun bp W1 hbp Bp ep sp=>⟨ep,fun W2 hU=>?_⟩
    have zU:=hU.size
    have zp:=ep.size
    have hUc:Chg (fun k=>k=l) W1 W2:=⟨hU.os,hU.tape,hU.output,by omega,fun k _ hk=>hU.block k hk⟩
    obtain ⟨y0,y1,y2,y3,y4,y5,y6⟩:=blk7 (hUc.blk Bp (by omega))
    refine ⟨_,y0,_,y1,_,y2,_,y3,_,y4,_,y5,_,y6,?_⟩
    have g1':=(g1.ext ep).chg hUc fun k hk hh=>hl3 (hh ▸ hk)
    have g2':Ext w W2:=qi (qa g2 ep) hUc fun k hk=>by omega
    have hfl:=q39 pre bs0
    have hpl:pre.length + 1≤(amsF p f false []).length:=by have:=hpre.length_le;simpa using this
    have hb0:(lstB bs0).length=0:=rfl
    have hb1:(wrdB bs0).length=0:=rfl
    refine tkadd_spec x hA g1' (StOk.fold pre ok0) (by omega) (by omega) (fun m q u nm hx=>hgapA m q u nm (hpre.subset (by rw [hx];simp))) fun w' O' q4 q5 q6=>⟨rfl,?_⟩
    refine ⟨q5.mono fun k _ hk=>.inl hk,O',fun k hk=>⟨(q6 k hk).imp id (fun hh=>by omega),(q4.own hk).2⟩,?_,qi g2' q5 fun k hk=>by have:=(g1.own hk).1;omega⟩
    rw [List.foldl_append];exact q4
   ·rintro D S1 W hD1 hD2 hD3 hD4 ⟨g1,g2⟩
    have hfl:=q39 (amsF p f false []) bs0
    have hb0:(lstB bs0).length=0:=rfl
    refine q6c g1 (StOk.fold _ ok0) (by omega) fun oa oc w55 h55 hO c55=>⟨rfl,?_⟩
    have hcut:shut ((amsF p f false []).foldl addB bs0)=cutT p f:=fold_tok _
    rw [hcut] at h55
    have hclen:(cutT p f).length≤268439552:=by rw [← hcut,qh2];omega
    have E55:Ext w w55:=qi g2 c55 fun k hk=>by have:=(g1.own hk).1;omega
    have hD55:w55.heap[D]? = some (.deferred (some [])):=(c55.block D hD2 hD3).trans hD4
    have lD:=(Array.getElem?_eq_some_iff.1 hD55).1
    have fin:∀ (v:World) (K:World→Prop),v.heap[D]? = some (.deferred (some []))→Ext w v→(∀ v',Chg (fun k=>k=D) v v'→Ext w v'→K v')→retD [{ target:=.collected D,args:=#[] }] v K:=by
     intro v K hv he hK
     have cD:Chg (fun k=>k=D) v (v.putObj D (.deferred none)):=Chg.put _ _ _ rfl
     exact ⟨D,rfl,hv,hK _ cD (qi he cD fun k hk=>by omega)⟩
    have c0:=h55.cells.1
    intro K56 hK56
    have k56:∀ w57,Ext w55 w57→longT (cutT p f)=false→K56 w57:=by
     intro w57 e57 hlg
     refine hK56 _ fun _=>?_
     have h57:=h55.ext e57
     refine ⟨_,_,_,h57.cells.1,?_⟩
     rw [if_neg (by rw [hlg];decide)] at hE
     have E57:=qa E55 e57
     have hraw:=qqy _ _ false false (Nat.le_refl _) (qzw (u:=false) (nm:=[]) hok hplo (.inl rfl))
     have hR57:=((hR.imp (S':=fun k=>S2 k∧k < w.heap.size) fun k hk hl=>⟨hk,hl⟩).ext E57)
     refine qzx rs (cutT p f) hsm hR57 h57.out (fun k hk hh=>by have:=h57.bkO hh;omega) (fun x hx=>⟨(hraw x hx).g0,(hraw x hx).g1⟩) (by omega) fun w60 c60 ho=>?_
     have hD60:w60.heap[D]? = some (.deferred (some [])):=by
      rw [c60.block D (by have:=e57.size;omega) (fun hh=>hD3 (hO D (.inr hh))),e57.block D lD];exact hD55
     have E60:Ext w w60:=qi E57 c60 fun k hk=>by have:=h57.bkO hk;omega
     by_cases hnz:nrmE rs (cutT p f)=0
     ·rw [if_pos hnz]
      refine ⟨_,_,_,_,rfl,fin w60 _ hD60 E60 fun v' cv ev=>?_⟩
      have hres:tksR p f rs=(cutT p f).map (nrmT rs):=by unfold tksR;rw [hE,if_neg (fun hh=>hh hnz)]
      have ho':=ho hnz
      have hlen:(cutT p f).length=(tksR p f rs).length:=by rw [hres,List.length_map]
      rw [← hE]
      rw [hres] at h
      rw [← hres,hlen] at ho'
      rw [hlen]
      rw [← hres] at h
      exact h _ _ _ v' rfl (Owns.weak (ho'.chg cv fun k hk hh=>hD3 (hh ▸ hO k (.inr hk))) (by omega)) ev
     ·rw [if_neg hnz]
      refine ⟨_,_,_,_,rfl,fin w60 _ hD60 E60 fun v' cv ev=>bad _ v' hnz hE ev⟩
    refine ⟨_,_,_,c0,qc (fun g5=>?_) (fun g5=>⟨_,_,_,c0,?_⟩)⟩
    ·refine fin w55 _ hD55 E55 fun v' cv ev=>bad 4 v' (by decide) ?_ ev
     rw [hE,if_pos]
     unfold longT;rw [decide_eq_true (show 1024 < (cutT p f).length by omega)];rfl
    ·refine q19 (cutT p f) (fun x=>decide (64 < x.t.length)) qc5 (by kernel_rfl) (fun x _ hx=>q6l x hx) (OwnL.out h55.out) (by omega) fun w68 e68=>⟨_,rfl,qh (fun g6=>?_) (fun g6=>?_)⟩
     ·refine fin w68 _ ((e68.block D lD).trans hD55) (qa E55 e68) fun v' cv ev=>bad 4 v' (by decide) ?_ ev
      rw [hE,if_pos]
      unfold longT;rw [g6,Bool.or_true]
     ·refine k56 w68 e68 ?_
      unfold longT;rw [g6,decide_eq_false (by omega)];rfl
  obtain ⟨d0,d1⟩:=blk2' (B5.ext e10)
  refine ⟨_,d1,qc (fun g=>?_) (fun g=>⟨_,d1,qc (fun g2=>?_) (fun g2=>k11 (by omega))⟩)⟩
  ·refine bad 2 w10 (by decide) ?_ E10
   unfold tksE;rw [if_neg n1,if_pos (.inl g)]
  ·refine bad 2 w10 (by decide) ?_ E10
   unfold tksE;rw [if_neg n1,if_pos (.inr g2)]
 refine qxy f hs (hf.ext e6) (hF.ext e6) fun w75 e75=>⟨_,rfl,qc (fun g=>?_) (fun g=>?_)⟩
 ·refine bad 1 w75 (by decide) ?_ (qa e6 e75)
  unfold tksE;rw [if_pos (.inl g)]
 ·refine qxl rs hsm ((hR.ext e6).ext e75) fun w78 e78=>⟨_,rfl,qc (fun g2=>?_) (fun g2=>?_)⟩
  ·refine bad 1 w78 (by decide) ?_ (qa (qa e6 e75) e78)
   unfold tksE;rw [if_pos (.inr g2)]
  ·exact k7 w78 (Decidable.not_not.1 g) (Decidable.not_not.1 g2) (qa e75 e78)
end
section
variable {R:Ending→World→Prop} {w:World}
theorem qpy {S:Nat→Prop} {a:Option Addr} {n i:Nat} {l:List Tok} {x:Tok} (hR:RowAt encTk S w a n l) (hi:l[i]? = some x) :
  ∃ q:Addr,(∀ K:Addr→Prop,K q→idx a n (i:Int) 6 K)∧w.cell? (q.add 0)=some (.string ⟨⟨x.t⟩⟩)∧w.cell? (q.add 1)=some (.string ⟨⟨x.m⟩⟩)∧w.cell? (q.add 2)=some (.string ⟨⟨x.p.1⟩⟩)∧w.cell? (q.add 3)=some (.int .i64 x.p.2)∧w.cell? (q.add 4)=some (.int .i64 x.g)∧w.cell? (q.add 5)=some (.string ⟨⟨x.a⟩⟩):=by
 obtain ⟨b,o,hq,_,_,hc⟩:=hR.get hi
 refine ⟨⟨b,o,none⟩,hq,?_⟩
 simp only [qe]
 exact ⟨hc 0 _ rfl,hc 1 _ rfl,hc 2 _ rfl,hc 3 _ rfl,hc 4 _ rfl,hc 5 _ rfl⟩
theorem one6t (x:Tok):∀ u∈([.string ⟨⟨x.t⟩⟩,.string ⟨⟨x.m⟩⟩,.string ⟨⟨x.p.1⟩⟩,.int .i64 x.p.2,.int .i64 x.g,.string ⟨⟨x.a⟩⟩]:List Value),u.oneCell'=true:=by
 intro u hu;simp only [List.mem_cons,List.not_mem_nil,or_false] at hu;rcases hu with rfl | rfl | rfl | rfl | rfl | rfl <;> rfl
theorem q22 {S:Nat→Prop} {a:Option Addr} {n c:Nat} (l:List Tok) (hR:RowAt encTk S w a n l) (hn:n≤1000000000) (h:∀ a' c' w',OwnL Sh.encStr w' w.heap.size 9 a' n c' (txs l)→Ext w w'→R (.returned (.slice a' n c')) w') :
  Calls prog qjr ⟨[.slice a n c]⟩ w R:=by
 apply qwf
 have hln:=hR.1
 refine ⟨fun oa on oc i W m=>∃ k:Nat,i=k∧k≤n∧m=n - k∧on=k∧Ext w W∧OwnL Sh.encStr W w.heap.size 9 oa on oc (txs (l.take k)),⟨_,0,rfl,by omega,rfl,rfl,Below.refl _ _,Owns.nil _ _ _ _⟩,?_⟩
 rintro oa on oc _ W m ⟨k,rfl,hk,rfl,rfl,he,hO⟩ _
 refine qc (fun hlt=>?_) (fun hge=>?_)
 ·have hkl:on < l.length:=by omega
  obtain ⟨q,hq,c0,c1,c2,c3,c4,c5⟩:=qpy (hR.ext he) (show l[on]? = some l[on] by simp [hkl])
  refine hq _ ⟨_,c0,_,c1,_,c2,_,c3,_,c4,_,c5,?_⟩
  refine qac rfl (one6t _) fun b15 w17 hb15 B15 e17 s17=>⟨_,(blk6' B15).1,?_⟩
  refine qd fun b19 w20 hb19 B19 e20 s20=>?_
  have E20:=qa e17 e20
  have B19':Blk w20 b19 (Sh.encStr.enc l[on].t) 9:=B19
  have z20:=(qa he E20).size
  refine OwnL.app1 (P:=prog) q8x (Owns.ext hO E20) (by omega) B19' (by omega) (by omega) fun a' c'' w22 ho hcg hn2=>?_
  refine ⟨n - (on + 1),by omega,on + 1,by rw [qg (by omega)],by omega,rfl,rfl,qi (qa he E20) hcg fun k hk=>?_,?_⟩
  ·exact ((Owns.ext hO E20).bk hk).1
  ·have e:txs (l.take (on + 1))=txs (l.take on)++[l[on].t]:=by unfold txs;rw [List.take_succ_eq_append_getElem hkl,List.map_append];rfl
   rw [e];exact ho
 ·have hkn:on=n:=by omega
  subst hkn
  rw [List.take_of_length_le (by omega)] at hO
  exact h oa oc W hO he
theorem q5d {S:Nat→Prop} {w:World} {a:Option Addr} {n:Nat} {L:List (List UInt8)} (h:RowAt Sh.encStr S w a n L) {k:Nat} (hk:k < L.length) :
  ∃ q:Addr,(∀ K:Addr→Prop,K q→idx a n (k:Int) 1 K)∧w.cell? q=some (.string ⟨⟨L[k]⟩⟩):=by
 obtain ⟨bb,o,hq,_,_,hc⟩:=h.get (i:=k) (x:=L[k]) (List.getElem?_eq_getElem hk)
 exact ⟨⟨bb,o,none⟩,hq,hc 0 _ rfl⟩
theorem qj4 {S S':Nat→Prop} {a a':Option Addr} {n n' c c':Nat} (L M:List (List UInt8)) (hL:RowAt Sh.encStr S w a n L) (hM:RowAt Sh.encStr S' w a' n' M) (hb:L.length≤1000000000) (h:∀ w',Ext w w'→R (.returned (.bool (decide (L=M)))) w') :
  Calls prog qby ⟨[.slice a n c,.slice a' n' c']⟩ w R:=by
 apply qfi
 have hn:n=L.length:=hL.1
 have hn':n'=M.length:=hM.1
 refine qc (fun g=>?_) (fun g=>?_)
 ·have:decide (L=M)=false:=decide_eq_false (fun e=>g (by rw [hn,hn',e]))
  rw [← this];exact h w (Below.refl _ _)
 refine ⟨fun t W m=>∃ k:Nat,t=k∧k≤n∧m=n - k∧L.take k=M.take k∧Ext w W,⟨_,0,rfl,by omega,rfl,rfl,Below.refl _ _⟩,?_⟩
 rintro _ W m ⟨k,rfl,hk,rfl,heq,he⟩ _
 have hnn:L.length=M.length:=by omega
 refine qc (fun hlt=>?_) (fun hge=>?_)
 ·have hkL:k < L.length:=by omega
  have hkM:k < M.length:=by omega
  unfold drw
  have Ed:=qa he (qn W)
  obtain ⟨q,hq,c0⟩:=q5d (hL.ext Ed) hkL
  obtain ⟨q',hq',d0⟩:=q5d (hM.ext Ed) hkM
  refine hq _ ⟨_,c0,hq' _ ⟨_,d0,qc (fun g2=>?_) (fun g2=>?_)⟩⟩
  ·have:decide (L=M)=false:=decide_eq_false (fun e=>g2 (by subst e;rfl))
   rw [← this];exact h _ Ed
  ·refine ⟨n - (k + 1),by omega,k + 1,by rw [qg (by omega)],by omega,rfl,?_,Ed⟩
   rw [List.take_succ_eq_append_getElem hkL,List.take_succ_eq_append_getElem hkM,heq,Classical.not_not.1 g2]
 ·have hkn:k=L.length:=by omega
  have:decide (L=M)=true:=decide_eq_true (by
   rw [List.take_of_length_le (by omega),List.take_of_length_le (by omega)] at heq;exact heq)
  rw [← this];exact h W he
def eqTk (x y:Tok):Bool:=decide (x.t=y.t)&&(decide (x.m=y.m)&&((decide (x.p.1=y.p.1)&&(decide (x.p.2=y.p.2)&&true))&&(decide (x.g=y.g)&&(decide (x.a=y.a)&&true))))
theorem eqTk_iff (x y:Tok):eqTk x y=true↔x=y:=by
 obtain ⟨t,m,⟨p,q⟩,g,a⟩:=x
 obtain ⟨t',m',⟨p',q'⟩,g',a'⟩:=y
 simp [eqTk,and_assoc]
instance (x y:Tok):Decidable (x=y):=decidable_of_iff _ (eqTk_iff x y)
def splE (s:List UInt8):Int:=if qar s≠0 then qar s else if s=[] then 0 else tksE ([],0) (.one 1 s 0 .nil) []
def splR (s:List UInt8):List (List UInt8):=if qar s≠0 then [] else if s=[] then [] else txs (tksR ([],0) (.one 1 s 0 .nil) [])
theorem tks_len (p:Ps) (f:Fo) (rs:List Rw):(tksR p f rs).length≤1024:=by
 by_cases h:tksE p f rs=0
 ·obtain ⟨h1,h2⟩:=tks_ok h
  have:=h1.lg
  unfold longT at this
  rw [Bool.or_eq_false_iff,decide_eq_false_iff_not] at this
  rw [h2,List.length_map];omega
 ·unfold tksR;rw [if_pos h];exact Nat.zero_le _
theorem one_slf {b:Nat} {s:List UInt8} {T:TypeId} (hb:Blk w b [.int .i64 1,.string ⟨⟨s⟩⟩,.int .i64 0,.slice none 0 0] T):SlF (fun _=>True) w (some ⟨b,0,none⟩) 1 (.one 1 s 0 .nil) :=
 ⟨rfl,_,.inr ⟨b,0,rfl,trivial,hb.lt,fun j v hj=>by rw [Nat.zero_add,hb.cell];exact hj⟩,none,0,[],[],rfl,.inl rfl,rfl,rfl⟩
theorem q51 (k:Int) (s:List UInt8) (n:Int):small (.one k s n .nil):=by unfold small Fo.one;simp [Fo.size]
theorem q2j (S:Nat→Prop) (v:World):RowAt encRw S v none 0 []:=RowAt.nil none
theorem q2g:q2h []:=fun x hx=>by cases hx
theorem Split_spec (s:List UInt8) (hs:s.length≤4611686018427387904) (hF:Forms w) (h:∀ a' n' c' w',n'=(splR s).length→OwnL Sh.encStr w' w.heap.size 9 a' n' c' (splR s)→Ext w w'→R (.returned (.tuple ⟨[.slice a' n' c',.int .i64 (splE s)]⟩)) w') :
  Calls prog qjs ⟨[.string ⟨⟨s⟩⟩]⟩ w R:=by
 apply qwg
 refine qxg s fun w3 e3=>⟨_,rfl,qc (fun g=>?_) (fun g=>qc (fun g2=>?_) (fun g2=>?_))⟩
 ·have hE:splE s=qar s:=by unfold splE;rw [if_pos g]
  have hR:splR s=[]:=by unfold splR;rw [if_pos g]
  rw [hE,hR] at h
  exact h none 0 0 w3 rfl (Owns.nil _ _ _ _) e3
 ·have hE:splE s=0:=by unfold splE;rw [if_neg g,if_pos g2]
  have hR:splR s=[]:=by unfold splR;rw [if_neg g,if_pos g2]
  rw [hE,hR] at h
  exact h none 0 0 w3 rfl (Owns.nil _ _ _ _) e3
 ·have hE:splE s=tksE ([],0) (.one 1 s 0 .nil) []:=by unfold splE;rw [if_neg g,if_neg g2]
  have hR:splR s=txs (tksR ([],0) (.one 1 s 0 .nil) []):=by unfold splR;rw [if_neg g,if_neg g2]
  refine qd fun b5 w6 hb5 B5 e6 s6=>?_
  have E6:=qa e3 e6
  refine q0y (S:=fun _=>True) (S2:=fun _=>True) ([],0) (.one 1 s 0 .nil) [] (q51 _ _ _) (hF.ext E6) (one_slf B5) q2g (q2j _ _) fun a' n' c' w8 hn ho e8=>⟨_,_,_,_,rfl,?_⟩
  have hl:=tks_len ([],0) (.one 1 s 0 .nil) []
  have E8:=qa E6 e8
  refine q22 (tksR ([],0) (.one 1 s 0 .nil) []) (OwnL.out ho) (by omega) fun a2 c2 w12 ho2 e12=>⟨_,_,_,rfl,?_⟩
  rw [← hE]
  have hz:=E8.size
  refine h a2 n' c2 w12 ?_ ?_ (qa E8 e12)
  ·rw [hR,hn];unfold txs;rw [List.length_map]
  ·rw [hR];exact Owns.weak ho2 hz
end
abbrev vTk:View Tok:=View.enc encTk
abbrev vTs:View (List Tok):=View.sl vTk
structure KV where
 s:Slv
 t:Slv
 c:Slv
abbrev kcs (x:Kol) (v:KV):List Value:=[.string ⟨⟨x.sec⟩⟩,.slice v.s.1 v.s.2.1 v.s.2.2,.slice v.t.1 v.t.2.1 v.t.2.2,.slice v.c.1 v.c.2.1 v.c.2.2]
structure ColV (S:Nat→Prop) (w:World) (v:KV) (x:Kol):Prop where
 sg:RowV vS S w v.s.1 v.s.2.1 x.sig
 sc:v.s.2.1≤v.s.2.2
 tk:RowV vTs S w v.t.1 v.t.2.1 x.tok
 cl:RowV vIs S w v.c.1 v.c.2.1 x.col
theorem ColV.ext {S:Nat→Prop} {w w':World} {v:KV} {x:Kol} (h:ColV S w v x) (he:Ext w w'):ColV S w' v x:=⟨h.sg.ext he,h.sc,h.tk.ext he,h.cl.ext he⟩
theorem ColV.imp {S S':Nat→Prop} {w:World} {v:KV} {x:Kol} (h:ColV S w v x) (hs:∀ k,S k→k < w.heap.size→S' k):ColV S' w v x:=⟨h.sg.imp hs,h.sc,h.tk.imp hs,h.cl.imp hs⟩
theorem ColV.chg {S T:Nat→Prop} {w w':World} {v:KV} {x:Kol} (h:ColV S w v x) (hc:Chg T w w') (hd:∀ k,S k→k < w.heap.size→¬ T k):ColV S w' v x:=⟨h.sg.chg hc hd,h.sc,h.tk.chg hc hd,h.cl.chg hc hd⟩
theorem q3i:SlT prog 23 9 1 16 (.string ⟨⟨[]⟩⟩):=⟨by kernel_rfl,by kernel_rfl,rfl,by decide⟩
section
variable {R:Ending→World→Prop} {S:Nat→Prop} {w:World} {v:KV} {x:Kol}
theorem ci_at (hV:Vk x) {k s:Nat} (hk:k < x.col.length) (hs:s < x.sig.length):x.ci k s=(x.col[k])[s]'(by rw [(al_bd hV.al k hk).1];exact hs):=by
 unfold Kol.ci
 rw [gD_at hk,gD_at]
theorem q0i (hV:Vk x) (hC:ColV S w v x) {k s:Nat} (hk:k < x.col.length) (hs:s < x.sig.length) (h:∀ w',Ext w w'→R (.returned (.tuple ⟨[.string ⟨⟨(x.cell k s).getD []⟩⟩,.bool (x.cell k s).isSome]⟩)) w') :
  Calls prog qk8 ⟨[.agg ⟨kcs x v⟩,.int .i64 (k:Int),.int .i64 (s:Int)]⟩ w R:=by
 apply qx7
 refine qd fun b7 w8 hb B e s8=>?_
 have hC8:=hC.ext e
 have hlen:=(al_bd hV.al k hk).1
 obtain ⟨bb,o,a',c',hq,_,_,hc,hcl,hrow⟩:=hC8.cl.getS (List.getElem?_eq_getElem hk)
 refine ⟨_,_,_,bat B rfl,hq _ ⟨_,_,_,hc,?_⟩⟩
 obtain ⟨p,hp,d⟩:=hrow.int (k:=s) (by omega)
 refine hp _ ⟨_,d,?_⟩
 rw [← ci_at hV hk hs]
 refine qc (fun g=>?_) (fun g=>?_)
 ·have:x.cell k s=none:=by unfold Kol.cell Kol.tk;rw [if_pos g];rfl
  rw [this] at h;exact h _ e
 ·have hb:=(hV.ci_bd hk hs).resolve_left (by omega)
  have hst:s < x.tok.length:=by rw [hV.tl];exact hs
  have hcell:x.cell k s=some ((x.tok.getD s []).getD (x.ci k s).toNat tk0).t:=by unfold Kol.cell Kol.tk;rw [if_neg g];rfl
  obtain ⟨b2,o2,a2,c2,hq2,_,_,hc2,_,hrow2⟩:=hC8.tk.getS (List.getElem?_eq_getElem hst)
  rw [gD_at hst] at hb hcell
  have hlt:(x.ci k s).toNat < x.tok[s].length:=by omega
  rw [gD_at hlt] at hcell
  obtain ⟨q,hq3,c0,_⟩:=qpy (rowV_enc.1 hrow2) (i:=(x.ci k s).toNat) (List.getElem?_eq_getElem hlt)
  refine ⟨_,_,_,bat B rfl,hq2 _ ⟨_,_,_,hc2,?_⟩⟩
  rw [hcell] at h
  have e1:(((x.ci k s).toNat:Nat):Int)=x.ci k s:=by omega
  rw [e1] at hq3
  exact hq3 _ ⟨_,c0,h _ e⟩
theorem q7z (hV:Vk x) (hC:ColV S w v x) {k:Nat} (hk:k < x.col.length) (h:∀ w',Ext w w'→R (.returned (.bool (x.com k))) w') :
  Calls prog qh5 ⟨[.agg ⟨kcs x v⟩,.int .i64 (k:Int)]⟩ w R:=by
 apply qti
 have hn:=hC.sg.1
 have hn1:=hV.n1
 have hn32:=hV.n32
 refine qd fun b6 w7 hb B e s7=>?_
 refine ⟨_,bat B rfl,_,_,_,bat B rfl,_,_,_,bat B rfl,_,_,_,bat B rfl,?_⟩
 refine q0i hV (hC.ext e) hk (s:=0) (by omega) fun w13 e13=>⟨_,_,rfl,?_⟩
 have e013:=qa e e13
 refine ⟨_,_,_,bat (B.ext e13) rfl,?_⟩
 have no:∀ V,Ext w V→x.com k=false→R (.returned (.bool false)) V:=fun V eV hf=>by rw [← hf];exact h V eV
 refine ⟨fun i W m=>∃ j:Nat,i=j∧j≤x.sig.length∧m=x.sig.length - j∧(∀ s,s < j→x.cell k s=x.cell k 0)∧(0 < j→(x.cell k 0).isSome=true)∧Ext w13 W,⟨_,0,rfl,Nat.zero_le _,rfl,fun s hs=>by omega,fun q=>by omega,Below.refl _ _⟩,?_⟩
 rintro _ W m ⟨j,rfl,hj,rfl,hall,hsome,eW⟩ _
 have e0W:=qa e013 eW
 have BW:=(B.ext e13).ext eW
 refine qc (fun hlt=>?_) (fun hge=>?_)
 ·have hjs:j < x.sig.length:=by omega
  refine ⟨_,bat BW rfl,_,_,_,bat BW rfl,_,_,_,bat BW rfl,_,_,_,bat BW rfl,?_⟩
  refine q0i hV (hC.ext e0W) hk hjs fun w27 e27=>⟨_,_,rfl,?_⟩
  have e027:=qa e0W e27
  have comf:∀ q:x.com k=true→False,x.com k=false:=fun q=>by cases hh:x.com k with
   | true=>exact (q hh).elim
   | false=>rfl
  refine qh (fun g1=>no _ e027 (comf fun q=>?_)) (fun g1=>qh (fun g2=>no _ e027 (comf fun q=>?_)) (fun g2=>qc (fun g3=>no _ e027 (comf fun q=>?_)) (fun g3=>?_)))
  ·rw [(qfq q hjs).2] at g1;cases g1
  ·rw [(qfq q hjs).1,(qfq q hjs).2] at g2;cases g2
  ·exact g3 (by rw [(qfq q hjs).1])
  ·refine ⟨x.sig.length - (j + 1),by omega,j + 1,by rw [qg (by omega)],by omega,rfl,fun s hs=>?_,fun _=>by simpa using g1,qa eW e27⟩
   by_cases q:s=j
   ·subst q
    cases h1:x.cell k s with
    | none=>rw [h1] at g2;cases g2
    | some u =>
     cases h2:x.cell k 0 with
     | none=>rw [h2] at g1;cases g1
     | some t =>
      rw [h1,h2] at g3
      exact congrArg some (Decidable.not_not.1 g3)
   ·exact hall s (by omega)
 ·have hjn:j=x.sig.length:=by omega
  have:x.com k=true:=by
   unfold Kol.com
   rw [hsome (by omega),Bool.true_and,List.all_eq_true]
   intro s hs
   exact decide_eq_true (hall s (by have:=List.mem_range.1 hs;omega))
  rw [← this];exact h W e0W
theorem q5v (hV:Vk x) (hC:ColV S w v x) {f t s:Nat} (hft:f≤t) (ht:t≤x.col.length) (hs:s < x.sig.length) (h:∀ a n c w',OwnL Sh.encStr w' w.heap.size 9 a n c (x.read f t s)→Ext w w'→R (.returned (.slice a n c)) w') :
  Calls prog qhe ⟨[.agg ⟨kcs x v⟩,.int .i64 (f:Int),.int .i64 (t:Int),.int .i64 (s:Int)]⟩ w R:=by
 apply qq2
 refine qd fun b8 w9 hb B e s9=>?_
 have hcn:=hV.gr.col
 refine ⟨fun oa on oc i W m=>∃ j:Nat,i=j∧f≤j∧j≤t∧m=t - j∧on≤j∧OwnL Sh.encStr W w9.heap.size 9 oa on oc (x.read f j s)∧Ext w9 W,⟨_,f,rfl,Nat.le_refl _,hft,rfl,Nat.zero_le _,by unfold Kol.read;rw [Nat.sub_self];exact Owns.nil _ _ _ _,Below.refl _ _⟩,?_⟩
 rintro oa on oc _ W m ⟨j,rfl,hfj,hj,rfl,hon,hO,eW⟩ _
 have e0W:=qa e eW
 have BW:=B.ext eW
 refine qc (fun hlt=>?_) (fun hge=>?_)
 ·refine ⟨_,bat BW rfl,_,_,_,bat BW rfl,_,_,_,bat BW rfl,_,_,_,bat BW rfl,?_⟩
  refine q0i hV (hC.ext e0W) (k:=j) (by omega) hs fun w21 e21=>⟨_,_,rfl,?_⟩
  have e021:=qa e0W e21
  have hO:=Owns.ext hO e21
  have hsn:=read_snoc x s hfj
  refine qh (fun g=>?_) (fun g=>?_)
  ·cases hc:x.cell j s with
   | none=>rw [hc] at g;cases g
   | some u =>
    rw [hc] at hsn
    refine OwnL.push (E:=Sh.encStr) q3i hO (qa eW e21).size u (by omega) (by omega) fun a' c' w27 ho hcg hn2=>?_
    rw [← show x.read f (j + 1) s=x.read f j s++[u] from hsn] at ho
    exact ⟨t - (j + 1),by omega,j + 1,by rw [qg (by omega)],by omega,by omega,rfl,by omega,ho,qko (qa eW e21) hcg fun k hk=>(Owns.bk hO hk).1⟩
  ·cases hc:x.cell j s with
   | some u=>rw [hc] at g;cases g
   | none =>
    rw [hc] at hsn
    have hsn:x.read f (j + 1) s=x.read f j s:=by rw [hsn];simp
    rw [← hsn] at hO
    exact ⟨t - (j + 1),by omega,j + 1,by rw [qg (by omega)],by omega,by omega,rfl,by omega,hO,qa eW e21⟩
 ·have hjt:j=t:=by omega
  subst hjt
  exact h oa on oc W (Owns.weak hO e.size) e0W
end
abbrev vRd:View Rdg:=View.pair (View.sl vS) (View.sl vI)
structure RdG where
 w:List (List UInt8)
 wa:Option Addr
 wc:Nat
 s:List Int
 sb:Nat
 sc:Nat
abbrev RdG.cs (g:RdG):List Value:=[.slice g.wa g.w.length g.wc,.slice (some ⟨g.sb,0,none⟩) g.s.length g.sc]
abbrev RdG.rd (g:RdG):Rdg:=(g.w,g.s)
def encG:Enc RdG:=⟨fun g=>g.cs,2,fun _=>rfl,by decide,by intro g v hv;simp only [List.mem_cons,List.not_mem_nil,or_false] at hv;rcases hv with rfl | rfl <;> rfl⟩
theorem slT_rd:SlT prog 120 179 2 48 (.agg ⟨[.slice none 0 0,.slice none 0 0]⟩):=⟨by kernel_rfl,by kernel_rfl,rfl,by decide⟩
theorem slT_i:SlT prog 40 3 1 8 (.int .i64 0):=⟨by kernel_rfl,by kernel_rfl,rfl,by decide⟩
theorem putAt_skip {cs vs:List Value} {o:Nat} {v:Value} (h:cs[o]? = some v):putAt cs (o + 1) vs=putAt cs o (v :: vs):=by
 obtain ⟨hl,hv⟩:=List.getElem?_eq_some_iff.1 h
 show _=putAt (cs.set o v) (o + 1) vs
 subst hv
 rw [List.set_getElem_self]
theorem OwnL.store1 {α:Type} {E:Enc α} {w:World} {B:Nat} {e:TypeId} {a:Option Addr} {n c:Nat} {l:List α} (h:OwnL E w B e a n c l) {i:Nat} (hi:i < n) (x:α) {v:Value} {vs us:List Value} (hx:E.enc x=v :: vs) (hy:∀ y,l[i]? = some y→E.enc y=v :: us) :
  ∃ g,a=some ⟨g,0,none⟩∧(∀ K:Addr→Prop,K ⟨g,i * E.size,none⟩→idx a n (i:Int) E.size K) ∧
   ∀ K:World→Prop,(∀ w',OwnL E w' B e a n c (l.set i x)→Chg (bk a) w w'→w'.heap.size=w.heap.size→K w')→stL w ⟨g,i * E.size + 1,none⟩ 0 vs K:=by
 have hl:=OwnL.length h
 rcases h.2 with h1 | ⟨g,cap,cur,e1,e2,e3,e4,e5,e6,e7⟩
 ·omega
 obtain ⟨rfl,_,rfl⟩:a=some ⟨g,0,none⟩∧True∧c=cap:=by simpa using e1
 have hB:Blk w g cur.toList e:=e3
 have hcl:cur.toList.length=c * E.size:=by simpa using e6
 have hcur:cur.toList=E.row l++cur.toList.drop (n * E.size):=by rw [← e7,List.take_append_drop]
 have hin:i * E.size + E.size≤n * E.size:=by
  have:(i + 1) * E.size≤n * E.size:=Nat.mul_le_mul_right _ hi
  rwa [Nat.add_mul,Nat.one_mul] at this
 have hnc:n * E.size≤c * E.size:=Nat.mul_le_mul_right _ e4
 have hxl:=E.len x
 rw [hx,List.length_cons] at hxl
 refine ⟨g,rfl,fun K hK=>⟨by omega,by omega,?_⟩,fun K hK=>?_⟩
 ·show K _
  rw [qe,Int.toNat_natCast,Nat.zero_add];exact hK
 refine qa7 hB (by omega) (fun u hu=>E.one x u (by rw [hx];exact List.mem_cons_of_mem _ hu)) fun w' b1 b2 b3 b4 b5 b6=>?_
 have hc:Chg (bk (some (⟨g,0,none⟩:Addr))) w w':=⟨b4,b5,b6,by omega,fun k' _ hk=>b2 k' fun e=>hk (by simp [bk,e])⟩
 have hil:i < l.length:=by omega
 have hat:(E.row l++cur.toList.drop (n * E.size))[i * E.size]? = some v:=by
  have h0:=hy _ (List.getElem?_eq_getElem hil)
  have:=q3p (E:=E) (j:=0) (List.getElem?_eq_getElem hil) E.pos
  rw [h0,Nat.add_zero] at this
  rw [List.getElem?_append_left (by rw [qa8,hl];omega),this];rfl
 rw [Nat.add_zero,hcur,putAt_skip hat,← hx,q7g (by omega)] at b1
 refine hK w' ⟨by rw [qa8,List.length_set,hl],.inr ⟨g,c,⟨_⟩,rfl,e2,b1,e4,e5,?_,?_⟩⟩ hc b3
 ·show (E.row (l.set i x)++cur.toList.drop (n * E.size)).length=c * E.size
  rw [List.length_append,List.length_drop,hcl,qa8,List.length_set,hl];omega
 ·show List.take (n * E.size) (E.row (l.set i x)++_)=_
  rw [List.take_append_of_le_length (by rw [qa8,List.length_set,hl];exact Nat.le_refl _),List.take_of_length_le (by rw [qa8,List.length_set,hl];exact Nat.le_refl _)]
abbrev freeG (B:Nat) (a:Option Addr) (G:List RdG) (k:Nat):Prop:=B≤k∧¬ bk a k∧∀ g∈G,k≠g.sb
structure RdsAt (w:World) (B:Nat) (a:Option Addr) (n c:Nat) (G:List RdG):Prop where
 own:OwnL encG w B 179 a n c G
 src:∀ g∈G,OwnL Sh.encI w B 3 (some ⟨g.sb,0,none⟩) g.s.length g.sc g.s
 wrd:∀ g∈G,RowV vS (freeG B a G) w g.wa g.w.length g.w∧g.w.length≤g.wc
 nd:G.Pairwise fun a b=>a.sb≠b.sb
 na:∀ g∈G,¬ bk a g.sb
def ownG (a:Option Addr) (G:List RdG) (k:Nat):Prop:=bk a k∨∃ g∈G,k=g.sb
theorem bk_some {b k:Nat}:bk (some (⟨b,0,none⟩:Addr)) k↔k=b:=by
 unfold bk
 simp
 exact ⟨Eq.symm,Eq.symm⟩
section
variable {w w':World} {B:Nat} {a:Option Addr} {n c:Nat} {G:List RdG}
theorem RdsAt.nil (w:World) (B:Nat):RdsAt w B none 0 0 []:=⟨Owns.nil w B 179 2,fun _ h=>(by cases h),fun _ h=>(by cases h),List.Pairwise.nil,fun _ h=>(by cases h)⟩
theorem RdsAt.len (h:RdsAt w B a n c G):G.length=n:=OwnL.length h.own
theorem RdsAt.bd (h:RdsAt w B a n c G) {k:Nat} (hk:ownG a G k):B≤k∧k < w.heap.size:=by
 rcases hk with hk | ⟨g,hg,rfl⟩
 ·exact Owns.bk h.own hk
 ·exact Owns.bk (h.src g hg) (bk_some.2 rfl)
theorem RdsAt.chg {T:Nat→Prop} (h:RdsAt w B a n c G) (hc:Chg T w w') (hT:∀ k,T k→k < w.heap.size→k < B):RdsAt w' B a n c G :=
 ⟨Owns.chg h.own hc fun k hk ht=>by have:=Owns.bk h.own hk;have:=hT k ht this.2;omega,fun g hg=>Owns.chg (h.src g hg) hc fun k hk ht=>by have:=Owns.bk (h.src g hg) hk;have:=hT k ht this.2;omega,
  fun g hg=>⟨(h.wrd g hg).1.chg hc fun k hk hl ht=>by have:=hT k ht hl;have:=hk.1;omega,(h.wrd g hg).2⟩,h.nd,h.na⟩
theorem RdsAt.ext (h:RdsAt w B a n c G) (he:Ext w w'):RdsAt w' B a n c G:=h.chg (T:=fun _=>False) (.of_ext he) fun k h=>h.elim
theorem RdsAt.out (h:RdsAt w B a n c G):RowV vRd (fun k=>B≤k) w a n (G.map (·.rd)):=by
 have hA:∀ (L:List RdG),(∀ g∈L,g∈G)→AllV vRd (fun k=>B≤k) w (L.map (·.rd)) (encG.row L):=by
  intro L
  induction L with
  | nil=>exact fun _=>rfl
  | cons g L ih =>
   intro hL
   have hg:=hL g List.mem_cons_self
   refine ⟨g.cs,encG.row L,by rw [qcl];rfl,⟨[.slice g.wa g.w.length g.wc],[.slice (some ⟨g.sb,0,none⟩) g.s.length g.sc],rfl,⟨g.wa,g.wc,rfl,(h.wrd g hg).2,(h.wrd g hg).1.imp fun k hk _=>hk.1⟩,⟨_,g.sc,rfl,?_,?_⟩⟩,ih fun g' hg'=>hL g' (List.mem_cons_of_mem _ hg')⟩
   ·exact ((qs2 (S:=fun _=>True)).2 (h.src g hg)).cap
   ·exact (rowV_enc.2 (OwnL.out (h.src g hg))).imp fun k hk _=>by have:=Owns.bk (h.src g hg) hk;omega
 refine ⟨by rw [List.length_map,h.len],_,?_,hA G fun _ h=>h⟩
 exact ((OwnL.out h.own).imp (S':=fun k=>B≤k) fun k hk _=>(Owns.bk h.own hk).1).2
theorem RdsAt.cap (h:RdsAt w B a n c G):n≤c:=((qs2 (S:=fun _=>True)).2 h.own).cap
theorem RdsAt.push {w0:World} (h:RdsAt w0 B a n c G) (he:Ext w0 w) (hB:B≤w0.heap.size) (g:RdG) (hw:RowV vS (fun k=>w0.heap.size≤k∧k≠g.sb) w g.wa g.w.length g.w) (hwc:g.w.length≤g.wc) (hs:OwnL Sh.encI w B 3 (some ⟨g.sb,0,none⟩) g.s.length g.sc g.s) (hsb:w0.heap.size≤g.sb) (hlen:n + 1≤1000000) {K:Option Addr→Nat→Nat→World→Prop}
  (hk:∀ a' c' w',RdsAt w' B a' (n + 1) c' (G++[g])→Chg (bk a) w w'→K a' (n + 1) c' w') :
  al w 179 g.cs fun p w1=>app prog [120,120] 120 (.slice a n c) (.slice (some p) 1 1) w1 K:=by
 have hz0:=he.size
 have hf:¬ ownG a G g.sb:=fun hh=>by have:=(h.bd hh).2;omega
 refine OwnL.push (E:=encG) slT_rd (Owns.ext h.own he) (by omega) g (by omega) (by omega) fun a' c' w' ho hc hn=>hk a' c' w' ?_ hc
 have hz:=hc.size
 have gl:=Owns.bk hs (bk_some.2 rfl)
 have nb:∀ k,k < w.heap.size→¬ bk a k→¬ bk a' k:=fun k hl hk hb=>(hn k hb).elim hk fun q=>by omega
 refine ⟨ho,fun g' hg'=>?_,fun g' hg'=>?_,?_,fun g' hg'=>?_⟩
 ·rcases List.mem_append.1 hg' with hg' | hg'
  ·exact Owns.chg (Owns.ext (h.src g' hg') he) hc fun k hk hb=>h.na g' hg' (by rw [bk_some.1 hk] at hb;exact hb)
  ·rw [List.mem_singleton] at hg';subst hg'
   exact Owns.chg hs hc fun k hk hb=>hf (.inl (by rw [bk_some.1 hk] at hb;exact hb))
 ·rcases List.mem_append.1 hg' with hg' | hg'
  ·refine ⟨((((h.wrd g' hg').1.imp (S':=fun k=>freeG B a G k∧k < w0.heap.size) fun k hk hl=>⟨hk,hl⟩).ext he).chg hc fun k hk hl hb=>hk.1.2.1 hb).imp fun k hq hl=>⟨hq.1.1,nb k (by omega) hq.1.2.1,fun g2 hg2=>?_⟩,(h.wrd g' hg').2⟩
   rcases List.mem_append.1 hg2 with hg2 | hg2
   ·exact hq.1.2.2 g2 hg2
   ·rw [List.mem_singleton] at hg2;subst hg2
    have:=hq.2;omega
  ·rw [List.mem_singleton] at hg';subst hg'
   refine ⟨((hw.imp (S':=fun k=>(w0.heap.size≤k∧k≠g'.sb)∧k < w.heap.size) fun k hq hl=>⟨hq,hl⟩).chg hc fun k hq hl hb=>by have:=(h.bd (.inl hb)).2;omega).imp fun k hq hl=>⟨by omega,nb k hq.2 fun hb=>by have:=(h.bd (.inl hb)).2;omega,fun g2 hg2=>?_⟩,hwc⟩
   rcases List.mem_append.1 hg2 with hg2 | hg2
   ·have:=(h.bd (.inr ⟨g2,hg2,rfl⟩)).2;omega
   ·rw [List.mem_singleton] at hg2;subst hg2
    exact hq.1.2
 ·refine List.pairwise_append.2 ⟨h.nd,List.pairwise_singleton _ _,fun g1 hg1 g2 hg2=>?_⟩
  rw [List.mem_singleton] at hg2;subst hg2
  exact fun e=>hf (.inr ⟨g1,hg1,e.symm⟩)
 ·rcases List.mem_append.1 hg' with hg' | hg'
  ·exact nb _ (by have:=(h.bd (.inr ⟨g',hg',rfl⟩)).2;omega) (h.na g' hg')
  ·rw [List.mem_singleton] at hg';subst hg'
   exact nb _ gl.2 fun hb=>hf (.inl hb)
theorem RdsAt.more (h:RdsAt w B a n c G) (hB:B≤w.heap.size) {k:Nat} (hk:k < G.length) (x:Int) (hlen:G[k].s.length + 1≤1000000) {K:World→Prop}
  (hK:∀ w' G',RdsAt w' B a n c G'→G'.map (·.rd)=(G.map (·.rd)).set k (G[k].w,G[k].s++[x])→Chg (fun j=>ownG a G j) w w'→K w') :
  idx a n (k:Int) 2 fun p40=>∃ (x41:Option Addr) (x41n:Nat) (x41c:Nat),World.cell? w (p40.add 1)=some (.slice x41 x41n x41c)∧(al w 3 [.int .i64 x] fun p42 w43 =>
   app prog [40,40] 40 (.slice x41 x41n x41c) (.slice (some p42) 1 1) w43 fun a44 a44n a44c w45=>idx a n (k:Int) 2 fun p46=>stL w45 (p46.add 1) 0 [.slice a44 a44n a44c] fun w47=>K w47):=by
 have hn:=h.len
 have hm:=List.getElem_mem hk
 obtain ⟨b,o,hq,hb1,hbl,hc⟩:=(OwnL.out h.own).get (List.getElem?_eq_getElem hk)
 refine hq _ ⟨_,_,_,by rw [qe];exact hc 1 _ rfl,?_⟩
 refine OwnL.push (E:=Sh.encI) slT_i (h.src _ hm) hB x (by omega) (by omega) fun a' c' w45 ho hcg hnn=>?_
 obtain ⟨b',rfl,_⟩:=Owns.cell ho (by omega)
 have hz:=hcg.size
 have hb':b'=G[k].sb∨w.heap.size≤b':=(hnn b' (bk_some.2 rfl)).imp (fun q=>bk_some.1 q) id
 have nab:¬ bk a b':=fun hb=>by
  rcases hb' with q | q
  ·rw [q] at hb;exact h.na _ hm hb
  ·have:=(h.bd (.inl hb)).2;omega
 have hown:=Owns.chg h.own hcg fun j hj hb=>h.na _ hm (by rw [bk_some.1 hb] at hj;exact hj)
 have hgl:(G[k].s++[x]).length=G[k].s.length + 1:=by simp
 obtain ⟨g0,rfl,hqq,hst⟩:=OwnL.store1 (E:=encG) hown (i:=k) (by omega) ⟨G[k].w,G[k].wa,G[k].wc,G[k].s++[x],b',c'⟩ (v:=.slice G[k].wa G[k].w.length G[k].wc) (vs:=[.slice (some ⟨b',0,none⟩) (G[k].s.length + 1) c']) (us:=[.slice (some ⟨G[k].sb,0,none⟩) G[k].s.length G[k].sc])
  (by show [_,_]=[_,_];rw [hgl]) (fun y hy=>by rw [List.getElem?_eq_getElem hk] at hy;cases hy;rfl)
 refine hqq _ ?_
 rw [qe]
 refine hst _ fun w47 ho47 hc47 hs47=>hK w47 (G.set k ⟨G[k].w,G[k].wa,G[k].wc,G[k].s++[x],b',c'⟩) ?_ ?_ ?_
 ·have mem:∀ g∈G.set k ⟨G[k].w,G[k].wa,G[k].wc,G[k].s++[x],b',c'⟩,g=⟨G[k].w,G[k].wa,G[k].wc,G[k].s++[x],b',c'⟩∨∃ j,∃ hj:j < G.length,j≠k∧g=G[j]:=fun g hg=>by
   obtain ⟨j,hj,hgj⟩:=List.mem_iff_getElem.1 hg
   rw [List.getElem_set] at hgj
   by_cases e:k=j
   ·rw [if_pos e] at hgj;exact .inl hgj.symm
   ·rw [if_neg e] at hgj
    exact .inr ⟨j,by simpa using hj,fun q=>e q.symm,hgj.symm⟩
  have hne:∀ i j,(hi:i < G.length)→(hj:j < G.length)→i≠j→G[i].sb≠G[j].sb:=fun i j hi hj hij=>by
   have:=List.pairwise_iff_getElem.1 h.nd
   rcases Nat.lt_or_gt_of_ne hij with q | q
   ·exact this i j hi hj q
   ·exact fun e=>this j i hj hi q e.symm
  have hnd:∀ j,(hj:j < G.length)→j≠k→G[j].sb≠G[k].sb:=fun j hj hjk=>hne j k hj hk hjk
  have nsb:∀ j,(hj:j < G.length)→j≠k→G[j].sb≠b':=fun j hj hjk e=>by
   rcases hb' with q | q
   ·exact hnd j hj hjk (by rw [e,q])
   ·have:=(h.bd (.inr ⟨_,List.getElem_mem hj,rfl⟩)).2;omega
  have wr:∀ g∈G,RowV vS (freeG B (some ⟨g0,0,none⟩) (G.set k ⟨G[k].w,G[k].wa,G[k].wc,G[k].s++[x],b',c'⟩)) w47 g.wa g.w.length g.w:=fun g hg=>by
   refine ((((h.wrd g hg).1.imp (S':=fun j=>freeG B (some ⟨g0,0,none⟩) G j∧j < w.heap.size) fun j hj hl=>⟨hj,hl⟩).chg hcg fun j hj hl hb=>hj.1.2.2 _ hm (bk_some.1 hb)).chg hc47 fun j hj hl hb=>hj.1.2.1 hb).imp fun j hj hl=>⟨hj.1.1,hj.1.2.1,fun g2 hg2=>?_⟩
   rcases mem g2 hg2 with rfl | ⟨i,hi,_,rfl⟩
   ·show j≠b'
    intro e
    rcases hb' with q | q
    ·exact hj.1.2.2 _ hm (by rw [e,q])
    ·have:=hj.2;omega
   ·exact hj.1.2.2 _ (List.getElem_mem hi)
  refine ⟨ho47,fun g hg=>?_,fun g hg=>?_,?_,fun g hg=>?_⟩
  ·rcases mem g hg with rfl | ⟨j,hj,hjk,rfl⟩
   ·show Owns w47 B 3 1 (some ⟨b',0,none⟩) (G[k].s++[x]).length c' _
    rw [hgl]
    exact Owns.chg ho hc47 fun j hj hb=>nab (by rw [bk_some.1 hj] at hb;exact hb)
   ·exact Owns.chg (Owns.chg (h.src _ (List.getElem_mem hj)) hcg fun i hi hb=>hnd j hj hjk (by rw [← bk_some.1 hi,bk_some.1 hb])) hc47 fun i hi hb=>h.na _ (List.getElem_mem hj) (by rw [bk_some.1 hi] at hb;exact hb)
  ·rcases mem g hg with rfl | ⟨j,hj,hjk,rfl⟩
   ·exact ⟨wr G[k] hm,(h.wrd _ hm).2⟩
   ·exact ⟨wr _ (List.getElem_mem hj),(h.wrd _ (List.getElem_mem hj)).2⟩
  ·refine List.pairwise_iff_getElem.2 fun i j hi hj hij=>?_
   have hi':i < G.length:=by simpa using hi
   have hj':j < G.length:=by simpa using hj
   rw [List.getElem_set,List.getElem_set]
   by_cases ei:k=i
   ·rw [if_pos ei,if_neg (by omega)]
    exact fun e=>nsb j hj' (by omega) e.symm
   ·rw [if_neg ei]
    by_cases ej:k=j
    ·rw [if_pos ej]
     exact nsb i hi' (by omega)
    ·rw [if_neg ej]
     exact hne i j hi' hj' (by omega)
  ·rcases mem g hg with rfl | ⟨j,hj,hjk,rfl⟩
   ·exact nab
   ·exact h.na _ (List.getElem_mem hj)
 ·rw [List.map_set]
 ·exact (hcg.mono fun j _ hj=>.inr ⟨_,hm,bk_some.1 hj⟩).trans (hc47.mono fun j _ hj=>.inl hj)
end
section
variable {R:Ending→World→Prop} {S S2:Nat→Prop} {w:World} {v:KV} {x:Kol} {a:Option Addr} {n c:Nat} {L:List Rdg}
theorem q3q (h:RowV vRd S w a n L) {i:Nat} (hi:i < L.length):∃ (p:Addr) (a1:Option Addr) (c1:Nat) (a2:Option Addr) (c2:Nat),(∀ K:Addr→Prop,K p→idx a n (i:Int) 2 K)∧w.cell? (p.add 0)=some (.slice a1 L[i].1.length c1)∧w.cell? (p.add 1)=some (.slice a2 L[i].2.length c2)∧L[i].1.length≤c1∧L[i].2.length≤c2∧RowV vS S w a1 L[i].1.length L[i].1∧RowV vI S w a2 L[i].2.length L[i].2:=by
 obtain ⟨b,o,us,h1,_,_,h2,h3⟩:=h.get (List.getElem?_eq_getElem hi)
 obtain ⟨u1,u2,rfl,⟨a1,c1,rfl,g1,g2⟩,a2,c2,rfl,g3,g4⟩:=h2
 exact ⟨⟨b,o,none⟩,a1,c1,a2,c2,h1,by rw [qe];exact h3 0 _ rfl,by rw [qe];exact h3 1 _ rfl,g1,g3,g2,g4⟩
def PredR (f:Fn) (fa fb:Array Value) (q:Rdg→Bool) (S:Nat→Prop) (L:List Rdg) (J:World→Prop):Prop :=
 ∀ r∈L,∀ (W:World) (a1:Option Addr) (c1:Nat) (a2:Option Addr) (c2:Nat) (K:Ending→World→Prop),J W→RowV vS S W a1 r.1.length r.1→RowV vI S W a2 r.2.length r.2→(∀ W',Ext W W'→K (.returned (.bool (q r))) W')→CallV prog (.func f fa fb) [.agg ⟨[.slice a1 r.1.length c1,.slice a2 r.2.length c2]⟩] W K
theorem qnw {f:Fn} {fa fb:Array Value} {q:Rdg→Bool} {J:World→Prop} (h1:RowV vRd S w a n L)
  (hs:n≤4611686018427387904) (hp:PredR f fa fb q S L J) (hJ0:J w) (hJe:∀ W W',J W→Ext W W'→J W')
  (h:∀ w',Ext w w'→R (.returned (.int .i64 (ixF q L))) w'):Calls prog qae ⟨[.slice a n c,.func f fa fb]⟩ w R:=by
 apply qbs
 have hn:=h1.1
 refine ⟨fun i W m=>∃ k:Nat,i=k∧k≤n∧m=n - k∧(∀ x∈L.take k,q x=false)∧Ext w W,⟨_,0,rfl,by omega,rfl,by simp,Below.refl _ _⟩,?_⟩
 rintro _ W m ⟨k,rfl,hk,rfl,hno,he⟩ _
 refine qc (fun hlt=>?_) (fun hge=>?_)
 ·have hkL:k < L.length:=by omega
  obtain ⟨p,a1,c1,a2,c2,hq,d0,d1,_,_,r1,r2⟩:=q3q (h1.ext he) hkL
  refine hq _ ⟨_,_,_,d0,_,_,_,d1,hp _ (List.getElem_mem hkL) W _ _ _ _ _ (hJe _ _ hJ0 he) r1 r2 fun W' e'=>⟨_,rfl,qh (fun g=>?_) (fun g=>?_)⟩⟩
  ·have:=h W' (qa he e')
   rw [q2t hkL g hno] at this;exact this
  ·exact ⟨n - (k + 1),by omega,k + 1,by rw [qg (by omega)],by omega,rfl,qv2 hkL g hno,qa he e'⟩
 ·rw [List.take_of_length_le (by omega)] at hno
  have:=h W he
  rw [q2r hno] at this;exact this
theorem find_spec {xa:Option Addr} {xn xc:Nat} {ya:Option Addr} {yn yc:Nat} {W0:List (List UInt8)} (h1:RowV vRd S w a n L) (hW:RowV vS S2 w xa xn W0) (hs:n≤1000000) (hs2:xn≤1000000) (hsL:∀ r∈L,r.1.length≤1000000)
  (h:∀ w',Ext w w'→R (.returned (.int .i64 (ixF (fun r=>decide (W0=r.1)) L))) w') :
  Calls prog qbv ⟨[.slice a n c,.agg ⟨[.slice xa xn xc,.slice ya yn yc]⟩,.func (.func 105) #[] #[]]⟩ w R:=by
 apply qfg
 refine qd fun b5 w6 hb5 B5 e6 s6=>qd fun b7 w8 hb7 B7 e8 s8=>?_
 have e08:=qa e6 e8
 have B5:=B5.ext e8
 refine qnw (q:=fun r=>decide (W0=r.1)) (J:=fun V=>Ext w8 V) (h1.ext e08) (by omega) ?_ (Below.refl _ _) (fun _ _=>qa) fun w10 e10=>⟨_,rfl,h w10 (qa e08 e10)⟩
 intro r hr V a1 c1 a2 c2 K eV r1 r2 hK
 refine ⟨by kernel_rfl,?_⟩
 apply qed
 refine qd fun b5' V6 hb5' B5' eV6 sV6=>?_
 have eV':=qa eV eV6
 refine dr_ok ⟨_,_,_,(B7.ext eV').cell 0,dr_ok ⟨_,_,_,bat (B5.ext eV') rfl,_,_,_,bat (B5.ext eV') rfl,_,_,_,bat B5' rfl,_,_,_,bat B5' rfl,?_⟩⟩
 refine ⟨by kernel_rfl,?_⟩
 apply qlr
 refine qd fun q5 U6 hq5 Q5 eU6 sU6=>qd fun q7 U8 hq7 Q7 eU8 sU8=>?_
 refine ⟨_,_,_,bat (Q5.ext eU8) rfl,_,_,_,bat Q7 rfl,?_⟩
 have eU:=qa eV' (qa eU6 eU8)
 have hxl:=hW.1
 have hrl:=hsL r hr
 refine qj4 W0 r.1 (rowV_enc.1 (hW.ext (qa e08 eU))) (rowV_enc.1 (r1.ext (qa eV6 (qa eU6 eU8)))) (by omega) fun U12 e12=>⟨_,rfl,_,rfl,?_⟩
 exact hK U12 (qa eV6 (qa (qa eU6 eU8) e12))
theorem q82 (x:Kol) (f t s:Nat):(x.read f t s).length≤t - f:=by
 unfold Kol.read
 exact Nat.le_trans (List.length_filterMap_le ..) (by simp)
theorem qyy (x:Kol) (f t:Nat):∀ m,∀ r∈x.rds f t m,r.1.length≤t - f
 | 0,r,h=>by cases h
 | m + 1,r,h=>by
  have ih:=qyy x f t m
  rw [Kol.rds,addR] at h
  split at h
  ·rename_i hany
   have hlt:List.findIdx (fun r=>decide (x.read f t m=r.1)) (x.rds f t m) < (x.rds f t m).length:=List.findIdx_lt_length.2 (by simpa using hany)
   rcases List.mem_or_eq_of_mem_set h with h | h
   ·exact ih r h
   ·subst h
    rw [gD_at hlt]
    have:=ih _ (List.getElem_mem hlt)
    exact this
  ·rcases List.mem_append.1 h with h | h
   ·exact ih r h
   ·rw [List.mem_singleton] at h
    subst h
    exact q82 x f t m
theorem qgr (hV:Vk x) (hC:ColV S w v x) {f t:Nat} (hft:f≤t) (ht:t≤x.col.length) (h:∀ a n c w',n≤c→RowV vRd (fun k=>w.heap.size≤k) w' a n (x.rds f t x.sig.length)→Ext w w'→R (.returned (.slice a n c)) w') :
  Calls prog qgk ⟨[.agg ⟨kcs x v⟩,.int .i64 (f:Int),.int .i64 (t:Int)]⟩ w R:=by
 apply qov
 refine qd fun b7 w8 hb B e s8=>?_
 have hcn:=hV.gr.col
 have hsn:=hC.sg.1
 have hn32:=hV.n32
 refine ⟨_,_,_,bat B rfl,?_⟩
 refine ⟨fun oa on oc i W m=>∃ (j:Nat) (G:List RdG),i=j∧j≤x.sig.length∧m=x.sig.length - j∧RdsAt W w8.heap.size oa on oc G∧G.map (·.rd)=x.rds f t j∧Ext w8 W,⟨_,0,[],rfl,Nat.zero_le _,rfl,RdsAt.nil _ _,rfl,Below.refl _ _⟩,?_⟩
 rintro oa on oc _ W m ⟨j,G,rfl,hj,rfl,hG,hrd,eW⟩ _
 have e0W:=qa e eW
 have BW:=B.ext eW
 have hGl:=hG.len
 have hrl:=q3u x f t j
 rw [← hrd,List.length_map] at hrl
 have zW:=eW.size
 refine qc (fun hlt=>?_) (fun hge=>?_)
 ·have hjs:j < x.sig.length:=by omega
  refine ⟨_,bat BW rfl,_,_,_,bat BW rfl,_,_,_,bat BW rfl,_,_,_,bat BW rfl,?_⟩
  refine q5v hV (hC.ext e0W) hft ht hjs fun a22 n22 c22 w21 hO e21=>⟨_,_,_,rfl,?_⟩
  have hn22:(x.read f t j).length=n22:=OwnL.length hO
  have hrlen:=q82 x f t j
  have hcap22:=((qs2 (S:=fun _=>True)).2 hO).cap
  refine qd fun b23 w24 hb23 B23 e24 s24=>?_
  refine qac rfl (by intro v hv;simp only [List.mem_cons,List.not_mem_nil,or_false] at hv;rcases hv with rfl | rfl <;> rfl) fun b25 w27 hb25 B25 e27 s27=>?_
  refine ⟨_,_,_,bat B25 rfl,_,_,_,bat B25 rfl,?_⟩
  have e2127:=qa e24 e27
  have eW27:=qa e21 e2127
  have z21:=e21.size
  have z24:=e24.size
  have hout:=(hG.ext eW27).out
  rw [hrd] at hout
  have hwds:RowV vS (bk a22) w27 a22 n22 (x.read f t j):=rowV_enc.2 ((OwnL.out hO).ext e2127)
  refine find_spec hout hwds (by omega) (by omega) (fun r hr=>?_) fun w31 e31=>⟨_,rfl,?_⟩
  ·have:=qyy x f t j r hr
   omega
  have eW31:=qa eW27 e31
  have B25:=B25.ext e31
  have z31:=eW31.size
  refine qc (fun hneg=>?_) (fun hpos=>?_)
  ·have hany:(x.rds f t j).any (fun r=>decide (x.read f t j=r.1))=false:=by
    rw [← qs9,decide_eq_false (by omega)]
   refine ⟨_,_,_,bat B25 rfl,_,_,_,bat B25 rfl,?_⟩
   subst hn22
   have hsrc:OwnL Sh.encI w31 w8.heap.size 3 (some ⟨b23,0,none⟩) 1 1 [(j:Int)]:=Owns.ext (OwnL.made (E:=Sh.encI) (n:=1) (x:=(j:Int)) B23 (by omega) (by decide)) (qa e27 e31)
   refine RdsAt.push hG eW31 (by omega) ⟨x.read f t j,a22,c22,[(j:Int)],b23,1⟩ (((hwds.ext e31).imp fun k hk _=>?_)) hcap22 hsrc (show W.heap.size≤b23 by omega) (by omega) fun a' c' w38 hG' hc=>?_
   ·have:=Owns.bk hO hk
    exact ⟨this.1,show k≠b23 by omega⟩
   ·refine ⟨x.sig.length - (j + 1),by omega,j + 1,_,by rw [qg (by omega)],by omega,rfl,hG',?_,qko (qa eW eW31) hc fun k hk=>(hG.bd (.inl hk)).1⟩
    rw [List.map_append,hrd,Kol.rds,addR,hany,if_neg (by decide)];rfl
  ·have hany:(x.rds f t j).any (fun r=>decide (x.read f t j=r.1))=true:=by
    rw [← qs9,decide_eq_true (by omega)]
   have hix:ixF (fun r=>decide (x.read f t j=r.1)) (x.rds f t j)=(((x.rds f t j).findIdx fun r=>decide (x.read f t j=r.1):Nat):Int):=by unfold ixF;rw [if_pos hany]
   have hlt':((x.rds f t j).findIdx fun r=>decide (x.read f t j=r.1)) < (x.rds f t j).length:=List.findIdx_lt_length.2 (by simpa using hany)
   rw [hix]
   have hkG:((x.rds f t j).findIdx fun r=>decide (x.read f t j=r.1)) < G.length:=by rw [← hrd,List.length_map] at hlt';exact hrd ▸ hlt'
   generalize hki:((x.rds f t j).findIdx fun r=>decide (x.read f t j=r.1))=ki at *
   refine (hG.ext eW31).more (by omega) hkG (j:Int) (by
    have:=(q2m x f t j G[ki].rd (by rw [← hrd];exact List.mem_map_of_mem (List.getElem_mem hkG))).1
    have:G[ki].s.length≤j:=this
    omega) fun w47 G' hG' hrd' hc=>?_
   refine ⟨x.sig.length - (j + 1),by omega,j + 1,_,by rw [qg (by omega)],by omega,rfl,hG',?_,qi (qa eW eW31) hc fun k hk=>(hG.bd hk).1⟩
   have hgk:(x.rds f t j).getD ki ([],[])=G[ki].rd:=by rw [gD_at hlt'];simp only [← hrd,List.getElem_map]
   rw [hrd',hrd,Kol.rds,addR,hany,if_pos rfl,hki,hgk]
 ·have hje:j=x.sig.length:=by omega
  subst hje
  have:=hG.out
  rw [hrd] at this
  exact h oa on oc W hG.cap (this.imp fun k hk _=>by have:=e.size;omega) e0W
end
def RnE (p:Nat × Nat) (vs:List Value):Prop:=vs=[.int .i64 (p.1:Int),.int .i64 (p.2:Int)]
theorem q2i {w:World} {S:Nat→Prop} {v:KV} {x:Kol} {b:Nat} (hV:Vk x) (hC:ColV S w v x) (hB:Blk w b (kcs x v) 62) :
  IterO prog qcm [.pointer (some ⟨b,0,none⟩)] x.runs RnE (fun k=>k=b∨(S k∧k < w.heap.size)) w:=by
 intro yf ya yb S0 J Jx R hS0 hJ hJx hbody h0 hend hstop
 apply qth
 have hcn:=hC.cl.1
 have hc24:=hV.gr.col
 have lb:=hB.lt
 have rd:∀ {W:World},Chg (fun k=>S0 k∨w.heap.size≤k) w W→ColV S W v x∧Blk W b (kcs x v) 62:=by
  intro W hc
  refine ⟨((hC.imp (S':=fun k=>S k∧k < w.heap.size) fun k hk hl=>⟨hk,hl⟩).chg hc fun k hk hl hh=>?_).imp fun k hk _=>hk.1,hc.blk hB fun hh=>?_⟩
  ·rcases hh with hh | hh
   ·exact (hS0 _ hh).2 (.inr hk)
   ·omega
  ·rcases hh with hh | hh
   ·exact (hS0 _ hh).2 (.inl rfl)
   ·omega
 refine ⟨fun i W m=>∃ (f:Nat) (S1:Nat→Prop) (pre:List (Nat × Nat)),i=f∧m=x.col.length + 1 - f∧f≤x.col.length + 1∧(∃ m',x.col.length < m' + f∧pre++runsG x.com x.col.length m' f=x.runs)∧J pre S1 W ∧
   Chg (fun k=>S0 k∨w.heap.size≤k) w W∧(∀ k,S1 k→(S0 k∨w.heap.size≤k)∧k < W.heap.size),⟨_,0,S0,[],rfl,rfl,Nat.zero_le _,⟨x.col.length + 1,by omega,rfl⟩,h0,Chg.refl _ _,fun k hk=>⟨.inl hk,(hS0 k hk).1⟩⟩,?_⟩
 rintro _ W m ⟨f,S1,pre,rfl,rfl,hf,⟨m',hm',hpre⟩,hj,hc,hS1⟩ _
 have zW:=hc.size
 obtain ⟨hCW,BW⟩:=rd hc
 refine dr_ok ⟨_,_,_,bat BW rfl,qc (fun hlt=>?_) (fun hge=>?_)⟩
 ·have hfl:f < x.col.length:=by omega
  obtain ⟨m',rfl⟩:∃ q,m'=q + 1:=⟨m' - 1,by omega⟩
  rw [runsG,if_pos hfl] at hpre
  intro K10 hK10
  have k10:∀ (t:Nat) W2,toK x.com (x.col.length - f) f=t→f≤t→t≤x.col.length→Ext W W2→K10 (t:Int) W2:=by
   intro t W2 htk hft ht e2
   rw [htk] at hpre
   have hj2:=hJ _ _ _ _ hj (.of_ext e2)
   have hc2:=hc.trans (.of_ext e2)
   have z2:=e2.size
   have hS2:∀ k,S1 k→(S0 k∨w.heap.size≤k)∧k < W2.heap.size:=fun k hk=>⟨(hS1 k hk).1,by have:=(hS1 k hk).2;omega⟩
   refine hK10 _ _ fun _=>qc (fun hlt2=>?_) (fun hge2=>?_)
   ·have hlt3:f < t:=by omega
    rw [if_pos hlt3] at hpre
    refine qch (hbody pre (f,t) _ S1 W2 rfl ⟨_,by rw [← hpre,List.append_assoc]⟩ (by omega) (fun j hj'=>⟨(hS2 j hj').2,fun hh=>?_⟩) hj2) ?_
    ·rcases (hS2 j hj').1 with h1 | h1
     ·exact (hS0 _ h1).2 hh
     ·rcases hh with hh | hh
      ·omega
      ·omega
    ·rintro e112 w112 ⟨hcb,S',hS',hres⟩
     have zb:=hcb.size
     have hc4:Chg (fun k=>S0 k∨w.heap.size≤k) w w112:=hc2.trans (hcb.mono fun j _ hj'=>(hS2 j hj').1)
     rcases hres with ⟨rfl,hjn⟩ | ⟨rfl,hjx⟩
     ·refine ⟨_,rfl,?_⟩
      refine ⟨x.col.length + 1 - (t + 1),by omega,t + 1,S',_,by rw [qg (by omega)],rfl,by omega,⟨m',by omega,by rw [← hpre,List.append_assoc]⟩,hjn,hc4,fun j hj'=>⟨?_,(hS' j hj').2⟩⟩
      rcases (hS' j hj').1 with h1 | h1
      ·exact (hS2 j h1).1
      ·exact .inr (by omega)
     ·exact ⟨_,rfl,hstop S' w112 (by omega) hjx⟩
   ·rw [if_neg (by omega),List.nil_append] at hpre
    exact ⟨x.col.length + 1 - (t + 1),by omega,t + 1,S1,pre,by rw [qg (by omega)],rfl,by omega,⟨m',by omega,hpre⟩,hj2,hc2,hS2⟩
  refine ⟨fun t W2 m2=>∃ t':Nat,t=t'∧f≤t'∧t'≤x.col.length∧m2=x.col.length - t'∧(∀ k,f≤k→k < t'→x.com k=false)∧Ext W W2,⟨_,f,rfl,Nat.le_refl _,by omega,rfl,fun k h1 h2=>by omega,Below.refl _ _⟩,?_⟩
  rintro _ W2 m2 ⟨t,rfl,hft,ht,rfl,hno,e2⟩ _
  have BW2:=BW.ext e2
  refine dr_ok ⟨_,_,_,bat BW2 rfl,qc (fun hlt2=>?_) (fun hge2=>?_)⟩
  ·refine dr_ok ⟨_,bat BW2 rfl,_,_,_,bat BW2 rfl,_,_,_,bat BW2 rfl,_,_,_,bat BW2 rfl,?_⟩
   refine q7z hV (hCW.ext e2) (k:=t) (by omega) fun w31 e31=>⟨_,rfl,qh (fun g=>?_) (fun g=>?_)⟩
   ·refine ⟨x.col.length - (t + 1),by omega,t + 1,by rw [qg (by omega)],by omega,by omega,rfl,fun k h1 h2=>?_,qa e2 e31⟩
    by_cases q:k=t
    ·subst q;simpa using g
    ·exact hno k h1 (by omega)
   ·exact k10 t w31 (toK_step x.com hft (by omega) hno (by simpa using g)) hft ht (qa e2 e31)
  ·have hte:t=x.col.length:=by omega
   subst hte
   exact k10 _ W2 (toK_end x.com hft hno) hft ht e2
 ·obtain hm0:runsG x.com x.col.length m' f=[]:=by
   cases m' with
   | zero=>rfl
   | succ m'=>rw [runsG,if_neg (by omega)]
  rw [hm0,List.append_nil] at hpre
  subst hpre
  exact hend S1 W zW hj
end Go.Proofs
namespace Go.Proofs
open Go Go.Sh Go.RowKit Go.Lib
section
variable (r:Int) (w:World) (h1:128≤r) (h2:r≠65533) (hv':Lib.validRune r=true)
set_option maxHeartbeats 4000000 in
include h1 h2 hv' in
set_option maxHeartbeats 4000000 in
include h1 h2 hv' in
set_option maxHeartbeats 4000000 in
include h1 h2 hv' in
end
end Go.Proofs
namespace Go.Proofs
open Go Go.Sh Go.RowKit Go.Proofs.Tryz IntKind
section
def Mk (w:World):Prop:=(∃ m,w.cell? ⟨qdb,0,none⟩=some (.int .i64 m))∧(∃ t p,w.cell? ⟨qr5,0,none⟩=some (.iface t p))∧(∃ t p,w.cell? ⟨qus,0,none⟩=some (.iface t p))
theorem qdg {w w':World} {a:Addr} {v:Value} (h:w.cell? a=some v) (he:Ext w w'):w'.cell? a=some v:=by
 rw [he.cell (World.block_lt_of_cell? w _ h)];exact h
theorem Mk.ext {w w':World} (h:Mk w) (he:Ext w w'):Mk w':=by
 obtain ⟨⟨m,h1⟩,⟨t,p,h2⟩,⟨t',p',h3⟩⟩:=h
 exact ⟨⟨m,qdg h1 he⟩,⟨t,p,qdg h2 he⟩,⟨t',p',qdg h3 he⟩⟩
theorem ifc_nil {K:Bool→Prop} (h:K true):ifc .nilIface K:=h
theorem q9d {K:Bool→Prop} {t:TypeId} {v:Value} (h:K false):ifc (.iface t v) K:=h
variable {R:Ending→World→Prop} {w:World}
end
theorem qy0 (s:List UInt8):gapB s=true↔∃ n:Int,1≤n∧n≤64∧gapT n=s:=by
 unfold gapB
 rw [List.any_eq_true]
 constructor
 ·rintro ⟨i,hi,h⟩
  rw [List.mem_range] at hi
  exact ⟨(i:Int) + 1,by omega,by omega,by simpa using h⟩
 ·rintro ⟨n,h1,h2,h3⟩
  refine ⟨(n - 1).toNat,by rw [List.mem_range];omega,?_⟩
  rw [show (((n - 1).toNat:Nat):Int) + 1=n by omega,h3];simp
theorem dec_pos:∀ n:Nat,n < 100→1≤(Lib.decDigits n).length:=by decide +kernel
section
variable {R:Ending→World→Prop} {w:World}
theorem q6a (n:Int):((gapT n).take ((gapT n).length - 1)).drop 1=Lib.decDigits n.toNat:=by
 unfold gapT
 simp
theorem gap_spec (s:List UInt8) (hs:s.length≤1000000000000) (hM:Mk w) (h:∀ w',Ext w w'→R (.returned (.bool (gapB s))) w'):Calls prog qnx ⟨[.string ⟨⟨s⟩⟩]⟩ w R:=by
 apply q0j
 have bad:∀ w',Ext w w'→(∀ n:Int,1≤n→n≤64→gapT n≠s)→R (.returned (.bool false)) w':=by
  intro w' he hn
  have:gapB s=false:=by
   rw [Bool.eq_false_iff]
   intro hh
   obtain ⟨n,h1,h2,h3⟩:=(qy0 s).1 hh
   exact hn n h1 h2 h3
  rw [← this];exact h w' he
 intro K2 hK2
 have k2:3≤s.length→K2 w:=by
  intro h3
  refine hK2 _ fun _=>?_
  rw [qai (by omega),show ((s.length:Nat):Int) - 1=((s.length - 1:Nat):Int) by omega]
  have h1:((1:Nat):Int)=1:=rfl
  rw [← h1]
  refine qj8 (by omega) (by omega) ?_
  generalize hin:(s.take (s.length - 1)).drop 1=u
  have hul:u.length≤s.length:=by rw [← hin];simp;omega
  have hz:(⟨⟨u⟩⟩:ByteArray).size=u.length:=rfl
  obtain ⟨_,⟨t,p,h2⟩,⟨t',p',h3'⟩⟩:=hM
  have nodec:(∀ v,Lib.atoiAll u≠.ok v)→∀ n:Int,1≤n→n≤64→gapT n≠s:=by
   intro hv n n1 n2 hh
   have:=q6a n
   rw [hh,hin] at this
   have ha:=q9x (n.toNat - 1) (by omega)
   rw [show n.toNat - 1 + 1=n.toNat by omega,← this] at ha
   exact hv _ ha
  cases ha:Lib.atoiAll u
  ·rename_i v
   refine (Tryz.strconv_Atoi_ok ⟨⟨u⟩⟩ (by rw [hz];omega) v ha w).mono ?_
   rintro e w4 ⟨rfl,hw⟩
   have he:Ext w w4:=by
    rcases hw with rfl | ⟨t,rfl⟩
    ·exact Below.refl _ _
    ·exact Joins.below_bytesWorld _ _ _ _ (Nat.le_refl _)
   refine ⟨v,.nilIface,rfl,?_⟩
   refine ifc_nil ?_
   simp only [br_t]
   have key:∀ n:Int,1≤n→n≤64→gapT n=s→n=v:=by
    intro n n1 n2 hh
    have h5:=q6a n
    rw [hh,hin] at h5
    have ha':=q9x (n.toNat - 1) (by omega)
    rw [show n.toNat - 1 + 1=n.toNat by omega,← h5,ha] at ha'
    injection ha' with ha'
    omega
   refine qc (fun g=>qc (fun g2=>?_) (fun g2=>bad w4 he fun n n1 n2 hh=>by have:=key n n1 n2 hh;omega)) (fun g=>bad w4 he fun n n1 n2 hh=>by have:=key n n1 n2 hh;omega)
   have hmm:v=((v.toNat:Nat):Int):=by omega
   have hI:=Tryz.strconv_Itoa_small v.toNat (by omega) w4
   rw [← hmm] at hI
   refine hI.mono ?_
   rintro _ w5 ⟨rfl,hw5⟩
   subst hw5
   have hdl:=qc0 v.toNat (by omega)
   refine ⟨_,rfl,?_⟩
   refine ⟨by simp;omega,by simp;omega,?_⟩
   have e:decide (s=[91]++Lib.decDigits v.toNat++[93])=gapB s:=by
    rw [Bool.eq_iff_iff,decide_eq_true_eq,qy0]
    constructor
    ·intro hh;exact ⟨v,g,g2,by rw [hh];simp [gapT]⟩
    ·rintro ⟨n,n1,n2,n3⟩
     have:=key n n1 n2 n3
     subst this
     rw [← n3];simp [gapT]
   show R (.returned (.bool (decide (s=[91]++Lib.decDigits v.toNat++[93])))) w5
   rw [e];exact h w5 he
  ·refine (Tryz.strconv_Atoi_syntax ⟨⟨u⟩⟩ (by rw [hz];omega) ha _ w h2 (.inr ⟨_,_,rfl⟩)).mono ?_
   rintro e w4 ⟨N,rfl,_,_,he⟩
   refine ⟨_,_,rfl,?_⟩
   refine q9d ?_
   simp only [br_f]
   exact bad w4 he (nodec fun v hv=>by rw [ha] at hv;cases hv)
  ·refine (Tryz.strconv_Atoi_range ⟨⟨u⟩⟩ (by rw [hz];omega) ha _ w h3' (.inr ⟨_,_,rfl⟩)).mono ?_
   rintro e w4 ⟨N,rfl,_,_,he⟩
   refine ⟨_,_,rfl,?_⟩
   refine q9d ?_
   simp only [br_f]
   exact bad w4 he (nodec fun v hv=>by rw [ha] at hv;cases hv)
 refine qc (fun g=>bad w (Below.refl _ _) fun n n1 n2 hh=>?_) (fun g=>?_)
 ·have:=dec_pos n.toNat (by omega)
  have h5:(gapT n).length=(Lib.decDigits n.toNat).length + 2:=by unfold gapT;simp
  rw [hh] at h5;omega
 have h00:((0:Nat):Int)=0:=rfl
 rw [← h00]
 refine qat (by omega) (qc (fun g1=>bad w (Below.refl _ _) fun n n1 n2 hh=>?_) (fun g1=>?_))
 ·subst hh;exact g1 (by simp [gapT])
 rw [qai (by omega),show ((s.length:Nat):Int) - 1=((s.length - 1:Nat):Int) by omega]
 refine qat (by omega) (qc (fun g2=>bad w (Below.refl _ _) fun n n1 n2 hh=>?_) (fun g2=>k2 (by omega)))
 subst hh
 exact g2 (by simp [gapT])
theorem mark_spec (s:List UInt8) (h:R (.returned (.bool (markB s))) w):Calls prog qla ⟨[.string ⟨⟨s⟩⟩]⟩ w R:=by
 apply qx9
 refine qc (fun g=>?_) (fun g=>?_)
 ·have:markB s=false:=by
   unfold markB
   split
   ·simp at g
   ·rfl
  rw [this] at h;exact h
 ·obtain ⟨c,rfl⟩:∃ c,s=[c]:=by
   have hl:s.length=1:=by omega
   exact List.length_eq_one_iff.1 hl
  have h00:((0:Nat):Int)=0:=rfl
  rw [← h00]
  refine qat (by simp) (qcw _ ⟨_,rfl,?_⟩)
  have hb:markB [c]=(decide (kd c=5)||decide (kd c=4)):=rfl
  rw [hb] at h
  refine qc (fun g5=>?_) (fun g5=>?_)
  ·have g5:kd c=5:=g5
   rw [decide_eq_true g5,Bool.true_or] at h;exact h
  ·have g5':¬ kd c=5:=g5
   rw [decide_eq_false g5',Bool.false_or] at h;exact h
theorem q7r (s:List UInt8) (hs:s.length≤4611686018427387904) (h:R (.returned (.bool (normB s))) w):Calls prog qk9 ⟨[.string ⟨⟨s⟩⟩]⟩ w R:=by
 apply qx8
 refine ⟨fun i W m=>∃ k:Nat,i=k∧k≤s.length∧m=s.length - k∧qz (s.take k)=true∧W=w,⟨_,0,rfl,by omega,rfl,by rw [List.take_zero];rfl,rfl⟩,?_⟩
 rintro _ W m ⟨k,rfl,hk,rfl,hw,rfl⟩ _
 refine qc (fun hlt=>?_) (fun hge=>?_)
 ·have hkl:k < s.length:=by omega
  refine qat hkl (qxh _ ⟨_,rfl,qh (fun g=>?_) (fun g=>?_)⟩)
  ·have:normB s=false:=by
    unfold normB
    have h1:=qzf s k hkl (by rw [Bool.not_eq_true'] at g;exact g)
    unfold qz at h1
    rw [h1,Bool.and_false]
   rw [this] at h;exact h
  ·exact ⟨s.length - (k + 1),by omega,k + 1,by rw [qg (by omega)],by omega,rfl,by rw [qzg s k hkl,hw];rw [Bool.not_eq_false'] at g;rw [g];rfl,rfl⟩
 ·rw [List.take_of_length_le (by omega)] at hw
  unfold qz at hw
  unfold normB at h
  rw [hw,Bool.and_true] at h
  refine qc (fun g=>?_) (fun g=>?_)
  ·rw [decide_eq_true g,Bool.true_and,decide_eq_decide.2 (show s.length≤64↔((s.length:Nat):Int)≤64 by omega)] at h
   exact h
  ·rw [decide_eq_false g,Bool.false_and] at h;exact h
theorem q4r (x:Tok) (ht:x.t.length≤1000000000000) (hm:x.m.length≤4611686018427387904) (hM:Mk w) (h:∀ w',Ext w w'→R (.returned (.int .i64 (tokE x))) w'):Calls prog qjt ⟨[aggT x]⟩ w R:=by
 apply qwh
 refine qd fun b7 w8 hb7 B7 e8 s8=>?_
 intro K9 hK9
 have k9:¬ (x.g < 0∨31 < x.g)→K9 w8:=by
  intro hg
  obtain ⟨f10,f2,f8,f16⟩:=q20 (g:=x.g) (by omega) (by omega)
  refine hK9 _ fun _=>?_
  unfold drw
  have ed:=qn w8
  have B11:=B7.ext ed
  have E11:=qa e8 ed
  generalize w8.drew=w11 at *
  obtain ⟨c0,c1,c2,c3,c4,c5⟩:=blk6' B11
  have H:∀ (e:Int) (v:World),tokE x=e→Ext w v→R (.returned (.int .i64 e)) v:=fun e v he hv=>by rw [← he];exact h v hv
  refine ⟨_,c4,_,c4,?_⟩
  intro K14 hK14
  rw [f2,f8]
  have k14:¬ (hasG x.g 2=true∧hasG x.g 8=true)→K14 w11:=by
   intro hno
   refine hK14 _ fun _=>?_
   have hT:tokE x=if textB x=false then 11 else if x.p.2 < 0 then 2 else if qdo x.p.1=false∨qdo x.a=false then 14 else 0:=by unfold tokE;rw [if_neg hg,if_neg hno]
   intro K16 hK16
   have k16:∀ (f1:FuncId),(f1=if hasG x.g 2=true then 184 else 109)→K16 (.func f1) #[] #[] w11:=by
    intro f1 hf1
    refine hK16 _ _ _ _ fun _=>?_
    intro K19 hK19
    have k19:∀ (f2:FuncId),(f2=if hasG x.g 8=true then 185 else f1)→K19 (.func f2) #[] #[] w11:=by
     intro fn hfn
     refine hK19 _ _ _ _ fun _=>?_
     intro K22 hK22
     have k22:∀ (t:Bool) (v:World),Ext w11 v→t=!textB x→K22 t v:=by
      intro t v hv htb
      refine hK22 _ _ fun _=>?_
      have Bv:=B11.ext hv
      have Ev:=qa E11 hv
      obtain ⟨d0,d1,d2,d3,d4,d5⟩:=blk6' Bv
      subst htb
      have e21:((⟨b7,0,none⟩:Addr).add 2).add 1=(⟨b7,0,none⟩:Addr).add 3:=by simp only [qe]
      have e20:((⟨b7,0,none⟩:Addr).add 2).add 0=(⟨b7,0,none⟩:Addr).add 2:=by simp only [qe]
      cases htx:textB x with
      | false =>
       simp only [Bool.not_false,br_t]
       exact H 11 v (by rw [hT,if_pos htx]) Ev
      | true =>
       simp only [Bool.not_true,br_f]
       rw [if_neg (by rw [htx];decide)] at hT
       refine ⟨_,by rw [e21];exact d3,qc (fun q=>H 2 v (by rw [hT,if_pos q]) Ev) (fun q=>⟨_,by rw [e20];exact d2,?_⟩)⟩
       rw [if_neg q] at hT
       refine qv3 _ ⟨_,rfl,qh (fun q1=>H 14 v (by rw [hT,if_pos (.inl (by simpa using q1))]) Ev) (fun q1=>⟨_,d5,?_⟩)⟩
       refine qv3 _ ⟨_,rfl,qh (fun q2=>H 14 v (by rw [hT,if_pos (.inr (by simpa using q2))]) Ev) (fun q2=>H 0 v ?_ Ev)⟩
       rw [hT,if_neg]
       rintro (hh | hh)
       ·rw [hh] at q1;cases q1
       ·rw [hh] at q2;cases q2
     -- the form
     have hform:∀ R':Ending→World→Prop,(∀ v',Ext w11 v'→R' (.returned (.bool (if hasG x.g 2=true then gapB x.t else if hasG x.g 8=true then markB x.t else qm x.t))) v')→CallV prog (.func (.func fn) #[] #[]) [.string ⟨⟨x.t⟩⟩] w11 R':=by
      intro R' hR'
      cases h2:hasG x.g 2 with
      | true =>
       have h8:hasG x.g 8=false:=by
        cases h8:hasG x.g 8 with
        | false=>rfl
        | true=>exact absurd ⟨h2,h8⟩ hno
       have:fn=184:=by rw [hfn,h8,if_neg (by decide),hf1,h2];rfl
       subst this
       rw [h2,if_pos rfl] at hR'
       exact ⟨by kernel_rfl,gap_spec x.t ht (hM.ext E11) hR'⟩
      | false =>
       rw [h2,if_neg (by decide)] at hR'
       cases h8:hasG x.g 8 with
       | true =>
        have:fn=185:=by rw [hfn,h8];rfl
        subst this
        rw [h8,if_pos rfl] at hR'
        exact ⟨by kernel_rfl,mark_spec x.t (hR' w11 (Below.refl _ _))⟩
       | false =>
        have:fn=109:=by rw [hfn,h8,if_neg (by decide),hf1,h2];rfl
        subst this
        rw [h8,if_neg (by decide)] at hR'
        exact ⟨by kernel_rfl,qk3 x.t hR'⟩
     have hTx:textB x=((if hasG x.g 2=true then gapB x.t else if hasG x.g 8=true then markB x.t else qm x.t)&&(if wordG x.g=true then normB x.m else decide (x.m=x.t))):=by
      unfold textB wordG
      cases hasG x.g 2 <;> cases hasG x.g 8 <;> rfl
     refine ⟨_,c0,hform _ fun w36 e36=>⟨_,rfl,?_⟩⟩
     generalize hfm:(if hasG x.g 2=true then gapB x.t else if hasG x.g 8=true then markB x.t else qm x.t)=fm at *
     have B36:=B11.ext e36
     cases fm with
     | false =>
      simp only [Bool.not_false,br_t]
      exact k22 true w36 e36 (by rw [hTx];rfl)
     | true =>
      simp only [Bool.not_true,br_f]
      rw [Bool.true_and] at hTx
      intro K38 hK38
      have k38:∀ (t:Bool) (v:World),Ext w11 v→t=(wordG x.g&&!normB x.m)→K38 t v:=by
       intro t v hv ht'
       refine hK38 _ _ fun _=>?_
       cases t with
       | true =>
        simp only [br_t]
        refine k22 true v hv ?_
        rw [hTx]
        cases hw:wordG x.g with
        | true=>rw [hw] at ht';simp at ht' ⊢;exact ht'.symm ▸ rfl
        | false=>rw [hw] at ht';cases ht'
       | false =>
        simp only [br_f]
        obtain ⟨d0,d1,d2,d3,d4,d5⟩:=blk6' (B11.ext hv)
        refine ⟨_,d0,_,d1,_,d2,_,d3,_,d4,_,d5,?_⟩
        refine qms x (by omega) (by omega) fun w48 e48=>⟨_,rfl,?_⟩
        have F48:=qa hv e48
        cases hw:wordG x.g with
        | true =>
         simp only [Bool.not_true,br_f]
         refine k22 false w48 F48 ?_
         rw [hTx,hw,if_pos rfl]
         rw [hw] at ht'
         simp at ht' ⊢
         exact ht'
        | false =>
         simp only [Bool.not_false,br_t]
         obtain ⟨f0,f1,_⟩:=blk6' (B11.ext F48)
         refine ⟨_,f1,_,f0,k22 _ w48 F48 ?_⟩
         rw [hTx,hw,if_neg (by decide)]
         by_cases hmt:x.m=x.t <;> simp [hmt]
      obtain ⟨d0,d1,d2,d3,d4,d5⟩:=blk6' B36
      refine ⟨_,d0,_,d1,_,d2,_,d3,_,d4,_,d5,?_⟩
      refine qms x (by omega) (by omega) fun w59 e59=>⟨_,rfl,?_⟩
      have F59:=qa e36 e59
      cases hw:wordG x.g with
      | true =>
       simp only [br_t]
       refine ⟨_,(blk6' (B11.ext F59)).2.1,q7r x.m hm ⟨_,rfl,k38 _ w59 F59 ?_⟩⟩
       rw [hw,Bool.true_and]
      | false =>
       simp only [br_f]
       exact k38 false w59 F59 (by rw [hw];rfl)
    refine qh (fun q=>k19 185 (by rw [← f8,q];rfl)) (fun q=>k19 f1 (by rw [← f8,q];rfl))
   refine qh (fun q=>k16 184 (by first | (rw [← f2,q];rfl) | (rw [q];rfl))) (fun q=>k16 109 (by first | (rw [← f2,q];rfl) | (rw [q];rfl)))
  refine qh (fun q=>qh (fun q2=>H 8 w11 (by unfold tokE;rw [if_neg hg,if_pos ⟨q,q2⟩]) E11) (fun q2=>k14 (fun hh=>by rw [hh.2] at q2;cases q2))) (fun q=>k14 (fun hh=>by rw [hh.1] at q;cases q))
 obtain ⟨c0,c1,c2,c3,c4,c5⟩:=blk6' B7
 refine ⟨_,c4,qc (fun q=>?_) (fun q=>⟨_,c4,qc (fun q2=>?_) (fun q2=>k9 (by omega))⟩)⟩
 ·have:tokE x=2:=by unfold tokE;rw [if_pos (.inl q)]
  rw [← this];exact h w8 e8
 ·have:tokE x=2:=by unfold tokE;rw [if_pos (.inr q2)]
  rw [← this];exact h w8 e8
end
section
variable {R:Ending→World→Prop} {w:World}
theorem has_eq {g:Int} (h0:0≤g) (h1:g≤31):(decide (Int.tmod (i64.wrap (Int.tdiv g 2)) 2=1)=hasG g 2)∧(decide (Int.tmod (i64.wrap (Int.tdiv g 8)) 2=1)=hasG g 8)∧(decide (Int.tmod (i64.wrap (Int.tdiv g 16)) 2=1)=hasG g 16):=by
 have key:∀ n:Fin 32,(decide (Int.tmod (i64.wrap (Int.tdiv (n.val:Int) 2)) 2=1)=hasG (n.val:Int) 2)∧(decide (Int.tmod (i64.wrap (Int.tdiv (n.val:Int) 8)) 2=1)=hasG (n.val:Int) 8)∧(decide (Int.tmod (i64.wrap (Int.tdiv (n.val:Int) 16)) 2=1)=hasG (n.val:Int) 16):=by decide +kernel
 have:=key ⟨g.toNat,by omega⟩
 have e:((g.toNat:Nat):Int)=g:=by omega
 simp only [e] at this
 exact this
theorem qoa (x:Tok) (m:Int) (hm:m=2∨m=8∨m=16) (h0:0≤x.g) (h1:x.g≤31) (h:∀ w',Ext w w'→R (.returned (.bool (hasG x.g m))) w'):Calls prog q04 ⟨[aggT x,.int .i64 m]⟩ w R:=by
 apply q75
 refine qd fun b w9 hb B9 e9 s9=>⟨_,(blk6' B9).2.2.2.2.1,by rcases hm with rfl | rfl | rfl <;> decide,by decide,?_⟩
 obtain ⟨q2,q8,q16⟩:=has_eq h0 h1
 have hh:=h w9 e9
 rcases hm with rfl | rfl | rfl
 ·rw [q2];exact hh
 ·rw [q8];exact hh
 ·rw [q16];exact hh
theorem q3a (c:UInt8) (h:R (.returned (.bool (innC c))) w):Calls prog qpo ⟨[.int .u8 (c.toNat:Int)]⟩ w R:=by
 apply q1s
 refine qc1 c ⟨_,rfl,?_⟩
 rw [inn_of] at h
 refine qc (fun g=>?_) (fun g=>qc (fun g2=>?_) (fun g2=>qc (fun g3=>?_) (fun g3=>?_)))
 ·rw [decide_eq_true (.inl g)] at h;exact h
 ·rw [decide_eq_true (.inr (.inl g2))] at h;exact h
 ·rw [decide_eq_true (.inr (.inr (.inl g3)))] at h;exact h
 ·rw [decide_eq_decide.2 (show (kd c=1∨kd c=2∨kd c=3∨kd c=4)↔kd c=4 by omega)] at h;exact h
theorem qxn (s:List UInt8) (h:∀ w',Ext w w'→R (.returned (.bool (qdo s))) w'):Calls prog quy ⟨[.string ⟨⟨s⟩⟩]⟩ w R:=by
 apply q4k
 unfold qdo at h
 refine qc (fun g=>?_) (fun g=>qf6 s fun w3 e3=>⟨_,rfl,?_⟩)
 ·rw [decide_eq_true g] at h;exact h w (Below.refl _ _)
 ·rw [decide_eq_false g] at h;exact h w3 e3
theorem q38 (s:List UInt8) (h:R (.returned (.bool (gapB s))) w):Calls prog qpp ⟨[.string ⟨⟨s⟩⟩]⟩ w R:=by
 apply q1t
 refine ⟨fun i W m=>∃ k:Nat,i=(k:Int) + 1∧k≤64∧m=64 - k∧(∀ j:Nat,j < k→gapT ((j:Int) + 1)≠s)∧W=w,⟨_,0,rfl,by omega,rfl,fun j hj=>by omega,rfl⟩,?_⟩
 rintro _ W m ⟨k,rfl,hk,rfl,hz,rfl⟩ _
 refine qc (fun hlt=>?_) (fun hge=>?_)
 ·have hI:=Tryz.strconv_Itoa_small (k + 1) (by omega) W
  rw [show ((k + 1:Nat):Int)=(k:Int) + 1 by omega] at hI
  refine hI.mono ?_
  rintro _ w5 ⟨rfl,hw5⟩
  subst hw5
  have hdl:=qc0 (k + 1) (by omega)
  have eg:gapT ((k:Int) + 1)=[91]++Lib.decDigits (k + 1)++[93]:=by
   unfold gapT
   rw [show ((k:Int) + 1).toNat=k + 1 by omega];simp
  refine ⟨_,rfl,by simp;omega,by simp;omega,?_⟩
  refine qc (fun g=>?_) (fun g=>?_)
  ·have:gapB s=true:=(qy0 s).2 ⟨(k:Int) + 1,by omega,by omega,by rw [eg];exact g.symm⟩
   rw [this] at h;exact h
  ·refine ⟨64 - (k + 1),by omega,k + 1,by rw [qai (by omega)];omega,by omega,rfl,fun j hj=>?_,rfl⟩
   by_cases e:j=k
   ·subst e;rw [eg];exact fun hh=>g hh.symm
   ·exact hz j (by omega)
 ·have:gapB s=false:=by
   rw [Bool.eq_false_iff]
   intro hh
   obtain ⟨n,n1,n2,n3⟩:=(qy0 s).1 hh
   exact hz (n - 1).toNat (by omega) (by rw [show (((n - 1).toNat:Nat):Int) + 1=n by omega];exact n3)
  rw [this] at h;exact h
theorem q42 (x:Tok) (hm:x.m.length≤4611686018427387904) (h:∀ w',Ext w w'→R (.returned (.int .i64 (tokE x))) w'):Calls prog quz ⟨[aggT x]⟩ w R:=by
 apply q4l
 refine qd fun b w8 hb B8 e8 s8=>?_
 have H:∀ (e:Int) (v:World),tokE x=e→Ext w v→R (.returned (.int .i64 e)) v:=fun e v he hv=>by rw [← he];exact h v hv
 intro K9 hK9
 have k9:¬ (x.g < 0∨31 < x.g)→K9 w8:=by
  intro hg
  refine hK9 _ fun _=>?_
  intro K11 hK11
  have k11:∀ v,Ext w8 v→K11 (hasG x.g 2) (hasG x.g 8) v:=by
   intro v ev
   refine hK11 _ _ _ fun _=>?_
   have Ev:=qa e8 ev
   have Bv:=B8.ext ev
   intro K15 hK15
   have k15:¬ (hasG x.g 2=true∧hasG x.g 8=true)→K15 v:=by
    intro hno
    refine hK15 _ fun _=>?_
    have hT:tokE x=if textB x=false then 11 else if x.p.2 < 0 then 2 else if qdo x.p.1=false∨qdo x.a=false then 14 else 0:=by unfold tokE;rw [if_neg hg,if_neg hno]
    have bad:∀ v',Ext v v'→textB x=false→R (.returned (.int .i64 11)) v':=fun v' hv' hh=>H 11 v' (by rw [hT,if_pos hh]) (qa Ev hv')
    intro K17 hK17
    have k17:∀ v2,Ext v v2→textB x=true→K17 v2:=by
     intro v2 ev2 htx
     refine hK17 _ fun _=>?_
     have Ev2:=qa Ev ev2
     have B2:=Bv.ext ev2
     obtain ⟨d0,d1,d2,d3,d4,d5⟩:=blk6' B2
     have e21:((⟨b,0,none⟩:Addr).add 2).add 1=(⟨b,0,none⟩:Addr).add 3:=by simp only [qe]
     have e20:((⟨b,0,none⟩:Addr).add 2).add 0=(⟨b,0,none⟩:Addr).add 2:=by simp only [qe]
     rw [if_neg (by rw [htx];decide)] at hT
     refine ⟨_,by rw [e21];exact d3,qc (fun q=>H 2 v2 (by rw [hT,if_pos q]) Ev2) (fun q=>⟨_,by rw [e20];exact d2,?_⟩)⟩
     rw [if_neg q] at hT
     refine qxn _ fun w22 e22=>⟨_,rfl,qh (fun q1=>H 14 w22 (by rw [hT,if_pos (.inl (by simpa using q1))]) (qa Ev2 e22)) (fun q1=>⟨_,(blk6' (B2.ext e22)).2.2.2.2.2,?_⟩)⟩
     refine qxn _ fun w26 e26=>⟨_,rfl,qh (fun q2=>H 14 w26 (by rw [hT,if_pos (.inr (by simpa using q2))]) (qa (qa Ev2 e22) e26)) (fun q2=>H 0 w26 ?_ (qa (qa Ev2 e22) e26))⟩
     rw [hT,if_neg]
     rintro (hh | hh)
     ·rw [hh] at q1;cases q1
     ·rw [hh] at q2;cases q2
    obtain ⟨c0,c1,c2,c3,c4,c5⟩:=blk6' Bv
    -- the norm is the text
    have same:∀ (v':World) (f:Bool),Ext v v'→textB x=(f&&decide (x.m=x.t))→f=true→br (decide (x.m≠x.t)) (R (.returned (.int .i64 11)) v') (K17 v'):=by
     intro v' f hv' hf ht
     subst ht
     rw [Bool.true_and] at hf
     exact qc (fun g=>bad v' hv' (by rw [hf];exact decide_eq_false g)) (fun g=>k17 v' hv' (by rw [hf];exact decide_eq_true (Decidable.not_not.1 g)))
    refine qh (fun g2=>?_) (fun g2=>qh (fun g8=>?_) (fun g8=>?_))
    ·have htx:textB x=(gapB x.t&&decide (x.m=x.t)):=by unfold textB;rw [if_pos g2]
     refine ⟨_,c0,q38 x.t ⟨_,rfl,qh (fun q=>bad v (Below.refl _ _) (by rw [htx];rw [Bool.not_eq_true'] at q;rw [q];rfl)) (fun q=>⟨_,c1,_,c0,same v _ (Below.refl _ _) htx (by rw [Bool.not_eq_false'] at q;exact q)⟩)⟩⟩
    ·have htx:textB x=(markB x.t&&decide (x.m=x.t)):=by unfold textB;rw [if_neg (by rw [g2];decide),if_pos g8]
     refine ⟨_,c0,qc (fun q=>bad v (Below.refl _ _) ?_) (fun q=>⟨_,c0,?_⟩)⟩
     ·have:markB x.t=false:=by
       unfold markB
       split
       ·rename_i heq;rw [heq] at q;exact absurd rfl q
       ·rfl
      rw [htx,this];rfl
     ·obtain ⟨ch,hch⟩:∃ ch,x.t=[ch]:=List.length_eq_one_iff.1 (by omega)
      have hmk:markB x.t=(decide (kd ch=5)||decide (kd ch=4)):=by rw [hch];rfl
      rw [hmk] at htx
      have h00:((0:Nat):Int)=0:=rfl
      rw [← h00]
      refine qat (by rw [hch];simp) ?_
      have hg0:∀ hh:0 < x.t.length,x.t[0]=ch:=fun hh=>by simp [hch]
      rw [hg0]
      refine qc1 _ ⟨_,rfl,qc (fun q5=>⟨_,c0,?_⟩) (fun q5=>⟨_,c1,_,c0,same v _ (Below.refl _ _) htx (by rw [decide_eq_true (Decidable.not_not.1 q5)];rfl)⟩)⟩
      refine qat (by rw [hch];simp) ?_
      rw [hg0]
      refine qc1 _ ⟨_,rfl,qc (fun q4=>bad v (Below.refl _ _) ?_) (fun q4=>⟨_,c1,_,c0,same v _ (Below.refl _ _) htx (by rw [decide_eq_true (Decidable.not_not.1 q4)];simp)⟩)⟩
      rw [htx,decide_eq_false q5,decide_eq_false q4];rfl
    ·have htx:textB x=(qm x.t&&normB x.m):=by unfold textB;rw [if_neg (by rw [g2];decide),if_neg (by rw [g8];decide)]
     intro K49 hK49
     have k49:∀ v2,Ext v v2→qm x.t=true→x.m≠[]→x.m.length≤64→K49 v2:=by
      intro v2 ev2 hw hne hle
      refine hK49 _ fun _=>?_
      have hnb:normB x.m=qz x.m:=by unfold normB qz;rw [decide_eq_true hne,decide_eq_true hle];rfl
      rw [hw,hnb,Bool.true_and] at htx
      have B2:=Bv.ext ev2
      obtain ⟨d0,d1,_⟩:=blk6' B2
      refine ⟨fun i W m=>∃ k:Nat,i=k∧k≤x.m.length∧m=x.m.length - k∧qz (x.m.take k)=true∧W=v2,⟨_,0,rfl,by omega,rfl,by rw [List.take_zero];rfl,rfl⟩,?_⟩
      rintro _ W m ⟨k,rfl,hk,rfl,hwk,rfl⟩ _
      refine ⟨_,d1,qc (fun hlt=>⟨_,d1,?_⟩) (fun hge=>?_)⟩
      ·have hkl:k < x.m.length:=by omega
       refine qat hkl (q3a _ ⟨_,rfl,qh (fun q=>bad W ev2 ?_) (fun q=>?_)⟩)
       ·rw [htx];exact qzf x.m k hkl (by rw [Bool.not_eq_true'] at q;exact q)
       ·exact ⟨x.m.length - (k + 1),by omega,k + 1,by rw [qg (by omega)],by omega,rfl,by rw [qzg x.m k hkl,hwk];rw [Bool.not_eq_false'] at q;rw [q];rfl,rfl⟩
      ·rw [List.take_of_length_le (by omega)] at hwk
       exact k17 W ev2 (by rw [htx];exact hwk)
     refine ⟨_,c0,qxq x.t fun w65 e65=>⟨_,rfl,qh (fun q=>bad w65 e65 (by rw [htx];rw [Bool.not_eq_true'] at q;rw [q];rfl)) (fun q=>?_)⟩⟩
     obtain ⟨d0,d1,_⟩:=blk6' (Bv.ext e65)
     rw [Bool.not_eq_false'] at q
     refine ⟨_,d1,qc (fun q2=>bad w65 e65 ?_) (fun q2=>⟨_,d1,qc (fun q3=>bad w65 e65 ?_) (fun q3=>k49 w65 e65 q q2 (by omega))⟩)⟩
     ·rw [htx];unfold normB;rw [decide_eq_false (not_not_intro q2)];simp
     ·rw [htx];unfold normB;rw [decide_eq_false (show ¬ x.m.length≤64 by omega)];simp
   refine qh (fun g2=>qh (fun g8=>H 8 v ?_ Ev) (fun g8=>k15 (fun hh=>by rw [hh.2] at g8;cases g8))) (fun g2=>k15 (fun hh=>by rw [hh.1] at g2;cases g2))
   unfold tokE;rw [if_neg hg,if_pos ⟨g2,g8⟩]
  unfold drw
  have ed:=qn w8
  have Bd:=B8.ext ed
  generalize w8.drew=wd at *
  obtain ⟨c0,c1,c2,c3,c4,c5⟩:=blk6' Bd
  refine ⟨_,c0,_,c1,_,c2,_,c3,_,c4,_,c5,?_,?_,trivial⟩
  ·refine qoa x 2 (.inl rfl) (by omega) (by omega) fun w77 e77=>⟨_,rfl,?_⟩
   obtain ⟨d0,d1,d2,d3,d4,d5⟩:=blk6' (Bd.ext e77)
   refine ⟨_,d0,_,d1,_,d2,_,d3,_,d4,_,d5,?_,trivial⟩
   exact qoa x 8 (.inr (.inl rfl)) (by omega) (by omega) fun w86 e86=>⟨_,rfl,k11 w86 (qa (qa ed e77) e86)⟩
  ·refine ⟨_,c0,_,c1,_,c2,_,c3,_,c4,_,c5,?_,trivial⟩
   refine qoa x 2 (.inl rfl) (by omega) (by omega) fun w95 e95=>⟨_,rfl,?_,trivial⟩
   exact qoa x 8 (.inr (.inl rfl)) (by omega) (by omega) fun w98 e98=>⟨_,rfl,k11 w98 (qa (qa ed e95) e98)⟩
 obtain ⟨c0,c1,c2,c3,c4,c5⟩:=blk6' B8
 refine ⟨_,c4,qc (fun g=>H 2 w8 ?_ e8) (fun g=>⟨_,c4,qc (fun g2=>H 2 w8 ?_ e8) (fun g2=>k9 (by omega))⟩)⟩
 ·unfold tokE;rw [if_pos (.inl g)]
 ·unfold tokE;rw [if_pos (.inr g2)]
end
end Go.Proofs
