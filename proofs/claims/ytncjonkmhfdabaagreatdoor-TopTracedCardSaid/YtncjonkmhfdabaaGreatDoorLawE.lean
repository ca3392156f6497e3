/- The contracts of the functions that the law reaches, one after the other, and at the end the law's card. -/
import Derived.Test.YtncjonkmhfdabaaGreatDoorLawD
import Derived.Lib.AppendZerosOnto
import Derived.DeepKeys4
import Derived.Lib.Fields
import Derived.Lib.Join
set_option linter.all false
set_option maxRecDepth 40000
namespace Go.Proofs
open Go Go.Sh Go.RowKit Go.Proofs.Tryz IntKind
def AmV (x:Am) (vs:List Value):Prop:=∃ cs,vs=[.agg ⟨cs⟩]∧AmE x cs
abbrev qfr (k c n:Int) (p:Ps) (u:Bool) (nm:List UInt8):List Value:=[.int .i64 k,.int .u8 c,.int .i64 n,.string ⟨⟨p.1⟩⟩,.int .i64 p.2,.bool u,.string ⟨⟨nm⟩⟩]
abbrev eachV (bx ty te:Nat):Value:=.func (.func 224) ⟨[]⟩ ⟨[.pointer (some ⟨bx,0,none⟩),.pointer (some ⟨ty,0,none⟩),.pointer (some ⟨te,0,none⟩)]⟩
theorem x_set {w:World} {b i:Nat} {cs:List Value} {v:Value} (hb:Blk w b cs 268) (hi:i < cs.length) (hv:v.oneCell'=true) {K:World→Prop}
  (h:∀ w',Blk w' b (cs.set i v) 268→Chg (fun k=>k=b) w w'→w'.heap.size=w.heap.size→K w'):stL w ((⟨b,0,none⟩:Addr).add i) 0 [v] K:=qc4 hb hi hv h
theorem x_back {bx bb:Nat} {w91:World} {k c n k9 c9 n9:Int} {p p9:Ps} {u u':Bool} {nm nm':List UInt8} (hbb:Blk w91 bb (qfr k c n p u nm) 268) (hbx:Blk w91 bx (qfr k9 c9 n9 p9 u' nm') 268) (hne:bb≠bx) {G:World→Prop}
  (hG:∀ v,Chg (fun k=>k=bx) w91 v→v.heap.size=w91.heap.size→Blk v bx (qfr k9 c9 n9 p9 u nm) 268→G v) :
  drw w91 fun w93=>∃ (x94:Bool),World.cell? w93 ((⟨bb,0,none⟩:Addr).add 5)=some (.bool x94)∧((∃ (x95:List UInt8),World.cell? w93 ((⟨bb,0,none⟩:Addr).add 6)=some (.string ⟨⟨x95⟩⟩)∧(dr (some (⟨bx,0,none⟩:Addr)) fun p96 =>
   (stL w93 (p96.add 5) 0 [.bool x94] fun w97=>dr (some (⟨bx,0,none⟩:Addr)) fun p98=>(stL w97 (p98.add 6) 0 [.string ⟨⟨x95⟩⟩] fun w99=>G w99)∧True)∧True))∧(dr (some (⟨bx,0,none⟩:Addr)) fun p101 =>
   (∃ (x102:List UInt8),World.cell? w93 ((⟨bb,0,none⟩:Addr).add 6)=some (.string ⟨⟨x102⟩⟩)∧((stL w93 (p101.add 5) 0 [.bool x94] fun w103=>dr (some (⟨bx,0,none⟩:Addr)) fun p104=>(stL w103 (p104.add 6) 0 [.string ⟨⟨x102⟩⟩] fun w105=>G w105)∧True)∧True)) ∧
   (stL w93 (p101.add 5) 0 [.bool x94] fun w107=>∃ (x108:List UInt8),World.cell? w107 ((⟨bb,0,none⟩:Addr).add 6)=some (.string ⟨⟨x108⟩⟩)∧(dr (some (⟨bx,0,none⟩:Addr)) fun p109=>(stL w107 (p109.add 6) 0 [.string ⟨⟨x108⟩⟩] fun w110=>G w110)∧True))∧True)∧True):=by
 unfold drw
 have ed:=qn w91
 have zd:w91.drew.heap.size=w91.heap.size:=rfl
 have hbb:=hbb.ext ed
 have hbx:=hbx.ext ed
 have hcd:Chg (fun k=>k=bx) w91 w91.drew:=.of_ext ed
 generalize w91.drew=wd at *
 obtain ⟨_,_,_,_,_,y5,y6⟩:=blk7 hbb
 have two:∀ v,Blk v bx ((qfr k9 c9 n9 p9 u' nm').set 5 (.bool u)) 268→Chg (fun k=>k=bx) wd v→v.heap.size=wd.heap.size→(stL v ((⟨bx,0,none⟩:Addr).add 6) 0 [.string ⟨⟨nm⟩⟩] fun w99=>G w99):=by
  intro v hv hc hs
  refine qc4 hv (by simp) rfl fun v2 hv2 hc2 hs2=>hG v2 ((hcd.trans hc).trans hc2) (by omega) ?_
  exact hv2
 have n6:∀ v,Chg (fun k=>k=bx) wd v→v.cell? ((⟨bb,0,none⟩:Addr).add 6)=some (.string ⟨⟨nm⟩⟩):=fun v hc=>(blk7 (hc.blk hbb hne)).2.2.2.2.2.2
 refine ⟨u,y5,⟨nm,y6,dr_ok ⟨?_,trivial⟩⟩,dr_ok ⟨⟨nm,y6,?_,trivial⟩,?_,trivial⟩,trivial⟩
 ·exact qc4 hbx (by simp) rfl fun v hv hc hs=>dr_ok ⟨two v hv hc hs,trivial⟩
 ·exact qc4 hbx (by simp) rfl fun v hv hc hs=>dr_ok ⟨two v hv hc hs,trivial⟩
 ·exact qc4 hbx (by simp) rfl fun v hv hc hs=>⟨nm,n6 v hc,dr_ok ⟨two v hv hc hs,trivial⟩⟩
theorem x_kind {bx bn:Nat} {w17:World} {k n k9 c9 n9:Int} {v1 v3:Value} {p9:Ps} {u':Bool} {nm':List UInt8} (hbn:Blk w17 bn [.int .i64 k,v1,.int .i64 n,v3] 226) (hbx:Blk w17 bx (qfr k9 c9 n9 p9 u' nm') 268) (hne:bn≠bx) {G:World→Prop}
  (hG:∀ v,Chg (fun k=>k=bx) w17 v→v.heap.size=w17.heap.size→Blk v bx (qfr k c9 n p9 u' nm') 268→G v) :
  drw w17 fun w93=>∃ (x94:Int),World.cell? w93 ((⟨bn,0,none⟩:Addr).add 0)=some (.int .i64 x94)∧((∃ (x95:Int),World.cell? w93 ((⟨bn,0,none⟩:Addr).add 2)=some (.int .i64 x95)∧(dr (some (⟨bx,0,none⟩:Addr)) fun p96 =>
   (stL w93 (p96.add 0) 0 [.int .i64 x94] fun w97=>dr (some (⟨bx,0,none⟩:Addr)) fun p98=>(stL w97 (p98.add 2) 0 [.int .i64 x95] fun w99=>G w99)∧True)∧True))∧(dr (some (⟨bx,0,none⟩:Addr)) fun p101 =>
   (∃ (x102:Int),World.cell? w93 ((⟨bn,0,none⟩:Addr).add 2)=some (.int .i64 x102)∧((stL w93 (p101.add 0) 0 [.int .i64 x94] fun w103=>dr (some (⟨bx,0,none⟩:Addr)) fun p104=>(stL w103 (p104.add 2) 0 [.int .i64 x102] fun w105=>G w105)∧True)∧True)) ∧
   (stL w93 (p101.add 0) 0 [.int .i64 x94] fun w107=>∃ (x108:Int),World.cell? w107 ((⟨bn,0,none⟩:Addr).add 2)=some (.int .i64 x108)∧(dr (some (⟨bx,0,none⟩:Addr)) fun p109=>(stL w107 (p109.add 2) 0 [.int .i64 x108] fun w110=>G w110)∧True))∧True)∧True):=by
 unfold drw
 have ed:=qn w17
 have zd:w17.drew.heap.size=w17.heap.size:=rfl
 have hbn:=hbn.ext ed
 have hbx:=hbx.ext ed
 have hcd:Chg (fun k=>k=bx) w17 w17.drew:=.of_ext ed
 generalize w17.drew=wd at *
 have cell:∀ v,Chg (fun k=>k=bx) wd v→v.cell? ((⟨bn,0,none⟩:Addr).add 0)=some (.int .i64 k)∧v.cell? ((⟨bn,0,none⟩:Addr).add 2)=some (.int .i64 n):=fun v hc=>by
  have hb:=hc.blk hbn hne
  simp only [qe,hb.cell];exact ⟨rfl,rfl⟩
 have two:∀ v,Blk v bx ((qfr k9 c9 n9 p9 u' nm').set 0 (.int .i64 k)) 268→Chg (fun k=>k=bx) wd v→v.heap.size=wd.heap.size→(stL v ((⟨bx,0,none⟩:Addr).add 2) 0 [.int .i64 n] fun w99=>G w99):=by
  intro v hv hc hs
  refine qc4 hv (by simp) rfl fun v2 hv2 hc2 hs2=>hG v2 ((hcd.trans hc).trans hc2) (by omega) ?_
  exact hv2
 obtain ⟨y0,y2⟩:=cell wd (Chg.refl _ _)
 refine ⟨k,y0,⟨n,y2,dr_ok ⟨?_,trivial⟩⟩,dr_ok ⟨⟨n,y2,?_,trivial⟩,?_,trivial⟩,trivial⟩
 ·exact qc4 hbx (by simp) rfl fun v hv hc hs=>dr_ok ⟨two v hv hc hs,trivial⟩
 ·exact qc4 hbx (by simp) rfl fun v hv hc hs=>dr_ok ⟨two v hv hc hs,trivial⟩
 ·exact qc4 hbx (by simp) rfl fun v hv hc hs=>⟨n,(cell v hc).2,dr_ok ⟨two v hv hc hs,trivial⟩⟩
set_option maxHeartbeats 1000000 in
theorem atoms_walk {yf:Fn} {ya yb:Array Value} {T:Nat→Prop} {J:List Am→(Nat→Prop)→World→Prop} {Jx:(Nat→Prop)→World→Prop} {w0:World} {xs:List Am} {bx ty te:Nat}
  (hTl:∀ k,T k→k < w0.heap.size)
  (hJ:∀ pre S W W',J pre S W→Chg (fun k=>w0.heap.size≤k∧¬ S k) W W'→J pre S W') (hJx:∀ S W W',Jx S W→Chg (fun k=>w0.heap.size≤k∧¬ S k) W W'→Jx S W')
  (hbody:∀ pre x vs S W,AmV x vs→pre++[x] <+: xs→w0.heap.size≤W.heap.size→(∀ k,S k→k < W.heap.size∧¬ T k)→J pre S W→CallV prog (.func yf ya yb) vs W fun e W'=>Chg S W W' ∧
   ∃ S':Nat→Prop,(∀ k,S' k→(S k∨W.heap.size≤k)∧k < W'.heap.size)∧((e=.returned (.bool true)∧J (pre++[x]) S' W')∨(e=.returned (.bool false)∧Jx S' W')))
  (hbx0:w0.heap.size≤bx) (hxy:bx≠ty) (hxe:bx≠te) :
  ∀ (f:Fo) {wi:Bool} {R:Ending→World→Prop} {S:Nat→Prop} {w:World} {a:Option Addr} {n c:Nat} (pre:List Am) (p:Ps) (u:Bool) (nm:List UInt8) (k0 c0 n0:Int),f.size≤1000000→okF wi f→0≤p.2→p.2 + f.size≤1000000000→SlF T w0 a n f→w0.heap.size≤w.heap.size→(∀ k,T k→w.heap[k]? = w0.heap[k]?)→(∀ k,S k→k < w.heap.size∧¬ T k) →
   Blk w bx (qfr k0 c0 n0 p u nm) 268→Blk w ty [.func yf ya yb] 287→Blk w te [eachV bx ty te] 288→¬ S bx→¬ S ty→¬ S te →
   pre++amsF p f u nm <+: xs→J pre S w→(∀ S' W' k1 c1 n1,Chg (fun k=>S k∨k=bx) w W'→(∀ k,S' k→(S k∨w.heap.size≤k)∧k < W'.heap.size)→Blk W' bx (qfr k1 c1 n1 (endL p (qbp f)) u nm) 268→J (pre++amsF p f u nm) S' W'→R (.returned (.bool true)) W') →
   (∀ S' W' k1 c1 n1 p1,Chg (fun k=>S k∨k=bx) w W'→(∀ k,S' k→(S k∨w.heap.size≤k)∧k < W'.heap.size)→Blk W' bx (qfr k1 c1 n1 p1 u nm) 268→Jx S' W'→R (.returned (.bool false)) W') →
   Calls prog qf8 ⟨[.slice a n c,.pointer (some ⟨bx,0,none⟩),.pointer (some ⟨ty,0,none⟩),.pointer (some ⟨te,0,none⟩)]⟩ w R:=by
 intro f
 induction hz:f.size using Nat.strongRecOn generalizing f with
 | _ z ih =>
 intro wi R S w a n c pre p u nm k0 c0 n0 hs hok hp0 hp1 hf hw0 hT hS hBx hBy hBe nSx nSy nSe hpre hj hend hstop
 apply qna
 have hn:=hf.1
 have hfl:=f.len_le_size
 have lbx:=hBx.lt
 have lty:=hBy.lt
 have lte:=hBe.lt
 have nTx:¬ T bx:=fun hh=>by have:=hTl _ hh;omega
 obtain ⟨Inv,hInv⟩:∃ Inv:Int→World→Nat→Prop,∀ i W m,Inv i W m↔∃ (pr r:Fo) (ps:List Am) (S1:Nat→Prop) (p1:Ps) (k1 c1 n1:Int),f=pr.app r∧i=pr.len∧m=r.len∧Chg (fun k=>S k∨k=bx) w W∧(∀ k,S1 k→(S k∨w.heap.size≤k)∧k < W.heap.size)∧J ps S1 W∧pre++amsF p f u nm=ps++amsF p1 r u nm ∧
   Blk W bx (qfr k1 c1 n1 p1 u nm) 268∧endL p (qbp f)=endL p1 (qbp r)∧okF wi r∧0≤p1.2∧p1.2 + r.size≤1000000000:=⟨_,fun _ _ _=>Iff.rfl⟩
 refine ⟨Inv,⟨_,(hInv _ _ _).2 ⟨.nil,f,pre,S,p,k0,c0,n0,rfl,rfl,rfl,Chg.refl _ _,fun k hk=>⟨.inl hk,(hS k hk).1⟩,hj,rfl,hBx,rfl,hok,hp0,by omega⟩⟩,?_⟩
 intro i W m hI _
 obtain ⟨pr,r,xs',S1,p1,k1,c1,n1,hpr,rfl,rfl,hcW,hS1,hjW,heq,hBxW,hel,hokr,hpp0,hpp1⟩:=(hInv _ _ _).1 hI
 have hwW:=hcW.size
 refine qc (fun hlt=>?_) (fun hge=>?_)
 ·obtain ⟨k,t,mm,ps,r,rfl⟩:=Fo.next hpr (by omega)
  have hsl:=Fo.sub_len hpr
  have hsz:=Fo.sub_size hpr
  obtain ⟨ok1,ok2,ok3⟩:=hokr
  obtain ⟨g1,g2,g3,g4,g5,g6,g7⟩:=qma ok1
  simp only [Fo.size] at hpp1
  have e1:f=(pr.app (.one k t mm ps)).app r:=by rw [Fo.app_one_app];exact hpr
  have i1:i64.wrap ((pr.len:Int) + 1)=((pr.app (.one k t mm ps)).len:Int):=by rw [qg (by omega)];simp [Fo.one]
  have hTW:∀ k,T k→W.heap[k]? = w0.heap[k]?:=fun k hk=>(hcW.block k (by have:=hTl k hk;omega) (fun h=>h.elim (fun h=>(hS k h).2 hk) fun h=>nTx (h ▸ hk))).trans (hT k hk)
  obtain ⟨q,a',c',hq,hTq,hql,hN⟩:=(hf.keep (S':=T) (w':=W) (fun k hk _=>⟨hk,hTW k hk⟩) (by omega)).get hpr
  have hNT:SlF T w0 a' ps.len ps:=hN.sl.keep' fun k hk _=>⟨hk,hTl k hk,(hTW k hk).symm⟩
  refine hq _ ⟨k,hN.kind,t,hN.text,mm,hN.num,a',ps.len,c',hN.parts,?_⟩
  refine qac (by simp) (by intro u hu;simp only [List.mem_cons,List.not_mem_nil,or_false] at hu;rcases hu with rfl | rfl | rfl | rfl <;> rfl) fun bn w1 hbn hBn e2 s2=>?_
  have z2:=e2.size
  have n1x:¬ S1 bx:=fun h=>(hS1 _ h).1.elim nSx (by omega)
  have n1y:¬ S1 ty:=fun h=>(hS1 _ h).1.elim nSy (by omega)
  have n1e:¬ S1 te:=fun h=>(hS1 _ h).1.elim nSe (by omega)
  have n1n:¬ S1 bn:=fun h=>by have:=(hS1 _ h).2;omega
  have hBx1:=hBxW.ext e2
  have hc1:Chg (fun k=>S k∨k=bx) w w1:=hcW.trans (.of_ext e2)
  have hj1:J xs' S1 w1:=hJ _ _ _ _ hjW (Chg.of_ext e2)
  -- what stands at a later world
  have hy:∀ v,Chg (fun k=>S k∨k=bx) w v→Blk v ty [.func yf ya yb] 287:=fun v hv=>hv.blk hBy (fun h=>h.elim nSy fun h=>hxy h.symm)
  have he:∀ v,Chg (fun k=>S k∨k=bx) w v→Blk v te [eachV bx ty te] 288:=fun v hv=>hv.blk hBe (fun h=>h.elim nSe fun h=>hxe h.symm)
  have hT':∀ v,Chg (fun k=>S k∨k=bx) w v→∀ k,T k→v.heap[k]? = w0.heap[k]?:=fun v hv k hk=>(hv.block k (by have:=hTl k hk;omega) (fun h=>h.elim (fun h=>(hS k h).2 hk) fun h=>nTx (h ▸ hk))).trans (hT k hk)
  have hSS:∀ (S3:Nat→Prop) (v:World),(∀ k,S3 k→(S k∨w.heap.size≤k)∧k < v.heap.size)→∀ k,S3 k→k < v.heap.size∧¬ T k:=fun S3 v h3 k hk=>⟨(h3 k hk).2,fun ht=>(h3 k hk).1.elim (fun h=>(hS k h).2 ht) (fun h=>by have:=hTl k ht;omega)⟩
  rw [q0w] at heq
  rw [qbp,endL,q4e] at hel
  -- a round ends
  have round:∀ (S3:Nat→Prop) (w3:World) (p3:Ps) (k3 c3 n3:Int),Chg (fun k=>S k∨k=bx) w w3→(∀ k,S3 k→(S k∨w.heap.size≤k)∧k < w3.heap.size)→J (xs'++(amN p1 ⟨⟨k,t,mm,ps⟩,u,nm⟩++amsF (posN p1 ⟨k,t,mm,ps⟩).1 ps (u||decide (k=7)) (if k=11 then t else nm))) S3 w3 →
    p3=endL (posN p1 ⟨k,t,mm,ps⟩).1 (qbp ps)→Blk w3 bx (qfr k3 c3 n3 p3 u nm) 268→∃ m':Nat,m' < (Fo.cons k t mm ps r).len∧Inv (i64.wrap ((pr.len:Int) + 1)) w3 m':=by
   intro S3 w3 p3 k3 c3 n3 r1 r2 r3 r4 r5
   have hbd:=endL_bd (⟨k,t,mm,ps⟩ :: qbp ps) p1 p1.2 hpp0 (Int.le_refl _) hpp0
   rw [endL,← r4,List.length_cons,qn6] at hbd
   refine ⟨r.len,by simp,(hInv _ _ _).2 ⟨_,r,_,S3,p3,k3,c3,n3,e1,i1,rfl,r1,r2,r3,?_,r5,?_,ok3,hbd.1,by omega⟩⟩
   ·rw [heq,r4];simp only [List.append_assoc]
   ·rw [hel,r4]
  have hpreA:xs'++(amN p1 ⟨⟨k,t,mm,ps⟩,u,nm⟩++amsF (posN p1 ⟨k,t,mm,ps⟩).1 ps (u||decide (k=7)) (if k=11 then t else nm)) <+: xs:=by
   refine List.IsPrefix.trans ?_ hpre
   rw [heq]
   exact ⟨amsF (endL (posN p1 ⟨k,t,mm,ps⟩).1 (qbp ps)) r u nm,by simp only [List.append_assoc]⟩
  intro K18 hK18
  have k18:∀ w19,Chg (fun k=>k=bx) w1 w19→Blk w19 bx (qfr k c1 mm p1 u nm) 268→K18 w19:=by
   intro w19 h19 hx19
   refine hK18 _ fun _=>?_
   have hc19:Chg (fun k=>S k∨k=bx) w w19:=hc1.trans (h19.mono fun k _ hk=>.inr hk)
   have z19:=h19.size
   have hBn19:=h19.blk hBn (by omega)
   have hj19:J xs' S1 w19:=hJ _ _ _ _ hj1 (h19.mono fun j _ hj=>by subst hj;exact ⟨hbx0,n1x⟩)
   have hS19:∀ k,S1 k→(S k∨w.heap.size≤k)∧k < w19.heap.size:=fun j hj=>⟨(hS1 j hj).1,by have:=(hS1 j hj).2;omega⟩
   obtain ⟨y0,y1,y2,y3⟩:=blk4 hBn19
   obtain ⟨x0,x1,x2,x3,x4,x5,x6⟩:=blk7 hx19
   have ea4:((⟨bx,0,none⟩:Addr).add 3).add 1=(⟨bx,0,none⟩:Addr).add 4:=by simp only [qe]
   refine ⟨k,y0,qc (fun hk2=>dr_ok ?_) (fun hk2=>qc (fun hk3=>?_) (fun hk3=>qc (fun hk1=>?_) (fun hk1=>?_)))⟩
   ·
    obtain rfl:=g6 (by omega)
    rw [ea4]
    refine ⟨p1.2,x4,dr_ok ?_⟩
    rw [qai (by omega)]
    refine x_set hx19 (i:=4) (by simp) rfl fun w24 b24 c24 s24=>?_
    have ha:amN p1 ⟨⟨k,t,mm,.nil⟩,u,nm⟩++amsF (posN p1 ⟨k,t,mm,.nil⟩).1 .nil (u||decide (k=7)) (if k=11 then t else nm)=[]:=by unfold amN;simp [hk2,amsF,qi8,amsL]
    have hp:posN p1 ⟨k,t,mm,.nil⟩=((p1.1,p1.2 + 1),0):=by unfold posN;simp [hk2]
    refine round S1 w24 (p1.1,p1.2 + 1) k c1 mm (hc19.trans (c24.mono fun k _ hk=>.inr hk)) (fun j hj=>⟨(hS19 j hj).1,by have:=(hS19 j hj).2;omega⟩) ?_ (by rw [hp];rfl) b24
    rw [ha,List.append_nil]
    exact hJ _ _ _ _ hj19 (c24.mono fun j _ hj=>by subst hj;exact ⟨hbx0,n1x⟩)
   ·
    obtain rfl:=g6 (by omega)
    refine ⟨t,y1,dr_ok ?_⟩
    rw [qe]
    refine qa7 hx19 (by simp) (by simp [Value.oneCell']) fun w28 b28 q2 q3 q4 q5 q6=>?_
    have c28:Chg (fun k=>k=bx) w19 w28:=⟨q4,q5,q6,by omega,fun j _ hj=>q2 j hj⟩
    have ha:amN p1 ⟨⟨k,t,mm,.nil⟩,u,nm⟩++amsF (posN p1 ⟨k,t,mm,.nil⟩).1 .nil (u||decide (k=7)) (if k=11 then t else nm)=[]:=by unfold amN;simp [hk3,amsF,qi8,amsL]
    have hp:posN p1 ⟨k,t,mm,.nil⟩=((t,0),0):=by unfold posN;simp [hk3]
    refine round S1 w28 (t,0) k c1 mm (hc19.trans (c28.mono fun k _ hk=>.inr hk)) (fun j hj=>⟨(hS19 j hj).1,by have:=(hS19 j hj).2;omega⟩) ?_ (by rw [hp];rfl) b28
    rw [ha,List.append_nil]
    exact hJ _ _ _ _ hj19 (c28.mono fun j _ hj=>by subst hj;exact ⟨hbx0,n1x⟩)
   ·
    subst hk1
    obtain rfl:=g6 (by omega)
    have hp:posN p1 ⟨1,t,mm,.nil⟩=(p1,t.length):=by unfold posN;simp
    have ha:amN p1 ⟨⟨1,t,mm,.nil⟩,u,nm⟩++amsF (posN p1 ⟨1,t,mm,.nil⟩).1 .nil (u||decide ((1:Int)=7)) (if (1:Int)=11 then t else nm)=amT t p1 u nm:=by unfold amN;simp [amsF,qi8,amsL]
    rw [ha] at round hpreA
    have htl:t.length≤65536:=(checkC_mk.1 (g3 rfl).2).1
    refine ⟨t,y1,?_⟩
    refine ⟨fun i31 W2 m34=>∃ (jn:Nat) (S2:Nat→Prop) (cc:Int),i31=jn∧jn≤t.length∧m34=t.length - jn∧Chg (fun k=>S k∨k=bx) w W2∧(∀ k,S2 k→(S k∨w.heap.size≤k)∧k < W2.heap.size)∧J (xs'++(amT t p1 u nm).take jn) S2 W2∧Blk W2 bx (qfr 1 cc mm p1 u nm) 268 ∧
      Blk W2 bn [.int .i64 1,.string ⟨⟨t⟩⟩,.int .i64 mm,.slice a' (Fo.nil).len c'] 226∧¬ S2 bn∧¬ S2 bx,
     ⟨_,0,S1,c1,rfl,by omega,rfl,hc19,hS19,by rw [List.take_zero,List.append_nil];exact hj19,hx19,hBn19,n1n,n1x⟩,?_⟩
    rintro _ W2 m34 ⟨jn,S2,cc,rfl,hjn,rfl,q1,q2,q3,q4,q5,q6,q7⟩ _
    have zW2:=q1.size
    refine qc (fun hl2=>?_) (fun hl2=>?_)
    ·have hjl:jn < t.length:=by omega
     refine ⟨t,(blk4 q5).2.1,qat hjl (dr_ok ?_)⟩
     refine x_set q4 (i:=1) (by simp) rfl fun w39 b39 c39 s39=>dr_ok ?_
     have hc39:Chg (fun k=>S k∨k=bx) w w39:=q1.trans (c39.mono fun k _ hk=>.inr hk)
     refine ⟨yf,ya,yb,by rw [(hy w39 hc39).cell];rfl,dr_ok ?_⟩
     obtain ⟨z0,z1,z2,z3,z4,z5,z6⟩:=blk7 b39
     refine ⟨_,z0,_,z1,_,z2,_,z3,_,z4,_,z5,_,z6,?_⟩
     have hj39:J (xs'++(amT t p1 u nm).take jn) S2 w39:=hJ _ _ _ _ q3 (c39.mono fun j _ hj=>by subst hj;exact ⟨hbx0,q7⟩)
     have htk:(amT t p1 u nm).take (jn + 1)=(amT t p1 u nm).take jn++[.ch t[jn] p1 u nm]:=by
      rw [List.take_succ_eq_append_getElem (by unfold amT;rw [List.length_map];exact hjl)]
      unfold amT
      rw [List.getElem_map]
     have hpx:(xs'++(amT t p1 u nm).take jn)++[.ch t[jn] p1 u nm] <+: xs:=by
      refine List.IsPrefix.trans ?_ hpreA
      rw [List.append_assoc,← htk]
      exact (List.prefix_append_right_inj _).2 (List.take_prefix _ _)
     refine qch (hbody (xs'++(amT t p1 u nm).take jn) (.ch t[jn] p1 u nm) _ S2 w39 ⟨_,rfl,mm,rfl⟩ hpx (by omega) (hSS S2 w39 fun j hj=>⟨(q2 j hj).1,by have:=(q2 j hj).2;omega⟩) hj39) ?_
     rintro e w51 ⟨hc2,S3,hS3,hres⟩
     have z51:=hc2.size
     have hc51:Chg (fun k=>S k∨k=bx) w w51:=qb3 hc39 hc2 fun i hi hh=>.inl ((q2 i hh).1.elim id fun h=>by omega)
     have hS3w:∀ k,S3 k→(S k∨w.heap.size≤k)∧k < w51.heap.size:=fun j hj=>⟨(hS3 j hj).1.elim (fun h=>(q2 j h).1) (fun h=>.inr (by omega)),(hS3 j hj).2⟩
     rcases hres with ⟨rfl,hj2⟩ | ⟨rfl,hjx⟩
     ·refine ⟨true,rfl,?_⟩
      simp only [Bool.not_true,br_f]
      have lb:=q5.lt
      refine ⟨t.length - (jn + 1),by omega,jn + 1,S3,_,by rw [qg (by omega)],by omega,rfl,hc51,hS3w,?_,hc2.blk b39 q7,hc2.blk (c39.blk q5 (by omega)) q6,fun hh=>(hS3 _ hh).1.elim q6 (by omega),fun hh=>(hS3 _ hh).1.elim q7 (by have:=q4.lt;omega)⟩
      rw [htk,← List.append_assoc];exact hj2
     ·refine ⟨false,rfl,?_⟩
      simp only [Bool.not_false,br_t]
      exact hstop S3 _ _ _ _ _ hc51 hS3w (hc2.blk b39 q7) hjx
    ·have:jn=t.length:=by omega
     subst this
     have htk:(amT t p1 u nm).take t.length=amT t p1 u nm:=List.take_of_length_le (by unfold amT;rw [List.length_map];exact Nat.le_refl _)
     rw [htk] at q3
     exact round S2 W2 p1 1 cc mm q1 q2 q3 (by rw [hp];rfl) q4
   ·intro K55 hK55
    -- a gap,or what ends words
    have kYes:(k=4∨k=5∨k=6)→K55 true w19:=by
     intro hk
     obtain rfl:=g6 (by omega)
     refine hK55 _ _ fun _=>?_
     simp only [br_t]
     obtain ⟨x,hx,hA⟩:∃ x:Am,AmE x (qfr k c1 mm p1 u nm)∧amN p1 ⟨⟨k,t,mm,.nil⟩,u,nm⟩++amsF (posN p1 ⟨k,t,mm,.nil⟩).1 .nil (u||decide (k=7)) (if k=11 then t else nm)=[x]:=by
      rcases hk with rfl | rfl | rfl
      ·exact ⟨.brk false,⟨c1,mm,p1,u,nm,rfl⟩,by unfold amN;simp [amsF,qi8,amsL]⟩
      ·exact ⟨.brk true,⟨c1,mm,p1,u,nm,rfl⟩,by unfold amN;simp [amsF,qi8,amsL]⟩
      ·exact ⟨.gap mm p1 u nm,⟨c1,rfl⟩,by unfold amN;simp [amsF,qi8,amsL]⟩
     have hp:posN p1 ⟨k,t,mm,.nil⟩=(p1,(posN p1 ⟨k,t,mm,.nil⟩).2):=by unfold posN;rcases hk with rfl | rfl | rfl <;> simp
     rw [hA] at round hpreA
     refine dr_ok ⟨yf,ya,yb,by rw [(hy w19 hc19).cell];rfl,dr_ok ⟨_,x0,_,x1,_,x2,_,x3,_,x4,_,x5,_,x6,?_⟩⟩
     refine qch (hbody xs' x _ S1 w19 ⟨_,rfl,hx⟩ hpreA (by omega) (hSS S1 w19 hS19) hj19) ?_
     rintro e w69 ⟨hc2,S3,hS3,hres⟩
     have z69:=hc2.size
     have hc69:Chg (fun k=>S k∨k=bx) w w69:=qb3 hc19 hc2 fun i hi hh=>.inl ((hS1 i hh).1.elim id fun h=>by omega)
     have hS3w:∀ k,S3 k→(S k∨w.heap.size≤k)∧k < w69.heap.size:=fun j hj=>⟨(hS3 j hj).1.elim (fun h=>(hS1 j h).1) (fun h=>.inr (by omega)),(hS3 j hj).2⟩
     rcases hres with ⟨rfl,hj2⟩ | ⟨rfl,hjx⟩
     ·refine ⟨true,rfl,?_⟩
      simp only [Bool.not_true,br_f]
      exact round S3 w69 p1 k c1 mm hc69 hS3w hj2 (by rw [hp];rfl) (hc2.blk hx19 n1x)
     ·refine ⟨false,rfl,?_⟩
      simp only [Bool.not_false,br_t]
      exact hstop S3 _ _ _ _ _ hc69 hS3w (hc2.blk hx19 n1x) hjx
    -- the parts
    have kNo:¬ (k=4∨k=5∨k=6)→K55 false w19:=by
     intro hk
     have hk7:7≤k:=by omega
     refine hK55 _ _ fun _=>?_
     simp only [br_f]
     have hp:posN p1 ⟨k,t,mm,ps⟩=(p1,0):=by unfold posN;simp [hk1,hk2,hk3,show ¬ k=6 by omega]
     have hA0:amN p1 ⟨⟨k,t,mm,ps⟩,u,nm⟩=[]:=by unfold amN;simp [hk1,show ¬ k=6 by omega,show ¬ k=4 by omega,show ¬ k=5 by omega]
     rw [hp,hA0,List.nil_append] at round hpreA
     refine dr_ok ⟨_,x0,_,x1,_,x2,_,x3,_,x4,_,x5,_,x6,?_⟩
     refine qac (by simp) (by intro u hu;simp only [List.mem_cons,List.not_mem_nil,or_false] at hu;rcases hu with rfl | rfl | rfl | rfl | rfl | rfl | rfl <;> rfl) fun bb w82 hbb hBb e82 s82=>?_
     have z82:=e82.size
     have nbb:¬ S1 bb:=fun h=>by have:=(hS19 _ h).2;omega
     intro K83 hK83
     have k83:∀ w84,Chg (fun k=>k=bx) w82 w84→Blk w84 bx (qfr k c1 mm p1 (u||decide (k=7)) nm) 268→K83 w84:=by
      intro w84 c84 hx84
      refine hK83 _ fun _=>?_
      have z84:=c84.size
      have hc84:Chg (fun k=>S k∨k=bx) w w84:=(hc19.trans (.of_ext e82)).trans (c84.mono fun k _ hk=>.inr hk)
      have hBn84:=c84.blk (hBn19.ext e82) (by omega)
      have hBb84:=c84.blk hBb (by omega)
      intro K85 hK85
      have k85:∀ w86,Chg (fun k=>k=bx) w84 w86→Blk w86 bx (qfr k c1 mm p1 (u||decide (k=7)) (if k=11 then t else nm)) 268→K85 w86:=by
       intro w86 c86 hx86
       refine hK85 _ fun _=>?_
       have z86:=c86.size
       have hc86:Chg (fun k=>S k∨k=bx) w w86:=hc84.trans (c86.mono fun k _ hk=>.inr hk)
       have hBn86:=c86.blk hBn84 (by omega)
       have hBb86:=c86.blk hBb84 (by omega)
       have hj86:J xs' S1 w86:=hJ _ _ _ _ hj19 (((Chg.of_ext e82).trans (c84.trans c86 |>.mono fun j _ hj=>by subst hj;exact ⟨hbx0,n1x⟩)))
       have hS86:∀ k,S1 k→(S k∨w.heap.size≤k)∧k < w86.heap.size:=fun j hj=>⟨(hS19 j hj).1,by have:=(hS19 j hj).2;omega⟩
       refine dr_ok ⟨.func 224,⟨[]⟩,⟨[.pointer (some ⟨bx,0,none⟩),.pointer (some ⟨ty,0,none⟩),.pointer (some ⟨te,0,none⟩)]⟩,by rw [(he w86 hc86).cell];rfl,a',ps.len,c',(blk4 hBn86).2.2.2,by kernel_rfl,?_⟩
       refine ih _ (hz ▸ hsz) ps rfl (S:=S1) xs' p1 (u||decide (k=7)) (if k=11 then t else nm) k c1 mm (by omega) ok2 hpp0 (by omega) hNT (by omega) (hT' w86 hc86) (hSS S1 w86 hS86) hx86 (hy w86 hc86) (he w86 hc86) n1x n1y n1e hpreA hj86
        (fun S3 w91 k9 c9 n9 hc3 hS3 hx91 hj3=>⟨true,rfl,?_⟩) (fun S3 w91 k9 c9 n9 p9 hc3 hS3 hx91 hjx=>⟨false,rfl,?_⟩)
       ·have z91:=hc3.size
        have nb:bb≠bx:=by have:=hx19.lt;omega
        refine x_back (hc3.blk hBb86 (fun h=>h.elim nbb nb)) hx91 nb fun v hv hsv hxv=>?_
        simp only [Bool.not_true,br_f]
        have hcv:Chg (fun k=>S k∨k=bx) w v:=(qb3 hc86 hc3 fun i hi hh=>hh.imp (fun h=>(hS1 i h).1.elim id fun h=>by omega) id).trans (hv.mono fun k _ hk=>.inr hk)
        have n3:¬ S3 bx:=fun hh=>(hS3 _ hh).1.elim n1x (by have:=hx86.lt;omega)
        refine round S3 v _ k9 c9 n9 hcv (fun j hj=>⟨(hS3 j hj).1.elim (fun h=>(hS1 j h).1) (fun h=>.inr (by omega)),by have:=(hS3 j hj).2;omega⟩) (hJ _ _ _ _ hj3 (hv.mono fun j _ hj=>by subst hj;exact ⟨hbx0,n3⟩)) rfl hxv
       ·have z91:=hc3.size
        have nb:bb≠bx:=by have:=hx19.lt;omega
        refine x_back (hc3.blk hBb86 (fun h=>h.elim nbb nb)) hx91 nb fun v hv hsv hxv=>?_
        simp only [Bool.not_false,br_t]
        have hcv:Chg (fun k=>S k∨k=bx) w v:=(qb3 hc86 hc3 fun i hi hh=>hh.imp (fun h=>(hS1 i h).1.elim id fun h=>by omega) id).trans (hv.mono fun k _ hk=>.inr hk)
        have n3:¬ S3 bx:=fun hh=>(hS3 _ hh).1.elim n1x (by have:=hx86.lt;omega)
        exact hstop S3 v _ _ _ _ hcv (fun j hj=>⟨(hS3 j hj).1.elim (fun h=>(hS1 j h).1) (fun h=>.inr (by omega)),by have:=(hS3 j hj).2;omega⟩) hxv (hJx _ _ _ hjx (hv.mono fun j _ hj=>by subst hj;exact ⟨hbx0,n3⟩))
      refine ⟨k,(blk4 hBn84).1,qc (fun h11=>⟨t,(blk4 hBn84).2.1,dr_ok ?_⟩) (fun h11=>?_)⟩
      ·refine x_set hx84 (i:=6) (by simp) rfl fun v hv hc hs=>k85 v hc ?_
       rw [if_pos h11];exact hv
      ·refine k85 w84 (Chg.refl _ _) ?_
       rw [if_neg h11];exact hx84
     have hx82:=hx19.ext e82
     refine dr_ok ⟨u,(blk7 hx82).2.2.2.2.2.1,?_⟩
     cases u with
     | true =>
      simp only [br_t]
      refine dr_ok (x_set hx82 (i:=5) (by simp) rfl fun v hv hc hs=>k83 v hc ?_)
      exact hv
     | false =>
      simp only [br_f]
      refine ⟨k,(blk4 (hBn19.ext e82)).1,dr_ok (x_set hx82 (i:=5) (by simp) rfl fun v hv hc hs=>k83 v hc ?_)⟩
      rw [Bool.false_or];exact hv
    refine qc (fun h6=>?_) (fun h6=>qc (fun h5=>?_) (fun h5=>?_))
    ·rw [decide_eq_true h6];exact kYes (by omega)
    ·rw [decide_eq_true h5];exact kYes (by omega)
    ·by_cases h4:k=4
     ·rw [decide_eq_true h4];exact kYes (by omega)
     ·rw [decide_eq_false h4];exact kNo (by omega)
  exact x_kind hBn hBx1 (by omega) fun v hv hsv hxv=>k18 v hv hxv
 ·obtain ⟨rfl,rfl⟩:=Fo.last hpr (by omega)
  have e:xs'=pre++amsF p pr u nm:=by rw [heq];simp [amsF,qi8,amsL]
  rw [e] at hjW
  rw [show endL p1 (qbp .nil)=p1 from rfl] at hel
  rw [← hel] at hBxW
  exact hend S1 _ _ _ _ hcW hS1 hBxW hjW
theorem q78 {T:Nat→Prop} {wi:Bool} (f:Fo) (p:Ps) (hs:f.size≤1000000) (hok:okF wi f) (h0:0≤p.2) (h1:p.2 + f.size≤1000000000) {a:Option Addr} {n c:Nat} (b1 b2:Nat) (w:World) (hTl:∀ k,T k→k < w.heap.size) (hB1:Blk w b1 [.string ⟨⟨p.1⟩⟩,.int .i64 p.2] 115) (hB2:Blk w b2 [.slice a n c] 224) (hf:SlF T w a n f) :
  IterO prog qb9 [.pointer (some ⟨b1,0,none⟩),.pointer (some ⟨b2,0,none⟩)] (amsF p f false []) AmV T w:=by
 intro yf ya yb S0 J Jx R hS hJ hJx hbody hj0 hend hstop
 apply qq5
 refine qd fun ty w5 hty hBy e5 s5=>dr_ok ?_
 obtain ⟨q0,q1⟩:=blk2 (hB1.ext e5)
 refine ⟨p.1,q0,p.2,q1,?_⟩
 refine qac (by simp) (by intro u hu;simp only [List.mem_cons,List.not_mem_nil,or_false] at hu;rcases hu with rfl | rfl | rfl | rfl | rfl | rfl | rfl <;> rfl) fun bx w11 hbx hBx e11 s11=>?_
 refine qd fun te w13 hte hBe' e13 s13=>?_
 refine qam hBe' rfl fun w14 hBe hcc hss=>?_
 have E11:=qa e5 e11
 have E13:=qa E11 e13
 have z5:=e5.size
 have z11:=e11.size
 have z13:=e13.size
 have E14:Ext w w14:=qi E13 hcc fun k hk=>by omega
 have lb2:=hB2.lt
 have hB2a:=hB2.ext E14
 have hBx':=hcc.blk (hBx.ext e13) (by omega)
 have hBy':=hcc.blk ((hBy.ext e11).ext e13) (by omega)
 refine ⟨.func 224,⟨[]⟩,⟨[.pointer (some ⟨bx,0,none⟩),.pointer (some ⟨ty,0,none⟩),.pointer (some ⟨te,0,none⟩)]⟩,by rw [hBe.cell];rfl,dr_ok ⟨a,n,c,by rw [hB2a.cell];rfl,by kernel_rfl,?_⟩⟩
 have hz:=E14.size
 refine atoms_walk (w0:=w) (xs:=amsF p f false []) hTl hJ hJx hbody (bx:=bx) (ty:=ty) (te:=te) (by omega) (by omega) (by omega) f (S:=S0) [] p false [] 0 0 0 hs hok h0 h1 hf hz (fun k hk=>E14.block k (hTl k hk)) (fun k hk=>⟨by have:=(hS k hk).1;omega,(hS k hk).2⟩)
  hBx' hBy' hBe (fun h=>by have:=(hS _ h).1;omega) (fun h=>by have:=(hS _ h).1;omega) (fun h=>by have:=(hS _ h).1;omega) (List.prefix_refl _)
  (hJ _ _ _ _ hj0 (Chg.of_ext E14)) (fun S' W' k1 c1 n1 hc hS' hx hj=>?_) (fun S' W' k1 c1 n1 p1 hc hS' hx hjx=>?_)
 ·exact ⟨_,rfl,hend S' _ (Nat.le_trans hz hc.size) hj⟩
 ·exact ⟨_,rfl,hstop S' _ (Nat.le_trans hz hc.size) hjx⟩
theorem atoms_spec {R:Ending→World→Prop} {w:World} (p:Ps) {a:Option Addr} {n c:Nat}
  (h:∀ b1 b2 w',b1=w.heap.size→b2=b1 + 1→w'.heap.size=b2 + 1→Blk w' b1 [.string ⟨⟨p.1⟩⟩,.int .i64 p.2] 115→Blk w' b2 [.slice a n c] 224→Ext w w'→R (.returned (.func (.func qb9) ⟨[]⟩ ⟨[.pointer (some ⟨b1,0,none⟩),.pointer (some ⟨b2,0,none⟩)]⟩)) w') :
  Calls prog qjq ⟨[.agg ⟨[.string ⟨⟨p.1⟩⟩,.int .i64 p.2]⟩,.slice a n c]⟩ w R:=by
 apply qwe
 refine qd fun b1 w5 hb1 B1 e5 s5=>?_
 refine qd fun b2 w7 hb2 B2 e7 s7=>?_
 exact h b1 b2 w7 hb1 (by omega) s7 (B1.ext e7) B2 (qa e5 e7)
section
variable {w w':World} {b:Nat} {st:Bs} {O:Nat→Prop} {R:Ending→World→Prop}
theorem decI {n:Int} (h0:0≤n) (h1:n≤64):(Lib.decDigits n.toNat).length≤2:=qc0 n.toNat (by omega)
theorem tkadd_spec (x:Am) {vs:List Value} (hE:AmE x vs) (h:BsSt w b st O) (hs:StOk st) (hl:(lstB st).length≤999999999) (hw:(wrdB st).length≤1000000000) (hn:∀ n p u nm,x=.gap n p u nm→1≤n∧n≤64)
  (hk:∀ w' O',BsSt w' b (addB st x) O'→Chg O w w'→(∀ k,O' k→O k∨w.heap.size≤k)→R (.returned (.tuple ⟨[]⟩)) w') :
  Calls prog qem ⟨[.pointer (some ⟨b,0,none⟩),.agg ⟨vs⟩]⟩ w R:=by
 have lb:b < w.heap.size:=(h.own (by obtain ⟨_,_,_,_,_,_,h2⟩:=h;exact (h2 b).2 (.inl rfl))).2
 have hjj:st.j=true→shut st≠[]:=fun hh e=>hs.j hh (List.eq_nil_of_length_eq_zero (by rw [← qh2,e];rfl))
 cases x with
 | ch c q u nm =>
  obtain ⟨n,rfl⟩:=hE
  apply qb4
  refine qd fun b9 w10 hb9 B9 e10 s10=>?_
  obtain ⟨d0,d1,d2,d3,d4,d5,d6⟩:=blk7 B9
  refine ⟨_,d0,qc (fun _=>⟨_,d0,_,d1,_,d2,_,d3,_,d4,_,d5,_,d6,?_⟩) (fun hh=>absurd rfl hh)⟩
  refine q66 (h.ext e10) hs hl hw c 1 n q u nm fun w20 O' h20 c20 n20=>⟨rfl,?_⟩
  have z10:=e10.size
  exact hk w20 O' h20 ((Chg.of_ext e10).trans c20) fun k hk=>(n20 k hk).imp id fun hh=>by omega
 | gap n q u nm =>
  obtain ⟨c,rfl⟩:=hE
  obtain ⟨n1,n2⟩:=hn n q u nm rfl
  apply qb4
  refine qd fun b9 w10 hb9 B9 e10 s10=>?_
  have h10:=h.ext e10
  have nO:¬ O b9:=fun hh=>by have:=h.own hh;omega
  have z10:=e10.size
  obtain ⟨d0,_⟩:=blk7 B9
  refine ⟨_,d0,qc (fun hh=>absurd hh (by decide)) (fun _=>qc (fun _=>?_) (fun hh=>absurd rfl hh))⟩
  refine q6c h10 hs (by omega) fun oa oc w22 h22 hO c22=>⟨rfl,?_⟩
  have B22:=c22.blk B9 nO
  intro K23 hK23
  have k23:K23 (if u=true then bitO .i64 2 1 else 2) w22:=by
   refine hK23 _ _ fun _=>?_
   obtain ⟨d0,d1,d2,d3,d4,d5,d6⟩:=blk7 B22
   refine ⟨_,d0,_,d1,_,d2,_,d3,_,d4,_,d5,_,d6,?_⟩
   refine ql8 h22 (by rw [qh2];omega) hjj 6 c n q u nm _ fun oa2 oc2 w34 h34 c34 n34=>⟨rfl,?_⟩
   rw [st_gap] at h34
   have B34:=B22.keep (c34.block b9 B22.lt fun hh=>hh.elim (by omega) fun hh=>nO (hO b9 (.inr hh)))
   unfold drw
   have ed:=qn w34
   have h35:=h34.ext ed
   have B35:=B34.ext ed
   have hc35:Chg O w w34.drew:=(((Chg.of_ext e10).trans c22).trans (c34.mono fun k _ hk=>hO k hk)).trans (.of_ext ed)
   have n35:∀ k,bk oa2 k→O k∨w.heap.size≤k:=fun k hk=>(n34 k hk).imp (fun hh=>hO k (.inr hh)) fun hh=>by have:=c22.size;omega
   generalize w34.drew=w35 at *
   have ea:addB st (.gap n q u nm)=⟨shut st++[⟨gapT n,[],q,flI u st.j st.v 2,nm⟩],none,true,false⟩:=rfl
   have fin:∀ (v1:World) (g:Nat),oa2=some ⟨g,0,none⟩→BsAt v1 b oa2 none (shut st++[⟨[],[],q,flI u st.j st.v 2,nm⟩]) [] false true false (.pointer none) oc2 0→Ext w35 v1 →
     sadd ([91]) (Lib.decDigits n.toNat) fun s43=>sadd s43 ([93]) fun s44=>dr (some (⟨g,(shut st).length * 6,none⟩:Addr)) fun p45=>(stL v1 (p45.add 0) 0 [.string ⟨⟨s44⟩⟩] fun w46=>R (.returned (.tuple ⟨[]⟩)) w46)∧True:=by
    intro v1 g hg hv ev
    have hdl:=decI (n:=n) (by omega) n2
    refine ⟨by simp;omega,?_,dr_ok ⟨?_,trivial⟩⟩
    ·simp only [List.length_append,List.length_cons,List.length_nil];omega
    refine (hv.last hg).2.1 _ _ fun w' hw' cw'=>?_
    have et:([91]++Lib.decDigits n.toNat++[93]:List UInt8)=gapT n:=by simp [gapT]
    rw [et] at hw'
    refine hk w' (fun k=>k=b∨bk oa2 k∨bk none k) (by rw [ea];exact ⟨oa2,none,_,oc2,0,hw',fun k=>Iff.rfl⟩) ?_ fun k hk=>?_
    ·exact qb3 (hc35.trans (.of_ext ev)) cw' fun k hk hh=>by
      rcases n35 k hh with h' | h'
      ·exact h'
      ·omega
    ·rcases hk with hk | hk | hk
     ·exact .inl (hO k (.inl hk))
     ·exact n35 k hk
     ·simp [bk] at hk
   have lst:∀ v1,BsAt v1 b oa2 none (shut st++[⟨[],[],q,flI u st.j st.v 2,nm⟩]) [] false true false (.pointer none) oc2 0→∀ R':Ending→World→Prop,(∀ g w',oa2=some ⟨g,0,none⟩→BsAt w' b oa2 none (shut st++[⟨[],[],q,flI u st.j st.v 2,nm⟩]) [] false true false (.pointer none) oc2 0→Ext v1 w'→R' (.returned (.pointer (some ⟨g,(shut st).length * 6,none⟩))) w') →
     Calls prog 227 ⟨[.pointer (some ⟨b,0,none⟩)]⟩ v1 R':=fun v1 hv R' hR=>qg0 hv (by rw [qh2];omega) hR
   have ito:∀ (v1:World) (R':Ending→World→Prop),R' (.returned (.string ⟨⟨Lib.decDigits n.toNat⟩⟩)) v1→Calls prog 180 ⟨[.int .i64 n]⟩ v1 R':=by
    intro v1 R' hR
    have hmm:n=((n.toNat:Nat):Int):=by omega
    have hI:=Tryz.strconv_Itoa_small n.toNat (by omega) v1
    rw [← hmm] at hI
    refine hI.mono ?_
    rintro _ _ ⟨rfl,rfl⟩
    exact hR
   refine ⟨?_,⟨?_,⟨_,(blk7 B35).2.2.1,?_,trivial⟩,trivial⟩,trivial⟩
   ·refine lst w35 h35 _ fun g w37 hg h37 e37=>⟨_,rfl,_,(blk7 (B35.ext e37)).2.2.1,?_,trivial⟩
    exact ito w37 _ ⟨_,rfl,fin w37 g hg h37 e37⟩
   ·refine lst w35 h35 _ fun g w37 hg h37 e37=>⟨_,rfl,_,(blk7 (B35.ext e37)).2.2.1,?_,trivial⟩
    exact ito w37 _ ⟨_,rfl,fin w37 g hg h37 e37⟩
   ·refine lst w35 h35 _ fun g w37 hg h37 e37=>⟨_,rfl,?_,trivial⟩
    exact ito w37 _ ⟨_,rfl,fin w37 g hg h37 e37⟩
  refine ⟨u,(blk7 B22).2.2.2.2.2.1,?_⟩
  cases u
  ·simp only [br_f];exact k23
  ·simp only [br_t];exact k23
 | brk x =>
  obtain ⟨c,n,q,u,nm,rfl⟩:=hE
  apply qb4
  refine qd fun b9 w10 hb9 B9 e10 s10=>?_
  have h10:=h.ext e10
  have nO:¬ O b9:=fun hh=>by have:=h.own hh;omega
  have z10:=e10.size
  obtain ⟨d0,_⟩:=blk7 B9
  have k1:¬ (if x=true then (5:Int) else 4)=1:=by cases x <;> decide
  have k6:¬ (if x=true then (5:Int) else 4)=6:=by cases x <;> decide
  refine ⟨_,d0,qc (fun hh=>absurd hh k1) (fun _=>qc (fun hh=>absurd hh k6) (fun _=>?_))⟩
  refine q6c h10 hs (by omega) fun oa oc w71 h71 hO c71=>⟨rfl,?_⟩
  have B71:=c71.blk B9 nO
  unfold drw
  have ed:=qn w71
  have h72:=h71.ext ed
  have B72:=B71.ext ed
  have hc72:Chg O w w71.drew:=(((Chg.of_ext e10).trans c71).trans (.of_ext ed))
  generalize w71.drew=w72 at *
  have fin:∀ w78,BsAt w78 b oa none (shut st) [] false false (st.v||x) (.pointer none) oc 0→Chg (fun k=>k=b) w72 w78→R (.returned (.tuple ⟨[]⟩)) w78:=by
   intro w78 h78 c78
   refine hk w78 (fun k=>k=b∨bk oa k∨bk none k) ⟨oa,none,_,oc,0,h78,fun k=>Iff.rfl⟩ (hc72.trans (c78.mono fun k _ hk=>hO k (.inl hk))) fun k hk=>.inl ?_
   rcases hk with hk | hk | hk
   ·exact hO k (.inl hk)
   ·exact hO k (.inr hk)
   ·simp [bk] at hk
  refine dr_ok ⟨_,h72.cells.2.2.2,?_⟩
  cases hv:st.v with
  | true =>
   simp only [br_t]
   rw [hv] at h72 fin
   have two:stL w72 ((⟨b,0,none⟩:Addr).add 4) 0 [.bool false] fun w76=>dr (some (⟨b,0,none⟩:Addr)) fun p77=>(stL w76 (p77.add 5) 0 [.bool true] fun w78=>R (.returned (.tuple ⟨[]⟩)) w78)∧True:=by
    refine h72.setJ false fun w76 h76 c76 s76=>dr_ok ⟨?_,trivial⟩
    refine h76.setV true fun w78 h78 c78 s78=>?_
    rw [Bool.true_or] at fin
    exact fin w78 h78 (c76.trans c78)
   exact ⟨dr_ok ⟨two,trivial⟩,dr_ok ⟨⟨two,trivial⟩,⟨⟨two,trivial⟩,two,trivial⟩,trivial⟩,trivial⟩
  | false =>
   simp only [br_f]
   rw [hv] at h72 fin
   rw [Bool.false_or] at fin
   have e5:decide ((if x=true then (5:Int) else 4)=5)=x:=by cases x <;> rfl
   have nb:b9≠b:=by omega
   have two:stL w72 ((⟨b,0,none⟩:Addr).add 4) 0 [.bool false] fun w76=>dr (some (⟨b,0,none⟩:Addr)) fun p77=>(stL w76 (p77.add 5) 0 [.bool (decide ((if x=true then (5:Int) else 4)=5))] fun w78=>R (.returned (.tuple ⟨[]⟩)) w78)∧True:=by
    refine h72.setJ false fun w76 h76 c76 s76=>dr_ok ⟨?_,trivial⟩
    rw [e5]
    refine h76.setV x fun w78 h78 c78 s78=>fin w78 h78 (c76.trans c78)
   have two':stL w72 ((⟨b,0,none⟩:Addr).add 4) 0 [.bool false] fun w76=>∃ (x104:Int),World.cell? w76 ((⟨b9,0,none⟩:Addr).add 0)=some (.int .i64 x104)∧(dr (some (⟨b,0,none⟩:Addr)) fun p77=>(stL w76 (p77.add 5) 0 [.bool (decide ((x104:Int)=5))] fun w78=>R (.returned (.tuple ⟨[]⟩)) w78)∧True):=by
    refine h72.setJ false fun w76 h76 c76 s76=>⟨_,(blk7 (c76.blk B72 nb)).1,dr_ok ⟨?_,trivial⟩⟩
    rw [e5]
    refine h76.setV x fun w78 h78 c78 s78=>fin w78 h78 (c76.trans c78)
   have d0:=(blk7 B72).1
   exact ⟨⟨_,d0,dr_ok ⟨two,trivial⟩⟩,dr_ok ⟨⟨_,d0,two,trivial⟩,⟨⟨_,d0,two,trivial⟩,two',trivial⟩,trivial⟩,trivial⟩
end
end Go.Proofs
namespace Go.Sh
open Go Go.RowKit
theorem round_in {W:World} {T:TypeId} {zs vs:List Value} {l:Nat} {B:Addr→World→World→Prop} (hl:l < W.heap.size) (hlen:vs.length=zs.length) (ho:∀ v∈vs,v.oneCell'=true)
  (h:∀ bx W1 W2,bx=W.heap.size→Ext W W1→Blk W2 bx vs T→Chg (fun k=>k=l) W W2→W2.heap.size=bx + 1→B ⟨bx,0,none⟩ W1 W2) :
  al W T zs fun p w1=>stL w1 p 0 vs fun w2=>Ext W w2∧∀ W2:World,Upd l w2 W2→B p w2 W2:=by
 refine qac hlen ho fun bx w1 hbx hBx e2 s2=>⟨e2,fun W2 hU=>?_⟩
 have zU:=hU.size
 have hUc:Chg (fun k=>k=l) w1 W2:=⟨hU.os,hU.tape,hU.output,by omega,fun k _ hk=>hU.block k hk⟩
 exact h bx w1 W2 hbx e2 (hBx.keep (hU.block bx (by omega))) ((Chg.of_ext e2).trans hUc) (by omega)
theorem RFw_count {α:Type} {P:Program} {N:Nat} {g:Operand} {ps:Array Tmp} {assign body:Code} {env:Env} {ds:List Deferred} {w:World} {x:Nat} {Qn Qr Qx:List Deferred→World→Prop}
  (xA xB:Ann) {gf:FuncId} {cap:List Value} (hg:ev env g=.func (.func gf) ⟨[]⟩ ⟨cap⟩) (hok:okFn P gf=true)
  {xs:List α} {E:α→List Value→Prop} {Rd:Nat→Prop} (hit:∀ w1,Ext w w1→IterO P gf cap xs E Rd w1)
  (hps:∀ y vs,E y vs→vs.length=ps.size) (hpN:∀ p∈ps.toList,p < N)
  (hRd:∀ k,Rd k→k < w.heap.size) {w0:World} (hw0:Ext w0 w) {b5:Nat} {T5:TypeId} (h0:w0.heap.size≤b5) (hn5:¬ Rd b5) (val:List α→Int) (B5:Blk w b5 [.int .i64 (val [])] T5)
  (hround:∀ pre y vs W l,E y vs→pre++[y] <+: xs→w.heap.size≤l→l < W.heap.size→b5≠l→Blk W b5 [.int .i64 (val pre)] T5→Ext w0 W →
   ∀ Kn Kr Kx:World→World→Prop,(∀ W2 W',Ext w0 W2→Chg (fun k=>k=b5) W2 W'→Blk W' b5 [.int .i64 (val (pre++[y]))] T5→Kn W2 W')→fragV P N xA xB assign body l x Kn Kr Kx (updPs ps.toList vs env) W)
  (hn:∀ D W,w.heap.size≤D→D < W.heap.size→b5≠D→W.heap[D]? = some (.deferred (some []))→Blk W b5 [.int .i64 (val xs)] T5→Ext w0 W→Qn ({ target:=.collected D,args:=#[] } :: ds) W) :
  RFw P none N (.rangeFunc g ps assign body) env ds w x Qn Qr Qx:=by
 have l5:=B5.lt
 refine qh4 xA xB hg hok (xs:=xs) (E:=E) (Rd:=Rd) hit hps hpN hRd (fun k=>k=b5) (fun k hk=>⟨hk ▸ l5,hk ▸ hn5⟩)
  (fun pre S1 W=>Blk W b5 [.int .i64 (val pre)] T5∧(∀ k,S1 k↔k=b5)∧Ext w0 W) (fun _ _=>False) (fun _ _=>False)
  ?_ (fun _ _ _ h=>h.elim) (fun _ _ _ h=>h.elim) ⟨B5,fun k=>Iff.rfl,hw0⟩ ?_ ?_ (fun _ _ _ _ _ _ _ h=>h.elim) (fun _ _ _ _ _ _ _ h=>h.elim)
 ·rintro pre S1 W W' ⟨g1,g2,g3⟩ hc
  have z:=hw0.size
  refine ⟨hc.blk g1 (fun hh=>hh.2 ((g2 _).2 rfl)),g2,?_⟩
  exact g3.trans ⟨hc.os,hc.tape,hc.output,hc.size,fun k hk=>hc.block k (Nat.lt_of_lt_of_le hk g3.size) (fun hh=>by have:=hh.1;omega)⟩
 ·rintro pre y vs S1 W l hE hpre hl1 hl2 hl3 hS1 ⟨g1,g2,g3⟩
  have nl:b5≠l:=fun he=>hl3 ((g2 l).2 he.symm)
  refine hround pre y vs W l hE hpre hl1 hl2 nl g1 g3 _ _ _ fun W2 W' he hc hb=>⟨hc.mono fun k _ hk=>.inl ((g2 k).2 hk),fun k=>k=b5,fun k hk=>⟨.inl ((g2 k).2 hk),hk ▸ hb.lt⟩,hb,fun k=>Iff.rfl,?_⟩
  exact he.trans ⟨hc.os,hc.tape,hc.output,hc.size,fun k hk=>hc.block k (Nat.lt_of_lt_of_le hk he.size) (fun hh=>by omega)⟩
 ·rintro D S1 W hD1 hD2 hD3 hD4 ⟨g1,g2,g3⟩
  exact hn D W hD1 hD2 (fun he=>hD3 ((g2 D).2 he.symm)) hD4 g1 g3
end Go.Sh
namespace Go.Proofs
open Go Go.Sh Go.RowKit Go.Proofs.Tryz IntKind
def ofK (kind:Int) (f:Fo):List Nn:=(qbp f).filter fun x=>decide (x.k=kind)
theorem ofK_cons (kind:Int) (k t n) (ps r:Fo):ofK kind (.cons k t n ps r)=(if k=kind then [⟨k,t,n,ps⟩] else [])++(ofK kind ps++ofK kind r):=by
 unfold ofK
 rw [qbp,List.filter_cons,List.filter_append]
 by_cases h:k=kind
 ·simp [h]
 ·simp [h]
abbrev Rw:=List UInt8 × List UInt8
def encRw:Enc Rw:=⟨fun x=>[.string ⟨⟨x.1⟩⟩,.string ⟨⟨x.2⟩⟩],2,fun _=>rfl,by decide,by intro x v hv;simp only [List.mem_cons,List.not_mem_nil,or_false] at hv;rcases hv with rfl | rfl <;> rfl⟩
theorem blk2' {w:World} {b:Nat} {v0 v1:Value} {T:TypeId} (h:Blk w b [v0,v1] T):w.cell? ((⟨b,0,none⟩:Addr).add 0)=some v0∧w.cell? ((⟨b,0,none⟩:Addr).add 1)=some v1:=by
 simp only [qe,h.cell];exact ⟨rfl,rfl⟩
def cntP (kind:Int) (l:List Pl):Int:=((l.filter fun x=>decide (x.k=kind)).length:Int)
theorem cntP_snoc (kind:Int) (l:List Pl) (x:Pl):cntP kind (l++[x])=cntP kind l + if x.k=kind then 1 else 0:=by
 unfold cntP
 rw [List.filter_append]
 by_cases h:x.k=kind <;> simp [h]
def cntF (kind:Int) (f:Fo):Nat:=(ofK kind f).length
theorem qv8 (kind:Int):∀ (f:Fo) (d:Nat) (b:Bool),f.depth + d≤16→cntP kind (qo f d b)=cntF kind f
 | .nil,_,_,_=>rfl
 | .cons k t n ps r,d,b,h=>by
  rw [Fo.depth_parts] at h
  have i2:=qv8 kind r d (decide (k=1)) (by omega)
  have i1:cntP kind (qo ps (d + 1) false)=cntF kind ps:=by
   by_cases hp:ps.len=0
   ·rw [Fo.eq_nil_of_len hp];rfl
   ·rw [if_neg hp] at h
    exact qv8 kind ps (d + 1) false (by omega)
  unfold cntF at i1 i2 ⊢
  rw [ofK_cons]
  simp only [qo]
  rw [if_pos (by omega)]
  have e:∀ (x:Pl) (l m:List Pl),cntP kind (x :: (l++m))=(if x.k=kind then 1 else 0) + (cntP kind l + cntP kind m):=by
   intro x l m
   unfold cntP
   rw [List.filter_cons,List.filter_append]
   by_cases hx:x.k=kind <;> simp [hx] <;> omega
  rw [e,i1,i2]
  show (if k=kind then (1:Int) else 0) + _=_
  by_cases hk:k=kind
  ·simp [hk];omega
  ·simp [hk]
def couE (kind:Int) (f:Fo):Int:=if qec f≠0 then 1 else if kind < 1∨11 < kind then 8 else 0
def couR (kind:Int) (f:Fo):Int:=if couE kind f≠0 then 0 else cntF kind f
theorem q08 {R:Ending→World→Prop} {S:Nat→Prop} {w:World} {a:Option Addr} {n c:Nat} (kind:Int) (f:Fo) (hs:small f) (hF:Forms w) (hf0:SlF S w a n f)
  (h:∀ w',Ext w w'→R (.returned (.tuple ⟨[.int .i64 (couR kind f),.int .i64 (couE kind f)]⟩)) w'):Calls prog qh8 ⟨[.slice a n c,.int .i64 kind]⟩ w R:=by
 apply qtm
 unfold couR at h
 refine qd fun b3 w4 hb3 B3 e4 s4=>?_
 refine qxy f hs (hf0.ext e4) (hF.ext e4) fun w6 e6=>⟨_,rfl,qc (fun g=>?_) (fun g=>?_)⟩
 ·have he:couE kind f=1:=by unfold couE;rw [if_pos g]
  rw [he] at h
  exact h _ (qa e4 e6)
 have hc0:qec f=0:=Decidable.not_not.1 g
 obtain ⟨q1,q2,q3⟩:=q2y hc0
 have hdep:f.depth≤16:=by
  unfold qec at hc0
  split at hc0
  ·rename_i hh;exact hh.2
  ·cases hc0
 have hcn:=qv8 kind f 0 false (by omega)
 have E6:=qa e4 e6
 have B3':=B3.ext e6
 intro K8 hK8
 have k8:1≤kind→kind≤11→K8 0 0 w6:=by
  intro hk1 hk2
  have he:couE kind f=0:=by unfold couE;rw [if_neg g,if_neg (by omega)]
  rw [he] at h
  refine hK8 _ _ _ fun _=>?_
  refine qd fun b12 w13 hb12 B12 e13 s13=>?_
  refine qam B12 rfl fun w14 B14 hc14 s14=>?_
  have e14:Ext w6 w14:=qi e13 hc14 fun k hk=>by omega
  refine qqr fun bs w16 Bs e16 hbs=>⟨_,_,_,rfl,fun base=>?_⟩
  have e616:=qa e14 e16
  have E16:=qa E6 e616
  have z16:=E16.size
  have z6:=E6.size
  have z616:=e616.size
  have ls:=Bs.lt
  have l3:=B3'.lt
  have hf:SlF (fun k=>S k∧k < w.heap.size) w a n f:=hf0.imp fun k hk hl=>⟨hk,hl⟩
  rw [qm5]
  have B3'':=B3'.ext e616
  refine RFw_count qe9 qe5 (gf:=qt) rfl (by kernel_rfl) (xs:=qo f 0 false) (E:=PlE (fun k=>(S k∧k < w.heap.size)∨k=bs) w16) (Rd:=fun k=>(S k∧k < w.heap.size)∨k=bs)
   (fun v1 he=>(q5z f hs bs v1 (fun k hk=>by have:=he.size;omega) (Bs.ext he) ((hf.ext (qa E16 he)).imp fun k hk _=>.inl hk) (.inr rfl)).mono ?_) (fun y vs hE=>by obtain ⟨a',c',rfl,_⟩:=hE;rfl) (by decide) (fun k hk=>by omega)
   (w0:=w6) e616 (b5:=b12) (by omega) (fun hk=>by omega) (cntP kind) (B14.ext e16) ?_ ?_
  ·rintro x vs ⟨a',c',rfl,hsl⟩
   exact ⟨a',c',rfl,hsl.keep' fun k hk hl=>⟨hk,by omega,((he.block k (by omega))).symm⟩⟩
  ·rintro pre ⟨k1,t1,m1,ps1,d1,x1⟩ vs W l ⟨a',c',rfl,hsl⟩ hpre hl1 hl2 hl3 g1 g3 Kn Kr Kx hK
   refine Eq.mpr (qmx base _ _ _ _ _ _ _ _ _ _ _ _ _ _ _ _ _ _ _ _) ?_
   refine round_in hl2 (by simp) (by intro u hu;simp only [List.mem_cons,List.not_mem_nil,or_false] at hu;rcases hu with rfl | rfl | rfl | rfl | rfl | rfl <;> rfl) fun bx W1 W2 hbx _ hX2 hc2 s2=>?_
   obtain ⟨x0,x1'⟩:=blk6 hX2
   have B2:=hc2.blk g1 hl3
   have E2:=qi g3 hc2 fun k hk=>by omega
   have hk3:=B3'.ext E2
   have hpl:pre.length≤f.size:=by
    have h1:=hpre.length_le
    have h2:=qki f 0 false
    simp at h1;omega
   have hcp:0≤cntP kind pre∧cntP kind pre≤pre.length:=by
    unfold cntP
    have:=List.length_filter_le (fun x:Pl=>decide (x.k=kind)) pre
    omega
   have hv:=cntP_snoc kind pre ⟨k1,t1,m1,ps1,d1,x1⟩
   refine ⟨k1,x0,dr_ok ⟨kind,by rw [hk3.cell];rfl,qc (fun q=>?_) (fun q=>?_)⟩⟩
   ·refine dr_ok ⟨_,by rw [B2.cell];rfl,dr_ok (qam B2 rfl fun W3 r3 hc3 s3=>hK _ _ E2 hc3 ?_)⟩
    rw [hv,if_pos (show (⟨k1,t1,m1,ps1,d1,x1⟩:Pl).k=kind from q)]
    rw [qai (by omega)] at r3
    exact r3
   ·refine hK _ _ E2 (Chg.refl _ _) ?_
    rw [hv,if_neg (show ¬ (⟨k1,t1,m1,ps1,d1,x1⟩:Pl).k=kind from q),Int.add_zero]
    exact B2
  ·intro D W hD1 hD2 hD3 hD4 g1 g3
   rw [hcn] at g1
   exact ⟨_,by rw [g1.cell];rfl,qfm hD4 (h _ (qin (qa E6 g3) (by omega) _))⟩
 have bad:(kind < 1∨11 < kind)→R (.returned (.tuple ⟨[.int .i64 0,.int .i64 8]⟩)) w6:=by
  intro hh
  have he:couE kind f=8:=by unfold couE;rw [if_neg g,if_pos hh]
  rw [he] at h
  exact h _ E6
 refine ⟨kind,by rw [B3'.cell];rfl,qc (fun g1=>bad (.inl g1)) (fun g1=>⟨kind,by rw [B3'.cell];rfl,qc (fun g2=>bad (.inr g2)) (fun g2=>k8 (by omega) (by omega))⟩)⟩
def txs (l:List Tok):List (List UInt8):=l.map (·.t)
def qz (s:List UInt8):Bool:=s.all innC
def qe4 (x:Rw):Int :=
 if x.1=[]∨x.2=[] then 5 else if 64 < x.1.length∨64 < x.2.length then 4 else if qz x.1=false∨qz x.2=false then 11
 else if x.1.length < x.2.length∨(x.2.length=x.1.length∧Op.bytesLess x.2 x.1=false) then 24 else 0
def qc9:List Rw→Int
 | []=>0
 | x :: r=>if qe4 x≠0 then qe4 x else qc9 r
def ruleE (l:List Rw):Int:=if 64 < l.length then 4 else qc9 l
def hitB (w u:List UInt8) (i:Nat):Bool:=decide (i + u.length≤w.length)&&decide ((w.drop i).take u.length=u)
def putW (w:List UInt8) (x:Rw) (i:Nat):List UInt8:=w.take i++(x.2++w.drop (i + x.1.length))
def qck (rs:List Rw) (w:List UInt8) (i:Nat):List (List UInt8):=(rs.filter fun x=>hitB w x.1 i).map fun x=>putW w x i
def resW (rs:List Rw) (w:List UInt8):List (List UInt8):=(List.range w.length).flatMap (qck rs w)
def stepW (rs:List Rw) (w:List UInt8):Option (List UInt8):=(resW rs w).head?
def qgh (rs:List Rw):Nat→List UInt8→Option (List UInt8)
 | 0,w=>match stepW rs w with
  | none=>some w
  | some _=>none
 | n + 1,w=>match stepW rs w with
  | none=>some w
  | some s=>qgh rs n s
def rwE (rs:List Rw) (w:List UInt8):Int:=if ruleE rs≠0 then 1 else if 64 < w.length then 4 else if qz w=false then 11 else if (qgh rs 4095 w).isNone=true then 4 else 0
def rwR (rs:List Rw) (w:List UInt8):List UInt8:=if rwE rs w≠0 then [] else (qgh rs 4095 w).getD []
theorem qzo:∀ {l:List Rw},qc9 l=0→∀ x∈l,qe4 x=0
 | [],_,_,hx=>by cases hx
 | y :: l,h,x,hx=>by
  rw [qc9] at h
  split at h
  ·rename_i hh;exact absurd h hh
  ·rename_i hh
   rcases List.mem_cons.1 hx with rfl | hx
   ·exact Decidable.not_not.1 hh
   ·exact qzo h x hx
theorem q2k {x:Rw} (h:qe4 x=0):x.2≠[]∧x.1≠[]∧qz x.2=true∧x.2.length≤x.1.length∧x.1.length≤64:=by
 unfold qe4 at h
 split at h
 ·cases h
 split at h
 ·cases h
 split at h
 ·cases h
 split at h
 ·cases h
 rename_i h1 h2 h3 h4
 simp only [not_or] at h1 h2 h3 h4
 exact ⟨h1.2,h1.1,by simpa using h3.2,by omega,by omega⟩
theorem step_word {rs:List Rw} {w s:List UInt8} (hr:qc9 rs=0) (hw:qz w=true) (h:s∈resW rs w):qz s=true∧s≠[]∧s.length≤w.length:=by
 unfold resW qck at h
 simp only [List.mem_flatMap,List.mem_range,List.mem_map,List.mem_filter] at h
 obtain ⟨i,hi,x,⟨hx,hh⟩,rfl⟩:=h
 obtain ⟨r1,r2,r3,r4,r5⟩:=q2k (qzo hr x hx)
 unfold hitB at hh
 rw [Bool.and_eq_true,decide_eq_true_eq,decide_eq_true_eq] at hh
 unfold putW
 unfold qz at hw r3 ⊢
 rw [List.all_eq_true] at hw
 refine ⟨?_,?_,?_⟩
 ·rw [List.all_append,List.all_append,r3,Bool.true_and,Bool.and_eq_true,List.all_eq_true,List.all_eq_true]
  exact ⟨fun c hc=>hw c (List.mem_of_mem_take hc),fun c hc=>hw c (List.mem_of_mem_drop hc)⟩
 ·intro e
  have h1:=congrArg List.length e
  have h2:=List.length_pos_iff.2 r1
  rw [List.length_append,List.length_append,List.length_nil] at h1
  omega
 ·simp only [List.length_append,List.length_take,List.length_drop];omega
def nrmE (rs:List Rw):List Tok→Int
 | []=>0
 | x :: r=>if wordG x.g=true∧rwE rs x.t≠0 then rwE rs x.t else nrmE rs r
def nrmT (rs:List Rw) (x:Tok):Tok:=setM x (if wordG x.g=true then rwR rs x.t else x.t)
def cutT (p:Ps) (f:Fo):List Tok:=divF false false (amsF p f false [])
def longT (l:List Tok):Bool:=decide (1024 < l.length)||l.any fun x=>decide (64 < x.t.length)
def tksE (p:Ps) (f:Fo) (rs:List Rw):Int :=
 if qec f≠0∨ruleE rs≠0 then 1 else if p.2 < 0∨4096 < p.2 then 2 else if qdo p.1=false then 14 else if cntF 8 f + cntF 9 f≠0 then 13
 else if longT (cutT p f)=true then 4 else nrmE rs (cutT p f)
def tksR (p:Ps) (f:Fo) (rs:List Rw):List Tok:=if tksE p f rs≠0 then [] else (cutT p f).map (nrmT rs)
structure TksOk (p:Ps) (f:Fo) (rs:List Rw):Prop where
 c:qec f=0
 r:ruleE rs=0
 p0:0≤p.2
 p1:p.2≤4096
 nm:qdo p.1=true
 cl:cntF 8 f + cntF 9 f=0
 lg:longT (cutT p f)=false
 n:nrmE rs (cutT p f)=0
theorem tks_ok {p:Ps} {f:Fo} {rs:List Rw} (h:tksE p f rs=0):TksOk p f rs∧tksR p f rs=(cutT p f).map (nrmT rs):=by
 have h0:=h
 unfold tksE at h
 split at h
 ·cases h
 split at h
 ·cases h
 split at h
 ·cases h
 split at h
 ·cases h
 split at h
 ·cases h
 rename_i h1 h2 h3 h4 h5
 simp only [not_or,Decidable.not_not] at h1 h4
 refine ⟨⟨h1.1,h1.2,by omega,by omega,by simpa using h3,h4,by simpa using h5,h⟩,?_⟩
 unfold tksR;rw [if_neg (by rw [h0];simp)]
section
variable {R:Ending→World→Prop} {w:World}
theorem qzg (s:List UInt8) (k:Nat) (h:k < s.length):qz (s.take (k + 1))=(qz (s.take k)&&innC s[k]):=by
 unfold qz
 rw [List.take_succ_eq_append_getElem h,List.all_append];simp
theorem inn_of {c:UInt8}:innC c=decide (kd c=1∨kd c=2∨kd c=3∨kd c=4):=by
 unfold innC letB
 rw [Bool.eq_iff_iff]
 simp only [Bool.or_eq_true,beq_iff_eq,decide_eq_true_eq]
 omega
theorem qzf (s:List UInt8) (k:Nat) (h:k < s.length) (hn:innC s[k]=false):qz s=false:=by
 unfold qz
 rw [List.all_eq_false]
 exact ⟨s[k],List.getElem_mem h,by rw [hn];decide⟩
theorem qpw (s:List UInt8) (hs:s.length≤4611686018427387904) (h:R (.returned (.bool (qz s))) w):Calls prog qie ⟨[.string ⟨⟨s⟩⟩]⟩ w R:=by
 apply qtr
 refine ⟨fun i W m=>∃ k:Nat,i=k∧k≤s.length∧m=s.length - k∧qz (s.take k)=true∧W=w,⟨_,0,rfl,by omega,rfl,by rw [List.take_zero];rfl,rfl⟩,?_⟩
 rintro _ W m ⟨k,rfl,hk,rfl,hw,rfl⟩ _
 refine qc (fun hlt=>?_) (fun hge=>?_)
 ·have hkl:k < s.length:=by omega
  refine qat hkl ?_
  refine qcw _ ⟨_,rfl,?_⟩
  have yes:(kd s[k]=1∨kd s[k]=2∨kd s[k]=3∨kd s[k]=4)→∃ m',m' < s.length - k∧∃ k':Nat,i64.wrap ((k:Int) + 1)=k'∧k'≤s.length∧m'=s.length - k'∧qz (s.take k')=true∧W=W:=fun hh =>
   ⟨s.length - (k + 1),by omega,k + 1,by rw [qg (by omega)],by omega,rfl,by rw [qzg s k hkl,hw,inn_of,decide_eq_true hh];rfl,rfl⟩
  refine qc (fun g1=>?_) (fun g1=>qc (fun g2=>?_) (fun g2=>qc (fun g3=>?_) (fun g3=>qc (fun g4=>?_) (fun g4=>?_))))
  ·rw [decide_eq_true g1];exact yes (.inl g1)
  ·rw [decide_eq_true g2];exact yes (.inr (.inl g2))
  ·rw [decide_eq_true g3];exact yes (.inr (.inr (.inl g3)))
  ·exact yes (.inr (.inr (.inr g4)))
  ·rw [qzf s k hkl (by rw [inn_of];exact decide_eq_false (by omega))] at h;exact h
 ·rw [List.take_of_length_le (by omega)] at hw
  rw [hw] at h;exact h
theorem q5p (x:Rw) (h1:x.1.length≤4611686018427387904) (h2:x.2.length≤4611686018427387904) (h:∀ w',Ext w w'→R (.returned (.int .i64 (qe4 x))) w'):Calls prog qjx ⟨[.agg ⟨[.string ⟨⟨x.1⟩⟩,.string ⟨⟨x.2⟩⟩]⟩]⟩ w R:=by
 apply qwj
 refine qd fun b3 w4 hb3 B3 e4 s4=>?_
 obtain ⟨c0,c1⟩:=blk2' B3
 have H:∀ e:Int,qe4 x=e→R (.returned (.int .i64 e)) w4:=fun e he=>by rw [← he];exact h w4 e4
 intro K5 hK5
 have k5:∀ t:Bool,(t=true↔x.1=[]∨x.2=[])→K5 t w4:=by
  intro t ht
  refine hK5 _ _ fun _=>qh (fun g=>H 5 (by unfold qe4;rw [if_pos (ht.1 g)])) (fun g=>?_)
  have n1:¬ (x.1=[]∨x.2=[]):=fun hh=>by rw [ht.2 hh] at g;cases g
  intro K8 hK8
  have k8:∀ t:Bool,(t=true↔64 < x.1.length∨64 < x.2.length)→K8 t w4:=by
   intro t ht
   refine hK8 _ _ fun _=>qh (fun g=>H 4 (by unfold qe4;rw [if_neg n1,if_pos (ht.1 g)])) (fun g=>?_)
   have n2:¬ (64 < x.1.length∨64 < x.2.length):=fun hh=>by rw [ht.2 hh] at g;cases g
   intro K11 hK11
   have k11:∀ t:Bool,(t=true↔qz x.1=false∨qz x.2=false)→K11 t w4:=by
    intro t ht
    refine hK11 _ _ fun _=>qh (fun g=>H 11 (by unfold qe4;rw [if_neg n1,if_neg n2,if_pos (ht.1 g)])) (fun g=>?_)
    have n3:¬ (qz x.1=false∨qz x.2=false):=fun hh=>by rw [ht.2 hh] at g;cases g
    have fin:∀ e,(if x.1.length < x.2.length∨(x.2.length=x.1.length∧Op.bytesLess x.2 x.1=false) then (24:Int) else 0)=e→R (.returned (.int .i64 e)) w4:=fun e he=>H e (by unfold qe4;rw [if_neg n1,if_neg n2,if_neg n3];exact he)
    refine ⟨_,c1,_,c0,qc (fun q=>fin 24 (if_pos (.inl (by omega)))) (fun q=>⟨_,c1,_,c0,qc (fun q2=>⟨_,c1,_,c0,qh (fun q3=>fin 24 (if_pos (.inr ⟨by omega,by simpa using q3⟩))) (fun q3=>fin 0 (if_neg ?_))⟩) (fun q2=>fin 0 (if_neg ?_))⟩)⟩
    ·rintro (hh | ⟨_,hh⟩)
     ·omega
     ·rw [hh] at q3;cases q3
    ·rintro (hh | ⟨hh,_⟩)
     ·omega
     ·exact q2 (by omega)
   refine ⟨_,c0,qpw _ h1 ⟨_,rfl,qh (fun g=>k11 true ?_) (fun g=>⟨_,c1,qpw _ h2 ⟨_,rfl,k11 _ ?_⟩⟩)⟩⟩
   ·have:qz x.1=false:=by simpa using g
    simp [this]
   ·have:qz x.1=true:=by simpa using g
    simp [this]
  refine ⟨_,c0,qc (fun g=>k8 true ?_) (fun g=>⟨_,c1,k8 _ ?_⟩)⟩
  ·simp;omega
  ·simp;omega
 refine ⟨_,c0,qc (fun g=>k5 true ?_) (fun g=>⟨_,c1,k5 _ ?_⟩)⟩
 ·simp [g]
 ·simp [g]
theorem q5s:∀ {l:List Rw} {k:Nat} (h:k < l.length),qc9 (l.take k)=0→qe4 l[k]≠0→qc9 l=qe4 l[k]
 | [],_,h,_,_=>absurd h (by simp)
 | x :: l,0,h,_,h2=>by
  have h2':qe4 x≠0:=h2
  rw [qc9,if_pos h2'];rfl
 | x :: l,k + 1,h,h1,h2=>by
  rw [List.take_succ_cons,qc9] at h1
  have hx:¬ qe4 x≠0:=by
   intro hh
   rw [if_pos hh] at h1
   exact hh h1
  rw [if_neg hx] at h1
  rw [qc9,if_neg hx]
  exact q5s (l:=l) (k:=k) (by simpa using h) h1 h2
theorem qzp:∀ {l:List Rw} {k:Nat} (h:k < l.length),qc9 (l.take k)=0→qe4 l[k]=0→qc9 (l.take (k + 1))=0
 | [],_,h,_,_=>absurd h (by simp)
 | x :: l,0,h,_,h2=>by
  have h2':qe4 x=0:=h2
  rw [List.take_succ_cons,qc9,if_neg (by rw [h2'];simp),List.take_zero];rfl
 | x :: l,k + 1,h,h1,h2=>by
  rw [List.take_succ_cons,qc9] at h1
  have hx:¬ qe4 x≠0:=by
   intro hh
   rw [if_pos hh] at h1
   exact hh h1
  rw [if_neg hx] at h1
  rw [List.take_succ_cons,qc9,if_neg hx]
  exact qzp (l:=l) (k:=k) (by simpa using h) h1 h2
def q2h (rs:List Rw):Prop:=∀ x∈rs,x.1.length≤4611686018427387904∧x.2.length≤4611686018427387904
theorem qxl {S:Nat→Prop} {a:Option Addr} {n c:Nat} (rs:List Rw) (hsm:q2h rs) (hR:RowAt encRw S w a n rs) (h:∀ w',Ext w w'→R (.returned (.int .i64 (ruleE rs))) w'):Calls prog qjz ⟨[.slice a n c]⟩ w R:=by
 apply qwm
 have hn:=hR.1
 refine qc (fun g=>?_) (fun g=>?_)
 ·have:ruleE rs=4:=by unfold ruleE;rw [if_pos (by omega)]
  rw [← this];exact h w (Below.refl _ _)
 have hE:ruleE rs=qc9 rs:=by unfold ruleE;rw [if_neg (by omega)]
 rw [hE] at h
 refine ⟨fun i W m=>∃ k:Nat,i=k∧k≤n∧m=n - k∧qc9 (rs.take k)=0∧Ext w W,⟨_,0,rfl,by omega,rfl,rfl,Below.refl _ _⟩,?_⟩
 rintro _ W m ⟨k,rfl,hk,rfl,hz,he⟩ _
 refine qc (fun hlt=>?_) (fun hge=>?_)
 ·have hkl:k < rs.length:=by omega
  have hx:rs[k]? = some rs[k]:=by simp [hkl]
  obtain ⟨bb,o,hq,_,_,hc⟩:=(hR.ext he).get hx
  refine hq _ ⟨_,by rw [qe];exact hc 0 _ rfl,_,by rw [qe];exact hc 1 _ rfl,?_⟩
  refine qac rfl (by intro u hu;simp only [List.mem_cons,List.not_mem_nil,or_false] at hu;rcases hu with rfl | rfl <;> rfl) fun b10 w12 hb10 B10 e12 s12=>?_
  obtain ⟨c0,c1⟩:=blk2' B10
  obtain ⟨q1,q2⟩:=hsm rs[k] (List.getElem_mem hkl)
  refine ⟨_,c0,_,c1,q5p rs[k] q1 q2 fun w16 e16=>⟨_,rfl,qc (fun g1=>?_) (fun g1=>?_)⟩⟩
  ·rw [← q5s hkl hz g1]
   exact h w16 (qa (qa he e12) e16)
  ·exact ⟨n - (k + 1),by omega,k + 1,by rw [qg (by omega)],by omega,rfl,qzp hkl hz (Decidable.not_not.1 g1),qa (qa he e12) e16⟩
 ·rw [List.take_of_length_le (by omega)] at hz
  rw [hz] at h
  exact h W he
def chkE (rs:List Rw) (s:List UInt8):Int:=if ruleE rs≠0 then 1 else if 64 < s.length then 4 else if qz s=false then 11 else 0
theorem q5o {S:Nat→Prop} {a:Option Addr} {n c:Nat} (rs:List Rw) (s:List UInt8) (hsm:q2h rs) (hR:RowAt encRw S w a n rs) (h:∀ w',Ext w w'→R (.returned (.int .i64 (chkE rs s))) w'):Calls prog qjy ⟨[.slice a n c,.string ⟨⟨s⟩⟩]⟩ w R:=by
 apply qwk
 refine qxl rs hsm hR fun w4 e4=>⟨_,rfl,?_⟩
 have H:∀ e:Int,chkE rs s=e→R (.returned (.int .i64 e)) w4:=fun e he=>by rw [← he];exact h w4 e4
 refine qc (fun g=>H 1 (by unfold chkE;rw [if_pos g])) (fun g=>qc (fun g2=>H 4 (by unfold chkE;rw [if_neg g,if_pos (by omega)])) (fun g2=>?_))
 refine qpw s (by omega) ⟨_,rfl,qh (fun g3=>H 11 ?_) (fun g3=>H 0 ?_)⟩
 ·unfold chkE;rw [if_neg g,if_neg (by omega),if_pos (by simpa using g3)]
 ·unfold chkE;rw [if_neg g,if_neg (by omega),if_neg (by simpa using g3)]
theorem q17 (s u:List UInt8) (h:R (.returned (.tuple ⟨[.string ⟨⟨if decide (u.length≤s.length)&&decide (s.take u.length=u) then s.drop u.length else s⟩⟩,.bool (decide (u.length≤s.length)&&decide (s.take u.length=u))]⟩)) w) :
  Calls prog qhi ⟨[.string ⟨⟨s⟩⟩,.string ⟨⟨u⟩⟩]⟩ w R:=by
 apply qq7
 apply qew
 have hp:∀ R':Ending→World→Prop,R' (.returned (.bool (decide (u.length≤s.length)&&decide (s.take u.length=u)))) w→Calls prog qbg ⟨[.string ⟨⟨s⟩⟩,.string ⟨⟨u⟩⟩]⟩ w R':=by
  intro R' hR
  apply qeu
  refine qc (fun g=>?_) (fun g=>?_)
  ·have hz:((0:Nat):Int)=0:=rfl
   rw [← hz]
   refine qj8 (by omega) (by omega) ?_
   rw [List.drop_zero]
   rw [decide_eq_true (show u.length≤s.length by omega),Bool.true_and] at hR
   exact hR
  ·rw [decide_eq_false (show ¬ u.length≤s.length by omega),Bool.false_and] at hR
   exact hR
 refine hp _ ⟨_,rfl,qh (fun g=>?_) (fun g=>?_)⟩
 ·have g':(decide (u.length≤s.length)&&decide (s.take u.length=u))=false:=by
   rw [Bool.not_eq_true'] at g;exact g
  rw [g'] at h
  exact ⟨_,_,rfl,h⟩
 ·have g':(decide (u.length≤s.length)&&decide (s.take u.length=u))=true:=by
   rw [Bool.not_eq_false'] at g;exact g
  have hl:u.length≤s.length:=by rw [Bool.and_eq_true,decide_eq_true_eq] at g';exact g'.1
  rw [g'] at h
  refine qj8 hl (Nat.le_refl _) ?_
  rw [List.take_length]
  exact ⟨_,_,rfl,h⟩
theorem hit_eq (s u:List UInt8) (k:Nat) (hk:k≤s.length):(decide (u.length≤(s.drop k).length)&&decide ((s.drop k).take u.length=u))=hitB s u k:=by
 unfold hitB
 rw [List.length_drop,decide_eq_decide.2 (show u.length≤s.length - k↔k + u.length≤s.length by omega)]
theorem q67 (l:List Rw) (x:Rw) (s:List UInt8) (k:Nat):qck (l++[x]) s k=qck l s k++if hitB s x.1 k=true then [putW s x k] else []:=by
 unfold qck
 rw [List.filter_append,List.map_append]
 congr 1
 by_cases h:hitB s x.1 k=true
 ·simp [h]
 ·simp [h]
theorem stepAt_pre (l m:List Rw) (s:List UInt8) (k:Nat):qck l s k <+: qck (l++m) s k:=by
 unfold qck
 rw [List.filter_append,List.map_append]
 exact List.prefix_append _ _
theorem resW_pre (rs:List Rw) (s:List UInt8) (k:Nat) (h:k < s.length):(List.range k).flatMap (qck rs s)++qck rs s k <+: resW rs s:=by
 have e:(List.range k).flatMap (qck rs s)++qck rs s k=(List.range (k + 1)).flatMap (qck rs s):=by rw [List.range_succ,List.flatMap_append];simp
 rw [e]
 unfold resW
 obtain ⟨d,hd⟩:∃ d,s.length=(k + 1) + d:=⟨s.length - (k + 1),by omega⟩
 rw [hd,List.range_add (n:=k + 1),List.flatMap_append]
 exact List.prefix_append _ _
theorem q3s {T:Nat→Prop} (rs:List Rw) (s:List UInt8) (hln:rs.length≤64) (hr:∀ x∈rs,x.1.length≤64∧x.2.length≤64) (hs:s.length≤64) {a:Option Addr} {n c:Nat} (b5 b3:Nat) (w:World) (hTl:∀ k,T k→k < w.heap.size) (B5:Blk w b5 [.string ⟨⟨s⟩⟩] 9) (B3:Blk w b3 [.slice a n c] 258) (hR:RowAt encRw T w a n rs) (h5:T b5) (h3:T b3) :
  IterO prog qbc [.pointer (some ⟨b5,0,none⟩),.pointer (some ⟨b3,0,none⟩)] (resW rs s) (fun x vs=>vs=[.string ⟨⟨x⟩⟩]) T w:=by
 intro yf ya yb S0 J Jx R hS hJ hJx hbody h0 hend hstop
 apply qnb
 have hn:=hR.1
 refine dr_ok ⟨s,by rw [B5.cell];rfl,?_⟩
 refine ⟨fun i W m=>∃ (k:Nat) (S:Nat→Prop),i=k∧k≤s.length∧m=s.length - k∧J ((List.range k).flatMap (qck rs s)) S W∧w.heap.size≤W.heap.size∧(∀ k,T k→W.heap[k]? = w.heap[k]?)∧(∀ k,S k→k < W.heap.size∧¬ T k),
  ⟨_,0,S0,rfl,by omega,rfl,h0,Nat.le_refl _,fun _ _=>rfl,hS⟩,?_⟩
 rintro _ W m ⟨k,S,rfl,hk,rfl,hj,hW,hT,hSW⟩ _
 refine qc (fun hlt=>?_) (fun hge=>?_)
 ·have hkl:k < s.length:=by omega
  refine dr_ok ⟨a,n,c,by rw [(B3.keep (hT b3 h3)).cell];rfl,?_⟩
  refine ⟨fun i2 W2 m2=>∃ (j:Nat) (S2:Nat→Prop),i2=j∧j≤n∧m2=n - j∧J ((List.range k).flatMap (qck rs s)++qck (rs.take j) s k) S2 W2∧w.heap.size≤W2.heap.size∧(∀ k,T k→W2.heap[k]? = w.heap[k]?)∧(∀ k,S2 k→k < W2.heap.size∧¬ T k),
   ⟨_,0,S,rfl,by omega,rfl,by rw [List.take_zero];simpa [qck] using hj,hW,hT,hSW⟩,?_⟩
  rintro _ W2 m2 ⟨j,S2,rfl,hjn,rfl,hj2,hW2,hT2,hS2⟩ _
  refine qc (fun hl2=>?_) (fun hg2=>?_)
  ·have hjl:j < rs.length:=by omega
   have hx:rs[j]? = some rs[j]:=by simp [hjl]
   obtain ⟨r1,r2⟩:=hr rs[j] (List.getElem_mem hjl)
   obtain ⟨bb,o,hq,_,_,hc⟩:=(hR.keep (S':=T) (w':=W2) (fun k hk _=>⟨hk,hT2 k hk⟩) hW2).get hx
   refine hq _ ⟨_,by rw [qe];exact hc 0 _ rfl,_,by rw [qe];exact hc 1 _ rfl,?_⟩
   refine qac rfl (by intro u hu;simp only [List.mem_cons,List.not_mem_nil,or_false] at hu;rcases hu with rfl | rfl <;> rfl) fun b21 w23 hb21 B21 e23 s23=>?_
   have z23:=e23.size
   unfold drw
   have ed:=qn w23
   have zd:w23.drew.heap.size=w23.heap.size:=rfl
   have B21:=B21.ext ed
   have E24:=qa e23 ed
   generalize w23.drew=w24 at *
   have z24:=E24.size
   have lT:∀ k,T k→k < W2.heap.size:=fun k hk=>by have:=hTl k hk;omega
   have hT24:∀ k,T k→w24.heap[k]? = w.heap[k]?:=fun k hk=>(E24.block k (lT k hk)).trans (hT2 k hk)
   obtain ⟨c0,c1⟩:=blk2' B21
   refine dr_ok ⟨s,by rw [(B5.keep (hT24 b5 h5)).cell];rfl,?_⟩
   refine qj8 (by omega) (Nat.le_refl _) ⟨_,c0,?_,trivial⟩
   rw [List.take_length]
   refine q17 (s.drop k) rs[j].1 ⟨_,_,rfl,?_⟩
   rw [hit_eq s _ k hk]
   have ed2:=qn w24
   have B21':=B21.ext ed2
   have E33:=qa E24 ed2
   generalize w24.drew=w33 at *
   show br (hitB s rs[j].1 k) _ _
   have z33:=E33.size
   have hT33:∀ k,T k→w33.heap[k]? = w.heap[k]?:=fun k hk=>(E33.block k (lT k hk)).trans (hT2 k hk)
   have hj33:=hJ _ _ _ _ hj2 (Chg.of_ext E33 (S:=fun k=>w.heap.size≤k∧¬ S2 k))
   have hS33:∀ k,S2 k→k < w33.heap.size∧¬ T k:=fun k hk=>⟨by have:=(hS2 k hk).1;omega,(hS2 k hk).2⟩
   have htk:qck (rs.take (j + 1)) s k=qck (rs.take j) s k++if hitB s rs[j].1 k=true then [putW s rs[j] k] else []:=by
    rw [List.take_succ_eq_append_getElem hjl,q67]
   cases hh:hitB s rs[j].1 k with
   | true =>
    simp only [br_t]
    refine dr_ok ⟨s,by rw [(B5.keep (hT33 b5 h5)).cell];rfl,?_⟩
    have hz0:((0:Nat):Int)=0:=rfl
    rw [← hz0]
    refine qj8 (by omega) (by omega) ⟨_,(blk2' B21').2,?_⟩
    rw [List.drop_zero]
    simp only [if_true]
    refine ⟨by simp;omega,by simp;omega,?_,trivial⟩
    have hput:s.take k++rs[j].2++(s.drop k).drop rs[j].1.length=putW s rs[j] k:=by unfold putW;rw [List.drop_drop,List.append_assoc]
    rw [hput]
    rw [hh,if_pos rfl] at htk
    have hpx:((List.range k).flatMap (qck rs s)++qck (rs.take j) s k)++[putW s rs[j] k] <+: resW rs s:=by
     refine List.IsPrefix.trans ?_ (resW_pre rs s k hkl)
     rw [List.append_assoc,← htk]
     refine (List.prefix_append_right_inj _).2 ?_
     have:=stepAt_pre (rs.take (j + 1)) (rs.drop (j + 1)) s k
     rwa [List.take_append_drop] at this
    refine qch (hbody _ (putW s rs[j] k) _ S2 w33 rfl hpx (by omega) hS33 hj33) ?_
    rintro e w41 ⟨hc2,S3,hS3,hres⟩
    have z41:=hc2.size
    have hT41:∀ k,T k→w41.heap[k]? = w.heap[k]?:=fun k hk=>(hc2.block k (by have:=lT k hk;omega) fun hh=>(hS2 k hh).2 hk).trans (hT33 k hk)
    have hS3':∀ k,S3 k→k < w41.heap.size∧¬ T k:=fun k hk=>⟨(hS3 k hk).2,fun ht=>(hS3 k hk).1.elim (fun hh=>(hS2 k hh).2 ht) fun hh=>by have:=lT k ht;omega⟩
    rcases hres with ⟨rfl,hj3⟩ | ⟨rfl,hjx⟩
    ·refine ⟨true,rfl,?_⟩
     simp only [Bool.not_true,br_f]
     refine ⟨n - (j + 1),by omega,j + 1,S3,by rw [qg (by omega)],by omega,rfl,?_,by omega,hT41,hS3'⟩
     rw [htk,← List.append_assoc];exact hj3
    ·refine ⟨false,rfl,?_⟩
     simp only [Bool.not_false,br_t]
     exact hstop S3 _ (by omega) hjx
   | false =>
    simp only [br_f]
    rw [hh,if_neg (by decide),List.append_nil] at htk
    exact ⟨⟨n - (j + 1),by omega,j + 1,S2,by rw [qg (by omega)],by omega,rfl,by rw [htk];exact hj33,by omega,hT33,hS33⟩,trivial⟩
  ·rw [List.take_of_length_le (by omega)] at hj2
   refine ⟨s.length - (k + 1),by omega,k + 1,S2,by rw [qg (by omega)],by omega,rfl,?_,hW2,hT2,hS2⟩
   have e:(List.range (k + 1)).flatMap (qck rs s)=(List.range k).flatMap (qck rs s)++qck rs s k:=by rw [List.range_succ,List.flatMap_append];simp
   rw [e];exact hj2
 ·have:k=s.length:=by omega
  subst this
  exact hend S W hW hj
end
section
variable {R:Ending→World→Prop} {w:World}
theorem q9k {w w1 w2:World} {b:Nat} (h:Ext w w1) (hc:Chg (fun k=>k=b) w1 w2) (hb:w.heap.size≤b):Ext w w2:=qi h hc fun k hk=>by rw [hk];exact hb
theorem q7f {rs:List Rw} (h:qc9 rs=0):∀ x∈rs,x.1.length≤64∧x.2.length≤64:=fun x hx=>by
 obtain ⟨_,_,_,h4,h5⟩:=q2k (qzo h x hx)
 omega
theorem q5u {S:Nat→Prop} {a:Option Addr} {n c:Nat} (s:List UInt8)
  (h:∀ b5 b3 w',b3=w.heap.size→b5=b3 + 1→w'.heap.size=b5 + 1→Blk w' b5 [.string ⟨⟨s⟩⟩] 9→Blk w' b3 [.slice a n c] 258→Ext w w'→R (.returned (.func (.func qbc) ⟨[]⟩ ⟨[.pointer (some ⟨b5,0,none⟩),.pointer (some ⟨b3,0,none⟩)]⟩)) w') :
  Calls prog qhj ⟨[.slice a n c,.string ⟨⟨s⟩⟩]⟩ w R:=by
 apply qq8
 refine qd fun b3 w4 hb3 B3 e4 s4=>?_
 refine qd fun b5 w6 hb5 B5 e6 s6=>?_
 exact h b5 b3 w6 hb3 (by omega) s6 B5 (B3.ext e6) (qa e4 e6)
theorem q7b {S:Nat→Prop} {a:Option Addr} {n c:Nat} (rs:List Rw) (s:List UInt8) (hln:rs.length≤64) (hr:qc9 rs=0) (hs:s.length≤64) (hR:RowAt encRw S w a n rs)
  (h:∀ w',Ext w w'→R (.returned (.tuple ⟨[.string ⟨⟨(stepW rs s).getD s⟩⟩,.bool (stepW rs s).isSome]⟩)) w'):Calls prog qlb ⟨[.slice a n c,.string ⟨⟨s⟩⟩]⟩ w R:=by
 apply qya
 refine qd fun b3 w4 hb3 B3 e4 s4=>?_
 refine qd fun b5 w6 hb5 B5 e6 s6=>?_
 have E6:=qa e4 e6
 have B3':=B3.ext e6
 refine q5u (S:=S) s fun c5 c3 w8 hc3 hc5 hz8 C5 C3 e8=>⟨_,_,_,rfl,fun base=>?_⟩
 have E8:=qa E6 e8
 have z8:=E8.size
 have z6:=E6.size
 have D3:=B3'.ext e8
 have D5:=B5.ext e8
 have hR0:=hR.imp (S':=fun k=>S k∧k < w.heap.size) fun k hk hl=>⟨hk,hl⟩
 have hR8:=(hR0.ext E8).imp (S':=fun k=>(S k∧k < w.heap.size)∨k=c5∨k=c3) fun k hk _=>.inl hk
 rw [qq0]
 refine qh4 qgj qgi (gf:=qbc) rfl (by kernel_rfl) (xs:=resW rs s) (E:=fun x vs=>vs=[.string ⟨⟨x⟩⟩]) (Rd:=fun k=>(S k∧k < w.heap.size)∨k=c5∨k=c3)
  (fun v1 he=>q3s rs s hln (q7f hr) hs c5 c3 v1 (fun k hk=>by have:=he.size;rcases hk with hk | hk | hk <;> omega) (C5.ext he) (C3.ext he) (hR8.ext he) (.inr (.inl rfl)) (.inr (.inr rfl))) (fun y vs hE=>by rw [hE];rfl) (by decide) (fun k hk=>by rcases hk with hk | hk | hk <;> omega) (fun k=>k=b3∨k=b5) (fun k hk=>⟨by omega,fun hh=>by rcases hh with hh | hh | hh <;> omega⟩)
  (fun pre S1 W=>pre=[]∧Blk W b3 [.string ⟨⟨[]⟩⟩] 9∧Blk W b5 [.bool false] 4∧(∀ k,S1 k↔k=b3∨k=b5)∧Ext w W)
  (fun S1 W=>∃ x,stepW rs s=some x∧Blk W b3 [.string ⟨⟨x⟩⟩] 9∧Blk W b5 [.bool true] 4∧(∀ k,S1 k↔k=b3∨k=b5)∧Ext w W) (fun _ _=>False)
  ?_ ?_ (fun _ _ _ h=>h.elim) ⟨rfl,D3,D5,fun k=>Iff.rfl,E8⟩ ?_ ?_ ?_ (fun _ _ _ _ _ _ _ h=>h.elim)
 ·rintro pre S1 W W' ⟨g0,g1,g2,g3,g4⟩ hc
  exact ⟨g0,hc.blk g1 (fun hh=>hh.2 ((g3 _).2 (.inl rfl))),hc.blk g2 (fun hh=>hh.2 ((g3 _).2 (.inr rfl))),g3,qi g4 hc fun k hk=>by omega⟩
 ·rintro S1 W W' ⟨x,g0,g1,g2,g3,g4⟩ hc
  exact ⟨x,g0,hc.blk g1 (fun hh=>hh.2 ((g3 _).2 (.inl rfl))),hc.blk g2 (fun hh=>hh.2 ((g3 _).2 (.inr rfl))),g3,qi g4 hc fun k hk=>by omega⟩
 ·rintro pre x vs S1 W l rfl hpre hl1 hl2 hl3 hS1 ⟨g0,g1,g2,g3,g4⟩
  subst g0
  refine Eq.mpr (qqw base _ _ _ _ _ _ _ _ _ _ _ _) ?_
  refine ⟨Below.refl _ _,fun W2 hU=>dr_ok ?_⟩
  have nl3:b3≠l:=fun he=>hl3 ((g3 l).2 (.inl he.symm))
  have nl5:b5≠l:=fun he=>hl3 ((g3 l).2 (.inr he.symm))
  have zU:=hU.size
  have hUc:Chg (fun k=>k=l) W W2:=⟨hU.os,hU.tape,hU.output,by omega,fun k _ hk=>hU.block k hk⟩
  have hx:stepW rs s=some x:=by
   unfold stepW
   obtain ⟨t,ht⟩:=hpre
   rw [← ht];rfl
  refine qam (hUc.blk g1 nl3) rfl fun W3 q1 c3' s3=>dr_ok ?_
  refine qam (c3'.blk (hUc.blk g2 nl5) (by omega)) rfl fun W4 q2 c4' s4'=>?_
  have E2:Ext w W2:=qi g4 hUc fun k hk=>by omega
  refine ⟨?_,fun k=>k=b3∨k=b5,fun k hk=>⟨.inl ((g3 k).2 hk),?_⟩,x,hx,c4'.blk q1 (by omega),q2,fun k=>Iff.rfl,q9k (q9k E2 c3' (by omega)) c4' (by omega)⟩
  ·exact (c3'.mono fun k _ hk=>.inl ((g3 k).2 (.inl hk))).trans (c4'.mono fun k _ hk=>.inl ((g3 k).2 (.inr hk)))
  ·have:=hS1 k ((g3 k).2 hk);omega
 ·rintro D S1 W hD1 hD2 hD3 hD4 ⟨g0,g1,g2,g3,g4⟩
  have hnone:stepW rs s=none:=by unfold stepW;rw [g0];rfl
  rw [hnone] at h
  have nl3:b3≠D:=fun he=>hD3 ((g3 D).2 (.inl he.symm))
  have nl5:b5≠D:=fun he=>hD3 ((g3 D).2 (.inr he.symm))
  refine qam g1 rfl fun W3 q1 c3' s3=>?_
  refine qam (c3'.blk g2 (by omega)) rfl fun W4 q2 c4' s4'=>?_
  have hD:W4.heap[D]? = some (.deferred (some [])):=by rw [c4'.block D (by omega) (by omega),c3'.block D hD2 (by omega)];exact hD4
  refine ⟨D,rfl,hD,?_⟩
  have cD:Chg (fun k=>k=D) W4 (W4.putObj D (.deferred none)):=Chg.put _ _ _ rfl
  have q1':=cD.blk (c4'.blk q1 (by omega)) (by omega)
  have q2':=cD.blk q2 (by omega)
  refine ⟨_,by rw [q1'.cell];rfl,_,by rw [q2'.cell];rfl,?_⟩
  exact h _ (qi (q9k (q9k g4 c3' (by omega)) c4' (by omega)) cD fun k hk=>by omega)
 ·rintro D S1 W hD1 hD2 hD3 hD4 ⟨x,g0,g1,g2,g3,g4⟩
  rw [g0] at h
  have nl3:b3≠D:=fun he=>hD3 ((g3 D).2 (.inl he.symm))
  have nl5:b5≠D:=fun he=>hD3 ((g3 D).2 (.inr he.symm))
  refine ⟨D,rfl,hD4,?_⟩
  have cD:Chg (fun k=>k=D) W (W.putObj D (.deferred none)):=Chg.put _ _ _ rfl
  refine ⟨_,by rw [(cD.blk g1 nl3).cell];rfl,_,by rw [(cD.blk g2 nl5).cell];rfl,?_⟩
  exact h _ (qi g4 cD fun k hk=>by omega)
theorem q8x:SlT prog 23 9 1 16 (.string ⟨⟨[]⟩⟩):=⟨by kernel_rfl,by kernel_rfl,rfl,by decide⟩
theorem trace_step {rs:List Rw} {n:Nat} {s x:List UInt8} (h:stepW rs s=some x):qgh rs (n + 1) s=qgh rs n x:=by
 conv=>lhs;unfold qgh
 rw [h]
theorem trace_stop {rs:List Rw} {n:Nat} {s:List UInt8} (h:stepW rs s=none):qgh rs n s=some s:=by
 cases n <;> unfold qgh <;> rw [h]
theorem trace_full {rs:List Rw} {s x:List UInt8} (h:stepW rs s=some x):qgh rs 0 s=none:=by
 unfold qgh;rw [h]
theorem q5n {S:Nat→Prop} {a:Option Addr} {n c:Nat} (rs:List Rw) (s:List UInt8) (hln:rs.length≤64) (hr:qc9 rs=0) (hs:s.length≤64) (hw:qz s=true) (hR:RowAt encRw S w a n rs)
  (h:∀ a' n' c' w' (L:List (List UInt8)),(∀ r,qgh rs 4095 s=some r→RowAt Sh.encStr (fun k=>w.heap.size≤k) w' a' n' (L++[r])∧L.length≤4095)→Ext w w'→R (.returned (.tuple ⟨[.slice a' n' c',.int .i64 (if (qgh rs 4095 s).isNone=true then 4 else 0)]⟩)) w') :
  Calls prog qjw ⟨[.slice a n c,.string ⟨⟨s⟩⟩]⟩ w R:=by
 apply qwi
 refine qd fun b3 w4 hb3 B3 e4 s4=>?_
 refine ⟨fun oa on oc W m=>∃ (L:List (List UInt8)) (x:List UInt8),on=L.length + 1∧m=4095 - L.length∧L.length≤4095∧OwnL Sh.encStr W w.heap.size 9 oa on oc (L++[x])∧qgh rs m x=qgh rs 4095 s∧x.length≤64∧qz x=true∧Ext w W,
  ⟨_,[],s,rfl,rfl,by simp,?_,rfl,hs,hw,e4⟩,?_⟩
 ·have hb:Blk w4 b3 ((List.replicate 1 (Sh.encStr.enc s)).flatten) 9:=B3
  have:=OwnL.made (E:=Sh.encStr) (x:=s) (n:=1) (B:=w.heap.size) hb (by omega) (by decide)
  exact this
 rintro oa on oc W k ⟨L,x,rfl,hk,hL,hO,htr,hx,hwx,he⟩ _
 have zW:=he.size
 have hg:(L++[x])[L.length]? = some x:=by simp
 obtain ⟨bb,o,hq,_,_,hc⟩:=hO.out.get hg
 have ei:i64.wrap (((L.length + 1:Nat):Int) - 1)=(L.length:Int):=by rw [qai (by omega)];omega
 rw [ei]
 refine hq _ ⟨x,hc 0 _ rfl,?_⟩
 refine q7b rs x hln hr hx (hR.ext he) fun w13 e13=>⟨_,_,rfl,?_⟩
 have E13:=qa he e13
 have hO13:=hO.ext e13
 cases hst:stepW rs x with
 | none =>
  simp only [Option.isSome_none,Bool.not_false,br_t]
  have ht:=trace_stop (n:=k) hst
  rw [htr] at ht
  rw [ht] at h
  refine h oa _ oc w13 L (fun r hr'=>?_) E13
  rw [← Option.some.inj hr']
  exact ⟨(OwnL.out hO13).imp fun k hk _=>(Owns.bk hO13 hk).1,hL⟩
 | some y =>
  simp only [Option.isSome_some,Bool.not_true,br_f,Option.getD_some]
  refine qc (fun g=>?_) (fun g=>?_)
  ·have hk0:k=0:=by omega
   subst hk0
   rw [trace_full hst] at htr
   rw [← htr] at h
   exact h none 0 0 w13 [] (fun r hr'=>by cases hr') E13
  ·obtain ⟨q1,q2,q3⟩:=step_word hr hwx (List.mem_of_head? (show (resW rs x).head? = some y from hst))
   refine qd fun b16 w17 hb16 B16 e17 s17=>?_
   have z13:=E13.size
   have B16':Blk w17 b16 (Sh.encStr.enc y) 9:=B16
   refine OwnL.app1 (P:=prog) q8x (hO13.ext e17) (by omega) B16' (by omega) (by omega) fun a' c'' w19 ho hcg hn=>?_
   have z17:=e17.size
   refine ⟨k - 1,by omega,L++[x],y,by simp,by simp;omega,by simp;omega,?_,?_,by omega,q1,?_⟩
   ·exact ho
   ·rw [← htr,show k=(k - 1) + 1 by omega,trace_step hst,Nat.add_sub_cancel]
   ·exact qi (qa E13 e17) hcg fun k hk=>(hO13.bk hk).1
theorem rwE_eq (rs:List Rw) (s:List UInt8):rwE rs s=if chkE rs s≠0 then chkE rs s else if (qgh rs 4095 s).isNone=true then 4 else 0:=by
 unfold rwE chkE
 by_cases h1:ruleE rs≠0
 ·rw [if_pos h1,if_pos h1];rfl
 ·rw [if_neg h1,if_neg h1]
  by_cases h2:64 < s.length
  ·rw [if_pos h2,if_pos h2];rfl
  ·rw [if_neg h2,if_neg h2]
   by_cases h3:qz s=false
   ·rw [if_pos h3,if_pos h3];rfl
   ·rw [if_neg h3,if_neg h3];rfl
theorem chk_zero {rs:List Rw} {s:List UInt8} (h:chkE rs s=0):rs.length≤64∧qc9 rs=0∧s.length≤64∧qz s=true:=by
 unfold chkE at h
 split at h
 ·cases h
 split at h
 ·cases h
 split at h
 ·cases h
 rename_i h1 h2 h3
 have h1:ruleE rs=0:=Decidable.not_not.1 h1
 unfold ruleE at h1
 split at h1
 ·cases h1
 ·exact ⟨by omega,h1,by omega,by simpa using h3⟩
theorem q7c {S:Nat→Prop} {a:Option Addr} {n c:Nat} (rs:List Rw) (s:List UInt8) (hsm:q2h rs) (hR:RowAt encRw S w a n rs)
  (h:∀ w',Ext w w'→R (.returned (.tuple ⟨[.string ⟨⟨rwR rs s⟩⟩,.int .i64 (rwE rs s)]⟩)) w'):Calls prog qga ⟨[.slice a n c,.string ⟨⟨s⟩⟩]⟩ w R:=by
 apply qnc
 apply qwl
 refine q5o rs s hsm hR fun w4 e4=>⟨_,rfl,?_⟩
 have hE:=rwE_eq rs s
 refine qc (fun g=>⟨_,_,_,_,rfl,qc (fun _=>?_) (fun hh=>absurd g hh)⟩) (fun g=>?_)
 ·rw [if_pos g] at hE
  have hr:rwR rs s=[]:=by unfold rwR;rw [hE,if_pos g]
  rw [hr,hE] at h
  exact h w4 e4
 ·have g0:chkE rs s=0:=Decidable.not_not.1 g
  rw [if_neg g] at hE
  obtain ⟨q1,q2,q3,q4⟩:=chk_zero g0
  refine q5n rs s q1 q2 q3 q4 (hR.ext e4) fun a' n' c' w' L hL e'=>⟨_,_,_,_,rfl,_,_,_,_,rfl,?_⟩
  rw [← hE]
  cases ht:qgh rs 4095 s with
  | none =>
   rw [ht] at hE
   have hE:rwE rs s=4:=hE
   have hr:rwR rs s=[]:=by unfold rwR;rw [hE];rfl
   rw [hr,hE] at h
   rw [hE]
   exact qc (fun _=>h w' (qa e4 e')) (fun hh=>absurd (by decide) hh)
  | some r =>
   rw [ht] at hE
   have hE:rwE rs s=0:=hE
   have hr:rwR rs s=r:=by unfold rwR;rw [hE,ht];rfl
   rw [hr,hE] at h
   rw [hE]
   refine qc (fun hh=>absurd rfl hh) (fun _=>?_)
   obtain ⟨hrow,hL5⟩:=hL r ht
   have hg:(L++[r])[L.length]? = some r:=by simp
   obtain ⟨bb,o,hq,_,_,hc⟩:=hrow.get hg
   have hn:=hrow.1
   have hsz:n'=L.length + 1:=by rw [hn];simp
   subst hsz
   have ei:i64.wrap (((L.length + 1:Nat):Int) - 1)=(L.length:Int):=by rw [qai (by omega)];omega
   rw [ei]
   exact hq _ ⟨r,hc 0 _ rfl,h w' (qa e4 e')⟩
end
theorem q20 {g:Int} (h0:0≤g) (h1:g≤31):decide (bitA .i64 g 10=0)=wordG g∧decide (bitA .i64 g 2≠0)=hasG g 2∧decide (bitA .i64 g 8≠0)=hasG g 8∧decide (bitA .i64 g 16=0)=!hasG g 16:=by
 have key:∀ n:Fin 32,decide (bitA .i64 (n.val:Int) 10=0)=wordG (n.val:Int)∧decide (bitA .i64 (n.val:Int) 2≠0)=hasG (n.val:Int) 2∧decide (bitA .i64 (n.val:Int) 8≠0)=hasG (n.val:Int) 8∧decide (bitA .i64 (n.val:Int) 16=0)=!hasG (n.val:Int) 16:=by decide +kernel
 have:=key ⟨g.toNat,by omega⟩
 have e:((g.toNat:Nat):Int)=g:=by omega
 simp only [e] at this
 exact this
theorem blk6' {w:World} {b:Nat} {v0 v1 v2 v3 v4 v5:Value} {T:TypeId} (h:Blk w b [v0,v1,v2,v3,v4,v5] T) :
  w.cell? ((⟨b,0,none⟩:Addr).add 0)=some v0∧w.cell? ((⟨b,0,none⟩:Addr).add 1)=some v1∧w.cell? ((⟨b,0,none⟩:Addr).add 2)=some v2∧w.cell? ((⟨b,0,none⟩:Addr).add 3)=some v3∧w.cell? ((⟨b,0,none⟩:Addr).add 4)=some v4∧w.cell? ((⟨b,0,none⟩:Addr).add 5)=some v5:=by
 simp only [qe,h.cell];exact ⟨rfl,rfl,rfl,rfl,rfl,rfl⟩
abbrev aggT (x:Tok):Value:=.agg ⟨[.string ⟨⟨x.t⟩⟩,.string ⟨⟨x.m⟩⟩,.string ⟨⟨x.p.1⟩⟩,.int .i64 x.p.2,.int .i64 x.g,.string ⟨⟨x.a⟩⟩]⟩
section
variable {R:Ending→World→Prop} {w:World}
theorem qms (x:Tok) (h0:0≤x.g) (h1:x.g≤31) (h:∀ w',Ext w w'→R (.returned (.bool (wordG x.g))) w'):Calls prog qia ⟨[aggT x]⟩ w R:=by
 apply qto
 refine qd fun b w8 hb B8 e8 s8=>⟨_,(blk6' B8).2.2.2.2.1,?_⟩
 rw [(q20 h0 h1).1]
 exact h w8 e8
theorem qv3 (s:List UInt8) (h:R (.returned (.bool (qdo s))) w):Calls prog qjo ⟨[.string ⟨⟨s⟩⟩]⟩ w R:=by
 apply qwc
 unfold qdo at h
 refine qc (fun g=>?_) (fun g=>qk4 s ⟨_,rfl,?_⟩)
 ·rw [decide_eq_true g] at h;exact h
 ·rw [decide_eq_false g] at h;exact h
theorem qs5 (rs:List Rw):∀ (l:List Tok) (x:Tok),nrmE rs l=0→nrmE rs (l++[x])=if wordG x.g=true∧rwE rs x.t≠0 then rwE rs x.t else 0
 | [],x,_=>by simp only [List.nil_append,nrmE]
 | y :: l,x,h=>by
  rw [nrmE] at h
  split at h
  ·rename_i hh;exact absurd h hh.2
  ·rename_i hh
   rw [List.cons_append,nrmE,if_neg hh,qs5 rs l x h]
theorem q86 (rs:List Rw):∀ (l m:List Tok),nrmE rs l≠0→nrmE rs (l++m)=nrmE rs l
 | [],m,h=>absurd rfl h
 | y :: l,m,h=>by
  rw [nrmE] at h
  rw [List.cons_append,nrmE,nrmE]
  split
  ·rfl
  ·rename_i hh
   rw [if_neg hh] at h
   exact q86 rs l m h
theorem qzx {S:Nat→Prop} {B:Nat} {a0:Option Addr} {n0 c0:Nat} {a:Option Addr} {n c:Nat} (rs:List Rw) (l:List Tok) (hsm:q2h rs) (hR:RowAt encRw S w a0 n0 rs) (hO:OwnL encTk w B 117 a n c l) (hd:∀ k,S k→¬ bk a k) (hg:∀ x∈l,0≤x.g∧x.g≤31) (hn:n≤1000000000)
  (h:∀ w',Chg (bk a) w w'→(nrmE rs l=0→OwnL encTk w' B 117 a n c (l.map (nrmT rs)))→R (.returned (.tuple ⟨[if nrmE rs l=0 then .slice a n c else .slice none 0 0,.int .i64 (nrmE rs l)]⟩)) w') :
  Calls prog qfd ⟨[.slice a0 n0 c0,.slice a n c]⟩ w R:=by
 apply qls
 have hln:=OwnL.length hO
 refine ⟨fun i W m=>∃ k:Nat,i=k∧k≤n∧m=n - k∧Chg (bk a) w W∧OwnL encTk W B 117 a n c ((l.take k).map (nrmT rs)++l.drop k)∧nrmE rs (l.take k)=0,⟨_,0,rfl,by omega,rfl,Chg.refl _ _,by simpa using hO,rfl⟩,?_⟩
 rintro _ W m ⟨k,rfl,hk,rfl,hcW,hOW,hz⟩ _
 refine qc (fun hlt=>?_) (fun hge=>?_)
 ·have hkl:k < l.length:=by omega
  have hget:∀ y:Tok,((l.take k).map (nrmT rs)++y :: l.drop (k + 1))[k]? = some y:=fun y=>by
   rw [List.getElem?_append_right (by simp;omega)];simp [Nat.min_eq_left (by omega:k≤l.length)]
  have hset:∀ y z:Tok,((l.take k).map (nrmT rs)++y :: l.drop (k + 1)).set k z=(l.take k).map (nrmT rs)++z :: l.drop (k + 1):=fun y z=>by
   rw [List.set_append_right _ _ (by simp;omega)];simp [Nat.min_eq_left (by omega:k≤l.length)]
  have hdr:l.drop k=l[k] :: l.drop (k + 1):=List.drop_eq_getElem_cons hkl
  rw [hdr] at hOW
  have htk:l.take (k + 1)=l.take k++[l[k]]:=List.take_succ_eq_append_getElem hkl
  obtain ⟨hg0,hg1⟩:=hg l[k] (List.getElem_mem hkl)
  generalize hx:l[k]=x at *
  obtain ⟨g,ha,hq,hc,hst⟩:=OwnL.storeCell hOW (hget x)
  refine hq _ ⟨x.t,by rw [qe];exact hc 0 _ rfl,hq _ ?_⟩
  rw [qe]
  refine hst 1 _ (setM x x.t) _ (by decide) rfl rfl fun w11 ho11 c11 s11=>?_
  rw [hset] at ho11
  obtain ⟨g',ha',hq',hc',hst'⟩:=OwnL.storeCell ho11 (hget (setM x x.t))
  have hgg:g'=g:=by rw [ha] at ha';simpa using ha'.symm
  subst hgg
  have hcw11:=hcW.trans c11
  refine hq' _ ⟨_,by rw [qe];exact hc' 0 _ rfl,_,by rw [qe];exact hc' 1 _ rfl,_,by rw [qe];exact hc' 2 _ rfl,_,by rw [qe];exact hc' 3 _ rfl,_,by rw [qe];exact hc' 4 _ rfl,_,by rw [qe];exact hc' 5 _ rfl,?_⟩
  refine qms (setM x x.t) hg0 hg1 fun w20 e20=>⟨_,rfl,?_⟩
  have ho20:=Owns.ext ho11 e20
  have hcw20:=hcw11.trans (.of_ext e20)
  have hw:(setM x x.t).g=x.g:=rfl
  rw [hw]
  cases hwg:wordG x.g with
  | false =>
   simp only [Bool.not_false,br_t]
   have hnx:nrmT rs x=setM x x.t:=by unfold nrmT;rw [hwg];rfl
   refine ⟨n - (k + 1),by omega,k + 1,by rw [qg (by omega)],by omega,rfl,hcw20,?_,?_⟩
   ·rw [htk,List.map_append,List.map_singleton,hnx,List.append_assoc];exact ho20
   ·rw [htk,qs5 rs _ _ hz,if_neg (fun hh=>by rw [hwg] at hh;cases hh.1)]
  | true =>
   simp only [Bool.not_true,br_f]
   obtain ⟨g2,ha2,hq2,hc2,hst2⟩:=OwnL.storeCell ho20 (hget (setM x x.t))
   have hgg:g2=g':=by rw [ha'] at ha2;simpa using ha2.symm
   subst hgg
   refine hq2 _ ⟨_,by rw [qe];exact hc2 0 _ rfl,?_⟩
   have hR20:RowAt encRw S w20 a0 n0 rs:=hR.chg hcw20 hd
   refine q7c rs x.t hsm hR20 fun w26 e26=>⟨_,_,rfl,?_⟩
   have hcw26:=hcw20.trans (.of_ext e26)
   have ho26:=Owns.ext ho20 e26
   refine qc (fun g3=>?_) (fun g3=>?_)
   ·have he:nrmE rs l=rwE rs x.t:=by
     have h1:nrmE rs (l.take (k + 1))=rwE rs x.t:=by rw [htk,qs5 rs _ _ hz,if_pos ⟨hwg,g3⟩]
     have h2:=q86 rs (l.take (k + 1)) (l.drop (k + 1)) (by rw [h1];exact g3)
     rw [List.take_append_drop] at h2
     rw [h2,h1]
    rw [he] at h
    have:=h w26 hcw26 (fun hh=>absurd hh g3)
    rw [if_neg g3] at this
    exact this
   ·obtain ⟨g4,ha4,hq4,hc4,hst4⟩:=OwnL.storeCell ho26 (hget (setM x x.t))
    have hgg:g4=g2:=by rw [ha2] at ha4;simpa using ha4.symm
    subst hgg
    refine hq4 _ ?_
    rw [qe]
    refine hst4 1 _ (setM x (rwR rs x.t)) _ (by decide) rfl rfl fun w30 ho30 c30 s30=>?_
    rw [hset] at ho30
    have hnx:nrmT rs x=setM x (rwR rs x.t):=by unfold nrmT;rw [hwg];rfl
    refine ⟨n - (k + 1),by omega,k + 1,by rw [qg (by omega)],by omega,rfl,hcw26.trans c30,?_,?_⟩
    ·rw [htk,List.map_append,List.map_singleton,hnx,List.append_assoc];exact ho30
    ·rw [htk,qs5 rs _ _ hz,if_neg (fun hh=>hh.2 (Decidable.not_not.1 g3))]
 ·have hkn:k=n:=by omega
  subst hkn
  rw [List.take_of_length_le (by omega)] at hz hOW
  rw [List.drop_eq_nil_of_le (by omega),List.append_nil] at hOW
  rw [hz] at h
  exact h W hcW fun _=>hOW
theorem q19 {S:Nat→Prop} {a:Option Addr} {n c:Nat} (l:List Tok) (q:Tok→Bool) (fn:FuncId) (hok:okFn prog fn=true) (hp:∀ {R:Ending→World→Prop} {v:World} (x:Tok),x∈l→(∀ v',Ext v v'→R (.returned (.bool (q x))) v')→Calls prog fn ⟨[aggT x]⟩ v R)
  (hR:RowAt encTk S w a n l) (hn:n≤4611686018427387904) (h:∀ w',Ext w w'→R (.returned (.bool (l.any q))) w'):Calls prog qp ⟨[.slice a n c,.func (.func fn) #[] #[]]⟩ w R:=by
 apply qah
 apply qal
 have hln:=hR.1
 refine ⟨fun i W m=>∃ k:Nat,i=k∧k≤n∧m=n - k∧Ext w W∧(l.take k).any q=false,⟨_,0,rfl,by omega,rfl,Below.refl _ _,rfl⟩,?_⟩
 rintro _ W m ⟨k,rfl,hk,rfl,he,hz⟩ _
 refine qc (fun hlt=>?_) (fun hge=>?_)
 ·have hkl:k < l.length:=by omega
  obtain ⟨bb,o,hq,_,_,hc⟩:=(hR.ext he).get (show l[k]? = some l[k] by simp [hkl])
  refine hq _ ⟨_,by rw [qe];exact hc 0 _ rfl,_,by rw [qe];exact hc 1 _ rfl,_,by rw [qe];exact hc 2 _ rfl,_,by rw [qe];exact hc 3 _ rfl,_,by rw [qe];exact hc 4 _ rfl,_,by rw [qe];exact hc 5 _ rfl,hok,?_⟩
  refine hp l[k] (List.getElem_mem hkl) fun w16 e16=>⟨_,rfl,qh (fun g=>?_) (fun g=>?_)⟩
  ·refine ⟨_,rfl,?_⟩
   have:l.any q=true:=List.any_eq_true.2 ⟨l[k],List.getElem_mem hkl,g⟩
   rw [decide_eq_true (show (0:Int)≤(k:Int) by omega),← this]
   exact h w16 (qa he e16)
  ·refine ⟨n - (k + 1),by omega,k + 1,by rw [qg (by omega)],by omega,rfl,qa he e16,?_⟩
   rw [List.take_succ_eq_append_getElem hkl,List.any_append,hz];simp [g]
 ·rw [List.take_of_length_le (by omega)] at hz
  rw [hz] at h
  exact ⟨_,rfl,h W he⟩
end
end Go.Proofs
