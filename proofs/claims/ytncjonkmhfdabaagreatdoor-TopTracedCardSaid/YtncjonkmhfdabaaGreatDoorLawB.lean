/- The contracts of the functions that the law reaches, one after the other, and at the end the law's card. -/
import Derived.Test.YtncjonkmhfdabaaGreatDoorLawA
set_option linter.all false
set_option maxRecDepth 20000
namespace Go.Sh
open Go Go.RowKit
def IterR {α:Type} (P:Program) (gf:FuncId) (cap:List Value) (xs:List α) (E:α→List Value→Prop) (Rd:Nat→Prop) (w:World):Prop :=
 ∀ (yf:Fn) (ya yb:Array Value) (S:Nat→Prop) (J:List α→World→Prop) (Jx:World→Prop) (R:Ending→World→Prop),
  (∀ k,S k→k < w.heap.size∧¬ Rd k) →
  (∀ pre W W',J pre W→Chg (fun k=>w.heap.size≤k) W W'→J pre W')→(∀ W W',Jx W→Chg (fun k=>w.heap.size≤k) W W'→Jx W') →
  (∀ pre x vs W,E x vs→pre++[x] <+: xs→w.heap.size≤W.heap.size→J pre W→CallV P (.func yf ya yb) vs W fun e W'=>Chg S W W'∧((e=.returned (.bool true)∧J (pre++[x]) W')∨(e=.returned (.bool false)∧Jx W'))) →
  J [] w→(∀ W,w.heap.size≤W.heap.size→J xs W→R (.returned (.tuple ⟨[]⟩)) W)→(∀ W,w.heap.size≤W.heap.size→Jx W→R (.returned (.tuple ⟨[]⟩)) W) →
  Calls P gf ⟨.func yf ya yb :: cap⟩ w R
theorem q90 {α:Type} {P:Program} {N:Nat} {g:Operand} {ps:Array Tmp} {assign body:Code} {env:Env} {ds:List Deferred} {w:World} {x:Nat} {Qn Qr Qx:List Deferred→World→Prop}
  (xA xB:Ann) {gf:FuncId} {cap:List Value} (hg:ev env g=.func (.func gf) ⟨[]⟩ ⟨cap⟩) (hok:okFn P gf=true)
  {xs:List α} {E:α→List Value→Prop} {Rd:Nat→Prop} (hit:∀ w1,Ext w w1→IterR P gf cap xs E Rd w1)
  (hps:∀ y vs,E y vs→vs.length=ps.size) (hpN:∀ p∈ps.toList,p < N)
  (hRd:∀ k,Rd k→k < w.heap.size) (S:Nat→Prop) (hS:∀ k,S k→k < w.heap.size∧¬ Rd k)
  (I:List α→World→Prop) (Kr Kx:World→Prop)
  (hI:∀ pre W W',I pre W→Chg (fun k=>w.heap.size≤k) W W'→I pre W')
  (hKr:∀ W W',Kr W→Chg (fun k=>w.heap.size≤k) W W'→Kr W') (hKx:∀ W W',Kx W→Chg (fun k=>w.heap.size≤k) W W'→Kx W')
  (h0:I [] w)
  (hround:∀ pre y vs W l,E y vs→pre++[y] <+: xs→w.heap.size≤l→l < W.heap.size→I pre W →
   fragV P N xA xB assign body l x (fun W2 W'=>Chg S W2 W'∧I (pre++[y]) W') (fun W2 W'=>Chg S W2 W'∧Kr W') (fun W2 W'=>Chg S W2 W'∧Kx W') (updPs ps.toList vs env) W)
  (hn:∀ D W,w.heap.size≤D→D < W.heap.size→W.heap[D]? = some (.deferred (some []))→I xs W→Qn ({ target:=.collected D,args:=#[] } :: ds) W)
  (hr:∀ D W,w.heap.size≤D→D < W.heap.size→W.heap[D]? = some (.deferred (some []))→Kr W→Qr ({ target:=.collected D,args:=#[] } :: ds) W)
  (hx:∀ D W,w.heap.size≤D→D < W.heap.size→W.heap[D]? = some (.deferred (some []))→Kx W→Qx ({ target:=.collected D,args:=#[] } :: ds) W) :
  RFw P none N (.rangeFunc g ps assign body) env ds w x Qn Qr Qx:=by
 intro a ha hd
 refine wpIn_rangeFunc fun fn _=>?_
 let rec0:Loop:={ state:=.ready,pending:=none,fn,tmps:=a.tmps,params:=ps,assign,body,defers:=w.heap.size }
 let w1:World:=(w.alloc (.deferred (some []))).alloc (.loop rec0)
 have hw1:w1.heap.size=w.heap.size + 2:=by simp [w1]
 have hext:Ext w w1:=((Below.refl _ w).alloc (Nat.le_refl _) _).alloc (by simp) _
 have hD1:w1.heap[w.heap.size]? = some (.deferred (some [])):=by
  show ((w.alloc _).alloc _).heap[w.heap.size]? = _
  rw [Below.heap_alloc _ _ _ (by simp),World.alloc_heap_new]
 have hl1:w1.heap[w.heap.size + 1]? = some (.loop rec0):=by
  have:=World.alloc_heap_new (w.alloc (.deferred (some []))) (.loop rec0)
  simpa [w1] using this
 have hgv:a.eval g=.func (.func gf) ⟨[]⟩ ⟨cap⟩:=by rw [ha.ev];exact hg
 refine ⟨w.heap.size + 1,[{ target:=.collected w.heap.size,args:=#[] }],w1,{ target:=.fn (.func gf) ⟨cap⟩,args:=#[.func (.yield (w.heap.size + 1)) #[] #[]] },w1,gf,
  ⟨.func (.yield (w.heap.size + 1)) #[] #[] :: cap⟩,w1,run_enterLoop_outer fn a.tmps ps assign body,?_,fun _ _=>trivial,?_,fun h=>by simp [Fr,Fence.wide] at h,?_⟩
 ·have em:Array.map a.eval #[Operand.const (.func (.yield (w.heap.size + 1)) #[] #[])]=#[.func (.yield (w.heap.size + 1)) #[] #[]]:=by simp [Act.eval]
  simp only [resolve,rangeCall,hgv,Deferred.ofValue,em]
  simp
 ·have e:(#[.func (.yield (w.heap.size + 1)) #[] #[]]:Array Value)++(⟨cap⟩:Array Value)=⟨.func (.yield (w.heap.size + 1)) #[] #[] :: cap⟩:=by apply Array.ext';simp
  simp only [invoke,e]
  exact qfx _ w1 hok
 ·show CallsIn Fence.wide 0 P gf _ w1 _
  refine callsIn_wide.2 ?_
  have stab:∀ {A B:World},Chg (fun k=>w1.heap.size≤k) A B→Chg (fun k=>w.heap.size≤k) A B:=fun h=>h.mono fun k _ hk=>by omega
  refine hit w1 hext (.yield (w.heap.size + 1)) #[] #[] (fun k=>S k∨k=w.heap.size + 1)
   (fun pre W=>I pre W∧W.heap[w.heap.size + 1]? = some (.loop rec0)∧W.heap[w.heap.size]? = some (.deferred (some [])))
   (fun W=>W.heap[w.heap.size]? = some (.deferred (some []))∧((W.heap[w.heap.size + 1]? = some (.loop { rec0 with state:=.done,pending:=some .ret })∧Kr W) ∨
    (W.heap[w.heap.size + 1]? = some (.loop { rec0 with state:=.done,pending:=some (.exit x) })∧Kx W)))
   _ (fun k hk=>hk.elim (fun h=>⟨by have:=(hS k h).1;omega,(hS k h).2⟩) (fun h=>⟨by omega,fun hr=>by have:=hRd k hr;omega⟩)) ?_ ?_ ?_ ⟨hI _ _ _ h0 (.of_ext hext),hl1,hD1⟩ ?_ ?_
  ·rintro pre W W' ⟨h1,h2,h3⟩ hc
   have hlt:=(Array.getElem?_eq_some_iff.1 h2).1
   have hlt':=(Array.getElem?_eq_some_iff.1 h3).1
   exact ⟨hI _ _ _ h1 (stab hc),(hc.block _ hlt (by omega)).trans h2,(hc.block _ hlt' (by omega)).trans h3⟩
  ·rintro W W' ⟨h3,h⟩ hc
   have hlt':=(Array.getElem?_eq_some_iff.1 h3).1
   refine ⟨(hc.block _ hlt' (by omega)).trans h3,?_⟩
   rcases h with ⟨h1,h2⟩ | ⟨h1,h2⟩
   ·exact .inl ⟨(hc.block _ (Array.getElem?_eq_some_iff.1 h1).1 (by omega)).trans h1,hKr _ _ h2 (stab hc)⟩
   ·exact .inr ⟨(hc.block _ (Array.getElem?_eq_some_iff.1 h1).1 (by omega)).trans h1,hKx _ _ h2 (stab hc)⟩
  ·rintro pre y vs W hE hpre hsz ⟨h1,h2,h3⟩
   have hlt:=(Array.getElem?_eq_some_iff.1 h2).1
   have hlt':=(Array.getElem?_eq_some_iff.1 h3).1
   refine ⟨_,_,_,_,run_yield h2 (by simp [rec0,hps y vs hE]),?_⟩
   have hfr:=hround pre y vs W (w.heap.size + 1) hE hpre (by omega) hlt h1
   have hrep:Rep N (updPs ps.toList (vs) env) { tmps:=(ps.toList.zip (vs)).foldl (fun t (p,v)=>t.setIfInBounds p v) a.tmps,defers:=[] } :=
    qtb _ _ _ _ ⟨ha.1,ha.2⟩ hpN
   have ezip:(ps.zip (⟨(#[]:Array Value).toList++vs⟩:Array Value)).foldl (fun t (x:Nat × Value)=>t.setIfInBounds x.1 x.2) a.tmps=(ps.toList.zip (vs)).foldl (fun t (p,v)=>t.setIfInBounds p v) a.tmps:=by
    rw [← Array.foldl_toList]
    simp [Array.toList_zip]
   refine roundIn_of_wpIn (F:=Fence.wide) (l:=w.heap.size + 1) trivial ?_
   show assign.wpIn (Fr (some (w.heap.size + 1))) 0 P _ _ W
   have hva:=qj5 xA assign hfr hrep rfl
   refine wpIn_mono (Eq.mp (by rw [← ezip]) hva) fun e a1 W1 hh=>?_
   obtain ⟨env1,r1,q1,_⟩:=hh
   cases e with
   | normal =>
    obtain ⟨e1,q1⟩:=q1
    have hl':W1.heap[w.heap.size + 1]? = some (.loop rec0):=(e1.block _ hlt).trans h2
    have hD':W1.heap[w.heap.size]? = some (.deferred (some [])):=(e1.block _ hlt').trans h3
    refine ⟨_,run_beginRound hl' rfl,?_⟩
    have hl2:(W1.putObj (w.heap.size + 1) (.loop { rec0 with state:=.busy })).heap[w.heap.size + 1]? = some (.loop { rec0 with state:=.busy }) :=
     World.putObj_heap_same (Array.getElem?_eq_some_iff.1 hl').1
    have hD2:(W1.putObj (w.heap.size + 1) (.loop { rec0 with state:=.busy })).heap[w.heap.size]? = some (.deferred (some [])):=(World.putObj_heap_other (by omega)).trans hD'
    have hq:=q1 _ (Upd.put (w.heap.size + 1) W1 (.loop { rec0 with state:=.busy }))
    have hvb:=qj5 xB body hq r1 rfl
    have hlt1:=(Array.getElem?_eq_some_iff.1 hl').1
    have hWW2:Chg (fun k=>S k∨k=w.heap.size + 1) W (W1.putObj (w.heap.size + 1) (.loop { rec0 with state:=.busy })) :=
     (Chg.of_ext e1).trans (Chg.put _ _ _ (.inr rfl))
    generalize W1.putObj (w.heap.size + 1) (.loop { rec0 with state:=.busy })=W2 at hl2 hD2 hvb hWW2 ⊢
    refine wpIn_mono hvb fun e' a' W' hh'=>?_
    obtain ⟨env2,r2,q2,_⟩:=hh'
    have nS:¬ S (w.heap.size + 1):=fun h=>by have:=(hS _ h).1;omega
    have nS':¬ S w.heap.size:=fun h=>by have:=(hS _ h).1;omega
    have fin:∀ (jump:Option Code) (st:LoopState),Chg S W2 W'→∀ Z,Z=W'.putObj (w.heap.size + 1) (.loop { rec0 with state:=st,pending:=jump }) →
      Chg (fun k=>S k∨k=w.heap.size + 1) W Z∧Z.heap[w.heap.size + 1]? = some (.loop { rec0 with state:=st,pending:=jump })∧Z.heap[w.heap.size]? = some (.deferred (some [])) ∧
      Chg (fun k=>w.heap.size≤k) W' Z:=by
     intro jump st hc Z hZ
     have hl3:=(hc.block _ (Array.getElem?_eq_some_iff.1 hl2).1 nS).trans hl2
     have hD3:=(hc.block _ (Array.getElem?_eq_some_iff.1 hD2).1 nS').trans hD2
     subst hZ
     exact ⟨(hWW2.trans (hc.mono fun k _ h=>.inl h)).trans (Chg.put _ _ _ (.inr rfl)),World.putObj_heap_same (Array.getElem?_eq_some_iff.1 hl3).1,
      (World.putObj_heap_other (by omega)).trans hD3,Chg.put _ _ _ (by omega)⟩
    have hrec:∀ (jump:Option Code),Chg S W2 W'→(Instr.endRound (w.heap.size + 1) jump).run P W'=.ok (.bool jump.isNone) (W'.putObj (w.heap.size + 1) (.loop { rec0 with state:=if jump.isNone then .ready else .done,pending:=jump })):=by
     intro jump hc
     exact run_endRound (r:={ rec0 with state:=.busy }) jump ((hc.block _ (Array.getElem?_eq_some_iff.1 hl2).1 nS).trans hl2)
    cases e' with
    | normal =>
     obtain ⟨hc,hi⟩:=q2
     obtain ⟨f1,f2,f3,f4⟩:=fin none .ready hc _ rfl
     exact ⟨_,_,hrec none hc,f1,.inl ⟨rfl,hI _ _ _ hi f4,f2,f3⟩⟩
    | ret =>
     obtain ⟨hc,hi⟩:=q2
     obtain ⟨f1,f2,f3,f4⟩:=fin (some .ret) .done hc _ rfl
     exact ⟨_,_,hrec (some .ret) hc,f1,.inr ⟨rfl,f3,.inl ⟨f2,hKr _ _ hi f4⟩⟩⟩
    | exit i =>
     simp only [fragQ] at q2
     cases hb:Nat.beq i x <;> rw [hb] at q2
     ·exact q2.elim
     have hix:=Nat.eq_of_beq_eq_true hb
     subst hix
     obtain ⟨hc,hi⟩:=q2
     obtain ⟨f1,f2,f3,f4⟩:=fin (some (.exit i)) .done hc _ rfl
     exact ⟨_,_,hrec (some (.exit i)) hc,f1,.inr ⟨rfl,f3,.inr ⟨f2,hKx _ _ hi f4⟩⟩⟩
    | goto l=>exact q2.elim
    | panic c=>exact q2.elim
    | outgrown=>exact q2.elim
   | exit i=>exact q1.elim
   | ret=>exact q1.elim
   | goto t=>exact q1.elim
   | panic c=>exact q1.elim
   | outgrown=>exact q1.elim
  ·rintro W hsz ⟨h1,h2,h3⟩
   refine ⟨none,_,run_endLoop h2 (by simp [rec0]),?_⟩
   have hlt:=(Array.getElem?_eq_some_iff.1 h2).1
   refine ⟨rfl,?_⟩
   show Qn (_ :: a.defers) _
   rw [hd]
   refine hn w.heap.size _ (Nat.le_refl _) (by simp;omega) ((World.putObj_heap_other (by omega)).trans h3) (hI _ _ _ h1 (Chg.put _ _ _ (by omega)))
  ·rintro W hsz ⟨h3,h⟩
   rcases h with ⟨h1,h2⟩ | ⟨h1,h2⟩
   ·have hlt:=(Array.getElem?_eq_some_iff.1 h1).1
    refine ⟨some .ret,_,run_endLoop h1 (by simp),?_⟩
    refine wpIn_ret ⟨rfl,?_⟩
    show Qr (_ :: a.defers) _
    rw [hd]
    exact hr w.heap.size _ (Nat.le_refl _) (by simp;omega) ((World.putObj_heap_other (by omega)).trans h3) (hKr _ _ h2 (Chg.put _ _ _ (by omega)))
   ·have hlt:=(Array.getElem?_eq_some_iff.1 h1).1
    refine ⟨some (.exit x),_,run_endLoop h1 (by simp),?_⟩
    refine wpIn_exit ⟨rfl,rfl,?_⟩
    show Qx (_ :: a.defers) _
    rw [hd]
    exact hx w.heap.size _ (Nat.le_refl _) (by simp;omega) ((World.putObj_heap_other (by omega)).trans h3) (hKx _ _ h2 (Chg.put _ _ _ (by omega)))
end Go.Sh
namespace Go.Proofs
open Go Go.Sh Go.RowKit Go.Proofs.Tryz IntKind
structure Pl where
 k:Int
 t:List UInt8
 n:Int
 ps:Fo
 d:Nat
 b:Bool
def qo:Fo→Nat→Bool→List Pl
 | .nil,_,_=>[]
 | .cons k t n ps r,d,b=>⟨k,t,n,ps,d,b⟩ :: ((if d≤16 then qo ps (d + 1) false else [])++qo r d (decide (k=1)))
def PlE (T:Nat→Prop) (w0:World) (x:Pl) (vs:List Value):Prop :=
 ∃ a c,vs=[.agg ⟨[.int .i64 x.k,.string ⟨⟨x.t⟩⟩,.int .i64 x.n,.slice a x.ps.len c,.int .i64 (x.d:Int),.bool x.b]⟩]∧SlF T w0 a x.ps.len x.ps
theorem q7o {yf:Fn} {ya yb:Array Value} {S T:Nat→Prop} {J:List Pl→World→Prop} {Jx:World→Prop} {w0:World} {xs:List Pl} {ty tw:Nat}
  (hS:∀ k,S k→k < w0.heap.size∧¬ T k)
  (hJ:∀ pre W W',J pre W→Chg (fun k=>w0.heap.size≤k) W W'→J pre W')
  (hbody:∀ pre x vs W,PlE T w0 x vs→pre++[x] <+: xs→w0.heap.size≤W.heap.size→J pre W→CallV prog (.func yf ya yb) vs W fun e W'=>Chg S W W'∧((e=.returned (.bool true)∧J (pre++[x]) W')∨(e=.returned (.bool false)∧Jx W')))
  (hty:w0.heap.size≤ty) (htw:w0.heap.size≤tw) :
  ∀ (f:Fo) {R:Ending→World→Prop} {w:World} {a:Option Addr} {n c:Nat} (d:Nat) (pre:List Pl),small f→d≤17→SlF T w0 a n f→Chg (fun k=>S k∨w0.heap.size≤k) w0 w→Blk w ty [.func yf ya yb] 302→Blk w tw [.func (.func 239) ⟨[]⟩ ⟨[.pointer (some ⟨ty,0,none⟩),.pointer (some ⟨tw,0,none⟩)]⟩] 303 →
   pre++qo f d false <+: xs→J pre w→(∀ W',Chg S w W'→J (pre++qo f d false) W'→R (.returned (.bool true)) W')→(∀ W',Chg S w W'→Jx W'→R (.returned (.bool false)) W') →
   Calls prog qb8 ⟨[.slice a n c,.int .i64 (d:Int),.pointer (some ⟨ty,0,none⟩),.pointer (some ⟨tw,0,none⟩)]⟩ w R:=by
 intro f
 induction hz:f.size using Nat.strongRecOn generalizing f with
 | _ z ih =>
 intro R w a n c d pre hs hd hf hc0 hBy hBw hpre hj hend hstop
 unfold small at hs
 apply qee
 have hn:=hf.1
 have hfl:=f.len_le_size
 have nS:∀ k,w0.heap.size≤k→¬ S k:=fun k hk h=>by have:=(hS k h).1;omega
 refine ⟨fun tx i W m=>∃ (p r:Fo) (ps:List Pl),f=p.app r∧i=p.len∧m=r.len∧Chg S w W∧J ps W∧pre++qo f d false=ps++qo r d tx,⟨_,.nil,f,pre,rfl,rfl,rfl,Chg.refl _ _,hj,rfl⟩,?_⟩
 rintro b _ W m ⟨p,r,xs',hpr,rfl,rfl,hcW,hjW,heq⟩ _
 refine qc (fun hlt=>?_) (fun hge=>?_)
 ·obtain ⟨k,t,mm,ps,r,rfl⟩:=Fo.next hpr (by omega)
  have hsl:=Fo.sub_len hpr
  have hsz:=Fo.sub_size hpr
  have e1:f=(p.app (.one k t mm ps)).app r:=by rw [Fo.app_one_app];exact hpr
  have i1:i64.wrap ((p.len:Int) + 1)=((p.app (.one k t mm ps)).len:Int):=by rw [qg (by omega)];simp [Fo.one]
  have hc0W:Chg (fun k=>S k∨w0.heap.size≤k) w0 W:=hc0.trans (hcW.mono fun k _ h=>.inl h)
  obtain ⟨q,a',c',hq,hTq,hql,hN0⟩:=hf.get hpr
  have hN:NodeIs T W q k t mm a' c' ps:=by
   have key:∀ j,W.cell? (q.add j)=w0.cell? (q.add j):=fun j=>by
    unfold World.cell?
    have:(q.add j).block=q.block:=by unfold Addr.add;split <;> rfl
    rw [this,hc0W.block _ hql (fun h=>h.elim (fun h=>(hS _ h).2 hTq) (fun h=>by omega))]
   exact ⟨(key 0).trans hN0.kind,(key 1).trans hN0.text,(key 2).trans hN0.num,(key 3).trans hN0.parts,hN0.sl.keep (fun k hk hl=>⟨hk,hc0W.block k hl fun h=>h.elim (fun h=>(hS _ h).2 hk) (fun h=>by omega)⟩) hc0W.size⟩
  refine hq _ ⟨k,hN.kind,t,hN.text,mm,hN.num,a',ps.len,c',hN.parts,?_⟩
  refine qac (by simp) (by intro u hu;simp only [List.mem_cons,List.not_mem_nil,or_false] at hu;rcases hu with rfl | rfl | rfl | rfl <;> rfl) fun bx w1 hbx hBx e2 _=>?_
  have hszW:=hc0W.size
  have hc1:Chg S W w1:=Chg.of_ext e2
  have hcw1:=hcW.trans hc1
  obtain ⟨x0,x1,x2,x3⟩:=blk4 hBx
  have hBy1:=hcw1.blk hBy (nS _ hty)
  have hBw1:=hcw1.blk hBw (nS _ htw)
  refine dr_ok ⟨_,_,_,by rw [hBy1.cell];rfl,k,x0,t,x1,mm,x2,a',ps.len,c',x3,?_⟩
  have hj1:J xs' w1:=hJ _ _ _ hjW (Chg.of_ext e2)
  rw [qo] at heq
  have hpx:xs'++[⟨k,t,mm,ps,d,b⟩] <+: xs:=by
   refine List.IsPrefix.trans ?_ hpre
   rw [heq]
   exact ⟨_,by rw [List.append_assoc];rfl⟩
  refine qch (hbody xs' ⟨k,t,mm,ps,d,b⟩ _ w1 ⟨a',c',rfl,hN0.sl⟩ hpx (by have:=hc1.size;omega) hj1) ?_
  rintro e w2 ⟨hc2,⟨rfl,hj2⟩ | ⟨rfl,hjx⟩⟩
  ·refine ⟨true,rfl,?_⟩
   have hcw2:=hcw1.trans hc2
   have hBx2:=hc2.blk hBx (nS _ (by omega))
   obtain ⟨y0,y1,y2,y3⟩:=blk4 hBx2
   refine qc (fun hd16=>?_) (fun hd16=>?_)
   ·have hd16':d≤16:=by omega
    rw [if_pos hd16'] at heq
    have hBw2:=hcw2.blk hBw (nS _ htw)
    have hBy2:=hcw2.blk hBy (nS _ hty)
    refine dr_ok ⟨.func 239,⟨[]⟩,⟨[.pointer (some ⟨ty,0,none⟩),.pointer (some ⟨tw,0,none⟩)]⟩,by rw [hBw2.cell];rfl,a',ps.len,c',y3,by kernel_rfl,?_⟩
    rw [qg (by omega)]
    refine ih _ (hz ▸ hsz) ps rfl (d + 1) (xs'++[⟨k,t,mm,ps,d,b⟩]) (by unfold small;omega) (by omega) hN0.sl (hc0.trans (hcw2.mono fun k _ h=>.inl h)) hBy2 hBw2 ?_ hj2 (fun w3 hc3 hj3=>?_) (fun w3 hc3 hjx=>?_)
    ·refine List.IsPrefix.trans ?_ hpre
     rw [heq]
     exact ⟨qo r d (decide (k=1)),by simp⟩
    ·refine ⟨true,rfl,?_⟩
     have hBx3:=hc3.blk hBx2 (nS _ (by omega))
     refine ⟨k,(blk4 hBx3).1,r.len,by simp,_,r,_,e1,i1,rfl,hcw2.trans hc3,hj3,?_⟩
     rw [heq];simp
    ·exact ⟨false,rfl,hstop _ (hcw2.trans hc3) hjx⟩
   ·rw [if_neg (by omega)] at heq
    refine ⟨k,y0,r.len,by simp,_,r,_,e1,i1,rfl,hcw2,hj2,?_⟩
    rw [heq];simp
  ·exact ⟨false,rfl,hstop _ (hcw1.trans hc2) hjx⟩
 ·obtain ⟨rfl,rfl⟩:=Fo.last hpr (by omega)
  have e:xs'=pre++qo p d false:=by rw [heq];simp [qo]
  rw [e] at hjW
  exact hend _ hcW hjW
theorem qzu {T:Nat→Prop} (f:Fo) (hs:small f) {a:Option Addr} {n c:Nat} (b:Nat) (w:World) (hb:Blk w b [.slice a n c] 224) (hf:SlF T w a n f) (hbT:T b) :
  IterR prog qt [.pointer (some ⟨b,0,none⟩)] (qo f 0 false) (PlE T w) T w:=by
 intro yf ya yb S J Jx R hS hJ hJx hbody h0 hend hstop
 apply qfy
 refine qd fun ty w1 hty hBy e1 s1=>?_
 refine qd fun tw w1' htw hBw' e2' s2'=>?_
 refine qam hBw' rfl fun w2 hBw hcc hss=>?_
 have e2:Ext w1 w2:=qi e2' hcc fun k hk=>by omega
 have E:=qa e1 e2
 refine ⟨.func 239,⟨[]⟩,⟨[.pointer (some ⟨ty,0,none⟩),.pointer (some ⟨tw,0,none⟩)]⟩,by rw [hBw.cell];rfl,dr_ok ⟨a,n,c,by rw [((hb.ext e1).ext e2).cell];rfl,by kernel_rfl,?_⟩⟩
 have hz:=E.size
 have hz1:=e1.size
 have hch:Chg (fun k=>w.heap.size≤k) w w2:=Chg.of_ext E
 refine q7o (w0:=w) (xs:=qo f 0 false) hS hJ hbody (by omega) (by omega) f 0 [] hs (by omega) hf (Chg.of_ext E) (hBy.ext e2) hBw (List.prefix_refl _) (hJ _ _ _ h0 hch) (fun W' hc hj=>?_) (fun W' hc hjx=>?_)
 ·exact ⟨_,rfl,hend _ (Nat.le_trans hz hc.size) hj⟩
 ·exact ⟨_,rfl,hstop _ (Nat.le_trans hz hc.size) hjx⟩
theorem qqr {R:Ending→World→Prop} {w:World} {a:Option Addr} {n c:Nat}
  (h:∀ b w',Blk w' b [.slice a n c] 224→Ext w w'→b=w.heap.size→R (.returned (.func (.func qt) ⟨[]⟩ ⟨[.pointer (some ⟨b,0,none⟩)]⟩)) w') :
  Calls prog qhf ⟨[.slice a n c]⟩ w R:=by
 apply qq3
 refine qd fun b w' hb h1 h2 h3=>?_
 exact h b w' h1 h2 hb
theorem qgx {R:Ending→World→Prop} {w:World} (hF:Forms w) (k:Int) (t:List UInt8) (n:Int) (a:Option Addr) (c:Nat) (ps:Fo) (hok:q87 k t n ps)
  (h:∀ w',Ext w w'→R (.returned (.string ⟨⟨valF k t n⟩⟩)) w'):Calls prog qh6 ⟨[.agg ⟨[.int .i64 k,.string ⟨⟨t⟩⟩,.int .i64 n,.slice a ps.len c]⟩]⟩ w R:=by
 apply qtk
 refine qd fun b w1 hb hB e1 s1=>?_
 obtain ⟨x0,x1,x2,x3⟩:=blk4 hB
 obtain ⟨q,hq,f0,f1,f2,f3⟩:=(hF.ext e1).get hok.1 hok.2.1
 refine ⟨k,x0,hq _ ⟨_,f0,_,f1,_,f2,_,f3,?_⟩⟩
 refine qac (by simp) (by intro u hu;simp only [List.mem_cons,List.not_mem_nil,or_false] at hu;rcases hu with rfl | rfl | rfl | rfl <;> rfl) fun b2 v hb2 hB2 e2 s2=>?_
 have E:=qa e1 e2
 have F:∀ j,v.cell? ((⟨b2,0,none⟩:Addr).add j)=[Value.string ⟨⟨tagF k⟩⟩,.bool (qd5 k),.bool (numsF k),.bool (qao k)][j]?:=fun j=>by rw [qe,hB2.cell];simp
 obtain ⟨y0,y1,y2,y3⟩:=blk4 (hB.ext e2)
 have hl:=hok.2.2.2.1
 refine ⟨_,F 1,qh (fun g=>⟨t,y1,by simp;omega,?_⟩) (fun g=>⟨_,F 2,qh (fun g2=>⟨n,y2,?_⟩) (fun g2=>?_)⟩)⟩
 ·have e:valF k t n=[32]++t:=by unfold valF;rw [g];rfl
  rw [e] at h;exact h _ E
 ·have hr:=hok.2.2.1 g2
  have e:valF k t n=[32]++Lib.decDigits n.toNat:=by unfold valF;rw [g,g2];rfl
  rw [e] at h
  have hdl:=qc0 n.toNat (by omega)
  have hmm:n=((n.toNat:Nat):Int):=by omega
  rw [hmm]
  refine (Tryz.strconv_Itoa_small n.toNat (by omega) _).mono ?_
  rintro _ _ ⟨rfl,rfl⟩
  exact ⟨_,rfl,by simp;omega,h _ E⟩
 ·have e:valF k t n=[]:=by unfold valF;rw [g,g2];rfl
  rw [e] at h;exact h _ E
theorem qb3 {S S':Nat→Prop} {A B C:World} (h:Chg S A B) (k:Chg S' B C) (hs:∀ i,i < A.heap.size→S' i→S i):Chg S A C :=
 ⟨k.os.trans h.os,k.tape.trans h.tape,k.output.trans h.output,Nat.le_trans h.size k.size,fun i hi hn=>(k.block i (Nat.lt_of_lt_of_le hi h.size) (fun hh=>hn (hs i hi hh))).trans (h.block i hi hn)⟩
theorem NodeIs.chg {S T:Nat→Prop} {w w':World} {q:Addr} {k:Int} {t:List UInt8} {n:Int} {a:Option Addr} {c:Nat} {ps:Fo} (h:NodeIs S w q k t n a c ps) (hl:q.block < w.heap.size) (hq:S q.block) (he:Chg T w w') (hd:∀ k,S k→¬ T k):NodeIs S w' q k t n a c ps:=by
 have key:∀ j,w'.cell? (q.add j)=w.cell? (q.add j):=fun j=>by
  unfold World.cell?
  have:(q.add j).block=q.block:=by unfold Addr.add;split <;> rfl
  rw [this,he.block _ hl (hd _ hq)]
 exact ⟨(key 0).trans h.kind,(key 1).trans h.text,(key 2).trans h.num,(key 3).trans h.parts,h.sl.chg he hd⟩
theorem q99 {b tw:Nat}:∀ (f:Fo) {R:Ending→World→Prop} {S:Nat→Prop} {w:World} {a:Option Addr} {n c:Nat} {bo:Option Addr} {acc:List UInt8},f.size≤1000000→good f→SlF S w a n f→Forms w→qj < b→BldAt w b bo acc →
  (∀ k,S k→k≠b∧¬ bk bo k)→Blk w tw [.func (.func 240) ⟨[]⟩ ⟨[.pointer (some ⟨b,0,none⟩),.pointer (some ⟨tw,0,none⟩)]⟩] 307→tw≠b→¬ bk bo tw→acc.length + 65600 * f.size≤100000000000 →
  (∀ bo' w',BldAt w' b bo' (acc++qbo f)→(∀ k,bk bo' k→bk bo k∨w.heap.size≤k)→Chg (fun k=>k=b∨bk bo k) w w'→R (.returned (.tuple ⟨[]⟩)) w') →
  Calls prog qf7 ⟨[.slice a n c,.pointer (some ⟨b,0,none⟩),.pointer (some ⟨tw,0,none⟩)]⟩ w R:=by
 intro f
 induction hz:f.size using Nat.strongRecOn generalizing f with
 | _ z ih =>
 intro R S w a n c bo acc hs hg hf0 hF hb0 hbld hSd0 hBw htwb htwo hacc h
 apply qm9
 have hn:=hf0.1
 have hfl:=f.len_le_size
 have hf:SlF (fun k=>S k∧k < w.heap.size) w a n f:=hf0.imp fun k hk hl=>⟨hk,hl⟩
 have hblt:=hbld.lt
 have htlt:=hBw.lt
 refine ⟨fun i W m=>∃ (p r:Fo) (bo1:Option Addr),f=p.app r∧i=p.len∧m=r.len∧BldAt W b bo1 (acc++qbo p)∧(∀ k,bk bo1 k→bk bo k∨w.heap.size≤k)∧Chg (fun k=>k=b∨bk bo k) w W,
  ⟨_,.nil,f,bo,rfl,rfl,rfl,by simpa [qbo] using hbld,fun k hk=>.inl hk,Chg.refl _ _⟩,?_⟩
 rintro _ W m ⟨p,r,bo1,hpr,rfl,rfl,hbW,hbk1,hcW⟩ _
 refine qc (fun hlt=>?_) (fun hge=>?_)
 ·obtain ⟨k,t,mm,ps,r,rfl⟩:=Fo.next hpr (by omega)
  have hsl:=Fo.sub_len hpr
  have hsz:f.size=p.size + (ps.size + r.size + 1):=by rw [hpr,Fo.size_app];rfl
  have hgg:=hg
  rw [hpr,good_app] at hgg
  obtain ⟨hgp,hok,hgs,hgr⟩:=hgg
  have l1:=qn3 p hgp
  have l2:=qn3 ps hgs
  have l3:=q3e hok.1 hok.2.1
  have l4:=q8s hok
  have l5:=hok.2.2.2.1
  have e1:f=(p.app (.one k t mm ps)).app r:=by rw [Fo.app_one_app];exact hpr
  have i1:i64.wrap ((p.len:Int) + 1)=((p.app (.one k t mm ps)).len:Int):=by rw [qg (by omega)];simp [Fo.one]
  have p1:qbo (p.app (.one k t mm ps))=qbo p++nodeF k t mm (qbo ps):=by rw [printF_app];simp [Fo.one,qbo]
  have hSd:∀ k,(S k∧k < w.heap.size)→¬ (k=b∨bk bo k):=fun k hk hh=>hh.elim (hSd0 k hk.1).1 (hSd0 k hk.1).2
  obtain ⟨q,a',c',hq,hSq,hql,hN⟩:=(hf.chg hcW hSd).get hpr
  refine hq _ ⟨k,hN.kind,t,hN.text,mm,hN.num,a',ps.len,c',hN.parts,?_⟩
  refine qac (by simp) (by intro u hu;simp only [List.mem_cons,List.not_mem_nil,or_false] at hu;rcases hu with rfl | rfl | rfl | rfl <;> rfl) fun bx w1 hbx hBx e2 s2=>?_
  obtain ⟨x0,x1,x2,x3⟩:=blk4 hBx
  have hbS:∀ k,bk bo k→b < k∧k < w.heap.size:=fun k hk=>hbld.bk hk
  have n0:¬ (qj=b∨bk bo qj):=fun hh=>hh.elim (fun h=>by omega) (fun h=>by have:=(hbS _ h).1;omega)
  have hFW:=hF.chg hcW n0
  obtain ⟨qf,hqf,f0,f1,f2,f3⟩:=(hFW.ext e2).get hok.1 hok.2.1
  refine ⟨k,x0,hqf _ ⟨_,f0,_,f1,_,f2,_,f3,?_⟩⟩
  refine qac (by simp) (by intro u hu;simp only [List.mem_cons,List.not_mem_nil,or_false] at hu;rcases hu with rfl | rfl | rfl | rfl <;> rfl) fun bf w2 hbf hBf e3 s3=>?_
  have E:=qa e2 e3
  have hwW:=hcW.size
  have hEz:=E.size
  have FF:∀ {v:World},Blk v bf [Value.string ⟨⟨tagF k⟩⟩,.bool (qd5 k),.bool (numsF k),.bool (qao k)] 305→∀ j,v.cell? ((⟨bf,0,none⟩:Addr).add j)=[Value.string ⟨⟨tagF k⟩⟩,.bool (qd5 k),.bool (numsF k),.bool (qao k)][j]?:=fun hB j=>by rw [qe,hB.cell];simp
  have hX2:=hBx.ext e3
  obtain ⟨y0,y1,y2,y3⟩:=blk4 hX2
  have hF2:=hFW.ext E
  have hb2:=hbW.ext E
  have hc2:Chg (fun k=>k=b∨bk bo k) w w2:=hcW.trans (Chg.of_ext E)
  have hbW1:∀ k,bk bo1 k→k < W.heap.size:=fun k hk=>(hbW.bk hk).2
  refine ⟨k,y0,qc (fun hk1=>?_) (fun hk1=>?_)⟩
  ·refine ⟨t,y1,qge hb2 (by simp;omega) fun bo3 w3 hb3 hk3 hc3=>⟨_,_,rfl,r.len,by simp,_,r,bo3,e1,i1,rfl,?_,?_,?_⟩⟩
   ·rw [p1,nodeF,if_pos hk1,← List.append_assoc];exact hb3
   ·exact fun j hj=>(hk3 j hj).elim (fun h=>hbk1 j h) (fun h=>.inr (by omega))
   ·exact qb3 hc2 hc3 fun j hj hh=>hh.imp id fun h=>(hbk1 j h).elim id fun h=>by omega
  -- the writing of the tag
  have tagW:∀ {R':Ending→World→Prop} {v:World} (s:List UInt8),Ext w2 v→s.length≤65600 →
    (∀ bo3 w3,BldAt w3 b bo3 (acc++qbo p++s)→(∀ j,bk bo3 j→bk bo1 j∨w2.heap.size≤j)→Chg (fun j=>j=b∨bk bo1 j) w2 w3→R' (.returned (.tuple ⟨[.int .i64 s.length,.nilIface]⟩)) w3) →
    Calls prog 87 ⟨[.pointer (some ⟨b,0,none⟩),.string ⟨⟨s⟩⟩]⟩ v R':=by
   intro R' v s he hl hh
   refine qge (hb2.ext he) (by simp;omega) fun bo3 w3 hb3 hk3 hc3=>hh bo3 w3 hb3 (fun j hj=>(hk3 j hj).imp id fun h=>by have:=he.size;omega) ?_
   exact (Chg.of_ext he).trans hc3
  refine ⟨qao k,FF hBf 3,qh (fun hp=>?_) (fun hp=>?_)⟩
  ·intro K34 hK34
   have k34:∀ bo3 w3,BldAt w3 b bo3 (acc++qbo p++([60]++tagF k++valF k t mm++[62]))→(∀ j,bk bo3 j→bk bo1 j∨w2.heap.size≤j)→Chg (fun j=>j=b∨bk bo1 j) w2 w3→K34 w3:=by
    intro bo3 w3 hb3 hk3 hc3
    have nb:∀ {j:Nat},b < j→W.heap.size≤j→¬ (j=b∨bk bo1 j):=fun hj1 hj2 hh=>hh.elim (fun h=>by omega) (fun h=>by have:=hbW1 _ h;omega)
    have hX3:=hc3.blk hX2 (nb (by omega) (by omega))
    have hBf3:=hc3.blk hBf (nb (by omega) (by omega))
    have hc03:Chg (fun k=>k=b∨bk bo k) w w3:=qb3 hc2 hc3 fun j hj hh=>hh.imp id fun h=>(hbk1 j h).elim id fun h=>by omega
    have hBw3:=hc03.blk hBw (fun hh=>hh.elim htwb htwo)
    have bo3bo:∀ j,bk bo3 j→bk bo j∨w.heap.size≤j:=fun j hj=>(hk3 j hj).elim (fun h=>hbk1 j h) (fun h=>.inr (by omega))
    have hz3:=hc3.size
    refine hK34 _ fun _=>dr_ok ⟨.func 240,⟨[]⟩,⟨[.pointer (some ⟨b,0,none⟩),.pointer (some ⟨tw,0,none⟩)]⟩,by rw [hBw3.cell];rfl,a',ps.len,c',(blk4 hX3).2.2.2,by kernel_rfl,?_⟩
    have lens:((acc++qbo p++([60]++tagF k++valF k t mm++[62])).length)≤acc.length + 65600 * p.size + 65600:=by
     simp only [List.length_append,List.length_cons,List.length_nil];omega
    refine ih _ (hz ▸ Fo.sub_size hpr) ps rfl (S:=fun k=>S k∧k < w.heap.size) (by omega) hgs ((hN.sl.ext E).chg hc3 fun j hj hh=>hh.elim (hSd0 j hj.1).1 fun h=>(hbk1 j h).elim (hSd0 j hj.1).2 fun h=>by have:=hj.2;omega) (hF.chg hc03 n0) hb0 hb3 ?_ hBw3 htwb ?_ (by omega) fun bo4 w4 hb4 hk4 hc4=>⟨rfl,?_⟩
    ·exact fun j hj=>⟨(hSd0 j hj.1).1,fun hh=>(bo3bo j hh).elim (hSd0 j hj.1).2 fun h=>by have:=hj.2;omega⟩
    ·exact fun hh=>(bo3bo _ hh).elim htwo fun h=>by omega
    have nb3:¬ (bf=b∨bk bo3 bf):=fun hh=>hh.elim (fun h=>by omega) (fun h=>(hk3 _ h).elim (fun h=>by have:=hbW1 _ h;omega) (fun h=>by omega))
    have hBf4:=hc4.blk hBf3 nb3
    have hc04:Chg (fun k=>k=b∨bk bo k) w w4:=qb3 hc03 hc4 fun j hj hh=>hh.imp id fun h=>(bo3bo j h).elim id fun h=>by omega
    refine ⟨tagF k,FF hBf4 0,by simp;omega,by simp;omega,?_⟩
    refine qge hb4 (by simp only [List.length_append,List.length_cons,List.length_nil] at lens ⊢;omega) fun bo5 w5 hb5 hk5 hc5=>⟨_,_,rfl,r.len,by simp,_,r,bo5,e1,i1,rfl,?_,?_,?_⟩
    ·rw [p1,nodeF,if_neg hk1,if_pos hp]
     simpa using hb5
    ·exact fun j hj=>(hk5 j hj).elim (fun h=>(hk4 j h).elim (fun h=>bo3bo j h) fun h=>.inr (by omega)) (fun h=>.inr (by have:=hc4.size;omega))
    ·exact qb3 hc04 hc5 fun j hj hh=>hh.imp id fun h=>(hk4 j h).elim (fun h=>(bo3bo j h).elim id fun h=>by omega) fun h=>by omega
   have hdr:=qn w2
   obtain ⟨d0,d1,d2,d3⟩:=blk4 (hX2.ext hdr)
   have Fd:=FF (hBf.ext hdr)
   unfold drw
   have L:([60]++tagF k++valF k t mm++[62]).length≤65600:=by simp;omega
   refine ⟨⟨tagF k,Fd 0,by simp;omega,k,d0,t,d1,mm,d2,a',ps.len,c',d3,?_,trivial⟩,⟨k,d0,t,d1,mm,d2,a',ps.len,c',d3,⟨tagF k,Fd 0,by simp;omega,?_,trivial⟩,?_,trivial⟩,trivial⟩
   ·exact qgx (hF2.ext hdr) k t mm a' c' ps hok fun v he=>⟨_,rfl,by simp;omega,by simp;omega,tagW _ (qa hdr he) L fun bo3 w3 h1 h2 h3=>⟨_,_,rfl,k34 bo3 w3 h1 h2 h3⟩,trivial⟩
   ·exact qgx (hF2.ext hdr) k t mm a' c' ps hok fun v he=>⟨_,rfl,by simp;omega,by simp;omega,tagW _ (qa hdr he) L fun bo3 w3 h1 h2 h3=>⟨_,_,rfl,k34 bo3 w3 h1 h2 h3⟩,trivial⟩
   ·exact qgx (hF2.ext hdr) k t mm a' c' ps hok fun v he=>⟨_,rfl,tagF k,FF (hBf.ext (qa hdr he)) 0,by simp;omega,by simp;omega,by simp;omega,tagW _ (qa hdr he) L fun bo3 w3 h1 h2 h3=>⟨_,_,rfl,k34 bo3 w3 h1 h2 h3⟩,trivial⟩
  ·have fin:∀ bo3 w3,BldAt w3 b bo3 (acc++qbo p++([60]++tagF k++valF k t mm++[47,62]))→(∀ j,bk bo3 j→bk bo1 j∨w2.heap.size≤j)→Chg (fun j=>j=b∨bk bo1 j) w2 w3 →
     ∃ m107,m107 < (Fo.cons k t mm ps r).len∧∃ (p' r':Fo) (bo1':Option Addr),f=p'.app r'∧i64.wrap ((p.len:Int) + 1)=p'.len∧m107=r'.len∧BldAt w3 b bo1' (acc++qbo p')∧(∀ k,bk bo1' k→bk bo k∨w.heap.size≤k)∧Chg (fun k=>k=b∨bk bo k) w w3:=by
    intro bo3 w3 hb3 hk3 hc3
    refine ⟨r.len,by simp,_,r,bo3,e1,i1,rfl,?_,?_,?_⟩
    ·rw [p1,nodeF,if_neg hk1,if_neg (by simp [hp]),← List.append_assoc];exact hb3
    ·exact fun j hj=>(hk3 j hj).elim (fun h=>hbk1 j h) (fun h=>.inr (by omega))
    ·exact qb3 hc2 hc3 fun j hj hh=>hh.imp id fun h=>(hbk1 j h).elim id fun h=>by omega
   have hdr:=qn w2
   obtain ⟨d0,d1,d2,d3⟩:=blk4 (hX2.ext hdr)
   have Fd:=FF (hBf.ext hdr)
   unfold drw
   have L:([60]++tagF k++valF k t mm++[47,62]).length≤65600:=by simp;omega
   refine ⟨⟨tagF k,Fd 0,by simp;omega,k,d0,t,d1,mm,d2,a',ps.len,c',d3,?_,trivial⟩,⟨k,d0,t,d1,mm,d2,a',ps.len,c',d3,⟨tagF k,Fd 0,by simp;omega,?_,trivial⟩,?_,trivial⟩,trivial⟩
   ·exact qgx (hF2.ext hdr) k t mm a' c' ps hok fun v he=>⟨_,rfl,by simp;omega,by simp;omega,tagW _ (qa hdr he) L fun bo3 w3 h1 h2 h3=>⟨_,_,rfl,fin bo3 w3 h1 h2 h3⟩,trivial⟩
   ·exact qgx (hF2.ext hdr) k t mm a' c' ps hok fun v he=>⟨_,rfl,by simp;omega,by simp;omega,tagW _ (qa hdr he) L fun bo3 w3 h1 h2 h3=>⟨_,_,rfl,fin bo3 w3 h1 h2 h3⟩,trivial⟩
   ·exact qgx (hF2.ext hdr) k t mm a' c' ps hok fun v he=>⟨_,rfl,tagF k,FF (hBf.ext (qa hdr he)) 0,by simp;omega,by simp;omega,by simp;omega,tagW _ (qa hdr he) L fun bo3 w3 h1 h2 h3=>⟨_,_,rfl,fin bo3 w3 h1 h2 h3⟩,trivial⟩
 ·obtain ⟨rfl,rfl⟩:=Fo.last hpr (by omega)
  exact h bo1 W hbW hbk1 hcW
end Go.Proofs
namespace Go.Sh
open Go Go.RowKit
section
variable {S S':Nat→Prop} {w w':World}
theorem At.keep' {a:Option Addr} {us:List Value} (h:At S w a us) (hs:∀ k,S k→k < w.heap.size→S' k∧k < w'.heap.size∧w'.heap[k]? = w.heap[k]?):At S' w' a us:=by
 rcases h with h | ⟨b,o,rfl,hb,hl,hc⟩
 ·exact .inl h
 ·obtain ⟨h1,h3,h2⟩:=hs b hb hl
  refine .inr ⟨b,o,rfl,h1,h3,fun j v hj=>?_⟩
  have:=hc j v hj
  unfold World.cell? at this ⊢
  rw [h2];exact this
theorem FoC.keep' (hs:∀ k,S k→k < w.heap.size→S' k∧k < w'.heap.size∧w'.heap[k]? = w.heap[k]?):∀ {f:Fo} {vs:List Value},FoC S w f vs→FoC S' w' f vs
 | .nil,vs,h=>h
 | .cons k t n ps r,vs,⟨a,c,us,vs',e,h1,h2,h3⟩=>⟨a,c,us,vs',e,h1.keep' hs,FoC.keep' hs h2,FoC.keep' hs h3⟩
theorem SlF.keep' {a:Option Addr} {n:Nat} {f:Fo} (h:SlF S w a n f) (hs:∀ k,S k→k < w.heap.size→S' k∧k < w'.heap.size∧w'.heap[k]? = w.heap[k]?):SlF S' w' a n f:=by
 obtain ⟨h1,us,h2,h3⟩:=h
 exact ⟨h1,us,h2.keep' hs,h3.keep' hs⟩
end
theorem IterR.mono {α:Type} {P:Program} {gf:FuncId} {cap:List Value} {xs:List α} {E E':α→List Value→Prop} {Rd:Nat→Prop} {w:World} (h:IterR P gf cap xs E Rd w) (hE:∀ x vs,E x vs→E' x vs):IterR P gf cap xs E' Rd w :=
 fun yf ya yb S J Jx R hS hJ hJx hbody h0 h1 h2=>h yf ya yb S J Jx R hS hJ hJx (fun pre x vs W he=>hbody pre x vs W (hE _ _ he)) h0 h1 h2
end Go.Sh
namespace Go.Proofs
open Go Go.Sh Go.RowKit Go.Proofs.Tryz IntKind
theorem q7s {R:Ending→World→Prop} {S:Nat→Prop} {w:World} {a:Option Addr} {n c:Nat} (f:Fo) (hs:f.size≤1000000) (hg:good f) (hf:SlF S w a n f) (hF:Forms w)
  (h:∀ w',Ext w w'→R (.returned (.string ⟨⟨qbo f⟩⟩)) w'):Calls prog qhg ⟨[.slice a n c]⟩ w R:=by
 apply qq4
 refine qd fun b w1 hb hB e1 s1=>?_
 refine qd fun tw w2 htw hBw e2 s2=>?_
 refine qam hBw rfl fun w3 hBw3 hc3 hs3=>?_
 have E2:=qa e1 e2
 have E3:Ext w w3:=qi E2 hc3 fun k hk=>by omega
 refine ⟨.func 240,⟨[]⟩,⟨[.pointer (some ⟨b,0,none⟩),.pointer (some ⟨tw,0,none⟩)]⟩,by rw [hBw3.cell];rfl,by kernel_rfl,?_⟩
 have hbld:BldAt w3 b none []:=⟨.pointer none,0,hc3.blk (hB.ext e2) (by omega),.inl rfl,Owns.nil _ _ _ _⟩
 have hw:=hF.1
 refine q99 f (S:=fun k=>S k∧k < w.heap.size) (acc:=[]) hs hg ((hf.imp fun k hk hl=>⟨hk,hl⟩).ext E3) (hF.ext E3) (by omega) hbld (fun k hk=>⟨by omega,by simp [bk]⟩) hBw3 (by omega) (by simp [bk]) (by simp;omega) fun bo w4 hb4 hk4 hc4=>⟨rfl,?_⟩
 refine q8b hb4 fun w5 hbel=>⟨_,rfl,?_⟩
 have E4:Ext w w4:=qi E3 hc4 fun k hk=>hk.elim (fun h=>by omega) (fun h=>by simp [bk] at h)
 exact h w5 (E4.trans (hbel.mono (by omega)))
theorem qki:∀ (f:Fo) (d:Nat) (b:Bool),(qo f d b).length≤f.size
 | .nil,_,_=>by simp [qo,Fo.size]
 | .cons k t n ps r,d,b=>by
  have h1:=qki ps (d + 1) false
  have h2:=qki r d (decide (k=1))
  simp only [qo,Fo.size,List.length_cons,List.length_append]
  split
  ·omega
  ·simp;omega
theorem qmq:∀ (f:Fo) (d:Nat) (b:Bool),∀ x∈qo f d b,0 < x.ps.len→x.d + 1≤d + f.depth
 | .nil,_,_,x,hx,_=>by simp [qo] at hx
 | .cons k t n ps r,d,b,x,hx,hp=>by
  rw [Fo.depth_parts]
  simp only [qo,List.mem_cons,List.mem_append] at hx
  rcases hx with rfl | hx | hx
  ·simp only at hp ⊢
   rw [if_neg (by omega)];omega
  ·split at hx
   ·have:=qmq ps (d + 1) false x hx hp
    have:ps.len≠0:=fun e=>by
     have e':=Fo.eq_nil_of_len e
     subst e'
     simp [qo] at hx
    rw [if_neg this];omega
   ·simp at hx
  ·have:=qmq r d _ x hx hp
   omega
theorem qqs:∀ (f:Fo) (d:Nat) (b:Bool),d≤16→(∀ x∈qo f d b,¬ (16≤x.d∧0 < x.ps.len))→(qo f d b).length=f.size∧f.depth + d≤16
 | .nil,_,_,hd,_=>⟨rfl,by simp [Fo.depth];omega⟩
 | .cons k t n ps r,d,b,hd,h=>by
  rw [Fo.depth_parts]
  simp only [qo,if_pos hd] at h ⊢
  have h1:¬ (16≤d∧0 < ps.len):=h ⟨k,t,n,ps,d,b⟩ (by simp)
  have i2:=qqs r d (decide (k=1)) hd fun x hx=>h x (by simp [hx])
  by_cases hp:ps.len=0
  ·have e':=Fo.eq_nil_of_len hp
   subst e'
   simp only [qo,List.nil_append,List.length_cons,Fo.size,Fo.len_nil,if_true]
   omega
  ·have i1:=qqs ps (d + 1) false (by omega) fun x hx=>h x (by simp [hx])
   rw [if_neg hp]
   simp only [List.length_cons,List.length_append,Fo.size]
   omega
def errP (x:Pl):Int:=qaf x.k x.t x.n x.ps x.b (decide (0 < x.d))
def errs:List Pl→Int
 | []=>0
 | x :: l=>if errP x≠0 then errP x else errs l
theorem qy3 (l m:List Pl):errs (l++m)=if errs l≠0 then errs l else errs m:=by
 induction l with
 | nil=>simp [errs]
 | cons x l ih =>
  simp only [List.cons_append,errs,ih]
  by_cases h:errP x≠0
  ·simp [h]
  ·simp [h]
theorem qqv:∀ (f:Fo) (d:Nat) (b:Bool),f.depth + d≤16→errs (qo f d b)=allF f b (decide (0 < d))
 | .nil,_,_,_=>rfl
 | .cons k t n ps r,d,b,h=>by
  rw [Fo.depth_parts] at h
  have i2:=qqv r d (decide (k=1)) (by omega)
  simp only [qo,allF]
  rw [if_pos (by omega)]
  simp only [errs,qy3,i2]
  by_cases hp:ps.len=0
  ·have e':=Fo.eq_nil_of_len hp
   subst e'
   simp only [qo,errs,allF];rfl
  ·rw [if_neg hp] at h
   rw [qqv ps (d + 1) false (by omega)]
   simp only [Nat.zero_lt_succ,decide_true]
   rfl
theorem errs_stop {pre l:List Pl} {x:Pl} (h:pre++[x] <+: l) (hp:errs pre=0) (hx:errP x≠0):errs l=errP x:=by
 obtain ⟨t,rfl⟩:=h
 rw [qy3,qy3,hp]
 simp [errs,hx]
theorem spend_spec {R:Ending→World→Prop} {W:World} {b4:Nat} {x:Int} (hb:Blk W b4 [.int .i64 x] 3) (hx:-9223372036854775807≤x∧x≤9223372036854775807)
  (h:∀ W',Blk W' b4 [.int .i64 (x - 1)] 3→Chg (· = b4) W W'→R (.returned (.bool (decide (0≤x - 1)))) W'):Calls prog qgl ⟨[.pointer (some ⟨b4,0,none⟩)]⟩ W R:=by
 apply qow
 refine dr_ok ⟨x,hb.cell 0,dr_ok ?_⟩
 rw [qai (by omega)]
 exact qam hb rfl fun W' h1 h2 h3=>dr_ok ⟨x - 1,h1.cell 0,h W' h1 h2⟩
def thirdQ (a:Option Addr) (n c b2:Nat) (R:Ending→World→Prop) (ds:List Deferred) (W':World):Prop :=
 Calls prog 221 ⟨[.slice a n c]⟩ W' fun (e39:Ending) (w40:World) =>
 ∃ (x41:List UInt8),e39=.returned (.string ⟨⟨x41⟩⟩)∧(br (decide ((65536:Int) < ((List.length x41:Int)))) (stL w40 (⟨b2,0,none⟩:Addr) 0 [.int .i64 4] fun w42 =>
 retD ds w42 fun w43 =>
 ∃ (x44:Int),World.cell? w43 (⟨b2,0,none⟩:Addr)=some (.int .i64 x44)∧(R (.returned (.int .i64 x44)) w43)) (stL w40 (⟨b2,0,none⟩:Addr) 0 [.int .i64 0] fun w45 =>
 retD ds w45 fun w46 =>
 ∃ (x47:Int),World.cell? w46 (⟨b2,0,none⟩:Addr)=some (.int .i64 x47)∧(R (.returned (.int .i64 x47)) w46)))
def secondQ (a:Option Addr) (n c b2:Nat) (R:Ending→World→Prop) (ds:List Deferred) (W:World):Prop :=
 Calls prog 219 ⟨[.slice a n c]⟩ W fun (e33:Ending) (w34:World) =>
 ∃ (x35:Fn) (x35a:Array Value) (x35b:Array Value),e33=.returned (.func x35 x35a x35b)∧(∀ base36:Env,RFw prog none 39 (cdAt Tryz.f197 [1,1,1,1,0,1,2]) (upd (upd (upd base36 28 (.func x35 x35a x35b)) 2 (.pointer (some ⟨b2,0,none⟩))) 0 (.slice a n c)) ds w34 0
  (fun ds37 w38=>thirdQ a n c b2 R ds37 w38) (fun ds37 w38 =>
 retD ds37 w38 fun w48 =>
 ∃ (x49:Int),World.cell? w48 (⟨b2,0,none⟩:Addr)=some (.int .i64 x49)∧(R (.returned (.int .i64 x49)) w48)) (fun _ _=>False))
theorem qxy {R:Ending→World→Prop} {S:Nat→Prop} {w:World} {a:Option Addr} {n c:Nat} (f:Fo) (hs:small f) (hf0:SlF S w a n f) (hF:Forms w)
  (h:∀ w',Ext w w'→R (.returned (.int .i64 (qec f))) w'):Calls prog qh9 ⟨[.slice a n c]⟩ w R:=by
 apply qtn
 refine qd fun b2 w1 hb2 B2 e1 s1=>?_
 refine qd fun b4 w3 hb4 B4 e3 s3=>?_
 refine qam B4 rfl fun w4 B4 hc4 s4=>?_
 refine qd fun b7 w5 hb7 B7 e5 s5=>?_
 refine qam B7 rfl fun w6 B7 hc6 s6=>?_
 have z1:=e1.size
 have E3:=qa e1 e3
 have E4:Ext w w4:=qi E3 hc4 fun k hk=>by omega
 have E6:Ext w w6:=qi (qa E4 e5) hc6 fun k hk=>by omega
 have B2:=hc6.blk ((hc4.blk (B2.ext e3) (by omega)).ext e5) (by omega)
 have B4:=hc6.blk (B4.ext e5) (by omega)
 refine qqr fun bs w7 Bs e7 hbs=>⟨_,_,_,rfl,fun base=>?_⟩
 have E7:=qa E6 e7
 have B2:=B2.ext e7
 have B4:=B4.ext e7
 have B7:=B7.ext e7
 have l2:=B2.lt
 have l4:=B4.lt
 have l7:=B7.lt
 have ls:=Bs.lt
 have hf:SlF (fun k=>k < w.heap.size) w a n f:=hf0.imp fun k _ hl=>hl
 have z6:=E6.size
 have z7:=E7.size
 have hfw7:SlF (fun k=>k < w.heap.size∨k=bs) w7 a n f:=(hf.ext E7).imp fun k hk _=>.inl hk
 -- the second range,once the first has ended
 have second:∀ (D:Nat) (W:World),w7.heap.size≤D→D < W.heap.size→W.heap[D]? = some (.deferred (some []))→Blk W b2 [.int .i64 0] 41→Ext w W→(f.size≤4096∧f.depth≤16)→secondQ a n c b2 R [{ target:=.collected D,args:=#[] }] W:=by
  intro D W hD1 hD2 hD3 B2 EW hok
  have hfW:=hf.ext EW
  have hck:qec f=if allF f false false≠0 then allF f false false else if 65536 < (qbo f).length then 4 else 0:=by unfold qec;rw [if_pos hok]
  have her:=qqv f 0 false (by omega)
  simp only [Nat.lt_irrefl,decide_false] at her
  rw [hck,← her] at h
  refine qqr fun bt v Bt ev hbt=>⟨_,_,_,rfl,fun base=>?_⟩
  have EV:=qa EW ev
  have zv:=ev.size
  have zW:=EW.size
  have l2:=B2.lt
  have hwz:=E7.size
  rw [qm6]
  have lt:=Bt.lt
  have hD4:v.heap[D]? = some (.deferred (some [])):=(ev.block D hD2).trans hD3
  refine q90 qfa qe6 (gf:=qt) rfl (by kernel_rfl) (xs:=qo f 0 false) (E:=PlE (fun k=>k < w.heap.size∨k=bt) v) (Rd:=fun k=>k < w.heap.size∨k=bt)
   (fun v1 he=>(qzu f hs bt v1 (Bt.ext he) ((hf.ext (qa EV he)).imp fun k hk _=>.inl hk) (.inr rfl)).mono ?_) (fun y vs hE=>by obtain ⟨a',c',rfl,_⟩:=hE;rfl) (by decide) (fun k hk=>by omega) (· = b2) (fun k hk=>by omega)
   (fun pre W'=>Blk W' b2 [.int .i64 0] 41∧errs pre=0∧Ext w W'∧W'.heap[D]? = some (.deferred (some []))) (fun W'=>Blk W' b2 [.int .i64 (errs (qo f 0 false))] 41∧errs (qo f 0 false)≠0∧Ext w W'∧W'.heap[D]? = some (.deferred (some []))) (fun _=>False)
   ?_ ?_ (fun _ _ h=>h.elim) ⟨B2.ext ev,rfl,EV,hD4⟩ ?_ ?_ ?_ (fun _ _ _ _ _ h=>h.elim)
  ·rintro x vs ⟨a',c',rfl,hsl⟩
   exact ⟨a',c',rfl,hsl.keep' fun k hk hl=>⟨hk,by omega,((he.block k (by omega))).symm⟩⟩
  ·rintro pre W1 W2 ⟨g1,g2,g3,g4⟩ hc
   exact ⟨hc.blk g1 (by omega),g2,qg7 g3 hc (by omega),(hc.block D (Array.getElem?_eq_some_iff.1 g4).1 (by omega)).trans g4⟩
  ·rintro W1 W2 ⟨g1,g2,g3,g4⟩ hc
   exact ⟨hc.blk g1 (by omega),g2,qg7 g3 hc (by omega),(hc.block D (Array.getElem?_eq_some_iff.1 g4).1 (by omega)).trans g4⟩
  ·rintro pre ⟨k,t,m,ps,d,b⟩ vs W1 l ⟨a',c',rfl,hsl⟩ hpre hl1 hl2 ⟨g1,g2,g3,g4⟩
   refine Eq.mpr (qmy base _ _ _ _ _ _ _ _ _ _ _ _ _ _ _ _ _ _ _ _) ?_
   refine qac (by simp) (by intro u hu;simp only [List.mem_cons,List.not_mem_nil,or_false] at hu;rcases hu with rfl | rfl | rfl | rfl | rfl | rfl <;> rfl) fun bp W2 hbp Bp ep sp=>?_
   refine ⟨ep,fun W3 hU=>?_⟩
   have Bp3:=qpx hU Bp (by omega)
   have P3:∀ j,W3.cell? ((⟨bp,0,none⟩:Addr).add j)=[Value.int .i64 k,.string ⟨⟨t⟩⟩,.int .i64 m,.slice a' ps.len c',.int .i64 (d:Int),.bool b][j]?:=fun j=>by rw [qe,Bp3.cell];simp
   have E3:Ext w W3:=qg7 (qa g3 ep) (q3c hU (Nat.le_refl l)) (by omega)
   have zz:=ep.size
   have hD5:W3.heap[D]? = some (.deferred (some [])):=by
    rw [hU.block D (by omega),ep.block D (Array.getElem?_eq_some_iff.1 g4).1];exact g4
   have g1':=qpx hU (g1.ext ep) (by omega)
   refine ⟨k,P3 0,t,P3 1,m,P3 2,a',ps.len,c',P3 3,d,P3 4,b,P3 5,q3r (hF.ext E3) k t m a' c' ps d b fun W4 e4=>⟨_,rfl,qc (fun q=>?_) (fun q=>?_)⟩⟩
   ·have hes:=errs_stop hpre g2 (x:=⟨k,t,m,ps,d,b⟩) q
    refine dr_ok (qam (g1'.ext e4) rfl fun W5 q1 q2 q3=>?_)
    have l2':=(g1'.ext e4).lt
    refine ⟨(Chg.of_ext e4).trans q2,?_,?_,qi (qa E3 e4) q2 fun k hk=>by omega,?_⟩
    ·rw [hes];exact q1
    ·rw [hes];exact q
    ·exact (q2.block D (Nat.lt_of_lt_of_le (Array.getElem?_eq_some_iff.1 hD5).1 e4.size) (by omega)).trans ((e4.block D (Array.getElem?_eq_some_iff.1 hD5).1).trans hD5)
   ·refine ⟨Chg.of_ext e4,g1'.ext e4,?_,qa E3 e4,(e4.block D (Array.getElem?_eq_some_iff.1 hD5).1).trans hD5⟩
    rw [qy3,g2]
    simp only [errs,ne_eq,not_true,if_false]
    exact if_neg (fun hh=>q hh)
  ·rintro D' W1 hD1' hD2' hD3' ⟨g1,g2,g3,g4⟩
   rw [g2] at h
   simp only [ne_eq,not_true,if_false] at h
   have hgood:good f:=qy5 f _ _ (by rw [← her];exact g2)
   refine q7s f (by omega) hgood (hf.ext g3) (hF.ext g3) fun W2 e2=>⟨_,rfl,?_⟩
   have hne:D≠D':=by omega
   have tl:∀ x:Int,qec f=x→(stL W2 (⟨b2,0,none⟩:Addr) 0 [.int .i64 x] fun w42 =>
     retD [{ target:=.collected D',args:=#[] },{ target:=.collected D,args:=#[] }] w42 fun w43=>∃ (x44:Int),World.cell? w43 (⟨b2,0,none⟩:Addr)=some (.int .i64 x44)∧(R (.returned (.int .i64 x44)) w43)):=by
    intro x hx
    refine qam (g1.ext e2) rfl fun W3 q1 q2 q3=>?_
    have l2':=(g1.ext e2).lt
    have dl:=(Array.getElem?_eq_some_iff.1 g4).1
    have dl':=(Array.getElem?_eq_some_iff.1 hD3').1
    have z2:=e2.size
    have d1:W3.heap[D']? = some (.deferred (some [])):=(q2.block D' (by omega) (by omega)).trans ((e2.block D' dl').trans hD3')
    have d2:W3.heap[D]? = some (.deferred (some [])):=(q2.block D (by omega) (by omega)).trans ((e2.block D dl).trans g4)
    refine ⟨D',rfl,d1,?_⟩
    refine qfm ((World.putObj_heap_other hne).trans d2) ⟨x,(qre (qre q1 (by omega) _) (by omega) _).cell 0,?_⟩
    have:=h _ (qin (qin (qi (qa g3 e2) q2 fun k hk=>by omega) (D:=D') (by omega) (.deferred none)) (D:=D) (by omega) (.deferred none))
    rw [hck,if_neg (by rw [← her,g2];simp)] at hx
    rw [hx] at this
    exact this
   refine qc (fun q=>tl 4 ?_) (fun q=>tl 0 ?_)
   ·rw [hck,← her,g2];simp only [ne_eq,not_true,if_false];rw [if_pos (by omega)]
   ·rw [hck,← her,g2];simp only [ne_eq,not_true,if_false];rw [if_neg (by omega)]
  ·rintro D' W1 hD1' hD2' hD3' ⟨g1,g2,g3,g4⟩
   rw [if_pos g2] at h
   have hne:D≠D':=by omega
   refine ⟨D',rfl,hD3',?_⟩
   refine qfm ((World.putObj_heap_other hne).trans g4) ⟨_,(qre (qre g1 (by omega) _) (by omega) _).cell 0,?_⟩
   exact h _ (qin (qin g3 (D:=D') (by omega) (.deferred none)) (D:=D) (by omega) (.deferred none))
 rw [qm7]
 refine q90 qfb qe7 (gf:=qt) rfl (by kernel_rfl) (xs:=qo f 0 false) (E:=PlE (fun k=>k < w.heap.size∨k=bs) w7) (Rd:=fun k=>k < w.heap.size∨k=bs)
  (fun v1 he=>(qzu f hs bs v1 (Bs.ext he) ((hf.ext (qa E7 he)).imp fun k hk _=>.inl hk) (.inr rfl)).mono ?_) (fun y vs hE=>by obtain ⟨a',c',rfl,_⟩:=hE;rfl) (by decide) (fun k hk=>by omega) (fun k=>k=b2∨k=b4) (fun k hk=>by omega)
  (fun pre W'=>Blk W' b2 [.int .i64 0] 41∧Blk W' b4 [.int .i64 (4096 - (pre.length:Int))] 3∧Blk W' b7 [.func (.func 218) ⟨[]⟩ ⟨[.pointer (some ⟨b4,0,none⟩)]⟩] 39∧pre.length≤4096∧(∀ x∈pre,¬ (16≤x.d∧0 < x.ps.len))∧Ext w W')
  (fun W'=>Blk W' b2 [.int .i64 4] 41∧¬ (f.size≤4096∧f.depth≤16)∧Ext w W') (fun _=>False)
  ?_ ?_ (fun _ _ h=>h.elim) ⟨B2,(by simpa using B4),B7,by simp,by simp,E7⟩ ?_ ?_ ?_ (fun _ _ _ _ _ h=>h.elim)
 ·rintro x vs ⟨a',c',rfl,hsl⟩
  exact ⟨a',c',rfl,hsl.keep' fun k hk hl=>⟨hk,by omega,((he.block k (by omega))).symm⟩⟩
 ·rintro pre W1 W2 ⟨g1,g2,g3,g4,g5,g6⟩ hc
  exact ⟨hc.blk g1 (by omega),hc.blk g2 (by omega),hc.blk g3 (by omega),g4,g5,qg7 g6 hc (by omega)⟩
 ·rintro W1 W2 ⟨g1,g2,g3⟩ hc
  exact ⟨hc.blk g1 (by omega),g2,qg7 g3 hc (by omega)⟩
 ·rintro pre ⟨k,t,m,ps,d,b⟩ vs W1 l ⟨a',c',rfl,hsl⟩ hpre hl1 hl2 ⟨g1,g2,g3,g4,g5,g6⟩
  refine Eq.mpr (qmz base _ _ _ _ _ _ _ _ _ _ _ _ _ _ _ _ _ _ _ _ _) ?_
  refine qac (by simp) (by intro u hu;simp only [List.mem_cons,List.not_mem_nil,or_false] at hu;rcases hu with rfl | rfl | rfl | rfl | rfl | rfl <;> rfl) fun bp W2 hbp Bp ep sp=>?_
  refine ⟨ep,fun W3 hU=>?_⟩
  have Bp3:=qpx hU Bp (by omega)
  have E3:Ext w W3:=qg7 (qa g6 ep) (q3c hU (Nat.le_refl l)) (by omega)
  have zz:=ep.size
  have h1:=qpx hU (g1.ext ep) (by omega)
  have h2:=qpx hU (g2.ext ep) (by omega)
  have h3:=qpx hU (g3.ext ep) (by omega)
  have lb4:=h2.lt
  refine dr_ok ⟨.func 218,⟨[]⟩,⟨[.pointer (some ⟨b4,0,none⟩)]⟩,by rw [h3.cell];rfl,by kernel_rfl,spend_spec h2 (by omega) fun W4 k4 kc=>⟨_,rfl,?_⟩⟩
  have k1:=kc.blk h1 (by omega)
  have k3:=kc.blk h3 (by omega)
  have kp:=kc.blk Bp3 (by omega)
  have E4:Ext w W4:=qi E3 kc fun k hk=>by omega
  have l2':=k1.lt
  have kc':Chg (fun k=>k=b2∨k=b4) W3 W4:=kc.mono fun k _ h=>.inr h
  have stop:¬ (f.size≤4096∧f.depth≤16)→dr (some ⟨b2,0,none⟩) fun p72=>stL W4 p72 0 [.int .i64 4] fun w71=>Chg (fun k=>k=b2∨k=b4) W3 w71∧Blk w71 b2 [.int .i64 4] 41∧¬ (f.size≤4096∧f.depth≤16)∧Ext w w71:=by
   intro hno
   refine dr_ok (qam k1 rfl fun W5 q1 q2 q3=>?_)
   exact ⟨kc'.trans (q2.mono fun k _ h=>.inl h),q1,hno,qi E4 q2 fun k hk=>by omega⟩
  have hplen:pre.length + 1≤(qo f 0 false).length:=by
   have:=hpre.length_le;simpa using this
  have hpl:=qki f 0 false
  have go:¬ (16≤d∧0 < ps.len)→pre.length + 1≤4096→Chg (fun k=>k=b2∨k=b4) W3 W4∧Blk W4 b2 [.int .i64 0] 41∧Blk W4 b4 [.int .i64 (4096 - ((pre++[(⟨k,t,m,ps,d,b⟩:Pl)]).length:Int))] 3∧Blk W4 b7 [.func (.func 218) ⟨[]⟩ ⟨[.pointer (some ⟨b4,0,none⟩)]⟩] 39∧(pre++[(⟨k,t,m,ps,d,b⟩:Pl)]).length≤4096∧(∀ x∈(pre++[(⟨k,t,m,ps,d,b⟩:Pl)]),¬ (16≤x.d∧0 < x.ps.len))∧Ext w W4:=by
   intro hn1 hn2
   refine ⟨kc',k1,?_,k3,by simpa using hn2,?_,E4⟩
   ·have e:(4096 - ((pre++[(⟨k,t,m,ps,d,b⟩:Pl)]).length:Int))=4096 - (pre.length:Int) - 1:=by simp;omega
    rw [e];exact k4
   ·intro x hx
    rw [List.mem_append,List.mem_singleton] at hx
    rcases hx with hx | rfl
    ·exact g5 x hx
    ·exact hn1
  refine qh (fun q=>stop ?_) (fun q=>?_)
  ·simp only [Bool.not_eq_true',decide_eq_false_iff_not] at q
   omega
  ·simp only [Bool.not_eq_false',decide_eq_true_eq] at q
   refine ⟨d,by rw [qe,kp.cell];rfl,qc (fun q2=>⟨a',ps.len,c',by rw [qe,qe,kp.cell];rfl,qc (fun q3=>stop ?_) (fun q3=>go (by omega) (by omega))⟩) (fun q2=>go (by omega) (by omega))⟩
   have:=qmq f 0 false ⟨k,t,m,ps,d,b⟩ (qkk hpre) (by simp only;omega)
   simp only at this
   omega
 ·rintro D W hD1 hD2 hD3 ⟨g1,g2,g3,g4,g5,g6⟩
  have hall:=qqs f 0 false (by omega) g5
  exact second D W (by omega) hD2 hD3 g1 g6 ⟨by omega,by omega⟩
 ·rintro D W hD1 hD2 hD3 ⟨g1,g2,g3⟩
  refine qfm hD3 ⟨4,(qre g1 (by omega) _).cell 0,?_⟩
  have e:qec f=4:=by unfold qec;rw [if_neg g2]
  rw [← e]
  exact h _ (qin g3 (by omega) _)
end Go.Proofs
namespace Go.Sh
open Go Go.RowKit
section
variable {S:Nat→Prop} {w w':World} {e:TypeId} {B:Nat} {a:Option Addr} {n c:Nat}
theorem OwnF.last {pre:Fo} {k:Int} {t:List UInt8} {m:Int} {ps:Fo} (h:OwnF e S B w a n c (pre.app (.one k t m ps))) :
  ∃ q:Addr,(∀ K:Addr→Prop,K q→idx a n (pre.len:Int) 4 K)∧w.cell? (q.add 0)=some (.int .i64 k)∧w.cell? (q.add 1)=some (.string ⟨⟨t⟩⟩) ∧
   ∀ (t':List UInt8) (K:World→Prop),(∀ w',OwnF e S B w' a n c (pre.app (.one k t' m ps))→Chg (Sh.bk a) w w'→K w')→stL w (q.add 1) 0 [.string ⟨⟨t'⟩⟩] K:=by
 obtain ⟨h0,xs,h1,h2⟩:=h
 obtain ⟨us,ys,rfl,f1,a',c',zs,vs',rfl,g1,g2,g3⟩:=h2.split
 have hvs:vs'=[]:=g3
 subst hvs
 have hl:=f1.len
 have hn:n=pre.len + 1:=by rw [h0];simp [Fo.one]
 rcases h1.2 with h | ⟨g,cap,cur,e1,e2,e3,e4,e5,e6,e7⟩
 ·omega
 obtain ⟨rfl,_,rfl⟩:a=some ⟨g,0,none⟩∧True∧c=cap:=by simpa using e1
 have hB:Blk w g cur.toList e:=e3
 have hcl:cur.toList.length=c * 4:=by simpa using e6
 have hxl:n * 4≤cur.toList.length:=by rw [hcl];omega
 have hget:∀ j,j < n * 4→cur.toList[j]? = (us++[.int .i64 k,.string ⟨⟨t⟩⟩,.int .i64 m,.slice a' ps.len c'])[j]?:=fun j hj=>by
  rw [← e7,List.getElem?_take,if_pos hj]
 have key:∀ j,j < 4→w.cell? ((⟨g,pre.len * 4,none⟩:Addr).add j)=[Value.int .i64 k,.string ⟨⟨t⟩⟩,.int .i64 m,.slice a' ps.len c'][j]?:=fun j hj=>by
  rw [qe,hB.cell,hget _ (by omega),List.getElem?_append_right (by omega),show pre.len * 4 + j - us.length=j by omega]
 refine ⟨⟨g,pre.len * 4,none⟩,fun K hK=>⟨by omega,by omega,?_⟩,key 0 (by omega),key 1 (by omega),fun t' K hK=>?_⟩
 ·show K _
  rw [qe,Int.toNat_natCast,Nat.zero_add];exact hK
 rw [qe]
 refine qa7 hB (by simp;omega) (by intro u hu;simp only [List.mem_singleton] at hu;subst hu;rfl) fun w' b1 b2 b3 b4 b5 b6=>?_
 have hc:Chg (Sh.bk (some (⟨g,0,none⟩:Addr))) w w':=⟨b4,b5,b6,by omega,fun k' _ hk=>b2 k' fun e=>hk (by simp [Sh.bk,e])⟩
 refine hK w' ⟨by simp [Fo.one];exact hn,us++[.int .i64 k,.string ⟨⟨t'⟩⟩,.int .i64 m,.slice a' ps.len c'],⟨by simp;omega,.inr ⟨g,c,⟨putAt cur.toList (pre.len * 4 + 1 + 0) [.string ⟨⟨t'⟩⟩]⟩,rfl,e2,b1,e4,e5,?_,?_⟩⟩,?_⟩ hc
 ·simp [putAt];omega
 ·have hx:n * 4=us.length + 4:=by omega
  simp only [putAt]
  show ((cur.toList.set (pre.len * 4 + 1 + 0) (.string ⟨⟨t'⟩⟩)).take (n * 4))=_
  rw [List.take_set,e7,show pre.len * 4 + 1 + 0=us.length + 1 by omega,List.set_append_right _ _ (by omega)]
  simp
 ·have hs:∀ j,((S j∨B≤j)∧¬ Sh.bk (some (⟨g,0,none⟩:Addr)) j)→j < w.heap.size→((S j∨B≤j)∧¬ Sh.bk (some (⟨g,0,none⟩:Addr)) j)∧w'.heap[j]? = w.heap[j]?:=fun j hj hlt=>⟨hj,hc.block j hlt hj.2⟩
  exact (f1.keep hs hc.size).app ⟨a',c',zs,[],rfl,g1.keep hs hc.size,g2.keep hs hc.size,rfl⟩
end
end Go.Sh
namespace Go.Proofs
open Go Go.Sh Go.RowKit
def addL:Fo→List UInt8→Fo
 | .nil,_=>.nil
 | .cons k t n ps r,s=>match r with
  | .nil=>.cons k (t++s) n ps .nil
  | .cons k' t' n' ps' r'=>.cons k t n ps (addL (.cons k' t' n' ps' r') s)
def lastT:Fo→Bool
 | .nil=>false
 | .cons k _ _ _ r=>match r with
  | .nil=>decide (k=1)
  | .cons k' t' n' ps' r'=>lastT (.cons k' t' n' ps' r')
theorem qns (pre:Fo) (k t n ps s):addL (pre.app (.one k t n ps)) s=pre.app (.one k (t++s) n ps):=by
 induction pre with
 | nil=>rfl
 | cons k1 t1 n1 ps1 r _ ih =>
  cases r with
  | nil=>rfl
  | cons k2 t2 n2 ps2 r2=>simp only [Fo.cons_app,addL] at ih ⊢;rw [ih]
theorem qn9 (pre:Fo) (k t n ps):lastT (pre.app (.one k t n ps))=decide (k=1):=by
 induction pre with
 | nil=>rfl
 | cons k1 t1 n1 ps1 r _ ih =>
  cases r with
  | nil=>rfl
  | cons k2 t2 n2 ps2 r2=>simp only [Fo.cons_app,lastT] at ih ⊢;rw [ih]
theorem q8d:∀ (f:Fo),f=.nil∨∃ (pre:Fo) (k:Int) (t:List UInt8) (n:Int) (ps:Fo),f=pre.app (.one k t n ps)
 | .nil=>.inl rfl
 | .cons k t n ps r=>.inr (by
  rcases q8d r with rfl | ⟨pre,k1,t1,n1,ps1,rfl⟩
  ·exact ⟨.nil,k,t,n,ps,rfl⟩
  ·exact ⟨.cons k t n ps pre,k1,t1,n1,ps1,rfl⟩)
def tlen:Fo→Nat
 | .nil=>0
 | .cons _ t _ ps r=>t.length + tlen ps + tlen r
theorem q8t (f g:Fo):tlen (f.app g)=tlen f + tlen g:=by
 induction f with
 | nil=>simp [tlen]
 | cons k t n ps r _ ih=>simp only [Fo.cons_app,tlen,ih];omega
def snocM (out:Fo) (k:Int) (t:List UInt8) (n:Int) (ps:Fo):Fo :=
 if k=1∧t=[] then out else if k=1∧lastT out=true then addL out t else out.app (.one k t n ps)
def mgo:Fo→Fo→Fo
 | .nil,out=>out
 | .cons k t n ps r,out=>mgo r (snocM out k t n (mgo ps .nil))
def q52 (f:Fo):Fo:=mgo f .nil
def brkF (k:Int):Bool:=decide (k=2∨k=3∨k=4)
def qq:Fo→Fo
 | .nil=>.nil
 | .cons k t n ps r=>(if brkF k then .one k t n ps else qq ps).app (qq r)
def partF (k:Int) (t:List UInt8) (n:Int) (ps:Fo):Fo:=if ps.len=0 then .nil else .one k t n ps
theorem q0o (f g:Fo):qq (f.app g)=(qq f).app (qq g):=by
 induction f with
 | nil=>rfl
 | cons k t n ps r _ ih=>simp only [Fo.cons_app,qq,ih,Fo.app_assoc]
def qau:Fo→Int→Bool→Fo
 | .nil,_,_=>.nil
 | .cons k t n ps r,hand,adv =>
  (if k=9∧n≤hand then qq ps else if k=8∧n≤hand then qau ps hand adv else if (k=8∨k=9)∧adv=true then partF k t n (qau ps hand adv) else if k=8 then qq ps
  else if k=9 then qau ps hand adv else if k=7∨k=10∨k=11 then partF k t n (qau ps hand adv) else .one k t n ps).app (qau r hand adv)
end Go.Proofs
namespace Go.Sh
open Go Go.RowKit
section
variable {S:Nat→Prop} {w w':World} {e:TypeId} {B:Nat} {a:Option Addr} {n c:Nat}
end
end Go.Sh
namespace Go.Proofs
open Go Go.Sh Go.RowKit
structure Nn where
 k:Int
 t:List UInt8
 n:Int
 ps:Fo
def qbp:Fo→List Nn
 | .nil=>[]
 | .cons k t n ps r=>⟨k,t,n,ps⟩ :: (qbp ps++qbp r)
theorem qn6:∀ f:Fo,(qbp f).length=f.size
 | .nil=>rfl
 | .cons k t n ps r=>by simp [qbp,Fo.size,qn6 ps,qn6 r]
end Go.Proofs
namespace Go.Sh
open Go Go.RowKit
def IterO {α:Type} (P:Program) (gf:FuncId) (cap:List Value) (xs:List α) (E:α→List Value→Prop) (Rd:Nat→Prop) (w:World):Prop :=
 ∀ (yf:Fn) (ya yb:Array Value) (S0:Nat→Prop) (J:List α→(Nat→Prop)→World→Prop) (Jx:(Nat→Prop)→World→Prop) (R:Ending→World→Prop),
  (∀ k,S0 k→k < w.heap.size∧¬ Rd k) →
  (∀ pre S W W',J pre S W→Chg (fun k=>w.heap.size≤k∧¬ S k) W W'→J pre S W')→(∀ S W W',Jx S W→Chg (fun k=>w.heap.size≤k∧¬ S k) W W'→Jx S W') →
  (∀ pre x vs S W,E x vs→pre++[x] <+: xs→w.heap.size≤W.heap.size→(∀ k,S k→k < W.heap.size∧¬ Rd k)→J pre S W→CallV P (.func yf ya yb) vs W fun e W'=>Chg S W W' ∧
   ∃ S':Nat→Prop,(∀ k,S' k→(S k∨W.heap.size≤k)∧k < W'.heap.size)∧((e=.returned (.bool true)∧J (pre++[x]) S' W')∨(e=.returned (.bool false)∧Jx S' W'))) →
  J [] S0 w→(∀ S W,w.heap.size≤W.heap.size→J xs S W→R (.returned (.tuple ⟨[]⟩)) W)→(∀ S W,w.heap.size≤W.heap.size→Jx S W→R (.returned (.tuple ⟨[]⟩)) W) →
  Calls P gf ⟨.func yf ya yb :: cap⟩ w R
theorem IterO.mono {α:Type} {P:Program} {gf:FuncId} {cap:List Value} {xs:List α} {E E':α→List Value→Prop} {Rd:Nat→Prop} {w:World} (h:IterO P gf cap xs E Rd w) (hE:∀ x vs,E x vs→E' x vs):IterO P gf cap xs E' Rd w :=
 fun yf ya yb S0 J Jx R hS hJ hJx hbody h0 h1 h2=>h yf ya yb S0 J Jx R hS hJ hJx (fun pre x vs S W he=>hbody pre x vs S W (hE _ _ he)) h0 h1 h2
theorem qh4 {α:Type} {P:Program} {N:Nat} {g:Operand} {ps:Array Tmp} {assign body:Code} {env:Env} {ds:List Deferred} {w:World} {x:Nat} {Qn Qr Qx:List Deferred→World→Prop}
  (xA xB:Ann) {gf:FuncId} {cap:List Value} (hg:ev env g=.func (.func gf) ⟨[]⟩ ⟨cap⟩) (hok:okFn P gf=true)
  {xs:List α} {E:α→List Value→Prop} {Rd:Nat→Prop} (hit:∀ w1,Ext w w1→IterO P gf cap xs E Rd w1)
  (hps:∀ y vs,E y vs→vs.length=ps.size) (hpN:∀ p∈ps.toList,p < N)
  (hRd:∀ k,Rd k→k < w.heap.size) (S0:Nat→Prop) (hS:∀ k,S0 k→k < w.heap.size∧¬ Rd k)
  (I:List α→(Nat→Prop)→World→Prop) (Kr Kx:(Nat→Prop)→World→Prop)
  (hI:∀ pre S W W',I pre S W→Chg (fun k=>w.heap.size≤k∧¬ S k) W W'→I pre S W')
  (hKr:∀ S W W',Kr S W→Chg (fun k=>w.heap.size≤k∧¬ S k) W W'→Kr S W') (hKx:∀ S W W',Kx S W→Chg (fun k=>w.heap.size≤k∧¬ S k) W W'→Kx S W')
  (h0:I [] S0 w)
  (hround:∀ pre y vs S W l,E y vs→pre++[y] <+: xs→w.heap.size≤l→l < W.heap.size→¬ S l→(∀ k,S k→k < W.heap.size∧¬ Rd k)→I pre S W →
   fragV P N xA xB assign body l x (fun W2 W'=>Chg (fun k=>S k∨W.heap.size≤k) W2 W'∧∃ S':Nat→Prop,(∀ k,S' k→(S k∨W.heap.size≤k)∧k < W'.heap.size)∧I (pre++[y]) S' W')
    (fun W2 W'=>Chg (fun k=>S k∨W.heap.size≤k) W2 W'∧∃ S':Nat→Prop,(∀ k,S' k→(S k∨W.heap.size≤k)∧k < W'.heap.size)∧Kr S' W')
    (fun W2 W'=>Chg (fun k=>S k∨W.heap.size≤k) W2 W'∧∃ S':Nat→Prop,(∀ k,S' k→(S k∨W.heap.size≤k)∧k < W'.heap.size)∧Kx S' W') (updPs ps.toList vs env) W)
  (hn:∀ D S W,w.heap.size≤D→D < W.heap.size→¬ S D→W.heap[D]? = some (.deferred (some []))→I xs S W→Qn ({ target:=.collected D,args:=#[] } :: ds) W)
  (hr:∀ D S W,w.heap.size≤D→D < W.heap.size→¬ S D→W.heap[D]? = some (.deferred (some []))→Kr S W→Qr ({ target:=.collected D,args:=#[] } :: ds) W)
  (hx:∀ D S W,w.heap.size≤D→D < W.heap.size→¬ S D→W.heap[D]? = some (.deferred (some []))→Kx S W→Qx ({ target:=.collected D,args:=#[] } :: ds) W) :
  RFw P none N (.rangeFunc g ps assign body) env ds w x Qn Qr Qx:=by
 intro a ha hd
 refine wpIn_rangeFunc fun fn _=>?_
 let rec0:Loop:={ state:=.ready,pending:=none,fn,tmps:=a.tmps,params:=ps,assign,body,defers:=w.heap.size }
 let w1:World:=(w.alloc (.deferred (some []))).alloc (.loop rec0)
 have hw1:w1.heap.size=w.heap.size + 2:=by simp [w1]
 have hext:Ext w w1:=((Below.refl _ w).alloc (Nat.le_refl _) _).alloc (by simp) _
 have hD1:w1.heap[w.heap.size]? = some (.deferred (some [])):=by
  show ((w.alloc _).alloc _).heap[w.heap.size]? = _
  rw [Below.heap_alloc _ _ _ (by simp),World.alloc_heap_new]
 have hl1:w1.heap[w.heap.size + 1]? = some (.loop rec0):=by
  have:=World.alloc_heap_new (w.alloc (.deferred (some []))) (.loop rec0)
  simpa [w1] using this
 have hgv:a.eval g=.func (.func gf) ⟨[]⟩ ⟨cap⟩:=by rw [ha.ev];exact hg
 refine ⟨w.heap.size + 1,[{ target:=.collected w.heap.size,args:=#[] }],w1,{ target:=.fn (.func gf) ⟨cap⟩,args:=#[.func (.yield (w.heap.size + 1)) #[] #[]] },w1,gf,
  ⟨.func (.yield (w.heap.size + 1)) #[] #[] :: cap⟩,w1,run_enterLoop_outer fn a.tmps ps assign body,?_,fun _ _=>trivial,?_,fun h=>by simp [Fr,Fence.wide] at h,?_⟩
 ·have em:Array.map a.eval #[Operand.const (.func (.yield (w.heap.size + 1)) #[] #[])]=#[.func (.yield (w.heap.size + 1)) #[] #[]]:=by simp [Act.eval]
  simp only [resolve,rangeCall,hgv,Deferred.ofValue,em]
  simp
 ·have e:(#[.func (.yield (w.heap.size + 1)) #[] #[]]:Array Value)++(⟨cap⟩:Array Value)=⟨.func (.yield (w.heap.size + 1)) #[] #[] :: cap⟩:=by apply Array.ext';simp
  simp only [invoke,e]
  exact qfx _ w1 hok
 ·show CallsIn Fence.wide 0 P gf _ w1 _
  refine callsIn_wide.2 ?_
  refine hit w1 hext (.yield (w.heap.size + 1)) #[] #[] (fun k=>S0 k∨k=w.heap.size + 1)
   (fun pre S W=>∃ Sb:Nat→Prop,(∀ k,S k↔Sb k∨k=w.heap.size + 1)∧¬ Sb (w.heap.size + 1)∧¬ Sb w.heap.size∧I pre Sb W∧W.heap[w.heap.size + 1]? = some (.loop rec0)∧W.heap[w.heap.size]? = some (.deferred (some [])))
   (fun S W=>∃ Sb:Nat→Prop,(∀ k,S k↔Sb k∨k=w.heap.size + 1)∧¬ Sb (w.heap.size + 1)∧¬ Sb w.heap.size∧W.heap[w.heap.size]? = some (.deferred (some []))∧((W.heap[w.heap.size + 1]? = some (.loop { rec0 with state:=.done,pending:=some .ret })∧Kr Sb W) ∨
    (W.heap[w.heap.size + 1]? = some (.loop { rec0 with state:=.done,pending:=some (.exit x) })∧Kx Sb W)))
   _ (fun k hk=>hk.elim (fun h=>⟨by have:=(hS k h).1;omega,(hS k h).2⟩) (fun h=>⟨by omega,fun hr=>by have:=hRd k hr;omega⟩)) ?_ ?_ ?_
   ⟨S0,fun k=>Iff.rfl,fun h=>by have:=(hS _ h).1;omega,fun h=>by have:=(hS _ h).1;omega,hI _ _ _ _ h0 (.of_ext hext),hl1,hD1⟩ ?_ ?_
  ·rintro pre S W W' ⟨Sb,hb1,hb2,hb3,h1,h2,h3⟩ hc
   have hlt:=(Array.getElem?_eq_some_iff.1 h2).1
   have hlt':=(Array.getElem?_eq_some_iff.1 h3).1
   exact ⟨Sb,hb1,hb2,hb3,hI _ _ _ _ h1 (hc.mono fun k _ hk=>⟨by omega,fun hh=>hk.2 ((hb1 k).2 (.inl hh))⟩),(hc.block _ hlt (by omega)).trans h2,(hc.block _ hlt' (by omega)).trans h3⟩
  ·rintro S W W' ⟨Sb,hb1,hb2,hb3,h3,h⟩ hc
   have hlt':=(Array.getElem?_eq_some_iff.1 h3).1
   have hc':Chg (fun k=>w.heap.size≤k∧¬ Sb k) W W':=hc.mono fun k _ hk=>⟨by omega,fun hh=>hk.2 ((hb1 k).2 (.inl hh))⟩
   refine ⟨Sb,hb1,hb2,hb3,(hc.block _ hlt' (by omega)).trans h3,?_⟩
   rcases h with ⟨h1,h2⟩ | ⟨h1,h2⟩
   ·exact .inl ⟨(hc.block _ (Array.getElem?_eq_some_iff.1 h1).1 (by omega)).trans h1,hKr _ _ _ h2 hc'⟩
   ·exact .inr ⟨(hc.block _ (Array.getElem?_eq_some_iff.1 h1).1 (by omega)).trans h1,hKx _ _ _ h2 hc'⟩
  ·rintro pre y vs S W hE hpre hsz hSW ⟨Sb,hb1,hb2,hb3,h1,h2,h3⟩
   have hlt:=(Array.getElem?_eq_some_iff.1 h2).1
   have hlt':=(Array.getElem?_eq_some_iff.1 h3).1
   refine ⟨_,_,_,_,run_yield h2 (by simp [rec0,hps y vs hE]),?_⟩
   have hfr:=hround pre y vs Sb W (w.heap.size + 1) hE hpre (by omega) hlt hb2 (fun k hk=>hSW k ((hb1 k).2 (.inl hk))) h1
   have hrep:Rep N (updPs ps.toList (vs) env) { tmps:=(ps.toList.zip (vs)).foldl (fun t (p,v)=>t.setIfInBounds p v) a.tmps,defers:=[] } :=
    qtb _ _ _ _ ⟨ha.1,ha.2⟩ hpN
   have ezip:(ps.zip (⟨(#[]:Array Value).toList++vs⟩:Array Value)).foldl (fun t (x:Nat × Value)=>t.setIfInBounds x.1 x.2) a.tmps=(ps.toList.zip (vs)).foldl (fun t (p,v)=>t.setIfInBounds p v) a.tmps:=by
    rw [← Array.foldl_toList]
    simp [Array.toList_zip]
   refine roundIn_of_wpIn (F:=Fence.wide) (l:=w.heap.size + 1) trivial ?_
   show assign.wpIn (Fr (some (w.heap.size + 1))) 0 P _ _ W
   have hva:=qj5 xA assign hfr hrep rfl
   refine wpIn_mono (Eq.mp (by rw [← ezip]) hva) fun e a1 W1 hh=>?_
   obtain ⟨env1,r1,q1,_⟩:=hh
   cases e with
   | normal =>
    obtain ⟨e1,q1⟩:=q1
    have hl':W1.heap[w.heap.size + 1]? = some (.loop rec0):=(e1.block _ hlt).trans h2
    have hD':W1.heap[w.heap.size]? = some (.deferred (some [])):=(e1.block _ hlt').trans h3
    refine ⟨_,run_beginRound hl' rfl,?_⟩
    have hl2:(W1.putObj (w.heap.size + 1) (.loop { rec0 with state:=.busy })).heap[w.heap.size + 1]? = some (.loop { rec0 with state:=.busy }) :=
     World.putObj_heap_same (Array.getElem?_eq_some_iff.1 hl').1
    have hD2:(W1.putObj (w.heap.size + 1) (.loop { rec0 with state:=.busy })).heap[w.heap.size]? = some (.deferred (some [])):=(World.putObj_heap_other (by omega)).trans hD'
    have hq:=q1 _ (Upd.put (w.heap.size + 1) W1 (.loop { rec0 with state:=.busy }))
    have hvb:=qj5 xB body hq r1 rfl
    have hlt1:=(Array.getElem?_eq_some_iff.1 hl').1
    have hWW2:Chg S W (W1.putObj (w.heap.size + 1) (.loop { rec0 with state:=.busy })) :=
     (Chg.of_ext e1).trans (Chg.put _ _ _ ((hb1 _).2 (.inr rfl)))
    generalize W1.putObj (w.heap.size + 1) (.loop { rec0 with state:=.busy })=W2 at hl2 hD2 hvb hWW2 ⊢
    refine wpIn_mono hvb fun e' a' W' hh'=>?_
    obtain ⟨env2,r2,q2,_⟩:=hh'
    have nS:¬ (Sb (w.heap.size + 1)∨W.heap.size≤w.heap.size + 1):=fun h=>h.elim hb2 (by omega)
    have nS':¬ (Sb w.heap.size∨W.heap.size≤w.heap.size):=fun h=>h.elim hb3 (by omega)
    have fin:∀ (jump:Option Code) (st:LoopState),Chg (fun k=>Sb k∨W.heap.size≤k) W2 W'→∀ S':Nat→Prop,(∀ k,S' k→(Sb k∨W.heap.size≤k)∧k < W'.heap.size)→∀ Z,Z=W'.putObj (w.heap.size + 1) (.loop { rec0 with state:=st,pending:=jump }) →
      Chg S W Z∧(∀ k,(S' k∨k=w.heap.size + 1)→(S k∨W.heap.size≤k)∧k < Z.heap.size)∧¬ S' (w.heap.size + 1)∧¬ S' w.heap.size∧Z.heap[w.heap.size + 1]? = some (.loop { rec0 with state:=st,pending:=jump })∧Z.heap[w.heap.size]? = some (.deferred (some [])) ∧
      Chg (fun k=>w.heap.size≤k∧¬ S' k) W' Z:=by
     intro jump st hc S' hS' Z hZ
     have hl3:=(hc.block _ (Array.getElem?_eq_some_iff.1 hl2).1 nS).trans hl2
     have hD3:=(hc.block _ (Array.getElem?_eq_some_iff.1 hD2).1 nS').trans hD2
     have n1:¬ S' (w.heap.size + 1):=fun hh=>nS (hS' _ hh).1
     have n2:¬ S' w.heap.size:=fun hh=>nS' (hS' _ hh).1
     have l3:=(Array.getElem?_eq_some_iff.1 hl3).1
     subst hZ
     refine ⟨?_,?_,n1,n2,World.putObj_heap_same l3,(World.putObj_heap_other (by omega)).trans hD3,Chg.put _ _ _ ⟨by omega,n1⟩⟩
     ·have hW2':Chg S W W':=⟨hc.os.trans hWW2.os,hc.tape.trans hWW2.tape,hc.output.trans hWW2.output,Nat.le_trans hWW2.size hc.size,
       fun k hk hn=>(hc.block k (Nat.lt_of_lt_of_le hk hWW2.size) (fun hh=>hh.elim (fun h=>hn ((hb1 k).2 (.inl h))) (fun h=>by omega))).trans (hWW2.block k hk hn)⟩
      exact hW2'.trans (Chg.put _ _ _ ((hb1 _).2 (.inr rfl)))
     ·rintro k (hk | rfl)
      ·exact ⟨(hS' k hk).1.imp (fun h=>(hb1 k).2 (.inl h)) id,by simpa using (hS' k hk).2⟩
      ·exact ⟨.inl ((hb1 _).2 (.inr rfl)),by simpa using l3⟩
    have hrec:∀ (jump:Option Code),Chg (fun k=>Sb k∨W.heap.size≤k) W2 W'→(Instr.endRound (w.heap.size + 1) jump).run P W'=.ok (.bool jump.isNone) (W'.putObj (w.heap.size + 1) (.loop { rec0 with state:=if jump.isNone then .ready else .done,pending:=jump })):=by
     intro jump hc
     exact run_endRound (r:={ rec0 with state:=.busy }) jump ((hc.block _ (Array.getElem?_eq_some_iff.1 hl2).1 nS).trans hl2)
    cases e' with
    | normal =>
     obtain ⟨hc,S',hS',hi⟩:=q2
     obtain ⟨f1,f2,f3,f4,f5,f6,f7⟩:=fin none .ready hc S' hS' _ rfl
     exact ⟨_,_,hrec none hc,f1,_,f2,.inl ⟨rfl,S',fun k=>Iff.rfl,f3,f4,hI _ _ _ _ hi f7,f5,f6⟩⟩
    | ret =>
     obtain ⟨hc,S',hS',hi⟩:=q2
     obtain ⟨f1,f2,f3,f4,f5,f6,f7⟩:=fin (some .ret) .done hc S' hS' _ rfl
     exact ⟨_,_,hrec (some .ret) hc,f1,_,f2,.inr ⟨rfl,S',fun k=>Iff.rfl,f3,f4,f6,.inl ⟨f5,hKr _ _ _ hi f7⟩⟩⟩
    | exit i =>
     simp only [fragQ] at q2
     cases hb:Nat.beq i x <;> rw [hb] at q2
     ·exact q2.elim
     have hix:=Nat.eq_of_beq_eq_true hb
     subst hix
     obtain ⟨hc,S',hS',hi⟩:=q2
     obtain ⟨f1,f2,f3,f4,f5,f6,f7⟩:=fin (some (.exit i)) .done hc S' hS' _ rfl
     exact ⟨_,_,hrec (some (.exit i)) hc,f1,_,f2,.inr ⟨rfl,S',fun k=>Iff.rfl,f3,f4,f6,.inr ⟨f5,hKx _ _ _ hi f7⟩⟩⟩
    | goto l=>exact q2.elim
    | panic c=>exact q2.elim
    | outgrown=>exact q2.elim
   | exit i=>exact q1.elim
   | ret=>exact q1.elim
   | goto t=>exact q1.elim
   | panic c=>exact q1.elim
   | outgrown=>exact q1.elim
  ·rintro S W hsz ⟨Sb,hb1,hb2,hb3,h1,h2,h3⟩
   refine ⟨none,_,run_endLoop h2 (by simp [rec0]),?_⟩
   have hlt:=(Array.getElem?_eq_some_iff.1 h2).1
   refine ⟨rfl,?_⟩
   show Qn (_ :: a.defers) _
   rw [hd]
   refine hn w.heap.size Sb _ (Nat.le_refl _) (by simp;omega) hb3 ((World.putObj_heap_other (by omega)).trans h3) (hI _ _ _ _ h1 (Chg.put _ _ _ ⟨by omega,hb2⟩))
  ·rintro S W hsz ⟨Sb,hb1,hb2,hb3,h3,h⟩
   rcases h with ⟨h1,h2⟩ | ⟨h1,h2⟩
   ·have hlt:=(Array.getElem?_eq_some_iff.1 h1).1
    refine ⟨some .ret,_,run_endLoop h1 (by simp),?_⟩
    refine wpIn_ret ⟨rfl,?_⟩
    show Qr (_ :: a.defers) _
    rw [hd]
    exact hr w.heap.size Sb _ (Nat.le_refl _) (by simp;omega) hb3 ((World.putObj_heap_other (by omega)).trans h3) (hKr _ _ _ h2 (Chg.put _ _ _ ⟨by omega,hb2⟩))
   ·have hlt:=(Array.getElem?_eq_some_iff.1 h1).1
    refine ⟨some (.exit x),_,run_endLoop h1 (by simp),?_⟩
    refine wpIn_exit ⟨rfl,rfl,?_⟩
    show Qx (_ :: a.defers) _
    rw [hd]
    exact hx w.heap.size Sb _ (Nat.le_refl _) (by simp;omega) hb3 ((World.putObj_heap_other (by omega)).trans h3) (hKx _ _ _ h2 (Chg.put _ _ _ ⟨by omega,hb2⟩))
end Go.Sh
namespace Go.Proofs
open Go Go.Sh Go.RowKit
end Go.Proofs
namespace Go.Sh
open Go Go.RowKit
section
variable {S:Nat→Prop} {w w':World} {e:TypeId} {B:Nat} {a:Option Addr} {n c:Nat} {f:Fo}
end
end Go.Sh
namespace Go.Proofs
open Go Go.Sh Go.RowKit
theorem qzh:∀ f:Fo,good f→tlen f≤65536 * f.size
 | .nil,_=>by simp [tlen]
 | .cons k t n ps r,h=>by
  have h1:=qzh ps h.2.1
  have h2:=qzh r h.2.2
  have h3:=h.1.2.2.2.1
  simp only [tlen,Fo.size];omega
theorem qpz:∀ f:Fo,tlen (qq f)≤tlen f
 | .nil=>Nat.le_refl _
 | .cons k t n ps r=>by
  have h1:=qpz ps
  have h2:=qpz r
  simp only [qq,q8t,tlen]
  split
  ·simp [Fo.one,tlen];omega
  ·omega
theorem tlen_part (k t n) (ps:Fo):tlen (partF k t n ps)≤t.length + tlen ps:=by
 unfold partF;split
 ·simp [tlen]
 ·simp [Fo.one,tlen]
theorem ql7:∀ (f:Fo) (hand:Int) (adv:Bool),tlen (qau f hand adv)≤tlen f
 | .nil,_,_=>Nat.le_refl _
 | .cons k t n ps r,hand,adv=>by
  have h1:=ql7 ps hand adv
  have h2:=ql7 r hand adv
  have h3:=qpz ps
  have h4:=tlen_part k t n (qau ps hand adv)
  simp only [qau,q8t,tlen]
  split
  ·omega
  split
  ·omega
  split
  ·omega
  split
  ·omega
  split
  ·omega
  split
  ·omega
  ·simp [Fo.one,tlen];omega
theorem q2y {f:Fo} (h:qec f=0):f.size≤4096∧good f∧tlen f≤268435456:=by
 unfold qec at h
 split at h
 ·rename_i h1
  split at h
  ·rename_i h2;exact absurd h h2
  ·rename_i h2
   have hg:=qy5 f _ _ (Decidable.not_not.1 h2)
   have:=qzh f hg
   exact ⟨h1.1,hg,by omega⟩
 ·cases h
section
variable {R:Ending→World→Prop} {S:Nat→Prop} {w:World} {a:Option Addr} {n c:Nat}
end
end Go.Proofs
namespace Go.Proofs
open Go Go.Sh
def consM (k:Int) (t:List UInt8) (n:Int) (ps r:Fo):Fo :=
 if k=1 then (if t=[] then r else match r with
  | .nil=>.cons k t n ps .nil
  | .cons k' t' n' ps' r'=>if k'=1 then .cons k (t++t') n ps r' else .cons k t n ps (.cons k' t' n' ps' r'))
 else .cons k t n ps r
def qea:Fo→Fo
 | .nil=>.nil
 | .cons k t n ps r=>consM k t n (qea ps) (qea r)
def glue (out:Fo):Fo→Fo
 | .nil=>out
 | .cons k t n ps r=>if k=1∧lastT out=true then (addL out t).app r else out.app (.cons k t n ps r)
theorem addL_addL (f:Fo) (s t:List UInt8):addL (addL f s) t=addL f (s++t):=by
 rcases q8d f with rfl | ⟨pre,k,u,n,ps,rfl⟩
 ·rfl
 ·rw [qns,qns,qns,List.append_assoc]
theorem lastT_addL (f:Fo) (s:List UInt8):lastT (addL f s)=lastT f:=by
 rcases q8d f with rfl | ⟨pre,k,u,n,ps,rfl⟩
 ·rfl
 ·rw [qns,qn9,qn9]
theorem q9e (g:Fo):glue .nil g=g:=by
 cases g <;> simp [glue,lastT]
theorem glue_snoc (out:Fo) (k:Int) (t:List UInt8) (n:Int) (p g:Fo):glue (snocM out k t n p) g=glue out (consM k t n p g):=by
 unfold snocM consM
 by_cases hk:k=1
 ·subst hk
  by_cases ht:t=[]
  ·simp [ht]
  ·simp only [ht,and_false,if_false,true_and,if_true]
   by_cases hl:lastT out=true
   ·rw [if_pos hl]
    cases g with
    | nil=>simp [glue,hl]
    | cons k' t' n' ps' r' =>
     by_cases hk':k'=1
     ·simp [glue,hk',lastT_addL,hl,addL_addL]
     ·simp [glue,hk',hl]
   ·rw [if_neg hl]
    cases g with
    | nil=>simp [glue,hl,Fo.one]
    | cons k' t' n' ps' r' =>
     by_cases hk':k'=1
     ·simp [glue,hk',qn9,qns,hl,Fo.app_one_app]
     ·simp [glue,hk',hl,Fo.app_one_app]
 ·simp only [hk,false_and,if_false]
  cases g with
  | nil=>simp [glue,hk,Fo.one]
  | cons k' t' n' ps' r'=>simp [glue,hk,qn9,Fo.app_one_app]
theorem q31:∀ (f out:Fo),mgo f out=glue out (qea f)
 | .nil,out=>rfl
 | .cons k t n ps r,out=>by
  rw [mgo,q31 r,q31 ps,q9e,glue_snoc];rfl
theorem qz0 (f:Fo):q52 f=qea f:=by rw [q52,q31,q9e]
def okF (w:Bool):Fo→Prop
 | .nil=>True
 | .cons k t n ps r=>qaf k t n ps false w=0∧okF true ps∧okF w r
def mgd (b:Bool):Fo→Prop
 | .nil=>True
 | .cons k _ _ ps r=>¬ (k=1∧b=true)∧mgd false ps∧mgd (decide (k=1)) r
theorem q5j (k t n ps b w):qaf k t n ps b w=0↔qaf k t n ps false w=0∧¬ (k=1∧b=true):=by
 unfold qaf
 split
 ·simp
 split
 ·simp
 split
 ·rename_i hk
  split
  ·simp
  ·simp [hk]
 ·rename_i h;simp [h]
theorem qnr:∀ (f:Fo) (b w:Bool),allF f b w=0↔okF w f∧mgd b f
 | .nil,_,_=>by simp [allF,okF,mgd]
 | .cons k t n ps r,b,w=>by
  have h1:=qnr ps false true
  have h2:=qnr r (decide (k=1)) w
  have h3:=q5j k t n ps b w
  simp only [allF,okF,mgd]
  constructor
  ·intro h
   split at h
   ·rename_i g;exact absurd h g
   ·rename_i g
    split at h
    ·rename_i g2;exact absurd h g2
    ·rename_i g2
     have a1:=h3.1 (Decidable.not_not.1 g)
     have a2:=h1.1 (Decidable.not_not.1 g2)
     have a3:=h2.1 h
     exact ⟨⟨a1.1,a2.1,a3.1⟩,a1.2,a2.2,a3.2⟩
  ·rintro ⟨⟨x1,x2,x3⟩,y1,y2,y3⟩
   rw [if_neg (by simpa using h3.2 ⟨x1,y1⟩),if_neg (by simpa using h1.2 ⟨x2,y2⟩)]
   exact h2.2 ⟨x3,y3⟩
theorem q7p {w:Bool}:∀ {f g:Fo},okF w (f.app g)↔okF w f∧okF w g
 | .nil,g=>by simp [okF]
 | .cons k t n ps r,g=>by simp only [Fo.cons_app,okF,q7p (f:=r),and_assoc]
theorem q3j {k t n ps w} (h:qaf k t n ps false w=0):qaf k t n ps false false=0:=by
 cases w with
 | false=>exact h
 | true =>
  unfold qaf at h ⊢
  split
  ·rename_i g;rw [if_pos g] at h;exact h
  ·rename_i g;rw [if_neg g] at h
   split
   ·rename_i g2;rw [if_pos g2] at h;exact h
   ·rename_i g2;rw [if_neg g2] at h
    split
    ·rename_i g3;rw [if_pos g3] at h;exact h
    ·rename_i g3;rw [if_neg g3] at h
     split
     ·rename_i g4;rw [if_pos g4] at h
      split
      ·rename_i g5;rw [if_pos g5] at h;exact h
      ·simp
     ·rename_i g4;rw [if_neg g4] at h;exact h
theorem qgy {w:Bool}:∀ {f:Fo},okF true f→okF w f
 | .nil,_=>trivial
 | .cons k t n ps r,⟨h1,h2,h3⟩=>by
  cases w with
  | true=>exact ⟨h1,h2,h3⟩
  | false=>exact ⟨q3j h1,h2,qgy h3⟩
theorem qs4 {w:Bool}:∀ {f:Fo},okF w f→good f
 | .nil,_=>trivial
 | .cons k t n ps r,⟨h1,h2,h3⟩=>⟨qsd h1,qs4 h2,qs4 h3⟩
theorem qg1 {t n ps b w} (h:qaf 1 t n ps b w=0):t≠[]∧n=0∧ps=.nil∧qar t=0:=by
 unfold qaf at h
 split at h
 ·cases h
 rename_i g
 split at h
 ·cases h
 rename_i g2
 rw [if_pos rfl] at h
 split at h
 ·cases h
 rename_i g3
 have e1:numsF 1=false:=by decide
 have e2:qao 1=false:=by decide
 refine ⟨fun e=>g2 (.inl ⟨rfl,e⟩),?_,Fo.eq_nil_of_len ?_,Decidable.not_not.1 g3⟩
 ·apply Classical.byContradiction;intro hn;exact g (.inr (.inr (.inr (.inl ⟨hn,e1⟩))))
 ·apply Classical.byContradiction;intro hn;exact g (.inr (.inr (.inr (.inr ⟨by omega,e2⟩))))
theorem qxj {k t n ps ps' b w} (h:qaf k t n ps b w=0) (hl:ps.len=0↔ps'.len=0):qaf k t n ps' b w=0:=by
 have h2:(0 < ps.len↔0 < ps'.len):=by omega
 unfold qaf at h ⊢
 simp only [← h2,← hl];exact h
theorem q36 {s t:List UInt8} {i:Nat} (h:i < s.length):kA (s++t) i=kA s i:=by simp [kA,List.getD,List.getElem?_append_left h]
theorem q35 (s t:List UInt8) (i:Nat):kA (s++t) (s.length + i)=kA t i:=by simp [kA,List.getD,List.getElem?_append_right]
theorem q3n {s t:List UInt8}:∀ {i:Nat},i < s.length→rtB (s++t) i=rtB s i
 | 0,_=>rfl
 | i + 1,h=>by simp only [rtB,q36 h,q36 (show i < s.length by omega),q3n (show i < s.length by omega)]
theorem q5t (s t:List UInt8):∀ i:Nat,rtB t i=true→rtB (s++t) (s.length + i)=true
 | 0,h=>by simp [rtB] at h
 | i + 1,h=>by
  have e:s.length + (i + 1)=(s.length + i) + 1:=by omega
  rw [rtB] at h
  rw [e,rtB,← e,q35,q35]
  simp only [Bool.and_eq_true,Bool.or_eq_true] at h ⊢
  exact ⟨h.1,h.2.imp id (q5t s t i)⟩
theorem q7q {s t:List UInt8} (hs:qbd s=true) (ht:qbd t=true):qbd (s++t)=true:=by
 simp only [qbd,List.all_eq_true,List.mem_range] at hs ht ⊢
 intro j hj
 by_cases h:j < s.length
 ·have:=hs j h
  unfold okAt at this ⊢
  rw [q36 h,q3n h];exact this
 ·obtain ⟨i,rfl⟩:∃ i,j=s.length + i:=⟨j - s.length,by omega⟩
  have:=ht i (by simp at hj;omega)
  unfold okAt at this ⊢
  rw [q35]
  simp only [Bool.and_eq_true,Bool.or_eq_true] at this ⊢
  exact ⟨this.1,this.2.imp id (q5t s t i)⟩
theorem checkC_app {s t:List UInt8} (hs:qar s=0) (ht:qar t=0) (hl:s.length + t.length≤65536):qar (s++t)=0:=by
 rw [qm3,if_neg (by omega)] at hs ht
 rw [qm3,if_neg (by simp;omega)]
 have h1:qbd s=true:=by cases h:qbd s <;> simp [h] at hs ⊢
 have h2:qbd t=true:=by cases h:qbd t <;> simp [h] at ht ⊢
 rw [if_pos (q7q h1 h2)]
theorem q1h {t:List UInt8} {w:Bool} (h1:t≠[]) (h2:qar t=0):qaf 1 t 0 .nil false w=0:=by
 unfold qaf
 have e1:qd5 1=true:=by decide
 have e2:qao 1=false:=by decide
 rw [if_neg (by simp [e1]),if_neg (by simp [h1,e2]),if_pos rfl]
 simp [h2]
theorem tlen_consM (k t n ps r):tlen (consM k t n ps r)≤t.length + tlen ps + tlen r:=by
 unfold consM
 split
 ·split
  ·omega
  ·split
   ·simp [tlen]
   ·split
    ·simp only [tlen,List.length_append];omega
    ·simp only [tlen];omega
 ·simp [tlen]
theorem qvg:∀ f:Fo,tlen (qea f)≤tlen f
 | .nil=>Nat.le_refl _
 | .cons k t n ps r=>by
  have h1:=qvg ps
  have h2:=qvg r
  have h3:=tlen_consM k t n (qea ps) (qea r)
  simp only [qea,tlen];omega
theorem consM_nil {k t n ps r}:consM k t n ps r=.nil→k=1∧t=[]∧r=.nil:=by
 unfold consM
 intro h
 split at h
 ·split at h
  ·exact ⟨by assumption,by assumption,h⟩
  ·split at h
   ·cases h
   ·split at h <;> cases h
 ·cases h
theorem merge_nil {w:Bool}:∀ {f:Fo},okF w f→(qea f=.nil↔f=.nil)
 | .nil,_=>by simp [qea]
 | .cons k t n ps r,⟨h1,h2,h3⟩=>by
  constructor
  ·intro h
   obtain ⟨rfl,rfl,_⟩:=consM_nil h
   exact absurd rfl (qg1 h1).1
  ·intro h;cases h
theorem q89 {f:Fo}:f.len=0↔f=.nil:=⟨Fo.eq_nil_of_len,fun h=>by subst h;rfl⟩
theorem q32:∀ {w:Bool} {f:Fo},okF w f→tlen f≤65536→okF w (qea f)
 | _,.nil,_,_=>trivial
 | w,.cons k t n ps r,⟨h1,h2,h3⟩,hl=>by
  simp only [tlen] at hl
  have i2:=q32 h2 (by omega)
  have i3:=q32 h3 (by omega)
  have hlr:=qvg r
  have e1:qaf k t n (qea ps) false w=0:=qxj h1 (by rw [q89,q89,merge_nil h2])
  simp only [qea]
  unfold consM
  split
  ·rename_i hk
   subst hk
   split
   ·exact i3
   ·obtain ⟨ht,rfl,hps,hc⟩:=qg1 e1
    cases hr:qea r with
    | nil=>exact ⟨e1,i2,trivial⟩
    | cons k' t' n' ps' r' =>
     rw [hr] at i3 hlr
     simp only
     split
     ·rename_i hk'
      subst hk'
      obtain ⟨x1,x2,x3⟩:=i3
      obtain ⟨ht',_,_,hc'⟩:=qg1 x1
      simp only [tlen] at hlr
      rw [hps]
      refine ⟨q1h (by simp [ht]) (checkC_app hc hc' (by omega)),trivial,x3⟩
     ·exact ⟨e1,i2,i3⟩
  ·exact ⟨e1,i2,i3⟩
theorem qv4:∀ {w b:Bool} {f:Fo},okF w f→mgd b f→qea f=f
 | _,_,.nil,_,_=>rfl
 | w,b,.cons k t n ps r,⟨h1,h2,h3⟩,⟨m1,m2,m3⟩=>by
  simp only [qea,qv4 h2 m2,qv4 h3 m3]
  unfold consM
  split
  ·rename_i hk
   subst hk
   rw [if_neg (qg1 h1).1]
   cases r with
   | nil=>rfl
   | cons k' t' n' ps' r' =>
    simp only
    rw [if_neg]
    intro e
    exact m3.1 ⟨e,by simp⟩
  ·rfl
theorem q6h {k t n ps r} (h:k=1→ps=.nil) (hr:∀ k' t' n' ps' r',r=.cons k' t' n' ps' r'→k'=1→ps'=.nil):qq (consM k t n ps r)=(if brkF k then .one k t n ps else qq ps).app (qq r):=by
 unfold consM
 split
 ·rename_i hk
  have hps:=h hk
  subst hk hps
  have e:brkF 1=false:=by decide
  simp only [e,Bool.false_eq_true,if_false]
  split
  ·rfl
  ·cases r with
   | nil=>rfl
   | cons k' t' n' ps' r' =>
    simp only
    split
    ·rename_i hk'
     have:=hr _ _ _ _ _ rfl hk'
     subst hk' this
     simp only [qq,e,Bool.false_eq_true,if_false,Fo.nil_app]
    ·simp only [qq,e,Bool.false_eq_true,if_false,Fo.nil_app]
 ·rfl
theorem textnil {w:Bool} {k t n ps r} (h:okF w (.cons k t n ps r)) (hk:k=1):ps=.nil:=by subst hk;exact (qg1 h.1).2.2.1
theorem qne:∀ {w:Bool} {f:Fo},okF w f→tlen f≤65536→qq (qea f)=qq f
 | _,.nil,_,_=>rfl
 | w,.cons k t n ps r,h,hl=>by
  have hl':=hl
  simp only [tlen] at hl
  have m3:=q32 h.2.2 (by omega)
  simp only [qea]
  rw [q6h,qne h.2.2 (by omega),qne h.2.1 (by omega),qq]
  ·congr 1
   by_cases hb:brkF k=true
   ·have hok:=qsd h.1
    have:qao k=false:=by simp only [brkF,decide_eq_true_eq] at hb;unfold qao;simp;omega
    have e:=Fo.eq_nil_of_len (hok.2.2.2.2.1 this)
    subst e;rfl
   ·simp [hb]
  ·intro hk;rw [textnil h hk];rfl
  ·intro k' t' n' ps' r' e hk';rw [e] at m3;exact textnil m3 hk'
theorem qt4:∀ {w:Bool} {f:Fo},okF w f→okF w (qq f)
 | _,.nil,_=>trivial
 | w,.cons k t n ps r,⟨h1,h2,h3⟩=>by
  simp only [qq]
  rw [q7p]
  refine ⟨?_,qt4 h3⟩
  split
  ·exact ⟨h1,h2,trivial⟩
  ·exact qgy (qt4 h2)
theorem part_ok {w:Bool} {k t n ps ps'} (h:qaf k t n ps false w=0) (h0:ps.len≠0) (h2:okF true ps'):okF w (partF k t n ps'):=by
 unfold partF
 split
 ·trivial
 ·exact ⟨qxj h (by omega),h2,trivial⟩
theorem qvz:∀ {w:Bool} {f:Fo} (hand:Int) (adv:Bool),okF w f→okF w (qau f hand adv)
 | _,.nil,_,_,_=>trivial
 | w,.cons k t n ps r,hand,adv,⟨h1,h2,h3⟩=>by
  have hp:=(qsd h1).2.2.2.2.2
  have pk:k=7∨k=8∨k=9∨k=10∨k=11→ps.len≠0:=fun h=>by have:=hp (by unfold qao;simp;omega);omega
  have i2:=qvz hand adv h2
  simp only [qau]
  rw [q7p]
  refine ⟨?_,qvz hand adv h3⟩
  split
  ·exact qgy (qt4 h2)
  split
  ·exact qgy i2
  split
  ·exact part_ok h1 (pk (by omega)) i2
  split
  ·exact qgy (qt4 h2)
  split
  ·exact qgy i2
  split
  ·exact part_ok h1 (pk (by omega)) i2
  ·exact ⟨h1,h2,trivial⟩
theorem qqq:∀ f:Fo,good f→(qbo f).length≤30 * f.size + tlen f
 | .nil,_=>by simp [qbo]
 | .cons k t n ps r,⟨h1,h2,h3⟩=>by
  have i2:=qqq ps h2
  have i3:=qqq r h3
  have ht:=q3e h1.1 h1.2.1
  have hv:(valF k t n).length≤t.length + 3:=by
   unfold valF
   split
   ·simp
   ·split
    ·rename_i hn
     have:=qc0 n.toNat (by have:=h1.2.2.1 hn;omega)
     simp only [List.length_cons];omega
    ·simp
  simp only [qbo,List.length_append,Fo.size,tlen]
  unfold nodeF
  split
  ·omega
  ·split
   ·simp only [List.length_append,List.length_cons,List.length_nil];omega
   ·simp only [List.length_append,List.length_cons,List.length_nil];omega
structure FineF (f:Fo):Prop where
 size:f.size≤24
 tl:tlen f≤192
 depth:f.depth≤6
 ok:okF false f
 m:mgd false f
theorem FineF.check {f:Fo} (h:FineF f):qec f=0:=by
 unfold qec
 have h1:=h.size
 have h2:=h.tl
 have h3:=h.depth
 have ha:allF f false false=0:=(qnr f false false).2 ⟨h.ok,h.m⟩
 have hp:=qqq f (qs4 h.ok)
 rw [if_pos (by omega),ha]
 simp;omega
theorem FineF.small {f:Fo} (h:FineF f):small f:=by have:=h.size;unfold Go.Proofs.small;omega
theorem qgu:∀ f:Fo,qq (qq f)=qq f
 | .nil=>rfl
 | .cons k t n ps r=>by
  simp only [qq,q0o,qgu r]
  congr 1
  split
  ·rename_i h;simp [Fo.one,qq,h]
  ·exact qgu ps
theorem q0n {k t n ps} (h:brkF k=false):qq (partF k t n ps)=qq ps:=by
 unfold partF
 split
 ·rename_i h0;have e:=Fo.eq_nil_of_len h0;subst e;rfl
 ·simp [Fo.one,qq,h]
theorem qiu:∀ (f:Fo) (hand:Int) (adv:Bool),qq (qau f hand adv)=qq f
 | .nil,_,_=>rfl
 | .cons k t n ps r,hand,adv=>by
  have h1:=qiu ps hand adv
  have h2:=qiu r hand adv
  have nb:k=7∨k=8∨k=9∨k=10∨k=11→brkF k=false:=fun h=>by unfold brkF;simp;omega
  simp only [qau,q0o,h2]
  rw [show qq (.cons k t n ps r)=(if brkF k then .one k t n ps else qq ps).app (qq r) from rfl]
  congr 1
  split
  ·rename_i h;rw [nb (by omega),qgu];rfl
  split
  ·rename_i h;rw [nb (by omega),h1];rfl
  split
  ·rename_i h;rw [q0n (nb (by omega)),nb (by omega),h1];rfl
  split
  ·rename_i h;rw [nb (by omega),qgu];rfl
  split
  ·rename_i h;rw [nb (by omega),h1];rfl
  split
  ·rename_i h;rw [q0n (nb (by omega)),nb (by omega),h1];rfl
  ·simp [Fo.one,qq]
end Go.Proofs
namespace Go.Proofs
open Go Go.Sh Go.RowKit
theorem FineF.breaks {f:Fo} (h:FineF f) (hand:Int) (adv:Bool):qq (q52 (qau f hand adv))=qq f:=by
 have:=h.tl
 have h2:=ql7 f hand adv
 rw [qz0,qne (qvz hand adv h.ok) (by omega),qiu]
end Go.Proofs
namespace Go.Sh
open Go Go.RowKit
theorem qi6:∀ (vs cs:List Value) (o i:Nat),(putAt cs o vs)[i]? = if o≤i∧i < o + vs.length∧i < cs.length then vs[i - o]? else cs[i]?
 | [],cs,o,i=>by
  rw [if_neg (by simp;omega)];rfl
 | v :: vs,cs,o,i=>by
  rw [putAt,qi6 vs (cs.set o v) (o + 1) i]
  simp only [List.length_set,List.length_cons]
  by_cases h1:o + 1≤i∧i < o + 1 + vs.length∧i < cs.length
  ·rw [if_pos h1,if_pos (by omega),show i - o=(i - (o + 1)) + 1 by omega,List.getElem?_cons_succ]
  ·rw [if_neg h1]
   by_cases h2:i=o
   ·subst h2
    by_cases h3:i < cs.length
    ·rw [if_pos (by omega)];simp [h3]
    ·rw [if_neg (by omega)];rw [List.getElem?_eq_none (by simp;omega),List.getElem?_eq_none (by omega)]
   ·rw [List.getElem?_set_ne (Ne.symm h2)]
    rw [if_neg (by omega)]
theorem putAt_last {cs xs zs vs:List Value} {m:Nat} (h:cs.take m=xs++zs) (hl:zs.length=vs.length) (hm:xs.length + vs.length=m) (hc:m≤cs.length):(putAt cs xs.length vs).take m=xs++vs:=by
 apply List.ext_getElem?
 intro i
 have hp:=qi6 vs cs xs.length i
 have hg:i < m→cs[i]? = (xs++zs)[i]?:=fun hi=>by rw [← h,List.getElem?_take,if_pos hi]
 rw [List.getElem?_take]
 by_cases hi:i < m
 ·rw [if_pos hi,hp]
  by_cases h1:xs.length≤i
  ·rw [if_pos ⟨h1,by omega,by omega⟩,List.getElem?_append_right h1]
  ·rw [if_neg (by omega),hg hi,List.getElem?_append_left (by omega),List.getElem?_append_left (by omega)]
 ·rw [if_neg hi,List.getElem?_eq_none (by simp;omega)]
theorem Owns.storeLast {w:World} {B:Nat} {e:TypeId} {size:Nat} {a:Option Addr} {n c:Nat} {xs zs vs:List Value} (h:Owns w B e size a (n + 1) c (xs++zs)) (hz:zs.length=size) (hv:vs.length=size) (h1:∀ v∈vs,v.oneCell'=true) :
  ∃ g:Nat,a=some ⟨g,0,none⟩∧(∀ K:Addr→Prop,K ⟨g,n * size,none⟩→idx a (n + 1) (n:Int) size K) ∧
   ∀ K:World→Prop,(∀ w',Owns w' B e size a (n + 1) c (xs++vs)→Chg (Sh.bk a) w w'→w'.heap.size=w.heap.size→K w')→stL w ⟨g,n * size,none⟩ 0 vs K:=by
 have hl:=h.1
 simp only [List.length_append,hz,Nat.add_mul,Nat.one_mul] at hl
 rcases h.2 with h | ⟨g,cap,cur,e1,e2,e3,e4,e5,e6,e7⟩
 ·omega
 obtain ⟨rfl,_,rfl⟩:a=some ⟨g,0,none⟩∧True∧c=cap:=by simpa using e1
 have hB:Blk w g cur.toList e:=e3
 have hcl:cur.toList.length=c * size:=by simpa using e6
 have hxl:(n + 1) * size≤cur.toList.length:=by rw [hcl];exact Nat.mul_le_mul_right _ e4
 have hxe:xs.length=n * size:=by omega
 refine ⟨g,rfl,fun K hK=>⟨by omega,by omega,?_⟩,fun K hK=>?_⟩
 ·show K _
  rw [qe,Int.toNat_natCast,Nat.zero_add];exact hK
 refine qa7 hB (by rw [hv];have:(n + 1) * size=n * size + size:=(by rw [Nat.add_mul,Nat.one_mul]);omega) h1 fun w' b1 b2 b3 b4 b5 b6=>?_
 have hc:Chg (Sh.bk (some (⟨g,0,none⟩:Addr))) w w':=⟨b4,b5,b6,by omega,fun k' _ hk=>b2 k' fun e=>hk (by simp [Sh.bk,e])⟩
 refine hK w' ⟨by simp only [List.length_append,hv,Nat.add_mul,Nat.one_mul];omega,.inr ⟨g,c,⟨_⟩,rfl,e2,b1,e4,e5,?_,?_⟩⟩ hc b3
 ·have:=q5w vs cur.toList (n * size + 0)
  simp only [List.size_toArray];rw [this];exact hcl
 ·show (putAt cur.toList (n * size + 0) vs).take _=_
  rw [Nat.add_zero,← hxe]
  refine putAt_last e7 (by omega) ?_ hxl
  rw [hxe,hv,Nat.add_mul,Nat.one_mul]
end Go.Sh
namespace Go.Proofs
open Go Go.Sh Go.RowKit
def mostN (l:List Nn):Int:=l.foldl (fun m x=>if x.k=8∨x.k=9 then max m x.n else m) 0
theorem Ext.upd {w W1 W2:World} {l:Nat} (h:Ext w W1) (hU:Upd l W1 W2) (hl:w.heap.size≤l):Ext w W2:=qg7 h (q3c hU hl) (Nat.le_refl _)
def RowsN:List Nn→List Value→Prop
 | [],xs=>xs=[]
 | x :: l,xs=>∃ a m c xs',xs=.int .i64 x.k :: .string ⟨⟨x.t⟩⟩ :: .int .i64 x.n :: .slice a m c :: xs'∧RowsN l xs'
theorem RowsN.get {x:Nn}:∀ {l:List Nn} {xs:List Value} {i:Nat},RowsN l xs→l[i]? = some x →
  ∃ a m c,xs[4 * i]? = some (.int .i64 x.k)∧xs[4 * i + 1]? = some (.string ⟨⟨x.t⟩⟩)∧xs[4 * i + 2]? = some (.int .i64 x.n)∧xs[4 * i + 3]? = some (.slice a m c)
 | [],xs,i,_,hi=>by simp at hi
 | y :: l,xs,0,⟨a,m,c,xs',e,h⟩,hi=>by
  simp at hi;subst hi;subst e
  exact ⟨a,m,c,rfl,rfl,rfl,rfl⟩
 | y :: l,xs,i + 1,⟨a,m,c,xs',e,h⟩,hi=>by
  subst e
  simp at hi
  obtain ⟨a',m',c',h0,h1,h2,h3⟩:=RowsN.get h hi
  exact ⟨a',m',c',h0,h1,h2,h3⟩
def clean:Fo→Prop
 | .nil=>True
 | .cons k _ _ ps r=>¬ (k=8∨k=9)∧clean ps∧clean r
theorem q0h:∀ {f g:Fo},clean (f.app g)↔clean f∧clean g
 | .nil,g=>by simp [clean]
 | .cons k t n ps r,g=>by simp only [Fo.cons_app,clean,q0h (f:=r),and_assoc]
theorem qm2:∀ {f:Fo},good f→clean (qq f)
 | .nil,_=>trivial
 | .cons k t n ps r,⟨h1,h2,h3⟩=>by
  simp only [qq,q0h]
  refine ⟨?_,qm2 h3⟩
  split
  ·rename_i hb
   have hk:k=2∨k=3∨k=4:=by simpa [brkF] using hb
   have:=Fo.eq_nil_of_len (h1.2.2.2.2.1 (by unfold qao;simp;omega))
   subst this
   exact ⟨by omega,trivial,trivial⟩
  ·exact qm2 h2
theorem clean_part {k t n ps} (h:¬ (k=8∨k=9)) (hp:clean ps):clean (partF k t n ps):=by
 unfold partF
 split
 ·trivial
 ·exact ⟨h,hp,trivial⟩
theorem qks (hand:Int):∀ {f:Fo},good f→clean (qau f hand false)
 | .nil,_=>trivial
 | .cons k t n ps r,⟨h1,h2,h3⟩=>by
  have i2:=qks hand h2
  have ib:=qm2 h2
  simp only [qau,q0h]
  refine ⟨?_,qks hand h3⟩
  split
  ·exact ib
  split
  ·exact i2
  split
  ·rename_i h;simp at h
  split
  ·exact ib
  split
  ·exact i2
  split
  ·exact clean_part (by omega) i2
  ·have hp:qao k=false:=by have:=h1.1;have:=h1.2.1;unfold qao;simp;omega
   have:=Fo.eq_nil_of_len (h1.2.2.2.2.1 hp)
   subst this
   exact ⟨by omega,trivial,trivial⟩
theorem q72 {k t n ps r} (h:¬ (k=8∨k=9)) (hp:clean ps) (hr:clean r):clean (consM k t n ps r):=by
 unfold consM
 split
 ·split
  ·exact hr
  ·split
   ·exact ⟨h,hp,trivial⟩
   ·split
    ·exact ⟨h,hp,hr.2.2⟩
    ·exact ⟨h,hp,hr⟩
 ·exact ⟨h,hp,hr⟩
theorem qqz:∀ {f:Fo},clean f→clean (qea f)
 | .nil,_=>trivial
 | .cons k t n ps r,⟨h1,h2,h3⟩=>q72 h1 (qqz h2) (qqz h3)
theorem qkh (hand:Int) (adv:Bool):∀ {f:Fo},good f→clean f→qau f hand adv=f
 | .nil,_,_=>rfl
 | .cons k t n ps r,⟨g1,g2,g3⟩,⟨h1,h2,h3⟩=>by
  simp only [qau,qkh hand adv g2 h2,qkh hand adv g3 h3]
  rw [if_neg (by omega),if_neg (by omega),if_neg (by omega),if_neg (by omega),if_neg (by omega)]
  split
  ·rename_i h
   have:=g1.2.2.2.2.2 (by unfold qao;simp;omega)
   unfold partF
   rw [if_neg (by omega)];rfl
  ·rfl
theorem FineF.clean {f:Fo} (h:FineF f) (hand:Int):clean (q52 (qau f hand false)):=by
 rw [qz0];exact qqz (qks hand (qs4 h.ok))
theorem FineF.again {f:Fo} (h:FineF f) (hc:Proofs.clean f) (hand:Int) (adv:Bool):q52 (qau f hand adv)=f:=by
 rw [qkh hand adv (qs4 h.ok) hc,qz0];exact qv4 h.ok h.m
end Go.Proofs
