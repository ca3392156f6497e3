/- A calculus of verification conditions over the model's code, and its soundness: what a function's condition gives is a theorem on its calls. -/
import Derived.Test.YtkecgnlelgdndaaGreatDoorVcB
import Derived.WalkSpells
import Derived.RangeFuncIn
set_option linter.all false
namespace Go.Sh
open Go
def packV:List Value→Value
 | [v]=>v
 | vs=>.tuple ⟨vs⟩
def resL (P:Program) (w:World) (env:Env):List ResultVar→(List Value→Prop)→Prop
 | [],K=>K []
 | .tmp t :: l,K=>resL P w env l fun vs=>K (env t :: vs)
 | .cell a T :: l,K=>match env a,qpm P T,Nat.beq (qj9 P 8 T).length (P.cellsOf T),qb8 P T with
  | .pointer a',some _,true,true=>dr a' fun p=>ld1 w p (sh1Of P T) fun v=>resL P w env l fun vs=>K (v :: vs)
  | _,_,_,_=>False
def retD (ds:List Deferred) (w:World) (K:World→Prop):Prop:=match ds with
 | []=>K w
 | d :: ds=>∃ D,d.target=.collected D∧w.heap[D]? = some (.deferred (some []))∧retD ds (w.putObj D (.deferred none)) K
def retQ (P:Program) (fn:Func) (R:Ending→World→Prop):Qt:=fun e env ds w=>match e with
 | .normal=>retD ds w fun w'=>resL P w' env fn.results.toList fun vs=>R (.returned (packV vs)) w'
 | .ret=>retD ds w fun w'=>resL P w' env fn.results.toList fun vs=>R (.returned (packV vs)) w'
 | _=>False
def initE (args:List Value):Env:=fun t=>match args[t]? with
 | some v=>v
 | none=>undef
def fnV (P:Program) (fn:Func) (x:Ann) (args:List Value) (R:Ending→World→Prop) (w:World):Prop :=
 match fn.body with
 | some c=>vc P none (args.length + (fn.ntmps - args.length)) x c (retQ P fn R) (initE args) [] w
 | none=>False
section
variable {P:Program}
def resG (tmps:Array Value):ResultVar→Sem Value
 | .tmp t=>pure (tmps.getD t undef)
 | .cell b t=>do loadVar t (← asAddr (tmps.getD b undef))
theorem resG_tmp (tmps:Array Value) (t:Tmp):resG tmps (.tmp t)=pure (tmps.getD t undef):=rfl
theorem resG_cell (tmps:Array Value) (b:Tmp) (t:TypeId):resG tmps (.cell b t)=(asAddr (tmps.getD b undef)).bind fun x=>loadVar t x:=rfl
theorem results_eq (fn:Func) (tmps:Array Value):results fn tmps=(do let vs ← fn.results.mapM (resG tmps);pure (if h:vs.size=1 then vs[0] else .tuple vs)):=by
 unfold results
 congr 2
theorem q3h {N:Nat} {env:Env} {a:Act} {w:World} (hr:Rep N env a):∀ {l:List ResultVar} {K:List Value→Prop},resL P w env l K →
  ∃ vs,(l.mapM (resG a.tmps)).run P w=.ok vs w∧K vs
 | [],K,h=>⟨[],by simp,h⟩
 | .tmp t :: l,K,h=>by
  obtain ⟨vs,h1,h2⟩:=q3h hr (l:=l) h
  refine ⟨_,?_,h2⟩
  simp only [List.mapM_cons,Sem.run_bind,Sem.run_pure,Result.andThen_ok,resG_tmp,h1,hr.2 t]
 | .cell b T :: l,K,h=>by
  simp only [resL] at h
  split at h
  ·rename_i a' b' hb hag hl hi
   obtain ⟨p,rfl,h1⟩:=qdb h
   obtain ⟨v,h2,h3⟩:=ld_run hag hl hi h1
   obtain ⟨vs,h4,h5⟩:=q3h hr (l:=l) h3
   refine ⟨_,?_,h5⟩
   have e:a.tmps.getD b undef=.pointer (some p):=(hr.2 b).trans hb
   have e2:(resG a.tmps (.cell b T)).run P w=.ok v w:=by
    rw [resG_cell,e]
    show ((asAddr (.pointer (some p)) >>= fun x=>loadVar T x):Sem Value).run P w=_
    simp only [Sem.run_bind,asAddr,Sem.run_pure,Result.andThen_ok,h2]
   simp only [List.mapM_cons,Sem.run_bind,Sem.run_pure,Result.andThen_ok,e2,h4]
  ·exact h.elim
theorem res_run {N:Nat} {env:Env} {a:Act} {w:World} (hr:Rep N env a) {fn:Func} {K:List Value→Prop} (h:resL P w env fn.results.toList K) :
  ∃ vs,(results fn a.tmps).run P w=.ok (packV vs) w∧K vs:=by
 obtain ⟨vs,h1,h2⟩:=q3h hr h
 refine ⟨vs,?_,h2⟩
 rw [results_eq,Array.mapM_eq_mapM_toList]
 simp only [Sem.run_bind,Sem.run_map,Sem.run_pure,h1,Result.andThen_ok]
 congr 1
 match vs with
 | []=>rfl
 | [v]=>rfl
 | _ :: _ :: _=>simp [packV]
theorem qxm {fn:Func} {tmps:Array Value} {R:Ending→World→Prop} {K:World→Prop} (hK:∀ w,K w→∃ v,(results fn tmps).run P w=.ok v w∧R (.returned v) w) :
  ∀ (ds:List Deferred) (w:World),retD ds w K→LeavesInM Fence.wide 0 P fn tmps R ds .returning w
 | [],w,h=>hK w h
 | d :: ds,w,h=>by
  obtain ⟨D,h1,h2,h3⟩:=h
  exact ⟨by simp,.inl ⟨D,_,h1,run_takeDeferred h2,qxm hK ds _ h3⟩⟩
theorem qe {f:FuncId} {fn:Func} {x:Ann} {args:List Value} {R:Ending→World→Prop} {w:World} (hf:P.funcs[f]? = some fn) (h:fnV P fn x args R w) :
  Calls P f ⟨args⟩ w R:=by
 unfold fnV at h
 cases hb:fn.body with
 | none=>rw [hb] at h;exact h.elim
 | some c =>
  rw [hb] at h
  simp only at h
  refine (callsIn_wide (n:=0)).1 (callsIn_of_wp_marks hf hb trivial ?_)
  have hr:Rep (args.length + (fn.ntmps - args.length)) (initE args) { tmps:=(⟨args⟩:Array Value)++Array.replicate (fn.ntmps - (⟨args⟩:Array Value).size) undef,defers:=[] }:=by
   refine ⟨by simp,fun t=>?_⟩
   simp only [initE,Array.getD_eq_getD_getElem?]
   by_cases ht:t < args.length
   ·have e:args[t]? = some args[t]:=by simp [ht]
    rw [e,Array.getElem?_append_left (by simpa using ht)]
    simp [ht]
   ·have e:args[t]? = none:=by simp;omega
    rw [e,Array.getElem?_append_right (by simp;omega)]
    simp only [Array.getElem?_replicate]
    split <;> rfl
  have hs:=qia (r:=none) x c h hr rfl
  have e:Fr none=Fence.wide:=rfl
  rw [e] at hs
  refine wpIn_mono hs fun ex a' w' hh=>?_
  obtain ⟨env',h1,h2,h3⟩:=hh
  cases ex with
  | normal=>exact qxm (K:=fun w'=>resL P w' env' fn.results.toList fun vs=>R (.returned (packV vs)) w') (fun w hk=>by
    obtain ⟨vs,k1,k2⟩:=res_run h1 hk;exact ⟨_,k1,k2⟩) _ _ h2
  | ret=>exact qxm (K:=fun w'=>resL P w' env' fn.results.toList fun vs=>R (.returned (packV vs)) w') (fun w hk=>by
    obtain ⟨vs,k1,k2⟩:=res_run h1 hk;exact ⟨_,k1,k2⟩) _ _ h2
  | exit i=>exact h2.elim
  | goto l=>exact h2.elim
  | panic c=>exact h2.elim
  | outgrown=>exact h2.elim
end
def cdGo:Code→List Nat→Code
 | c,[]=>c
 | .seq a _,0 :: p=>cdGo a p
 | .seq _ b,1 :: p=>cdGo b p
 | .block _ a,2 :: p=>cdGo a p
 | .loop a,2 :: p=>cdGo a p
 | .cond _ a _,3 :: p=>cdGo a p
 | .cond _ _ b,4 :: p=>cdGo b p
 | .rangeFunc _ _ a _,5 :: p=>cdGo a p
 | .rangeFunc _ _ _ b,6 :: p=>cdGo b p
 | _,_=>.skip
def cdAt (f:Func) (p:List Nat):Code:=match f.body with
 | some c=>cdGo c p
 | none=>.skip
end Go.Sh
namespace Go.Sh
open Go Go.RowKit
@[simp] theorem br_t (A B:Prop):br true A B=A:=rfl
@[simp] theorem br_f (A B:Prop):br false A B=B:=rfl
theorem br_pos {p:Prop} [Decidable p] {A B:Prop} (h:p) (a:A):br (decide p) A B:=by simp [h,a]
theorem br_neg {p:Prop} [Decidable p] {A B:Prop} (h:¬ p) (b:B):br (decide p) A B:=by simp [h,b]
theorem qd {p:Prop} [Decidable p] {A B:Prop} (a:p→A) (b:¬ p→B):br (decide p) A B:=by
 by_cases h:p
 ·exact br_pos h (a h)
 ·exact br_neg h (b h)
theorem ql {b:Bool} {A B:Prop} (h1:b=true→A) (h2:b=false→B):br b A B:=by
 cases b
 ·exact h2 rfl
 ·exact h1 rfl
theorem br_K (g x y:Bool) (K:Bool→World→Prop) (w:World):br g (K x w) (K y w)=K (cond g x y) w:=by cases g <;> rfl
theorem qu {n:Int} (h:-9223372036854775808≤n∧n≤9223372036854775807):IntKind.i64.wrap n=n:=IntWalk.i64_in n (by omega)
theorem qb3 {l:List UInt8} {k:Nat} {K:UInt8→Prop} (h:k < l.length) (hK:K l[k]):sidx l (k:Int) K :=
 ⟨by omega,l[k],by simp [h],hK⟩
theorem qvv {l:List UInt8} {i:Int} {K:UInt8→Prop} (k:Nat) (hi:i=k) (h:k < l.length) (hK:K l[k]):sidx l i K:=by
 subst hi;exact qb3 h hK
theorem qgy {l:List UInt8} {i j:Nat} {K:List UInt8→Prop} (h:i≤j) (h2:j≤l.length) (hK:K ((l.take j).drop i)):ssl l (i:Int) (j:Int) K :=
 ⟨by omega,by omega,by omega,by simpa using hK⟩
section
variable {P:Program} {f:FuncId} {args:Array Value} {w:World}
end
theorem qg (b o k:Nat):(⟨b,o,none⟩:Addr).add k=⟨b,o + k,none⟩:=by
 unfold Addr.add;split
 ·rename_i h;simp [h]
 ·rfl
def Blk (w:World) (b:Nat) (cs:List Value) (T:TypeId):Prop:=w.heap[b]? = some (.cells ⟨cs⟩ T (0,0))
abbrev Ext (w w':World):Prop:=Below w.heap.size w w'
theorem Blk.cell {w:World} {b:Nat} {cs:List Value} {T:TypeId} (h:Blk w b cs T) (i:Nat):w.cell? ⟨b,i,none⟩=cs[i]?:=by
 simp [World.cell?,show w.heap[b]? = _ from h]
theorem Blk.frozen {w:World} {b:Nat} {cs:List Value} {T:TypeId} (h:Blk w b cs T) (i:Nat):w.frozen? ⟨b,i,none⟩=false:=by
 simp [World.frozen?,show w.heap[b]? = _ from h]
theorem Blk.lt {w:World} {b:Nat} {cs:List Value} {T:TypeId} (h:Blk w b cs T):b < w.heap.size:=(Array.getElem?_eq_some_iff.1 h).1
theorem Blk.new (w:World) (cs:List Value) (T:TypeId):Blk (w.alloc (.cells ⟨cs⟩ T)) w.heap.size cs T:=by
 exact heap_alloc_new w _
theorem Blk.keep {w w':World} {b:Nat} {cs:List Value} {T:TypeId} (h:Blk w b cs T) (hw:w'.heap[b]? = w.heap[b]?):Blk w' b cs T:=by
 unfold Blk at *;rw [hw];exact h
theorem Blk.ext {w w':World} {b:Nat} {cs:List Value} {T:TypeId} (h:Blk w b cs T) (hw:Ext w w'):Blk w' b cs T:=h.keep (hw.block b h.lt)
theorem Blk.set {w:World} {b:Nat} {cs:List Value} {T:TypeId} (h:Blk w b cs T) (i:Nat) (v:Value):Blk (w.setCell ⟨b,i,none⟩ v) b (cs.set i v) T:=by
 unfold Blk at *
 simp [World.setCell,Array.getElem?_modify,h]
theorem qae {P':World→Prop} {T:TypeId}:∀ {vs cs:List Value} {w:World} {b o i:Nat},Blk w b cs T→o + i + vs.length≤cs.length→(∀ v∈vs,v.oneCell'=true) →
  (∀ w',Blk w' b (putAt cs (o + i) vs) T→(∀ k,k≠b→w'.heap[k]? = w.heap[k]?)→w'.heap.size=w.heap.size→w'.os=w.os→w'.tape=w.tape→w'.output=w.output→P' w')→stL w ⟨b,o,none⟩ i vs P'
 | [],cs,w,b,o,i,h,_,_,hk=>hk w h (fun _ _=>rfl) rfl rfl rfl rfl
 | v :: vs,cs,w,b,o,i,h,hl,ho,hk=>by
  simp only [List.length_cons] at hl
  have hi:o + i < cs.length:=by omega
  refine ⟨?_,?_,ho v (by simp),?_⟩
  ·rw [qg,h.cell];exact ⟨cs[o + i],by simp [hi]⟩
  ·rw [qg];exact h.frozen _
  ·rw [qg]
   refine qae (h.set (o + i) v) (by simp;omega) (fun u hu=>ho u (by simp [hu])) fun w' h1 h2 h3 h4 h5 h6=>?_
   refine hk w' (by rw [putAt];exact h1) (fun k hkb=>(h2 k hkb).trans ?_) (h3.trans (by simp)) (h4.trans rfl) (h5.trans rfl) (h6.trans rfl)
   simp only [World.setCell,Array.getElem?_modify]
   rw [if_neg (fun e=>hkb e.symm)]
theorem qh {w:World} {T:TypeId} {cs:List Value} {K:Addr→World→Prop}
  (h:∀ b w',b=w.heap.size→Blk w' b cs T→Ext w w'→w'.heap.size=b + 1→K ⟨b,0,none⟩ w'):al w T cs K:=by
 refine h _ _ rfl (Blk.new w cs T) ((Below.refl _ w).alloc (Nat.le_refl _) _) (by simp)
theorem qw {w:World} {T:TypeId} {cs vs:List Value} {K:Addr→World→Prop} (hl:vs.length=cs.length) (ho:∀ v∈vs,v.oneCell'=true)
  (h:∀ b w',b=w.heap.size→Blk w' b vs T→Ext w w'→w'.heap.size=b + 1→K ⟨b,0,none⟩ w') :
  al w T cs fun p w1=>stL w1 p 0 vs fun w2=>K p w2:=by
 refine qh fun b w1 hb h1 h2 h3=>?_
 refine qae h1 (by simp [hl]) ho fun w' g1 g2 g3 g4 g5 g6=>?_
 have e:putAt cs 0 vs=vs:=by
  apply List.ext_getElem?
  intro i
  have:=qju vs cs 0 i
  rw [this]
  by_cases hi:i < vs.length
  ·rw [if_pos (by omega)];simp
  ·rw [if_neg (by omega)]
   rw [List.getElem?_eq_none (by omega),List.getElem?_eq_none (by omega)]
 simp only [Nat.zero_add] at g1
 rw [e] at g1
 exact h b w' hb g1 (h2.trans ⟨g4,g5,g6,by omega,fun k hk=>g2 k (by omega)⟩) (by omega)
 where
 qju:∀ (vs cs:List Value) (o i:Nat),(putAt cs o vs)[i]? = if o≤i∧i < o + vs.length∧i < cs.length then vs[i - o]? else cs[i]?
 | [],cs,o,i=>by
  rw [if_neg (by simp;omega)];rfl
 | v :: vs,cs,o,i=>by
  rw [putAt,qju vs (cs.set o v) (o + 1) i]
  simp only [List.length_set,List.length_cons]
  by_cases h1:o + 1≤i∧i < o + 1 + vs.length∧i < cs.length
  ·rw [if_pos h1,if_pos (by omega),show i - o=(i - (o + 1)) + 1 by omega,List.getElem?_cons_succ]
  ·rw [if_neg h1]
   by_cases h2:i=o
   ·subst h2
    by_cases h3:i < cs.length
    ·rw [if_pos (by omega)];simp [h3]
    ·rw [if_neg (by omega)];rw [List.getElem?_eq_none (by simp;omega),List.getElem?_eq_none (by omega)]
   ·rw [List.getElem?_set_ne (Ne.symm h2)]
    rw [if_neg (by omega)]
end Go.Sh
namespace Go.Sh
open Go Go.RowKit
structure Chg (S:Nat→Prop) (W W':World):Prop where
 os:W'.os=W.os
 tape:W'.tape=W.tape
 output:W'.output=W.output
 size:W.heap.size≤W'.heap.size
 block:∀ k,k < W.heap.size→¬ S k→W'.heap[k]? = W.heap[k]?
theorem Chg.refl (S:Nat→Prop) (W:World):Chg S W W:=⟨rfl,rfl,rfl,Nat.le_refl _,fun _ _ _=>rfl⟩
theorem Chg.trans {S:Nat→Prop} {A B C:World} (h:Chg S A B) (k:Chg S B C):Chg S A C :=
 ⟨k.os.trans h.os,k.tape.trans h.tape,k.output.trans h.output,Nat.le_trans h.size k.size,fun i hi hs=>(k.block i (Nat.lt_of_lt_of_le hi h.size) hs).trans (h.block i hi hs)⟩
theorem Chg.mono {S S':Nat→Prop} {A B:World} (h:Chg S A B) (hs:∀ k,k < A.heap.size→S k→S' k):Chg S' A B :=
 ⟨h.os,h.tape,h.output,h.size,fun k hk hn=>h.block k hk fun hh=>hn (hs k hk hh)⟩
theorem Chg.of_ext {S:Nat→Prop} {A B:World} (h:Ext A B):Chg S A B:=⟨h.os,h.tape,h.output,h.size,fun k hk _=>h.block k hk⟩
theorem Chg.put {S:Nat→Prop} (W:World) (l:Nat) (o:Obj) (hl:S l):Chg S W (W.putObj l o) :=
 ⟨rfl,rfl,rfl,by simp,fun k _ hk=>World.putObj_heap_other fun e=>hk (e ▸ hl)⟩
theorem Chg.drew {S:Nat→Prop} (W:World):Chg S W W.drew:=⟨rfl,rfl,rfl,Nat.le_refl _,fun _ _ _=>rfl⟩
theorem Chg.blk {S:Nat→Prop} {A C:World} (h:Chg S A C) {b:Nat} {cs:List Value} {T:TypeId} (hb:Blk A b cs T) (hs:¬ S b):Blk C b cs T:=hb.keep (h.block b hb.lt hs)
def IterSpec {α:Type} (P:Program) (gf:FuncId) (cap:List Value) (xs:List α) (enc:α→List Value) (Rd:Nat→Prop) (w:World):Prop :=
 ∀ (yf:Fn) (ya yb:Array Value) (S:Nat→Prop) (J:List α→World→Prop) (Jx:World→Prop) (R:Ending→World→Prop),
  (∀ k,S k→k < w.heap.size∧¬ Rd k) →
  (∀ pre W W',J pre W→Chg (fun k=>w.heap.size≤k) W W'→J pre W')→(∀ W W',Jx W→Chg (fun k=>w.heap.size≤k) W W'→Jx W') →
  (∀ pre x W,pre++[x] <+: xs→w.heap.size≤W.heap.size→J pre W→CallV P (.func yf ya yb) (enc x) W fun e W'=>Chg S W W'∧((e=.returned (.bool true)∧J (pre++[x]) W')∨(e=.returned (.bool false)∧Jx W'))) →
  J [] w→(∀ W,w.heap.size≤W.heap.size→J xs W→R (.returned (.tuple ⟨[]⟩)) W)→(∀ W,w.heap.size≤W.heap.size→Jx W→R (.returned (.tuple ⟨[]⟩)) W) →
  Calls P gf ⟨.func yf ya yb :: cap⟩ w R
structure Upd (l:Nat) (W W':World):Prop where
 os:W'.os=W.os
 tape:W'.tape=W.tape
 output:W'.output=W.output
 size:W'.heap.size=W.heap.size
 block:∀ k,k≠l→W'.heap[k]? = W.heap[k]?
theorem Upd.put (l:Nat) (W:World) (o:Obj):Upd l W (W.putObj l o):=⟨rfl,rfl,rfl,by simp,fun k hk=>World.putObj_heap_other hk⟩
def fragQ (x:Nat) (Kn Kr Kx:World→Prop):Qt:=fun e _ _ w=>match e with
 | .normal=>Kn w
 | .ret=>Kr w
 | .exit i=>match Nat.beq i x with
  | true=>Kx w
  | false=>False
 | _=>False
def updPs (ps:List Nat) (vs:List Value) (env:Env):Env:=match ps,vs with
 | p :: ps,v :: vs=>updPs ps vs (upd env p v)
 | _,_=>env
def fragV (P:Program) (N:Nat) (xA xB:Ann) (assign body:Code) (l x:Nat) (Kn Kr Kx:World→World→Prop) (env:Env) (w:World):Prop :=
 vc P (some l) N xA assign (fun e env1 ds1 w1=>match e with
  | .normal=>Ext w w1∧∀ w2,Upd l w1 w2→vc P (some l) N xB body (fragQ x (Kn w2) (Kr w2) (Kx w2)) env1 ds1 w2
  | _=>False) env [] w
theorem qpp {N:Nat}:∀ (ps:List Nat) (vs:List Value) (env:Env) (t:Array Value),Rep N env { tmps:=t,defers:=[] }→(∀ p∈ps,p < N) →
  Rep N (updPs ps vs env) { tmps:=(ps.zip vs).foldl (fun t (p,v)=>t.setIfInBounds p v) t,defers:=[] }
 | [],vs,env,t,h,_=>by simpa [updPs] using h
 | p :: ps,[],env,t,h,_=>by simpa [updPs] using h
 | p :: ps,v :: vs,env,t,h,hp=>by
  simp only [updPs,List.zip_cons_cons,List.foldl_cons]
  exact qpp ps vs _ _ (Rep.put h (d:=some p) (fun x hx=>by cases hx;exact hp p (by simp)) v) (fun q hq=>hp q (by simp [hq]))
theorem RFw_law {α:Type} {P:Program} {N:Nat} {g:Operand} {ps:Array Tmp} {assign body:Code} {env:Env} {ds:List Deferred} {w:World} {x:Nat} {Qn Qr Qx:List Deferred→World→Prop}
  (xA xB:Ann) {gf:FuncId} {cap:List Value} (hg:ev env g=.func (.func gf) ⟨[]⟩ ⟨cap⟩) (hok:okFn P gf=true)
  {xs:List α} {enc:α→List Value} {Rd:Nat→Prop} (hit:∀ w1,Ext w w1→IterSpec P gf cap xs enc Rd w1)
  (hps:∀ y,(enc y).length=ps.size) (hpN:∀ p∈ps.toList,p < N)
  (hRd:∀ k,Rd k→k < w.heap.size) (S:Nat→Prop) (hS:∀ k,S k→k < w.heap.size∧¬ Rd k)
  (I:List α→World→Prop) (Kr Kx:World→Prop)
  (hI:∀ pre W W',I pre W→Chg (fun k=>w.heap.size≤k) W W'→I pre W')
  (hKr:∀ W W',Kr W→Chg (fun k=>w.heap.size≤k) W W'→Kr W') (hKx:∀ W W',Kx W→Chg (fun k=>w.heap.size≤k) W W'→Kx W')
  (h0:I [] w)
  (hround:∀ pre y W l,pre++[y] <+: xs→w.heap.size≤l→l < W.heap.size→I pre W →
   fragV P N xA xB assign body l x (fun W2 W'=>Chg S W2 W'∧I (pre++[y]) W') (fun W2 W'=>Chg S W2 W'∧Kr W') (fun W2 W'=>Chg S W2 W'∧Kx W') (updPs ps.toList (enc y) env) W)
  (hn:∀ D W,w.heap.size≤D→D < W.heap.size→W.heap[D]? = some (.deferred (some []))→I xs W→Qn ({ target:=.collected D,args:=#[] } :: ds) W)
  (hr:∀ D W,w.heap.size≤D→D < W.heap.size→W.heap[D]? = some (.deferred (some []))→Kr W→Qr ({ target:=.collected D,args:=#[] } :: ds) W)
  (hx:∀ D W,w.heap.size≤D→D < W.heap.size→W.heap[D]? = some (.deferred (some []))→Kx W→Qx ({ target:=.collected D,args:=#[] } :: ds) W) :
  RFw P none N (.rangeFunc g ps assign body) env ds w x Qn Qr Qx:=by
 intro a ha hd
 refine wpIn_rangeFunc fun fn _=>?_
 let rec0:Loop:={ state:=.ready,pending:=none,fn,tmps:=a.tmps,params:=ps,assign,body,defers:=w.heap.size }
 let w1:World:=(w.alloc (.deferred (some []))).alloc (.loop rec0)
 have hw1:w1.heap.size=w.heap.size + 2:=by simp [w1]
 have hext:Ext w w1:=((Below.refl _ w).alloc (Nat.le_refl _) _).alloc (by simp) _
 have hD1:w1.heap[w.heap.size]? = some (.deferred (some [])):=by
  show ((w.alloc _).alloc _).heap[w.heap.size]? = _
  rw [Below.heap_alloc _ _ _ (by simp),World.alloc_heap_new]
 have hl1:w1.heap[w.heap.size + 1]? = some (.loop rec0):=by
  have:=World.alloc_heap_new (w.alloc (.deferred (some []))) (.loop rec0)
  simpa [w1] using this
 have hgv:a.eval g=.func (.func gf) ⟨[]⟩ ⟨cap⟩:=by rw [ha.ev];exact hg
 refine ⟨w.heap.size + 1,[{ target:=.collected w.heap.size,args:=#[] }],w1,{ target:=.fn (.func gf) ⟨cap⟩,args:=#[.func (.yield (w.heap.size + 1)) #[] #[]] },w1,gf,
  ⟨.func (.yield (w.heap.size + 1)) #[] #[] :: cap⟩,w1,run_enterLoop_outer fn a.tmps ps assign body,?_,fun _ _=>trivial,?_,fun h=>by simp [Fr,Fence.wide] at h,?_⟩
 ·have em:Array.map a.eval #[Operand.const (.func (.yield (w.heap.size + 1)) #[] #[])]=#[.func (.yield (w.heap.size + 1)) #[] #[]]:=by simp [Act.eval]
  simp only [resolve,rangeCall,hgv,Deferred.ofValue,em]
  simp
 ·have e:(#[.func (.yield (w.heap.size + 1)) #[] #[]]:Array Value)++(⟨cap⟩:Array Value)=⟨.func (.yield (w.heap.size + 1)) #[] #[] :: cap⟩:=by apply Array.ext';simp
  simp only [invoke,e]
  exact qeo _ w1 hok
 ·show CallsIn Fence.wide 0 P gf _ w1 _
  refine callsIn_wide.2 ?_
  have stab:∀ {A B:World},Chg (fun k=>w1.heap.size≤k) A B→Chg (fun k=>w.heap.size≤k) A B:=fun h=>h.mono fun k _ hk=>by omega
  refine hit w1 hext (.yield (w.heap.size + 1)) #[] #[] (fun k=>S k∨k=w.heap.size + 1)
   (fun pre W=>I pre W∧W.heap[w.heap.size + 1]? = some (.loop rec0)∧W.heap[w.heap.size]? = some (.deferred (some [])))
   (fun W=>W.heap[w.heap.size]? = some (.deferred (some []))∧((W.heap[w.heap.size + 1]? = some (.loop { rec0 with state:=.done,pending:=some .ret })∧Kr W) ∨
    (W.heap[w.heap.size + 1]? = some (.loop { rec0 with state:=.done,pending:=some (.exit x) })∧Kx W)))
   _ (fun k hk=>hk.elim (fun h=>⟨by have:=(hS k h).1;omega,(hS k h).2⟩) (fun h=>⟨by omega,fun hr=>by have:=hRd k hr;omega⟩)) ?_ ?_ ?_ ⟨hI _ _ _ h0 (.of_ext hext),hl1,hD1⟩ ?_ ?_
  ·rintro pre W W' ⟨h1,h2,h3⟩ hc
   have hlt:=(Array.getElem?_eq_some_iff.1 h2).1
   have hlt':=(Array.getElem?_eq_some_iff.1 h3).1
   exact ⟨hI _ _ _ h1 (stab hc),(hc.block _ hlt (by omega)).trans h2,(hc.block _ hlt' (by omega)).trans h3⟩
  ·rintro W W' ⟨h3,h⟩ hc
   have hlt':=(Array.getElem?_eq_some_iff.1 h3).1
   refine ⟨(hc.block _ hlt' (by omega)).trans h3,?_⟩
   rcases h with ⟨h1,h2⟩ | ⟨h1,h2⟩
   ·exact .inl ⟨(hc.block _ (Array.getElem?_eq_some_iff.1 h1).1 (by omega)).trans h1,hKr _ _ h2 (stab hc)⟩
   ·exact .inr ⟨(hc.block _ (Array.getElem?_eq_some_iff.1 h1).1 (by omega)).trans h1,hKx _ _ h2 (stab hc)⟩
  ·rintro pre y W hpre hsz ⟨h1,h2,h3⟩
   have hlt:=(Array.getElem?_eq_some_iff.1 h2).1
   have hlt':=(Array.getElem?_eq_some_iff.1 h3).1
   refine ⟨_,_,_,_,run_yield h2 (by simp [rec0,hps y]),?_⟩
   have hfr:=hround pre y W (w.heap.size + 1) hpre (by omega) hlt h1
   have hrep:Rep N (updPs ps.toList (enc y) env) { tmps:=(ps.toList.zip (enc y)).foldl (fun t (p,v)=>t.setIfInBounds p v) a.tmps,defers:=[] } :=
    qpp _ _ _ _ ⟨ha.1,ha.2⟩ hpN
   have ezip:(ps.zip (⟨(#[]:Array Value).toList++enc y⟩:Array Value)).foldl (fun t (x:Nat × Value)=>t.setIfInBounds x.1 x.2) a.tmps=(ps.toList.zip (enc y)).foldl (fun t (p,v)=>t.setIfInBounds p v) a.tmps:=by
    rw [← Array.foldl_toList]
    simp [Array.toList_zip]
   refine roundIn_of_wpIn (F:=Fence.wide) (l:=w.heap.size + 1) trivial ?_
   show assign.wpIn (Fr (some (w.heap.size + 1))) 0 P _ _ W
   have hva:=qia xA assign hfr hrep rfl
   refine wpIn_mono (Eq.mp (by rw [← ezip]) hva) fun e a1 W1 hh=>?_
   obtain ⟨env1,r1,q1,_⟩:=hh
   cases e with
   | normal =>
    obtain ⟨e1,q1⟩:=q1
    have hl':W1.heap[w.heap.size + 1]? = some (.loop rec0):=(e1.block _ hlt).trans h2
    have hD':W1.heap[w.heap.size]? = some (.deferred (some [])):=(e1.block _ hlt').trans h3
    refine ⟨_,run_beginRound hl' rfl,?_⟩
    have hl2:(W1.putObj (w.heap.size + 1) (.loop { rec0 with state:=.busy })).heap[w.heap.size + 1]? = some (.loop { rec0 with state:=.busy }) :=
     World.putObj_heap_same (Array.getElem?_eq_some_iff.1 hl').1
    have hD2:(W1.putObj (w.heap.size + 1) (.loop { rec0 with state:=.busy })).heap[w.heap.size]? = some (.deferred (some [])):=(World.putObj_heap_other (by omega)).trans hD'
    have hq:=q1 _ (Upd.put (w.heap.size + 1) W1 (.loop { rec0 with state:=.busy }))
    have hvb:=qia xB body hq r1 rfl
    have hlt1:=(Array.getElem?_eq_some_iff.1 hl').1
    have hWW2:Chg (fun k=>S k∨k=w.heap.size + 1) W (W1.putObj (w.heap.size + 1) (.loop { rec0 with state:=.busy })) :=
     (Chg.of_ext e1).trans (Chg.put _ _ _ (.inr rfl))
    generalize W1.putObj (w.heap.size + 1) (.loop { rec0 with state:=.busy })=W2 at hl2 hD2 hvb hWW2 ⊢
    refine wpIn_mono hvb fun e' a' W' hh'=>?_
    obtain ⟨env2,r2,q2,_⟩:=hh'
    have nS:¬ S (w.heap.size + 1):=fun h=>by have:=(hS _ h).1;omega
    have nS':¬ S w.heap.size:=fun h=>by have:=(hS _ h).1;omega
    have fin:∀ (jump:Option Code) (st:LoopState),Chg S W2 W'→∀ Z,Z=W'.putObj (w.heap.size + 1) (.loop { rec0 with state:=st,pending:=jump }) →
      Chg (fun k=>S k∨k=w.heap.size + 1) W Z∧Z.heap[w.heap.size + 1]? = some (.loop { rec0 with state:=st,pending:=jump })∧Z.heap[w.heap.size]? = some (.deferred (some [])) ∧
      Chg (fun k=>w.heap.size≤k) W' Z:=by
     intro jump st hc Z hZ
     have hl3:=(hc.block _ (Array.getElem?_eq_some_iff.1 hl2).1 nS).trans hl2
     have hD3:=(hc.block _ (Array.getElem?_eq_some_iff.1 hD2).1 nS').trans hD2
     subst hZ
     exact ⟨(hWW2.trans (hc.mono fun k _ h=>.inl h)).trans (Chg.put _ _ _ (.inr rfl)),World.putObj_heap_same (Array.getElem?_eq_some_iff.1 hl3).1,
      (World.putObj_heap_other (by omega)).trans hD3,Chg.put _ _ _ (by omega)⟩
    have hrec:∀ (jump:Option Code),Chg S W2 W'→(Instr.endRound (w.heap.size + 1) jump).run P W'=.ok (.bool jump.isNone) (W'.putObj (w.heap.size + 1) (.loop { rec0 with state:=if jump.isNone then .ready else .done,pending:=jump })):=by
     intro jump hc
     exact run_endRound (r:={ rec0 with state:=.busy }) jump ((hc.block _ (Array.getElem?_eq_some_iff.1 hl2).1 nS).trans hl2)
    cases e' with
    | normal =>
     obtain ⟨hc,hi⟩:=q2
     obtain ⟨f1,f2,f3,f4⟩:=fin none .ready hc _ rfl
     exact ⟨_,_,hrec none hc,f1,.inl ⟨rfl,hI _ _ _ hi f4,f2,f3⟩⟩
    | ret =>
     obtain ⟨hc,hi⟩:=q2
     obtain ⟨f1,f2,f3,f4⟩:=fin (some .ret) .done hc _ rfl
     exact ⟨_,_,hrec (some .ret) hc,f1,.inr ⟨rfl,f3,.inl ⟨f2,hKr _ _ hi f4⟩⟩⟩
    | exit i =>
     simp only [fragQ] at q2
     cases hb:Nat.beq i x <;> rw [hb] at q2
     ·exact q2.elim
     have hix:=Nat.eq_of_beq_eq_true hb
     subst hix
     obtain ⟨hc,hi⟩:=q2
     obtain ⟨f1,f2,f3,f4⟩:=fin (some (.exit i)) .done hc _ rfl
     exact ⟨_,_,hrec (some (.exit i)) hc,f1,.inr ⟨rfl,f3,.inr ⟨f2,hKx _ _ hi f4⟩⟩⟩
    | goto l=>exact q2.elim
    | panic c=>exact q2.elim
    | outgrown=>exact q2.elim
   | exit i=>exact q1.elim
   | ret=>exact q1.elim
   | goto t=>exact q1.elim
   | panic c=>exact q1.elim
   | outgrown=>exact q1.elim
  ·rintro W hsz ⟨h1,h2,h3⟩
   refine ⟨none,_,run_endLoop h2 (by simp [rec0]),?_⟩
   have hlt:=(Array.getElem?_eq_some_iff.1 h2).1
   refine ⟨rfl,?_⟩
   show Qn (_ :: a.defers) _
   rw [hd]
   refine hn w.heap.size _ (Nat.le_refl _) (by simp;omega) ((World.putObj_heap_other (by omega)).trans h3) (hI _ _ _ h1 (Chg.put _ _ _ (by omega)))
  ·rintro W hsz ⟨h3,h⟩
   rcases h with ⟨h1,h2⟩ | ⟨h1,h2⟩
   ·have hlt:=(Array.getElem?_eq_some_iff.1 h1).1
    refine ⟨some .ret,_,run_endLoop h1 (by simp),?_⟩
    refine wpIn_ret ⟨rfl,?_⟩
    show Qr (_ :: a.defers) _
    rw [hd]
    exact hr w.heap.size _ (Nat.le_refl _) (by simp;omega) ((World.putObj_heap_other (by omega)).trans h3) (hKr _ _ h2 (Chg.put _ _ _ (by omega)))
   ·have hlt:=(Array.getElem?_eq_some_iff.1 h1).1
    refine ⟨some (.exit x),_,run_endLoop h1 (by simp),?_⟩
    refine wpIn_exit ⟨rfl,rfl,?_⟩
    show Qx (_ :: a.defers) _
    rw [hd]
    exact hx w.heap.size _ (Nat.le_refl _) (by simp;omega) ((World.putObj_heap_other (by omega)).trans h3) (hKx _ _ h2 (Chg.put _ _ _ (by omega)))
end Go.Sh
