/- A part of the proof. -/
import Derived.Test.YtkecgnlelgdndaaGreatDoorVcA
import Derived.RangeFuncLeaves
set_option linter.all false
namespace Go.Sh
open Go
def qce:Op→Bool
 | .move _ | .assign _ | .pick .. | .extract .. | .unOp .. | .binOp .. | .fieldAddr .. | .indexAddr .. | .index .. | .slice .. | .build .. | .field .. | .makeFunc .. | .makeInterface .. | .nilCheck _=>true
 | .call c=>match c.callee with
  | .builtin .len=>true
  | .builtin .cap=>true
  | .builtin .max=>true
  | .builtin .min=>true
  | _=>false
 | _=>false
def qkk:Op→Bool | .load ..=>true | _=>false
def q7l:Op→Bool
 | .load ..=>true | .alloc _=>true | .box ..=>true | .buildSlice ..=>true | .makeSlice ..=>true | .makeMap ..=>true
 | op=>qce op
section
variable {P:Program} {ρ ρ':Operand→Value}
theorem q6i {op:Op} {ty:TypeId} {w:World} {next:Value→World→Prop} (h:qce op=true):stR P ρ op ty w next=pureR P ρ op fun v=>next v w:=by
 cases op <;> simp only [qce] at h <;> first
  | rfl
  | (cases h;done)
  | skip
 rename_i c;simp only [stR];split at h <;> (rename_i hc;first | (cases h;done) | (rw [hc]))
theorem q97 {op:Op} {ty:TypeId} {w:World} {next:Value→World→Prop} (h:∀ x∈op.operands.toList,ρ x=ρ' x):stR P ρ op ty w next=stR P ρ' op ty w next:=by
 have hp:=fun K=>pureR_congr (P:=P) (K:=K) h;cases op
 case load T a=>simp only [stR,h a (by simp [Op.operands])]
 case store T a x=>simp only [stR,h a (by simp [Op.operands]),h x (by simp [Op.operands])]
 case box T x=>simp only [stR,h x (by simp [Op.operands])]
 case alloc T=>rfl
 case buildSlice T len parts =>
  have:=qzh (ρ:=ρ) (ρ':=ρ') (l:=parts.toList) (fun x hx=>h x.2 (by simp [Op.operands];exact ⟨x.1,by simpa using hx⟩))
  simp only [stR,this]
 case makeSlice T l c=>simp only [stR,h l (by simp [Op.operands]),h c (by simp [Op.operands])]
 case convert s d x=>simp only [stR,h x (by simp [Op.operands]),hp]
 case makeMap T r =>
  cases r with
  | none=>rfl
  | some x=>simp only [stR,h x (by simp [Op.operands])]
 case mapUpdate T m k v=>simp only [stR,h m (by simp [Op.operands]),h k (by simp [Op.operands]),h v (by simp [Op.operands])]
 case lookup T x i ok=>simp only [stR,h x (by simp [Op.operands]),h i (by simp [Op.operands])]
 case call c =>
  have h1:=qma (ρ:=ρ) (ρ':=ρ') (l:=c.args.toList) (fun x hx=>h x (by simp [Op.operands,Call.operands] at hx ⊢;exact .inr hx));have h2:∀ f,c.callee=.value f→ρ f=ρ' f:=fun f hf=>h f (by simp [Op.operands,Call.operands,hf]);simp only [stR,h1,hp];split
  ·rfl
  ·rename_i hc;rw [h2 _ hc]
  ·rfl
  ·rfl
  ·rfl
  ·rfl
  ·rfl
 all_goals (simp only [stR,hp])
theorem stR_keep {op:Op} {ty:TypeId} {w:World} {next:Value→World→Prop} (hc:q7l op=true) (h:stR P ρ op ty w next) :
  stR P ρ op ty w fun v w'=>next v w'∧Keeps w w':=by
 by_cases hp:qce op=true
 ·rw [q6i hp] at h ⊢;exact ql6 h fun v hv=>⟨hv,Keeps.refl w⟩
 ·cases op <;> simp only [q7l] at hc <;> first
   | exact absurd hc hp
   | skip
  case load T a =>
   simp only [stR] at h ⊢;split at h
   ·exact dr_mono h fun p hp=>ld1_mono hp fun v hv=>⟨hv,Keeps.refl w⟩
   ·exact h.elim
  case alloc T =>
   simp only [stR] at h ⊢;split at h
   ·exact ⟨h,Keeps.alloc _ _⟩
   ·exact h.elim
  case box T x=>exact ⟨h,Keeps.alloc _ _⟩
  case buildSlice T len parts =>
   simp only [stR] at h ⊢;split at h
   ·split at h
    ·split at h
     ·split at h
      ·exact ⟨h,Keeps.alloc _ _⟩
      ·exact h.elim
     ·exact h.elim
    ·exact h.elim
   ·exact h.elim
  case makeSlice T l c =>
   simp only [stR] at h ⊢;split at h
   ·split at h
    ·split at h
     ·exact ⟨h.1,h.2.1,h.2.2.1,h.2.2.2,Keeps.alloc _ _⟩
     ·exact h.elim
    ·exact h.elim
   ·exact h.elim
  case makeMap T r =>
   simp only [stR] at h ⊢;split at h
   ·exact ⟨h,Keeps.alloc _ _⟩
   ·split at h
    ·exact ⟨h,Keeps.alloc _ _⟩
    ·exact h.elim
theorem stR_det {op:Op} {ty:TypeId} {w:World} {next:Value→World→Prop} (hc:(qce op||qkk op)=true) (h:stR P ρ op ty w next) :
  ∃ v,next v w∧∀ w' (N:Value→World→Prop),(qce op=true∨Keeps w w')→N v w'→stR P ρ op ty w' N:=by
 by_cases hp:qce op=true
 ·rw [q6i hp] at h;obtain ⟨v,hk,d⟩:=pureR_det h;exact ⟨v,hk,fun w' N _ hn=>by rw [q6i hp];exact d _ hn⟩
 ·have hl:qkk op=true:=by simpa [hp] using hc
  cases op <;> simp only [qkk] at hl <;> first | (cases hl;done) | skip
  rename_i T a;simp only [stR] at h;split at h
  ·rename_i a' b ha hag hl' hi;obtain ⟨p,hpp,h1⟩:=qdk h;obtain ⟨v,hk,d⟩:=ld1_det h1;refine ⟨v,hk,fun w' N hw hn=>?_⟩;have hw':Keeps w w':=hw.resolve_left (by simp [qce]);simp only [stR,ha,hag,hl',hi,hpp];exact d w' _ hw' hn
  ·exact h.elim
end
theorem qiu (e:Env) (d:Nat) (v:Value):upd e d v d=v:=by simp [upd,Nat.beq_refl]
theorem qgj (e:Env) (d:Nat) (v:Value) (t:Nat) (h:t≠d):upd e d v t=e t:=by
 have:Nat.beq t d=false:=by cases hb:Nat.beq t d with
  | false=>rfl
  | true=>exact absurd (Nat.eq_of_beq_eq_true hb) h
 simp [upd,this]
theorem upd_self (e:Env) (d:Nat):upd e d (e d)=e:=by
 funext t
 by_cases h:t=d
 ·rw [h,qiu]
 ·rw [qgj _ _ _ _ h]
theorem upd_comm (e:Env) (a b:Nat) (u v:Value) (h:a≠b):upd (upd e a u) b v=upd (upd e b v) a u:=by
 funext t
 by_cases h1:t=a
 ·subst h1;rw [qgj _ _ _ _ h,qiu,qiu]
 ·by_cases h2:t=b
  ·subst h2;rw [qiu,qgj _ _ _ _ h1,qiu]
  ·rw [qgj _ _ _ _ h2,qgj _ _ _ _ h1,qgj _ _ _ _ h1,qgj _ _ _ _ h2]
def runO (P:Program) (o:Oper) (env:Env) (w:World) (K:Env→World→Prop):Prop:=stR P (ev env) o.op o.type w fun v w'=>K (put env o.dst v) w'
def gdst (all:List Oper) (j:Nat):Option Nat:=match all[j]? with | some o=>o.dst | none=>none
def stepO (P:Program) (all:List Oper) (o:Oper) (env:Env) (w:World) (K:Env→World→Prop):Prop :=
 match o.guard with
 | none=>runO P o env w K
 | some (j,want)=>match gdst all j with
  | none=>K (put env o.dst undef) w
  | some d=>match env d with
   | .bool g=>match want with
    | true=>br g (runO P o (upd env d (.bool true)) w K) (K (put (upd env d (.bool false)) o.dst undef) w)
    | false=>br g (K (put (upd env d (.bool true)) o.dst undef) w) (runO P o (upd env d (.bool false)) w K)
   | _=>K (put env o.dst undef) w
def want (all:List Oper) (o:Oper) (env:Env):Bool :=
 match o.guard with
 | none=>true
 | some (j,b)=>match gdst all j with
  | none=>false
  | some d=>match env d with
   | .bool g=>g == b
   | _=>false
theorem stepO_eq' (P:Program) (all:List Oper) (o:Oper) (env:Env) (w:World) (K:Env→World→Prop) :
  stepO P all o env w K↔(match want all o env with | true=>runO P o env w K | false=>K (put env o.dst undef) w):=by
 unfold stepO want;cases hg:o.guard with
 | none=>exact Iff.rfl
 | some q =>
  obtain ⟨j,b⟩:=q;simp only;cases hd:gdst all j with
  | none=>exact Iff.rfl
  | some d =>
   simp only;cases he:env d with
   | bool g =>
    have e:upd env d (.bool g)=env:=by rw [← he];exact upd_self env d
    cases g <;> cases b <;> simp [br,e]
   | _=>exact Iff.rfl
theorem qgl (P:Program) (all:List Oper) (o:Oper) (env:Env) (w:World) (K:Env→World→Prop) :
  stepO P all o env w K↔(if want all o env=true then runO P o env w K else K (put env o.dst undef) w):=by
 rw [stepO_eq'];cases want all o env <;> simp
def vcIdx (P:Program) (all:List Oper):List Nat→Env→World→(Env→World→Prop)→Prop
 | [],env,w,K=>K env w
 | i :: rest,env,w,K=>match all[i]? with
  | some o=>stepO P all o env w fun env' w'=>vcIdx P all rest env' w' K
  | none=>False
def guardT (all:List Oper) (o:Oper):List Nat:=match o.guard with
 | none=>[]
 | some (j,_)=>match gdst all j with | some d=>[d] | none=>[]
def qqt (all:List Oper) (o:Oper):List Nat:=guardT all o++q5j o.op
def memB (t:Nat):List Nat→Bool
 | []=>false
 | x :: l=>match Nat.beq x t with | true=>true | false=>memB t l
theorem qfm (t:Nat):∀ l:List Nat,memB t l=true↔t∈l
 | []=>by simp [memB]
 | x :: l=>by
  simp only [memB,List.mem_cons];split
  ·rename_i h;simp [Nat.eq_of_beq_eq_true h]
  ·rename_i h;have:x≠t:=fun e=>by rw [e,Nat.beq_refl] at h;cases h
   rw [qfm t l];constructor
   ·exact .inr
   ·rintro (e | e)
    ·exact absurd e.symm this
    ·exact e
def indep (all:List Oper) (a b:Oper):Bool :=
 (match a.dst with | none=>true | some d=>!memB d (qqt all b)&&!(match b.dst with | some d'=>Nat.beq d' d | none=>false)) &&
 (match b.dst with | none=>true | some d=>!memB d (qqt all a))
theorem ev_put {env:Env} {d:Option Nat} {v:Value} {op:Op} (h:∀ t,d=some t→t∉q5j op):∀ x∈op.operands.toList,ev (put env d v) x=ev env x:=by
 intro x hx;cases d with
 | none=>rfl
 | some d =>
  apply ev_congr;intro t ht;subst ht;have hm:t∈q5j op:=by
   unfold q5j;rw [List.mem_filterMap];exact ⟨.tmp t,hx,rfl⟩
  have:t≠d:=fun e=>h d rfl (e ▸ hm);exact qgj _ _ _ _ this
theorem want_put {all:List Oper} {o:Oper} {env:Env} {d:Option Nat} {v:Value} (h:∀ t,d=some t→t∉guardT all o):want all o (put env d v)=want all o env:=by
 cases d with
 | none=>rfl
 | some d =>
  unfold want;unfold guardT at h;cases hg:o.guard with
  | none=>rfl
  | some q =>
   obtain ⟨j,b⟩:=q;rw [hg] at h;simp only at h ⊢;cases hd:gdst all j with
   | none=>rfl
   | some d' =>
    rw [hd] at h;have:d'≠d:=fun e=>h d rfl (by simp [e]);simp only [put,qgj _ _ _ _ this]
theorem q64 (env:Env) (a b:Option Nat) (u v:Value) (h:∀ x y,a=some x→b=some y→x≠y):put (put env a u) b v=put (put env b v) a u:=by
 cases a with
 | none=>rfl
 | some a=>cases b with
  | none=>rfl
  | some b=>exact upd_comm _ _ _ _ _ (h a b rfl rfl)
theorem qbc {P:Program} {all:List Oper} {o:Oper} {env:Env} {w:World} {K K':Env→World→Prop} (h:stepO P all o env w K) (hk:∀ e w',K e w'→K' e w'):stepO P all o env w K':=by
 rw [qgl] at h ⊢;split
 ·rename_i hw;rw [if_pos hw] at h;exact qp0 h fun v w'=>hk _ _
 ·rename_i hw;rw [if_neg hw] at h;exact hk _ _ h
def Acts (P:Program) (all:List Oper) (o:Oper) (env:Env) (w:World) (v:Value):Prop :=
 (want all o env=true∧∀ w' (N:Value→World→Prop),(qce o.op=true∨Keeps w w')→N v w'→stR P (ev env) o.op o.type w' N)∨(want all o env=false∧v=undef)
theorem acts_of {P:Program} {all:List Oper} {o:Oper} {env:Env} {w:World} {K:Env→World→Prop} (hc:(qce o.op||qkk o.op)=true)
  (h:stepO P all o env w K):∃ v,Acts P all o env w v∧K (put env o.dst v) w:=by
 rw [qgl] at h;split at h
 ·rename_i hw;obtain ⟨v,hk,d⟩:=stR_det hc h;exact ⟨v,.inl ⟨hw,d⟩,hk⟩
 ·rename_i hw;exact ⟨undef,.inr ⟨by simpa using hw,rfl⟩,h⟩
theorem Acts.step {P:Program} {all:List Oper} {o:Oper} {env:Env} {w:World} {v:Value} {K:Env→World→Prop} (h:Acts P all o env w v) (hk:K (put env o.dst v) w):stepO P all o env w K:=by
 rw [qgl];rcases h with ⟨hw,d⟩ | ⟨hw,rfl⟩
 ·rw [if_pos hw];exact d w _ (.inr (Keeps.refl w)) hk
 ·rw [if_neg (by simp [hw])];exact hk
theorem Acts.later {P:Program} {all:List Oper} {o:Oper} {env:Env} {w w':World} {v u:Value} {d:Option Nat} (h:Acts P all o env w v)
  (hd:∀ t,d=some t→t∉qqt all o) (hw:qce o.op=true∨Keeps w w'):Acts P all o (put env d u) w' v:=by
 have h1:∀ t,d=some t→t∉guardT all o:=fun t ht hm=>hd t ht (by simp [qqt,hm]);have h2:∀ t,d=some t→t∉q5j o.op:=fun t ht hm=>hd t ht (by simp [qqt,hm]);unfold Acts;rw [want_put h1];rcases h with ⟨hw1,dd⟩ | h
 ·refine .inl ⟨hw1,fun w'' N hw2 hn=>?_⟩;rw [q97 (ev_put h2)];refine dd w'' N ?_ hn;rcases hw2 with hp | hk
  ·exact .inl hp
  ·rcases hw with hp | hk'
   ·exact .inl hp
   ·exact .inr (hk'.trans hk)
 ·exact .inr h
def qeq (all:List Oper) (oi oj:Oper):Bool:=indep all oi oj&&(qce oi.op||q7l oj.op)
theorem indep_spec {all:List Oper} {a b:Oper} (h:indep all a b=true) :
  (∀ t,a.dst=some t→t∉qqt all b)∧(∀ t,b.dst=some t→t∉qqt all a)∧(∀ x y,a.dst=some x→b.dst=some y→x≠y):=by
 unfold indep at h;rw [Bool.and_eq_true] at h;refine ⟨fun t ht=>?_,fun t ht=>?_,fun x y hx hy=>?_⟩
 ·have h1:=h.1;rw [ht] at h1;simp only [Bool.and_eq_true,Bool.not_eq_true'] at h1;intro hm;rw [← qfm] at hm;rw [hm] at h1;exact absurd h1.1 (by simp)
 ·have h2:=h.2;rw [ht] at h2;simp only [Bool.not_eq_true'] at h2;intro hm;rw [← qfm] at hm;rw [hm] at h2;exact absurd h2 (by simp)
 ·have h1:=h.1;rw [hx,hy] at h1;simp only [Bool.and_eq_true,Bool.not_eq_true'] at h1;intro e;rw [e,Nat.beq_refl] at h1;exact absurd h1.2 (by simp)
theorem qhx {P:Program} {all:List Oper} {i:Nat} {oi:Oper} (hi:all[i]? = some oi) {v:Value} {K:Env→World→Prop}:∀ (σ1 σ2:List Nat) (env:Env) (w:World),
  (∀ j∈σ1,∀ oj,all[j]? = some oj→qeq all oi oj=true)→Acts P all oi env w v →
  vcIdx P all (σ1++σ2) (put env oi.dst v) w K→vcIdx P all (σ1++i :: σ2) env w K
 | [],σ2,env,w,_,ha,h=>by
  simp only [List.nil_append,vcIdx,hi];exact ha.step h
 | j :: σ1,σ2,env,w,hok,ha,h=>by
  simp only [List.cons_append,vcIdx] at h ⊢;cases hj:all[j]? with
  | none=>rw [hj] at h;exact h.elim
  | some oj =>
   rw [hj] at h;simp only at h ⊢;have hb:=hok j (by simp) oj hj;unfold qeq at hb;rw [Bool.and_eq_true] at hb;obtain ⟨h1,h2,h3⟩:=indep_spec hb.1;have hr1:∀ t,oi.dst=some t→t∉guardT all oj:=fun t ht hm=>h1 t ht (by simp [qqt,hm]);have hr2:∀ t,oi.dst=some t→t∉q5j oj.op:=fun t ht hm=>h1 t ht (by simp [qqt,hm]);have hrest:∀ j'∈σ1,∀ oj',all[j']? = some oj'→qeq all oi oj'=true:=fun j' hj'=>hok j' (by simp [hj']);rw [qgl] at h ⊢;rw [want_put hr1] at h;split
   ·rename_i hw;rw [if_pos hw] at h;unfold runO at h ⊢;rw [q97 (ev_put hr2)] at h;by_cases hp:qce oi.op=true
    ·refine qp0 h fun u w' hk=>?_;rw [q64 _ _ _ _ _ h3] at hk;exact qhx hi σ1 σ2 _ _ hrest (ha.later h2 (.inl hp)) hk
    ·have hcalm:q7l oj.op=true:=by simpa [hp] using hb.2
     refine qp0 (stR_keep hcalm h) fun u w' hk=>?_;obtain ⟨hk,hkeep⟩:=hk;rw [q64 _ _ _ _ _ h3] at hk;exact qhx hi σ1 σ2 _ _ hrest (ha.later h2 (.inr hkeep)) hk
   ·rename_i hw;rw [if_neg hw] at h;rw [q64 _ _ _ _ _ h3] at h;exact qhx hi σ1 σ2 _ _ hrest (ha.later h2 (.inr (Keeps.refl w))) h
end Go.Sh
namespace Go.Sh
open Go
def edges (o:Oper):List Nat:=o.after.toList.filterMap fun e=>match Region.binds .any e with | true=>some e.on | false=>none
def remB (i:Nat):List Nat→List Nat
 | []=>[]
 | x :: l=>match Nat.beq x i with | true=>remB i l | false=>x :: remB i l
def qvs (l r:List Nat):Bool:=match l with | []=>false | x :: l=>match memB x r with | true=>true | false=>qvs l r
def qf1 (all:List Oper) (rem:List Nat) (i:Nat):Bool:=match all[i]? with
 | some o=>!qvs (edges o) rem
 | none=>false
def qfn (all:List Oper) (acc:List Nat):List Nat→List Nat
 | []=>acc
 | j :: l=>match all[j]? with
  | some o=>match qvs (edges o) acc with
   | true=>qfn all (j :: acc) l
   | false=>qfn all acc l
  | none=>qfn all acc l
def okAll (all:List Oper) (oi:Oper) (bl:List Nat):List Nat→Bool
 | []=>true
 | j :: l=>match memB j bl with
  | true=>okAll all oi bl l
  | false=>match all[j]? with
   | some oj=>match qeq all oi oj with
    | true=>okAll all oi bl l
    | false=>false
   | none=>false
def safe (all:List Oper) (i:Nat) (rest:List Nat):Bool:=match all[i]? with
 | none=>false
 | some oi=>(qce oi.op||qkk oi.op)&&(qf1 all (i :: rest) i&&okAll all oi (qfn all [i] rest) rest)
def alts (f:NP) (en:Nat→Bool):List Nat→Prop
 | []=>True
 | j :: l=>match en j with
  | true=>f j∧alts f en l
  | false=>alts f en l
def qhn (P:Program) (all:List Oper):Nat→List Nat→Env→World→(Env→World→Prop)→Prop
 | _,[],env,w,K=>K env w
 | 0,_ :: _,_,_,_=>False
 | n + 1,i :: rest,env,w,K=>match safe all i rest with
  | true=>match all[i]? with
   | some o=>stepO P all o env w fun env' w'=>qhn P all n (remB i rest) env' w' K
   | none=>False
  | false=>alts (fun j=>match all[j]? with
    | some o=>stepO P all o env w fun env' w'=>qhn P all n (remB j (i :: rest)) env' w' K
    | none=>False) (qf1 all (i :: rest)) (i :: rest)
theorem mem_remB {i x:Nat}:∀ {l:List Nat},x∈remB i l↔x∈l∧x≠i
 | []=>by simp [remB]
 | y :: l=>by
  simp only [remB];split
  ·rename_i h;have:=Nat.eq_of_beq_eq_true h
   subst this;rw [mem_remB];constructor
   ·rintro ⟨a,b⟩;exact ⟨by simp [a],b⟩
   ·rintro ⟨a,b⟩;exact ⟨by simpa [b] using a,b⟩
  ·rename_i h;have hne:y≠i:=fun e=>by rw [e,Nat.beq_refl] at h;cases h
   simp only [List.mem_cons,mem_remB];constructor
   ·rintro (rfl | ⟨a,b⟩)
    ·exact ⟨.inl rfl,hne⟩
    ·exact ⟨.inr a,b⟩
   ·rintro ⟨rfl | a,b⟩
    ·exact .inl rfl
    ·exact .inr ⟨a,b⟩
theorem anyMem_false {l r:List Nat}:qvs l r=false↔∀ x∈l,x∉r:=by
 induction l with
 | nil=>simp [qvs]
 | cons x l ih =>
  simp only [qvs];split
  ·rename_i h;rw [qfm] at h;simp [h]
  ·rename_i h;have hx:x∉r:=fun hm=>by rw [← qfm] at hm;rw [hm] at h;cases h
   rw [ih];simp [hx]
theorem anyMem_true {l r:List Nat} (h:qvs l r=true):∃ x∈l,x∈r:=by
 apply Classical.byContradiction;intro hn;have:qvs l r=false:=anyMem_false.2 fun x hx hr=>hn ⟨x,hx,hr⟩;rw [this] at h;cases h
inductive Sched (all:List Oper):List Nat→List Nat→Prop
 | nil:Sched all [] []
 | cons {rem σ:List Nat} {i:Nat}:i∈rem→qf1 all rem i=true→Sched all (remB i rem) σ→Sched all rem (i :: σ)
theorem qz9 {all:List Oper} {rem rem':List Nat} {i:Nat} (h:qf1 all rem i=true) (hs:∀ x∈rem',x∈rem):qf1 all rem' i=true:=by
 unfold qf1 at h ⊢;split at h
 ·simp only [Bool.not_eq_true'] at h ⊢;rw [anyMem_false] at h ⊢;exact fun x hx hr=>h x hx (hs x hr)
 ·cases h
theorem qze (i j:Nat):∀ l:List Nat,remB i (remB j l)=remB j (remB i l)
 | []=>rfl
 | x :: l=>by
  cases h1:Nat.beq x i <;> cases h2:Nat.beq x j <;> simp [remB,h1,h2,qze i j l]
theorem qoj {all:List Oper} {i:Nat}:∀ {σ rem:List Nat},Sched all rem σ→i∈rem →
  ∃ σ1 σ2,σ = σ1++i :: σ2∧Sched all (remB i rem) (σ1++σ2)∧(∀ j∈σ1,j∈rem∧j≠i) ∧
   (∀ B:List Nat,i∈B→(∀ b∈B,b∈rem)→(∀ b∈B,b≠i→∃ o,all[b]? = some o∧∃ e∈edges o,e∈B)→∀ j∈σ1,j∉B)
 | [],rem,h,hi=>by cases h;simp at hi
 | j :: σ,rem,h,hi=>by
  cases h;rename_i hj hen hs;by_cases hji:j=i
  ·subst hji;exact ⟨[],σ,rfl,hs,fun _ h=>by simp at h,fun _ _ _ _ _ h=>by simp at h⟩
  ·have hi':i∈remB j rem:=mem_remB.2 ⟨hi,fun e=>hji e.symm⟩;obtain ⟨σ1,σ2,rfl,h1,h2,h3⟩:=qoj hs hi';refine ⟨j :: σ1,σ2,rfl,?_,?_,?_⟩
   ·refine Sched.cons (mem_remB.2 ⟨hj,hji⟩) (qz9 hen fun x hx=>(mem_remB.1 hx).1) ?_;rw [qze];exact h1
   ·intro x hx;rcases List.mem_cons.1 hx with rfl | hx
    ·exact ⟨hj,hji⟩
    ·exact ⟨(mem_remB.1 (h2 x hx).1).1,(h2 x hx).2⟩
   ·intro B hB hsub hed x hx;have hjB:j∉B:=fun hm=>by
     obtain ⟨o,ho,e,he,heB⟩:=hed j hm hji;unfold qf1 at hen;rw [ho] at hen;simp only [Bool.not_eq_true'] at hen;exact anyMem_false.1 hen e he (hsub e heB)
    rcases List.mem_cons.1 hx with rfl | hx
    ·exact hjB
    ·exact h3 B hB (fun b hb=>mem_remB.2 ⟨hsub b hb,fun e=>hjB (e ▸ hb)⟩) hed x hx
theorem qdo {all:List Oper} {i:Nat}:∀ (l acc:List Nat),i∈acc→(∀ b∈acc,b≠i→∃ o,all[b]? = some o∧∃ e∈edges o,e∈acc) →
  i∈qfn all acc l∧(∀ b∈qfn all acc l,b≠i→∃ o,all[b]? = some o∧∃ e∈edges o,e∈qfn all acc l)∧(∀ b∈qfn all acc l,b∈acc∨b∈l)
 | [],acc,hi,h=>⟨hi,h,fun b hb=>.inl hb⟩
 | j :: l,acc,hi,h=>by
  simp only [qfn];split
  ·rename_i o ho;split
   ·rename_i hm;obtain ⟨x,hx,hxa⟩:=anyMem_true hm;obtain ⟨a,b,c⟩:=qdo (i:=i) l (j :: acc) (List.mem_cons_of_mem _ hi) (fun b hb hne=>by
     rcases List.mem_cons.1 hb with rfl | hb
     ·exact ⟨o,ho,x,hx,by simp [hxa]⟩
     ·obtain ⟨o',h1,e,h2,h3⟩:=h b hb hne;exact ⟨o',h1,e,h2,by simp [h3]⟩)
    refine ⟨a,b,fun y hy=>?_⟩;rcases c y hy with h | h
    ·rcases List.mem_cons.1 h with rfl | h
     ·exact .inr (by simp)
     ·exact .inl h
    ·exact .inr (by simp [h])
   ·obtain ⟨a,b,c⟩:=qdo l acc hi h;exact ⟨a,b,fun y hy=>(c y hy).imp id fun h=>by simp [h]⟩
  ·obtain ⟨a,b,c⟩:=qdo l acc hi h;exact ⟨a,b,fun y hy=>(c y hy).imp id fun h=>by simp [h]⟩
theorem ql8 {all:List Oper} {oi:Oper} {bl:List Nat}:∀ {l:List Nat},okAll all oi bl l=true→∀ j∈l,j∉bl→∀ oj,all[j]? = some oj→qeq all oi oj=true
 | [],_,j,hj,_,_,_=>by simp at hj
 | x :: l,h,j,hj,hb,oj,ho=>by
  simp only [okAll] at h;split at h
  ·rename_i hm;rw [qfm] at hm;rcases List.mem_cons.1 hj with rfl | hj
   ·exact absurd hm hb
   ·exact ql8 h j hj hb oj ho
  ·split at h
   ·rename_i o' ho';split at h
    ·rename_i hok;rcases List.mem_cons.1 hj with rfl | hj
     ·rw [ho'] at ho;simp only [Option.some.injEq] at ho;exact ho ▸ hok
     ·exact ql8 h j hj hb oj ho
    ·cases h
   ·cases h
theorem q1i {f:NP} {en:Nat→Bool}:∀ {l:List Nat},alts f en l→∀ j∈l,en j=true→f j
 | [],_,j,hj,_=>by simp at hj
 | x :: l,h,j,hj,he=>by
  simp only [alts] at h;split at h
  ·rcases List.mem_cons.1 hj with rfl | hj
   ·exact h.1
   ·exact q1i h.2 j hj he
  ·rename_i hx;rcases List.mem_cons.1 hj with rfl | hj
   ·rw [he] at hx;cases hx
   ·exact q1i h j hj he
theorem qub {P:Program} {all:List Oper} {K:Env→World→Prop}:∀ (n:Nat) (rem:List Nat) (env:Env) (w:World),qhn P all n rem env w K →
  ∀ σ,Sched all rem σ→vcIdx P all σ env w K
 | n,[],env,w,h,σ,hs=>by
  cases hs
  ·cases n <;> exact h
  ·rename_i hm _ _;simp at hm
 | 0,_ :: _,_,_,h,_,_=>h.elim
 | n + 1,i :: rest,env,w,h,σ,hs=>by
  simp only [qhn] at h;split at h
  ·rename_i hsafe;cases hi:all[i]? with
   | none=>rw [hi] at h;exact h.elim
   | some o =>
    rw [hi] at h;simp only at h;unfold safe at hsafe;rw [hi] at hsafe;simp only [Bool.and_eq_true] at hsafe;obtain ⟨hcls,hen,hok⟩:=hsafe;obtain ⟨v,ha,hk⟩:=acts_of hcls h;obtain ⟨σ1,σ2,rfl,h1,h2,h3⟩:=qoj hs (i:=i) (by simp);have e:remB i (i :: rest)=remB i rest:=by simp [remB,Nat.beq_refl]
    rw [e] at h1;have hrec:=qub n _ _ _ hk _ h1;refine qhx hi σ1 σ2 env w (fun j hj oj hoj=>?_) ha hrec;obtain ⟨b1,b2,b3⟩:=qdo (all:=all) (i:=i) rest [i] (by simp) (fun b hb hne=>by simp at hb;exact absurd hb hne);have hjr:j∈rest:=by
     have:=h2 j hj
     simpa [this.2] using this.1
    refine ql8 hok j hjr ?_ oj hoj;exact h3 _ b1 (fun b hb=>by
     rcases b3 b hb with h | h
     ·simp at h;simp [h]
     ·simp [h]) b2 j hj
  ·cases hs;rename_i σ j hj hen hs;have:=q1i h j hj hen
   cases hoj:all[j]? with
   | none=>rw [hoj] at this;exact this.elim
   | some o =>
    rw [hoj] at this;simp only [vcIdx,hoj];exact qbc this fun env' w' hk=>qub n _ _ _ hk _ hs
end Go.Sh
namespace Go.Sh
open Go
def enM (m:Region.Mode) (ops:Array Oper) (done:List Nat) (i:Nat):Prop :=
 ∃ o,ops[i]? = some o∧∀ e∈o.after.toList,Region.binds m e=true→e.on∈done
inductive PS (m:Region.Mode) (ops:Array Oper):List Nat→List Nat→Prop
 | nil {done:List Nat}:PS m ops done []
 | cons {done σ:List Nat} {i:Nat}:i∉done→enM m ops done i→PS m ops (i :: done) σ→PS m ops done (i :: σ)
def Agree (n:Nat) (listed:Array Bool) (done:List Nat):Prop:=listed.size=n∧(∀ i∈done,i < n)∧∀ i,i < n→(listed.getD i true=true↔i∈done)
theorem ready_iff {m:Region.Mode} {ops:Array Oper} {listed:Array Bool} {done:List Nat} (ha:Agree ops.size listed done) (i:Nat) :
  i∈(List.range ops.size).filter (fun i=>!listed.getD i true&&((ops[i]?).map (·.after.all fun e=>!Region.binds m e||listed.getD e.on false)).getD false)↔i∉done∧enM m ops done i:=by
 obtain ⟨hs,hd,hl⟩:=ha;rw [List.mem_filter,List.mem_range];have hget:∀ e,(listed.getD e false=true↔e∈done):=by
  intro e;by_cases he:e < ops.size
  ·rw [← hl e he];simp [Array.getD,hs,he]
  ·constructor
   ·intro h;simp [Array.getD,hs,he] at h
   ·intro h;exact absurd (hd e h) he
 constructor
 ·rintro ⟨hi,h⟩;simp only [Bool.and_eq_true,Bool.not_eq_true'] at h;have h1:i∉done:=fun hm=>by rw [(hl i hi).2 hm] at h;cases h.1
  refine ⟨h1,?_⟩;cases ho:ops[i]? with
  | none=>rw [ho] at h;simp at h
  | some o =>
   rw [ho] at h;refine ⟨o,ho,fun e he hb=>?_⟩;have h2:=h.2;simp only [Option.map_some,Option.getD_some,Array.all_eq_true_iff_forall_mem] at h2;have:=h2 e (by simpa using he)
   rw [hb] at this;exact (hget e.on).1 (by simpa using this)
 ·rintro ⟨h1,o,ho,h2⟩;have hi:i < ops.size:=(Array.getElem?_eq_some_iff.1 ho).1;refine ⟨hi,?_⟩;simp only [Bool.and_eq_true,Bool.not_eq_true'];refine ⟨?_,?_⟩
  ·cases hb:listed.getD i true with
   | false=>rfl
   | true=>exact absurd ((hl i hi).1 hb) h1
  ·rw [ho];simp only [Option.map_some,Option.getD_some,Array.all_eq_true_iff_forall_mem];intro e he;cases hb:Region.binds m e with
   | false=>simp
   | true=>simp [(hget e.on).2 (h2 e (by simpa using he) hb)]
theorem agree_set {n:Nat} {listed:Array Bool} {done:List Nat} {i:Nat} (ha:Agree n listed done) (hi:i < n):Agree n (listed.setIfInBounds i true) (i :: done):=by
 obtain ⟨hs,hd,hl⟩:=ha;refine ⟨by simp [hs],fun j hj=>?_,fun j hj=>?_⟩
 ·rcases List.mem_cons.1 hj with rfl | hj
  ·exact hi
  ·exact hd j hj
 ·by_cases e:j=i
  ·subst e;simp [Array.getD,hs,hj]
  ·have:=hl j hj
   simp only [List.mem_cons,e,false_or,← this];simp [Array.getD,hs,hj,Array.getElem_setIfInBounds,Ne.symm e]
theorem go_spec {m:Region.Mode} {ops:Array Oper}:∀ (fuel t:Nat) (listed:Array Bool) (acc done:List Nat),Agree ops.size listed done →
  ∃ σ,Region.linearise.go m ops fuel t listed acc=acc.reverse++σ∧PS m ops done σ∧(σ.length < fuel→∀ i,¬ (i∉σ.reverse++done∧enM m ops (σ.reverse++done) i))
 | 0,t,listed,acc,done,ha=>⟨[],by simp [Region.linearise.go],.nil,fun h=>by simp at h⟩
 | fuel + 1,t,listed,acc,done,ha=>by
  rw [Region.linearise.go];generalize hrs:(List.range ops.size).filter (fun i=>!listed.getD i true&&((ops[i]?).map (·.after.all fun e=>!Region.binds m e||listed.getD e.on false)).getD false)=rs
  have hr:=fun i=>ready_iff (m:=m) ha i;rw [hrs] at hr;cases hx:rs[t % rs.length]? with
  | none =>
   refine ⟨[],by simp,.nil,fun _ i hi=>?_⟩;have hmem:=(hr i).2 (by simpa using hi);have hpos:0 < rs.length:=List.length_pos_of_mem hmem;have:t % rs.length < rs.length:=Nat.mod_lt _ hpos;rw [List.getElem?_eq_none_iff] at hx;omega
  | some i =>
   have hmem:=List.mem_of_getElem? hx;obtain ⟨h1,h2⟩:=(hr i).1 hmem;obtain ⟨o,ho,_⟩:=h2;have hi:i < ops.size:=(Array.getElem?_eq_some_iff.1 ho).1;obtain ⟨σ,e1,e2,e3⟩:=go_spec fuel (t / rs.length) (listed.setIfInBounds i true) (i :: acc) (i :: done) (agree_set ha hi);refine ⟨i :: σ,by simp only;rw [e1];simp,.cons h1 ((hr i).1 hmem).2 e2,fun hl j=>?_⟩;have:=e3 (by simpa using hl) j
   simpa using this
theorem lin_spec (m:Region.Mode) (ops:Array Oper) (t:Nat):∃ σ,Region.linearise m ops t=σ∧PS m ops [] σ∧(σ.length < ops.size→∀ i,¬ (i∉σ∧enM m ops σ.reverse i)):=by
 obtain ⟨σ,e1,e2,e3⟩:=go_spec (m:=m) ops.size t (Array.replicate ops.size false) [] [] (show Agree ops.size _ _ from ⟨by simp,by simp,fun i hi=>by simp [Array.getD,hi]⟩);refine ⟨σ,by rw [Region.linearise,e1];simp,e2,fun hl i=>?_⟩;have:=e3 hl i
 simpa using this
theorem ps_mem {m:Region.Mode} {ops:Array Oper}:∀ {σ done:List Nat},PS m ops done σ→∀ i∈σ,i < ops.size∧i∉done
 | [],_,_,i,hi=>by simp at hi
 | j :: σ,done,h,i,hi=>by
  cases h;rename_i h1 h2 h3;rcases List.mem_cons.1 hi with rfl | hi
  ·obtain ⟨o,ho,_⟩:=h2;exact ⟨(Array.getElem?_eq_some_iff.1 ho).1,h1⟩
  ·have:=ps_mem h3 i hi
   exact ⟨this.1,fun hm=>this.2 (by simp [hm])⟩
theorem q65 {m:Region.Mode} {ops:Array Oper}:∀ {σ done:List Nat},PS m ops done σ→σ.Nodup
 | [],_,_=>List.nodup_nil
 | j :: σ,done,h=>by
  cases h;rename_i h1 h2 h3;rw [List.nodup_cons];exact ⟨fun hm=>(ps_mem h3 j hm).2 (by simp),q65 h3⟩
theorem qzq:∀ (n:Nat) (l:List Nat),l.Nodup→(∀ x∈l,x < n)→l.length≤n
 | 0,l,_,h=>by
  cases l with
  | nil=>simp
  | cons x l=>exact absurd (h x (by simp)) (by omega)
 | n + 1,l,hn,h=>by
  have h1:=qzq n (l.filter (·≠n)) (hn.filter _) (fun x hx=>by
   have:=List.mem_filter.1 hx
   have h2:=h x this.1;have h3:x≠n:=by simpa using this.2
   omega)
  have h4:l.length≤(l.filter (·≠n)).length + 1:=by
   clear h h1
   induction l with
   | nil=>simp
   | cons x l ih =>
    rw [List.nodup_cons] at hn;by_cases e:x=n
    ·subst e;have:l.filter (·≠x)=l:=by
      rw [List.filter_eq_self];intro y hy;simp only [ne_eq,decide_not,Bool.not_eq_eq_eq_not,Bool.not_true,decide_eq_false_iff_not];exact fun e=>hn.1 (e ▸ hy)
     have e2:(List.filter (fun y=>!decide (y=x)) l)=l:=by simpa using this
     simp [e2]
    ·have:=ih hn.2
     simp [e];simpa using this
  omega
theorem ps_all {m:Region.Mode} {ops:Array Oper} {σ:List Nat} (h:PS m ops [] σ) (hl:σ.length=ops.size):∀ i,i < ops.size→i∈σ:=by
 intro i hi;apply Classical.byContradiction;intro hn;have:=qzq ops.size (i :: σ) (List.nodup_cons.2 ⟨hn,q65 h⟩) (fun x hx=>by
  rcases List.mem_cons.1 hx with rfl | hx
  ·exact hi
  ·exact (ps_mem h x hx).1)
 simp at this;omega
def Prog (m:Region.Mode) (ops:Array Oper):Prop:=∀ done:List Nat,(∃ i,i < ops.size∧i∉done)→∃ i,i∉done∧enM m ops done i
def qmb (m:Region.Mode) (i:Nat):List Oper→Bool
 | []=>true
 | o :: l=>(o.after.toList.all fun e=>!Region.binds m e||Nat.blt e.on i)&&qmb m (i + 1) l
theorem qqz {m:Region.Mode}:∀ {l:List Oper} {i:Nat},qmb m i l=true→∀ j o,l[j]? = some o→∀ e∈o.after.toList,Region.binds m e=true→e.on < i + j
 | [],_,_,j,o,hj,_,_,_=>by simp at hj
 | x :: l,i,h,j,o,hj,e,he,hb=>by
  simp only [qmb,Bool.and_eq_true,List.all_eq_true] at h;cases j with
  | zero =>
   simp only [List.getElem?_cons_zero,Option.some.injEq] at hj;subst hj;have:=h.1 e he
   rw [hb] at this;simpa [Nat.blt_eq] using this
  | succ j =>
   have:=qqz h.2 j o (by simpa using hj) e he hb
   omega
theorem prog_low {m:Region.Mode} {ops:Array Oper} (h:qmb m 0 ops.toList=true):Prog m ops:=by
 intro done ⟨i,hi,hn⟩
 induction i using Nat.strongRecOn with
 | _ i ih =>
  by_cases hall:∀ j,j < i→j∈done
  ·refine ⟨i,hn,ops[i],by simp [hi],fun e he hb=>?_⟩;have:=qqz h i ops[i] (by simp [hi]) e he hb
   exact hall _ (by omega)
  ·have:∃ j,j < i∧j∉done:=by
    apply Classical.byContradiction;intro hc;apply hall;intro j hj;apply Classical.byContradiction;intro hjd;exact hc ⟨j,hj,hjd⟩
   obtain ⟨j,hj,hjd⟩:=this;exact ih j hj (by omega) hjd
theorem qqu {m:Region.Mode} {ops:Array Oper}:∀ {σ d0:List Nat},PS m ops d0 σ→∀ done:List Nat,(∀ x∈d0,x∈done)→(∃ i∈σ,i∉done)→∃ i,i∉done∧enM m ops done i
 | [],_,_,_,_,⟨i,hi,_⟩=>by simp at hi
 | j :: σ,d0,h,done,hsub,⟨i,hi,hn⟩=>by
  cases h;rename_i h1 h2 h3;by_cases hj:j∈done
  ·refine qqu h3 done (fun x hx=>?_) ?_
   ·rcases List.mem_cons.1 hx with rfl | hx
    ·exact hj
    ·exact hsub x hx
   ·rcases List.mem_cons.1 hi with rfl | hi
    ·exact absurd hj hn
    ·exact ⟨i,hi,hn⟩
  ·obtain ⟨o,ho,h4⟩:=h2;exact ⟨j,hj,o,ho,fun e he hb=>hsub _ (h4 e he hb)⟩
theorem prog_lin {m:Region.Mode} {ops:Array Oper} (h:(Region.linearise m ops 0).length=ops.size):Prog m ops:=by
 obtain ⟨σ,e1,e2,_⟩:=lin_spec m ops 0;intro done ⟨i,hi,hn⟩;exact qqu e2 done (by simp) ⟨i,ps_all e2 (e1 ▸ h) i hi,hn⟩
theorem lin_full {m:Region.Mode} {ops:Array Oper} (hp:Prog m ops) (t:Nat):∃ σ,Region.linearise m ops t=σ∧PS m ops [] σ∧σ.length=ops.size:=by
 obtain ⟨σ,e1,e2,e3⟩:=lin_spec m ops t;refine ⟨σ,e1,e2,?_⟩;have hle:=qzq ops.size σ (q65 e2) (fun x hx=>(ps_mem e2 x hx).1);apply Classical.byContradiction;intro hne;have hlt:σ.length < ops.size:=by omega
 have:∃ i,i < ops.size∧i∉σ:=by
  apply Classical.byContradiction;intro hc;have hall:∀ i,i < ops.size→i∈σ:=fun i hi=>by
   apply Classical.byContradiction;intro hh;exact hc ⟨i,hi,hh⟩
  have:=(List.nodup_range (n:=ops.size)).length_le_of_subset (l₂:=σ) (fun x hx=>hall x (by simpa using hx))
  simp at this;omega
 obtain ⟨i,hi,hn⟩:=this;obtain ⟨j,hj1,hj2⟩:=hp σ.reverse ⟨i,hi,by simpa using hn⟩;exact e3 hlt j ⟨by simpa using hj1,hj2⟩
theorem binds_any {m:Region.Mode} {e:Edge} (h:Region.binds .any e=true):Region.binds m e=true:=by
 unfold Region.binds at h ⊢;split at h <;> first | (cases h;done) | rfl
theorem ps_sched {m:Region.Mode} {ops:Array Oper}:∀ {σ done rem:List Nat},PS m ops done σ→(∀ i,i∈rem↔i < ops.size∧i∉done)→(∀ i,i < ops.size→i∈σ∨i∈done)→Sched ops.toList rem σ
 | [],done,rem,_,hr,hall=>by
  have:rem=[]:=by
   cases rem with
   | nil=>rfl
   | cons x l =>
    have:=(hr x).1 (by simp)
    rcases hall x this.1 with h | h
    ·simp at h
    ·exact absurd h this.2
  subst this;exact .nil
 | j :: σ,done,rem,h,hr,hall=>by
  cases h;rename_i h1 h2 h3;obtain ⟨o,ho,h4⟩:=h2;have hj:j < ops.size:=(Array.getElem?_eq_some_iff.1 ho).1;refine .cons ((hr j).2 ⟨hj,h1⟩) ?_ (ps_sched h3 (fun i=>?_) (fun i hi=>?_))
  ·unfold qf1;have ho':ops.toList[j]? = some o:=by simpa using ho
   rw [ho'];simp only [Bool.not_eq_true'];rw [anyMem_false];intro x hx hxr;unfold edges at hx;rw [List.mem_filterMap] at hx;obtain ⟨e,he,hex⟩:=hx;split at hex
   ·rename_i hb;simp only [Option.some.injEq] at hex;subst hex;exact ((hr _).1 hxr).2 (h4 e he (binds_any hb))
   ·cases hex
  ·rw [mem_remB,hr];simp only [List.mem_cons,not_or];constructor
   ·rintro ⟨⟨a,b⟩,c⟩;exact ⟨a,c,b⟩
   ·rintro ⟨a,b,c⟩;exact ⟨⟨a,c⟩,b⟩
  ·rcases hall i hi with h | h
   ·rcases List.mem_cons.1 h with rfl | h
    ·exact .inr (by simp)
    ·exact .inl h
   ·exact .inr (by simp [h])
def drawOk (ops:Array Oper):Bool :=
 qmb .any 0 ops.toList&&(match Region.departs ops with
  | false=>true
  | true=>qmb .text 0 ops.toList&&Nat.beq (Region.linearise .gc ops 0).length ops.toList.length)
theorem qm9 {ops:Array Oper} (h:drawOk ops=true) (mixed:Bool) (t:Nat):Sched ops.toList (List.range ops.size) (Region.schedule mixed ops t):=by
 unfold drawOk at h;rw [Bool.and_eq_true] at h;have main:∀ m t,Prog m ops→Sched ops.toList (List.range ops.size) (Region.linearise m ops t):=by
  intro m t hp;obtain ⟨σ,e1,e2,e3⟩:=lin_full hp t;rw [e1];exact ps_sched e2 (fun i=>by simp) (fun i hi=>.inl (ps_all e2 e3 i hi))
 unfold Region.schedule;split
 ·exact main _ _ (prog_low h.1)
 ·rename_i hd;simp only [Bool.or_eq_true,Bool.not_eq_true',not_or] at hd;have hdep:Region.departs ops=true:=by simpa using hd.2
  rw [hdep] at h;simp only [Bool.and_eq_true] at h;split
  ·exact main _ _ (prog_low h.2.1)
  ·exact main _ _ (prog_lin (by have:=Nat.eq_of_beq_eq_true h.2.2;simpa using this))
end Go.Sh
namespace Go.Sh
open Go
def qj5 (all:List Oper) (oj:Oper):List Nat→List Nat
 | []=>[]
 | s :: l=>match all[s]? with
  | some os=>match qeq all os oj with
   | true=>s :: qj5 all oj l
   | false=>qj5 all oj l
  | none=>qj5 all oj l
def qme (all:List Oper) (sl rem:List Nat):List Nat→Option Nat
 | []=>none
 | i :: l=>match memB i sl with
  | true=>qme all sl rem l
  | false=>match safe all i (remB i rem) with
   | true=>some i
   | false=>qme all sl rem l
def clsB (all:List Oper) (j:Nat):Bool:=match all[j]? with
 | some o=>qce o.op||qkk o.op
 | none=>false
def alts2 (f:Nat→List Nat→Prop) (en cls:Nat→Bool):List Nat→List Nat→Prop
 | [],_=>True
 | j :: l,sl=>match en j with
  | false=>alts2 f en cls l sl
  | true=>match memB j sl with
   | true=>alts2 f en cls l sl
   | false=>f j sl∧alts2 f en cls l (match cls j with | true=>j :: sl | false=>sl)
def qcn (P:Program) (all:List Oper):Nat→List Nat→List Nat→Env→World→(Env→World→Prop)→Prop
 | _,[],_,env,w,K=>K env w
 | 0,_ :: _,_,_,_,_=>False
 | n + 1,i :: rest,sl,env,w,K=>match qme all sl (i :: rest) (i :: rest) with
  | some j=>match all[j]? with
   | some o=>stepO P all o env w fun env' w'=>qcn P all n (remB j (i :: rest)) (qj5 all o sl) env' w' K
   | none=>False
  | none=>alts2 (fun j sl'=>match all[j]? with
    | some o=>stepO P all o env w fun env' w'=>qcn P all n (remB j (i :: rest)) (qj5 all o sl') env' w' K
    | none=>False) (qf1 all (i :: rest)) (clsB all) (i :: rest) sl
def Front (all:List Oper) (s:Nat) (σ:List Nat):Prop:=∃ os σ1 σ2,all[s]? = some os∧σ = σ1++s :: σ2∧s∉σ1∧∀ j∈σ1,∀ oj,all[j]? = some oj→qeq all os oj=true
theorem qhw {all:List Oper} {oj:Oper}:∀ {l:List Nat} {s:Nat},s∈qj5 all oj l→s∈l∧∃ os,all[s]? = some os∧qeq all os oj=true
 | [],s,h=>by simp [qj5] at h
 | x :: l,s,h=>by
  simp only [qj5] at h;split at h
  ·rename_i os ho;split at h
   ·rename_i hk;rcases List.mem_cons.1 h with rfl | h
    ·exact ⟨by simp,os,ho,hk⟩
    ·obtain ⟨a,b⟩:=qhw h;exact ⟨by simp [a],b⟩
   ·obtain ⟨a,b⟩:=qhw h;exact ⟨by simp [a],b⟩
  ·obtain ⟨a,b⟩:=qhw h;exact ⟨by simp [a],b⟩
theorem qi2 {all:List Oper} {sl rem:List Nat}:∀ {l:List Nat} {i:Nat},qme all sl rem l=some i→i∈l∧i∉sl∧safe all i (remB i rem)=true
 | [],i,h=>by simp [qme] at h
 | x :: l,i,h=>by
  simp only [qme] at h;split at h
  ·obtain ⟨a,b⟩:=qi2 h;exact ⟨by simp [a],b⟩
  ·rename_i hm;split at h
   ·rename_i hs;simp only [Option.some.injEq] at h;subst h;refine ⟨by simp,fun hh=>?_,hs⟩;rw [← qfm] at hh;rw [hh] at hm;cases hm
   ·obtain ⟨a,b⟩:=qi2 h;exact ⟨by simp [a],b⟩
theorem qvk {all:List Oper} {i:Nat}:∀ {σ1 σ2 rem:List Nat},Sched all rem (σ1++i :: σ2)→i∉σ1→Sched all (remB i rem) (σ1++σ2)
 | [],σ2,rem,h,_=>by cases h;assumption
 | j :: σ1,σ2,rem,h,hn=>by
  cases h;rename_i hj hen hs;have hji:j≠i:=fun e=>hn (by simp [e]);refine Sched.cons (mem_remB.2 ⟨hj,hji⟩) (qz9 hen fun x hx=>(mem_remB.1 hx).1) ?_;rw [qze];exact qvk hs fun h=>hn (by simp [h])
theorem q5u {all:List Oper} {i s:Nat} {oi:Oper} (hi:all[i]? = some oi) {σ1 σ2:List Nat} (hne:s≠i) (hsi:∃ os,all[s]? = some os∧qeq all os oi=true) (h:Front all s (σ1++σ2)):Front all s (σ1++i :: σ2):=by
 obtain ⟨os,τ1,τ2,h1,h2,h3,h4⟩:=h;obtain ⟨os',h5,h6⟩:=hsi;rw [h1] at h5;obtain rfl:=Option.some.inj h5;rcases List.append_eq_append_iff.1 h2 with ⟨a,rfl,hb⟩ | ⟨a,rfl,hb⟩
 ·
  refine ⟨os,σ1++i :: a,τ2,h1,by rw [hb];simp,?_,?_⟩
  ·intro hm;rw [List.mem_append] at h3;rw [List.mem_append,List.mem_cons] at hm;rcases hm with hm | hm | hm
   ·exact h3 (.inl hm)
   ·exact hne hm
   ·exact h3 (.inr hm)
  ·intro j hj oj hoj;simp only [List.mem_append,List.mem_cons] at hj;rcases hj with hj | rfl | hj
   ·exact h4 j (by simp [hj]) oj hoj
   ·rw [hi] at hoj;obtain rfl:=Option.some.inj hoj;exact h6
   ·exact h4 j (by simp [hj]) oj hoj
 ·cases a with
  | nil =>
   simp only [List.nil_append] at hb;subst hb;refine ⟨os,τ1++[i],τ2,h1,by simp,?_,?_⟩
   ·intro hm;simp only [List.mem_append,List.mem_singleton] at hm;exact hm.elim h3 hne
   ·intro j hj oj hoj;simp only [List.mem_append,List.mem_singleton] at hj;rcases hj with hj | rfl
    ·exact h4 j hj oj hoj
    ·rw [hi] at hoj;obtain rfl:=Option.some.inj hoj;exact h6
  | cons y a =>
   simp only [List.cons_append,List.cons.injEq] at hb;obtain ⟨rfl,hb⟩:=hb;exact ⟨os,τ1,a++i :: σ2,h1,by simp,h3,h4⟩
theorem qow {P:Program} {all:List Oper} {K:Env→World→Prop}:∀ (n:Nat) (rem sl:List Nat) (env:Env) (w:World),qcn P all n rem sl env w K →
  ∀ σ,Sched all rem σ→(∀ s∈sl,¬ Front all s σ)→vcIdx P all σ env w K
 | n,[],sl,env,w,h,σ,hs,hsl=>by
  cases hs
  ·cases n <;> exact h
  ·rename_i hm _ _;simp at hm
 | 0,_ :: _,_,_,_,h,_,_,_=>h.elim
 | n + 1,i :: rest,sl,env,w,h,σ,hs,hsl=>by
  have reorder:∀ (j:Nat) (o:Oper) (sl:List Nat) (σ1 σ2:List Nat),all[j]? = some o→(qce o.op||qkk o.op)=true→j∉sl→(∀ s∈sl,¬ Front all s (σ1++j :: σ2))→Sched all (i :: rest) (σ1++j :: σ2)→j∉σ1 →
    (∀ x∈σ1,∀ ox,all[x]? = some ox→qeq all o ox=true) →
    (stepO P all o env w fun env' w'=>qcn P all n (remB j (i :: rest)) (qj5 all o sl) env' w' K)→vcIdx P all (σ1++j :: σ2) env w K:=by
   intro j o sl σ1 σ2 hj hcls hjs hsl hs hn hok hst;obtain ⟨v,ha,hk⟩:=acts_of hcls hst;have hrec:=qow n _ _ _ _ hk _ (qvk hs hn) (fun s hsm hf=>by
    obtain ⟨q1,q2⟩:=qhw hsm;exact hsl s q1 (q5u hj (fun e=>hjs (e ▸ q1)) q2 hf))
   exact qhx hj σ1 σ2 env w hok ha hrec
  have direct:∀ (j:Nat) (o:Oper) (sl:List Nat) (σ':List Nat),all[j]? = some o→j∉sl→(∀ s∈sl,¬ Front all s (j :: σ'))→Sched all (remB j (i :: rest)) σ' →
    (stepO P all o env w fun env' w'=>qcn P all n (remB j (i :: rest)) (qj5 all o sl) env' w' K)→vcIdx P all (j :: σ') env w K:=by
   intro j o sl σ' hj hjs hsl hs hst;simp only [vcIdx,hj];exact qbc hst fun env' w' hk=>qow n _ _ _ _ hk _ hs fun s hsm hf=>by
    obtain ⟨q1,q2⟩:=qhw hsm;exact hsl s q1 (q5u (σ1:=[]) hj (fun e=>hjs (e ▸ q1)) q2 hf)
  simp only [qcn] at h;split at h
  ·rename_i j hfs;obtain ⟨f1,f2,f3⟩:=qi2 hfs;cases hj:all[j]? with
   | none=>rw [hj] at h;exact h.elim
   | some o =>
    rw [hj] at h;simp only at h;unfold safe at f3;rw [hj] at f3;simp only [Bool.and_eq_true] at f3;obtain ⟨hcls,hen,hok⟩:=f3;obtain ⟨σ1,σ2,rfl,h1,h2,h3⟩:=qoj hs f1;refine reorder j o sl σ1 σ2 hj hcls f2 hsl hs (fun hm=>(h2 j hm).2 rfl) (fun x hx ox hox=>?_) h;obtain ⟨b1,b2,b3⟩:=qdo (all:=all) (i:=j) (remB j (i :: rest)) [j] (by simp) (fun b hb hne=>by simp at hb;exact absurd hb hne);have hxr:x∈remB j (i :: rest):=mem_remB.2 ⟨(h2 x hx).1,(h2 x hx).2⟩;refine ql8 hok x hxr ?_ ox hox;exact h3 _ b1 (fun b hb=>by
     rcases b3 b hb with h | h
     ·simp at h;exact h ▸ f1
     ·exact (mem_remB.1 h).1) b2 x hx
  ·cases hs;rename_i σ j0 hj0 hen0 hs0;have key:∀ (l sl:List Nat),j0∈l→(∀ s∈sl,¬ Front all s (j0 :: σ))→alts2 (fun j sl'=>match all[j]? with
     | some o=>stepO P all o env w fun env' w'=>qcn P all n (remB j (i :: rest)) (qj5 all o sl') env' w' K
     | none=>False) (qf1 all (i :: rest)) (clsB all) l sl→vcIdx P all (j0 :: σ) env w K:=by
    intro l
    induction l with
    | nil=>intro sl hm;simp at hm
    | cons j l ih =>
     intro sl hm hsl h;have ho0:∃ o0,all[j0]? = some o0:=by
      unfold qf1 at hen0;split at hen0
      ·rename_i o ho;exact ⟨o,ho⟩
      ·cases hen0
     obtain ⟨o0,ho0⟩:=ho0;have hn0:j0∉sl:=fun hm=>hsl j0 hm ⟨o0,[],σ,ho0,rfl,by simp,by simp⟩;simp only [alts2] at h;split at h
     ·rename_i hen;refine ih sl ?_ hsl h;rcases List.mem_cons.1 hm with rfl | hm
      ·rw [hen0] at hen;cases hen
      ·exact hm
     ·split at h
      ·rename_i hmb;rw [qfm] at hmb;refine ih sl ?_ hsl h;rcases List.mem_cons.1 hm with rfl | hm
       ·exact absurd hmb hn0
       ·exact hm
      ·rename_i hen hmb;have hjs:j∉sl:=fun hh=>by rw [← qfm] at hh;rw [hh] at hmb;cases hmb
       obtain ⟨hf,hrest⟩:=h;cases hj:all[j]? with
       | none=>rw [hj] at hf;exact hf.elim
       | some o =>
        rw [hj] at hf;simp only at hf;by_cases hjj:j=j0
        ·subst hjj;exact direct j o sl σ hj hjs hsl hs0 hf
        ·have hm':j0∈l:=by
          rcases List.mem_cons.1 hm with rfl | hm
          ·exact absurd rfl hjj
          ·exact hm
         cases hc:clsB all j with
         | false =>
          rw [hc] at hrest;exact ih sl hm' hsl hrest
         | true =>
          rw [hc] at hrest;by_cases hfr:Front all j (j0 :: σ)
          ·obtain ⟨os,σ1,σ2,q1,q2,q3,q4⟩:=hfr;rw [hj] at q1;obtain rfl:=Option.some.inj q1;have hcls:(qce o.op||qkk o.op)=true:=by unfold clsB at hc;rw [hj] at hc;exact hc
           rw [q2] at hsl ⊢;exact reorder j o sl σ1 σ2 hj hcls hjs hsl (q2 ▸ Sched.cons hj0 hen0 hs0) q3 q4 hf
          ·refine ih (j :: sl) hm' (fun s hs=>?_) hrest;rcases List.mem_cons.1 hs with rfl | hs
           ·exact hfr
           ·exact hsl s hs
   exact key (i :: rest) sl hj0 hsl h
end Go.Sh
namespace Go.Sh
open Go
def Rep (N:Nat) (env:Env) (a:Act):Prop:=a.tmps.size=N∧∀ t,a.tmps.getD t undef=env t
theorem Rep.ev {N:Nat} {env:Env} {a:Act} (h:Rep N env a):a.eval=ev env:=by
 funext x
 cases x with
 | tmp t=>exact h.2 t
 | _=>rfl
theorem Rep.put {N:Nat} {env:Env} {a:Act} (h:Rep N env a) {d:Option Nat} (hd:∀ x,d=some x→x < N) (v:Value):Rep N (put env d v) (a.put d v):=by
 cases d with
 | none=>exact h
 | some d =>
  have hlt:=hd d rfl;refine ⟨by simp [Act.put,h.1],fun t=>?_⟩;show (a.tmps.setIfInBounds d v).getD t undef=upd env d v t;by_cases e:t=d
  ·subst e;rw [qiu];simp [Array.getD,h.1,hlt]
  ·rw [qgj _ _ _ _ e,← h.2 t];simp only [Array.getD,Array.size_setIfInBounds];split
   ·rename_i h1;exact Array.getElem_setIfInBounds_ne h1 (Ne.symm e)
   ·rfl
def allD (N:Nat):List Oper→Bool
 | []=>true
 | o :: l=>match o.dst with
  | none=>allD N l
  | some d=>match Nat.blt d N with
   | true=>allD N l
   | false=>false
theorem qsn {N:Nat}:∀ {l:List Oper},allD N l=true→∀ o∈l,∀ d,o.dst=some d→d < N
 | [],_,o,ho,_,_=>by simp at ho
 | x :: l,h,o,ho,d,hd=>by
  simp only [allD] at h;rcases List.mem_cons.1 ho with rfl | ho
  ·rw [hd] at h;simp only at h;split at h
   ·rename_i hb;simpa [Nat.blt_eq] using hb
   ·cases h
  ·split at h
   ·exact qsn h o ho d hd
   ·split at h
    ·exact qsn h o ho d hd
    ·cases h
theorem want_eq {ops:Array Oper} {o:Oper} {N:Nat} {env:Env} {a:Act} (h:Rep N env a):Region.wanted o (yielded ops a.tmps)=want ops.toList o env:=by
 unfold Region.wanted want;cases hg:o.guard with
 | none=>rfl
 | some q =>
  obtain ⟨j,b⟩:=q;simp only;unfold yielded gdst;have e:ops.toList[j]? = ops[j]?:=by simp
  rw [e];cases hj:ops[j]? with
  | none=>rfl
  | some oj =>
   simp only [Option.bind_some];cases hd:oj.dst with
   | none=>rfl
   | some d =>
    simp only [Option.bind_some];have:=h.2 d
    rw [← this];simp only [Array.getD];by_cases hlt:d < a.tmps.size
    ·rw [Array.getElem?_eq_getElem hlt];simp only [hlt,dite_true,Array.getInternal_eq_getElem];cases a.tmps[d] <;> first | (cases b <;> rename_i b2 <;> cases b2 <;> rfl) | rfl
    ·rw [Array.getElem?_eq_none (Nat.le_of_not_lt hlt)];simp only [hlt,dite_false];rfl
theorem qkm {P:Program} {r:Option Nat} {ops:Array Oper} {N:Nat} {K:Env→World→Prop} (hD:allD N ops.toList=true) {ds:List Deferred}:∀ (l:List Nat) (env:Env) (w:World) (a:Act),
  vcIdx P ops.toList l env w K→Rep N env a→a.defers=ds →
  wpOpsIn (Fr r) 0 P ops (fun e a' w'=>e=.normal∧∃ env',Rep N env' a'∧a'.defers=ds∧K env' w') l a w
 | [],env,w,a,h,hr,hds=>⟨rfl,env,hr,hds,h⟩
 | i :: l,env,w,a,h,hr,hds=>by
  simp only [vcIdx] at h;cases hi:ops.toList[i]? with
  | none=>rw [hi] at h;exact h.elim
  | some o =>
   rw [hi] at h;simp only at h;have hi':ops[i]? = some o:=by simpa using hi
   have hdst:=qsn hD o (List.mem_of_getElem? hi);simp only [wpOpsIn,hi'];rw [qgl] at h;rw [want_eq hr];split
   ·rename_i hw;rw [if_pos hw] at h;refine ⟨fun _ _=>trivial,?_⟩;have hs:=q96 (r:=r) (ρ:=ev env) (fun f=>rfl) o h;rw [hr.ev];exact hs a _ _ fun v w' hk=>qkm hD l _ _ _ hk (hr.put hdst v) (by cases o.dst <;> exact hds)
   ·rename_i hw;rw [if_neg hw] at h;refine ⟨fun _ _=>trivial,?_⟩;exact qkm hD l _ _ _ h (hr.put hdst undef) (by cases o.dst <;> exact hds)
def drw (w:World) (K:WP):Prop:=K w.drew
def vcReg (P:Program) (N:Nat) (ops:Array Oper) (draw:Bool) (env:Env) (w:World) (K:Env→World→Prop):Prop :=
 match allD N ops.toList with
 | false=>False
 | true=>match draw with
  | false=>vcIdx P ops.toList (List.range ops.toList.length) env w K
  | true=>match drawOk ops with
   | true=>drw w fun w1=>qhn P ops.toList ops.toList.length (List.range ops.toList.length) env w1 K
   | false=>False
theorem reg_sound {P:Program} {r:Option Nat} {N id:Nat} {ops:Array Oper} {draw:Bool} {env:Env} {w:World} {K:Env→World→Prop} {a:Act} (h:vcReg P N ops draw env w K) (hr:Rep N env a) :
  (Code.region id ops draw).wpIn (Fr r) 0 P (fun e a' w'=>e=.normal∧∃ env',Rep N env' a'∧a'.defers=a.defers∧K env' w') a w:=by
 unfold vcReg at h;split at h
 ·exact h.elim
 ·rename_i hD;split at h
  ·refine wpIn_region ?_;rw [show ops.size=ops.toList.length by simp];exact qkm hD _ _ _ _ h hr rfl
  ·split at h
   ·rename_i hok;refine wpIn_region_draw fun t=>?_;have hs:=qm9 hok (P.follows .mixedOrders) t;rw [show ops.size=ops.toList.length by simp] at hs;exact qkm hD _ _ _ _ (qub _ _ _ _ h _ hs) hr rfl
   ·exact h.elim
def q45 (P:Program) (N:Nat) (ops:Array Oper) (draw:Bool) (env:Env) (w:World) (K:Env→World→Prop):Prop :=
 match allD N ops.toList with
 | false=>False
 | true=>match draw with
  | false=>False
  | true=>match drawOk ops with
   | true=>drw w fun w1=>qcn P ops.toList ops.toList.length (List.range ops.toList.length) [] env w1 K
   | false=>False
theorem reg2_sound {P:Program} {r:Option Nat} {N id:Nat} {ops:Array Oper} {draw:Bool} {env:Env} {w:World} {K:Env→World→Prop} {a:Act} (h:q45 P N ops draw env w K) (hr:Rep N env a) :
  (Code.region id ops draw).wpIn (Fr r) 0 P (fun e a' w'=>e=.normal∧∃ env',Rep N env' a'∧a'.defers=a.defers∧K env' w') a w:=by
 unfold q45 at h;split at h
 ·exact h.elim
 ·rename_i hD;split at h
  ·exact h.elim
  ·split at h
   ·rename_i hok;refine wpIn_region_draw fun t=>?_;have hs:=qm9 hok (P.follows .mixedOrders) t;rw [show ops.size=ops.toList.length by simp] at hs;exact qkm hD _ _ _ _ (qow _ _ _ _ _ h _ hs (fun s hs=>by simp at hs)) hr rfl
   ·exact h.elim
def mlenV (w:World) (v:Value) (K:Int→Prop):Prop :=
 match v with
 | .map none=>K 0
 | .map (some b)=>∃ (es:Array MapEntry) (clock:Nat),w.heap[b]? = some (.map es clock)∧K es.size
 | _=>False
def q7g (P:Program) (op:Op):Option Operand :=
 match op with
 | .call c=>match c.callee with
  | .builtin .len=>match c.args.toList,c.argTypes.toList with
   | [x],[t]=>match P.underlying t with
    | some (.map _ _)=>some x
    | _=>none
   | _,_=>none
  | _=>none
 | _=>none
def runM (P:Program) (o:Oper) (x:Operand) (env:Env) (w:World) (K:Env→World→Prop):Prop:=mlenV w (ev env x) fun n=>K (put env o.dst (.int .i64 n)) w
def stepM (P:Program) (all:List Oper) (o:Oper) (env:Env) (w:World) (K:Env→World→Prop):Prop :=
 match q7g P o.op,o.guard with
 | some x,none=>runM P o x env w K
 | _,_=>stepO P all o env w K
def qj3 (P:Program) (all:List Oper):List Nat→Env→World→(Env→World→Prop)→Prop
 | [],env,w,K=>K env w
 | i :: rest,env,w,K=>match all[i]? with
  | some o=>stepM P all o env w fun env' w'=>qj3 P all rest env' w' K
  | none=>False
theorem mapLenX_some {P:Program} {op:Op} {x:Operand} (h:q7g P op=some x):∃ c t k e,op=.call c∧c.callee=.builtin .len∧c.args=#[x]∧c.argTypes=#[t]∧P.underlying t=some (.map k e):=by
 unfold q7g at h;split at h
 ·rename_i c;split at h
  ·rename_i hc;split at h
   ·rename_i y t hx ht;split at h
    ·rename_i k e hu;simp only [Option.some.injEq] at h;subst h;exact ⟨c,t,k,e,rfl,hc,Array.toList_inj.1 (by simpa using hx),Array.toList_inj.1 (by simpa using ht),hu⟩
    ·cases h
   ·cases h
  ·cases h
 ·cases h
theorem mlenV_run {P:Program} {w:World} {t k e:TypeId} {v:Value} {K:Int→Prop} (ht:P.underlying t=some (.map k e)) (h:mlenV w v K):∃ n:Int,(Builtin.len_ #[t] 0 #[v]).run P w=.ok (.int .i64 n) w∧K n:=by
 unfold mlenV at h;split at h
 ·exact ⟨0,by simp [Builtin.len_,run_underlying ht,goInt],h⟩
 ·rename_i b;obtain ⟨es,clock,hb,hK⟩:=h;have hg:(getObj b).run P w=.ok (.map es clock) w:=by simp [getObj,Sem.run,hb]
  exact ⟨es.size,by simp only [Builtin.len_,List.getElem?_toArray,List.getElem?_cons_zero,Sem.run_bind,run_underlying ht,Result.andThen_ok,hg];simp [goInt],hK⟩
 ·exact h.elim
theorem runM_sound {P:Program} {r:Option Nat} {o:Oper} {x:Operand} {env:Env} {w:World} {next:Value→World→Prop} (hx:q7g P o.op=some x) (h:mlenV w (ev env x) fun n=>next (.int .i64 n) w):Does P r (ev env) o w next:=by
 obtain ⟨c,t,k,e,hop,hc,ha,hat,ht⟩:=mapLenX_some hx;obtain ⟨n,hrun,hK⟩:=mlenV_run ht h;refine Does.value (v:=.int .i64 n) (by simp [hop,qak]) ?_ hK;have hrun':(Builtin.len_ #[t] o.type #[ev env x]).run P w=.ok (.int .i64 n) w:=hrun;simp [execOp,hop,resolve,invoke,builtin,hc,ha,hat,hrun',Result.andThen]
theorem qmd {P:Program} {r:Option Nat} {ops:Array Oper} {N:Nat} {K:Env→World→Prop} (hD:allD N ops.toList=true) {ds:List Deferred}:∀ (l:List Nat) (env:Env) (w:World) (a:Act),
  qj3 P ops.toList l env w K→Rep N env a→a.defers=ds →
  wpOpsIn (Fr r) 0 P ops (fun e a' w'=>e=.normal∧∃ env',Rep N env' a'∧a'.defers=ds∧K env' w') l a w
 | [],env,w,a,h,hr,hds=>⟨rfl,env,hr,hds,h⟩
 | i :: l,env,w,a,h,hr,hds=>by
  simp only [qj3] at h;cases hi:ops.toList[i]? with
  | none=>rw [hi] at h;exact h.elim
  | some o =>
   rw [hi] at h;simp only at h;have hi':ops[i]? = some o:=by simpa using hi
   have hdst:=qsn hD o (List.mem_of_getElem? hi);simp only [wpOpsIn,hi'];rw [want_eq hr];unfold stepM at h;split at h
   ·rename_i x hx hg;have hw:want ops.toList o env=true:=by unfold want;rw [hg]
    rw [if_pos hw];refine ⟨fun _ _=>trivial,?_⟩;rw [hr.ev];exact runM_sound (r:=r) (next:=fun v w'=>qj3 P ops.toList l (put env o.dst v) w' K) hx h a _ _ fun v w' hk=>qmd hD l _ _ _ hk (hr.put hdst v) (by cases o.dst <;> exact hds)
   ·rw [qgl] at h;split
    ·rename_i hw;rw [if_pos hw] at h;refine ⟨fun _ _=>trivial,?_⟩;have hs:=q96 (r:=r) (ρ:=ev env) (fun f=>rfl) o h;rw [hr.ev];exact hs a _ _ fun v w' hk=>qmd hD l _ _ _ hk (hr.put hdst v) (by cases o.dst <;> exact hds)
    ·rename_i hw;rw [if_neg hw] at h;refine ⟨fun _ _=>trivial,?_⟩;exact qmd hD l _ _ _ h (hr.put hdst undef) (by cases o.dst <;> exact hds)
def q44 (P:Program) (N:Nat) (ops:Array Oper) (draw:Bool) (env:Env) (w:World) (K:Env→World→Prop):Prop :=
 match allD N ops.toList with
 | false=>False
 | true=>match draw with
  | false=>qj3 P ops.toList (List.range ops.toList.length) env w K
  | true=>False
theorem regM_sound {P:Program} {r:Option Nat} {N id:Nat} {ops:Array Oper} {draw:Bool} {env:Env} {w:World} {K:Env→World→Prop} {a:Act} (h:q44 P N ops draw env w K) (hr:Rep N env a) :
  (Code.region id ops draw).wpIn (Fr r) 0 P (fun e a' w'=>e=.normal∧∃ env',Rep N env' a'∧a'.defers=a.defers∧K env' w') a w:=by
 unfold q44 at h;split at h
 ·exact h.elim
 ·rename_i hD;split at h
  ·refine wpIn_region ?_;rw [show ops.size=ops.toList.length by simp];exact qmd hD _ _ _ _ h hr rfl
  ·exact h.elim
end Go.Sh
namespace Go.Sh
open Go
def TyA:Atom→Type→Type
 | .bool,R=>Bool→R
 | .int _,R=>Int→R
 | .str,R=>LU→R
 | .slice,R=>OA→Nat→Nat→R
 | .ptr,R=>OA→R
 | .fn,R=>Fn→Array Value→Array Value→R
 | .any,R=>Value→R
def TyL:List Atom→Type→Type
 | [],R=>R
 | a :: l,R=>TyA a (TyL l R)
def Ty1:Sh1→Type→Type
 | .one a,R=>TyA a R
 | .agg l,R=>TyL l R
def TyN:List (Nat × Sh1)→Type→Type
 | [],R=>R
 | (_,s) :: l,R=>Ty1 s (TyN l R)
def allA {R:Type}:(a:Atom)→TyA a R→(Value→R→Prop)→Prop
 | .bool,f,B=>∀ b:Bool,B (.bool b) (f b)
 | .int k,f,B=>∀ n:Int,B (.int k n) (f n)
 | .str,f,B=>∀ l:LU,B (.string ⟨⟨l⟩⟩) (f l)
 | .slice,f,B=>∀ (a:OA) (n c:Nat),B (.slice a n c) (f a n c)
 | .ptr,f,B=>∀ a:OA,B (.pointer a) (f a)
 | .fn,f,B=>∀ (q:Fn) (a b:Array Value),B (.func q a b) (f q a b)
 | .any,f,B=>∀ v:Value,B v (f v)
def allL {R:Type}:(l:List Atom)→TyL l R→(LV→R→Prop)→Prop
 | [],f,B=>B [] f
 | a :: l,f,B=>allA a f fun v f'=>allL l f' fun vs r=>B (v :: vs) r
def all1 {R:Type}:(s:Sh1)→Ty1 s R→(Value→R→Prop)→Prop
 | .one a,f,B=>allA a f B
 | .agg l,f,B=>allL l f fun vs r=>B (.agg ⟨vs⟩) r
def allN {R:Type}:(L:List (Nat × Sh1))→TyN L R→(Env→Env)→((Env→Env)→R→Prop)→Prop
 | [],f,acc,B=>B acc f
 | (d,s) :: L,f,acc,B=>all1 s f fun v f'=>allN L f' (fun e=>upd (acc e) d v) B
def getA {R:Type}:(a:Atom)→TyA a R→Value→(R→Prop)→Prop
 | .bool,f,v,B=>match v with | .bool b=>B (f b) | _=>False
 | .int k,f,v,B=>match v with | .int k' n=>(match decide (k'=k) with | true=>B (f n) | false=>False) | _=>False
 | .str,f,v,B=>match v with | .string s=>B (f s.data.toList) | _=>False
 | .slice,f,v,B=>match v with | .slice a n c=>B (f a n c) | _=>False
 | .ptr,f,v,B=>match v with | .pointer a=>B (f a) | _=>False
 | .fn,f,v,B=>match v with | .func q a b=>B (f q a b) | _=>False
 | .any,f,v,B=>B (f v)
def getL {R:Type}:(l:List Atom)→TyL l R→LV→(R→Prop)→Prop
 | [],f,vs,B=>match vs with | []=>B f | _ :: _=>False
 | a :: l,f,vs,B=>match vs with | v :: vs=>getA a f v fun f'=>getL l f' vs B | []=>False
def get1 {R:Type}:(s:Sh1)→Ty1 s R→Value→(R→Prop)→Prop
 | .one a,f,v,B=>getA a f v B
 | .agg l,f,v,B=>match v with | .agg cs=>getL l f cs.toList B | _=>False
def getN {R:Type}:(L:List (Nat × Sh1))→TyN L R→Env→(R→Prop)→Prop
 | [],f,_,B=>B f
 | (d,s) :: L,f,e,B=>get1 s f (e d) fun f'=>getN L f' e B
section
variable {R R':Type}
theorem getA_all:∀ {a:Atom} {f:TyA a R} {v:Value} {B:R→Prop} {B':Value→R→Prop},getA a f v B→allA a f B'→∃ r,B r∧B' v r
 | .bool,f,v,B,B',h,k=>by cases v <;> simp only [getA] at h;exact ⟨_,h,k _⟩
 | .int q,f,v,B,B',h,k=>by
  cases v <;> simp only [getA] at h;rename_i k' n;split at h
  ·rename_i e;have e':k'=q:=by simpa using e
   subst e';exact ⟨_,h,k _⟩
  ·exact h.elim
 | .str,f,v,B,B',h,k=>by
  cases v <;> simp only [getA] at h;rename_i s;refine ⟨_,h,?_⟩;have:=k s.data.toList
  rwa [ba_eta] at this
 | .slice,f,v,B,B',h,k=>by cases v <;> simp only [getA] at h;exact ⟨_,h,k _ _ _⟩
 | .ptr,f,v,B,B',h,k=>by cases v <;> simp only [getA] at h;exact ⟨_,h,k _⟩
 | .fn,f,v,B,B',h,k=>by cases v <;> simp only [getA] at h;exact ⟨_,h,k _ _ _⟩
 | .any,f,v,B,B',h,k=>⟨_,h,k _⟩
theorem getL_all:∀ {l:List Atom} {f:TyL l R} {vs:LV} {B:R→Prop} {B':LV→R→Prop},getL l f vs B→allL l f B'→∃ r,B r∧B' vs r
 | [],f,vs,B,B',h,k=>by
  cases vs with
  | nil=>exact ⟨_,h,k⟩
  | cons=>exact h.elim
 | a :: l,f,vs,B,B',h,k=>by
  cases vs with
  | nil=>exact h.elim
  | cons v vs =>
   obtain ⟨f',h1,h2⟩:=getA_all h k;exact getL_all (B':=fun vs r=>B' (v :: vs) r) h1 h2
theorem get1_all:∀ {s:Sh1} {f:Ty1 s R} {v:Value} {B:R→Prop} {B':Value→R→Prop},get1 s f v B→all1 s f B'→∃ r,B r∧B' v r
 | .one a,f,v,B,B',h,k=>getA_all h k
 | .agg l,f,v,B,B',h,k=>by
  cases v <;> simp only [get1] at h;rename_i cs;obtain ⟨r,h1,h2⟩:=getL_all h k;exact ⟨r,h1,by simpa using h2⟩
def updAll (L:List (Nat × Sh1)) (acc:Env) (e:Env):Env:=match L with
 | []=>acc
 | (d,_) :: L=>updAll L (upd acc d (e d)) e
theorem qq4:∀ {L:List (Nat × Sh1)} {f:TyN L R} {e:Env} {acc:Env→Env} {B:R→Prop} {B':(Env→Env)→R→Prop},getN L f e B→allN L f acc B' →
  ∃ r acc',B r∧B' acc' r∧∀ x,acc' x=updAll L (acc x) e
 | [],f,e,acc,B,B',h,k=>⟨f,acc,h,k,fun _=>rfl⟩
 | (d,s) :: L,f,e,acc,B,B',h,k=>by
  obtain ⟨f',h1,h2⟩:=get1_all h k;obtain ⟨r,acc',h3,h4,h5⟩:=qq4 h1 h2;exact ⟨r,acc',h3,h4,h5⟩
theorem qiv {L:List (Nat × Sh1)}:∀ {a e:Env},(∀ t,a t=e t)→updAll L a e=e:=by
 induction L with
 | nil=>intro a e h;exact funext h
 | cons p L ih =>
  intro a e h;refine ih fun t=>?_;by_cases ht:t=p.1
  ·rw [ht,qiu]
  ·rw [qgj _ _ _ _ ht];exact h t
end
inductive Ann where
 | leaf
 | one (a:Ann)
 | two (a b:Ann)
 | cut (M:Nat) (L:List (Nat × Sh1)) (a b:Ann)
 | loop (M:Nat) (L:List (Nat × Sh1)) (a:Ann)
 | rf (L:List Nat) (x:Nat)
 | cutD (M:Nat) (L:List (Nat × Sh1)) (a b:Ann)
 | loopD (M:Nat) (L:List (Nat × Sh1)) (a:Ann)
abbrev Qt:=Exit→Env→List Deferred→World→Prop
def thenQ (K:Env→List Deferred→World→Prop) (Q:Qt):Qt
 | .normal=>K
 | e=>Q e
def blkQ (id:Nat) (Q:Qt):Qt
 | .exit i=>match Nat.beq i id with
  | true=>Q .normal
  | false=>Q (.exit i)
 | e=>Q e
def mix (M:Nat) (base env:Env):Env:=fun t=>match Nat.testBit M t with
 | true=>base t
 | false=>env t
def opsIn (M:Nat):List Oper→Bool
 | []=>true
 | o :: l=>match o.dst with
  | none=>opsIn M l
  | some d=>match Nat.testBit M d with
   | true=>opsIn M l
   | false=>false
def qa9 (M:Nat):Code→Bool
 | .region _ ops _=>opsIn M ops.toList
 | .seq a b=>match qa9 M a with | true=>qa9 M b | false=>false
 | .cond _ a b=>match qa9 M a with | true=>qa9 M b | false=>false
 | .block _ a=>qa9 M a
 | .loop a=>qa9 M a
 | .skip=>true
 | .exit _=>true
 | .ret=>true
 | _=>false
def dstsR (M:Nat):Code→Bool
 | .region _ ops _=>opsIn M ops.toList
 | .seq a b=>match dstsR M a with | true=>dstsR M b | false=>false
 | .cond _ a b=>match dstsR M a with | true=>dstsR M b | false=>false
 | .block _ a=>dstsR M a
 | .loop a=>dstsR M a
 | .skip=>true
 | .exit _=>true
 | .ret=>true
 | .rangeFunc _ _ _ _=>true
 | _=>false
def q6b (L:List Nat) (env base:Env):Env:=match L with
 | []=>base
 | d :: L=>upd (q6b L env base) d (env d)
def RFw (P:Program) (r:Option Nat) (N:Nat) (c:Code) (env:Env) (ds:List Deferred) (w:World) (x:Nat) (Qn Qr Qx:List Deferred→World→Prop):Prop :=
 ∀ a:Act,Rep N env a→a.defers=ds→c.wpIn (Fr r) 0 P (fun e a' w'=>a'.tmps=a.tmps∧match e with
  | .normal=>Qn a'.defers w'
  | .ret=>Qr a'.defers w'
  | .exit i=>i=x∧Qx a'.defers w'
  | _=>False) a w
def vc (P:Program) (r:Option Nat) (N:Nat):Ann→Code→Qt→Env→List Deferred→World→Prop
 | .leaf,.skip,Q,env,ds,w=>Q .normal env ds w
 | .leaf,.region _ ops draw,Q,env,ds,w=>vcReg P N ops draw env w fun env' w'=>Q .normal env' ds w'
 | .leaf,.exit id,Q,env,ds,w=>Q (.exit id) env ds w
 | .leaf,.ret,Q,env,ds,w=>Q .ret env ds w
 | .one _,.region _ ops draw,Q,env,ds,w=>q45 P N ops draw env w fun env' w'=>Q .normal env' ds w'
 | .one x,.block id a,Q,env,ds,w=>vc P r N x a (blkQ id Q) env ds w
 | .two _ _,.region _ ops draw,Q,env,ds,w=>q44 P N ops draw env w fun env' w'=>Q .normal env' ds w'
 | .two x y,.seq a b,Q,env,ds,w=>vc P r N x a (thenQ (fun env' ds' w'=>vc P r N y b Q env' ds' w') Q) env ds w
 | .two x y,.cond c a b,Q,env,ds,w=>match ev env c with
  | .bool t=>br t (vc P r N x a Q env ds w) (vc P r N y b Q env ds w)
  | _=>False
 | .cut M L x y,.seq a b,Q,env,ds,w=>match qa9 M a with
  | true=>∀ K:TyN L (WP),allN L K (fun e=>e) (fun acc k=>∀ w1:World,(∀ base:Env,vc P r N y b Q (acc (mix M base env)) ds w1)→k w1) →
    vc P r N x a (thenQ (fun env' _ w'=>getN L K env' fun k=>k w') Q) env ds w
  | false=>False
 | .loop M L x,.loop a,Q,env,ds,w=>match qa9 M a with
  | true=>∃ Inv:TyN L (World→Nat→Prop),getN L Inv env (fun i=>∃ m:Nat,i w m) ∧
    allN L Inv (fun e=>e) fun acc i=>∀ (w1:World) (m:Nat),i w1 m→∀ base:Env,
     vc P r N x a (thenQ (fun env' _ w'=>getN L Inv env' fun i'=>∃ m':Nat,m' < m∧i' w' m') Q) (acc (mix M base env)) ds w1
  | false=>False
 | .cutD M L x y,.seq a b,Q,env,ds,w=>match dstsR M a with
  | true=>∀ K:TyN L (List Deferred→World→Prop),allN L K (fun e=>e) (fun acc k=>∀ (ds1:List Deferred) (w1:World),(∀ base:Env,vc P r N y b Q (acc (mix M base env)) ds1 w1)→k ds1 w1) →
    vc P r N x a (thenQ (fun env' ds' w'=>getN L K env' fun k=>k ds' w') Q) env ds w
  | false=>False
 | .loopD M L x,.loop a,Q,env,ds,w=>match dstsR M a with
  | true=>∃ Inv:TyN L (List Deferred→World→Nat→Prop),getN L Inv env (fun i=>∃ m:Nat,i ds w m) ∧
    allN L Inv (fun e=>e) fun acc i=>∀ (ds1:List Deferred) (w1:World) (m:Nat),i ds1 w1 m→∀ base:Env,
     vc P r N x a (thenQ (fun env' ds' w'=>getN L Inv env' fun i'=>∃ m':Nat,m' < m∧i' ds' w' m') Q) (acc (mix M base env)) ds1 w1
  | false=>False
 | .rf L x,.rangeFunc g ps c1 c2,Q,env,ds,w=>∀ base:Env,RFw P r N (.rangeFunc g ps c1 c2) (q6b L env base) ds w x
   (fun ds' w'=>Q .normal env ds' w') (fun ds' w'=>Q .ret env ds' w') (fun ds' w'=>Q (.exit x) env ds' w')
 | _,_,_,_,_,_=>False
end Go.Sh
namespace Go.Sh
open Go
section
variable {P:Program} {r:Option Nat} {N:Nat}
theorem q6h {all:List Oper} {o:Oper} {env:Env} {w:World} {K:Env→World→Prop} {M:Nat} (hM:∀ d,o.dst=some d→Nat.testBit M d=true)
  (h:stepO P all o env w K):stepO P all o env w fun env' w'=>K env' w'∧∀ t,Nat.testBit M t=false→env' t=env t:=by
 have hp:∀ v,∀ t,Nat.testBit M t=false→put env o.dst v t=env t:=by
  intro v t ht;cases hd:o.dst with
  | none=>rfl
  | some d =>
   have:t≠d:=fun e=>by rw [e,hM d hd] at ht;cases ht
   exact qgj _ _ _ _ this
 rw [qgl] at h ⊢;split
 ·rename_i hw;rw [if_pos hw] at h;exact qp0 h fun v w' hk=>⟨hk,hp v⟩
 ·rename_i hw;rw [if_neg hw] at h;exact ⟨h,hp _⟩
theorem qht {M:Nat}:∀ {l:List Oper},opsIn M l=true→∀ o∈l,∀ d,o.dst=some d→Nat.testBit M d=true
 | [],_,o,ho,_,_=>by simp at ho
 | x :: l,h,o,ho,d,hd=>by
  simp only [opsIn] at h;rcases List.mem_cons.1 ho with rfl | ho
  ·rw [hd] at h;simp only at h;split at h
   ·assumption
   ·cases h
  ·split at h
   ·exact qht h o ho d hd
   ·split at h
    ·exact qht h o ho d hd
    ·cases h
theorem idx_keep {all:List Oper} {M:Nat} (hM:opsIn M all=true) {K:Env→World→Prop}:∀ (l:List Nat) (env:Env) (w:World),vcIdx P all l env w K →
  vcIdx P all l env w fun env' w'=>K env' w'∧∀ t,Nat.testBit M t=false→env' t=env t
 | [],env,w,h=>⟨h,fun _ _=>rfl⟩
 | i :: l,env,w,h=>by
  simp only [vcIdx] at h ⊢;cases hi:all[i]? with
  | none=>rw [hi] at h;exact h
  | some o =>
   rw [hi] at h;simp only at h ⊢;refine qbc (q6h (qht hM o (List.mem_of_getElem? hi)) h) fun env' w' hk=>?_;have:=idx_keep hM l env' w' hk.1
   refine idx_mono' l _ _ this fun env'' w'' hh=>⟨hh.1,fun t ht=>(hh.2 t ht).trans (hk.2 t ht)⟩
 where
 idx_mono' {K K':Env→World→Prop}:∀ (l:List Nat) (env:Env) (w:World),vcIdx P all l env w K→(∀ e w',K e w'→K' e w')→vcIdx P all l env w K'
 | [],env,w,h,hk=>hk _ _ h
 | i :: l,env,w,h,hk=>by
  simp only [vcIdx] at h ⊢;cases hi:all[i]? with
  | none=>rw [hi] at h;exact h
  | some o =>
   rw [hi] at h;simp only at h ⊢;exact qbc h fun env' w' hh=>idx_mono' l _ _ hh hk
theorem qsl {f g:NP} {en:Nat→Bool} (h:∀ j,f j→g j):∀ {l:List Nat},alts f en l→alts g en l
 | [],_=>trivial
 | j :: l,hl=>by
  simp only [alts] at hl ⊢;split at hl
  ·exact ⟨h _ hl.1,qsl h hl.2⟩
  ·exact qsl h hl
theorem q0a {all:List Oper}:∀ (n:Nat) (rem:List Nat) {K K':Env→World→Prop} (env:Env) (w:World),qhn P all n rem env w K→(∀ e w',K e w'→K' e w')→qhn P all n rem env w K'
 | n,[],_,_,env,w,h,hk=>by cases n <;> exact hk _ _ h
 | 0,_ :: _,_,_,env,w,h,hk=>h
 | n + 1,i :: l,_,_,env,w,h,hk=>by
  simp only [qhn] at h ⊢;split at h
  ·split at h
   ·exact qbc h fun env' w' hh=>q0a n _ _ _ hh hk
   ·exact h
  ·refine qsl (fun j hj=>?_) h;split at hj
   ·exact qbc hj fun env' w' hh=>q0a n _ _ _ hh hk
   ·exact hj
theorem qgk {all:List Oper} {o:Oper} {env:Env} {w:World} {K:Env→World→Prop} (ho:o∈all) (h:stepO P all o env w K) :
  stepO P all o env w fun env' w'=>(∀ M,opsIn M all=true→∀ t,Nat.testBit M t=false→env' t=env t)∧K env' w':=by
 have hp:∀ v,∀ M,opsIn M all=true→∀ t,Nat.testBit M t=false→put env o.dst v t=env t:=by
  intro v M hM t ht;cases hd:o.dst with
  | none=>rfl
  | some d =>
   have:t≠d:=fun e=>by rw [e,qht hM o ho d hd] at ht;cases ht
   exact qgj _ _ _ _ this
 rw [qgl] at h ⊢;split
 ·rename_i hw;rw [if_pos hw] at h;exact qp0 h fun v w' hk=>⟨hp v,hk⟩
 ·rename_i hw;rw [if_neg hw] at h;exact ⟨hp _,h⟩
theorem q5r {all:List Oper} {K:Env→World→Prop}:∀ (l:List Nat) (env:Env) (w:World),vcIdx P all l env w K →
  vcIdx P all l env w fun env' w'=>(∀ M,opsIn M all=true→∀ t,Nat.testBit M t=false→env' t=env t)∧K env' w'
 | [],env,w,h=>⟨fun _ _ _ _=>rfl,h⟩
 | i :: l,env,w,h=>by
  simp only [vcIdx] at h ⊢;cases hi:all[i]? with
  | none=>rw [hi] at h;exact h
  | some o =>
   rw [hi] at h;simp only at h ⊢;refine qbc (qgk (List.mem_of_getElem? hi) h) fun env' w' hk=>?_;exact idx_keep.idx_mono' l _ _ (q5r l env' w' hk.2) fun env'' w'' hh=>⟨fun M hM t ht=>(hh.1 M hM t ht).trans (hk.1 M hM t ht),hh.2⟩
theorem q0b {all:List Oper} {K:Env→World→Prop}:∀ (n:Nat) (rem:List Nat) (env:Env) (w:World),qhn P all n rem env w K →
  qhn P all n rem env w fun env' w'=>(∀ M,opsIn M all=true→∀ t,Nat.testBit M t=false→env' t=env t)∧K env' w'
 | n,[],env,w,h=>by cases n <;> exact ⟨fun _ _ _ _=>rfl,h⟩
 | 0,_ :: _,env,w,h=>h
 | n + 1,i :: l,env,w,h=>by
  have step:∀ (o:Oper) (rem':List Nat) (j:Nat),all[j]? = some o→stepO P all o env w (fun env' w'=>qhn P all n rem' env' w' K) →
    stepO P all o env w (fun env' w'=>qhn P all n rem' env' w' fun env'' w''=>(∀ M,opsIn M all=true→∀ t,Nat.testBit M t=false→env'' t=env t)∧K env'' w''):=by
   intro o rem' j hj hs;refine qbc (qgk (List.mem_of_getElem? hj) hs) fun env' w' hk=>?_;exact q0a n _ _ _ (q0b n _ _ _ hk.2) fun env'' w'' hh=>⟨fun M hM t ht=>(hh.1 M hM t ht).trans (hk.1 M hM t ht),hh.2⟩
  simp only [qhn] at h ⊢;split at h
  ·split at h
   ·rename_i o ho;exact step o _ i ho h
   ·exact h
  ·refine qsl (fun j hj=>?_) h;split at hj
   ·rename_i o ho;exact step o _ j ho hj
   ·exact hj
theorem reg_frames {ops:Array Oper} {draw:Bool} {env:Env} {w:World} {K:Env→World→Prop} (h:vcReg P N ops draw env w K) :
  vcReg P N ops draw env w fun env' w'=>(∀ M,opsIn M ops.toList=true→∀ t,Nat.testBit M t=false→env' t=env t)∧K env' w':=by
 unfold vcReg at h ⊢;split at h
 ·exact h
 ·split at h
  ·exact q5r _ _ _ h
  ·split at h
   ·exact q0b _ _ _ _ h
   ·exact h
theorem q5o {w:World} {v:Value} {K K':Int→Prop} (h:mlenV w v K) (hk:∀ n,K n→K' n):mlenV w v K':=by
 unfold mlenV at h ⊢;split at h
 ·exact hk _ h
 ·obtain ⟨es,clock,hb,hK⟩:=h;exact ⟨es,clock,hb,hk _ hK⟩
 ·exact h.elim
theorem q5b {all:List Oper} {o:Oper} {env:Env} {w:World} {K K':Env→World→Prop} (h:stepM P all o env w K) (hk:∀ e w',K e w'→K' e w'):stepM P all o env w K':=by
 unfold stepM at h ⊢;split at h
 ·exact q5o h fun n hn=>hk _ _ hn
 ·exact qbc h hk
theorem q95 {all:List Oper} {o:Oper} {env:Env} {w:World} {K:Env→World→Prop} (ho:o∈all) (h:stepM P all o env w K) :
  stepM P all o env w fun env' w'=>(∀ M,opsIn M all=true→∀ t,Nat.testBit M t=false→env' t=env t)∧K env' w':=by
 have hp:∀ v,∀ M,opsIn M all=true→∀ t,Nat.testBit M t=false→put env o.dst v t=env t:=by
  intro v M hM t ht;cases hd:o.dst with
  | none=>rfl
  | some d =>
   have:t≠d:=fun e=>by rw [e,qht hM o ho d hd] at ht;cases ht
   exact qgj _ _ _ _ this
 unfold stepM at h ⊢;split at h
 ·exact q5o h fun n hn=>⟨hp _,hn⟩
 ·exact qgk ho h
theorem idxM_mono {all:List Oper} {K K':Env→World→Prop}:∀ (l:List Nat) (env:Env) (w:World),qj3 P all l env w K→(∀ e w',K e w'→K' e w')→qj3 P all l env w K'
 | [],env,w,h,hk=>hk _ _ h
 | i :: l,env,w,h,hk=>by
  simp only [qj3] at h ⊢;cases hi:all[i]? with
  | none=>rw [hi] at h;exact h
  | some o =>
   rw [hi] at h;simp only at h ⊢;exact q5b h fun env' w' hh=>idxM_mono l _ _ hh hk
theorem qzy {all:List Oper} {K:Env→World→Prop}:∀ (l:List Nat) (env:Env) (w:World),qj3 P all l env w K →
  qj3 P all l env w fun env' w'=>(∀ M,opsIn M all=true→∀ t,Nat.testBit M t=false→env' t=env t)∧K env' w'
 | [],env,w,h=>⟨fun _ _ _ _=>rfl,h⟩
 | i :: l,env,w,h=>by
  simp only [qj3] at h ⊢;cases hi:all[i]? with
  | none=>rw [hi] at h;exact h
  | some o =>
   rw [hi] at h;simp only at h ⊢;refine q5b (q95 (List.mem_of_getElem? hi) h) fun env' w' hk=>?_;exact idxM_mono l _ _ (qzy l env' w' hk.2) fun env'' w'' hh=>⟨fun M hM t ht=>(hh.1 M hM t ht).trans (hk.1 M hM t ht),hh.2⟩
theorem regM_frames {ops:Array Oper} {draw:Bool} {env:Env} {w:World} {K:Env→World→Prop} (h:q44 P N ops draw env w K) :
  q44 P N ops draw env w fun env' w'=>(∀ M,opsIn M ops.toList=true→∀ t,Nat.testBit M t=false→env' t=env t)∧K env' w':=by
 unfold q44 at h ⊢;split at h
 ·exact h
 ·split at h
  ·exact qzy _ _ _ h
  ·exact h
theorem qia {f g:Nat→List Nat→Prop} {en cls:Nat→Bool} (h:∀ j sl,f j sl→g j sl):∀ {l sl:List Nat},alts2 f en cls l sl→alts2 g en cls l sl
 | [],_,_=>trivial
 | j :: l,sl,hl=>by
  simp only [alts2] at hl ⊢;split at hl
  ·exact qia h hl
  ·split at hl
   ·exact qia h hl
   ·exact ⟨h _ _ hl.1,qia h hl.2⟩
theorem quc {all:List Oper}:∀ (n:Nat) (rem sl:List Nat) {K K':Env→World→Prop} (env:Env) (w:World),qcn P all n rem sl env w K→(∀ e w',K e w'→K' e w')→qcn P all n rem sl env w K'
 | n,[],_,_,_,env,w,h,hk=>by cases n <;> exact hk _ _ h
 | 0,_ :: _,_,_,_,env,w,h,hk=>h
 | n + 1,i :: l,sl,_,_,env,w,h,hk=>by
  simp only [qcn] at h ⊢;split at h
  ·split at h
   ·exact qbc h fun env' w' hh=>quc n _ _ _ _ hh hk
   ·exact h
  ·refine qia (fun j sl' hj=>?_) h;split at hj
   ·exact qbc hj fun env' w' hh=>quc n _ _ _ _ hh hk
   ·exact hj
theorem qvr {all:List Oper} {K:Env→World→Prop}:∀ (n:Nat) (rem sl:List Nat) (env:Env) (w:World),qcn P all n rem sl env w K →
  qcn P all n rem sl env w fun env' w'=>(∀ M,opsIn M all=true→∀ t,Nat.testBit M t=false→env' t=env t)∧K env' w'
 | n,[],_,env,w,h=>by cases n <;> exact ⟨fun _ _ _ _=>rfl,h⟩
 | 0,_ :: _,_,env,w,h=>h
 | n + 1,i :: l,sl,env,w,h=>by
  have step:∀ (o:Oper) (rem' sl':List Nat) (j:Nat),all[j]? = some o→stepO P all o env w (fun env' w'=>qcn P all n rem' sl' env' w' K) →
    stepO P all o env w (fun env' w'=>qcn P all n rem' sl' env' w' fun env'' w''=>(∀ M,opsIn M all=true→∀ t,Nat.testBit M t=false→env'' t=env t)∧K env'' w''):=by
   intro o rem' sl' j hj hs;refine qbc (qgk (List.mem_of_getElem? hj) hs) fun env' w' hk=>?_;exact quc n _ _ _ _ (qvr n _ _ _ _ hk.2) fun env'' w'' hh=>⟨fun M hM t ht=>(hh.1 M hM t ht).trans (hk.1 M hM t ht),hh.2⟩
  simp only [qcn] at h ⊢;split at h
  ·split at h
   ·rename_i o ho;exact step o _ _ _ ho h
   ·exact h
  ·refine qia (fun j sl' hj=>?_) h;split at hj
   ·rename_i o ho;exact step o _ _ j ho hj
   ·exact hj
theorem reg2_frames {ops:Array Oper} {draw:Bool} {env:Env} {w:World} {K:Env→World→Prop} (h:q45 P N ops draw env w K) :
  q45 P N ops draw env w fun env' w'=>(∀ M,opsIn M ops.toList=true→∀ t,Nat.testBit M t=false→env' t=env t)∧K env' w':=by
 unfold q45 at h ⊢;split at h
 ·exact h
 ·split at h
  ·exact h
  ·split at h
   ·exact qvr _ _ _ _ _ h
   ·exact h
theorem getA_pt {R:Type}:∀ {a:Atom} {f:TyA a R} {v:Value} {B:R→Prop},getA a f v B→∃ r,B r∧∀ B':R→Prop,B' r→getA a f v B'
 | .bool,f,v,B,h=>by cases v <;> simp only [getA] at h;exact ⟨_,h,fun _ k=>k⟩
 | .int q,f,v,B,h=>by
  cases v <;> simp only [getA] at h;rename_i k' n;cases hd:decide (k'=q) <;> rw [hd] at h
  ·exact h.elim
  ·exact ⟨_,h,fun B' k=>by simp only [getA,hd];exact k⟩
 | .str,f,v,B,h=>by cases v <;> simp only [getA] at h;exact ⟨_,h,fun _ k=>k⟩
 | .slice,f,v,B,h=>by cases v <;> simp only [getA] at h;exact ⟨_,h,fun _ k=>k⟩
 | .ptr,f,v,B,h=>by cases v <;> simp only [getA] at h;exact ⟨_,h,fun _ k=>k⟩
 | .fn,f,v,B,h=>by cases v <;> simp only [getA] at h;exact ⟨_,h,fun _ k=>k⟩
 | .any,f,v,B,h=>⟨_,h,fun _ k=>k⟩
theorem getL_pt {R:Type}:∀ {l:List Atom} {f:TyL l R} {vs:LV} {B:R→Prop},getL l f vs B→∃ r,B r∧∀ B':R→Prop,B' r→getL l f vs B'
 | [],f,vs,B,h=>by
  cases vs with
  | nil=>exact ⟨_,h,fun _ k=>k⟩
  | cons=>exact h.elim
 | a :: l,f,vs,B,h=>by
  cases vs with
  | nil=>exact h.elim
  | cons v vs =>
   obtain ⟨f',h1,k1⟩:=getA_pt h;obtain ⟨r,h2,k2⟩:=getL_pt h1;exact ⟨r,h2,fun B' k=>k1 _ (k2 _ k)⟩
theorem get1_pt {R:Type}:∀ {s:Sh1} {f:Ty1 s R} {v:Value} {B:R→Prop},get1 s f v B→∃ r,B r∧∀ B':R→Prop,B' r→get1 s f v B'
 | .one a,f,v,B,h=>getA_pt h
 | .agg l,f,v,B,h=>by
  cases v <;> simp only [get1] at h;obtain ⟨r,h2,k2⟩:=getL_pt h;exact ⟨r,h2,fun B' k=>k2 _ k⟩
theorem qz3 {R:Type}:∀ {L:List (Nat × Sh1)} {f:TyN L R} {e:Env} {B:R→Prop},getN L f e B→∃ r,B r∧∀ B':R→Prop,B' r→getN L f e B'
 | [],f,e,B,h=>⟨_,h,fun _ k=>k⟩
 | (d,s) :: L,f,e,B,h=>by
  obtain ⟨f',h1,k1⟩:=get1_pt h;obtain ⟨r,h2,k2⟩:=qz3 h1;exact ⟨r,h2,fun B' k=>k1 _ (k2 _ k)⟩
def mkA {R:Type}:(a:Atom)→(Value→R)→TyA a R
 | .bool,g=>fun b=>g (.bool b)
 | .int k,g=>fun n=>g (.int k n)
 | .str,g=>fun l=>g (.string ⟨⟨l⟩⟩)
 | .slice,g=>fun a n c=>g (.slice a n c)
 | .ptr,g=>fun a=>g (.pointer a)
 | .fn,g=>fun q a b=>g (.func q a b)
 | .any,g=>fun v=>g v
def mkL {R:Type}:(l:List Atom)→(LV→R)→TyL l R
 | [],g=>g []
 | a :: l,g=>mkA a fun v=>mkL l fun vs=>g (v :: vs)
def mk1 {R:Type}:(s:Sh1)→(Value→R)→Ty1 s R
 | .one a,g=>mkA a g
 | .agg l,g=>mkL l fun vs=>g (.agg ⟨vs⟩)
def mkN {R:Type}:(L:List (Nat × Sh1))→(Env→Env)→((Env→Env)→R)→TyN L R
 | [],acc,g=>g acc
 | (d,s) :: L,acc,g=>mk1 s fun v=>mkN L (fun e=>upd (acc e) d v) g
theorem mkA_all {R:Type}:∀ {a:Atom} {g:Value→R} {B:Value→R→Prop},(∀ v,B v (g v))→allA a (mkA a g) B
 | .bool,_,_,h=>fun _=>h _
 | .int _,_,_,h=>fun _=>h _
 | .str,_,_,h=>fun _=>h _
 | .slice,_,_,h=>fun _ _ _=>h _
 | .ptr,_,_,h=>fun _=>h _
 | .fn,_,_,h=>fun _ _ _=>h _
 | .any,_,_,h=>fun _=>h _
theorem mkL_all {R:Type}:∀ {l:List Atom} {g:LV→R} {B:LV→R→Prop},(∀ v,B v (g v))→allL l (mkL l g) B
 | [],_,_,h=>h _
 | a :: l,g,B,h=>mkA_all (g:=fun v=>mkL l fun vs=>g (v :: vs)) fun v=>mkL_all (B:=fun vs r=>B (v :: vs) r) fun vs=>h _
theorem mk1_all {R:Type}:∀ {s:Sh1} {g:Value→R} {B:Value→R→Prop},(∀ v,B v (g v))→all1 s (mk1 s g) B
 | .one a,_,_,h=>mkA_all h
 | .agg l,g,B,h=>mkL_all (g:=fun vs=>g (.agg ⟨vs⟩)) (B:=fun vs r=>B (.agg ⟨vs⟩) r) fun vs=>h _
theorem qzs {R:Type}:∀ {L:List (Nat × Sh1)} {acc:Env→Env} {g:(Env→Env)→R} {B:(Env→Env)→R→Prop},(∀ a,B a (g a))→allN L (mkN L acc g) acc B
 | [],_,_,_,h=>h _
 | (d,s) :: L,acc,g,B,h=>mk1_all (g:=fun v=>mkN L (fun e=>upd (acc e) d v) g) fun v=>qzs h
theorem qx0 {M:Nat} {env env':Env} (h:∀ t,Nat.testBit M t=false→env' t=env t):mix M env' env=env':=by
 funext t
 cases hb:Nat.testBit M t with
 | true=>simp [mix,hb]
 | false=>simp [mix,hb,h t hb]
theorem q9z (L:List Nat) (env:Env):q6b L env env=env:=by
 induction L with
 | nil=>rfl
 | cons d L ih=>simp only [q6b,ih,upd_self]
def Post (N:Nat) (c:Code) (env:Env) (ds:List Deferred) (Q:Qt):Exit→Act→World→Prop:=fun e a' w' =>
 ∃ env',Rep N env' a'∧Q e env' a'.defers w'∧(∀ M,qa9 M c=true→a'.defers=ds)∧∀ M,dstsR M c=true→∀ t,Nat.testBit M t=false→env' t=env t
theorem qgr (M:Nat):∀ c:Code,qa9 M c=true→dstsR M c=true
 | .region _ ops _,h=>h
 | .seq a b,h=>by
  simp only [qa9] at h;cases h1:qa9 M a <;> rw [h1] at h
  ·cases h
  ·simp only [dstsR,qgr M a h1];exact qgr M b h
 | .cond _ a b,h=>by
  simp only [qa9] at h;cases h1:qa9 M a <;> rw [h1] at h
  ·cases h
  ·simp only [dstsR,qgr M a h1];exact qgr M b h
 | .block _ a,h=>qgr M a h
 | .loop a,h=>qgr M a h
 | .skip,_=>rfl
 | .exit _,_=>rfl
 | .ret,_=>rfl
 | .rangeFunc _ _ _ _,_=>rfl
 | .scope ..,h=>by simp [qa9] at h
 | .refuse ..,h=>by simp [qa9] at h
theorem qyd {F:Fence} {n:Nat} {Q:Exit→Act→World→Prop} {c:Code} (J:Act→World→Nat→Prop)
  (round:∀ a w m,J a w m→c.wpIn F n P (Exit.then (fun a' w'=>∃ m',m' < m∧J a' w' m') Q) a w):∀ (m:Nat) (a:Act) (w:World),J a w m→(Code.loop c).wpIn F n P Q a w:=by
 intro m a w hJ b k cs hro hb hr;have key:∀ m a w,J a w m →
   ∃ e a' w',Q e a' w'∧ArrivesIn (Machine.fenced P F) P (lone (b.atR a (.code c :: .inLoop c :: k)) cs w) b k cs e a' w':=by
  intro m
  induction m using Nat.strongRecOn with
  | _ m ih =>
   intro a w hJ;obtain ⟨e,a₁,w₁,hq,harr⟩:=round a w m hJ b (.inLoop c :: k) cs hro hb hr;cases e with
   | normal =>
    obtain ⟨m',hlt,hJ₁⟩:=hq;obtain ⟨e₂,a₂,w₂,hq₂,harr₂⟩:=ih m' hlt a₁ w₁ hJ₁;exact ⟨e₂,a₂,w₂,hq₂,.of_steps (StepsIn.trans harr (.one (fenced_calm hb hr rfl) stepR_inLoop)) harr₂⟩
   | exit id=>exact ⟨_,a₁,w₁,hq,.pass (x:=.inLoop c) rfl (fun _ _=>.inl (by simp)) harr⟩
   | goto l=>exact ⟨_,a₁,w₁,hq,.pass (x:=.inLoop c) rfl (fun _ _=>.inl (by simp)) harr⟩
   | ret=>exact ⟨_,a₁,w₁,hq,.pass (x:=.inLoop c) rfl (fun _ _=>.inl (by simp)) harr⟩
   | panic ch=>exact ⟨_,a₁,w₁,hq,.pass (x:=.inLoop c) rfl (fun _ _=>.inl (by simp)) harr⟩
   | outgrown=>exact ⟨_,a₁,w₁,hq,.pass (x:=.inLoop c) rfl (fun _ _=>.inl (by simp)) harr⟩
 obtain ⟨e,a',w',hq,harr⟩:=key m a w hJ;exact ⟨e,a',w',hq,.of_steps (.one (fenced_calm hb hr rfl) stepR_loop) harr⟩
theorem qit:∀ (x:Ann) (c:Code) {Q:Qt} {env:Env} {ds:List Deferred} {w:World} {a:Act},vc P r N x c Q env ds w→Rep N env a→a.defers=ds →
  c.wpIn (Fr r) 0 P (Post N c env ds Q) a w:=by
 have seqIn:∀ (c1 c2:Code) (M:Nat),qa9 M (.seq c1 c2)=true→qa9 M c1=true∧qa9 M c2=true:=by
  intro c1 c2 M hM;simp only [qa9] at hM;cases h1:qa9 M c1 <;> rw [h1] at hM
  ·cases hM
  ·exact ⟨rfl,hM⟩
 have seqR:∀ (c1 c2:Code) (M:Nat),dstsR M (.seq c1 c2)=true→dstsR M c1=true∧dstsR M c2=true:=by
  intro c1 c2 M hM;simp only [dstsR] at hM;cases h1:dstsR M c1 <;> rw [h1] at hM
  ·cases hM
  ·exact ⟨rfl,hM⟩
 intro x
 induction x with
 | leaf =>
  intro c Q env ds w a h hr hd;cases c <;> try exact False.elim h
  case skip=>exact wpIn_skip ⟨env,hr,hd ▸ h,fun _ _=>hd,fun _ _ _ _=>rfl⟩
  case region id ops draw =>
   have h1:=reg_sound (r:=r) (id:=id) (a:=a) (reg_frames h) hr
   ·refine wpIn_mono h1 fun e a' w' hh=>?_;obtain ⟨rfl,env',h2,h3,h4,h5⟩:=hh;refine ⟨env',h2,?_,fun M hM=>h3.trans hd,fun M hM=>h4 M hM⟩;rw [h3,hd];exact h5
  case exit id=>exact wpIn_exit ⟨env,hr,hd ▸ h,fun _ _=>hd,fun _ _ _ _=>rfl⟩
  case ret=>exact wpIn_ret ⟨env,hr,hd ▸ h,fun _ _=>hd,fun _ _ _ _=>rfl⟩
 | one x ih =>
  intro c Q env ds w a h hr hd;cases c <;> try exact False.elim h
  case region id ops draw =>
   have h1:=reg2_sound (r:=r) (id:=id) (a:=a) (reg2_frames h) hr
   ·refine wpIn_mono h1 fun e a' w' hh=>?_;obtain ⟨rfl,env',h2,h3,h4,h5⟩:=hh;refine ⟨env',h2,?_,fun M hM=>h3.trans hd,fun M hM=>h4 M hM⟩;rw [h3,hd];exact h5
  case block id b =>
   refine wpIn_block (wpIn_mono (ih _ h hr hd) fun e a' w' hh=>?_);obtain ⟨env',h1,h2,h3⟩:=hh;cases e <;> try exact ⟨env',h1,h2,h3⟩
   rename_i i;simp only [Exit.inBlock];split
   ·rename_i e;subst e;simp only [blkQ,Nat.beq_refl] at h2;exact ⟨env',h1,h2,h3⟩
   ·rename_i e;have:Nat.beq i id=false:=by
     cases hb:Nat.beq i id with
     | false=>rfl
     | true=>exact absurd (Nat.eq_of_beq_eq_true hb) e
    simp only [blkQ,this] at h2;exact ⟨env',h1,h2,h3⟩
 | two x y ihx ihy =>
  intro c Q env ds w a h hr hd;cases c <;> try exact False.elim h
  case region id ops draw =>
   have h1:=regM_sound (r:=r) (id:=id) (a:=a) (regM_frames h) hr
   ·refine wpIn_mono h1 fun e a' w' hh=>?_;obtain ⟨rfl,env',h2,h3,h4,h5⟩:=hh;refine ⟨env',h2,?_,fun M hM=>h3.trans hd,fun M hM=>h4 M hM⟩;rw [h3,hd];exact h5
  case seq c1 c2 =>
   refine wpIn_seq (wpIn_mono (ihx _ h hr hd) fun e a' w' hh=>?_);obtain ⟨env',h1,h2,h3,h4⟩:=hh;cases e <;> try exact ⟨env',h1,h2,fun M hm=>h3 M (seqIn _ _ M hm).1,fun M hm=>h4 M (seqR _ _ M hm).1⟩
   refine wpIn_mono (ihy _ h2 h1 rfl) fun e' a'' w'' hh=>?_;obtain ⟨env'',g1,g2,g3,g4⟩:=hh;exact ⟨env'',g1,g2,fun M hm=>(g3 M (seqIn _ _ M hm).2).trans (h3 M (seqIn _ _ M hm).1),fun M hm t ht=>(g4 M (seqR _ _ M hm).2 t ht).trans (h4 M (seqR _ _ M hm).1 t ht)⟩
  case cond g c1 c2 =>
   have hM:∀ M,qa9 M (.cond g c1 c2)=true→qa9 M c1=true∧qa9 M c2=true:=fun M hM=>seqIn c1 c2 M hM;have hR:∀ M,dstsR M (.cond g c1 c2)=true→dstsR M c1=true∧dstsR M c2=true:=fun M hM=>seqR c1 c2 M hM;simp only [vc] at h;cases hg:ev env g <;> rw [hg] at h <;> try exact h.elim
   rename_i t;have hg':a.eval g=.bool t:=by rw [hr.ev];exact hg
   refine wpIn_cond hg' ?_;cases t
   ·refine wpIn_mono (ihy _ h hr hd) fun e a' w' hh=>?_;obtain ⟨env',h1,h2,h3,h4⟩:=hh;exact ⟨env',h1,h2,fun M hm=>h3 M (hM M hm).2,fun M hm=>h4 M (hR M hm).2⟩
   ·refine wpIn_mono (ihx _ h hr hd) fun e a' w' hh=>?_;obtain ⟨env',h1,h2,h3,h4⟩:=hh;exact ⟨env',h1,h2,fun M hm=>h3 M (hM M hm).1,fun M hm=>h4 M (hR M hm).1⟩
 | cut M L x y ihx ihy =>
  intro c Q env ds w a h hr hd;cases c <;> try exact False.elim h
  case seq c1 c2 =>
   simp only [vc] at h;cases hdi:qa9 M c1 <;> rw [hdi] at h
   ·exact h.elim
   have hk:=h (mkN L (fun e=>e) fun acc w1=>∀ base:Env,vc P r N y c2 Q (acc (mix M base env)) ds w1) (qzs fun acc w1 hb=>hb);refine wpIn_seq (wpIn_mono (ihx _ hk hr hd) fun e a' w' hh=>?_);obtain ⟨env',h1,h2,h3,h4⟩:=hh;cases e <;> try exact ⟨env',h1,h2,fun M hm=>h3 M (seqIn _ _ M hm).1,fun M hm=>h4 M (seqR _ _ M hm).1⟩
   obtain ⟨rr,acc',k1,k2,k3⟩:=qq4 h2 (qzs (B:=fun acc k=>k=fun w1=>∀ base:Env,vc P r N y c2 Q (acc (mix M base env)) ds w1) fun acc=>rfl);rw [k2] at k1;have k4:=k1 env';rw [k3,qx0 (h4 M (qgr M _ hdi)),qiv (fun _=>rfl)] at k4;refine wpIn_mono (ihy _ k4 h1 (h3 M hdi)) fun e' a'' w'' hh=>?_;obtain ⟨env'',g1,g2,g3,g4⟩:=hh;exact ⟨env'',g1,g2,fun M hm=>g3 M (seqIn _ _ M hm).2,fun M hm t ht=>(g4 M (seqR _ _ M hm).2 t ht).trans (h4 M (seqR _ _ M hm).1 t ht)⟩
 | loop M L x ih =>
  intro c Q env ds w a h hr hd;cases c <;> try exact False.elim h
  case loop b =>
   simp only [vc] at h;cases hdi:qa9 M b <;> rw [hdi] at h
   ·exact h.elim
   obtain ⟨Inv,h1,h2⟩:=h;obtain ⟨i0,⟨m0,hi0⟩,p0⟩:=qz3 h1;refine qyd (fun a1 w1 m=>∃ env1,Rep N env1 a1∧a1.defers=ds∧(∀ M',dstsR M' b=true→∀ t,Nat.testBit M' t=false→env1 t=env t)∧getN L Inv env1 fun i=>i w1 m)
    ?_ m0 a w ⟨env,hr,hd,fun _ _ _ _=>rfl,p0 _ hi0⟩
   rintro a1 w1 m ⟨env1,r1,d1,f1,g1⟩;obtain ⟨i1,acc',k1,k2,k3⟩:=qq4 g1 h2;have k4:=k2 w1 m k1 env1;rw [k3,qx0 (f1 M (qgr M _ hdi)),qiv (fun _=>rfl)] at k4;refine wpIn_mono (ih _ k4 r1 d1) fun e a' w' hh=>?_;obtain ⟨env',q1,q2,q3,q4⟩:=hh;cases e <;> try exact ⟨env',q1,q2,fun M' hm=>q3 M' hm,fun M' hm t ht=>(q4 M' hm t ht).trans (f1 M' hm t ht)⟩
   obtain ⟨i2,⟨m2,hlt,hi2⟩,p2⟩:=qz3 q2;exact ⟨m2,hlt,env',q1,q3 M hdi,fun M' hm t ht=>(q4 M' hm t ht).trans (f1 M' hm t ht),p2 _ hi2⟩
 | cutD M L x y ihx ihy =>
  intro c Q env ds w a h hr hd;cases c <;> try exact False.elim h
  case seq c1 c2 =>
   simp only [vc] at h;cases hdi:dstsR M c1 <;> rw [hdi] at h
   ·exact h.elim
   have hk:=h (mkN L (fun e=>e) fun acc ds1 w1=>∀ base:Env,vc P r N y c2 Q (acc (mix M base env)) ds1 w1) (qzs fun acc ds1 w1 hb=>hb);refine wpIn_seq (wpIn_mono (ihx _ hk hr hd) fun e a' w' hh=>?_);obtain ⟨env',h1,h2,h3,h4⟩:=hh;cases e <;> try exact ⟨env',h1,h2,fun M hm=>h3 M (seqIn _ _ M hm).1,fun M hm=>h4 M (seqR _ _ M hm).1⟩
   obtain ⟨rr,acc',k1,k2,k3⟩:=qq4 h2 (qzs (B:=fun acc k=>k=fun ds1 w1=>∀ base:Env,vc P r N y c2 Q (acc (mix M base env)) ds1 w1) fun acc=>rfl);rw [k2] at k1;have k4:=k1 env';rw [k3,qx0 (h4 M hdi),qiv (fun _=>rfl)] at k4;refine wpIn_mono (ihy _ k4 h1 rfl) fun e' a'' w'' hh=>?_;obtain ⟨env'',g1,g2,g3,g4⟩:=hh;exact ⟨env'',g1,g2,fun M hm=>(g3 M (seqIn _ _ M hm).2).trans (h3 M (seqIn _ _ M hm).1),fun M hm t ht=>(g4 M (seqR _ _ M hm).2 t ht).trans (h4 M (seqR _ _ M hm).1 t ht)⟩
 | loopD M L x ih =>
  intro c Q env ds w a h hr hd;cases c <;> try exact False.elim h
  case loop b =>
   simp only [vc] at h;cases hdi:dstsR M b <;> rw [hdi] at h
   ·exact h.elim
   obtain ⟨Inv,h1,h2⟩:=h;obtain ⟨i0,⟨m0,hi0⟩,p0⟩:=qz3 h1;refine qyd (fun a1 w1 m=>∃ env1,Rep N env1 a1∧(∀ M',qa9 M' b=true→a1.defers=ds)∧(∀ M',dstsR M' b=true→∀ t,Nat.testBit M' t=false→env1 t=env t)∧getN L Inv env1 fun i=>i a1.defers w1 m)
    ?_ m0 a w ⟨env,hr,fun _ _=>hd,fun _ _ _ _=>rfl,p0 _ (by rw [hd];exact hi0)⟩
   rintro a1 w1 m ⟨env1,r1,d1,f1,g1⟩;obtain ⟨i1,acc',k1,k2,k3⟩:=qq4 g1 h2;have k4:=k2 _ w1 m k1 env1;rw [k3,qx0 (f1 M hdi),qiv (fun _=>rfl)] at k4;refine wpIn_mono (ih _ k4 r1 rfl) fun e a' w' hh=>?_;obtain ⟨env',q1,q2,q3,q4⟩:=hh;cases e <;> try exact ⟨env',q1,q2,fun M' hm=>(q3 M' hm).trans (d1 M' hm),fun M' hm t ht=>(q4 M' hm t ht).trans (f1 M' hm t ht)⟩
   obtain ⟨i2,⟨m2,hlt,hi2⟩,p2⟩:=qz3 q2;exact ⟨m2,hlt,env',q1,fun M' hm=>(q3 M' hm).trans (d1 M' hm),fun M' hm t ht=>(q4 M' hm t ht).trans (f1 M' hm t ht),p2 _ hi2⟩
 | rf L x =>
  intro c Q env ds w a h hr hd;cases c <;> try exact False.elim h
  case rangeFunc g ps c1 c2 =>
   have h1:=h env;rw [q9z] at h1;refine wpIn_mono (h1 a hr hd) fun e a' w' hh=>?_;obtain ⟨ht,hq⟩:=hh;have hr':Rep N env a':=⟨by rw [ht];exact hr.1,by rw [ht];exact hr.2⟩;cases e with
   | normal=>exact ⟨env,hr',hq,fun M hm=>by simp [qa9] at hm,fun _ _ _ _=>rfl⟩
   | ret=>exact ⟨env,hr',hq,fun M hm=>by simp [qa9] at hm,fun _ _ _ _=>rfl⟩
   | exit i=>exact ⟨env,hr',hq.1 ▸ hq.2,fun M hm=>by simp [qa9] at hm,fun _ _ _ _=>rfl⟩
   | goto l=>exact hq.elim
   | panic c=>exact hq.elim
   | outgrown=>exact hq.elim
end
end Go.Sh