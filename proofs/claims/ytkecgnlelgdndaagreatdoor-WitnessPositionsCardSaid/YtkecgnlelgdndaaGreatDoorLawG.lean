/- The contracts of the functions that the law reaches, one after the other, and at the end the law's card. -/
import Derived.Test.YtkecgnlelgdndaaGreatDoorLawF
import Derived.Lib.Fields
import Derived.Lib.Join
set_option linter.all false
set_option maxRecDepth 40000
namespace Go.Proofs
open Go Go.Sh Go.RowKit Go.Proofs.Tryz IntKind
def cntP (kind:Int) (l:List Pl):Int:=((l.filter fun x=>decide (x.k=kind)).length:Int)
theorem cntP_snoc (kind:Int) (l:List Pl) (x:Pl):cntP kind (l++[x])=cntP kind l + if x.k=kind then 1 else 0:=by
 unfold cntP
 rw [List.filter_append]
 by_cases h:x.k=kind <;> simp [h]
def cntF (kind:Int) (f:Fo):Nat:=(ofK kind f).length
theorem qub (kind:Int):∀ (f:Fo) (d:Nat) (b:Bool),f.depth + d≤16→cntP kind (qs f d b)=cntF kind f
 | .nil,_,_,_=>rfl
 | .cons k t n ps r,d,b,h=>by
  rw [Fo.depth_parts] at h
  have i2:=qub kind r d (decide (k=1)) (by omega)
  have i1:cntP kind (qs ps (d + 1) false)=cntF kind ps:=by
   by_cases hp:ps.len=0
   ·rw [Fo.eq_nil_of_len hp];rfl
   ·rw [if_neg hp] at h
    exact qub kind ps (d + 1) false (by omega)
  unfold cntF at i1 i2 ⊢
  rw [ofK_cons]
  simp only [qs]
  rw [if_pos (by omega)]
  have e:∀ (x:Pl) (l m:List Pl),cntP kind (x :: (l++m))=(if x.k=kind then 1 else 0) + (cntP kind l + cntP kind m):=by
   intro x l m
   unfold cntP
   rw [List.filter_cons,List.filter_append]
   by_cases hx:x.k=kind <;> simp [hx] <;> omega
  rw [e,i1,i2]
  show (if k=kind then (1:Int) else 0) + _=_
  by_cases hk:k=kind
  ·simp [hk];omega
  ·simp [hk]
def couE (kind:Int) (f:Fo):Int:=if qad f≠0 then 1 else if kind < 1∨11 < kind then 8 else 0
def couR (kind:Int) (f:Fo):Int:=if couE kind f≠0 then 0 else cntF kind f
theorem q05 {R:Ending→World→Prop} {S:Nat→Prop} {w:World} {a:Option Addr} {n c:Nat} (kind:Int) (f:Fo) (hs:small f) (hF:Forms w) (hf0:SlF S w a n f)
  (h:∀ w',Ext w w'→R (.returned (.tuple ⟨[.int .i64 (couR kind f),.int .i64 (couE kind f)]⟩)) w'):Calls prog qg8 ⟨[.slice a n c,.int .i64 kind]⟩ w R:=by
 apply qrz
 unfold couR at h
 refine qh fun b3 w4 hb3 B3 e4 s4=>?_
 refine qci f hs (hf0.ext e4) (hF.ext e4) fun w6 e6=>⟨_,rfl,qd (fun g=>?_) (fun g=>?_)⟩
 ·have he:couE kind f=1:=by unfold couE;rw [if_pos g]
  rw [he] at h
  exact h _ (qb e4 e6)
 have hc0:qad f=0:=Decidable.not_not.1 g
 obtain ⟨q1,q2,q3⟩:=qby hc0
 have hdep:f.depth≤16:=by
  unfold qad at hc0
  split at hc0
  ·rename_i hh;exact hh.2
  ·cases hc0
 have hcn:=qub kind f 0 false (by omega)
 have E6:=qb e4 e6
 have B3':=B3.ext e6
 intro K8 hK8
 have k8:1≤kind→kind≤11→K8 0 0 w6:=by
  intro hk1 hk2
  have he:couE kind f=0:=by unfold couE;rw [if_neg g,if_neg (by omega)]
  rw [he] at h
  refine hK8 _ _ _ fun _=>?_
  refine qh fun b12 w13 hb12 B12 e13 s13=>?_
  refine qn B12 rfl fun w14 B14 hc14 s14=>?_
  have e14:Ext w6 w14:=qi e13 hc14 fun k hk=>by omega
  refine qox fun bs w16 Bs e16 hbs=>⟨_,_,_,rfl,fun base=>?_⟩
  have e616:=qb e14 e16
  have E16:=qb E6 e616
  have z16:=E16.size
  have z6:=E6.size
  have z616:=e616.size
  have ls:=Bs.lt
  have l3:=B3'.lt
  have hf:SlF (fun k=>S k∧k < w.heap.size) w a n f:=hf0.imp fun k hk hl=>⟨hk,hl⟩
  rw [qk9]
  have B3'':=B3'.ext e616
  refine RFw_count qeh qec (gf:=qaa) rfl (by kernel_rfl) (xs:=qs f 0 false) (E:=PlE (fun k=>(S k∧k < w.heap.size)∨k=bs) w16) (Rd:=fun k=>(S k∧k < w.heap.size)∨k=bs)
   (fun v1 he=>(q7v f hs bs v1 (fun k hk=>by have:=he.size;omega) (Bs.ext he) ((hf.ext (qb E16 he)).imp fun k hk _=>.inl hk) (.inr rfl)).mono ?_) (fun y vs hE=>by obtain ⟨a',c',rfl,_⟩:=hE;rfl) (by decide) (fun k hk=>by omega)
   (w0:=w6) e616 (b5:=b12) (by omega) (fun hk=>by omega) (cntP kind) (B14.ext e16) ?_ ?_
  ·rintro x vs ⟨a',c',rfl,hsl⟩
   exact ⟨a',c',rfl,hsl.keep' fun k hk hl=>⟨hk,by omega,((he.block k (by omega))).symm⟩⟩
  ·rintro pre ⟨k1,t1,m1,ps1,d1,x1⟩ vs W l ⟨a',c',rfl,hsl⟩ hpre hl1 hl2 hl3 g1 g3 Kn Kr Kx hK
   refine Eq.mpr (qkz base _ _ _ _ _ _ _ _ _ _ _ _ _ _ _ _ _ _ _ _) ?_
   refine round_in hl2 (by simp) (by intro u hu;simp only [List.mem_cons,List.not_mem_nil,or_false] at hu;rcases hu with rfl | rfl | rfl | rfl | rfl | rfl <;> rfl) fun bx W1 W2 hbx _ hX2 hc2 s2=>?_
   obtain ⟨x0,x1'⟩:=blk6 hX2
   have B2:=hc2.blk g1 hl3
   have E2:=qi g3 hc2 fun k hk=>by omega
   have hk3:=B3'.ext E2
   have hpl:pre.length≤f.size:=by
    have h1:=hpre.length_le
    have h2:=qi2 f 0 false
    simp at h1;omega
   have hcp:0≤cntP kind pre∧cntP kind pre≤pre.length:=by
    unfold cntP
    have:=List.length_filter_le (fun x:Pl=>decide (x.k=kind)) pre
    omega
   have hv:=cntP_snoc kind pre ⟨k1,t1,m1,ps1,d1,x1⟩
   refine ⟨k1,x0,dr_ok ⟨kind,by rw [hk3.cell];rfl,qd (fun q=>?_) (fun q=>?_)⟩⟩
   ·refine dr_ok ⟨_,by rw [B2.cell];rfl,dr_ok (qn B2 rfl fun W3 r3 hc3 s3=>hK _ _ E2 hc3 ?_)⟩
    rw [hv,if_pos (show (⟨k1,t1,m1,ps1,d1,x1⟩:Pl).k=kind from q)]
    rw [qr (by omega)] at r3
    exact r3
   ·refine hK _ _ E2 (Chg.refl _ _) ?_
    rw [hv,if_neg (show ¬ (⟨k1,t1,m1,ps1,d1,x1⟩:Pl).k=kind from q),Int.add_zero]
    exact B2
  ·intro D W hD1 hD2 hD3 hD4 g1 g3
   rw [hcn] at g1
   exact ⟨_,by rw [g1.cell];rfl,qa4 hD4 (h _ (qbk (qb E6 g3) (by omega) _))⟩
 have bad:(kind < 1∨11 < kind)→R (.returned (.tuple ⟨[.int .i64 0,.int .i64 8]⟩)) w6:=by
  intro hh
  have he:couE kind f=8:=by unfold couE;rw [if_neg g,if_pos hh]
  rw [he] at h
  exact h _ E6
 refine ⟨kind,by rw [B3'.cell];rfl,qd (fun g1=>bad (.inl g1)) (fun g1=>⟨kind,by rw [B3'.cell];rfl,qd (fun g2=>bad (.inr g2)) (fun g2=>k8 (by omega) (by omega))⟩)⟩
theorem q8h (i:Int) (k t n ps r):cntF i (.cons k t n ps r)=(if k=i then 1 else 0) + (cntF i ps + cntF i r):=by
 unfold cntF ofK
 rw [qj,List.filter_cons,List.filter_append]
 split <;> rename_i h
 ·have:k=i:=by simpa using h
  simp [this];omega
 ·have:¬ k=i:=by simpa using h
  simp [this]
theorem posN_line (p:Ps) (x:Nn) (h:0≤p.2):(posN p x).1.2≤p.2 + (if x.k=2 then 1 else 0)∧0≤(posN p x).1.2∧(x.k≠3→(posN p x).1.1=p.1):=by
 unfold posN
 by_cases h1:x.k=1
 ·simp [h1,h]
 ·by_cases h6:x.k=6
  ·simp [h6,h]
  ·by_cases h3:x.k=3
   ·simp [h3,h]
   ·by_cases h2:x.k=2
    ·simp [h2];omega
    ·simp [h1,h6,h3,h2,h]
theorem qrp:∀ (f:Fo) (p:Ps),0≤p.2→(endL p (qj f)).2≤p.2 + cntF 2 f∧0≤(endL p (qj f)).2∧(cntF 3 f=0→(endL p (qj f)).1=p.1)
 | .nil,p,h=>⟨by show p.2≤p.2 + _;omega,h,fun _=>rfl⟩
 | .cons k t n ps r,p,h=>by
  obtain ⟨a1,a2,a3⟩:=posN_line p ⟨k,t,n,ps⟩ h
  obtain ⟨b1,b2,b3⟩:=qrp ps _ a2
  obtain ⟨c1,c2,c3⟩:=qrp r _ b2
  rw [qj,endL,qmo,q8h,q8h]
  refine ⟨?_,c2,fun h3=>?_⟩
  ·have:(posN p ⟨k,t,n,ps⟩).1.2≤p.2 + (if k=2 then 1 else 0):=a1
   by_cases hk:k=2
   ·rw [if_pos hk] at this ⊢;omega
   ·rw [if_neg hk] at this ⊢;omega
  ·have hk3:¬ k=3:=fun e=>by simp [e] at h3
   rw [c3 (by split at h3 <;> omega),b3 (by split at h3 <;> omega),a3 hk3]
def qaq (s:List UInt8):Bool:=s.all innC
def qea (x:Rw):Int :=
 if x.1=[]∨x.2=[] then 5 else if 64 < x.1.length∨64 < x.2.length then 4 else if qaq x.1=false∨qaq x.2=false then 11
 else if x.1.length < x.2.length∨(x.2.length=x.1.length∧Op.bytesLess x.2 x.1=false) then 24 else 0
def qcs:List Rw→Int
 | []=>0
 | x :: r=>if qea x≠0 then qea x else qcs r
def ruleE (l:List Rw):Int:=if 64 < l.length then 4 else qcs l
def hitB (w u:List UInt8) (i:Nat):Bool:=decide (i + u.length≤w.length)&&decide ((w.drop i).take u.length=u)
def putW (w:List UInt8) (x:Rw) (i:Nat):List UInt8:=w.take i++(x.2++w.drop (i + x.1.length))
def qb3 (rs:List Rw) (w:List UInt8) (i:Nat):List (List UInt8):=(rs.filter fun x=>hitB w x.1 i).map fun x=>putW w x i
def resW (rs:List Rw) (w:List UInt8):List (List UInt8):=(List.range w.length).flatMap (qb3 rs w)
def stepW (rs:List Rw) (w:List UInt8):Option (List UInt8):=(resW rs w).head?
def qfg (rs:List Rw):Nat→List UInt8→Option (List UInt8)
 | 0,w=>match stepW rs w with
  | none=>some w
  | some _=>none
 | n + 1,w=>match stepW rs w with
  | none=>some w
  | some s=>qfg rs n s
def rwE (rs:List Rw) (w:List UInt8):Int:=if ruleE rs≠0 then 1 else if 64 < w.length then 4 else if qaq w=false then 11 else if (qfg rs 4095 w).isNone=true then 4 else 0
def rwR (rs:List Rw) (w:List UInt8):List UInt8:=if rwE rs w≠0 then [] else (qfg rs 4095 w).getD []
theorem qyp:∀ {l:List Rw},qcs l=0→∀ x∈l,qea x=0
 | [],_,_,hx=>by cases hx
 | y :: l,h,x,hx=>by
  rw [qcs] at h
  split at h
  ·rename_i hh;exact absurd h hh
  ·rename_i hh
   rcases List.mem_cons.1 hx with rfl | hx
   ·exact Decidable.not_not.1 hh
   ·exact qyp h x hx
theorem q3m {x:Rw} (h:qea x=0):x.2≠[]∧x.1≠[]∧qaq x.2=true∧x.2.length≤x.1.length∧x.1.length≤64:=by
 unfold qea at h
 split at h
 ·cases h
 split at h
 ·cases h
 split at h
 ·cases h
 split at h
 ·cases h
 rename_i h1 h2 h3 h4
 simp only [not_or] at h1 h2 h3 h4
 exact ⟨h1.2,h1.1,by simpa using h3.2,by omega,by omega⟩
theorem step_word {rs:List Rw} {w s:List UInt8} (hr:qcs rs=0) (hw:qaq w=true) (h:s∈resW rs w):qaq s=true∧s≠[]∧s.length≤w.length:=by
 unfold resW qb3 at h
 simp only [List.mem_flatMap,List.mem_range,List.mem_map,List.mem_filter] at h
 obtain ⟨i,hi,x,⟨hx,hh⟩,rfl⟩:=h
 obtain ⟨r1,r2,r3,r4,r5⟩:=q3m (qyp hr x hx)
 unfold hitB at hh
 rw [Bool.and_eq_true,decide_eq_true_eq,decide_eq_true_eq] at hh
 unfold putW
 unfold qaq at hw r3 ⊢
 rw [List.all_eq_true] at hw
 refine ⟨?_,?_,?_⟩
 ·rw [List.all_append,List.all_append,r3,Bool.true_and,Bool.and_eq_true,List.all_eq_true,List.all_eq_true]
  exact ⟨fun c hc=>hw c (List.mem_of_mem_take hc),fun c hc=>hw c (List.mem_of_mem_drop hc)⟩
 ·intro e
  have h1:=congrArg List.length e
  have h2:=List.length_pos_iff.2 r1
  rw [List.length_append,List.length_append,List.length_nil] at h1
  omega
 ·simp only [List.length_append,List.length_take,List.length_drop];omega
def nrmE (rs:List Rw):List Tok→Int
 | []=>0
 | x :: r=>if wordG x.g=true∧rwE rs x.t≠0 then rwE rs x.t else nrmE rs r
def nrmT (rs:List Rw) (x:Tok):Tok:=setM x (if wordG x.g=true then rwR rs x.t else x.t)
def cutT (p:Ps) (f:Fo):List Tok:=divF false false (amsF p f false [])
def longT (l:List Tok):Bool:=decide (1024 < l.length)||l.any fun x=>decide (64 < x.t.length)
def tksE (p:Ps) (f:Fo) (rs:List Rw):Int :=
 if qad f≠0∨ruleE rs≠0 then 1 else if p.2 < 0∨4096 < p.2 then 2 else if qjl p.1=false then 14 else if cntF 8 f + cntF 9 f≠0 then 13
 else if longT (cutT p f)=true then 4 else nrmE rs (cutT p f)
def tksR (p:Ps) (f:Fo) (rs:List Rw):List Tok:=if tksE p f rs≠0 then [] else (cutT p f).map (nrmT rs)
section
variable {R:Ending→World→Prop} {w:World}
theorem wordly_at (s:List UInt8) (k:Nat) (h:k < s.length):qaq (s.take (k + 1))=(qaq (s.take k)&&innC s[k]):=by
 unfold qaq
 rw [List.take_succ_eq_append_getElem h,List.all_append];simp
theorem inn_of {c:UInt8}:innC c=decide (kd c=1∨kd c=2∨kd c=3∨kd c=4):=by
 unfold innC letB
 rw [Bool.eq_iff_iff]
 simp only [Bool.or_eq_true,beq_iff_eq,decide_eq_true_eq]
 omega
theorem wordly_no (s:List UInt8) (k:Nat) (h:k < s.length) (hn:innC s[k]=false):qaq s=false:=by
 unfold qaq
 rw [List.all_eq_false]
 exact ⟨s[k],List.getElem_mem h,by rw [hn];decide⟩
theorem qn5 (s:List UInt8) (hs:s.length≤4611686018427387904) (h:R (.returned (.bool (qaq s))) w):Calls prog qhd ⟨[.string ⟨⟨s⟩⟩]⟩ w R:=by
 apply qr4
 refine ⟨fun i W m=>∃ k:Nat,i=k∧k≤s.length∧m=s.length - k∧qaq (s.take k)=true∧W=w,⟨_,0,rfl,by omega,rfl,by rw [List.take_zero];rfl,rfl⟩,?_⟩
 rintro _ W m ⟨k,rfl,hk,rfl,hw,rfl⟩ _
 refine qd (fun hlt=>?_) (fun hge=>?_)
 ·have hkl:k < s.length:=by omega
  refine qb4 hkl ?_
  refine qcw _ ⟨_,rfl,?_⟩
  have yes:(kd s[k]=1∨kd s[k]=2∨kd s[k]=3∨kd s[k]=4)→∃ m',m' < s.length - k∧∃ k':Nat,i64.wrap ((k:Int) + 1)=k'∧k'≤s.length∧m'=s.length - k'∧qaq (s.take k')=true∧W=W:=fun hh =>
   ⟨s.length - (k + 1),by omega,k + 1,by rw [ql (by omega)],by omega,rfl,by rw [wordly_at s k hkl,hw,inn_of,decide_eq_true hh];rfl,rfl⟩
  refine qd (fun g1=>?_) (fun g1=>qd (fun g2=>?_) (fun g2=>qd (fun g3=>?_) (fun g3=>qd (fun g4=>?_) (fun g4=>?_))))
  ·rw [decide_eq_true g1];exact yes (.inl g1)
  ·rw [decide_eq_true g2];exact yes (.inr (.inl g2))
  ·rw [decide_eq_true g3];exact yes (.inr (.inr (.inl g3)))
  ·exact yes (.inr (.inr (.inr g4)))
  ·rw [wordly_no s k hkl (by rw [inn_of];exact decide_eq_false (by omega))] at h;exact h
 ·rw [List.take_of_length_le (by omega)] at hw
  rw [hw] at h;exact h
theorem q7j (x:Rw) (h1:x.1.length≤4611686018427387904) (h2:x.2.length≤4611686018427387904) (h:∀ w',Ext w w'→R (.returned (.int .i64 (qea x))) w'):Calls prog qiq ⟨[.agg ⟨[.string ⟨⟨x.1⟩⟩,.string ⟨⟨x.2⟩⟩]⟩]⟩ w R:=by
 apply qup
 refine qh fun b3 w4 hb3 B3 e4 s4=>?_
 obtain ⟨c0,c1⟩:=blk2' B3
 have H:∀ e:Int,qea x=e→R (.returned (.int .i64 e)) w4:=fun e he=>by rw [← he];exact h w4 e4
 intro K5 hK5
 have k5:∀ t:Bool,(t=true↔x.1=[]∨x.2=[])→K5 t w4:=by
  intro t ht
  refine hK5 _ _ fun _=>qm (fun g=>H 5 (by unfold qea;rw [if_pos (ht.1 g)])) (fun g=>?_)
  have n1:¬ (x.1=[]∨x.2=[]):=fun hh=>by rw [ht.2 hh] at g;cases g
  intro K8 hK8
  have k8:∀ t:Bool,(t=true↔64 < x.1.length∨64 < x.2.length)→K8 t w4:=by
   intro t ht
   refine hK8 _ _ fun _=>qm (fun g=>H 4 (by unfold qea;rw [if_neg n1,if_pos (ht.1 g)])) (fun g=>?_)
   have n2:¬ (64 < x.1.length∨64 < x.2.length):=fun hh=>by rw [ht.2 hh] at g;cases g
   intro K11 hK11
   have k11:∀ t:Bool,(t=true↔qaq x.1=false∨qaq x.2=false)→K11 t w4:=by
    intro t ht
    refine hK11 _ _ fun _=>qm (fun g=>H 11 (by unfold qea;rw [if_neg n1,if_neg n2,if_pos (ht.1 g)])) (fun g=>?_)
    have n3:¬ (qaq x.1=false∨qaq x.2=false):=fun hh=>by rw [ht.2 hh] at g;cases g
    have fin:∀ e,(if x.1.length < x.2.length∨(x.2.length=x.1.length∧Op.bytesLess x.2 x.1=false) then (24:Int) else 0)=e→R (.returned (.int .i64 e)) w4:=fun e he=>H e (by unfold qea;rw [if_neg n1,if_neg n2,if_neg n3];exact he)
    refine ⟨_,c1,_,c0,qd (fun q=>fin 24 (if_pos (.inl (by omega)))) (fun q=>⟨_,c1,_,c0,qd (fun q2=>⟨_,c1,_,c0,qm (fun q3=>fin 24 (if_pos (.inr ⟨by omega,by simpa using q3⟩))) (fun q3=>fin 0 (if_neg ?_))⟩) (fun q2=>fin 0 (if_neg ?_))⟩)⟩
    ·rintro (hh | ⟨_,hh⟩)
     ·omega
     ·rw [hh] at q3;cases q3
    ·rintro (hh | ⟨hh,_⟩)
     ·omega
     ·exact q2 (by omega)
   refine ⟨_,c0,qn5 _ h1 ⟨_,rfl,qm (fun g=>k11 true ?_) (fun g=>⟨_,c1,qn5 _ h2 ⟨_,rfl,k11 _ ?_⟩⟩)⟩⟩
   ·have:qaq x.1=false:=by simpa using g
    simp [this]
   ·have:qaq x.1=true:=by simpa using g
    simp [this]
  refine ⟨_,c0,qd (fun g=>k8 true ?_) (fun g=>⟨_,c1,k8 _ ?_⟩)⟩
  ·simp;omega
  ·simp;omega
 refine ⟨_,c0,qd (fun g=>k5 true ?_) (fun g=>⟨_,c1,k5 _ ?_⟩)⟩
 ·simp [g]
 ·simp [g]
theorem q7k:∀ {l:List Rw} {k:Nat} (h:k < l.length),qcs (l.take k)=0→qea l[k]≠0→qcs l=qea l[k]
 | [],_,h,_,_=>absurd h (by simp)
 | x :: l,0,h,_,h2=>by
  have h2':qea x≠0:=h2
  rw [qcs,if_pos h2'];rfl
 | x :: l,k + 1,h,h1,h2=>by
  rw [List.take_succ_cons,qcs] at h1
  have hx:¬ qea x≠0:=by
   intro hh
   rw [if_pos hh] at h1
   exact hh h1
  rw [if_neg hx] at h1
  rw [qcs,if_neg hx]
  exact q7k (l:=l) (k:=k) (by simpa using h) h1 h2
theorem qyq:∀ {l:List Rw} {k:Nat} (h:k < l.length),qcs (l.take k)=0→qea l[k]=0→qcs (l.take (k + 1))=0
 | [],_,h,_,_=>absurd h (by simp)
 | x :: l,0,h,_,h2=>by
  have h2':qea x=0:=h2
  rw [List.take_succ_cons,qcs,if_neg (by rw [h2'];simp),List.take_zero];rfl
 | x :: l,k + 1,h,h1,h2=>by
  rw [List.take_succ_cons,qcs] at h1
  have hx:¬ qea x≠0:=by
   intro hh
   rw [if_pos hh] at h1
   exact hh h1
  rw [if_neg hx] at h1
  rw [List.take_succ_cons,qcs,if_neg hx]
  exact qyq (l:=l) (k:=k) (by simpa using h) h1 h2
def qx3 (rs:List Rw):Prop:=∀ x∈rs,x.1.length≤4611686018427387904∧x.2.length≤4611686018427387904
theorem qvg {S:Nat→Prop} {a:Option Addr} {n c:Nat} (rs:List Rw) (hsm:qx3 rs) (hR:RowAt encRw S w a n rs) (h:∀ w',Ext w w'→R (.returned (.int .i64 (ruleE rs))) w'):Calls prog qis ⟨[.slice a n c]⟩ w R:=by
 apply qus
 have hn:=hR.1
 refine qd (fun g=>?_) (fun g=>?_)
 ·have:ruleE rs=4:=by unfold ruleE;rw [if_pos (by omega)]
  rw [← this];exact h w (Below.refl _ _)
 have hE:ruleE rs=qcs rs:=by unfold ruleE;rw [if_neg (by omega)]
 rw [hE] at h
 refine ⟨fun i W m=>∃ k:Nat,i=k∧k≤n∧m=n - k∧qcs (rs.take k)=0∧Ext w W,⟨_,0,rfl,by omega,rfl,rfl,Below.refl _ _⟩,?_⟩
 rintro _ W m ⟨k,rfl,hk,rfl,hz,he⟩ _
 refine qd (fun hlt=>?_) (fun hge=>?_)
 ·have hkl:k < rs.length:=by omega
  have hx:rs[k]? = some rs[k]:=by simp [hkl]
  obtain ⟨bb,o,hq,_,_,hc⟩:=(hR.ext he).get hx
  refine hq _ ⟨_,by rw [qg];exact hc 0 _ rfl,_,by rw [qg];exact hc 1 _ rfl,?_⟩
  refine qx rfl (by intro u hu;simp only [List.mem_cons,List.not_mem_nil,or_false] at hu;rcases hu with rfl | rfl <;> rfl) fun b10 w12 hb10 B10 e12 s12=>?_
  obtain ⟨c0,c1⟩:=blk2' B10
  obtain ⟨q1,q2⟩:=hsm rs[k] (List.getElem_mem hkl)
  refine ⟨_,c0,_,c1,q7j rs[k] q1 q2 fun w16 e16=>⟨_,rfl,qd (fun g1=>?_) (fun g1=>?_)⟩⟩
  ·rw [← q7k hkl hz g1]
   exact h w16 (qb (qb he e12) e16)
  ·exact ⟨n - (k + 1),by omega,k + 1,by rw [ql (by omega)],by omega,rfl,qyq hkl hz (Decidable.not_not.1 g1),qb (qb he e12) e16⟩
 ·rw [List.take_of_length_le (by omega)] at hz
  rw [hz] at h
  exact h W he
def chkE (rs:List Rw) (s:List UInt8):Int:=if ruleE rs≠0 then 1 else if 64 < s.length then 4 else if qaq s=false then 11 else 0
theorem q7i {S:Nat→Prop} {a:Option Addr} {n c:Nat} (rs:List Rw) (s:List UInt8) (hsm:qx3 rs) (hR:RowAt encRw S w a n rs) (h:∀ w',Ext w w'→R (.returned (.int .i64 (chkE rs s))) w'):Calls prog qir ⟨[.slice a n c,.string ⟨⟨s⟩⟩]⟩ w R:=by
 apply quq
 refine qvg rs hsm hR fun w4 e4=>⟨_,rfl,?_⟩
 have H:∀ e:Int,chkE rs s=e→R (.returned (.int .i64 e)) w4:=fun e he=>by rw [← he];exact h w4 e4
 refine qd (fun g=>H 1 (by unfold chkE;rw [if_pos g])) (fun g=>qd (fun g2=>H 4 (by unfold chkE;rw [if_neg g,if_pos (by omega)])) (fun g2=>?_))
 refine qn5 s (by omega) ⟨_,rfl,qm (fun g3=>H 11 ?_) (fun g3=>H 0 ?_)⟩
 ·unfold chkE;rw [if_neg g,if_neg (by omega),if_pos (by simpa using g3)]
 ·unfold chkE;rw [if_neg g,if_neg (by omega),if_neg (by simpa using g3)]
theorem q3c (s u:List UInt8) (h:R (.returned (.tuple ⟨[.string ⟨⟨if decide (u.length≤s.length)&&decide (s.take u.length=u) then s.drop u.length else s⟩⟩,.bool (decide (u.length≤s.length)&&decide (s.take u.length=u))]⟩)) w) :
  Calls prog qgi ⟨[.string ⟨⟨s⟩⟩,.string ⟨⟨u⟩⟩]⟩ w R:=by
 apply qpg
 apply qd3
 have hp:∀ R':Ending→World→Prop,R' (.returned (.bool (decide (u.length≤s.length)&&decide (s.take u.length=u)))) w→Calls prog qbf ⟨[.string ⟨⟨s⟩⟩,.string ⟨⟨u⟩⟩]⟩ w R':=by
  intro R' hR
  apply qd2
  refine qd (fun g=>?_) (fun g=>?_)
  ·have hz:((0:Nat):Int)=0:=rfl
   rw [← hz]
   refine qhi (by omega) (by omega) ?_
   rw [List.drop_zero]
   rw [decide_eq_true (show u.length≤s.length by omega),Bool.true_and] at hR
   exact hR
  ·rw [decide_eq_false (show ¬ u.length≤s.length by omega),Bool.false_and] at hR
   exact hR
 refine hp _ ⟨_,rfl,qm (fun g=>?_) (fun g=>?_)⟩
 ·have g':(decide (u.length≤s.length)&&decide (s.take u.length=u))=false:=by
   rw [Bool.not_eq_true'] at g;exact g
  rw [g'] at h
  exact ⟨_,_,rfl,h⟩
 ·have g':(decide (u.length≤s.length)&&decide (s.take u.length=u))=true:=by
   rw [Bool.not_eq_false'] at g;exact g
  have hl:u.length≤s.length:=by rw [Bool.and_eq_true,decide_eq_true_eq] at g';exact g'.1
  rw [g'] at h
  refine qhi hl (Nat.le_refl _) ?_
  rw [List.take_length]
  exact ⟨_,_,rfl,h⟩
theorem hit_eq (s u:List UInt8) (k:Nat) (hk:k≤s.length):(decide (u.length≤(s.drop k).length)&&decide ((s.drop k).take u.length=u))=hitB s u k:=by
 unfold hitB
 rw [List.length_drop,decide_eq_decide.2 (show u.length≤s.length - k↔k + u.length≤s.length by omega)]
theorem q9k (l:List Rw) (x:Rw) (s:List UInt8) (k:Nat):qb3 (l++[x]) s k=qb3 l s k++if hitB s x.1 k=true then [putW s x k] else []:=by
 unfold qb3
 rw [List.filter_append,List.map_append]
 congr 1
 by_cases h:hitB s x.1 k=true
 ·simp [h]
 ·simp [h]
theorem stepAt_pre (l m:List Rw) (s:List UInt8) (k:Nat):qb3 l s k <+: qb3 (l++m) s k:=by
 unfold qb3
 rw [List.filter_append,List.map_append]
 exact List.prefix_append _ _
theorem resW_pre (rs:List Rw) (s:List UInt8) (k:Nat) (h:k < s.length):(List.range k).flatMap (qb3 rs s)++qb3 rs s k <+: resW rs s:=by
 have e:(List.range k).flatMap (qb3 rs s)++qb3 rs s k=(List.range (k + 1)).flatMap (qb3 rs s):=by rw [List.range_succ,List.flatMap_append];simp
 rw [e]
 unfold resW
 obtain ⟨d,hd⟩:∃ d,s.length=(k + 1) + d:=⟨s.length - (k + 1),by omega⟩
 rw [hd,List.range_add (n:=k + 1),List.flatMap_append]
 exact List.prefix_append _ _
theorem q4w {T:Nat→Prop} (rs:List Rw) (s:List UInt8) (hln:rs.length≤64) (hr:∀ x∈rs,x.1.length≤64∧x.2.length≤64) (hs:s.length≤64) {a:Option Addr} {n c:Nat} (b5 b3:Nat) (w:World) (hTl:∀ k,T k→k < w.heap.size) (B5:Blk w b5 [.string ⟨⟨s⟩⟩] 9) (B3:Blk w b3 [.slice a n c] 23) (hR:RowAt encRw T w a n rs) (h5:T b5) (h3:T b3) :
  IterO prog qbc [.pointer (some ⟨b5,0,none⟩),.pointer (some ⟨b3,0,none⟩)] (resW rs s) (fun x vs=>vs=[.string ⟨⟨x⟩⟩]) T w:=by
 intro yf ya yb S0 J Jx R hS hJ hJx hbody h0 hend hstop
 apply qlg
 have hn:=hR.1
 refine dr_ok ⟨s,by rw [B5.cell];rfl,?_⟩
 refine ⟨fun i W m=>∃ (k:Nat) (S:Nat→Prop),i=k∧k≤s.length∧m=s.length - k∧J ((List.range k).flatMap (qb3 rs s)) S W∧w.heap.size≤W.heap.size∧(∀ k,T k→W.heap[k]? = w.heap[k]?)∧(∀ k,S k→k < W.heap.size∧¬ T k),
  ⟨_,0,S0,rfl,by omega,rfl,h0,Nat.le_refl _,fun _ _=>rfl,hS⟩,?_⟩
 rintro _ W m ⟨k,S,rfl,hk,rfl,hj,hW,hT,hSW⟩ _
 refine qd (fun hlt=>?_) (fun hge=>?_)
 ·have hkl:k < s.length:=by omega
  refine dr_ok ⟨a,n,c,by rw [(B3.keep (hT b3 h3)).cell];rfl,?_⟩
  refine ⟨fun i2 W2 m2=>∃ (j:Nat) (S2:Nat→Prop),i2=j∧j≤n∧m2=n - j∧J ((List.range k).flatMap (qb3 rs s)++qb3 (rs.take j) s k) S2 W2∧w.heap.size≤W2.heap.size∧(∀ k,T k→W2.heap[k]? = w.heap[k]?)∧(∀ k,S2 k→k < W2.heap.size∧¬ T k),
   ⟨_,0,S,rfl,by omega,rfl,by rw [List.take_zero];simpa [qb3] using hj,hW,hT,hSW⟩,?_⟩
  rintro _ W2 m2 ⟨j,S2,rfl,hjn,rfl,hj2,hW2,hT2,hS2⟩ _
  refine qd (fun hl2=>?_) (fun hg2=>?_)
  ·have hjl:j < rs.length:=by omega
   have hx:rs[j]? = some rs[j]:=by simp [hjl]
   obtain ⟨r1,r2⟩:=hr rs[j] (List.getElem_mem hjl)
   obtain ⟨bb,o,hq,_,_,hc⟩:=(hR.keep (S':=T) (w':=W2) (fun k hk _=>⟨hk,hT2 k hk⟩) hW2).get hx
   refine hq _ ⟨_,by rw [qg];exact hc 0 _ rfl,_,by rw [qg];exact hc 1 _ rfl,?_⟩
   refine qx rfl (by intro u hu;simp only [List.mem_cons,List.not_mem_nil,or_false] at hu;rcases hu with rfl | rfl <;> rfl) fun b21 w23 hb21 B21 e23 s23=>?_
   have z23:=e23.size
   unfold drw
   have ed:=qw w23
   have zd:w23.drew.heap.size=w23.heap.size:=rfl
   have B21:=B21.ext ed
   have E24:=qb e23 ed
   generalize w23.drew=w24 at *
   have z24:=E24.size
   have lT:∀ k,T k→k < W2.heap.size:=fun k hk=>by have:=hTl k hk;omega
   have hT24:∀ k,T k→w24.heap[k]? = w.heap[k]?:=fun k hk=>(E24.block k (lT k hk)).trans (hT2 k hk)
   obtain ⟨c0,c1⟩:=blk2' B21
   refine dr_ok ⟨s,by rw [(B5.keep (hT24 b5 h5)).cell];rfl,?_⟩
   refine qhi (by omega) (Nat.le_refl _) ⟨_,c0,?_,trivial⟩
   rw [List.take_length]
   refine q3c (s.drop k) rs[j].1 ⟨_,_,rfl,?_⟩
   rw [hit_eq s _ k hk]
   have ed2:=qw w24
   have B21':=B21.ext ed2
   have E33:=qb E24 ed2
   generalize w24.drew=w33 at *
   show br (hitB s rs[j].1 k) _ _
   have z33:=E33.size
   have hT33:∀ k,T k→w33.heap[k]? = w.heap[k]?:=fun k hk=>(E33.block k (lT k hk)).trans (hT2 k hk)
   have hj33:=hJ _ _ _ _ hj2 (Chg.of_ext E33 (S:=fun k=>w.heap.size≤k∧¬ S2 k))
   have hS33:∀ k,S2 k→k < w33.heap.size∧¬ T k:=fun k hk=>⟨by have:=(hS2 k hk).1;omega,(hS2 k hk).2⟩
   have htk:qb3 (rs.take (j + 1)) s k=qb3 (rs.take j) s k++if hitB s rs[j].1 k=true then [putW s rs[j] k] else []:=by
    rw [List.take_succ_eq_append_getElem hjl,q9k]
   cases hh:hitB s rs[j].1 k with
   | true =>
    simp only [br_t]
    refine dr_ok ⟨s,by rw [(B5.keep (hT33 b5 h5)).cell];rfl,?_⟩
    have hz0:((0:Nat):Int)=0:=rfl
    rw [← hz0]
    refine qhi (by omega) (by omega) ⟨_,(blk2' B21').2,?_⟩
    rw [List.drop_zero]
    simp only [if_true]
    refine ⟨by simp;omega,by simp;omega,?_,trivial⟩
    have hput:s.take k++rs[j].2++(s.drop k).drop rs[j].1.length=putW s rs[j] k:=by unfold putW;rw [List.drop_drop,List.append_assoc]
    rw [hput]
    rw [hh,if_pos rfl] at htk
    have hpx:((List.range k).flatMap (qb3 rs s)++qb3 (rs.take j) s k)++[putW s rs[j] k] <+: resW rs s:=by
     refine List.IsPrefix.trans ?_ (resW_pre rs s k hkl)
     rw [List.append_assoc,← htk]
     refine (List.prefix_append_right_inj _).2 ?_
     have:=stepAt_pre (rs.take (j + 1)) (rs.drop (j + 1)) s k
     rwa [List.take_append_drop] at this
    refine qba (hbody _ (putW s rs[j] k) _ S2 w33 rfl hpx (by omega) hS33 hj33) ?_
    rintro e w41 ⟨hc2,S3,hS3,hres⟩
    have z41:=hc2.size
    have hT41:∀ k,T k→w41.heap[k]? = w.heap[k]?:=fun k hk=>(hc2.block k (by have:=lT k hk;omega) fun hh=>(hS2 k hh).2 hk).trans (hT33 k hk)
    have hS3':∀ k,S3 k→k < w41.heap.size∧¬ T k:=fun k hk=>⟨(hS3 k hk).2,fun ht=>(hS3 k hk).1.elim (fun hh=>(hS2 k hh).2 ht) fun hh=>by have:=lT k ht;omega⟩
    rcases hres with ⟨rfl,hj3⟩ | ⟨rfl,hjx⟩
    ·refine ⟨true,rfl,?_⟩
     simp only [Bool.not_true,br_f]
     refine ⟨n - (j + 1),by omega,j + 1,S3,by rw [ql (by omega)],by omega,rfl,?_,by omega,hT41,hS3'⟩
     rw [htk,← List.append_assoc];exact hj3
    ·refine ⟨false,rfl,?_⟩
     simp only [Bool.not_false,br_t]
     exact hstop S3 _ (by omega) hjx
   | false =>
    simp only [br_f]
    rw [hh,if_neg (by decide),List.append_nil] at htk
    exact ⟨⟨n - (j + 1),by omega,j + 1,S2,by rw [ql (by omega)],by omega,rfl,by rw [htk];exact hj33,by omega,hT33,hS33⟩,trivial⟩
  ·rw [List.take_of_length_le (by omega)] at hj2
   refine ⟨s.length - (k + 1),by omega,k + 1,S2,by rw [ql (by omega)],by omega,rfl,?_,hW2,hT2,hS2⟩
   have e:(List.range (k + 1)).flatMap (qb3 rs s)=(List.range k).flatMap (qb3 rs s)++qb3 rs s k:=by rw [List.range_succ,List.flatMap_append];simp
   rw [e];exact hj2
 ·have:k=s.length:=by omega
  subst this
  exact hend S W hW hj
end
section
variable {R:Ending→World→Prop} {w:World}
theorem ext_tw {w w1 w2:World} {b:Nat} (h:Ext w w1) (hc:Chg (fun k=>k=b) w1 w2) (hb:w.heap.size≤b):Ext w w2:=qi h hc fun k hk=>by rw [hk];exact hb
theorem q9s {rs:List Rw} (h:qcs rs=0):∀ x∈rs,x.1.length≤64∧x.2.length≤64:=fun x hx=>by
 obtain ⟨_,_,_,h4,h5⟩:=q3m (qyp h x hx)
 omega
theorem q7m {S:Nat→Prop} {a:Option Addr} {n c:Nat} (s:List UInt8)
  (h:∀ b5 b3 w',b3=w.heap.size→b5=b3 + 1→w'.heap.size=b5 + 1→Blk w' b5 [.string ⟨⟨s⟩⟩] 9→Blk w' b3 [.slice a n c] 23→Ext w w'→R (.returned (.func (.func qbc) ⟨[]⟩ ⟨[.pointer (some ⟨b5,0,none⟩),.pointer (some ⟨b3,0,none⟩)]⟩)) w') :
  Calls prog qgj ⟨[.slice a n c,.string ⟨⟨s⟩⟩]⟩ w R:=by
 apply qph
 refine qh fun b3 w4 hb3 B3 e4 s4=>?_
 refine qh fun b5 w6 hb5 B5 e6 s6=>?_
 exact h b5 b3 w6 hb3 (by omega) s6 B5 (B3.ext e6) (qb e4 e6)
theorem q9p {S:Nat→Prop} {a:Option Addr} {n c:Nat} (rs:List Rw) (s:List UInt8) (hln:rs.length≤64) (hr:qcs rs=0) (hs:s.length≤64) (hR:RowAt encRw S w a n rs)
  (h:∀ w',Ext w w'→R (.returned (.tuple ⟨[.string ⟨⟨(stepW rs s).getD s⟩⟩,.bool (stepW rs s).isSome]⟩)) w'):Calls prog qjr ⟨[.slice a n c,.string ⟨⟨s⟩⟩]⟩ w R:=by
 apply qwn
 refine qh fun b3 w4 hb3 B3 e4 s4=>?_
 refine qh fun b5 w6 hb5 B5 e6 s6=>?_
 have E6:=qb e4 e6
 have B3':=B3.ext e6
 refine q7m (S:=S) s fun c5 c3 w8 hc3 hc5 hz8 C5 C3 e8=>⟨_,_,_,rfl,fun base=>?_⟩
 have E8:=qb E6 e8
 have z8:=E8.size
 have z6:=E6.size
 have D3:=B3'.ext e8
 have D5:=B5.ext e8
 have hR0:=hR.imp (S':=fun k=>S k∧k < w.heap.size) fun k hk hl=>⟨hk,hl⟩
 have hR8:=(hR0.ext E8).imp (S':=fun k=>(S k∧k < w.heap.size)∨k=c5∨k=c3) fun k hk _=>.inl hk
 rw [qpa]
 refine qex qfj qfi (gf:=qbc) rfl (by kernel_rfl) (xs:=resW rs s) (E:=fun x vs=>vs=[.string ⟨⟨x⟩⟩]) (Rd:=fun k=>(S k∧k < w.heap.size)∨k=c5∨k=c3)
  (fun v1 he=>q4w rs s hln (q9s hr) hs c5 c3 v1 (fun k hk=>by have:=he.size;rcases hk with hk | hk | hk <;> omega) (C5.ext he) (C3.ext he) (hR8.ext he) (.inr (.inl rfl)) (.inr (.inr rfl))) (fun y vs hE=>by rw [hE];rfl) (by decide) (fun k hk=>by rcases hk with hk | hk | hk <;> omega) (fun k=>k=b3∨k=b5) (fun k hk=>⟨by omega,fun hh=>by rcases hh with hh | hh | hh <;> omega⟩)
  (fun pre S1 W=>pre=[]∧Blk W b3 [.string ⟨⟨[]⟩⟩] 9∧Blk W b5 [.bool false] 4∧(∀ k,S1 k↔k=b3∨k=b5)∧Ext w W)
  (fun S1 W=>∃ x,stepW rs s=some x∧Blk W b3 [.string ⟨⟨x⟩⟩] 9∧Blk W b5 [.bool true] 4∧(∀ k,S1 k↔k=b3∨k=b5)∧Ext w W) (fun _ _=>False)
  ?_ ?_ (fun _ _ _ h=>h.elim) ⟨rfl,D3,D5,fun k=>Iff.rfl,E8⟩ ?_ ?_ ?_ (fun _ _ _ _ _ _ _ h=>h.elim)
 ·rintro pre S1 W W' ⟨g0,g1,g2,g3,g4⟩ hc
  exact ⟨g0,hc.blk g1 (fun hh=>hh.2 ((g3 _).2 (.inl rfl))),hc.blk g2 (fun hh=>hh.2 ((g3 _).2 (.inr rfl))),g3,qi g4 hc fun k hk=>by omega⟩
 ·rintro S1 W W' ⟨x,g0,g1,g2,g3,g4⟩ hc
  exact ⟨x,g0,hc.blk g1 (fun hh=>hh.2 ((g3 _).2 (.inl rfl))),hc.blk g2 (fun hh=>hh.2 ((g3 _).2 (.inr rfl))),g3,qi g4 hc fun k hk=>by omega⟩
 ·rintro pre x vs S1 W l rfl hpre hl1 hl2 hl3 hS1 ⟨g0,g1,g2,g3,g4⟩
  subst g0
  refine Eq.mpr (qo6 base _ _ _ _ _ _ _ _ _ _ _ _) ?_
  refine ⟨Below.refl _ _,fun W2 hU=>dr_ok ?_⟩
  have nl3:b3≠l:=fun he=>hl3 ((g3 l).2 (.inl he.symm))
  have nl5:b5≠l:=fun he=>hl3 ((g3 l).2 (.inr he.symm))
  have zU:=hU.size
  have hUc:Chg (fun k=>k=l) W W2:=⟨hU.os,hU.tape,hU.output,by omega,fun k _ hk=>hU.block k hk⟩
  have hx:stepW rs s=some x:=by
   unfold stepW
   obtain ⟨t,ht⟩:=hpre
   rw [← ht];rfl
  refine qn (hUc.blk g1 nl3) rfl fun W3 q1 c3' s3=>dr_ok ?_
  refine qn (c3'.blk (hUc.blk g2 nl5) (by omega)) rfl fun W4 q2 c4' s4'=>?_
  have E2:Ext w W2:=qi g4 hUc fun k hk=>by omega
  refine ⟨?_,fun k=>k=b3∨k=b5,fun k hk=>⟨.inl ((g3 k).2 hk),?_⟩,x,hx,c4'.blk q1 (by omega),q2,fun k=>Iff.rfl,ext_tw (ext_tw E2 c3' (by omega)) c4' (by omega)⟩
  ·exact (c3'.mono fun k _ hk=>.inl ((g3 k).2 (.inl hk))).trans (c4'.mono fun k _ hk=>.inl ((g3 k).2 (.inr hk)))
  ·have:=hS1 k ((g3 k).2 hk);omega
 ·rintro D S1 W hD1 hD2 hD3 hD4 ⟨g0,g1,g2,g3,g4⟩
  have hnone:stepW rs s=none:=by unfold stepW;rw [g0];rfl
  rw [hnone] at h
  have nl3:b3≠D:=fun he=>hD3 ((g3 D).2 (.inl he.symm))
  have nl5:b5≠D:=fun he=>hD3 ((g3 D).2 (.inr he.symm))
  refine qn g1 rfl fun W3 q1 c3' s3=>?_
  refine qn (c3'.blk g2 (by omega)) rfl fun W4 q2 c4' s4'=>?_
  have hD:W4.heap[D]? = some (.deferred (some [])):=by rw [c4'.block D (by omega) (by omega),c3'.block D hD2 (by omega)];exact hD4
  refine ⟨D,rfl,hD,?_⟩
  have cD:Chg (fun k=>k=D) W4 (W4.putObj D (.deferred none)):=Chg.put _ _ _ rfl
  have q1':=cD.blk (c4'.blk q1 (by omega)) (by omega)
  have q2':=cD.blk q2 (by omega)
  refine ⟨_,by rw [q1'.cell];rfl,_,by rw [q2'.cell];rfl,?_⟩
  exact h _ (qi (ext_tw (ext_tw g4 c3' (by omega)) c4' (by omega)) cD fun k hk=>by omega)
 ·rintro D S1 W hD1 hD2 hD3 hD4 ⟨x,g0,g1,g2,g3,g4⟩
  rw [g0] at h
  have nl3:b3≠D:=fun he=>hD3 ((g3 D).2 (.inl he.symm))
  have nl5:b5≠D:=fun he=>hD3 ((g3 D).2 (.inr he.symm))
  refine ⟨D,rfl,hD4,?_⟩
  have cD:Chg (fun k=>k=D) W (W.putObj D (.deferred none)):=Chg.put _ _ _ rfl
  refine ⟨_,by rw [(cD.blk g1 nl3).cell];rfl,_,by rw [(cD.blk g2 nl5).cell];rfl,?_⟩
  exact h _ (qi g4 cD fun k hk=>by omega)
theorem slT_strT:SlT prog 31 9 1 16 (.string ⟨⟨[]⟩⟩):=⟨by kernel_rfl,by kernel_rfl,rfl,by decide⟩
theorem trace_step {rs:List Rw} {n:Nat} {s x:List UInt8} (h:stepW rs s=some x):qfg rs (n + 1) s=qfg rs n x:=by
 conv=>lhs;unfold qfg
 rw [h]
theorem trace_stop {rs:List Rw} {n:Nat} {s:List UInt8} (h:stepW rs s=none):qfg rs n s=some s:=by
 cases n <;> unfold qfg <;> rw [h]
theorem trace_full {rs:List Rw} {s x:List UInt8} (h:stepW rs s=some x):qfg rs 0 s=none:=by
 unfold qfg;rw [h]
theorem q7h {S:Nat→Prop} {a:Option Addr} {n c:Nat} (rs:List Rw) (s:List UInt8) (hln:rs.length≤64) (hr:qcs rs=0) (hs:s.length≤64) (hw:qaq s=true) (hR:RowAt encRw S w a n rs)
  (h:∀ a' n' c' w' (L:List (List UInt8)),(∀ r,qfg rs 4095 s=some r→RowAt Sh.encStr (fun k=>w.heap.size≤k) w' a' n' (L++[r])∧L.length≤4095)→Ext w w'→R (.returned (.tuple ⟨[.slice a' n' c',.int .i64 (if (qfg rs 4095 s).isNone=true then 4 else 0)]⟩)) w') :
  Calls prog qip ⟨[.slice a n c,.string ⟨⟨s⟩⟩]⟩ w R:=by
 apply qun
 refine qh fun b3 w4 hb3 B3 e4 s4=>?_
 refine ⟨fun oa on oc W m=>∃ (L:List (List UInt8)) (x:List UInt8),on=L.length + 1∧m=4095 - L.length∧L.length≤4095∧OwnL Sh.encStr W w.heap.size 9 oa on oc (L++[x])∧qfg rs m x=qfg rs 4095 s∧x.length≤64∧qaq x=true∧Ext w W,
  ⟨_,[],s,rfl,rfl,by simp,?_,rfl,hs,hw,e4⟩,?_⟩
 ·have hb:Blk w4 b3 ((List.replicate 1 (Sh.encStr.enc s)).flatten) 9:=B3
  have:=OwnL.made (E:=Sh.encStr) (x:=s) (n:=1) (B:=w.heap.size) hb (by omega) (by decide)
  exact this
 rintro oa on oc W k ⟨L,x,rfl,hk,hL,hO,htr,hx,hwx,he⟩ _
 have zW:=he.size
 have hg:(L++[x])[L.length]? = some x:=by simp
 obtain ⟨bb,o,hq,_,_,hc⟩:=hO.out.get hg
 have ei:i64.wrap (((L.length + 1:Nat):Int) - 1)=(L.length:Int):=by rw [qr (by omega)];omega
 rw [ei]
 refine hq _ ⟨x,hc 0 _ rfl,?_⟩
 refine q9p rs x hln hr hx (hR.ext he) fun w13 e13=>⟨_,_,rfl,?_⟩
 have E13:=qb he e13
 have hO13:=hO.ext e13
 cases hst:stepW rs x with
 | none =>
  simp only [Option.isSome_none,Bool.not_false,br_t]
  have ht:=trace_stop (n:=k) hst
  rw [htr] at ht
  rw [ht] at h
  refine h oa _ oc w13 L (fun r hr'=>?_) E13
  rw [← Option.some.inj hr']
  exact ⟨(OwnL.out hO13).imp fun k hk _=>(Owns.bk hO13 hk).1,hL⟩
 | some y =>
  simp only [Option.isSome_some,Bool.not_true,br_f,Option.getD_some]
  refine qd (fun g=>?_) (fun g=>?_)
  ·have hk0:k=0:=by omega
   subst hk0
   rw [trace_full hst] at htr
   rw [← htr] at h
   exact h none 0 0 w13 [] (fun r hr'=>by cases hr') E13
  ·obtain ⟨q1,q2,q3⟩:=step_word hr hwx (List.mem_of_head? (show (resW rs x).head? = some y from hst))
   refine qh fun b16 w17 hb16 B16 e17 s17=>?_
   have z13:=E13.size
   have B16':Blk w17 b16 (Sh.encStr.enc y) 9:=B16
   refine OwnL.app1 (P:=prog) slT_strT (hO13.ext e17) (by omega) B16' (by omega) (by omega) fun a' c'' w19 ho hcg hn=>?_
   have z17:=e17.size
   refine ⟨k - 1,by omega,L++[x],y,by simp,by simp;omega,by simp;omega,?_,?_,by omega,q1,?_⟩
   ·exact ho
   ·rw [← htr,show k=(k - 1) + 1 by omega,trace_step hst,Nat.add_sub_cancel]
   ·exact qi (qb E13 e17) hcg fun k hk=>(hO13.bk hk).1
theorem rwE_eq (rs:List Rw) (s:List UInt8):rwE rs s=if chkE rs s≠0 then chkE rs s else if (qfg rs 4095 s).isNone=true then 4 else 0:=by
 unfold rwE chkE
 by_cases h1:ruleE rs≠0
 ·rw [if_pos h1,if_pos h1];rfl
 ·rw [if_neg h1,if_neg h1]
  by_cases h2:64 < s.length
  ·rw [if_pos h2,if_pos h2];rfl
  ·rw [if_neg h2,if_neg h2]
   by_cases h3:qaq s=false
   ·rw [if_pos h3,if_pos h3];rfl
   ·rw [if_neg h3,if_neg h3];rfl
theorem chk_zero {rs:List Rw} {s:List UInt8} (h:chkE rs s=0):rs.length≤64∧qcs rs=0∧s.length≤64∧qaq s=true:=by
 unfold chkE at h
 split at h
 ·cases h
 split at h
 ·cases h
 split at h
 ·cases h
 rename_i h1 h2 h3
 have h1:ruleE rs=0:=Decidable.not_not.1 h1
 unfold ruleE at h1
 split at h1
 ·cases h1
 ·exact ⟨by omega,h1,by omega,by simpa using h3⟩
theorem q9q {S:Nat→Prop} {a:Option Addr} {n c:Nat} (rs:List Rw) (s:List UInt8) (hsm:qx3 rs) (hR:RowAt encRw S w a n rs)
  (h:∀ w',Ext w w'→R (.returned (.tuple ⟨[.string ⟨⟨rwR rs s⟩⟩,.int .i64 (rwE rs s)]⟩)) w'):Calls prog qfa ⟨[.slice a n c,.string ⟨⟨s⟩⟩]⟩ w R:=by
 apply qlh
 apply qur
 refine q7i rs s hsm hR fun w4 e4=>⟨_,rfl,?_⟩
 have hE:=rwE_eq rs s
 refine qd (fun g=>⟨_,_,_,_,rfl,qd (fun _=>?_) (fun hh=>absurd g hh)⟩) (fun g=>?_)
 ·rw [if_pos g] at hE
  have hr:rwR rs s=[]:=by unfold rwR;rw [hE,if_pos g]
  rw [hr,hE] at h
  exact h w4 e4
 ·have g0:chkE rs s=0:=Decidable.not_not.1 g
  rw [if_neg g] at hE
  obtain ⟨q1,q2,q3,q4⟩:=chk_zero g0
  refine q7h rs s q1 q2 q3 q4 (hR.ext e4) fun a' n' c' w' L hL e'=>⟨_,_,_,_,rfl,_,_,_,_,rfl,?_⟩
  rw [← hE]
  cases ht:qfg rs 4095 s with
  | none =>
   rw [ht] at hE
   have hE:rwE rs s=4:=hE
   have hr:rwR rs s=[]:=by unfold rwR;rw [hE];rfl
   rw [hr,hE] at h
   rw [hE]
   exact qd (fun _=>h w' (qb e4 e')) (fun hh=>absurd (by decide) hh)
  | some r =>
   rw [ht] at hE
   have hE:rwE rs s=0:=hE
   have hr:rwR rs s=r:=by unfold rwR;rw [hE,ht];rfl
   rw [hr,hE] at h
   rw [hE]
   refine qd (fun hh=>absurd rfl hh) (fun _=>?_)
   obtain ⟨hrow,hL5⟩:=hL r ht
   have hg:(L++[r])[L.length]? = some r:=by simp
   obtain ⟨bb,o,hq,_,_,hc⟩:=hrow.get hg
   have hn:=hrow.1
   have hsz:n'=L.length + 1:=by rw [hn];simp
   subst hsz
   have ei:i64.wrap (((L.length + 1:Nat):Int) - 1)=(L.length:Int):=by rw [qr (by omega)];omega
   rw [ei]
   exact hq _ ⟨r,hc 0 _ rfl,h w' (qb e4 e')⟩
end
theorem bitA_facts {g:Int} (h0:0≤g) (h1:g≤31):decide (bitA .i64 g 10=0)=wordG g∧decide (bitA .i64 g 2≠0)=hasG g 2∧decide (bitA .i64 g 8≠0)=hasG g 8∧decide (bitA .i64 g 16=0)=!hasG g 16:=by
 have key:∀ n:Fin 32,decide (bitA .i64 (n.val:Int) 10=0)=wordG (n.val:Int)∧decide (bitA .i64 (n.val:Int) 2≠0)=hasG (n.val:Int) 2∧decide (bitA .i64 (n.val:Int) 8≠0)=hasG (n.val:Int) 8∧decide (bitA .i64 (n.val:Int) 16=0)=!hasG (n.val:Int) 16:=by decide +kernel
 have:=key ⟨g.toNat,by omega⟩
 have e:((g.toNat:Nat):Int)=g:=by omega
 simp only [e] at this
 exact this
theorem blk6' {w:World} {b:Nat} {v0 v1 v2 v3 v4 v5:Value} {T:TypeId} (h:Blk w b [v0,v1,v2,v3,v4,v5] T) :
  w.cell? ((⟨b,0,none⟩:Addr).add 0)=some v0∧w.cell? ((⟨b,0,none⟩:Addr).add 1)=some v1∧w.cell? ((⟨b,0,none⟩:Addr).add 2)=some v2∧w.cell? ((⟨b,0,none⟩:Addr).add 3)=some v3∧w.cell? ((⟨b,0,none⟩:Addr).add 4)=some v4∧w.cell? ((⟨b,0,none⟩:Addr).add 5)=some v5:=by
 simp only [qg,h.cell];exact ⟨rfl,rfl,rfl,rfl,rfl,rfl⟩
abbrev aggT (x:Tok):Value:=.agg ⟨[.string ⟨⟨x.t⟩⟩,.string ⟨⟨x.m⟩⟩,.string ⟨⟨x.p.1⟩⟩,.int .i64 x.p.2,.int .i64 x.g,.string ⟨⟨x.a⟩⟩]⟩
section
variable {R:Ending→World→Prop} {w:World}
theorem q78 (x:Tok) (h0:0≤x.g) (h1:x.g≤31) (h:∀ w',Ext w w'→R (.returned (.bool (wordG x.g))) w'):Calls prog qha ⟨[aggT x]⟩ w R:=by
 apply qr1
 refine qh fun b w8 hb B8 e8 s8=>⟨_,(blk6' B8).2.2.2.2.1,?_⟩
 rw [(bitA_facts h0 h1).1]
 exact h w8 e8
theorem named_spec (s:List UInt8) (h:R (.returned (.bool (qjl s))) w):Calls prog qim ⟨[.string ⟨⟨s⟩⟩]⟩ w R:=by
 apply quk
 unfold qjl at h
 refine qd (fun g=>?_) (fun g=>qcg s ⟨_,rfl,?_⟩)
 ·rw [decide_eq_true g] at h;exact h
 ·rw [decide_eq_false g] at h;exact h
theorem qra (rs:List Rw):∀ (l:List Tok) (x:Tok),nrmE rs l=0→nrmE rs (l++[x])=if wordG x.g=true∧rwE rs x.t≠0 then rwE rs x.t else 0
 | [],x,_=>by simp only [List.nil_append,nrmE]
 | y :: l,x,h=>by
  rw [nrmE] at h
  split at h
  ·rename_i hh;exact absurd h hh.2
  ·rename_i hh
   rw [List.cons_append,nrmE,if_neg hh,qra rs l x h]
theorem nrmE_app (rs:List Rw):∀ (l m:List Tok),nrmE rs l≠0→nrmE rs (l++m)=nrmE rs l
 | [],m,h=>absurd rfl h
 | y :: l,m,h=>by
  rw [nrmE] at h
  rw [List.cons_append,nrmE,nrmE]
  split
  ·rfl
  ·rename_i hh
   rw [if_neg hh] at h
   exact nrmE_app rs l m h
theorem qy3 {S:Nat→Prop} {B:Nat} {a0:Option Addr} {n0 c0:Nat} {a:Option Addr} {n c:Nat} (rs:List Rw) (l:List Tok) (hsm:qx3 rs) (hR:RowAt encRw S w a0 n0 rs) (hO:OwnL encTk w B 69 a n c l) (hd:∀ k,S k→¬ bk a k) (hg:∀ x∈l,0≤x.g∧x.g≤31) (hn:n≤1000000000)
  (h:∀ w',Chg (bk a) w w'→(nrmE rs l=0→OwnL encTk w' B 69 a n c (l.map (nrmT rs)))→R (.returned (.tuple ⟨[if nrmE rs l=0 then .slice a n c else .slice none 0 0,.int .i64 (nrmE rs l)]⟩)) w') :
  Calls prog qem ⟨[.slice a0 n0 c0,.slice a n c]⟩ w R:=by
 apply qj1
 have hln:=OwnL.length hO
 refine ⟨fun i W m=>∃ k:Nat,i=k∧k≤n∧m=n - k∧Chg (bk a) w W∧OwnL encTk W B 69 a n c ((l.take k).map (nrmT rs)++l.drop k)∧nrmE rs (l.take k)=0,⟨_,0,rfl,by omega,rfl,Chg.refl _ _,by simpa using hO,rfl⟩,?_⟩
 rintro _ W m ⟨k,rfl,hk,rfl,hcW,hOW,hz⟩ _
 refine qd (fun hlt=>?_) (fun hge=>?_)
 ·have hkl:k < l.length:=by omega
  have hget:∀ y:Tok,((l.take k).map (nrmT rs)++y :: l.drop (k + 1))[k]? = some y:=fun y=>by
   rw [List.getElem?_append_right (by simp;omega)];simp [Nat.min_eq_left (by omega:k≤l.length)]
  have hset:∀ y z:Tok,((l.take k).map (nrmT rs)++y :: l.drop (k + 1)).set k z=(l.take k).map (nrmT rs)++z :: l.drop (k + 1):=fun y z=>by
   rw [List.set_append_right _ _ (by simp;omega)];simp [Nat.min_eq_left (by omega:k≤l.length)]
  have hdr:l.drop k=l[k] :: l.drop (k + 1):=List.drop_eq_getElem_cons hkl
  rw [hdr] at hOW
  have htk:l.take (k + 1)=l.take k++[l[k]]:=List.take_succ_eq_append_getElem hkl
  obtain ⟨hg0,hg1⟩:=hg l[k] (List.getElem_mem hkl)
  generalize hx:l[k]=x at *
  obtain ⟨g,ha,hq,hc,hst⟩:=OwnL.storeCell hOW (hget x)
  refine hq _ ⟨x.t,by rw [qg];exact hc 0 _ rfl,hq _ ?_⟩
  rw [qg]
  refine hst 1 _ (setM x x.t) _ (by decide) rfl rfl fun w11 ho11 c11 s11=>?_
  rw [hset] at ho11
  obtain ⟨g',ha',hq',hc',hst'⟩:=OwnL.storeCell ho11 (hget (setM x x.t))
  have hgg:g'=g:=by rw [ha] at ha';simpa using ha'.symm
  subst hgg
  have hcw11:=hcW.trans c11
  refine hq' _ ⟨_,by rw [qg];exact hc' 0 _ rfl,_,by rw [qg];exact hc' 1 _ rfl,_,by rw [qg];exact hc' 2 _ rfl,_,by rw [qg];exact hc' 3 _ rfl,_,by rw [qg];exact hc' 4 _ rfl,_,by rw [qg];exact hc' 5 _ rfl,?_⟩
  refine q78 (setM x x.t) hg0 hg1 fun w20 e20=>⟨_,rfl,?_⟩
  have ho20:=Owns.ext ho11 e20
  have hcw20:=hcw11.trans (.of_ext e20)
  have hw:(setM x x.t).g=x.g:=rfl
  rw [hw]
  cases hwg:wordG x.g with
  | false =>
   simp only [Bool.not_false,br_t]
   have hnx:nrmT rs x=setM x x.t:=by unfold nrmT;rw [hwg];rfl
   refine ⟨n - (k + 1),by omega,k + 1,by rw [ql (by omega)],by omega,rfl,hcw20,?_,?_⟩
   ·rw [htk,List.map_append,List.map_singleton,hnx,List.append_assoc];exact ho20
   ·rw [htk,qra rs _ _ hz,if_neg (fun hh=>by rw [hwg] at hh;cases hh.1)]
  | true =>
   simp only [Bool.not_true,br_f]
   obtain ⟨g2,ha2,hq2,hc2,hst2⟩:=OwnL.storeCell ho20 (hget (setM x x.t))
   have hgg:g2=g':=by rw [ha'] at ha2;simpa using ha2.symm
   subst hgg
   refine hq2 _ ⟨_,by rw [qg];exact hc2 0 _ rfl,?_⟩
   have hR20:RowAt encRw S w20 a0 n0 rs:=hR.chg hcw20 hd
   refine q9q rs x.t hsm hR20 fun w26 e26=>⟨_,_,rfl,?_⟩
   have hcw26:=hcw20.trans (.of_ext e26)
   have ho26:=Owns.ext ho20 e26
   refine qd (fun g3=>?_) (fun g3=>?_)
   ·have he:nrmE rs l=rwE rs x.t:=by
     have h1:nrmE rs (l.take (k + 1))=rwE rs x.t:=by rw [htk,qra rs _ _ hz,if_pos ⟨hwg,g3⟩]
     have h2:=nrmE_app rs (l.take (k + 1)) (l.drop (k + 1)) (by rw [h1];exact g3)
     rw [List.take_append_drop] at h2
     rw [h2,h1]
    rw [he] at h
    have:=h w26 hcw26 (fun hh=>absurd hh g3)
    rw [if_neg g3] at this
    exact this
   ·obtain ⟨g4,ha4,hq4,hc4,hst4⟩:=OwnL.storeCell ho26 (hget (setM x x.t))
    have hgg:g4=g2:=by rw [ha2] at ha4;simpa using ha4.symm
    subst hgg
    refine hq4 _ ?_
    rw [qg]
    refine hst4 1 _ (setM x (rwR rs x.t)) _ (by decide) rfl rfl fun w30 ho30 c30 s30=>?_
    rw [hset] at ho30
    have hnx:nrmT rs x=setM x (rwR rs x.t):=by unfold nrmT;rw [hwg];rfl
    refine ⟨n - (k + 1),by omega,k + 1,by rw [ql (by omega)],by omega,rfl,hcw26.trans c30,?_,?_⟩
    ·rw [htk,List.map_append,List.map_singleton,hnx,List.append_assoc];exact ho30
    ·rw [htk,qra rs _ _ hz,if_neg (fun hh=>hh.2 (Decidable.not_not.1 g3))]
 ·have hkn:k=n:=by omega
  subst hkn
  rw [List.take_of_length_le (by omega)] at hz hOW
  rw [List.drop_eq_nil_of_le (by omega),List.append_nil] at hOW
  rw [hz] at h
  exact h W hcW fun _=>hOW
theorem q3d {S:Nat→Prop} {a:Option Addr} {n c:Nat} (l:List Tok) (q:Tok→Bool) (fn:FuncId) (hok:okFn prog fn=true) (hp:∀ {R:Ending→World→Prop} {v:World} (x:Tok),x∈l→(∀ v',Ext v v'→R (.returned (.bool (q x))) v')→Calls prog fn ⟨[aggT x]⟩ v R)
  (hR:RowAt encTk S w a n l) (hn:n≤4611686018427387904) (h:∀ w',Ext w w'→R (.returned (.bool (l.any q))) w'):Calls prog qah ⟨[.slice a n c,.func (.func fn) #[] #[]]⟩ w R:=by
 apply qbo
 apply qb1
 have hln:=hR.1
 refine ⟨fun i W m=>∃ k:Nat,i=k∧k≤n∧m=n - k∧Ext w W∧(l.take k).any q=false,⟨_,0,rfl,by omega,rfl,Below.refl _ _,rfl⟩,?_⟩
 rintro _ W m ⟨k,rfl,hk,rfl,he,hz⟩ _
 refine qd (fun hlt=>?_) (fun hge=>?_)
 ·have hkl:k < l.length:=by omega
  obtain ⟨bb,o,hq,_,_,hc⟩:=(hR.ext he).get (show l[k]? = some l[k] by simp [hkl])
  refine hq _ ⟨_,by rw [qg];exact hc 0 _ rfl,_,by rw [qg];exact hc 1 _ rfl,_,by rw [qg];exact hc 2 _ rfl,_,by rw [qg];exact hc 3 _ rfl,_,by rw [qg];exact hc 4 _ rfl,_,by rw [qg];exact hc 5 _ rfl,hok,?_⟩
  refine hp l[k] (List.getElem_mem hkl) fun w16 e16=>⟨_,rfl,qm (fun g=>?_) (fun g=>?_)⟩
  ·refine ⟨_,rfl,?_⟩
   have:l.any q=true:=List.any_eq_true.2 ⟨l[k],List.getElem_mem hkl,g⟩
   rw [decide_eq_true (show (0:Int)≤(k:Int) by omega),← this]
   exact h w16 (qb he e16)
  ·refine ⟨n - (k + 1),by omega,k + 1,by rw [ql (by omega)],by omega,rfl,qb he e16,?_⟩
   rw [List.take_succ_eq_append_getElem hkl,List.any_append,hz];simp [g]
 ·rw [List.take_of_length_le (by omega)] at hz
  rw [hz] at h
  exact ⟨_,rfl,h W he⟩
end
theorem Owns.weak {w:World} {B B':Nat} {e:TypeId} {size:Nat} {a:Option Addr} {n c:Nat} {xs:List Value} (h:Owns w B e size a n c xs) (hB:B'≤B):Owns w B' e size a n c xs:=by
 refine ⟨h.1,?_⟩
 rcases h.2 with h | ⟨g,cap,cur,e1,e2,e3⟩
 ·exact .inl h
 ·exact .inr ⟨g,cap,cur,e1,Nat.le_trans hB e2,e3⟩
theorem amN_len (p:Ps) (k t n ps) (u:Bool) (nm:List UInt8):(amN p ⟨⟨k,t,n,ps⟩,u,nm⟩).length≤t.length + 1:=by
 unfold amN
 split
 ·unfold amT;rw [List.length_map];exact Nat.le_succ _
 ·split
  ·simp
  ·split <;> simp
theorem ams_len:∀ (f:Fo) (p:Ps) (u:Bool) (nm:List UInt8),(amsF p f u nm).length≤tlen f + f.size
 | .nil,_,_,_=>Nat.zero_le _
 | .cons k t n ps r,p,u,nm=>by
  have h1:=amN_len p k t n ps u nm
  have h2:=ams_len ps (posN p ⟨k,t,n,ps⟩).1 (u||decide (k=7)) (if k=11 then t else nm)
  have h3:=ams_len r (endL (posN p ⟨k,t,n,ps⟩).1 (qj ps)) u nm
  rw [q0p,List.length_append,List.length_append]
  simp only [tlen,Fo.size]
  omega
theorem addB_len (st:Bs) (x:Am):(lstB (addB st x)).length≤(lstB st).length + 1∧(wrdB (addB st x)).length≤(wrdB st).length + 1:=by
 have hsh:=qgq st
 cases x with
 | ch c p u nm =>
  obtain ⟨out,cur,j,v⟩:=st
  have key:∀ st':Bs,(st'=(if letB c=true then ⟨shut ⟨out,cur,j,v⟩,some (⟨[],[],p,flI u j v 0,nm⟩,[c]),true,false⟩ else if kd c=6 then ⟨shut ⟨out,cur,j,v⟩,none,false,v⟩ else ⟨shut ⟨out,cur,j,v⟩++[⟨[c],[],p,flI u j v 8,nm⟩],none,true,false⟩:Bs)) →
    (lstB st').length≤(lstB ⟨out,cur,j,v⟩).length + 1∧(wrdB st').length≤(wrdB ⟨out,cur,j,v⟩).length + 1:=by
   intro st' he
   subst he
   split
   ·simp [lstB,wrdB];simp [lstB] at hsh;omega
   ·split
    ·simp [lstB,wrdB];simp [lstB] at hsh;omega
    ·simp [lstB,wrdB];simp [lstB] at hsh;omega
  cases cur with
  | none=>exact key _ rfl
  | some ts =>
   cases hi:innC c with
   | true=>simp [addB,hi,lstB,wrdB]
   | false=>exact key _ (by simp only [addB,hi])
 | gap n p u nm =>
  simp only [addB,lstB,wrdB,List.length_append,List.length_singleton,List.length_nil]
  rw [hsh]
  exact ⟨Nat.le_refl _,Nat.zero_le _⟩
 | brk x =>
  simp only [addB,lstB,wrdB,List.length_nil]
  rw [hsh]
  exact ⟨Nat.le_succ _,Nat.zero_le _⟩
theorem q5e:∀ (l:List Am) (st:Bs),(lstB (l.foldl addB st)).length≤(lstB st).length + l.length∧(wrdB (l.foldl addB st)).length≤(wrdB st).length + l.length
 | [],st=>⟨Nat.le_refl _,Nat.le_refl _⟩
 | x :: l,st=>by
  have h1:=addB_len st x
  have h2:=q5e l (addB st x)
  rw [List.foldl_cons,List.length_cons]
  omega
theorem fl_bd (u j v:Bool) (base:Int) (hb:base=0∨base=2∨base=8):0≤flI u j v base∧flI u j v base≤31:=by
 obtain ⟨h1,h2,_⟩:=q5f u j v base hb
 exact ⟨h1,h2⟩
theorem StOk.add {st:Bs} (h:StOk st) (x:Am):StOk (addB st x):=by
 cases x with
 | ch c p u nm =>
  obtain ⟨out,cur,j,v⟩:=st
  have key:∀ st':Bs,(st'=(if letB c=true then ⟨shut ⟨out,cur,j,v⟩,some (⟨[],[],p,flI u j v 0,nm⟩,[c]),true,false⟩ else if kd c=6 then ⟨shut ⟨out,cur,j,v⟩,none,false,v⟩ else ⟨shut ⟨out,cur,j,v⟩++[⟨[c],[],p,flI u j v 8,nm⟩],none,true,false⟩:Bs))→StOk st':=by
   intro st' he
   subst he
   split
   ·refine ⟨fun t s hh=>?_,fun _=>by simp [lstB]⟩
    obtain ⟨rfl,rfl⟩:=Prod.mk.inj (Option.some.inj hh)
    have:=fl_bd u j v 0 (by simp)
    exact ⟨by simp,rfl,this.1,this.2⟩
   ·split
    ·exact ⟨fun t s hh=>(by cases hh),fun hh=>(by cases hh)⟩
    ·exact ⟨fun t s hh=>(by cases hh),fun _=>by simp [lstB]⟩
  cases cur with
  | none=>exact key _ rfl
  | some ts =>
   obtain ⟨t,s⟩:=ts
   cases hi:innC c with
   | true =>
    obtain ⟨h1,h2,h3,h4⟩:=h.cur t s rfl
    have e:addB ⟨out,some (t,s),j,v⟩ (.ch c p u nm)=⟨out,some ({ t with g:=orU t.g u },s++[c]),j,v⟩:=by simp only [addB,hi]
    rw [e]
    refine ⟨fun t' s' hh=>?_,fun _=>by simp [lstB]⟩
    obtain ⟨rfl,rfl⟩:=Prod.mk.inj (Option.some.inj hh)
    refine ⟨by simp,h2,?_,?_⟩
    ·show 0≤orU t.g u
     unfold orU;split <;> omega
    ·show orU t.g u≤31
     unfold orU;split <;> omega
   | false=>exact key _ (by simp only [addB,hi])
 | gap n p u nm=>exact ⟨fun t s hh=>(by cases hh),fun _=>by simp [addB,lstB]⟩
 | brk x=>exact ⟨fun t s hh=>(by cases hh),fun hh=>(by cases hh)⟩
theorem StOk.fold:∀ (l:List Am) {st:Bs},StOk st→StOk (l.foldl addB st)
 | [],_,h=>h
 | x :: l,_,h=>StOk.fold l (h.add x)
theorem ok0:StOk bs0:=⟨fun t s hh=>(by cases hh),fun hh=>(by cases hh)⟩
theorem q42:∀ {l:List Am} {b:Bool},okA b l→∀ n p u nm,.gap n p u nm∈l→1≤n∧n≤64
 | [],_,_,_,_,_,_,h=>by cases h
 | .ch c p _ nm :: r,b,⟨_,_,_,_,h5⟩,n,q,u,m,h=>by
  rcases List.mem_cons.1 h with hh | hh
  ·cases hh
  ·exact q42 h5 n q u m hh
 | .gap k p _ nm :: r,_,⟨h1,_,_,h4⟩,n,q,u,m,h=>by
  rcases List.mem_cons.1 h with hh | hh
  ·cases hh;exact h1
  ·exact q42 h4 n q u m hh
 | .brk _ :: r,_,h1,n,q,u,m,h=>by
  rcases List.mem_cons.1 h with hh | hh
  ·cases hh
  ·exact q42 (l:=r) h1 n q u m hh
theorem qxp (k:Int) (f:Fo):cntF k f≤f.size:=by
 unfold cntF ofK
 have:=List.length_filter_le (fun x:Nn=>decide (x.k=k)) (qj f)
 rw [qfy] at this
 exact this
section
variable {R:Ending→World→Prop} {w:World}
theorem q8x (x:Tok) (h:∀ w',Ext w w'→R (.returned (.bool (decide (64 < x.t.length)))) w'):Calls prog qco ⟨[aggT x]⟩ w R:=by
 apply qm1
 refine qh fun b w8 hb B8 e8 s8=>⟨_,(blk6' B8).1,?_⟩
 have:decide ((64:Int) < (x.t.length:Int))=decide (64 < x.t.length):=decide_eq_decide.2 (by omega)
 rw [this]
 exact h w8 e8
theorem builder_new {b:Nat} (hb:Blk w b (qpj none 0 0 (.pointer none) none 0 0 false false false) 118):BsSt w b bs0 (fun k=>k=b) :=
 ⟨none,none,.pointer none,0,0,⟨hb,.inl rfl,Owns.nil _ _ _ _,Owns.nil _ _ _ _⟩,fun k=>by simp [bk]⟩
theorem Tokens_spec {S S2:Nat→Prop} {a a2:Option Addr} {n c n2 c2:Nat} (p:Ps) (f:Fo) (rs:List Rw) (hs:small f) (hF:Forms w) (hf:SlF S w a n f) (hsm:qx3 rs) (hR:RowAt encRw S2 w a2 n2 rs)
  (h:∀ a' n' c' w',n'=(tksR p f rs).length→OwnL encTk w' w.heap.size 69 a' n' c' (tksR p f rs)→Ext w w'→R (.returned (.tuple ⟨[.slice a' n' c',.int .i64 (tksE p f rs)]⟩)) w') :
  Calls prog qhc ⟨[.agg ⟨[.string ⟨⟨p.1⟩⟩,.int .i64 p.2]⟩,.slice a n c,.slice a2 n2 c2]⟩ w R:=by
 apply qr3
 refine qh fun b5 w6 hb5 B5 e6 s6=>?_
 have bad:∀ (e:Int) (v:World),e≠0→tksE p f rs=e→Ext w v→R (.returned (.tuple ⟨[.slice none 0 0,.int .i64 e]⟩)) v:=by
  intro e v he h0 hv
  have hr:tksR p f rs=[]:=by unfold tksR;rw [h0,if_pos he]
  rw [hr,h0] at h
  exact h none 0 0 v rfl (Owns.nil _ _ _ _) hv
 intro K7 hK7
 have k7:∀ w10,qad f=0→ruleE rs=0→Ext w6 w10→K7 none 0 0 0 w10:=by
  intro w10 hck hru e10
  refine hK7 _ _ _ _ _ fun _=>?_
  obtain ⟨q1,q2,q3⟩:=qby hck
  have hok:okF false f:=by
   unfold qad at hck
   split at hck
   ·split at hck
    ·rename_i hh;exact absurd hck hh
    ·rename_i hh;exact ((qih f false false).1 (Decidable.not_not.1 hh)).1
   ·cases hck
  have E10:=qb e6 e10
  have n1:¬ (qad f≠0∨ruleE rs≠0):=by rw [hck,hru];simp
  intro K11 hK11
  have k11:¬ (p.2 < 0∨4096 < p.2)→K11 none 0 0 0 w10:=by
   intro n2'
   refine hK11 _ _ _ _ _ fun _=>?_
   obtain ⟨d0,d1⟩:=blk2' (B5.ext e10)
   refine ⟨_,d0,named_spec _ ⟨_,rfl,qm (fun g=>?_) (fun g=>?_)⟩⟩
   ·refine bad 14 w10 (by decide) ?_ E10
    unfold tksE;rw [if_neg n1,if_neg n2',if_pos (by simpa using g)]
   have n3:¬ qjl p.1=false:=by simpa using g
   have hc8:=qxp 8 f
   have hc9:=qxp 9 f
   have co:∀ k:Int,1≤k→k≤11→couE k f=0∧couR k f=cntF k f:=fun k h1 h2=>by
    have he:couE k f=0:=by unfold couE;rw [if_neg (by rw [hck];simp),if_neg (by omega)]
    exact ⟨he,by unfold couR;rw [he];rfl⟩
   refine q05 8 f hs (hF.ext E10) (hf.ext E10) fun w20 e20=>⟨_,_,rfl,?_⟩
   have E20:=qb E10 e20
   refine q05 9 f hs (hF.ext E20) (hf.ext E20) fun w24 e24=>⟨_,_,rfl,?_⟩
   have E24:=qb E20 e24
   rw [(co 8 (by decide) (by decide)).2,(co 9 (by decide) (by decide)).2,qr (by omega)]
   refine qd (fun g4=>?_) (fun g4=>?_)
   ·refine bad 13 w24 (by decide) ?_ E24
    unfold tksE;rw [if_neg n1,if_neg n2',if_neg n3,if_pos (by omega)]
   have n4:¬ cntF 8 f + cntF 9 f≠0:=by omega
   have hE:tksE p f rs=if longT (cutT p f)=true then 4 else nrmE rs (cutT p f):=by unfold tksE;rw [if_neg n1,if_neg n2',if_neg n3,if_neg n4]
   refine qh fun b27 w28 hb27 B27 e28 s28=>?_
   have E28:=qb E24 e28
   obtain ⟨f0,f1⟩:=blk2' (((B5.ext e10).ext (qb e20 e24)).ext e28)
   refine ⟨_,f0,_,f1,?_⟩
   refine atoms_spec p fun b1 b2 w32 hb1 hb2 hz32 C1 C2 e32=>⟨_,_,_,rfl,fun base=>?_⟩
   have E32:=qb E28 e32
   have z28:=E28.size
   have z24:=E24.size
   have z32:=E32.size
   have hlenA:=ams_len f p false []
   have hlA:(amsF p f false []).length≤268439552:=by omega
   have hplo:plOk p:=⟨by omega,by
    have:qjl p.1=true:=by simpa using n3
    unfold qjl at this
    rw [Bool.or_eq_true,decide_eq_true_eq] at this
    exact this⟩
   have hgapA:=q42 (q43 (u:=false) (nm:=[]) hok hplo (.inl rfl))
   rw [qlc]
   have hf32:SlF (fun k=>(S k∧k < w.heap.size)∨k=b1∨k=b2) w32 a n f:=(((hf.imp (S':=fun k=>S k∧k < w.heap.size) fun k hk hl=>⟨hk,hl⟩).ext E32).imp fun k hk _=>.inl hk)
   refine qex qek qef (gf:=qbu) rfl (by kernel_rfl) (xs:=amsF p f false []) (E:=AmV) (Rd:=fun k=>(S k∧k < w.heap.size)∨k=b1∨k=b2)
    (fun v1 he=>atoms_iterO f p (by omega) hok (by omega) (by omega) b1 b2 v1 (fun k hk=>by have:=he.size;rcases hk with hk | hk | hk <;> omega) (C1.ext he) (C2.ext he) (hf32.ext he)) (fun y vs hE=>by obtain ⟨cs,rfl,_⟩:=hE;rfl) (by decide) (fun k hk=>by rcases hk with hk | hk | hk <;> omega)
    (fun k=>k=b27) (fun k hk=>⟨by omega,fun hh=>by rcases hh with hh | hh | hh <;> omega⟩)
    (fun pre S1 W=>BsSt W b27 (pre.foldl addB bs0) S1∧Ext w W) (fun _ _=>False) (fun _ _=>False)
    ?_ (fun _ _ _ h=>h.elim) (fun _ _ _ h=>h.elim) ⟨(builder_new B27).ext e32,E32⟩ ?_ ?_ (fun _ _ _ _ _ _ _ h=>h.elim) (fun _ _ _ _ _ _ _ h=>h.elim)
   ·rintro pre S1 W W' ⟨g1,g2⟩ hc
    exact ⟨g1.chg hc fun k hk hh=>hh.2 hk,qi g2 hc fun k hk=>by omega⟩
   ·rintro pre x vs S1 W l ⟨cs,rfl,hA⟩ hpre hl1 hl2 hl3 hS1 ⟨g1,g2⟩
    obtain ⟨k1,c1,m1,p1,l1,u1,nm1,rfl⟩:∃ (k1 c1 m1:Int) (p1:List UInt8) (l1:Int) (u1:Bool) (nm1:List UInt8),cs=[.int .i64 k1,.int .u8 c1,.int .i64 m1,.string ⟨⟨p1⟩⟩,.int .i64 l1,.bool u1,.string ⟨⟨nm1⟩⟩]:=by
     cases x with
     | ch c q u m=>obtain ⟨z,rfl⟩:=hA;exact ⟨_,_,_,_,_,_,_,rfl⟩
     | gap z q u m=>obtain ⟨c,rfl⟩:=hA;exact ⟨_,_,_,_,_,_,_,rfl⟩
     | brk v=>obtain ⟨c,z,q,u,m,rfl⟩:=hA;exact ⟨_,_,_,_,_,_,_,rfl⟩
    refine Eq.mpr (qk2 base _ _ _ _ _ _ _ _ _ _ _ _ _ _ _ _ _ _ _ _ _ _ _) ?_
    refine qx (by simp) (by intro u hu;simp only [List.mem_cons,List.not_mem_nil,or_false] at hu;rcases hu with rfl | rfl | rfl | rfl | rfl | rfl | rfl <;> rfl) fun bp W1 hbp Bp ep sp=>⟨ep,fun W2 hU=>?_⟩
    have zU:=hU.size
    have zp:=ep.size
    have hUc:Chg (fun k=>k=l) W1 W2:=⟨hU.os,hU.tape,hU.output,by omega,fun k _ hk=>hU.block k hk⟩
    obtain ⟨y0,y1,y2,y3,y4,y5,y6⟩:=blk7 (hUc.blk Bp (by omega))
    refine ⟨_,y0,_,y1,_,y2,_,y3,_,y4,_,y5,_,y6,?_⟩
    have g1':=(g1.ext ep).chg hUc fun k hk hh=>hl3 (hh ▸ hk)
    have g2':Ext w W2:=qi (qb g2 ep) hUc fun k hk=>by omega
    have hfl:=q5e pre bs0
    have hpl:pre.length + 1≤(amsF p f false []).length:=by have:=hpre.length_le;simpa using this
    have hb0:(lstB bs0).length=0:=rfl
    have hb1:(wrdB bs0).length=0:=rfl
    refine tkadd_spec x hA g1' (StOk.fold pre ok0) (by omega) (by omega) (fun m q u nm hx=>hgapA m q u nm (hpre.subset (by rw [hx];simp))) fun w' O' q4 q5 q6=>⟨rfl,?_⟩
    refine ⟨q5.mono fun k _ hk=>.inl hk,O',fun k hk=>⟨(q6 k hk).imp id (fun hh=>by omega),(q4.own hk).2⟩,?_,qi g2' q5 fun k hk=>by have:=(g1.own hk).1;omega⟩
    rw [List.foldl_append];exact q4
   ·rintro D S1 W hD1 hD2 hD3 hD4 ⟨g1,g2⟩
    have hfl:=q5e (amsF p f false []) bs0
    have hb0:(lstB bs0).length=0:=rfl
    refine q8e g1 (StOk.fold _ ok0) (by omega) fun oa oc w55 h55 hO c55=>⟨rfl,?_⟩
    have hcut:shut ((amsF p f false []).foldl addB bs0)=cutT p f:=fold_tok _
    rw [hcut] at h55
    have hclen:(cutT p f).length≤268439552:=by rw [← hcut,qgq];omega
    have E55:Ext w w55:=qi g2 c55 fun k hk=>by have:=(g1.own hk).1;omega
    have hD55:w55.heap[D]? = some (.deferred (some [])):=(c55.block D hD2 hD3).trans hD4
    have lD:=(Array.getElem?_eq_some_iff.1 hD55).1
    have fin:∀ (v:World) (K:World→Prop),v.heap[D]? = some (.deferred (some []))→Ext w v→(∀ v',Chg (fun k=>k=D) v v'→Ext w v'→K v')→retD [{ target:=.collected D,args:=#[] }] v K:=by
     intro v K hv he hK
     have cD:Chg (fun k=>k=D) v (v.putObj D (.deferred none)):=Chg.put _ _ _ rfl
     exact ⟨D,rfl,hv,hK _ cD (qi he cD fun k hk=>by omega)⟩
    have c0:=h55.cells.1
    intro K56 hK56
    have k56:∀ w57,Ext w55 w57→longT (cutT p f)=false→K56 w57:=by
     intro w57 e57 hlg
     refine hK56 _ fun _=>?_
     have h57:=h55.ext e57
     refine ⟨_,_,_,h57.cells.1,?_⟩
     rw [if_neg (by rw [hlg];decide)] at hE
     have E57:=qb E55 e57
     have hraw:=qt9 _ _ false false (Nat.le_refl _) (q43 (u:=false) (nm:=[]) hok hplo (.inl rfl))
     have hR57:=((hR.imp (S':=fun k=>S2 k∧k < w.heap.size) fun k hk hl=>⟨hk,hl⟩).ext E57)
     refine qy3 rs (cutT p f) hsm hR57 h57.out (fun k hk hh=>by have:=h57.bkO hh;omega) (fun x hx=>⟨(hraw x hx).g0,(hraw x hx).g1⟩) (by omega) fun w60 c60 ho=>?_
     have hD60:w60.heap[D]? = some (.deferred (some [])):=by
      rw [c60.block D (by have:=e57.size;omega) (fun hh=>hD3 (hO D (.inr hh))),e57.block D lD];exact hD55
     have E60:Ext w w60:=qi E57 c60 fun k hk=>by have:=h57.bkO hk;omega
     by_cases hnz:nrmE rs (cutT p f)=0
     ·rw [if_pos hnz]
      refine ⟨_,_,_,_,rfl,fin w60 _ hD60 E60 fun v' cv ev=>?_⟩
      have hres:tksR p f rs=(cutT p f).map (nrmT rs):=by unfold tksR;rw [hE,if_neg (fun hh=>hh hnz)]
      have ho':=ho hnz
      have hlen:(cutT p f).length=(tksR p f rs).length:=by rw [hres,List.length_map]
      rw [← hE]
      rw [hres] at h
      rw [← hres,hlen] at ho'
      rw [hlen]
      rw [← hres] at h
      exact h _ _ _ v' rfl (Owns.weak (ho'.chg cv fun k hk hh=>hD3 (hh ▸ hO k (.inr hk))) (by omega)) ev
     ·rw [if_neg hnz]
      refine ⟨_,_,_,_,rfl,fin w60 _ hD60 E60 fun v' cv ev=>bad _ v' hnz hE ev⟩
    refine ⟨_,_,_,c0,qd (fun g5=>?_) (fun g5=>⟨_,_,_,c0,?_⟩)⟩
    ·refine fin w55 _ hD55 E55 fun v' cv ev=>bad 4 v' (by decide) ?_ ev
     rw [hE,if_pos]
     unfold longT;rw [decide_eq_true (show 1024 < (cutT p f).length by omega)];rfl
    ·refine q3d (cutT p f) (fun x=>decide (64 < x.t.length)) qco (by kernel_rfl) (fun x _ hx=>q8x x hx) (OwnL.out h55.out) (by omega) fun w68 e68=>⟨_,rfl,qm (fun g6=>?_) (fun g6=>?_)⟩
     ·refine fin w68 _ ((e68.block D lD).trans hD55) (qb E55 e68) fun v' cv ev=>bad 4 v' (by decide) ?_ ev
      rw [hE,if_pos]
      unfold longT;rw [g6,Bool.or_true]
     ·refine k56 w68 e68 ?_
      unfold longT;rw [g6,decide_eq_false (by omega)];rfl
  obtain ⟨d0,d1⟩:=blk2' (B5.ext e10)
  refine ⟨_,d1,qd (fun g=>?_) (fun g=>⟨_,d1,qd (fun g2=>?_) (fun g2=>k11 (by omega))⟩)⟩
  ·refine bad 2 w10 (by decide) ?_ E10
   unfold tksE;rw [if_neg n1,if_pos (.inl g)]
  ·refine bad 2 w10 (by decide) ?_ E10
   unfold tksE;rw [if_neg n1,if_pos (.inr g2)]
 refine qci f hs (hf.ext e6) (hF.ext e6) fun w75 e75=>⟨_,rfl,qd (fun g=>?_) (fun g=>?_)⟩
 ·refine bad 1 w75 (by decide) ?_ (qb e6 e75)
  unfold tksE;rw [if_pos (.inl g)]
 ·refine qvg rs hsm ((hR.ext e6).ext e75) fun w78 e78=>⟨_,rfl,qd (fun g2=>?_) (fun g2=>?_)⟩
  ·refine bad 1 w78 (by decide) ?_ (qb (qb e6 e75) e78)
   unfold tksE;rw [if_pos (.inr g2)]
  ·exact k7 w78 (Decidable.not_not.1 g) (Decidable.not_not.1 g2) (qb e75 e78)
end
section
variable {R:Ending→World→Prop} {w:World}
theorem tok_get {S:Nat→Prop} {a:Option Addr} {n i:Nat} {l:List Tok} {x:Tok} (hR:RowAt encTk S w a n l) (hi:l[i]? = some x) :
  ∃ q:Addr,(∀ K:Addr→Prop,K q→idx a n (i:Int) 6 K)∧w.cell? (q.add 0)=some (.string ⟨⟨x.t⟩⟩)∧w.cell? (q.add 1)=some (.string ⟨⟨x.m⟩⟩)∧w.cell? (q.add 2)=some (.string ⟨⟨x.p.1⟩⟩)∧w.cell? (q.add 3)=some (.int .i64 x.p.2)∧w.cell? (q.add 4)=some (.int .i64 x.g)∧w.cell? (q.add 5)=some (.string ⟨⟨x.a⟩⟩):=by
 obtain ⟨b,o,hq,_,_,hc⟩:=hR.get hi
 refine ⟨⟨b,o,none⟩,hq,?_⟩
 simp only [qg]
 exact ⟨hc 0 _ rfl,hc 1 _ rfl,hc 2 _ rfl,hc 3 _ rfl,hc 4 _ rfl,hc 5 _ rfl⟩
theorem qdh {S:Nat→Prop} {w:World} {a:Option Addr} {n:Nat} {L:List (List UInt8)} (h:RowAt Sh.encStr S w a n L) {k:Nat} (hk:k < L.length) :
  ∃ q:Addr,(∀ K:Addr→Prop,K q→idx a n (k:Int) 1 K)∧w.cell? q=some (.string ⟨⟨L[k]⟩⟩):=by
 obtain ⟨bb,o,hq,_,_,hc⟩:=h.get (i:=k) (x:=L[k]) (List.getElem?_eq_getElem hk)
 exact ⟨⟨bb,o,none⟩,hq,hc 0 _ rfl⟩
theorem qvc {S S':Nat→Prop} {a a':Option Addr} {n n' c c':Nat} (L M:List (List UInt8)) (hL:RowAt Sh.encStr S w a n L) (hM:RowAt Sh.encStr S' w a' n' M) (hb:L.length≤1000000000) (h:∀ w',Ext w w'→R (.returned (.bool (decide (L=M)))) w') :
  Calls prog qbn ⟨[.slice a n c,.slice a' n' c']⟩ w R:=by
 apply qep
 have hn:n=L.length:=hL.1
 have hn':n'=M.length:=hM.1
 refine qd (fun g=>?_) (fun g=>?_)
 ·have:decide (L=M)=false:=decide_eq_false (fun e=>g (by rw [hn,hn',e]))
  rw [← this];exact h w (Below.refl _ _)
 refine ⟨fun t W m=>∃ k:Nat,t=k∧k≤n∧m=n - k∧L.take k=M.take k∧Ext w W,⟨_,0,rfl,by omega,rfl,rfl,Below.refl _ _⟩,?_⟩
 rintro _ W m ⟨k,rfl,hk,rfl,heq,he⟩ _
 have hnn:L.length=M.length:=by omega
 refine qd (fun hlt=>?_) (fun hge=>?_)
 ·have hkL:k < L.length:=by omega
  have hkM:k < M.length:=by omega
  unfold drw
  have Ed:=qb he (qw W)
  obtain ⟨q,hq,c0⟩:=qdh (hL.ext Ed) hkL
  obtain ⟨q',hq',d0⟩:=qdh (hM.ext Ed) hkM
  refine hq _ ⟨_,c0,hq' _ ⟨_,d0,qd (fun g2=>?_) (fun g2=>?_)⟩⟩
  ·have:decide (L=M)=false:=decide_eq_false (fun e=>g2 (by subst e;rfl))
   rw [← this];exact h _ Ed
  ·refine ⟨n - (k + 1),by omega,k + 1,by rw [ql (by omega)],by omega,rfl,?_,Ed⟩
   rw [List.take_succ_eq_append_getElem hkL,List.take_succ_eq_append_getElem hkM,heq,Classical.not_not.1 g2]
 ·have hkn:k=L.length:=by omega
  have:decide (L=M)=true:=decide_eq_true (by
   rw [List.take_of_length_le (by omega),List.take_of_length_le (by omega)] at heq;exact heq)
  rw [← this];exact h W he
def eqTk (x y:Tok):Bool:=decide (x.t=y.t)&&(decide (x.m=y.m)&&((decide (x.p.1=y.p.1)&&(decide (x.p.2=y.p.2)&&true))&&(decide (x.g=y.g)&&(decide (x.a=y.a)&&true))))
theorem eqTk_iff (x y:Tok):eqTk x y=true↔x=y:=by
 obtain ⟨t,m,⟨p,q⟩,g,a⟩:=x
 obtain ⟨t',m',⟨p',q'⟩,g',a'⟩:=y
 simp [eqTk,and_assoc]
instance (x y:Tok):Decidable (x=y):=decidable_of_iff _ (eqTk_iff x y)
theorem rules_none (S:Nat→Prop) (v:World):RowAt encRw S v none 0 []:=RowAt.nil none
theorem smallR_nil:qx3 []:=fun x hx=>by cases hx
end
def WtC (S:Nat→Prop) (w:World):List Wt→List Value→Prop
 | [],vs=>vs=[]
 | x :: l,vs=>∃ a c vs',vs=.string ⟨⟨x.1⟩⟩ :: .slice a x.2.len c :: vs'∧SlF S w a x.2.len x.2∧WtC S w l vs'
def SlW (S:Nat→Prop) (w:World) (a:Option Addr) (n:Nat) (L:List Wt):Prop:=n=L.length∧∃ us,At S w a us∧WtC S w L us
section
variable {S S':Nat→Prop} {w w':World}
theorem WtC.keep (hs:∀ k,S k→k < w.heap.size→S' k∧w'.heap[k]? = w.heap[k]?) (hz:w.heap.size≤w'.heap.size):∀ {L:List Wt} {vs:List Value},WtC S w L vs→WtC S' w' L vs
 | [],_,h=>h
 | _ :: _,_,⟨a,c,vs',h1,h2,h3⟩=>⟨a,c,vs',h1,h2.keep hs hz,WtC.keep hs hz h3⟩
theorem SlW.keep {a:Option Addr} {n:Nat} {L:List Wt} (h:SlW S w a n L) (hs:∀ k,S k→k < w.heap.size→S' k∧w'.heap[k]? = w.heap[k]?) (hz:w.heap.size≤w'.heap.size):SlW S' w' a n L:=by
 obtain ⟨h1,us,h2,h3⟩:=h
 exact ⟨h1,us,h2.keep hs hz,h3.keep hs hz⟩
theorem SlW.ext {a:Option Addr} {n:Nat} {L:List Wt} (h:SlW S w a n L) (he:Ext w w'):SlW S w' a n L:=h.keep (fun k hk hl=>⟨hk,he.block k hl⟩) he.size
theorem WtC.get {x:Wt}:∀ {L:List Wt} {us:List Value} {i:Nat},WtC S w L us→L[i]? = some x→∃ a c,us[2 * i]? = some (.string ⟨⟨x.1⟩⟩)∧us[2 * i + 1]? = some (.slice a x.2.len c)∧SlF S w a x.2.len x.2
 | [],_,i,_,h=>by simp at h
 | y :: L,us,0,⟨a,c,vs',h1,h2,h3⟩,h=>by
  simp only [List.getElem?_cons_zero,Option.some.injEq] at h
  subst h
  exact ⟨a,c,by rw [h1];rfl,by rw [h1];rfl,h2⟩
 | y :: L,us,i + 1,⟨a,c,vs',h1,h2,h3⟩,h=>by
  obtain ⟨a',c',e1,e2,e3⟩:=WtC.get (i:=i) h3 (by simpa using h)
  exact ⟨a',c',by rw [h1,show 2 * (i + 1)=2 * i + 1 + 1 by omega];exact e1,by rw [h1,show 2 * (i + 1) + 1=2 * i + 1 + 1 + 1 by omega];exact e2,e3⟩
theorem SlW.get {a:Option Addr} {n:Nat} {L:List Wt} (h:SlW S w a n L) {i:Nat} {x:Wt} (hi:L[i]? = some x) :
  ∃ q a' c',(∀ K:Addr→Prop,K q→idx a n (i:Int) 2 K)∧w.cell? (q.add 0)=some (.string ⟨⟨x.1⟩⟩)∧w.cell? (q.add 1)=some (.slice a' x.2.len c')∧SlF S w a' x.2.len x.2:=by
 obtain ⟨h1,us,h2,h3⟩:=h
 obtain ⟨a',c',e1,e2,e3⟩:=h3.get hi
 rcases h2 with h2 | ⟨b,o,rfl,hS,hb,hc⟩
 ·rw [h2] at e1;simp at e1
 ·refine ⟨⟨b,o + i * 2,none⟩,a',c',fun K hK=>⟨by omega,?_,?_⟩,?_,?_,e3⟩
  ·have:=(List.getElem?_eq_some_iff.1 hi).1
   omega
  ·show K _
   rw [qg,Int.toNat_natCast];exact hK
  ·rw [qg,← hc _ _ e1];congr 2;omega
  ·rw [qg,← hc _ _ e2];congr 2;omega
theorem q39 {b:Nat} {T:TypeId} {x:Wt} {a:Option Addr} {c:Nat} (hb:Blk w b [.string ⟨⟨x.1⟩⟩,.slice a x.2.len c] T) (hf:SlF S w a x.2.len x.2):SlW (fun k=>S k∨k=b) w (some ⟨b,0,none⟩) 1 [x] :=
 ⟨rfl,_,.inr ⟨b,0,rfl,.inr rfl,hb.lt,fun j v hj=>by rw [Nat.zero_add,hb.cell];exact hj⟩,a,c,[],rfl,hf.imp fun k hk _=>.inl hk,rfl⟩
theorem one2 {s:List UInt8} {a:Option Addr} {n c:Nat}:∀ u∈([.string ⟨⟨s⟩⟩,.slice a n c]:List Value),u.oneCell'=true:=by
 intro u hu;simp only [List.mem_cons,List.not_mem_nil,or_false] at hu;rcases hu with rfl | rfl <;> rfl
theorem one4w {k:Int} {t:List UInt8} {m:Int} {a:Option Addr} {n c:Nat}:∀ u∈([.int .i64 k,.string ⟨⟨t⟩⟩,.int .i64 m,.slice a n c]:List Value),u.oneCell'=true:=by
 intro u hu;simp only [List.mem_cons,List.not_mem_nil,or_false] at hu;rcases hu with rfl | rfl | rfl | rfl <;> rfl
theorem blk2w {b:Nat} {v0 v1:Value} {T:TypeId} (h:Blk w b [v0,v1] T):w.cell? ((⟨b,0,none⟩:Addr).add 0)=some v0∧w.cell? ((⟨b,0,none⟩:Addr).add 1)=some v1:=by
 simp only [qg,h.cell];exact ⟨rfl,rfl⟩
end
theorem qhk {T:Nat→Prop} (f:Fo) (hs:small f) {a:Option Addr} {n c:Nat} (b:Nat) (w:World) (hTl:∀ k,T k→k < w.heap.size) (hb:Blk w b [.slice a n c] 43) (hf:SlF T w a n f) (hbT:T b) :
  IterO prog qak [.pointer (some ⟨b,0,none⟩)] (secsI f 0) (fun x vs=>vs=[.string ⟨⟨x.1⟩⟩,.int .i64 (x.2:Int)]) T w:=by
 intro yf ya yb S0 J Jx R hS hJ hJx hbody h0 hend hstop
 apply qmz
 have hn:=hf.1
 have hfl:=Fo.len_le_size f
 refine dr_ok ⟨a,n,c,by rw [hb.cell];rfl,?_⟩
 refine ⟨fun i W m=>∃ (p r:Fo) (S:Nat→Prop),f=p.app r∧i=p.len∧m=r.len∧J (secsI p 0) S W∧w.heap.size≤W.heap.size∧(∀ k,T k→W.heap[k]? = w.heap[k]?)∧(∀ k,S k→k < W.heap.size∧¬ T k),
  ⟨_,.nil,f,S0,rfl,rfl,rfl,h0,Nat.le_refl _,fun _ _=>rfl,hS⟩,?_⟩
 rintro _ W m ⟨p,r,S,hpr,rfl,rfl,hj,hW,hT,hSW⟩ _
 refine qd (fun hlt=>?_) (fun hge=>?_)
 ·obtain ⟨k,t,mm,ps,r,rfl⟩:=Fo.next hpr (by omega)
  have hsl:=Fo.sub_len hpr
  have e1:f=(p.app (.one k t mm ps)).app r:=by rw [Fo.app_one_app];exact hpr
  have i1:i64.wrap ((p.len:Int) + 1)=((p.app (.one k t mm ps)).len:Int):=by rw [ql (by unfold small at hs;omega)];simp [Fo.one]
  have hsx:secsI (p.app (.one k t mm ps)) 0=secsI p 0++if k=4 then [(t,p.len)] else []:=by rw [qym];unfold Fo.one;rw [secsI,secsI,Nat.zero_add,List.append_nil]
  obtain ⟨q,a',c',hq,hSq,hql,hN⟩:=(hf.keep (S':=T) (w':=W) (fun k hk _=>⟨hk,hT k hk⟩) hW).get hpr
  refine hq _ ⟨k,hN.kind,t,hN.text,mm,hN.num,a',ps.len,c',hN.parts,?_⟩
  refine qx rfl one4w fun bx w17 hbx Bx e17 s17=>?_
  obtain ⟨x0,x1,_⟩:=blk4 Bx
  have z17:=e17.size
  have lT:∀ k,T k→k < W.heap.size:=fun k hk=>by have:=hTl k hk;omega
  have hT17:∀ k,T k→w17.heap[k]? = w.heap[k]?:=fun k hk=>(e17.block k (lT k hk)).trans (hT k hk)
  have hj17:=hJ _ _ _ _ hj (Chg.of_ext e17 (S:=fun k=>w.heap.size≤k∧¬ S k))
  have hS17:∀ k,S k→k < w17.heap.size∧¬ T k:=fun k hk=>⟨by have:=(hSW k hk).1;omega,(hSW k hk).2⟩
  refine ⟨_,x0,qd (fun g=>⟨_,x1,?_⟩) (fun g=>?_)⟩
  ·rw [if_pos g] at hsx
   have hpx:secsI p 0++[(t,p.len)] <+: secsI f 0:=by rw [e1,qym,← hsx];exact List.prefix_append _ _
   refine qba (hbody _ (t,p.len) _ S w17 rfl hpx (by omega) hS17 hj17) ?_
   rintro e w21 ⟨hc2,S3,hS3,hres⟩
   have z21:=hc2.size
   have hT21:∀ k,T k→w21.heap[k]? = w.heap[k]?:=fun k hk=>(hc2.block k (by have:=lT k hk;omega) fun hh=>(hSW k hh).2 hk).trans (hT17 k hk)
   have hS3':∀ k,S3 k→k < w21.heap.size∧¬ T k:=fun k hk=>⟨(hS3 k hk).2,fun ht=>(hS3 k hk).1.elim (fun hh=>(hSW k hh).2 ht) fun hh=>by have:=lT k ht;omega⟩
   rcases hres with ⟨rfl,hj3⟩ | ⟨rfl,hjx⟩
   ·refine ⟨true,rfl,?_⟩
    simp only [Bool.not_true,br_f]
    exact ⟨r.len,by simp,p.app (.one k t mm ps),r,S3,e1,i1,rfl,by rw [hsx];exact hj3,by omega,hT21,hS3'⟩
   ·refine ⟨false,rfl,?_⟩
    simp only [Bool.not_false,br_t]
    exact hstop S3 _ (by omega) hjx
  ·rw [if_neg g,List.append_nil] at hsx
   exact ⟨r.len,by simp,p.app (.one k t mm ps),r,S,e1,i1,rfl,by rw [hsx];exact hj17,by omega,hT17,hS17⟩
 ·obtain ⟨rfl,rfl⟩:=Fo.last hpr (by omega)
  exact hend S W hW hj
section
variable {R:Ending→World→Prop} {w:World}
theorem qi0 {a:Option Addr} {n c:Nat} (h:∀ b w',Blk w' b [.slice a n c] 43→Ext w w'→b=w.heap.size→w'.heap.size=b + 1→R (.returned (.func (.func qak) ⟨[]⟩ ⟨[.pointer (some ⟨b,0,none⟩)]⟩)) w'):Calls prog qg3 ⟨[.slice a n c]⟩ w R:=by
 apply qru
 exact qh fun b w3 hb B3 e3 s3=>h b w3 B3 e3 hb s3
theorem qqh:SlT prog 31 9 1 16 (.string ⟨⟨[]⟩⟩):=⟨by kernel_rfl,by kernel_rfl,rfl,by decide⟩
theorem qt3 {S:Nat→Prop} {a:Option Addr} {n c:Nat} (f:Fo) (hs:f.size≤1000000) (hf0:SlF S w a n f) (h:∀ a' n' c' w',OwnL Sh.encStr w' w.heap.size 9 a' n' c' (secs f)→Ext w w'→R (.returned (.slice a' n' c')) w') :
  Calls prog qlw ⟨[.slice a n c]⟩ w R:=by
 apply qzx
 have hf:SlF (fun k=>S k∧k < w.heap.size) w a n f:=hf0.imp fun k hk hl=>⟨hk,hl⟩
 have hsm:small f:=by unfold small;omega
 refine qh fun b2 w3 hb2 B2 e3 s3=>?_
 refine qi0 fun bs w5 Bs e5 hbs s5=>⟨_,_,_,rfl,fun base=>?_⟩
 have E5:=qb e3 e5
 have z5:=E5.size
 have B25:=B2.ext e5
 have hf5:=hf.ext E5
 rw [qrr]
 refine qex qgc qf9 (gf:=qak) rfl (by kernel_rfl) (xs:=secsI f 0) (E:=fun x vs=>vs=[.string ⟨⟨x.1⟩⟩,.int .i64 (x.2:Int)]) (Rd:=fun k=>(S k∧k < w.heap.size)∨k=bs)
  (fun v1 he=>qhk f hsm bs v1 (fun k hk=>by have:=he.size;omega) (Bs.ext he) ((hf5.ext he).imp fun k hk _=>.inl hk) (.inr rfl)) (fun y vs hE=>by rw [hE];rfl) (by decide) (fun k hk=>by omega) (fun k=>k=b2) (fun k hk=>by omega)
  (fun pre S1 W=>∃ (oa:Option Addr) (on oc:Nat),Blk W b2 [.slice oa on oc] 31∧on=pre.length∧OwnL Sh.encStr W w5.heap.size 9 oa on oc (pre.map (·.1))∧(∀ k,S1 k↔k=b2∨bk oa k)∧Ext w W) (fun _ _=>False) (fun _ _=>False)
  ?_ (fun _ _ _ h=>h.elim) (fun _ _ _ h=>h.elim) ⟨none,0,0,B25,rfl,Owns.nil _ _ _ _,fun k=>by simp [bk],E5⟩ ?_ ?_ (fun _ _ _ _ _ _ _ h=>h.elim) (fun _ _ _ _ _ _ _ h=>h.elim)
 ·rintro pre S1 W W' ⟨oa,on,oc,g1,g2,g3,g5,g6⟩ hc
  exact ⟨oa,on,oc,hc.blk g1 (fun hh=>by omega),g2,g3.chg hc fun k hk hh=>hh.2 ((g5 k).2 (.inr hk)),g5,qi g6 hc fun k hk=>by omega⟩
 ·rintro pre x vs S1 W l rfl hpre hl1 hl2 hl3 hS1 ⟨oa,on,oc,g1,g2,g3,g5,g6⟩
  refine Eq.mpr (qrm base _ _ _ _ _ _ _ _ _ _ _ _ _ _) ?_
  refine ⟨Below.refl _ _,fun W2 hU=>?_⟩
  have zU:=hU.size
  have hpl:pre.length + 1≤f.size:=by
   have h1:=hpre.length_le
   have h2:=congrArg List.length (qdk f 0)
   have h3:=qq0 f
   have h4:=Fo.len_le_size f
   simp at h1 h2
   omega
  have hUc:Chg (fun k=>k=l) W W2:=⟨hU.os,hU.tape,hU.output,by omega,fun k _ hk=>hU.block k hk⟩
  have nl:¬ bk oa l:=fun hh=>hl3 ((g5 l).2 (.inr hh))
  have nb:b2≠l:=fun hh=>hl3 ((g5 l).2 (.inl hh.symm))
  have h1:=hUc.blk g1 nb
  have h2:=g3.chg hUc fun k hk hh=>nl (hh ▸ hk)
  have E2:Ext w W2:=qi g6 hUc fun k hk=>by omega
  refine dr_ok ⟨oa,on,oc,by rw [h1.cell];rfl,?_⟩
  refine qh fun b23 w24 hb23 B23 e24 s24=>?_
  have B23':Blk w24 b23 (Sh.encStr.enc x.1) 9:=B23
  have z24:=e24.size
  have n2:∀ k,bk oa k→¬ k=b2:=fun k hk hh=>by have:=(h2.bk hk).1;omega
  refine OwnL.app1 (P:=prog) qqh (Owns.ext h2 e24) (by omega) B23' (by omega) (by omega) fun a25 c25 w26 ho26 hc26 hn26=>dr_ok ?_
  have B26:Blk w26 b2 [.slice oa on oc] 31:=hc26.blk (h1.ext e24) (fun hh=>n2 _ hh rfl)
  have n26:∀ k,bk a25 k→¬ k=b2:=fun k hk hh=>by
   rcases hn26 k hk with h3 | h3
   ·exact n2 k h3 hh
   ·have:=B26.lt;have:=h1.lt;omega
  refine qn B26 rfl fun w27 q1 q2 q3=>?_
  have c24:Chg (fun k=>k=b2∨bk oa k) W2 w27:=((Chg.of_ext e24).trans (hc26.mono fun k _ hk=>.inr hk)).trans (q2.mono fun k _ hk=>.inl hk)
  refine ⟨c24.mono fun k _ hk=>.inl ((g5 k).2 hk),fun k=>k=b2∨bk a25 k,fun k hk=>?_,a25,on + 1,c25,q1,by simp [g2],?_,fun k=>Iff.rfl,?_⟩
  ·rcases hk with hk | hk
   ·exact ⟨.inl ((g5 k).2 (.inl hk)),by rw [hk];exact q1.lt⟩
   ·refine ⟨?_,by have:=(ho26.bk hk).2;omega⟩
    rcases hn26 k hk with h3 | h3
    ·exact .inl ((g5 k).2 (.inr h3))
    ·right;omega
  ·rw [List.map_append,List.map_singleton]
   exact ho26.chg q2 n26
  ·exact qi E2 c24 fun k hk=>by
    rcases hk with hk | hk
    ·omega
    ·have:=(h2.bk hk).1;omega
 ·rintro D S1 W hD1 hD2 hD3 hD4 ⟨oa,on,oc,g1,g2,g3,g5,g6⟩
  refine ⟨oa,on,oc,by rw [g1.cell];rfl,qa4 hD4 ?_⟩
  have hDb:¬ bk oa D:=fun hh=>hD3 ((g5 D).2 (.inr hh))
  have hcp:Chg (fun k=>k=D) W (W.putObj D (.deferred none)):=Chg.put W D _ rfl
  have ho:=g3.chg hcp fun k hk hh=>hDb (hh ▸ hk)
  rw [qdk] at ho
  exact h oa on oc _ (Owns.weak ho z5) (qbk g6 (by omega) _)
theorem q73 {S:Nat→Prop} {a:Option Addr} {n c:Nat} (f:Fo) (hs:f.size≤1000000) (hf0:SlF S w a n f) (h:∀ a' n' c' w',OwnL Sh.encStr w' w.heap.size 9 a' n' c' (secs f)→Ext w w'→R (.returned (.slice a' n' c')) w') :
  Calls prog qs1 ⟨[.slice a n c]⟩ w R:=by
 apply q5q
 have hn:=hf0.1
 have hfl:=Fo.len_le_size f
 refine qh fun b2 w3 hb2 B2 e3 s3=>?_
 refine ⟨fun oa on oc i W m=>∃ (p r:Fo),f=p.app r∧i=p.len∧m=r.len∧on≤p.len∧OwnL Sh.encStr W w.heap.size 9 oa on oc (secs p)∧Ext w W,⟨_,.nil,f,rfl,rfl,rfl,Nat.le_refl _,Owns.made B2 (by omega),e3⟩,?_⟩
 rintro oa on oc _ W m ⟨p,r,hpr,rfl,rfl,hon,hO,he⟩ _
 refine qd (fun hlt=>?_) (fun hge=>?_)
 ·obtain ⟨k,t,mm,ps,r,rfl⟩:=Fo.next hpr (by omega)
  have hsl:=Fo.sub_len hpr
  have e1:f=(p.app (.one k t mm ps)).app r:=by rw [Fo.app_one_app];exact hpr
  have i1:i64.wrap ((p.len:Int) + 1)=((p.app (.one k t mm ps)).len:Int):=by rw [ql (by omega)];simp [Fo.one]
  have hsx:secs (p.app (.one k t mm ps))=secs p++if k=4 then [t] else []:=by rw [qeu];unfold Fo.one;rw [secs,secs,List.append_nil]
  have hl1:(p.app (.one k t mm ps)).len=p.len + 1:=by simp [Fo.one]
  obtain ⟨q,a',c',hq,hSq,hql,hN⟩:=(hf0.ext he).get hpr
  refine hq _ ⟨k,hN.kind,qd (fun g=>hq _ ⟨t,hN.text,?_⟩) (fun g=>?_)⟩
  ·rw [if_pos g] at hsx
   refine qh fun b14 w15 hb14 B14 e15 s15=>?_
   have B14':Blk w15 b14 (Sh.encStr.enc t) 9:=B14
   have E15:=qb he e15
   refine OwnL.app1 (P:=prog) qqh (Owns.ext hO e15) (by have:=E15.size;omega) B14' (by omega) (by omega) fun a16 c16 w17 ho hc hn2=>?_
   exact ⟨r.len,by simp,p.app (.one k t mm ps),r,e1,i1,rfl,by omega,by rw [hsx];exact ho,qi E15 hc fun j hj=>((Owns.ext hO e15).bk hj).1⟩
  ·rw [if_neg g,List.append_nil] at hsx
   exact ⟨r.len,by simp,p.app (.one k t mm ps),r,e1,i1,rfl,by omega,by rw [hsx];exact hO,he⟩
 ·obtain ⟨rfl,rfl⟩:=Fo.last hpr (by omega)
  exact h oa on oc W hO he
def q7w (L:List (List UInt8)) (s:List UInt8):Int:=if s∈L then (L.idxOf s:Int) else -1
theorem place_spec {S:Nat→Prop} {a:Option Addr} {n c:Nat} (L:List (List UInt8)) (s:List UInt8) (hL:RowAt Sh.encStr S w a n L) (hn:n≤1000000000) (h:R (.returned (.int .i64 (q7w L s))) w):Calls prog qs0 ⟨[.slice a n c,.string ⟨⟨s⟩⟩]⟩ w R:=by
 apply q5p
 have hln:=hL.1
 refine ⟨fun i W m=>∃ k:Nat,i=k∧k≤n∧m=n - k∧s∉L.take k∧W=w,⟨_,0,rfl,by omega,rfl,by simp,rfl⟩,?_⟩
 rintro _ W m ⟨k,rfl,hk,rfl,hz,rfl⟩ _
 refine qd (fun hlt=>?_) (fun hge=>?_)
 ·have hkl:k < L.length:=by omega
  obtain ⟨q,hq,c0⟩:=qdh hL hkl
  have htk:L.take (k + 1)=L.take k++[L[k]]:=List.take_succ_eq_append_getElem hkl
  refine hq _ ⟨_,c0,qd (fun g=>?_) (fun g=>?_)⟩
  ·have hm:s∈L:=by rw [← g];exact List.getElem_mem hkl
   have hi:L.idxOf s=k:=by
    have h1:L=L.take k++L.drop k:=(List.take_append_drop k L).symm
    have h2:L.drop k=s :: L.drop (k + 1):=by rw [List.drop_eq_getElem_cons hkl,g]
    rw [h1,List.idxOf_append,if_neg hz,h2,List.idxOf_cons_self,List.length_take]
    omega
   unfold q7w at h
   rw [if_pos hm,hi] at h
   exact h
  ·refine ⟨n - (k + 1),by omega,k + 1,by rw [ql (by omega)],by omega,rfl,?_,rfl⟩
   rw [htk,List.mem_append,not_or]
   exact ⟨hz,by simpa using fun hh=>g hh.symm⟩
 ·rw [List.take_of_length_le (by omega)] at hz
  unfold q7w at h
  rw [if_neg hz] at h
  exact h
theorem q9l (s:List UInt8) (hs:s.length≤4611686018427387904) (h:R (.returned (.bool (spc s))) w):Calls prog qnt ⟨[.string ⟨⟨s⟩⟩]⟩ w R:=by
 apply q17
 refine ⟨fun i W m=>∃ k:Nat,i=k∧k≤s.length∧m=s.length - k∧spc (s.take k)=true∧W=w,⟨_,0,rfl,by omega,rfl,by simp [spc],rfl⟩,?_⟩
 rintro _ W m ⟨k,rfl,hk,rfl,hz,rfl⟩ _
 refine qd (fun hlt=>?_) (fun hge=>?_)
 ·have hkl:k < s.length:=by omega
  have htk:s.take (k + 1)=s.take k++[s[k]]:=List.take_succ_eq_append_getElem hkl
  refine qb4 hkl (qd (fun g=>?_) (fun g=>?_))
  ·have:spc s=false:=by
    unfold spc
    rw [List.all_eq_false]
    exact ⟨s[k],List.getElem_mem hkl,by simpa using fun hh=>g (by rw [hh];rfl)⟩
   rw [this] at h;exact h
  ·refine ⟨s.length - (k + 1),by omega,k + 1,by rw [ql (by omega)],by omega,rfl,?_,rfl⟩
   have h32:s[k]=32:=by
    apply UInt8.toNat_inj.1
    have:(s[k].toNat:Int)=32:=Decidable.not_not.1 g
    have h2:(32:UInt8).toNat=32:=rfl
    omega
   unfold spc at hz ⊢
   rw [htk,List.all_append,hz,h32];rfl
 ·rw [List.take_of_length_le (by omega)] at hz
  rw [hz] at h;exact h
end
end Go.Proofs
