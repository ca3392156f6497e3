/- A part of the proof. -/
import Derived.Test.YtkecgnlelgdndaaGreatDoorLawC
import Derived.Lib.Repeat
import Derived.Lib.AppendZerosOnto
import Derived.Maps.Own
import Derived.DeepKeys4
import Derived.Lib.AtoiAll
import Derived.Lib.ItoaNum
import Derived.Lib.IndexAny
import Derived.Lib.IndexMore
import Derived.Lib.Strings
set_option linter.all false
set_option maxRecDepth 20000
namespace Go.Proofs
open Go Go.Sh List
theorem q7k {s t:LU} {i:Nat} (h:i < s.length):kA (s++t) i=kA s i:=by simp [kA,List.getD,List.getElem?_append_left h]
theorem q7j (s t:LU) (i:Nat):kA (s++t) (s.length + i)=kA t i:=by simp [kA,List.getD,List.getElem?_append_right]
theorem q6x {s t:LU}:∀ {i:Nat},i < s.length→rtB (s++t) i=rtB s i
 | 0,_=>rfl
 | i + 1,h=>by simp only [rtB,q7k h,q7k (show i < s.length by omega),q6x (show i < s.length by omega)]
theorem rtB_right (s t:LU):∀ i:Nat,rtB t i=true→rtB (s++t) (s.length + i)=true
 | 0,h=>by simp [rtB] at h
 | i + 1,h=>by
  have e:s.length + (i + 1)=(s.length + i) + 1:=by omega
  rw [rtB] at h;rw [e,rtB,← e,q7j,q7j];simp only [Bool.and_eq_true,Bool.or_eq_true] at h ⊢;exact ⟨h.1,h.2.imp id (rtB_right s t i)⟩
theorem okChars_app {s t:LU} (hs:qbb s=true) (ht:qbb t=true):qbb (s++t)=true:=by
 simp only [qbb,all_eq_true,mem_range] at hs ht ⊢;intro j hj;by_cases h:j < s.length
 ·have:=hs j h
  unfold okAt at this ⊢;rw [q7k h,q6x h];exact this
 ·obtain ⟨i,rfl⟩:∃ i,j=s.length + i:=⟨j - s.length,by omega⟩;have:=ht i (by simp at hj;omega)
  unfold okAt at this ⊢;rw [q7j];simp only [Bool.and_eq_true,Bool.or_eq_true] at this ⊢;exact ⟨this.1,this.2.imp id (rtB_right s t i)⟩
theorem checkC_app {s t:LU} (hs:qa1 s=0) (ht:qa1 t=0) (hl:s.length + t.length≤65536):qa1 (s++t)=0:=by
 rw [qhz,if_neg (by omega)] at hs ht;rw [qhz,if_neg (by simp;omega)];have h1:qbb s=true:=by cases h:qbb s <;> simp [h] at hs ⊢
 have h2:qbb t=true:=by cases h:qbb t <;> simp [h] at ht ⊢
 rw [if_pos (okChars_app h1 h2)]
theorem q17 {t:LU} {w:Bool} (h1:t≠[]) (h2:qa1 t=0):qv 1 t 0 .nil false w=0:=by
 unfold qv;have e1:qai 1=true:=by decide
 have e2:qz 1=false:=by decide
 rw [if_neg (by simp [e1]),if_neg (by simp [h1,e2]),if_pos rfl];simp [h2]
theorem tlen_consM (k t n ps r):tlen (consM k t n ps r)≤t.length + tlen ps + tlen r:=by
 unfold consM;split
 ·split
  ·omega
  ·split
   ·simp [tlen]
   ·split
    ·simp only [tlen,length_append];omega
    ·simp only [tlen];omega
 ·simp [tlen]
theorem ql4:∀ f:Fo,tlen (qcl f)≤tlen f
 | .nil=>Nat.le_refl _
 | .cons k t n ps r=>by
  have h1:=ql4 ps;have h2:=ql4 r;have h3:=tlen_consM k t n (qcl ps) (qcl r);simp only [qcl,tlen];omega
theorem consM_mgd {k t n ps r} (hp:mgd false ps) (hr:mgd false r):mgd false (consM k t n ps r):=by
 have weak:∀ {b} {r:Fo},mgd false r→(∀ k' t' n' ps' r',r=.cons k' t' n' ps' r'→¬ (k'=1∧b=true))→mgd b r:=by
  intro b r h hh;cases r with
  | nil=>trivial
  | cons k' t' n' ps' r'=>exact ⟨hh _ _ _ _ _ rfl,h.2.1,h.2.2⟩
 unfold consM;split
 ·rename_i hk;split
  ·exact hr
  ·cases r with
   | nil=>exact ⟨by simp,hp,trivial⟩
   | cons k' t' n' ps' r' =>
    simp only;split
    ·rename_i hk';refine ⟨by simp,hp,?_⟩;have:=hr.2.2
     rw [hk] at *;rw [hk'] at this;exact this
    ·rename_i hk';exact ⟨by simp,hp,weak hr fun _ _ _ _ _ e=>by cases e;simp [hk']⟩
 ·rename_i hk;exact ⟨by simp,hp,weak hr fun _ _ _ _ _ e=>by cases e;simp [hk]⟩
theorem qzt:∀ f:Fo,mgd false (qcl f)
 | .nil=>trivial
 | .cons k t n ps r=>consM_mgd (qzt ps) (qzt r)
theorem consM_nil {k t n ps r}:consM k t n ps r=.nil→k=1∧t=[]∧r=.nil:=by
 unfold consM;intro h;split at h
 ·split at h
  ·exact ⟨by assumption,by assumption,h⟩
  ·split at h
   ·cases h
   ·split at h <;> cases h
 ·cases h
theorem merge_nil {w:Bool}:∀ {f:Fo},okF w f→(qcl f=.nil↔f=.nil)
 | .nil,_=>by simp [qcl]
 | .cons k t n ps r,⟨h1,h2,h3⟩=>by
  constructor
  ·intro h;obtain ⟨rfl,rfl,_⟩:=consM_nil h;exact absurd rfl (qn0 h1).1
  ·intro h;cases h
theorem len_zero {f:Fo}:f.len=0↔f=.nil:=⟨Fo.eq_nil_of_len,fun h=>by subst h;rfl⟩
theorem q7f:∀ {w:Bool} {f:Fo},okF w f→tlen f≤65536→okF w (qcl f)
 | _,.nil,_,_=>trivial
 | w,.cons k t n ps r,⟨h1,h2,h3⟩,hl=>by
  simp only [tlen] at hl;have i2:=q7f h2 (by omega);have i3:=q7f h3 (by omega);have hlr:=ql4 r;have e1:qv k t n (qcl ps) false w=0:=qvi h1 (by rw [len_zero,len_zero,merge_nil h2]);simp only [qcl];unfold consM;split
  ·rename_i hk;subst hk;split
   ·exact i3
   ·obtain ⟨ht,rfl,hps,hc⟩:=qn0 e1;cases hr:qcl r with
    | nil=>exact ⟨e1,i2,trivial⟩
    | cons k' t' n' ps' r' =>
     rw [hr] at i3 hlr;simp only;split
     ·rename_i hk';subst hk';obtain ⟨x1,x2,x3⟩:=i3;obtain ⟨ht',_,_,hc'⟩:=qn0 x1;simp only [tlen] at hlr;rw [hps];refine ⟨q17 (by simp [ht]) (checkC_app hc hc' (by omega)),trivial,x3⟩
     ·exact ⟨e1,i2,i3⟩
  ·exact ⟨e1,i2,i3⟩
theorem depth_consM (k t n ps r):(consM k t n ps r).depth≤max (if ps.len=0 then 0 else ps.depth + 1) r.depth:=by
 unfold consM;split
 ·split
  ·omega
  ·split
   ·rw [Fo.depth_parts];exact Nat.le_refl _
   ·split
    ·simp only [Fo.depth_parts];omega
    ·simp only [Fo.depth_parts];omega
 ·rw [Fo.depth_parts];exact Nat.le_refl _
theorem qoy:∀ f:Fo,(qcl f).depth≤f.depth
 | .nil=>Nat.le_refl _
 | .cons k t n ps r=>by
  have h1:=qoy ps;have h2:=qoy r;have h3:=depth_consM k t n (qcl ps) (qcl r);rw [Fo.depth_parts];simp only [qcl];by_cases hp:ps.len=0
  ·have e:=Fo.eq_nil_of_len hp;subst e;simp only [qcl,Fo.len_nil,if_true] at h3 ⊢;omega
  ·rw [if_neg hp];split at h3 <;> omega
theorem qk9:∀ {w:Bool} {f:Fo},okF w f→okF w (qah f)
 | _,.nil,_=>trivial
 | w,.cons k t n ps r,⟨h1,h2,h3⟩=>by
  simp only [qah];rw [okF_app];refine ⟨?_,qk9 h3⟩;split
  ·exact ⟨h1,h2,trivial⟩
  ·exact qfr (qk9 h2)
theorem part_ok {w:Bool} {k t n ps ps'} (h:qv k t n ps false w=0) (h0:ps.len≠0) (h2:okF true ps'):okF w (partF k t n ps'):=by
 unfold partF;split
 ·trivial
 ·exact ⟨qvi h (by omega),h2,trivial⟩
theorem ql5:∀ {w:Bool} {f:Fo} (hand:Int) (adv:Bool),okF w f→okF w (qm f hand adv)
 | _,.nil,_,_,_=>trivial
 | w,.cons k t n ps r,hand,adv,⟨h1,h2,h3⟩=>by
  have hp:=(single_ok h1).2.2.2.2.2;have pk:k=7∨k=8∨k=9∨k=10∨k=11→ps.len≠0:=fun h=>by have:=hp (by unfold qz;simp;omega);omega
  have i2:=ql5 hand adv h2;simp only [qm];rw [okF_app];refine ⟨?_,ql5 hand adv h3⟩;split
  ·exact qfr (qk9 h2)
  split
  ·exact qfr i2
  split
  ·exact part_ok h1 (pk (by omega)) i2
  split
  ·exact qfr (qk9 h2)
  split
  ·exact qfr i2
  split
  ·exact part_ok h1 (pk (by omega)) i2
  ·exact ⟨h1,h2,trivial⟩
theorem qkv:∀ f:Fo,(qah f).depth≤f.depth
 | .nil=>Nat.le_refl _
 | .cons k t n ps r=>by
  have h1:=qkv ps;have h2:=qkv r;rw [Fo.depth_parts];simp only [qah,qf2];split
  ·rw [Fo.one,Fo.depth_parts];simp only [Fo.depth];omega
  ·by_cases hp:ps.len=0
   ·have e:=Fo.eq_nil_of_len hp;subst e;simp only [qah,Fo.depth];omega
   ·rw [if_neg hp];omega
theorem depth_part (k t n) (ps:Fo):(partF k t n ps).depth≤if ps.len=0 then 0 else ps.depth + 1:=by
 unfold partF;split
 ·exact Nat.le_refl _
 ·rename_i h;rw [Fo.one,Fo.depth_parts,if_neg h];simp [Fo.depth]
theorem qi3:∀ (f:Fo) (hand:Int) (adv:Bool),(qm f hand adv).depth≤f.depth
 | .nil,_,_=>Nat.le_refl _
 | .cons k t n ps r,hand,adv=>by
  have h1:=qi3 ps hand adv;have h2:=qi3 r hand adv;have h3:=qkv ps;have h4:=depth_part k t n (qm ps hand adv);rw [Fo.depth_parts];by_cases hp:ps.len=0
  ·have e:=Fo.eq_nil_of_len hp;subst e;simp only [qm,qah,partF,Fo.len_nil,if_true,qf2];have h0:(Fo.one k t n .nil).depth=0:=rfl;have hn:Fo.nil.depth=0:=rfl
   repeat' split
   all_goals omega
  ·rw [if_neg hp];have h5:(partF k t n (qm ps hand adv)).depth≤ps.depth + 1:=by split at h4 <;> omega
   have h6:(Fo.one k t n ps).depth=ps.depth + 1:=by rw [Fo.one,Fo.depth_parts,if_neg hp];simp [Fo.depth]
   simp only [qm,qf2]
   repeat' split
   all_goals omega
structure FineF (f:Fo):Prop where
 size:f.size≤24
 tl:tlen f≤192
 depth:f.depth≤6
 ok:okF false f
 m:mgd false f
end Go.Proofs
namespace Go.Proofs
open Go Go.Sh Go.RowKit
end Go.Proofs
namespace Go.Sh
open Go Go.RowKit
theorem qkg:∀ (vs cs:LV) (o i:Nat),(putAt cs o vs)[i]? = if o≤i∧i < o + vs.length∧i < cs.length then vs[i - o]? else cs[i]?
 | [],cs,o,i=>by
  rw [if_neg (by simp;omega)];rfl
 | v :: vs,cs,o,i=>by
  rw [putAt,qkg vs (cs.set o v) (o + 1) i];simp only [List.length_set,List.length_cons];by_cases h1:o + 1≤i∧i < o + 1 + vs.length∧i < cs.length
  ·rw [if_pos h1,if_pos (by omega),show i - o=(i - (o + 1)) + 1 by omega,List.getElem?_cons_succ]
  ·rw [if_neg h1];by_cases h2:i=o
   ·subst h2;by_cases h3:i < cs.length
    ·rw [if_pos (by omega)];simp [h3]
    ·rw [if_neg (by omega)];rw [List.getElem?_eq_none (by simp;omega),List.getElem?_eq_none (by omega)]
   ·rw [List.getElem?_set_ne (Ne.symm h2)];rw [if_neg (by omega)]
theorem putAt_last {cs xs zs vs:LV} {m:Nat} (h:cs.take m=xs++zs) (hl:zs.length=vs.length) (hm:xs.length + vs.length=m) (hc:m≤cs.length):(putAt cs xs.length vs).take m=xs++vs:=by
 apply List.ext_getElem?;intro i;have hp:=qkg vs cs xs.length i;have hg:i < m→cs[i]? = (xs++zs)[i]?:=fun hi=>by rw [← h,List.getElem?_take,if_pos hi]
 rw [List.getElem?_take];by_cases hi:i < m
 ·rw [if_pos hi,hp];by_cases h1:xs.length≤i
  ·rw [if_pos ⟨h1,by omega,by omega⟩,List.getElem?_append_right h1]
  ·rw [if_neg (by omega),hg hi,List.getElem?_append_left (by omega),List.getElem?_append_left (by omega)]
 ·rw [if_neg hi,List.getElem?_eq_none (by simp;omega)]
theorem Owns.storeLast {w:World} {B:Nat} {e:TypeId} {size:Nat} {a:OA} {n c:Nat} {xs zs vs:LV} (h:Owns w B e size a (n + 1) c (xs++zs)) (hz:zs.length=size) (hv:vs.length=size) (h1:∀ v∈vs,v.oneCell'=true) :
  ∃ g:Nat,a=some ⟨g,0,none⟩∧(∀ K:Addr→Prop,K ⟨g,n * size,none⟩→idx a (n + 1) (n:Int) size K) ∧
   ∀ K:WP,(∀ w',Owns w' B e size a (n + 1) c (xs++vs)→Chg (Sh.bk a) w w'→w'.heap.size=w.heap.size→K w')→stL w ⟨g,n * size,none⟩ 0 vs K:=by
 have hl:=h.1;simp only [List.length_append,hz,Nat.add_mul,Nat.one_mul] at hl;rcases h.2 with h | ⟨g,cap,cur,e1,e2,e3,e4,e5,e6,e7⟩
 ·omega
 obtain ⟨rfl,_,rfl⟩:a=some ⟨g,0,none⟩∧True∧c=cap:=by simpa using e1
 have hB:Blk w g cur.toList e:=e3;have hcl:cur.toList.length=c * size:=by simpa using e6
 have hxl:(n + 1) * size≤cur.toList.length:=by rw [hcl];exact Nat.mul_le_mul_right _ e4
 have hxe:xs.length=n * size:=by omega
 refine ⟨g,rfl,fun K hK=>⟨by omega,by omega,?_⟩,fun K hK=>?_⟩
 ·show K _;rw [qd,Int.toNat_natCast,Nat.zero_add];exact hK
 refine qaf hB (by rw [hv];have:(n + 1) * size=n * size + size:=(by rw [Nat.add_mul,Nat.one_mul]);omega) h1 fun w' b1 b2 b3 b4 b5 b6=>?_;have hc:Chg (Sh.bk (some (⟨g,0,none⟩:Addr))) w w':=⟨b4,b5,b6,by omega,fun k' _ hk=>b2 k' fun e=>hk (by simp [Sh.bk,e])⟩;refine hK w' ⟨by simp only [List.length_append,hv,Nat.add_mul,Nat.one_mul];omega,.inr ⟨g,c,⟨_⟩,rfl,e2,b1,e4,e5,?_,?_⟩⟩ hc b3
 ·have:=putAt_length vs cur.toList (n * size + 0)
  simp only [List.size_toArray];rw [this];exact hcl
 ·show (putAt cur.toList (n * size + 0) vs).take _=_;rw [Nat.add_zero,← hxe];refine putAt_last e7 (by omega) ?_ hxl;rw [hxe,hv,Nat.add_mul,Nat.one_mul]
end Go.Sh
namespace Go.Proofs
open Go Go.Sh Go.RowKit Go.Proofs.Tryz IntKind List
def mostN (l:List Nn):Int:=l.foldl (fun m x=>if x.k=8∨x.k=9 then max m x.n else m) 0
theorem q5n (l:List Nn) (x:Nn):mostN (l++[x])=if x.k=8∨x.k=9 then max (mostN l) x.n else mostN l:=by simp [mostN]
theorem Ext.upd {w W1 W2:World} {l:Nat} (h:Ext w W1) (hU:Upd l W1 W2) (hl:w.heap.size≤l):Ext w W2:=qe8 h (q6a hU hl) (Nat.le_refl _)
theorem Count_spec {R:EP} {S:NP} {w:World} {a:OA} {n c:Nat} (f:Fo) (hs:small f) (hF:Forms w) (hf0:SlF S w a n f)
  (h:∀ w',Ext w w'→R (.returned (.tuple ⟨[iV (if qab f≠0 then 0 else mostN (nodesF f)),iV (if qab f≠0 then 1 else 0)]⟩)) w') :
  Calls prog qtk ⟨[lV a n c]⟩ w R:=by
 apply q8u;refine qdb f hs hf0 hF fun w1 e1=>⟨_,rfl,qb (fun g=>?_) (fun g=>?_)⟩
 ·rw [if_pos g,if_pos g] at h;exact h _ e1
 rw [if_neg g,if_neg g] at h;refine qg fun b5 w2 hb5 B5' e2 s2=>?_;refine qr B5' rfl fun w3 B5 hc3 s3=>?_;have E2:=qa e1 e2;have z1:=e1.size;have E3:Ext w w3:=qi E2 hc3 fun k hk=>by omega
 refine q9y fun bs w4 Bs e4 hbs=>⟨_,_,_,rfl,fun base=>?_⟩;have E4:=qa E3 e4;have B5:=B5.ext e4;have l5:=B5.lt;have ls:=Bs.lt;have z4:=E4.size;have hf:SlF (fun k=>S k∧k < w.heap.size) w a n f:=hf0.imp fun k hk hl=>⟨hk,hl⟩;rw [qw2];refine q9d qh9 qh7 (gf:=qb7) rfl (by kernel_rfl) (xs:=nodesF f) (E:=NnE (fun k=>(S k∧k < w.heap.size)∨k=bs) w4) (Rd:=fun k=>(S k∧k < w.heap.size)∨k=bs)
  (fun v1 he=>(nodes_iter f hs bs v1 (Bs.ext he) ((hf.ext (qa E4 he)).imp fun k hk _=>.inl hk) (.inr rfl)).mono ?_) (fun y vs hE=>by obtain ⟨a',c',rfl,_⟩:=hE;rfl) (by decide) (fun k hk=>by omega) (fun k=>k=b5) (fun k hk=>by omega)
  (fun pre W=>Blk W b5 [iV (mostN pre)] 3∧Ext w W) (fun _=>False) (fun _=>False)
  ?_ (fun _ _ h=>h.elim) (fun _ _ h=>h.elim) ⟨B5,E4⟩ ?_ ?_ (fun _ _ _ _ _ h=>h.elim) (fun _ _ _ _ _ h=>h.elim)
 ·rintro x vs ⟨a',c',rfl,hsl⟩;exact ⟨a',c',rfl,hsl.keep' fun k hk hl=>⟨hk,by omega,((he.block k (by omega))).symm⟩⟩
 ·rintro pre W W' ⟨g1,g2⟩ hc;exact ⟨hc.blk g1 (by omega),qe8 g2 hc (by omega)⟩
 ·rintro pre ⟨k1,t1,m1,ps1⟩ vs W l ⟨a',c',rfl,hsl⟩ hpre hl1 hl2 ⟨g1,g2⟩;refine Eq.mpr (qwz base _ _ _ _ _ _ _ _ _ _ _ _ _ _ _ _ _) ?_;refine qw (by simp) (by intro u hu;simp only [mem_cons,not_mem_nil,or_false] at hu;rcases hu with rfl | rfl | rfl | rfl <;> rfl) fun bx W1 hbx hBx ex sx=>?_;refine ⟨ex,fun W2 hU=>?_⟩;have zx:=ex.size;have zU:=hU.size;have hX2:=qhd hU hBx (by omega);obtain ⟨x0,x1,x2,x3⟩:=blk4 hX2;have h1:=qhd hU (g1.ext ex) (by omega);have E2':Ext w W2:=Ext.upd (qa g2 ex) hU (by omega);refine ⟨k1,x0,t1,x1,m1,x2,a',_,c',x3,qkw k1 t1 m1 a' ps1.len c' fun W3 e3=>⟨_,rfl,qb (fun q=>?_) (fun q=>?_)⟩⟩
  ·have h3:=h1.ext e3;refine dr_ok ⟨_,by show _=_;rw [h3.cell];rfl,m1,(blk4 (hX2.ext e3)).2.2.1,dr_ok (qr h3 rfl fun W4 B4 hc4 s4=>?_)⟩;have E4':Ext w W4:=qi (qa E2' e3) hc4 fun k hk=>by omega
   refine ⟨(Chg.of_ext e3).trans (hc4.mono fun k _ h=>h),?_,E4'⟩;rw [q5n,if_pos q];exact B4
  ·refine ⟨Chg.of_ext e3,?_,qa E2' e3⟩;rw [q5n,if_neg q];exact h1.ext e3
 ·rintro D W hD1 hD2 hD4 ⟨g1,g2⟩;refine ⟨_,by show _=_;rw [g1.cell];rfl,qbw hD4 ?_⟩;exact h _ (qch g2 (by omega) _)
theorem qt5:∀ f g:Fo,nodesF (f.app g)=nodesF f++nodesF g
 | .nil,g=>rfl
 | .cons k t n ps r,g=>by simp [nodesF,qt5 r]
theorem places_walkO {yf:Fn} {ya yb:Array Value} {T:NP} {J:List Pl→(NP)→World→Prop} {Jx:(NP)→World→Prop} {w0:World} {xs:List Pl} {ty tw:Nat}
  (hTl:∀ k,T k→k < w0.heap.size)
  (hJ:∀ pre S W W',J pre S W→Chg (fun k=>w0.heap.size≤k∧¬ S k) W W'→J pre S W')
  (hbody:∀ pre x vs S W,PlE T w0 x vs→pre++[x] <+: xs→w0.heap.size≤W.heap.size→(∀ k,S k→k < W.heap.size∧¬ T k)→J pre S W→CallV prog (.func yf ya yb) vs W fun e W'=>Chg S W W' ∧
   ∃ S':NP,(∀ k,S' k→(S k∨W.heap.size≤k)∧k < W'.heap.size)∧((e=.returned (bV true)∧J (pre++[x]) S' W')∨(e=.returned (bV false)∧Jx S' W'))) :
  ∀ (f:Fo) {R:EP} {S:NP} {w:World} {a:OA} {n c:Nat} (d:Nat) (pre:List Pl),small f→d≤17→SlF T w0 a n f→w0.heap.size≤w.heap.size→(∀ k,T k→w.heap[k]? = w0.heap[k]?)→(∀ k,S k→k < w.heap.size∧¬ T k) →
   Blk w ty [.func yf ya yb] 209→Blk w tw [.func (.func 172) ⟨[]⟩ ⟨[.pointer (some ⟨ty,0,none⟩),.pointer (some ⟨tw,0,none⟩)]⟩] 136→¬ S ty→¬ S tw →
   pre++qt f d false <+: xs→J pre S w→(∀ S' W',Chg S w W'→(∀ k,S' k→(S k∨w.heap.size≤k)∧k < W'.heap.size)→J (pre++qt f d false) S' W'→R (.returned (bV true)) W') →
   (∀ S' W',Chg S w W'→(∀ k,S' k→(S k∨w.heap.size≤k)∧k < W'.heap.size)→Jx S' W'→R (.returned (bV false)) W') →
   Calls prog qby ⟨[lV a n c,iV (d:Int),.pointer (some ⟨ty,0,none⟩),.pointer (some ⟨tw,0,none⟩)]⟩ w R:=by
 intro f
 induction hz:f.size using Nat.strongRecOn generalizing f with
 | _ z ih =>
 intro R S w a n c d pre hs hd hf hw0 hT hS hBy hBw nSy nSw hpre hj hend hstop;unfold small at hs;apply qdm;have hn:=hf.1;have hfl:=f.len_le_size;have lty:=hBy.lt;have ltw:=hBw.lt;refine ⟨fun tx i W m=>∃ (p r:Fo) (ps:List Pl) (S1:NP),f=p.app r∧i=p.len∧m=r.len∧Chg S w W∧(∀ k,S1 k→(S k∨w.heap.size≤k)∧k < W.heap.size)∧J ps S1 W∧pre++qt f d false=ps++qt r d tx,
  ⟨_,.nil,f,pre,S,rfl,rfl,rfl,Chg.refl _ _,fun k hk=>⟨.inl hk,(hS k hk).1⟩,hj,rfl⟩,?_⟩
 rintro b _ W m ⟨p,r,xs',S1,hpr,rfl,rfl,hcW,hS1,hjW,heq⟩ _;have hwW:=hcW.size;refine qb (fun hlt=>?_) (fun hge=>?_)
 ·obtain ⟨k,t,mm,ps,r,rfl⟩:=Fo.next hpr (by omega);have hsl:=Fo.sub_len hpr;have hsz:=Fo.sub_size hpr;have e1:f=(p.app (.one k t mm ps)).app r:=by rw [Fo.app_one_app];exact hpr
  have i1:i64.wrap ((p.len:Int) + 1)=((p.app (.one k t mm ps)).len:Int):=by rw [qj (by omega)];simp [Fo.one]
  have hTW:∀ k,T k→W.heap[k]? = w0.heap[k]?:=fun k hk=>(hcW.block k (by have:=hTl k hk;omega) (fun h=>(hS k h).2 hk)).trans (hT k hk);obtain ⟨q,a',c',hq,hTq,hql,hN⟩:=(hf.keep (S':=T) (w':=W) (fun k hk _=>⟨hk,hTW k hk⟩) (by omega)).get hpr;have hNT:SlF T w0 a' ps.len ps:=hN.sl.keep' fun k hk _=>⟨hk,hTl k hk,(hTW k hk).symm⟩;refine hq _ ⟨k,hN.kind,t,hN.text,mm,hN.num,a',ps.len,c',hN.parts,?_⟩;refine qw (by simp) (by intro u hu;simp only [mem_cons,not_mem_nil,or_false] at hu;rcases hu with rfl | rfl | rfl | rfl <;> rfl) fun bx w1 hbx hBx e2 s2=>?_;have z2:=e2.size;obtain ⟨x0,x1,x2,x3⟩:=blk4 hBx;have hBy1:=(hcW.blk hBy nSy).ext e2;have hBw1:=(hcW.blk hBw nSw).ext e2;have n1y:¬ S1 ty:=fun h=>(hS1 _ h).1.elim nSy (by omega);have n1w:¬ S1 tw:=fun h=>(hS1 _ h).1.elim nSw (by omega);have n1x:¬ S1 bx:=fun h=>by have:=(hS1 _ h).2;omega
  refine dr_ok ⟨_,_,_,by show _=_;rw [hBy1.cell];rfl,k,x0,t,x1,mm,x2,a',ps.len,c',x3,?_⟩;have hj1:J xs' S1 w1:=hJ _ _ _ _ hjW (Chg.of_ext e2);rw [qt] at heq;have hpx:xs'++[⟨k,t,mm,ps,d,b⟩] <+: xs:=by
   refine List.IsPrefix.trans ?_ hpre;rw [heq];exact ⟨_,by show _=_;rw [append_assoc];rfl⟩
  have hS1T:∀ k,S1 k→k < w1.heap.size∧¬ T k:=fun j hj=>⟨by have:=(hS1 j hj).2;omega,fun ht=>(hS1 j hj).1.elim (fun h=>(hS j h).2 ht) (fun h=>by have:=hTl j ht;omega)⟩;refine qbr (hbody xs' ⟨k,t,mm,ps,d,b⟩ _ S1 w1 ⟨a',c',rfl,hNT⟩ hpx (by omega) hS1T hj1) ?_;rintro e w2 ⟨hc2,S2,hS2,hres⟩;have z3:=hc2.size;have hcw2:Chg S w w2:=qbd (hcW.trans (Chg.of_ext e2)) hc2 fun i hi hh=>(hS1 i hh).1.elim id fun h=>by omega
  have hS2w:∀ k,S2 k→(S k∨w.heap.size≤k)∧k < w2.heap.size:=fun j hj=>⟨(hS2 j hj).1.elim (fun h=>(hS1 j h).1) (fun h=>.inr (by omega)),(hS2 j hj).2⟩;rcases hres with ⟨rfl,hj2⟩ | ⟨rfl,hjx⟩
  ·refine ⟨true,rfl,?_⟩;have hBx2:=hc2.blk hBx n1x;obtain ⟨y0,y1,y2,y3⟩:=blk4 hBx2;have hBw2:=hc2.blk hBw1 n1w;have hBy2:=hc2.blk hBy1 n1y;have n2x:¬ S2 bx:=fun h=>(hS2 _ h).1.elim n1x (by omega);refine qb (fun hd16=>?_) (fun hd16=>?_)
   ·have hd16':d≤16:=by omega
    rw [if_pos hd16'] at heq;refine dr_ok ⟨.func 172,⟨[]⟩,⟨[.pointer (some ⟨ty,0,none⟩),.pointer (some ⟨tw,0,none⟩)]⟩,by show _=_;rw [hBw2.cell];rfl,a',ps.len,c',y3,by kernel_rfl,?_⟩;rw [qj (by omega)];refine ih _ (hz ▸ hsz) ps rfl (S:=S2) (d + 1) (xs'++[⟨k,t,mm,ps,d,b⟩]) (by unfold small;omega) (by omega) hNT (by omega) (fun j hj=>(hcw2.block j (by have:=hTl j hj;omega) (fun h=>(hS j h).2 hj)).trans (hT j hj))
     (fun j hj=>⟨(hS2 j hj).2,fun ht=>(hS2 j hj).1.elim (fun h=>(hS1T j h).2 ht) (fun h=>by have:=hTl j ht;omega)⟩) hBy2 hBw2 (fun h=>(hS2 _ h).1.elim n1y (by omega)) (fun h=>(hS2 _ h).1.elim n1w (by omega)) ?_ hj2 (fun S3 w3 hc3 hS3 hj3=>?_) (fun S3 w3 hc3 hS3 hjx=>?_)
    ·refine List.IsPrefix.trans ?_ hpre;rw [heq];exact ⟨qt r d (decide (k=1)),by simp⟩
    ·refine ⟨true,rfl,?_⟩;have hBx3:=hc3.blk hBx2 n2x;refine ⟨k,(blk4 hBx3).1,r.len,by simp,_,r,_,S3,e1,i1,rfl,qbd hcw2 hc3 fun i hi hh=>(hS2w i hh).1.elim id fun h=>by omega,fun j hj=>⟨(hS3 j hj).1.elim (fun h=>(hS2w j h).1) (fun h=>.inr (by omega)),(hS3 j hj).2⟩,hj3,?_⟩;rw [heq];simp
    ·exact ⟨false,rfl,hstop S3 _ (qbd hcw2 hc3 fun i hi hh=>(hS2w i hh).1.elim id fun h=>by omega) (fun j hj=>⟨(hS3 j hj).1.elim (fun h=>(hS2w j h).1) (fun h=>.inr (by omega)),(hS3 j hj).2⟩) hjx⟩
   ·rw [if_neg (by omega)] at heq;refine ⟨k,y0,r.len,by simp,_,r,_,S2,e1,i1,rfl,hcw2,hS2w,hj2,?_⟩;rw [heq];simp
  ·exact ⟨false,rfl,hstop S2 _ hcw2 hS2w hjx⟩
 ·obtain ⟨rfl,rfl⟩:=Fo.last hpr (by omega);have e:xs'=pre++qt p d false:=by rw [heq];simp [qt]
  rw [e] at hjW;exact hend S1 _ hcW hS1 hjW
theorem places_iterO {T:NP} (f:Fo) (hs:small f) {a:OA} {n c:Nat} (b:Nat) (w:World) (hTl:∀ k,T k→k < w.heap.size) (hb:Blk w b [lV a n c] 43) (hf:SlF T w a n f) (hbT:T b) :
  IterO prog qae [.pointer (some ⟨b,0,none⟩)] (qt f 0 false) (PlE T w) T w:=by
 intro yf ya yb S0 J Jx R hS hJ hJx hbody h0 hend hstop;apply qe0;refine qg fun ty w1 hty hBy e1 s1=>?_;refine qg fun tw w1' htw hBw' e2' s2'=>?_;refine qr hBw' rfl fun w2 hBw hcc hss=>?_;have e2:Ext w1 w2:=qi e2' hcc fun k hk=>by omega
 have E:=qa e1 e2;refine ⟨.func 172,⟨[]⟩,⟨[.pointer (some ⟨ty,0,none⟩),.pointer (some ⟨tw,0,none⟩)]⟩,by show _=_;rw [hBw.cell];rfl,dr_ok ⟨a,n,c,by show _=_;rw [((hb.ext e1).ext e2).cell];rfl,by kernel_rfl,?_⟩⟩;have hz:=E.size;have hz1:=e1.size;refine places_walkO (w0:=w) (xs:=qt f 0 false) hTl hJ hbody f (S:=S0) 0 [] hs (by omega) hf hz (fun k hk=>E.block k (hTl k hk)) (fun k hk=>⟨by have:=(hS k hk).1;omega,(hS k hk).2⟩) (hBy.ext e2) hBw (fun h=>by have:=(hS _ h).1;omega) (fun h=>by have:=(hS _ h).1;omega) (List.prefix_refl _)
  (hJ _ _ _ _ h0 (Chg.of_ext E)) (fun S' W' hc hS' hj=>?_) (fun S' W' hc hS' hjx=>?_)
 ·exact ⟨_,rfl,hend S' _ (Nat.le_trans hz hc.size) hj⟩
 ·exact ⟨_,rfl,hstop S' _ (Nat.le_trans hz hc.size) hjx⟩
theorem blk6 {w:World} {b:Nat} {v0 v1 v2 v3 v4 v5:Value} {T:TypeId} (h:Blk w b [v0,v1,v2,v3,v4,v5] T) :
  w.cell? ((⟨b,0,none⟩:Addr).add 0 |>.add 0)=some v0∧w.cell? ((⟨b,0,none⟩:Addr).add 0 |>.add 1)=some v1:=by
 simp only [qd,h.cell];exact ⟨rfl,rfl⟩
theorem qy9 {a b:LU} {K:LU→Prop} (h:a.length + b.length≤9223372036854775807) (hK:K (a++b)):sadd a b K:=⟨h,hK⟩
theorem four_one (k:Int) (t:LU) (m:Int) (a:OA) (n c:Nat):∀ u∈[Value.int .i64 k,sV t,iV m,lV a n c],u.oneCell'=true:=by
 intro u hu;simp only [mem_cons,not_mem_nil,or_false] at hu;rcases hu with rfl | rfl | rfl | rfl <;> rfl
theorem SameT_spec {S S':NP}:∀ (f:Fo) {R:EP} {w:World} {a b:OA} {n c n' c':Nat} {g:Fo} (hf:SlF S w a n f) (hg:SlF S' w b n' g) (hs:small f)
  (h:∀ w',Ext w w'→R (.returned (bV (decide (f=g)))) w'),Calls prog qie ⟨[lV a n c,lV b n' c']⟩ w R:=by
 intro f
 induction hz:f.size using Nat.strongRecOn generalizing f with
 | _ z ih =>
 intro R w a b n c n' c' g hf hg hs h;apply qun;apply qau;have hn:=hf.1;have hn':=hg.1;refine qb (fun h1=>⟨_,rfl,?_⟩) (fun h1=>?_)
 ·rw [show decide (f=g)=false by rw [decide_eq_false_iff_not];rintro rfl;omega] at h;exact h w bR
 refine ⟨fun i W m=>∃ (p1 r1 p2 r2:Fo),f=p1.app r1∧g=p2.app r2∧p1.len=p2.len∧i=p1.len∧m=r1.len∧Ext w W∧(f=g↔r1=r2),⟨_,.nil,f,.nil,g,rfl,rfl,rfl,rfl,rfl,bR,Iff.rfl⟩,?_⟩;rintro _ W m ⟨p1,r1,p2,r2,e1,e2,e3,rfl,rfl,he,hiff⟩ _;refine qb (fun hlt=>?_) (fun hge=>?_)
 ·obtain ⟨k1,t1,m1,s1,r1,rfl⟩:=Fo.next e1 (by omega);obtain ⟨k2,t2,m2,s2,r2,rfl⟩:=Fo.next e2 (by omega);obtain ⟨q1,a1,c1,i1,_,l1,n1⟩:=(hf.ext he).get e1;have hsub:=Fo.sub_size e1;have hsl:=Fo.sub_len e1;have hle:=f.len_le_size;simp only [Fo.cons.injEq] at hiff;refine i1 _ ⟨_,n1.kind,_,n1.text,_,n1.num,_,_,_,n1.parts,qw (by simp) (four_one _ _ _ _ _ _) fun b1 w1 hb1 B1 x1 s1'=>?_⟩;have he1:=qa he x1;obtain ⟨q2,a2,c2,i2,_,l2,n2⟩:=(hg.ext he1).get e2;rw [← e3] at i2;refine i2 _ ⟨_,n2.kind,_,n2.text,_,n2.num,_,_,_,n2.parts,qw (by simp) (four_one _ _ _ _ _ _) fun b2 w2 hb2 B2 x2 s2'=>?_⟩;have he2:=qa he1 x2;obtain ⟨u0,u1,u2,u3⟩:=blk4 (B1.ext x2);obtain ⟨v0,v1,v2,v3⟩:=blk4 B2;have y1:=(n1.sl.ext x1).ext x2;have y2:=n2.sl.ext x2;refine ⟨_,u0,_,u1,_,u2,_,_,_,u3,_,v0,_,v1,_,v2,_,_,_,v3,by kernel_rfl,?_⟩
  -- the closure
  have clo:∀ {R':EP},(∀ w',Ext w2 w'→R' (.returned (bV (decide (k1=k2∧t1=t2∧m1=m2∧s1=s2)))) w') →
    Calls prog qgc ⟨[.agg ⟨[iV k1,sV t1,iV m1,lV a1 s1.len c1]⟩,.agg ⟨[iV k2,sV t2,iV m2,lV a2 s2.len c2]⟩]⟩ w2 R':=by
   intro R' hR;apply qo3;refine qg fun b3 w3 hb3 B3 x3 s3'=>qg fun b4 w4 hb4 B4 x4 s4'=>?_;obtain ⟨u0,u1,u2,u3⟩:=blk4 (B3.ext x4);obtain ⟨v0,v1,v2,v3⟩:=blk4 B4;have X:=qa x3 x4;refine ⟨_,u0,_,v0,qb (fun d1=>⟨_,u1,_,v1,qb (fun d2=>⟨_,u2,_,v2,qb (fun d3=>⟨_,_,_,u3,_,_,_,v3,?_⟩) (fun d3=>?_)⟩) (fun d2=>?_)⟩) (fun d1=>?_)⟩
   ·refine ih _ (hz ▸ hsub) s1 rfl (y1.ext X) (y2.ext X) (by unfold small at hs ⊢;omega) fun w' he'=>⟨_,rfl,?_⟩;have:=hR w' (qa X he')
    rw [show decide (k1=k2∧t1=t2∧m1=m2∧s1=s2)=decide (s1=s2) by simp [d1,d2,d3]] at this;exact this
   ·have:=hR _ X
    rw [decide_eq_false (fun hh=>d3 hh.2.2.1)] at this;exact this
   ·have:=hR _ X
    rw [decide_eq_false (fun hh=>d2 hh.2.1)] at this;exact this
   ·have:=hR _ X
    rw [decide_eq_false (fun hh=>d1 hh.1)] at this;exact this
  refine clo fun w' he'=>⟨_,rfl,qk (fun d=>?_) (fun d=>?_)⟩
  ·refine ⟨_,rfl,?_⟩;have hd:¬ (k1=k2∧t1=t2∧m1=m2∧s1=s2):=fun hh=>by rw [decide_eq_true hh] at d;cases d
   rw [show decide (f=g)=false by rw [decide_eq_false_iff_not];intro hh;obtain ⟨z1,z2,z3,z4,_⟩:=hiff.1 hh;exact hd ⟨z1,z2,z3,z4⟩] at h;exact h _ (qa he2 he')
  ·have hd:k1=k2∧t1=t2∧m1=m2∧s1=s2:=by simpa using d
   refine ⟨r1.len,by simp,p1.app (.one k1 t1 m1 s1),r1,p2.app (.one k2 t2 m2 s2),r2,by rw [Fo.app_one_app];exact e1,by rw [Fo.app_one_app];exact e2,by simp [Fo.one];exact e3,?_,rfl,qa he2 he',?_⟩
   ·rw [qj (by unfold small at hs;omega)];simp [Fo.one]
   ·rw [hiff];simp [hd.1,hd.2.1,hd.2.2.1,hd.2.2.2]
 ·obtain ⟨rfl,rfl⟩:=Fo.last e1 (by omega);have:=Fo.last e2 (by omega)
  rw [show decide (p1=g)=true by rw [decide_eq_true_iff];exact hiff.2 this.1.symm] at h;exact ⟨_,rfl,h _ he⟩
def stF (f:Fo) (h:Int):Fo:=qaq (qm f h false)
theorem q98 {f:Fo} (hs:f.size≤1000000000) (h:Int):small (stF f h):=by
 have a1:=qoq (qm f h false);have a2:=qa3 f h false;unfold small stF;omega
theorem q91 (f:Fo) {R:EP} {S:NP} {w:World} {a:OA} {n c:Nat} (hand:Int) (hh:-1000≤hand∧hand≤1000) (hs:f.size≤1000000000) (hg:good f) (ht:tlen f≤4611686018427387904) (hf:SlF S w a n f)
  (h:∀ w',Ext w w'→R (.returned (bV (decide (stF f (hand - 1)≠stF f hand)))) w'):Calls prog ql0 ⟨[lV a n c,iV hand]⟩ w R:=by
 apply q0u;have t1:=qbt f (hand - 1) false;have t2:=qbt f hand false;have q1:=qex (hand - 1) f hg;have q2:=qex hand f hg;unfold qjf;rw [qo (by omega)];refine qqs f (hand - 1) hs hg (by rw [q1];omega) hf fun a2 n2 c2 w2 h2 e2=>⟨_,_,_,rfl,?_⟩;refine qqs f hand hs hg (by rw [q2];omega) (hf.ext e2) fun a3 n3 c3 w3 h3 e3=>⟨_,_,_,rfl,?_⟩;rw [q1] at h2;rw [q2] at h3;refine SameT_spec (stF f (hand - 1)) (h2.ext e3) (g:=stF f hand) h3 (q98 hs _) fun w4 e4=>⟨_,rfl,?_⟩;have:=h _ (qa (qa e2 e3) e4)
 rw [show decide (stF f (hand - 1)≠stF f hand)=!decide (stF f (hand - 1)=stF f hand) by simp] at this;exact this
def errT (f:Fo) (hand:Int):Int:=if qab f≠0 then 1 else if hand < 1∨8 < hand then 13 else 0
abbrev intV (l:List Int):LV:=l.map (Value.int .i64)
theorem slT_int:SlT prog 74 3 1 8 (iV 0):=⟨by kernel_rfl,by kernel_rfl,rfl,by decide⟩
theorem owns_int {w:World} {B:Nat} {a:OA} {n c:Nat} {l:List Int} (h:Owns w B 3 1 a n c (intV l)) {i:Nat} (hi:i < l.length) :
  (∀ K:Addr→Prop,(∀ p,w.cell? p=some (iV l[i])→K p)→idx a n (i:Int) 1 K):=by
 intro K hK;have hl:l.length=n:=by have:=h.1;simpa using this
 obtain ⟨g,rfl,hg,hc⟩:=h.cell (by omega);refine ⟨by omega,by omega,?_⟩;refine dr_ok (hK _ ?_);rw [qd,hc _ _ (by simp [hi];rfl)]
def qs (f:Fo) (n:Nat):List Int:=((List.range n).map fun i:Nat=>(i:Int) + 1).filter fun h=>decide (stF f (h - 1)≠stF f h)
theorem qkn (f:Fo) (n:Nat):qs f (n + 1)=qs f n++if stF f n≠stF f (n + 1) then [(n:Int) + 1] else []:=by
 have e:((n:Int) + 1 - 1)=n:=by omega
 simp only [qs,List.range_succ,map_append,filter_append,List.map_cons,List.map_nil]
 congr 1
 by_cases h:stF f n≠stF f (n + 1)
 ·rw [if_pos h];simp [h]
 ·rw [if_neg h];simp at h;simp [h]
theorem qf0 (f:Fo) (n:Nat):(qs f n).length≤n:=by
 refine Nat.le_trans (List.length_filter_le _ _) ?_;simp
theorem handsTo_le (f:Fo) (n:Nat):∀ x∈qs f n,x≤n:=by
 intro x hx;simp only [qs,List.mem_filter,mem_map,mem_range] at hx;obtain ⟨⟨i,hi,rfl⟩,_⟩:=hx;omega
theorem HandsL_spec (f:Fo) {R:EP} {S:NP} {w:World} {a:OA} {n c:Nat} (most:Nat) (hmost:mostN (nodesF f)=most) (hm8:most≤8) (hs:small f) (hF:Forms w) (hf:SlF S w a n f) (hc0:qab f=0)
  (h:∀ a' n' c' w',Owns w' w.heap.size 3 1 a' n' c' (intV (qs f most))→Ext w w'→R (.returned (.tuple ⟨[lV a' n' c',iV 0]⟩)) w'):Calls prog qje ⟨[lV a n c]⟩ w R:=by
 apply q8t;obtain ⟨c1,c2,c3⟩:=qbn hc0;refine Count_spec f hs hF hf fun w1 e1=>⟨_,_,rfl,?_⟩;rw [hc0,hmost];simp only [ne_eq,not_true,if_false];refine br_neg (by simp) ?_;have z1:=e1.size;refine ⟨fun oa on oc i W m=>∃ k:Nat,i=(k:Int) + 1∧k≤most∧m=most - k∧Owns W w.heap.size 3 1 oa on oc (intV (qs f k))∧Ext w W,⟨_,0,rfl,by omega,rfl,Owns.nil _ _ _ _,e1⟩,?_⟩;rintro oa on oc _ W m ⟨k,rfl,hk,rfl,ho,he⟩ _;have hl:(qs f k).length=on:=by have:=ho.1;simpa using this
 have hlk:=qf0 f k;refine qb (fun hlt=>?_) (fun hge=>?_)
 ·have i1:i64.wrap ((k:Int) + 1 + 1)=((k + 1:Nat):Int) + 1:=by rw [qo (by omega)];omega
  have sc:=qkn f k;refine q91 f ((k:Int) + 1) (by omega) (by omega) c2 (by omega) (hf.ext he) fun w2 e2=>⟨_,rfl,?_⟩;have e:((k:Int) + 1 - 1)=k:=by omega
  rw [e];have he2:=qa he e2;have z2:=he2.size;refine qb (fun g=>?_) (fun g=>?_)
  ·refine qdp slT_int (ho.ext e2) (by omega) [iV ((k:Int) + 1)] rfl (by intro u hu;simp only [mem_singleton] at hu;subst hu;rfl) (by omega) (by omega) fun a4 c4 w4 o4 ch4 n4=>?_;refine ⟨most - (k + 1),by omega,k + 1,i1,by omega,rfl,?_,qi he2 ch4 fun j hj=>(ho.bk hj).1⟩;rw [sc,if_pos g];simpa [intV] using o4
  ·refine ⟨most - (k + 1),by omega,k + 1,i1,by omega,rfl,?_,he2⟩;rw [sc,if_neg g,append_nil];exact ho.ext e2
 ·have:k=most:=by omega
  subst this;exact h _ _ _ _ ho he
def hle (a:Int):Fo→Prop
 | .nil=>True
 | .cons k _ n ps r=>((k=8∨k=9)→n≤a)∧hle a ps∧hle a r
theorem qzz (a:Int):∀ {f:Fo},(∀ x∈nodesF f,(x.k=8∨x.k=9)→x.n≤a)→hle a f
 | .nil,_=>trivial
 | .cons k t n ps r,h=>by
  simp only [nodesF,mem_cons,mem_append] at h;exact ⟨h ⟨k,t,n,ps⟩ (.inl rfl),qzz a fun x hx=>h x (.inr (.inl hx)),qzz a fun x hx=>h x (.inr (.inr hx))⟩
theorem most_ge:∀ (l:List Nn) (m:Int),m≤l.foldl (fun m (x:Nn)=>if x.k=8∨x.k=9 then max m x.n else m) m∧∀ x∈l,(x.k=8∨x.k=9)→x.n≤l.foldl (fun m (x:Nn)=>if x.k=8∨x.k=9 then max m x.n else m) m
 | [],m=>⟨Int.le_refl _,fun x hx=>by simp at hx⟩
 | y :: l,m=>by
  simp only [List.foldl_cons,mem_cons];obtain ⟨h1,h2⟩:=most_ge l (if y.k=8∨y.k=9 then max m y.n else m);refine ⟨Int.le_trans ?_ h1,?_⟩
  ·split <;> omega
  ·rintro x (rfl | hx) hk
   ·rw [if_pos hk] at h1 ⊢;omega
   ·exact h2 x hx hk
theorem most_le (b:Int):∀ (l:List Nn) (m:Int),m≤b→(∀ x∈l,(x.k=8∨x.k=9)→x.n≤b)→l.foldl (fun m (x:Nn)=>if x.k=8∨x.k=9 then max m x.n else m) m≤b
 | [],m,h,_=>h
 | y :: l,m,h,hl=>by
  simp only [List.foldl_cons];refine most_le b l _ ?_ fun x hx=>hl x (by simp [hx]);split
  ·rename_i hk;have:=hl y (by simp) hk;omega
  ·exact h
theorem hle_most (f:Fo):hle (mostN (nodesF f)) f:=qzz _ fun x hx hk=>(most_ge (nodesF f) 0).2 x hx hk
theorem qos:∀ {w:Bool} {f:Fo},okF w f→∀ x∈nodesF f,(x.k=8∨x.k=9)→1≤x.n∧x.n≤8
 | _,.nil,_,x,hx,_=>by simp [nodesF] at hx
 | w,.cons k t n ps r,⟨h1,h2,h3⟩,x,hx,hk=>by
  simp only [nodesF,mem_cons,mem_append] at hx;rcases hx with rfl | hx | hx
  ·simp only at hk ⊢;unfold qv at h1;split at h1
   ·cases h1
   split at h1
   ·cases h1
   rw [if_neg (by omega),if_neg (by omega),if_neg (by omega),if_neg (by omega)] at h1
   try rw [if_pos hk] at h1
   split at h1
   ·cases h1
   ·omega
  ·exact qos h2 x hx hk
  ·exact qos h3 x hx hk
theorem qom (a b:Int) (p q:Bool):∀ {f:Fo},hle a f→hle b f→qm f a p=qm f b q
 | .nil,_,_=>rfl
 | .cons k t n ps r,⟨h1,h2,h3⟩,⟨g1,g2,g3⟩=>by
  simp only [qm,qom a b p q h2 g2,qom a b p q h3 g3];by_cases k9:k=9
  ·rw [if_pos ⟨k9,h1 (.inr k9)⟩,if_pos ⟨k9,g1 (.inr k9)⟩]
  ·by_cases k8:k=8
   ·rw [if_neg (fun h=>k9 h.1),if_pos ⟨k8,h1 (.inl k8)⟩,if_neg (fun h=>k9 h.1),if_pos ⟨k8,g1 (.inl k8)⟩]
   ·simp only [k8,k9,false_and,false_or,if_false]
theorem qx1 {a b:Int} (h:a≤b):∀ {f:Fo},hle a f→hle b f
 | .nil,_=>trivial
 | .cons k t n ps r,⟨h1,h2,h3⟩=>⟨fun hk=>by have:=h1 hk;omega,qx1 h h2,qx1 h h3⟩
theorem qvq {f:Fo} (most:Nat) (hm:mostN (nodesF f)=most):∀ d:Nat,qs f (most + d)=qs f most
 | 0=>rfl
 | d + 1=>by
  rw [show most + (d + 1)=(most + d) + 1 by omega,qkn,qvq most hm d,if_neg,append_nil];intro h;apply h;unfold stF;have h0:=hle_most f;rw [hm] at h0;rw [qom ((most + d:Nat):Int) (((most + d:Nat):Int) + 1) false false (qx1 (by omega) h0) (qx1 (by omega) h0)]
def longF:Fo→Nat→Bool
 | .nil,_=>false
 | .cons _ t _ ps r,d=>decide (d=0)||(decide (60 < t.length∧t.length≤65536)||(decide (65540 < t.length)||(longF ps (d - 1)||longF r d)))
theorem long_spec {S:NP}:∀ (f:Fo) {R:EP} {w:World} {a:OA} {n c:Nat} (d:Nat) (hd:d≤20) (hs:small f) (hf:SlF S w a n f)
  (h:∀ w',Ext w w'→R (.returned (bV (longF f d))) w'),Calls prog qv5 ⟨[lV a n c,iV (d:Int)]⟩ w R:=by
 intro f
 induction hz:f.size using Nat.strongRecOn generalizing f with
 | _ z ih =>
 intro R w a n c d hd hs hf h;unfold small at hs;apply c_ref10_long;have hn:=hf.1;have hfl:=f.len_le_size;refine ⟨fun i W m=>∃ (pre r:Fo),f=pre.app r∧i=pre.len∧m=r.len∧Ext w W∧longF f d=longF r d,⟨_,.nil,f,rfl,rfl,rfl,bR,rfl⟩,?_⟩;rintro _ W m ⟨pre,r,hpr,rfl,rfl,he,heq⟩ _;refine qb (fun hlt=>?_) (fun hge=>?_)
 ·obtain ⟨kd,t,mm,ps,r,rfl⟩:=Fo.next hpr (by omega);have hsl:=Fo.sub_len hpr;have hsz:=Fo.sub_size hpr;obtain ⟨q,a',c',hq,hSq,hql,hN⟩:=(hf.ext he).get hpr;rw [longF] at heq;have tr:(longF f d=true)→R (.returned (bV true)) W:=fun e=>by rw [e] at h;exact h _ he
  refine hq _ ⟨t,hN.text,qb (fun h1=>?_) (fun h1=>?_)⟩
  ·exact tr (by rw [heq,decide_eq_true (by omega)];rfl)
  rw [decide_eq_false (p:=d=0) (by omega),Bool.false_or] at heq;refine qb (fun h2=>qb (fun h3=>tr (by rw [heq,decide_eq_true (by omega)];rfl)) (fun h3=>qb (fun h4=>tr (by rw [heq,decide_eq_true (p:=65540 < t.length) (by omega)];simp)) (fun h4=>?_)))
   (fun h2=>qb (fun h4=>tr (by rw [heq,decide_eq_true (p:=65540 < t.length) (by omega)];simp)) (fun h4=>?_))
  all_goals
   rw [decide_eq_false (p:=60 < t.length∧t.length≤65536) (by omega),decide_eq_false (p:=65540 < t.length) (by omega),Bool.false_or,Bool.false_or] at heq;refine hq _ ⟨a',ps.len,c',hN.parts,?_⟩;rw [show i64.wrap ((d:Int) - 1)=((d - 1:Nat):Int) by rw [qo (by omega)];omega];refine ih _ (hz ▸ hsz) ps rfl (d - 1) (by omega) (by unfold small;omega) hN.sl fun w' he'=>⟨_,rfl,qk (fun g=>?_) (fun g=>?_)⟩
   ·rw [heq,g] at h;exact h _ (qa he he')
   ·exact ⟨r.len,by simp,pre.app (.one kd t mm ps),r,by rw [Fo.app_one_app];exact hpr,by rw [qj (by omega)];simp [Fo.one],rfl,qa he he',by rw [heq,g];rfl⟩
 ·obtain ⟨rfl,rfl⟩:=Fo.last hpr (by omega);have:=h _ he
  rw [heq] at this;exact this
def qi0 (f:Fo):Bool :=
 if f.len≤4096∨4100 < f.len then !decide (f.size≤40∧f.depth≤20)||longF f 20 else decide (f.len < f.size)||longF f 20
theorem Great_spec {R:EP} {S:NP} {w:World} {a:OA} {n c:Nat} {f:Fo} (hf:SlF S w a n f) (h:∀ w',Ext w w'→R (.returned (bV (qi0 f))) w') :
  Calls prog qs7 ⟨[lV a n c]⟩ w R:=by
 apply q8h
 have hn:=hf.1;intro K hK;have k:∀ g,g=decide (n≤4096∨4100 < n)→K g w:=by
  rintro _ rfl;refine hK _ _ fun _=>qb (fun g=>?_) (fun g=>?_)
  ·refine qyh f 20 40 (by omega) (by omega) hf fun w1 e1=>?_;unfold qi0 at h;rw [if_pos (by omega)] at h;unfold szF;split
   ·rename_i hh;rw [decide_eq_true hh] at h;refine ⟨_,_,_,rfl,?_⟩;refine long_spec f 20 (by omega) (by unfold small;omega) (hf.ext e1) fun w2 e2=>⟨_,rfl,h _ (qa e1 e2)⟩
   ·rename_i hh;rw [decide_eq_false hh] at h;exact ⟨_,_,_,rfl,h _ e1⟩
  ·unfold qi0 at h;rw [if_neg (by omega)] at h;refine ⟨fun i W m=>∃ (pre r:Fo),f=pre.app r∧i=pre.len∧m=r.len∧Ext w W∧pre.size=pre.len,⟨_,.nil,f,rfl,rfl,rfl,bR,rfl⟩,?_⟩;rintro _ W m ⟨pre,r,hpr,rfl,rfl,he,heq⟩ _;refine qb (fun hlt=>?_) (fun hge=>?_)
   ·obtain ⟨kd,t,mm,ps,r,rfl⟩:=Fo.next hpr (by omega);have hsl:=Fo.sub_len hpr;obtain ⟨q,a',c',hq,hSq,hql,hN⟩:=(hf.ext he).get hpr;refine hq _ ⟨a',ps.len,c',hN.parts,qb (fun g1=>?_) (fun g1=>?_)⟩
    ·have e:f.len < f.size:=by
      have h1:=congrArg Fo.size hpr;have h2:=congrArg Fo.len hpr;have h3:=r.len_le_size;have h4:=ps.len_le_size;rw [Fo.size_app] at h1;simp only [Fo.len_app,Fo.len_cons,Fo.size] at h1 h2;omega
     rw [decide_eq_true e] at h;exact h _ he
    ·have hp0:ps=.nil:=Fo.eq_nil_of_len (by omega);subst hp0;exact ⟨r.len,by simp,pre.app (.one kd t mm .nil),r,by rw [Fo.app_one_app];exact hpr,by rw [qj (by omega)];simp [Fo.one],rfl,he,by rw [Fo.size_app];simp [Fo.one,Fo.size,heq]⟩
   ·obtain ⟨rfl,rfl⟩:=Fo.last hpr (by omega);rw [decide_eq_false (by omega)] at h;refine long_spec _ 20 (by omega) (by unfold small;rw [heq];omega) (hf.ext he) fun w2 e2=>⟨_,rfl,h _ (qa he e2)⟩
 exact qb (fun g=>k _ (by rw [decide_eq_true (by omega)])) (fun g=>k _ (by rw [decide_eq_decide];omega))
end Go.Proofs
namespace Go.Sh
open Go Go.RowKit
theorem round_in {W:World} {T:TypeId} {zs vs:LV} {l:Nat} {B:Addr→World→World→Prop} (hl:l < W.heap.size) (hlen:vs.length=zs.length) (ho:∀ v∈vs,v.oneCell'=true)
  (h:∀ bx W1 W2,bx=W.heap.size→Ext W W1→Blk W2 bx vs T→Chg (fun k=>k=l) W W2→W2.heap.size=bx + 1→B ⟨bx,0,none⟩ W1 W2) :
  al W T zs fun p w1=>stL w1 p 0 vs fun w2=>Ext W w2∧∀ W2:World,Upd l w2 W2→B p w2 W2:=by
 refine qw hlen ho fun bx w1 hbx hBx e2 s2=>⟨e2,fun W2 hU=>?_⟩;have zU:=hU.size;have hUc:Chg (fun k=>k=l) w1 W2:=⟨hU.os,hU.tape,hU.output,by omega,fun k _ hk=>hU.block k hk⟩;exact h bx w1 W2 hbx e2 (hBx.keep (hU.block bx (by omega))) ((Chg.of_ext e2).trans hUc) (by omega)
theorem RFw_count {α:Type} {P:Program} {N:Nat} {g:Operand} {ps:Array Tmp} {assign body:Code} {env:Env} {ds:List Deferred} {w:World} {x:Nat} {Qn Qr Qx:List Deferred→World→Prop}
  (xA xB:Ann) {gf:FuncId} {cap:LV} (hg:ev env g=.func (.func gf) ⟨[]⟩ ⟨cap⟩) (hok:okFn P gf=true)
  {xs:List α} {E:α→LV→Prop} {Rd:NP} (hit:∀ w1,Ext w w1→IterO P gf cap xs E Rd w1)
  (hps:∀ y vs,E y vs→vs.length=ps.size) (hpN:∀ p∈ps.toList,p < N)
  (hRd:∀ k,Rd k→k < w.heap.size) {w0:World} (hw0:Ext w0 w) {b5:Nat} {T5:TypeId} (h0:w0.heap.size≤b5) (hn5:¬ Rd b5) (val:List α→Int) (B5:Blk w b5 [iV (val [])] T5)
  (hround:∀ pre y vs W l,E y vs→pre++[y] <+: xs→w.heap.size≤l→l < W.heap.size→b5≠l→Blk W b5 [iV (val pre)] T5→Ext w0 W →
   ∀ Kn Kr Kx:World→World→Prop,(∀ W2 W',Ext w0 W2→Chg (fun k=>k=b5) W2 W'→Blk W' b5 [iV (val (pre++[y]))] T5→Kn W2 W')→fragV P N xA xB assign body l x Kn Kr Kx (updPs ps.toList vs env) W)
  (hn:∀ D W,w.heap.size≤D→D < W.heap.size→b5≠D→W.heap[D]? = some (.deferred (some []))→Blk W b5 [iV (val xs)] T5→Ext w0 W→Qn ({ target:=.collected D,args:=#[] } :: ds) W) :
  RFw P none N (.rangeFunc g ps assign body) env ds w x Qn Qr Qx:=by
 have l5:=B5.lt;refine qgx xA xB hg hok (xs:=xs) (E:=E) (Rd:=Rd) hit hps hpN hRd (fun k=>k=b5) (fun k hk=>⟨hk ▸ l5,hk ▸ hn5⟩)
  (fun pre S1 W=>Blk W b5 [iV (val pre)] T5∧(∀ k,S1 k↔k=b5)∧Ext w0 W) (fun _ _=>False) (fun _ _=>False)
  ?_ (fun _ _ _ h=>h.elim) (fun _ _ _ h=>h.elim) ⟨B5,fun k=>Iff.rfl,hw0⟩ ?_ ?_ (fun _ _ _ _ _ _ _ h=>h.elim) (fun _ _ _ _ _ _ _ h=>h.elim)
 ·rintro pre S1 W W' ⟨g1,g2,g3⟩ hc;have z:=hw0.size;refine ⟨hc.blk g1 (fun hh=>hh.2 ((g2 _).2 rfl)),g2,?_⟩;exact g3.trans ⟨hc.os,hc.tape,hc.output,hc.size,fun k hk=>hc.block k (Nat.lt_of_lt_of_le hk g3.size) (fun hh=>by have:=hh.1;omega)⟩
 ·rintro pre y vs S1 W l hE hpre hl1 hl2 hl3 hS1 ⟨g1,g2,g3⟩;have nl:b5≠l:=fun he=>hl3 ((g2 l).2 he.symm);refine hround pre y vs W l hE hpre hl1 hl2 nl g1 g3 _ _ _ fun W2 W' he hc hb=>⟨hc.mono fun k _ hk=>.inl ((g2 k).2 hk),fun k=>k=b5,fun k hk=>⟨.inl ((g2 k).2 hk),hk ▸ hb.lt⟩,hb,fun k=>Iff.rfl,?_⟩;exact he.trans ⟨hc.os,hc.tape,hc.output,hc.size,fun k hk=>hc.block k (Nat.lt_of_lt_of_le hk he.size) (fun hh=>by omega)⟩
 ·rintro D S1 W hD1 hD2 hD3 hD4 ⟨g1,g2,g3⟩;exact hn D W hD1 hD2 (fun he=>hD3 ((g2 D).2 he.symm)) hD4 g1 g3
end Go.Sh
namespace Go.Sh
open Go Go.RowKit
structure Enc (α:Type) where
 enc:α→LV
 size:Nat
 len:∀ x,(enc x).length=size
 pos:0 < size
 one:∀ x,∀ v∈enc x,v.oneCell'=true
section
variable {α:Type} {E:Enc α}
def Enc.row (E:Enc α) (l:List α):LV:=l.flatMap E.enc
@[simp] theorem row_nil:E.row []=[]:=rfl
theorem qgo (x:α) (l:List α):E.row (x :: l)=E.enc x++E.row l:=rfl
theorem row_app (l m:List α):E.row (l++m)=E.row l++E.row m:=by simp [Enc.row]
theorem q6y (l:List α) (x:α):E.row (l++[x])=E.row l++E.enc x:=by simp [Enc.row]
theorem qcz:∀ l:List α,(E.row l).length=l.length * E.size
 | []=>by simp
 | x :: l=>by rw [qgo,List.length_append,E.len,qcz l,List.length_cons,Nat.add_mul,Nat.one_mul];omega
theorem row_one (l:List α):∀ v∈E.row l,v.oneCell'=true:=by
 intro v hv;obtain ⟨x,_,hx⟩:=List.mem_flatMap.1 hv;exact E.one x v hx
theorem row_get {x:α}:∀ {l:List α} {i j:Nat},l[i]? = some x→j < E.size→(E.row l)[i * E.size + j]? = (E.enc x)[j]?
 | [],i,j,h,_=>by simp at h
 | y :: l,0,j,h,hj=>by
  simp at h;subst h;rw [qgo,Nat.zero_mul,Nat.zero_add,List.getElem?_append_left (by rw [E.len];exact hj)]
 | y :: l,i + 1,j,h,hj=>by
  simp at h;rw [qgo,List.getElem?_append_right (by rw [E.len,Nat.add_mul,Nat.one_mul];omega),E.len,show (i + 1) * E.size + j - E.size=i * E.size + j by rw [Nat.add_mul,Nat.one_mul];omega];exact row_get h hj
def RowAt (E:Enc α) (S:NP) (w:World) (a:OA) (n:Nat) (l:List α):Prop:=n=l.length∧At S w a (E.row l)
section
variable {S S':NP} {w w':World} {a:OA} {n:Nat} {l:List α}
theorem RowAt.keep (h:RowAt E S w a n l) (hs:∀ k,S k→k < w.heap.size→S' k∧w'.heap[k]? = w.heap[k]?) (hz:w.heap.size≤w'.heap.size):RowAt E S' w' a n l:=⟨h.1,h.2.keep hs hz⟩
theorem RowAt.ext (h:RowAt E S w a n l) (he:Ext w w'):RowAt E S w' a n l:=h.keep (fun k hk hl=>⟨hk,he.block k hl⟩) he.size
theorem RowAt.chg {T:NP} (h:RowAt E S w a n l) (he:Chg T w w') (hd:∀ k,S k→¬ T k):RowAt E S w' a n l:=h.keep (fun k hk hl=>⟨hk,he.block k hl (hd k hk)⟩) he.size
theorem RowAt.imp (h:RowAt E S w a n l) (hs:∀ k,S k→k < w.heap.size→S' k):RowAt E S' w a n l:=h.keep (fun k hk hl=>⟨hs k hk hl,rfl⟩) (Nat.le_refl _)
theorem RowAt.nil (a:OA):RowAt E S w a 0 []:=⟨rfl,.inl rfl⟩
theorem RowAt.get (h:RowAt E S w a n l) {i:Nat} {x:α} (hi:l[i]? = some x) :
  ∃ b o,(∀ K:Addr→Prop,K ⟨b,o,none⟩→idx a n (i:Int) E.size K)∧S b∧b < w.heap.size∧∀ j v,(E.enc x)[j]? = some v→w.cell? ⟨b,o + j,none⟩=some v:=by
 have hlt:=(List.getElem?_eq_some_iff.1 hi).1;have hn:=h.1;rcases h.2 with h2 | ⟨b,o,rfl,hb,hbl,hc⟩
 ·have:=congrArg List.length h2
  rw [qcz] at this;simp only [List.length_nil] at this;rcases Nat.mul_eq_zero.1 this with h | h
  ·omega
  ·have:=E.pos;omega
 refine ⟨b,o + i * E.size,fun K hK=>⟨by omega,by omega,?_⟩,hb,hbl,fun j v hj=>?_⟩
 ·show K _;rw [qd,Int.toNat_natCast];exact hK
 ·rw [Nat.add_assoc];refine hc _ _ ?_;rw [row_get hi (by have:=(List.getElem?_eq_some_iff.1 hj).1;rw [E.len] at this;exact this)];exact hj
end
abbrev OwnL (E:Enc α) (w:World) (B:Nat) (e:TypeId) (a:OA) (n c:Nat) (l:List α):Prop:=Owns w B e E.size a n c (E.row l)
section
variable {w w':World} {B:Nat} {e:TypeId} {a:OA} {n c:Nat} {l:List α}
theorem OwnL.length (h:OwnL E w B e a n c l):l.length=n:=by
 have:=h.len
 rw [qcz] at this;exact Nat.eq_of_mul_eq_mul_right E.pos this
theorem OwnL.out (h:OwnL E w B e a n c l):RowAt E (bk a) w a n l:=by
 refine ⟨h.length.symm,?_⟩;by_cases hn:0 < n
 ·obtain ⟨g,rfl,hg,hc⟩:=h.cell hn;exact .inr ⟨g,0,rfl,by simp [bk],(h.bk (by simp [bk])).2,fun j v hj=>by rw [Nat.zero_add];exact hc j v hj⟩
 ·have hx:l=[]:=List.eq_nil_of_length_eq_zero (by rw [h.length];omega);subst hx;exact .inl rfl
theorem OwnL.push {P:Program} {t ty:TypeId} {bytes:Nat} {z:Value} (hT:SlT P t e E.size bytes z) (h:OwnL E w B e a n c l) (hB:B≤w.heap.size) (x:α) (hlen:n + 1≤4611686018427387904) (hbytes:(n + 1) * bytes≤140737488355328) {K:OA→Nat→Nat→World→Prop}
  (hk:∀ a' c'' w',OwnL E w' B e a' (n + 1) c'' (l++[x])→Chg (bk a) w w'→(∀ k,bk a' k→bk a k∨w.heap.size≤k)→K a' (n + 1) c'' w') :
  al w e (E.enc x) fun p w1=>app P [t,t] ty (lV a n c) (lV (some p) 1 1) w1 K :=
 qdp hT h hB _ (E.len x) (E.one x) hlen hbytes fun a' c'' w' ho hc hn=>hk a' c'' w' (by unfold OwnL;rw [q6y];exact ho) hc hn
theorem OwnL.pushAll {P:Program} {t ty:TypeId} {bytes:Nat} {z:Value} (hT:SlT P t e E.size bytes z) (h:OwnL E w B e a n c l) (hB:B≤w.heap.size) {S:NP} {a1:OA} {m c1:Nat} {l':List α} (hg:RowAt E S w a1 m l') (hlen:n + m≤4611686018427387904) (hbytes:(n + m) * bytes≤140737488355328) {K:OA→Nat→Nat→World→Prop}
  (hk:∀ a' c'' w',OwnL E w' B e a' (n + m) c'' (l++l')→Chg (bk a) w w'→(∀ k,bk a' k→bk a k∨w.heap.size≤k)→K a' (n + m) c'' w') :
  app P [t,t] ty (lV a n c) (lV a1 m c1) w K :=
 qr0 hT h hB (E.row l') (by rw [qcz,← hg.1]) hg.2 (row_one l') hlen hbytes fun a' c'' w' ho hc hn=>hk a' c'' w' (by unfold OwnL;rw [row_app];exact ho) hc hn
end
theorem q6z (x:α) (n:Nat):E.row (List.replicate n x)=(List.replicate n (E.enc x)).flatten:=by
 induction n with
 | zero=>rfl
 | succ n ih=>rw [List.replicate_succ,qgo,ih,List.replicate_succ,List.flatten_cons]
theorem OwnL.made {w:World} {b B:Nat} {e:TypeId} {x:α} {n:Nat} (h:Blk w b (List.replicate n (E.enc x)).flatten e) (hB:B≤b) (hn:n≤maxLen):OwnL E w B e (some ⟨b,0,none⟩) n n (List.replicate n x):=by
 rw [← q6z] at h;refine ⟨by rw [qcz,List.length_replicate],.inr ⟨b,n,_,rfl,hB,h,Nat.le_refl _,hn,?_,?_⟩⟩
 ·show (E.row (List.replicate n x)).length=n * E.size;rw [qcz,List.length_replicate]
 ·show List.take _ (E.row _)=_;rw [List.take_of_length_le (by rw [qcz,List.length_replicate];exact Nat.le_refl _)]
end
def encI:Enc Int:=⟨fun i=>[iV i],1,fun _=>rfl,by decide,by intro x v hv;simp only [List.mem_singleton] at hv;subst hv;rfl⟩
def encStr:Enc (LU):=⟨fun s=>[sV s],1,fun _=>rfl,by decide,by intro x v hv;simp only [List.mem_singleton] at hv;subst hv;rfl⟩
end Go.Sh
namespace Go.Proofs
open Go Go.Sh Go.RowKit List
abbrev Ps:=LU × Int
def encP:Enc Ps:=⟨fun x=>[sV x.1,iV x.2],2,fun _=>rfl,by decide,by intro x v hv;simp only [mem_cons,not_mem_nil,or_false] at hv;rcases hv with rfl | rfl <;> rfl⟩
def posN (at_:Ps) (x:Nn):Ps × Nat :=
 if x.k=1 then (at_,x.t.length) else if x.k=6 then (at_,x.n.toNat) else if x.k=3 then ((x.t,0),0) else if x.k=2 then ((at_.1,at_.2 + 1),0) else (at_,0)
def endL:Ps→List Nn→Ps
 | p,[]=>p
 | p,x :: l=>endL (posN p x).1 l
theorem qmg:∀ (l:List Nn) (p:Ps) (m:List Nn),endL p (l++m)=endL (endL p l) m
 | [],_,_=>rfl
 | x :: l,p,m=>by simp only [cons_append,endL,qmg l]
theorem endL_bd:∀ (l:List Nn) (p:Ps) (B:Int),0≤p.2→p.2≤B→0≤B→0≤(endL p l).2∧(endL p l).2≤B + l.length
 | [],p,B,h0,h1,h2=>⟨h0,by simp [endL];omega⟩
 | x :: l,p,B,h0,h1,h2=>by
  rw [endL];have key:0≤(posN p x).1.2∧(posN p x).1.2≤B + 1:=by
   unfold posN;split
   ·exact ⟨h0,by show p.2≤_;omega⟩
   ·split
    ·exact ⟨h0,by show p.2≤_;omega⟩
    ·split
     ·exact ⟨Int.le_refl _,by show (0:Int)≤_;omega⟩
     ·split
      ·exact ⟨by show 0≤p.2 + 1;omega,by show p.2 + 1≤_;omega⟩
      ·exact ⟨h0,by show p.2≤_;omega⟩
  have:=endL_bd l (posN p x).1 (B + 1) key.1 key.2 (by omega)
  exact ⟨this.1,by simp only [length_cons];omega⟩
def PSt (b6 b10 B:Nat) (W:World) (oa:OA) (L:List Ps) (p:Ps):Prop :=
 ∃ oc,Blk W b6 [lV oa L.length oc] 83∧OwnL encP W B 51 oa L.length oc L∧Blk W b10 [sV p.1,iV p.2] 51
structure PTo (b6 b10:Nat) (oa:OA) (W:World) (oa':OA) (W':World):Prop where
 chg:Chg (fun j=>j=b6∨j=b10∨bk oa j) W W'
 bk:∀ k,Sh.bk oa' k→Sh.bk oa k∨W.heap.size≤k
section
variable {b6 b10 B:Nat} {W W' W'':World} {oa oa' oa'':OA} {L:List Ps} {p:Ps}
theorem PSt.bk (h:PSt b6 b10 B W oa L p) {k:Nat} (hk:Sh.bk oa k):B≤k∧k < W.heap.size:=by
 obtain ⟨oc,h1,h2,h3⟩:=h;exact Owns.bk h2 hk
end
theorem blk2 {w:World} {b:Nat} {v0 v1:Value} {T:TypeId} (h:Blk w b [v0,v1] T):w.cell? ((⟨b,0,none⟩:Addr).add 0)=some v0∧w.cell? ((⟨b,0,none⟩:Addr).add 1)=some v1:=by
 simp only [qd,h.cell];exact ⟨rfl,rfl⟩
end Go.Proofs
namespace Go.Sh
open Go Go.RowKit
open Go.WideElems (Fit)
open Go.Maps (Keyed)
def anyV:Value→Option (DataW Unit × List MemPlace):=fun _=>some (.nil,[])
def MapT {K V:Type} (P:Program) (k:TypeId) (eK:K→Value) (eV:V→Value) (w:World) (b n:Nat) (f:K→Option V):Prop :=
 ∃ es clock,w.heap[b]? = some (.map es clock)∧Fit P k anyV es clock∧es.size≤n ∧
  ∀ x,(f x=none∧∀ e∈es.toList,e.key≠eK x)∨∃ v,f x=some v∧∃ e∈es.toList,e.key=eK x∧e.val=eV v
section
variable {K V:Type} {P:Program} {k t e:TypeId} {eK:K→Value} {eV:V→Value} {w w':World} {b n:Nat} {f:K→Option V}
theorem MapT.made (w:World):MapT P k eK eV (w.alloc (.map #[] 0)) w.heap.size 0 (fun _=>none) :=
 ⟨#[],0,(MapKept.heap_alloc w _).1,⟨by simp,MapKept.stamped_empty 0,by simp⟩,Nat.le_refl _,fun x=>.inl ⟨rfl,by simp⟩⟩
theorem MapT.lt (h:MapT P k eK eV w b n f):b < w.heap.size:=by
 obtain ⟨es,clock,hb,_⟩:=h;exact (Array.getElem?_eq_some_iff.1 hb).1
theorem MapT.keep (h:MapT P k eK eV w b n f) (hw:w'.heap[b]? = w.heap[b]?):MapT P k eK eV w' b n f:=by
 obtain ⟨es,clock,hb,h⟩:=h;exact ⟨es,clock,hw.trans hb,h⟩
theorem MapT.ext (h:MapT P k eK eV w b n f) (hw:Ext w w'):MapT P k eK eV w' b n f:=h.keep (hw.block b h.lt)
theorem MapT.chg {S:NP} (h:MapT P k eK eV w b n f) (hw:Chg S w w') (hs:¬ S b):MapT P k eK eV w' b n f:=h.keep (hw.block b h.lt hs)
theorem MapT.mono (h:MapT P k eK eV w b n f) {m:Nat} (hm:n≤m):MapT P k eK eV w b m f:=by
 obtain ⟨es,clock,hb,F,hs,h⟩:=h;exact ⟨es,clock,hb,F,Nat.le_trans hs hm,h⟩
theorem MapT.look (h:MapT P k eK eV w b n f) (Kd:Keyed P k) (ht:P.underlying t=some (.map k e)) {z:Value} (hz:(zeroValue e).run P w=.ok z w) {x:K} {kl:Lit} (hkey:keyOf P k (eK x)=some kl) :
  lkAt P t (.map (some b)) (eK x) w (((f x).map eV).getD z):=by
 obtain ⟨es,clock,hb,F,_,hf⟩:=h;unfold lkAt;rcases Maps.fit_look false Kd ht hz hb F hkey with ⟨hrun,hno,_⟩ | ⟨e0,y,h1,h2,hrun,_⟩
 ·rcases hf x with ⟨h0,_⟩ | ⟨v,_,e1,he1,hk1,_⟩
  ·rw [h0];exact hrun
  ·exact absurd hk1 (hno e1 he1)
 ·rcases hf x with ⟨_,h0⟩ | ⟨v,hv,e1,he1,hk1,hv1⟩
  ·exact absurd h2 (h0 e0 h1)
  ·rw [hv];have:e0=e1:=by
    have hn:es.toList.Pairwise (fun x y=>x.key≠y.key):=((MapKept.stamped_iff es clock).1 F.stamped).2.2;obtain ⟨i,hi,rfl⟩:=List.getElem_of_mem h1;obtain ⟨j,hj,rfl⟩:=List.getElem_of_mem he1;have:i=j:=by
     apply Classical.byContradiction;intro hne;rcases Nat.lt_or_gt_of_ne hne with hl | hl
     ·exact List.pairwise_iff_getElem.1 hn i j hi hj hl (h2.trans hk1.symm)
     ·exact List.pairwise_iff_getElem.1 hn j i hj hi hl (hk1.trans h2.symm)
    subst this;rfl
   subst this;rw [hv1] at hrun;simpa using hrun
theorem MapT.look2 (h:MapT P k eK eV w b n f) (Kd:Keyed P k) (ht:P.underlying t=some (.map k e)) {z:Value} (hz:(zeroValue e).run P w=.ok z w) {x:K} {kl:Lit} (hkey:keyOf P k (eK x)=some kl) :
  lkAt2 P t (.map (some b)) (eK x) w (((f x).map eV).getD z) (f x).isSome:=by
 obtain ⟨es,clock,hb,F,_,hf⟩:=h;unfold lkAt2;rcases Maps.fit_look true Kd ht hz hb F hkey with ⟨hrun,hno,_⟩ | ⟨e0,y,h1,h2,hrun,_⟩
 ·rcases hf x with ⟨h0,_⟩ | ⟨v,_,e1,he1,hk1,_⟩
  ·rw [h0];exact hrun
  ·exact absurd hk1 (hno e1 he1)
 ·rcases hf x with ⟨_,h0⟩ | ⟨v,hv,e1,he1,hk1,hv1⟩
  ·exact absurd h2 (h0 e0 h1)
  ·rw [hv];have:e0=e1:=by
    have hn:es.toList.Pairwise (fun x y=>x.key≠y.key):=((MapKept.stamped_iff es clock).1 F.stamped).2.2;obtain ⟨i,hi,rfl⟩:=List.getElem_of_mem h1;obtain ⟨j,hj,rfl⟩:=List.getElem_of_mem he1;have:i=j:=by
     apply Classical.byContradiction;intro hne;rcases Nat.lt_or_gt_of_ne hne with hl | hl
     ·exact List.pairwise_iff_getElem.1 hn i j hi hj hl (h2.trans hk1.symm)
     ·exact List.pairwise_iff_getElem.1 hn j i hj hi hl (hk1.trans h2.symm)
    subst this;rfl
   subst this;rw [hv1] at hrun;simpa using hrun
theorem MapT.update (h:MapT P k eK eV w b n f) (Kd:Keyed P k) (ht:P.underlying t=some (.map k e)) (hn:n < maxLen) {x:K} {v:V} {kl:Lit} (hkey:keyOf P k (eK x)=some kl) (hinj:∀ y,eK y=eK x→y=x) {Q:WP}
  (hq:∀ (w':World) (g:K→Option V),MapT P k eK eV w' b (n + 1) g→Chg (fun j=>j=b) w w'→g x=some v→(∀ y,y≠x→g y=f y)→Q w'):mupd P t (.map (some b)) (eK x) (eV v) w Q:=by
 have hlt:=h.lt;obtain ⟨es,clock,hb,F,hs,hf⟩:=h;have hsz:es.size < maxLen:=Nat.lt_of_le_of_lt hs hn;have chg:∀ o,Chg (fun j=>j=b) w (ChangeMaps.setBlock w b o):=fun o=>⟨rfl,rfl,rfl,by simp [ChangeMaps.setBlock],fun i _ hi=>ChangeMaps.heap_setBlock_other hb _ hi⟩;have fin:∀ es' clock',(Instr.mapUpdate t (.map (some b)) (eK x) (eV v)).run P w=.ok () (ChangeMaps.setBlock w b (.map es' clock'))→Fit P k anyV es' clock'→es'.size≤n + 1 →
   (∃ e1∈es'.toList,e1.key=eK x∧e1.val=eV v)→(∀ e0∈es.toList,e0.key≠eK x→e0∈es'.toList)→(∀ e1∈es'.toList,e1.key≠eK x→e1∈es.toList) →
   mupd P t (.map (some b)) (eK x) (eV v) w Q:=by
  intro es' clock' hrun F' hs' hnew hold hback
  classical
  refine ⟨_,hrun,hq _ (fun y=>if y=x then some v else f y) ⟨es',clock',ChangeMaps.heap_setBlock_same hb _,F',hs',fun y=>?_⟩ (chg _) (by simp) (fun y hy=>by simp [hy])⟩;by_cases hy:y=x
  ·subst hy;obtain ⟨e1,h1,h2,h3⟩:=hnew;exact .inr ⟨v,by simp,e1,h1,h2,h3⟩
  ·have hne:eK y≠eK x:=fun e=>hy (hinj y e);rcases hf y with ⟨h0,h1⟩ | ⟨u,hu,e1,h1,h2,h3⟩
   ·refine .inl ⟨by simp [hy,h0],fun e1 he1 hk=>?_⟩;exact h1 e1 (hback e1 he1 (by rw [hk];exact hne)) hk
   ·exact .inr ⟨u,by simp [hy,hu],e1,hold e1 h1 (by rw [h2];exact hne),h2,h3⟩
 rcases Kd.find w hkey es.toList F.keys with ⟨h1,h2⟩ | ⟨j,e0,h1,h2,h3⟩
 ·refine fin (es.push ⟨eK x,eV v,clock⟩) (clock + 1) ?_ ⟨by simp;omega,MapKept.stamped_push F.stamped h2,?_⟩ (by simp;omega) ⟨⟨eK x,eV v,clock⟩,by simp,rfl,rfl⟩ (fun e0 h0 _=>by simp at h0 ⊢;exact .inl h0) (fun e1 h1 hne=>?_)
  ·simp [Instr.mapUpdate,run_underlying ht,MapKept.run_getObj_map hb,Kd.check w false hkey,h1,MapKept.run_setObj_map _ hb,Result.andThen,ChangeMaps.setBlock]
  ·intro y hy;simp only [Array.toList_push,List.mem_append,List.mem_singleton] at hy;rcases hy with hy | rfl
   ·exact F.reads y hy
   ·exact ⟨_,WideElems.rd_mk hkey rfl⟩
  ·simp only [Array.toList_push,List.mem_append,List.mem_singleton] at h1;rcases h1 with h1 | rfl
   ·exact h1
   ·exact absurd rfl hne
 ·have hj:es[j]? = some e0:=by simpa using h2
  have hjl:j < es.toList.length:=(List.getElem?_eq_some_iff.1 h2).1;have hkeyf:∀ e',es[j]? = some e'→({ e' with key:=eK x,val:=eV v }:MapEntry).key=e'.key:=fun e' he'=>by rw [hj] at he';cases he';exact h3.symm
  have hlist:(es.modify j (fun e'=>{ e' with key:=eK x,val:=eV v })).toList=es.toList.set j { e0 with key:=eK x,val:=eV v }:=by
   apply List.ext_getElem?;intro i;simp only [Array.getElem?_toList,Array.getElem?_modify,List.getElem?_set];by_cases hi:j=i
   ·subst hi;simp [hj];exact (Array.getElem?_eq_some_iff.1 hj).1
   ·simp [hi]
  refine fin (es.modify j (fun e'=>{ e' with key:=eK x,val:=eV v })) clock ?_ ⟨by simpa using F.size,MapKept.stamped_modify F.stamped _ _ (fun _ _=>rfl) (fun e' _ he'=>hkeyf e' he'),?_⟩ (by simp;omega) ?_ ?_ ?_
  ·simp [Instr.mapUpdate,run_underlying ht,MapKept.run_getObj_map hb,Kd.check w false hkey,h1,hj,h3,Kd.stays w hkey,MapKept.run_setObj_map _ hb,Result.andThen,ChangeMaps.setBlock]
  ·intro y hy;rw [hlist] at hy;rcases List.mem_or_eq_of_mem_set hy with hy | rfl
   ·exact F.reads y hy
   ·exact ⟨_,WideElems.rd_mk hkey rfl⟩
  ·exact ⟨{ e0 with key:=eK x,val:=eV v },by rw [hlist];exact List.mem_iff_getElem.2 ⟨j,by simpa using hjl,by simp⟩,rfl,rfl⟩
  ·intro y hy hne;rw [hlist];obtain ⟨i,hi,rfl⟩:=List.getElem_of_mem hy;have hij:j≠i:=fun e=>by
    subst e;have:es.toList[j]=e0:=by rw [List.getElem?_eq_getElem hjl] at h2;exact Option.some.inj h2
    rw [this] at hne;exact hne h3
   exact List.mem_iff_getElem.2 ⟨i,by simpa using hi,by rw [List.getElem_set_ne hij]⟩
  ·intro y hy hne;rw [hlist] at hy;rcases List.mem_or_eq_of_mem_set hy with hy | rfl
   ·exact hy
   ·exact absurd rfl hne
end
theorem qqy {w:World} {K:Nat→World→Prop}
  (h:∀ b w',b=w.heap.size→(∀ {A V:Type} (P:Program) (k:TypeId) (eK:A→Value) (eV:V→Value),MapT P k eK eV w' b 0 (fun _=>none))→Ext w w'→w'.heap.size=b + 1→K b w'):mkm w K :=
 h _ _ rfl (fun P k eK eV=>MapT.made w) ((Below.refl _ w).alloc (Nat.le_refl _) _) (by simp)
end Go.Sh
namespace Go.Proofs
open Go Go.Sh Go.RowKit Go.Proofs.Tryz IntKind List
def ofK (kind:Int) (f:Fo):List Nn:=(nodesF f).filter fun x=>decide (x.k=kind)
theorem ofK_cons (kind:Int) (k t n) (ps r:Fo):ofK kind (.cons k t n ps r)=(if k=kind then [⟨k,t,n,ps⟩] else [])++(ofK kind ps++ofK kind r):=by
 unfold ofK;rw [nodesF,List.filter_cons,filter_append];by_cases h:k=kind
 ·simp [h]
 ·simp [h]
theorem kd9:Maps.Keyed prog 9:=Maps.string_keyed (by kernel_rfl)
abbrev eS (s:LU):Value:=sV s
abbrev eB (b:Bool):Value:=bV b
theorem keyS {s:LU} (h:s.length≤4611686018427387904):keyOf prog 9 (eS s)=some (.string s) :=
 WideMaps.keyOf_string_mk (P:=prog) (by kernel_rfl) (show (⟨⟨s⟩⟩:ByteArray).size≤maxLen by simp only [maxLen];show s.length≤_;omega)
theorem qxu {P:Program} {T:TypeId} {v:Value} (h:(P.info? T).bind (·.zero)=some v) (w:World):(zeroValue T).run P w=.ok v w:=by
 cases hi:P.info? T with
 | none=>rw [hi] at h;cases h
 | some i =>
  rw [hi] at h;have hz:i.zero=some v:=h;simp [zeroValue,typeInfo,hi,hz]
abbrev Rw:=LU × LU
def encRw:Enc Rw:=⟨fun x=>[sV x.1,sV x.2],2,fun _=>rfl,by decide,by intro x v hv;simp only [mem_cons,not_mem_nil,or_false] at hv;rcases hv with rfl | rfl <;> rfl⟩
theorem row_build {α:Type} {E:Enc α} {w:World} {a:Addr} {len:Nat} (hel:∀ i,i < len→∃ x:α,∀ j v,(E.enc x)[j]? = some v→w.cell? ((a.add (i * E.size)).add j)=some v) :
  ∃ L:List α,RowAt E (fun _=>True) w (some a) len L:=by
 by_cases hl0:len=0
 ·subst hl0;exact ⟨[],RowAt.nil _⟩
 obtain ⟨b,o,rfl⟩:∃ b o,a=⟨b,o,none⟩:=by
  obtain ⟨x,hx⟩:=hel 0 (by omega);have hp:=E.pos;have h0:=hx 0 _ (List.getElem?_eq_getElem (by rw [E.len];exact hp));obtain ⟨b,o,spot⟩:=a;have hspot:spot=none:=by simpa [Addr.add] using World.cell?_spot h0
  subst hspot;exact ⟨b,o,rfl⟩
 have build:∀ k,k≤len→∃ L:List α,L.length=k∧∀ j v,(E.row L)[j]? = some v→w.cell? ((⟨b,o,none⟩:Addr).add j)=some v:=by
  intro k
  induction k with
  | zero=>exact fun _=>⟨[],rfl,fun j v hj=>by simp at hj⟩
  | succ k ihk =>
   intro hk;obtain ⟨L,hL,hus⟩:=ihk (by omega);obtain ⟨x,hx⟩:=hel k (by omega);refine ⟨L++[x],by simp [hL],fun j v hj=>?_⟩;rw [q6y] at hj;by_cases hlt:j < (E.row L).length
   ·rw [List.getElem?_append_left hlt] at hj;exact hus j v hj
   ·rw [List.getElem?_append_right (by omega)] at hj;have:=hx _ _ hj
    rw [qd,qd] at this;rw [qcz,hL] at this hlt;rw [qd,show o + j=o + k * E.size + (j - k * E.size) by omega];exact this
 obtain ⟨L,hL,hus⟩:=build len (Nat.le_refl _);refine ⟨L,hL.symm,?_⟩;cases hr:E.row L with
 | nil=>exact .inl rfl
 | cons u us =>
  rw [hr] at hus;have h0:=hus 0 u rfl;refine .inr ⟨b,o,rfl,trivial,?_,fun j v hj=>?_⟩
  ·have:=World.block_lt_of_cell? w _ h0
   simpa [Addr.add] using this
  ·have:=hus j v hj
   rw [qd] at this;exact this
theorem len2 {α:Type} {l:List α} (h:l.length=2):∃ a b,l=[a,b]:=by
 match l,h with
 | [a,b],_=>exact ⟨a,b,rfl⟩
theorem open_rws {H:Type} {enc:TypeId × Value→H} {w:World} {base:Nat} {sp:Nat→Bool} {hd:Bool} (fuel:Nat) (cs:LV) (x:DataW H × List MemPlace) (h:DataW.trod enc prog w base sp hd fuel 23 cs=some x) :
  ∃ (a:OA) (n c:Nat) (L:List Rw),cs=[lV a n c]∧RowAt encRw (fun _=>True) w a n L:=by
 rcases DataW.trod_slice Tryz.underlying23 h with ⟨rfl,_⟩ | ⟨a,len,cap,elems,rest,n,rfl,rfl,_,hb,hl,hm,hel,hall,_⟩
 ·exact ⟨none,0,0,[],rfl,RowAt.nil _⟩
 have h9:Tryz.prog.cellsOf 9=1:=by kernel_rfl
 have h2:Tryz.prog.cellsOf 91=2:=by kernel_rfl
 obtain ⟨L,hL⟩:=row_build (E:=encRw) (w:=w) (a:=a) (len:=len) fun i hi=>by
  have hh:=hall i hi;rw [List.getElem?_eq_getElem (by omega)] at hh;obtain ⟨cs',hc1,hc2⟩:=Option.bind_eq_some_iff.1 hh;rw [h2] at hc1;obtain ⟨_,hlen,hcell⟩:=World.cells?_some hc1;obtain ⟨xs,n',rfl,_,hcl,hxl,hf⟩:=DataW.trod_struct Tryz.underlying91 hc2;obtain ⟨v0,v1,rfl⟩:=len2 hlen;obtain ⟨y0,y1,rfl⟩:=len2 (show xs.length=2 from hxl);have g0:=hf 0 _ rfl;have g1:=hf 1 _ rfl
  try dsimp only at g0
  try simp only [h9] at g0
  try dsimp only at g1
  try simp only [h9] at g1
  obtain ⟨t,e0,_,_⟩:=DataW.trod_string Tryz.underlying9 g0;obtain ⟨u,e1,_,_⟩:=DataW.trod_string Tryz.underlying9 g1;simp [h9] at e0 e1;subst e0 e1;refine ⟨(t.data.toList,u.data.toList),fun j v hj=>?_⟩;have hj2:j < 2:=(List.getElem?_eq_some_iff.1 hj).1;rw [show i * encRw.size=i * 2 from rfl,hcell j hj2];exact hj
 exact ⟨some a,len,cap,L,rfl,hL⟩
structure Lx where
 k:Int
 nm:LU
 vl:LU
 pos:Int
def encX:Enc Lx:=⟨fun x=>[iV x.k,sV x.nm,sV x.vl,iV x.pos],4,fun _=>rfl,by decide,by intro x v hv;simp only [mem_cons,not_mem_nil,or_false] at hv;rcases hv with rfl | rfl | rfl | rfl <;> rfl⟩
abbrev aggX (x:Lx):Value:=.agg ⟨[iV x.k,sV x.nm,sV x.vl,iV x.pos]⟩
def innF (nm vl:LU):LU:=if vl≠[] then nm++([32]++vl) else nm
def textF (x:Lx):LU :=
 if x.k=2 then ([60]++innF x.nm x.vl)++[62] else if x.k=3 then ([60,47]++innF x.nm x.vl)++[62] else if x.k=4 then ([60]++innF x.nm x.vl)++[47,62] else x.vl
theorem blk4x {w:World} {b:Nat} {x:Lx} {T:TypeId} (h:Blk w b [iV x.k,sV x.nm,sV x.vl,iV x.pos] T) :
  w.cell? ((⟨b,0,none⟩:Addr).add 0)=some (iV x.k)∧w.cell? ((⟨b,0,none⟩:Addr).add 1)=some (sV x.nm)∧w.cell? ((⟨b,0,none⟩:Addr).add 2)=some (sV x.vl)∧w.cell? ((⟨b,0,none⟩:Addr).add 3)=some (iV x.pos):=by
 simp only [qd,h.cell];exact ⟨rfl,rfl,rfl,rfl⟩
theorem q5a {R:EP} {w:World} (x:Lx) (h1:x.nm.length≤1000000000) (h2:x.vl.length≤1000000000) (h:∀ w',Ext w w'→R (.returned (sV (textF x))) w'):Calls prog qjb ⟨[aggX x]⟩ w R:=by
 apply q8l;refine qg fun b5 w6 hb5 B5 e6 s6=>?_;obtain ⟨c0,c1,c2,c3⟩:=blk4x B5;have hr:=h w6 e6;unfold textF at hr;refine ⟨_,c1,?_⟩;intro K8 hK8;have k8:∀ inner,inner=innF x.nm x.vl→inner.length≤3000000000→K8 inner w6:=by
  rintro _ rfl hl;refine hK8 _ _ fun _=>⟨_,c0,qb (fun g=>?_) (fun g2=>qb (fun g=>?_) (fun g3=>qb (fun g=>?_) (fun g4=>⟨_,c2,?_⟩)))⟩
  ·rw [if_pos g] at hr;exact ⟨by simp;omega,by simp;omega,hr⟩
  ·rw [if_neg g2,if_pos g] at hr;exact ⟨by simp;omega,by simp;omega,hr⟩
  ·rw [if_neg g2,if_neg g3,if_pos g] at hr;exact ⟨by simp;omega,by simp;omega,hr⟩
  ·rw [if_neg g2,if_neg g3,if_neg g4] at hr;exact hr
 refine ⟨_,c2,qb (fun g=>⟨_,c2,by simp;omega,by simp;omega,k8 _ ?_ ?_⟩) (fun g=>k8 _ ?_ ?_)⟩
 ·unfold innF;rw [if_pos g]
 ·simp;omega
 ·unfold innF;rw [if_neg g]
 ·omega
theorem qzp {R:EP} {w:World} (s:LU) (h:R (.returned (bV (decide (s=[])))) w):Calls prog qtd ⟨[sV s]⟩ w R:=q8o h
theorem qzn {R:EP} {w:World} (n:Int) (h:∀ b w',b=w.heap.size→Blk w' b [iV n] 3→Ext w w'→w'.heap.size=b + 1→R (.returned (.func (.func 284) ⟨[]⟩ ⟨[.pointer (some ⟨b,0,none⟩)]⟩)) w'):Calls prog qly ⟨[iV n]⟩ w R:=by
 apply q0s;exact qg fun b w' hb B e s=>h b w' hb B e s
def cutX (t:LU):Nat :=
 if t.head? = some 60 then (if 0≤Lib.indexByte t 62 then (Lib.indexByte t 62).toNat + 1 else t.length)
 else if 0≤Lib.indexByte t 60 then (Lib.indexByte t 60).toNat else t.length
theorem que {c:UInt8} {r:LU}:1≤cutX (c :: r)∧cutX (c :: r)≤(c :: r).length:=by
 have lt:∀ {x:UInt8},0≤Lib.indexByte (c :: r) x→(Lib.indexByte (c :: r) x).toNat < (c :: r).length:=fun {x} hx=>by
  obtain ⟨h1,_⟩:=Lib.indexByte_some (l:=c :: r) (c:=x) (o:=(Lib.indexByte (c :: r) x).toNat) (by omega);exact (List.getElem?_eq_some_iff.1 h1).1
 unfold cutX;split
 ·split
  ·rename_i h;have:=lt h;omega
  ·simp
 ·rename_i hc;split
  ·rename_i h;have:=lt h
   obtain ⟨h1,_⟩:=Lib.indexByte_some (l:=c :: r) (c:=60) (o:=(Lib.indexByte (c :: r) 60).toNat) (by omega);refine ⟨?_,by omega⟩;apply Classical.byContradiction;intro h0;have:(Lib.indexByte (c :: r) 60).toNat=0:=by omega
   rw [this] at h1;simp at h1 hc;exact hc h1
  ·simp
def qbm:LU→Nat→List (Nat × LU)
 | [],_=>[]
 | c :: r,at_=>(at_,(c :: r).take (cutX (c :: r))) :: qbm ((c :: r).drop (cutX (c :: r))) (at_ + cutX (c :: r))
 termination_by t=>t.length
 decreasing_by
  have:=que (c:=c) (r:=r)
  rw [List.length_drop];omega
structure TagV where
 nm:LU
 em:Bool
 f:Fn
 fa:Array Value
 fb:Array Value
def encT:Enc TagV:=⟨fun x=>[sV x.nm,bV x.em,.func x.f x.fa x.fb],3,fun _=>rfl,by decide,by intro x v hv;simp only [mem_cons,not_mem_nil,or_false] at hv;rcases hv with rfl | rfl | rfl <;> rfl⟩
def tagsV (b8 b64:Nat):List TagV :=
 let hand:LU→TagV:=fun nm=>⟨nm,false,.func 284,⟨[]⟩,⟨[.pointer (some ⟨b8,0,none⟩)]⟩⟩
 [⟨[97,98],false,.func 174,#[],#[]⟩,hand [97,100,100],hand [100,101,108],⟨[103,97,112],true,.func 284,⟨[]⟩,⟨[.pointer (some ⟨b64,0,none⟩)]⟩⟩,⟨[108,98],true,.func 276,#[],#[]⟩,⟨[110,97,109,101],false,.func 90,#[],#[]⟩,
  ⟨[112,98],true,.func 90,#[],#[]⟩,⟨[115,101,99],true,.func 90,#[],#[]⟩,⟨[117,110,99,108,101,97,114],false,.func 276,#[],#[]⟩,⟨[118],true,.func 276,#[],#[]⟩]
theorem tags_spec {R:EP} {w:World}
  (h:∀ b8 b64 bt w',w.heap.size≤b8→w.heap.size≤b64→Blk w' b8 [iV 8] 3→Blk w' b64 [iV 64] 3→RowAt encT (fun k=>w.heap.size≤k) w' (some ⟨bt,0,none⟩) 10 (tagsV b8 b64)→Ext w w'→R (.returned (lV (some ⟨bt,0,none⟩) 10 10)) w') :
  Calls prog qtb ⟨[]⟩ w R:=by
 apply q8m;refine qzn 8 fun b8 w2 hb8 B8 e2 s2=>⟨_,_,_,rfl,?_⟩;refine qzn 64 fun b64 w5 hb64 B64 e5 s5=>⟨_,_,_,rfl,?_⟩;refine qg fun bt w8 hbt Bt e8 s8=>?_;refine h b8 b64 bt w8 (by omega) (by omega) ((B8.ext e5).ext e8) (B64.ext e8) ⟨rfl,.inr ⟨bt,0,rfl,by show w.heap.size≤bt;omega,Bt.lt,fun j v hj=>?_⟩⟩ (qa (qa e2 e5) e8);show _=_;rw [Nat.zero_add,Bt.cell];exact hj
theorem get_tag {S:NP} {w:World} {a:OA} {n:Nat} {L:List TagV} (h:RowAt encT S w a n L) {k:Nat} (hk:k < L.length) :
  ∃ q:Addr,(∀ K:Addr→Prop,K q→idx a n (k:Int) 3 K)∧w.cell? (q.add 0)=some (sV (L[k].nm))∧w.cell? (q.add 1)=some (bV L[k].em)∧w.cell? (q.add 2)=some (.func L[k].f L[k].fa L[k].fb):=by
 obtain ⟨bb,o,hq,_,_,hc⟩:=h.get (i:=k) (x:=L[k]) (List.getElem?_eq_getElem hk);exact ⟨⟨bb,o,none⟩,hq,by show _=_;rw [qd];exact hc 0 _ rfl,by show _=_;rw [qd];exact hc 1 _ rfl,by show _=_;rw [qd];exact hc 2 _ rfl⟩
def tagAt (b8 b64:Nat) (nm:LU):Option TagV:=(tagsV b8 b64).find? fun x=>decide (x.nm=nm)
theorem blk3 {w:World} {b:Nat} {v0 v1 v2:Value} {T:TypeId} (h:Blk w b [v0,v1,v2] T):w.cell? ((⟨b,0,none⟩:Addr).add 0)=some v0∧w.cell? ((⟨b,0,none⟩:Addr).add 1)=some v1∧w.cell? ((⟨b,0,none⟩:Addr).add 2)=some v2:=by
 simp only [qd,h.cell];exact ⟨rfl,rfl,rfl⟩
theorem qz7 {R:EP} {w:World} (nm:LU)
  (h1:∀ b8 b64 w' x,w.heap.size≤b8→w.heap.size≤b64→Blk w' b8 [iV 8] 3→Blk w' b64 [iV 64] 3→tagAt b8 b64 nm=some x→Ext w w'→R (.returned (.tuple ⟨[.agg ⟨[sV nm,bV x.em,.func x.f x.fa x.fb]⟩,bV true]⟩)) w')
  (h2:∀ w',(∀ b8 b64,tagAt b8 b64 nm=none)→Ext w w'→R (.returned (.tuple ⟨[.agg ⟨[sV ([]),bV false,.nilFunc]⟩,bV false]⟩)) w') :
  Calls prog qte ⟨[sV nm]⟩ w R:=by
 apply q8p;refine qg fun b2 w3 hb2 B2 e3 s3=>?_;refine tags_spec fun b8 b64 bt w5 hb8 hb64 B8 B64 hT e5=>⟨_,_,_,rfl,?_⟩;have E5:=qa e3 e5;have hlen:(tagsV b8 b64).length=10:=rfl;have hna:∀ b8' b64',tagAt b8 b64 nm=none→tagAt b8' b64' nm=none:=by
  intro b8' b64' hn;unfold tagAt at hn ⊢;rw [List.find?_eq_none] at hn ⊢;intro x hx;have hm:(tagsV b8 b64).map (·.nm)=(tagsV b8' b64').map (·.nm):=rfl
  have:x.nm∈(tagsV b8 b64).map (·.nm):=by rw [hm];exact List.mem_map_of_mem hx
  obtain ⟨y,hy,hxy⟩:=mem_map.1 this;have:=hn y hy
  rw [← hxy];exact this
 refine ⟨fun i W m=>∃ k:Nat,i=k∧k≤10∧m=10 - k∧((tagsV b8 b64).take k).all (fun x=>decide (x.nm≠nm))=true∧Ext w5 W,⟨_,0,rfl,by omega,rfl,rfl,bR⟩,?_⟩;rintro _ W m ⟨k,rfl,hk,rfl,hall,he⟩ _;have EW:=qa E5 he;have B2':=(B2.ext e5).ext he;have z3:=e3.size;refine qb (fun hlt=>?_) (fun hge=>?_)
 ·have hkL:k < (tagsV b8 b64).length:=by rw [hlen];omega
  obtain ⟨q,hq,c0,c1,c2⟩:=get_tag (hT.ext he) hkL;refine hq _ ⟨_,c0,_,c1,_,c2,?_⟩;refine qw (by simp) (by intro u hu;simp only [mem_cons,not_mem_nil,or_false] at hu;rcases hu with rfl | rfl | rfl <;> rfl) fun bx w18 hbx hBx e18 s18=>?_;obtain ⟨y0,y1,y2⟩:=blk3 hBx;have z18:=e18.size;refine ⟨_,y0,qb (fun g=>?_) (fun g=>?_)⟩
  ·refine ⟨_,y0,_,y1,_,y2,?_⟩;refine qaf (B2'.ext e18) (by simp) (by intro u hu;simp only [mem_cons,not_mem_nil,or_false] at hu;rcases hu with rfl | rfl | rfl <;> rfl) fun w23 b1 x2 x3 x4 x5 x6=>?_;have b1':Blk w23 b2 [sV ((tagsV b8 b64)[k].nm),bV (tagsV b8 b64)[k].em,.func (tagsV b8 b64)[k].f (tagsV b8 b64)[k].fa (tagsV b8 b64)[k].fb] 262:=b1;have hc:Chg (fun j=>j=b2) w18 w23:=⟨x4,x5,x6,by omega,fun j _ hj=>x2 j hj⟩;obtain ⟨u0,u1,u2⟩:=blk3 b1';have E23:Ext w w23:=qi (qa EW e18) hc fun j hj=>by omega
   refine ⟨_,u0,_,u1,_,u2,?_⟩;rw [g];refine h1 b8 b64 w23 _ (by omega) (by omega) (hc.blk ((B8.ext he).ext e18) (by omega)) (hc.blk ((B64.ext he).ext e18) (by omega)) ?_ E23;unfold tagAt;rw [List.find?_eq_some_iff_getElem];refine ⟨by simpa using g,k,hkL,rfl,fun j hj=>?_⟩;have:=all_eq_true.1 hall ((tagsV b8 b64)[j]'(by omega)) (by rw [List.mem_take_iff_getElem];exact ⟨j,by omega,rfl⟩)
   simpa using this
  ·refine ⟨10 - (k + 1),by omega,k + 1,by rw [qj (by omega)],by omega,rfl,?_,qa he e18⟩;rw [List.take_add_one,List.getElem?_eq_getElem hkL,List.all_append,hall];simpa using g
 ·have hk10:k=10:=by omega
  subst hk10;refine qaf B2' (by simp) (by intro u hu;simp only [mem_cons,not_mem_nil,or_false] at hu;rcases hu with rfl | rfl | rfl <;> rfl) fun w28 b1 x2 x3 x4 x5 x6=>?_;have b1':Blk w28 b2 [sV ([]),bV false,.nilFunc] 262:=b1;have hc:Chg (fun j=>j=b2) W w28:=⟨x4,x5,x6,by omega,fun j _ hj=>x2 j hj⟩;obtain ⟨u0,u1,u2⟩:=blk3 b1';refine ⟨_,u0,_,u1,_,u2,h2 w28 (fun b8' b64'=>hna b8' b64' ?_) (qi EW hc fun j hj=>by omega)⟩;unfold tagAt;rw [List.find?_eq_none];intro x hx;rw [take_of_length_le (by rw [hlen];omega)] at hall;have:=all_eq_true.1 hall x hx
  simpa using this
def numV (most:Nat) (s:LU):Bool:=(List.range most).any fun i=>decide (Lib.decDigits (i + 1)=s)
theorem atoi_dec:∀ i:Nat,i < 64→Lib.atoiAll (Lib.decDigits (i + 1))=.ok ((i + 1:Nat):Int):=by decide +kernel
theorem dec_dig:∀ i:Nat,i < 64→(Lib.decDigits (i + 1)).all (fun c=>decide (kd c=3))=true:=by decide +kernel
theorem qqv {most:Nat} (hm:most≤64) (s:LU):numV most s=true↔∃ n:Nat,Lib.atoiAll s=.ok (n:Int)∧1≤n∧n≤most∧Lib.decDigits n=s:=by
 unfold numV;rw [any_eq_true];constructor
 ·rintro ⟨i,hi,h⟩;have hi:=mem_range.1 hi;have h:=of_decide_eq_true h;exact ⟨i + 1,by rw [← h];exact atoi_dec i (by omega),by omega,by omega,h⟩
 ·rintro ⟨n,_,h1,h2,h⟩;exact ⟨n - 1,mem_range.2 (by omega),by rw [show n - 1 + 1=n by omega];exact decide_eq_true h⟩
theorem numV_dig {most:Nat} (hm:most≤64) {s:LU} (h:numV most s=true):∀ c∈s,kd c=3:=by
 obtain ⟨n,_,h1,h2,rfl⟩:=(qqv hm s).1 h;have:=dec_dig (n - 1) (by omega)
 rw [show n - 1 + 1=n by omega] at this;intro c hc;exact of_decide_eq_true (all_eq_true.1 this c hc)
def qxv:List (LU):=[[97,98],[97,100,100],[100,101,108],[103,97,112],[108,98],[110,97,109,101],[112,98],[115,101,99],[117,110,99,108,101,97,114],[118]]
def qcm (nm:LU):Bool:=decide (nm∈qxv)
def qgq (nm:LU):Bool:=decide (nm∈[[108,98],[118],[112,98],[115,101,99],[103,97,112]])
def valB (nm vl:LU):Bool :=
 if nm=[108,98]∨nm=[118]∨nm=[117,110,99,108,101,97,114] then decide (vl=[]) else if nm=[103,97,112] then numV 64 vl
 else if nm=[97,100,100]∨nm=[100,101,108] then numV 8 vl else if nm=[97,98] then qu vl else qaa vl
theorem qzw {nm:LU} {C:LU→Prop} (h:qcm nm=true) (hc:∀ x∈qxv,C x):C nm:=hc nm (of_decide_eq_true h)
theorem word_kd {v:LU} (h:qu v=true):∀ c∈v,kd c≠0∧kd c≤4:=by
 unfold qu at h;simp only [Bool.and_eq_true,decide_eq_true_eq,all_eq_true] at h;obtain ⟨⟨⟨⟨_,h2⟩,h3⟩,_⟩,h5⟩:=h;rw [qhz,if_neg (by omega)] at h3;intro c hc;refine ⟨?_,h5 c hc⟩;by_cases ho:qbb v=true
 ·obtain ⟨j,hj,rfl⟩:=List.mem_iff_getElem.1 hc;have:=all_eq_true.1 ho j (mem_range.2 hj)
  unfold okAt at this;have hk:=kA_eq hj;intro h0;rw [← hk,h0] at this;simp at this
 ·rw [if_neg ho] at h3;cases h3
theorem name_kd {v:LU} (h:qaa v=true):∀ c∈v,kd c≠0∧kd c≤4:=by
 unfold qaa at h;simp only [Bool.and_eq_true,decide_eq_true_eq] at h;intro c hc;rcases qvo h.2 c hc with h | h <;> rw [h] <;> decide
theorem val_kd {nm v:LU} (h:valB nm v=true):∀ c∈v,kd c≠0∧kd c≤4:=by
 unfold valB at h
 repeat' split at h
 ·intro c hc;rw [of_decide_eq_true h] at hc;cases hc
 ·intro c hc;rw [numV_dig (by omega) h c hc];decide
 ·intro c hc;rw [numV_dig (by omega) h c hc];decide
 ·exact word_kd h
 ·exact name_kd h
theorem kd_bad {c:UInt8} (h:kd c≠0∧kd c≤4):c≠32∧c≠47∧c≠60∧c≠62:=by
 refine ⟨?_,?_,?_,?_⟩ <;> rintro rfl <;> revert h <;> decide
theorem nm_bad {nm:LU} (h:qcm nm=true):nm≠[]∧nm.length≤7∧∀ c∈nm,c≠32∧c≠47∧c≠60∧c≠62 :=
 qzw (C:=fun nm=>nm≠[]∧nm.length≤7∧∀ c∈nm,c≠32∧c≠47∧c≠60∧c≠62) h (by decide)
def nameF (t:LU):LU:=t.takeWhile fun c=>!(c == 32||c == 47)
def qcf (part:LU):LU:=(part.take (part.length - 1)).drop 1
def tailF:LU→LU
 | []=>[]
 | c :: r=>if c=32 then r.takeWhile (fun c=>!(c == 47)) else []
def qyf (inner nm:LU):LU:=tailF (inner.drop nm.length)
def qd6 (inner:LU):LU:=(Lib.cut (Lib.trimSuffix inner [47]) [32]).2.1
def zeroX:Lx:=⟨0,[],[],0⟩
def tagX (nm vl:LU):Lx:=⟨if qgq nm=true then 4 else 2,nm,vl,0⟩
def accX (part nm vl:LU):Lx × Int:=if valB nm vl=true∧textF (tagX nm vl)=part then (tagX nm vl,0) else (zeroX,3)
def readF (part:LU):Lx × Int :=
 if (qcf part).head? = some 47 then
  (if qcm (nameF ((qcf part).drop 1))=false then (zeroX,12)
  else if qgq (nameF ((qcf part).drop 1))=false∧[60,47]++nameF ((qcf part).drop 1)++[62]=part then (⟨3,nameF ((qcf part).drop 1),[],0⟩,0) else (zeroX,3))
 else (if qcm (nameF (qcf part))=false then (zeroX,12) else accX part (nameF (qcf part)) (qyf (qcf part) (nameF (qcf part))))
theorem qkl (m:LU):qcf (60 :: (m++[62]))=m:=by
 unfold qcf;rw [show (60 :: (m++[62]):LU).length - 1=(60 :: m:LU).length by simp,show (60 :: (m++[62]):LU)=(60 :: m)++[62] by simp,List.take_left];rfl
theorem q5q:∀ {l:LU} {c:UInt8},c∉l→Lib.index l [c]=-1
 | [],_,_=>rfl
 | b :: l,c,h=>by
  rw [Lib.index,q5q (fun hh=>h (List.mem_cons_of_mem _ hh))];have:¬ c=b:=fun e=>h (by rw [e];exact List.mem_cons_self);simp [this]
theorem index_at:∀ {l r:LU} {c:UInt8},c∉l→Lib.index (l++c :: r) [c]=(l.length:Int)
 | [],r,c,_=>by rw [nil_append,Lib.index];simp
 | b :: l,r,c,h=>by
  rw [cons_append,Lib.index,index_at (fun hh=>h (List.mem_cons_of_mem _ hh))];have:¬ c=b:=fun e=>h (by rw [e];exact List.mem_cons_self);have h2:¬ ((l.length:Int)=-1):=by omega
  simp [this,h2]
theorem inn_chars {nm v:LU} (hn:∀ c∈nm,c≠32∧c≠47∧c≠60∧c≠62) (hv:∀ c∈v,c≠32∧c≠47∧c≠60∧c≠62):∀ c∈innF nm v,c≠47∧c≠60∧c≠62:=by
 intro c hc;unfold innF at hc;split at hc
 ·simp only [mem_append,mem_cons,not_mem_nil,or_false] at hc;rcases hc with h | rfl | h
  ·exact (hn c h).2
  ·decide
  ·exact (hv c h).2
 ·exact (hn c hc).2
theorem cut_inn {nm v:LU} (hn:∀ c∈nm,c≠32∧c≠47∧c≠60∧c≠62):(Lib.cut (innF nm v) [32]).2.1=v:=by
 have h32:(32:UInt8)∉nm:=fun h=>(hn 32 h).1 rfl;unfold Lib.cut innF;by_cases hv:v=[]
 ·subst hv;have e:(if ([]:LU)≠[] then nm++([32]++[]) else nm)=nm:=if_neg (by simp);rw [e,q5q h32];rfl
 ·rw [if_pos hv,List.singleton_append,index_at h32,if_pos (by omega)];show List.drop ((nm.length:Int).toNat + 1) (nm++32 :: v)=v;rw [Int.toNat_natCast,← List.drop_drop,List.drop_left];rfl
theorem no_suffix {m:LU} (h:∀ c∈m,c≠47∧c≠60∧c≠62):Lib.trimSuffix m [47]=m:=by
 unfold Lib.trimSuffix Lib.hasSuffix;rw [if_neg];intro hs;obtain ⟨t,ht⟩:=List.isSuffixOf_iff_suffix.1 hs;exact (h 47 (by rw [← ht];simp)).1 rfl
theorem one_suffix (m:LU):Lib.trimSuffix (m++[47]) [47]=m:=by
 unfold Lib.trimSuffix Lib.hasSuffix;rw [if_pos (List.isSuffixOf_iff_suffix.2 ⟨m,rfl⟩)];simp
theorem tail_inn {nm v t:LU} (hv:∀ c∈v,c≠32∧c≠47∧c≠60∧c≠62) (ht:t=[]∨t=[47]):qyf (innF nm v++t) nm=v:=by
 unfold qyf innF;by_cases h:v=[]
 ·subst h;rw [if_neg (by simp),List.drop_left];rcases ht with rfl | rfl <;> rfl
 ·rw [if_pos h,append_assoc,List.drop_left];show tailF (32 :: (v++t))=v;rw [tailF,if_pos rfl];have hh:∀ c∈v,(!(c == 47))=true:=fun c hc=>by simpa using (hv c hc).2.1
  rw [List.takeWhile_append_of_pos hh];rcases ht with rfl | rfl <;> simp
theorem val_key {part nm v:LU} (hn:qcm nm=true) (hv:valB nm v=true) (hp:textF (tagX nm v)=part):qd6 (qcf part)=v∧qyf (qcf part) nm=v:=by
 obtain ⟨_,_,hc⟩:=nm_bad hn;have hvc:∀ c∈v,c≠32∧c≠47∧c≠60∧c≠62:=fun c h=>kd_bad (val_kd hv c h);have hin:=inn_chars hc hvc;subst hp;unfold tagX textF;by_cases he:qgq nm=true
 ·simp only [he,if_true];rw [if_neg (by decide),if_neg (by decide)];have e:([60]++innF nm v++[47,62]:LU)=60 :: ((innF nm v++[47])++[62]):=by simp
  rw [e,qkl];exact ⟨by unfold qd6;rw [one_suffix,cut_inn hc],tail_inn hvc (.inr rfl)⟩
 ·simp only [he];rw [if_pos (by rfl)];have e:([60]++innF nm v++[62]:LU)=60 :: (innF nm v++[62]):=by simp
  rw [e,qkl];refine ⟨by unfold qd6;rw [no_suffix hin,cut_inn hc],?_⟩;have:=tail_inn (nm:=nm) hvc (.inl rfl)
  rwa [append_nil] at this
theorem acc_PF {part nm:LU} (hn:qcm nm=true):accX part nm (qd6 (qcf part))=accX part nm (qyf (qcf part) nm):=by
 by_cases hP:valB nm (qd6 (qcf part))=true∧textF (tagX nm (qd6 (qcf part)))=part
 ·rw [(val_key hn hP.1 hP.2).2]
 ·by_cases hF:valB nm (qyf (qcf part) nm)=true∧textF (tagX nm (qyf (qcf part) nm))=part
  ·rw [(val_key hn hF.1 hF.2).1]
  ·unfold accX;rw [if_neg hP,if_neg hF]
theorem any_name:∀ b:LU,nameF b=if 0≤Lib.indexAny b [32,47] then b.take (Lib.indexAny b [32,47]).toNat else b
 | []=>rfl
 | c :: l=>by
  have ih:=any_name l;have hg:=Lib.indexAny_ge [32,47] l;unfold nameF at ih ⊢;rw [Lib.indexAny,List.takeWhile_cons];by_cases hc:c=32∨c=47
  ·have h1:([32,47]:LU).contains c=true:=by rcases hc with rfl | rfl <;> rfl
   have h2:(!(c == 32||c == 47))=false:=by rcases hc with rfl | rfl <;> rfl
   rw [h1,h2];rfl
  ·have h1:([32,47]:LU).contains c=false:=by simpa using hc
   have h2:(!(c == 32||c == 47))=true:=by simpa using hc
   rw [h1,h2,ih];simp only [if_true,Bool.false_eq_true,if_false];by_cases hm:Lib.indexAny l [32,47]=-1
   ·rw [hm];simp
   ·have h0:0≤Lib.indexAny l [32,47]:=by omega
    have hb:(Lib.indexAny l [32,47] == -1)=false:=by simpa using hm
    rw [hb,if_pos h0];simp only [Bool.false_eq_true,if_false];rw [if_pos (by omega),show (Lib.indexAny l [32,47] + 1).toNat=(Lib.indexAny l [32,47]).toNat + 1 by omega,List.take_succ_cons]
theorem name_le (b:LU):(nameF b).length≤b.length:=(List.takeWhile_prefix _).length_le
def lexP (at_:Nat) (part:LU):Lx × Int :=
 if part.head?≠some 60 then (if qa1 part=0 then (⟨1,[],part,at_⟩,0) else (zeroX,11))
 else if part.getLast?≠some 62 then (zeroX,3)
 else if (readF part).2=0 then ({ (readF part).1 with pos:=at_ },0) else (zeroX,(readF part).2)
def scanL:List (Nat × LU)→List Lx × Int
 | []=>([],0)
 | p :: r=>if (lexP p.1 p.2).2=0 then (if (scanL r).2=0 then ((lexP p.1 p.2).1 :: (scanL r).1,0) else ([],(scanL r).2)) else ([],(lexP p.1 p.2).2)
def scanF (s:LU):List Lx × Int:=if 65536 < s.length then ([],4) else scanL (qbm s 0)
theorem qy8:∀ {pre:List (Nat × LU)} {out:List Lx},scanL pre=(out,0)→∀ r,scanL (pre++r)=if (scanL r).2=0 then (out++(scanL r).1,0) else ([],(scanL r).2)
 | [],out,h,r=>by
  obtain rfl:out=[]:=(Prod.mk.inj h).1.symm;rw [nil_append];split
  ·rename_i h0;rw [nil_append,← h0]
  ·rename_i h0;cases r with
   | nil=>exact absurd rfl h0
   | cons p r =>
    rw [scanL] at h0 ⊢;split
    ·rename_i h1;rw [if_pos h1] at h0;split
     ·rename_i h2;rw [if_pos h2] at h0;exact absurd rfl h0
     ·rename_i h2;rfl
    ·rfl
 | p :: pre,out,h,r=>by
  rw [scanL] at h;by_cases h1:(lexP p.1 p.2).2=0
  ·rw [if_pos h1] at h;by_cases h2:(scanL pre).2=0
   ·rw [if_pos h2] at h;obtain rfl:(lexP p.1 p.2).1 :: (scanL pre).1=out:=(Prod.mk.inj h).1;have ih:=qy8 (pre:=pre) (out:=(scanL pre).1) (by rw [← h2]) r;rw [cons_append,scanL,if_pos h1,ih];split
    ·rw [if_pos rfl];rfl
    ·rfl
   ·rw [if_neg h2] at h;exact absurd (Prod.mk.inj h).2 h2
  ·rw [if_neg h1] at h;exact absurd (Prod.mk.inj h).2 h1
theorem scanL_one {at_:Nat} {part:LU} {x:Lx} (h:lexP at_ part=(x,0)):scanL [(at_,part)]=([x],0):=by
 rw [scanL];rw [h];rfl
theorem scanL_bad {pre r:List (Nat × LU)} {out:List Lx} {p:Nat × LU} {e:Int} (h:scanL pre=(out,0)) (hl:(lexP p.1 p.2).2=e) (he:e≠0):scanL (pre++p :: r)=([],e):=by
 have e:scanL (p :: r)=([],e):=by rw [scanL,if_neg (by rw [hl];exact he),hl]
 rw [qy8 h,e];exact if_neg he
theorem scanL_err:∀ {l:List (Nat × LU)},(scanL l).2≠0→(scanL l).1=[]
 | [],h=>absurd rfl h
 | p :: r,h=>by
  rw [scanL] at h ⊢;split
  ·rename_i h1;rw [if_pos h1] at h;split
   ·rename_i h2;rw [if_pos h2] at h;exact absurd rfl h
   ·rfl
  ·rfl
theorem scanF_err {s:LU} (h:(scanF s).2≠0):(scanF s).1=[]:=by
 unfold scanF at h ⊢;split
 ·rfl
 ·rename_i h1;rw [if_neg h1] at h;exact scanL_err h
def qb8 (x:Lx):Int :=
 if x.k=1 then (if x.nm≠[] then 12 else if x.vl=[] then 5 else if qa1 x.vl≠0 then 11 else 0)
 else if x.k=2∨x.k=3∨x.k=4 then (if qcm x.nm=true∧qgq x.nm=decide (x.k=4) then 0 else 12) else 8
def qb2 (x:Lx):Bool:=if x.k=3 then decide (x.vl=[]) else valB x.nm x.vl
def qd9 (x:Lx) (pt:Bool) (at_:Int):Int :=
 if qb8 x≠0 then qb8 x else if x.k=1∧pt=true then 10 else if x.k≠1∧qb2 x=false then 3 else if x.pos≠at_ then 9 else 0
def chkGo:List Lx→Bool→Nat→Int
 | [],_,at_=>if 65536 < at_ then 4 else 0
 | x :: r,pt,at_=>if qd9 x pt at_≠0 then qd9 x pt at_ else chkGo r (decide (x.k=1)) (at_ + (textF x).length)
def chkX (l:List Lx):Int:=chkGo l false 0
def qbu (l:List Lx):LU:=l.flatMap textF
def popS (nm:LU) (st:List (LU)):Option (List (LU)):=match st with
 | []=>none
 | t :: st=>if t=nm then some st else none
def qhv:List Lx→List (LU)→Int
 | [],st=>if st=[] then 0 else 12
 | x :: r,st=>if x.k=2 then (if 16 < st.length + 1 then 4 else qhv r (x.nm :: st))
  else if x.k=3 then (match popS x.nm st with
   | none=>12
   | some st'=>qhv r st')
  else qhv r st
def nestX (l:List Lx):Int:=if chkX l≠0 then 1 else qhv l []
end Go.Proofs