/- The contracts of the functions that the law reaches, one after the other, and at the end the law's card. -/
import Derived.Test.YtkecgnlelgdndaaGreatDoorFnA
import Derived.Test.YtkecgnlelgdndaaGreatDoorFnB
import Derived.Test.YtkecgnlelgdndaaGreatDoorFnC
import Derived.Test.YtkecgnlelgdndaaGreatDoorFnD
import Derived.Test.YtkecgnlelgdndaaGreatDoorFnE
import Derived.Test.YtkecgnlelgdndaaGreatDoorShelf
import Derived.Lib.ConvBytes
import Derived.WalkKit
import Derived.ProofKit
import Derived.Lib.Builder
import Derived.Lib.Walk
import Derived.Shelf.RegionOpenPlain
import Derived.Laws.Externs
set_option linter.all false
set_option maxRecDepth 100000
namespace Go.Proofs
open Go Go.Sh Go.RowKit Go.Proofs.Tryz IntKind
def kindF (c:Int):Int :=
 if (97≤c∧c≤122)∨(65≤c∧c≤90) then 1
 else if c=94∨c=126∨c=37 then 2
 else if 48≤c∧c≤57 then 3
 else if c=39 then 4
 else if c=32 then 6
 else if c=46∨c=44∨c=59∨c=58∨c=33∨c=63∨c=40∨c=41∨c=45 then 5
 else 0
def kd (b:UInt8):Int:=kindF b.toNat
theorem kinds_fin:∀ n:Nat,n < 256→(0≤Lib.indexByte [46,44,59,58,33,63,40,41,45] n.toUInt8↔(n=46∨n=44∨n=59∨n=58∨n=33∨n=63∨n=40∨n=41∨n=45)):=by decide +kernel
theorem qnw {b:Bool} {A B:Prop} (p:Prop) (hp:b=true↔p) (h1:p→A) (h2:¬ p→B):br b A B:=by
 cases hb:b
 ·exact h2 fun h=>by have:=hp.2 h;rw [hb] at this;cases this
 ·exact h1 (hp.1 hb)
section
variable {R:Ending→World→Prop} {w:World}
theorem qcl (b:UInt8) (h:R (.returned (.int .i64 (kd b))) w):Calls prog qmn ⟨[.int .u8 (b.toNat:Int)]⟩ w R:=by
 apply q0r
 unfold qjo
 unfold kd at h
 have hlt:b.toNat < 256:=b.toNat_lt
 generalize b.toNat=n at h hlt
 intro K2 hK2
 simp only [br_K]
 refine hK2 _ _ fun _=>qnw ((97≤n∧n≤122)∨(65≤n∧n≤90)) (by simp only [Bool.cond_decide];(repeat' split) <;> simp <;> omega) (fun h1=>?_) (fun h1=>?_)
 ·rw [kindF,if_pos (by omega)] at h;exact h
 intro K5 hK5
 simp only [br_K]
 refine hK5 _ _ fun _=>qnw (n=94∨n=126∨n=37) (by simp only [Bool.cond_decide];(repeat' split) <;> simp <;> omega) (fun h2=>?_) (fun h2=>?_)
 ·rw [kindF,if_neg (by omega),if_pos (by omega)] at h;exact h
 intro K8 hK8
 simp only [br_K]
 refine hK8 _ _ fun _=>qnw (48≤n∧n≤57) (by simp only [Bool.cond_decide];(repeat' split) <;> simp <;> omega) (fun h3=>?_) (fun h3=>?_)
 ·rw [kindF,if_neg (by omega),if_neg (by omega),if_pos (by omega)] at h;exact h
 refine qd (fun h4=>?_) (fun h4=>qd (fun h5=>?_) (fun h5=>?_))
 ·rw [kindF,if_neg (by omega),if_neg (by omega),if_neg (by omega),if_pos (by omega)] at h;exact h
 ·rw [kindF,if_neg (by omega),if_neg (by omega),if_neg (by omega),if_neg (by omega),if_pos (by omega)] at h;exact h
 have hk:=kinds_fin n hlt
 refine qd (fun h6=>?_) (fun h6=>?_)
 ·refine (Tryz.strings_IndexByte _ _ _).mono ?_
  rintro _ _ ⟨rfl,rfl⟩
  refine ⟨_,rfl,qd (fun h7=>?_) (fun h7=>?_)⟩
  ·simp only [Int.toNat_natCast] at h7
   rw [kindF,if_neg (by omega),if_neg (by omega),if_neg (by omega),if_neg (by omega),if_neg (by omega),if_pos (by have:=hk.1 h7;omega)] at h;exact h
  ·simp only [Int.toNat_natCast] at h7
   rw [kindF,if_neg (by omega),if_neg (by omega),if_neg (by omega),if_neg (by omega),if_neg (by omega),if_neg (fun hh=>by have:=hk.2 (by omega);omega)] at h;exact h
 ·rw [kindF,if_neg (by omega),if_neg (by omega),if_neg (by omega),if_neg (by omega),if_neg (by omega),if_neg (by omega)] at h;exact h
theorem qfj (b:UInt8) (h:R (.returned (.int .i64 (kd b))) w):Calls prog quc ⟨[.int .u8 (b.toNat:Int)]⟩ w R:=by
 apply q7a
 unfold qo4
 unfold kd at h
 have hlt:b.toNat < 256:=b.toNat_lt
 generalize b.toNat=n at h hlt
 intro K2 hK2
 simp only [br_K]
 refine hK2 _ _ fun _=>qnw ((97≤n∧n≤122)∨(65≤n∧n≤90)) (by simp only [Bool.cond_decide];(repeat' split) <;> simp <;> omega) (fun h1=>?_) (fun h1=>?_)
 ·rw [kindF,if_pos (by omega)] at h;exact h
 intro K5 hK5
 simp only [br_K]
 refine hK5 _ _ fun _=>qnw (n=94∨n=126∨n=37) (by simp only [Bool.cond_decide];(repeat' split) <;> simp <;> omega) (fun h2=>?_) (fun h2=>?_)
 ·rw [kindF,if_neg (by omega),if_pos (by omega)] at h;exact h
 intro K8 hK8
 simp only [br_K]
 refine hK8 _ _ fun _=>qnw (48≤n∧n≤57) (by simp only [Bool.cond_decide];(repeat' split) <;> simp <;> omega) (fun h3=>?_) (fun h3=>?_)
 ·rw [kindF,if_neg (by omega),if_neg (by omega),if_pos (by omega)] at h;exact h
 refine qd (fun h4=>?_) (fun h4=>?_)
 ·rw [kindF,if_neg (by omega),if_neg (by omega),if_neg (by omega),if_pos (by omega)] at h;exact h
 intro K11 hK11
 simp only [br_K]
 refine hK11 _ _ fun _=>qnw (n=46∨n=44∨n=59∨n=58∨n=33∨n=63∨n=40∨n=41∨n=45) (by simp only [Bool.cond_decide];(repeat' split) <;> simp <;> omega) (fun h5=>?_) (fun h5=>?_)
 ·rw [kindF,if_neg (by omega),if_neg (by omega),if_neg (by omega),if_neg (by omega),if_neg (by omega),if_pos (by omega)] at h;exact h
 refine qd (fun h6=>?_) (fun h6=>?_)
 ·rw [kindF,if_neg (by omega),if_neg (by omega),if_neg (by omega),if_neg (by omega),if_pos (by omega)] at h;exact h
 ·rw [kindF,if_neg (by omega),if_neg (by omega),if_neg (by omega),if_neg (by omega),if_neg (by omega),if_neg (by omega)] at h;exact h
theorem kd_nonneg (b:UInt8):0≤kd b∧kd b≤6:=by
 unfold kd kindF
 repeat' split
 all_goals omega
def letB (c:UInt8):Bool:=kd c == 1||kd c == 3
def qba (s:List UInt8):Nat:=(s.filter letB).length
theorem qxl (s:List UInt8):qba s≤s.length:=List.length_filter_le _ _
theorem qpk (s:List UInt8) (k:Nat) (h:k < s.length):qba (s.take (k + 1))=qba (s.take k) + if kd s[k]=1∨kd s[k]=3 then 1 else 0:=by
 unfold qba
 rw [List.take_succ_eq_append_getElem h,List.filter_append]
 by_cases hc:kd s[k]=1∨kd s[k]=3
 ·have:letB s[k]=true:=by simp [letB];exact hc
  simp [this,hc]
 ·have:letB s[k]=false:=by simp [letB];exact ⟨fun h=>hc (.inl h),fun h=>hc (.inr h)⟩
  simp [this,hc]
theorem q7m (s:List UInt8) (hs:s.length≤9223372036854775806) (h:R (.returned (.int .i64 (qba s))) w):Calls prog qh8 ⟨[.string ⟨⟨s⟩⟩]⟩ w R:=by
 apply qs8
 refine ⟨fun n i w' m=>w'=w∧∃ k:Nat,i=k∧k≤s.length∧n=qba (s.take k)∧m=s.length - k,⟨_,rfl,0,rfl,by omega,rfl,rfl⟩,?_⟩
 rintro n i w' m ⟨rfl,k,rfl,hk,rfl,rfl⟩ _
 have hle:=qxl (s.take k)
 have hle2:(s.take k).length≤k:=List.length_take_le _ _
 refine qd (fun hlt=>?_) (fun hge=>?_)
 ·have hlt':k < s.length:=by omega
  have hst:=qpk s k hlt'
  refine qb3 hlt' (qcl _ ⟨_,rfl,?_⟩)
  rw [qu (by omega),qu (by omega)]
  refine qd (fun h1=>?_) (fun h1=>qd (fun h2=>?_) (fun h2=>?_))
  ·exact ⟨_,Nat.sub_lt_sub_left hlt' (Nat.lt_succ_self k),rfl,k + 1,by simp,by omega,by rw [hst,if_pos (.inl h1)];simp,rfl⟩
  ·exact ⟨_,Nat.sub_lt_sub_left hlt' (Nat.lt_succ_self k),rfl,k + 1,by simp,by omega,by rw [hst,if_pos (.inr h2)];simp,rfl⟩
  ·exact ⟨_,Nat.sub_lt_sub_left hlt' (Nat.lt_succ_self k),rfl,k + 1,by simp,by omega,by rw [hst,if_neg (by simp [h1,h2])];simp,rfl⟩
 ·have:k=s.length:=by omega
  subst this
  rw [List.take_length];exact h
theorem q47 (s:List UInt8) (hs:s.length≤9223372036854775806) (h:R (.returned (.int .i64 (qba s))) w):Calls prog qky ⟨[.string ⟨⟨s⟩⟩]⟩ w R:=by
 apply qyc
 refine ⟨fun n i w' m=>w'=w∧∃ k:Nat,i=k∧k≤s.length∧n=qba (s.take k)∧m=s.length - k,⟨_,rfl,0,rfl,by omega,rfl,rfl⟩,?_⟩
 rintro n i w' m ⟨rfl,k,rfl,hk,rfl,rfl⟩ _
 have hle:=qxl (s.take k)
 have hle2:(s.take k).length≤k:=List.length_take_le _ _
 refine qd (fun hlt=>?_) (fun hge=>?_)
 ·have hlt':k < s.length:=by omega
  have hst:=qpk s k hlt'
  refine qb3 hlt' (qfj _ ⟨_,rfl,?_⟩)
  rw [qu (by omega),qu (by omega)]
  refine qd (fun h1=>?_) (fun h1=>qd (fun h2=>?_) (fun h2=>?_))
  ·exact ⟨_,Nat.sub_lt_sub_left hlt' (Nat.lt_succ_self k),rfl,k + 1,by simp,by omega,by rw [hst,if_pos (.inl h1)];simp,rfl⟩
  ·exact ⟨_,Nat.sub_lt_sub_left hlt' (Nat.lt_succ_self k),rfl,k + 1,by simp,by omega,by rw [hst,if_pos (.inr h2)];simp,rfl⟩
  ·exact ⟨_,Nat.sub_lt_sub_left hlt' (Nat.lt_succ_self k),rfl,k + 1,by simp,by omega,by rw [hst,if_neg (by simp [h1,h2])];simp,rfl⟩
 ·have:k=s.length:=by omega
  subst this
  rw [List.take_length];exact h
theorem right_spec (s:List UInt8) (f i:Nat) (hf:f < s.length) (h:R (.returned (.bool (decide (kd s[f]=1∧f < i)))) w) :
  Calls prog qk3 ⟨[.string ⟨⟨s⟩⟩,.int .i64 (f:Int),.int .i64 (i:Int)]⟩ w R:=by
 apply qyh
 refine qb3 hf (qcl _ ⟨_,rfl,?_⟩)
 refine qd (fun h1=>?_) (fun h1=>?_)
 ·have e:decide ((f:Int) < (i:Int))=decide (kd s[f]=1∧f < i):=by simp [h1]
  rw [e];exact h
 ·have e:false=decide (kd s[f]=1∧f < i):=by simp [h1]
  rw [e];exact h
end
def clGo (s:List UInt8):(m f i:Nat)→List (Nat × List UInt8)
 | 0,_,_=>[]
 | m + 1,f,i=>if i < s.length∧(s[i]?.map kd)=some 2∧(s[f]?.map kd)=some 1 then clGo s m f (i + 1) else (f,(s.take i).drop f) :: clGo s m i (i + 1)
def qen (s:List UInt8):List (Nat × List UInt8):=clGo s s.length 0 1
def clEnc (p:Nat × List UInt8):List Value:=[.int .i64 p.1,.string ⟨⟨p.2⟩⟩]
theorem dr_ok {p:Addr} {K:Addr→Prop} (h:K p):dr (some p) K:=h
theorem q34 (s:List UInt8) (hs:s.length≤9223372036854775805) (b:Nat) (w:World) (hb:Blk w b [.string ⟨⟨s⟩⟩] 9) :
  IterSpec prog qbb [.pointer (some ⟨b,0,none⟩)] (qen s) clEnc (· = b) w:=by
 intro yf ya yb S J Jx R hS hJ hJx hbody h0 hend hstop
 have nS:¬ S b:=fun h=>(hS b h).2 rfl
 apply qls
 refine ⟨fun f i W m=>∃ f' k:Nat,f=f'∧i=k∧1≤k∧k≤s.length + 1∧f' < k∧m=s.length + 1 - k∧w.heap.size≤W.heap.size∧Blk W b [.string ⟨⟨s⟩⟩] 9 ∧
  ∃ pre,pre++clGo s m f' k=qen s∧J pre W,⟨s.length,0,1,rfl,rfl,by omega,by omega,by omega,by omega,Nat.le_refl _,hb,[],rfl,h0⟩,?_⟩
 rintro f i W m ⟨f,k,rfl,rfl,hk1,hk2,hfk,hm,hsz,hB,pre,hpre,hj⟩ _
 refine dr_ok ⟨s,hB.cell 0,?_⟩
 refine qd (fun hle=>?_) (fun hgt=>?_)
 ·have hle':k≤s.length:=by omega
  obtain ⟨m,rfl⟩:∃ m',m=m' + 1:=⟨m - 1,by omega⟩
  have hff:s[f]? = some (s[f]'(by omega)):=by simp
  intro K hK
  -- a cluster ends here
  have hcl:¬ (k < s.length∧(s[k]?.map kd)=some 2∧(s[f]?.map kd)=some 1)→K W:=by
   intro hn
   refine hK W fun _=>?_
   refine dr_ok ⟨s,hB.cell 0,qgy (by omega) hle' ?_⟩
   rw [clGo,if_neg hn] at hpre
   refine (qbh (hbody pre (f,(s.take k).drop f) W ⟨clGo s m k (k + 1),by rw [← hpre];simp⟩ hsz hj) ?_)
   rintro e W' ⟨hc,⟨rfl,hj'⟩ | ⟨rfl,hx'⟩⟩
   ·refine ⟨true,rfl,?_⟩
    rw [qu (by omega)]
    exact ⟨m,by omega,k,k + 1,rfl,by simp,by omega,by omega,by omega,by omega,Nat.le_trans hsz hc.size,hc.blk hB nS,pre++[(f,(s.take k).drop f)],by rw [← hpre];simp,hj'⟩
   ·exact ⟨false,rfl,hstop W' (Nat.le_trans hsz hc.size) hx'⟩
  refine dr_ok ⟨s,hB.cell 0,qd (fun hlt=>?_) (fun hge=>?_)⟩
  ·have hlt':k < s.length:=by omega
   have hkk:s[k]? = some (s[k]'hlt'):=by simp
   refine dr_ok ⟨s,hB.cell 0,qb3 hlt' (qcl _ ⟨_,rfl,qd (fun h2=>?_) (fun h2=>?_)⟩)⟩
   ·refine dr_ok ⟨s,hB.cell 0,right_spec s f k (by omega) ⟨_,rfl,?_⟩⟩
    refine qd (fun h3=>?_) (fun h3=>?_)
    ·rw [qu (by omega)]
     rw [clGo,if_pos ⟨hlt',by rw [hkk];simp [h2],by rw [hff];simp [h3.1]⟩] at hpre
     exact ⟨m,by omega,f,k + 1,rfl,by simp,by omega,by omega,by omega,by omega,hsz,hB,pre,hpre,hj⟩
    ·refine hcl fun ⟨_,_,h4⟩=>h3 ⟨?_,hfk⟩
     rw [hff] at h4;simpa using h4
   ·refine hcl fun ⟨_,h4,_⟩=>h2 ?_
    rw [hkk] at h4;simpa using h4
  ·exact hcl fun ⟨h4,_⟩=>hge (by omega)
 ·have:m=0:=by omega
  subst this
  simp only [clGo,List.append_nil] at hpre
  subst hpre
  exact hend W hsz hj
theorem q33 {R:Ending→World→Prop} {w:World} (s:List UInt8)
  (h:∀ b w',Blk w' b [.string ⟨⟨s⟩⟩] 9→Ext w w'→b=w.heap.size→R (.returned (.func (.func qbb) ⟨[]⟩ ⟨[.pointer (some ⟨b,0,none⟩)]⟩)) w') :
  Calls prog qgu ⟨[.string ⟨⟨s⟩⟩]⟩ w R:=by
 apply qqf
 refine qh fun b w' hb h1 h2 h3=>?_
 exact h b w' h1 h2 hb
theorem qbm {D:Nat} {W:World} {K:World→Prop} (h:W.heap[D]? = some (.deferred (some []))) (hk:K (W.putObj D (.deferred none))) :
  retD [{ target:=.collected D,args:=#[] }] W K:=⟨D,rfl,h,hk⟩
theorem qex {w W W':World} {B:Nat} (h:Ext w W) (hc:Chg (fun k=>B≤k) W W') (hB:w.heap.size≤B):Ext w W' :=
 h.trans ⟨hc.os,hc.tape,hc.output,hc.size,fun k hk=>hc.block k (Nat.lt_of_lt_of_le hk h.size) (by omega)⟩
theorem qi {w W W':World} {S:Nat→Prop} (h:Ext w W) (hc:Chg S W W') (hS:∀ k,S k→w.heap.size≤k):Ext w W' :=
 h.trans ⟨hc.os,hc.tape,hc.output,hc.size,fun k hk=>hc.block k (Nat.lt_of_lt_of_le hk h.size) (fun hh=>by have:=hS k hh;omega)⟩
theorem qb {a b c:World} (h:Ext a b) (k:Ext b c):Ext a c:=h.trans (k.mono h.size)
theorem qb9 {w W:World} {D:Nat} (h:Ext w W) (hD:w.heap.size≤D) (o:Obj):Ext w (W.putObj D o):=qex (B:=w.heap.size) h (Chg.put W D o hD) (Nat.le_refl _)
theorem qct {W:World} {b D:Nat} {cs:List Value} {T:TypeId} (h:Blk W b cs T) (hne:b≠D) (o:Obj):Blk (W.putObj D o) b cs T:=h.keep (World.putObj_heap_other hne)
theorem qr {W:World} {b:Nat} {T:TypeId} {u v:Value} {K:World→Prop} (h:Blk W b [u] T) (ho:v.oneCell'=true)
  (hk:∀ W',Blk W' b [v] T→Chg (· = b) W W'→W'.heap.size=W.heap.size→K W'):stL W ⟨b,0,none⟩ 0 [v] K:=by
 refine qae h (by simp) (by simpa using ho) fun W' h1 h2 h3 h4 h5 h6=>?_
 exact hk W' (by simpa [putAt] using h1) ⟨h4,h5,h6,by omega,fun k _ hk=>h2 k hk⟩ h3
theorem qgx {l:Nat} {W W':World} (h:Upd l W W') {b:Nat} {cs:List Value} {T:TypeId} (hb:Blk W b cs T) (hne:b≠l):Blk W' b cs T:=hb.keep (h.block b hne)
theorem q2q {l:Nat} {W W':World} (h:Upd l W W') {B:Nat} (hl:B≤l):Chg (fun k=>B≤k) W W':=⟨h.os,h.tape,h.output,by rw [h.size];exact Nat.le_refl _,fun k _ hk=>h.block k (fun e=>hk (e ▸ hl))⟩
def okCl (p:Nat × List UInt8):Bool:=match p.2 with
 | c :: _=>!(kd c == 0)&&!(kd c == 2)
 | []=>false
def qa8 (s:List UInt8):Int:=if 65536 < s.length then 4 else if (qen s).all okCl then 0 else 11
theorem q9a (s:List UInt8):∀ (m f i:Nat),f < i→i + m=s.length + 1→∀ p∈clGo s m f i,p.2≠[]
 | 0,_,_,_,_,p,hp=>by simp [clGo] at hp
 | m + 1,f,i,hfi,hm,p,hp=>by
  rw [clGo] at hp
  split at hp
  ·exact q9a s m f (i + 1) (by omega) (by omega) p hp
  ·rcases List.mem_cons.1 hp with rfl | hp
   ·intro h
    have:=congrArg List.length h
    simp at this
    omega
   ·exact q9a s m i (i + 1) (by omega) (by omega) p hp
theorem q88 (s:List UInt8):∀ p∈qen s,p.2≠[]:=q9a s s.length 0 1 (by omega) (by omega)
theorem qe9 {α:Type} {pre xs:List α} {x:α} (h:pre++[x] <+: xs):x∈xs:=by
 obtain ⟨t,rfl⟩:=h;simp
theorem qod {α:Type} {p:α→Bool} {pre xs:List α} {x:α} (h:pre++[x] <+: xs) (hx:p x=false):xs.all p=false:=by
 have:=qe9 h
 cases ha:xs.all p with
 | false=>rfl
 | true=>rw [List.all_eq_true] at ha;rw [ha x this] at hx;cases hx
theorem qlg {R:Ending→World→Prop} {w:World} (s:List UInt8) (h:∀ w',Ext w w'→R (.returned (.int .i64 (qa8 s))) w') :
  Calls prog qk4 ⟨[.string ⟨⟨s⟩⟩]⟩ w R:=by
 apply qyi
 refine qh fun b w1 hb h1 h2 h3=>?_
 refine qd (fun hl=>?_) (fun hl=>?_)
 ·refine qr h1 rfl fun w2 g1 g2 g3=>?_
  refine ⟨4,g1.cell 0,?_⟩
  have e:qa8 s=4:=by unfold qa8;rw [if_pos (by omega)]
  rw [← e]
  exact h w2 (qi h2 g2 fun k hk=>by omega)
 have hl':¬ 65536 < s.length:=by omega
 refine q33 s fun bs w2 hbs h4 h5=>⟨_,_,_,rfl,fun base=>?_⟩
 have hB2:Blk w2 b [.int .i64 0] 28:=h1.ext h4
 have hlt:=hB2.lt
 have hltS:=hbs.lt
 have hsz:=h4.size
 rw [qp0]
 refine RFw_law qfu qfr (gf:=qbb) rfl (by kernel_rfl) (xs:=qen s) (enc:=clEnc) (Rd:=(· = bs))
  (fun w3 he=>q34 s (by omega) bs w3 (hbs.ext he)) (fun y=>rfl) (by decide) (fun k hk=>by omega) (· = b) (fun k hk=>by omega)
  (fun pre W=>Blk W b [.int .i64 0] 28∧pre.all okCl=true∧Ext w W) (fun W=>Blk W b [.int .i64 11] 28∧qa8 s=11∧Ext w W) (fun _=>False)
  ?_ ?_ (fun _ _ h=>h.elim) ⟨hB2,rfl,qb h2 h4⟩ ?_ ?_ ?_ (fun _ _ _ _ _ h=>h.elim)
 ·rintro pre W W' ⟨g1,g2,g3⟩ hc
  exact ⟨hc.blk g1 (by omega),g2,qex g3 hc (by omega)⟩
 ·rintro W W' ⟨g1,g2,g3⟩ hc
  exact ⟨hc.blk g1 (by omega),g2,qex g3 hc (by omega)⟩
 ·rintro pre y W l hpre hl1 hl2 ⟨g1,g2,g3⟩
  have hy:=q88 s y (qe9 hpre)
  obtain ⟨f,t⟩:=y
  cases t with
  | nil=>exact absurd rfl hy
  | cons c t =>
  refine Eq.mpr (qpt base _ _ _ _ _ _ _ _ _ _ _) ?_
  refine ⟨Below.refl _ _,fun W2 hU=>?_⟩
  have g1':=qgx hU g1 (by omega)
  have g3':=qex g3 (q2q hU (Nat.le_refl l)) (by omega)
  refine qvv 0 rfl (by simp) (qcl _ ⟨_,rfl,?_⟩)
  have bad:okCl (f,c :: t)=false→qa8 s=11:=fun hb=>by
   unfold qa8
   rw [if_neg hl',qod hpre hb];rfl
  refine qd (fun hk=>?_) (fun hk=>qd (fun hk2=>?_) (fun hk2=>?_))
  ·exact dr_ok (qr g1' rfl fun W3 q1 q2 q3=>⟨q2,q1,bad (by simp [okCl];intro h0;exact absurd hk h0),qi g3' q2 fun k hk=>by omega⟩)
  ·exact dr_ok (qr g1' rfl fun W3 q1 q2 q3=>⟨q2,q1,bad (by simp [okCl];intro h0;exact hk2),qi g3' q2 fun k hk=>by omega⟩)
  ·refine ⟨Chg.refl _ _,g1',?_,g3'⟩
   rw [List.all_append,g2]
   simp [okCl]
   exact ⟨hk,hk2⟩
 ·rintro D W hD1 hD2 hD3 ⟨g1,g2,g3⟩
  refine qr g1 rfl fun W3 q1 q2 q3=>?_
  have hD4:W3.heap[D]? = some (.deferred (some [])):=(q2.block D hD2 (by omega)).trans hD3
  refine qbm hD4 ⟨0,(qct q1 (by omega) _).cell 0,?_⟩
  have e:qa8 s=0:=by unfold qa8;rw [if_neg hl',g2];rfl
  rw [← e]
  exact h _ (qb9 (qi g3 q2 fun k hk=>by omega) (by omega) _)
 ·rintro D W hD1 hD2 hD3 ⟨g1,g2,g3⟩
  refine qbm hD3 ⟨11,(qct g1 (by omega) _).cell 0,?_⟩
  rw [← g2]
  exact h _ (qb9 g3 (by omega) _)
end Go.Proofs
namespace Go.Sh
open Go Go.RowKit
structure SlT (P:Program) (t e:TypeId) (size bytes:Nat) (z:Value):Prop where
 under:P.underlying t=some (.slice e)
 info:(P.info? e).map (fun i=>(i.zero,i.size,i.bytes))=some (some z,size,bytes)
 zs:z.cells.size=size
 pos:0 < size
theorem SlT.get {P:Program} {t e:TypeId} {size bytes:Nat} {z:Value} (h:SlT P t e size bytes z):∃ i,P.info? e=some i∧i.zero=some z∧i.size=size∧i.bytes=bytes:=by
 have:=h.info
 cases hi:P.info? e with
 | none=>rw [hi] at this;simp at this
 | some i=>rw [hi] at this;simp at this;exact ⟨i,rfl,this⟩
abbrev Owns (w:World) (B:Nat) (e:TypeId) (size:Nat) (a:Option Addr) (n c:Nat) (xs:List Value):Prop:=w.ownsRow B e size (.slice a n c) n xs
def bk (a:Option Addr):Nat→Prop:=fun k=>a.map (·.block)=some k
theorem qj2 {w w':World} {a:Option Addr} {n c:Nat} (h:w.grownBy w' (Value.slice a n c).ownBlock):Chg (bk a) w w':=by
 refine ⟨h.os,h.tape,h.output,h.size,fun k hk hn=>h.block k hk fun e=>hn ?_⟩
 cases a with
 | none=>simp [Value.ownBlock] at e
 | some p=>simp [Value.ownBlock] at e;simp [bk,e]
theorem app_own {P:Program} {t ty e:TypeId} {size bytes:Nat} {z:Value} (hT:SlT P t e size bytes z) {B:Nat} {a:Option Addr} {n c:Nat} {xs:List Value} {w:World} (hown:Owns w B e size a n c xs) (hB:B≤w.heap.size)
  {ad:Addr} {m c':Nat} (news:List Value) (hl:news.length=m * size) (hnews:∀ j u,news[j]? = some u→w.cell? (ad.add j)=some u) (h1:∀ u∈news,u.oneCell'=true)
  (hlen:n + m≤4611686018427387904) (hbytes:(n + m) * bytes≤140737488355328) {K:Option Addr→Nat→Nat→World→Prop}
  (hk:∀ a' c'' w',Owns w' B e size a' (n + m) c'' (xs++news)→Chg (bk a) w w'→K a' (n + m) c'' w') :
  app P [t,t] ty (.slice a n c) (.slice (some ad) m c') w K:=by
 obtain ⟨i,hi,hz,hs,hb⟩:=hT.get
 obtain ⟨v',w',hr,ho,hg,_⟩:=run_append_own w B t ty e i z size bytes hT.under hi hz hs hb hT.zs hT.pos _ n xs hown ad m c' news hl hnews h1 (by simp only [maxLen];omega) hbytes hB
 rcases ho.2 with ⟨rfl,hn⟩ | ⟨g,cap,cur,rfl,h2⟩
 ·refine ⟨none,0,0,w',hr,?_⟩
  have:=hk none 0 w' (by rw [hn];rw [hn] at ho;exact ho) (qj2 hg)
  rwa [hn] at this
 ·exact ⟨some ⟨g,0,none⟩,n + m,cap,w',hr,hk _ _ _ ho (qj2 hg)⟩
theorem app_one {P:Program} {t ty e:TypeId} {size bytes:Nat} {z:Value} (hT:SlT P t e size bytes z) {B:Nat} {a:Option Addr} {n c:Nat} {xs:List Value} {w:World} (hown:Owns w B e size a n c xs) (hB:B≤w.heap.size)
  (cs:List Value) (hl:cs.length=size) (h1:∀ u∈cs,u.oneCell'=true) (hlen:n + 1≤4611686018427387904) (hbytes:(n + 1) * bytes≤140737488355328) {K:Option Addr→Nat→Nat→World→Prop}
  (hk:∀ a' c'' w',Owns w' B e size a' (n + 1) c'' (xs++cs)→Chg (bk a) w w'→K a' (n + 1) c'' w') :
  al w e cs fun p w1=>app P [t,t] ty (.slice a n c) (.slice (some p) 1 1) w1 K:=by
 refine qh fun b w1 hb g1 g2 g3=>?_
 have hown1:Owns w1 B e size a n c xs:=by
  refine ⟨hown.1,?_⟩
  rcases hown.2 with h | ⟨g,cap,cur,e1,e2,e3,e4⟩
  ·exact .inl h
  ·exact .inr ⟨g,cap,cur,e1,e2,(g2.block g (Array.getElem?_eq_some_iff.1 e3).1).trans e3,e4⟩
 refine app_own hT hown1 (by omega) cs (by simp [hl]) (fun j u hj=>?_) h1 hlen hbytes fun a' c'' w' ho hc=>hk a' c'' w' ho ?_
 ·rw [qg,Nat.zero_add,g1.cell];exact hj
 ·exact (Chg.of_ext g2).trans hc
theorem Owns.chg {w w':World} {B:Nat} {e:TypeId} {size:Nat} {a:Option Addr} {n c:Nat} {xs:List Value} {S:Nat→Prop} (h:Owns w B e size a n c xs) (hc:Chg S w w') (hS:∀ k,bk a k→¬ S k):Owns w' B e size a n c xs:=by
 refine ⟨h.1,?_⟩
 rcases h.2 with h | ⟨g,cap,cur,e1,e2,e3,e4⟩
 ·exact .inl h
 ·refine .inr ⟨g,cap,cur,e1,e2,(hc.block g (Array.getElem?_eq_some_iff.1 e3).1 (hS g ?_)).trans e3,e4⟩
  simp at e1;simp [bk,e1.1]
theorem Owns.ext {w w':World} {B:Nat} {e:TypeId} {size:Nat} {a:Option Addr} {n c:Nat} {xs:List Value} (h:Owns w B e size a n c xs) (hc:Ext w w'):Owns w' B e size a n c xs :=
 h.chg (S:=fun _=>False) (.of_ext hc) fun _ _ h=>h
theorem Owns.bk {w:World} {B:Nat} {e:TypeId} {size:Nat} {a:Option Addr} {n c:Nat} {xs:List Value} (h:Owns w B e size a n c xs) {k:Nat} (hk:bk a k):B≤k∧k < w.heap.size:=by
 rcases h.2 with h | ⟨g,cap,cur,e1,e2,e3,e4⟩
 ·simp at h;rw [h.1.1] at hk;simp [Sh.bk] at hk
 ·simp at e1;rw [e1.1] at hk;simp [Sh.bk] at hk;subst hk;exact ⟨e2,(Array.getElem?_eq_some_iff.1 e3).1⟩
theorem Owns.nil (w:World) (B:Nat) (e:TypeId) (size:Nat):Owns w B e size none 0 0 []:=World.ownsRow_nil w B e size
theorem Owns.made {w:World} {b B:Nat} {T:TypeId} {size:Nat} (h:Blk w b [] T) (hB:B≤b):Owns w B T size (some ⟨b,0,none⟩) 0 0 [] :=
 ⟨by simp,.inr ⟨b,0,#[],rfl,hB,h,Nat.le_refl _,by simp [maxLen],by simp,by simp⟩⟩
theorem Owns.cell {w:World} {B:Nat} {e:TypeId} {size:Nat} {a:Option Addr} {n c:Nat} {xs:List Value} (h:Owns w B e size a n c xs) (hn:0 < n) :
  ∃ g,a=some ⟨g,0,none⟩∧B≤g∧∀ j v,xs[j]? = some v→w.cell? ⟨g,j,none⟩=some v:=by
 rcases h.2 with h | ⟨g,cap,cur,e1,e2,e3,e4,e5,e6,e7⟩
 ·omega
 ·simp at e1
  refine ⟨g,e1.1,e2,fun j v hj=>?_⟩
  have hj':j < n * size:=by
   have:=(List.getElem?_eq_some_iff.1 hj).1
   rw [h.1] at this;exact this
  rw [← e7] at hj
  rw [List.getElem?_take] at hj
  rw [if_pos hj'] at hj
  simp [World.cell?,e3]
  simpa using hj
theorem Owns.len {w:World} {B:Nat} {e:TypeId} {size:Nat} {a:Option Addr} {n c:Nat} {xs:List Value} (h:Owns w B e size a n c xs):xs.length=n * size:=h.1
end Go.Sh
namespace Go.Proofs
open Go Go.Sh Go.RowKit Go.Proofs.Tryz IntKind
def kA (s:List UInt8) (i:Nat):Int:=kd (s.getD i 0)
def rtB (s:List UInt8):Nat→Bool
 | 0=>false
 | i + 1=>(kA s (i + 1) == 2)&&(kA s i == 1||rtB s i)
def okAt (s:List UInt8) (j:Nat):Bool:=!(kA s j == 0)&&(!(kA s j == 2)||rtB s j)
def qda (s:List UInt8):Bool:=(List.range s.length).all (okAt s)
theorem rtB_two {s:List UInt8} {i:Nat} (h:rtB s i=true):kA s i=2:=by
 cases i with
 | zero=>simp [rtB] at h
 | succ i=>simp [rtB] at h;exact h.1
theorem kA_get {s:List UInt8} {i:Nat} (h:i < s.length) (k:Int):(s[i]?.map kd)=some k↔kA s i=k:=by
 simp [kA,h]
theorem kA_eq {s:List UInt8} {i:Nat} (h:i < s.length):kd (s[i])=kA s i:=by simp [kA,h]
theorem q89 (s:List UInt8):∀ (m f i:Nat),f < i→i≤s.length→i + m=s.length + 1→(∀ j,f < j→j < i→kA s j=2∧rtB s j=true)→(f + 1 < i→kA s f=1) →
  ((clGo s m f i).all okCl=true↔(kA s f≠0∧kA s f≠2)∧∀ j,i≤j→j < s.length→okAt s j=true)
 | 0,f,i,_,h2,h3,_,_=>by omega
 | m + 1,f,i,h1,h2,h3,h4,h5=>by
  have hf:f < s.length:=by omega
  have hhead:okCl (f,(s.take i).drop f)=true↔kA s f≠0∧kA s f≠2:=by
   have e:(s.take i).drop f=s[f] :: ((s.take i).drop (f + 1)):=by
    rw [List.drop_eq_getElem_cons (by simp;omega)]
    simp
   simp only [okCl,e,kA_eq hf]
   simp
  rw [clGo]
  split
  ·rename_i hc
   obtain ⟨c1,c2,c3⟩:=hc
   rw [kA_get c1] at c2
   rw [kA_get hf] at c3
   have hrt:rtB s i=true:=by
    obtain ⟨q,rfl⟩:∃ q,i=q + 1:=⟨i - 1,by omega⟩
    simp only [rtB,c2,Bool.and_eq_true]
    refine ⟨by simp,?_⟩
    by_cases e:q=f
    ·subst e;simp [c3]
    ·simp [(h4 q (by omega) (by omega)).2]
   rw [q89 s m f (i + 1) (by omega) (by omega) (by omega) (fun j hj1 hj2=>by
    by_cases e:j=i
    ·subst e;exact ⟨c2,hrt⟩
    ·exact h4 j hj1 (by omega)) (fun _=>c3)]
   constructor
   ·rintro ⟨a,b⟩
    refine ⟨a,fun j hj1 hj2=>?_⟩
    by_cases e:j=i
    ·subst e;simp [okAt,c2,hrt]
    ·exact b j (by omega) hj2
   ·rintro ⟨a,b⟩
    exact ⟨a,fun j hj1 hj2=>b j (by omega) hj2⟩
  ·rename_i hc
   rw [List.all_cons,Bool.and_eq_true,hhead]
   by_cases hi:i=s.length
   ·have hm:m=0:=by omega
    subst hm
    simp only [clGo,List.all_nil,and_true]
    constructor
    ·exact fun h=>⟨h,fun j hj1 hj2=>by omega⟩
    ·exact fun h=>h.1
   ·have hi':i < s.length:=by omega
    rw [kA_get hi',kA_get hf] at hc
    rw [q89 s m i (i + 1) (by omega) (by omega) (by omega) (fun j hj1 hj2=>by omega) (fun h=>by omega)]
    have key:(kA s f≠0∧kA s f≠2)→((kA s i≠0∧kA s i≠2)↔okAt s i=true):=by
     intro hs
     unfold okAt
     by_cases h2':kA s i=2
     ·have hkf:kA s f≠1:=fun h=>hc ⟨hi',h2',h⟩
      have hif:i=f + 1:=by
       apply Classical.byContradiction
       intro hne
       exact hkf (h5 (by omega))
      subst hif
      have:rtB s (f + 1)=false:=by
       simp only [rtB,h2']
       have hr:rtB s f=false:=by
        cases hb:rtB s f with
        | false=>rfl
        | true=>exact absurd (rtB_two hb) hs.2
       simp [hr,hkf]
      simp [h2',this]
     ·simp [h2']
    constructor
    ·rintro ⟨a,b,c⟩
     refine ⟨a,fun j hj1 hj2=>?_⟩
     by_cases e:j=i
     ·subst e;exact (key a).1 b
     ·exact c j (by omega) hj2
    ·rintro ⟨a,b⟩
     exact ⟨a,(key a).2 (b i (Nat.le_refl _) hi'),fun j hj1 hj2=>b j (by omega) hj2⟩
theorem q87 (s:List UInt8):(qen s).all okCl=qda s:=by
 rw [Bool.eq_iff_iff]
 by_cases h0:s.length=0
 ·have:s=[]:=List.length_eq_zero_iff.1 h0
  subst this
  simp [qen,clGo,qda]
 ·unfold qen
  rw [q89 s s.length 0 1 (by omega) (by omega) (by omega) (fun j h1 h2=>by omega) (fun h=>by omega)]
  have e0:okAt s 0=true↔(kA s 0≠0∧kA s 0≠2):=by simp [okAt,rtB]
  rw [← e0]
  simp only [qda,List.all_eq_true,List.mem_range]
  constructor
  ·rintro ⟨a,b⟩ j hj
   by_cases e:j=0
   ·subst e;exact a
   ·exact b j (by omega) hj
  ·intro h
   exact ⟨h 0 (by omega),fun j _ hj=>h j hj⟩
theorem qpx (s:List UInt8):qa8 s=if 65536 < s.length then 4 else if qda s then 0 else 11:=by
 unfold qa8;rw [q87]
theorem slT_bool:SlT prog 250 4 1 1 (.bool false):=⟨by kernel_rfl,by kernel_rfl,rfl,by decide⟩
def qeq (l:List Bool):List Value:=l.map Value.bool
theorem q8h {R:Ending→World→Prop} {w:World} (s:List UInt8) (hs:s.length≤65536)
  (h:∀ a c w',Owns w' w.heap.size 4 1 a s.length c (qeq ((List.range s.length).map (rtB s)))→Ext w w'→R (.returned (.slice a s.length c)) w') :
  Calls prog qrh ⟨[.string ⟨⟨s⟩⟩]⟩ w R:=by
 apply q4i
 refine qh fun b w1 hb h1 h2 h3=>?_
 refine ⟨fun a n c i W m=>∃ k:Nat,i=k∧k≤s.length∧n=k∧m=s.length - k∧Owns W w.heap.size 4 1 a n c (qeq ((List.range k).map (rtB s)))∧Ext w W,
  ⟨_,0,rfl,by omega,rfl,rfl,Owns.made h1 (by omega),h2⟩,?_⟩
 rintro a n c i W m ⟨k,rfl,hk,rfl,rfl,ho,he⟩ _
 refine qd (fun hlt=>?_) (fun hge=>?_)
 ·have hlt':n < s.length:=by omega
  have step:∀ v:Bool,v=rtB s n→al W 4 [.bool v] fun p w'=>app prog [250,250] 250 (.slice a n c) (.slice (some p) 1 1) w' fun a' n' c' w'' =>
    ∃ m',m' < s.length - n∧∃ k:Nat,i64.wrap ((n:Int) + 1)=k∧k≤s.length∧n'=k∧m'=s.length - k∧Owns w'' w.heap.size 4 1 a' n' c' (qeq ((List.range k).map (rtB s)))∧Ext w w'':=by
   rintro v rfl
   refine app_one slT_bool ho he.size [.bool (rtB s n)] rfl (by simp [Value.oneCell']) (by omega) (by omega) fun a' c'' w' ho' hc=>?_
   refine ⟨s.length - (n + 1),by omega,n + 1,by rw [qu (by omega)];simp,by omega,rfl,rfl,?_,qi he hc fun k hk=>(ho.bk hk).1⟩
   have e:qeq ((List.range (n + 1)).map (rtB s))=qeq ((List.range n).map (rtB s))++[.bool (rtB s n)]:=by
    simp [qeq,List.range_succ]
   rw [e];exact ho'
  refine qb3 hlt' (qfj _ ⟨_,rfl,?_⟩)
  rw [kA_eq hlt']
  refine qd (fun h4=>?_) (fun h4=>?_)
  ·refine qd (fun h5=>?_) (fun h5=>?_)
   ·obtain ⟨q,rfl⟩:∃ q,n=q + 1:=⟨n - 1,by omega⟩
    have hq:q < s.length:=by omega
    rw [show i64.wrap (((q + 1:Nat):Int) - 1)=(q:Int) by rw [qu (by omega)];omega]
    refine qb3 hq (qfj _ ⟨_,rfl,?_⟩)
    rw [kA_eq hq]
    refine qd (fun h6=>?_) (fun h6=>?_)
    ·exact step true (by simp [rtB,h4,h6])
    ·obtain ⟨g,rfl,hg,hcell⟩:=ho.cell (by omega)
     refine ⟨by omega,by omega,rtB s q,?_,step (rtB s q) (by simp [rtB,h4,h6])⟩
     have:=hcell q (.bool (rtB s q)) (by simp [qeq])
     simpa [qg] using this
   ·have:n=0:=by omega
    subst this
    exact step false rfl
  ·refine step false ?_
   cases n with
   | zero=>rfl
   | succ n=>simp [rtB,h4]
 ·have:n=s.length:=by omega
  subst this
  exact h a c W ho he
theorem qzf {R:Ending→World→Prop} {w:World} (s:List UInt8) (h:∀ w',Ext w w'→R (.returned (.int .i64 (qa8 s))) w') :
  Calls prog qri ⟨[.string ⟨⟨s⟩⟩]⟩ w R:=by
 rw [qpx] at h
 apply q4j
 refine qd (fun hl=>?_) (fun hl=>?_)
 ·rw [if_pos (by omega)] at h
  exact h w (Below.refl _ _)
 rw [if_neg (by omega)] at h
 refine q8h s (by omega) fun a c w1 ho he=>⟨_,_,_,rfl,?_⟩
 refine ⟨fun i W m=>W=w1∧∃ k:Nat,i=k∧k≤s.length∧m=s.length - k∧∀ j,j < k→okAt s j=true,⟨_,rfl,0,rfl,by omega,rfl,by omega⟩,?_⟩
 rintro i W m ⟨rfl,k,rfl,hk,rfl,hall⟩ _
 refine qd (fun hlt=>?_) (fun hge=>?_)
 ·have hlt':k < s.length:=by omega
  refine qb3 hlt' (qfj _ ⟨_,rfl,?_⟩)
  rw [kA_eq hlt']
  have bad:okAt s k=false→R (.returned (.int .i64 11)) W:=fun hb=>by
   have:qda s=false:=by
    cases hc:qda s with
    | false=>rfl
    | true =>
     simp only [qda,List.all_eq_true,List.mem_range] at hc
     rw [hc k hlt'] at hb;cases hb
   rw [this] at h
   exact h W he
  have good:okAt s k=true→∃ m',m' < s.length - k∧W=W∧∃ k':Nat,i64.wrap ((k:Int) + 1)=k'∧k'≤s.length∧m'=s.length - k'∧∀ j,j < k'→okAt s j=true:=fun hg=>by
   refine ⟨s.length - (k + 1),by omega,rfl,k + 1,by rw [qu (by omega)];simp,by omega,rfl,fun j hj=>?_⟩
   by_cases e:j=k
   ·subst e;exact hg
   ·exact hall j (by omega)
  refine qd (fun h4=>?_) (fun h4=>qd (fun h5=>?_) (fun h5=>?_))
  ·exact bad (by simp [okAt,h4])
  ·obtain ⟨g,rfl,hg,hcell⟩:=ho.cell (by omega)
   refine ⟨by omega,by omega,rtB s k,?_,?_⟩
   ·have:=hcell k (.bool (rtB s k)) (by simp [qeq,hlt'])
    simpa [qg] using this
   ·refine ql (fun h6=>?_) (fun h6=>?_)
    ·exact bad (by simp [okAt,h5];simpa using h6)
    ·exact good (by simp [okAt,h5];simpa using h6)
  ·exact good (by simp [okAt,h4,h5])
 ·have:k=s.length:=by omega
  subst this
  have:qda s=true:=by
   simp only [qda,List.all_eq_true,List.mem_range]
   exact hall
  rw [this] at h
  exact h W he
def qv (s:List UInt8):Bool:=decide (1≤s.length)&&decide (s.length≤64)&&decide (qa8 s=0)&&(match s with | []=>false | c :: _=>letB c)&&s.all (fun c=>decide (kd c≤4))
def qaa (s:List UInt8):Bool:=decide (1≤s.length)&&decide (s.length≤16)&&decide (qba s=s.length)
theorem qef (c:UInt8):letB c=true↔kd c=1∨kd c=3:=by simp [letB]
theorem qtu {s:List UInt8} (h:qba s=s.length):∀ c∈s,kd c=1∨kd c=3:=by
 intro c hc
 have:=List.length_filter_eq_length_iff.1 h c hc
 exact (qef c).1 this
theorem name_word {s:List UInt8} (h1:1≤s.length) (h2:s.length≤16) (h:qba s=s.length):qv s=true:=by
 have ha:=qtu h
 unfold qv
 have e1:qa8 s=0:=by
  rw [qpx,if_neg (by omega),if_pos]
  simp only [qda,List.all_eq_true,List.mem_range]
  intro j hj
  have:=ha s[j] (by simp)
  rw [kA_eq hj] at this
  rcases this with e | e <;> simp [okAt,e]
 cases s with
 | nil=>simp at h1
 | cons c t =>
  have hc:=ha c (by simp)
  have h3:(c :: t).all (fun c=>decide (kd c≤4))=true:=by
   rw [List.all_eq_true]
   intro d hd
   have:=ha d hd
   simp;omega
  rw [h3]
  simp only [List.length_cons] at h1 h2
  simp [e1,qef,hc]
  omega
theorem isName_ref (s:List UInt8):(decide (s.length≤16)&&qv s&&decide (qba s=s.length))=qaa s:=by
 unfold qaa
 by_cases h1:1≤s.length
 ·by_cases h2:s.length≤16
  ·by_cases h3:qba s=s.length
   ·simp [h1,h2,h3,name_word h1 h2 h3]
   ·simp [h3]
  ·simp [h2]
 ·have:qv s=false:=by unfold qv;simp [h1]
  simp [h1,this]
section
variable {R:Ending→World→Prop} {w:World}
theorem qea (s:List UInt8) (h:R (.returned (.bool (qaa s))) w):Calls prog qi5 ⟨[.string ⟨⟨s⟩⟩]⟩ w R:=by
 apply qva
 refine qd (fun h1=>qd (fun h2=>?_) (fun h2=>?_)) (fun h1=>?_)
 ·refine q7m s (by omega) ⟨_,rfl,?_⟩
  have:s.length≠0:=fun e=>h1 (List.length_eq_zero_iff.1 e)
  have e:qaa s=decide ((qba s:Int)=(s.length:Int)):=by
   unfold qaa
   rw [Bool.eq_iff_iff]
   simp
   omega
  rw [← e];exact h
 ·have e:qaa s=false:=by unfold qaa;rw [show decide (s.length≤16)=false by simp;omega];simp
  rw [e] at h;exact h
 ·have e:qaa s=false:=by have:s=[]:=Classical.byContradiction h1;subst this;rfl
  rw [e] at h;exact h
theorem s2b_intro {l:List UInt8} {K:Option Addr→Nat→Nat→World→Prop}
  (h:∀ c w',(∀ j (hj:j < l.length),w'.cell? ⟨w.heap.size,j,none⟩=some (.int .u8 (l[j].toNat:Int)))→Ext w w'→K (some ⟨w.heap.size,0,none⟩) l.length c w'):s2b prog w 5 l K:=by
 have hsh:∀ c:Array Value,(w.drew.alloc (.cells c 5)).shape? w.heap.size=some (5,c.size):=by
  intro c
  simp [World.shape?,World.alloc,World.drew,-World.alloc_eq,-World.drew_eq]
 refine ⟨some ⟨w.heap.size,0,none⟩,l.length,grownCap w l.length 0 5,Lib.bytesWorld w 5 ⟨⟨l⟩⟩,?_,h _ _ (fun j hj=>?_) ?_⟩
 ·have:=hsh
  simp [Conv.stringToBytes,newRow,markStringish,Question.forced,Lib.bytesWorld,Lib.bytesCells,grownCap,hsh,Result.andThen,ByteArray.size]
 ·have:=Lib.bytesWorld_cell w 5 ⟨⟨l⟩⟩ j (by simpa [ByteArray.size] using hj)
  rw [this];simp [List.getD,hj]
 ·exact ⟨rfl,rfl,rfl,by rw [Lib.bytesWorld_size];omega,fun k hk=>Lib.bytesWorld_at_old w 5 _ k hk⟩
def psB (c:UInt8):Bool:=decide (4 < kd c)
theorem q48 (b:UInt8) (h:R (.returned (.bool (psB b))) w):Calls prog qgv ⟨[.int .u8 (b.toNat:Int)]⟩ w R:=by
 apply qqg
 refine qcl _ ⟨_,rfl,?_⟩
 have hk:=kd_nonneg b
 refine qd (fun h5=>?_) (fun h5=>?_)
 ·rw [show true=psB b by simp [psB];omega];exact h
 ·rw [show decide (kd b=6)=psB b by unfold psB;rw [decide_eq_decide];omega];exact h
theorem qoe {p:UInt8→Bool} {g:FuncId} (hg:okFn prog g=true) (hp:∀ {R:Ending→World→Prop} {w:World} (b:UInt8),R (.returned (.bool (p b))) w→Calls prog g ⟨[.int .u8 (b.toNat:Int)]⟩ w R)
  (l:List UInt8) (hl:l.length≤9223372036854775806) {b c:Nat} (hc:∀ j (hj:j < l.length),w.cell? ⟨b,j,none⟩=some (.int .u8 (l[j].toNat:Int)))
  (h:∀ i:Int,(0≤i↔l.any p=true)→R (.returned (.int .i64 i)) w) :
  Calls prog qbf ⟨[.slice (some ⟨b,0,none⟩) l.length c,.func (.func g) #[] #[]]⟩ w R:=by
 apply qd8
 refine ⟨fun i W m=>W=w∧∃ k:Nat,i=k∧k≤l.length∧m=l.length - k∧(l.take k).any p=false,⟨_,rfl,0,rfl,by omega,rfl,rfl⟩,?_⟩
 rintro i W m ⟨rfl,k,rfl,hk,rfl,hany⟩ _
 refine qd (fun hlt=>?_) (fun hge=>?_)
 ·have hlt':k < l.length:=by omega
  refine ⟨by omega,by omega,?_⟩
  refine dr_ok ⟨_,by rw [qg];simpa using hc k hlt',hg,hp _ ⟨_,rfl,?_⟩⟩
  refine ql (fun hb=>?_) (fun hb=>?_)
  ·refine h _ ⟨fun _=>?_,fun _=>by omega⟩
   rw [List.any_eq_true];exact ⟨l[k],by simp,hb⟩
  ·refine ⟨l.length - (k + 1),by omega,rfl,k + 1,by rw [qu (by omega)];simp,by omega,rfl,?_⟩
   rw [List.take_succ_eq_append_getElem hlt',List.any_append,hany];simp [hb]
 ·have:k=l.length:=by omega
  subst this
  rw [List.take_length] at hany
  exact h _ ⟨fun hh=>by omega,fun hh=>by rw [hany] at hh;cases hh⟩
theorem qy4 (s:List UInt8) (h:∀ w',Ext w w'→R (.returned (.bool (qv s))) w'):Calls prog qi4 ⟨[.string ⟨⟨s⟩⟩]⟩ w R:=by
 apply qu9
 intro K2 hK2
 refine qd (fun h1=>?_) (fun h1=>qd (fun h2=>?_) (fun h2=>?_))
 ·subst h1;exact h w (Below.refl _ _)
 ·rw [show qv s=false by unfold qv;rw [show decide (s.length≤64)=false by simp;omega];simp] at h
  exact h w (Below.refl _ _)
 obtain ⟨c,t,rfl⟩:∃ c t,s=c :: t:=by cases s with | nil=>exact absurd rfl h1 | cons c t=>exact ⟨c,t,rfl⟩
 refine qlg _ fun w1 he1=>⟨_,rfl,qd (fun h3=>?_) (fun h3=>?_)⟩
 ·rw [show qv (c :: t)=false by unfold qv;rw [show decide (qa8 (c :: t)=0)=false by simpa using h3];simp] at h
  exact h _ he1
 have h3:qa8 (c :: t)=0:=Classical.byContradiction h3
 refine hK2 _ fun _=>?_
 intro K4 hK4
 have fin:letB c=true→K4 w1:=fun hc=>by
  refine hK4 _ fun _=>s2b_intro fun cp w2 hcells he2=>?_
  apply qc4
  refine qoe (p:=psB) (by kernel_rfl) (fun b hb=>q48 b hb) _ (by omega) hcells fun i hi=>⟨_,rfl,_,rfl,?_⟩
  have e:(!decide (0≤i))=qv (c :: t):=by
   have e1:qv (c :: t)=!((c :: t).any psB):=by
    unfold qv
    rw [List.not_any_eq_all_not]
    have e2:(c :: t).all (fun c=>decide (kd c≤4))=(c :: t).all (fun x=>!psB x):=by
     congr 1;funext x;unfold psB;rw [Bool.eq_iff_iff];simp;
    rw [e2,h3]
    have e3:decide ((c :: t).length≤64)=true:=by simp only [decide_eq_true_eq];omega
    rw [e3]
    simp [hc]
   rw [e1]
   cases ha:(c :: t).any psB with
   | true=>simp [hi,ha]
   | false =>
    have:¬ 0≤i:=fun hh=>by rw [hi,ha] at hh;cases hh
    simp [this]
  rw [e];exact h _ (qb he1 he2)
 refine qvv 0 rfl (by simp) (qcl _ ⟨_,rfl,qd (fun h4=>qd (fun h5=>?_) (fun h5=>?_)) (fun h4=>?_)⟩)
 ·simp only [List.getElem_cons_zero] at h4 h5
  rw [show qv (c :: t)=false by unfold qv;have:letB c=false:=(by (simp [letB];exact ⟨h4,h5⟩));simp [this]] at h
  exact h _ he1
 ·simp only [List.getElem_cons_zero] at h4 h5
  exact fin ((qef c).2 (.inr (Classical.byContradiction h5)))
 ·simp only [List.getElem_cons_zero] at h4
  exact fin ((qef c).2 (.inl (Classical.byContradiction h4)))
theorem qt1 (s:List UInt8) (h:∀ w',Ext w w'→R (.returned (.bool (qv s))) w'):Calls prog qmg ⟨[.string ⟨⟨s⟩⟩]⟩ w R:=by
 apply q0k
 intro K2 hK2
 refine qd (fun h1=>?_) (fun h1=>qd (fun h2=>?_) (fun h2=>?_))
 ·rw [show qv s=false by unfold qv;rw [show decide (1≤s.length)=false by rw [decide_eq_false_iff_not];omega];simp] at h
  exact h w (Below.refl _ _)
 ·rw [show qv s=false by unfold qv;rw [show decide (s.length≤64)=false by simp;omega];simp] at h
  exact h w (Below.refl _ _)
 obtain ⟨c,t,rfl⟩:∃ c t,s=c :: t:=by cases s with | nil=>exact absurd (by simp) h1 | cons c t=>exact ⟨c,t,rfl⟩
 refine qzf _ fun w1 he1=>⟨_,rfl,qd (fun h3=>?_) (fun h3=>?_)⟩
 ·rw [show qv (c :: t)=false by unfold qv;rw [show decide (qa8 (c :: t)=0)=false by simpa using h3];simp] at h
  exact h _ he1
 have h3:qa8 (c :: t)=0:=Classical.byContradiction h3
 refine hK2 _ fun _=>?_
 intro K4 hK4
 have fin:letB c=true→K4 w1:=fun hc=>by
  refine hK4 _ fun _=>?_
  have e1:qv (c :: t)=(c :: t).all (fun c=>decide (kd c≤4)):=by
   unfold qv
   have e3:decide ((c :: t).length≤64)=true:=by simp only [decide_eq_true_eq];omega
   rw [h3,e3]
   simp [hc]
  rw [e1] at h
  clear hK4 hK2 e1
  generalize c :: t=s at h h2
  refine ⟨fun i W m=>W=w1∧∃ k:Nat,i=k∧k≤s.length∧m=s.length - k∧(s.take k).all (fun c=>decide (kd c≤4))=true,⟨_,rfl,0,rfl,by omega,rfl,rfl⟩,?_⟩
  rintro i W m ⟨rfl,k,rfl,hk,rfl,hall⟩ _
  refine qd (fun hlt=>?_) (fun hge=>?_)
  ·have hlt':k < s.length:=by omega
   refine qb3 hlt' (qfj _ ⟨_,rfl,qd (fun h6=>?_) (fun h6=>?_)⟩)
   ·have:s.all (fun c=>decide (kd c≤4))=false:=by
     cases hh:s.all (fun c=>decide (kd c≤4)) with
     | false=>rfl
     | true =>
      rw [List.all_eq_true] at hh
      have:=hh s[k] (by simp)
      simp at this;omega
    rw [this] at h;exact h _ he1
   ·refine ⟨s.length - (k + 1),by omega,rfl,k + 1,by rw [qu (by omega)];simp,by omega,rfl,?_⟩
    rw [List.take_succ_eq_append_getElem hlt',List.all_append,hall];simpa using h6
  ·have:k=s.length:=by omega
   subst this
   rw [List.take_length] at hall
   rw [hall] at h;exact h _ he1
 refine qvv 0 rfl (by simp) (qfj _ ⟨_,rfl,qd (fun h4=>qd (fun h5=>?_) (fun h5=>?_)) (fun h4=>?_)⟩)
 ·simp only [List.getElem_cons_zero] at h4 h5
  rw [show qv (c :: t)=false by unfold qv;have:letB c=false:=(by (simp [letB];exact ⟨h4,h5⟩));simp [this]] at h
  exact h _ he1
 ·simp only [List.getElem_cons_zero] at h4 h5
  exact fin ((qef c).2 (.inr (Classical.byContradiction h5)))
 ·simp only [List.getElem_cons_zero] at h4
  exact fin ((qef c).2 (.inl (Classical.byContradiction h4)))
theorem qt2 (s:List UInt8) (h:∀ w',Ext w w'→R (.returned (.bool (qaa s))) w'):Calls prog qmh ⟨[.string ⟨⟨s⟩⟩]⟩ w R:=by
 apply q0l
 rw [← isName_ref] at h
 refine qd (fun h1=>?_) (fun h1=>?_)
 ·refine qt1 s fun w1 he=>⟨_,rfl,?_⟩
  refine ql (fun h2=>?_) (fun h2=>?_)
  ·refine q47 s (by omega) ⟨_,rfl,?_⟩
   rw [h2] at h
   have e:(decide (s.length≤16)&&true&&decide (qba s=s.length))=decide ((qba s:Int)=(s.length:Int)):=by
    rw [Bool.eq_iff_iff];simp;omega
   rw [← e];exact h _ he
  ·rw [h2] at h;simp only [Bool.and_false,Bool.false_and] at h;exact h _ he
 ·rw [show decide (s.length≤16)=false by simp;omega] at h
  exact h w (Below.refl _ _)
end
end Go.Proofs
namespace Go.Sh
open Go Go.RowKit
def At (S:Nat→Prop) (w:World) (a:Option Addr) (us:List Value):Prop :=
 us=[]∨∃ b o,a=some ⟨b,o,none⟩∧S b∧b < w.heap.size∧∀ j v,us[j]? = some v→w.cell? ⟨b,o + j,none⟩=some v
theorem qv5 {P:Program} {t ty e:TypeId} {size bytes:Nat} {z:Value} (hT:SlT P t e size bytes z) {B:Nat} {a:Option Addr} {n c:Nat} {xs:List Value} {w:World} (hown:Owns w B e size a n c xs) (hB:B≤w.heap.size)
  {S:Nat→Prop} {ad:Option Addr} {m c':Nat} (news:List Value) (hl:news.length=m * size) (hnews:At S w ad news) (h1:∀ u∈news,u.oneCell'=true)
  (hlen:n + m≤4611686018427387904) (hbytes:(n + m) * bytes≤140737488355328) {K:Option Addr→Nat→Nat→World→Prop}
  (hk:∀ a' c'' w',Owns w' B e size a' (n + m) c'' (xs++news)→Chg (bk a) w w'→(∀ k,bk a' k→bk a k∨w.heap.size≤k)→K a' (n + m) c'' w') :
  app P [t,t] ty (.slice a n c) (.slice ad m c') w K:=by
 obtain ⟨i,hi,hz,hs,hb⟩:=hT.get
 by_cases hm:m=0
 ·subst hm
  have hn:news=[]:=List.eq_nil_of_length_eq_zero (by simpa using hl)
  subst hn
  have hr:(Builtin.append_ #[t,t] ty #[.slice a n c,.slice ad 0 c']).run P w=.ok (.slice a n c) w:=by
   rcases hown.2 with ⟨e1,rfl⟩ | ⟨g,cap,cur,e1,_,_,hnc,_⟩
   ·obtain ⟨rfl,_,rfl⟩:a=none∧True∧c=0:=by simpa using e1
    cases ad <;> simp [Builtin.append_,run_underlying hT.under,sizeOf,typeInfo,hi,Builtin.lenOf,Builtin.firstCells,loadCells,loadCellsFrom]
   ·obtain ⟨rfl,_,rfl⟩:a=some ⟨g,0,none⟩∧True∧c=cap:=by simpa using e1
    cases ad <;> simp [Builtin.append_,run_underlying hT.under,sizeOf,typeInfo,hi,Builtin.lenOf,Builtin.firstCells,hnc,storeCells,loadCells,loadCellsFrom]
  exact ⟨a,n,c,w,hr,hk a c w (by simpa using hown) (Chg.refl _ _) fun k h=>.inl h⟩
 have hne:news≠[]:=fun e=>by
  rw [e,List.length_nil] at hl
  exact absurd hl.symm (Nat.mul_ne_zero hm (by have:=hT.pos;omega))
 obtain ⟨b,o,rfl,hSb,hbl,hcell⟩:∃ b o,ad=some ⟨b,o,none⟩∧S b∧b < w.heap.size∧∀ j v,news[j]? = some v→w.cell? ⟨b,o + j,none⟩=some v:=by
  rcases hnews with h | h
  ·exact absurd h hne
  ·exact h
 have hnews':∀ j u,news[j]? = some u→w.cell? ((⟨b,o,none⟩:Addr).add j)=some u:=fun j u hj=>by rw [qg];exact hcell j u hj
 have key:∀ v' w',(Builtin.append_ #[t,t] ty #[.slice a n c,.slice (some ⟨b,o,none⟩) m c']).run P w=.ok v' w'→∀ a' n' c'',v'=.slice a' n' c''→∀ k,bk a' k→bk a k∨w.heap.size≤k:=by
  intro v' w' hr a' n' c'' hv k hk'
  rcases hown.2 with ⟨e1,rfl⟩ | ⟨g,cap,cur,e1,hbg,hg,hnc,hcm,hcs,htake⟩
  ·obtain ⟨rfl,_,rfl⟩:a=none∧True∧c=0:=by simpa using e1
   have hr2:=run_append_nil (P:=P) w t ty e i z hT.under hi hz ⟨b,o,none⟩ m c' news (by rw [hs];exact hl) hnews' (by omega) (by omega) (by rw [hb];simp only [Nat.zero_add] at hbytes;omega)
   rw [hr] at hr2
   simp only [Result.ok.injEq] at hr2
   rw [hr2.1] at hv
   simp only [Value.slice.injEq] at hv
   rw [← hv.1] at hk'
   simp [bk] at hk'
   right;omega
  ·obtain ⟨rfl,_,rfl⟩:a=some ⟨g,0,none⟩∧True∧c=cap:=by simpa using e1
   by_cases hroom:n + m≤c
   ·have hfit:n * i.size + news.length≤cur.size:=by rw [hl,hcs,hs,← Nat.add_mul];exact Nat.mul_le_mul_right _ hroom
    have hr2:=run_append_room (P:=P) w t ty e i hT.under hi g n c cur hg ⟨b,o,none⟩ m c' news (by rw [hs];exact hl) hnews' h1 hroom hfit
    rw [hr] at hr2
    simp only [Result.ok.injEq] at hr2
    rw [hr2.1] at hv
    simp only [Value.slice.injEq] at hv
    rw [← hv.1] at hk'
    exact .inl hk'
   ·have holds:∀ j u,xs[j]? = some u→w.cell? ((⟨g,0,none⟩:Addr).add j)=some u:=hown.cells (g:=g) rfl
    have hr2:=run_append_grow (P:=P) w t ty e i z hT.under hi hz ⟨g,0,none⟩ n c xs (by rw [hs];exact hown.1) holds ⟨b,o,none⟩ m c' news (by rw [hs];exact hl) hnews' (by omega) (by omega) (growslice_fits (by omega) (by rw [hb];exact hbytes))
    rw [hr] at hr2
    simp only [Result.ok.injEq] at hr2
    rw [hr2.1] at hv
    simp only [Value.slice.injEq] at hv
    rw [← hv.1] at hk'
    simp [bk] at hk'
    right;omega
 obtain ⟨v',w',hr,ho,hg,_⟩:=run_append_own w B t ty e i z size bytes hT.under hi hz hs hb hT.zs hT.pos _ n xs hown ⟨b,o,none⟩ m c' news hl hnews' h1 (by simp only [maxLen];omega) hbytes hB
 have hkey:=key v' w' hr
 rcases ho.2 with ⟨rfl,hn⟩ | ⟨g,cap,cur,rfl,h2⟩
 ·omega
 ·exact ⟨some ⟨g,0,none⟩,n + m,cap,w',hr,hk _ _ _ ho (qj2 hg) (hkey _ _ _ rfl)⟩
theorem At.keep {S S':Nat→Prop} {w w':World} {a:Option Addr} {us:List Value} (h:At S w a us) (hs:∀ k,S k→k < w.heap.size→S' k∧w'.heap[k]? = w.heap[k]?) (hz:w.heap.size≤w'.heap.size):At S' w' a us:=by
 rcases h with h | ⟨b,o,rfl,hb,hl,hc⟩
 ·exact .inl h
 ·obtain ⟨h1,h2⟩:=hs b hb hl
  refine .inr ⟨b,o,rfl,h1,by omega,fun j v hj=>?_⟩
  have:=hc j v hj
  unfold World.cell? at this ⊢
  rw [h2];exact this
theorem qfd {P:Program} {t ty e:TypeId} {size bytes:Nat} {z:Value} (hT:SlT P t e size bytes z) {B:Nat} {a:Option Addr} {n c:Nat} {xs:List Value} {w:World} (hown:Owns w B e size a n c xs) (hB:B≤w.heap.size)
  (cs:List Value) (hl:cs.length=size) (h1:∀ u∈cs,u.oneCell'=true) (hlen:n + 1≤4611686018427387904) (hbytes:(n + 1) * bytes≤140737488355328) {K:Option Addr→Nat→Nat→World→Prop}
  (hk:∀ a' c'' w',Owns w' B e size a' (n + 1) c'' (xs++cs)→Chg (bk a) w w'→(∀ k,bk a' k→bk a k∨w.heap.size≤k)→K a' (n + 1) c'' w') :
  al w e cs fun p w1=>app P [t,t] ty (.slice a n c) (.slice (some p) 1 1) w1 K:=by
 refine qh fun b w1 hb g1 g2 g3=>?_
 refine qv5 (S:=fun _=>True) hT (hown.ext g2) (by omega) cs (by simp [hl]) (.inr ⟨b,0,rfl,trivial,by omega,fun j u hj=>?_⟩) h1 hlen hbytes fun a' c'' w' ho hc hn=>hk a' c'' w' ho ?_ fun k hk=>(hn k hk).imp id fun h=>by omega
 ·rw [Nat.zero_add,g1.cell];exact hj
 ·exact (Chg.of_ext g2).trans hc
end Go.Sh
namespace Go.Sh
open Go Go.RowKit
inductive Fo where
 | nil
 | cons (k:Int) (t:List UInt8) (n:Int) (ps rest:Fo)
namespace Fo
def beq:Fo→Fo→Bool
 | nil,nil=>true
 | cons k t n ps r,cons k' t' n' ps' r'=>decide (k=k')&&decide (t=t')&&decide (n=n')&&ps.beq ps'&&r.beq r'
 | _,_=>false
theorem beq_iff:∀ f g:Fo,f.beq g=true↔f=g
 | nil,nil=>by simp [beq]
 | nil,cons ..=>by simp [beq]
 | cons ..,nil=>by simp [beq]
 | cons k t n ps r,cons k' t' n' ps' r'=>by
  simp only [beq,Bool.and_eq_true,decide_eq_true_eq,beq_iff ps ps',beq_iff r r',cons.injEq,and_assoc]
instance (f g:Fo):Decidable (f=g):=decidable_of_iff (f.beq g=true) (beq_iff f g)
def len:Fo→Nat
 | nil=>0
 | cons _ _ _ _ r=>r.len + 1
def app:Fo→Fo→Fo
 | nil,g=>g
 | cons k t n ps r,g=>cons k t n ps (r.app g)
def one (k:Int) (t:List UInt8) (n:Int) (ps:Fo):Fo:=cons k t n ps nil
def size:Fo→Nat
 | nil=>0
 | cons _ _ _ ps r=>ps.size + r.size + 1
@[simp] theorem len_nil:(nil:Fo).len=0:=rfl
@[simp] theorem len_cons (k t n ps r):(cons k t n ps r).len=r.len + 1:=rfl
@[simp] theorem nil_app (g:Fo):nil.app g=g:=rfl
@[simp] theorem cons_app (k t n ps r g):(cons k t n ps r).app g=cons k t n ps (r.app g):=rfl
@[simp] theorem app_nil (f:Fo):f.app nil=f:=by
 induction f with
 | nil=>rfl
 | cons k t n ps r _ ih=>rw [cons_app,ih]
theorem app_assoc (f g h:Fo):(f.app g).app h=f.app (g.app h):=by
 induction f with
 | nil=>rfl
 | cons k t n ps r _ ih=>simp only [cons_app,ih]
@[simp] theorem len_app (f g:Fo):(f.app g).len=f.len + g.len:=by
 induction f with
 | nil=>simp
 | cons k t n ps r _ ih=>simp only [cons_app,len_cons,ih];omega
theorem len_le_size (f:Fo):f.len≤f.size:=by
 induction f with
 | nil=>simp [size]
 | cons k t n ps r _ ih=>simp only [len_cons,size];omega
theorem app_one_app (f:Fo) (k t n ps r):(f.app (one k t n ps)).app r=f.app (cons k t n ps r):=by rw [app_assoc];rfl
theorem eq_nil_of_len {f:Fo} (h:f.len=0):f=nil:=by cases f with | nil=>rfl | cons=>simp at h
end Fo
def FoC (S:Nat→Prop) (w:World):Fo→List Value→Prop
 | .nil,vs=>vs=[]
 | .cons k t n ps r,vs=>∃ a c us vs',vs=.int .i64 k :: .string ⟨⟨t⟩⟩ :: .int .i64 n :: .slice a ps.len c :: vs'∧At S w a us∧FoC S w ps us∧FoC S w r vs'
def SlF (S:Nat→Prop) (w:World) (a:Option Addr) (n:Nat) (f:Fo):Prop:=n=f.len∧∃ us,At S w a us∧FoC S w f us
section
variable {S S':Nat→Prop} {w w':World}
theorem FoC.keep (hs:∀ k,S k→k < w.heap.size→S' k∧w'.heap[k]? = w.heap[k]?) (hz:w.heap.size≤w'.heap.size):∀ {f:Fo} {vs:List Value},FoC S w f vs→FoC S' w' f vs
 | .nil,vs,h=>h
 | .cons k t n ps r,vs,⟨a,c,us,vs',e,h1,h2,h3⟩=>⟨a,c,us,vs',e,h1.keep hs hz,FoC.keep hs hz h2,FoC.keep hs hz h3⟩
theorem FoC.len:∀ {f:Fo} {vs:List Value},FoC S w f vs→vs.length=f.len * 4
 | .nil,vs,h=>by subst h;rfl
 | .cons k t n ps r,vs,⟨a,c,us,vs',e,h1,h2,h3⟩=>by subst e;simp only [List.length_cons,Fo.len_cons,FoC.len h3];omega
theorem FoC.one:∀ {f:Fo} {vs:List Value},FoC S w f vs→∀ u∈vs,u.oneCell'=true
 | .nil,vs,h=>by subst h;simp
 | .cons k t n ps r,vs,⟨a,c,us,vs',e,h1,h2,h3⟩=>by
  subst e
  intro u hu
  simp only [List.mem_cons] at hu
  rcases hu with rfl | rfl | rfl | rfl | hu
  ·rfl
  ·rfl
  ·rfl
  ·rfl
  ·exact FoC.one h3 u hu
theorem FoC.app:∀ {f g:Fo} {us vs:List Value},FoC S w f us→FoC S w g vs→FoC S w (f.app g) (us++vs)
 | .nil,g,us,vs,h,hg=>by subst h;exact hg
 | .cons k t n ps r,g,us,vs,⟨a,c,xs,vs',e,h1,h2,h3⟩,hg=>by
  subst e
  exact ⟨a,c,xs,vs'++vs,rfl,h1,h2,FoC.app h3 hg⟩
theorem FoC.split:∀ {f g:Fo} {us:List Value},FoC S w (f.app g) us→∃ xs ys,us=xs++ys∧FoC S w f xs∧FoC S w g ys
 | .nil,g,us,h=>⟨[],us,rfl,rfl,h⟩
 | .cons k t n ps r,g,us,⟨a,c,xs,vs',e,h1,h2,h3⟩=>by
  obtain ⟨x,y,rfl,h4,h5⟩:=FoC.split h3
  exact ⟨_ :: _ :: _ :: _ :: x,y,by rw [e];rfl,⟨a,c,xs,x,rfl,h1,h2,h4⟩,h5⟩
theorem SlF.keep {a:Option Addr} {n:Nat} {f:Fo} (h:SlF S w a n f) (hs:∀ k,S k→k < w.heap.size→S' k∧w'.heap[k]? = w.heap[k]?) (hz:w.heap.size≤w'.heap.size):SlF S' w' a n f:=by
 obtain ⟨h1,us,h2,h3⟩:=h
 exact ⟨h1,us,h2.keep hs hz,h3.keep hs hz⟩
theorem SlF.ext {a:Option Addr} {n:Nat} {f:Fo} (h:SlF S w a n f) (he:Ext w w'):SlF S w' a n f:=h.keep (fun k hk hl=>⟨hk,he.block k hl⟩) he.size
theorem SlF.chg {T:Nat→Prop} {a:Option Addr} {n:Nat} {f:Fo} (h:SlF S w a n f) (he:Chg T w w') (hd:∀ k,S k→¬ T k):SlF S w' a n f:=h.keep (fun k hk hl=>⟨hk,he.block k hl (hd k hk)⟩) he.size
theorem SlF.imp {a:Option Addr} {n:Nat} {f:Fo} (h:SlF S w a n f) (hs:∀ k,S k→k < w.heap.size→S' k):SlF S' w a n f:=h.keep (fun k hk hl=>⟨hs k hk hl,rfl⟩) (Nat.le_refl _)
theorem SlF.nil (a:Option Addr):SlF S w a 0 .nil:=⟨rfl,[],.inl rfl,rfl⟩
structure NodeIs (S:Nat→Prop) (w:World) (q:Addr) (k:Int) (t:List UInt8) (n:Int) (a:Option Addr) (c:Nat) (ps:Fo):Prop where
 kind:w.cell? (q.add 0)=some (.int .i64 k)
 text:w.cell? (q.add 1)=some (.string ⟨⟨t⟩⟩)
 num:w.cell? (q.add 2)=some (.int .i64 n)
 parts:w.cell? (q.add 3)=some (.slice a ps.len c)
 sl:SlF S w a ps.len ps
theorem SlF.get {a:Option Addr} {n:Nat} {f:Fo} (h:SlF S w a n f) {pre r:Fo} {k:Int} {t:List UInt8} {m:Int} {ps:Fo} (hf:f=pre.app (.cons k t m ps r)) :
  ∃ q a' c',(∀ K:Addr→Prop,K q→idx a n (pre.len:Int) 4 K)∧S q.block∧q.block < w.heap.size∧NodeIs S w q k t m a' c' ps:=by
 obtain ⟨h1,us,h2,h3⟩:=h
 subst hf
 obtain ⟨xs,ys,rfl,h4,a',c',zs,vs',rfl,h5,h6,h7⟩:=h3.split
 rcases h2 with h2 | ⟨b,o,rfl,hb,hbl,hc⟩
 ·simp at h2
 have hl:=h4.len
 have key:∀ j v,(.int .i64 k :: .string ⟨⟨t⟩⟩ :: .int .i64 m :: .slice a' ps.len c' :: vs':List Value)[j]? = some v→w.cell? ((⟨b,o + pre.len * 4,none⟩:Addr).add j)=some v:=by
  intro j v hj
  rw [qg,Nat.add_assoc]
  refine hc _ _ ?_
  rw [List.getElem?_append_right (by omega),show pre.len * 4 + j - xs.length=j by omega]
  exact hj
 refine ⟨⟨b,o + pre.len * 4,none⟩,a',c',fun K hK=>⟨by omega,by simp only [Fo.len_app,Fo.len_cons] at h1;omega,?_⟩,hb,hbl,⟨key 0 _ rfl,key 1 _ rfl,key 2 _ rfl,key 3 _ rfl,rfl,zs,h5,h6⟩⟩
 show K _
 rw [qg,Int.toNat_natCast];exact hK
theorem NodeIs.ext {q:Addr} {k:Int} {t:List UInt8} {n:Int} {a:Option Addr} {c:Nat} {ps:Fo} (h:NodeIs S w q k t n a c ps) (hl:q.block < w.heap.size) (he:Ext w w'):NodeIs S w' q k t n a c ps:=by
 have key:∀ j,w'.cell? (q.add j)=w.cell? (q.add j):=fun j=>by
  unfold World.cell?
  have:(q.add j).block=q.block:=by unfold Addr.add;split <;> rfl
  rw [this,he.block _ hl]
 exact ⟨(key 0).trans h.kind,(key 1).trans h.text,(key 2).trans h.num,(key 3).trans h.parts,h.sl.ext he⟩
theorem Fo.next {f pre r:Fo} (hf:f=pre.app r) (h:pre.len < f.len):∃ k t m ps r',r=.cons k t m ps r':=by
 cases r with
 | nil=>simp [hf] at h
 | cons k t m ps r'=>exact ⟨k,t,m,ps,r',rfl⟩
theorem Fo.last {f pre r:Fo} (hf:f=pre.app r) (h:¬ pre.len < f.len):r=.nil∧pre=f:=by
 have:r=.nil:=Fo.eq_nil_of_len (by have:=congrArg Fo.len hf;simp at this;omega)
 subst this
 exact ⟨rfl,by rw [hf,Fo.app_nil]⟩
end
def OwnF (e:TypeId) (S:Nat→Prop) (B:Nat) (w:World) (a:Option Addr) (n c:Nat) (f:Fo):Prop :=
 n=f.len∧∃ xs,Owns w B e 4 a n c xs∧FoC (fun k=>(S k∨B≤k)∧¬ bk a k) w f xs
section
variable {S:Nat→Prop} {w w':World} {e:TypeId} {B:Nat} {a:Option Addr} {n c:Nat} {f:Fo}
theorem OwnF.nil (w:World):OwnF e S B w none 0 0 .nil:=⟨rfl,[],Owns.nil w B e 4,rfl⟩
theorem OwnF.len (h:OwnF e S B w a n c f):n=f.len:=h.1
theorem OwnF.bk (h:OwnF e S B w a n c f) {k:Nat} (hk:Sh.bk a k):B≤k∧k < w.heap.size:=by
 obtain ⟨_,xs,h1,_⟩:=h
 exact h1.bk hk
theorem OwnF.chg {T:Nat→Prop} (h:OwnF e S B w a n c f) (hc:Chg T w w') (hT:∀ k,T k→¬ S k∧k < B):OwnF e S B w' a n c f:=by
 obtain ⟨h0,xs,h1,h2⟩:=h
 refine ⟨h0,xs,h1.chg hc fun k hk ht=>?_,h2.keep (fun k hk hl=>⟨hk,hc.block k hl fun ht=>?_⟩) hc.size⟩
 ·have:=(h1.bk hk).1;have:=(hT k ht).2;omega
 ·rcases hk.1 with h | h
  ·exact (hT k ht).1 h
  ·have:=(hT k ht).2;omega
theorem OwnF.ext (h:OwnF e S B w a n c f) (hc:Ext w w'):OwnF e S B w' a n c f :=
 h.chg (T:=fun _=>False) (.of_ext hc) fun k h=>h.elim
theorem OwnF.out (h:OwnF e S B w a n c f):SlF (fun k=>S k∨B≤k) w a n f:=by
 obtain ⟨h0,xs,h1,h2⟩:=h
 refine ⟨h0,xs,?_,h2.keep (fun k hk _=>⟨hk.1,rfl⟩) (Nat.le_refl _)⟩
 by_cases hn:0 < n
 ·obtain ⟨g,rfl,hg,hc⟩:=h1.cell hn
  exact .inr ⟨g,0,rfl,.inr hg,(h1.bk (by simp [Sh.bk])).2,fun j v hj=>by rw [Nat.zero_add];exact hc j v hj⟩
 ·have hx:xs=[]:=List.eq_nil_of_length_eq_zero (by rw [h1.len];omega)
  exact .inl hx
theorem OwnF.push {P:Program} {t bytes:Nat} {z:Value} (hT:SlT P t e 4 bytes z) (h:OwnF e S B w a n c f) (hB:B≤w.heap.size) {k:Int} {s:List UInt8} {m:Int} {a':Option Addr} {c':Nat} {ps:Fo}
  (hps:SlF (fun k=>(S k∨B≤k)∧¬ Sh.bk a k) w a' ps.len ps) (hlen:n + 1≤4611686018427387904) (hbytes:(n + 1) * bytes≤140737488355328) {ty:TypeId} {K:Option Addr→Nat→Nat→World→Prop}
  (hk:∀ a'' n'' c'' w',OwnF e S B w' a'' n'' c'' (f.app (.one k s m ps))→Chg (Sh.bk a) w w'→K a'' n'' c'' w') :
  al w e [.int .i64 k,.string ⟨⟨s⟩⟩,.int .i64 m,.slice a' ps.len c'] fun p w1=>app P [t,t] ty (.slice a n c) (.slice (some p) 1 1) w1 K:=by
 obtain ⟨h0,xs,h1,h2⟩:=h
 refine qfd hT h1 hB [.int .i64 k,.string ⟨⟨s⟩⟩,.int .i64 m,.slice a' ps.len c'] rfl (by intro u hu;simp only [List.mem_cons,List.not_mem_nil,or_false] at hu;rcases hu with rfl | rfl | rfl | rfl <;> rfl) hlen hbytes fun a'' c'' w' ho hc hn=>hk _ _ _ _ ⟨?_,_,ho,?_⟩ hc
 ·simp [Fo.one];exact h0
 ·obtain ⟨_,us,h3,h4⟩:=hps
  have hs:∀ k,((S k∨B≤k)∧¬ Sh.bk a k)→k < w.heap.size→((S k∨B≤k)∧¬ Sh.bk a'' k)∧w'.heap[k]? = w.heap[k]?:=fun k hk hl =>
   ⟨⟨hk.1,fun hb=>(hn k hb).elim hk.2 (fun h=>by omega)⟩,hc.block k hl hk.2⟩
  exact (h2.keep hs hc.size).app ⟨a',c',us,[],rfl,h3.keep hs hc.size,h4.keep hs hc.size,rfl⟩
theorem OwnF.pushAll {P:Program} {t bytes:Nat} {z:Value} (hT:SlT P t e 4 bytes z) (h:OwnF e S B w a n c f) (hB:B≤w.heap.size) {a':Option Addr} {m c':Nat} {g:Fo}
  (hg:SlF (fun k=>(S k∨B≤k)∧¬ Sh.bk a k) w a' m g) (hlen:n + m≤4611686018427387904) (hbytes:(n + m) * bytes≤140737488355328) {ty:TypeId} {K:Option Addr→Nat→Nat→World→Prop}
  (hk:∀ a'' n'' c'' w',OwnF e S B w' a'' n'' c'' (f.app g)→Chg (Sh.bk a) w w'→K a'' n'' c'' w') :
  app P [t,t] ty (.slice a n c) (.slice a' m c') w K:=by
 obtain ⟨h0,xs,h1,h2⟩:=h
 obtain ⟨hm,us,h3,h4⟩:=hg
 refine qv5 hT h1 hB us (by rw [h4.len,hm]) h3 h4.one hlen hbytes fun a'' c'' w' ho hc hn=>hk _ _ _ _ ⟨?_,_,ho,?_⟩ hc
 ·rw [Fo.len_app];omega
 ·have hs:∀ k,((S k∨B≤k)∧¬ Sh.bk a k)→k < w.heap.size→((S k∨B≤k)∧¬ Sh.bk a'' k)∧w'.heap[k]? = w.heap[k]?:=fun k hk hl =>
   ⟨⟨hk.1,fun hb=>(hn k hb).elim hk.2 (fun h=>by omega)⟩,hc.block k hl hk.2⟩
  exact (h2.keep hs hc.size).app (h4.keep hs hc.size)
end
namespace Fo
def depth:Fo→Nat
 | nil=>0
 | cons _ _ _ ps r=>max (match ps with | nil=>0 | cons ..=>ps.depth + 1) r.depth
theorem depth_parts (k t n) (ps r:Fo):(cons k t n ps r).depth=max (if ps.len=0 then 0 else ps.depth + 1) r.depth:=by
 cases ps <;> simp [depth]
theorem size_app (f g:Fo):(f.app g).size=f.size + g.size:=by
 induction f with
 | nil=>simp [size]
 | cons k t n ps r _ ih=>simp only [cons_app,size,ih];omega
theorem sub_size {f pre:Fo} {k t m ps r} (h:f=pre.app (cons k t m ps r)):ps.size < f.size:=by
 rw [h,size_app];simp only [size];omega
theorem sub_len {f pre:Fo} {k t m ps r} (h:f=pre.app (cons k t m ps r)):pre.len + r.len + 1=f.len:=by
 rw [h,len_app,len_cons];omega
end Fo
end Go.Sh
namespace Go.Proofs
open Go Go.Sh Go.RowKit Go.Proofs.Tryz IntKind
theorem qs (W:World):Ext W W.drew:=⟨rfl,rfl,rfl,Nat.le_refl _,fun _ _=>rfl⟩
abbrev small (f:Fo):Prop:=f.size≤4611686018427387904
theorem qj {n:Nat} (h:n≤4611686018427387904):i64.wrap ((n:Int) + 1)=((n + 1:Nat):Int):=by rw [qu (by omega)];omega
theorem q7k {S S':Nat→Prop}:∀ (f:Fo) {R:Ending→World→Prop} {w:World} {a b:Option Addr} {n c n' c':Nat} {g:Fo} (hf:SlF S w a n f) (hg:SlF S' w b n' g) (hs:small f)
  (h:∀ w',Ext w w'→R (.returned (.bool (decide (f=g)))) w'),Calls prog qub ⟨[.slice a n c,.slice b n' c']⟩ w R:=by
 intro f
 induction hz:f.size using Nat.strongRecOn generalizing f with
 | _ z ih =>
 intro R w a b n c n' c' g hf hg hs h
 apply q69
 have hn:=hf.1
 have hn':=hg.1
 refine qd (fun h1=>?_) (fun h1=>?_)
 ·rw [show decide (f=g)=false by rw [decide_eq_false_iff_not];rintro rfl;omega] at h
  exact h w (Below.refl _ _)
 refine ⟨fun i W m=>∃ (p1 r1 p2 r2:Fo),f=p1.app r1∧g=p2.app r2∧p1.len=p2.len∧i=p1.len∧m=r1.len∧Ext w W∧(f=g↔r1=r2),⟨_,.nil,f,.nil,g,rfl,rfl,rfl,rfl,rfl,Below.refl _ _,Iff.rfl⟩,?_⟩
 rintro _ W m ⟨p1,r1,p2,r2,e1,e2,e3,rfl,rfl,he,hiff⟩ _
 refine qd (fun hlt=>?_) (fun hge=>?_)
 ·obtain ⟨k1,t1,m1,s1,r1,rfl⟩:=Fo.next e1 (by omega)
  obtain ⟨k2,t2,m2,s2,r2,rfl⟩:=Fo.next e2 (by omega)
  have hd:=qb he (qs W)
  obtain ⟨q1,a1,c1,i1,_,_,n1⟩:=(hf.ext hd).get e1
  obtain ⟨q2,a2,c2,i2,_,_,n2⟩:=(hg.ext hd).get e2
  rw [← e3] at i2
  have hsub:=Fo.sub_size e1
  have hsl:=Fo.sub_len e1
  have hle:=f.len_le_size
  have no:(f≠g)→R (.returned (.bool false)) W.drew:=fun hne=>by
   rw [show decide (f=g)=false by rw [decide_eq_false_iff_not];exact hne] at h
   exact h _ hd
  simp only [Fo.cons.injEq] at hiff
  unfold drw
  refine i1 _ ⟨_,n1.kind,i2 _ ⟨_,n2.kind,qd (fun d1=>⟨no fun he=>d1 (hiff.1 he).1,trivial⟩) (fun d1=>?_)⟩⟩
  refine i1 _ ⟨_,n1.text,i2 _ ⟨_,n2.text,qd (fun d2=>⟨no fun he=>d2 (hiff.1 he).2.1,trivial⟩) (fun d2=>?_)⟩⟩
  refine i1 _ ⟨_,n1.num,i2 _ ⟨_,n2.num,qd (fun d3=>⟨no fun he=>d3 (hiff.1 he).2.2.1,trivial⟩) (fun d3=>?_)⟩⟩
  refine i1 _ ⟨_,_,_,n1.parts,i2 _ ⟨_,_,_,n2.parts,?_,trivial⟩⟩
  refine ih _ (hz ▸ hsub) s1 rfl n1.sl n2.sl (by unfold small at hs ⊢;omega) fun w' he'=>⟨_,rfl,?_⟩
  have hdd:=qb hd he'
  simp only [Decidable.not_not] at d1 d2 d3
  refine ql (fun d4=>?_) (fun d4=>?_)
  ·rw [show decide (f=g)=false by rw [decide_eq_false_iff_not];intro he;rw [decide_eq_true (hiff.1 he).2.2.2.1] at d4;cases d4] at h
   exact h _ hdd
  ·have d5:s1=s2:=by simpa using d4
   refine ⟨r1.len,by simp,p1.app (.one k1 t1 m1 s1),r1,p2.app (.one k2 t2 m2 s2),r2,by rw [Fo.app_one_app];exact e1,by rw [Fo.app_one_app];exact e2,by simp [Fo.one];exact e3,?_,rfl,hdd,?_⟩
   ·rw [qj (by unfold small at hs;omega)];simp [Fo.one]
   ·rw [hiff];simp [d1,d2,d3,d5]
 ·obtain ⟨rfl,rfl⟩:=Fo.last e1 (by omega)
  have:=Fo.last e2 (by omega)
  rw [show decide (p1=g)=true by rw [decide_eq_true_iff];exact hiff.2 this.1.symm] at h
  exact h _ he
def qad (k:Int):Bool:=decide (k=1∨k=3∨k=4∨k=10∨k=11)
def numsF (k:Int):Bool:=decide (k=6∨k=8∨k=9)
def qx (k:Int):Bool:=decide (7≤k∧k≤11)
section
variable {R:Ending→World→Prop} {w:World}
theorem q1t (k:Int) (h:R (.returned (.bool (qad k))) w):Calls prog qrd ⟨[.int .i64 k]⟩ w R:=by
 apply q4d
 unfold qad at h
 refine qd (fun h1=>?_) (fun h1=>qd (fun h2=>?_) (fun h2=>qd (fun h3=>?_) (fun h3=>qd (fun h4=>?_) (fun h4=>?_))))
 ·rw [decide_eq_true (.inl h1)] at h;exact h
 ·rw [decide_eq_true (.inr (.inl h2))] at h;exact h
 ·rw [decide_eq_true (.inr (.inr (.inl h3)))] at h;exact h
 ·rw [decide_eq_true (.inr (.inr (.inr (.inl h4))))] at h;exact h
 ·simp only [h1,h2,h3,h4,false_or] at h;exact h
theorem qtt (k:Int) (h:R (.returned (.bool (numsF k))) w):Calls prog qkx ⟨[.int .i64 k]⟩ w R:=by
 apply qyb
 unfold numsF at h
 refine qd (fun h1=>?_) (fun h1=>qd (fun h2=>?_) (fun h2=>?_))
 ·rw [decide_eq_true (.inl h1)] at h;exact h
 ·rw [decide_eq_true (.inr (.inl h2))] at h;exact h
 ·simp only [h1,h2,false_or] at h;exact h
theorem qsb (k:Int) (h:R (.returned (.bool (qx k))) w):Calls prog qre ⟨[.int .i64 k]⟩ w R:=by
 apply q4f
 unfold qx at h
 refine qd (fun h1=>?_) (fun h1=>?_)
 ·simp only [h1,true_and] at h;exact h
 ·simp only [h1,false_and] at h;exact h
def qy (k:Int) (t:List UInt8) (n:Int) (ps:Fo) (before within:Bool):Int :=
 if k < 1∨11 < k∨(t≠[]∧qad k=false)∨(n≠0∧numsF k=false)∨(0 < ps.len∧qx k=false) then 8
 else if (k=1∧t=[])∨(qx k=true∧ps.len=0) then 5
 else if k=1 then (if qa8 t≠0 then 11 else if before=true then 10 else 0)
 else if k=3∨k=4∨k=11 then (if qaa t=false then 14 else if within=true∧k=4 then 12 else 0)
 else if k=10 then (if qv t=false then 14 else 0)
 else if k=6 then (if n < 1∨64 < n then 2 else 0)
 else if k=8∨k=9 then (if n < 1∨8 < n then 2 else 0)
 else 0
end
theorem blk4 {w:World} {b:Nat} {k:Int} {t:List UInt8} {n:Int} {v:Value} {T:TypeId} (h:Blk w b [.int .i64 k,.string ⟨⟨t⟩⟩,.int .i64 n,v] T) :
  w.cell? ((⟨b,0,none⟩:Addr).add 0)=some (.int .i64 k)∧w.cell? ((⟨b,0,none⟩:Addr).add 1)=some (.string ⟨⟨t⟩⟩)∧w.cell? ((⟨b,0,none⟩:Addr).add 2)=some (.int .i64 n)∧w.cell? ((⟨b,0,none⟩:Addr).add 3)=some v:=by
 simp only [qg,h.cell];exact ⟨rfl,rfl,rfl,rfl⟩
section
variable {R:Ending→World→Prop} {w:World}
theorem qwj (k:Int) (t:List UInt8) (n:Int) (a:Option Addr) (c:Nat) (ps:Fo) (before within:Bool) (h:∀ w',Ext w w'→R (.returned (.int .i64 (qy k t n ps before within))) w') :
  Calls prog qmf ⟨[.agg ⟨[.int .i64 k,.string ⟨⟨t⟩⟩,.int .i64 n,.slice a ps.len c]⟩,.bool before,.bool within]⟩ w R:=by
 apply q0j
 refine qh fun b w1 hb h1 h2 h3=>?_
 obtain ⟨c0,c1,c2,c3⟩:=blk4 h1
 have hne:∀ (x:Int),(∃ y:Int,w1.cell? ((⟨b,0,none⟩:Addr).add 0)=some (.int .i64 y)∧True):=fun _=>⟨k,c0,trivial⟩
 intro K9 hK9
 -- the wrong kind
 have bad:∀ x:Int,qy k t n ps before within=x→R (.returned (.int .i64 x)) w1:=fun x hx=>hx ▸ h w1 h2
 have k8:(k < 1∨11 < k∨(t≠[]∧qad k=false)∨(n≠0∧numsF k=false)∨(0 < ps.len∧qx k=false))→R (.returned (.int .i64 8)) w1:=fun hc=>bad 8 (by unfold qy;rw [if_pos hc])
 refine ⟨k,c0,qd (fun d1=>k8 (.inl d1)) (fun d1=>⟨k,c0,qd (fun d2=>k8 (.inr (.inl d2))) (fun d2=>⟨t,c1,?_⟩)⟩)⟩
 have main:¬ (k < 1∨11 < k∨(t≠[]∧qad k=false)∨(n≠0∧numsF k=false)∨(0 < ps.len∧qx k=false))→K9 w1:=by
  intro hno
  refine hK9 _ fun _=>?_
  intro K11 hK11
  have k5:((k=1∧t=[])∨(qx k=true∧ps.len=0))→R (.returned (.int .i64 5)) w1:=fun hc=>bad 5 (by unfold qy;rw [if_neg hno,if_pos hc])
  have main2:¬ ((k=1∧t=[])∨(qx k=true∧ps.len=0))→K11 w1:=by
   intro hno2
   refine hK11 _ fun _=>⟨k,c0,?_⟩
   have e:qy k t n ps before within=(if k=1 then (if qa8 t≠0 then 11 else if before=true then 10 else 0)
    else if k=3∨k=4∨k=11 then (if qaa t=false then 14 else if within=true∧k=4 then 12 else 0)
    else if k=10 then (if qv t=false then 14 else 0)
    else if k=6 then (if n < 1∨64 < n then 2 else 0)
    else if k=8∨k=9 then (if n < 1∨8 < n then 2 else 0)
    else 0):=by unfold qy;rw [if_neg hno,if_neg hno2]
   rw [e] at h
   refine qd (fun g1=>⟨t,c1,qzf t fun w2 he2=>⟨_,rfl,qd (fun g2=>?_) (fun g2=>?_)⟩⟩) (fun g1=>?_)
   ·rw [if_pos g1,if_pos g2] at h;exact h _ (qb h2 he2)
   ·rw [if_pos g1,if_neg g2] at h
    have:=h _ (qb h2 he2)
    cases before <;> exact this
   rw [if_neg g1] at h
   intro K18 hK18
   have nm:(k=3∨k=4∨k=11)→K18 true w1:=by
    intro hk
    rw [if_pos hk] at h
    refine hK18 _ _ fun _=>⟨t,c1,qt2 t fun w2 he2=>⟨_,rfl,ql (fun g2=>?_) (fun g2=>?_)⟩⟩
    ·rw [if_pos (by simpa using g2)] at h;exact h _ (qb h2 he2)
    ·rw [if_neg (by simpa using g2)] at h
     have:=h _ (qb h2 he2)
     cases within with
     | false=>simpa using this
     | true =>
      refine ⟨k,(blk4 (h1.ext he2)).1,qd (fun g3=>?_) (fun g3=>?_)⟩
      ·simpa [g3] using this
      ·simpa [g3] using this
   refine qd (fun g3=>?_) (fun g3=>qd (fun g4=>?_) (fun g4=>?_))
   ·rw [decide_eq_true g3];exact nm (.inl g3)
   ·rw [decide_eq_true g4];exact nm (.inr (.inl g4))
   by_cases g5:k=11
   ·rw [decide_eq_true g5];exact nm (.inr (.inr g5))
   rw [decide_eq_false g5]
   rw [if_neg (by omega)] at h
   refine hK18 _ _ fun _=>qd (fun g6=>⟨t,c1,qt1 t fun w2 he2=>⟨_,rfl,ql (fun g7=>?_) (fun g7=>?_)⟩⟩) (fun g6=>qd (fun g7=>?_) (fun g7=>?_))
   ·rw [if_pos g6,if_pos (by simpa using g7)] at h;exact h _ (qb h2 he2)
   ·rw [if_pos g6,if_neg (by simpa using g7)] at h;exact h _ (qb h2 he2)
   ·rw [if_neg g6,if_pos g7] at h
    refine ⟨n,c2,qd (fun g8=>?_) (fun g8=>⟨n,c2,qd (fun g9=>?_) (fun g9=>?_)⟩)⟩
    ·rw [if_pos (.inl g8)] at h;exact h _ h2
    ·rw [if_pos (.inr g9)] at h;exact h _ h2
    ·rw [if_neg (by omega)] at h;exact h _ h2
   ·rw [if_neg g6,if_neg g7] at h
    intro K32 hK32
    have hd:(k=8∨k=9)→K32 true w1:=fun hk=>by
     rw [if_pos hk] at h
     refine hK32 _ _ fun _=>⟨n,c2,qd (fun g8=>?_) (fun g8=>⟨n,c2,qd (fun g9=>?_) (fun g9=>?_)⟩)⟩
     ·rw [if_pos (.inl g8)] at h;exact h _ h2
     ·rw [if_pos (.inr g9)] at h;exact h _ h2
     ·rw [if_neg (by omega)] at h;exact h _ h2
    refine qd (fun g8=>?_) (fun g8=>?_)
    ·rw [decide_eq_true g8];exact hd (.inl g8)
    ·by_cases g9:k=9
     ·rw [decide_eq_true g9];exact hd (.inr g9)
     ·rw [decide_eq_false g9]
      rw [if_neg (by omega)] at h
      exact hK32 _ _ fun _=>h _ h2
  have pr:¬ (k=1∧t=[])→(∃ (x44:Int),w1.cell? ((⟨b,0,none⟩:Addr).add 0)=some (.int .i64 x44)∧(Calls prog 197 ⟨[.int .i64 x44]⟩ w1 fun (e45:Ending) (w46:World) =>
    ∃ (x47:Bool),e45=.returned (.bool x47)∧(br x47 (∃ (x48:Option Addr) (x48n:Nat) (x48c:Nat),World.cell? w46 ((⟨b,0,none⟩:Addr).add 3)=some (.slice x48 x48n x48c)∧(br (decide ((((x48n:Int)):Int)=0)) (R (.returned (.int .i64 5)) w46) (K11 w46))) (K11 w46)))):=by
   intro hk1
   refine ⟨k,c0,qsb k ⟨_,rfl,ql (fun g1=>⟨a,ps.len,c,c3,qd (fun g2=>k5 (.inr ⟨g1,by omega⟩)) (fun g2=>main2 ?_)⟩) (fun g1=>main2 ?_)⟩⟩
   ·rintro (hh | hh)
    ·exact hk1 hh
    ·exact g2 (by omega)
   ·rintro (hh | hh)
    ·exact hk1 hh
    ·rw [hh.1] at g1;cases g1
  refine ⟨k,c0,qd (fun g1=>⟨t,c1,qd (fun g2=>k5 (.inl ⟨g1,g2⟩)) (fun g2=>pr fun hh=>g2 hh.2)⟩) (fun g1=>pr fun hh=>g1 hh.1)⟩
 have ptail:¬ (t≠[]∧qad k=false)→¬ (n≠0∧numsF k=false) →
   (∃ (x61:Option Addr) (x61n:Nat) (x61c:Nat),World.cell? w1 ((⟨b,0,none⟩:Addr).add 3)=some (.slice x61 x61n x61c)∧(br (decide ((0:Int) < ((x61n:Int)))) (∃ (x62:Int),World.cell? w1 ((⟨b,0,none⟩:Addr).add 0)=some (.int .i64 x62)∧(Calls prog 197 ⟨[.int .i64 x62]⟩ w1 fun (e63:Ending) (w64:World) =>
 ∃ (x65:Bool),e63=.returned (.bool x65)∧(br (!x65) (R (.returned (.int .i64 8)) w64) (K9 w64)))) (K9 w1))):=by
  intro q1 q2
  refine ⟨a,ps.len,c,c3,qd (fun g1=>⟨k,c0,qsb k ⟨_,rfl,ql (fun g2=>k8 (.inr (.inr (.inr (.inr ⟨by omega,by simpa using g2⟩))))) (fun g2=>main ?_)⟩⟩) (fun g1=>main ?_)⟩
  ·rintro (hh | hh | hh | hh | hh)
   ·exact d1 hh
   ·exact d2 hh
   ·exact q1 hh
   ·exact q2 hh
   ·rw [hh.2] at g2;cases g2
  ·rintro (hh | hh | hh | hh | hh)
   ·exact d1 hh
   ·exact d2 hh
   ·exact q1 hh
   ·exact q2 hh
   ·exact g1 (by omega)
 have ntail:¬ (t≠[]∧qad k=false)→(∃ (x56:Int),World.cell? w1 ((⟨b,0,none⟩:Addr).add 2)=some (.int .i64 x56)∧(br (decide ((x56:Int)≠0)) (∃ (x57:Int),World.cell? w1 ((⟨b,0,none⟩:Addr).add 0)=some (.int .i64 x57)∧(Calls prog 196 ⟨[.int .i64 x57]⟩ w1 fun (e58:Ending) (w59:World) =>
 ∃ (x60:Bool),e58=.returned (.bool x60)∧(br (!x60) (R (.returned (.int .i64 8)) w59) (∃ (x61:Option Addr) (x61n:Nat) (x61c:Nat),World.cell? w59 ((⟨b,0,none⟩:Addr).add 3)=some (.slice x61 x61n x61c)∧(br (decide ((0:Int) < ((x61n:Int)))) (∃ (x62:Int),World.cell? w59 ((⟨b,0,none⟩:Addr).add 0)=some (.int .i64 x62)∧(Calls prog 197 ⟨[.int .i64 x62]⟩ w59 fun (e63:Ending) (w64:World) =>
 ∃ (x65:Bool),e63=.returned (.bool x65)∧(br (!x65) (R (.returned (.int .i64 8)) w64) (K9 w64)))) (K9 w59)))))) (∃ (x66:Option Addr) (x66n:Nat) (x66c:Nat),World.cell? w1 ((⟨b,0,none⟩:Addr).add 3)=some (.slice x66 x66n x66c)∧(br (decide ((0:Int) < ((x66n:Int)))) (∃ (x67:Int),World.cell? w1 ((⟨b,0,none⟩:Addr).add 0)=some (.int .i64 x67)∧(Calls prog 197 ⟨[.int .i64 x67]⟩ w1 fun (e68:Ending) (w69:World) =>
 ∃ (x70:Bool),e68=.returned (.bool x70)∧(br (!x70) (R (.returned (.int .i64 8)) w69) (K9 w69)))) (K9 w1))))):=by
  intro q1
  refine ⟨n,c2,qd (fun g1=>⟨k,c0,qtt k ⟨_,rfl,ql (fun g2=>k8 (.inr (.inr (.inr (.inl ⟨g1,by simpa using g2⟩))))) (fun g2=>ptail q1 ?_)⟩⟩) (fun g1=>ptail q1 ?_)⟩
  ·rintro ⟨_,hh⟩;rw [hh] at g2;cases g2
  ·rintro ⟨hh,_⟩;exact g1 hh
 refine qd (fun g1=>⟨k,c0,q1t k ⟨_,rfl,ql (fun g2=>k8 (.inr (.inr (.inl ⟨g1,by simpa using g2⟩)))) (fun g2=>ntail ?_)⟩⟩) (fun g1=>ntail ?_)
 ·rintro ⟨_,hh⟩;rw [hh] at g2;cases g2
 ·rintro ⟨hh,_⟩;exact g1 hh
end
theorem qvx {α β:Type} (x:Sem α) (f:α→Sem β):x.bind f=(x >>= f):=rfl
theorem qvw {α:Type} (x:α):(Sem.pure x:Sem α)=pure x:=rfl
section
attribute [local irreducible] World.shape?
theorem conv_to {w:World} {b:Nat} {j:TypeInfo} (hj:Tryz.prog.info? 116=some j) (hjs:j.size=2) (hsh:w.shape? b=some (116,2)) :
  (convert 113 252 (.pointer (some ⟨b,0,none⟩))).run prog w=.ok (.pointer (some ⟨b,0,none⟩)) w:=by
 simp [convert,run_underlying Tryz.underlying113,run_underlying Tryz.underlying252]
 conv=>lhs;whnf
 simp [qvx,qvw,hsh,cellsIn,sizeOf,typeInfo,hj,hjs]
theorem conv_from {w:World} {b:Nat} {j:TypeInfo} (hj:Tryz.prog.info? 116=some j) (hsh:w.shape? b=some (116,2)) :
  (convert 252 113 (.pointer (some ⟨b,0,none⟩))).run prog w=.ok (.pointer (some ⟨b,0,none⟩)) w:=by
 have hl:liesAt prog Tryz.prog.depth 116 (2 / Tryz.prog.cellsOf 116) 0 116 1=true:=by kernel_rfl
 simp [convert,run_underlying Tryz.underlying113,run_underlying Tryz.underlying252]
 conv=>lhs;whnf
 simp [qvx,qvw,hsh,sizeOf,typeInfo,hj,variablesAt,hl]
end
theorem q0c (b:Nat) (w:World) (h0:w.cell? ⟨b,0,none⟩=some (.pointer (some ⟨b,0,none⟩))) :
  Calls prog 200 #[.pointer (some ⟨b,0,none⟩)] w fun e w'=>e=.returned (.tuple #[])∧w'=w:=by
 obtain ⟨j,hj,_⟩:=Option.map_eq_some_iff.1 (show (Tryz.prog.info? 116).map (·.size)=some 2 by kernel_rfl)
 go_enter Tryz.func200,Tryz.ntmps200
 go_wp2
 rw [Lib.run_neq_ptr_same w _ Tryz.underlying113 hj]
 go_wp2
 go_end0
 exact ⟨rfl,rfl⟩
theorem qx2 (b:Nat) (w:World) (h0:w.cell? ⟨b,0,none⟩=some (.pointer none)) (hsh:w.shape? b=some (116,2)) (hfz:w.frozen? ⟨b,0,none⟩=false) :
  Calls prog 200 #[.pointer (some ⟨b,0,none⟩)] w fun e w'=>e=.returned (.tuple #[])∧w'=w.setCell ⟨b,0,none⟩ (.pointer (some ⟨b,0,none⟩)):=by
 obtain ⟨j,hj,hjs⟩:=Option.map_eq_some_iff.1 (show (Tryz.prog.info? 116).map (·.size)=some 2 by kernel_rfl)
 go_enter Tryz.func200,Tryz.ntmps200
 go_wp2
 rw [conv_to hj hjs hsh]
 simp only [Result.andThen]
 rw [Oper.upon_value]
 go_wp2
 rw [run_callFunc_extern Tryz.func227 (by kernel_rfl) (by kernel_rfl) (by kernel_rfl) (e:=Extern.AbiNoEscape.same) (by kernel_rfl)]
 rw [Lib.run_noEscape]
 simp only [Result.andThen]
 rw [Oper.upon_value]
 go_wp2
 rw [conv_from hj hsh]
 simp only [Result.andThen]
 rw [Oper.upon_value]
 go_wp2
 go_end0
 exact ⟨rfl,rfl⟩
theorem app_str {P:Program} {t u ty e:TypeId} (hT:SlT P t e 1 1 (.int .u8 0)) (hu:P.underlying u=some .string) {B:Nat} {a:Option Addr} {n c:Nat} {xs:List Value} {w:World} (hown:Owns w B e 1 a n c xs) (hB:B≤w.heap.size)
  (s:List UInt8) (hbytes:n + s.length≤140737488355328) {K:Option Addr→Nat→Nat→World→Prop}
  (hk:∀ a' c'' w',Owns w' B e 1 a' (n + s.length) c'' (xs++Lib.byteCells s)→Chg (bk a) w w'→(∀ k,bk a' k→bk a k∨w.heap.size≤k)→K a' (n + s.length) c'' w') :
  app P [t,u] ty (.slice a n c) (.string ⟨⟨s⟩⟩) w K:=by
 obtain ⟨i,hi,hz,hs,hb⟩:=hT.get
 have hss:(⟨⟨s⟩⟩:ByteArray).size=s.length:=rfl
 have key:∀ v' w',(Builtin.append_ #[t,u] ty #[.slice a n c,.string ⟨⟨s⟩⟩]).run P w=.ok v' w'→∀ a' n' c'',v'=.slice a' n' c''→∀ k,bk a' k→bk a k∨w.heap.size≤k:=by
  intro v' w' hr a' n' c'' hv k hk'
  rcases hown.2 with ⟨e1,rfl⟩ | ⟨g,cap,cur,e1,hbg,hg,hnc,hcm,hcs,htake⟩
  ·obtain ⟨rfl,_,rfl⟩:a=none∧True∧c=0:=by simpa using e1
   by_cases hm:s.length=0
   ·have hf:=Lib.run_firstCells_string (P:=P) w 1 ⟨⟨s⟩⟩
    have hn:s=[]:=List.eq_nil_of_length_eq_zero hm
    subst hn
    have hr2:(Builtin.append_ #[t,u] ty #[.slice none 0 0,.string ⟨⟨[]⟩⟩]).run P w=.ok (.slice none 0 0) w:=by
     simp [Builtin.append_,run_underlying hT.under,run_underlying hu,sizeOf,typeInfo,hi,Builtin.lenOf,Builtin.firstCells,ByteArray.size]
    rw [hr] at hr2
    simp only [Result.ok.injEq] at hr2
    rw [hr2.1] at hv
    simp only [Value.slice.injEq] at hv
    rw [← hv.1] at hk'
    simp [bk] at hk'
   ·have hr2:=run_append_nil_string (P:=P) w t u ty e i _ hT.under hu hi hz ⟨⟨s⟩⟩ (by rw [hss];omega) (by rw [hss];omega) (by rw [hb,hss];omega)
    rw [hr] at hr2
    simp only [Result.ok.injEq] at hr2
    rw [hr2.1] at hv
    simp only [Value.slice.injEq] at hv
    rw [← hv.1] at hk'
    simp [bk] at hk'
    right;omega
  ·obtain ⟨rfl,_,rfl⟩:a=some ⟨g,0,none⟩∧True∧c=cap:=by simpa using e1
   by_cases hroom:n + s.length≤c
   ·have hr2:=Lib.run_append_room_string (P:=P) w t u ty e i hT.under hu hi hs g n c cur hg ⟨⟨s⟩⟩ hroom (by rw [hss,hcs];omega)
    rw [hr] at hr2
    simp only [Result.ok.injEq] at hr2
    rw [hr2.1] at hv
    simp only [Value.slice.injEq] at hv
    rw [← hv.1] at hk'
    exact .inl hk'
   ·have holds:∀ j u,xs[j]? = some u→w.cell? ((⟨g,0,none⟩:Addr).add j)=some u:=hown.cells (g:=g) rfl
    have hr2:=Lib.run_append_grow_string (P:=P) w t u ty e i _ hT.under hu hi hz ⟨g,0,none⟩ n c xs (by rw [hs];exact hown.1) holds ⟨⟨s⟩⟩ (by rw [hss];omega) (by rw [hss];omega)
     (growslice_fits (by rw [hss];omega) (by rw [hb,hss];omega))
    rw [hr] at hr2
    simp only [Result.ok.injEq] at hr2
    rw [hr2.1] at hv
    simp only [Value.slice.injEq] at hv
    rw [← hv.1] at hk'
    simp [bk] at hk'
    right;omega
 obtain ⟨v',w',hr,ho,hg,hnn⟩:=Lib.run_append_own_string w B t u ty e i hT.under hu hi hz hs hb _ n xs hown ⟨⟨s⟩⟩ (by simp only [maxLen];rw [hss];omega) (by rw [hss];omega) hB
 have hkey:=key v' w' hr
 rw [show Lib.strCells ⟨⟨s⟩⟩=Lib.byteCells s from rfl] at ho
 rcases ho.2 with ⟨rfl,hn⟩ | ⟨g,cap,cur,rfl,h2⟩
 ·refine ⟨none,0,0,w',hr,?_⟩
  have hn':n + s.length=0:=hn
  have:=hk none 0 w' (by rw [hn'];rw [hn] at ho;exact ho) (qj2 hg) (hkey _ _ _ rfl)
  rwa [hn'] at this
 ·exact ⟨some ⟨g,0,none⟩,n + s.length,cap,w',hr,hk _ _ _ ho (qj2 hg) (hkey _ _ _ rfl)⟩
def BldAt (w:World) (b:Nat) (a:Option Addr) (l:List UInt8):Prop :=
 ∃ p c,Blk w b [p,.slice a l.length c] 116∧(p=.pointer none∨p=.pointer (some ⟨b,0,none⟩))∧Owns w (b + 1) 5 1 a l.length c (Lib.byteCells l)
theorem BldAt.lt {w:World} {b:Nat} {a:Option Addr} {l:List UInt8} (h:BldAt w b a l):b < w.heap.size:=by
 obtain ⟨p,c,h1,_⟩:=h;exact h1.lt
theorem BldAt.bk {w:World} {b:Nat} {a:Option Addr} {l:List UInt8} (h:BldAt w b a l) {k:Nat} (hk:Sh.bk a k):b < k∧k < w.heap.size:=by
 obtain ⟨p,c,h1,_,h2⟩:=h
 have:=h2.bk hk;omega
theorem BldAt.chg {S:Nat→Prop} {w w':World} {b:Nat} {a:Option Addr} {l:List UInt8} (h:BldAt w b a l) (hc:Chg S w w') (h1:¬ S b) (h2:∀ k,Sh.bk a k→¬ S k):BldAt w' b a l:=by
 obtain ⟨p,c,g1,g2,g3⟩:=h
 exact ⟨p,c,hc.blk g1 h1,g2,g3.chg hc h2⟩
theorem BldAt.ext {w w':World} {b:Nat} {a:Option Addr} {l:List UInt8} (h:BldAt w b a l) (hc:Ext w w'):BldAt w' b a l :=
 h.chg (S:=fun _=>False) (.of_ext hc) (fun h=>h) fun _ _ h=>h
theorem BldAt.isB {w:World} {b:Nat} {a:Option Addr} {l:List UInt8} (h:BldAt w b a l):Lib.IsBuilder 116 5 b b (Lib.byteCells l) w:=by
 obtain ⟨p,c,g1,g2,g3⟩:=h
 have hne:(Value.slice a l.length c).ownBlock≠some b:=by
  cases a with
  | none=>simp [Value.ownBlock]
  | some p=>simp [Value.ownBlock];intro e;have:=(g3.bk (k:=b) (by simp [Sh.bk,e])).1;omega
 have hlen:(Lib.byteCells l).length=l.length:=Lib.byteCells_length l
 have hb:Lib.BuilderAt 116 5 b b p (Lib.byteCells l) w:=by
  refine ⟨Nat.le_refl _,.slice a l.length c,g1,?_,hne⟩
  rw [hlen]
  refine ⟨g3.1,?_⟩
  rcases g3.2 with h | ⟨g,cap,cur,e1,e2,h⟩
  ·exact .inl h
  ·exact .inr ⟨g,cap,cur,e1,by omega,h⟩
 rcases g2 with rfl | rfl
 ·exact .inl hb
 ·exact .inr hb
theorem q99:SlT prog 114 5 1 1 (.int .u8 0):=⟨by kernel_rfl,by kernel_rfl,rfl,by decide⟩
section
variable {R:Ending→World→Prop} {w:World}
theorem q9k {b:Nat} {a:Option Addr} {l:List UInt8} (h:BldAt w b a l) (hk:∀ w',Below b w w'→R (.returned (.string ⟨⟨l⟩⟩)) w'):Calls prog qh1 ⟨[.pointer (some ⟨b,0,none⟩)]⟩ w R:=by
 refine (Tryz.Builder_String_any b b l w h.isB (by have:=h.lt;omega)).mono ?_
 rintro e w' ⟨rfl,hb⟩
 exact hk w' hb
theorem qez {b:Nat} {a:Option Addr} {l s:List UInt8} (h:BldAt w b a l) (hlen:l.length + s.length≤140737488355328)
  (hk:∀ a' w',BldAt w' b a' (l++s)→(∀ k,bk a' k→bk a k∨w.heap.size≤k)→Chg (fun k=>k=b∨bk a k) w w'→R (.returned (.tuple ⟨[.int .i64 s.length,.nilIface]⟩)) w') :
  Calls prog qbx ⟨[.pointer (some ⟨b,0,none⟩),.string ⟨⟨s⟩⟩]⟩ w R:=by
 apply qey
 obtain ⟨p,c,g1,g2,g3⟩:=h
 have hbl:=g1.lt
 have hnb:¬ bk a b:=fun hb=>by have:=(g3.bk hb).1;omega
 have main:∀ w1,Blk w1 b [.pointer (some ⟨b,0,none⟩),.slice a l.length c] 116→Owns w1 (b + 1) 5 1 a l.length c (Lib.byteCells l)→Chg (· = b) w w1→w1.heap.size=w.heap.size →
   (dr (some ⟨b,0,none⟩) fun p5 =>
 ∃ (x6:Option Addr) (x6n:Nat) (x6c:Nat),World.cell? w1 (p5.add 1)=some (.slice x6 x6n x6c)∧(app prog [114,9] 114 (.slice x6 x6n x6c) (.string ⟨⟨s⟩⟩) w1 fun a7 a7n a7c w8 =>
 dr (some ⟨b,0,none⟩) fun p9 =>
 stL w8 (p9.add 1) 0 [.slice a7 a7n a7c] fun w10 =>
 R (.returned (.tuple ⟨[.int .i64 ((List.length s:Int)),.nilIface]⟩)) w10)):=by
  intro w1 q1 q2 q3 q4
  refine dr_ok ⟨a,l.length,c,by rw [qg,q1.cell];rfl,app_str q99 (by kernel_rfl) q2 (by omega) s hlen fun a' c'' w2 ho hc hn=>dr_ok ?_⟩
  have q5:Blk w2 b [.pointer (some ⟨b,0,none⟩),.slice a l.length c] 116:=hc.blk q1 hnb
  rw [qg]
  refine qae q5 (by simp) (by simp [Value.oneCell']) fun w3 r1 r2 r3 r4 r5 r6=>?_
  have hw23:Chg (· = b) w2 w3:=⟨r4,r5,r6,by omega,fun k _ hk=>r2 k hk⟩
  have hnb':∀ k,bk a' k→¬ k=b:=fun k hk he=>by have:=(ho.bk hk).1;omega
  have e:(l++s).length=l.length + s.length:=by simp
  refine hk a' w3 ⟨.pointer (some ⟨b,0,none⟩),c'',?_,.inr rfl,?_⟩ (fun k hk=>(hn k hk).imp id (by omega)) ?_
  ·rw [e];exact r1
  ·rw [e,show Lib.byteCells (l++s)=Lib.byteCells l++Lib.byteCells s by simp [Lib.byteCells]]
   exact ho.chg hw23 hnb'
  ·exact ((q3.mono fun k _ h=>.inl h).trans (hc.mono fun k _ h=>.inr h)).trans (hw23.mono fun k _ h=>.inl h)
 rcases g2 with rfl | rfl
 ·refine (qx2 b w (by rw [g1.cell];rfl) (by simp [World.shape?,show w.heap[b]? = _ from g1]) (g1.frozen 0)).mono ?_
  rintro e w' ⟨rfl,rfl⟩
  have hset:=g1.set 0 (.pointer (some ⟨b,0,none⟩))
  have hc:Chg (· = b) w (w.setCell ⟨b,0,none⟩ (.pointer (some ⟨b,0,none⟩))) :=
   ⟨rfl,rfl,rfl,by simp,fun k _ hk=>by simp only [World.setCell,Array.getElem?_modify];rw [if_neg (fun e=>hk e.symm)]⟩
  exact ⟨rfl,main _ hset (g3.chg hc fun k hk he=>hnb (he ▸ hk)) hc (by simp)⟩
 ·refine (q0c b w (by rw [g1.cell];rfl)).mono ?_
  rintro e w' ⟨rfl,rfl⟩
  exact ⟨rfl,main _ g1 g3 (Chg.refl _ _) rfl⟩
end
def tagsL:List (List UInt8):=[[],[],[108,98],[112,98],[115,101,99],[118],[103,97,112],[117,110,99,108,101,97,114],[97,100,100],[100,101,108],[97,98],[110,97,109,101]]
def tagF (k:Int):List UInt8:=tagsL.getD k.toNat []
theorem qlc {k:Int} (h1:1≤k) (h2:k≤11):k=1∨k=2∨k=3∨k=4∨k=5∨k=6∨k=7∨k=8∨k=9∨k=10∨k=11:=by omega
theorem q2x {k:Int} (h1:1≤k) (h2:k≤11):(tagF k).length≤7:=by
 rcases qlc h1 h2 with rfl | rfl | rfl | rfl | rfl | rfl | rfl | rfl | rfl | rfl | rfl <;> decide
def valF (k:Int) (t:List UInt8) (n:Int):List UInt8:=if qad k then 32 :: t else if numsF k then 32 :: Lib.decDigits n.toNat else []
def nodeF (k:Int) (t:List UInt8) (n:Int) (inner:List UInt8):List UInt8 :=
 if k=1 then t else if qx k then [60]++tagF k++valF k t n++[62]++inner++[60,47]++tagF k++[62] else [60]++tagF k++valF k t n++[47,62]
def qat:Fo→List UInt8
 | .nil=>[]
 | .cons k t n ps r=>nodeF k t n (qat ps)++qat r
theorem q12 (f g:Fo):qat (f.app g)=qat f++qat g:=by
 induction f with
 | nil=>rfl
 | cons k t n ps r _ ih=>simp only [Fo.cons_app,qat,ih,List.append_assoc]
def q17 (k:Int) (t:List UInt8) (n:Int) (ps:Fo):Prop:=1≤k∧k≤11∧(numsF k=true→0≤n∧n < 100)∧t.length≤65536∧(qx k=false→ps.len=0)∧(qx k=true→0 < ps.len)
def good:Fo→Prop
 | .nil=>True
 | .cons k t n ps r=>q17 k t n ps∧good ps∧good r
theorem q3w {f g:Fo}:good (f.app g)↔good f∧good g:=by
 induction f with
 | nil=>simp [good]
 | cons k t n ps r _ ih=>simp only [Fo.cons_app,good,ih,and_assoc]
theorem qfb:∀ n:Nat,n < 100→(Lib.decDigits n).length≤2:=by decide +kernel
theorem q2p {k:Int} {t:List UInt8} {n:Int} {ps:Fo} (h:q17 k t n ps):(valF k t n).length≤65537:=by
 unfold valF
 split
 ·have:=h.2.2.2.1;simp;omega
 ·split
  ·rename_i h1 h2
   have:=h.2.2.1 h2
   have:=qfb n.toNat (by omega)
   simp;omega
  ·simp
theorem qfg:∀ (f:Fo),good f→(qat f).length≤65600 * f.size
 | .nil,_=>by simp [qat,Fo.size]
 | .cons k t n ps r,h=>by
  have h1:=qfg ps h.2.1
  have h2:=qfg r h.2.2
  have h3:=q2x h.1.1 h.1.2.1
  have h4:=q2p h.1
  have h5:=h.1.2.2.2.1
  simp only [qat,Fo.size,List.length_append,nodeF]
  split
  ·omega
  ·split <;> simp only [List.length_append,List.length_cons,List.length_nil] <;> omega
def allF:Fo→Bool→Bool→Int
 | .nil,_,_=>0
 | .cons k t n ps r,before,within=>if qy k t n ps before within≠0 then qy k t n ps before within else if allF ps false true≠0 then allF ps false true else allF r (decide (k=1)) within
theorem q51 {k:Int} {t:List UInt8} {n:Int} {ps:Fo} {before within:Bool} (h:qy k t n ps before within=0):q17 k t n ps:=by
 unfold qy at h
 split at h
 ·cases h
 rename_i h1
 split at h
 ·cases h
 rename_i h2
 have hk1:1≤k:=by omega
 have hk2:k≤11:=by omega
 have hp:qx k=false→ps.len=0:=fun hp=>by
  apply Classical.byContradiction;intro hne
  exact h1 (.inr (.inr (.inr (.inr ⟨by omega,hp⟩))))
 have hp2:qx k=true→0 < ps.len:=fun hp=>by
  apply Classical.byContradiction;intro hne
  exact h2 (.inr ⟨hp,by omega⟩)
 have htx:qad k=false→t=[]:=fun hp=>by
  apply Classical.byContradiction;intro hne
  exact h1 (.inr (.inr (.inl ⟨hne,hp⟩)))
 have ht:t.length≤65536:=by
  by_cases hb:qad k=true
  ·have hb':k=1∨k=3∨k=4∨k=10∨k=11:=by simpa [qad] using hb
   have nm:qaa t=true→t.length≤65536:=fun h=>by unfold qaa at h;simp at h;omega
   rcases hb' with rfl | rfl | rfl | rfl | rfl
   ·simp only [if_true] at h
    split at h
    ·cases h
    ·rename_i hc
     apply Classical.byContradiction;intro hne
     exact hc (by unfold qa8;rw [if_pos (by omega)];decide)
   ·simp at h;exact nm h
   ·simp at h;exact nm (by cases hc:qaa t with | true=>rfl | false=>rw [hc] at h;simp at h)
   ·simp at h;unfold qv at h;simp at h;omega
   ·simp at h;exact nm h
  ·rw [htx (by simpa using hb)];simp
 refine ⟨hk1,hk2,fun hn=>?_,ht,hp,hp2⟩
 have hn':k=6∨k=8∨k=9:=by simpa [numsF] using hn
 rcases hn' with rfl | rfl | rfl
 ·simp at h;omega
 ·simp at h;omega
 ·simp at h;omega
theorem qq1:∀ (f:Fo) (before within:Bool),allF f before within=0→good f
 | .nil,_,_,_=>trivial
 | .cons k t n ps r,before,within,h=>by
  rw [allF] at h
  split at h
  ·rename_i h1;exact absurd h h1
  rename_i h1
  split at h
  ·rename_i h2;exact absurd h h2
  rename_i h2
  exact ⟨q51 (Decidable.not_not.1 h1),qq1 ps _ _ (Decidable.not_not.1 h2),qq1 r _ _ h⟩
end Go.Proofs
