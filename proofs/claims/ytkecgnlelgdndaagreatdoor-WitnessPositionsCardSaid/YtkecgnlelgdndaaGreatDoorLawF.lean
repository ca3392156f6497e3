/- The contracts of the functions that the law reaches, one after the other, and at the end the law's card. -/
import Derived.Test.YtkecgnlelgdndaaGreatDoorLawE
import Derived.Laws.IdiomStrings
set_option linter.all false
set_option maxRecDepth 100000
namespace Go.Proofs
open Go Go.Sh Go.RowKit Go.Proofs.Tryz IntKind
section
attribute [local irreducible] World.shape?
theorem conv_to1 {w:World} {b:Nat} {j:TypeInfo} (hj:Tryz.prog.info? 116=some j) (hjs:j.size=2) (hsh:w.shape? b=some (118,6)) :
  (convert 113 252 (.pointer (some ⟨b,1,none⟩))).run prog w=.ok (.pointer (some ⟨b,1,none⟩)) w:=by
 simp [convert,run_underlying Tryz.underlying113,run_underlying Tryz.underlying252]
 conv=>lhs;whnf
 simp [qxf,qxe,hsh,cellsIn,sizeOf,typeInfo,hj,hjs]
theorem conv_from1 {w:World} {b:Nat} {j:TypeInfo} (hj:Tryz.prog.info? 116=some j) (hsh:w.shape? b=some (118,6)) :
  (convert 252 113 (.pointer (some ⟨b,1,none⟩))).run prog w=.ok (.pointer (some ⟨b,1,none⟩)) w:=by
 have hl:liesAt prog Tryz.prog.depth 118 (6 / Tryz.prog.cellsOf 118) 1 116 1=true:=by kernel_rfl
 simp [convert,run_underlying Tryz.underlying113,run_underlying Tryz.underlying252]
 conv=>lhs;whnf
 simp [qxf,qxe,hsh,sizeOf,typeInfo,hj,variablesAt,hl]
end
theorem qzt (b:Nat) (w:World) (h0:w.cell? ⟨b,1,none⟩=some (.pointer (some ⟨b,1,none⟩))) :
  Calls prog 200 #[.pointer (some ⟨b,1,none⟩)] w fun e w'=>e=.returned (.tuple #[])∧w'=w:=by
 obtain ⟨j,hj,_⟩:=Option.map_eq_some_iff.1 (show (Tryz.prog.info? 116).map (·.size)=some 2 by kernel_rfl)
 go_enter Tryz.func200,Tryz.ntmps200
 go_wp2
 rw [Lib.run_neq_ptr_same w _ Tryz.underlying113 hj]
 go_wp2
 go_end0
 exact ⟨rfl,rfl⟩
theorem qwj (b:Nat) (w:World) (h0:w.cell? ⟨b,1,none⟩=some (.pointer none)) (hsh:w.shape? b=some (118,6)) (hfz:w.frozen? ⟨b,1,none⟩=false) :
  Calls prog 200 #[.pointer (some ⟨b,1,none⟩)] w fun e w'=>e=.returned (.tuple #[])∧w'=w.setCell ⟨b,1,none⟩ (.pointer (some ⟨b,1,none⟩)):=by
 obtain ⟨j,hj,hjs⟩:=Option.map_eq_some_iff.1 (show (Tryz.prog.info? 116).map (·.size)=some 2 by kernel_rfl)
 go_enter Tryz.func200,Tryz.ntmps200
 go_wp2
 rw [conv_to1 hj hjs hsh]
 simp only [Result.andThen]
 rw [Oper.upon_value]
 go_wp2
 rw [run_callFunc_extern Tryz.func227 (by kernel_rfl) (by kernel_rfl) (by kernel_rfl) (e:=Extern.AbiNoEscape.same) (by kernel_rfl)]
 rw [Lib.run_noEscape]
 simp only [Result.andThen]
 rw [Oper.upon_value]
 go_wp2
 rw [conv_from1 hj hsh]
 simp only [Result.andThen]
 rw [Oper.upon_value]
 go_wp2
 go_end0
 exact ⟨rfl,rfl⟩
theorem freeze_chg (w:World) (g:Nat) (n:Nat):Chg (fun k=>k=g) w (w.freeze ⟨g,0,none⟩ n):=by
 unfold World.freeze
 split
 ·exact Chg.refl _ _
 ·exact ⟨rfl,rfl,rfl,by simp,fun k _ hk=>by simp only [Array.getElem?_modify];rw [if_neg (fun e=>hk e.symm)]⟩
set_option maxHeartbeats 1000000 in
theorem q8z (b g cap:Nat) (cur:Array Value) (l:List UInt8) (w:World) (h0:l≠[]) (h1:w.cell? ⟨b,2,none⟩=some (.slice (some ⟨g,0,none⟩) l.length cap)) (hg:w.heap[g]? = some (.cells cur 5 (0,0)))
  (hnc:l.length≤cap) (hcm:cap≤maxLen) (hcs:cur.size=cap) (htake:cur.toList.take l.length=Lib.byteCells l) :
  Calls prog 132 #[.pointer (some ⟨b,1,none⟩)] w fun e w'=>e=.returned (.string ⟨l.toArray⟩)∧Chg (fun k=>k=g) w w':=by
 have hl0:l.length≠0:=by simpa using h0
 have c1:w.drew.cell? ⟨b,2,none⟩=some (.slice (some ⟨g,0,none⟩) l.length cap):=h1
 have hSD:(Builtin.unsafeSliceData_ #[114] 216 #[.slice (some ⟨g,0,none⟩) l.length cap]).run prog w.drew=.ok (.pointer (some ⟨g,0,none⟩)) w.drew :=
  Lib.run_unsafeSliceData_row _ _ _ _ _ _ (by omega)
 have hUS:(Builtin.unsafeString_ #[216,3] 9 #[.pointer (some ⟨g,0,none⟩),.int .i64 l.length]).run prog w.drew=.ok (.string ⟨l.toArray⟩) (w.drew.freeze ⟨g,0,none⟩ l.length):=by
  refine Lib.run_unsafeString_row w.drew 216 3 9 5 Tryz.underlying216 (by kernel_rfl) g cur.size (by have hg':w.drew.heap[g]? = some (.cells cur 5 (0,0)):=hg;simp [World.shape?,hg']) l h0 (by omega) (by unfold maxLen at hcm;omega) ?_
  intro j x hx
  have hj:j < l.length:=(List.getElem?_eq_some_iff.1 hx).1
  have hc:w.drew.cell? ⟨g,j,none⟩=cur[j]?:=by
   have hg':w.drew.heap[g]? = some (.cells cur 5 (0,0)):=hg
   simp [World.cell?,hg']
  rw [qg,Nat.zero_add,hc]
  have:(cur.toList.take l.length)[j]? = some (.int .u8 x.toNat):=by rw [htake];simp [Lib.byteCells,hx]
  rw [List.getElem?_take,if_pos hj] at this
  simpa using this
 have mixed:Tryz.prog.follows .mixedOrders=true:=by kernel_rfl
 go_enter Tryz.func132,Tryz.ntmps132
 go_wp2
 go_region_o
 all_goals (go_wp2;go_ret;exact ⟨rfl,(Chg.drew w).trans (freeze_chg w.drew g _)⟩)
abbrev qpj (oa:Option Addr) (on oc:Nat) (p:Value) (wa:Option Addr) (wl wc:Nat) (op j v:Bool):List Value:=[.slice oa on oc,p,.slice wa wl wc,.bool op,.bool j,.bool v]
structure BsAt (w:World) (b:Nat) (oa wa:Option Addr) (l:List Tok) (s:List UInt8) (op j v:Bool) (p:Value) (oc wc:Nat):Prop where
 blk:Blk w b (qpj oa l.length oc p wa s.length wc op j v) 118
 p:p=.pointer none∨p=.pointer (some ⟨b,1,none⟩)
 out:OwnL encTk w (b + 1) 69 oa l.length oc l
 word:Owns w (b + 1) 5 1 wa s.length wc (Lib.byteCells s)
section
variable {w w':World} {b:Nat} {oa wa:Option Addr} {l:List Tok} {s:List UInt8} {op j v:Bool} {p:Value} {oc wc:Nat} {R:Ending→World→Prop}
theorem BsAt.apart (h:BsAt w b oa wa l s op j v p oc wc):∀ k,bk oa k→¬ bk wa k:=by
 intro k h1 h2
 rcases h.out.2 with ho | ⟨g,cap,cur,e1,e2,e3,_⟩
 ·simp at ho;rw [ho.1.1] at h1;simp [bk] at h1
 rcases h.word.2 with hw | ⟨g',cap',cur',f1,f2,f3,_⟩
 ·simp at hw;rw [hw.1.1] at h2;simp [bk] at h2
 have q1:oa=some ⟨g,0,none⟩:=by simpa using (Value.slice.inj e1).1
 have q2:wa=some ⟨g',0,none⟩:=by simpa using (Value.slice.inj f1).1
 rw [q1] at h1
 rw [q2] at h2
 simp [bk] at h1 h2
 subst h1
 subst h2
 rw [e3] at f3
 simp at f3
theorem BsAt.bkO (h:BsAt w b oa wa l s op j v p oc wc) {k:Nat} (hk:bk oa k):b < k∧k < w.heap.size:=by have:=h.out.bk hk;omega
theorem BsAt.bkW (h:BsAt w b oa wa l s op j v p oc wc) {k:Nat} (hk:bk wa k):b < k∧k < w.heap.size:=by have:=h.word.bk hk;omega
theorem BsAt.lt (h:BsAt w b oa wa l s op j v p oc wc):b < w.heap.size:=h.blk.lt
theorem BsAt.chg {S:Nat→Prop} (h:BsAt w b oa wa l s op j v p oc wc) (hc:Chg S w w') (h1:¬ S b) (h2:∀ k,bk oa k→¬ S k) (h3:∀ k,bk wa k→¬ S k):BsAt w' b oa wa l s op j v p oc wc :=
 ⟨hc.blk h.blk h1,h.p,h.out.chg hc h2,h.word.chg hc h3⟩
theorem BsAt.ext (h:BsAt w b oa wa l s op j v p oc wc) (hc:Ext w w'):BsAt w' b oa wa l s op j v p oc wc :=
 h.chg (S:=fun _=>False) (.of_ext hc) (fun h=>h) (fun _ _ h=>h) (fun _ _ h=>h)
theorem BsAt.cells (h:BsAt w b oa wa l s op j v p oc wc):w.cell? ((⟨b,0,none⟩:Addr).add 0)=some (.slice oa l.length oc)∧w.cell? ((⟨b,0,none⟩:Addr).add 3)=some (.bool op)∧w.cell? ((⟨b,0,none⟩:Addr).add 4)=some (.bool j)∧w.cell? ((⟨b,0,none⟩:Addr).add 5)=some (.bool v):=by
 simp only [qg,h.blk.cell];exact ⟨rfl,rfl,rfl,rfl⟩
theorem qcn {w:World} {b i:Nat} {T:TypeId} {cs:List Value} {u:Value} (hb:Blk w b cs T) (hi:i < cs.length) (hu:u.oneCell'=true) {K:World→Prop}
  (h:∀ w',Blk w' b (cs.set i u) T→Chg (fun k=>k=b) w w'→w'.heap.size=w.heap.size→K w'):stL w ((⟨b,0,none⟩:Addr).add i) 0 [u] K:=by
 rw [qg]
 refine qaf hb (by simp;omega) (by intro x hx;rw [List.mem_singleton.1 hx];exact hu) fun w' b1 x2 x3 x4 x5 x6=>?_
 have e:putAt cs (0 + i + 0) [u]=cs.set i u:=by rw [Nat.zero_add,Nat.add_zero];rfl
 rw [e] at b1
 exact h w' b1 ⟨x4,x5,x6,by omega,fun j _ hj=>x2 j hj⟩ x3
theorem BsAt.setOp (h:BsAt w b oa wa l s op j v p oc wc) (op':Bool) {K:World→Prop} (hk:∀ w',BsAt w' b oa wa l s op' j v p oc wc→Chg (fun k=>k=b) w w'→w'.heap.size=w.heap.size→K w'):stL w ((⟨b,0,none⟩:Addr).add 3) 0 [.bool op'] K :=
 qcn h.blk (by simp) rfl fun w' b1 hc hs=>hk w' ⟨b1,h.p,h.out.chg hc fun k hk hh=>by have:=h.bkO hk;omega,h.word.chg hc fun k hk hh=>by have:=h.bkW hk;omega⟩ hc hs
theorem BsAt.setJ (h:BsAt w b oa wa l s op j v p oc wc) (j':Bool) {K:World→Prop} (hk:∀ w',BsAt w' b oa wa l s op j' v p oc wc→Chg (fun k=>k=b) w w'→w'.heap.size=w.heap.size→K w'):stL w ((⟨b,0,none⟩:Addr).add 4) 0 [.bool j'] K :=
 qcn h.blk (by simp) rfl fun w' b1 hc hs=>hk w' ⟨b1,h.p,h.out.chg hc fun k hk hh=>by have:=h.bkO hk;omega,h.word.chg hc fun k hk hh=>by have:=h.bkW hk;omega⟩ hc hs
theorem BsAt.setV (h:BsAt w b oa wa l s op j v p oc wc) (v':Bool) {K:World→Prop} (hk:∀ w',BsAt w' b oa wa l s op j v' p oc wc→Chg (fun k=>k=b) w w'→w'.heap.size=w.heap.size→K w'):stL w ((⟨b,0,none⟩:Addr).add 5) 0 [.bool v'] K :=
 qcn h.blk (by simp) rfl fun w' b1 hc hs=>hk w' ⟨b1,h.p,h.out.chg hc fun k hk hh=>by have:=h.bkO hk;omega,h.word.chg hc fun k hk hh=>by have:=h.bkW hk;omega⟩ hc hs
theorem slT_tok:SlT prog 40 69 6 80 (.agg #[.string ⟨#[]⟩,.string ⟨#[]⟩,.string ⟨#[]⟩,.int .i64 0,.int .i64 0,.string ⟨#[]⟩]):=⟨by kernel_rfl,by kernel_rfl,rfl,by decide⟩
theorem qlu (h:BsAt w b oa wa l s op j v p oc wc) (c:UInt8) (hlen:s.length≤1000000000)
  (hk:∀ wa' wc' w',BsAt w' b oa wa' l (s++[c]) op j v (.pointer (some ⟨b,1,none⟩)) oc wc'→Chg (fun k=>k=b∨bk wa k) w w'→(∀ k,bk wa' k→bk wa k∨w.heap.size≤k)→R (.returned .nilIface) w') :
  Calls prog qch ⟨[.pointer (some ⟨b,1,none⟩),.int .u8 (c.toNat:Int)]⟩ w R:=by
 apply qf8
 have hbl:=h.lt
 have main:∀ w1,BsAt w1 b oa wa l s op j v (.pointer (some ⟨b,1,none⟩)) oc wc→Chg (· = b) w w1→w1.heap.size=w.heap.size →
   (dr (some ⟨b,1,none⟩) fun p5 =>
 ∃ (x6:Option Addr) (x6n:Nat) (x6c:Nat),World.cell? w1 (p5.add 1)=some (.slice x6 x6n x6c)∧(al w1 5 [.int .u8 (c.toNat:Int)] fun p7 w8 =>
 app prog [114,114] 114 (.slice x6 x6n x6c) (.slice (some p7) 1 1) w8 fun a9 a9n a9c w10 =>
 dr (some ⟨b,1,none⟩) fun p11 =>
 stL w10 (p11.add 1) 0 [.slice a9 a9n a9c] fun w12 =>
 R (.returned (.nilIface)) w12)):=by
  intro w1 q1 q3 q4
  refine dr_ok ⟨wa,s.length,wc,by rw [qg,q1.blk.cell];rfl,?_⟩
  refine qft slT_byte q1.word (by have:=q1.lt;omega) [.int .u8 (c.toNat:Int)] rfl (by intro u hu;rw [List.mem_singleton.1 hu];rfl) (by omega) (by omega) fun a' c'' w2 ho hc hn=>dr_ok ?_
  have q5:=hc.blk q1.blk (fun hh=>by have:=q1.bkW hh;omega)
  have e:s.length + 1=(s++[c]).length:=by simp
  have eb:Lib.byteCells (s++[c])=Lib.byteCells s++[.int .u8 (c.toNat:Int)]:=by simp [Lib.byteCells]
  have q6:=q1.out.chg hc fun k hk hh=>q1.apart k hk hh
  rw [qg]
  refine qaf q5 (by simp) (by simp [Value.oneCell']) fun w3 r1 r2 r3 r4 r5 r6=>?_
  have hw23:Chg (· = b) w2 w3:=⟨r4,r5,r6,by omega,fun k _ hk=>r2 k hk⟩
  have hnb':∀ k,bk a' k→¬ k=b:=fun k hk he=>by have:=(ho.bk hk).1;omega
  refine hk a' c'' w3 ⟨?_,.inr rfl,q6.chg hw23 fun k hk he=>by have:=q1.bkO hk;omega,?_⟩ ?_ (fun k hk=>(hn k hk).imp id (by omega))
  ·rw [← e];exact r1
  ·rw [← e,eb];exact ho.chg hw23 hnb'
  ·exact ((q3.mono fun k _ h=>.inl h).trans (hc.mono fun k _ h=>.inr h)).trans (hw23.mono fun k _ h=>.inl h)
 rcases h.p with rfl | rfl
 ·refine (qwj b w (by rw [h.blk.cell];rfl) (by simp [World.shape?,show w.heap[b]? = _ from h.blk]) (h.blk.frozen 1)).mono ?_
  rintro e w' ⟨rfl,rfl⟩
  have hset:=h.blk.set 1 (.pointer (some ⟨b,1,none⟩))
  have hc:Chg (· = b) w (w.setCell ⟨b,1,none⟩ (.pointer (some ⟨b,1,none⟩))) :=
   ⟨rfl,rfl,rfl,by simp,fun k _ hk=>by simp only [World.setCell,Array.getElem?_modify];rw [if_neg (fun e=>hk e.symm)]⟩
  exact ⟨rfl,main _ ⟨hset,.inr rfl,h.out.chg hc fun k hk he=>by have:=h.bkO hk;omega,h.word.chg hc fun k hk he=>by have:=h.bkW hk;omega⟩ hc (by simp)⟩
 ·refine (qzt b w (by rw [h.blk.cell];rfl)).mono ?_
  rintro e w' ⟨rfl,rfl⟩
  exact ⟨rfl,main _ h (Chg.refl _ _) rfl⟩
end
section
variable {α:Type} {E:Enc α}
theorem row_set1 {x x':α} {f:Nat} {u:Value} (hf:f < E.size) (hu:E.enc x'=(E.enc x).set f u):∀ {l:List α} {i:Nat},l[i]? = some x→(E.row l).set (i * E.size + f) u=E.row (l.set i x')
 | [],i,h=>by simp at h
 | y :: l,0,h=>by
  obtain rfl:y=x:=by simpa using h
  rw [qfq,Nat.zero_mul,Nat.zero_add,List.set_append_left _ _ (by rw [E.len];exact hf),List.set_cons_zero,qfq,hu]
 | y :: l,i + 1,h=>by
  have h':l[i]? = some x:=by simpa using h
  rw [qfq,List.set_append_right _ _ (by rw [E.len,Nat.add_mul];omega),List.set_cons_succ,qfq,← row_set1 hf hu h',E.len]
  congr 2
  rw [Nat.add_mul];omega
theorem OwnL.storeCell {w:World} {B:Nat} {e:TypeId} {a:Option Addr} {n c:Nat} {l:List α} (h:OwnL E w B e a n c l) {i:Nat} {x:α} (hx:l[i]? = some x) :
  ∃ g,a=some ⟨g,0,none⟩∧(∀ K:Addr→Prop,K ⟨g,i * E.size,none⟩→idx a n (i:Int) E.size K)∧(∀ j v,(E.enc x)[j]? = some v→w.cell? ⟨g,i * E.size + j,none⟩=some v) ∧
   ∀ (f:Nat) (u:Value) (x':α) (K:World→Prop),f < E.size→u.oneCell'=true→E.enc x'=(E.enc x).set f u→(∀ w',OwnL E w' B e a n c (l.set i x')→Chg (bk a) w w'→w'.heap.size=w.heap.size→K w')→stL w ⟨g,i * E.size + f,none⟩ 0 [u] K:=by
 have hl:=h.length
 have hi:i < n:=by rw [← hl];exact (List.getElem?_eq_some_iff.1 hx).1
 have hrd:=h.out.get hx
 rcases h.2 with h1 | ⟨g,cap,cur,e1,e2,e3,e4,e5,e6,e7⟩
 ·omega
 obtain ⟨rfl,_,rfl⟩:a=some ⟨g,0,none⟩∧True∧c=cap:=by simpa using e1
 have hB:Blk w g cur.toList e:=e3
 have hcl:cur.toList.length=c * E.size:=by simpa using e6
 have hcur:cur.toList=E.row l++cur.toList.drop (n * E.size):=by rw [← e7,List.take_append_drop]
 have hin:i * E.size + E.size≤n * E.size:=by
  have:(i + 1) * E.size≤n * E.size:=Nat.mul_le_mul_right _ hi
  rwa [Nat.add_mul,Nat.one_mul] at this
 have hnc:n * E.size≤c * E.size:=Nat.mul_le_mul_right _ e4
 refine ⟨g,rfl,fun K hK=>⟨by omega,by omega,?_⟩,fun j v hj=>?_,fun f u x' K hf h1 hu hK=>?_⟩
 ·show K _
  rw [qg,Int.toNat_natCast,Nat.zero_add];exact hK
 ·have hjl:j < E.size:=by have:=(List.getElem?_eq_some_iff.1 hj).1;rw [E.len] at this;exact this
  rw [hB.cell,hcur,List.getElem?_append_left (by rw [qdl,hl];omega),q9t hx hjl];exact hj
 refine qaf hB (by simp only [List.length_cons,List.length_nil];omega) (by intro y hy;rw [List.mem_singleton.1 hy];exact h1) fun w' b1 b2 b3 b4 b5 b6=>?_
 have hc:Chg (bk (some (⟨g,0,none⟩:Addr))) w w':=⟨b4,b5,b6,by omega,fun k' _ hk=>b2 k' fun e=>hk (by simp [bk,e])⟩
 have hp:putAt cur.toList (i * E.size + f + 0) [u]=E.row (l.set i x')++cur.toList.drop (n * E.size):=by
  show cur.toList.set (i * E.size + f + 0) u=_
  rw [Nat.add_zero]
  conv=>lhs;rw [hcur]
  rw [List.set_append_left _ _ (by rw [qdl,hl];omega),row_set1 hf hu hx]
 rw [hp] at b1
 refine hK w' ⟨by rw [qdl,List.length_set,hl],.inr ⟨g,c,⟨_⟩,rfl,e2,b1,e4,e5,?_,?_⟩⟩ hc b3
 ·show (E.row (l.set i x')++cur.toList.drop (n * E.size)).length=c * E.size
  rw [List.length_append,List.length_drop,hcl,qdl,List.length_set,hl];omega
 ·show List.take (n * E.size) (E.row (l.set i x')++_)=_
  rw [List.take_append_of_le_length (by rw [qdl,List.length_set,hl];exact Nat.le_refl _),List.take_of_length_le (by rw [qdl,List.length_set,hl];exact Nat.le_refl _)]
end
section
variable {w w':World} {b:Nat} {oa wa:Option Addr} {l:List Tok} {s:List UInt8} {op j v:Bool} {p:Value} {oc wc:Nat} {R:Ending→World→Prop}
theorem qf3 {t:Tok} (h:BsAt w b oa wa (l++[t]) s op j v p oc wc) (hl:l.length≤1000000000) (hk:∀ g w',oa=some ⟨g,0,none⟩→BsAt w' b oa wa (l++[t]) s op j v p oc wc→Ext w w'→R (.returned (.pointer (some ⟨g,l.length * 6,none⟩))) w') :
  Calls prog qdc ⟨[.pointer (some ⟨b,0,none⟩)]⟩ w R:=by
 apply qh7
 unfold qcq drw
 have ed:=qw w
 have h:=h.ext ed
 generalize w.drew=wd at *
 have hx:(l++[t])[l.length]? = some t:=by simp
 obtain ⟨g,rfl,hq,_⟩:=OwnL.storeCell h.out hx
 have e:i64.wrap ((((l++[t]).length:Nat):Int) - 1)=(l.length:Int):=by
  rw [List.length_append,List.length_singleton,qr (by omega)];omega
 refine dr_ok ⟨_,_,_,h.cells.1,dr_ok ⟨_,_,_,h.cells.1,?_⟩⟩
 rw [e]
 exact hq _ (hk g wd rfl h ed)
theorem BsAt.last {t:Tok} (h:BsAt w b oa wa (l++[t]) s op j v p oc wc) {g:Nat} (hg:oa=some ⟨g,0,none⟩) :
  w.cell? ((⟨g,l.length * 6,none⟩:Addr).add 4)=some (.int .i64 t.g) ∧
  (∀ (u:List UInt8) (K:World→Prop),(∀ w',BsAt w' b oa wa (l++[{ t with t:=u }]) s op j v p oc wc→Chg (bk oa) w w'→K w')→stL w ((⟨g,l.length * 6,none⟩:Addr).add 0) 0 [.string ⟨⟨u⟩⟩] K) ∧
  (∀ (u:Int) (K:World→Prop),(∀ w',BsAt w' b oa wa (l++[{ t with g:=u }]) s op j v p oc wc→Chg (bk oa) w w'→K w')→stL w ((⟨g,l.length * 6,none⟩:Addr).add 4) 0 [.int .i64 u] K):=by
 have hx:(l++[t])[l.length]? = some t:=by simp
 obtain ⟨g',hg',_,hc,hs⟩:=OwnL.storeCell h.out hx
 have:g'=g:=by rw [hg] at hg';simpa using hg'.symm
 subst this
 have hset:∀ t':Tok,(l++[t]).set l.length t'=l++[t']:=fun t'=>by rw [List.set_append_right _ _ (Nat.le_refl _)];simp
 have fin:∀ (t':Tok) (w':World),OwnL encTk w' (b + 1) 69 oa (l++[t]).length oc (l++[t'])→Chg (bk oa) w w'→BsAt w' b oa wa (l++[t']) s op j v p oc wc:=by
  intro t' w' ho hcg
  have e:(l++[t']).length=(l++[t]).length:=by simp
  refine ⟨?_,h.p,by rw [e];exact ho,h.word.chg hcg fun k hk hh=>h.apart k hh hk⟩
  rw [e]
  exact hcg.blk h.blk fun hh=>by have:=h.bkO hh;omega
 refine ⟨?_,fun u K hK=>?_,fun u K hK=>?_⟩
 ·rw [qg];exact hc 4 _ rfl
 ·rw [qg]
  refine hs 0 _ { t with t:=u } K (by decide) rfl rfl fun w' ho hcg hsz=>hK w' ?_ hcg
  rw [hset] at ho
  exact fin _ _ ho hcg
 ·rw [qg]
  refine hs 4 _ { t with g:=u } K (by decide) rfl rfl fun w' ho hcg hsz=>hK w' ?_ hcg
  rw [hset] at ho
  exact fin _ _ ho hcg
def stFl (flags:Int) (j v:Bool):Int:=if v=true then bitO .i64 (if j=true then bitO .i64 flags 16 else flags) 4 else if j=true then bitO .i64 flags 16 else flags
theorem OwnL.app1 {α:Type} {E:Enc α} {P:Program} {t ty e:TypeId} {bytes:Nat} {z:Value} (hT:SlT P t e E.size bytes z) {w:World} {B:Nat} {a:Option Addr} {n c:Nat} {l:List α} (h:OwnL E w B e a n c l) (hB:B≤w.heap.size) {b':Nat} {e':TypeId} {x:α} (hb:Blk w b' (E.enc x) e')
  (hlen:n + 1≤4611686018427387904) (hbytes:(n + 1) * bytes≤140737488355328) {K:Option Addr→Nat→Nat→World→Prop}
  (hk:∀ a' c'' w',OwnL E w' B e a' (n + 1) c'' (l++[x])→Chg (bk a) w w'→(∀ k,bk a' k→bk a k∨w.heap.size≤k)→K a' (n + 1) c'' w') :
  app P [t,t] ty (.slice a n c) (.slice (some ⟨b',0,none⟩) 1 1) w K :=
 qsb (S:=fun _=>True) hT h hB (E.enc x) (by rw [E.len,Nat.one_mul]) (.inr ⟨b',0,rfl,trivial,hb.lt,fun j u hj=>by rw [Nat.zero_add,hb.cell];exact hj⟩) (E.one x) hlen hbytes
  fun a' c'' w' ho hc hn=>hk a' c'' w' (by unfold OwnL;rw [row_snoc];exact ho) hc hn
theorem BsAt.mkOut {oa0:Option Addr} {on0 oc0:Nat} (hbk:Blk w b (qpj oa0 on0 oc0 p wa s.length wc op j v) 118) (hp:p=.pointer none∨p=.pointer (some ⟨b,1,none⟩)) {oa':Option Addr} {oc':Nat} {l':List Tok} (ho:OwnL encTk w (b + 1) 69 oa' l'.length oc' l')
  (hw:Owns w (b + 1) 5 1 wa s.length wc (Lib.byteCells s)) {K:World→Prop}
  (hk:∀ w',BsAt w' b oa' wa l' s op j v p oc' wc→Chg (fun k=>k=b) w w'→w'.heap.size=w.heap.size→K w'):stL w ((⟨b,0,none⟩:Addr).add 0) 0 [.slice oa' l'.length oc'] K :=
 qcn hbk (by simp) rfl fun w' b1 hc hs=>hk w' ⟨b1,hp,ho.chg hc fun k hk hh=>by have:=(ho.bk hk).1;omega,hw.chg hc fun k hk hh=>by have:=(hw.bk hk).1;omega⟩ hc hs
theorem qj8 (h:BsAt w b oa wa l s op j v p oc wc) (hl:l.length≤1000000000) (hj:j=true→l≠[]) (x2 x3 x4:Int) (q:Ps) (u:Bool) (nm:List UInt8) (flags:Int)
  (hk:∀ oa' oc' w',BsAt w' b oa' wa (l++[⟨[],[],q,stFl flags j v,nm⟩]) s op true false p oc' wc→Chg (fun k=>k=b∨bk oa k) w w'→(∀ k,bk oa' k→bk oa k∨w.heap.size≤k)→R (.returned (.tuple ⟨[]⟩)) w') :
  Calls prog qcy ⟨[.pointer (some ⟨b,0,none⟩),.agg ⟨[.int .i64 x2,.int .u8 x3,.int .i64 x4,.string ⟨⟨q.1⟩⟩,.int .i64 q.2,.bool u,.string ⟨⟨nm⟩⟩]⟩,.int .i64 flags]⟩ w R:=by
 apply qhl
 refine qh fun b10 w11 hb10 B10 e11 s11=>?_
 have h11:=h.ext e11
 have hbl:=h.lt
 intro K12 hK12
 have k12:K12 (if j=true then bitO .i64 flags 16 else flags) w11:=by
  refine hK12 _ _ fun _=>?_
  intro K15 hK15
  have k15:K15 (stFl flags j v) w11:=by
   refine hK15 _ _ fun _=>?_
   unfold drw
   have ed:=qw w11
   have h12:=h11.ext ed
   have B12:=B10.ext ed
   have zd:w11.drew.heap.size=w11.heap.size:=rfl
   have E12:=qb e11 ed
   generalize w11.drew=wd at *
   have c3:∀ i v,[Value.int .i64 x2,.int .u8 x3,.int .i64 x4,.string ⟨⟨q.1⟩⟩,.int .i64 q.2,.bool u,.string ⟨⟨nm⟩⟩][i]? = some v→wd.cell? ⟨b10,i,none⟩=some v:=fun i v hi=>by rw [B12.cell];exact hi
   refine dr_ok ⟨_,_,_,h12.cells.1,q.1,by rw [qg,qg];exact c3 3 _ rfl,q.2,by rw [qg,qg];exact c3 4 _ rfl,nm,by rw [qg];exact c3 6 _ rfl,?_,trivial⟩
   refine qh fun b24 w25 hb24 B24 e25 s25=>⟨?_,trivial⟩
   have h25:=h12.ext e25
   have E25:=qb E12 e25
   have z25:=E25.size
   have B24':Blk w25 b24 (encTk.enc ⟨[],[],q,stFl flags j v,nm⟩) 69:=B24
   refine OwnL.app1 (P:=prog) slT_tok h25.out (by have:=h25.lt;omega) B24' (by omega) (by omega) fun a' c'' w27 ho hcg hn=>dr_ok ⟨?_,trivial⟩
   have e:l.length + 1=(l++[(⟨[],[],q,stFl flags j v,nm⟩:Tok)]).length:=by simp
   rw [e] at ho ⊢
   have hb27:=hcg.blk h25.blk fun hh=>by have:=h25.bkO hh;omega
   refine BsAt.mkOut hb27 h.p ho (h25.word.chg hcg fun k hk hh=>h25.apart k hh hk) fun w29 h29 c29 s29=>dr_ok ?_
   refine h29.setJ true fun w31 h31 c31 s31=>dr_ok ?_
   refine h31.setV false fun w33 h33 c33 s33=>?_
   refine hk a' c'' w33 h33 ?_ fun k hk=>(hn k hk).imp id fun hh=>by omega
   exact (((((Chg.of_ext E25).trans (hcg.mono fun k _ hk=>.inr hk)).trans (c29.mono fun k _ hk=>.inl hk)).trans (c31.mono fun k _ hk=>.inl hk)).trans (c33.mono fun k _ hk=>.inl hk))
  refine dr_ok ⟨_,h11.cells.2.2.2,qm (fun g=>?_) (fun g=>?_)⟩
  ·have e:stFl flags j v=bitO .i64 (if j=true then bitO .i64 flags 16 else flags) 4:=by unfold stFl;rw [if_pos g]
   rw [← e];exact k15
  ·have e:stFl flags j v=if j=true then bitO .i64 flags 16 else flags:=by unfold stFl;rw [if_neg (by rw [g];decide)]
   rw [← e];exact k15
 refine dr_ok ⟨_,h11.cells.2.2.1,qm (fun g=>dr_ok ⟨_,_,_,h11.cells.1,qd (fun _=>?_) (fun g0=>?_)⟩) (fun g=>?_)⟩
 ·rw [if_pos g] at k12;exact k12
 ·have:=List.length_pos_iff.2 (hj g)
  omega
 ·rw [if_neg (by rw [g];decide)] at k12;exact k12
theorem q0s {wl:Nat} (hb:Blk w b (qpj oa l.length oc p wa wl wc op j v) 118) (ho:OwnL encTk w (b + 1) 69 oa l.length oc l) (hk:∀ w',BsAt w' b oa none l [] op j v (.pointer none) oc 0→Chg (fun k=>k=b) w w'→R (.returned (.tuple ⟨[]⟩)) w') :
  Calls prog qdw ⟨[.pointer (some ⟨b,1,none⟩)]⟩ w R:=by
 apply qjc
 have e1:((⟨b,1,none⟩:Addr).add 0)=(⟨b,0,none⟩:Addr).add 1:=by simp only [qg]
 have e2:((⟨b,1,none⟩:Addr).add 1)=(⟨b,0,none⟩:Addr).add 2:=by simp only [qg]
 refine dr_ok ?_
 rw [e1]
 refine qcn hb (by simp) rfl fun w3 b3 c3 s3=>dr_ok ?_
 rw [e2]
 refine qcn b3 (by simp) rfl fun w5 b5 c5 s5=>?_
 have hb':∀ k,bk oa k→¬ k=b:=fun k hk hh=>by have:=(ho.bk hk).1;omega
 refine hk w5 ⟨b5,.inl rfl,(ho.chg c3 hb').chg c5 hb',Owns.nil _ _ _ _⟩ (c3.trans c5)
theorem q5i {t:Tok} (h:BsAt w b oa wa (l++[t]) s true j v p oc wc) (hl:l.length≤1000000000) (hs:s≠[])
  (hk:∀ w',BsAt w' b oa none (l++[{ t with t:=s }]) [] false j v (.pointer none) oc 0→Chg (fun k=>k=b∨bk oa k∨bk wa k) w w'→R (.returned (.tuple ⟨[]⟩)) w') :
  Calls prog qa1 ⟨[.pointer (some ⟨b,0,none⟩)]⟩ w R:=by
 apply qdq
 have hbl:=h.lt
 intro K2 hK2
 have k2:∀ w3 wl,Blk w3 b (qpj oa (l++[t]).length oc p wa wl wc true j v) 118→OwnL encTk w3 (b + 1) 69 oa (l++[t]).length oc (l++[{ t with t:=s }])→Chg (fun k=>k=b∨bk oa k∨bk wa k) w w3→K2 w3:=by
  intro w3 wl q1 q2 q3
  refine hK2 _ fun _=>dr_ok ?_
  refine qcn q1 (by simp) rfl fun w5 b5 c5 s5=>dr_ok ?_
  have hb':∀ k,bk oa k→¬ k=b:=fun k hk hh=>by have:=(q2.bk hk).1;omega
  have e:(l++[t]).length=(l++[({ t with t:=s }:Tok)]).length:=by simp
  rw [qg]
  refine q0s (l:=l++[{ t with t:=s }]) (wl:=wl) (op:=false) (by rw [← e];exact b5) (by rw [← e];exact q2.chg c5 hb') fun w' q4 c6=>⟨rfl,?_⟩
  exact hk w' q4 ((q3.trans (c5.mono fun k _ hk=>.inl hk)).trans (c6.mono fun k _ hk=>.inl hk))
 have hsl:0 < s.length:=List.length_pos_iff.2 hs
 have str:∀ v1 (oa1:Option Addr) (l1:List Tok),BsAt v1 b oa1 wa l1 s true j v p oc wc→∀ R':Ending→World→Prop,(∀ w',Blk w' b (qpj oa1 l1.length oc p wa s.length wc true j v) 118→OwnL encTk w' (b + 1) 69 oa1 l1.length oc l1→Chg (bk wa) v1 w'→R' (.returned (.string ⟨⟨s⟩⟩)) w') →
   Calls prog 132 ⟨[.pointer (some ⟨b,1,none⟩)]⟩ v1 R':=by
  intro v1 oa1 l1 hv R' hR
  rcases hv.word.2 with h1 | ⟨g,cap,cur,e1,e2,e3,e4,e5,e6,e7⟩
  ·omega
  obtain ⟨hwa,_,hcap⟩:wa=some ⟨g,0,none⟩∧True∧wc=cap:=by simpa using e1
  have c2:v1.cell? ⟨b,2,none⟩=some (.slice (some ⟨g,0,none⟩) s.length cap):=by rw [hv.blk.cell,← hwa,← hcap];rfl
  have e6':cur.size=cap:=by simpa using e6
  have e7':cur.toList.take s.length=Lib.byteCells s:=by simpa using e7
  refine (q8z b g cap cur s v1 hs c2 e3 e4 e5 e6' e7').mono ?_
  rintro e w' ⟨rfl,hc⟩
  have hc':Chg (bk wa) v1 w':=hc.mono fun k _ hk=>by rw [hwa,hk];simp [bk]
  exact hR w' (hc'.blk hv.blk fun hh=>by have:=hv.bkW hh;omega) (hv.out.chg hc' fun k hk hh=>hv.apart k hk hh) hc'
 unfold drw
 have ed:=qw w
 have h':=h.ext ed
 have cd:Chg (fun k=>k=b∨bk oa k∨bk wa k) w w.drew:=.of_ext ed
 generalize w.drew=wd at *
 -- the text is written
 have wr:∀ (v1:World) (g:Nat),oa=some ⟨g,0,none⟩→Blk v1 b (qpj oa (l++[t]).length oc p wa s.length wc true j v) 118→OwnL encTk v1 (b + 1) 69 oa (l++[t]).length oc (l++[t])→Chg (fun k=>k=b∨bk oa k∨bk wa k) w v1 →
   stL v1 ((⟨g,l.length * 6,none⟩:Addr).add 0) 0 [.string ⟨⟨s⟩⟩] fun w20=>K2 w20:=by
  intro v1 g hg q1 q2 q3
  have hx:(l++[t])[l.length]? = some t:=by simp
  obtain ⟨g',hg',_,_,hst⟩:=OwnL.storeCell q2 hx
  have:g'=g:=by rw [hg] at hg';simpa using hg'.symm
  subst this
  rw [qg]
  refine hst 0 _ { t with t:=s } _ (by decide) rfl rfl fun w' ho hcg hsz=>?_
  have hset:(l++[t]).set l.length { t with t:=s } = l++[{ t with t:=s }]:=by rw [List.set_append_right _ _ (Nat.le_refl _)];simp
  rw [hset] at ho
  exact k2 w' _ (hcg.blk q1 fun hh=>by have:=(q2.bk hh).1;omega) ho (q3.trans (hcg.mono fun k _ hk=>.inr (.inl hk)))
 have c3:=h.cells.2.1
 refine dr_ok ⟨_,c3,?_⟩
 simp only [br_t]
 have way1:Calls prog 131 ⟨[.pointer (some ⟨b,0,none⟩)]⟩ wd fun (e12:Ending) (w13:World)=>∃ (x14:Option Addr),e12=.returned (.pointer x14)∧(dr (some (⟨b,0,none⟩:Addr)) fun p15=>(Calls prog 132 ⟨[.pointer (some (p15.add 1))]⟩ w13 fun (e16:Ending) (w17:World) =>
   ∃ (x18:List UInt8),e16=.returned (.string ⟨⟨x18⟩⟩)∧(dr x14 fun p19=>(stL w17 (p19.add 0) 0 [.string ⟨⟨x18⟩⟩] fun w20=>K2 w20)∧True))∧True):=by
  refine qf3 h' (by omega) fun g w13 hg h13 e13=>⟨_,rfl,dr_ok ⟨?_,trivial⟩⟩
  rw [qg]
  refine str w13 oa _ h13 _ fun w17 b17 o17 c17=>⟨_,rfl,dr_ok ⟨?_,trivial⟩⟩
  exact wr w17 g hg b17 o17 ((cd.trans (.of_ext e13)).trans (c17.mono fun k _ hk=>.inr (.inr hk)))
 have way2:Calls prog 131 ⟨[.pointer (some ⟨b,0,none⟩)]⟩ wd fun (e12:Ending) (w13:World)=>∃ (x14:Option Addr),e12=.returned (.pointer x14)∧((Calls prog 132 ⟨[.pointer (some ((⟨b,0,none⟩:Addr).add 1))]⟩ w13 fun (e16:Ending) (w17:World) =>
   ∃ (x18:List UInt8),e16=.returned (.string ⟨⟨x18⟩⟩)∧(dr x14 fun p19=>(stL w17 (p19.add 0) 0 [.string ⟨⟨x18⟩⟩] fun w20=>K2 w20)∧True))∧True):=by
  refine qf3 h' (by omega) fun g w13 hg h13 e13=>⟨_,rfl,?_,trivial⟩
  rw [qg]
  refine str w13 oa _ h13 _ fun w17 b17 o17 c17=>⟨_,rfl,dr_ok ⟨?_,trivial⟩⟩
  exact wr w17 g hg b17 o17 ((cd.trans (.of_ext e13)).trans (c17.mono fun k _ hk=>.inr (.inr hk)))
 exact ⟨way1,⟨way1,dr_ok ⟨way2,⟨way2,trivial⟩,trivial⟩,trivial⟩,trivial⟩
theorem q5h (h:BsAt w b oa wa l s false j v p oc wc) (hk:∀ w',BsAt w' b oa none l [] false j v (.pointer none) oc 0→Chg (fun k=>k=b∨bk oa k∨bk wa k) w w'→R (.returned (.tuple ⟨[]⟩)) w') :
  Calls prog qa1 ⟨[.pointer (some ⟨b,0,none⟩)]⟩ w R:=by
 apply qdq
 intro K2 hK2
 refine dr_ok ⟨_,h.cells.2.1,?_⟩
 simp only [br_f]
 refine hK2 _ fun _=>dr_ok ?_
 refine h.setOp false fun w5 h5 c5 s5=>dr_ok ?_
 rw [qg]
 refine q0s h5.blk h5.out fun w' q4 c6=>⟨rfl,?_⟩
 exact hk w' q4 ((c5.mono fun k _ hk=>.inl hk).trans (c6.mono fun k _ hk=>.inl hk))
end
def FnRow (w:World) (B b n t:Nat) (f:Nat→Int):Prop:=∃ L:List Int,OwnL Sh.encI w B 3 (some ⟨b,0,none⟩) n n L∧∀ j,j < t→L[j]? = some (f j)
theorem FnRow.chg {S:Nat→Prop} {w w':World} {B b n t:Nat} {f:Nat→Int} (h:FnRow w B b n t f) (hc:Chg S w w') (hS:¬ S b):FnRow w' B b n t f:=by
 obtain ⟨L,h1,h2⟩:=h
 exact ⟨L,h1.chg hc fun k hk hs=>hS (by simp [bk] at hk;subst hk;exact hs),h2⟩
theorem FnRow.any {w:World} {B b n t:Nat} {f g:Nat→Int} (h:FnRow w B b n t f):FnRow w B b n 0 g:=by
 obtain ⟨L,h1,h2⟩:=h
 exact ⟨L,h1,fun j hj=>by omega⟩
def slV (m:Nat) (r:Nat):Value:=.slice (some ⟨r,0,none⟩) m m
def Mt (w:World) (B bd n m:Nat) (c:Nat→Nat) (t:Nat) (D:Nat→Nat→Int):Prop :=
 ∃ rs:List Nat,rs.length=t∧t≤n∧rs.Nodup∧Blk w bd (rs.map (slV m)++List.replicate (n - t) (.slice none 0 0)) 74∧B≤bd∧∀ (i r:Nat),rs[i]? = some r→r≠bd∧r < w.heap.size∧FnRow w B r m (c i) (D i)
section
variable {w w':World} {B bd n m t:Nat} {c:Nat→Nat} {D:Nat→Nat→Int}
theorem Mt.row (h:Mt w B bd n m c t D) {i:Nat} (hi:i < t) :
  ∃ r,(∀ K:Addr→Prop,(∀ p,w.cell? p=some (.slice (some ⟨r,0,none⟩) m m)→K p)→idx (some ⟨bd,0,none⟩) n (i:Int) 1 K)∧FnRow w B r m (c i) (D i) ∧
   ∀ (w':World) (k:Nat),FnRow w' B r m k (D i)→Chg (fun j=>j=r) w w'→Mt w' B bd n m (fun j=>if j=i then k else c j) t D:=by
 obtain ⟨rs,h1,h2,h3,h4,h5,h6⟩:=h
 have hr:rs[i]? = some rs[i]:=List.getElem?_eq_getElem (by omega)
 obtain ⟨g1,g1',g2⟩:=h6 i _ hr
 refine ⟨rs[i],fun K hK=>⟨by omega,by omega,?_⟩,g2,fun w' k hk hc=>?_⟩
 ·refine dr_ok (hK _ ?_)
  rw [qg,h4.cell,List.getElem?_append_left (by simp;omega)]
  simp [slV]
 ·have:=hc.size
  refine ⟨rs,h1,h2,h3,hc.blk h4 (fun e=>g1 e.symm),h5,fun j r hj=>⟨(h6 j r hj).1,by have:=(h6 j r hj).2.1;omega,?_⟩⟩
  by_cases hji:j=i
  ·subst hji
   dsimp only
   rw [if_pos rfl]
   rw [hr] at hj
   cases hj;exact hk
  ·dsimp only
   rw [if_neg hji]
   refine (h6 j r hj).2.2.chg hc fun e=>hji ?_
   have hjl:=(List.getElem?_eq_some_iff.1 hj).1
   have:rs[j]=rs[i]:=by have:=(List.getElem?_eq_some_iff.1 hj).2;rw [this,e]
   rcases Nat.lt_trichotomy j i with hlt | he' | hlt
   ·exact absurd this (List.pairwise_iff_getElem.1 h3 j i hjl (by omega) hlt)
   ·exact he'
   ·exact absurd this.symm (List.pairwise_iff_getElem.1 h3 i j (by omega) hjl hlt)
end
theorem b2s_intro {w:World} {B:Nat} {a:Option Addr} {n c:Nat} {l:List UInt8} {K:List UInt8→Prop} (h:Owns w B 5 1 a n c (Lib.byteCells l)) (hK:K l):b2s prog w a n c K:=by
 have hl:l.length=n:=by have:=h.1;simpa [Lib.byteCells] using this
 refine ⟨l,?_,hK⟩
 by_cases hn:0 < n
 ·obtain ⟨g,rfl,_,hc⟩:=h.cell hn
  have:=run_convert_bytes_back (P:=prog) w 114 9 5 ⟨g,0,none⟩ c l (by kernel_rfl) (by kernel_rfl) (by kernel_rfl) (fun j hj=>by rw [qg,Nat.zero_add];exact hc j _ (by simp [Lib.byteCells,hj]))
  rw [run_convert_bytes_string w 114 9 5 _ _ _ (by kernel_rfl) (by kernel_rfl) (by kernel_rfl),hl] at this
  exact this
 ·have hl0:l=[]:=List.eq_nil_of_length_eq_zero (by omega)
  subst hl0
  obtain rfl:n=0:=by omega
  cases a with
  | none=>simp [Conv.bytesToString];rfl
  | some p =>
   have:=run_convert_bytes_back (P:=prog) w 114 9 5 p c [] (by kernel_rfl) (by kernel_rfl) (by kernel_rfl) (fun j hj=>by simp at hj)
   rw [run_convert_bytes_string w 114 9 5 _ _ _ (by kernel_rfl) (by kernel_rfl) (by kernel_rfl)] at this
   exact this
theorem bit_or1 {g:Int} (h0:0≤g) (h1:g≤31) (u:Bool):bitO .i64 g (if u=true then 1 else 0)=orU g u:=by
 have key:∀ n:Fin 32,bitO .i64 (n.val:Int) 1=orU (n.val:Int) true∧bitO .i64 (n.val:Int) 0=orU (n.val:Int) false:=by decide +kernel
 have:=key ⟨g.toNat,by omega⟩
 have e:((g.toNat:Nat):Int)=g:=by omega
 simp only [e] at this
 cases u
 ·exact this.2
 ·exact this.1
theorem st_word (u j v:Bool):stFl (if u=true then 1 else 0) j v=flI u j v 0:=by cases u <;> cases j <;> cases v <;> decide
theorem st_mark (u j v:Bool):stFl (bitO .i64 (if u=true then 1 else 0) 8) j v=flI u j v 8:=by cases u <;> cases j <;> cases v <;> decide
theorem st_gap (u j v:Bool):stFl (if u=true then bitO .i64 2 1 else 2) j v=flI u j v 2:=by cases u <;> cases j <;> cases v <;> decide
def lstB (st:Bs):List Tok:=match st.cur with
 | none=>st.out
 | some (t,_)=>st.out++[t]
def wrdB (st:Bs):List UInt8:=match st.cur with
 | none=>[]
 | some (_,s)=>s
structure StOk (st:Bs):Prop where
 cur:∀ t s,st.cur=some (t,s)→s≠[]∧t.t=[]∧0≤t.g∧t.g≤31
 j:st.j=true→lstB st≠[]
def BsSt (w:World) (b:Nat) (st:Bs) (O:Nat→Prop):Prop :=
 ∃ oa wa p oc wc,BsAt w b oa wa (lstB st) (wrdB st) st.cur.isSome st.j st.v p oc wc∧(∀ k,O k↔k=b∨bk oa k∨bk wa k)
section
variable {w w':World} {b:Nat} {st:Bs} {O:Nat→Prop} {R:Ending→World→Prop}
theorem BsSt.chg {S:Nat→Prop} (h:BsSt w b st O) (hc:Chg S w w') (hS:∀ k,O k→¬ S k):BsSt w' b st O:=by
 obtain ⟨oa,wa,p,oc,wc,h1,h2⟩:=h
 exact ⟨oa,wa,p,oc,wc,h1.chg hc (hS _ ((h2 _).2 (.inl rfl))) (fun k hk=>hS k ((h2 k).2 (.inr (.inl hk)))) (fun k hk=>hS k ((h2 k).2 (.inr (.inr hk)))),h2⟩
theorem BsSt.ext (h:BsSt w b st O) (hc:Ext w w'):BsSt w' b st O:=h.chg (S:=fun _=>False) (.of_ext hc) fun _ _ h=>h
theorem BsSt.own (h:BsSt w b st O) {k:Nat} (hk:O k):b≤k∧k < w.heap.size:=by
 obtain ⟨oa,wa,p,oc,wc,h1,h2⟩:=h
 rcases (h2 k).1 hk with rfl | hk | hk
 ·exact ⟨Nat.le_refl _,h1.lt⟩
 ·have:=h1.bkO hk;omega
 ·have:=h1.bkW hk;omega
theorem qgq (st:Bs):(shut st).length=(lstB st).length:=by
 unfold shut lstB
 cases st.cur with
 | none=>rfl
 | some p=>simp
theorem q8e (h:BsSt w b st O) (hs:StOk st) (hl:(lstB st).length≤1000000000)
  (hk:∀ oa oc w',BsAt w' b oa none (shut st) [] false st.j st.v (.pointer none) oc 0→(∀ k,k=b∨bk oa k→O k)→Chg O w w'→R (.returned (.tuple ⟨[]⟩)) w') :
  Calls prog qa1 ⟨[.pointer (some ⟨b,0,none⟩)]⟩ w R:=by
 obtain ⟨oa,wa,p,oc,wc,h1,h2⟩:=h
 obtain ⟨out,cur,j,v⟩:=st
 cases cur with
 | none =>
  refine q5h h1 fun w' q hc=>hk oa oc w' q (fun k hk=>(h2 k).2 (hk.imp id .inl)) (hc.mono fun k _ hk=>(h2 k).2 hk)
 | some ts =>
  obtain ⟨t,s⟩:=ts
  have hl':out.length≤1000000000:=by simp [lstB] at hl;omega
  refine q5i (l:=out) (t:=t) (s:=s) h1 hl' (hs.cur t s rfl).1 fun w' q hc=>hk oa oc w' q (fun k hk=>(h2 k).2 (hk.imp id .inl)) (hc.mono fun k _ hk=>(h2 k).2 hk)
def AmE:Am→List Value→Prop
 | .ch c p u nm,vs=>∃ n:Int,vs=[.int .i64 1,.int .u8 (c.toNat:Int),.int .i64 n,.string ⟨⟨p.1⟩⟩,.int .i64 p.2,.bool u,.string ⟨⟨nm⟩⟩]
 | .gap n p u nm,vs=>∃ c:Int,vs=[.int .i64 6,.int .u8 c,.int .i64 n,.string ⟨⟨p.1⟩⟩,.int .i64 p.2,.bool u,.string ⟨⟨nm⟩⟩]
 | .brk x,vs=>∃ (c n:Int) (p:Ps) (u:Bool) (nm:List UInt8),vs=[.int .i64 (if x=true then 5 else 4),.int .u8 c,.int .i64 n,.string ⟨⟨p.1⟩⟩,.int .i64 p.2,.bool u,.string ⟨⟨nm⟩⟩]
theorem qqf (c:UInt8) (h:R (.returned (.bool (letB c))) w):Calls prog qhb ⟨[.int .u8 (c.toNat:Int)]⟩ w R:=by
 apply qr2
 refine qcw c ⟨_,rfl,qd (fun g=>?_) (fun g=>?_)⟩
 ·rw [show letB c=true from (qew c).2 (.inl g)] at h;exact h
 ·have:letB c=decide (kd c=3):=by
   rw [Bool.eq_iff_iff,qew,decide_eq_true_eq];exact ⟨fun hh=>hh.resolve_left g,.inr⟩
  rw [this] at h;exact h
theorem q64 (c:UInt8) (h:R (.returned (.bool (innC c))) w):Calls prog qin ⟨[.int .u8 (c.toNat:Int)]⟩ w R:=by
 apply qul
 refine qcw c ⟨_,rfl,?_⟩
 refine qqf c ⟨_,rfl,qm (fun g=>?_) (fun g=>qd (fun g2=>?_) (fun g2=>?_))⟩
 ·rw [q48 g] at h;exact h
 ·have:innC c=true:=by unfold innC;rw [g2];simp
  rw [this] at h;exact h
 ·have:innC c=decide (kd c=4):=by unfold innC;rw [g,decide_eq_false g2];simp
  rw [this] at h;exact h
theorem blk7 {w:World} {b:Nat} {v0 v1 v2 v3 v4 v5 v6:Value} {T:TypeId} (h:Blk w b [v0,v1,v2,v3,v4,v5,v6] T) :
  w.cell? ((⟨b,0,none⟩:Addr).add 0)=some v0∧w.cell? ((⟨b,0,none⟩:Addr).add 1)=some v1∧w.cell? ((⟨b,0,none⟩:Addr).add 2)=some v2∧w.cell? ((⟨b,0,none⟩:Addr).add 3)=some v3 ∧
  w.cell? ((⟨b,0,none⟩:Addr).add 4)=some v4∧w.cell? ((⟨b,0,none⟩:Addr).add 5)=some v5∧w.cell? ((⟨b,0,none⟩:Addr).add 6)=some v6:=by
 simp only [qg,h.cell];exact ⟨rfl,rfl,rfl,rfl,rfl,rfl,rfl⟩
theorem byte_own {w:World} {b:Nat} {c:UInt8} (h:Blk w b [.int .u8 (c.toNat:Int)] 5):Owns w b 5 1 (some ⟨b,0,none⟩) 1 1 (Lib.byteCells [c]) :=
 ⟨rfl,.inr ⟨b,1,#[.int .u8 (c.toNat:Int)],rfl,Nat.le_refl _,h,Nat.le_refl _,by simp [maxLen],rfl,rfl⟩⟩
theorem q9j (h:BsSt w b st O) (hs:StOk st) (hl:(lstB st).length≤999999999) (hw:(wrdB st).length≤1000000000) (c:UInt8) (x2 x4:Int) (q:Ps) (u:Bool) (nm:List UInt8)
  (hk:∀ w' O',BsSt w' b (addB st (.ch c q u nm)) O'→Chg O w w'→(∀ k,O' k→O k∨w.heap.size≤k)→R (.returned (.tuple ⟨[]⟩)) w') :
  Calls prog qdb ⟨[.pointer (some ⟨b,0,none⟩),.agg ⟨[.int .i64 x2,.int .u8 (c.toNat:Int),.int .i64 x4,.string ⟨⟨q.1⟩⟩,.int .i64 q.2,.bool u,.string ⟨⟨nm⟩⟩]⟩]⟩ w R:=by
 apply qh6
 refine qh fun b9 w10 hb9 B9 e10 s10=>?_
 have h10:=h.ext e10
 have nO:¬ O b9:=fun hh=>by have:=h.own hh;omega
 have lb:b < w.heap.size:=(h.own (by obtain ⟨_,_,_,_,_,_,h2⟩:=h;exact (h2 b).2 (.inl rfl))).2
 have nb9:b9≠b:=by omega
 obtain ⟨_,_,_,_,_,a5,_⟩:=blk7 B9
 intro K11 hK11
 have k11:K11 (if u=true then 1 else 0) w10:=by
  refine hK11 _ _ fun _=>?_
  obtain ⟨oa,wa,p,oc,wc,h1,h2⟩:=h10
  have a1:w10.cell? ((⟨b9,0,none⟩:Addr).add 1)=some (.int .u8 (c.toNat:Int)):=(blk7 B9).2.1
  intro K14 hK14
  -- within a word
  have kIn:st.cur.isSome=true→innC c=true→K14 true w10:=by
   intro hop hin
   refine hK14 _ _ fun _=>?_
   simp only [br_t]
   obtain ⟨out,cur,j,v⟩:=st
   cases cur with
   | none=>cases hop
   | some ts =>
    obtain ⟨t,s⟩:=ts
    obtain ⟨s1,s2,s3,s4⟩:=hs.cur t s rfl
    have hl':out.length≤1000000000:=by simp [lstB] at hl;omega
    have h1':BsAt w10 b oa wa (out++[t]) s true j v p oc wc:=h1
    refine qf3 h1' (by omega) fun g w18 hg h18 e18=>⟨_,rfl,dr_ok ?_⟩
    obtain ⟨l1,_,l3⟩:=h18.last hg
    refine ⟨_,l1,dr_ok ?_⟩
    rw [bit_or1 s3 s4]
    refine l3 _ _ fun w23 h23 c23=>?_
    unfold drw
    have ed:=qw w23
    have h24:=h23.ext ed
    have hc24:Chg O w w23.drew:=(((Chg.of_ext (qb e10 e18)).trans (c23.mono fun k _ hk=>(h2 k).2 (.inr (.inl hk)))).trans (.of_ext ed))
    have B24:=((B9.ext e18).keep (c23.block b9 (by have:=(B9.ext e18).lt;omega) fun hh=>nO ((h2 b9).2 (.inr (.inl hh))))).ext ed
    generalize w23.drew=w24 at *
    have z24:=hc24.size
    refine dr_ok ⟨_,(blk7 B24).2.1,?_,trivial⟩
    rw [qg]
    refine qlu h24 c (by simp [wrdB] at hw;omega) fun wa' wc' w28 h28 c28 n28=>⟨_,rfl,?_⟩
    have ea:addB ⟨out,some (t,s),j,v⟩ (.ch c q u nm)=⟨out,some ({ t with g:=orU t.g u },s++[c]),j,v⟩:=by simp only [addB,hin]
    refine hk w28 (fun k=>k=b∨bk oa k∨bk wa' k) (by rw [ea];exact ⟨oa,wa',_,oc,wc',h28,fun k=>Iff.rfl⟩) (hc24.trans (c28.mono fun k _ hk=>(h2 k).2 (hk.imp id .inr))) fun k hk=>?_
    rcases hk with rfl | hk | hk
    ·exact .inl ((h2 _).2 (.inl rfl))
    ·exact .inl ((h2 _).2 (.inr (.inl hk)))
    ·rcases n28 k hk with hh | hh
     ·exact .inl ((h2 _).2 (.inr (.inr hh)))
     ·exact .inr (by omega)
  -- elsewhere
  have kOut:(st.cur.isSome&&innC c)=false→K14 false w10:=by
   intro hno
   refine hK14 _ _ fun _=>?_
   simp only [br_f]
   have ea:addB st (.ch c q u nm)=if letB c=true then ⟨shut st,some (⟨[],[],q,flI u st.j st.v 0,nm⟩,[c]),true,false⟩ else if kd c=6 then ⟨shut st,none,false,st.v⟩ else ⟨shut st++[⟨[c],[],q,flI u st.j st.v 8,nm⟩],none,true,false⟩:=by
    obtain ⟨out,cur,j,v⟩:=st
    cases cur with
    | none=>rfl
    | some ts =>
     have:innC c=false:=by simpa using hno
     simp only [addB,this]
   refine ⟨_,a1,qqf c ⟨_,rfl,qm (fun hlt=>?_) (fun hlt=>?_)⟩⟩
   ·
    have hnone:st.cur=none:=by
     cases hc:st.cur with
     | none=>rfl
     | some ts=>rw [hc,q48 hlt] at hno;cases hno
    obtain ⟨d0,d1,d2,d3,d4,d5,d6⟩:=blk7 B9
    refine ⟨_,d0,_,d1,_,d2,_,d3,_,d4,_,d5,_,d6,?_⟩
    have h1':BsAt w10 b oa wa (lstB st) [] false st.j st.v p oc wc:=by
     have e1:wrdB st=[]:=by unfold wrdB;rw [hnone]
     have e2:st.cur.isSome=false:=by rw [hnone];rfl
     rw [e1,e2] at h1;exact h1
    refine qj8 h1' (by omega) hs.j x2 _ x4 q u nm _ fun oa' oc' w42 h42 c42 n42=>⟨rfl,dr_ok ?_⟩
    rw [st_word] at h42
    refine h42.setOp true fun w44 h44 c44 s44=>?_
    unfold drw
    have ed:=qw w44
    have h45:=h44.ext ed
    have hc45:Chg (fun k=>k=b∨bk oa k) w10 w44.drew:=(c42.trans (c44.mono fun k _ hk=>.inl hk)).trans (.of_ext ed)
    have B45:=B9.keep (hc45.block b9 B9.lt fun hh=>hh.elim nb9 fun hh=>nO ((h2 b9).2 (.inr (.inl hh))))
    generalize w44.drew=w45 at *
    have z45:=hc45.size
    refine dr_ok ⟨_,(blk7 B45).2.1,?_,trivial⟩
    rw [qg]
    refine qlu h45 c (by simp) fun wa' wc' w49 h49 c49 n49=>⟨_,rfl,?_⟩
    have hsh:shut st=lstB st:=by unfold shut lstB;rw [hnone]
    refine hk w49 (fun k=>k=b∨bk oa' k∨bk wa' k) (by rw [ea,if_pos hlt,hsh];exact ⟨oa',wa',_,oc',wc',h49,fun k=>Iff.rfl⟩) ?_ fun k hk=>?_
    ·refine ((Chg.of_ext e10).trans (hc45.mono fun k _ hk=>(h2 k).2 (hk.imp id .inl))).trans (c49.mono fun k _ hk=>(h2 k).2 (hk.imp id .inr))
    ·rcases hk with rfl | hk | hk
     ·exact .inl ((h2 _).2 (.inl rfl))
     ·rcases n42 k hk with hh | hh
      ·exact .inl ((h2 _).2 (.inr (.inl hh)))
      ·exact .inr (by omega)
     ·rcases n49 k hk with hh | hh
      ·exact .inl ((h2 _).2 (.inr (.inr hh)))
      ·exact .inr (by omega)
   ·refine ⟨_,a1,qcw c ⟨_,rfl,qd (fun h6=>?_) (fun h6=>?_)⟩⟩
    ·refine q8e (O:=O) ⟨oa,wa,p,oc,wc,h1,h2⟩ hs (by omega) fun oa' oc' w56 h56 hO c56=>⟨rfl,dr_ok ?_⟩
     refine h56.setJ false fun w58 h58 c58 s58=>?_
     refine hk w58 (fun k=>k=b∨bk oa' k∨bk none k) (by rw [ea,if_neg (by rw [hlt];decide),if_pos h6];exact ⟨oa',none,_,oc',0,h58,fun k=>Iff.rfl⟩) (((Chg.of_ext e10).trans c56).trans (c58.mono fun k _ hk=>(h2 k).2 (.inl hk))) fun k hk=>.inl ?_
     rcases hk with hk | hk | hk
     ·exact hO k (.inl hk)
     ·exact hO k (.inr hk)
     ·simp [bk] at hk
    ·refine q8e (O:=O) ⟨oa,wa,p,oc,wc,h1,h2⟩ hs (by omega) fun oa' oc' w60 h60 hO c60=>⟨rfl,?_⟩
     have B60:=c60.blk B9 nO
     obtain ⟨d0,d1,d2,d3,d4,d5,d6⟩:=blk7 B60
     refine ⟨_,d0,_,d1,_,d2,_,d3,_,d4,_,d5,_,d6,?_⟩
     have hjj:st.j=true→shut st≠[]:=fun hh e=>hs.j hh (List.eq_nil_of_length_eq_zero (by rw [← qgq,e];rfl))
     refine qj8 h60 (by rw [qgq];omega) hjj x2 _ x4 q u nm _ fun oa2 oc2 w69 h69 c69 n69=>⟨rfl,?_⟩
     rw [st_mark] at h69
     have hB69:=B60.keep (c69.block b9 B60.lt fun hh=>hh.elim nb9 fun hh=>nO (hO b9 (.inr hh)))
     unfold drw
     have ed:=qw w69
     have h70:=h69.ext ed
     have B70:=hB69.ext ed
     have hc70:Chg O w w69.drew:=(((Chg.of_ext e10).trans c60).trans (c69.mono fun k _ hk=>hO k hk)).trans (.of_ext ed)
     have n70:∀ k,bk oa2 k→O k∨w.heap.size≤k:=fun k hk=>(n69 k hk).imp (fun hh=>hO k (.inr hh)) fun hh=>by have:=c60.size;omega
     generalize w69.drew=w70 at *
     have fin:∀ (v1:World) (g:Nat),oa2=some ⟨g,0,none⟩→BsAt v1 b oa2 none (shut st++[⟨[],[],q,flI u st.j st.v 8,nm⟩]) [] false true false (.pointer none) oc2 0→Ext w70 v1 →
       stL v1 ((⟨g,(shut st).length * 6,none⟩:Addr).add 0) 0 [.string ⟨⟨[c]⟩⟩] fun w79=>R (.returned (.tuple ⟨[]⟩)) w79:=by
      intro v1 g hg hv ev
      refine (hv.last hg).2.1 [c] _ fun w' hw' cw'=>?_
      refine hk w' (fun k=>k=b∨bk oa2 k∨bk none k) (by rw [ea,if_neg (by rw [hlt];decide),if_neg h6];exact ⟨oa2,none,_,oc2,0,hw',fun k=>Iff.rfl⟩) ?_ fun k hk=>?_
      ·exact qal (hc70.trans (.of_ext ev)) cw' fun k hk hh=>by
        rcases n70 k hh with h' | h'
        ·exact h'
        ·omega
      ·rcases hk with hk | hk | hk
       ·exact .inl (hO k (.inl hk))
       ·exact n70 k hk
       ·simp [bk] at hk
     have lst:∀ v1,BsAt v1 b oa2 none (shut st++[⟨[],[],q,flI u st.j st.v 8,nm⟩]) [] false true false (.pointer none) oc2 0→∀ R':Ending→World→Prop,(∀ g w',oa2=some ⟨g,0,none⟩→BsAt w' b oa2 none (shut st++[⟨[],[],q,flI u st.j st.v 8,nm⟩]) [] false true false (.pointer none) oc2 0→Ext v1 w'→R' (.returned (.pointer (some ⟨g,(shut st).length * 6,none⟩))) w') →
       Calls prog 131 ⟨[.pointer (some ⟨b,0,none⟩)]⟩ v1 R':=fun v1 hv R' hR=>qf3 hv (by rw [qgq];omega) hR
     have byt:∀ v1 b75 (K:List UInt8→Prop),Blk v1 b75 [.int .u8 (c.toNat:Int)] 5→K [c]→b2s prog v1 (some ⟨b75,0,none⟩) 1 1 K:=fun v1 b75 K hb hK=>b2s_intro (byte_own hb) hK
     refine ⟨?_,⟨?_,⟨_,(blk7 B70).2.1,?_,?_,trivial⟩,trivial⟩,trivial⟩
     ·refine lst w70 h70 _ fun g w72 hg h72 e72=>⟨_,rfl,_,(blk7 (B70.ext e72)).2.1,?_,trivial⟩
      refine qh fun b75 w76 hb75 B75 e76 s76=>⟨byt _ _ _ B75 (dr_ok ⟨fin w76 g hg (h72.ext e76) (qb e72 e76),trivial⟩),trivial⟩
     ·refine lst w70 h70 _ fun g w72 hg h72 e72=>⟨_,rfl,_,(blk7 (B70.ext e72)).2.1,?_,trivial⟩
      refine qh fun b75 w76 hb75 B75 e76 s76=>⟨byt _ _ _ B75 (dr_ok ⟨fin w76 g hg (h72.ext e76) (qb e72 e76),trivial⟩),trivial⟩
     ·refine lst w70 h70 _ fun g w72 hg h72 e72=>⟨_,rfl,?_,trivial⟩
      refine qh fun b75 w76 hb75 B75 e76 s76=>⟨byt _ _ _ B75 (dr_ok ⟨fin w76 g hg (h72.ext e76) (qb e72 e76),trivial⟩),trivial⟩
     ·refine qh fun b98 w99 hb98 B98 e99 s99=>⟨?_,?_,trivial⟩
      ·refine lst w99 (h70.ext e99) _ fun g w101 hg h101 e101=>⟨_,rfl,?_,trivial⟩
       exact byt _ _ _ (B98.ext e101) (dr_ok ⟨fin w101 g hg h101 (qb e99 e101),trivial⟩)
      ·refine byt _ _ _ B98 ⟨?_,trivial⟩
       refine lst w99 (h70.ext e99) _ fun g w101 hg h101 e101=>⟨_,rfl,dr_ok ⟨fin w101 g hg h101 (qb e99 e101),trivial⟩⟩
  refine dr_ok ⟨_,h1.cells.2.1,?_⟩
  cases hop:st.cur.isSome with
  | false=>simp only [br_f];exact kOut (by rw [hop];rfl)
  | true =>
   simp only [br_t]
   refine ⟨_,a1,q64 c ⟨_,rfl,?_⟩⟩
   cases hin:innC c with
   | true=>exact kIn hop hin
   | false=>exact kOut (by rw [hin];simp)
 refine ⟨_,a5,?_⟩
 cases u
 ·simp only [br_f];exact k11
 ·simp only [br_t];exact k11
end
def AmV (x:Am) (vs:List Value):Prop:=∃ cs,vs=[.agg ⟨cs⟩]∧AmE x cs
abbrev qey (k c n:Int) (p:Ps) (u:Bool) (nm:List UInt8):List Value:=[.int .i64 k,.int .u8 c,.int .i64 n,.string ⟨⟨p.1⟩⟩,.int .i64 p.2,.bool u,.string ⟨⟨nm⟩⟩]
abbrev eachV (bx ty te:Nat):Value:=.func (.func 128) ⟨[]⟩ ⟨[.pointer (some ⟨bx,0,none⟩),.pointer (some ⟨ty,0,none⟩),.pointer (some ⟨te,0,none⟩)]⟩
theorem x_set {w:World} {b i:Nat} {cs:List Value} {v:Value} (hb:Blk w b cs 123) (hi:i < cs.length) (hv:v.oneCell'=true) {K:World→Prop}
  (h:∀ w',Blk w' b (cs.set i v) 123→Chg (fun k=>k=b) w w'→w'.heap.size=w.heap.size→K w'):stL w ((⟨b,0,none⟩:Addr).add i) 0 [v] K:=qcn hb hi hv h
theorem x_back {bx bb:Nat} {w91:World} {k c n k9 c9 n9:Int} {p p9:Ps} {u u':Bool} {nm nm':List UInt8} (hbb:Blk w91 bb (qey k c n p u nm) 123) (hbx:Blk w91 bx (qey k9 c9 n9 p9 u' nm') 123) (hne:bb≠bx) {G:World→Prop}
  (hG:∀ v,Chg (fun k=>k=bx) w91 v→v.heap.size=w91.heap.size→Blk v bx (qey k9 c9 n9 p9 u nm) 123→G v) :
  drw w91 fun w93=>∃ (x94:Bool),World.cell? w93 ((⟨bb,0,none⟩:Addr).add 5)=some (.bool x94)∧((∃ (x95:List UInt8),World.cell? w93 ((⟨bb,0,none⟩:Addr).add 6)=some (.string ⟨⟨x95⟩⟩)∧(dr (some (⟨bx,0,none⟩:Addr)) fun p96 =>
   (stL w93 (p96.add 5) 0 [.bool x94] fun w97=>dr (some (⟨bx,0,none⟩:Addr)) fun p98=>(stL w97 (p98.add 6) 0 [.string ⟨⟨x95⟩⟩] fun w99=>G w99)∧True)∧True))∧(dr (some (⟨bx,0,none⟩:Addr)) fun p101 =>
   (∃ (x102:List UInt8),World.cell? w93 ((⟨bb,0,none⟩:Addr).add 6)=some (.string ⟨⟨x102⟩⟩)∧((stL w93 (p101.add 5) 0 [.bool x94] fun w103=>dr (some (⟨bx,0,none⟩:Addr)) fun p104=>(stL w103 (p104.add 6) 0 [.string ⟨⟨x102⟩⟩] fun w105=>G w105)∧True)∧True)) ∧
   (stL w93 (p101.add 5) 0 [.bool x94] fun w107=>∃ (x108:List UInt8),World.cell? w107 ((⟨bb,0,none⟩:Addr).add 6)=some (.string ⟨⟨x108⟩⟩)∧(dr (some (⟨bx,0,none⟩:Addr)) fun p109=>(stL w107 (p109.add 6) 0 [.string ⟨⟨x108⟩⟩] fun w110=>G w110)∧True))∧True)∧True):=by
 unfold drw
 have ed:=qw w91
 have zd:w91.drew.heap.size=w91.heap.size:=rfl
 have hbb:=hbb.ext ed
 have hbx:=hbx.ext ed
 have hcd:Chg (fun k=>k=bx) w91 w91.drew:=.of_ext ed
 generalize w91.drew=wd at *
 obtain ⟨_,_,_,_,_,y5,y6⟩:=blk7 hbb
 have two:∀ v,Blk v bx ((qey k9 c9 n9 p9 u' nm').set 5 (.bool u)) 123→Chg (fun k=>k=bx) wd v→v.heap.size=wd.heap.size→(stL v ((⟨bx,0,none⟩:Addr).add 6) 0 [.string ⟨⟨nm⟩⟩] fun w99=>G w99):=by
  intro v hv hc hs
  refine qcn hv (by simp) rfl fun v2 hv2 hc2 hs2=>hG v2 ((hcd.trans hc).trans hc2) (by omega) ?_
  exact hv2
 have n6:∀ v,Chg (fun k=>k=bx) wd v→v.cell? ((⟨bb,0,none⟩:Addr).add 6)=some (.string ⟨⟨nm⟩⟩):=fun v hc=>(blk7 (hc.blk hbb hne)).2.2.2.2.2.2
 refine ⟨u,y5,⟨nm,y6,dr_ok ⟨?_,trivial⟩⟩,dr_ok ⟨⟨nm,y6,?_,trivial⟩,?_,trivial⟩,trivial⟩
 ·exact qcn hbx (by simp) rfl fun v hv hc hs=>dr_ok ⟨two v hv hc hs,trivial⟩
 ·exact qcn hbx (by simp) rfl fun v hv hc hs=>dr_ok ⟨two v hv hc hs,trivial⟩
 ·exact qcn hbx (by simp) rfl fun v hv hc hs=>⟨nm,n6 v hc,dr_ok ⟨two v hv hc hs,trivial⟩⟩
theorem x_kind {bx bn:Nat} {w17:World} {k n k9 c9 n9:Int} {v1 v3:Value} {p9:Ps} {u':Bool} {nm':List UInt8} (hbn:Blk w17 bn [.int .i64 k,v1,.int .i64 n,v3] 56) (hbx:Blk w17 bx (qey k9 c9 n9 p9 u' nm') 123) (hne:bn≠bx) {G:World→Prop}
  (hG:∀ v,Chg (fun k=>k=bx) w17 v→v.heap.size=w17.heap.size→Blk v bx (qey k c9 n p9 u' nm') 123→G v) :
  drw w17 fun w93=>∃ (x94:Int),World.cell? w93 ((⟨bn,0,none⟩:Addr).add 0)=some (.int .i64 x94)∧((∃ (x95:Int),World.cell? w93 ((⟨bn,0,none⟩:Addr).add 2)=some (.int .i64 x95)∧(dr (some (⟨bx,0,none⟩:Addr)) fun p96 =>
   (stL w93 (p96.add 0) 0 [.int .i64 x94] fun w97=>dr (some (⟨bx,0,none⟩:Addr)) fun p98=>(stL w97 (p98.add 2) 0 [.int .i64 x95] fun w99=>G w99)∧True)∧True))∧(dr (some (⟨bx,0,none⟩:Addr)) fun p101 =>
   (∃ (x102:Int),World.cell? w93 ((⟨bn,0,none⟩:Addr).add 2)=some (.int .i64 x102)∧((stL w93 (p101.add 0) 0 [.int .i64 x94] fun w103=>dr (some (⟨bx,0,none⟩:Addr)) fun p104=>(stL w103 (p104.add 2) 0 [.int .i64 x102] fun w105=>G w105)∧True)∧True)) ∧
   (stL w93 (p101.add 0) 0 [.int .i64 x94] fun w107=>∃ (x108:Int),World.cell? w107 ((⟨bn,0,none⟩:Addr).add 2)=some (.int .i64 x108)∧(dr (some (⟨bx,0,none⟩:Addr)) fun p109=>(stL w107 (p109.add 2) 0 [.int .i64 x108] fun w110=>G w110)∧True))∧True)∧True):=by
 unfold drw
 have ed:=qw w17
 have zd:w17.drew.heap.size=w17.heap.size:=rfl
 have hbn:=hbn.ext ed
 have hbx:=hbx.ext ed
 have hcd:Chg (fun k=>k=bx) w17 w17.drew:=.of_ext ed
 generalize w17.drew=wd at *
 have cell:∀ v,Chg (fun k=>k=bx) wd v→v.cell? ((⟨bn,0,none⟩:Addr).add 0)=some (.int .i64 k)∧v.cell? ((⟨bn,0,none⟩:Addr).add 2)=some (.int .i64 n):=fun v hc=>by
  have hb:=hc.blk hbn hne
  simp only [qg,hb.cell];exact ⟨rfl,rfl⟩
 have two:∀ v,Blk v bx ((qey k9 c9 n9 p9 u' nm').set 0 (.int .i64 k)) 123→Chg (fun k=>k=bx) wd v→v.heap.size=wd.heap.size→(stL v ((⟨bx,0,none⟩:Addr).add 2) 0 [.int .i64 n] fun w99=>G w99):=by
  intro v hv hc hs
  refine qcn hv (by simp) rfl fun v2 hv2 hc2 hs2=>hG v2 ((hcd.trans hc).trans hc2) (by omega) ?_
  exact hv2
 obtain ⟨y0,y2⟩:=cell wd (Chg.refl _ _)
 refine ⟨k,y0,⟨n,y2,dr_ok ⟨?_,trivial⟩⟩,dr_ok ⟨⟨n,y2,?_,trivial⟩,?_,trivial⟩,trivial⟩
 ·exact qcn hbx (by simp) rfl fun v hv hc hs=>dr_ok ⟨two v hv hc hs,trivial⟩
 ·exact qcn hbx (by simp) rfl fun v hv hc hs=>dr_ok ⟨two v hv hc hs,trivial⟩
 ·exact qcn hbx (by simp) rfl fun v hv hc hs=>⟨n,(cell v hc).2,dr_ok ⟨two v hv hc hs,trivial⟩⟩
set_option maxHeartbeats 1000000 in
theorem atoms_walk {yf:Fn} {ya yb:Array Value} {T:Nat→Prop} {J:List Am→(Nat→Prop)→World→Prop} {Jx:(Nat→Prop)→World→Prop} {w0:World} {xs:List Am} {bx ty te:Nat}
  (hTl:∀ k,T k→k < w0.heap.size)
  (hJ:∀ pre S W W',J pre S W→Chg (fun k=>w0.heap.size≤k∧¬ S k) W W'→J pre S W') (hJx:∀ S W W',Jx S W→Chg (fun k=>w0.heap.size≤k∧¬ S k) W W'→Jx S W')
  (hbody:∀ pre x vs S W,AmV x vs→pre++[x] <+: xs→w0.heap.size≤W.heap.size→(∀ k,S k→k < W.heap.size∧¬ T k)→J pre S W→CallV prog (.func yf ya yb) vs W fun e W'=>Chg S W W' ∧
   ∃ S':Nat→Prop,(∀ k,S' k→(S k∨W.heap.size≤k)∧k < W'.heap.size)∧((e=.returned (.bool true)∧J (pre++[x]) S' W')∨(e=.returned (.bool false)∧Jx S' W')))
  (hbx0:w0.heap.size≤bx) (hxy:bx≠ty) (hxe:bx≠te) :
  ∀ (f:Fo) {wi:Bool} {R:Ending→World→Prop} {S:Nat→Prop} {w:World} {a:Option Addr} {n c:Nat} (pre:List Am) (p:Ps) (u:Bool) (nm:List UInt8) (k0 c0 n0:Int),f.size≤1000000→okF wi f→0≤p.2→p.2 + f.size≤1000000000→SlF T w0 a n f→w0.heap.size≤w.heap.size→(∀ k,T k→w.heap[k]? = w0.heap[k]?)→(∀ k,S k→k < w.heap.size∧¬ T k) →
   Blk w bx (qey k0 c0 n0 p u nm) 123→Blk w ty [.func yf ya yb] 166→Blk w te [eachV bx ty te] 89→¬ S bx→¬ S ty→¬ S te →
   pre++amsF p f u nm <+: xs→J pre S w→(∀ S' W' k1 c1 n1,Chg (fun k=>S k∨k=bx) w W'→(∀ k,S' k→(S k∨w.heap.size≤k)∧k < W'.heap.size)→Blk W' bx (qey k1 c1 n1 (endL p (qj f)) u nm) 123→J (pre++amsF p f u nm) S' W'→R (.returned (.bool true)) W') →
   (∀ S' W' k1 c1 n1 p1,Chg (fun k=>S k∨k=bx) w W'→(∀ k,S' k→(S k∨w.heap.size≤k)∧k < W'.heap.size)→Blk W' bx (qey k1 c1 n1 p1 u nm) 123→Jx S' W'→R (.returned (.bool false)) W') →
   Calls prog qe9 ⟨[.slice a n c,.pointer (some ⟨bx,0,none⟩),.pointer (some ⟨ty,0,none⟩),.pointer (some ⟨te,0,none⟩)]⟩ w R:=by
 intro f
 induction hz:f.size using Nat.strongRecOn generalizing f with
 | _ z ih =>
 intro wi R S w a n c pre p u nm k0 c0 n0 hs hok hp0 hp1 hf hw0 hT hS hBx hBy hBe nSx nSy nSe hpre hj hend hstop
 apply qlf
 have hn:=hf.1
 have hfl:=f.len_le_size
 have lbx:=hBx.lt
 have lty:=hBy.lt
 have lte:=hBe.lt
 have nTx:¬ T bx:=fun hh=>by have:=hTl _ hh;omega
 obtain ⟨Inv,hInv⟩:∃ Inv:Int→World→Nat→Prop,∀ i W m,Inv i W m↔∃ (pr r:Fo) (ps:List Am) (S1:Nat→Prop) (p1:Ps) (k1 c1 n1:Int),f=pr.app r∧i=pr.len∧m=r.len∧Chg (fun k=>S k∨k=bx) w W∧(∀ k,S1 k→(S k∨w.heap.size≤k)∧k < W.heap.size)∧J ps S1 W∧pre++amsF p f u nm=ps++amsF p1 r u nm ∧
   Blk W bx (qey k1 c1 n1 p1 u nm) 123∧endL p (qj f)=endL p1 (qj r)∧okF wi r∧0≤p1.2∧p1.2 + r.size≤1000000000:=⟨_,fun _ _ _=>Iff.rfl⟩
 refine ⟨Inv,⟨_,(hInv _ _ _).2 ⟨.nil,f,pre,S,p,k0,c0,n0,rfl,rfl,rfl,Chg.refl _ _,fun k hk=>⟨.inl hk,(hS k hk).1⟩,hj,rfl,hBx,rfl,hok,hp0,by omega⟩⟩,?_⟩
 intro i W m hI _
 obtain ⟨pr,r,xs',S1,p1,k1,c1,n1,hpr,rfl,rfl,hcW,hS1,hjW,heq,hBxW,hel,hokr,hpp0,hpp1⟩:=(hInv _ _ _).1 hI
 have hwW:=hcW.size
 refine qd (fun hlt=>?_) (fun hge=>?_)
 ·obtain ⟨k,t,mm,ps,r,rfl⟩:=Fo.next hpr (by omega)
  have hsl:=Fo.sub_len hpr
  have hsz:=Fo.sub_size hpr
  obtain ⟨ok1,ok2,ok3⟩:=hokr
  obtain ⟨g1,g2,g3,g4,g5,g6,g7⟩:=qez ok1
  simp only [Fo.size] at hpp1
  have e1:f=(pr.app (.one k t mm ps)).app r:=by rw [Fo.app_one_app];exact hpr
  have i1:i64.wrap ((pr.len:Int) + 1)=((pr.app (.one k t mm ps)).len:Int):=by rw [ql (by omega)];simp [Fo.one]
  have hTW:∀ k,T k→W.heap[k]? = w0.heap[k]?:=fun k hk=>(hcW.block k (by have:=hTl k hk;omega) (fun h=>h.elim (fun h=>(hS k h).2 hk) fun h=>nTx (h ▸ hk))).trans (hT k hk)
  obtain ⟨q,a',c',hq,hTq,hql,hN⟩:=(hf.keep (S':=T) (w':=W) (fun k hk _=>⟨hk,hTW k hk⟩) (by omega)).get hpr
  have hNT:SlF T w0 a' ps.len ps:=hN.sl.keep' fun k hk _=>⟨hk,hTl k hk,(hTW k hk).symm⟩
  refine hq _ ⟨k,hN.kind,t,hN.text,mm,hN.num,a',ps.len,c',hN.parts,?_⟩
  refine qx (by simp) (by intro u hu;simp only [List.mem_cons,List.not_mem_nil,or_false] at hu;rcases hu with rfl | rfl | rfl | rfl <;> rfl) fun bn w1 hbn hBn e2 s2=>?_
  have z2:=e2.size
  have n1x:¬ S1 bx:=fun h=>(hS1 _ h).1.elim nSx (by omega)
  have n1y:¬ S1 ty:=fun h=>(hS1 _ h).1.elim nSy (by omega)
  have n1e:¬ S1 te:=fun h=>(hS1 _ h).1.elim nSe (by omega)
  have n1n:¬ S1 bn:=fun h=>by have:=(hS1 _ h).2;omega
  have hBx1:=hBxW.ext e2
  have hc1:Chg (fun k=>S k∨k=bx) w w1:=hcW.trans (.of_ext e2)
  have hj1:J xs' S1 w1:=hJ _ _ _ _ hjW (Chg.of_ext e2)
  -- what stands at a later world
  have hy:∀ v,Chg (fun k=>S k∨k=bx) w v→Blk v ty [.func yf ya yb] 166:=fun v hv=>hv.blk hBy (fun h=>h.elim nSy fun h=>hxy h.symm)
  have he:∀ v,Chg (fun k=>S k∨k=bx) w v→Blk v te [eachV bx ty te] 89:=fun v hv=>hv.blk hBe (fun h=>h.elim nSe fun h=>hxe h.symm)
  have hT':∀ v,Chg (fun k=>S k∨k=bx) w v→∀ k,T k→v.heap[k]? = w0.heap[k]?:=fun v hv k hk=>(hv.block k (by have:=hTl k hk;omega) (fun h=>h.elim (fun h=>(hS k h).2 hk) fun h=>nTx (h ▸ hk))).trans (hT k hk)
  have hSS:∀ (S3:Nat→Prop) (v:World),(∀ k,S3 k→(S k∨w.heap.size≤k)∧k < v.heap.size)→∀ k,S3 k→k < v.heap.size∧¬ T k:=fun S3 v h3 k hk=>⟨(h3 k hk).2,fun ht=>(h3 k hk).1.elim (fun h=>(hS k h).2 ht) (fun h=>by have:=hTl k ht;omega)⟩
  rw [q0p] at heq
  rw [qj,endL,qmo] at hel
  -- a round ends
  have round:∀ (S3:Nat→Prop) (w3:World) (p3:Ps) (k3 c3 n3:Int),Chg (fun k=>S k∨k=bx) w w3→(∀ k,S3 k→(S k∨w.heap.size≤k)∧k < w3.heap.size)→J (xs'++(amN p1 ⟨⟨k,t,mm,ps⟩,u,nm⟩++amsF (posN p1 ⟨k,t,mm,ps⟩).1 ps (u||decide (k=7)) (if k=11 then t else nm))) S3 w3 →
    p3=endL (posN p1 ⟨k,t,mm,ps⟩).1 (qj ps)→Blk w3 bx (qey k3 c3 n3 p3 u nm) 123→∃ m':Nat,m' < (Fo.cons k t mm ps r).len∧Inv (i64.wrap ((pr.len:Int) + 1)) w3 m':=by
   intro S3 w3 p3 k3 c3 n3 r1 r2 r3 r4 r5
   have hbd:=endL_bd (⟨k,t,mm,ps⟩ :: qj ps) p1 p1.2 hpp0 (Int.le_refl _) hpp0
   rw [endL,← r4,List.length_cons,qfy] at hbd
   refine ⟨r.len,by simp,(hInv _ _ _).2 ⟨_,r,_,S3,p3,k3,c3,n3,e1,i1,rfl,r1,r2,r3,?_,r5,?_,ok3,hbd.1,by omega⟩⟩
   ·rw [heq,r4];simp only [List.append_assoc]
   ·rw [hel,r4]
  have hpreA:xs'++(amN p1 ⟨⟨k,t,mm,ps⟩,u,nm⟩++amsF (posN p1 ⟨k,t,mm,ps⟩).1 ps (u||decide (k=7)) (if k=11 then t else nm)) <+: xs:=by
   refine List.IsPrefix.trans ?_ hpre
   rw [heq]
   exact ⟨amsF (endL (posN p1 ⟨k,t,mm,ps⟩).1 (qj ps)) r u nm,by simp only [List.append_assoc]⟩
  intro K18 hK18
  have k18:∀ w19,Chg (fun k=>k=bx) w1 w19→Blk w19 bx (qey k c1 mm p1 u nm) 123→K18 w19:=by
   intro w19 h19 hx19
   refine hK18 _ fun _=>?_
   have hc19:Chg (fun k=>S k∨k=bx) w w19:=hc1.trans (h19.mono fun k _ hk=>.inr hk)
   have z19:=h19.size
   have hBn19:=h19.blk hBn (by omega)
   have hj19:J xs' S1 w19:=hJ _ _ _ _ hj1 (h19.mono fun j _ hj=>by subst hj;exact ⟨hbx0,n1x⟩)
   have hS19:∀ k,S1 k→(S k∨w.heap.size≤k)∧k < w19.heap.size:=fun j hj=>⟨(hS1 j hj).1,by have:=(hS1 j hj).2;omega⟩
   obtain ⟨y0,y1,y2,y3⟩:=blk4 hBn19
   obtain ⟨x0,x1,x2,x3,x4,x5,x6⟩:=blk7 hx19
   have ea4:((⟨bx,0,none⟩:Addr).add 3).add 1=(⟨bx,0,none⟩:Addr).add 4:=by simp only [qg]
   refine ⟨k,y0,qd (fun hk2=>dr_ok ?_) (fun hk2=>qd (fun hk3=>?_) (fun hk3=>qd (fun hk1=>?_) (fun hk1=>?_)))⟩
   ·
    obtain rfl:=g6 (by omega)
    rw [ea4]
    refine ⟨p1.2,x4,dr_ok ?_⟩
    rw [qr (by omega)]
    refine x_set hx19 (i:=4) (by simp) rfl fun w24 b24 c24 s24=>?_
    have ha:amN p1 ⟨⟨k,t,mm,.nil⟩,u,nm⟩++amsF (posN p1 ⟨k,t,mm,.nil⟩).1 .nil (u||decide (k=7)) (if k=11 then t else nm)=[]:=by unfold amN;simp [hk2,amsF,qh0,amsL]
    have hp:posN p1 ⟨k,t,mm,.nil⟩=((p1.1,p1.2 + 1),0):=by unfold posN;simp [hk2]
    refine round S1 w24 (p1.1,p1.2 + 1) k c1 mm (hc19.trans (c24.mono fun k _ hk=>.inr hk)) (fun j hj=>⟨(hS19 j hj).1,by have:=(hS19 j hj).2;omega⟩) ?_ (by rw [hp];rfl) b24
    rw [ha,List.append_nil]
    exact hJ _ _ _ _ hj19 (c24.mono fun j _ hj=>by subst hj;exact ⟨hbx0,n1x⟩)
   ·
    obtain rfl:=g6 (by omega)
    refine ⟨t,y1,dr_ok ?_⟩
    rw [qg]
    refine qaf hx19 (by simp) (by simp [Value.oneCell']) fun w28 b28 q2 q3 q4 q5 q6=>?_
    have c28:Chg (fun k=>k=bx) w19 w28:=⟨q4,q5,q6,by omega,fun j _ hj=>q2 j hj⟩
    have ha:amN p1 ⟨⟨k,t,mm,.nil⟩,u,nm⟩++amsF (posN p1 ⟨k,t,mm,.nil⟩).1 .nil (u||decide (k=7)) (if k=11 then t else nm)=[]:=by unfold amN;simp [hk3,amsF,qh0,amsL]
    have hp:posN p1 ⟨k,t,mm,.nil⟩=((t,0),0):=by unfold posN;simp [hk3]
    refine round S1 w28 (t,0) k c1 mm (hc19.trans (c28.mono fun k _ hk=>.inr hk)) (fun j hj=>⟨(hS19 j hj).1,by have:=(hS19 j hj).2;omega⟩) ?_ (by rw [hp];rfl) b28
    rw [ha,List.append_nil]
    exact hJ _ _ _ _ hj19 (c28.mono fun j _ hj=>by subst hj;exact ⟨hbx0,n1x⟩)
   ·
    subst hk1
    obtain rfl:=g6 (by omega)
    have hp:posN p1 ⟨1,t,mm,.nil⟩=(p1,t.length):=by unfold posN;simp
    have ha:amN p1 ⟨⟨1,t,mm,.nil⟩,u,nm⟩++amsF (posN p1 ⟨1,t,mm,.nil⟩).1 .nil (u||decide ((1:Int)=7)) (if (1:Int)=11 then t else nm)=amT t p1 u nm:=by unfold amN;simp [amsF,qh0,amsL]
    rw [ha] at round hpreA
    have htl:t.length≤65536:=(checkC_mk.1 (g3 rfl).2).1
    refine ⟨t,y1,?_⟩
    refine ⟨fun i31 W2 m34=>∃ (jn:Nat) (S2:Nat→Prop) (cc:Int),i31=jn∧jn≤t.length∧m34=t.length - jn∧Chg (fun k=>S k∨k=bx) w W2∧(∀ k,S2 k→(S k∨w.heap.size≤k)∧k < W2.heap.size)∧J (xs'++(amT t p1 u nm).take jn) S2 W2∧Blk W2 bx (qey 1 cc mm p1 u nm) 123 ∧
      Blk W2 bn [.int .i64 1,.string ⟨⟨t⟩⟩,.int .i64 mm,.slice a' (Fo.nil).len c'] 56∧¬ S2 bn∧¬ S2 bx,
     ⟨_,0,S1,c1,rfl,by omega,rfl,hc19,hS19,by rw [List.take_zero,List.append_nil];exact hj19,hx19,hBn19,n1n,n1x⟩,?_⟩
    rintro _ W2 m34 ⟨jn,S2,cc,rfl,hjn,rfl,q1,q2,q3,q4,q5,q6,q7⟩ _
    have zW2:=q1.size
    refine qd (fun hl2=>?_) (fun hl2=>?_)
    ·have hjl:jn < t.length:=by omega
     refine ⟨t,(blk4 q5).2.1,qb4 hjl (dr_ok ?_)⟩
     refine x_set q4 (i:=1) (by simp) rfl fun w39 b39 c39 s39=>dr_ok ?_
     have hc39:Chg (fun k=>S k∨k=bx) w w39:=q1.trans (c39.mono fun k _ hk=>.inr hk)
     refine ⟨yf,ya,yb,by rw [(hy w39 hc39).cell];rfl,dr_ok ?_⟩
     obtain ⟨z0,z1,z2,z3,z4,z5,z6⟩:=blk7 b39
     refine ⟨_,z0,_,z1,_,z2,_,z3,_,z4,_,z5,_,z6,?_⟩
     have hj39:J (xs'++(amT t p1 u nm).take jn) S2 w39:=hJ _ _ _ _ q3 (c39.mono fun j _ hj=>by subst hj;exact ⟨hbx0,q7⟩)
     have htk:(amT t p1 u nm).take (jn + 1)=(amT t p1 u nm).take jn++[.ch t[jn] p1 u nm]:=by
      rw [List.take_succ_eq_append_getElem (by unfold amT;rw [List.length_map];exact hjl)]
      unfold amT
      rw [List.getElem_map]
     have hpx:(xs'++(amT t p1 u nm).take jn)++[.ch t[jn] p1 u nm] <+: xs:=by
      refine List.IsPrefix.trans ?_ hpreA
      rw [List.append_assoc,← htk]
      exact (List.prefix_append_right_inj _).2 (List.take_prefix _ _)
     refine qba (hbody (xs'++(amT t p1 u nm).take jn) (.ch t[jn] p1 u nm) _ S2 w39 ⟨_,rfl,mm,rfl⟩ hpx (by omega) (hSS S2 w39 fun j hj=>⟨(q2 j hj).1,by have:=(q2 j hj).2;omega⟩) hj39) ?_
     rintro e w51 ⟨hc2,S3,hS3,hres⟩
     have z51:=hc2.size
     have hc51:Chg (fun k=>S k∨k=bx) w w51:=qal hc39 hc2 fun i hi hh=>.inl ((q2 i hh).1.elim id fun h=>by omega)
     have hS3w:∀ k,S3 k→(S k∨w.heap.size≤k)∧k < w51.heap.size:=fun j hj=>⟨(hS3 j hj).1.elim (fun h=>(q2 j h).1) (fun h=>.inr (by omega)),(hS3 j hj).2⟩
     rcases hres with ⟨rfl,hj2⟩ | ⟨rfl,hjx⟩
     ·refine ⟨true,rfl,?_⟩
      simp only [Bool.not_true,br_f]
      have lb:=q5.lt
      refine ⟨t.length - (jn + 1),by omega,jn + 1,S3,_,by rw [ql (by omega)],by omega,rfl,hc51,hS3w,?_,hc2.blk b39 q7,hc2.blk (c39.blk q5 (by omega)) q6,fun hh=>(hS3 _ hh).1.elim q6 (by omega),fun hh=>(hS3 _ hh).1.elim q7 (by have:=q4.lt;omega)⟩
      rw [htk,← List.append_assoc];exact hj2
     ·refine ⟨false,rfl,?_⟩
      simp only [Bool.not_false,br_t]
      exact hstop S3 _ _ _ _ _ hc51 hS3w (hc2.blk b39 q7) hjx
    ·have:jn=t.length:=by omega
     subst this
     have htk:(amT t p1 u nm).take t.length=amT t p1 u nm:=List.take_of_length_le (by unfold amT;rw [List.length_map];exact Nat.le_refl _)
     rw [htk] at q3
     exact round S2 W2 p1 1 cc mm q1 q2 q3 (by rw [hp];rfl) q4
   ·intro K55 hK55
    -- a gap,or what ends words
    have kYes:(k=4∨k=5∨k=6)→K55 true w19:=by
     intro hk
     obtain rfl:=g6 (by omega)
     refine hK55 _ _ fun _=>?_
     simp only [br_t]
     obtain ⟨x,hx,hA⟩:∃ x:Am,AmE x (qey k c1 mm p1 u nm)∧amN p1 ⟨⟨k,t,mm,.nil⟩,u,nm⟩++amsF (posN p1 ⟨k,t,mm,.nil⟩).1 .nil (u||decide (k=7)) (if k=11 then t else nm)=[x]:=by
      rcases hk with rfl | rfl | rfl
      ·exact ⟨.brk false,⟨c1,mm,p1,u,nm,rfl⟩,by unfold amN;simp [amsF,qh0,amsL]⟩
      ·exact ⟨.brk true,⟨c1,mm,p1,u,nm,rfl⟩,by unfold amN;simp [amsF,qh0,amsL]⟩
      ·exact ⟨.gap mm p1 u nm,⟨c1,rfl⟩,by unfold amN;simp [amsF,qh0,amsL]⟩
     have hp:posN p1 ⟨k,t,mm,.nil⟩=(p1,(posN p1 ⟨k,t,mm,.nil⟩).2):=by unfold posN;rcases hk with rfl | rfl | rfl <;> simp
     rw [hA] at round hpreA
     refine dr_ok ⟨yf,ya,yb,by rw [(hy w19 hc19).cell];rfl,dr_ok ⟨_,x0,_,x1,_,x2,_,x3,_,x4,_,x5,_,x6,?_⟩⟩
     refine qba (hbody xs' x _ S1 w19 ⟨_,rfl,hx⟩ hpreA (by omega) (hSS S1 w19 hS19) hj19) ?_
     rintro e w69 ⟨hc2,S3,hS3,hres⟩
     have z69:=hc2.size
     have hc69:Chg (fun k=>S k∨k=bx) w w69:=qal hc19 hc2 fun i hi hh=>.inl ((hS1 i hh).1.elim id fun h=>by omega)
     have hS3w:∀ k,S3 k→(S k∨w.heap.size≤k)∧k < w69.heap.size:=fun j hj=>⟨(hS3 j hj).1.elim (fun h=>(hS1 j h).1) (fun h=>.inr (by omega)),(hS3 j hj).2⟩
     rcases hres with ⟨rfl,hj2⟩ | ⟨rfl,hjx⟩
     ·refine ⟨true,rfl,?_⟩
      simp only [Bool.not_true,br_f]
      exact round S3 w69 p1 k c1 mm hc69 hS3w hj2 (by rw [hp];rfl) (hc2.blk hx19 n1x)
     ·refine ⟨false,rfl,?_⟩
      simp only [Bool.not_false,br_t]
      exact hstop S3 _ _ _ _ _ hc69 hS3w (hc2.blk hx19 n1x) hjx
    -- the parts
    have kNo:¬ (k=4∨k=5∨k=6)→K55 false w19:=by
     intro hk
     have hk7:7≤k:=by omega
     refine hK55 _ _ fun _=>?_
     simp only [br_f]
     have hp:posN p1 ⟨k,t,mm,ps⟩=(p1,0):=by unfold posN;simp [hk1,hk2,hk3,show ¬ k=6 by omega]
     have hA0:amN p1 ⟨⟨k,t,mm,ps⟩,u,nm⟩=[]:=by unfold amN;simp [hk1,show ¬ k=6 by omega,show ¬ k=4 by omega,show ¬ k=5 by omega]
     rw [hp,hA0,List.nil_append] at round hpreA
     refine dr_ok ⟨_,x0,_,x1,_,x2,_,x3,_,x4,_,x5,_,x6,?_⟩
     refine qx (by simp) (by intro u hu;simp only [List.mem_cons,List.not_mem_nil,or_false] at hu;rcases hu with rfl | rfl | rfl | rfl | rfl | rfl | rfl <;> rfl) fun bb w82 hbb hBb e82 s82=>?_
     have z82:=e82.size
     have nbb:¬ S1 bb:=fun h=>by have:=(hS19 _ h).2;omega
     intro K83 hK83
     have k83:∀ w84,Chg (fun k=>k=bx) w82 w84→Blk w84 bx (qey k c1 mm p1 (u||decide (k=7)) nm) 123→K83 w84:=by
      intro w84 c84 hx84
      refine hK83 _ fun _=>?_
      have z84:=c84.size
      have hc84:Chg (fun k=>S k∨k=bx) w w84:=(hc19.trans (.of_ext e82)).trans (c84.mono fun k _ hk=>.inr hk)
      have hBn84:=c84.blk (hBn19.ext e82) (by omega)
      have hBb84:=c84.blk hBb (by omega)
      intro K85 hK85
      have k85:∀ w86,Chg (fun k=>k=bx) w84 w86→Blk w86 bx (qey k c1 mm p1 (u||decide (k=7)) (if k=11 then t else nm)) 123→K85 w86:=by
       intro w86 c86 hx86
       refine hK85 _ fun _=>?_
       have z86:=c86.size
       have hc86:Chg (fun k=>S k∨k=bx) w w86:=hc84.trans (c86.mono fun k _ hk=>.inr hk)
       have hBn86:=c86.blk hBn84 (by omega)
       have hBb86:=c86.blk hBb84 (by omega)
       have hj86:J xs' S1 w86:=hJ _ _ _ _ hj19 (((Chg.of_ext e82).trans (c84.trans c86 |>.mono fun j _ hj=>by subst hj;exact ⟨hbx0,n1x⟩)))
       have hS86:∀ k,S1 k→(S k∨w.heap.size≤k)∧k < w86.heap.size:=fun j hj=>⟨(hS19 j hj).1,by have:=(hS19 j hj).2;omega⟩
       refine dr_ok ⟨.func 128,⟨[]⟩,⟨[.pointer (some ⟨bx,0,none⟩),.pointer (some ⟨ty,0,none⟩),.pointer (some ⟨te,0,none⟩)]⟩,by rw [(he w86 hc86).cell];rfl,a',ps.len,c',(blk4 hBn86).2.2.2,by kernel_rfl,?_⟩
       refine ih _ (hz ▸ hsz) ps rfl (S:=S1) xs' p1 (u||decide (k=7)) (if k=11 then t else nm) k c1 mm (by omega) ok2 hpp0 (by omega) hNT (by omega) (hT' w86 hc86) (hSS S1 w86 hS86) hx86 (hy w86 hc86) (he w86 hc86) n1x n1y n1e hpreA hj86
        (fun S3 w91 k9 c9 n9 hc3 hS3 hx91 hj3=>⟨true,rfl,?_⟩) (fun S3 w91 k9 c9 n9 p9 hc3 hS3 hx91 hjx=>⟨false,rfl,?_⟩)
       ·have z91:=hc3.size
        have nb:bb≠bx:=by have:=hx19.lt;omega
        refine x_back (hc3.blk hBb86 (fun h=>h.elim nbb nb)) hx91 nb fun v hv hsv hxv=>?_
        simp only [Bool.not_true,br_f]
        have hcv:Chg (fun k=>S k∨k=bx) w v:=(qal hc86 hc3 fun i hi hh=>hh.imp (fun h=>(hS1 i h).1.elim id fun h=>by omega) id).trans (hv.mono fun k _ hk=>.inr hk)
        have n3:¬ S3 bx:=fun hh=>(hS3 _ hh).1.elim n1x (by have:=hx86.lt;omega)
        refine round S3 v _ k9 c9 n9 hcv (fun j hj=>⟨(hS3 j hj).1.elim (fun h=>(hS1 j h).1) (fun h=>.inr (by omega)),by have:=(hS3 j hj).2;omega⟩) (hJ _ _ _ _ hj3 (hv.mono fun j _ hj=>by subst hj;exact ⟨hbx0,n3⟩)) rfl hxv
       ·have z91:=hc3.size
        have nb:bb≠bx:=by have:=hx19.lt;omega
        refine x_back (hc3.blk hBb86 (fun h=>h.elim nbb nb)) hx91 nb fun v hv hsv hxv=>?_
        simp only [Bool.not_false,br_t]
        have hcv:Chg (fun k=>S k∨k=bx) w v:=(qal hc86 hc3 fun i hi hh=>hh.imp (fun h=>(hS1 i h).1.elim id fun h=>by omega) id).trans (hv.mono fun k _ hk=>.inr hk)
        have n3:¬ S3 bx:=fun hh=>(hS3 _ hh).1.elim n1x (by have:=hx86.lt;omega)
        exact hstop S3 v _ _ _ _ hcv (fun j hj=>⟨(hS3 j hj).1.elim (fun h=>(hS1 j h).1) (fun h=>.inr (by omega)),by have:=(hS3 j hj).2;omega⟩) hxv (hJx _ _ _ hjx (hv.mono fun j _ hj=>by subst hj;exact ⟨hbx0,n3⟩))
      refine ⟨k,(blk4 hBn84).1,qd (fun h11=>⟨t,(blk4 hBn84).2.1,dr_ok ?_⟩) (fun h11=>?_)⟩
      ·refine x_set hx84 (i:=6) (by simp) rfl fun v hv hc hs=>k85 v hc ?_
       rw [if_pos h11];exact hv
      ·refine k85 w84 (Chg.refl _ _) ?_
       rw [if_neg h11];exact hx84
     have hx82:=hx19.ext e82
     refine dr_ok ⟨u,(blk7 hx82).2.2.2.2.2.1,?_⟩
     cases u with
     | true =>
      simp only [br_t]
      refine dr_ok (x_set hx82 (i:=5) (by simp) rfl fun v hv hc hs=>k83 v hc ?_)
      exact hv
     | false =>
      simp only [br_f]
      refine ⟨k,(blk4 (hBn19.ext e82)).1,dr_ok (x_set hx82 (i:=5) (by simp) rfl fun v hv hc hs=>k83 v hc ?_)⟩
      rw [Bool.false_or];exact hv
    refine qd (fun h6=>?_) (fun h6=>qd (fun h5=>?_) (fun h5=>?_))
    ·rw [decide_eq_true h6];exact kYes (by omega)
    ·rw [decide_eq_true h5];exact kYes (by omega)
    ·by_cases h4:k=4
     ·rw [decide_eq_true h4];exact kYes (by omega)
     ·rw [decide_eq_false h4];exact kNo (by omega)
  exact x_kind hBn hBx1 (by omega) fun v hv hsv hxv=>k18 v hv hxv
 ·obtain ⟨rfl,rfl⟩:=Fo.last hpr (by omega)
  have e:xs'=pre++amsF p pr u nm:=by rw [heq];simp [amsF,qh0,amsL]
  rw [e] at hjW
  rw [show endL p1 (qj .nil)=p1 from rfl] at hel
  rw [← hel] at hBxW
  exact hend S1 _ _ _ _ hcW hS1 hBxW hjW
theorem atoms_iterO {T:Nat→Prop} {wi:Bool} (f:Fo) (p:Ps) (hs:f.size≤1000000) (hok:okF wi f) (h0:0≤p.2) (h1:p.2 + f.size≤1000000000) {a:Option Addr} {n c:Nat} (b1 b2:Nat) (w:World) (hTl:∀ k,T k→k < w.heap.size) (hB1:Blk w b1 [.string ⟨⟨p.1⟩⟩,.int .i64 p.2] 51) (hB2:Blk w b2 [.slice a n c] 43) (hf:SlF T w a n f) :
  IterO prog qbu [.pointer (some ⟨b1,0,none⟩),.pointer (some ⟨b2,0,none⟩)] (amsF p f false []) AmV T w:=by
 intro yf ya yb S0 J Jx R hS hJ hJx hbody hj0 hend hstop
 apply qpf
 refine qh fun ty w5 hty hBy e5 s5=>dr_ok ?_
 obtain ⟨q0,q1⟩:=blk2 (hB1.ext e5)
 refine ⟨p.1,q0,p.2,q1,?_⟩
 refine qx (by simp) (by intro u hu;simp only [List.mem_cons,List.not_mem_nil,or_false] at hu;rcases hu with rfl | rfl | rfl | rfl | rfl | rfl | rfl <;> rfl) fun bx w11 hbx hBx e11 s11=>?_
 refine qh fun te w13 hte hBe' e13 s13=>?_
 refine qn hBe' rfl fun w14 hBe hcc hss=>?_
 have E11:=qb e5 e11
 have E13:=qb E11 e13
 have z5:=e5.size
 have z11:=e11.size
 have z13:=e13.size
 have E14:Ext w w14:=qi E13 hcc fun k hk=>by omega
 have lb2:=hB2.lt
 have hB2a:=hB2.ext E14
 have hBx':=hcc.blk (hBx.ext e13) (by omega)
 have hBy':=hcc.blk ((hBy.ext e11).ext e13) (by omega)
 refine ⟨.func 128,⟨[]⟩,⟨[.pointer (some ⟨bx,0,none⟩),.pointer (some ⟨ty,0,none⟩),.pointer (some ⟨te,0,none⟩)]⟩,by rw [hBe.cell];rfl,dr_ok ⟨a,n,c,by rw [hB2a.cell];rfl,by kernel_rfl,?_⟩⟩
 have hz:=E14.size
 refine atoms_walk (w0:=w) (xs:=amsF p f false []) hTl hJ hJx hbody (bx:=bx) (ty:=ty) (te:=te) (by omega) (by omega) (by omega) f (S:=S0) [] p false [] 0 0 0 hs hok h0 h1 hf hz (fun k hk=>E14.block k (hTl k hk)) (fun k hk=>⟨by have:=(hS k hk).1;omega,(hS k hk).2⟩)
  hBx' hBy' hBe (fun h=>by have:=(hS _ h).1;omega) (fun h=>by have:=(hS _ h).1;omega) (fun h=>by have:=(hS _ h).1;omega) (List.prefix_refl _)
  (hJ _ _ _ _ hj0 (Chg.of_ext E14)) (fun S' W' k1 c1 n1 hc hS' hx hj=>?_) (fun S' W' k1 c1 n1 p1 hc hS' hx hjx=>?_)
 ·exact ⟨_,rfl,hend S' _ (Nat.le_trans hz hc.size) hj⟩
 ·exact ⟨_,rfl,hstop S' _ (Nat.le_trans hz hc.size) hjx⟩
theorem atoms_spec {R:Ending→World→Prop} {w:World} (p:Ps) {a:Option Addr} {n c:Nat}
  (h:∀ b1 b2 w',b1=w.heap.size→b2=b1 + 1→w'.heap.size=b2 + 1→Blk w' b1 [.string ⟨⟨p.1⟩⟩,.int .i64 p.2] 51→Blk w' b2 [.slice a n c] 43→Ext w w'→R (.returned (.func (.func qbu) ⟨[]⟩ ⟨[.pointer (some ⟨b1,0,none⟩),.pointer (some ⟨b2,0,none⟩)]⟩)) w') :
  Calls prog qio ⟨[.agg ⟨[.string ⟨⟨p.1⟩⟩,.int .i64 p.2]⟩,.slice a n c]⟩ w R:=by
 apply qum
 refine qh fun b1 w5 hb1 B1 e5 s5=>?_
 refine qh fun b2 w7 hb2 B2 e7 s7=>?_
 exact h b1 b2 w7 hb1 (by omega) s7 (B1.ext e7) B2 (qb e5 e7)
section
variable {w w':World} {b:Nat} {st:Bs} {O:Nat→Prop} {R:Ending→World→Prop}
theorem decI {n:Int} (h0:0≤n) (h1:n≤64):(Lib.decDigits n.toNat).length≤2:=qdo n.toNat (by omega)
theorem tkadd_spec (x:Am) {vs:List Value} (hE:AmE x vs) (h:BsSt w b st O) (hs:StOk st) (hl:(lstB st).length≤999999999) (hw:(wrdB st).length≤1000000000) (hn:∀ n p u nm,x=.gap n p u nm→1≤n∧n≤64)
  (hk:∀ w' O',BsSt w' b (addB st x) O'→Chg O w w'→(∀ k,O' k→O k∨w.heap.size≤k)→R (.returned (.tuple ⟨[]⟩)) w') :
  Calls prog qdv ⟨[.pointer (some ⟨b,0,none⟩),.agg ⟨vs⟩]⟩ w R:=by
 have lb:b < w.heap.size:=(h.own (by obtain ⟨_,_,_,_,_,_,h2⟩:=h;exact (h2 b).2 (.inl rfl))).2
 have hjj:st.j=true→shut st≠[]:=fun hh e=>hs.j hh (List.eq_nil_of_length_eq_zero (by rw [← qgq,e];rfl))
 cases x with
 | ch c q u nm =>
  obtain ⟨n,rfl⟩:=hE
  apply qbr
  refine qh fun b9 w10 hb9 B9 e10 s10=>?_
  obtain ⟨d0,d1,d2,d3,d4,d5,d6⟩:=blk7 B9
  refine ⟨_,d0,qd (fun _=>⟨_,d0,_,d1,_,d2,_,d3,_,d4,_,d5,_,d6,?_⟩) (fun hh=>absurd rfl hh)⟩
  refine q9j (h.ext e10) hs hl hw c 1 n q u nm fun w20 O' h20 c20 n20=>⟨rfl,?_⟩
  have z10:=e10.size
  exact hk w20 O' h20 ((Chg.of_ext e10).trans c20) fun k hk=>(n20 k hk).imp id fun hh=>by omega
 | gap n q u nm =>
  obtain ⟨c,rfl⟩:=hE
  obtain ⟨n1,n2⟩:=hn n q u nm rfl
  apply qbr
  refine qh fun b9 w10 hb9 B9 e10 s10=>?_
  have h10:=h.ext e10
  have nO:¬ O b9:=fun hh=>by have:=h.own hh;omega
  have z10:=e10.size
  obtain ⟨d0,_⟩:=blk7 B9
  refine ⟨_,d0,qd (fun hh=>absurd hh (by decide)) (fun _=>qd (fun _=>?_) (fun hh=>absurd rfl hh))⟩
  refine q8e h10 hs (by omega) fun oa oc w22 h22 hO c22=>⟨rfl,?_⟩
  have B22:=c22.blk B9 nO
  intro K23 hK23
  have k23:K23 (if u=true then bitO .i64 2 1 else 2) w22:=by
   refine hK23 _ _ fun _=>?_
   obtain ⟨d0,d1,d2,d3,d4,d5,d6⟩:=blk7 B22
   refine ⟨_,d0,_,d1,_,d2,_,d3,_,d4,_,d5,_,d6,?_⟩
   refine qj8 h22 (by rw [qgq];omega) hjj 6 c n q u nm _ fun oa2 oc2 w34 h34 c34 n34=>⟨rfl,?_⟩
   rw [st_gap] at h34
   have B34:=B22.keep (c34.block b9 B22.lt fun hh=>hh.elim (by omega) fun hh=>nO (hO b9 (.inr hh)))
   unfold drw
   have ed:=qw w34
   have h35:=h34.ext ed
   have B35:=B34.ext ed
   have hc35:Chg O w w34.drew:=(((Chg.of_ext e10).trans c22).trans (c34.mono fun k _ hk=>hO k hk)).trans (.of_ext ed)
   have n35:∀ k,bk oa2 k→O k∨w.heap.size≤k:=fun k hk=>(n34 k hk).imp (fun hh=>hO k (.inr hh)) fun hh=>by have:=c22.size;omega
   generalize w34.drew=w35 at *
   have ea:addB st (.gap n q u nm)=⟨shut st++[⟨gapT n,[],q,flI u st.j st.v 2,nm⟩],none,true,false⟩:=rfl
   have fin:∀ (v1:World) (g:Nat),oa2=some ⟨g,0,none⟩→BsAt v1 b oa2 none (shut st++[⟨[],[],q,flI u st.j st.v 2,nm⟩]) [] false true false (.pointer none) oc2 0→Ext w35 v1 →
     sadd ([91]) (Lib.decDigits n.toNat) fun s43=>sadd s43 ([93]) fun s44=>dr (some (⟨g,(shut st).length * 6,none⟩:Addr)) fun p45=>(stL v1 (p45.add 0) 0 [.string ⟨⟨s44⟩⟩] fun w46=>R (.returned (.tuple ⟨[]⟩)) w46)∧True:=by
    intro v1 g hg hv ev
    have hdl:=decI (n:=n) (by omega) n2
    refine ⟨by simp;omega,?_,dr_ok ⟨?_,trivial⟩⟩
    ·simp only [List.length_append,List.length_cons,List.length_nil];omega
    refine (hv.last hg).2.1 _ _ fun w' hw' cw'=>?_
    have et:([91]++Lib.decDigits n.toNat++[93]:List UInt8)=gapT n:=by simp [gapT]
    rw [et] at hw'
    refine hk w' (fun k=>k=b∨bk oa2 k∨bk none k) (by rw [ea];exact ⟨oa2,none,_,oc2,0,hw',fun k=>Iff.rfl⟩) ?_ fun k hk=>?_
    ·exact qal (hc35.trans (.of_ext ev)) cw' fun k hk hh=>by
      rcases n35 k hh with h' | h'
      ·exact h'
      ·omega
    ·rcases hk with hk | hk | hk
     ·exact .inl (hO k (.inl hk))
     ·exact n35 k hk
     ·simp [bk] at hk
   have lst:∀ v1,BsAt v1 b oa2 none (shut st++[⟨[],[],q,flI u st.j st.v 2,nm⟩]) [] false true false (.pointer none) oc2 0→∀ R':Ending→World→Prop,(∀ g w',oa2=some ⟨g,0,none⟩→BsAt w' b oa2 none (shut st++[⟨[],[],q,flI u st.j st.v 2,nm⟩]) [] false true false (.pointer none) oc2 0→Ext v1 w'→R' (.returned (.pointer (some ⟨g,(shut st).length * 6,none⟩))) w') →
     Calls prog 131 ⟨[.pointer (some ⟨b,0,none⟩)]⟩ v1 R':=fun v1 hv R' hR=>qf3 hv (by rw [qgq];omega) hR
   have ito:∀ (v1:World) (R':Ending→World→Prop),R' (.returned (.string ⟨⟨Lib.decDigits n.toNat⟩⟩)) v1→Calls prog 59 ⟨[.int .i64 n]⟩ v1 R':=by
    intro v1 R' hR
    have hmm:n=((n.toNat:Nat):Int):=by omega
    have hI:=Tryz.strconv_Itoa_small n.toNat (by omega) v1
    rw [← hmm] at hI
    refine hI.mono ?_
    rintro _ _ ⟨rfl,rfl⟩
    exact hR
   refine ⟨?_,⟨?_,⟨_,(blk7 B35).2.2.1,?_,trivial⟩,trivial⟩,trivial⟩
   ·refine lst w35 h35 _ fun g w37 hg h37 e37=>⟨_,rfl,_,(blk7 (B35.ext e37)).2.2.1,?_,trivial⟩
    exact ito w37 _ ⟨_,rfl,fin w37 g hg h37 e37⟩
   ·refine lst w35 h35 _ fun g w37 hg h37 e37=>⟨_,rfl,_,(blk7 (B35.ext e37)).2.2.1,?_,trivial⟩
    exact ito w37 _ ⟨_,rfl,fin w37 g hg h37 e37⟩
   ·refine lst w35 h35 _ fun g w37 hg h37 e37=>⟨_,rfl,?_,trivial⟩
    exact ito w37 _ ⟨_,rfl,fin w37 g hg h37 e37⟩
  refine ⟨u,(blk7 B22).2.2.2.2.2.1,?_⟩
  cases u
  ·simp only [br_f];exact k23
  ·simp only [br_t];exact k23
 | brk x =>
  obtain ⟨c,n,q,u,nm,rfl⟩:=hE
  apply qbr
  refine qh fun b9 w10 hb9 B9 e10 s10=>?_
  have h10:=h.ext e10
  have nO:¬ O b9:=fun hh=>by have:=h.own hh;omega
  have z10:=e10.size
  obtain ⟨d0,_⟩:=blk7 B9
  have k1:¬ (if x=true then (5:Int) else 4)=1:=by cases x <;> decide
  have k6:¬ (if x=true then (5:Int) else 4)=6:=by cases x <;> decide
  refine ⟨_,d0,qd (fun hh=>absurd hh k1) (fun _=>qd (fun hh=>absurd hh k6) (fun _=>?_))⟩
  refine q8e h10 hs (by omega) fun oa oc w71 h71 hO c71=>⟨rfl,?_⟩
  have B71:=c71.blk B9 nO
  unfold drw
  have ed:=qw w71
  have h72:=h71.ext ed
  have B72:=B71.ext ed
  have hc72:Chg O w w71.drew:=(((Chg.of_ext e10).trans c71).trans (.of_ext ed))
  generalize w71.drew=w72 at *
  have fin:∀ w78,BsAt w78 b oa none (shut st) [] false false (st.v||x) (.pointer none) oc 0→Chg (fun k=>k=b) w72 w78→R (.returned (.tuple ⟨[]⟩)) w78:=by
   intro w78 h78 c78
   refine hk w78 (fun k=>k=b∨bk oa k∨bk none k) ⟨oa,none,_,oc,0,h78,fun k=>Iff.rfl⟩ (hc72.trans (c78.mono fun k _ hk=>hO k (.inl hk))) fun k hk=>.inl ?_
   rcases hk with hk | hk | hk
   ·exact hO k (.inl hk)
   ·exact hO k (.inr hk)
   ·simp [bk] at hk
  refine dr_ok ⟨_,h72.cells.2.2.2,?_⟩
  cases hv:st.v with
  | true =>
   simp only [br_t]
   rw [hv] at h72 fin
   have two:stL w72 ((⟨b,0,none⟩:Addr).add 4) 0 [.bool false] fun w76=>dr (some (⟨b,0,none⟩:Addr)) fun p77=>(stL w76 (p77.add 5) 0 [.bool true] fun w78=>R (.returned (.tuple ⟨[]⟩)) w78)∧True:=by
    refine h72.setJ false fun w76 h76 c76 s76=>dr_ok ⟨?_,trivial⟩
    refine h76.setV true fun w78 h78 c78 s78=>?_
    rw [Bool.true_or] at fin
    exact fin w78 h78 (c76.trans c78)
   exact ⟨dr_ok ⟨two,trivial⟩,dr_ok ⟨⟨two,trivial⟩,⟨⟨two,trivial⟩,two,trivial⟩,trivial⟩,trivial⟩
  | false =>
   simp only [br_f]
   rw [hv] at h72 fin
   rw [Bool.false_or] at fin
   have e5:decide ((if x=true then (5:Int) else 4)=5)=x:=by cases x <;> rfl
   have nb:b9≠b:=by omega
   have two:stL w72 ((⟨b,0,none⟩:Addr).add 4) 0 [.bool false] fun w76=>dr (some (⟨b,0,none⟩:Addr)) fun p77=>(stL w76 (p77.add 5) 0 [.bool (decide ((if x=true then (5:Int) else 4)=5))] fun w78=>R (.returned (.tuple ⟨[]⟩)) w78)∧True:=by
    refine h72.setJ false fun w76 h76 c76 s76=>dr_ok ⟨?_,trivial⟩
    rw [e5]
    refine h76.setV x fun w78 h78 c78 s78=>fin w78 h78 (c76.trans c78)
   have two':stL w72 ((⟨b,0,none⟩:Addr).add 4) 0 [.bool false] fun w76=>∃ (x104:Int),World.cell? w76 ((⟨b9,0,none⟩:Addr).add 0)=some (.int .i64 x104)∧(dr (some (⟨b,0,none⟩:Addr)) fun p77=>(stL w76 (p77.add 5) 0 [.bool (decide ((x104:Int)=5))] fun w78=>R (.returned (.tuple ⟨[]⟩)) w78)∧True):=by
    refine h72.setJ false fun w76 h76 c76 s76=>⟨_,(blk7 (c76.blk B72 nb)).1,dr_ok ⟨?_,trivial⟩⟩
    rw [e5]
    refine h76.setV x fun w78 h78 c78 s78=>fin w78 h78 (c76.trans c78)
   have d0:=(blk7 B72).1
   exact ⟨⟨_,d0,dr_ok ⟨two,trivial⟩⟩,dr_ok ⟨⟨_,d0,two,trivial⟩,⟨⟨_,d0,two,trivial⟩,two',trivial⟩,trivial⟩,trivial⟩
end
def hasG (g m:Int):Bool:=decide (g / m % 2=1)
def wordG (g:Int):Bool:=!hasG g 2&&!hasG g 8
theorem q5f (u j v:Bool) (base:Int) (hb:base=0∨base=2∨base=8) :
  0≤flI u j v base∧flI u j v base≤31∧hasG (flI u j v base) 1=u∧hasG (flI u j v base) 2=decide (base=2)∧hasG (flI u j v base) 4=v∧hasG (flI u j v base) 8=decide (base=8)∧hasG (flI u j v base) 16=j:=by
 rcases hb with rfl | rfl | rfl <;> cases u <;> cases j <;> cases v <;> decide
def gapB (s:List UInt8):Bool:=(List.range 64).any fun i=>decide (gapT ((i:Int) + 1)=s)
def markB:List UInt8→Bool
 | [c]=>decide (kd c=5)||decide (kd c=4)
 | _=>false
def normB (s:List UInt8):Bool:=decide (s≠[])&&decide (s.length≤64)&&s.all innC
def qjl (s:List UInt8):Bool:=decide (s=[])||qp s
def textB (x:Tok):Bool :=
 if hasG x.g 2=true then gapB x.t&&decide (x.m=x.t) else if hasG x.g 8=true then markB x.t&&decide (x.m=x.t) else qt x.t&&normB x.m
def tokE (x:Tok):Int :=
 if x.g < 0∨31 < x.g then 2 else if hasG x.g 2=true∧hasG x.g 8=true then 8 else if textB x=false then 11 else if x.p.2 < 0 then 2
 else if qjl x.p.1=false∨qjl x.a=false then 14 else 0
theorem kd_bd (c:UInt8):0≤kd c∧kd c≤6:=by
 unfold kd kindF
 repeat' split
 all_goals omega
theorem inn_kd {c:UInt8} (h:innC c=true):1≤kd c∧kd c≤4:=by
 unfold innC letB at h
 simp only [Bool.or_eq_true,beq_iff_eq,decide_eq_true_eq] at h
 omega
structure Raw (x:Tok):Prop where
 g0:0≤x.g
 g1:x.g≤31
 p:plOk x.p
 a:x.a=[]∨qp x.a=true
 m:x.m=[]
 k:(hasG x.g 2=true∧hasG x.g 8=false∧∃ n:Int,1≤n∧n≤64∧x.t=gapT n)∨(hasG x.g 2=false∧hasG x.g 8=true∧∃ c,x.t=[c]∧(kd c=4∨kd c=5)) ∨
  (hasG x.g 2=false∧hasG x.g 8=false∧∃ c s,x.t=c :: s∧letB c=true∧mkS false (c :: s)=true∧∀ d∈s,innC d=true)
theorem qt9:∀ (n:Nat) (l:List Am) (j v:Bool),l.length≤n→okA false l→∀ x∈divF j v l,Raw x
 | _,[],j,v,_,_,x,hx=>by rw [divF] at hx;cases hx
 | 0,_ :: _,_,_,h,_,_,_=>absurd h (by simp)
 | n + 1,.brk b :: r,j,v,hl,h,x,hx=>by
  rw [divF] at hx
  exact qt9 n r _ _ (by simpa using hl) h x hx
 | n + 1,.gap m p u nm :: r,j,v,hl,⟨h1,h2,h3,h4⟩,x,hx=>by
  rw [divF] at hx
  rcases List.mem_cons.1 hx with rfl | hx
  ·obtain ⟨f1,f2,_,f3,_,f4,_⟩:=q5f u j v 2 (by simp)
   exact ⟨f1,f2,h2,h3,rfl,.inl ⟨f3,f4,m,h1.1,h1.2,rfl⟩⟩
  ·exact qt9 n r _ _ (by simpa using hl) h4 x hx
 | n + 1,.ch c p u nm :: r,j,v,hl,⟨h1,h2,h3,h4,h5⟩,x,hx=>by
  have hl':r.length≤n:=by simpa using hl
  have h2':kd c≠2:=fun h=>absurd (h2 h) (by decide)
  rw [divF] at hx
  by_cases h6:kd c=6
  ·rw [if_pos h6] at hx
   exact qt9 n r _ _ hl' (by simpa [h6] using h5) x hx
  ·rw [if_neg h6] at hx
   by_cases hlt:letB c=true
   ·rw [if_pos hlt] at hx
    obtain ⟨i1,i2,i3⟩:=okA_run h5
    rcases List.mem_cons.1 hx with rfl | hx
    ·obtain ⟨f1,f2,_,f3,_,f4,_⟩:=q5f (u||(r.takeWhile inA).any unA) j v 0 (by simp)
     refine ⟨f1,f2,h3,h4,rfl,.inr (.inr ⟨f3,f4,c,_,rfl,hlt,?_,i3⟩)⟩
     rw [mkS,if_neg h2']
     simp only [h2',decide_false,Bool.or_false] at i1
     simp [h1,i1]
    ·exact qt9 n _ _ _ (by have:=qk4 inA r;omega) i2 x hx
   ·rw [if_neg hlt] at hx
    have hk:=kd_bd c
    have hk2:kd c=4∨kd c=5:=by
     have:¬ (kd c=1∨kd c=3):=fun hh=>hlt ((qew c).2 hh)
     omega
    rcases List.mem_cons.1 hx with rfl | hx
    ·obtain ⟨f1,f2,_,f3,_,f4,_⟩:=q5f u j v 8 (by simp)
     exact ⟨f1,f2,h3,h4,rfl,.inr (.inl ⟨f3,f4,c,rfl,hk2⟩)⟩
    ·refine qt9 n r _ _ hl' ?_ x hx
     have e:(decide (kd c=1)||decide (kd c=2))=false:=by rcases hk2 with h | h <;> rw [h] <;> rfl
     rw [e] at h5;exact h5
theorem gap_all {n:Int} (h1:1≤n) (h2:n≤64):gapB (gapT n)=true:=by
 unfold gapB
 rw [List.any_eq_true]
 refine ⟨(n - 1).toNat,by rw [List.mem_range];omega,?_⟩
 rw [show (((n - 1).toNat:Nat):Int) + 1=n by omega]
 simp
theorem word_ok {c:UInt8} {s:List UInt8} (h1:letB c=true) (h2:mkS false (c :: s)=true) (h3:∀ d∈s,innC d=true) (hl:(c :: s).length≤64):qt (c :: s)=true:=by
 unfold qt
 have e1:qay (c :: s)=0:=checkC_mk.2 ⟨by omega,h2⟩
 have e2:(c :: s).all (fun c=>decide (kd c≤4))=true:=by
  rw [List.all_eq_true]
  intro d hd
  rcases List.mem_cons.1 hd with rfl | hd
  ·exact decide_eq_true (inn_kd (q48 h1)).2
  ·exact decide_eq_true (inn_kd (h3 d hd)).2
 rw [e2,decide_eq_true e1,decide_eq_true hl]
 simp [h1]
theorem gap_word (n:Int):qt (gapT n)=false:=by
 unfold qt gapT
 have:letB 91=false:=by decide
 simp [this]
theorem mark_word {c:UInt8} (h:kd c=4∨kd c=5):qt [c]=false:=by
 unfold qt
 have:letB c=false:=by
  cases hl:letB c with
  | false=>rfl
  | true=>rcases (qew c).1 hl with h' | h' <;> omega
 simp [this]
def setM (x:Tok) (m:List UInt8):Tok:={ x with m:=m }
theorem Raw.ok {x:Tok} (h:Raw x) (hl:x.t.length≤64) {m:List UInt8} (hm:if wordG x.g=true then normB m=true else m=x.t):tokE (setM x m)=0∧(qt x.t=wordG x.g):=by
 have hnp:qjl x.p.1=true:=by unfold qjl;rcases h.p.2 with e | e <;> simp [e]
 have hna:qjl x.a=true:=by unfold qjl;rcases h.a with e | e <;> simp [e]
 have hp:=h.p.1
 have h0:=h.g0
 have h1:=h.g1
 unfold tokE setM textB
 simp only
 rw [if_neg (by omega)]
 rcases h.k with ⟨k1,k2,n,n1,n2,n3⟩ | ⟨k1,k2,c,c1,c2⟩ | ⟨k1,k2,c,s,c1,c2,c3,c4⟩
 ·have hw:wordG x.g=false:=by unfold wordG;rw [k1];rfl
  rw [hw] at hm ⊢
  have hm:m=x.t:=by simpa using hm
  rw [if_neg (by rw [k1,k2];decide),k1]
  simp only [if_true,hm,n3,gap_all n1 n2,decide_true,Bool.and_true]
  refine ⟨?_,gap_word n⟩
  rw [if_neg (by decide),if_neg (by omega),if_neg (by rw [hnp,hna];decide)]
 ·have hw:wordG x.g=false:=by unfold wordG;rw [k1,k2];rfl
  rw [hw] at hm ⊢
  have hm:m=x.t:=by simpa using hm
  have hmk:markB [c]=true:=by unfold markB;rcases c2 with e | e <;> simp [e]
  rw [if_neg (by rw [k1,k2];decide),k1,k2]
  simp only [Bool.false_eq_true,if_false,if_true,hm,c1,hmk,decide_true,Bool.and_true]
  refine ⟨?_,mark_word c2⟩
  rw [if_neg (by decide),if_neg (by omega),if_neg (by rw [hnp,hna];decide)]
 ·have hw:wordG x.g=true:=by unfold wordG;rw [k1,k2];rfl
  rw [hw,if_pos rfl] at hm
  rw [hw]
  have hwd:qt x.t=true:=by rw [c1] at hl ⊢;exact word_ok c2 c3 c4 hl
  rw [if_neg (by rw [k1,k2];decide),k1,k2]
  simp only [Bool.false_eq_true,if_false,hwd,hm,Bool.and_true]
  refine ⟨?_,trivial⟩
  rw [if_neg (by decide),if_neg (by omega),if_neg (by rw [hnp,hna];decide)]
theorem blk2' {w:World} {b:Nat} {v0 v1:Value} {T:TypeId} (h:Blk w b [v0,v1] T):w.cell? ((⟨b,0,none⟩:Addr).add 0)=some v0∧w.cell? ((⟨b,0,none⟩:Addr).add 1)=some v1:=by
 simp only [qg,h.cell];exact ⟨rfl,rfl⟩
end Go.Proofs
