/- The contracts of the functions that the law reaches, one after the other, and at the end the law's card. -/
import Derived.Test.YtkecgnlelgdndaaGreatDoorLawF
set_option linter.all false
set_option maxRecDepth 40000
namespace Go.Proofs
open Go Go.Sh Go.RowKit Go.Proofs.Tryz IntKind
section
variable {R:Ending→World→Prop} {w:World}
theorem ext_tw {w w1 w2:World} {b:Nat} (h:Ext w w1) (hc:Chg (fun k=>k=b) w1 w2) (hb:w.heap.size≤b):Ext w w2:=qi h hc fun k hk=>by rw [hk];exact hb
theorem q8f {rs:List Rw} (h:qcj rs=0):∀ x∈rs,x.1.length≤64∧x.2.length≤64:=fun x hx=>by
 obtain ⟨_,_,_,h4,h5⟩:=q1z (qw2 h x hx)
 omega
theorem q59 {S:Nat→Prop} {a:Option Addr} {n c:Nat} (s:List UInt8)
  (h:∀ b5 b3 w',b3=w.heap.size→b5=b3 + 1→w'.heap.size=b5 + 1→Blk w' b5 [.string ⟨⟨s⟩⟩] 9→Blk w' b3 [.slice a n c] 23→Ext w w'→R (.returned (.func (.func qa6) ⟨[]⟩ ⟨[.pointer (some ⟨b5,0,none⟩),.pointer (some ⟨b3,0,none⟩)]⟩)) w') :
  Calls prog qfz ⟨[.slice a n c,.string ⟨⟨s⟩⟩]⟩ w R:=by
 apply qnt
 refine qh fun b3 w4 hb3 B3 e4 s4=>?_
 refine qh fun b5 w6 hb5 B5 e6 s6=>?_
 exact h b5 b3 w6 hb3 (by omega) s6 B5 (B3.ext e6) (qb e4 e6)
theorem q8c {S:Nat→Prop} {a:Option Addr} {n c:Nat} (rs:List Rw) (s:List UInt8) (hln:rs.length≤64) (hr:qcj rs=0) (hs:s.length≤64) (hR:RowAt encRw S w a n rs)
  (h:∀ w',Ext w w'→R (.returned (.tuple ⟨[.string ⟨⟨(stepW rs s).getD s⟩⟩,.bool (stepW rs s).isSome]⟩)) w'):Calls prog qi1 ⟨[.slice a n c,.string ⟨⟨s⟩⟩]⟩ w R:=by
 apply qu5
 refine qh fun b3 w4 hb3 B3 e4 s4=>?_
 refine qh fun b5 w6 hb5 B5 e6 s6=>?_
 have E6:=qb e4 e6
 have B3':=B3.ext e6
 refine q59 (S:=S) s fun c5 c3 w8 hc3 hc5 hz8 C5 C3 e8=>⟨_,_,_,rfl,fun base=>?_⟩
 have E8:=qb E6 e8
 have z8:=E8.size
 have z6:=E6.size
 have D3:=B3'.ext e8
 have D5:=B5.ext e8
 have hR0:=hR.imp (S':=fun k=>S k∧k < w.heap.size) fun k hk hl=>⟨hk,hl⟩
 have hR8:=(hR0.ext E8).imp (S':=fun k=>(S k∧k < w.heap.size)∨k=c5∨k=c3) fun k hk _=>.inl hk
 rw [qnm]
 refine qgh qe5 qe4 (gf:=qa6) rfl (by kernel_rfl) (xs:=resW rs s) (E:=fun x vs=>vs=[.string ⟨⟨x⟩⟩]) (Rd:=fun k=>(S k∧k < w.heap.size)∨k=c5∨k=c3)
  (fun v1 he=>q3g rs s hln (q8f hr) hs c5 c3 v1 (fun k hk=>by have:=he.size;rcases hk with hk | hk | hk <;> omega) (C5.ext he) (C3.ext he) (hR8.ext he) (.inr (.inl rfl)) (.inr (.inr rfl))) (fun y vs hE=>by rw [hE];rfl) (by decide) (fun k hk=>by rcases hk with hk | hk | hk <;> omega) (fun k=>k=b3∨k=b5) (fun k hk=>⟨by omega,fun hh=>by rcases hh with hh | hh | hh <;> omega⟩)
  (fun pre S1 W=>pre=[]∧Blk W b3 [.string ⟨⟨[]⟩⟩] 9∧Blk W b5 [.bool false] 4∧(∀ k,S1 k↔k=b3∨k=b5)∧Ext w W)
  (fun S1 W=>∃ x,stepW rs s=some x∧Blk W b3 [.string ⟨⟨x⟩⟩] 9∧Blk W b5 [.bool true] 4∧(∀ k,S1 k↔k=b3∨k=b5)∧Ext w W) (fun _ _=>False)
  ?_ ?_ (fun _ _ _ h=>h.elim) ⟨rfl,D3,D5,fun k=>Iff.rfl,E8⟩ ?_ ?_ ?_ (fun _ _ _ _ _ _ _ h=>h.elim)
 ·rintro pre S1 W W' ⟨g0,g1,g2,g3,g4⟩ hc
  exact ⟨g0,hc.blk g1 (fun hh=>hh.2 ((g3 _).2 (.inl rfl))),hc.blk g2 (fun hh=>hh.2 ((g3 _).2 (.inr rfl))),g3,qi g4 hc fun k hk=>by omega⟩
 ·rintro S1 W W' ⟨x,g0,g1,g2,g3,g4⟩ hc
  exact ⟨x,g0,hc.blk g1 (fun hh=>hh.2 ((g3 _).2 (.inl rfl))),hc.blk g2 (fun hh=>hh.2 ((g3 _).2 (.inr rfl))),g3,qi g4 hc fun k hk=>by omega⟩
 ·rintro pre x vs S1 W l rfl hpre hl1 hl2 hl3 hS1 ⟨g0,g1,g2,g3,g4⟩
  subst g0
  refine Eq.mpr (qnk base _ _ _ _ _ _ _ _ _ _ _ _) ?_
  refine ⟨Below.refl _ _,fun W2 hU=>dr_ok ?_⟩
  have nl3:b3≠l:=fun he=>hl3 ((g3 l).2 (.inl he.symm))
  have nl5:b5≠l:=fun he=>hl3 ((g3 l).2 (.inr he.symm))
  have zU:=hU.size
  have hUc:Chg (fun k=>k=l) W W2:=⟨hU.os,hU.tape,hU.output,by omega,fun k _ hk=>hU.block k hk⟩
  have hx:stepW rs s=some x:=by
   unfold stepW
   obtain ⟨t,ht⟩:=hpre
   rw [← ht];rfl
  refine qr (hUc.blk g1 nl3) rfl fun W3 q1 c3' s3=>dr_ok ?_
  refine qr (c3'.blk (hUc.blk g2 nl5) (by omega)) rfl fun W4 q2 c4' s4'=>?_
  have E2:Ext w W2:=qi g4 hUc fun k hk=>by omega
  refine ⟨?_,fun k=>k=b3∨k=b5,fun k hk=>⟨.inl ((g3 k).2 hk),?_⟩,x,hx,c4'.blk q1 (by omega),q2,fun k=>Iff.rfl,ext_tw (ext_tw E2 c3' (by omega)) c4' (by omega)⟩
  ·exact (c3'.mono fun k _ hk=>.inl ((g3 k).2 (.inl hk))).trans (c4'.mono fun k _ hk=>.inl ((g3 k).2 (.inr hk)))
  ·have:=hS1 k ((g3 k).2 hk);omega
 ·rintro D S1 W hD1 hD2 hD3 hD4 ⟨g0,g1,g2,g3,g4⟩
  have hnone:stepW rs s=none:=by unfold stepW;rw [g0];rfl
  rw [hnone] at h
  have nl3:b3≠D:=fun he=>hD3 ((g3 D).2 (.inl he.symm))
  have nl5:b5≠D:=fun he=>hD3 ((g3 D).2 (.inr he.symm))
  refine qr g1 rfl fun W3 q1 c3' s3=>?_
  refine qr (c3'.blk g2 (by omega)) rfl fun W4 q2 c4' s4'=>?_
  have hD:W4.heap[D]? = some (.deferred (some [])):=by rw [c4'.block D (by omega) (by omega),c3'.block D hD2 (by omega)];exact hD4
  refine ⟨D,rfl,hD,?_⟩
  have cD:Chg (fun k=>k=D) W4 (W4.putObj D (.deferred none)):=Chg.put _ _ _ rfl
  have q1':=cD.blk (c4'.blk q1 (by omega)) (by omega)
  have q2':=cD.blk q2 (by omega)
  refine ⟨_,by rw [q1'.cell];rfl,_,by rw [q2'.cell];rfl,?_⟩
  exact h _ (qi (ext_tw (ext_tw g4 c3' (by omega)) c4' (by omega)) cD fun k hk=>by omega)
 ·rintro D S1 W hD1 hD2 hD3 hD4 ⟨x,g0,g1,g2,g3,g4⟩
  rw [g0] at h
  have nl3:b3≠D:=fun he=>hD3 ((g3 D).2 (.inl he.symm))
  have nl5:b5≠D:=fun he=>hD3 ((g3 D).2 (.inr he.symm))
  refine ⟨D,rfl,hD4,?_⟩
  have cD:Chg (fun k=>k=D) W (W.putObj D (.deferred none)):=Chg.put _ _ _ rfl
  refine ⟨_,by rw [(cD.blk g1 nl3).cell];rfl,_,by rw [(cD.blk g2 nl5).cell];rfl,?_⟩
  exact h _ (qi g4 cD fun k hk=>by omega)
theorem slT_strT:SlT prog 31 9 1 16 (.string ⟨⟨[]⟩⟩):=⟨by kernel_rfl,by kernel_rfl,rfl,by decide⟩
theorem trace_step {rs:List Rw} {n:Nat} {s x:List UInt8} (h:stepW rs s=some x):qe2 rs (n + 1) s=qe2 rs n x:=by
 conv=>lhs;unfold qe2
 rw [h]
theorem trace_stop {rs:List Rw} {n:Nat} {s:List UInt8} (h:stepW rs s=none):qe2 rs n s=some s:=by
 cases n <;> unfold qe2 <;> rw [h]
theorem trace_full {rs:List Rw} {s x:List UInt8} (h:stepW rs s=some x):qe2 rs 0 s=none:=by
 unfold qe2;rw [h]
theorem q55 {S:Nat→Prop} {a:Option Addr} {n c:Nat} (rs:List Rw) (s:List UInt8) (hln:rs.length≤64) (hr:qcj rs=0) (hs:s.length≤64) (hw:qap s=true) (hR:RowAt encRw S w a n rs)
  (h:∀ a' n' c' w' (L:List (List UInt8)),(∀ r,qe2 rs 4095 s=some r→RowAt Sh.encStr (fun k=>w.heap.size≤k) w' a' n' (L++[r])∧L.length≤4095)→Ext w w'→R (.returned (.tuple ⟨[.slice a' n' c',.int .i64 (if (qe2 rs 4095 s).isNone=true then 4 else 0)]⟩)) w') :
  Calls prog qh2 ⟨[.slice a n c,.string ⟨⟨s⟩⟩]⟩ w R:=by
 apply qs1
 refine qh fun b3 w4 hb3 B3 e4 s4=>?_
 refine ⟨fun oa on oc W m=>∃ (L:List (List UInt8)) (x:List UInt8),on=L.length + 1∧m=4095 - L.length∧L.length≤4095∧OwnL Sh.encStr W w.heap.size 9 oa on oc (L++[x])∧qe2 rs m x=qe2 rs 4095 s∧x.length≤64∧qap x=true∧Ext w W,
  ⟨_,[],s,rfl,rfl,by simp,?_,rfl,hs,hw,e4⟩,?_⟩
 ·have hb:Blk w4 b3 ((List.replicate 1 (Sh.encStr.enc s)).flatten) 9:=B3
  have:=OwnL.made (E:=Sh.encStr) (x:=s) (n:=1) (B:=w.heap.size) hb (by omega) (by decide)
  exact this
 rintro oa on oc W k ⟨L,x,rfl,hk,hL,hO,htr,hx,hwx,he⟩ _
 have zW:=he.size
 have hg:(L++[x])[L.length]? = some x:=by simp
 obtain ⟨bb,o,hq,_,_,hc⟩:=hO.out.get hg
 have ei:i64.wrap (((L.length + 1:Nat):Int) - 1)=(L.length:Int):=by rw [qu (by omega)];omega
 rw [ei]
 refine hq _ ⟨x,hc 0 _ rfl,?_⟩
 refine q8c rs x hln hr hx (hR.ext he) fun w13 e13=>⟨_,_,rfl,?_⟩
 have E13:=qb he e13
 have hO13:=hO.ext e13
 cases hst:stepW rs x with
 | none =>
  simp only [Option.isSome_none,Bool.not_false,br_t]
  have ht:=trace_stop (n:=k) hst
  rw [htr] at ht
  rw [ht] at h
  refine h oa _ oc w13 L (fun r hr'=>?_) E13
  rw [← Option.some.inj hr']
  exact ⟨(OwnL.out hO13).imp fun k hk _=>(Owns.bk hO13 hk).1,hL⟩
 | some y =>
  simp only [Option.isSome_some,Bool.not_true,br_f,Option.getD_some]
  refine qd (fun g=>?_) (fun g=>?_)
  ·have hk0:k=0:=by omega
   subst hk0
   rw [trace_full hst] at htr
   rw [← htr] at h
   exact h none 0 0 w13 [] (fun r hr'=>by cases hr') E13
  ·obtain ⟨q1,q2,q3⟩:=step_word hr hwx (List.mem_of_head? (show (resW rs x).head? = some y from hst))
   refine qh fun b16 w17 hb16 B16 e17 s17=>?_
   have z13:=E13.size
   have B16':Blk w17 b16 (Sh.encStr.enc y) 9:=B16
   refine OwnL.app1 (P:=prog) slT_strT (hO13.ext e17) (by omega) B16' (by omega) (by omega) fun a' c'' w19 ho hcg hn=>?_
   have z17:=e17.size
   refine ⟨k - 1,by omega,L++[x],y,by simp,by simp;omega,by simp;omega,?_,?_,by omega,q1,?_⟩
   ·exact ho
   ·rw [← htr,show k=(k - 1) + 1 by omega,trace_step hst,Nat.add_sub_cancel]
   ·exact qi (qb E13 e17) hcg fun k hk=>(hO13.bk hk).1
theorem rwE_eq (rs:List Rw) (s:List UInt8):rwE rs s=if chkE rs s≠0 then chkE rs s else if (qe2 rs 4095 s).isNone=true then 4 else 0:=by
 unfold rwE chkE
 by_cases h1:ruleE rs≠0
 ·rw [if_pos h1,if_pos h1];rfl
 ·rw [if_neg h1,if_neg h1]
  by_cases h2:64 < s.length
  ·rw [if_pos h2,if_pos h2];rfl
  ·rw [if_neg h2,if_neg h2]
   by_cases h3:qap s=false
   ·rw [if_pos h3,if_pos h3];rfl
   ·rw [if_neg h3,if_neg h3];rfl
theorem chk_zero {rs:List Rw} {s:List UInt8} (h:chkE rs s=0):rs.length≤64∧qcj rs=0∧s.length≤64∧qap s=true:=by
 unfold chkE at h
 split at h
 ·cases h
 split at h
 ·cases h
 split at h
 ·cases h
 rename_i h1 h2 h3
 have h1:ruleE rs=0:=Decidable.not_not.1 h1
 unfold ruleE at h1
 split at h1
 ·cases h1
 ·exact ⟨by omega,h1,by omega,by simpa using h3⟩
theorem q8d {S:Nat→Prop} {a:Option Addr} {n c:Nat} (rs:List Rw) (s:List UInt8) (hsm:qwh rs) (hR:RowAt encRw S w a n rs)
  (h:∀ w',Ext w w'→R (.returned (.tuple ⟨[.string ⟨⟨rwR rs s⟩⟩,.int .i64 (rwE rs s)]⟩)) w'):Calls prog qev ⟨[.slice a n c,.string ⟨⟨s⟩⟩]⟩ w R:=by
 apply qkh
 apply qs4
 refine q56 rs s hsm hR fun w4 e4=>⟨_,rfl,?_⟩
 have hE:=rwE_eq rs s
 refine qd (fun g=>⟨_,_,_,_,rfl,qd (fun _=>?_) (fun hh=>absurd g hh)⟩) (fun g=>?_)
 ·rw [if_pos g] at hE
  have hr:rwR rs s=[]:=by unfold rwR;rw [hE,if_pos g]
  rw [hr,hE] at h
  exact h w4 e4
 ·have g0:chkE rs s=0:=Decidable.not_not.1 g
  rw [if_neg g] at hE
  obtain ⟨q1,q2,q3,q4⟩:=chk_zero g0
  refine q55 rs s q1 q2 q3 q4 (hR.ext e4) fun a' n' c' w' L hL e'=>⟨_,_,_,_,rfl,_,_,_,_,rfl,?_⟩
  rw [← hE]
  cases ht:qe2 rs 4095 s with
  | none =>
   rw [ht] at hE
   have hE:rwE rs s=4:=hE
   have hr:rwR rs s=[]:=by unfold rwR;rw [hE];rfl
   rw [hr,hE] at h
   rw [hE]
   exact qd (fun _=>h w' (qb e4 e')) (fun hh=>absurd (by decide) hh)
  | some r =>
   rw [ht] at hE
   have hE:rwE rs s=0:=hE
   have hr:rwR rs s=r:=by unfold rwR;rw [hE,ht];rfl
   rw [hr,hE] at h
   rw [hE]
   refine qd (fun hh=>absurd rfl hh) (fun _=>?_)
   obtain ⟨hrow,hL5⟩:=hL r ht
   have hg:(L++[r])[L.length]? = some r:=by simp
   obtain ⟨bb,o,hq,_,_,hc⟩:=hrow.get hg
   have hn:=hrow.1
   have hsz:n'=L.length + 1:=by rw [hn];simp
   subst hsz
   have ei:i64.wrap (((L.length + 1:Nat):Int) - 1)=(L.length:Int):=by rw [qu (by omega)];omega
   rw [ei]
   exact hq _ ⟨r,hc 0 _ rfl,h w' (qb e4 e')⟩
end
theorem bitA_facts {g:Int} (h0:0≤g) (h1:g≤31):decide (bitA .i64 g 10=0)=wordG g∧decide (bitA .i64 g 2≠0)=hasG g 2∧decide (bitA .i64 g 8≠0)=hasG g 8∧decide (bitA .i64 g 16=0)=!hasG g 16:=by
 have key:∀ n:Fin 32,decide (bitA .i64 (n.val:Int) 10=0)=wordG (n.val:Int)∧decide (bitA .i64 (n.val:Int) 2≠0)=hasG (n.val:Int) 2∧decide (bitA .i64 (n.val:Int) 8≠0)=hasG (n.val:Int) 8∧decide (bitA .i64 (n.val:Int) 16=0)=!hasG (n.val:Int) 16:=by decide +kernel
 have:=key ⟨g.toNat,by omega⟩
 have e:((g.toNat:Nat):Int)=g:=by omega
 simp only [e] at this
 exact this
theorem blk6' {w:World} {b:Nat} {v0 v1 v2 v3 v4 v5:Value} {T:TypeId} (h:Blk w b [v0,v1,v2,v3,v4,v5] T) :
  w.cell? ((⟨b,0,none⟩:Addr).add 0)=some v0∧w.cell? ((⟨b,0,none⟩:Addr).add 1)=some v1∧w.cell? ((⟨b,0,none⟩:Addr).add 2)=some v2∧w.cell? ((⟨b,0,none⟩:Addr).add 3)=some v3∧w.cell? ((⟨b,0,none⟩:Addr).add 4)=some v4∧w.cell? ((⟨b,0,none⟩:Addr).add 5)=some v5:=by
 simp only [qg,h.cell];exact ⟨rfl,rfl,rfl,rfl,rfl,rfl⟩
abbrev aggT (x:Tok):Value:=.agg ⟨[.string ⟨⟨x.t⟩⟩,.string ⟨⟨x.m⟩⟩,.string ⟨⟨x.p.1⟩⟩,.int .i64 x.p.2,.int .i64 x.g,.string ⟨⟨x.a⟩⟩]⟩
section
variable {R:Ending→World→Prop} {w:World}
theorem q6q (x:Tok) (h0:0≤x.g) (h1:x.g≤31) (h:∀ w',Ext w w'→R (.returned (.bool (wordG x.g))) w'):Calls prog qgp ⟨[aggT x]⟩ w R:=by
 apply qp8
 refine qh fun b w8 hb B8 e8 s8=>⟨_,(blk6' B8).2.2.2.2.1,?_⟩
 rw [(bitA_facts h0 h1).1]
 exact h w8 e8
theorem named_spec (s:List UInt8) (h:R (.returned (.bool (qit s))) w):Calls prog qhy ⟨[.string ⟨⟨s⟩⟩]⟩ w R:=by
 apply qsy
 unfold qit at h
 refine qd (fun g=>?_) (fun g=>qea s ⟨_,rfl,?_⟩)
 ·rw [decide_eq_true g] at h;exact h
 ·rw [decide_eq_false g] at h;exact h
theorem qpf (rs:List Rw):∀ (l:List Tok) (x:Tok),nrmE rs l=0→nrmE rs (l++[x])=if wordG x.g=true∧rwE rs x.t≠0 then rwE rs x.t else 0
 | [],x,_=>by simp only [List.nil_append,nrmE]
 | y :: l,x,h=>by
  rw [nrmE] at h
  split at h
  ·rename_i hh;exact absurd h hh.2
  ·rename_i hh
   rw [List.cons_append,nrmE,if_neg hh,qpf rs l x h]
theorem nrmE_app (rs:List Rw):∀ (l m:List Tok),nrmE rs l≠0→nrmE rs (l++m)=nrmE rs l
 | [],m,h=>absurd rfl h
 | y :: l,m,h=>by
  rw [nrmE] at h
  rw [List.cons_append,nrmE,nrmE]
  split
  ·rfl
  ·rename_i hh
   rw [if_neg hh] at h
   exact nrmE_app rs l m h
theorem qxf {S:Nat→Prop} {B:Nat} {a0:Option Addr} {n0 c0:Nat} {a:Option Addr} {n c:Nat} (rs:List Rw) (l:List Tok) (hsm:qwh rs) (hR:RowAt encRw S w a0 n0 rs) (hO:OwnL encTk w B 69 a n c l) (hd:∀ k,S k→¬ bk a k) (hg:∀ x∈l,0≤x.g∧x.g≤31) (hn:n≤1000000000)
  (h:∀ w',Chg (bk a) w w'→(nrmE rs l=0→OwnL encTk w' B 69 a n c (l.map (nrmT rs)))→R (.returned (.tuple ⟨[if nrmE rs l=0 then .slice a n c else .slice none 0 0,.int .i64 (nrmE rs l)]⟩)) w') :
  Calls prog qd6 ⟨[.slice a0 n0 c0,.slice a n c]⟩ w R:=by
 apply qjb
 have hln:=OwnL.length hO
 refine ⟨fun i W m=>∃ k:Nat,i=k∧k≤n∧m=n - k∧Chg (bk a) w W∧OwnL encTk W B 69 a n c ((l.take k).map (nrmT rs)++l.drop k)∧nrmE rs (l.take k)=0,⟨_,0,rfl,by omega,rfl,Chg.refl _ _,by simpa using hO,rfl⟩,?_⟩
 rintro _ W m ⟨k,rfl,hk,rfl,hcW,hOW,hz⟩ _
 refine qd (fun hlt=>?_) (fun hge=>?_)
 ·have hkl:k < l.length:=by omega
  have hget:∀ y:Tok,((l.take k).map (nrmT rs)++y :: l.drop (k + 1))[k]? = some y:=fun y=>by
   rw [List.getElem?_append_right (by simp;omega)];simp [Nat.min_eq_left (by omega:k≤l.length)]
  have hset:∀ y z:Tok,((l.take k).map (nrmT rs)++y :: l.drop (k + 1)).set k z=(l.take k).map (nrmT rs)++z :: l.drop (k + 1):=fun y z=>by
   rw [List.set_append_right _ _ (by simp;omega)];simp [Nat.min_eq_left (by omega:k≤l.length)]
  have hdr:l.drop k=l[k] :: l.drop (k + 1):=List.drop_eq_getElem_cons hkl
  rw [hdr] at hOW
  have htk:l.take (k + 1)=l.take k++[l[k]]:=List.take_succ_eq_append_getElem hkl
  obtain ⟨hg0,hg1⟩:=hg l[k] (List.getElem_mem hkl)
  generalize hx:l[k]=x at *
  obtain ⟨g,ha,hq,hc,hst⟩:=OwnL.storeCell hOW (hget x)
  refine hq _ ⟨x.t,by rw [qg];exact hc 0 _ rfl,hq _ ?_⟩
  rw [qg]
  refine hst 1 _ (setM x x.t) _ (by decide) rfl rfl fun w11 ho11 c11 s11=>?_
  rw [hset] at ho11
  obtain ⟨g',ha',hq',hc',hst'⟩:=OwnL.storeCell ho11 (hget (setM x x.t))
  have hgg:g'=g:=by rw [ha] at ha';simpa using ha'.symm
  subst hgg
  have hcw11:=hcW.trans c11
  refine hq' _ ⟨_,by rw [qg];exact hc' 0 _ rfl,_,by rw [qg];exact hc' 1 _ rfl,_,by rw [qg];exact hc' 2 _ rfl,_,by rw [qg];exact hc' 3 _ rfl,_,by rw [qg];exact hc' 4 _ rfl,_,by rw [qg];exact hc' 5 _ rfl,?_⟩
  refine q6q (setM x x.t) hg0 hg1 fun w20 e20=>⟨_,rfl,?_⟩
  have ho20:=Owns.ext ho11 e20
  have hcw20:=hcw11.trans (.of_ext e20)
  have hw:(setM x x.t).g=x.g:=rfl
  rw [hw]
  cases hwg:wordG x.g with
  | false =>
   simp only [Bool.not_false,br_t]
   have hnx:nrmT rs x=setM x x.t:=by unfold nrmT;rw [hwg];rfl
   refine ⟨n - (k + 1),by omega,k + 1,by rw [qj (by omega)],by omega,rfl,hcw20,?_,?_⟩
   ·rw [htk,List.map_append,List.map_singleton,hnx,List.append_assoc];exact ho20
   ·rw [htk,qpf rs _ _ hz,if_neg (fun hh=>by rw [hwg] at hh;cases hh.1)]
  | true =>
   simp only [Bool.not_true,br_f]
   obtain ⟨g2,ha2,hq2,hc2,hst2⟩:=OwnL.storeCell ho20 (hget (setM x x.t))
   have hgg:g2=g':=by rw [ha'] at ha2;simpa using ha2.symm
   subst hgg
   refine hq2 _ ⟨_,by rw [qg];exact hc2 0 _ rfl,?_⟩
   have hR20:RowAt encRw S w20 a0 n0 rs:=hR.chg hcw20 hd
   refine q8d rs x.t hsm hR20 fun w26 e26=>⟨_,_,rfl,?_⟩
   have hcw26:=hcw20.trans (.of_ext e26)
   have ho26:=Owns.ext ho20 e26
   refine qd (fun g3=>?_) (fun g3=>?_)
   ·have he:nrmE rs l=rwE rs x.t:=by
     have h1:nrmE rs (l.take (k + 1))=rwE rs x.t:=by rw [htk,qpf rs _ _ hz,if_pos ⟨hwg,g3⟩]
     have h2:=nrmE_app rs (l.take (k + 1)) (l.drop (k + 1)) (by rw [h1];exact g3)
     rw [List.take_append_drop] at h2
     rw [h2,h1]
    rw [he] at h
    have:=h w26 hcw26 (fun hh=>absurd hh g3)
    rw [if_neg g3] at this
    exact this
   ·obtain ⟨g4,ha4,hq4,hc4,hst4⟩:=OwnL.storeCell ho26 (hget (setM x x.t))
    have hgg:g4=g2:=by rw [ha2] at ha4;simpa using ha4.symm
    subst hgg
    refine hq4 _ ?_
    rw [qg]
    refine hst4 1 _ (setM x (rwR rs x.t)) _ (by decide) rfl rfl fun w30 ho30 c30 s30=>?_
    rw [hset] at ho30
    have hnx:nrmT rs x=setM x (rwR rs x.t):=by unfold nrmT;rw [hwg];rfl
    refine ⟨n - (k + 1),by omega,k + 1,by rw [qj (by omega)],by omega,rfl,hcw26.trans c30,?_,?_⟩
    ·rw [htk,List.map_append,List.map_singleton,hnx,List.append_assoc];exact ho30
    ·rw [htk,qpf rs _ _ hz,if_neg (fun hh=>hh.2 (Decidable.not_not.1 g3))]
 ·have hkn:k=n:=by omega
  subst hkn
  rw [List.take_of_length_le (by omega)] at hz hOW
  rw [List.drop_eq_nil_of_le (by omega),List.append_nil] at hOW
  rw [hz] at h
  exact h W hcW fun _=>hOW
theorem q1q {S:Nat→Prop} {a:Option Addr} {n c:Nat} (l:List Tok) (q:Tok→Bool) (fn:FuncId) (hok:okFn prog fn=true) (hp:∀ {R:Ending→World→Prop} {v:World} (x:Tok),x∈l→(∀ v',Ext v v'→R (.returned (.bool (q x))) v')→Calls prog fn ⟨[aggT x]⟩ v R)
  (hR:RowAt encTk S w a n l) (hn:n≤4611686018427387904) (h:∀ w',Ext w w'→R (.returned (.bool (l.any q))) w'):Calls prog qah ⟨[.slice a n c,.func (.func fn) #[] #[]]⟩ w R:=by
 apply qbj
 apply qb0
 have hln:=hR.1
 refine ⟨fun i W m=>∃ k:Nat,i=k∧k≤n∧m=n - k∧Ext w W∧(l.take k).any q=false,⟨_,0,rfl,by omega,rfl,Below.refl _ _,rfl⟩,?_⟩
 rintro _ W m ⟨k,rfl,hk,rfl,he,hz⟩ _
 refine qd (fun hlt=>?_) (fun hge=>?_)
 ·have hkl:k < l.length:=by omega
  obtain ⟨bb,o,hq,_,_,hc⟩:=(hR.ext he).get (show l[k]? = some l[k] by simp [hkl])
  refine hq _ ⟨_,by rw [qg];exact hc 0 _ rfl,_,by rw [qg];exact hc 1 _ rfl,_,by rw [qg];exact hc 2 _ rfl,_,by rw [qg];exact hc 3 _ rfl,_,by rw [qg];exact hc 4 _ rfl,_,by rw [qg];exact hc 5 _ rfl,hok,?_⟩
  refine hp l[k] (List.getElem_mem hkl) fun w16 e16=>⟨_,rfl,ql (fun g=>?_) (fun g=>?_)⟩
  ·refine ⟨_,rfl,?_⟩
   have:l.any q=true:=List.any_eq_true.2 ⟨l[k],List.getElem_mem hkl,g⟩
   rw [decide_eq_true (show (0:Int)≤(k:Int) by omega),← this]
   exact h w16 (qb he e16)
  ·refine ⟨n - (k + 1),by omega,k + 1,by rw [qj (by omega)],by omega,rfl,qb he e16,?_⟩
   rw [List.take_succ_eq_append_getElem hkl,List.any_append,hz];simp [g]
 ·rw [List.take_of_length_le (by omega)] at hz
  rw [hz] at h
  exact ⟨_,rfl,h W he⟩
end
theorem Owns.weak {w:World} {B B':Nat} {e:TypeId} {size:Nat} {a:Option Addr} {n c:Nat} {xs:List Value} (h:Owns w B e size a n c xs) (hB:B'≤B):Owns w B' e size a n c xs:=by
 refine ⟨h.1,?_⟩
 rcases h.2 with h | ⟨g,cap,cur,e1,e2,e3⟩
 ·exact .inl h
 ·exact .inr ⟨g,cap,cur,e1,Nat.le_trans hB e2,e3⟩
theorem amN_len (p:Ps) (k t n ps) (u:Bool) (nm:List UInt8):(amN p ⟨⟨k,t,n,ps⟩,u,nm⟩).length≤t.length + 1:=by
 unfold amN
 split
 ·unfold amT;rw [List.length_map];exact Nat.le_succ _
 ·split
  ·simp
  ·split <;> simp
theorem q9i:∀ (f:Fo) (p:Ps) (u:Bool) (nm:List UInt8),(amsF p f u nm).length≤tlen f + f.size
 | .nil,_,_,_=>Nat.zero_le _
 | .cons k t n ps r,p,u,nm=>by
  have h1:=amN_len p k t n ps u nm
  have h2:=q9i ps (posN p ⟨k,t,n,ps⟩).1 (u||decide (k=7)) (if k=11 then t else nm)
  have h3:=q9i r (endL (posN p ⟨k,t,n,ps⟩).1 (qo ps)) u nm
  rw [qyz,List.length_append,List.length_append]
  simp only [tlen,Fo.size]
  omega
theorem addB_len (st:Bs) (x:Am):(lstB (addB st x)).length≤(lstB st).length + 1∧(wrdB (addB st x)).length≤(wrdB st).length + 1:=by
 have hsh:=qf7 st
 cases x with
 | ch c p u nm =>
  obtain ⟨out,cur,j,v⟩:=st
  have key:∀ st':Bs,(st'=(if letB c=true then ⟨shut ⟨out,cur,j,v⟩,some (⟨[],[],p,flI u j v 0,nm⟩,[c]),true,false⟩ else if kd c=6 then ⟨shut ⟨out,cur,j,v⟩,none,false,v⟩ else ⟨shut ⟨out,cur,j,v⟩++[⟨[c],[],p,flI u j v 8,nm⟩],none,true,false⟩:Bs)) →
    (lstB st').length≤(lstB ⟨out,cur,j,v⟩).length + 1∧(wrdB st').length≤(wrdB ⟨out,cur,j,v⟩).length + 1:=by
   intro st' he
   subst he
   split
   ·simp [lstB,wrdB];simp [lstB] at hsh;omega
   ·split
    ·simp [lstB,wrdB];simp [lstB] at hsh;omega
    ·simp [lstB,wrdB];simp [lstB] at hsh;omega
  cases cur with
  | none=>exact key _ rfl
  | some ts =>
   cases hi:innC c with
   | true=>simp [addB,hi,lstB,wrdB]
   | false=>exact key _ (by simp only [addB,hi])
 | gap n p u nm =>
  simp only [addB,lstB,wrdB,List.length_append,List.length_singleton,List.length_nil]
  rw [hsh]
  exact ⟨Nat.le_refl _,Nat.zero_le _⟩
 | brk x =>
  simp only [addB,lstB,wrdB,List.length_nil]
  rw [hsh]
  exact ⟨Nat.le_succ _,Nat.zero_le _⟩
theorem q3x:∀ (l:List Am) (st:Bs),(lstB (l.foldl addB st)).length≤(lstB st).length + l.length∧(wrdB (l.foldl addB st)).length≤(wrdB st).length + l.length
 | [],st=>⟨Nat.le_refl _,Nat.le_refl _⟩
 | x :: l,st=>by
  have h1:=addB_len st x
  have h2:=q3x l (addB st x)
  rw [List.foldl_cons,List.length_cons]
  omega
theorem fl_bd (u j v:Bool) (base:Int) (hb:base=0∨base=2∨base=8):0≤flI u j v base∧flI u j v base≤31:=by
 obtain ⟨h1,h2,_⟩:=q3y u j v base hb
 exact ⟨h1,h2⟩
theorem StOk.add {st:Bs} (h:StOk st) (x:Am):StOk (addB st x):=by
 cases x with
 | ch c p u nm =>
  obtain ⟨out,cur,j,v⟩:=st
  have key:∀ st':Bs,(st'=(if letB c=true then ⟨shut ⟨out,cur,j,v⟩,some (⟨[],[],p,flI u j v 0,nm⟩,[c]),true,false⟩ else if kd c=6 then ⟨shut ⟨out,cur,j,v⟩,none,false,v⟩ else ⟨shut ⟨out,cur,j,v⟩++[⟨[c],[],p,flI u j v 8,nm⟩],none,true,false⟩:Bs))→StOk st':=by
   intro st' he
   subst he
   split
   ·refine ⟨fun t s hh=>?_,fun _=>by simp [lstB]⟩
    obtain ⟨rfl,rfl⟩:=Prod.mk.inj (Option.some.inj hh)
    have:=fl_bd u j v 0 (by simp)
    exact ⟨by simp,rfl,this.1,this.2⟩
   ·split
    ·exact ⟨fun t s hh=>(by cases hh),fun hh=>(by cases hh)⟩
    ·exact ⟨fun t s hh=>(by cases hh),fun _=>by simp [lstB]⟩
  cases cur with
  | none=>exact key _ rfl
  | some ts =>
   obtain ⟨t,s⟩:=ts
   cases hi:innC c with
   | true =>
    obtain ⟨h1,h2,h3,h4⟩:=h.cur t s rfl
    have e:addB ⟨out,some (t,s),j,v⟩ (.ch c p u nm)=⟨out,some ({ t with g:=orU t.g u },s++[c]),j,v⟩:=by simp only [addB,hi]
    rw [e]
    refine ⟨fun t' s' hh=>?_,fun _=>by simp [lstB]⟩
    obtain ⟨rfl,rfl⟩:=Prod.mk.inj (Option.some.inj hh)
    refine ⟨by simp,h2,?_,?_⟩
    ·show 0≤orU t.g u
     unfold orU;split <;> omega
    ·show orU t.g u≤31
     unfold orU;split <;> omega
   | false=>exact key _ (by simp only [addB,hi])
 | gap n p u nm=>exact ⟨fun t s hh=>(by cases hh),fun _=>by simp [addB,lstB]⟩
 | brk x=>exact ⟨fun t s hh=>(by cases hh),fun hh=>(by cases hh)⟩
theorem StOk.fold:∀ (l:List Am) {st:Bs},StOk st→StOk (l.foldl addB st)
 | [],_,h=>h
 | x :: l,_,h=>StOk.fold l (h.add x)
theorem ok0:StOk bs0:=⟨fun t s hh=>(by cases hh),fun hh=>(by cases hh)⟩
theorem q3n:∀ {l:List Am} {b:Bool},okA b l→∀ n p u nm,.gap n p u nm∈l→1≤n∧n≤64
 | [],_,_,_,_,_,_,h=>by cases h
 | .ch c p _ nm :: r,b,⟨_,_,_,_,h5⟩,n,q,u,m,h=>by
  rcases List.mem_cons.1 h with hh | hh
  ·cases hh
  ·exact q3n h5 n q u m hh
 | .gap k p _ nm :: r,_,⟨h1,_,_,h4⟩,n,q,u,m,h=>by
  rcases List.mem_cons.1 h with hh | hh
  ·cases hh;exact h1
  ·exact q3n h4 n q u m hh
 | .brk _ :: r,_,h1,n,q,u,m,h=>by
  rcases List.mem_cons.1 h with hh | hh
  ·cases hh
  ·exact q3n (l:=r) h1 n q u m hh
theorem qv4 (k:Int) (f:Fo):cntF k f≤f.size:=by
 unfold cntF ofK
 have:=List.length_filter_le (fun x:Nn=>decide (x.k=k)) (qo f)
 rw [qhf] at this
 exact this
section
variable {R:Ending→World→Prop} {w:World}
theorem q7i (x:Tok) (h:∀ w',Ext w w'→R (.returned (.bool (decide (64 < x.t.length)))) w'):Calls prog qcg ⟨[aggT x]⟩ w R:=by
 apply qlr
 refine qh fun b w8 hb B8 e8 s8=>⟨_,(blk6' B8).1,?_⟩
 have:decide ((64:Int) < (x.t.length:Int))=decide (64 < x.t.length):=decide_eq_decide.2 (by omega)
 rw [this]
 exact h w8 e8
theorem q9d {b:Nat} (hb:Blk w b (qnv none 0 0 (.pointer none) none 0 0 false false false) 118):BsSt w b bs0 (fun k=>k=b) :=
 ⟨none,none,.pointer none,0,0,⟨hb,.inl rfl,Owns.nil _ _ _ _,Owns.nil _ _ _ _⟩,fun k=>by simp [bk]⟩
theorem q9j {S S2:Nat→Prop} {a a2:Option Addr} {n c n2 c2:Nat} (p:Ps) (f:Fo) (rs:List Rw) (hs:small f) (hF:Forms w) (hf:SlF S w a n f) (hsm:qwh rs) (hR:RowAt encRw S2 w a2 n2 rs)
  (h:∀ a' n' c' w',n'=(tksR p f rs).length→OwnL encTk w' w.heap.size 69 a' n' c' (tksR p f rs)→Ext w w'→R (.returned (.tuple ⟨[.slice a' n' c',.int .i64 (tksE p f rs)]⟩)) w') :
  Calls prog qgr ⟨[.agg ⟨[.string ⟨⟨p.1⟩⟩,.int .i64 p.2]⟩,.slice a n c,.slice a2 n2 c2]⟩ w R:=by
 apply qqa
 refine qh fun b5 w6 hb5 B5 e6 s6=>?_
 have bad:∀ (e:Int) (v:World),e≠0→tksE p f rs=e→Ext w v→R (.returned (.tuple ⟨[.slice none 0 0,.int .i64 e]⟩)) v:=by
  intro e v he h0 hv
  have hr:tksR p f rs=[]:=by unfold tksR;rw [h0,if_pos he]
  rw [hr,h0] at h
  exact h none 0 0 v rfl (Owns.nil _ _ _ _) hv
 intro K7 hK7
 have k7:∀ w10,qak f=0→ruleE rs=0→Ext w6 w10→K7 none 0 0 0 w10:=by
  intro w10 hck hru e10
  refine hK7 _ _ _ _ _ fun _=>?_
  obtain ⟨q1,q2,q3⟩:=qcz hck
  have hok:okF false f:=by
   unfold qak at hck
   split at hck
   ·split at hck
    ·rename_i hh;exact absurd hck hh
    ·rename_i hh;exact ((qq0 f false false).1 (Decidable.not_not.1 hh)).1
   ·cases hck
  have E10:=qb e6 e10
  have n1:¬ (qak f≠0∨ruleE rs≠0):=by rw [hck,hru];simp
  intro K11 hK11
  have k11:¬ (p.2 < 0∨4096 < p.2)→K11 none 0 0 0 w10:=by
   intro n2'
   refine hK11 _ _ _ _ _ fun _=>?_
   obtain ⟨d0,d1⟩:=blk2' (B5.ext e10)
   refine ⟨_,d0,named_spec _ ⟨_,rfl,ql (fun g=>?_) (fun g=>?_)⟩⟩
   ·refine bad 14 w10 (by decide) ?_ E10
    unfold tksE;rw [if_neg n1,if_neg n2',if_pos (by simpa using g)]
   have n3:¬ qit p.1=false:=by simpa using g
   have hc8:=qv4 8 f
   have hc9:=qv4 9 f
   have co:∀ k:Int,1≤k→k≤11→couE k f=0∧couR k f=cntF k f:=fun k h1 h2=>by
    have he:couE k f=0:=by unfold couE;rw [if_neg (by rw [hck];simp),if_neg (by omega)]
    exact ⟨he,by unfold couR;rw [he];rfl⟩
   refine qze 8 f hs (hF.ext E10) (hf.ext E10) fun w20 e20=>⟨_,_,rfl,?_⟩
   have E20:=qb E10 e20
   refine qze 9 f hs (hF.ext E20) (hf.ext E20) fun w24 e24=>⟨_,_,rfl,?_⟩
   have E24:=qb E20 e24
   rw [(co 8 (by decide) (by decide)).2,(co 9 (by decide) (by decide)).2,qu (by omega)]
   refine qd (fun g4=>?_) (fun g4=>?_)
   ·refine bad 13 w24 (by decide) ?_ E24
    unfold tksE;rw [if_neg n1,if_neg n2',if_neg n3,if_pos (by omega)]
   have n4:¬ cntF 8 f + cntF 9 f≠0:=by omega
   have hE:tksE p f rs=if longT (cutT p f)=true then 4 else nrmE rs (cutT p f):=by unfold tksE;rw [if_neg n1,if_neg n2',if_neg n3,if_neg n4]
   refine qh fun b27 w28 hb27 B27 e28 s28=>?_
   have E28:=qb E24 e28
   obtain ⟨f0,f1⟩:=blk2' (((B5.ext e10).ext (qb e20 e24)).ext e28)
   refine ⟨_,f0,_,f1,?_⟩
   refine atoms_spec p fun b1 b2 w32 hb1 hb2 hz32 C1 C2 e32=>⟨_,_,_,rfl,fun base=>?_⟩
   have E32:=qb E28 e32
   have z28:=E28.size
   have z24:=E24.size
   have z32:=E32.size
   have hlenA:=q9i f p false []
   have hlA:(amsF p f false []).length≤268439552:=by omega
   have hplo:plOk p:=⟨by omega,by
    have:qit p.1=true:=by simpa using n3
    unfold qit at this
    rw [Bool.or_eq_true,decide_eq_true_eq] at this
    exact this⟩
   have hgapA:=q3n (q3o (u:=false) (nm:=[]) hok hplo (.inl rfl))
   rw [qkd]
   have hf32:SlF (fun k=>(S k∧k < w.heap.size)∨k=b1∨k=b2) w32 a n f:=(((hf.imp (S':=fun k=>S k∧k < w.heap.size) fun k hk hl=>⟨hk,hl⟩).ext E32).imp fun k hk _=>.inl hk)
   refine qgh qd5 qd1 (gf:=qbr) rfl (by kernel_rfl) (xs:=amsF p f false []) (E:=AmV) (Rd:=fun k=>(S k∧k < w.heap.size)∨k=b1∨k=b2)
    (fun v1 he=>q9g f p (by omega) hok (by omega) (by omega) b1 b2 v1 (fun k hk=>by have:=he.size;rcases hk with hk | hk | hk <;> omega) (C1.ext he) (C2.ext he) (hf32.ext he)) (fun y vs hE=>by obtain ⟨cs,rfl,_⟩:=hE;rfl) (by decide) (fun k hk=>by rcases hk with hk | hk | hk <;> omega)
    (fun k=>k=b27) (fun k hk=>⟨by omega,fun hh=>by rcases hh with hh | hh | hh <;> omega⟩)
    (fun pre S1 W=>BsSt W b27 (pre.foldl addB bs0) S1∧Ext w W) (fun _ _=>False) (fun _ _=>False)
    ?_ (fun _ _ _ h=>h.elim) (fun _ _ _ h=>h.elim) ⟨(q9d B27).ext e32,E32⟩ ?_ ?_ (fun _ _ _ _ _ _ _ h=>h.elim) (fun _ _ _ _ _ _ _ h=>h.elim)
   ·rintro pre S1 W W' ⟨g1,g2⟩ hc
    exact ⟨g1.chg hc fun k hk hh=>hh.2 hk,qi g2 hc fun k hk=>by omega⟩
   ·rintro pre x vs S1 W l ⟨cs,rfl,hA⟩ hpre hl1 hl2 hl3 hS1 ⟨g1,g2⟩
    obtain ⟨k1,c1,m1,p1,l1,u1,nm1,rfl⟩:∃ (k1 c1 m1:Int) (p1:List UInt8) (l1:Int) (u1:Bool) (nm1:List UInt8),cs=[.int .i64 k1,.int .u8 c1,.int .i64 m1,.string ⟨⟨p1⟩⟩,.int .i64 l1,.bool u1,.string ⟨⟨nm1⟩⟩]:=by
     cases x with
     | ch c q u m=>obtain ⟨z,rfl⟩:=hA;exact ⟨_,_,_,_,_,_,_,rfl⟩
     | gap z q u m=>obtain ⟨c,rfl⟩:=hA;exact ⟨_,_,_,_,_,_,_,rfl⟩
     | brk v=>obtain ⟨c,z,q,u,m,rfl⟩:=hA;exact ⟨_,_,_,_,_,_,_,rfl⟩
    refine Eq.mpr (qj6 base _ _ _ _ _ _ _ _ _ _ _ _ _ _ _ _ _ _ _ _ _ _ _) ?_
    refine qw (by simp) (by intro u hu;simp only [List.mem_cons,List.not_mem_nil,or_false] at hu;rcases hu with rfl | rfl | rfl | rfl | rfl | rfl | rfl <;> rfl) fun bp W1 hbp Bp ep sp=>⟨ep,fun W2 hU=>?_⟩
    have zU:=hU.size
    have zp:=ep.size
    have hUc:Chg (fun k=>k=l) W1 W2:=⟨hU.os,hU.tape,hU.output,by omega,fun k _ hk=>hU.block k hk⟩
    obtain ⟨y0,y1,y2,y3,y4,y5,y6⟩:=blk7 (hUc.blk Bp (by omega))
    refine ⟨_,y0,_,y1,_,y2,_,y3,_,y4,_,y5,_,y6,?_⟩
    have g1':=(g1.ext ep).chg hUc fun k hk hh=>hl3 (hh ▸ hk)
    have g2':Ext w W2:=qi (qb g2 ep) hUc fun k hk=>by omega
    have hfl:=q3x pre bs0
    have hpl:pre.length + 1≤(amsF p f false []).length:=by have:=hpre.length_le;simpa using this
    have hb0:(lstB bs0).length=0:=rfl
    have hb1:(wrdB bs0).length=0:=rfl
    refine tkadd_spec x hA g1' (StOk.fold pre ok0) (by omega) (by omega) (fun m q u nm hx=>hgapA m q u nm (hpre.subset (by rw [hx];simp))) fun w' O' q4 q5 q6=>⟨rfl,?_⟩
    refine ⟨q5.mono fun k _ hk=>.inl hk,O',fun k hk=>⟨(q6 k hk).imp id (fun hh=>by omega),(q4.own hk).2⟩,?_,qi g2' q5 fun k hk=>by have:=(g1.own hk).1;omega⟩
    rw [List.foldl_append];exact q4
   ·rintro D S1 W hD1 hD2 hD3 hD4 ⟨g1,g2⟩
    have hfl:=q3x (amsF p f false []) bs0
    have hb0:(lstB bs0).length=0:=rfl
    refine q6v g1 (StOk.fold _ ok0) (by omega) fun oa oc w55 h55 hO c55=>⟨rfl,?_⟩
    have hcut:shut ((amsF p f false []).foldl addB bs0)=cutT p f:=fold_tok _
    rw [hcut] at h55
    have hclen:(cutT p f).length≤268439552:=by rw [← hcut,qf7];omega
    have E55:Ext w w55:=qi g2 c55 fun k hk=>by have:=(g1.own hk).1;omega
    have hD55:w55.heap[D]? = some (.deferred (some [])):=(c55.block D hD2 hD3).trans hD4
    have lD:=(Array.getElem?_eq_some_iff.1 hD55).1
    have fin:∀ (v:World) (K:World→Prop),v.heap[D]? = some (.deferred (some []))→Ext w v→(∀ v',Chg (fun k=>k=D) v v'→Ext w v'→K v')→retD [{ target:=.collected D,args:=#[] }] v K:=by
     intro v K hv he hK
     have cD:Chg (fun k=>k=D) v (v.putObj D (.deferred none)):=Chg.put _ _ _ rfl
     exact ⟨D,rfl,hv,hK _ cD (qi he cD fun k hk=>by omega)⟩
    have c0:=h55.cells.1
    intro K56 hK56
    have k56:∀ w57,Ext w55 w57→longT (cutT p f)=false→K56 w57:=by
     intro w57 e57 hlg
     refine hK56 _ fun _=>?_
     have h57:=h55.ext e57
     refine ⟨_,_,_,h57.cells.1,?_⟩
     rw [if_neg (by rw [hlg];decide)] at hE
     have E57:=qb E55 e57
     have hraw:=qsn _ _ false false (Nat.le_refl _) (q3o (u:=false) (nm:=[]) hok hplo (.inl rfl))
     have hR57:=((hR.imp (S':=fun k=>S2 k∧k < w.heap.size) fun k hk hl=>⟨hk,hl⟩).ext E57)
     refine qxf rs (cutT p f) hsm hR57 h57.out (fun k hk hh=>by have:=h57.bkO hh;omega) (fun x hx=>⟨(hraw x hx).g0,(hraw x hx).g1⟩) (by omega) fun w60 c60 ho=>?_
     have hD60:w60.heap[D]? = some (.deferred (some [])):=by
      rw [c60.block D (by have:=e57.size;omega) (fun hh=>hD3 (hO D (.inr hh))),e57.block D lD];exact hD55
     have E60:Ext w w60:=qi E57 c60 fun k hk=>by have:=h57.bkO hk;omega
     by_cases hnz:nrmE rs (cutT p f)=0
     ·rw [if_pos hnz]
      refine ⟨_,_,_,_,rfl,fin w60 _ hD60 E60 fun v' cv ev=>?_⟩
      have hres:tksR p f rs=(cutT p f).map (nrmT rs):=by unfold tksR;rw [hE,if_neg (fun hh=>hh hnz)]
      have ho':=ho hnz
      have hlen:(cutT p f).length=(tksR p f rs).length:=by rw [hres,List.length_map]
      rw [← hE]
      rw [hres] at h
      rw [← hres,hlen] at ho'
      rw [hlen]
      rw [← hres] at h
      exact h _ _ _ v' rfl (Owns.weak (ho'.chg cv fun k hk hh=>hD3 (hh ▸ hO k (.inr hk))) (by omega)) ev
     ·rw [if_neg hnz]
      refine ⟨_,_,_,_,rfl,fin w60 _ hD60 E60 fun v' cv ev=>bad _ v' hnz hE ev⟩
    refine ⟨_,_,_,c0,qd (fun g5=>?_) (fun g5=>⟨_,_,_,c0,?_⟩)⟩
    ·refine fin w55 _ hD55 E55 fun v' cv ev=>bad 4 v' (by decide) ?_ ev
     rw [hE,if_pos]
     unfold longT;rw [decide_eq_true (show 1024 < (cutT p f).length by omega)];rfl
    ·refine q1q (cutT p f) (fun x=>decide (64 < x.t.length)) qcg (by kernel_rfl) (fun x _ hx=>q7i x hx) (OwnL.out h55.out) (by omega) fun w68 e68=>⟨_,rfl,ql (fun g6=>?_) (fun g6=>?_)⟩
     ·refine fin w68 _ ((e68.block D lD).trans hD55) (qb E55 e68) fun v' cv ev=>bad 4 v' (by decide) ?_ ev
      rw [hE,if_pos]
      unfold longT;rw [g6,Bool.or_true]
     ·refine k56 w68 e68 ?_
      unfold longT;rw [g6,decide_eq_false (by omega)];rfl
  obtain ⟨d0,d1⟩:=blk2' (B5.ext e10)
  refine ⟨_,d1,qd (fun g=>?_) (fun g=>⟨_,d1,qd (fun g2=>?_) (fun g2=>k11 (by omega))⟩)⟩
  ·refine bad 2 w10 (by decide) ?_ E10
   unfold tksE;rw [if_neg n1,if_pos (.inl g)]
  ·refine bad 2 w10 (by decide) ?_ E10
   unfold tksE;rw [if_neg n1,if_pos (.inr g2)]
 refine qc2 f hs (hf.ext e6) (hF.ext e6) fun w75 e75=>⟨_,rfl,qd (fun g=>?_) (fun g=>?_)⟩
 ·refine bad 1 w75 (by decide) ?_ (qb e6 e75)
  unfold tksE;rw [if_pos (.inl g)]
 ·refine qts rs hsm ((hR.ext e6).ext e75) fun w78 e78=>⟨_,rfl,qd (fun g2=>?_) (fun g2=>?_)⟩
  ·refine bad 1 w78 (by decide) ?_ (qb (qb e6 e75) e78)
   unfold tksE;rw [if_pos (.inr g2)]
  ·exact k7 w78 (Decidable.not_not.1 g) (Decidable.not_not.1 g2) (qb e75 e78)
end
section
variable {R:Ending→World→Prop} {w:World}
theorem tok_get {S:Nat→Prop} {a:Option Addr} {n i:Nat} {l:List Tok} {x:Tok} (hR:RowAt encTk S w a n l) (hi:l[i]? = some x) :
  ∃ q:Addr,(∀ K:Addr→Prop,K q→idx a n (i:Int) 6 K)∧w.cell? (q.add 0)=some (.string ⟨⟨x.t⟩⟩)∧w.cell? (q.add 1)=some (.string ⟨⟨x.m⟩⟩)∧w.cell? (q.add 2)=some (.string ⟨⟨x.p.1⟩⟩)∧w.cell? (q.add 3)=some (.int .i64 x.p.2)∧w.cell? (q.add 4)=some (.int .i64 x.g)∧w.cell? (q.add 5)=some (.string ⟨⟨x.a⟩⟩):=by
 obtain ⟨b,o,hq,_,_,hc⟩:=hR.get hi
 refine ⟨⟨b,o,none⟩,hq,?_⟩
 simp only [qg]
 exact ⟨hc 0 _ rfl,hc 1 _ rfl,hc 2 _ rfl,hc 3 _ rfl,hc 4 _ rfl,hc 5 _ rfl⟩
theorem qei {S:Nat→Prop} {w:World} {a:Option Addr} {n:Nat} {L:List (List UInt8)} (h:RowAt Sh.encStr S w a n L) {k:Nat} (hk:k < L.length) :
  ∃ q:Addr,(∀ K:Addr→Prop,K q→idx a n (k:Int) 1 K)∧w.cell? q=some (.string ⟨⟨L[k]⟩⟩):=by
 obtain ⟨bb,o,hq,_,_,hc⟩:=h.get (i:=k) (x:=L[k]) (List.getElem?_eq_getElem hk)
 exact ⟨⟨bb,o,none⟩,hq,hc 0 _ rfl⟩
theorem qh9 {S S':Nat→Prop} {a a':Option Addr} {n n' c c':Nat} (L M:List (List UInt8)) (hL:RowAt Sh.encStr S w a n L) (hM:RowAt Sh.encStr S' w a' n' M) (hb:L.length≤1000000000) (h:∀ w',Ext w w'→R (.returned (.bool (decide (L=M)))) w') :
  Calls prog qbg ⟨[.slice a n c,.slice a' n' c']⟩ w R:=by
 apply qd9
 have hn:n=L.length:=hL.1
 have hn':n'=M.length:=hM.1
 refine qd (fun g=>?_) (fun g=>?_)
 ·have:decide (L=M)=false:=decide_eq_false (fun e=>g (by rw [hn,hn',e]))
  rw [← this];exact h w (Below.refl _ _)
 refine ⟨fun t W m=>∃ k:Nat,t=k∧k≤n∧m=n - k∧L.take k=M.take k∧Ext w W,⟨_,0,rfl,by omega,rfl,rfl,Below.refl _ _⟩,?_⟩
 rintro _ W m ⟨k,rfl,hk,rfl,heq,he⟩ _
 have hnn:L.length=M.length:=by omega
 refine qd (fun hlt=>?_) (fun hge=>?_)
 ·have hkL:k < L.length:=by omega
  have hkM:k < M.length:=by omega
  unfold drw
  have Ed:=qb he (qs W)
  obtain ⟨q,hq,c0⟩:=qei (hL.ext Ed) hkL
  obtain ⟨q',hq',d0⟩:=qei (hM.ext Ed) hkM
  refine hq _ ⟨_,c0,hq' _ ⟨_,d0,qd (fun g2=>?_) (fun g2=>?_)⟩⟩
  ·have:decide (L=M)=false:=decide_eq_false (fun e=>g2 (by subst e;rfl))
   rw [← this];exact h _ Ed
  ·refine ⟨n - (k + 1),by omega,k + 1,by rw [qj (by omega)],by omega,rfl,?_,Ed⟩
   rw [List.take_succ_eq_append_getElem hkL,List.take_succ_eq_append_getElem hkM,heq,Classical.not_not.1 g2]
 ·have hkn:k=L.length:=by omega
  have:decide (L=M)=true:=decide_eq_true (by
   rw [List.take_of_length_le (by omega),List.take_of_length_le (by omega)] at heq;exact heq)
  rw [← this];exact h W he
def eqTk (x y:Tok):Bool:=decide (x.t=y.t)&&(decide (x.m=y.m)&&((decide (x.p.1=y.p.1)&&(decide (x.p.2=y.p.2)&&true))&&(decide (x.g=y.g)&&(decide (x.a=y.a)&&true))))
theorem eqTk_iff (x y:Tok):eqTk x y=true↔x=y:=by
 obtain ⟨t,m,⟨p,q⟩,g,a⟩:=x
 obtain ⟨t',m',⟨p',q'⟩,g',a'⟩:=y
 simp [eqTk,and_assoc]
instance (x y:Tok):Decidable (x=y):=decidable_of_iff _ (eqTk_iff x y)
theorem rules_none (S:Nat→Prop) (v:World):RowAt encRw S v none 0 []:=RowAt.nil none
theorem smallR_nil:qwh []:=fun x hx=>by cases hx
end
def WtC (S:Nat→Prop) (w:World):List Wt→List Value→Prop
 | [],vs=>vs=[]
 | x :: l,vs=>∃ a c vs',vs=.string ⟨⟨x.1⟩⟩ :: .slice a x.2.len c :: vs'∧SlF S w a x.2.len x.2∧WtC S w l vs'
def SlW (S:Nat→Prop) (w:World) (a:Option Addr) (n:Nat) (L:List Wt):Prop:=n=L.length∧∃ us,At S w a us∧WtC S w L us
section
variable {S S':Nat→Prop} {w w':World}
theorem WtC.keep (hs:∀ k,S k→k < w.heap.size→S' k∧w'.heap[k]? = w.heap[k]?) (hz:w.heap.size≤w'.heap.size):∀ {L:List Wt} {vs:List Value},WtC S w L vs→WtC S' w' L vs
 | [],_,h=>h
 | _ :: _,_,⟨a,c,vs',h1,h2,h3⟩=>⟨a,c,vs',h1,h2.keep hs hz,WtC.keep hs hz h3⟩
theorem SlW.keep {a:Option Addr} {n:Nat} {L:List Wt} (h:SlW S w a n L) (hs:∀ k,S k→k < w.heap.size→S' k∧w'.heap[k]? = w.heap[k]?) (hz:w.heap.size≤w'.heap.size):SlW S' w' a n L:=by
 obtain ⟨h1,us,h2,h3⟩:=h
 exact ⟨h1,us,h2.keep hs hz,h3.keep hs hz⟩
theorem SlW.ext {a:Option Addr} {n:Nat} {L:List Wt} (h:SlW S w a n L) (he:Ext w w'):SlW S w' a n L:=h.keep (fun k hk hl=>⟨hk,he.block k hl⟩) he.size
theorem WtC.get {x:Wt}:∀ {L:List Wt} {us:List Value} {i:Nat},WtC S w L us→L[i]? = some x→∃ a c,us[2 * i]? = some (.string ⟨⟨x.1⟩⟩)∧us[2 * i + 1]? = some (.slice a x.2.len c)∧SlF S w a x.2.len x.2
 | [],_,i,_,h=>by simp at h
 | y :: L,us,0,⟨a,c,vs',h1,h2,h3⟩,h=>by
  simp only [List.getElem?_cons_zero,Option.some.injEq] at h
  subst h
  exact ⟨a,c,by rw [h1];rfl,by rw [h1];rfl,h2⟩
 | y :: L,us,i + 1,⟨a,c,vs',h1,h2,h3⟩,h=>by
  obtain ⟨a',c',e1,e2,e3⟩:=WtC.get (i:=i) h3 (by simpa using h)
  exact ⟨a',c',by rw [h1,show 2 * (i + 1)=2 * i + 1 + 1 by omega];exact e1,by rw [h1,show 2 * (i + 1) + 1=2 * i + 1 + 1 + 1 by omega];exact e2,e3⟩
theorem SlW.get {a:Option Addr} {n:Nat} {L:List Wt} (h:SlW S w a n L) {i:Nat} {x:Wt} (hi:L[i]? = some x) :
  ∃ q a' c',(∀ K:Addr→Prop,K q→idx a n (i:Int) 2 K)∧w.cell? (q.add 0)=some (.string ⟨⟨x.1⟩⟩)∧w.cell? (q.add 1)=some (.slice a' x.2.len c')∧SlF S w a' x.2.len x.2:=by
 obtain ⟨h1,us,h2,h3⟩:=h
 obtain ⟨a',c',e1,e2,e3⟩:=h3.get hi
 rcases h2 with h2 | ⟨b,o,rfl,hS,hb,hc⟩
 ·rw [h2] at e1;simp at e1
 ·refine ⟨⟨b,o + i * 2,none⟩,a',c',fun K hK=>⟨by omega,?_,?_⟩,?_,?_,e3⟩
  ·have:=(List.getElem?_eq_some_iff.1 hi).1
   omega
  ·show K _
   rw [qg,Int.toNat_natCast];exact hK
  ·rw [qg,← hc _ _ e1];congr 2;omega
  ·rw [qg,← hc _ _ e2];congr 2;omega
theorem q72 {b:Nat} {T:TypeId} {x:Wt} {a:Option Addr} {c:Nat} (hb:Blk w b [.string ⟨⟨x.1⟩⟩,.slice a x.2.len c] T) (hf:SlF S w a x.2.len x.2):SlW (fun k=>S k∨k=b) w (some ⟨b,0,none⟩) 1 [x] :=
 ⟨rfl,_,.inr ⟨b,0,rfl,.inr rfl,hb.lt,fun j v hj=>by rw [Nat.zero_add,hb.cell];exact hj⟩,a,c,[],rfl,hf.imp fun k hk _=>.inl hk,rfl⟩
theorem one2 {s:List UInt8} {a:Option Addr} {n c:Nat}:∀ u∈([.string ⟨⟨s⟩⟩,.slice a n c]:List Value),u.oneCell'=true:=by
 intro u hu;simp only [List.mem_cons,List.not_mem_nil,or_false] at hu;rcases hu with rfl | rfl <;> rfl
theorem one4w {k:Int} {t:List UInt8} {m:Int} {a:Option Addr} {n c:Nat}:∀ u∈([.int .i64 k,.string ⟨⟨t⟩⟩,.int .i64 m,.slice a n c]:List Value),u.oneCell'=true:=by
 intro u hu;simp only [List.mem_cons,List.not_mem_nil,or_false] at hu;rcases hu with rfl | rfl | rfl | rfl <;> rfl
theorem blk2w {b:Nat} {v0 v1:Value} {T:TypeId} (h:Blk w b [v0,v1] T):w.cell? ((⟨b,0,none⟩:Addr).add 0)=some v0∧w.cell? ((⟨b,0,none⟩:Addr).add 1)=some v1:=by
 simp only [qg,h.cell];exact ⟨rfl,rfl⟩
end
theorem qg0 {T:Nat→Prop} (f:Fo) (hs:small f) {a:Option Addr} {n c:Nat} (b:Nat) (w:World) (hTl:∀ k,T k→k < w.heap.size) (hb:Blk w b [.slice a n c] 43) (hf:SlF T w a n f) (hbT:T b) :
  IterO prog qaj [.pointer (some ⟨b,0,none⟩)] (secsI f 0) (fun x vs=>vs=[.string ⟨⟨x.1⟩⟩,.int .i64 (x.2:Int)]) T w:=by
 intro yf ya yb S0 J Jx R hS hJ hJx hbody h0 hend hstop
 apply qlp
 have hn:=hf.1
 have hfl:=Fo.len_le_size f
 refine dr_ok ⟨a,n,c,by rw [hb.cell];rfl,?_⟩
 refine ⟨fun i W m=>∃ (p r:Fo) (S:Nat→Prop),f=p.app r∧i=p.len∧m=r.len∧J (secsI p 0) S W∧w.heap.size≤W.heap.size∧(∀ k,T k→W.heap[k]? = w.heap[k]?)∧(∀ k,S k→k < W.heap.size∧¬ T k),
  ⟨_,.nil,f,S0,rfl,rfl,rfl,h0,Nat.le_refl _,fun _ _=>rfl,hS⟩,?_⟩
 rintro _ W m ⟨p,r,S,hpr,rfl,rfl,hj,hW,hT,hSW⟩ _
 refine qd (fun hlt=>?_) (fun hge=>?_)
 ·obtain ⟨k,t,mm,ps,r,rfl⟩:=Fo.next hpr (by omega)
  have hsl:=Fo.sub_len hpr
  have e1:f=(p.app (.one k t mm ps)).app r:=by rw [Fo.app_one_app];exact hpr
  have i1:i64.wrap ((p.len:Int) + 1)=((p.app (.one k t mm ps)).len:Int):=by rw [qj (by unfold small at hs;omega)];simp [Fo.one]
  have hsx:secsI (p.app (.one k t mm ps)) 0=secsI p 0++if k=4 then [(t,p.len)] else []:=by rw [qwz];unfold Fo.one;rw [secsI,secsI,Nat.zero_add,List.append_nil]
  obtain ⟨q,a',c',hq,hSq,hql,hN⟩:=(hf.keep (S':=T) (w':=W) (fun k hk _=>⟨hk,hT k hk⟩) hW).get hpr
  refine hq _ ⟨k,hN.kind,t,hN.text,mm,hN.num,a',ps.len,c',hN.parts,?_⟩
  refine qw rfl one4w fun bx w17 hbx Bx e17 s17=>?_
  obtain ⟨x0,x1,_⟩:=blk4 Bx
  have z17:=e17.size
  have lT:∀ k,T k→k < W.heap.size:=fun k hk=>by have:=hTl k hk;omega
  have hT17:∀ k,T k→w17.heap[k]? = w.heap[k]?:=fun k hk=>(e17.block k (lT k hk)).trans (hT k hk)
  have hj17:=hJ _ _ _ _ hj (Chg.of_ext e17 (S:=fun k=>w.heap.size≤k∧¬ S k))
  have hS17:∀ k,S k→k < w17.heap.size∧¬ T k:=fun k hk=>⟨by have:=(hSW k hk).1;omega,(hSW k hk).2⟩
  refine ⟨_,x0,qd (fun g=>⟨_,x1,?_⟩) (fun g=>?_)⟩
  ·rw [if_pos g] at hsx
   have hpx:secsI p 0++[(t,p.len)] <+: secsI f 0:=by rw [e1,qwz,← hsx];exact List.prefix_append _ _
   refine qbh (hbody _ (t,p.len) _ S w17 rfl hpx (by omega) hS17 hj17) ?_
   rintro e w21 ⟨hc2,S3,hS3,hres⟩
   have z21:=hc2.size
   have hT21:∀ k,T k→w21.heap[k]? = w.heap[k]?:=fun k hk=>(hc2.block k (by have:=lT k hk;omega) fun hh=>(hSW k hh).2 hk).trans (hT17 k hk)
   have hS3':∀ k,S3 k→k < w21.heap.size∧¬ T k:=fun k hk=>⟨(hS3 k hk).2,fun ht=>(hS3 k hk).1.elim (fun hh=>(hSW k hh).2 ht) fun hh=>by have:=lT k ht;omega⟩
   rcases hres with ⟨rfl,hj3⟩ | ⟨rfl,hjx⟩
   ·refine ⟨true,rfl,?_⟩
    simp only [Bool.not_true,br_f]
    exact ⟨r.len,by simp,p.app (.one k t mm ps),r,S3,e1,i1,rfl,by rw [hsx];exact hj3,by omega,hT21,hS3'⟩
   ·refine ⟨false,rfl,?_⟩
    simp only [Bool.not_false,br_t]
    exact hstop S3 _ (by omega) hjx
  ·rw [if_neg g,List.append_nil] at hsx
   exact ⟨r.len,by simp,p.app (.one k t mm ps),r,S,e1,i1,rfl,by rw [hsx];exact hj17,by omega,hT17,hS17⟩
 ·obtain ⟨rfl,rfl⟩:=Fo.last hpr (by omega)
  exact hend S W hW hj
section
variable {R:Ending→World→Prop} {w:World}
theorem qie {a:Option Addr} {n c:Nat} (h:∀ b w',Blk w' b [.slice a n c] 43→Ext w w'→b=w.heap.size→w'.heap.size=b + 1→R (.returned (.func (.func qaj) ⟨[]⟩ ⟨[.pointer (some ⟨b,0,none⟩)]⟩)) w'):Calls prog qgi ⟨[.slice a n c]⟩ w R:=by
 apply qp1
 exact qh fun b w3 hb B3 e3 s3=>h b w3 B3 e3 hb s3
theorem qop:SlT prog 31 9 1 16 (.string ⟨⟨[]⟩⟩):=⟨by kernel_rfl,by kernel_rfl,rfl,by decide⟩
theorem qsg {S:Nat→Prop} {a:Option Addr} {n c:Nat} (f:Fo) (hs:f.size≤1000000) (hf0:SlF S w a n f) (h:∀ a' n' c' w',OwnL Sh.encStr w' w.heap.size 9 a' n' c' (secs f)→Ext w w'→R (.returned (.slice a' n' c')) w') :
  Calls prog qkp ⟨[.slice a n c]⟩ w R:=by
 apply qx6
 have hf:SlF (fun k=>S k∧k < w.heap.size) w a n f:=hf0.imp fun k hk hl=>⟨hk,hl⟩
 have hsm:small f:=by unfold small;omega
 refine qh fun b2 w3 hb2 B2 e3 s3=>?_
 refine qie fun bs w5 Bs e5 hbs s5=>⟨_,_,_,rfl,fun base=>?_⟩
 have E5:=qb e3 e5
 have z5:=E5.size
 have B25:=B2.ext e5
 have hf5:=hf.ext E5
 rw [qpy]
 refine qgh qfs qfp (gf:=qaj) rfl (by kernel_rfl) (xs:=secsI f 0) (E:=fun x vs=>vs=[.string ⟨⟨x.1⟩⟩,.int .i64 (x.2:Int)]) (Rd:=fun k=>(S k∧k < w.heap.size)∨k=bs)
  (fun v1 he=>qg0 f hsm bs v1 (fun k hk=>by have:=he.size;omega) (Bs.ext he) ((hf5.ext he).imp fun k hk _=>.inl hk) (.inr rfl)) (fun y vs hE=>by rw [hE];rfl) (by decide) (fun k hk=>by omega) (fun k=>k=b2) (fun k hk=>by omega)
  (fun pre S1 W=>∃ (oa:Option Addr) (on oc:Nat),Blk W b2 [.slice oa on oc] 31∧on=pre.length∧OwnL Sh.encStr W w5.heap.size 9 oa on oc (pre.map (·.1))∧(∀ k,S1 k↔k=b2∨bk oa k)∧Ext w W) (fun _ _=>False) (fun _ _=>False)
  ?_ (fun _ _ _ h=>h.elim) (fun _ _ _ h=>h.elim) ⟨none,0,0,B25,rfl,Owns.nil _ _ _ _,fun k=>by simp [bk],E5⟩ ?_ ?_ (fun _ _ _ _ _ _ _ h=>h.elim) (fun _ _ _ _ _ _ _ h=>h.elim)
 ·rintro pre S1 W W' ⟨oa,on,oc,g1,g2,g3,g5,g6⟩ hc
  exact ⟨oa,on,oc,hc.blk g1 (fun hh=>by omega),g2,g3.chg hc fun k hk hh=>hh.2 ((g5 k).2 (.inr hk)),g5,qi g6 hc fun k hk=>by omega⟩
 ·rintro pre x vs S1 W l rfl hpre hl1 hl2 hl3 hS1 ⟨oa,on,oc,g1,g2,g3,g5,g6⟩
  refine Eq.mpr (qpr base _ _ _ _ _ _ _ _ _ _ _ _ _ _) ?_
  refine ⟨Below.refl _ _,fun W2 hU=>?_⟩
  have zU:=hU.size
  have hpl:pre.length + 1≤f.size:=by
   have h1:=hpre.length_le
   have h2:=congrArg List.length (qc8 f 0)
   have h3:=qk6 f
   have h4:=Fo.len_le_size f
   simp at h1 h2
   omega
  have hUc:Chg (fun k=>k=l) W W2:=⟨hU.os,hU.tape,hU.output,by omega,fun k _ hk=>hU.block k hk⟩
  have nl:¬ bk oa l:=fun hh=>hl3 ((g5 l).2 (.inr hh))
  have nb:b2≠l:=fun hh=>hl3 ((g5 l).2 (.inl hh.symm))
  have h1:=hUc.blk g1 nb
  have h2:=g3.chg hUc fun k hk hh=>nl (hh ▸ hk)
  have E2:Ext w W2:=qi g6 hUc fun k hk=>by omega
  refine dr_ok ⟨oa,on,oc,by rw [h1.cell];rfl,?_⟩
  refine qh fun b23 w24 hb23 B23 e24 s24=>?_
  have B23':Blk w24 b23 (Sh.encStr.enc x.1) 9:=B23
  have z24:=e24.size
  have n2:∀ k,bk oa k→¬ k=b2:=fun k hk hh=>by have:=(h2.bk hk).1;omega
  refine OwnL.app1 (P:=prog) qop (Owns.ext h2 e24) (by omega) B23' (by omega) (by omega) fun a25 c25 w26 ho26 hc26 hn26=>dr_ok ?_
  have B26:Blk w26 b2 [.slice oa on oc] 31:=hc26.blk (h1.ext e24) (fun hh=>n2 _ hh rfl)
  have n26:∀ k,bk a25 k→¬ k=b2:=fun k hk hh=>by
   rcases hn26 k hk with h3 | h3
   ·exact n2 k h3 hh
   ·have:=B26.lt;have:=h1.lt;omega
  refine qr B26 rfl fun w27 q1 q2 q3=>?_
  have c24:Chg (fun k=>k=b2∨bk oa k) W2 w27:=((Chg.of_ext e24).trans (hc26.mono fun k _ hk=>.inr hk)).trans (q2.mono fun k _ hk=>.inl hk)
  refine ⟨c24.mono fun k _ hk=>.inl ((g5 k).2 hk),fun k=>k=b2∨bk a25 k,fun k hk=>?_,a25,on + 1,c25,q1,by simp [g2],?_,fun k=>Iff.rfl,?_⟩
  ·rcases hk with hk | hk
   ·exact ⟨.inl ((g5 k).2 (.inl hk)),by rw [hk];exact q1.lt⟩
   ·refine ⟨?_,by have:=(ho26.bk hk).2;omega⟩
    rcases hn26 k hk with h3 | h3
    ·exact .inl ((g5 k).2 (.inr h3))
    ·right;omega
  ·rw [List.map_append,List.map_singleton]
   exact ho26.chg q2 n26
  ·exact qi E2 c24 fun k hk=>by
    rcases hk with hk | hk
    ·omega
    ·have:=(h2.bk hk).1;omega
 ·rintro D S1 W hD1 hD2 hD3 hD4 ⟨oa,on,oc,g1,g2,g3,g5,g6⟩
  refine ⟨oa,on,oc,by rw [g1.cell];rfl,qbm hD4 ?_⟩
  have hDb:¬ bk oa D:=fun hh=>hD3 ((g5 D).2 (.inr hh))
  have hcp:Chg (fun k=>k=D) W (W.putObj D (.deferred none)):=Chg.put W D _ rfl
  have ho:=g3.chg hcp fun k hk hh=>hDb (hh ▸ hk)
  rw [qc8] at ho
  exact h oa on oc _ (Owns.weak ho z5) (qb9 g6 (by omega) _)
theorem qjy {S:Nat→Prop} {a:Option Addr} {n c:Nat} (f:Fo) (hs:f.size≤1000000) (hf0:SlF S w a n f) (h:∀ a' n' c' w',OwnL Sh.encStr w' w.heap.size 9 a' n' c' (secs f)→Ext w w'→R (.returned (.slice a' n' c')) w') :
  Calls prog qq8 ⟨[.slice a n c]⟩ w R:=by
 apply q38
 have hn:=hf0.1
 have hfl:=Fo.len_le_size f
 refine qh fun b2 w3 hb2 B2 e3 s3=>?_
 refine ⟨fun oa on oc i W m=>∃ (p r:Fo),f=p.app r∧i=p.len∧m=r.len∧on≤p.len∧OwnL Sh.encStr W w.heap.size 9 oa on oc (secs p)∧Ext w W,⟨_,.nil,f,rfl,rfl,rfl,Nat.le_refl _,Owns.made B2 (by omega),e3⟩,?_⟩
 rintro oa on oc _ W m ⟨p,r,hpr,rfl,rfl,hon,hO,he⟩ _
 refine qd (fun hlt=>?_) (fun hge=>?_)
 ·obtain ⟨k,t,mm,ps,r,rfl⟩:=Fo.next hpr (by omega)
  have hsl:=Fo.sub_len hpr
  have e1:f=(p.app (.one k t mm ps)).app r:=by rw [Fo.app_one_app];exact hpr
  have i1:i64.wrap ((p.len:Int) + 1)=((p.app (.one k t mm ps)).len:Int):=by rw [qj (by omega)];simp [Fo.one]
  have hsx:secs (p.app (.one k t mm ps))=secs p++if k=4 then [t] else []:=by rw [qe8];unfold Fo.one;rw [secs,secs,List.append_nil]
  have hl1:(p.app (.one k t mm ps)).len=p.len + 1:=by simp [Fo.one]
  obtain ⟨q,a',c',hq,hSq,hql,hN⟩:=(hf0.ext he).get hpr
  refine hq _ ⟨k,hN.kind,qd (fun g=>hq _ ⟨t,hN.text,?_⟩) (fun g=>?_)⟩
  ·rw [if_pos g] at hsx
   refine qh fun b14 w15 hb14 B14 e15 s15=>?_
   have B14':Blk w15 b14 (Sh.encStr.enc t) 9:=B14
   have E15:=qb he e15
   refine OwnL.app1 (P:=prog) qop (Owns.ext hO e15) (by have:=E15.size;omega) B14' (by omega) (by omega) fun a16 c16 w17 ho hc hn2=>?_
   exact ⟨r.len,by simp,p.app (.one k t mm ps),r,e1,i1,rfl,by omega,by rw [hsx];exact ho,qi E15 hc fun j hj=>((Owns.ext hO e15).bk hj).1⟩
  ·rw [if_neg g,List.append_nil] at hsx
   exact ⟨r.len,by simp,p.app (.one k t mm ps),r,e1,i1,rfl,by omega,by rw [hsx];exact hO,he⟩
 ·obtain ⟨rfl,rfl⟩:=Fo.last hpr (by omega)
  exact h oa on oc W hO he
def qxa (L:List (List UInt8)) (s:List UInt8):Int:=if s∈L then (L.idxOf s:Int) else -1
theorem q13 {S:Nat→Prop} {a:Option Addr} {n c:Nat} (L:List (List UInt8)) (s:List UInt8) (hL:RowAt Sh.encStr S w a n L) (hn:n≤1000000000) (h:R (.returned (.int .i64 (qxa L s))) w):Calls prog qq7 ⟨[.slice a n c,.string ⟨⟨s⟩⟩]⟩ w R:=by
 apply q37
 have hln:=hL.1
 refine ⟨fun i W m=>∃ k:Nat,i=k∧k≤n∧m=n - k∧s∉L.take k∧W=w,⟨_,0,rfl,by omega,rfl,by simp,rfl⟩,?_⟩
 rintro _ W m ⟨k,rfl,hk,rfl,hz,rfl⟩ _
 refine qd (fun hlt=>?_) (fun hge=>?_)
 ·have hkl:k < L.length:=by omega
  obtain ⟨q,hq,c0⟩:=qei hL hkl
  have htk:L.take (k + 1)=L.take k++[L[k]]:=List.take_succ_eq_append_getElem hkl
  refine hq _ ⟨_,c0,qd (fun g=>?_) (fun g=>?_)⟩
  ·have hm:s∈L:=by rw [← g];exact List.getElem_mem hkl
   have hi:L.idxOf s=k:=by
    have h1:L=L.take k++L.drop k:=(List.take_append_drop k L).symm
    have h2:L.drop k=s :: L.drop (k + 1):=by rw [List.drop_eq_getElem_cons hkl,g]
    rw [h1,List.idxOf_append,if_neg hz,h2,List.idxOf_cons_self,List.length_take]
    omega
   unfold qxa at h
   rw [if_pos hm,hi] at h
   exact h
  ·refine ⟨n - (k + 1),by omega,k + 1,by rw [qj (by omega)],by omega,rfl,?_,rfl⟩
   rw [htk,List.mem_append,not_or]
   exact ⟨hz,by simpa using fun hh=>g hh.symm⟩
 ·rw [List.take_of_length_le (by omega)] at hz
  unfold qxa at h
  rw [if_neg hz] at h
  exact h
theorem q78 (s:List UInt8) (hs:s.length≤4611686018427387904) (h:R (.returned (.bool (spc s))) w):Calls prog qmd ⟨[.string ⟨⟨s⟩⟩]⟩ w R:=by
 apply q0h
 refine ⟨fun i W m=>∃ k:Nat,i=k∧k≤s.length∧m=s.length - k∧spc (s.take k)=true∧W=w,⟨_,0,rfl,by omega,rfl,by simp [spc],rfl⟩,?_⟩
 rintro _ W m ⟨k,rfl,hk,rfl,hz,rfl⟩ _
 refine qd (fun hlt=>?_) (fun hge=>?_)
 ·have hkl:k < s.length:=by omega
  have htk:s.take (k + 1)=s.take k++[s[k]]:=List.take_succ_eq_append_getElem hkl
  refine qb3 hkl (qd (fun g=>?_) (fun g=>?_))
  ·have:spc s=false:=by
    unfold spc
    rw [List.all_eq_false]
    exact ⟨s[k],List.getElem_mem hkl,by simpa using fun hh=>g (by rw [hh];rfl)⟩
   rw [this] at h;exact h
  ·refine ⟨s.length - (k + 1),by omega,k + 1,by rw [qj (by omega)],by omega,rfl,?_,rfl⟩
   have h32:s[k]=32:=by
    apply UInt8.toNat_inj.1
    have:(s[k].toNat:Int)=32:=Decidable.not_not.1 g
    have h2:(32:UInt8).toNat=32:=rfl
    omega
   unfold spc at hz ⊢
   rw [htk,List.all_append,hz,h32];rfl
 ·rw [List.take_of_length_le (by omega)] at hz
  rw [hz] at h;exact h
end
abbrev eI (n:Int):Value:=.int .i64 n
theorem dw_nil (p:UInt8→Bool):∀ l:List UInt8,l.dropWhile p=[]↔l.all p=true
 | []=>by simp
 | x :: l=>by
  rw [List.dropWhile_cons,List.all_cons]
  cases h:p x
  ·simp
  ·simp only [if_true,Bool.true_and];exact dw_nil p l
theorem dw_all (p:UInt8→Bool):∀ l:List UInt8,(l.dropWhile p).all p=true→l.all p=true
 | []=>fun h=>h
 | x :: l=>fun h=>by
  rw [List.dropWhile_cons] at h
  cases hx:p x
  ·rw [hx] at h;exact h
  ·rw [hx,if_pos rfl] at h
   rw [List.all_cons,hx,dw_all p l h];rfl
theorem q98 (s:List UInt8):Lib.trimB s 32=[]↔spc s=true:=by
 have e:spc s=s.all (· == (32:UInt8)):=by
  unfold spc;congr 1
 rw [e]
 unfold Lib.trimB Lib.trimLeftB Lib.trimRightB
 rw [dw_nil,List.all_reverse]
 constructor
 ·intro h
  have:=dw_all _ _ h
  rwa [List.all_reverse] at this
 ·intro h
  have:(s.reverse.dropWhile (· == (32:UInt8)))=[]:=(dw_nil _ _).2 (by rw [List.all_reverse];exact h)
  rw [this];rfl
theorem Trim_spec {R:Ending→World→Prop} {w:World} (s:List UInt8) (hs:s.length≤4611686018427387904) (h:∀ w',Ext w w'→R (.returned (.string ⟨⟨Lib.trimB s 32⟩⟩)) w'):Calls prog q1m ⟨[.string ⟨⟨s⟩⟩,.string ⟨⟨[32]⟩⟩]⟩ w R:=by
 refine (Tryz.strings_Trim_one ⟨⟨s⟩⟩ 32 (by decide) w (by show s.length≤_;omega)).mono ?_
 rintro _ w' ⟨rfl,rfl | rfl⟩
 ·exact h _ (Below.refl _ _)
 ·exact h _ (qs _)
theorem qpw {f:Fo} (hc:qak f=0):okF false f:=by
 unfold qak at hc
 by_cases hs:f.size≤4096∧f.depth≤16
 ·rw [if_pos hs] at hc
  have ha:allF f false false=0:=by
   split at hc
   ·rename_i h;exact absurd hc h
   ·rename_i h;exact Decidable.not_not.1 h
  exact ((qq0 f false false).1 ha).1
 ·rw [if_neg hs] at hc;cases hc
theorem q36 {S T:Nat→Prop} {w W W':World} (h:Chg S w W) (hc:Chg T W W') (hT:∀ k,T k→w.heap.size≤k):Chg S w W' :=
 ⟨hc.os.trans h.os,hc.tape.trans h.tape,hc.output.trans h.output,Nat.le_trans h.size hc.size,fun k hk hn=>(hc.block k (Nat.lt_of_lt_of_le hk h.size) (fun hh=>by have:=hT k hh;omega)).trans (h.block k hk hn)⟩
theorem qxs:∀ {p:Fo} {g:Fo},hdr p=0→secs p=[]→hdr (p.app g)=hdr g
 | .nil,g,_,_=>rfl
 | .cons k t n ps r,g,h,hs=>by
  rw [secs] at hs
  have hk:k≠4:=fun hk=>by rw [if_pos hk] at hs;simp at hs
  rw [if_neg hk,List.nil_append] at hs
  rw [hdr,if_neg hk] at h
  rw [Fo.cons_app,hdr,if_neg hk]
  split at h
  ·rename_i h3;rw [if_pos h3];exact qxs h hs
  ·cases h
theorem qew {R:Ending→World→Prop} {w:World} {S:Nat→Prop} {a:Option Addr} {n c:Nat} (s:List UInt8) (f:Fo) (hs:small f) (hF:Forms w) (hf0:SlF S w a n f) (h:∀ w',Ext w w'→R (.returned (.int .i64 (witE (s,f)))) w') :
  Calls prog qks ⟨[.agg ⟨[.string ⟨⟨s⟩⟩,.slice a n c]⟩]⟩ w R:=by
 apply qx9
 have hf:SlF (fun k=>S k∧k < w.heap.size) w a n f:=hf0.imp fun k hk hl=>⟨hk,hl⟩
 refine qh fun b3 w4 hb3 B3 e4 s4=>qh fun b5 w6 hb5 B5 e6 s6=>?_
 have E6:=qb e4 e6
 have B36:=B3.ext e6
 obtain ⟨x0,x1⟩:=blk2w B36
 have ret:∀ (e:Int) (w':World),Ext w6 w'→(e=witE (s,f))→stL w' ⟨b5,0,none⟩ 0 [.int .i64 e] fun w13=>∃ x14:Int,w13.cell? (⟨b5,0,none⟩:Addr)=some (.int .i64 x14)∧R (.returned (.int .i64 x14)) w13:=by
  intro e w' he hh
  refine qr (B5.ext he) rfl fun w13 g1 g2 g3=>⟨_,g1.cell 0,?_⟩
  rw [hh]
  exact h w13 (qi (qb E6 he) g2 fun k hk=>by have:=E6.size;omega)
 intro K7 hK
 refine ⟨s,x0,qea s ⟨_,rfl,ql (fun g=>?_) (fun g=>⟨s,x0,qd (fun g2=>?_) (fun g2=>?_)⟩)⟩⟩
 ·exact ret 14 w6 (Below.refl _ _) (by unfold witE;rw [if_pos (.inl (by simpa using g))])
 ·exact ret 14 w6 (Below.refl _ _) (by unfold witE;rw [if_pos (.inr (by simp only;omega))])
 have hname:qaa s=true:=by simpa using g
 have w1:witE (s,f)=if qak f≠0 then 1 else if (secs f).Nodup then hdr f else 7:=by
  unfold witE;rw [if_neg (by rw [hname];simp only;simp;omega)]
 refine hK w6 fun _=>⟨_,_,_,x1,qc2 f hs (hf.ext E6) (hF.ext E6) fun w11 e11=>⟨_,rfl,qd (fun g3=>?_) (fun g3=>?_)⟩⟩
 ·exact ret 1 w11 e11 (by rw [w1,if_pos g3])
 have hc0:qak f=0:=Decidable.not_not.1 g3
 rw [if_neg (by rw [hc0];simp)] at w1
 have hok:=qpw hc0
 obtain ⟨hsz,_,htl⟩:=qcz hc0
 have z11:=e11.size
 refine qpi fun b15 w16 hb15 hm15 e16 s16=>?_
 refine qh fun b17 w18 hb17 B17 e18 s18=>?_
 refine qr B17 rfl fun w19 g1 g2 g3'=>?_
 have E16:=qb E6 (qb e11 e16)
 have e19:Ext w16 w19:=qi e18 g2 fun k hk=>by omega
 have B519:=(B5.ext (qb e11 e16)).ext e19
 have B319:=(B36.ext (qb e11 e16)).ext e19
 have E19:=qb E16 e19
 have M19:MapT prog 9 eS eI w19 b15 0 (fun _=>none):=(hm15 _ _ _ _).ext e19
 refine ⟨_,_,_,(blk2w B319).2,?_⟩
 refine qie fun bs w22 Bs e22 hbs s22=>⟨_,_,_,rfl,fun base=>?_⟩
 have E22:=qb E19 e22
 have z22:=e22.size
 have z19:=e19.size
 have hf22:=hf.ext E22
 have B522:=B519.ext e22
 have B322:=B319.ext e22
 have B1722:=g1.ext e22
 have M22:=M19.ext e22
 have hfl:=f.len_le_size
 have hsl:=qk6 f
 rw [qpz]
 refine qgh qft qfq (gf:=qaj) rfl (by kernel_rfl) (xs:=secsI f 0) (E:=fun x vs=>vs=[.string ⟨⟨x.1⟩⟩,.int .i64 (x.2:Int)]) (Rd:=fun k=>(S k∧k < w.heap.size)∨k=bs)
  (fun v1 he=>qg0 f hs bs v1 (fun k hk=>by have:=he.size;have:=E22.size;omega) (Bs.ext he) ((hf22.ext he).imp fun k hk _=>.inl hk) (.inr rfl)) (fun y vs hE=>by rw [hE];rfl) (by decide) (fun k hk=>by have:=E22.size;omega) (fun k=>k=b15∨k=b5) (fun k hk=>by have:=E6.size;omega)
  (fun pre S1 W=>(∀ k,S1 k↔k=b15∨k=b5)∧Chg (fun k=>k=b15) w22 W∧(pre.map (·.1)).Nodup∧∃ f2:List UInt8→Option Int,MapT prog 9 eS eI W b15 pre.length f2∧∀ s,(f2 s).isSome=decide (s∈pre.map (·.1)))
  (fun S1 W=>(∀ k,S1 k↔k=b15∨k=b5)∧Chg (fun k=>k=b15∨k=b5) w22 W∧Blk W b5 [.int .i64 7] 28∧¬ (secs f).Nodup) (fun _ _=>False)
  ?_ ?_ (fun _ _ _ h=>h.elim) ⟨fun k=>Iff.rfl,Chg.refl _ _,by simp,fun _=>none,M22,fun s=>by simp⟩ ?_ ?_ ?_ (fun _ _ _ _ _ _ _ h=>h.elim)
 ·rintro pre S1 W W' ⟨i1,i2,i3,f2,i4,i5⟩ hc
  exact ⟨i1,q36 i2 hc fun k hk=>hk.1,i3,f2,i4.chg hc (fun hh=>hh.2 ((i1 _).2 (.inl rfl))),i5⟩
 ·rintro S1 W W' ⟨i1,i2,i3,i4⟩ hc
  exact ⟨i1,q36 i2 hc fun k hk=>hk.1,hc.blk i3 (fun hh=>hh.2 ((i1 _).2 (.inr rfl))),i4⟩
 ·rintro pre x vs S1 W l rfl hpre hl1 hl2 hl3 hS1 ⟨i1,i2,i3,f2,i4,i5⟩
  refine Eq.mpr (qps base _ _ _ _ _ _ _ _ _ _ _ _ _) ?_
  refine ⟨Below.refl _ _,fun W2 hU=>?_⟩
  have zU:=hU.size
  have zW:=i2.size
  have n15:b15≠l:=fun hh=>hl3 ((i1 l).2 (.inl hh.symm))
  have n5:b5≠l:=fun hh=>hl3 ((i1 l).2 (.inr hh.symm))
  have hUc:Chg (fun k=>k=l) W W2:=⟨hU.os,hU.tape,hU.output,by omega,fun k _ hk=>hU.block k hk⟩
  have c2:Chg (fun k=>k=b15) w22 W2:=q36 i2 hUc fun k hk=>by omega
  have M2:=i4.chg hUc n15
  have B17W:=c2.blk B1722 (by omega)
  have B5W:=c2.blk B522 (by have:=E6.size;omega)
  have hxm:x.1∈secs f:=by
   rw [← qc8 f 0]
   exact List.mem_map_of_mem (hpre.subset (by simp))
  have hxl:x.1.length≤4611686018427387904:=by
   have:=q1w hok x.1 hxm
   unfold qaa at this
   simp only [Bool.and_eq_true,decide_eq_true_eq] at this
   omega
  have hpl:pre.length + 1≤4096:=by
   have h1:=hpre.length_le
   have h2:=congrArg List.length (qc8 f 0)
   simp at h1 h2
   omega
  have hlk:=M2.look2 kd9 (t:=130) (e:=3) (by kernel_rfl) (z:=.int .i64 0) (qvr (by kernel_rfl) W2) (keyS hxl)
  refine dr_ok ⟨_,B17W.cell 0,(f2 x.1).getD 0,(f2 x.1).isSome,?_,?_⟩
  ·cases hf2:f2 x.1 with
   | none=>rw [hf2] at hlk;exact hlk
   | some v=>rw [hf2] at hlk;exact hlk
  rw [i5]
  refine qd (fun gm=>?_) (fun gm=>?_)
  ·refine dr_ok (qr B5W rfl fun w27 q1 q2 q3=>?_)
   refine ⟨q2.mono fun k _ hk=>.inl ((i1 k).2 (.inr hk)),S1,fun k hk=>⟨.inl hk,?_⟩,i1,(c2.mono fun k _ hk=>.inl hk).trans (q2.mono fun k _ hk=>.inr hk),q1,?_⟩
   ·have:=(hS1 k hk).1;omega
   ·intro hn
    rw [← qc8 f 0] at hn
    obtain ⟨t,ht⟩:=hpre
    rw [← ht,List.map_append,List.map_append] at hn
    have:=(List.nodup_append.1 (List.nodup_append.1 hn).1).2.2
    exact this x.1 gm x.1 (by simp) rfl
  ·refine dr_ok ⟨_,B17W.cell 0,?_⟩
   refine MapT.update (eV:=eI) M2 kd9 (t:=130) (e:=3) (by kernel_rfl) (by simp only [maxLen];omega) (keyS hxl) (fun y hy=>by simpa using hy) fun w31 g31 M31 hc31 hv31 ho31=>?_
   have hc31':Chg (fun j=>j=b15) W2 w31:=hc31
   refine ⟨hc31'.mono fun k _ hk=>.inl ((i1 k).2 (.inl hk)),S1,fun k hk=>⟨.inl hk,?_⟩,i1,c2.trans hc31',?_,g31,by simpa using M31,fun s=>?_⟩
   ·have:=(hS1 k hk).1;have:=hc31'.size;omega
   ·rw [List.map_append,List.nodup_append]
    refine ⟨i3,by simp,fun p hp q hq hpq=>gm ?_⟩
    rw [List.map_singleton,List.mem_singleton] at hq
    rw [← hq,← hpq];exact hp
   ·by_cases hsx:s=x.1
    ·rw [hsx,hv31];simp
    ·rw [ho31 s hsx,i5];simp [hsx]
 ·rintro D S1 W hD1 hD2 hD3 hD4 ⟨i1,i2,i3,f2,i4,i5⟩
  rw [qc8] at i3
  rw [if_pos i3] at w1
  have zW:=i2.size
  have B3W:=i2.blk B322 (by omega)
  have B5W:=i2.blk B522 (by omega)
  have nD:b5≠D:=fun hh=>hD3 ((i1 D).2 (.inr hh.symm))
  have EW:Ext w W:=qi E22 i2 fun k hk=>by have:=E6.size;omega
  have fin:∀ (W1:World) (e:Int),Ext W W1→e=witE (s,f)→W1.heap[D]? = some (.deferred (some []))→stL W1 ⟨b5,0,none⟩ 0 [.int .i64 e] fun w81=>retD [{ target:=.collected D,args:=#[] }] w81 fun w82=>∃ x83:Int,w82.cell? (⟨b5,0,none⟩:Addr)=some (.int .i64 x83)∧R (.returned (.int .i64 x83)) w82:=by
   intro W1 e he hh hD
   refine qr (B5W.ext he) rfl fun w81 q1 q2 q3=>?_
   have hD':w81.heap[D]? = some (.deferred (some [])):=(q2.block D (by have:=he.size;omega) (fun hh=>nD hh.symm)).trans hD
   refine qbm hD' ⟨_,(qct q1 nD _).cell 0,?_⟩
   rw [hh]
   exact h _ (qb9 (qi (qb EW he) q2 fun k hk=>by omega) (by omega) _)
  refine ⟨_,_,_,(blk2w B3W).2,?_⟩
  refine ⟨fun i W1 m=>∃ (p r:Fo),f=p.app r∧i=p.len∧m=r.len∧hdr p=0∧secs p=[]∧Ext W W1,⟨_,.nil,f,rfl,rfl,rfl,rfl,rfl,Below.refl _ _⟩,?_⟩
  rintro _ W1 m ⟨p,r,hpr,rfl,rfl,hp0,hps,he⟩ _
  have hnl:=hf.1
  have hD1':W1.heap[D]? = some (.deferred (some [])):=(he.block D hD2).trans hD4
  refine qd (fun hlt=>?_) (fun hge=>?_)
  ·obtain ⟨k,t,mm,ps,r,rfl⟩:=Fo.next hpr (by omega)
   have hsl:=Fo.sub_len hpr
   have e1:f=(p.app (.one k t mm ps)).app r:=by rw [Fo.app_one_app];exact hpr
   have hl1:(p.app (.one k t mm ps)).len=p.len + 1:=by simp [Fo.one]
   have i1':i64.wrap ((p.len:Int) + 1)=((p.app (.one k t mm ps)).len:Int):=by rw [qj (by omega),hl1]
   obtain ⟨q,a',c',hq,hSq,hql,hN⟩:=((hf.ext EW).ext he).get hpr
   have hwit:witE (s,f)=hdr (.cons k t mm ps r):=by rw [w1,hpr,qxs hp0 hps]
   have htl':t.length≤268435456:=by
    have:tlen f=tlen p + (t.length + tlen ps + tlen r):=by rw [hpr,qco];rfl
    omega
   refine hq _ ⟨k,hN.kind,t,hN.text,mm,hN.num,a',ps.len,c',hN.parts,?_⟩
   refine qw rfl one4w fun bx w40 hbx Bx e40 s40=>?_
   obtain ⟨y0,y1,_⟩:=blk4 Bx
   have he40:=qb he e40
   have hD40:w40.heap[D]? = some (.deferred (some [])):=(e40.block D (by have:=he.size;omega)).trans hD1'
   refine ⟨k,y0,qd (fun g4=>fin w40 0 he40 (by rw [hwit,hdr,if_pos g4]) hD40) (fun g4=>?_)⟩
   rw [hdr,if_neg g4] at hwit
   have hgo:(k=3∨k=2∨(k=1∧spc t=true))→∀ W2,Ext w40 W2→∃ m',m' < (Fo.cons k t mm ps r).len∧∃ (p' r':Fo),f=p'.app r'∧i64.wrap ((p.len:Int) + 1)=p'.len∧m'=r'.len∧hdr p'=0∧secs p'=[]∧Ext W W2:=by
    intro hk W2 he2
    refine ⟨r.len,by simp,_,r,e1,i1',rfl,?_,?_,qb he40 he2⟩
    ·rw [qxs hp0 hps];unfold Fo.one;rw [hdr,if_neg g4,if_pos hk];rfl
    ·rw [qe8,hps];unfold Fo.one;rw [secs,if_neg g4];rfl
   have hbad:¬ (k=3∨k=2∨(k=1∧spc t=true))→witE (s,f)=10:=fun hk=>by rw [hwit,if_neg hk]
   intro K84 hK84
   have hend:¬ (k=3∨k=2)→K84 false w40:=by
    intro hk
    refine hK84 false w40 fun _=>?_
    rw [br_f]
    refine ⟨k,y0,qd (fun g1'=>⟨t,y1,Trim_spec t (by omega) fun w91 e91=>⟨_,rfl,qd (fun g5=>?_) (fun g5=>?_)⟩⟩) (fun g1'=>?_)⟩
    ·exact hgo (.inr (.inr ⟨g1',(q98 t).1 g5⟩)) w91 e91
    ·refine fin w91 10 (qb he40 e91) (hbad ?_).symm ((e91.block D (by have:=he40.size;omega)).trans hD40)
     rintro (h3 | h3 | h3)
     ·exact hk (.inl h3)
     ·exact hk (.inr h3)
     ·exact g5 ((q98 t).2 h3.2)
    ·refine fin w40 10 he40 (hbad ?_).symm hD40
     rintro (h3 | h3 | h3)
     ·exact hk (.inl h3)
     ·exact hk (.inr h3)
     ·exact g1' h3.1
   refine ⟨k,y0,qd (fun g3'=>?_) (fun g3'=>⟨k,y0,?_⟩)⟩
   ·refine hK84 true w40 fun _=>?_
    rw [br_t]
    exact hgo (.inl g3') w40 (Below.refl _ _)
   ·by_cases g2':k=2
    ·rw [decide_eq_true g2']
     refine hK84 true w40 fun _=>?_
     rw [br_t]
     exact hgo (.inr (.inl g2')) w40 (Below.refl _ _)
    ·rw [decide_eq_false g2']
     exact hend fun hh=>hh.elim g3' g2'
  ·obtain ⟨rfl,rfl⟩:=Fo.last hpr (by omega)
   exact fin W1 0 he (by rw [w1,hp0]) hD1'
 ·rintro D S1 W hD1 hD2 hD3 hD4 ⟨i1,i2,i3,i4⟩
  have nD:b5≠D:=fun hh=>hD3 ((i1 D).2 (.inr hh.symm))
  refine qbm hD4 ⟨_,(qct i3 nD _).cell 0,?_⟩
  rw [if_neg i4] at w1
  rw [← w1]
  exact h _ (qb9 (qi E22 i2 fun k hk=>by have:=E6.size;omega) (by have:=E22.size;omega) _)
section
variable {R:Ending→World→Prop} {w:World}
theorem placeI_get {L:List (List UInt8)} {k:Nat} (hk:k < L.length):qxa L L[k]=(k:Int)↔L[k]∉L.take k:=by
 unfold qxa
 rw [if_pos (List.getElem_mem hk)]
 have h1:L=L.take k++L.drop k:=(List.take_append_drop k L).symm
 have h2:L.drop k=L[k] :: L.drop (k + 1):=List.drop_eq_getElem_cons hk
 constructor
 ·intro h hm
  have h4:L.idxOf L[k]=(L.take k).idxOf L[k]:=by
   conv=>lhs;arg 2;rw [h1]
   rw [List.idxOf_append,if_pos hm]
  have:=List.idxOf_lt_length_of_mem hm
  rw [List.length_take] at this
  omega
 ·intro h
  have h3:L.idxOf L[k]=k:=by
   conv=>lhs;arg 2;rw [h1]
   rw [List.idxOf_append,if_neg h,h2,List.idxOf_cons_self,List.length_take]
   omega
  rw [h3]
theorem qgw {S:Nat→Prop} {a:Option Addr} {n c:Nat} (s:List UInt8) (f:Fo) (hs:f.size≤1000000) (hf0:SlF S w a n f) (h:∀ w',Ext w w'→R (.returned (.int .i64 (witE (s,f)))) w') :
  Calls prog qra ⟨[.agg ⟨[.string ⟨⟨s⟩⟩,.slice a n c]⟩]⟩ w R:=by
 apply q4a
 have hf:SlF (fun k=>S k∧k < w.heap.size) w a n f:=hf0.imp fun k hk hl=>⟨hk,hl⟩
 refine qh fun b3 w4 hb3 B3 e4 s4=>?_
 obtain ⟨x0,x1⟩:=blk2w B3
 intro K5 hK
 have ret:∀ (e:Int) (w':World),Ext w4 w'→(e=witE (s,f))→R (.returned (.int .i64 e)) w':=by
  intro e w' he hh
  rw [hh]
  exact h w' (qb e4 he)
 refine ⟨s,x0,qt2 s fun w54 e54=>⟨_,rfl,ql (fun g=>?_) (fun g=>⟨s,(blk2w (B3.ext e54)).1,qd (fun g2=>?_) (fun g2=>?_)⟩)⟩⟩
 ·exact ret 14 _ e54 (by unfold witE;rw [if_pos (.inl (by simpa using g))])
 ·exact ret 14 _ e54 (by unfold witE;rw [if_pos (.inr (by simp only;omega))])
 have hname:qaa s=true:=by simpa using g
 have w1:witE (s,f)=if qak f≠0 then 1 else if (secs f).Nodup then hdr f else 7:=by
  unfold witE;rw [if_neg (by rw [hname];simp only;simp;omega)]
 have E54:=qb e4 e54
 refine hK w54 fun _=>⟨_,_,_,(blk2w (B3.ext e54)).2,qug f (hf.ext E54) fun w9 e9=>⟨_,rfl,qd (fun g3=>?_) (fun g3=>?_)⟩⟩
 ·exact ret 1 _ (qb e54 e9) (by rw [w1,if_pos g3])
 have hc0:qak f=0:=Decidable.not_not.1 g3
 rw [if_neg (by rw [hc0];simp)] at w1
 obtain ⟨hsz,_,htl⟩:=qcz hc0
 have e49:=qb e54 e9
 have E9:=qb E54 e9
 refine ⟨_,_,_,(blk2w (B3.ext e49)).2,qjy f hs (hf.ext E9) fun an nn nc w13 hO e13=>⟨_,_,_,rfl,?_⟩⟩
 have hL:=OwnL.out hO
 have hln:=hL.1
 have hfl:=f.len_le_size
 have hsl:=qk6 f
 have e413:=qb e49 e13
 refine ⟨fun i W m=>∃ k:Nat,i=k∧k≤nn∧m=nn - k∧((secs f).take k).Nodup∧Ext w13 W,⟨_,0,rfl,by omega,rfl,by simp,Below.refl _ _⟩,?_⟩
 rintro _ W m ⟨k,rfl,hk,rfl,hz,he⟩ _
 refine qd (fun hlt=>?_) (fun hge=>?_)
 ·have hkl:k < (secs f).length:=by omega
  obtain ⟨q,hq,c0⟩:=qei (hL.ext he) hkl
  have htk:(secs f).take (k + 1)=(secs f).take k++[(secs f)[k]]:=List.take_succ_eq_append_getElem hkl
  have hpl:=placeI_get hkl
  refine hq _ ⟨_,c0,q13 (secs f) _ (hL.ext he) (by omega) ⟨_,rfl,qd (fun g4=>?_) (fun g4=>?_)⟩⟩
  ·refine ret 7 W (qb e413 he) ?_
   rw [w1,if_neg]
   intro hn
   have h2:((secs f).take (k + 1)).Nodup:=hn.sublist (List.take_sublist _ _)
   rw [htk,List.nodup_append] at h2
   exact g4 (hpl.2 fun hm=>h2.2.2 _ hm _ (by simp) rfl)
  ·refine ⟨nn - (k + 1),by omega,k + 1,by rw [qj (by omega)],by omega,rfl,?_,he⟩
   rw [htk,List.nodup_append]
   refine ⟨hz,by simp,fun p hp q hq hpq=>hpl.1 (Decidable.not_not.1 g4) ?_⟩
   rw [List.mem_singleton] at hq
   rw [← hq,← hpq];exact hp
 ·rw [List.take_of_length_le (by omega)] at hz
  rw [if_pos hz] at w1
  refine ⟨fun i W1 m=>∃ (p r:Fo),f=p.app r∧i=p.len∧m=r.len∧hdr p=0∧secs p=[]∧Ext W W1,⟨_,.nil,f,rfl,rfl,rfl,rfl,rfl,Below.refl _ _⟩,?_⟩
  rintro _ W1 m ⟨p,r,hpr,rfl,rfl,hp0,hps,he1⟩ _
  have hnl:=hf.1
  have E1:=qb (qb e413 he) he1
  have X1:=(blk2w (B3.ext E1)).2
  refine ⟨_,_,_,X1,qd (fun hlt=>⟨_,_,_,X1,?_⟩) (fun hge=>?_)⟩
  ·obtain ⟨k,t,mm,ps,r,rfl⟩:=Fo.next hpr (by omega)
   have hsl:=Fo.sub_len hpr
   have e1:f=(p.app (.one k t mm ps)).app r:=by rw [Fo.app_one_app];exact hpr
   have hl1:(p.app (.one k t mm ps)).len=p.len + 1:=by simp [Fo.one]
   have i1':i64.wrap ((p.len:Int) + 1)=((p.app (.one k t mm ps)).len:Int):=by rw [qj (by omega),hl1]
   obtain ⟨q,a',c',hq,hSq,hql,hN⟩:=(hf.ext (qb e4 E1)).get hpr
   have hwit:witE (s,f)=hdr (.cons k t mm ps r):=by rw [w1,hpr,qxs hp0 hps]
   have htl':t.length≤268435456:=by
    have:tlen f=tlen p + (t.length + tlen ps + tlen r):=by rw [hpr,qco];rfl
    omega
   refine hq _ ⟨k,hN.kind,t,hN.text,mm,hN.num,a',ps.len,c',hN.parts,?_⟩
   refine qw rfl one4w fun bx w40 hbx Bx e40 s40=>?_
   obtain ⟨y0,y1,_⟩:=blk4 Bx
   have E40:=qb E1 e40
   refine ⟨k,y0,qd (fun g4=>ret 0 w40 E40 (by rw [hwit,hdr,if_pos g4])) (fun g4=>?_)⟩
   rw [hdr,if_neg g4] at hwit
   have hgo:(k=3∨k=2∨(k=1∧spc t=true))→∃ m',m' < (Fo.cons k t mm ps r).len∧∃ (p' r':Fo),f=p'.app r'∧i64.wrap ((p.len:Int) + 1)=p'.len∧m'=r'.len∧hdr p'=0∧secs p'=[]∧Ext W w40:=by
    intro hk
    refine ⟨r.len,by simp,_,r,e1,i1',rfl,?_,?_,qb he1 e40⟩
    ·rw [qxs hp0 hps];unfold Fo.one;rw [hdr,if_neg g4,if_pos hk];rfl
    ·rw [qe8,hps];unfold Fo.one;rw [secs,if_neg g4];rfl
   have hbad:¬ (k=3∨k=2∨(k=1∧spc t=true))→R (.returned (.int .i64 10)) w40:=fun hk=>ret 10 w40 E40 (by rw [hwit,if_neg hk])
   refine ⟨k,y0,qd (fun g3'=>⟨k,y0,qd (fun g2'=>⟨k,y0,qd (fun g1'=>?_) (fun g1'=>⟨t,y1,q78 t (by omega) ⟨_,rfl,ql (fun g5=>?_) (fun g5=>?_)⟩⟩)⟩) (fun g2'=>hgo (.inr (.inl (Decidable.not_not.1 g2'))))⟩) (fun g3'=>hgo (.inl (Decidable.not_not.1 g3')))⟩
   ·refine hbad ?_
    rintro (h3 | h3 | h3)
    ·exact g3' h3
    ·exact g2' h3
    ·exact g1' h3.1
   ·refine hbad ?_
    rintro (h3 | h3 | h3)
    ·exact g3' h3
    ·exact g2' h3
    ·rw [h3.2] at g5;cases g5
   ·exact hgo (.inr (.inr ⟨Decidable.not_not.1 g1',by simpa using g5⟩))
  ·obtain ⟨rfl,rfl⟩:=Fo.last hpr (by omega)
   exact ret 0 W1 E1 (by rw [w1,hp0])
def chkW (L:List Wt):Int:=if 32 < L.length then 4 else if (L.any fun x=>decide (witE x≠0))=true then 1 else 0
theorem q60 {S:Nat→Prop} {a:Option Addr} {n c:Nat} (x:Wt) (hs:small x.2) (hF:Forms w) (hf:SlF S w a n x.2) (h:∀ w',Ext w w'→R (.returned (.bool (decide (witE x≠0)))) w') :
  Calls prog qeb ⟨[.agg ⟨[.string ⟨⟨x.1⟩⟩,.slice a n c]⟩]⟩ w R:=by
 apply qss
 refine qh fun b3 w4 hb3 B3 e4 s4=>?_
 obtain ⟨x0,x1⟩:=blk2w B3
 exact ⟨_,x0,_,_,_,x1,qew x.1 x.2 hs (hF.ext e4) (hf.ext e4) fun w8 e8=>⟨_,rfl,h w8 (qb e4 e8)⟩⟩
theorem q1p {S:Nat→Prop} {a:Option Addr} {n c:Nat} (l:List Wt) (q:Wt→Bool) (fn:FuncId) (hok:okFn prog fn=true) (hF:Forms w)
  (hp:∀ {R:Ending→World→Prop} {v:World} {S:Nat→Prop} {a:Option Addr} {n c:Nat} (x:Wt),x∈l→Forms v→SlF S v a n x.2→(∀ v',Ext v v'→R (.returned (.bool (q x))) v')→Calls prog fn ⟨[.agg ⟨[.string ⟨⟨x.1⟩⟩,.slice a n c]⟩]⟩ v R)
  (hR:SlW S w a n l) (hn:n≤4611686018427387904) (h:∀ w',Ext w w'→R (.returned (.bool (l.any q))) w'):Calls prog F_slices_ContainsFunc_of_api_Witness_api_Witness ⟨[.slice a n c,.func (.func fn) #[] #[]]⟩ w R:=by
 apply c_slices_ContainsFunc_of_api_Witness_api_Witness
 apply c_slices_IndexFunc_of_api_Witness_api_Witness
 have hln:=hR.1
 refine ⟨fun i W m=>∃ k:Nat,i=k∧k≤n∧m=n - k∧Ext w W∧(l.take k).any q=false,⟨_,0,rfl,by omega,rfl,Below.refl _ _,rfl⟩,?_⟩
 rintro _ W m ⟨k,rfl,hk,rfl,he,hz⟩ _
 refine qd (fun hlt=>?_) (fun hge=>?_)
 ·have hkl:k < l.length:=by omega
  obtain ⟨p,a',c',hq,c0,c1,hf⟩:=(hR.ext he).get (show l[k]? = some l[k] by simp [hkl])
  refine hq _ ⟨_,c0,_,_,_,c1,hok,?_⟩
  refine hp l[k] (List.getElem_mem hkl) (hF.ext he) hf fun w16 e16=>⟨_,rfl,ql (fun g=>?_) (fun g=>?_)⟩
  ·refine ⟨_,rfl,?_⟩
   have:l.any q=true:=List.any_eq_true.2 ⟨l[k],List.getElem_mem hkl,g⟩
   rw [decide_eq_true (show (0:Int)≤(k:Int) by omega),← this]
   exact h w16 (qb he e16)
  ·refine ⟨n - (k + 1),by omega,k + 1,by rw [qj (by omega)],by omega,rfl,qb he e16,?_⟩
   rw [List.take_succ_eq_append_getElem hkl,List.any_append,hz];simp [g]
 ·rw [List.take_of_length_le (by omega)] at hz
  rw [hz] at h
  exact ⟨_,rfl,h W he⟩
theorem qx5 {S:Nat→Prop} {a:Option Addr} {n c:Nat} (l:List Wt) (hs:∀ x∈l,small x.2) (hF:Forms w) (hR:SlW S w a n l) (h:∀ w',Ext w w'→R (.returned (.int .i64 (chkW l))) w') :
  Calls prog qkq ⟨[.slice a n c]⟩ w R:=by
 apply qx7
 have hln:=hR.1
 unfold chkW at h
 refine qd (fun g=>?_) (fun g=>?_)
 ·rw [if_pos (by omega)] at h;exact h w (Below.refl _ _)
 ·rw [if_neg (by omega)] at h
  refine q1p l (fun x=>decide (witE x≠0)) qeb (by kernel_rfl) hF (fun x hx hF' hf' h'=>q60 x (hs x hx) hF' hf' h') hR (by omega) fun w' he=>⟨_,rfl,ql (fun g2=>?_) (fun g2=>?_)⟩
  ·rw [if_pos g2] at h;exact h w' he
  ·rw [if_neg (by rw [g2];simp)] at h;exact h w' he
def q3u (l:List Wt):Bool:=if 35 < l.length then true else l.any fun x=>qiu x||(decide (4 < l.length)&&(decide (l.length≤32)||decide (0 < x.2.len)))
theorem q3v {S:Nat→Prop} {a:Option Addr} {n c:Nat} (l:List Wt) (hR:SlW S w a n l) (h:∀ w',Ext w w'→R (.returned (.bool (q3u l))) w') :
  Calls prog qq9 ⟨[.slice a n c]⟩ w R:=by
 apply q39
 have hln:=hR.1
 unfold q3u at h
 refine qd (fun g=>?_) (fun g=>?_)
 ·rw [if_pos (by omega)] at h;exact h w (Below.refl _ _)
 rw [if_neg (by omega)] at h
 refine ⟨fun i W m=>∃ k:Nat,i=k∧k≤n∧m=n - k∧Ext w W∧((l.take k).any fun x=>qiu x||(decide (4 < l.length)&&(decide (l.length≤32)||decide (0 < x.2.len))))=false,⟨_,0,rfl,by omega,rfl,Below.refl _ _,rfl⟩,?_⟩
 rintro _ W m ⟨k,rfl,hk,rfl,he,hz⟩ _
 refine qd (fun hlt=>?_) (fun hge=>?_)
 ·have hkl:k < l.length:=by omega
  obtain ⟨p,a',c',hq,c0,c1,hf⟩:=(hR.ext he).get (show l[k]? = some l[k] by simp [hkl])
  have yes:(qiu l[k]||(decide (4 < l.length)&&(decide (l.length≤32)||decide (0 < l[k].2.len))))=true→∀ v,Ext w v→R (.returned (.bool true)) v:=fun hh v hv=>by
   have:(l.any fun x=>qiu x||(decide (4 < l.length)&&(decide (l.length≤32)||decide (0 < x.2.len))))=true:=List.any_eq_true.2 ⟨l[k],List.getElem_mem hkl,hh⟩
   rw [this] at h;exact h v hv
  refine hq _ ⟨_,_,_,c1,Great_spec hf fun w10 e10=>⟨_,rfl,ql (fun g1=>yes (by unfold qiu;rw [g1];rfl) _ (qb he e10)) (fun g1=>?_)⟩⟩
  have he10:=qb he e10
  obtain ⟨p,a',c',hq,c0,c1,hf⟩:=(hR.ext he10).get (show l[k]? = some l[k] by simp [hkl])
  have go:(qiu l[k]||(decide (4 < l.length)&&(decide (l.length≤32)||decide (0 < l[k].2.len))))=false→∃ m',m' < n - k∧∃ k':Nat,i64.wrap ((k:Int) + 1)=k'∧k'≤n∧m'=n - k'∧Ext w w10∧((l.take k').any fun x=>qiu x||(decide (4 < l.length)&&(decide (l.length≤32)||decide (0 < x.2.len))))=false:=by
   intro hh
   refine ⟨n - (k + 1),by omega,k + 1,by rw [qj (by omega)],by omega,rfl,he10,?_⟩
   rw [List.take_succ_eq_append_getElem hkl,List.any_append,hz]
   simpa using hh
  refine hq _ ⟨_,c0,qd (fun g2=>yes ?_ _ he10) (fun g2=>qd (fun g4=>qd (fun g5=>yes ?_ _ he10) (fun g5=>hq _ ⟨_,_,_,c1,qd (fun g6=>yes ?_ _ he10) (fun g6=>go ?_)⟩)) (fun g4=>go ?_))⟩
  ·unfold qiu;rw [decide_eq_true (by omega)];simp
  ·rw [decide_eq_true (show 4 < l.length by omega),decide_eq_true (show l.length≤32 by omega)];simp
  ·rw [decide_eq_true (show 4 < l.length by omega),decide_eq_true (show 0 < l[k].2.len by omega)];simp
  ·unfold qiu;rw [g1,decide_eq_false (by omega),decide_eq_false (show ¬ l.length≤32 by omega),decide_eq_false (show ¬ 0 < l[k].2.len by omega)];simp
  ·unfold qiu;rw [g1,decide_eq_false (by omega),decide_eq_false (show ¬ 4 < l.length by omega)];simp
 ·rw [List.take_of_length_le (by omega)] at hz
  rw [hz] at h
  exact h W he
def secR (x:Wt):List (List UInt8):=if witE x=0 then secs x.2 else []
def secE (x:Wt):Int:=if witE x=0 then 0 else 1
theorem qk5 {x:Wt} (h:witE x=0):x.2.size≤4096:=by
 unfold witE at h
 split at h
 ·cases h
 split at h
 ·cases h
 ·rename_i h2;exact (qcz (Decidable.not_not.1 h2)).1
theorem qq3 {S:Nat→Prop} {a:Option Addr} {n c:Nat} (x:Wt) (hs:small x.2) (hF:Forms w) (hf:SlF S w a n x.2) (h:∀ a' n' c' w',OwnL Sh.encStr w' w.heap.size 9 a' n' c' (secR x)→Ext w w'→R (.returned (.tuple ⟨[.slice a' n' c',.int .i64 (secE x)]⟩)) w') :
  Calls prog qgj ⟨[.agg ⟨[.string ⟨⟨x.1⟩⟩,.slice a n c]⟩]⟩ w R:=by
 apply qp2
 refine qh fun b3 w4 hb3 B3 e4 s4=>?_
 obtain ⟨x0,x1⟩:=blk2w B3
 refine ⟨_,x0,_,_,_,x1,qew x.1 x.2 hs (hF.ext e4) (hf.ext e4) fun w8 e8=>⟨_,rfl,qd (fun g=>?_) (fun g=>?_)⟩⟩
 ·have h1:secR x=[]:=if_neg g
  have h2:secE x=1:=if_neg g
  rw [h1,h2] at h
  exact h none 0 0 w8 (Owns.nil _ _ _ _) (qb e4 e8)
 ·have g0:witE x=0:=Decidable.not_not.1 g
  have h1:secR x=secs x.2:=if_pos g0
  have h2:secE x=0:=if_pos g0
  rw [h1,h2] at h
  have E8:=qb e4 e8
  have:=qk5 g0
  refine ⟨_,_,_,(blk2w (B3.ext e8)).2,qsg x.2 (by omega) (hf.ext E8) fun a' n' c' w' hO he=>⟨_,_,_,rfl,h a' n' c' w' (Owns.weak hO E8.size) (qb E8 he)⟩⟩
theorem qy1 {S:Nat→Prop} {a:Option Addr} {n c:Nat} (x:Wt) (hs:x.2.size≤1000000) (hf:SlF S w a n x.2) (h:∀ a' n' c' w',OwnL Sh.encStr w' w.heap.size 9 a' n' c' (secR x)→Ext w w'→R (.returned (.tuple ⟨[.slice a' n' c',.int .i64 (secE x)]⟩)) w') :
  Calls prog qi2 ⟨[.agg ⟨[.string ⟨⟨x.1⟩⟩,.slice a n c]⟩]⟩ w R:=by
 apply qu6
 refine qh fun b3 w4 hb3 B3 e4 s4=>?_
 obtain ⟨x0,x1⟩:=blk2w B3
 refine ⟨_,x0,_,_,_,x1,qgw x.1 x.2 hs (hf.ext e4) fun w8 e8=>⟨_,rfl,qd (fun g=>?_) (fun g=>?_)⟩⟩
 ·have h1:secR x=[]:=if_neg g
  have h2:secE x=1:=if_neg g
  rw [h1,h2] at h
  exact h none 0 0 w8 (Owns.nil _ _ _ _) (qb e4 e8)
 ·have g0:witE x=0:=Decidable.not_not.1 g
  have h1:secR x=secs x.2:=if_pos g0
  have h2:secE x=0:=if_pos g0
  rw [h1,h2] at h
  have E8:=qb e4 e8
  refine ⟨_,_,_,(blk2w (B3.ext e8)).2,qjy x.2 hs (hf.ext E8) fun a' n' c' w' hO he=>⟨_,_,_,rfl,h a' n' c' w' (Owns.weak hO E8.size) (qb E8 he)⟩⟩
end
end Go.Proofs
