/- The contracts of the functions that the law reaches, one after the other, and at the end the law's card. -/
import Derived.Test.YtkecgnlelgdndaaGreatDoorLawJ
set_option linter.all false
set_option maxRecDepth 20000
namespace Go.Proofs
open Go Go.Sh Go.RowKit Go.Proofs.Tryz IntKind
def catP (f:Fo) (l:List Nm):List Ps:=l.flatMap fun s=>posL (posS f s) (qj (bodyS f s))
theorem catP_snoc (f:Fo) (l:List Nm) (s:Nm):catP f (l++[s])=catP f l++posL (posS f s) (qj (bodyS f s)):=by
 unfold catP;rw [List.flatMap_append];simp
theorem q7s (p:Ps) (t:Nm) (n:Int) (r:Fo):posL p (qj (.cons 4 t n .nil r))=posL p (qj r):=by
 rw [qj,qj,List.nil_append,posL]
 have:posN p ⟨4,t,n,.nil⟩=(p,0):=by unfold posN;simp
 rw [this];rfl
theorem q9d (p:Ps) (t:Nm) (n:Int):wkF p (.one 4 t n .nil)=p:=by
 rw [wkF_one,posN_o _ _ _ _ (by decide) (by decide)];rfl
theorem qq7 (f:Fo):∀ (r pre:Fo),f=pre.app r→okF false f→(secs f).Nodup→catP f (secs r)=posL (wkF ([],0) (pre.app (bodyF r))) (qj (fromS r))
 | .nil,_,_,_,_=>rfl
 | .cons k t n ps r,pre,hf,hok,hn=>by
  have ih:=qq7 f r (pre.app (.one k t n ps)) (by rw [hf,Fo.app_one_app]) hok hn
  rw [secs,bodyF,fromS]
  by_cases hk:k=4
  ·subst hk
   rw [if_pos rfl,if_pos rfl,if_pos rfl,List.singleton_append,Fo.app_nil]
   have hok':=(okF_app.1 (hf ▸ hok)).2
   obtain ⟨rfl,rfl,_⟩:=sec_node hok'.1
   have hpre:t∉secs pre:=by
    rw [hf,qeu,secs,if_pos rfl] at hn
    intro hm
    exact (List.nodup_append.1 hn).2.2 t hm t (by simp) rfl
   have hcut:cutS f t=some (pre,r):=cutS_at hf hpre
   have hb:bodyS f t=bodyF r:=by unfold bodyS;rw [hcut]
   have hp:posS f t=wkF ([],0) pre:=by unfold posS preS;rw [hcut]
   have e1:catP f (t :: secs r)=posL (posS f t) (qj (bodyS f t))++catP f (secs r):=rfl
   rw [e1,ih,hb,hp,q7s]
   conv=>rhs;rw [← qbb r,qmg,qxi]
   rw [q9e,q9e,q9d];rfl
  ·rw [if_neg hk,if_neg hk,if_neg hk,List.nil_append,ih,Fo.app_one_app]
theorem rowE_cut {α:Type} {E:Enc α} {S:Nat→Prop} {w:World} {a:Option Addr} {n c:Nat} {L:List α} (h:RowAt E S w a n L) (hc:n≤c) {k:Nat} (hk:k≤n) {K:Option Addr→Nat→Nat→Prop}
  (hK:∀ a' c',RowAt E S w a' (n - k) (L.drop k)→K a' (n - k) c'):sls a c (k:Int) (n:Int) E.size K:=by
 obtain ⟨hn,hat⟩:=h
 refine ⟨by omega,by omega,by omega,?_⟩
 rw [Int.toNat_natCast,Int.toNat_natCast]
 refine hK _ _ ⟨by rw [List.length_drop];omega,?_⟩
 by_cases h0:L.drop k=[]
 ·rw [h0];exact .inl rfl
 have hkl:k < L.length:=by
  apply Decidable.byContradiction
  intro hh
  exact h0 (List.drop_eq_nil_of_le (by omega))
 have hlen:(E.row (L.take k)).length=k * E.size:=by
  have:∀ l:List α,(E.row l).length=l.length * E.size:=by
   intro l
   induction l with
   | nil=>simp
   | cons x l ih=>rw [qfq,List.length_append,ih,E.len,List.length_cons,Nat.add_mul];omega
  rw [this,List.length_take,Nat.min_eq_left (by omega)]
 have hrow:E.row L=E.row (L.take k)++E.row (L.drop k):=by rw [← q9u,List.take_append_drop]
 rcases hat with hat | ⟨b,o,rfl,hS,hb,hcell⟩
 ·rw [hrow] at hat
  have:=List.append_eq_nil_iff.1 hat
  exact .inl this.2
 ·refine .inr ⟨b,o + k * E.size,?_,hS,hb,fun j v hj=>?_⟩
  ·unfold slA;rw [if_neg (by omega)];simp [qg]
  ·have hj2:(E.row L)[k * E.size + j]? = some v:=by
    rw [hrow,List.getElem?_append_right (by omega),hlen,Nat.add_sub_cancel_left];exact hj
   have:=hcell _ _ hj2
   rw [← Nat.add_assoc] at this;exact this
theorem cleanF_of {f:Fo} (h:clean f):qrq f=true:=by
 have h1:=(qzu f).1 h
 unfold qrq
 rw [List.all_eq_true]
 intro x hx
 have:=List.any_eq_false.1 h1 x hx
 unfold corrN at this
 unfold qvo
 simp only [decide_eq_true_eq,not_or] at this
 simp [this.1,this.2]
theorem fine_pat {f:Fo} (h:FineW f) (hc:clean f):patE f=0:=by
 have h1:errU f=0:=by unfold errU;rw [if_neg (by rw [h.check];simp),if_pos (cleanF_of hc)]
 have h2:=qgs f (qi4 h.ok)
 have h3:=h.size
 have h4:=h.tl
 unfold patE
 rw [if_neg (by rw [h1];simp),if_neg (by omega)]
theorem fine_pos {f:Fo} {p:Ps} (h:FineW f) (hc:clean f) (hp:plOk p) (h2:p.2≤4096):posE p f=0:=by
 unfold posE
 have:¬ (p.1≠[]∧qp p.1=false):=fun hh=>by
  rcases hp.2 with h1 | h1
  ·exact hh.1 h1
  ·rw [h1] at hh;cases hh.2
 rw [if_neg (by rw [fine_pat h hc];simp),if_neg this,if_neg (by have:=hp.1;omega)]
theorem posS_ok {f:Fo} (h:FineW f) (s:Nm):plOk (posS f s)∧(posS f s).2≤40:=by
 have hp:=h.pre s
 have h0:plOk (([],0):Ps):=⟨by decide,.inl rfl⟩
 refine ⟨q5j hp.ok h0,?_⟩
 obtain ⟨h1,_,_⟩:=qrp (preS f s) ([],0) (by decide)
 have h2:=qxp 2 (preS f s)
 have h3:=hp.size
 have h1:(posS f s).2≤0 + (cntF 2 (preS f s):Int):=h1
 omega
theorem clean_bodyF {f:Fo} (h:clean f):clean (bodyF f):=by
 rw [← qbb f] at h
 exact (clean_app.1 h).1
section
variable {R:Ending→World→Prop} {w:World}
theorem pos1_spec (k:Int) (t:Nm) (m:Int) (a:Option Addr) (n c:Nat) (h:∀ v',Ext w v'→R (.returned (.bool (decide (k=4)))) v'):Calls prog F_law16_WitnessPositions_1 ⟨[.agg ⟨[.int .i64 k,.string ⟨⟨t⟩⟩,.int .i64 m,.slice a n c]⟩]⟩ w R:=by
 apply c_law16_WitnessPositions_1
 exact qh fun b5 w6 hb5 B5 e6 s6=>⟨_,(blk4 B5).1,h w6 e6⟩
theorem WitnessPositions_spec {S:Nat→Prop} {a:Option Addr} {c:Nat} (x:Wt) (hand:Int) (hh:0≤hand∧hand < 256) (hF:Forms w) (hM:Mk w) (hf0:SlF S w a x.2.len x.2) (h:∀ w',Ext w w'→R (.returned (.bool true)) w') :
  Calls prog F_law16_WitnessPositions ⟨[.agg ⟨[.string ⟨⟨x.1⟩⟩,.slice a x.2.len c]⟩,.int .u8 hand]⟩ w R:=by
 apply c_law16_WitnessPositions
 have hf:SlF (fun k=>S k∧k < w.heap.size) w a x.2.len x.2:=hf0.imp fun k hk hl=>⟨hk,hl⟩
 have aw:∀ {v:World},Ext w v→Calls prog qjh ⟨[]⟩ v fun e w'=>∃ y:Bool,e=.returned (.bool y)∧R (.returned (.bool y)) w':=fun hv =>
  q8r (hF.ext hv) (hM.ext hv) fun w3 e3=>⟨_,rfl,h w3 (qb hv e3)⟩
 obtain ⟨hw9,h90,h98⟩:=mod9 hh.1 hh.2
 unfold sh_law16_WitnessPositions
 rw [hw9]
 refine qh fun b4 w5 hb4 B4 e5 s5=>?_
 obtain ⟨x0,x1⟩:=blk2w B4
 refine ⟨by decide,_,x0,_,_,_,x1,qh fun b8 w9 hb8 B8 e9 s9=>?_⟩
 have E9:=qb e5 e9
 refine fineW_spec [x] (hF.ext E9) (q39 B8 (hf.ext E9)) (by omega) fun w11 e11=>⟨_,rfl,qm (fun g=>aw (qb E9 e11)) (fun g=>?_)⟩
 have hx:OkW x:=fine_ok (by simpa using g) x (List.mem_singleton.2 rfl)
 have E11:=qb E9 e11
 have e511:=qb e9 e11
 generalize hand.tmod 9=hd at *
 obtain ⟨y0,y1⟩:=blk2w (B4.ext e511)
 have hsm:=hx.fine.small
 have sR:secR x=secs x.2:=by unfold secR;rw [if_pos hx.wit]
 have sE:secE x=0:=by unfold secE;rw [if_pos hx.wit]
 refine ⟨_,y0,_,_,_,y1,qsw x hsm (hF.ext E11) (hf.ext E11) fun na nn nc w19 hN e19=>⟨_,_,_,_,rfl,?_⟩⟩
 rw [sR] at hN
 rw [sE]
 have E19:=qb E11 e19
 have e519:=qb e511 e19
 refine ⟨_,_,_,(blk2w (B4.ext e519)).2,q0r x.2 hd hsm (hF.ext E19) (hf.ext E19) fun sa sn sc w24 hcap hS e24=>⟨_,_,_,_,rfl,?_⟩⟩
 rw [hx.fine.resS h90 h98] at hS
 rw [hx.fine.err h90 h98]
 have E24:=qb E19 e24
 have e524:=qb e519 e24
 have hfine:=hx.fine.st hd
 have hcl:=hx.fine.clean hd
 have hsec:secs (stF x.2 hd)=secs x.2:=secs_stF hx.fine.ok hd
 have hnod:=hx.nodup
 have hNR:=(OwnL.out (E:=Sh.encStr) hN).ext e24
 have hnn:=hNR.1
 have hslen:=qq0 x.2
 have hxl:=x.2.len_le_size
 have hxs:=hx.fine.size
 have hfs:=hfine.size
 have hfll:=(stF x.2 hd).len_le_size
 intro K27 hK27
 refine qd (fun g=>absurd rfl g) (fun _=>qd (fun g=>absurd rfl g) (fun _=>hK27 w24 fun _=>?_))
 refine q0t ([],0) (stF x.2 hd) hfine.small (hF.ext E24) hS fun wa wc w30 hwc hW e30=>⟨_,_,_,_,rfl,qd (fun _=>aw (qb E24 e30)) (fun g=>?_)⟩
 have g0:posE ([],0) (stF x.2 hd)=0:=Decidable.not_not.1 g
 have hposR:posR ([],0) (stF x.2 hd)=posL ([],0) (qj (stF x.2 hd)):=by unfold posR;rw [if_neg (by rw [g0];simp)]
 rw [hposR] at hW hwc ⊢
 have E30:=qb E24 e30
 have e530:=qb e524 e30
 have hlaw:=qq7 (stF x.2 hd) (stF x.2 hd) .nil rfl hfine.ok (by rw [hsec];exact hnod)
 rw [hsec,Fo.nil_app] at hlaw
 have hsplit:posL ([],0) (qj (stF x.2 hd))=posL ([],0) (qj (bodyF (stF x.2 hd)))++posL (wkF ([],0) (bodyF (stF x.2 hd))) (qj (fromS (stF x.2 hd))):=by
  conv=>lhs;rw [← qbb (stF x.2 hd),qmg,qxi]
  rfl
 have hpl:=qxh ([],0) (stF x.2 hd)
 have hplb:=qxh ([],0) (bodyF (stF x.2 hd))
 have hpatl:=qgs (stF x.2 hd) (qi4 hfine.ok)
 have hpart:∀ s,(patF (bodyS (stF x.2 hd) s)).length≤10000:=fun s=>by
  have h1:=hfine.body s
  have h2:=qgs _ (qi4 h1.ok)
  have h3:=h1.size
  have h4:=h1.tl
  omega
 intro K36 hK36
 have k36:∀ (B:Int) (v:World),Ext w30 v→B=((posL ([],0) (qj (bodyF (stF x.2 hd)))).length:Int)→K36 B v:=by
  intro B v ev hB
  refine hK36 B v fun _=>?_
  have Ev:=qb E30 ev
  refine ⟨fun oa on oc i W m=>∃ k:Nat,i=k∧k≤nn∧m=nn - k∧OwnL encP W v.heap.size 51 oa on oc (catP (stF x.2 hd) ((secs x.2).take k))∧Ext v W∧on≤10000 * k,⟨_,0,rfl,by omega,rfl,Owns.nil _ _ _ _,Below.refl _ _,Nat.zero_le _⟩,?_⟩
  rintro oa on oc _ W m ⟨k,rfl,hk,rfl,hO,he,honk⟩ _
  have EW:=qb Ev he
  have e5W:=qb (qb e530 ev) he
  have hon:=OwnL.length hO
  refine qd (fun hlt=>?_) (fun hge=>?_)
  ·have hkl:k < (secs x.2).length:=by omega
   obtain ⟨q,hq,c0⟩:=qdh (hNR.ext (qb e30 (qb ev he))) hkl
   have htk:(secs x.2).take (k + 1)=(secs x.2).take k++[(secs x.2)[k]]:=List.take_succ_eq_append_getElem hkl
   obtain ⟨p1,p2,p3⟩:=okw_part hx h90 h98 (List.getElem_mem hkl)
   generalize (secs x.2)[k]=s at *
   refine hq _ ⟨_,c0,?_⟩
   obtain ⟨y0,y1⟩:=blk2w (B4.ext e5W)
   refine ⟨_,y0,_,_,_,y1,q0u x s hd hsm (hF.ext EW) (hf.ext EW) fun pa pn pc w50 hP e50=>⟨_,_,_,_,_,_,rfl,?_⟩⟩
   rw [p2] at hP
   rw [p1,p3]
   refine qx rfl q9h fun b55 w57 hb55 B55 e57 s57=>?_
   have e5057:=qb e50 e57
   have E57:=qb EW e5057
   have hbf:=hfine.body s
   obtain ⟨q1,q2⟩:=posS_ok hfine s
   have hpe:=fine_pos hbf (clean_body hcl s) q1 (by omega)
   have hpr:posR (posS (stF x.2 hd) s) (bodyS (stF x.2 hd) s)=posL (posS (stF x.2 hd) s) (qj (bodyS (stF x.2 hd) s)):=by unfold posR;rw [if_neg (by rw [hpe];simp)]
   refine ⟨_,(blk2w B55).1,_,(blk2w B55).2,q23 (posS (stF x.2 hd) s) _ hbf.small (hF.ext E57) (hP.ext e57) fun qa qc w61 hQ e61=>⟨_,_,_,_,rfl,qd (fun g=>absurd rfl g) (fun _=>qd (fun g=>absurd hpe g) (fun _=>?_))⟩⟩
   rw [hpr] at hQ ⊢
   have eW61:=qb e5057 e61
   have hz:=he.size
   have hz2:=eW61.size
   have hql:=qxh (posS (stF x.2 hd) s) (bodyS (stF x.2 hd) s)
   have hqb:=hpart s
   refine OwnL.pushAll (P:=prog) slT_pos (Owns.ext hO eW61) (by omega) (hQ.imp (S':=fun _=>True) fun _ _ _=>trivial) (by omega) (by omega) fun a64 c64 w65 ho hc hn=>?_
   refine ⟨nn - (k + 1),by omega,k + 1,by rw [ql (by omega)],by omega,rfl,by rw [htk,catP_snoc];exact ho,qi (qb he eW61) hc fun j hj=>(hO.bk hj).1,by omega⟩
  ·have hkn:k=(secs x.2).length:=by omega
   rw [show (secs x.2).take k=secs x.2 from List.take_of_length_le (by omega),hlaw] at hO
   have hWW:=hW.ext (qb ev he)
   rw [hB]
   refine qd (fun _=>?_) (fun g=>absurd ?_ g)
   ·refine rowE_cut hWW hwc (by rw [hsplit,List.length_append];omega) fun a67 c67 h67=>?_
    rw [show (posL ([],0) (qj (stF x.2 hd))).drop (posL ([],0) (qj (bodyF (stF x.2 hd)))).length=posL (wkF ([],0) (bodyF (stF x.2 hd))) (qj (fromS (stF x.2 hd))) by rw [hsplit,List.drop_left]] at h67
    refine EqualP_spec (OwnL.out (E:=encP) hO) h67 (by omega) fun w69 e69=>⟨_,rfl,qd (fun _=>aw (qb EW e69)) (fun g=>absurd rfl g)⟩
   ·rw [hsplit,List.length_append];omega
 refine q82 F_law16_WitnessPositions_1 (by kernel_rfl) (fun k t m a n c h'=>pos1_spec k t m a n c h') _ (by omega) (hS.ext e30) fun w75 e75=>⟨_,rfl,?_⟩
 by_cases hs0:secs (stF x.2 hd)=[]
 ·rw [if_pos hs0]
  refine qd (fun g=>absurd g (by decide)) (fun _=>k36 _ w75 e75 ?_)
  have hfr:fromS (stF x.2 hd)=.nil:=by
   rcases q3z (stF x.2 hd) with h1 | ⟨t,m,ps,r,h1⟩
   ·exact h1
   ·have:=secs_from (stF x.2 hd)
    rw [h1,hs0,secs,if_pos rfl] at this
    simp at this
  have hb:=qbb (stF x.2 hd)
  rw [hfr,Fo.app_nil] at hb
  rw [hb]
 ·rw [if_neg hs0]
  refine qd (fun _=>?_) (fun g=>absurd (by omega) g)
  refine SlF.cut ((hS.ext e30).ext e75) hcap (p:=.nil) (g:=bodyF (stF x.2 hd)) (r:=fromS (stF x.2 hd)) (by rw [Fo.nil_app,qbb]) (by simp) (by simp) fun a77 c77 h77 hc77=>?_
  have hbfine:FineW (bodyF (stF x.2 hd)):=by
   have h1:=hfine
   rw [← qbb (stF x.2 hd)] at h1
   exact h1.left
  have hbc:=clean_bodyF hcl
  have hpe:=fine_pat hbfine hbc
  have hps:patS (bodyF (stF x.2 hd))=patF (bodyF (stF x.2 hd)):=by unfold patS;rw [if_neg (by rw [hpe];simp)]
  refine qlv _ hbfine.small (hF.ext (qb E30 e75)) h77 fun w79 e79=>⟨_,_,rfl,qd (fun g=>absurd hpe g) (fun _=>?_)⟩
  rw [hps]
  exact k36 _ w79 (qb e75 e79) (by rw [hplb])
end
end Go.Proofs
