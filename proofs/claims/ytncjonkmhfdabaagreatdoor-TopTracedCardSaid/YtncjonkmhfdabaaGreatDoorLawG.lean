/- The contracts of the functions that the law reaches, one after the other, and at the end the law's card. -/
import Derived.Test.YtncjonkmhfdabaaGreatDoorLawF
set_option linter.all false
set_option maxRecDepth 20000
namespace Go.Proofs
open Go Go.Sh Go.RowKit Go.Proofs.Tryz IntKind
theorem sigF_snoc (r:List UInt8) (y:UInt8):sigF (r++[y])=if y=42 then decide ((r++[y]).length≤16)&&qad r else qad (r++[y]):=by
 unfold sigF
 rw [List.getLast?_concat,List.dropLast_concat]
 by_cases h:y=42
 ·rw [if_pos h,if_pos (by rw [h])]
 ·rw [if_neg h,if_neg (fun q=>h (Option.some.inj q))]
section
variable {R:Ending→World→Prop} {S:Nat→Prop} {w:World}
theorem q2f (s:List UInt8):s=[]∨∃ r y,s=r++[y]:=by
 rcases List.eq_nil_or_concat s with h | ⟨r,y,h⟩
 ·exact .inl h
 ·exact .inr ⟨r,y,by rw [h,List.concat_eq_append]⟩
theorem q6e (s:List UInt8) (hs:s.length≤4611686018427387904) (h:R (.returned (.tuple ⟨[.string ⟨⟨if s.getLast? = some 42 then s.dropLast else s⟩⟩,.bool (decide (s.getLast? = some 42))]⟩)) w):Calls prog qhh ⟨[.string ⟨⟨s⟩⟩,.string ⟨⟨[42]⟩⟩]⟩ w R:=by
 apply qq6
 apply qev
 apply qet
 rcases q2f s with rfl | ⟨r,y,rfl⟩
 ·refine ql (by decide) ⟨_,rfl,?_⟩
  exact ⟨_,_,rfl,h⟩
 ·have hl:(r++[y]).length=r.length + 1:=by simp
  rw [List.getLast?_concat,List.dropLast_concat] at h
  refine qnf (by rw [hl];show (1:Int)≤_;omega) ?_
  rw [hl,qai (by show _∧_;simp;omega)]
  have e1:(((r.length + 1:Nat):Int) - (([42]:List UInt8).length:Int))=((r.length:Nat):Int):=by simp
  rw [e1]
  refine qj8 (by omega) (by rw [hl];omega) ?_
  rw [List.take_of_length_le (by rw [hl];omega),List.drop_append_of_le_length (Nat.le_refl _),List.drop_length,List.nil_append]
  refine ⟨_,rfl,?_⟩
  by_cases hy:y=42
  ·subst hy
   rw [decide_eq_true rfl]
   show br false _ _
   rw [br_f]
   refine qj8 (i:=0) (Nat.zero_le _) (by rw [hl];omega) ?_
   rw [List.drop_zero,List.take_left' rfl]
   exact ⟨_,_,rfl,by simpa using h⟩
  ·rw [decide_eq_false (fun q=>hy (by simpa using q))]
   show br true _ _
   rw [br_t]
   exact ⟨_,_,rfl,by simpa [hy] using h⟩
theorem q7a (s:List UInt8) (hs:s.length≤4611686018427387904) (h:R (.returned (.bool (sigF s))) w):Calls prog qii ⟨[.string ⟨⟨s⟩⟩]⟩ w R:=by
 apply qt0
 refine q6e s hs ⟨_,_,rfl,?_⟩
 refine qk4 _ ⟨_,rfl,?_⟩
 unfold sigF at h
 by_cases hs2:s.getLast? = some 42
 ·rw [if_pos hs2] at h ⊢
  refine qh (fun g=>?_) (fun g=>?_)
  ·rw [decide_eq_true hs2]
   show br false _ _
   rw [br_f]
   rw [g,Bool.and_true] at h
   rw [decide_eq_decide.2 (show ((s.length:Nat):Int)≤16↔s.length≤16 by omega)]
   exact h
  ·rw [g,Bool.and_false] at h;exact h
 ·rw [if_neg hs2] at h ⊢
  refine qh (fun g=>?_) (fun g=>?_)
  ·rw [decide_eq_false hs2]
   show br true _ _
   rw [br_t]
   rw [g] at h;exact h
  ·rw [g] at h;exact h
theorem q5l (s:List UInt8) (hs:s.length≤4611686018427387904) (h:∀ w',Ext w w'→R (.returned (.bool (sigF s))) w'):Calls prog qpn ⟨[.string ⟨⟨s⟩⟩]⟩ w R:=by
 apply q1r
 intro K2 hK2
 rcases q2f s with rfl | ⟨r,y,rfl⟩
 ·refine ql (by decide) (hK2 _ _ fun _=>?_)
  rw [br_f]
  exact qf6 _ fun w' e=>⟨_,rfl,h w' e⟩
 ·have hl:(r++[y]).length=r.length + 1:=by simp
  rw [sigF_snoc] at h
  refine qnf (by rw [hl];omega) ?_
  rw [hl,qai (by omega),show ((r.length + 1:Nat):Int) - 1=(r.length:Nat) by omega]
  refine qat (by rw [hl];omega) ?_
  have e1:(r++[y])[r.length]'(by rw [hl];omega)=y:=by simp
  rw [e1]
  refine hK2 _ _ fun _=>?_
  by_cases hy:y=42
  ·subst hy
   rw [if_pos rfl] at h
   show br true _ _
   rw [br_t]
   refine qc (fun g=>?_) (fun g=>?_)
   ·have e16:decide ((r++[(42:UInt8)]).length≤16)=true:=decide_eq_true (by omega)
    rw [e16,Bool.true_and] at h
    rw [hl,qai (by omega),show ((r.length + 1:Nat):Int) - 1=(r.length:Nat) by omega]
    refine qj8 (i:=0) (Nat.zero_le _) (by rw [hl];omega) ?_
    rw [List.drop_zero,List.take_left' rfl]
    exact qf6 _ fun w' e=>⟨_,rfl,h w' e⟩
   ·have e16:decide ((r++[(42:UInt8)]).length≤16)=false:=decide_eq_false (by omega)
    rw [e16,Bool.false_and] at h
    exact h w (Below.refl _ _)
  ·rw [if_neg hy] at h
   have:decide ((y.toNat:Int)=42)=false:=decide_eq_false fun q=>hy (UInt8.toNat_inj.1 (by show y.toNat=42;omega))
   rw [this,br_f]
   exact qf6 _ fun w' e=>⟨_,rfl,h w' e⟩
theorem q09 {a:Option Addr} {n c:Nat} (l:List Tok) (q:Tok→Bool) (fn:FuncId) (hok:okFn prog fn=true) (hp:∀ {R:Ending→World→Prop} {v:World} (x:Tok),Ext w v→x∈l→(∀ v',Ext v v'→R (.returned (.bool (q x))) v')→Calls prog fn ⟨[aggT x]⟩ v R)
  (hR:RowAt encTk S w a n l) (hn:n≤4611686018427387904) (h:∀ w',Ext w w'→R (.returned (.bool (l.any q))) w'):Calls prog qp ⟨[.slice a n c,.func (.func fn) #[] #[]]⟩ w R:=by
 apply qah
 apply qal
 have hln:=hR.1
 refine ⟨fun i W m=>∃ k:Nat,i=k∧k≤n∧m=n - k∧Ext w W∧(l.take k).any q=false,⟨_,0,rfl,by omega,rfl,Below.refl _ _,rfl⟩,?_⟩
 rintro _ W m ⟨k,rfl,hk,rfl,he,hz⟩ _
 refine qc (fun hlt=>?_) (fun hge=>?_)
 ·have hkl:k < l.length:=by omega
  obtain ⟨bb,o,hq,_,_,hc⟩:=(hR.ext he).get (show l[k]? = some l[k] by simp [hkl])
  refine hq _ ⟨_,by rw [qe];exact hc 0 _ rfl,_,by rw [qe];exact hc 1 _ rfl,_,by rw [qe];exact hc 2 _ rfl,_,by rw [qe];exact hc 3 _ rfl,_,by rw [qe];exact hc 4 _ rfl,_,by rw [qe];exact hc 5 _ rfl,hok,?_⟩
  refine hp l[k] he (List.getElem_mem hkl) fun w16 e16=>⟨_,rfl,qh (fun g=>?_) (fun g=>?_)⟩
  ·refine ⟨_,rfl,?_⟩
   have:l.any q=true:=List.any_eq_true.2 ⟨l[k],List.getElem_mem hkl,g⟩
   rw [decide_eq_true (show (0:Int)≤(k:Int) by omega),← this]
   exact h w16 (qa he e16)
  ·refine ⟨n - (k + 1),by omega,k + 1,by rw [qg (by omega)],by omega,rfl,qa he e16,?_⟩
   rw [List.take_succ_eq_append_getElem hkl,List.any_append,hz];simp [g]
 ·rw [List.take_of_length_le (by omega)] at hz
  rw [hz] at h
  exact ⟨_,rfl,h W he⟩
theorem q68 (t:Tok) (h1:t.t.length≤12) (h2:t.m.length≤12) (hM:Mk w) (h:∀ w',Ext w w'→R (.returned (.bool (decide (tokE t≠0)))) w'):Calls prog qcz ⟨[aggT t]⟩ w R:=by
 apply qnd
 refine qd fun b7 w8 hb7 B7 e8 s8=>?_
 obtain ⟨c0,c1,c2,c3,c4,c5⟩:=blk6' B7
 refine ⟨_,c0,_,c1,_,c2,_,c3,_,c4,_,c5,?_⟩
 exact q4r t (by omega) (by omega) (hM.ext e8) fun w16 e16=>⟨_,rfl,h w16 (qa e8 e16)⟩
variable {v:KV} {x:Kol}
theorem q5i (hV:Vk x) (hC:ColV S w v x) (hM:Mk w) (h:∀ w',Ext w w'→R (.returned (.int .i64 0)) w') :
  Calls prog qhl ⟨[.string ⟨⟨x.sec⟩⟩,.slice v.s.1 v.s.2.1 v.s.2.2,.slice v.t.1 v.t.2.1 v.t.2.2]⟩ w R:=by
 apply qrb
 have hsn:=hC.sg.1
 have htn:=hC.tk.1
 have h1:=hV.n1
 have h32:=hV.n32
 have htl:=hV.tl
 refine qk4 _ ⟨_,rfl,?_⟩
 rw [hV.sec]
 show br false _ _
 rw [br_f]
 refine ql (by omega) (ql (by omega) ?_)
 refine ⟨fun i W m=>∃ k:Nat,i=k∧k≤x.sig.length∧m=x.sig.length - k∧Ext w W,⟨_,0,rfl,Nat.zero_le _,rfl,Below.refl _ _⟩,?_⟩
 rintro _ W m ⟨k,rfl,hk,rfl,eW⟩ _
 refine qc (fun hlt=>?_) (fun hge=>?_)
 ·have hks:k < x.sig.length:=by omega
  obtain ⟨p,hp,d⟩:=(hC.ext eW).sg.str hks
  have hl20:=hV.gr.sig _ (List.getElem_mem hks)
  refine hp _ ⟨_,d,q7a _ (by omega) ⟨_,rfl,?_⟩⟩
  rw [hV.sg _ (List.getElem_mem hks)]
  show br false _ _
  rw [br_f]
  refine RowV.cut (V:=vS) (i:=0) (j:=k) (hC.ext eW).sg hC.sc (Nat.zero_le _) (by omega) fun a' hr=>?_
  refine qpv _ hr (by omega) ⟨_,rfl,?_⟩
  have hnot:x.sig[k]∉(x.sig.take k).drop 0:=by
   rw [List.drop_zero]
   intro hh
   obtain ⟨j,hj,he⟩:=List.mem_iff_getElem.1 hh
   rw [List.getElem_take] at he
   exact List.pairwise_iff_getElem.1 hV.nd j k (by rw [List.length_take] at hj;omega) hks (by rw [List.length_take] at hj;omega) he
  rw [decide_eq_false hnot,br_f]
  exact ⟨x.sig.length - (k + 1),by omega,k + 1,by rw [qg (by omega)],by omega,rfl,eW⟩
 ·refine ql (by omega) ?_
  refine ⟨fun i U m=>∃ k:Nat,i=k∧k≤x.tok.length∧m=x.tok.length - k∧Ext w U,⟨_,0,rfl,Nat.zero_le _,rfl,eW⟩,?_⟩
  rintro _ U m ⟨j,rfl,hj,rfl,eU⟩ _
  refine qc (fun hlt=>?_) (fun hge=>h U eU)
  have hjt:j < x.tok.length:=by omega
  obtain ⟨b1,o1,a1,c1,hq1,_,_,hc1,_,hrow1⟩:=(hC.ext eU).tk.getS (List.getElem?_eq_getElem hjt)
  have hm:=hV.tm _ (List.getElem_mem hjt)
  refine hq1 _ ⟨_,_,_,hc1,ql (by omega) ?_⟩
  refine q09 x.tok[j] (fun t=>decide (tokE t≠0)) qcz (by kernel_rfl) (fun t eV ht hK=>?_) (rowV_enc.1 hrow1) (by omega) fun w30 e30=>⟨_,rfl,?_⟩
  ·have:=hV.gr.tl _ (List.getElem_mem hjt) t ht
   exact q68 t this.1 this.2.1 ((hM.ext eU).ext eV) hK
  ·have:x.tok[j].any (fun t=>decide (tokE t≠0))=false:=by
    rw [List.any_eq_false]
    intro t ht
    rw [hV.te _ (List.getElem_mem hjt) t ht];decide
   rw [this,br_f]
   exact ⟨x.tok.length - (j + 1),by omega,j + 1,by rw [qg (by omega)],by omega,rfl,qa eU e30⟩
end
section
variable {R:Ending→World→Prop} {S:Nat→Prop} {w:World} {v:KV} {x:Kol}
theorem q00 (hS:RowV vS S w v.s.1 v.s.2.1 x.sig) (hn:v.s.2.1≤4611686018427387904) (h:∀ (b:Bool),(b=false→(∀ s∈x.sig,s.length≤20)∧x.sec.length≤20)→R (.returned (.bool b)) w) :
  Calls prog qif ⟨[.string ⟨⟨x.sec⟩⟩,.slice v.s.1 v.s.2.1 v.s.2.2]⟩ w R:=by
 apply qts
 have hsn:=hS.1
 refine ⟨fun i W m=>∃ k:Nat,i=k∧k≤x.sig.length∧m=x.sig.length - k∧W=w∧∀ s∈x.sig.take k,s.length≤20,⟨_,0,rfl,Nat.zero_le _,rfl,rfl,fun s hs=>by simp at hs⟩,?_⟩
 rintro _ W m ⟨k,rfl,hk,rfl,rfl,hall⟩ _
 refine qc (fun hlt=>?_) (fun hge=>?_)
 ·have hks:k < x.sig.length:=by omega
  obtain ⟨p,hp,d⟩:=hS.str hks
  refine hp _ ⟨_,d,qc (fun g=>h true fun q=>by cases q) (fun g=>?_)⟩
  refine ⟨x.sig.length - (k + 1),by omega,k + 1,by rw [qg (by omega)],by omega,rfl,rfl,fun s hs=>?_⟩
  rw [List.take_succ_eq_append_getElem hks,List.mem_append,List.mem_singleton] at hs
  rcases hs with hs | rfl
  ·exact hall s hs
  ·omega
 ·rw [List.take_of_length_le (by omega)] at hall
  refine h _ fun q=>⟨hall,?_⟩
  have:=of_decide_eq_false q
  omega
theorem qyp (hT:RowV vTs S w v.t.1 v.t.2.1 x.tok) (hn:v.t.2.1≤4611686018427387904) (h:∀ (b:Bool) w',Ext w w'→(b=false→∀ l∈x.tok,∀ t∈l,t.t.length≤12∧t.m.length≤12∧t.p.1.length≤20∧t.a.length≤20)→R (.returned (.bool b)) w') :
  Calls prog qhk ⟨[.slice v.t.1 v.t.2.1 v.t.2.2]⟩ w R:=by
 apply qq9
 have htn:=hT.1
 refine ⟨fun _ i W m=>∃ k:Nat,i=k∧k≤x.tok.length∧m=x.tok.length - k∧Ext w W∧∀ l∈x.tok.take k,∀ t∈l,t.t.length≤12∧t.m.length≤12∧t.p.1.length≤20∧t.a.length≤20,⟨_,0,rfl,Nat.zero_le _,rfl,Below.refl _ _,fun s hs=>by simp at hs⟩,?_⟩
 rintro nn _ W m ⟨k,rfl,hk,rfl,eW,hall⟩ _
 have yes:∀ V,Ext w V→R (.returned (.bool true)) V:=fun V eV=>h true V eV fun q=>by cases q
 refine qc (fun hlt=>?_) (fun hge=>?_)
 ·have hkt:k < x.tok.length:=by omega
  obtain ⟨b1,o1,a1,c1,hq1,_,_,hc1,_,hrow1⟩:=(hT.ext eW).getS (List.getElem?_eq_getElem hkt)
  intro K8 hK8
  have k8:x.tok[k].length≤6→K8 W:=by
   intro h6
   refine hK8 _ fun _=>?_
   intro K10 hK10
   have k10:∀ n2:Int,K10 n2 W:=by
    intro n2
    refine hK10 _ _ fun _=>?_
    refine ⟨fun i W2 m2=>∃ j:Nat,i=j∧j≤x.tok[k].length∧m2=x.tok[k].length - j∧Ext w W2∧∀ t∈x.tok[k].take j,t.t.length≤12∧t.m.length≤12∧t.p.1.length≤20∧t.a.length≤20,⟨_,0,rfl,Nat.zero_le _,rfl,eW,fun s hs=>by simp at hs⟩,?_⟩
    rintro _ W2 m2 ⟨j,rfl,hj,rfl,e2,hall2⟩ _
    obtain ⟨b2,o2,a2,c2,hq2,_,_,hc2,_,hrow2⟩:=(hT.ext e2).getS (List.getElem?_eq_getElem hkt)
    refine hq2 _ ⟨_,_,_,hc2,qc (fun hlt2=>?_) (fun hge2=>?_)⟩
    ·have hjl:j < x.tok[k].length:=by omega
     obtain ⟨q,hq3,d0,d1,d2,d3,d4,d5⟩:=qpy (rowV_enc.1 hrow2) (List.getElem?_eq_getElem hjl)
     refine hq2 _ ⟨_,_,_,hc2,hq3 _ ⟨_,d0,_,d1,_,d2,_,d3,_,d4,_,d5,?_⟩⟩
     refine qac rfl (one6t _) fun b29 w31 hb B29 e31 s31=>?_
     obtain ⟨c0,c1,c2,c3,c4,c5⟩:=blk6' B29
     have e031:=qa e2 e31
     have e20:((⟨b29,0,none⟩:Addr).add 2).add 0=(⟨b29,0,none⟩:Addr).add 2:=by simp only [qe]
     refine ⟨_,c0,qc (fun g=>yes _ e031) (fun g0=>⟨_,c1,qc (fun g=>yes _ e031) (fun g1=>⟨_,by rw [e20];exact c2,qc (fun g=>yes _ e031) (fun g2=>⟨_,c5,qc (fun g=>yes _ e031) (fun g3=>?_)⟩)⟩)⟩)⟩
     refine ⟨x.tok[k].length - (j + 1),by omega,j + 1,by rw [qg (by omega)],by omega,rfl,e031,fun t ht=>?_⟩
     rw [List.take_succ_eq_append_getElem hjl,List.mem_append,List.mem_singleton] at ht
     rcases ht with ht | rfl
     ·exact hall2 t ht
     ·omega
    ·rw [List.take_of_length_le (by omega)] at hall2
     refine ⟨x.tok.length - (k + 1),by omega,k + 1,by rw [qg (by omega)],by omega,rfl,e2,fun l hl=>?_⟩
     rw [List.take_succ_eq_append_getElem hkt,List.mem_append,List.mem_singleton] at hl
     rcases hl with hl | rfl
     ·exact hall l hl
     ·exact hall2
   refine qc (fun _=>hq1 _ ⟨_,_,_,hc1,k10 _⟩) (fun _=>k10 _)
  refine hq1 _ ⟨_,_,_,hc1,qc (fun g=>yes _ eW) (fun g=>qc (fun _=>hq1 _ ⟨_,_,_,hc1,qc (fun g=>yes _ eW) (fun _=>k8 (by omega))⟩) (fun _=>k8 (by omega)))⟩
 ·rw [List.take_of_length_le (by omega)] at hall
  refine qc (fun g=>yes _ eW) (fun _=>qc (fun _=>qc (fun _=>yes _ eW) (fun _=>h _ _ eW fun _=>hall)) (fun _=>h _ _ eW fun _=>hall))
theorem q6p (hC:ColV S w v x) (hn1:v.s.2.1≤4611686018427387904) (hn2:v.t.2.1≤4611686018427387904) (hn3:v.c.2.1≤4611686018427387904) (h:∀ (b:Bool) w',Ext w w'→(b=false→GrK x)→R (.returned (.bool b)) w') :
  Calls prog quw ⟨[.agg ⟨kcs x v⟩]⟩ w R:=by
 apply q4i
 refine qd fun b5 w6 hb B e6 s6=>?_
 have hcn:=hC.cl.1
 have yes:∀ V,Ext w V→R (.returned (.bool true)) V:=fun V eV=>h true V eV fun q=>by cases q
 refine ⟨fun i W m=>∃ k:Nat,i=k∧k≤x.col.length∧m=x.col.length - k∧W=w6∧∀ l∈x.col.take k,l.length≤36,⟨_,0,rfl,Nat.zero_le _,rfl,rfl,fun s hs=>by simp at hs⟩,?_⟩
 rintro _ W m ⟨k,rfl,hk,rfl,rfl,hall⟩ _
 have hC6:=hC.ext e6
 refine ⟨_,_,_,bat B rfl,qc (fun hlt=>?_) (fun hge=>?_)⟩
 ·have hks:k < x.col.length:=by omega
  obtain ⟨b1,o1,a1,c1,hq1,_,_,hc1,_,hrow1⟩:=hC6.cl.getS (List.getElem?_eq_getElem hks)
  refine ⟨_,_,_,bat B rfl,hq1 _ ⟨_,_,_,hc1,qc (fun g=>yes _ e6) (fun g=>?_)⟩⟩
  refine ⟨x.col.length - (k + 1),by omega,k + 1,by rw [qg (by omega)],by omega,rfl,rfl,fun l hl=>?_⟩
  rw [List.take_succ_eq_append_getElem hks,List.mem_append,List.mem_singleton] at hl
  rcases hl with hl | rfl
  ·exact hall l hl
  ·omega
 ·rw [List.take_of_length_le (by omega)] at hall
  refine ⟨_,_,_,bat B rfl,?_⟩
  refine qyp hC6.tk hn2 fun b19 w19 e19 h19=>⟨_,rfl,?_⟩
  have e019:=qa e6 e19
  have B:=B.ext e19
  refine qh (fun g=>yes _ e019) (fun g=>?_)
  refine ⟨_,_,_,bat B rfl,qc (fun g=>yes _ e019) (fun g24=>⟨_,_,_,bat B rfl,qc (fun g=>yes _ e019) (fun g36=>⟨_,bat B rfl,_,_,_,bat B rfl,?_⟩)⟩)⟩
  refine q00 (hC.ext e019).sg hn1 fun b hb=>⟨_,rfl,h b w19 e019 fun q=>?_⟩
  exact ⟨by omega,hall,(hb q).1,(hb q).2,h19 g⟩
end
abbrev lnK (x:Kol):Nat→Nat:=fun j=>(x.tok.getD j []).length
theorem qio {w:World} {b m j:Nat} {f:Nat→Value} {T:TypeId} (B:Blk w b (fC m f) T) (hj:j < m):w.cell? ⟨b,j,none⟩=some (f j):=by rw [B.cell,fC_get hj]
theorem nx_at {c:List Int} {g:Nat→Nat} {j:Nat} (h:c.getD j (-1)≠-1):nxC c g j=g j + 1:=by unfold nxC;rw [if_neg h]
theorem nx_no {c:List Int} {g:Nat→Nat} {j:Nat} (h:c.getD j (-1)=-1):nxC c g j=g j:=by unfold nxC;rw [if_pos h]
section
variable {R:Ending→World→Prop} {S:Nat→Prop} {w:World} {v:KV} {x:Kol}
theorem ln_le (hm:∀ l∈x.tok,l.length≤1024) {j:Nat} (hj:j < x.tok.length):lnK x j≤1024:=by
 unfold lnK
 rw [gD_at hj]
 exact hm _ (List.getElem_mem hj)
theorem q6k (hV:Vk x) (hC:ColV S w v x) (h:∀ w',Ext w w'→R (.returned (.bool true)) w') :
  Calls prog qih ⟨[.slice v.t.1 v.t.2.1 v.t.2.2,.slice v.c.1 v.c.2.1 v.c.2.2]⟩ w R:=by
 apply qtw
 have htn:=hC.tk.1
 have hcn:=hC.cl.1
 have htl:=hV.tl
 have h32:=hV.n32
 have hc24:=hV.gr.col
 refine qs6 (l:=v.t.2.1) (c:=v.t.2.1) (Nat.le_refl _) (by omega) fun b w4 hb B4 e4 s4=>?_
 rw [q9i] at B4
 refine ⟨fun i W m=>∃ (k:Nat) (g:Nat→Nat),i=k∧k≤x.col.length∧m=x.col.length - k∧alP (lnK x) x.sig.length g (x.col.drop k)∧Blk W b (fC v.t.2.1 fun j=>.int .i64 ((g j:Nat):Int)) 3∧Ext w W∧Ext w4 w4,⟨_,0,fun _=>0,rfl,Nat.zero_le _,rfl,hV.al,B4,e4,Below.refl _ _⟩,?_⟩
 rintro _ W m ⟨k,g,rfl,hk,rfl,hal,BW,eW,_⟩ _
 refine qc (fun hlt=>?_) (fun hge=>?_)
 ·have hkc:k < x.col.length:=by omega
  rw [List.drop_eq_getElem_cons hkc] at hal
  obtain ⟨hok,hal'⟩:=hal
  obtain ⟨b1,o1,a1,c1,hq1,_,_,hc1,_,hrow⟩:=hC.cl.getS (List.getElem?_eq_getElem hkc)
  have hlen:=hok.len
  refine hq1 _ ⟨_,_,_,qdg hc1 eW,ql (by omega) ?_⟩
  refine ⟨fun sm i W2 m2=>∃ j:Nat,i=j∧j≤x.sig.length∧m2=x.sig.length - j∧((∃ i,i < j∧x.col[k].getD i (-1)≠-1)→sm=true)∧Blk W2 b (fC v.t.2.1 fun i=>.int .i64 (((if i < j then nxC x.col[k] g i else g i:Nat)):Int)) 3∧Ext w W2,
   ⟨_,0,rfl,Nat.zero_le _,rfl,fun ⟨i,hi,_⟩=>by omega,by rw [qfp (g:=fun j=>.int .i64 ((g j:Nat):Int)) fun j _=>by rw [if_neg (by omega)]];exact BW,eW⟩,?_⟩
  rintro sm _ W2 m2 ⟨j,rfl,hj,rfl,hsm,B2,e2⟩ _
  refine qc (fun hlt2=>?_) (fun hge2=>?_)
  ·have hjs:j < x.sig.length:=by omega
   have hjc:j < x.col[k].length:=by omega
   obtain ⟨p,hp,d⟩:=(hrow.ext e2).int hjc
   rw [← gD_at (d:=(-1:Int)) hjc] at d
   refine hp _ ⟨_,d,qc (fun g1=>?_) (fun g1=>?_)⟩
   ·refine ⟨x.sig.length - (j + 1),by omega,j + 1,by rw [qg (by omega)],by omega,rfl,fun ⟨i,hi,hne⟩=>hsm ⟨i,?_,hne⟩,?_,e2⟩
    ·by_cases q:i=j
     ·subst q;exact absurd g1 hne
     ·omega
    ·rw [qfp (g:=fun i=>.int .i64 (((if i < j then nxC x.col[k] g i else g i:Nat)):Int)) fun i _=>?_]
     ·exact B2
     ·by_cases q:i=j
      ·subst q;rw [if_pos (by omega),if_neg (by omega),nx_no g1]
      ·by_cases q2:i < j
       ·rw [if_pos (by omega),if_pos q2]
       ·rw [if_neg (by omega),if_neg q2]
   ·have hjok:=(hok.at_ j hjs).resolve_left g1
    have hln:=ln_le hV.tm (j:=j) (by omega)
    have hcellj:W2.cell? ⟨b,j,none⟩=some (.int .i64 ((g j:Nat):Int)):=by
     rw [qio B2 (by omega),if_neg (by omega)]
    intro K21 hK21
    have k21:K21 W2:=by
     refine hK21 _ fun _=>?_
     refine qg6 (n:=v.t.2.1) (by omega) ⟨_,hcellj,qg6 (n:=v.t.2.1) (by omega) ?_⟩
     refine q8w B2 (by omega) rfl fun w26 B26 c26 s26=>?_
     refine ⟨x.sig.length - (j + 1),by omega,j + 1,by rw [qg (by omega)],by omega,rfl,fun _=>rfl,?_,qi e2 c26 fun i hi=>by omega⟩
     rw [qfp (g:=fun i=>if i=j then .int .i64 (i64.wrap (((g j:Nat):Int) + 1)) else .int .i64 (((if i < j then nxC x.col[k] g i else g i:Nat)):Int)) fun i _=>?_]
     ·exact B26
     ·by_cases q:i=j
      ·subst q;rw [if_pos (by omega),if_pos rfl,nx_at g1,qg (by omega)]
      ·rw [if_neg q]
       by_cases q2:i < j
       ·rw [if_pos (by omega),if_pos q2]
       ·rw [if_neg (by omega),if_neg q2]
    obtain ⟨b3,o3,a3,c3,hq3,_,_,hc3,_,_⟩:=hC.tk.getS (List.getElem?_eq_getElem (show j < x.tok.length by omega))
    refine qg6 (n:=v.t.2.1) (by omega) ⟨_,hcellj,ql (fun q=>q hjok.1) (hq3 _ ⟨_,_,_,qdg hc3 e2,ql ?_ k21⟩)⟩
    have h1:=hjok.1
    have h2:=hjok.2
    unfold lnK at h2
    rw [gD_at (show j < x.tok.length by omega)] at h2
    omega
  ·have hjn:j=x.sig.length:=by omega
   subst hjn
   rw [hsm hok.some_]
   show br false _ _
   rw [br_f]
   refine ⟨x.col.length - (k + 1),by omega,k + 1,nxC x.col[k] g,by rw [qg (by omega)],by omega,rfl,hal',?_,e2,Below.refl _ _⟩
   rw [qfp (g:=fun i=>.int .i64 (((if i < x.sig.length then nxC x.col[k] g i else g i:Nat)):Int)) fun i hi=>by rw [if_pos (by omega)]]
   exact B2
 ·have hkc:k=x.col.length:=by omega
  subst hkc
  rw [List.drop_length] at hal
  refine ⟨fun i W2 m2=>∃ j:Nat,i=j∧j≤x.sig.length∧m2=x.sig.length - j∧Ext w W2∧Ext W W2,⟨_,0,rfl,Nat.zero_le _,rfl,eW,Below.refl _ _⟩,?_⟩
  rintro _ W2 m2 ⟨j,rfl,hj,rfl,e2,eW2⟩ _
  refine qc (fun hlt2=>?_) (fun hge2=>h W2 e2)
  have hjs:j < x.sig.length:=by omega
  unfold drw
  have ed:=qn W2
  have e2d:=qa e2 ed
  obtain ⟨b3,o3,a3,c3,hq3,_,_,hc3,_,_⟩:=hC.tk.getS (List.getElem?_eq_getElem (show j < x.tok.length by omega))
  refine qg6 (n:=v.t.2.1) (by omega) ⟨_,qio ((BW.ext eW2).ext ed) (by omega),hq3 _ ⟨_,_,_,qdg hc3 e2d,ql ?_ ?_⟩⟩
  ·have:=hal j hjs
   rw [this]
   show ¬ (((lnK x j:Nat):Int)≠_)
   unfold lnK
   rw [gD_at (show j < x.tok.length by omega)]
   omega
  ·exact ⟨x.sig.length - (j + 1),by omega,j + 1,by rw [qg (by omega)],by omega,rfl,e2d,qa eW2 ed⟩
theorem q5c {l:List Tok} {a:Option Addr} {c:Nat} (hl:l.length≤1024) {V:World} {K:Ending→World→Prop} (h:K (.returned (.bool false)) V):CallV prog (.func (.func 190) #[] #[]) [.slice a l.length c] V K:=by
 refine ⟨by kernel_rfl,?_⟩
 apply qo3
 unfold qfu
 rw [decide_eq_false (by omega)]
 exact h
theorem qte (hV:Vk x) (hC:ColV S w v x) (hM:Mk w) (h:∀ w',Ext w w'→R (.returned (.int .i64 0)) w') :
  Calls prog qj2 ⟨[.agg ⟨kcs x v⟩]⟩ w R:=by
 apply qwp
 refine qd fun b5 w6 hb B e6 s6=>?_
 refine ⟨_,bat B rfl,_,_,_,bat B rfl,_,_,_,bat B rfl,?_⟩
 refine q5i hV (hC.ext e6) (hM.ext e6) fun w11 e11=>⟨_,rfl,ql (by decide) ?_⟩
 have B:=B.ext e11
 have e011:=qa e6 e11
 refine ⟨_,_,_,bat B rfl,_,_,_,bat B rfl,?_⟩
 apply qyb
 apply qtv
 have htn:=hC.tk.1
 have htl:=hV.tl
 have h1:=hV.n1
 have h32:=hV.n32
 refine ql (by omega) (ql (by omega) ?_)
 apply qbt
 apply qcb
 refine ⟨fun i W m=>∃ k:Nat,i=k∧k≤x.tok.length∧m=x.tok.length - k∧W=w11,⟨_,0,rfl,Nat.zero_le _,rfl,rfl⟩,?_⟩
 rintro _ W m ⟨k,rfl,hk,rfl,rfl⟩ _
 refine qc (fun hlt=>?_) (fun hge=>?_)
 ·have hkt:k < x.tok.length:=by omega
  obtain ⟨b1,o1,a1,c1,hq1,_,_,hc1,_,hrow1⟩:=(hC.ext e011).tk.getS (List.getElem?_eq_getElem hkt)
  refine hq1 _ ⟨_,_,_,hc1,q5c (hV.tm _ (List.getElem_mem hkt)) ⟨_,rfl,?_⟩⟩
  rw [br_f]
  exact ⟨x.tok.length - (k + 1),by omega,k + 1,by rw [qg (by omega)],by omega,rfl,rfl⟩
 ·refine ⟨_,rfl,_,rfl,?_⟩
  show br (decide ((0:Int)≤-1)) _ _
  refine ql (by decide) ⟨_,rfl,ql (by decide) ?_⟩
  refine q6k hV (hC.ext e011) fun w7 e7=>⟨_,rfl,?_⟩
  show br false _ _
  rw [br_f]
  exact ⟨_,rfl,ql (by decide) (h w7 (qa e011 e7))⟩
end
structure HdK (x:Kol):Prop where
 sec:qad x.sec=true
 sg:∀ s∈x.sig,sigF s=true
 nd:x.sig.Pairwise (fun a b=>a≠b)
 n1:1≤x.sig.length
 n32:x.sig.length≤32
 tl:x.tok.length=x.sig.length
 tm:∀ l∈x.tok,l.length≤1024
 te:∀ l∈x.tok,∀ t∈l,tokE t=0
theorem pw_take {α:Type} {r:α→α→Prop} {l:List α} {k:Nat} (hk:k < l.length) (h:(l.take k).Pairwise r) (hn:∀ j,(hj:j < k)→r (l[j]'(by omega)) l[k]):(l.take (k + 1)).Pairwise r:=by
 rw [List.take_succ_eq_append_getElem hk,List.pairwise_append]
 refine ⟨h,List.pairwise_singleton _ _,fun a ha b hb=>?_⟩
 rw [List.mem_singleton] at hb
 subst hb
 obtain ⟨j,hj,rfl⟩:=List.mem_iff_getElem.1 ha
 rw [List.getElem_take]
 exact hn j (by rw [List.length_take] at hj;omega)
section
variable {R:Ending→World→Prop} {S:Nat→Prop} {w:World} {v:KV} {x:Kol}
theorem head_spec (hG:GrK x) (hC:ColV S w v x) (hn1:v.s.2.1≤4611686018427387904) (hn2:v.t.2.1≤4611686018427387904) (h:∀ (e:Int) w',Ext w w'→(e=0→HdK x)→R (.returned (.int .i64 e)) w') :
  Calls prog qxt ⟨[.string ⟨⟨x.sec⟩⟩,.slice v.s.1 v.s.2.1 v.s.2.2,.slice v.t.1 v.t.2.1 v.t.2.2]⟩ w R:=by
 apply q6f
 have hsn:=hC.sg.1
 have htn:=hC.tk.1
 have no:∀ (e:Int) V,e≠0→Ext w V→R (.returned (.int .i64 e)) V:=fun e V he eV=>h e V eV fun q=>absurd q he
 refine qf6 _ fun w5 e5=>⟨_,rfl,qh (fun g=>no _ _ (by decide) e5) (fun gsec=>qc (fun g=>no _ _ (by decide) e5) (fun g1=>qc (fun g=>no _ _ (by decide) e5) (fun g32=>?_)))⟩
 have hsec:qad x.sec=true:=by simpa using gsec
 refine ⟨fun i W m=>∃ k:Nat,i=k∧k≤x.sig.length∧m=x.sig.length - k∧Ext w W∧(∀ s∈x.sig.take k,sigF s=true)∧(x.sig.take k).Pairwise (fun a b=>a≠b),⟨_,0,rfl,Nat.zero_le _,rfl,e5,fun s hs=>by simp at hs,List.Pairwise.nil⟩,?_⟩
 rintro _ W m ⟨k,rfl,hk,rfl,eW,hall,hpw⟩ _
 refine qc (fun hlt=>?_) (fun hge=>?_)
 ·have hks:k < x.sig.length:=by omega
  obtain ⟨p,hp,d⟩:=(hC.ext eW).sg.str hks
  have hl20:=hG.sig _ (List.getElem_mem hks)
  refine hp _ ⟨_,d,q5l _ (by omega) fun w15 e15=>⟨_,rfl,qh (fun g=>no _ _ (by decide) (qa eW e15)) (fun gs=>?_)⟩⟩
  refine ⟨fun i W2 m2=>∃ j:Nat,i=j∧j≤k∧m2=k - j∧Ext w W2∧∀ i,(hi:i < j)→(hik:i < x.sig.length)→x.sig[i]≠x.sig[k],⟨_,0,rfl,Nat.zero_le _,rfl,qa eW e15,fun i hi=>by omega⟩,?_⟩
  rintro _ W2 m2 ⟨j,rfl,hj,rfl,e2,hne⟩ _
  refine qc (fun hlt2=>?_) (fun hge2=>?_)
  ·unfold drw
   have ed:=qn W2
   have e2d:=qa e2 ed
   obtain ⟨p1,hp1,d1⟩:=(hC.ext e2d).sg.str (k:=j) (by omega)
   obtain ⟨p2,hp2,d2⟩:=(hC.ext e2d).sg.str hks
   refine hp1 _ ⟨_,d1,hp2 _ ⟨_,d2,qc (fun g=>no _ _ (by decide) e2d) (fun g=>?_)⟩⟩
   refine ⟨k - (j + 1),by omega,j + 1,by rw [qg (by omega)],by omega,rfl,e2d,fun i hi hik=>?_⟩
   by_cases q:i=j
   ·subst q;exact g
   ·exact hne i (by omega) hik
  ·refine ⟨x.sig.length - (k + 1),by omega,k + 1,by rw [qg (by omega)],by omega,rfl,e2,fun s hs=>?_,pw_take hks hpw fun i hi=>hne i (by omega) (by omega)⟩
   rw [List.take_succ_eq_append_getElem hks,List.mem_append,List.mem_singleton] at hs
   rcases hs with hs | rfl
   ·exact hall s hs
   ·simpa using gs
 ·rw [List.take_of_length_le (by omega)] at hall hpw
  refine qc (fun g=>no _ _ (by decide) eW) (fun gtl=>?_)
  have htl:x.tok.length=x.sig.length:=by omega
  refine ⟨fun i U m=>∃ k:Nat,i=k∧k≤x.tok.length∧m=x.tok.length - k∧Ext w U∧(∀ l∈x.tok.take k,l.length≤1024∧∀ t∈l,tokE t=0),⟨_,0,rfl,Nat.zero_le _,rfl,eW,fun l hl=>by simp at hl⟩,?_⟩
  rintro _ U m ⟨k,rfl,hk,rfl,eU,hallT⟩ _
  refine qc (fun hlt=>?_) (fun hge=>?_)
  ·have hkt:k < x.tok.length:=by omega
   obtain ⟨b1,o1,a1,c1,hq1,_,_,hc1,_,hrow1⟩:=hC.tk.getS (List.getElem?_eq_getElem hkt)
   refine hq1 _ ⟨_,_,_,qdg hc1 eU,qc (fun g=>no _ _ (by decide) eU) (fun gm=>?_)⟩
   refine ⟨fun i W2 m2=>∃ j:Nat,i=j∧j≤x.tok[k].length∧m2=x.tok[k].length - j∧Ext w W2∧∀ t∈x.tok[k].take j,tokE t=0,⟨_,0,rfl,Nat.zero_le _,rfl,eU,fun s hs=>by simp at hs⟩,?_⟩
   rintro _ W2 m2 ⟨j,rfl,hj,rfl,e2,hall2⟩ _
   refine hq1 _ ⟨_,_,_,qdg hc1 e2,qc (fun hlt2=>?_) (fun hge2=>?_)⟩
   ·have hjl:j < x.tok[k].length:=by omega
    have htl:=hG.tl _ (List.getElem_mem hkt) _ (List.getElem_mem hjl)
    obtain ⟨q,hq3,d0,d1,d2,d3,d4,d5⟩:=qpy (rowV_enc.1 (hrow1.ext e2)) (List.getElem?_eq_getElem hjl)
    refine hq1 _ ⟨_,_,_,qdg hc1 e2,hq3 _ ⟨_,d0,_,d1,_,d2,_,d3,_,d4,_,d5,?_⟩⟩
    refine q42 x.tok[k][j] (by omega) fun w53 e53=>⟨_,rfl,qc (fun g=>no _ _ (by decide) (qa e2 e53)) (fun g=>?_)⟩
    refine ⟨x.tok[k].length - (j + 1),by omega,j + 1,by rw [qg (by omega)],by omega,rfl,qa e2 e53,fun t ht=>?_⟩
    rw [List.take_succ_eq_append_getElem hjl,List.mem_append,List.mem_singleton] at ht
    rcases ht with ht | rfl
    ·exact hall2 t ht
    ·exact Decidable.not_not.1 g
   ·rw [List.take_of_length_le (by omega)] at hall2
    refine ⟨x.tok.length - (k + 1),by omega,k + 1,by rw [qg (by omega)],by omega,rfl,e2,fun l hl=>?_⟩
    rw [List.take_succ_eq_append_getElem hkt,List.mem_append,List.mem_singleton] at hl
    rcases hl with hl | rfl
    ·exact hallT l hl
    ·exact ⟨by omega,hall2⟩
  ·rw [List.take_of_length_le (by omega)] at hallT
   exact h 0 U eU fun _=>⟨hsec,hall,hpw,by omega,by omega,htl,fun l hl=>(hallT l hl).1,fun l hl=>(hallT l hl).2⟩
theorem chkR_spec (hG:GrK x) (hC:ColV S w v x) (hn1:v.s.2.1≤4611686018427387904) (hn2:v.t.2.1≤4611686018427387904) (h:∀ (e:Int) w',Ext w w'→(e=0→Vk x)→R (.returned (.int .i64 e)) w') :
  Calls prog qux ⟨[.agg ⟨kcs x v⟩]⟩ w R:=by
 apply q4j
 have hsn:=hC.sg.1
 have htn:=hC.tk.1
 have hcn:=hC.cl.1
 have hc24:=hG.col
 have no:∀ (e:Int) V,e≠0→Ext w V→R (.returned (.int .i64 e)) V:=fun e V he eV=>h e V eV fun q=>absurd q he
 refine qd fun b5 w6 hb5 B5 e6 s6=>?_
 refine ⟨_,bat B5 rfl,_,_,_,bat B5 rfl,_,_,_,bat B5 rfl,?_⟩
 refine head_spec hG (hC.ext e6) hn1 hn2 fun e11 w11 E11 hd=>⟨_,rfl,qc (fun g=>no _ _ g (qa e6 E11)) (fun g=>?_)⟩
 have H:=hd (Decidable.not_not.1 g)
 have e011:=qa e6 E11
 have h32:=H.n32
 have htl:=H.tl
 have B11:=B5.ext E11
 refine ⟨_,_,_,bat B11 rfl,?_⟩
 refine qs6 (l:=v.s.2.1) (c:=v.s.2.1) (Nat.le_refl _) (by omega) fun b w4 hb B4 e4 s4=>?_
 rw [q9i] at B4
 have e04:=qa e011 e4
 have B54:=B11.ext e4
 have l5:=B11.lt
 refine ⟨fun i W m=>∃ (k:Nat) (g:Nat→Nat),i=k∧k≤x.col.length∧m=x.col.length - k∧(alP (lnK x) x.sig.length g (x.col.drop k)→alP (lnK x) x.sig.length (fun _=>0) x.col)∧Blk W b (fC v.s.2.1 fun j=>.int .i64 ((g j:Nat):Int)) 3∧Ext w W∧Blk W b5 (kcs x v) 62,⟨_,0,fun _=>0,rfl,Nat.zero_le _,rfl,fun q=>q,B4,e04,B54⟩,?_⟩
 rintro _ W m ⟨k,g,rfl,hk,rfl,hal,BW,eW,BW5⟩ _
 refine ⟨_,_,_,bat BW5 rfl,qc (fun hlt=>?_) (fun hge=>?_)⟩
 ·have hkc:k < x.col.length:=by omega
  rw [List.drop_eq_getElem_cons hkc] at hal
  obtain ⟨b1,o1,a1,c1,hq1,_,_,hc1,_,hrow⟩:=hC.cl.getS (List.getElem?_eq_getElem hkc)
  refine ⟨_,_,_,bat BW5 rfl,hq1 _ ⟨_,_,_,qdg hc1 eW,qc (fun g=>no _ _ (by decide) eW) (fun glen=>?_)⟩⟩
  have glen:¬ (((x.col[k].length:Nat):Int)≠((v.s.2.1:Nat):Int)):=glen
  have hlen:x.col[k].length=x.sig.length:=by omega
  refine ⟨fun sm i W2 m2=>∃ j:Nat,i=j∧j≤x.sig.length∧m2=x.sig.length - j∧(sm=true→∃ i,i < j∧x.col[k].getD i (-1)≠-1)∧(∀ i,i < j→x.col[k].getD i (-1)=-1∨(x.col[k].getD i (-1)=g i∧g i < lnK x i))∧Blk W2 b (fC v.s.2.1 fun i=>.int .i64 (((if i < j then nxC x.col[k] g i else g i:Nat)):Int)) 3∧Ext w W2∧Blk W2 b5 (kcs x v) 62,
   ⟨_,0,rfl,Nat.zero_le _,rfl,fun q=>(by cases q),fun i hi=>by omega,by rw [qfp (g:=fun j=>.int .i64 ((g j:Nat):Int)) fun j _=>by rw [if_neg (by omega)]];exact BW,eW,BW5⟩,?_⟩
  rintro sm _ W2 m2 ⟨j,rfl,hj,rfl,hsm,hok,B2,e2,B52⟩ _
  refine qc (fun hlt2=>?_) (fun hge2=>?_)
  ·have hjs:j < x.sig.length:=by omega
   have hjc:j < x.col[k].length:=by omega
   obtain ⟨p,hp,d⟩:=(hrow.ext e2).int hjc
   rw [← gD_at (d:=(-1:Int)) hjc] at d
   refine hp _ ⟨_,d,qc (fun g1=>?_) (fun g1=>?_)⟩
   ·refine ⟨x.sig.length - (j + 1),by omega,j + 1,by rw [qg (by omega)],by omega,rfl,fun q=>?_,fun i hi=>?_,?_,e2,B52⟩
    ·obtain ⟨i,hi,hne⟩:=hsm q
     exact ⟨i,by omega,hne⟩
    ·by_cases q:i=j
     ·subst q;exact .inl g1
     ·exact hok i (by omega)
    ·rw [qfp (g:=fun i=>.int .i64 (((if i < j then nxC x.col[k] g i else g i:Nat)):Int)) fun i _=>?_]
     ·exact B2
     ·by_cases q:i=j
      ·subst q;rw [if_pos (by omega),if_neg (by omega),nx_no g1]
      ·by_cases q2:i < j
       ·rw [if_pos (by omega),if_pos q2]
       ·rw [if_neg (by omega),if_neg q2]
   ·have hln:=ln_le H.tm (j:=j) (by omega)
    intro K34 hK34
    have k34:∀ W3,Ext W2 W3→x.col[k].getD j (-1)=g j→g j < lnK x j→K34 W3:=by
     intro W3 e3 q1 q2
     have B3:=B2.ext e3
     have hcellj:W3.cell? ⟨b,j,none⟩=some (.int .i64 ((g j:Nat):Int)):=by
      rw [qio B3 (by omega),if_neg (by omega)]
     refine hK34 _ fun _=>?_
     refine qg6 (n:=v.s.2.1) (by omega) ⟨_,hcellj,qg6 (n:=v.s.2.1) (by omega) ?_⟩
     refine q8w B3 (by omega) rfl fun w26 B26 c26 s26=>?_
     refine ⟨x.sig.length - (j + 1),by omega,j + 1,by rw [qg (by omega)],by omega,rfl,fun _=>⟨j,by omega,g1⟩,fun i hi=>?_,?_,qi (qa e2 e3) c26 fun i hi=>by have:=e011.size;omega,c26.blk (B52.ext e3) (by omega)⟩
     ·by_cases q:i=j
      ·subst q;exact .inr ⟨q1,q2⟩
      ·exact hok i (by omega)
     rw [qfp (g:=fun i=>if i=j then .int .i64 (i64.wrap (((g j:Nat):Int) + 1)) else .int .i64 (((if i < j then nxC x.col[k] g i else g i:Nat)):Int)) fun i _=>?_]
     ·exact B26
     ·by_cases q:i=j
      ·subst q;rw [if_pos (by omega),if_pos rfl,nx_at g1,qg (by omega)]
      ·rw [if_neg q]
       by_cases q2:i < j
       ·rw [if_pos (by omega),if_pos q2]
       ·rw [if_neg (by omega),if_neg q2]
    unfold drw
    have ed:=qn W2
    have e2d:=qa e2 ed
    have B2d:=B2.ext ed
    have B5d:=B52.ext ed
    obtain ⟨p',hp',d'⟩:=(hrow.ext e2d).int hjc
    rw [← gD_at (d:=(-1:Int)) hjc] at d'
    have hcellj:W2.drew.cell? ⟨b,j,none⟩=some (.int .i64 ((g j:Nat):Int)):=by
     rw [qio B2d (by omega),if_neg (by omega)]
    obtain ⟨b3,o3,a3,c3,hq3,_,_,hc3,_,_⟩:=hC.tk.getS (List.getElem?_eq_getElem (show j < x.tok.length by omega))
    refine hp' _ ⟨_,d',qg6 (n:=v.s.2.1) (by omega) ⟨_,hcellj,qc (fun q=>no _ _ (by decide) e2d) (fun q=>?_)⟩⟩
    refine hp' _ ⟨_,d',_,_,_,bat B5d rfl,hq3 _ ⟨_,_,_,qdg hc3 e2d,qc (fun q2=>no _ _ (by decide) e2d) (fun q2=>k34 _ ed (Decidable.not_not.1 q) ?_)⟩⟩
    have q:=Decidable.not_not.1 q
    unfold lnK
    rw [gD_at (show j < x.tok.length by omega)]
    omega
  ·have hjn:j=x.sig.length:=by omega
   subst hjn
   refine qh (fun g=>no _ _ (by decide) e2) (fun gs=>?_)
   refine ⟨x.col.length - (k + 1),by omega,k + 1,nxC x.col[k] g,by rw [qg (by omega)],by omega,rfl,fun q=>hal ⟨⟨hlen,hok,hsm (by simpa using gs)⟩,q⟩,?_,e2,B52⟩
   rw [qfp (g:=fun i=>.int .i64 (((if i < x.sig.length then nxC x.col[k] g i else g i:Nat)):Int)) fun i hi=>by rw [if_pos (by omega)]]
   exact B2
 ·have hkc:k=x.col.length:=by omega
  subst hkc
  rw [List.drop_length] at hal
  refine ⟨fun i W2 m2=>∃ j:Nat,i=j∧j≤x.sig.length∧m2=x.sig.length - j∧Ext w W2∧Ext W W2∧∀ i,i < j→g i=lnK x i,⟨_,0,rfl,Nat.zero_le _,rfl,eW,Below.refl _ _,fun i hi=>by omega⟩,?_⟩
  rintro _ W2 m2 ⟨j,rfl,hj,rfl,e2,eW2,hall⟩ _
  refine qc (fun hlt2=>?_) (fun hge2=>?_)
  ·have hlt2:((j:Nat):Int) < ((v.s.2.1:Nat):Int):=hlt2
   have hjs:j < x.sig.length:=by omega
   unfold drw
   have ed:=qn W2
   have e2d:=qa e2 ed
   obtain ⟨b3,o3,a3,c3,hq3,_,_,hc3,_,_⟩:=hC.tk.getS (List.getElem?_eq_getElem (show j < x.tok.length by omega))
   refine qg6 (n:=v.s.2.1) (by omega) ⟨_,qio ((BW.ext eW2).ext ed) (by omega),_,_,_,bat ((BW5.ext eW2).ext ed) rfl,hq3 _ ⟨_,_,_,qdg hc3 e2d,qc (fun q=>no _ _ (by decide) e2d) (fun q=>?_)⟩⟩
   refine ⟨x.sig.length - (j + 1),by omega,j + 1,by rw [qg (by omega)],by omega,rfl,e2d,qa eW2 ed,fun i hi=>?_⟩
   by_cases e:i=j
   ·subst e
    have q:=Decidable.not_not.1 q
    unfold lnK
    rw [gD_at (show i < x.tok.length by omega)]
    omega
   ·exact hall i (by omega)
  ·have hge2:¬ (((j:Nat):Int) < ((v.s.2.1:Nat):Int)):=hge2
   refine h 0 W2 e2 fun _=>⟨H.sec,H.sg,H.nd,H.n1,H.n32,H.tl,H.tm,H.te,hal ?_,hG⟩
   exact fun i hi=>hall i (by omega)
end
def encFT:Enc (Nat × Nat):=⟨fun p=>[.int .i64 (p.1:Int),.int .i64 (p.2:Int)],2,fun _=>rfl,by decide,by intro g v hv;simp only [List.mem_cons,List.not_mem_nil,or_false] at hv;rcases hv with rfl | rfl <;> rfl⟩
abbrev vUn:View Unt:=View.pair (View.enc encFT) (View.sl vRd)
theorem slT_un:SlT prog 70 123 3 40 (.agg ⟨[.int .i64 0,.int .i64 0,.slice none 0 0]⟩):=⟨by kernel_rfl,by kernel_rfl,rfl,by decide⟩
theorem qzq {S:Nat→Prop} {w:World} {a:Option Addr} {n:Nat} {L:List Unt} (h:RowV vUn S w a n L) {i:Nat} (hi:i < L.length):∃ (p:Addr) (a1:Option Addr) (c1:Nat),(∀ K:Addr→Prop,K p→idx a n (i:Int) 3 K)∧w.cell? (p.add 0)=some (.int .i64 (L[i].1.1:Int))∧w.cell? (p.add 1)=some (.int .i64 (L[i].1.2:Int))∧w.cell? (p.add 2)=some (.slice a1 L[i].2.length c1)∧L[i].2.length≤c1∧RowV vRd S w a1 L[i].2.length L[i].2:=by
 obtain ⟨b,o,us,h1,_,_,h2,h3⟩:=h.get (List.getElem?_eq_getElem hi)
 obtain ⟨u1,u2,rfl,g0,a1,c1,rfl,g1,g2⟩:=h2
 have g0:u1=[.int .i64 (L[i].1.1:Int),.int .i64 (L[i].1.2:Int)]:=g0
 subst g0
 exact ⟨⟨b,o,none⟩,a1,c1,h1,by rw [qe];exact h3 0 _ rfl,by rw [qe];exact h3 1 _ rfl,by rw [qe];exact h3 2 _ rfl,g1,g2⟩
section
variable {R:Ending→World→Prop} {S S2:Nat→Prop} {w:World} {v:KV} {x:Kol}
theorem unt_mem (hV:Vk x) {pre:List (Nat × Nat)} {p:Nat × Nat} (h:pre++[p] <+: x.runs):p.1≤p.2∧p.2≤x.col.length∧pre.length + 1≤x.runs.length:=by
 obtain ⟨r,hr⟩:=h
 have hm:p∈x.runs:=by rw [← hr];simp
 have:=q0p (qfl hV (lead:=0) (by have:=hV.n1;omega) x) p hm
 refine ⟨by omega,this.2,?_⟩
 rw [← hr];simp
theorem asc_len {n:Nat}:∀ {U:List (Nat × Nat)} {b:Nat},AscU n b U→U.length + b≤n∨U=[]
 | [],_,_=>.inr rfl
 | p :: r,b,⟨h1,h2,h3,h4⟩=>by
  rcases asc_len h4 with h | rfl
  ·exact .inl (by rw [List.length_cons];omega)
  ·exact .inl (by simp;omega)
theorem qsy (hV:Vk x):x.runs.length≤x.col.length:=by
 rcases asc_len (qfl hV (lead:=0) (by have:=hV.n1;omega) x) with h | h
 ·omega
 ·rw [h];simp
theorem q23 (hV:Vk x) (hC:ColV S w v x) (hM:Mk w) (h:∀ a n c w',n≤c→RowV vUn (fun k=>w.heap.size≤k) w' a n x.units→Ext w w'→R (.returned (.tuple ⟨[.slice a n c,.int .i64 0]⟩)) w') :
  Calls prog qjm ⟨[.agg ⟨kcs x v⟩]⟩ w R:=by
 apply qwa
 refine qd fun b5 w6 hb5 B5 e6 s6=>?_
 refine ⟨_,bat B5 rfl,_,_,_,bat B5 rfl,_,_,_,bat B5 rfl,_,_,_,bat B5 rfl,?_⟩
 refine qte hV (hC.ext e6) (hM.ext e6) fun w12 e12=>⟨_,rfl,ql (by decide) ?_⟩
 have B5:=B5.ext e12
 have B512:=B5
 have e012:=qa e6 e12
 refine qd fun b14 w15 hb14 B14 e15 s15=>?_
 have B5:=B5.ext e15
 have e015:=qa e6 (qa e12 e15)
 refine ⟨_,bat B5 rfl,_,_,_,bat B5 rfl,_,_,_,bat B5 rfl,_,_,_,bat B5 rfl,?_⟩
 apply qk6
 refine qd fun b1 w21 hb1 B1 e21 s21=>⟨_,_,_,rfl,fun base=>?_⟩
 have e021:=qa e015 e21
 have B5:=B5.ext e21
 have B14:=B14.ext e21
 have z6:=e6.size
 have z12:=e12.size
 have z15:=e15.size
 have z21:=e21.size
 have hC21:=(hC.imp (S':=fun k=>S k∧k < w.heap.size) fun k hk hl=>⟨hk,hl⟩).ext e021
 have hrl:=qsy hV
 have hcn:=hV.gr.col
 have l14:=B14.lt
 have l5:=B5.lt
 rw [qou]
 refine qh4 qf5 qf3 (gf:=qcm) rfl (by kernel_rfl) (xs:=x.runs) (E:=RnE) (Rd:=fun k=>k=b1∨((S k∧k < w.heap.size)∧k < w21.heap.size))
  (fun v1 he=>?_) (fun y vs hE=>by rw [show vs=_ from hE];rfl) (by decide) (fun k hk=>by rcases hk with rfl | hk;exact B1.lt;exact hk.2) (fun k=>k=b14) (fun k hk=>⟨by omega,fun hr=>by rcases hr with hr | hr <;> omega⟩)
  (fun pre S1 W=>∃ (oa:Option Addr) (on oc:Nat) (T:Nat→Prop),Blk W b14 [.slice oa on oc] 70∧OwnV vUn T 123 w21.heap.size W oa on oc (pre.map fun p=>(p,x.rds p.1 p.2 x.sig.length))∧(∀ k,S1 k↔k=b14∨bk oa k∨T k)∧(∀ k,T k→w21.heap.size≤k∧k < W.heap.size)∧Ext w12 W) (fun _ _=>False) (fun _ _=>False)
  ?_ (fun _ _ _ h=>h.elim) (fun _ _ _ h=>h.elim) ⟨none,0,0,fun _=>False,B14,OwnV.nil _,fun k=>by simp [bk],fun _ h=>h.elim,qa e15 e21⟩ ?_ ?_ (fun _ _ _ _ _ _ _ h=>h.elim) (fun _ _ _ _ _ _ _ h=>h.elim)
 ·have hC':=hC21.ext he
  have hi:=q2i hV hC' (B1.ext he)
  have zv:=he.size
  have eq:(fun k=>k=b1∨((S k∧k < w.heap.size)∧k < v1.heap.size))=(fun k=>k=b1∨((S k∧k < w.heap.size)∧k < w21.heap.size)):=by
   funext k
   exact propext ⟨fun q=>q.imp id fun t=>⟨t.1,by omega⟩,fun q=>q.imp id fun t=>⟨t.1,by omega⟩⟩
  rw [eq] at hi;exact hi
 ·rintro pre S1 W W' ⟨oa,on,oc,T,g1,g3,g5,g7,g6⟩ hc
  have zc:=hc.size
  exact ⟨oa,on,oc,T,hc.blk g1 (fun hh=>hh.2 ((g5 _).2 (.inl rfl))),g3.chg hc fun k hk _=>⟨fun q=>hk.2 ((g5 k).2 (.inr (.inr q))),fun q=>hk.2 ((g5 k).2 (.inr (.inl q)))⟩,g5,fun k hk=>⟨(g7 k hk).1,by have:=(g7 k hk).2;omega⟩,qi g6 hc fun k hk=>by omega⟩
 ·rintro pre p vs S1 W l hE hpre hl1 hl2 hl3 hS1 ⟨oa,on,oc,T,g1,g3,g5,g7,g6⟩
  obtain rfl:vs=[.int .i64 (p.1:Int),.int .i64 (p.2:Int)]:=hE
  refine Eq.mpr (qos base _ _ _ _ _ _ _ _ _ _ _ _ _ _ _ _) ?_
  refine ⟨Below.refl _ _,fun W38 hU=>?_⟩
  have zU:=hU.size
  have hUc:Chg (fun k=>k=l) W W38:=⟨hU.os,hU.tape,hU.output,by omega,fun k _ hk=>hU.block k hk⟩
  unfold drw
  have ed:=qn W38
  have zd:=ed.size
  have hcd:Chg (fun k=>k=l) W W38.drew:=hUc.trans (.of_ext ed)
  have hzd:W38.drew.heap.size=W38.heap.size:=rfl
  generalize W38.drew=W2 at *
  obtain ⟨hp1,hp2,hp3⟩:=unt_mem hV hpre
  have nlb:¬ b14=l:=fun q=>hl3 (q ▸ (g5 b14).2 (.inl rfl))
  have g1':=hcd.blk g1 nlb
  have g3':=g3.chg hcd fun k hk _=>⟨fun q=>hl3 ((g5 l).2 (.inr (.inr (hk ▸ q)))),fun q=>hl3 ((g5 l).2 (.inr (.inl (hk ▸ q))))⟩
  have E2:Ext w12 W2:=qi g6 hcd fun k hk=>by omega
  have E21:=g6.size
  have hB5:Blk W2 b5 (kcs x v) 62:=B512.ext E2
  have hCW:ColV S W2 v x:=hC.ext (qa e012 E2)
  have hon:=g3.len
  rw [List.length_map] at hon
  have z2:=hcd.size
  have fin:∀ (a49:Option Addr) (n49 c49:Nat) (w48:World) (Kn:World→Prop),n49≤c49→RowV vRd (fun k=>W2.heap.size≤k) w48 a49 n49 (x.rds p.1 p.2 x.sig.length)→Ext W2 w48 →
    (∀ w54 a52 n52 c52 T',Blk w54 b14 [.slice a52 n52 c52] 70→OwnV vUn T' 123 w21.heap.size w54 a52 n52 c52 ((pre++[p]).map fun p=>(p,x.rds p.1 p.2 x.sig.length))→(∀ k,T' k→w21.heap.size≤k∧k < w54.heap.size)→(∀ k,bk a52 k∨T' k→(S1 k∨W.heap.size≤k)∧k < w54.heap.size)→Chg (fun k=>S1 k∨W.heap.size≤k) W2 w54→Kn w54) →
    al w48 123 [.int .i64 (p.1:Int),.int .i64 (p.2:Int),.slice a49 n49 c49] fun p50 w51=>(app prog [70,70] 70 (.slice oa on oc) (.slice (some p50) 1 1) w51 fun a52 a52n a52c w53=>(dr (some (⟨b14,0,none⟩:Addr)) fun p55=>stL w53 p55 0 [.slice a52 a52n a52c] fun w54=>Kn w54)∧True)∧True:=by
   intro a49 n49 c49 w48 Kn hcap hrow e48 hK
   have z48:=e48.size
   have hn49:=hrow.1
   refine ⟨OwnV.push (V:=vUn) (S:=fun k=>T k∨(W2.heap.size≤k∧k < w48.heap.size)) slT_un ((g3'.ext e48).imp fun k hk _=>.inl hk) (by omega) (x:=(p,x.rds p.1 p.2 x.sig.length)) ⟨[.int .i64 (p.1:Int),.int .i64 (p.2:Int)],[.slice a49 n49 c49],rfl,rfl,a49,c49,by rw [hn49],by show (x.rds p.1 p.2 x.sig.length).length≤c49;omega,?_⟩ (by omega) (by omega) fun a52 c52 w53 ho hc hnn=>⟨?_,trivial⟩,trivial⟩
   ·rw [← hn49]
    exact hrow.imp fun k hk hl=>⟨.inr ⟨hk,hl⟩,fun hb=>by have:=(g3'.bk hb).2;omega⟩
   ·have zc:=hc.size
    have nb:¬ bk oa b14:=fun hb=>by have:=(g3'.bk hb).1;omega
    have g1'':=hc.blk (g1'.ext e48) nb
    have l14':=g1.lt
    have nb':¬ bk a52 b14:=fun hb=>(hnn _ hb).elim nb fun q=>by omega
    refine dr_ok (qam g1'' rfl fun w54 B54 c54 s54=>?_)
    have hT:∀ k,T k∨(W2.heap.size≤k∧k < w48.heap.size)→w21.heap.size≤k∧k < w48.heap.size:=fun k hk=>by
     rcases hk with hk | hk
     ·have:=g7 k hk;omega
     ·omega
    refine hK w54 a52 (on + 1) c52 (fun k=>T k∨(W2.heap.size≤k∧k < w48.heap.size)) B54 ?_ (fun k hk=>⟨(hT k hk).1,by have:=(hT k hk).2;omega⟩) (fun k hk=>?_) ?_
    ·rw [List.map_append]
     exact ho.chg c54 fun k hk _=>⟨fun q=>by have:=(hT k q).1;omega,fun q=>nb' (hk ▸ q)⟩
    ·rcases hk with hk | hk | hk
     ·have:=(ho.bk hk).2
      rcases hnn k hk with q | q
      ·exact ⟨.inl ((g5 k).2 (.inr (.inl q))),by omega⟩
      ·exact ⟨.inr (by omega),by omega⟩
     ·have:=g7 k hk
      exact ⟨.inl ((g5 k).2 (.inr (.inr hk))),by omega⟩
     ·exact ⟨.inr (by omega),by omega⟩
    ·exact ((Chg.of_ext e48).trans (hc.mono fun k _ hk=>.inl ((g5 k).2 (.inr (.inl hk))))).trans (c54.mono fun k _ hk=>.inl ((g5 k).2 (.inl hk)))
  have last:∀ (w54:World),(∃ a52 n52 c52 T',Blk w54 b14 [.slice a52 n52 c52] 70∧OwnV vUn T' 123 w21.heap.size w54 a52 n52 c52 ((pre++[p]).map fun p=>(p,x.rds p.1 p.2 x.sig.length))∧(∀ k,T' k→w21.heap.size≤k∧k < w54.heap.size)∧(∀ k,bk a52 k∨T' k→(S1 k∨W.heap.size≤k)∧k < w54.heap.size)∧Chg (fun k=>S1 k∨W.heap.size≤k) W2 w54) →
    Chg (fun k=>S1 k∨W.heap.size≤k) W38 w54∧∃ S':Nat→Prop,(∀ k,S' k→(S1 k∨W.heap.size≤k)∧k < w54.heap.size)∧∃ (oa:Option Addr) (on oc:Nat) (T:Nat→Prop),Blk w54 b14 [.slice oa on oc] 70∧OwnV vUn T 123 w21.heap.size w54 oa on oc ((pre++[p]).map fun p=>(p,x.rds p.1 p.2 x.sig.length))∧(∀ k,S' k↔k=b14∨bk oa k∨T k)∧(∀ k,T k→w21.heap.size≤k∧k < w54.heap.size)∧Ext w12 w54:=by
   rintro w54 ⟨a52,n52,c52,T',q1,q2,q3,q4,q5⟩
   refine ⟨(Chg.of_ext ed).trans q5,fun k=>k=b14∨bk a52 k∨T' k,fun k hk=>?_,a52,n52,c52,T',q1,q2,fun k=>Iff.rfl,q3,qi E2 q5 fun k hk=>?_⟩
   ·rcases hk with rfl | hk
    ·exact ⟨.inl ((g5 _).2 (.inl rfl)),q1.lt⟩
    ·exact q4 k hk
   ·rcases hk with hk | hk
    ·rcases (g5 k).1 hk with rfl | q | q
     ·omega
     ·have:=(g3.bk q).1;omega
     ·have:=(g7 k q).1;omega
    ·omega
  refine dr_ok ⟨_,bat hB5 rfl,_,_,_,bat hB5 rfl,_,_,_,bat hB5 rfl,_,_,_,bat hB5 rfl,?_⟩
  refine ⟨dr_ok ⟨_,_,_,qk g1',qgr hV hCW hp1 hp2 fun a49 n49 c49 w48 hcap hrow e48=>⟨_,_,_,rfl,?_⟩,trivial⟩,qgr hV hCW hp1 hp2 fun a49 n49 c49 w48 hcap hrow e48=>⟨_,_,_,rfl,dr_ok ⟨_,_,_,qk (g1'.ext e48),?_⟩⟩,trivial⟩
  ·exact ⟨fin a49 n49 c49 w48 _ hcap hrow e48 fun w54 a52 n52 c52 T' q1 q2 q3 q4 q5=>last w54 ⟨a52,n52,c52,T',q1,q2,q3,q4,q5⟩,trivial⟩
  ·exact ⟨fin a49 n49 c49 w48 _ hcap hrow e48 fun w54 a52 n52 c52 T' q1 q2 q3 q4 q5=>last w54 ⟨a52,n52,c52,T',q1,q2,q3,q4,q5⟩,trivial⟩
 ·rintro D S1 W hD1 hD2 hD3 hD4 ⟨oa,on,oc,T,g1,g3,g5,g7,g6⟩
  refine ⟨oa,on,oc,qk g1,qfm hD4 ?_⟩
  have hcp:Chg (fun k=>k=D) W (W.putObj D (.deferred none)):=Chg.put W D _ rfl
  have ho:=g3.chg hcp fun k hk _=>⟨fun q=>hD3 ((g5 D).2 (.inr (.inr (hk ▸ q)))),fun q=>hD3 ((g5 D).2 (.inr (.inl (hk ▸ q))))⟩
  refine h oa on oc _ ho.cap (ho.out.imp fun k hk _=>?_) (qi (qa e012 g6) hcp fun k hk=>by omega)
  rcases hk with hk | hk
  ·have:=(g7 k hk).1;omega
  ·have:=(ho.bk hk).1;omega
end
section
variable {R:Ending→World→Prop} {S S2 S3:Nat→Prop} {w:World} {v:KV} {x:Kol}
theorem q41 {a b:Option Addr} {n c m d:Nat} {L M:List Int} (h1:RowV vI S w a n L) (h2:RowV vI S2 w b m M) (hs:n≤4611686018427387904) (h:∀ w',Ext w w'→R (.returned (.bool (decide (L=M)))) w') :
  Calls prog qde ⟨[.slice a n c,.slice b m d]⟩ w R:=by
 apply qir
 have hn:=h1.1
 have hm:=h2.1
 refine qc (fun g=>?_) (fun g=>?_)
 ·have:=h w (Below.refl _ _)
  rw [decide_eq_false (fun hh=>g (by rw [hh] at hn;omega))] at this;exact this
 refine ⟨fun i W m'=>∃ k:Nat,i=k∧k≤n∧m'=n - k∧L.take k=M.take k∧Ext w W,⟨_,0,rfl,by omega,rfl,rfl,Below.refl _ _⟩,?_⟩
 rintro _ W m' ⟨k,rfl,hk,rfl,he,eW⟩ _
 refine qc (fun hlt=>?_) (fun hge=>?_)
 ·have hkL:k < L.length:=by omega
  have hkM:k < M.length:=by omega
  unfold drw
  have ed:=qa eW (qn W)
  generalize W.drew=V at *
  obtain ⟨p,hp,d1⟩:=(h1.ext ed).int hkL
  obtain ⟨q,hq,d2⟩:=(h2.ext ed).int hkM
  refine hp _ ⟨_,d1,hq _ ⟨_,d2,qc (fun g2=>?_) (fun g2=>?_)⟩⟩
  ·have:=h V ed
   rw [decide_eq_false (fun hh=>g2 (by subst hh;rfl))] at this;exact this
  ·refine ⟨n - (k + 1),by omega,k + 1,by rw [qg (by omega)],by omega,rfl,?_,ed⟩
   rw [List.take_succ_eq_append_getElem hkL,List.take_succ_eq_append_getElem hkM,he,Decidable.not_not.1 g2]
 ·rw [List.take_of_length_le (by omega),List.take_of_length_le (by omega)] at he
  have:=h W eW
  rw [decide_eq_true he] at this;exact this
theorem one2s (a b:Slv):∀ v∈([.slice a.1 a.2.1 a.2.2,.slice b.1 b.2.1 b.2.2]:List Value),v.oneCell'=true:=by
 intro v hv;simp only [List.mem_cons,List.not_mem_nil,or_false] at hv;rcases hv with rfl | rfl <;> rfl
theorem same_spec {a b:Option Addr} {n c m d:Nat} {L:List Rdg} (h1:RowV vRd S w a n L) (h2:RowV vRd S2 w b m L) (hs:n≤1000000) (hL:∀ r∈L,r.1.length≤1000000∧r.2.length≤1000000) (h:∀ w',Ext w w'→R (.returned (.bool true)) w') :
  Calls prog qgf ⟨[.slice a n c,.slice b m d]⟩ w R:=by
 apply qx6
 apply qaa
 have hn:=h1.1
 have hm:=h2.1
 refine ql (by omega) ?_
 refine ⟨fun i W m'=>∃ k:Nat,i=k∧k≤n∧m'=n - k∧Ext w W,⟨_,0,rfl,by omega,rfl,Below.refl _ _⟩,?_⟩
 rintro _ W m' ⟨k,rfl,hk,rfl,eW⟩ _
 refine qc (fun hlt=>?_) (fun hge=>⟨_,rfl,h W eW⟩)
 have hkL:k < L.length:=by omega
 obtain ⟨p,a1,c1,a2,c2,hq,d0,d1,_,_,r1,r2⟩:=q3q (h1.ext eW) hkL
 refine hq _ ⟨_,_,_,d0,_,_,_,d1,?_⟩
 refine qac rfl (one2s (a1,_,c1) (a2,_,c2)) fun b12 w14 hb12 B12 e14 s14=>?_
 have eW14:=qa eW e14
 obtain ⟨p',a1',c1',a2',c2',hq',d0',d1',_,_,r1',r2'⟩:=q3q (h2.ext eW14) hkL
 refine hq' _ ⟨_,_,_,d0',_,_,_,d1',?_⟩
 refine qac rfl (one2s (a1',_,c1') (a2',_,c2')) fun b18 w20 hb18 B18 e20 s20=>?_
 have B12:=B12.ext e20
 refine ⟨_,_,_,bat B12 rfl,_,_,_,bat B12 rfl,_,_,_,bat B18 rfl,_,_,_,bat B18 rfl,?_⟩
 refine ⟨by kernel_rfl,?_⟩
 apply qtg
 have hb:=hL _ (List.getElem_mem hkL)
 refine qd fun b5 w6 hb5 B5 e6 s6=>qd fun b7 w8 hb7 B7 e8 s8=>?_
 have e208:=qa e6 e8
 have B5:=B5.ext e8
 refine ⟨_,_,_,bat B5 rfl,_,_,_,bat B7 rfl,?_⟩
 refine qj4 L[k].1 L[k].1 (rowV_enc.1 (r1.ext (qa e14 (qa e20 e208)))) (rowV_enc.1 (r1'.ext (qa e20 e208))) (by omega) fun w12 e12=>⟨_,rfl,?_⟩
 rw [decide_eq_true rfl,br_t]
 refine ⟨_,_,_,bat (B5.ext e12) rfl,_,_,_,bat (B7.ext e12) rfl,?_⟩
 refine q41 (r2.ext (qa e14 (qa e20 (qa e208 e12)))) (r2'.ext (qa e20 (qa e208 e12))) (by omega) fun w17 e17=>⟨_,rfl,_,rfl,?_⟩
 rw [decide_eq_true rfl]
 show br false _ _
 rw [br_f]
 exact ⟨n - (k + 1),by omega,k + 1,by rw [qg (by omega)],by omega,rfl,qa eW14 (qa e20 (qa e208 (qa e12 e17)))⟩
def PredU (f:Fn) (fa fb:Array Value) (q:Unt→Bool) (S:Nat→Prop) (L:List Unt) (J:World→Prop):Prop :=
 ∀ u∈L,∀ (W:World) (a1:Option Addr) (c1:Nat) (K:Ending→World→Prop),J W→RowV vRd S W a1 u.2.length u.2→(∀ W',Ext W W'→K (.returned (.bool (q u))) W')→CallV prog (.func f fa fb) [.agg ⟨[.int .i64 (u.1.1:Int),.int .i64 (u.1.2:Int),.slice a1 u.2.length c1]⟩] W K
theorem qnv {f:Fn} {fa fb:Array Value} {q:Unt→Bool} {J:World→Prop} {a:Option Addr} {n c:Nat} {L:List Unt} (h1:RowV vUn S w a n L)
  (hs:n≤4611686018427387904) (hp:PredU f fa fb q S L J) (hJ0:J w) (hJe:∀ W W',J W→Ext W W'→J W')
  (h:∀ w',Ext w w'→R (.returned (.int .i64 (ixF q L))) w'):Calls prog qan ⟨[.slice a n c,.func f fa fb]⟩ w R:=by
 apply qcv
 have hn:=h1.1
 refine ⟨fun i W m=>∃ k:Nat,i=k∧k≤n∧m=n - k∧(∀ x∈L.take k,q x=false)∧Ext w W,⟨_,0,rfl,by omega,rfl,by simp,Below.refl _ _⟩,?_⟩
 rintro _ W m ⟨k,rfl,hk,rfl,hno,he⟩ _
 refine qc (fun hlt=>?_) (fun hge=>?_)
 ·have hkL:k < L.length:=by omega
  obtain ⟨p,a1,c1,hq,d0,d1,d2,_,r1⟩:=qzq (h1.ext he) hkL
  refine hq _ ⟨_,d0,_,d1,_,_,_,d2,hp _ (List.getElem_mem hkL) W _ _ _ (hJe _ _ hJ0 he) r1 fun W' e'=>⟨_,rfl,qh (fun g=>?_) (fun g=>?_)⟩⟩
  ·have:=h W' (qa he e')
   rw [q2t hkL g hno] at this;exact this
  ·exact ⟨n - (k + 1),by omega,k + 1,by rw [qg (by omega)],by omega,rfl,qv2 hkL g hno,qa he e'⟩
 ·rw [List.take_of_length_le (by omega)] at hno
  have:=h W he
  rw [q2r hno] at this;exact this
theorem qvb {f:Fn} {fa fb:Array Value} {q:Unt→Bool} {J:World→Prop} {a:Option Addr} {n c:Nat} {L:List Unt} (h1:RowV vUn S w a n L)
  (hs:n≤4611686018427387904) (hp:PredU f fa fb q S L J) (hJ0:J w) (hJe:∀ W W',J W→Ext W W'→J W')
  (h:∀ w',Ext w w'→R (.returned (.bool (L.any q))) w'):Calls prog qak ⟨[.slice a n c,.func f fa fb]⟩ w R:=by
 apply qcd
 refine qnv h1 hs hp hJ0 hJe fun w' e'=>⟨_,rfl,?_⟩
 rw [qs9];exact h w' e'
abbrev colU (c:Nat) (u:Unt):Bool:=decide (u.1.1≤c∧c < u.1.2)
theorem q02 {a:Option Addr} {n cc:Nat} {L:List Unt} (h1:RowV vUn S w a n L) (hs:n≤4611686018427387904) (c:Nat) (h:∀ w',Ext w w'→R (.returned (.tuple ⟨[.int .i64 (ixF (colU c) L),.int .i64 0]⟩)) w') :
  Calls prog qgg ⟨[.slice a n cc,.int .i64 (c:Int)]⟩ w R:=by
 apply qk7
 refine qd fun b3 w4 hb3 B3 e4 s4=>⟨_,qk B3,ql (by omega) ?_⟩
 refine qnv (q:=colU c) (J:=fun V=>Ext w4 V) (h1.ext e4) hs ?_ (Below.refl _ _) (fun _ _=>qa) fun w7 e7=>⟨_,rfl,h w7 (qa e4 e7)⟩
 intro u hu V a1 c1 K eV r1 hK
 refine ⟨by kernel_rfl,?_⟩
 apply qtj
 refine qd fun b5 w6 hb5 B5 e6 s6=>?_
 have B3':=(B3.ext eV).ext e6
 have hK:K (.returned (.bool (colU c u))) w6:=hK w6 e6
 refine ⟨_,bat B5 rfl,dr_ok ⟨_,qk B3',qc (fun g=>?_) (fun g=>?_)⟩⟩
 ·refine dr_ok ⟨_,qk B3',_,bat B5 rfl,?_⟩
  rw [decide_eq_decide.2 (show ((c:Int) < (u.1.2:Int))↔(u.1.1≤c∧c < u.1.2) by omega)]
  exact hK
 ·rw [show colU c u=false from decide_eq_false (by omega)] at hK
  exact hK
theorem q6q {a:Option Addr} {n cc:Nat} {c:Int} (hc:c < 0) (h:∀ w',Ext w w'→R (.returned (.tuple ⟨[.int .i64 0,.int .i64 2]⟩)) w') :
  Calls prog qgg ⟨[.slice a n cc,.int .i64 c]⟩ w R:=by
 apply qk7
 exact qd fun b3 w4 hb3 B3 e4 s4=>⟨_,qk B3,qnf hc (h w4 e4)⟩
theorem ixF_cons {α:Type} {q:α→Bool} {y:α} {l:List α}:ixF q (y :: l)=if q y=true then 0 else if ixF q l < 0 then -1 else ixF q l + 1:=by
 by_cases h:q y=true
 ·rw [if_pos h]
  unfold ixF
  simp [h,List.findIdx_cons]
 ·rw [if_neg h]
  have h:q y=false:=by simpa using h
  have e1:(y :: l).any q=l.any q:=by simp [h]
  have e2:(y :: l).findIdx q=l.findIdx q + 1:=by simp [List.findIdx_cons,h]
  unfold ixF
  rw [e1,e2]
  by_cases g:l.any q=true
  ·rw [if_pos g,if_pos g,if_neg (by omega)];omega
  ·rw [if_neg g,if_neg g,if_pos (by omega)]
theorem q2s (F:Nat × Nat→List Rdg) (c:Nat):∀ (U:List (Nat × Nat)) (k:Nat),qbq k U c=if ixF (colU c) (U.map fun p=>(p,F p)) < 0 then -1 else k + ixF (colU c) (U.map fun p=>(p,F p))
 | [],k=>rfl
 | p :: r,k=>by
  have ih:=q2s F c r (k + 1)
  rw [qbq,List.map_cons,ixF_cons]
  by_cases h:p.1≤c∧c < p.2
  ·have hq:colU c (p,F p)=true:=decide_eq_true h
   rw [if_pos h]
   simp only [hq,if_true]
   rw [if_neg (by omega)];omega
  ·have hq:colU c (p,F p)=false:=decide_eq_false h
   rw [if_neg h,ih]
   simp only [hq,Bool.false_eq_true,if_false]
   by_cases g:ixF (colU c) (r.map fun p=>(p,F p)) < 0
   ·rw [if_pos g,if_pos g,if_pos (by omega)]
   ·rw [if_neg g,if_neg g,if_neg (by omega)];omega
theorem q2x (c:Nat):ixF (colU c) x.units=qbq 0 x.runs c:=by
 have:=q2s (fun p=>x.rds p.1 p.2 x.sig.length) c x.runs 0
 unfold Kol.units
 rw [this]
 by_cases g:ixF (colU c) (x.runs.map fun p=>(p,x.rds p.1 p.2 x.sig.length)) < 0
 ·rw [if_pos g]
  unfold ixF at g ⊢
  split at g
  ·omega
  ·rename_i q;rw [if_neg q]
 ·rw [if_neg g];omega
theorem q65 (hV:Vk x) (hC:ColV S w v x) {a:Option Addr} {n c:Nat} (hU:RowV vUn S2 w a n x.units) (h:∀ w',Ext w w'→R (.returned (.bool true)) w') :
  Calls prog qjl ⟨[.agg ⟨kcs x v⟩,.slice a n c]⟩ w R:=by
 apply qv9
 have hn:=hU.1
 have hul:x.units.length=x.runs.length:=by unfold Kol.units;rw [List.length_map]
 have hrl:=qsy hV
 have hcn:=hV.gr.col
 have hcl:=hC.cl.1
 have hn32:=hV.n32
 refine qd fun b6 w7 hb6 B6 e7 s7=>qd fun b8 w9 hb8 B8 e9 s9=>qd fun b10 w11 hb10 B10 e11 s11=>?_
 have B8:=B8.ext e11
 have B6:=B6.ext (qa e9 e11)
 have e011:=qa e7 (qa e9 e11)
 refine ⟨_,_,_,qk B8,?_⟩
 refine ⟨fun bh i W m=>∃ (k b:Nat),i=k∧k≤n∧m=n - k∧bh=(b:Int) - 1∧AscU x.col.length b (x.runs.drop k)∧Ext w11 W,⟨_,0,0,rfl,Nat.zero_le _,rfl,rfl,qfl hV (lead:=0) (by have:=hV.n1;omega) x,Below.refl _ _⟩,?_⟩
 rintro _ _ W m ⟨k,b,rfl,hk,rfl,rfl,hasc,eW⟩ _
 have e0W:=qa e011 eW
 have B6W:=B6.ext eW
 refine qc (fun hlt=>?_) (fun hge=>?_)
 ·have hkr:k < x.runs.length:=by omega
  have hku:k < x.units.length:=by omega
  have huk:x.units[k]=(x.runs[k],x.rds x.runs[k].1 x.runs[k].2 x.sig.length):=by simp only [Kol.units,List.getElem_map]
  rw [List.drop_eq_getElem_cons hkr] at hasc
  obtain ⟨q1,q2,q3,q4⟩:=hasc
  obtain ⟨p,a1,c1,hq,d0,d1,d2,hcap,r1⟩:=qzq (hU.ext e0W) hku
  simp only [huk] at d0 d1 d2 hcap r1
  refine hq _ ⟨_,d0,_,d1,_,_,_,d2,?_⟩
  refine qac rfl (by intro v hv;simp only [List.mem_cons,List.not_mem_nil,or_false] at hv;rcases hv with rfl | rfl | rfl <;> rfl) fun b23 w25 hb23 B23 e25 s25=>?_
  unfold drw
  have ed:=qn w25
  have B23:=B23.ext ed
  have e25:=qa e25 ed
  generalize w25.drew=w26 at *
  have B626:=B6W.ext e25
  have e026:=qa e0W e25
  have r126:=r1.ext e25
  refine ⟨_,bat B23 rfl,ql (by omega) ⟨_,bat B23 rfl,ql (by omega) ⟨_,bat B23 rfl,_,bat B23 rfl,ql (by omega) ⟨_,bat B23 rfl,_,_,_,bat B626 rfl,ql (by omega) ?_⟩⟩⟩⟩
  refine ⟨_,bat B626 rfl,_,_,_,bat B626 rfl,_,_,_,bat B626 rfl,_,_,_,bat B626 rfl,_,bat B23 rfl,_,bat B23 rfl,?_⟩
  have hrdl:=q3u x x.runs[k].1 x.runs[k].2 x.sig.length
  have go:∀ (a58:Option Addr) (n58 c58:Nat) (w57:World),RowV vRd (fun k=>w26.heap.size≤k) w57 a58 n58 (x.rds x.runs[k].1 x.runs[k].2 x.sig.length)→Ext w26 w57→Calls prog qgf ⟨[.slice a1 (x.rds x.runs[k].1 x.runs[k].2 x.sig.length).length c1,.slice a58 n58 c58]⟩ w57 fun (e59:Ending) (w60:World) =>
   ∃ (x61:Bool),e59=.returned (.bool x61)∧(br (!x61) (stL w60 ⟨b10,0,none⟩ 0 [.bool false] fun w62=>∃ (x63:Bool),World.cell? w62 ⟨b10,0,none⟩=some (.bool x63)∧(R (.returned (.bool x63)) w62)) (∃ (x64:Int),World.cell? w60 ((⟨b23,0,none⟩:Addr).add 1)=some (.int .i64 x64)∧(∃ m65:Nat,m65 < n - k∧∃ (k' b:Nat),i64.wrap ((k:Int) + 1)=k'∧k'≤n∧m65=n - k'∧x64=(b:Int) - 1∧AscU x.col.length b (x.runs.drop k')∧Ext w11 w60))):=by
   intro a58 n58 c58 w57 hrow e57
   refine same_spec (r126.ext e57) hrow (by omega) (fun r hr=>⟨by have:=qyy x _ _ _ r hr;omega,by have:=(q2m x _ _ _ r hr).1;omega⟩) fun w60 e60=>⟨_,rfl,?_⟩
   show br false _ _
   rw [br_f]
   refine ⟨_,bat (B23.ext (qa e57 e60)) rfl,n - (k + 1),by omega,k + 1,x.runs[k].2 + 1,by rw [qg (by omega)],by omega,rfl,by omega,q4,qa eW (qa e25 (qa e57 e60))⟩
  refine ⟨⟨_,_,_,bat B23 rfl,qgr hV (hC.ext e026) (f:=x.runs[k].1) (t:=x.runs[k].2) (by omega) q3 fun a58 n58 c58 w57 hcap58 hrow e57=>⟨_,_,_,rfl,go a58 n58 c58 w57 hrow e57,trivial⟩,trivial⟩,qgr hV (hC.ext e026) (f:=x.runs[k].1) (t:=x.runs[k].2) (by omega) q3 fun a58 n58 c58 w57 hcap58 hrow e57=>⟨_,_,_,rfl,_,_,_,bat (B23.ext e57) rfl,go a58 n58 c58 w57 hrow e57,trivial⟩,trivial⟩
 ·refine ⟨_,bat B6W rfl,_,_,_,bat B6W rfl,_,_,_,bat B6W rfl,_,_,_,bat B6W rfl,?_⟩
  apply qk6
  refine qd fun b1 w21 hb1 B1 e21 s21=>⟨_,_,_,rfl,fun base=>?_⟩
  have e021:=qa e0W e21
  have z7:=e7.size
  have z9:=e9.size
  have z11:=e11.size
  have zW:=eW.size
  have z21:=e21.size
  have hC21:=(hC.imp (S':=fun k=>S k∧k < w.heap.size) fun k hk hl=>⟨hk,hl⟩).ext e021
  have hU21:=(hU.imp (S':=fun k=>S2 k∧k < w.heap.size) fun k hk hl=>⟨hk,hl⟩).ext e021
  have B821:=(B8.ext eW).ext e21
  have B1021:=(B10.ext eW).ext e21
  rw [qot]
  refine qh4 qf4 qf2 (gf:=qcm) rfl (by kernel_rfl) (xs:=x.runs) (E:=RnE) (Rd:=fun k=>k=b1∨((S k∧k < w.heap.size)∧k < w21.heap.size))
   (fun v1 he=>?_) (fun y vs hE=>by rw [show vs=_ from hE];rfl) (by decide) (fun k hk=>by rcases hk with rfl | hk;exact B1.lt;exact hk.2) (fun _=>False) (fun k hk=>hk.elim)
   (fun pre S1 W2=>(∀ k,¬ S1 k)∧Ext w21 W2) (fun _ _=>False) (fun _ _=>False)
   ?_ (fun _ _ _ h=>h.elim) (fun _ _ _ h=>h.elim) ⟨fun k hk=>hk,Below.refl _ _⟩ ?_ ?_ (fun _ _ _ _ _ _ _ h=>h.elim) (fun _ _ _ _ _ _ _ h=>h.elim)
  ·have hi:=q2i hV (hC21.ext he) (B1.ext he)
   have zv:=he.size
   have eq:(fun k=>k=b1∨((S k∧k < w.heap.size)∧k < v1.heap.size))=(fun k=>k=b1∨((S k∧k < w.heap.size)∧k < w21.heap.size)):=by
    funext k
    exact propext ⟨fun q=>q.imp id fun t=>⟨t.1,by omega⟩,fun q=>q.imp id fun t=>⟨t.1,by omega⟩⟩
   rw [eq] at hi;exact hi
  ·rintro pre S1 W2 W2' ⟨g1,g2⟩ hc
   exact ⟨g1,qi g2 hc fun k hk=>hk.1⟩
  ·rintro pre p vs S1 W2 l hE hpre hl1 hl2 hl3 hS1 ⟨g1,g2⟩
   obtain rfl:vs=[.int .i64 (p.1:Int),.int .i64 (p.2:Int)]:=hE
   refine Eq.mpr (qor base _ _ _ _ _ _ _ _ _ _ _ _) ?_
   refine qac rfl (by intro v hv;simp only [List.mem_singleton] at hv;subst hv;rfl) fun b98 w100 hb98 B98 e100 s100=>?_
   refine qac rfl (by intro v hv;simp only [List.mem_singleton] at hv;subst hv;rfl) fun b101 w103 hb101 B101 e103 s103=>?_
   have z100:=e100.size
   have e2103:=qa e100 e103
   refine ⟨e2103,fun w97 hU97=>?_⟩
   have zU:=hU97.size
   have hUc:Chg (fun k=>k=l) w103 w97:=⟨hU97.os,hU97.tape,hU97.output,by omega,fun k _ hk=>hU97.block k hk⟩
   have z2:=g2.size
   have e2197:Ext w21 w97:=qi (qa g2 e2103) hUc fun k hk=>by omega
   have B98':=hUc.blk (B98.ext e103) (by omega)
   have B101':=hUc.blk B101 (by omega)
   refine dr_ok ⟨_,_,_,qk (B821.ext e2197),?_⟩
   refine qvb (q:=fun u=>decide (u.1.1≤p.1∧p.2≤u.1.2)) (J:=fun V=>Ext w97 V) (hU21.ext e2197) (by omega) ?_ (Below.refl _ _) (fun _ _=>qa) fun w107 e107=>⟨_,rfl,?_⟩
   ·intro u hu V a1 c1 K eV r1 hK
    refine ⟨by kernel_rfl,?_⟩
    apply qq1
    refine qd fun b6' w7' hb6' B6' e7' s7'=>?_
    have hK:K (.returned (.bool (decide (u.1.1≤p.1∧p.2≤u.1.2)))) w7':=hK w7' e7'
    refine ⟨_,bat B6' rfl,dr_ok ⟨_,qk ((B98'.ext eV).ext e7'),qc (fun g=>?_) (fun g=>?_)⟩⟩
    ·refine dr_ok ⟨_,qk ((B101'.ext eV).ext e7'),_,bat B6' rfl,?_⟩
     rw [decide_eq_decide.2 (show ((p.2:Int)≤(u.1.2:Int))↔(u.1.1≤p.1∧p.2≤u.1.2) by omega)]
     exact hK
    ·rw [show decide (u.1.1≤p.1∧p.2≤u.1.2)=false from decide_eq_false (by omega)] at hK
     exact hK
   ·have hm:p∈x.runs:=by obtain ⟨r,hr⟩:=hpre;rw [← hr];simp
    have:(x.units.any fun u=>decide (u.1.1≤p.1∧p.2≤u.1.2))=true:=List.any_eq_true.2 ⟨(p,x.rds p.1 p.2 x.sig.length),by unfold Kol.units;exact List.mem_map_of_mem hm,decide_eq_true ⟨Nat.le_refl _,Nat.le_refl _⟩⟩
    rw [this]
    show br false _ _
    rw [br_f]
    have z107:=e107.size
    exact ⟨.of_ext e107,fun _=>False,fun k hk=>hk.elim,fun k hk=>hk,qa e2197 e107⟩
  ·rintro D S1 W2 hD1 hD2 hD3 hD4 ⟨g1,g2⟩
   have l10:=B1021.lt
   refine qam (B1021.ext g2) rfl fun w87 B87 c87 s87=>?_
   have hD4':w87.heap[D]? = some (.deferred (some [])):=by rw [c87.block D hD2 (by omega)];exact hD4
   refine qfm hD4' ?_
   have hcp:Chg (fun k=>k=D) w87 (w87.putObj D (.deferred none)):=Chg.put w87 D _ rfl
   refine ⟨_,qk (hcp.blk B87 (by omega)),h _ (qi (qi (qa e021 g2) c87 fun k hk=>by omega) hcp fun k hk=>by omega)⟩
theorem q5b (hV:Vk x) (hC:ColV S w v x) (hM:Mk w) {a:Option Addr} {n c:Nat} (hU:RowV vUn S2 w a n x.units) (h:∀ w',Ext w w'→R (.returned (.int .i64 0)) w') :
  Calls prog qjn ⟨[.agg ⟨kcs x v⟩,.slice a n c]⟩ w R:=by
 apply qwb
 refine qd fun b5 w6 hb5 B5 e6 s6=>?_
 refine ⟨_,bat B5 rfl,_,_,_,bat B5 rfl,_,_,_,bat B5 rfl,_,_,_,bat B5 rfl,?_⟩
 refine qte hV (hC.ext e6) (hM.ext e6) fun w12 e12=>⟨_,rfl,ql (by decide) ?_⟩
 have B5:=B5.ext e12
 have e012:=qa e6 e12
 refine ⟨_,bat B5 rfl,_,_,_,bat B5 rfl,_,_,_,bat B5 rfl,_,_,_,bat B5 rfl,?_⟩
 refine q65 hV (hC.ext e012) (hU.ext e012) fun w20 e20=>⟨_,rfl,?_⟩
 show br false _ _
 rw [br_f]
 exact h w20 (qa e012 e20)
end
def encPc:Enc (Tok × Nat):=⟨fun p=>[.string ⟨⟨p.1.t⟩⟩,.string ⟨⟨p.1.m⟩⟩,.string ⟨⟨p.1.p.1⟩⟩,.int .i64 p.1.p.2,.int .i64 p.1.g,.string ⟨⟨p.1.a⟩⟩,.int .i64 (p.2:Int)],7,fun _=>rfl,by decide,by intro p v hv;simp only [List.mem_cons,List.not_mem_nil,or_false] at hv;rcases hv with rfl | rfl | rfl | rfl | rfl | rfl | rfl <;> rfl⟩
theorem slT_pc:SlT prog 134 128 7 88 (.agg ⟨[.string ⟨⟨[]⟩⟩,.string ⟨⟨[]⟩⟩,.string ⟨⟨[]⟩⟩,.int .i64 0,.int .i64 0,.string ⟨⟨[]⟩⟩,.int .i64 0]⟩):=⟨by kernel_rfl,by kernel_rfl,rfl,by decide⟩
def SpE (p:Tok × Nat) (vs:List Value):Prop:=vs=[.agg ⟨encPc.enc p⟩]
theorem spkT_end (x:Kol) (t s:Nat):x.spkT t t s=[]:=by unfold Kol.spkT;rw [Nat.sub_self];rfl
theorem spkT_cons (x:Kol) {k t s:Nat} (h:k < t):x.spkT k t s=(match x.tk k s with | none=>[] | some u=>[(u,k)])++x.spkT (k + 1) t s:=by
 unfold Kol.spkT
 rw [show t - k=(t - (k + 1)) + 1 by omega,List.range'_succ,List.filterMap_cons]
 cases x.tk k s <;> rfl
theorem qyv (x:Kol) (f t s:Nat):(x.spkT f t s).length≤t - f:=by
 unfold Kol.spkT
 exact Nat.le_trans (List.length_filterMap_le ..) (by simp)
section
variable {R:Ending→World→Prop} {S S2 S3:Nat→Prop} {w:World} {v:KV} {x:Kol}
theorem qxi (hV:Vk x) {b1 b2 b3 b4 f t s:Nat} (hC:ColV S w v x) (hft:f≤t) (ht:t≤x.col.length) (hs:s < x.sig.length) (B1:Blk w b1 [.int .i64 (f:Int)] 3) (B2:Blk w b2 [.int .i64 (t:Int)] 3) (B3:Blk w b3 (kcs x v) 62) (B4:Blk w b4 [.int .i64 (s:Int)] 3) :
  IterO prog qa3 [.pointer (some ⟨b1,0,none⟩),.pointer (some ⟨b2,0,none⟩),.pointer (some ⟨b3,0,none⟩),.pointer (some ⟨b4,0,none⟩)] (x.spkT f t s) SpE (fun k=>(k=b1∨k=b2∨k=b3∨k=b4)∨(S k∧k < w.heap.size)) w:=by
 intro yf ya yb S0 J Jx R hS0 hJ hJx hbody h0 hend hstop
 apply qra
 have hcn:=hV.gr.col
 have l1:=B1.lt
 have l2:=B2.lt
 have l3:=B3.lt
 have l4:=B4.lt
 have rd:∀ {W:World},Chg (fun k=>S0 k∨w.heap.size≤k) w W→ColV S W v x∧Blk W b2 [.int .i64 (t:Int)] 3∧Blk W b3 (kcs x v) 62∧Blk W b4 [.int .i64 (s:Int)] 3:=by
  intro W hc
  have nb:∀ k,(k=b1∨k=b2∨k=b3∨k=b4)→k < w.heap.size→¬ (S0 k∨w.heap.size≤k):=fun k hk hl hh=>by
   rcases hh with hh | hh
   ·exact (hS0 _ hh).2 (.inl hk)
   ·omega
  refine ⟨((hC.imp (S':=fun k=>S k∧k < w.heap.size) fun k hk hl=>⟨hk,hl⟩).chg hc fun k hk hl hh=>?_).imp fun k hk _=>hk.1,hc.blk B2 (nb _ (by simp) l2),hc.blk B3 (nb _ (by simp) l3),hc.blk B4 (nb _ (by simp) l4)⟩
  rcases hh with hh | hh
  ·exact (hS0 _ hh).2 (.inr hk)
  ·omega
 refine dr_ok ⟨_,qk B1,?_⟩
 refine ⟨fun i W m=>∃ (k:Nat) (S1:Nat→Prop) (pre:List (Tok × Nat)),i=k∧m=t - k∧f≤k∧k≤t∧pre++x.spkT k t s=x.spkT f t s∧J pre S1 W ∧
   Chg (fun k=>S0 k∨w.heap.size≤k) w W∧(∀ k,S1 k→(S0 k∨w.heap.size≤k)∧k < W.heap.size),⟨_,f,S0,[],rfl,rfl,Nat.le_refl _,hft,rfl,h0,Chg.refl _ _,fun k hk=>⟨.inl hk,(hS0 k hk).1⟩⟩,?_⟩
 rintro _ W m ⟨k,S1,pre,rfl,rfl,hfk,hkt,hpre,hj,hc,hS1⟩ _
 have zW:=hc.size
 obtain ⟨hCW,B2W,B3W,B4W⟩:=rd hc
 refine dr_ok ⟨_,qk B2W,qc (fun hlt=>?_) (fun hge=>?_)⟩
 ·have hkc:k < x.col.length:=by omega
  unfold drw
  have ed:=qn W
  have zd:=ed.size
  have hc:=hc.trans (.of_ext ed)
  have hj:=hJ _ _ _ _ hj (.of_ext ed)
  have hS1:∀ k,S1 k→(S0 k∨w.heap.size≤k)∧k < W.drew.heap.size:=fun k hk=>⟨(hS1 k hk).1,by have:=(hS1 k hk).2;omega⟩
  generalize W.drew=V at *
  obtain ⟨hCV,B2V,B3V,B4V⟩:=rd hc
  have hlen:=(al_bd hV.al k hkc).1
  obtain ⟨bb,o,a',c',hq,_,_,hcc,hcl,hrow⟩:=hCV.cl.getS (List.getElem?_eq_getElem hkc)
  obtain ⟨p,hp,d⟩:=hrow.int (k:=s) (by omega)
  refine dr_ok ⟨_,_,_,bat B3V rfl,hq _ ⟨_,_,_,hcc,dr_ok ⟨_,qk B4V,hp _ ⟨_,d,?_⟩⟩⟩⟩
  rw [← ci_at hV hkc hs]
  rw [spkT_cons x (by omega)] at hpre
  refine qc (fun g=>?_) (fun g=>?_)
  ·have hb:=(hV.ci_bd hkc hs).resolve_left (by omega)
   have hst:s < x.tok.length:=by rw [hV.tl];exact hs
   have htk:x.tk k s=some ((x.tok.getD s []).getD (x.ci k s).toNat tk0):=by unfold Kol.tk;rw [if_neg (by omega)]
   obtain ⟨b2',o2,a2,c2,hq2,_,_,hc2,_,hrow2⟩:=hCV.tk.getS (List.getElem?_eq_getElem hst)
   rw [gD_at hst] at hb htk
   have hltk:(x.ci k s).toNat < x.tok[s].length:=by omega
   rw [gD_at hltk] at htk
   obtain ⟨q,hq3,c0,c1,c2,c3,c4,c5⟩:=qpy (rowV_enc.1 hrow2) (i:=(x.ci k s).toNat) (List.getElem?_eq_getElem hltk)
   rw [show (((x.ci k s).toNat:Nat):Int)=x.ci k s by omega] at hq3
   rw [htk] at hpre
   refine dr_ok ⟨_,_,_,bat B3V rfl,dr_ok ⟨_,qk B4V,hq2 _ ⟨_,_,_,hc2,hq3 _ ⟨_,c0,_,c1,_,c2,_,c3,_,c4,_,c5,?_⟩⟩⟩⟩
   generalize x.tok[s][(x.ci k s).toNat]=u at *
   refine qch (hbody pre (u,k) _ S1 V rfl ⟨_,by rw [← hpre,List.append_assoc]⟩ (by omega) (fun j hj'=>⟨(hS1 j hj').2,fun hh=>?_⟩) hj) ?_
   ·rcases (hS1 j hj').1 with h1 | h1
    ·exact (hS0 _ h1).2 hh
    ·rcases hh with (hh | hh | hh | hh) | hh <;> omega
   ·rintro e112 w112 ⟨hcb,S',hS',hres⟩
    have zb:=hcb.size
    have hc4:Chg (fun k=>S0 k∨w.heap.size≤k) w w112:=hc.trans (hcb.mono fun j _ hj'=>(hS1 j hj').1)
    rcases hres with ⟨rfl,hjn⟩ | ⟨rfl,hjx⟩
    ·refine ⟨_,rfl,?_⟩
     refine ⟨t - (k + 1),by omega,k + 1,S',_,by rw [qg (by omega)],rfl,by omega,by omega,by rw [← hpre,List.append_assoc],hjn,hc4,fun j hj'=>⟨?_,(hS' j hj').2⟩⟩
     rcases (hS' j hj').1 with h1 | h1
     ·exact (hS1 j h1).1
     ·exact .inr (by omega)
    ·exact ⟨_,rfl,hstop S' w112 (by omega) hjx⟩
  ·have htk:x.tk k s=none:=by unfold Kol.tk;rw [if_pos (by omega)]
   rw [htk] at hpre
   exact ⟨t - (k + 1),by omega,k + 1,S1,pre,by rw [qg (by omega)],rfl,by omega,by omega,hpre,hj,hc,hS1⟩
 ·have hkt':k=t:=by omega
  subst hkt'
  rw [spkT_end,List.append_nil] at hpre
  subst hpre
  exact hend S1 W zW hj
theorem q1a {gf:FuncId} {cap:List Value} {xs:List (Tok × Nat)} {Rd:Nat→Prop} (hok:okFn prog gf=true) (hit:∀ v1,Ext w v1→IterO prog gf cap xs SpE Rd v1) (hRd:∀ k,Rd k→k < w.heap.size) (hl:xs.length≤1000000)
  (h:∀ oa on oc w',OwnL encPc w' w.heap.size 128 oa on oc xs→Ext w w'→R (.returned (.slice oa on oc)) w') :
  Calls prog qu ⟨[.slice none 0 0,.func (.func gf) ⟨[]⟩ ⟨cap⟩]⟩ w R:=by
 apply qa0
 refine qd fun b3 w4 hb3 B3 e4 s4 base=>?_
 have l3:=B3.lt
 have z4:=e4.size
 rw [qas]
 refine qh4 qs qr (gf:=gf) rfl hok (xs:=xs) (E:=SpE) (Rd:=Rd)
  (fun v1 he=>hit v1 (qa e4 he)) (fun y vs hE=>by rw [show vs=_ from hE];rfl) (by decide) (fun k hk=>by have:=hRd k hk;omega) (fun k=>k=b3) (fun k hk=>⟨by omega,fun hr=>by have:=hRd k hr;omega⟩)
  (fun pre S1 W=>∃ (oa:Option Addr) (on oc:Nat),Blk W b3 [.slice oa on oc] 134∧OwnL encPc W w4.heap.size 128 oa on oc pre∧(∀ k,S1 k↔k=b3∨bk oa k)∧Ext w W) (fun _ _=>False) (fun _ _=>False)
  ?_ (fun _ _ _ h=>h.elim) (fun _ _ _ h=>h.elim) ⟨none,0,0,B3,Owns.nil _ _ _ _,fun k=>by simp [bk],e4⟩ ?_ ?_ (fun _ _ _ _ _ _ _ h=>h.elim) (fun _ _ _ _ _ _ _ h=>h.elim)
 ·rintro pre S1 W W' ⟨oa,on,oc,g1,g3,g5,g6⟩ hc
  exact ⟨oa,on,oc,hc.blk g1 (fun hh=>hh.2 ((g5 _).2 (.inl rfl))),Owns.chg g3 hc fun k hk hh=>hh.2 ((g5 k).2 (.inr hk)),g5,qi g6 hc fun k hk=>by omega⟩
 ·rintro pre p vs S1 W l hE hpre hl1 hl2 hl3 hS1 ⟨oa,on,oc,g1,g3,g5,g6⟩
  obtain rfl:vs=[.agg ⟨encPc.enc p⟩]:=hE
  refine Eq.mpr (qaq base _ _ _ _ _ _ _ p.1.t p.1.m p.1.p.1 p.1.p.2 p.1.g p.1.a (p.2:Int) _ _ _ _ _) ?_
  refine qac rfl (encPc.one p) fun b24 w26 hb24 B24 e26 s26=>?_
  have z26:=e26.size
  refine ⟨e26,fun W2 hU=>?_⟩
  have zU:=hU.size
  have hpl:pre.length + 1≤xs.length:=by have:=hpre.length_le;simpa using this
  have hUc:Chg (fun k=>k=l) w26 W2:=⟨hU.os,hU.tape,hU.output,by omega,fun k _ hk=>hU.block k hk⟩
  have nl:¬ bk oa l:=fun hh=>hl3 ((g5 l).2 (.inr hh))
  have nb:b3≠l:=fun hh=>hl3 ((g5 l).2 (.inl hh.symm))
  have h1:=hUc.blk (g1.ext e26) (fun hh=>nb hh)
  have B24':Blk W2 b24 (encPc.enc p) 128:=hUc.blk B24 (by omega)
  have h2:OwnL encPc W2 w4.heap.size 128 oa on oc pre:=Owns.chg (Owns.ext g3 e26) hUc fun k hk hh=>nl (hh ▸ hk)
  have E2:Ext w W2:=qi (qa g6 e26) hUc fun k hk=>by omega
  have hon:pre.length=on:=OwnL.length g3
  have n3:¬ bk oa b3:=fun hh=>by have:=(Owns.bk g3 hh).1;omega
  refine dr_ok ⟨oa,on,oc,qk h1,_,bat B24' rfl,_,bat B24' rfl,_,bat B24' rfl,_,bat B24' rfl,_,bat B24' rfl,_,bat B24' rfl,_,bat B24' rfl,?_⟩
  refine OwnL.push (E:=encPc) slT_pc h2 (by have:=E2.size;have:=g1.lt;omega) p (by omega) (by omega) fun a' c' w23 ho hc hn=>?_
  have zc:=hc.size
  have h1':=hc.blk h1 n3
  refine dr_ok (qam h1' rfl fun w24 B24 c24 s24=>?_)
  have n3':¬ bk a' b3:=fun hh=>by
   rcases hn _ hh with q | q
   ·exact n3 q
   ·have:=h1.lt;omega
  have sub4:∀ j,bk a' j→(S1 j∨W.heap.size≤j):=fun j hj=>(hn j hj).elim (fun h=>.inl ((g5 j).2 (.inr h))) (fun h=>.inr (by omega))
  have ho':OwnL encPc w24 w4.heap.size 128 a' (on + 1) c' (pre++[p]):=Owns.chg ho c24 fun k hk e=>n3' (e ▸ hk)
  refine ⟨(hc.mono fun j _ hj=>.inl ((g5 j).2 (.inr hj))).trans (c24.mono fun j _ hj=>.inl ((g5 j).2 (.inl hj))),fun j=>j=b3∨bk a' j,fun j hj=>⟨hj.elim (fun h=>.inl ((g5 j).2 (.inl h))) (sub4 j),hj.elim (fun h=>by subst h;exact B24.lt) (fun h=>(Owns.bk ho' h).2)⟩,a',on + 1,c',B24,ho',fun j=>Iff.rfl,?_⟩
  exact qi (qi E2 hc fun j hj=>by have:=(Owns.bk h2 hj).1;omega) c24 fun j hj=>by omega
 ·rintro D S1 W hD1 hD2 hD3 hD4 ⟨oa,on,oc,g1,g3,g5,g6⟩
  have hDb:¬ bk oa D:=fun hh=>hD3 ((g5 D).2 (.inr hh))
  refine ⟨oa,on,oc,qk g1,qfm hD4 ?_⟩
  have hcp:Chg (fun k=>k=D) W (W.putObj D (.deferred none)):=Chg.put W D _ rfl
  have ho:=Owns.chg g3 hcp fun k hk hh=>hDb (hh ▸ hk)
  exact h oa on oc _ (Owns.weak ho (by omega)) (qin g6 (by omega) _)
end
structure Dc where
 k:Int
 s:List UInt8
 t:Int
 x:List UInt8
abbrev Dc.cs (d:Dc):List Value:=[.int .i64 d.k,.string ⟨⟨d.s⟩⟩,.int .i64 d.t,.string ⟨⟨d.x⟩⟩]
theorem one_dc (d:Dc):∀ v∈d.cs,v.oneCell'=true:=by
 intro v hv;simp only [List.mem_cons,List.not_mem_nil,or_false] at hv;rcases hv with rfl | rfl | rfl | rfl <;> rfl
def encDc:Enc Dc:=⟨fun d=>d.cs,4,fun _=>rfl,by decide,one_dc⟩
abbrev vDc:View Dc:=View.enc encDc
structure DcOk (x:Kol) (d:Dc):Prop where
 k1:1≤d.k
 k3:d.k≤3
 s:d.s∈x.sig
theorem ixF_bd {α:Type} (q:α→Bool) (l:List α):ixF q l=-1∨(0≤ixF q l∧ixF q l < l.length):=by
 unfold ixF
 split
 ·rename_i g
  have hlt:List.findIdx q l < l.length:=List.findIdx_lt_length.2 (by simpa using g)
  exact .inr ⟨by omega,by omega⟩
 ·exact .inl rfl
section
variable {R:Ending→World→Prop} {S S2 S3:Nat→Prop} {w:World} {v:KV} {x:Kol}
theorem q7h {a:Option Addr} {n:Nat} {L:List Dc} (h:RowV vDc S w a n L) {i:Nat} (hi:i < L.length):∃ p:Addr,(∀ K:Addr→Prop,K p→idx a n (i:Int) 4 K)∧∀ (j:Nat) (v:Value),L[i].cs[j]? = some v→w.cell? (p.add j)=some v:=by
 obtain ⟨b,o,us,h1,_,_,h2,h3⟩:=h.get (List.getElem?_eq_getElem hi)
 have h2:us=L[i].cs:=h2
 subst h2
 exact ⟨⟨b,o,none⟩,h1,fun j v hv=>by rw [qe];exact h3 j v hv⟩
theorem qur {a:Option Addr} {n c:Nat} {L:List (List UInt8)} (v:List UInt8) (h1:RowV vS S w a n L) (hs:n≤4611686018427387904) (h:R (.returned (.int .i64 (ixF (fun x=>decide (v=x)) L))) w) :
  Calls prog qbw ⟨[.slice a n c,.string ⟨⟨v⟩⟩]⟩ w R:=by
 apply qbr
 have hn:=h1.1
 refine ⟨fun i W m=>∃ k:Nat,i=k∧k≤n∧m=n - k∧(∀ x∈L.take k,decide (v=x)=false)∧W=w,⟨_,0,rfl,by omega,rfl,by simp,rfl⟩,?_⟩
 rintro _ W m ⟨k,rfl,hk,rfl,hno,rfl⟩ _
 refine qc (fun hlt=>?_) (fun hge=>?_)
 ·have hkL:k < L.length:=by omega
  obtain ⟨p,hp1,hc⟩:=h1.str hkL
  refine hp1 _ ⟨_,hc,qc (fun g=>?_) (fun g=>?_)⟩
  ·rw [q2t hkL (decide_eq_true g) hno] at h;exact h
  ·exact ⟨n - (k + 1),by omega,k + 1,by rw [qg (by omega)],by omega,rfl,qv2 hkL (decide_eq_false g) hno,rfl⟩
 ·rw [List.take_of_length_le (by omega)] at hno
  rw [q2r hno] at h;exact h
theorem find1_call {a:Option Addr} {c:Nat} {L:List Int} {b9 b11 s:Nat} {tk:Int} (h1:RowV vI S w a L.length L) (hs:s < L.length) (B9:Blk w b9 [.int .i64 (s:Int)] 3) (B11:Blk w b11 [.int .i64 tk] 3) {K:Ending→World→Prop} (h:∀ (b:Bool) w',Ext w w'→K (.returned (.bool b)) w') :
  CallV prog (.func (.func 195) ⟨[]⟩ ⟨[.pointer (some ⟨b9,0,none⟩),.pointer (some ⟨b11,0,none⟩)]⟩) [.slice a L.length c] w K:=by
 refine ⟨by kernel_rfl,?_⟩
 apply qt1
 unfold qg3 drw
 have ed:=qn w
 obtain ⟨p,hp,d⟩:=(h1.ext ed).int hs
 exact dr_ok ⟨_,qk (B9.ext ed),hp _ ⟨_,d,dr_ok ⟨_,qk (B11.ext ed),h _ _ ed⟩⟩⟩
theorem cFind_spec (hV:Vk x) (hC:ColV S w v x) (hM:Mk w) {s:Nat} (hs:s < x.sig.length) (tk:Int) (h:∀ (c e:Int) w',Ext w w'→(e=0→-1≤c∧c < x.col.length)→R (.returned (.tuple ⟨[.int .i64 c,.int .i64 e]⟩)) w') :
  Calls prog qli ⟨[.agg ⟨kcs x v⟩,.int .i64 (s:Int),.int .i64 tk]⟩ w R:=by
 apply qyi
 have hcn:=hC.cl.1
 have htn:=hC.tk.1
 have hsn:=hC.sg.1
 have htl:=hV.tl
 have h24:=hV.gr.col
 refine qd fun b7 w8 hb7 B7 e8 s8=>qd fun b9 w10 hb9 B9 e10 s10=>qd fun b11 w12 hb11 B11 e12 s12=>?_
 have B9:=B9.ext e12
 have B7:=B7.ext (qa e10 e12)
 have e012:=qa e8 (qa e10 e12)
 refine ⟨_,bat B7 rfl,_,_,_,bat B7 rfl,_,_,_,bat B7 rfl,_,_,_,bat B7 rfl,?_⟩
 refine qte hV (hC.ext e012) (hM.ext e012) fun w18 e18=>⟨_,rfl,ql (by decide) ?_⟩
 have B9:=B9.ext e18
 have B7:=B7.ext e18
 have B11:=B11.ext e18
 have e018:=qa e012 e18
 have no:∀ V,Ext w V→R (.returned (.tuple ⟨[.int .i64 0,.int .i64 2]⟩)) V:=fun V eV=>h 0 2 V eV fun q=>by cases q
 intro K20 hK20
 have k20:∀ V,Ext w18 V→K20 V:=by
  intro V eV
  refine hK20 _ fun _=>⟨_,_,_,bat (B7.ext eV) rfl,?_⟩
  apply qfz
  refine ⟨fun i W m=>∃ k:Nat,i=k∧k≤x.col.length∧m=x.col.length - k∧Ext V W,⟨_,0,rfl,Nat.zero_le _,rfl,Below.refl _ _⟩,?_⟩
  rintro _ W m ⟨k,rfl,hk,rfl,eW⟩ _
  have eAll:=qa eV eW
  refine qc (fun hlt=>?_) (fun hge=>⟨_,rfl,h _ _ W (qa e018 eAll) fun _=>⟨by omega,by omega⟩⟩)
  have hkc:k < x.col.length:=by omega
  obtain ⟨b1,o1,a1,c1,hq1,_,_,hc1,_,hrow1⟩:=(hC.ext (qa e018 eAll)).cl.getS (List.getElem?_eq_getElem hkc)
  refine hq1 _ ⟨_,_,_,hc1,?_⟩
  refine find1_call hrow1 (s:=s) (by rw [(al_bd hV.al k hkc).1];exact hs) (B9.ext eAll) (B11.ext eAll) fun b w11 e11=>⟨_,rfl,qh (fun g=>⟨_,rfl,h _ _ w11 (qa e018 (qa eAll e11)) fun _=>⟨by omega,by omega⟩⟩) (fun g=>?_)⟩
  exact ⟨x.col.length - (k + 1),by omega,k + 1,by rw [qg (by omega)],by omega,rfl,qa eW e11⟩
 unfold drw
 have ed:=qn w18
 have B9:=B9.ext ed
 have B7:=B7.ext ed
 have B11:=B11.ext ed
 have e0d:=qa e018 ed
 refine ⟨_,qk B9,ql (by omega) ⟨_,qk B9,_,_,_,bat B7 rfl,ql (by omega) ⟨_,qk B11,qc (fun g=>no _ e0d) (fun g=>⟨_,qk B11,_,_,_,bat B7 rfl,_,qk B9,?_⟩)⟩⟩⟩
 obtain ⟨b1,o1,a1,c1,hq1,_,_,hc1,_,_⟩:=(hC.ext e0d).tk.getS (List.getElem?_eq_getElem (show s < x.tok.length by omega))
 exact hq1 _ ⟨_,_,_,hc1,qc (fun g=>no _ e0d) (fun g=>k20 _ ed)⟩
theorem place_spec (hV:Vk x) (hC:ColV S w v x) (hM:Mk w) (hF:Forms w) {a:Option Addr} {n c:Nat} (hU:RowV vUn S2 w a n x.units) (d:Dc) (hd:d.x.length≤80) (h:∀ (at_ e:Int) w',Ext w w'→(e=0→(0≤at_∧at_ < x.units.length)∧DcOk x d)→R (.returned (.tuple ⟨[.int .i64 at_,.int .i64 e]⟩)) w') :
  Calls prog qlc ⟨[.agg ⟨kcs x v⟩,.slice a n c,.agg ⟨d.cs⟩]⟩ w R:=by
 apply qyc
 have hsn:=hC.sg.1
 have h32:=hV.n32
 have hn:=hU.1
 have hrl:=qsy hV
 have hul:x.units.length=x.runs.length:=by unfold Kol.units;rw [List.length_map]
 have h24:=hV.gr.col
 refine qd fun b10 w11 hb10 B10 e11 s11=>qd fun b12 w13 hb12 B12 e13 s13=>?_
 have B10:=B10.ext e13
 have e013:=qa e11 e13
 have no:∀ (at_ e:Int) V,e≠0→Ext w V→R (.returned (.tuple ⟨[.int .i64 at_,.int .i64 e]⟩)) V:=fun at_ e V he eV=>h at_ e V eV fun q=>absurd q he
 intro K14 hK14
 have k14:1≤d.k→d.k≤3→K14 w13:=by
  intro hk1 hk3
  refine hK14 _ fun _=>⟨_,_,_,bat B10 rfl,_,bat B12 rfl,?_⟩
  refine qur d.s (hC.ext e013).sg (by omega) ⟨_,rfl,qc (fun g=>no _ _ _ (by decide) e013) (fun g=>?_)⟩
  obtain ⟨s,hs,hs1,hs2⟩:=qmr g
  have hmem:d.s∈x.sig:=by
   have:=of_decide_eq_true hs2
   rw [this];exact List.getElem_mem hs
  refine ⟨_,bat B10 rfl,_,_,_,bat B10 rfl,_,_,_,bat B10 rfl,_,_,_,bat B10 rfl,_,bat B12 rfl,?_⟩
  rw [hs1]
  refine cFind_spec hV (hC.ext e013) (hM.ext e013) hs d.t fun cc e w27 e27 hcc=>⟨_,_,rfl,?_⟩
  have e027:=qa e013 e27
  refine qc (fun g2=>no _ _ _ (by decide) e027) (fun g2=>?_)
  have hcc:=hcc (Decidable.not_not.1 g2)
  by_cases hneg:cc < 0
  ·refine q6q hneg fun w31 e31=>⟨_,_,rfl,?_⟩
   intro K34 hK34
   exact qnf (by decide) (no _ _ _ (by decide) (qa e027 e31))
  ·obtain ⟨cn,rfl⟩:∃ cn:Nat,cc=cn:=⟨cc.toNat,by omega⟩
   refine q02 (hU.ext e027) (by omega) cn fun w31 e31=>⟨_,_,rfl,?_⟩
   have e031:=qa e027 e31
   have B12':=B12.ext (qa e27 e31)
   intro K34 hK34
   refine ql (by decide) (qc (fun g3=>no _ _ _ (by decide) e031) (fun g3=>hK34 _ fun _=>?_))
   have hbd:=(ixF_bd (colU cn) x.units).resolve_left (by omega)
   have yes:∀ V,Ext w V→R (.returned (.tuple ⟨[.int .i64 (ixF (colU cn) x.units),.int .i64 0]⟩)) V:=fun V eV=>h _ _ V eV fun _=>⟨hbd,hk1,hk3,hmem⟩
   refine ⟨_,bat B12' rfl,qc (fun _=>⟨_,bat B12' rfl,?_⟩) (fun _=>yes _ e031)⟩
   refine Split_spec d.x (by omega) (hF.ext e031) fun a' n' c' w39 hn' _ e39=>⟨_,_,_,_,rfl,qc (fun g4=>no _ _ _ g4 (qa e031 e39)) (fun g4=>qc (fun _=>no _ _ _ (by decide) (qa e031 e39)) (fun _=>yes _ (qa e031 e39)))⟩
 intro K42 hK42
 have k42:∀ b:Bool,(b=false→1≤d.k∧d.k≤3)→K42 b w13:=by
  intro b hb
  refine hK42 _ _ fun _=>qh (fun _=>no _ _ _ (by decide) e013) (fun g=>?_)
  obtain ⟨h1,h3⟩:=hb g
  exact ⟨_,bat B12 rfl,qc (fun _=>⟨_,bat B12 rfl,qc (fun _=>no _ _ _ (by decide) e013) (fun _=>k14 h1 h3)⟩) (fun _=>k14 h1 h3)⟩
 refine ⟨_,bat B12 rfl,qc (fun g=>k42 true fun q=>by cases q) (fun g=>⟨_,bat B12 rfl,k42 _ fun q=>?_⟩)⟩
 have:=of_decide_eq_false q
 exact ⟨by omega,by omega⟩
end
end Go.Proofs
