/- A part of the proof. -/
import Derived.Test.YtkecgnlelgdndaaGreatDoorLawI
import Derived.Lib.AppendZerosOnto
set_option linter.all false
set_option maxRecDepth 20000
namespace Go.Proofs
open Go Go.Sh Go.RowKit Go.Proofs.Tryz IntKind List
def putX (R:EP) (p:Addr) (a:Int) (b c:LU) (d e:Int) (w:World):Prop :=
 stL w p 0 [iV a,sV b,sV c,iV d] fun w20 =>
 ∃ (x21:Int),World.cell? w20 (p.add 0)=some (iV x21)∧(∃ (x22:LU),World.cell? w20 (p.add 1)=some (sV x22)∧(∃ (x23:LU),World.cell? w20 (p.add 2)=some (sV x23)∧(∃ (x24:Int),World.cell? w20 (p.add 3)=some (iV x24)∧(R (.returned (.tuple ⟨[.agg ⟨[iV x21,sV x22,sV x23,iV x24]⟩,iV e]⟩)) w20))))
theorem one4 {a d:Int} {b c:LU}:∀ v∈([iV a,sV b,sV c,iV d]:LV),v.oneCell'=true:=by
 intro v hv;simp only [mem_cons,not_mem_nil,or_false] at hv;rcases hv with rfl | rfl | rfl | rfl <;> rfl
theorem putAt4 {cs vs:LV} (hc:cs.length=4) (hv:vs.length=4):putAt cs 0 vs=vs:=by
 obtain ⟨a,b,c,d,rfl⟩:∃ a b c d,cs=[a,b,c,d]:=by
  match cs,hc with
  | [a,b,c,d],_=>exact ⟨a,b,c,d,rfl⟩
 obtain ⟨a,b,c,d,rfl⟩:∃ a b c d,vs=[a,b,c,d]:=by
  match vs,hv with
  | [a,b,c,d],_=>exact ⟨a,b,c,d,rfl⟩
 rfl
theorem stX {b:Nat} {T:TypeId} {cs:LV} {w:World} {a d:Int} {n v:LU} (hb:Blk w b cs T) (hl:cs.length=4) {K:WP}
  (h:∀ w',Blk w' b [iV a,sV n,sV v,iV d] T→Chg (fun k=>k=b) w w'→w'.heap.size=w.heap.size→K w'):stL w ⟨b,0,none⟩ 0 [iV a,sV n,sV v,iV d] K:=by
 refine qaf hb (by simp [hl]) one4 fun w' b1 x2 x3 x4 x5 x6=>?_;rw [Nat.add_zero,putAt4 hl rfl] at b1;exact h w' b1 ⟨x4,x5,x6,by omega,fun j _ hj=>x2 j hj⟩ x3
theorem qzg {R:EP} {b:Nat} {T:TypeId} {cs:LV} {w:World} (hb:Blk w b cs T) (hl:cs.length=4) (y:Lx) (e:Int)
  (h:∀ w',Chg (fun k=>k=b) w w'→R (.returned (.tuple ⟨[aggX y,iV e]⟩)) w'):putX R ⟨b,0,none⟩ y.k y.nm y.vl y.pos e w:=by
 refine stX hb hl fun w' b1 hc _=>?_;obtain ⟨c0,c1,c2,c3⟩:=blk4x (x:=y) b1;exact ⟨_,c0,_,c1,_,c2,_,c3,h w' hc⟩
theorem setX0 {b:Nat} {T:TypeId} {w:World} {a a' d:Int} {n v:LU} (hb:Blk w b [iV a,sV n,sV v,iV d] T) {K:WP}
  (h:∀ w',Blk w' b [iV a',sV n,sV v,iV d] T→Chg (fun k=>k=b) w w'→w'.heap.size=w.heap.size→K w'):stL w ((⟨b,0,none⟩:Addr).add 0) 0 [iV a'] K:=by
 rw [qd];refine qaf hb (by simp) (by intro u hu;rw [mem_singleton.1 hu];rfl) fun w' b1 x2 x3 x4 x5 x6=>?_;exact h w' b1 ⟨x4,x5,x6,by omega,fun j _ hj=>x2 j hj⟩ x3
theorem setX2 {b:Nat} {T:TypeId} {w:World} {a d:Int} {n v v':LU} (hb:Blk w b [iV a,sV n,sV v,iV d] T) {K:WP}
  (h:∀ w',Blk w' b [iV a,sV n,sV v',iV d] T→Chg (fun k=>k=b) w w'→w'.heap.size=w.heap.size→K w'):stL w ((⟨b,0,none⟩:Addr).add 2) 0 [sV v'] K:=by
 rw [qd];refine qaf hb (by simp) (by intro u hu;rw [mem_singleton.1 hu];rfl) fun w' b1 x2 x3 x4 x5 x6=>?_;exact h w' b1 ⟨x4,x5,x6,by omega,fun j _ hj=>x2 j hj⟩ x3
theorem setX3 {b:Nat} {T:TypeId} {w:World} {a d d':Int} {n v:LU} (hb:Blk w b [iV a,sV n,sV v,iV d] T) {K:WP}
  (h:∀ w',Blk w' b [iV a,sV n,sV v,iV d'] T→Chg (fun k=>k=b) w w'→w'.heap.size=w.heap.size→K w'):stL w ((⟨b,0,none⟩:Addr).add 3) 0 [iV d'] K:=by
 rw [qd];refine qaf hb (by simp) (by intro u hu;rw [mem_singleton.1 hu];rfl) fun w' b1 x2 x3 x4 x5 x6=>?_;exact h w' b1 ⟨x4,x5,x6,by omega,fun j _ hj=>x2 j hj⟩ x3
def readTail (R:EP) (part:LU) (b2 b26:Nat) (w32:World):Prop :=
 ∃ (x40:Int),World.cell? w32 ((⟨b26,0,none⟩:Addr).add 0)=some (iV x40)∧(∃ (x41:LU),World.cell? w32 ((⟨b26,0,none⟩:Addr).add 1)=some (sV x41)∧(∃ (x42:LU),World.cell? w32 ((⟨b26,0,none⟩:Addr).add 2)=some (sV x42)∧(∃ (x43:Int),World.cell? w32 ((⟨b26,0,none⟩:Addr).add 3)=some (iV x43)∧(Calls prog qhk ⟨[.agg ⟨[iV x40,sV x41,sV x42,iV x43]⟩]⟩ w32 fun (e44:Ending) (w45:World) =>
 ∃ (x46:Bool),e44=.returned (bV x46)∧(br (!x46) (putX R ⟨b2,0,none⟩ 0 [] [] 0 3 w45) (∃ (x52:Int),World.cell? w45 ((⟨b26,0,none⟩:Addr).add 0)=some (iV x52)∧(∃ (x53:LU),World.cell? w45 ((⟨b26,0,none⟩:Addr).add 1)=some (sV x53)∧(∃ (x54:LU),World.cell? w45 ((⟨b26,0,none⟩:Addr).add 2)=some (sV x54)∧(∃ (x55:Int),World.cell? w45 ((⟨b26,0,none⟩:Addr).add 3)=some (iV x55)∧(Calls prog qjb ⟨[.agg ⟨[iV x52,sV x53,sV x54,iV x55]⟩]⟩ w45 fun (e56:Ending) (w57:World) =>
 ∃ (x58:LU),e56=.returned (sV x58)∧(br (decide ((x58:LU)≠part)) (putX R ⟨b2,0,none⟩ 0 [] [] 0 3 w57) (∃ (x64:Int),World.cell? w57 ((⟨b26,0,none⟩:Addr).add 0)=some (iV x64)∧(∃ (x65:LU),World.cell? w57 ((⟨b26,0,none⟩:Addr).add 1)=some (sV x65)∧(∃ (x66:LU),World.cell? w57 ((⟨b26,0,none⟩:Addr).add 2)=some (sV x66)∧(∃ (x67:Int),World.cell? w57 ((⟨b26,0,none⟩:Addr).add 3)=some (iV x67)∧(putX R ⟨b2,0,none⟩ x64 x65 x66 x67 0 w57))))))))))))))))
abbrev cellsX (x:Lx):LV:=[iV x.k,sV x.nm,sV x.vl,iV x.pos]
theorem qzf {R:EP} {part:LU} {b2 b26:Nat} {w:World} (x:Lx) (B2:Blk w b2 (cellsX zeroX) 202) (B26:Blk w b26 (cellsX x) 202) (hk:x.k=3∨qcm x.nm=true) (hn:x.nm.length≤1000000000) (hv:x.vl.length≤1000000000) (hM:Mk w)
  (h:∀ w1 w',Ext w w1→Chg (fun k=>k=b2) w1 w'→R (.returned (.tuple ⟨[aggX (if qb2 x=true∧textF x=part then (x,0) else (zeroX,3):Lx × Int).1,iV (if qb2 x=true∧textF x=part then (x,0) else (zeroX,3):Lx × Int).2]⟩)) w') :
  readTail R part b2 b26 w:=by
 obtain ⟨c0,c1,c2,c3⟩:=blk4x B26;refine ⟨_,c0,_,c1,_,c2,_,c3,qzd x hk hv hM fun w45 e45=>⟨_,rfl,?_⟩⟩;refine qk (fun g=>?_) (fun g=>?_)
 ·have g:qb2 x=false:=by simpa using g
  have hi:(if qb2 x=true∧textF x=part then (x,0) else (zeroX,3):Lx × Int)=(zeroX,3):=if_neg (fun hh=>by rw [g] at hh;cases hh.1);rw [hi] at h;exact qzg (B2.ext e45) rfl zeroX 3 fun w' hc=>h w45 w' e45 hc
 ·have g:qb2 x=true:=by simpa using g
  refine ⟨_,qp c0 e45,_,qp c1 e45,_,qp c2 e45,_,qp c3 e45,q5a x hn hv fun w57 e57=>⟨_,rfl,qb (fun g2=>?_) (fun g2=>?_)⟩⟩
  ·have hi:(if qb2 x=true∧textF x=part then (x,0) else (zeroX,3):Lx × Int)=(zeroX,3):=if_neg (fun hh=>g2 hh.2);rw [hi] at h;exact qzg ((B2.ext e45).ext e57) rfl zeroX 3 fun w' hc=>h w57 w' (qa e45 e57) hc
  ·have hi:(if qb2 x=true∧textF x=part then (x,0) else (zeroX,3):Lx × Int)=(x,0):=if_pos ⟨g,Classical.not_not.1 g2⟩;rw [hi] at h;exact ⟨_,qp (qp c0 e45) e57,_,qp (qp c1 e45) e57,_,qp (qp c2 e45) e57,_,qp (qp c3 e45) e57,qzg ((B2.ext e45).ext e57) rfl x 0 fun w' hc=>h w57 w' (qa e45 e57) hc⟩
theorem q90 (m:LU):Lib.trimPrefix m [47]=if m.head? = some 47 then m.drop 1 else m:=by
 unfold Lib.trimPrefix Lib.hasPrefix;cases m with
 | nil=>rfl
 | cons a r =>
  by_cases h:a=47
  ·subst h;rfl
  ·have h':¬ 47=a:=fun e=>h e.symm;simp [h,h']
theorem has_head (m:LU):Lib.hasPrefix m [47]=decide (m.head? = some 47):=by
 unfold Lib.hasPrefix;cases m with
 | nil=>rfl
 | cons a r =>
  by_cases h:a=47
  ·subst h;rfl
  ·have h':¬ 47=a:=fun e=>h e.symm;rw [List.head?_cons,decide_eq_false (by simpa using h)];simp [List.isPrefixOf,h']
theorem qvp:∀ b:LU,Lib.indexAny b [32,47]≤(b.length:Int)
 | []=>by simp [Lib.indexAny]
 | c :: l=>by
  have ih:=qvp l;rw [Lib.indexAny,length_cons];split
  ·omega
  ·split
   ·omega
   ·omega
theorem qaz {w w1 w2:World} {b:Nat} (h:Ext w w1) (hc:Chg (fun k=>k=b) w1 w2) (hb:w.heap.size≤b):Ext w w2:=qi h hc fun k hk=>by rw [hk];exact hb
theorem read_spec {R:EP} {w:World} (m:LU) (hl:m.length≤100000000) (hM:Mk w)
  (h:∀ w',Ext w w'→R (.returned (.tuple ⟨[aggX (readF (60 :: (m++[62]))).1,iV (readF (60 :: (m++[62]))).2]⟩)) w'):Calls prog qtc ⟨[sV (60 :: (m++[62]))]⟩ w R:=by
 apply q8n;refine qg fun b2 w3 hb2 B2 e3 s3=>?_;have hlen:(60 :: (m++[62]):LU).length=m.length + 2:=by simp
 rw [hlen,show ((m.length + 2:Nat):Int) - 1=((m.length + 1:Nat):Int) by omega,qo (by omega)];refine qdg (i:=1) (by omega) (by rw [hlen];omega) ?_;have hin:((60 :: (m++[62]):LU).take (m.length + 1)).drop 1=m:=by
  have:=qkl m
  unfold qcf at this;rw [hlen] at this;exact this
 rw [hin];have hz:(⟨⟨m⟩⟩:ByteArray).size=m.length:=rfl;refine (Tryz.strings_TrimPrefix ⟨⟨m⟩⟩ ⟨⟨[47]⟩⟩ w3).mono ?_;rintro _ w6 ⟨rfl,hw6⟩;rw [hw6];refine ⟨Lib.trimPrefix m [47],rfl,?_⟩;intro K8 hK8;have hb0:(Lib.trimPrefix m [47]).length≤m.length:=by
  rw [q90];split
  ·rw [List.length_drop];omega
  ·exact Nat.le_refl _
 have hn0:=name_le (Lib.trimPrefix m [47]);have k8:∀ w10,Ext w3 w10→K8 (nameF (Lib.trimPrefix m [47])) w10:=by
  intro w10 e10;refine hK8 _ _ fun _=>?_;have hrd:readF (60 :: (m++[62]))=if qcm (nameF (Lib.trimPrefix m [47]))=false then (zeroX,12) else if m.head? = some 47 then (if qgq (nameF (Lib.trimPrefix m [47]))=false∧[60,47]++nameF (Lib.trimPrefix m [47])++[62]=60 :: (m++[62]) then (⟨3,nameF (Lib.trimPrefix m [47]),[],0⟩,0) else (zeroX,3))
    else accX (60 :: (m++[62])) (nameF (Lib.trimPrefix m [47])) (qd6 m):=by
   unfold readF;rw [qkl,q90];by_cases hc:m.head? = some 47
   ·simp only [hc,if_true]
   ·simp only [hc,if_false];by_cases hk:qcm (nameF m)=false
    ·rw [if_pos hk,if_pos hk]
    ·rw [if_neg hk,if_neg hk];have:=acc_PF (part:=60 :: (m++[62])) (nm:=nameF m) (by simpa using hk)
     rw [qkl] at this;exact this.symm
  generalize hnm:nameF (Lib.trimPrefix m [47])=nm at hrd hn0;refine qz7 nm (fun b8 b64 w12 t hb8 hb64 B8 B64 ht e12=>⟨_,_,_,_,rfl,?_⟩) (fun w12 hno e12=>⟨_,_,_,_,rfl,?_⟩)
  ·refine qw (by simp) (by intro u hu;simp only [mem_cons,not_mem_nil,or_false] at hu;rcases hu with rfl | rfl | rfl <;> rfl) fun b17 w19 hb17 B17 e19 s19=>?_;obtain ⟨t1,t2⟩:=tag_some ht;obtain ⟨y0,y1,y2⟩:=blk3 B17;have E19:=qa (qa e10 e12) e19;have z19:=E19.size;have B2':=B2.ext E19;rw [if_neg (by rw [t1];decide)] at hrd;simp only [Bool.not_true,br_f];refine ⟨_,y0,?_⟩;refine qw rfl one4 fun b26 w28 hb26 B26 e28 s28=>?_;have z28:=e28.size;intro K29 hK29;have k29:∀ w30 (k:Int),k=(if qgq nm=true then 4 else 2)→Ext w19 w30→Blk w30 b26 [iV k,sV nm,sV ([]),iV 0] 202→K29 w30:=by
    intro w30 k hk e30 B30;refine hK29 _ fun _=>?_;intro K31 hK31;have E30:=qa (qa e3 E19) e30;have B2a:=B2'.ext e30;have z30:=e30.size;have B17a:=B17.ext e30;have k3:k≠3:=by rw [hk];split <;> decide
    refine (Tryz.strings_HasPrefix ⟨⟨m⟩⟩ ⟨⟨[47]⟩⟩ w30).mono ?_;rintro _ w107 ⟨rfl,hw⟩;rw [hw];refine ⟨_,rfl,?_⟩;show br (Lib.hasPrefix m [47]) _ _;rw [has_head];refine qb (fun hc=>?_) (fun hc=>?_)
    ·rw [if_pos hc] at hrd;refine setX0 B30 fun w32 B32 c32 s32=>hK31 _ fun _=>?_;obtain ⟨d0,d1,d2,d3⟩:=blk4x (x:=⟨3,nm,[],0⟩) B32;have B17b:=c32.blk B17a (by omega);have B2b:=c32.blk B2a (by omega);have E32:=qaz E30 c32 (by omega);obtain ⟨_,y1',_⟩:=blk3 B17b;refine ⟨_,d0,?_⟩;rw [decide_eq_true rfl,br_t];refine ⟨_,y1',?_⟩;rw [t2];refine qk (fun he=>?_) (fun he=>?_)
     ·rw [if_neg (fun hh=>by rw [he] at hh;cases hh.1)] at hrd;refine qzg B2b rfl zeroX 3 fun w' hc'=>?_;have:=h w' (qaz E32 hc' (by omega))
      rwa [hrd] at this
     ·refine qzf ⟨3,nm,[],0⟩ B2b B32 (.inl rfl) (show nm.length≤_ by omega) (by simp) (hM.ext E32) fun w1 w' e1 c1=>?_;have:=h w' (qaz (qa E32 e1) c1 (by omega))
      rw [hrd] at this;have e1:qb2 ⟨3,nm,[],0⟩=true:=rfl;have e2:textF ⟨3,nm,[],0⟩=[60,47]++nm++[62]:=rfl;rw [e1,e2];by_cases hp:[60,47]++nm++[62]=60 :: (m++[62])
      ·rw [if_pos ⟨he,hp⟩] at this;rw [if_pos ⟨rfl,hp⟩];exact this
      ·rw [if_neg (fun hh=>hp hh.2)] at this;rw [if_neg (fun hh=>hp hh.2)];exact this
    ·rw [if_neg hc] at hrd;have k31:∀ w32,Ext w32 w32→Ext w19 w32→Blk w32 b26 [iV k,sV nm,sV (qd6 m),iV 0] 202→K31 w32:=by
      intro w32 _ e32 B32;refine hK31 _ fun _=>?_;have E32:=qa (qa e3 E19) e32;have B2b:=B2'.ext e32;have z32:=e32.size;have hx:tagX nm (qd6 m)=⟨k,nm,qd6 m,0⟩:=by unfold tagX;rw [hk]
      obtain ⟨d0,d1,d2,d3⟩:=blk4x (x:=⟨k,nm,qd6 m,0⟩) B32;refine ⟨_,d0,?_⟩;rw [decide_eq_false k3,br_f];have hvl:(qd6 m).length≤1000000000:=by
       unfold qd6 Lib.cut Lib.trimSuffix;split <;> split <;> simp <;> omega
      refine qzf ⟨k,nm,qd6 m,0⟩ B2b B32 (.inr t1) (show nm.length≤_ by omega) hvl (hM.ext E32) fun w1 w' e1 c1=>?_;have:=h w' (qaz (qa E32 e1) c1 (by omega))
      rw [hrd] at this;unfold accX at this;rw [hx] at this;have er:qb2 ⟨k,nm,qd6 m,0⟩=valB nm (qd6 m):=by unfold qb2;rw [if_neg k3]
      rw [er];exact this
     refine (Tryz.strings_TrimSuffix ⟨⟨m⟩⟩ ⟨⟨[47]⟩⟩ w30 (by rw [hz];omega)).mono ?_;rintro _ w111 ⟨rfl,hw1⟩;rw [hw1];refine ⟨Lib.trimSuffix m [47],rfl,?_⟩;obtain ⟨mm,hmm⟩:=(hM.ext E30).1;have hts:(Lib.trimSuffix m [47]).length≤m.length:=by
      unfold Lib.trimSuffix;split
      ·rw [length_take];omega
      ·exact Nat.le_refl _
     have hzs:(⟨⟨Lib.trimSuffix m [47]⟩⟩:ByteArray).size=(Lib.trimSuffix m [47]).length:=rfl;refine (Tryz.strings_Cut ⟨⟨Lib.trimSuffix m [47]⟩⟩ ⟨⟨[32]⟩⟩ mm w30 (by rw [hzs];omega) hmm).mono ?_;rintro _ w114 ⟨rfl,n,rfl⟩;have ed:Ext w30 (w30.drewN n):=Go.below_drewN bR n;refine ⟨_,_,_,rfl,?_⟩;show br (Lib.cut (Lib.trimSuffix m [47]) [32]).2.2 _ _;refine qk (fun hf=>?_) (fun hf=>?_)
     ·refine setX2 (B30.ext ed) fun w32 B32 c32 s32=>k31 w32 bR (qaz (qa e30 ed) c32 (by omega)) B32
     ·have hv:qd6 m=[]:=by
       unfold qd6;unfold Lib.cut at hf ⊢;split at hf
       ·cases hf
       ·rename_i hi;rw [if_neg hi]
      refine k31 _ bR (qa e30 ed) ?_;rw [hv];exact B30.ext ed
   obtain ⟨v0,v1,v2⟩:=blk3 (B17.ext e28);refine ⟨_,v1,?_⟩;rw [t2];refine qk (fun he=>?_) (fun he=>?_)
   ·refine setX0 B26 fun w120 B120 c120 s120=>k29 w120 4 (by rw [if_pos he]) (qaz e28 c120 (by omega)) B120
   ·exact k29 w28 2 (by rw [if_neg (by rw [he];decide)]) e28 B26
  ·refine qw (by simp) (by intro u hu;simp only [mem_cons,not_mem_nil,or_false] at hu;rcases hu with rfl | rfl | rfl <;> rfl) fun b17 w19 hb17 B17 e19 s19=>?_;simp only [Bool.not_false,br_t];have E19:=qa (qa e10 e12) e19;rw [if_pos (q6f hno)] at hrd;refine qzg (B2.ext E19) rfl zeroX 12 fun w' hc'=>?_;have:=h w' (qaz (qa e3 E19) hc' (by omega))
   rwa [hrd] at this
 refine q9k _ (by omega) fun w122 e122=>⟨_,rfl,?_⟩;have ha:=any_name (Lib.trimPrefix m [47]);refine qb (fun g=>?_) (fun g=>?_)
 ·rw [if_pos g] at ha;obtain ⟨i,hi⟩:∃ i:Nat,Lib.indexAny (Lib.trimPrefix m [47]) [32,47]=i:=⟨(Lib.indexAny (Lib.trimPrefix m [47]) [32,47]).toNat,by omega⟩;rw [hi] at ha ⊢;rw [Int.toNat_natCast] at ha;have hil:i≤(Lib.trimPrefix m [47]).length:=by
   apply Classical.byContradiction;intro hh;have:=qvp (Lib.trimPrefix m [47])
   omega
  refine qdg (i:=0) (by omega) hil ?_;rw [List.drop_zero,← ha];exact k8 w122 e122
 ·rw [if_neg g] at ha;have:=k8 w122 e122
  rwa [ha] at this
theorem partsM_iterO (s:LU) (hs:s.length≤4611686018427387904) (b:Nat) (w:World) (hb:Blk w b [sV s] 9) :
  IterO prog qcw [.pointer (some ⟨b,0,none⟩)] (qbm s 0) (fun x vs=>vs=[iV (x.1:Int),sV x.2]) (fun k=>k=b) w:=by
 intro yf ya yb S0 J Jx R hS hJ hJx hbody h0 hend hstop;apply qw5;have hbl:=hb.lt;refine ⟨fun i W m=>∃ (k:Nat) (pre:List (Nat × LU)) (S:NP),i=k∧k≤s.length∧m=s.length - k∧qbm s 0=pre++qbm (s.drop k) k∧J pre S W∧Blk W b [sV s] 9∧w.heap.size≤W.heap.size∧(∀ j,S j→j < W.heap.size∧¬ j=b),⟨_,0,[],S0,rfl,by omega,rfl,rfl,h0,hb,Nat.le_refl _,hS⟩,?_⟩;rintro _ W m ⟨k,pre,S,rfl,hk,rfl,heq,hj,hB,hW,hS⟩ _;have cB:W.cell? ⟨b,0,none⟩=some (sV s):=by show _=_;rw [hB.cell];rfl
 refine dr_ok ⟨_,cB,qb (fun hlt=>?_) (fun hge=>?_)⟩
 ·have hkl:k < s.length:=by omega
  obtain ⟨c,r,hcr⟩:∃ c r,s.drop k=c :: r:=⟨s[k],s.drop (k + 1),drop_eq_getElem_cons hkl⟩;have hck:s[k]=c:=by have:=drop_eq_getElem_cons hkl;rw [hcr] at this;exact (List.cons.inj this).1.symm
  obtain ⟨b1,b2⟩:=que (c:=c) (r:=r);have hll:(c :: r).length=s.length - k:=by rw [← hcr,List.length_drop]
  refine dr_ok ⟨_,cB,?_⟩;intro K12 hK12;have k12:K12 ((k + cutX (c :: r):Nat):Int) W:=by
   refine hK12 _ _ fun _=>dr_ok ⟨_,cB,?_⟩;refine qdg (by omega) (by omega) ?_;have hsub:(s.take (k + cutX (c :: r))).drop k=(c :: r).take (cutX (c :: r)):=by rw [List.drop_take,hcr,Nat.add_sub_cancel_left]
   rw [hsub];have hp:qbm (s.drop k) k=(k,(c :: r).take (cutX (c :: r))) :: qbm (s.drop (k + cutX (c :: r))) (k + cutX (c :: r)):=by
    rw [hcr,qbm,← hcr,List.drop_drop]
   refine qbr (hbody pre (k,(c :: r).take (cutX (c :: r))) _ S W rfl (by rw [heq,hp];exact ⟨qbm (s.drop (k + cutX (c :: r))) (k + cutX (c :: r)),by simp⟩) hW hS hj) ?_;rintro e W3 ⟨hc3,S',hS',hh⟩;have hS3:∀ j,S' j→j < W3.heap.size∧¬ j=b:=fun j hj=>⟨(hS' j hj).2,(hS' j hj).1.elim (fun h=>(hS j h).2) (fun h=>by have:=hB.lt;omega)⟩;have z3:=hc3.size;have hB3:=hc3.blk hB (fun hh=>(hS b hh).2 rfl);rcases hh with ⟨rfl,hj3⟩ | ⟨rfl,hj3⟩
   ·refine ⟨true,rfl,?_⟩;simp only [Bool.not_true,br_f];exact ⟨s.length - (k + cutX (c :: r)),by omega,k + cutX (c :: r),pre++[(k,(c :: r).take (cutX (c :: r)))],S',rfl,by omega,rfl,by rw [heq,hp];simp,hj3,hB3,by omega,hS3⟩
   ·refine ⟨false,rfl,?_⟩;simp only [Bool.not_false,br_t];exact hstop S' W3 (by omega) hj3
  have hdd:(s.take s.length).drop k=c :: r:=by rw [List.take_length,hcr]
  have lt:∀ {x:UInt8},0≤Lib.indexByte (c :: r) x→(Lib.indexByte (c :: r) x).toNat < (c :: r).length:=fun {x} hx=>by
   obtain ⟨h1,_⟩:=Lib.indexByte_some (l:=c :: r) (c:=x) (o:=(Lib.indexByte (c :: r) x).toNat) (by omega);exact (List.getElem?_eq_some_iff.1 h1).1
  refine dr_ok ⟨_,cB,?_⟩;refine qbi hkl ?_;rw [hck];refine qb (fun g=>dr_ok ⟨_,cB,?_⟩) (fun g=>dr_ok ⟨_,cB,?_⟩)
  ·have hc60:c=60:=by
    have:c.toNat=60:=by omega
    exact UInt8.toNat_inj.1 this
   refine qdg (by omega) (Nat.le_refl _) ?_;rw [hdd];refine (Tryz.strings_IndexByte ⟨⟨c :: r⟩⟩ 62 W).mono ?_;rintro e w29 ⟨rfl,rfl⟩;refine ⟨_,rfl,?_⟩;show br (decide (0≤Lib.indexByte (c :: r) 62)) (K12 (i64.wrap (i64.wrap ((k:Int) + Lib.indexByte (c :: r) 62) + 1)) w29) (K12 (s.length:Int) w29);have hcx:cutX (c :: r)=if 0≤Lib.indexByte (c :: r) 62 then (Lib.indexByte (c :: r) 62).toNat + 1 else (c :: r).length:=by unfold cutX;rw [if_pos (by simp [hc60])]
   refine qb (fun gi=>?_) (fun gi=>?_)
   ·have:=lt gi
    rw [if_pos gi] at hcx;have e1:i64.wrap ((k:Int) + Lib.indexByte (c :: r) 62)=(k:Int) + Lib.indexByte (c :: r) 62:=qo (by omega);rw [e1,qo (by omega),show (k:Int) + Lib.indexByte (c :: r) 62 + 1=((k + cutX (c :: r):Nat):Int) by omega];exact k12
   ·rw [if_neg gi] at hcx;rw [show (s.length:Int)=((k + cutX (c :: r):Nat):Int) by omega];exact k12
  ·have hc60:¬ c=60:=fun e=>g (by rw [e];rfl);refine qdg (by omega) (Nat.le_refl _) ?_;rw [hdd];refine (Tryz.strings_IndexByte ⟨⟨c :: r⟩⟩ 60 W).mono ?_;rintro e w29 ⟨rfl,rfl⟩;refine ⟨_,rfl,?_⟩;show br (decide (0≤Lib.indexByte (c :: r) 60)) (K12 (i64.wrap ((k:Int) + Lib.indexByte (c :: r) 60)) w29) (K12 (s.length:Int) w29);have hcx:cutX (c :: r)=if 0≤Lib.indexByte (c :: r) 60 then (Lib.indexByte (c :: r) 60).toNat else (c :: r).length:=by unfold cutX;rw [if_neg (by simp [hc60])]
   refine qb (fun gi=>?_) (fun gi=>?_)
   ·have:=lt gi
    rw [if_pos gi] at hcx;rw [qo (by omega),show (k:Int) + Lib.indexByte (c :: r) 60=((k + cutX (c :: r):Nat):Int) by omega];exact k12
   ·rw [if_neg gi] at hcx;rw [show (s.length:Int)=((k + cutX (c :: r):Nat):Int) by omega];exact k12
 ·have hkk:k=s.length:=by omega
  rw [hkk,List.drop_length,qbm,append_nil] at heq;rw [heq] at hend;exact hend S W hW hj
theorem parts_spec9 {R:EP} {w:World} (s:LU) (h:∀ b w',b=w.heap.size→Blk w' b [sV s] 9→Ext w w'→w'.heap.size=b + 1→R (.returned (.func (.func qcw) ⟨[]⟩ ⟨[.pointer (some ⟨b,0,none⟩)]⟩)) w') :
  Calls prog qnq ⟨[sV s]⟩ w R:=by
 apply q3o;exact qg fun b w' hb B e sz=>h b w' hb B e sz
theorem slT_lex:SlT prog 197 202 4 48 (.agg #[iV 0,.string ⟨#[]⟩,.string ⟨#[]⟩,iV 0]):=⟨Tryz.underlying197,by kernel_rfl,rfl,by decide⟩
theorem qt2:∀ (n:Nat) (t:LU) (at_:Nat),t.length≤n→(qbm t at_).length≤t.length
 | n,[],_,_=>by rw [qbm];exact Nat.le_refl _
 | 0,_ :: _,_,h=>absurd h (by simp)
 | n + 1,c :: r,at_,h=>by
  obtain ⟨b1,b2⟩:=que (c:=c) (r:=r);have hdl:((c :: r).drop (cutX (c :: r))).length=(c :: r).length - cutX (c :: r):=List.length_drop;have:=qt2 n ((c :: r).drop (cutX (c :: r))) (at_ + cutX (c :: r)) (by omega)
  rw [qbm,length_cons];omega
theorem qy7:∀ {l:List (Nat × LU)} {out:List Lx},scanL l=(out,0)→out.length=l.length
 | [],out,h=>by rw [← (Prod.mk.inj h).1];rfl
 | p :: r,out,h=>by
  obtain ⟨x,l',rfl,_,hr⟩:=q5f h;rw [length_cons,qy7 hr];rfl
theorem part_mid {part:LU} (h1:part.head? = some 60) (h2:part.getLast? = some 62):∃ m,part=60 :: (m++[62]):=by
 cases part with
 | nil=>cases h1
 | cons a r =>
  obtain rfl:a=60:=by simpa using h1
  cases hr:r with
  | nil=>subst hr;simp at h2
  | cons b t =>
   have hne:(60 :: b :: t:LU)≠[]:=by simp
   have hl:(b :: t:LU).getLast? = some 62:=by rw [← hr];rw [hr] at h2 ⊢;rwa [List.getLast?_cons_cons] at h2
   obtain ⟨ys,hys⟩:=List.getLast?_eq_some_iff.1 hl;exact ⟨ys,by rw [hys]⟩
theorem parts_mem:∀ (n:Nat) (t:LU) (at_:Nat),t.length≤n→∀ p∈qbm t at_,p.2.length≤t.length∧p.2≠[]∧p.1≤at_ + t.length
 | n,[],_,_,p,hp=>by rw [qbm] at hp;cases hp
 | 0,_ :: _,_,h,_,_=>absurd h (by simp)
 | n + 1,c :: r,at_,h,p,hp=>by
  obtain ⟨b1,b2⟩:=que (c:=c) (r:=r);have hdl:((c :: r).drop (cutX (c :: r))).length=(c :: r).length - cutX (c :: r):=List.length_drop;rw [qbm] at hp;rcases mem_cons.1 hp with rfl | hp
  ·have hl:((c :: r).take (cutX (c :: r))).length=cutX (c :: r):=by rw [length_take];omega
   refine ⟨by show ((c :: r).take (cutX (c :: r))).length≤_;omega,fun e=>?_,by show at_≤_;omega⟩;rw [show (c :: r).take (cutX (c :: r))=[] from e] at hl;simp at hl;omega
  ·obtain ⟨q1,q2,q3⟩:=parts_mem n _ _ (by omega) p hp;exact ⟨by omega,q2,by omega⟩
theorem Scan_spec {R:EP} {w:World} (s:LU) (hM:Mk w)
  (h:∀ a n c w',n=(scanF s).1.length→OwnL encX w' w.heap.size 202 a n c (scanF s).1→Ext w w'→R (.returned (.tuple ⟨[lV a n c,iV (scanF s).2]⟩)) w'):Calls prog qtf ⟨[sV s]⟩ w R:=by
 apply q8q;refine qg fun b2 w3 hb2 B2 e3 s3=>?_;refine qg fun b4 w5 hb4 B4 e5 s5=>?_;have B2a:=B2.ext e5;have E5:=qa e3 e5;refine qb (fun g=>?_) (fun g=>?_)
 ·have hf:scanF s=([],4):=by unfold scanF;rw [if_pos (by omega)]
  rw [hf] at h;refine qr B2a rfl fun w6 B2b c6 s6=>?_;refine qr (c6.blk B4 (by omega)) rfl fun w7 B4b c7 s7=>?_;have B2c:=c7.blk B2b (by omega);refine ⟨_,_,_,by show _=_;rw [B2c.cell];rfl,_,by show _=_;rw [B4b.cell];rfl,?_⟩;exact h none 0 0 w7 rfl (Owns.nil _ _ _ _) (qaz (qaz E5 c6 (by omega)) c7 (by omega))
 have hs:s.length≤65536:=by omega
 have hf:scanF s=scanL (qbm s 0):=by unfold scanF;rw [if_neg (by omega)]
 rw [hf] at h;refine qg fun b10 w11 hb10 B10 e11 s11=>?_;refine parts_spec9 s fun bs w13 hbs Bs e13 s13=>⟨_,_,_,rfl,fun base=>?_⟩;have E11:=qa E5 e11;have E13:=qa E11 e13;have B2b:=(B2a.ext e11).ext e13;have B4b:=(B4.ext e11).ext e13;have B10b:=B10.ext e13;have hpl:=qt2 s.length s 0 (Nat.le_refl _);rw [qw1];refine qgx qh8 qh6 (gf:=qcw) rfl (by kernel_rfl) (xs:=qbm s 0) (E:=fun x vs=>vs=[iV (x.1:Int),sV x.2]) (Rd:=fun k=>k=bs)
  (fun v1 he=>partsM_iterO s (by omega) bs v1 (Bs.ext he)) (fun y vs hE=>by rw [hE];rfl) (by decide) (fun k hk=>by omega) (fun k=>k=b2∨k=b4∨k=b10) (fun k hk=>by omega)
  (fun pre S1 W=>∃ (oa:OA) (on oc:Nat) (out:List Lx),Blk W b10 [lV oa on oc] 197∧Blk W b2 [lV none 0 0] 197∧Blk W b4 [iV 0] 28∧scanL pre=(out,0)∧OwnL encX W w13.heap.size 202 oa on oc out∧(∀ k,S1 k↔k=b2∨k=b4∨k=b10∨bk oa k)∧Ext w W)
  (fun S1 W=>∃ e:Int,scanL (qbm s 0)=([],e)∧Blk W b2 [lV none 0 0] 197∧Blk W b4 [iV e] 28∧Ext w W) (fun _ _=>False)
  ?_ ?_ (fun _ _ _ h=>h.elim) ⟨none,0,0,[],B10b,B2b,B4b,rfl,Owns.nil _ _ _ _,fun k=>by simp [bk],E13⟩ ?_ ?_ ?_ (fun _ _ _ _ _ _ _ h=>h.elim)
 ·rintro pre S1 W W' ⟨oa,on,oc,out,g1,g2,g3,g4,g5,g6,g7⟩ hc;exact ⟨oa,on,oc,out,hc.blk g1 (fun hh=>by omega),hc.blk g2 (fun hh=>by omega),hc.blk g3 (fun hh=>by omega),g4,g5.chg hc fun k hk hh=>hh.2 ((g6 k).2 (.inr (.inr (.inr hk)))),g6,qi g7 hc fun k hk=>by omega⟩
 ·rintro S1 W W' ⟨e,g1,g2,g3,g4⟩ hc;exact ⟨e,g1,hc.blk g2 (fun hh=>by omega),hc.blk g3 (fun hh=>by omega),qi g4 hc fun k hk=>by omega⟩
 ·rintro pre ⟨at_,part⟩ vs S1 W l rfl hpre hl1 hl2 hl3 hS1 ⟨oa,on,oc,out,g1,g2,g3,g4,g5,g6,g7⟩;refine Eq.mpr (qwy base _ _ _ _ _ _ _ _ _ _ _ _ _) ?_;refine ⟨bR,fun W2 hU=>?_⟩;have zU:=hU.size;have hUc:Chg (fun k=>k=l) W W2:=⟨hU.os,hU.tape,hU.output,by omega,fun k _ hk=>hU.block k hk⟩;have nl:¬ bk oa l:=fun hh=>hl3 ((g6 l).2 (.inr (.inr (.inr hh))));have h1:=hUc.blk g1 (by omega);have h2:=hUc.blk g2 (by omega);have h3:=hUc.blk g3 (by omega);have h5:=g5.chg hUc fun k hk hh=>nl (hh ▸ hk);have E2:Ext w W2:=qi g7 hUc fun k hk=>by have:=E13.size;omega
  obtain ⟨rest,hrest⟩:=hpre;have hrest:qbm s 0=pre++(at_,part) :: rest:=by rw [← hrest];simp
  have hpt:part.length≤65536∧part≠[]∧at_≤65536:=by
   have:part.length≤s.length∧part≠[]∧at_≤0 + s.length:=parts_mem s.length s 0 (Nat.le_refl _) (at_,part) (by rw [hrest];simp);exact ⟨by have:=this.1;omega,this.2.1,by have:=this.2.2;omega⟩
  have hbad:∀ e:Int,e≠0→(lexP at_ part).2=e→scanL (qbm s 0)=([],e):=fun e he hl=>by rw [hrest];exact scanL_bad g4 hl he
  refine qw rfl one4 fun b40 w42 hb40 B40 e42 s42=>?_;have z42:=e42.size;have E42:=qa E2 e42;have kr:∀ (e:Int) (v:World),e≠0→(lexP at_ part).2=e→Ext w42 v→(stL v ⟨b2,0,none⟩ 0 [lV none 0 0] fun w62=>dr (some ⟨b4,0,none⟩) fun p65=>stL w62 p65 0 [iV e] fun w64=>Chg (fun k=>S1 k∨W.heap.size≤k) W2 w64∧∃ S':NP,(∀ k,S' k→(S1 k∨W.heap.size≤k)∧k < w64.heap.size) ∧
    ∃ e:Int,scanL (qbm s 0)=([],e)∧Blk w64 b2 [lV none 0 0] 197∧Blk w64 b4 [iV e] 28∧Ext w w64):=by
   intro e v he hl ev;have ez:=ev.size;refine qr ((h2.ext e42).ext ev) rfl fun w62 Ba ca sa=>dr_ok ?_;refine qr (ca.blk ((h3.ext e42).ext ev) (by omega)) rfl fun w64 Bb cb sb=>?_;have E1:Ext w w64:=qaz (qaz (qa E42 ev) ca (by omega)) cb (by omega);refine ⟨?_,S1,fun k hk=>⟨.inl hk,by have:=(hS1 k hk).1;omega⟩,e,hbad e he hl,cb.blk Ba (by omega),Bb,E1⟩;refine (Chg.of_ext (qa e42 ev)).trans ((ca.mono fun k _ hk=>.inl ((g6 k).2 (.inl hk))).trans (cb.mono fun k _ hk=>.inl ((g6 k).2 (.inr (.inl hk)))))
  have kn:∀ (x:Lx) (v:World),lexP at_ part=({ x with pos:=at_ },0)→Ext w42 v∨(∃ v',Ext w42 v'∧Chg (fun k=>k=b40) v' v)→Blk v b40 (cellsX x) 202→(stL v ((⟨b40,0,none⟩:Addr).add 3) 0 [iV (at_:Int)] fun w45 =>
    dr (some ⟨b10,0,none⟩) fun p46 =>
    ∃ (x47:OA) (x47n:Nat) (x47c:Nat),World.cell? w45 p46=some (lV x47 x47n x47c)∧(∃ (x48:Int),World.cell? w45 ((⟨b40,0,none⟩:Addr).add 0)=some (iV x48)∧(∃ (x49:LU),World.cell? w45 ((⟨b40,0,none⟩:Addr).add 1)=some (sV x49)∧(∃ (x50:LU),World.cell? w45 ((⟨b40,0,none⟩:Addr).add 2)=some (sV x50)∧(∃ (x51:Int),World.cell? w45 ((⟨b40,0,none⟩:Addr).add 3)=some (iV x51)∧(al w45 202 [iV x48,sV x49,sV x50,iV x51] fun p52 w53 =>
    app prog [197,197] 197 (lV x47 x47n x47c) (lV (some p52) 1 1) w53 fun a54 a54n a54c w55 =>
    dr (some ⟨b10,0,none⟩) fun p57 =>
    stL w55 p57 0 [lV a54 a54n a54c] fun w56 =>
    Chg (fun k=>S1 k∨W.heap.size≤k) W2 w56∧∃ S':NP,(∀ k,S' k→(S1 k∨W.heap.size≤k)∧k < w56.heap.size) ∧
     ∃ (oa:OA) (on oc:Nat) (out:List Lx),Blk w56 b10 [lV oa on oc] 197∧Blk w56 b2 [lV none 0 0] 197∧Blk w56 b4 [iV 0] 28∧scanL (pre++[(at_,part)])=(out,0)∧OwnL encX w56 w13.heap.size 202 oa on oc out∧(∀ k,S' k↔k=b2∨k=b4∨k=b10∨bk oa k)∧Ext w w56)))))):=by
   intro x v hx hv Bv;have cv:Chg (fun k=>k=b40) w42 v:=by
    rcases hv with hv | ⟨v',hv,hc⟩
    ·exact Chg.of_ext hv
    ·exact (Chg.of_ext hv).trans hc
   have zv:=cv.size;refine setX3 Bv fun w45 B45 c45 s45=>dr_ok ?_;have cc:Chg (fun k=>k=b40) w42 w45:=cv.trans c45;obtain ⟨d0,d1,d2,d3⟩:=blk4x (x:={ x with pos:=at_ }) B45;have n40:¬ bk oa b40:=fun hh=>by have:=(h5.bk hh).2;omega
   have q10:=cc.blk (h1.ext e42) (by omega);have q2:=cc.blk (h2.ext e42) (by omega);have q4:=cc.blk (h3.ext e42) (by omega);have q5:=(h5.ext e42).chg cc fun k hk hh=>n40 (hh ▸ hk);refine ⟨oa,on,oc,by show _=_;rw [q10.cell];rfl,_,d0,_,d1,_,d2,_,d3,?_⟩;have hlen:out.length≤65536:=by
    rw [qy7 g4];have:pre.length≤(qbm s 0).length:=by rw [hrest];simp
    omega
   have hon:=OwnL.length q5;refine OwnL.push slT_lex q5 (by omega) { x with pos:=at_ } (by omega) (by omega) fun a54 c54 w55 o1 o2 o3=>dr_ok ?_;have n10:∀ k,bk oa k→w13.heap.size≤k:=fun k hk=>(q5.bk hk).1;refine qr (o2.blk q10 (fun hh=>by have:=n10 _ hh;omega)) rfl fun w56 B56 c56 s56=>?_;have n5:∀ k,bk a54 k→w13.heap.size≤k:=fun k hk=>(o1.bk hk).1;have sub4:∀ j,bk a54 j→(S1 j∨W.heap.size≤j):=fun j hj=>(o3 j hj).elim (fun h=>.inl ((g6 j).2 (.inr (.inr (.inr h))))) (fun h=>.inr (by omega));have e13s:=E13.size;refine ⟨?_,fun j=>j=b2∨j=b4∨j=b10∨bk a54 j,?_,a54,on + 1,c54,out++[{ x with pos:=at_ }],B56,?_,?_,?_,?_,fun k=>Iff.rfl,?_⟩
   ·refine (Chg.of_ext e42).trans ((cc.mono fun k _ hk=>.inr (by omega)).trans ((o2.mono fun k _ hk=>.inl ((g6 k).2 (.inr (.inr (.inr hk))))).trans (c56.mono fun k _ hk=>.inl ((g6 k).2 (.inr (.inr (.inl hk)))))))
   ·intro k hk;have zz:=o2.size;rcases hk with rfl | rfl | rfl | hk
    ·exact ⟨.inl ((g6 _).2 (.inl rfl)),by omega⟩
    ·exact ⟨.inl ((g6 _).2 (.inr (.inl rfl))),by omega⟩
    ·exact ⟨.inl ((g6 _).2 (.inr (.inr (.inl rfl)))),by omega⟩
    ·exact ⟨sub4 k hk,by have:=(o1.bk hk).2;omega⟩
   ·exact c56.blk (o2.blk q2 (fun hh=>by have:=n10 _ hh;omega)) (by omega)
   ·exact c56.blk (o2.blk q4 (fun hh=>by have:=n10 _ hh;omega)) (by omega)
   ·rw [qy8 g4,scanL_one hx];rfl
   ·exact o1.chg c56 fun k hk hh=>by have:=n5 k hk;omega
   ·refine qaz (qi (qaz (qa E2 e42) cc (by omega)) o2 fun k hk=>by have:=n10 k hk;omega) c56 (by omega)
  intro K43 hK43;have hpos:part.length≠0:=fun hh=>hpt.2.1 (List.length_eq_zero_iff.1 hh);obtain ⟨c0,r0,hcr⟩:∃ c0 r0,part=c0 :: r0:=by
   cases part with
   | nil=>exact absurd rfl hpt.2.1
   | cons c0 r0=>exact ⟨c0,r0,rfl⟩
  refine qxx (l:=part) 0 rfl (by omega) ?_;have hp0:part[0]'(by omega)=c0:=by simp [hcr]
  rw [hp0];have hhd:part.head? = some c0:=by rw [hcr];rfl
  refine qb (fun g60=>?_) (fun g60=>?_)
  ·have hne:part.head?≠some 60:=by
    rw [hhd];intro hh;have:c0=60:=Option.some.inj hh;exact g60 (by rw [this];rfl)
   refine qmi part fun w60 e60=>⟨_,rfl,qb (fun gc=>dr_ok ?_) (fun gc=>?_)⟩
   ·exact kr 11 w60 (by decide) (by unfold lexP;rw [if_pos hne,if_neg gc]) e60
   ·refine hK43 _ fun _=>kn ⟨1,[],part,0⟩ w60 ?_ (.inl e60) (B40.ext e60);unfold lexP;rw [if_pos hne,if_pos (by simpa using gc)]
  ·have h60:c0=60:=by
    have:c0.toNat=60:=by omega
    exact UInt8.toNat_inj.1 this
   have hhd':part.head? = some 60:=by rw [hhd,h60]
   have hlast:part.getLast? = some (part[part.length - 1]'(by omega)):=by rw [List.getLast?_eq_getElem?,List.getElem?_eq_getElem]
   rw [show (((at_,part):Nat × LU).2.length:Int) - 1=((part.length - 1:Nat):Int) by show ((part.length:Int) - 1)=_;omega,qo (by omega)];refine qbi (l:=part) (by omega) ?_;refine qb (fun g62=>dr_ok ?_) (fun g62=>?_)
   ·refine kr 3 w42 (by decide) ?_ bR;unfold lexP;rw [if_neg (by simpa using hhd'),if_pos];rw [hlast];intro hh;exact g62 (by rw [Option.some.inj hh];rfl)
   ·have hl62:part.getLast? = some 62:=by
     have:(part[part.length - 1]'(by omega))=62:=UInt8.toNat_inj.1 (by show _=62;omega);rw [hlast,this]
    obtain ⟨m,hm⟩:=part_mid hhd' hl62;have hlx:lexP at_ part=if (readF part).2=0 then ({ (readF part).1 with pos:=at_ },0) else (zeroX,(readF part).2):=by
     unfold lexP;rw [if_neg (by simpa using hhd'),if_neg (by simpa using hl62)]
    have hml:m.length≤100000000:=by
     have:=congrArg List.length hm
     simp at this;omega
    have hrs:=fun K hk=>read_spec (R:=K) m hml (hM.ext E42) hk;rw [← hm] at hrs;refine hrs _ fun w72 e72=>⟨_,_,_,_,_,rfl,?_⟩;refine qw rfl one4 fun b78 w80 hb78 B78 e80 s80=>?_;have e4280:=qa e72 e80;have z80:=e4280.size;refine qb (fun ge=>dr_ok ?_) (fun ge=>?_)
    ·exact kr (readF part).2 w80 ge (by rw [hlx,if_neg ge]) e4280
    ·obtain ⟨y0,y1,y2,y3⟩:=blk4x B78;refine ⟨_,y0,_,y1,_,y2,_,y3,?_⟩;refine stX (B40.ext e4280) rfl fun w89 B89 c89 s89=>hK43 _ fun _=>kn (readF part).1 w89 ?_ (.inr ⟨w80,e4280,c89⟩) B89;rw [hlx,if_pos (by simpa using ge)]
 ·rintro D S1 W hD1 hD2 hD3 hD4 ⟨oa,on,oc,out,g1,g2,g3,g4,g5,g6,g7⟩;rw [g4] at h;have hDb:¬ bk oa D:=fun hh=>hD3 ((g6 D).2 (.inr (.inr (.inr hh))));have e13s:=E13.size;refine ⟨oa,on,oc,by show _=_;rw [g1.cell];rfl,?_⟩;refine qr g2 rfl fun w25 Ba ca sa=>?_;refine qr (ca.blk g3 (by omega)) rfl fun w26 Bb cb sb=>?_;have hD4':w26.heap[D]? = some (.deferred (some [])):=by rw [cb.block D (by omega) (by omega),ca.block D (by omega) (by omega)];exact hD4
  refine qbw hD4' ?_;have hcp:Chg (fun k=>k=D) w26 (w26.putObj D (.deferred none)):=Chg.put w26 D _ rfl;have n10:∀ k,bk oa k→w13.heap.size≤k:=fun k hk=>(g5.bk hk).1;have o1:=((g5.chg ca fun k hk hh=>by have:=n10 k hk;omega).chg cb fun k hk hh=>by have:=n10 k hk;omega).chg hcp fun k hk hh=>hDb (hh ▸ hk);have E26:Ext w w26:=qaz (qaz g7 ca (by omega)) cb (by omega);refine ⟨oa,on,oc,by show _=_;rw [(hcp.blk (cb.blk Ba (by omega)) (by omega)).cell];rfl,0,by show _=_;rw [(hcp.blk Bb (by omega)).cell];rfl,?_⟩;refine h oa on oc _ (OwnL.length g5).symm ⟨o1.1,o1.2.imp id ?_⟩ (qch E26 (by omega) _);rintro ⟨g,cap,cur,p1,p2,p3⟩;exact ⟨g,cap,cur,p1,by omega,p3⟩
 ·rintro D S1 W hD1 hD2 hD3 hD4 ⟨e,g1,g2,g3,g4⟩;rw [g1] at h;have e13s:=E13.size;refine qbw hD4 ?_;have hcp:Chg (fun k=>k=D) W (W.putObj D (.deferred none)):=Chg.put W D _ rfl;refine ⟨none,0,0,by show _=_;rw [(hcp.blk g2 (by omega)).cell];rfl,e,by show _=_;rw [(hcp.blk g3 (by omega)).cell];rfl,?_⟩;exact h none 0 0 _ rfl (Owns.nil _ _ _ _) (qch g4 (by omega) _)
section
variable {R:EP} {w:World}
theorem get_lx {S:NP} {a:OA} {n:Nat} {L:List Lx} (h:RowAt encX S w a n L) {k:Nat} (hk:k < L.length) :
  ∃ q:Addr,(∀ K:Addr→Prop,K q→idx a n (k:Int) 4 K)∧w.cell? (q.add 0)=some (iV L[k].k)∧w.cell? (q.add 1)=some (sV (L[k].nm))∧w.cell? (q.add 2)=some (sV (L[k].vl))∧w.cell? (q.add 3)=some (iV L[k].pos):=by
 obtain ⟨bb,o,hq,_,_,hc⟩:=h.get (i:=k) (x:=L[k]) (List.getElem?_eq_getElem hk);exact ⟨⟨bb,o,none⟩,hq,by show _=_;rw [qd];exact hc 0 _ rfl,by show _=_;rw [qd];exact hc 1 _ rfl,by show _=_;rw [qd];exact hc 2 _ rfl,by show _=_;rw [qd];exact hc 3 _ rfl⟩
def totX:List Lx→Nat
 | []=>0
 | x :: r=>x.nm.length + x.vl.length + 4 + totX r
theorem text_le (x:Lx):(textF x).length≤x.nm.length + x.vl.length + 4:=by
 have hi:(innF x.nm x.vl).length≤x.nm.length + x.vl.length + 1:=by unfold innF;split <;> first | omega | (simp;omega)
 unfold textF
 repeat' split
 all_goals first | omega | (simp;omega)
theorem print_le:∀ l:List Lx,(qbu l).length≤totX l
 | []=>Nat.le_refl _
 | x :: r=>by
  have:=print_le r
  have:=text_le x
  rw [qt0,length_append,totX];omega
theorem q6d:∀ {l:List Lx} {k:Nat} (h:k < l.length),l[k].nm.length + l[k].vl.length + 4≤totX l
 | x :: r,0,_=>by rw [totX];simp
 | x :: r,k + 1,h=>by
  have:=q6d (l:=r) (k:=k) (by simpa using h)
  rw [totX];simp only [List.getElem_cons_succ];omega
theorem q6c:∀ l:List Lx,l.length≤totX l
 | []=>Nat.le_refl _
 | x :: r=>by have:=q6c r;rw [totX,length_cons];omega
theorem print_take (l:List Lx) (k:Nat):(qbu (l.take k)).length≤totX l:=by
 have h:=print_le l;have:qbu l=qbu (l.take k)++qbu (l.drop k):=by rw [← print_app,take_append_drop]
 rw [this,length_append] at h;omega
theorem q5h {l:List Lx} {k:Nat} (h:k < l.length):qbu (l.take (k + 1))=qbu (l.take k)++textF l[k]:=by
 rw [take_succ_eq_append_getElem h,print_app,qt0];show _++(_++[])=_;rw [append_nil]
theorem qt7 {l:List Lx} {k:Nat} (h:k < l.length) (pt:Bool):lastK pt (l.take (k + 1))=decide (l[k].k=1):=by
 unfold lastK;rw [take_succ_eq_append_getElem h,List.getLast?_concat]
theorem Check_spec9 {S:NP} {a:OA} {n c:Nat} (L:List Lx) (hL:RowAt encX S w a n L) (hT:totX L≤1000000000) (hM:Mk w) (h:∀ w',Ext w w'→R (.returned (iV (chkX L))) w') :
  Calls prog qnr ⟨[lV a n c]⟩ w R:=by
 apply q3p;have hn:n=L.length:=hL.1;have hln:=q6c L;refine ⟨fun at_ t W m=>∃ k:Nat,t=k∧k≤n∧m=n - k∧at_=((qbu (L.take k)).length:Int)∧chkX L=chkGo (L.drop k) (lastK false (L.take k)) (qbu (L.take k)).length∧Ext w W,⟨_,0,rfl,by omega,rfl,rfl,rfl,bR⟩,?_⟩;rintro _ _ W m ⟨k,rfl,hk,rfl,rfl,heq,he⟩ _;have hpk:=print_take L k;refine qb (fun hlt=>?_) (fun hge=>?_)
 ·have hkL:k < L.length:=by omega
  obtain ⟨q,hq,c0,c1,c2,c3⟩:=get_lx (hL.ext he) hkL;have hx:=q6d hkL;refine hq _ ⟨_,c0,_,c1,_,c2,_,c3,?_⟩;refine qw rfl one4 fun bx w15 hbx Bx e15 s15=>?_;obtain ⟨d0,d1,d2,d3⟩:=blk4x (x:=L[k]) Bx;refine ⟨_,d0,_,d1,_,d2,_,d3,?_⟩;have E15:=qa he e15;rw [drop_eq_getElem_cons hkL,chkGo] at heq;generalize hxk:L[k]=x at *;refine single_spec9 x fun w21 e21=>⟨_,rfl,qb (fun g1=>?_) (fun g1=>?_)⟩
  ·have:qd9 x (lastK false (L.take k)) ((qbu (L.take k)).length:Int)=qb8 x:=by unfold qd9;rw [if_pos g1]
   rw [this,if_pos g1] at heq;rw [← heq];exact h w21 (qa E15 e21)
  intro K23 hK23;have hsx:qb8 x=0:=Classical.not_not.1 g1;have k23:∀ w24,Ext w15 w24→¬ (x.k=1∧lastK false (L.take k)=true)→K23 w24:=by
   intro w24 e24 g2;refine hK23 _ fun _=>?_;intro K25 hK25;have k25:∀ w26,Ext w15 w26→(x.k≠1→qb2 x=true)→K25 w26:=by
    intro w26 e26 g3;refine hK25 _ fun _=>?_;refine ⟨_,qp d3 e26,qb (fun g4=>?_) (fun g4=>?_)⟩
    ·have:qd9 x (lastK false (L.take k)) ((qbu (L.take k)).length:Int)=9:=by
      unfold qd9;rw [if_neg (by simpa using hsx),if_neg g2,if_neg (fun hh=>by rw [g3 hh.1] at hh;cases hh.2),if_pos g4]
     rw [this,if_pos (by decide)] at heq;rw [← heq];exact h w26 (qa E15 e26)
    ·have h0:qd9 x (lastK false (L.take k)) ((qbu (L.take k)).length:Int)=0:=chk_ok hsx g2 g3 (Classical.not_not.1 g4);rw [h0,if_neg (by decide)] at heq;refine ⟨_,qp d0 e26,_,qp d1 e26,_,qp d2 e26,_,qp d3 e26,?_⟩;refine q5a x (by omega) (by omega) fun w33 e33=>⟨_,rfl,?_⟩;have htl:=text_le x;refine ⟨n - (k + 1),by omega,k + 1,by rw [qj (by omega)],by omega,rfl,?_,?_,qa E15 (qa e26 e33)⟩
     ·rw [q5h hkL,hxk,length_append,qo (by omega)];omega
     ·rw [heq,q5h hkL,qt7 hkL,hxk,length_append]
   refine ⟨_,qp d0 e24,qb (fun gk=>?_) (fun gk=>k25 w24 e24 (fun hh=>absurd hh gk))⟩;refine ⟨_,qp d0 e24,_,qp d1 e24,_,qp d2 e24,_,qp d3 e24,?_⟩;have hkn:x.k=3∨qcm x.nm=true:=by
    right
    unfold qb8 at hsx;rw [if_neg gk] at hsx;split at hsx
    ·split at hsx
     ·rename_i hh;exact hh.1
     ·cases hsx
    ·cases hsx
   refine qzd x hkn (by omega) (hM.ext (qa E15 e24)) fun w42 e42=>⟨_,rfl,?_⟩;refine qk (fun g3=>?_) (fun g3=>k25 w42 (qa e24 e42) fun _=>by simpa using g3);have g3:qb2 x=false:=by simpa using g3
   have:qd9 x (lastK false (L.take k)) ((qbu (L.take k)).length:Int)=3:=by
    unfold qd9;rw [if_neg (by simpa using hsx),if_neg g2,if_pos ⟨gk,g3⟩]
   rw [this,if_pos (by decide)] at heq;rw [← heq];exact h w42 (qa E15 (qa e24 e42))
  refine ⟨_,qp d0 e21,qb (fun gk=>?_) (fun gk=>k23 w21 e21 (fun hh=>gk hh.1))⟩;refine qb (fun gt=>?_) (fun gt=>?_)
  ·obtain ⟨j,rfl⟩:∃ j,k=j + 1:=⟨k - 1,by omega⟩;have hj:j < L.length:=by omega
   obtain ⟨q',hq',c0',_⟩:=get_lx (hL.ext (qa E15 e21)) hj;rw [show ((j + 1:Nat):Int) - 1=(j:Int) by omega,qo (by omega)];refine hq' _ ⟨_,c0',qb (fun gj=>?_) (fun gj=>?_)⟩
   ·have:qd9 x (lastK false (L.take (j + 1))) ((qbu (L.take (j + 1))).length:Int)=10:=by
     unfold qd9;rw [if_neg (by simpa using hsx),if_pos ⟨gk,by rw [qt7 hj];exact decide_eq_true gj⟩]
    rw [this,if_pos (by decide)] at heq;rw [← heq];exact h w21 (qa E15 e21)
   ·exact k23 w21 e21 fun hh=>by rw [qt7 hj] at hh;exact gj (of_decide_eq_true hh.2)
  ·refine k23 w21 e21 fun hh=>?_;have:k=0:=by omega
   subst this;rw [List.take_zero] at hh;cases hh.2
 ·have hkn:k=L.length:=by omega
  subst hkn;rw [List.drop_length,List.take_length,chkGo] at heq;rw [List.take_length];refine qb (fun g=>?_) (fun g=>?_)
  ·rw [if_pos (by omega)] at heq;rw [← heq];exact h W he
  ·rw [if_neg (by omega)] at heq;rw [← heq];exact h W he
theorem tot_scan:∀ (l:List Lx) (pt:Bool) (at_:Nat),chkGo l pt at_=0→totX l≤5 * (qbu l).length + 4 * l.length
 | [],_,_,_=>Nat.zero_le _
 | x :: r,pt,at_,h=>by
  have ih:=tot_scan r _ _ (chkGo_cons.1 h).2;have hx:x.nm.length + x.vl.length≤(textF x).length:=by
   have hi:x.nm.length + x.vl.length≤(innF x.nm x.vl).length:=by
    unfold innF;split
    ·simp <;> omega
    ·rename_i hv;have:x.vl=[]:=by simpa using hv
     rw [this];simp
   obtain ⟨a,_⟩:=chk_inv (chkGo_cons.1 h).1;by_cases hk:x.k=1
   ·obtain ⟨e1,_,_,e4⟩:=text_form a hk;rw [e4,e1];simp
   ·unfold qb8 at a;rw [if_neg hk] at a;split at a
    ·rename_i h3;unfold textF;rcases h3 with h3 | h3 | h3 <;> simp [h3] <;> omega
    ·cases a
  rw [totX,qt0,length_append,length_cons];omega
theorem scan_small (s:LU):totX (scanF s).1≤1000000000∧(scanF s).1.length≤65536:=by
 by_cases h0:(scanF s).2=0
 ·have he:scanF s=((scanF s).1,0):=by rw [← h0]
  obtain ⟨h1,h2⟩:=scan_print he;have h3:=tot_scan _ _ _ h1;have hs:s.length≤65536:=by
   unfold scanF at h0;split at h0
   ·cases h0
   ·omega
  have h4:(scanF s).1.length≤65536:=by
   have e:scanL (qbm s 0)=((scanF s).1,0):=by
    have:=he
    unfold scanF at this ⊢;rw [if_neg (by omega)] at this ⊢;exact this
   have:=qy7 e
   have:=qt2 s.length s 0 (Nat.le_refl _)
   omega
  rw [h2] at h3;exact ⟨by omega,h4⟩
 ·rw [scanF_err h0];exact ⟨Nat.zero_le _,Nat.zero_le _⟩
end
section
variable {R:EP} {w:World}
theorem slT_strM:SlT prog 31 9 1 16 (.string ⟨#[]⟩):=⟨Tryz.underlying31,by kernel_rfl,rfl,by decide⟩
theorem owns_cut {B:Nat} {e:TypeId} {size:Nat} {a:OA} {n c:Nat} {xs:LV} (h:Owns w B e size a n c xs) {m:Nat} (hm:m≤n):Owns w B e size a m c (xs.take (m * size)):=by
 obtain ⟨h1,h2⟩:=h;have hmn:m * size≤n * size:=Nat.mul_le_mul_right _ hm;refine ⟨by rw [length_take,h1];omega,?_⟩;rcases h2 with ⟨e1,e2⟩ | ⟨g,cap,cur,e1,e2,e3,e4,e5,e6,e7⟩
 ·have hm0:m=0:=by omega
  obtain ⟨rfl,_,rfl⟩:a=none∧n=0∧c=0:=by simpa using e1
  subst hm0;exact .inl ⟨rfl,rfl⟩
 ·obtain ⟨rfl,rfl⟩:a=some ⟨g,0,none⟩∧c=cap:=by simpa using e1
  refine .inr ⟨g,c,cur,rfl,e2,e3,by omega,e5,e6,?_⟩;rw [← e7,List.take_take,Nat.min_eq_left hmn]
theorem ownL_cut {α:Type} {E:Enc α} {B:Nat} {e:TypeId} {a:OA} {n c:Nat} {l:List α} (h:OwnL E w B e a n c l) {m:Nat} (hm:m≤n):OwnL E w B e a m c (l.take m):=by
 have h2:=owns_cut h hm;have hl:=OwnL.length h;have:(E.row l).take (m * E.size)=E.row (l.take m):=by
  have hr:E.row l=E.row (l.take m)++E.row (l.drop m):=by rw [← row_app,take_append_drop]
  have hlen:(E.row (l.take m)).length=m * E.size:=by rw [qcz,length_take,Nat.min_eq_left (by omega)]
  rw [hr,List.take_left' hlen]
 rwa [this] at h2
theorem owns_le {B:Nat} {e:TypeId} {size:Nat} {a:OA} {n c:Nat} {xs:LV} (h:Owns w B e size a n c xs):n≤c:=by
 rcases h.2 with ⟨e1,e2⟩ | ⟨g,cap,cur,e1,_,_,e4,_⟩
 ·obtain ⟨_,h,h'⟩:a=none∧n=0∧c=0:=by simpa using e1
  omega
 ·obtain ⟨_,h⟩:a=some ⟨g,0,none⟩∧c=cap:=by simpa using e1
  omega
theorem sls_cut {a:OA} {c sz:Nat} {m:Nat} (hm:m≤c) (ha:∀ p,a=some p→p.add 0=p) {K:OA→Nat→Nat→Prop} (h:K a m c):sls a c 0 (m:Int) sz K:=by
 refine ⟨by omega,by omega,by omega,?_⟩;have e:slA a c (0:Int).toNat sz=a:=by
  unfold slA;split
  ·rfl
  ·cases a with
   | none=>rfl
   | some p=>show some (p.add (0 * sz))=some p;rw [Nat.zero_mul,ha p rfl]
 rw [e];simpa using h
theorem get9_str {S:NP} {a:OA} {n:Nat} {L:List (LU)} (h:RowAt Sh.encStr S w a n L) {k:Nat} (hk:k < L.length) :
  ∃ q:Addr,(∀ K:Addr→Prop,K q→idx a n (k:Int) 1 K)∧w.cell? q=some (sV (L[k])):=by
 obtain ⟨bb,o,hq,_,_,hc⟩:=h.get (i:=k) (x:=L[k]) (List.getElem?_eq_getElem hk);exact ⟨⟨bb,o,none⟩,hq,by have:=hc 0 _ rfl;rwa [Nat.add_zero] at this⟩
theorem Nested_spec {S:NP} {a:OA} {n c:Nat} (L:List Lx) (hL:RowAt encX S w a n L) (hT:totX L≤1000000000) (hM:Mk w) (h:∀ w',Ext w w'→R (.returned (iV (nestX L))) w') :
  Calls prog qlz ⟨[lV a n c]⟩ w R:=by
 apply q0t;have hn:n=L.length:=hL.1;have hln:=q6c L;refine Check_spec9 L hL hT hM fun w3 e3=>⟨_,rfl,qb (fun g=>?_) (fun g=>?_)⟩
 ·have:=h w3 e3;unfold nestX at this;rwa [if_pos g] at this
 unfold nestX at h;rw [if_neg g] at h;have z3:=e3.size;refine ⟨fun oa on oc t W m=>∃ (k:Nat) (st:List (LU)),t=k∧k≤n∧m=n - k∧st.length≤16∧on=st.length∧OwnL Sh.encStr W w3.heap.size 9 oa on oc st.reverse∧qhv L []=qhv (L.drop k) st∧Ext w3 W,⟨_,0,[],rfl,by omega,rfl,by simp,rfl,Owns.nil _ _ _ _,rfl,bR⟩,?_⟩;rintro oa on oc _ W m ⟨k,st,rfl,hk,rfl,hst,rfl,hO,heq,he⟩ _;refine qb (fun hlt=>?_) (fun hge=>?_)
 ·have hkL:k < L.length:=by omega
  obtain ⟨q,hq,c0,c1,c2,c3⟩:=get_lx (hL.ext (qa e3 he)) hkL;refine hq _ ⟨_,c0,_,c1,_,c2,_,c3,?_⟩;refine qw rfl one4 fun bx w18 hbx Bx e18 s18=>?_;obtain ⟨d0,d1,d2,d3⟩:=blk4x (x:=L[k]) Bx;rw [drop_eq_getElem_cons hkL,qhv] at heq;generalize hxk:L[k]=x at *;have z:=he.size;have E18:=qa (qa e3 he) e18;refine ⟨_,d0,qb (fun g2=>⟨_,d1,?_⟩) (fun g2=>qb (fun g3=>?_) (fun g3=>?_))⟩
  ·rw [if_pos g2] at heq;refine OwnL.push slT_strM (hO.ext e18) (by omega) x.nm (by omega) (by omega) fun a' c' w24 o1 o2 o3=>?_;have E24:Ext w3 w24:=qi (qa he e18) o2 fun j hj=>((hO.ext e18).bk hj).1;refine qb (fun g16=>?_) (fun g16=>?_)
   ·rw [if_pos (by omega)] at heq;rw [← heq];exact h w24 (qa e3 E24)
   ·rw [if_neg (by omega)] at heq;refine ⟨n - (k + 1),by omega,k + 1,x.nm :: st,by rw [qj (by omega)],by omega,rfl,by rw [length_cons];omega,by rw [length_cons],?_,heq,E24⟩;rw [List.reverse_cons];exact o1
  ·rw [if_neg g2,if_pos g3] at heq;intro K26 hK26;have hOd:=(hO.ext e18).ext (qn w18);have Ed:=qa (qa he e18) (qn w18);unfold drw;refine qb (fun g4=>?_) (fun g4=>?_)
   ·have hs0:st=[]:=List.length_eq_zero_iff.1 (by omega);subst hs0;have hp:popS x.nm []=none:=rfl;rw [hp] at heq;have:=h _ (qa e3 Ed)
    rwa [heq] at this
   ·obtain ⟨t,st',rfl⟩:∃ t st',st=t :: st':=by
     cases st with
     | nil=>exact absurd rfl g4
     | cons t st'=>exact ⟨t,st',rfl⟩
    have hlr:(t :: st').reverse.length=st'.length + 1:=by simp
    rw [length_cons] at *;rw [show ((st'.length + 1:Nat):Int) - 1=(st'.length:Int) by omega,qo (by omega)];obtain ⟨q',hq',cq⟩:=get9_str (OwnL.out hOd) (k:=st'.length) (by rw [hlr];omega);have hlast:(t :: st').reverse[st'.length]'(by rw [hlr];omega)=t:=by simp
    rw [hlast] at cq;refine hq' _ ⟨_,cq,_,qp d1 (qn w18),qb (fun g5=>?_) (fun g5=>?_)⟩
    ·have hp:popS x.nm (t :: st')=none:=if_neg g5;rw [hp] at heq;have:=h _ (qa e3 Ed)
     rwa [heq] at this
    ·have hp:popS x.nm (t :: st')=some st':=if_pos (Classical.not_not.1 g5);rw [hp] at heq;refine hK26 _ fun _=>?_;rw [show ((st'.length + 1:Nat):Int) - 1=(st'.length:Int) by omega,qo (by omega)];have hcut:=ownL_cut hOd (m:=st'.length) (by omega);rw [List.reverse_cons,List.take_left' (by simp)] at hcut;have hle:=owns_le hOd;refine sls_cut (by omega) ?_ ?_
     ·intro p hp;rcases hOd.2 with ⟨_,e2⟩ | ⟨gg,cap,cur,e1,_⟩
      ·exact absurd e2 (by omega)
      ·have e1:=(Value.slice.inj e1).1;rw [e1] at hp;rw [← Option.some.inj hp];rfl
     ·exact ⟨n - (k + 1),by omega,k + 1,st',by rw [qj (by omega)],by omega,rfl,by omega,rfl,hcut,heq,Ed⟩
  ·rw [if_neg g2,if_neg g3] at heq;exact ⟨n - (k + 1),by omega,k + 1,st,by rw [qj (by omega)],by omega,rfl,hst,rfl,hO.ext e18,heq,qa he e18⟩
 ·have hkn:k=L.length:=by omega
  subst hkn;rw [List.drop_length,qhv] at heq;refine qb (fun g5=>?_) (fun g5=>?_)
  ·rw [if_neg (fun hh=>by rw [hh] at g5;simp at g5)] at heq;rw [← heq];exact h W (qa e3 he)
  ·have hs0:st=[]:=List.length_eq_zero_iff.1 (by omega);rw [if_pos hs0] at heq;rw [← heq];exact h W (qa e3 he)
end
section
instance:DecidableEq Lx:=fun a b=>decidable_of_iff (a.k=b.k∧a.nm=b.nm∧a.vl=b.vl∧a.pos=b.pos) (by
 cases a;cases b;simp)
variable {R:EP} {w:World}
end
structure Tk where
 k:Int
 nm:LU
 vl:LU
def tkX (x:Lx):Tk:=⟨x.k,x.nm,x.vl⟩
def valT (k:Int) (t:LU) (n:Int):LU:=if qai k then t else if numsF k then Lib.decDigits n.toNat else []
def tksF:Fo→List Tk
 | .nil=>[]
 | .cons k t n ps r=>(if k=1 then [⟨1,[],t⟩] else if qz k then ⟨2,tagF k,valT k t n⟩ :: (tksF ps++[⟨3,tagF k,[]⟩]) else [⟨4,tagF k,valT k t n⟩])++tksF r
theorem tksF_app (f g:Fo):tksF (f.app g)=tksF f++tksF g:=by
 induction f with
 | nil=>rfl
 | cons k t n ps r _ ih=>simp only [Fo.cons_app,tksF,ih,append_assoc]
def kindN (nm:LU):Nat:=match (List.range 12).find? fun i:Nat=>decide (tagF (i:Int)=nm∧nm≠[]) with
 | some i=>i
 | none=>0
def numOf (v:LU):Int:=match Lib.atoiAll v with
 | .ok n=>n
 | _=>0
structure Hd where
 k:Int
 t:LU
 n:Int
def headF (x:Tk):Hd:=if x.k=1 then ⟨1,x.vl,0⟩ else ⟨kindN x.nm,if qai (kindN x.nm) then x.vl else [],if qai (kindN x.nm) then 0 else if numsF (kindN x.nm) then numOf x.vl else 0⟩
structure Fr where
 h:Hd
 f:Fo
def Fr.add (r:Fr) (h:Hd) (ps:Fo):Fr:=⟨r.h,r.f.app (.one h.k h.t h.n ps)⟩
def stepP (st:List Fr) (x:Tk):List Fr :=
 if x.k=2 then ⟨headF x,.nil⟩ :: st
 else if x.k=3 then (match st with
  | f2 :: f1 :: r=>f1.add f2.h f2.f :: r
  | st=>st)
 else match st with
  | f :: r=>f.add (headF x) .nil :: r
  | []=>[]
def treeT (L:List Tk):Fo:=match L.foldl stepP [⟨⟨0,[],0⟩,.nil⟩] with
 | f :: _=>f.f
 | []=>.nil
def q7s (k:Int) (t:LU) (n:Int):Prop:=(k=1∧n=0)∨(2≤k∧k≤11∧(qai k=false→t=[])∧(numsF k=false→n=0)∧(numsF k=true→1≤n∧n≤64))
def qgn:Fo→Prop
 | .nil=>True
 | .cons k t n ps r=>q7s k t n∧(qz k=false→ps=.nil)∧qgn ps∧qgn r
end Go.Proofs
namespace Go.Sh
open Go Go.RowKit
def OwnG (e:TypeId) (S O:NP) (B:Nat) (w:World) (a:OA) (n c:Nat) (f:Fo):Prop :=
 n=f.len∧(∀ k,bk a k→O k)∧(∀ k,O k→B≤k∧k < w.heap.size)∧∃ xs,Owns w B e 4 a n c xs∧FoC (fun k=>(S k∨O k)∧¬ bk a k) w f xs
section
variable {S O:NP} {w w':World} {e:TypeId} {B:Nat} {a:OA} {n c:Nat} {f:Fo}
theorem OwnG.nil (w:World):OwnG e S (fun _=>False) B w none 0 0 .nil:=⟨rfl,fun k h=>by simp [bk] at h,fun k h=>h.elim,[],Owns.nil w B e 4,rfl⟩
theorem OwnG.len (h:OwnG e S O B w a n c f):n=f.len:=h.1
theorem OwnG.own (h:OwnG e S O B w a n c f) {k:Nat} (hk:O k):B≤k∧k < w.heap.size:=h.2.2.1 k hk
theorem OwnG.bk (h:OwnG e S O B w a n c f) {k:Nat} (hk:Sh.bk a k):O k:=h.2.1 k hk
theorem OwnG.chg {T:NP} (h:OwnG e S O B w a n c f) (hc:Chg T w w') (hT:∀ k,T k→k < w.heap.size→¬ S k∧¬ O k):OwnG e S O B w' a n c f:=by
 obtain ⟨h0,h1,h2,xs,h3,h4⟩:=h;have z:=hc.size;refine ⟨h0,h1,fun k hk=>⟨(h2 k hk).1,by have:=(h2 k hk).2;omega⟩,xs,?_,h4.keep (fun k hk hl=>⟨hk,hc.block k hl fun ht=>?_⟩) z⟩
 ·have h3':=Owns.chg (S:=fun k=>T k∧k < w.heap.size) h3 ⟨hc.os,hc.tape,hc.output,hc.size,fun k hk hn=>hc.block k hk fun ht=>hn ⟨ht,hk⟩⟩ fun k hk ht=>(hT k ht.1 ht.2).2 (h1 k hk);exact h3'
 ·rcases hk.1 with hh | hh
  ·exact (hT k ht hl).1 hh
  ·exact (hT k ht hl).2 hh
theorem OwnG.out (h:OwnG e S O B w a n c f):SlF (fun k=>S k∨O k) w a n f:=by
 obtain ⟨h0,h1,h2,xs,h3,h4⟩:=h;refine ⟨h0,xs,?_,h4.keep (fun k hk _=>⟨hk.1,rfl⟩) (Nat.le_refl _)⟩;by_cases hn:0 < n
 ·obtain ⟨g,rfl,hg,hc⟩:=h3.cell hn;exact .inr ⟨g,0,rfl,.inr (h1 g (by simp [Sh.bk])),(h3.bk (by simp [Sh.bk])).2,fun j v hj=>by rw [Nat.zero_add];exact hc j v hj⟩
 ·have hx:xs=[]:=List.eq_nil_of_length_eq_zero (by rw [h3.len];omega);exact .inl hx
end
end Go.Sh
namespace Go.Proofs
open Go Go.Sh Go.RowKit List
theorem owns_set {w:World} {B:Nat} {e:TypeId} {size:Nat} {a:OA} {n c:Nat} {xs:LV} (h:Owns w B e size a n c xs) {j:Nat} (hj:j < n * size) {v:Value} (hv:v.oneCell'=true) :
  ∃ g:Nat,a=some ⟨g,0,none⟩∧∀ K:WP,(∀ w',Owns w' B e size a n c (xs.set j v)→Chg (Sh.bk a) w w'→w'.heap.size=w.heap.size→K w')→stL w ⟨g,j,none⟩ 0 [v] K:=by
 have hl:=h.1;rcases h.2 with h1 | ⟨g,cap,cur,e1,e2,e3,e4,e5,e6,e7⟩
 ·have:n=0:=by
   have:=h1.1
   simp at this;omega
  subst this;omega
 obtain ⟨rfl,_,rfl⟩:a=some ⟨g,0,none⟩∧True∧c=cap:=by simpa using e1
 have hB:Blk w g cur.toList e:=e3;have hcl:cur.toList.length=c * size:=by simpa using e6
 have hnc:n * size≤c * size:=Nat.mul_le_mul_right _ e4;refine ⟨g,rfl,fun K hK=>?_⟩;refine qaf hB (by simp;omega) (fun u hu=>by rw [mem_singleton.1 hu];exact hv) fun w' b1 b2 b3 b4 b5 b6=>?_;have hc:Chg (Sh.bk (some (⟨g,0,none⟩:Addr))) w w':=⟨b4,b5,b6,by omega,fun k' _ hk=>b2 k' fun e=>hk (by simp [Sh.bk,e])⟩;have e:putAt cur.toList (j + 0) [v]=cur.toList.set j v:=rfl;rw [e] at b1;refine hK w' ⟨by rw [List.length_set,hl],.inr ⟨g,c,⟨_⟩,rfl,e2,b1,e4,e5,?_,?_⟩⟩ hc b3
 ·show (cur.toList.set j v).length=c * size;rw [List.length_set,hcl]
 ·show List.take (n * size) (cur.toList.set j v)=xs.set j v;rw [List.take_set,e7]
theorem OwnG.pushA {P:Program} {t ty e:TypeId} {bytes:Nat} {z:Value} {S O:NP} {B:Nat} {w:World} {a:OA} {n c:Nat} {f:Fo} (hT:SlT P t e 4 bytes z) (h:OwnG e S O B w a n c f) (hB:B≤w.heap.size)
  {k:Int} {s:LU} {m:Int} {a':OA} {c':Nat} {ps:Fo} {O2:NP}
  (hps:SlF (fun k=>S k∨O2 k) w a' ps.len ps) (hO2:∀ k,O2 k→(B≤k∧k < w.heap.size)∧¬ Sh.bk a k) (hSB:∀ k,S k→k < B) (hlen:n + 1≤4611686018427387904) (hbytes:(n + 1) * bytes≤140737488355328) {K:OA→Nat→Nat→World→Prop}
  (hk:∀ a'' c'' w' (O':NP),OwnG e S O' B w' a'' (n + 1) c'' (f.app (.one k s m ps))→Chg (Sh.bk a) w w'→(∀ j,O' j→O j∨O2 j∨(w.heap.size≤j∧j < w'.heap.size))→K a'' (n + 1) c'' w') :
  al w e [iV k,sV s,iV m,lV a' ps.len c'] fun p w1=>app P [t,t] ty (lV a n c) (lV (some p) 1 1) w1 K:=by
 obtain ⟨h0,h1,h2,xs,h3,h4⟩:=h;refine qdp hT h3 hB [iV k,sV s,iV m,lV a' ps.len c'] rfl (by intro u hu;simp only [mem_cons,not_mem_nil,or_false] at hu;rcases hu with rfl | rfl | rfl | rfl <;> rfl) hlen hbytes
  fun a'' c'' w' ho hc hn=>hk a'' c'' w' (fun j=>O j∨O2 j∨Sh.bk a'' j) ⟨?_,fun j hj=>.inr (.inr hj),fun j hj=>?_,_,ho,?_⟩ hc ?_
 ·simp [Fo.one];exact h0
 ·have z:=hc.size;rcases hj with hj | hj | hj
  ·exact ⟨(h2 j hj).1,by have:=(h2 j hj).2;omega⟩
  ·exact ⟨(hO2 j hj).1.1,by have:=(hO2 j hj).1.2;omega⟩
  ·exact ho.bk hj
 ·obtain ⟨_,us,g3,g4⟩:=hps;have na:∀ j,j < w.heap.size→¬ Sh.bk a j→¬ Sh.bk a'' j:=fun j hj hb' hh=>(hn j hh).elim hb' (by omega);have hs:∀ j,((S j∨O j)∧¬ Sh.bk a j)→j < w.heap.size→((S j∨O j∨O2 j∨Sh.bk a'' j)∧¬ Sh.bk a'' j)∧w'.heap[j]? = w.heap[j]?:=fun j hj hl =>
   ⟨⟨hj.1.imp id fun h=>.inl h,na j hl hj.2⟩,hc.block j hl hj.2⟩
  have hs2:∀ j,(S j∨O2 j)→j < w.heap.size→((S j∨O j∨O2 j∨Sh.bk a'' j)∧¬ Sh.bk a'' j)∧w'.heap[j]? = w.heap[j]?:=fun j hj hl=>by
   have nb:¬ Sh.bk a j:=hj.elim (fun h=>fun hh=>by have:=(h2 j (h1 j hh)).1;have:=hSB j h;omega) (fun h=>(hO2 j h).2);exact ⟨⟨hj.imp id fun h=>.inr (.inl h),na j hl nb⟩,hc.block j hl nb⟩
  exact (h4.keep hs hc.size).app ⟨a',c',us,[],rfl,g3.keep hs2 hc.size,g4.keep hs2 hc.size,rfl⟩
 ·intro j hj;rcases hj with hj | hj | hj
  ·exact .inl hj
  ·exact .inr (.inl hj)
  ·rcases hn j hj with h' | h'
   ·exact .inl (h1 j h')
   ·exact .inr (.inr ⟨h',(ho.bk hj).2⟩)
abbrev qa6 (h:Hd) (pa:OA) (n c:Nat):LV:=[iV h.k,sV h.t,iV h.n,lV pa n c]
def FrAt (e:TypeId) (B:Nat) (w:World):List Fr→LV→(NP)→Prop
 | [],xs,O=>xs=[]∧∀ k,¬ O k
 | f :: r,xs,O=>∃ pa pc O1 O2 ys,xs=ys++qa6 f.h pa f.f.len pc∧OwnG e (fun _=>False) O1 B w pa f.f.len pc f.f∧FrAt e B w r ys O2∧(∀ k,O k↔O1 k∨O2 k)∧(∀ k,O1 k→¬ O2 k)
theorem FrAt.len {e:TypeId} {B:Nat} {w:World}:∀ {st:List Fr} {xs:LV} {O:NP},FrAt e B w st xs O→xs.length=st.length * 4
 | [],xs,O,⟨h,_⟩=>by rw [h];rfl
 | f :: r,xs,O,⟨pa,pc,O1,O2,ys,h1,h2,h3,_⟩=>by
  rw [h1,length_append,FrAt.len h3];show r.length * 4 + 4=(r.length + 1) * 4;omega
theorem FrAt.own {e:TypeId} {B:Nat} {w:World}:∀ {st:List Fr} {xs:LV} {O:NP},FrAt e B w st xs O→∀ k,O k→B≤k∧k < w.heap.size
 | [],xs,O,⟨_,h⟩,k,hk=>absurd hk (h k)
 | f :: r,xs,O,⟨pa,pc,O1,O2,ys,h1,h2,h3,h4,_⟩,k,hk=>by
  rcases (h4 k).1 hk with hk | hk
  ·exact h2.own hk
  ·exact FrAt.own h3 k hk
theorem FrAt.chg {e:TypeId} {B:Nat} {w w':World} {T:NP} (hc:Chg T w w'):∀ {st:List Fr} {xs:LV} {O:NP},FrAt e B w st xs O→(∀ k,O k→¬ T k)→FrAt e B w' st xs O
 | [],xs,O,h,_=>h
 | f :: r,xs,O,⟨pa,pc,O1,O2,ys,h1,h2,h3,h4,h5⟩,hT =>
  ⟨pa,pc,O1,O2,ys,h1,h2.chg hc fun k hk _=>⟨fun h=>h,fun ho=>hT k ((h4 k).2 (.inl ho)) hk⟩,FrAt.chg hc h3 fun k hk=>hT k ((h4 k).2 (.inr hk)),h4,h5⟩
def StAt (e:TypeId) (B:Nat) (w:World) (a:OA) (n c:Nat) (st:List Fr) (O:NP):Prop :=
 n=st.length∧∃ xs,Owns w B e 4 a n c xs∧FrAt e B w st xs O∧∀ k,O k→¬ Sh.bk a k
section
variable {e:TypeId} {B:Nat} {w w':World} {a:OA} {n c:Nat} {st:List Fr} {O:NP}
theorem StAt.bk (h:StAt e B w a n c st O) {k:Nat} (hk:Sh.bk a k):B≤k∧k < w.heap.size:=by
 obtain ⟨_,xs,h1,_⟩:=h;exact h1.bk hk
theorem StAt.own (h:StAt e B w a n c st O) {k:Nat} (hk:O k):B≤k∧k < w.heap.size:=by
 obtain ⟨_,xs,_,h2,_⟩:=h;exact h2.own k hk
theorem StAt.chg {T:NP} (h:StAt e B w a n c st O) (hc:Chg T w w') (hT:∀ k,T k→¬ Sh.bk a k∧¬ O k):StAt e B w' a n c st O:=by
 obtain ⟨h0,xs,h1,h2,h3⟩:=h;exact ⟨h0,xs,h1.chg hc fun k hk ht=>(hT k ht).1 hk,h2.chg hc fun k hk ht=>(hT k ht).2 hk,h3⟩
theorem StAt.ext (h:StAt e B w a n c st O) (hc:Ext w w'):StAt e B w' a n c st O:=h.chg (T:=fun _=>False) (.of_ext hc) fun k h=>h.elim
theorem StAt.top {f:Fr} {r:List Fr} (h:StAt e B w a n c (f :: r) O) :
  ∃ (g:Nat) (pa:OA) (pc:Nat) (O1:NP),a=some ⟨g,0,none⟩∧(∀ K:Addr→Prop,K ⟨g,r.length * 4,none⟩→idx a n (r.length:Int) 4 K) ∧
   w.cell? ⟨g,r.length * 4,none⟩=some (iV f.h.k)∧w.cell? ⟨g,r.length * 4 + 1,none⟩=some (sV f.h.t)∧w.cell? ⟨g,r.length * 4 + 2,none⟩=some (iV f.h.n)∧w.cell? ⟨g,r.length * 4 + 3,none⟩=some (lV pa f.f.len pc) ∧
   OwnG e (fun _=>False) O1 B w pa f.f.len pc f.f∧(∀ k,O1 k→O k):=by
 obtain ⟨h0,xs,h1,⟨pa,pc,O1,O2,ys,rfl,h2,h3,h4,h5⟩,h6⟩:=h;obtain ⟨g,rfl,hg,hc⟩:=h1.cell (by rw [h0];simp);have hl:=h3.len;have key:∀ j v,(qa6 f.h pa f.f.len pc)[j]? = some v→w.cell? ⟨g,r.length * 4 + j,none⟩=some v:=fun j v hj=>by
  refine hc _ _ ?_;rw [List.getElem?_append_right (by omega),show r.length * 4 + j - ys.length=j by omega];exact hj
 refine ⟨g,pa,pc,O1,rfl,fun K hK=>⟨by omega,by rw [h0,length_cons];omega,?_⟩,key 0 _ rfl,key 1 _ rfl,key 2 _ rfl,key 3 _ rfl,h2,fun k hk=>(h4 k).2 (.inl hk)⟩;show K _;rw [qd,Int.toNat_natCast,Nat.zero_add];exact hK
theorem StAt.push {P:Program} {t ty:TypeId} {bytes:Nat} {z:Value} (hT:SlT P t e 4 bytes z) (h:StAt e B w a n c st O) (hB:B≤w.heap.size) (hd:Hd) (hlen:n + 1≤4611686018427387904) (hbytes:(n + 1) * bytes≤140737488355328) {K:OA→Nat→Nat→World→Prop}
  (hk:∀ a' c' w',StAt e B w' a' (n + 1) c' (⟨hd,.nil⟩ :: st) O→Chg (Sh.bk a) w w'→K a' (n + 1) c' w') :
  al w e (qa6 hd none 0 0) fun p w1=>app P [t,t] ty (lV a n c) (lV (some p) 1 1) w1 K:=by
 obtain ⟨h0,xs,h1,h2,h3⟩:=h;refine qdp hT h1 hB _ rfl (by intro u hu;simp only [mem_cons,not_mem_nil,or_false] at hu;rcases hu with rfl | rfl | rfl | rfl <;> rfl) hlen hbytes fun a' c' w' ho hc hn=>hk a' c' w' ⟨by simp [h0],_,ho,⟨none,0,fun _=>False,O,xs,rfl,OwnG.nil w',h2.chg hc h3,fun k=>by simp,fun k hk=>hk.elim⟩,?_⟩ hc;intro k hk hb;rcases hn k hb with h' | h'
 ·exact h3 k hk h'
 ·have:=(h2.own k hk).2;omega
theorem StAt.pop {f:Fr} {r:List Fr} (h:StAt e B w a n c (f :: r) O) :
  ∃ (pa:OA) (pc:Nat) (O1 O':NP),StAt e B w a r.length c r O'∧SlF O1 w pa f.f.len f.f∧(∀ k,O1 k→(B≤k∧k < w.heap.size)∧¬ O' k∧¬ Sh.bk a k)∧(∀ k,O1 k→O k)∧(∀ k,O' k→O k) ∧
   ∃ g:Nat,a=some ⟨g,0,none⟩∧w.cell? ⟨g,r.length * 4,none⟩=some (iV f.h.k)∧w.cell? ⟨g,r.length * 4 + 1,none⟩=some (sV f.h.t)∧w.cell? ⟨g,r.length * 4 + 2,none⟩=some (iV f.h.n)∧w.cell? ⟨g,r.length * 4 + 3,none⟩=some (lV pa f.f.len pc):=by
 obtain ⟨h0,xs,h1,⟨pa,pc,O1,Or,ys,rfl,h2,h3,h4,h5⟩,h6⟩:=h;obtain ⟨g,ha,hg,hc⟩:=h1.cell (by rw [h0];simp);have hl:=h3.len;have hn:n=r.length + 1:=by rw [h0,length_cons]
 have key:∀ j v,(qa6 f.h pa f.f.len pc)[j]? = some v→w.cell? ⟨g,r.length * 4 + j,none⟩=some v:=fun j v hj=>by
  refine hc _ _ ?_;rw [List.getElem?_append_right (by omega),show r.length * 4 + j - ys.length=j by omega];exact hj
 have hcut:=owns_cut h1 (m:=r.length) (by omega);rw [List.take_left' hl] at hcut;refine ⟨pa,pc,O1,Or,⟨rfl,ys,hcut,h3,fun k hk=>h6 k ((h4 k).2 (.inr hk))⟩,?_,fun k hk=>⟨h2.own hk,h5 k hk,h6 k ((h4 k).2 (.inl hk))⟩,fun k hk=>(h4 k).2 (.inl hk),fun k hk=>(h4 k).2 (.inr hk),g,ha,key 0 _ rfl,key 1 _ rfl,key 2 _ rfl,key 3 _ rfl⟩;exact h2.out.imp fun k hk _=>hk.elim (fun h=>h.elim) id
end
section
variable {e:TypeId} {B:Nat} {w w':World} {a:OA} {n c:Nat} {st:List Fr} {O:NP}
theorem StAt.grow {P:Program} {t ty:TypeId} {bytes:Nat} {z:Value} (hT:SlT P t e 4 bytes z) {f:Fr} {r:List Fr} (h:StAt e B w a n c (f :: r) O) (hB:B≤w.heap.size) {bz:Nat} {Tz:TypeId} {zc:LV} (hbz:Blk w bz zc Tz) (hzc:zc.length=4) (hz1:∀ u∈zc,u.oneCell'=true)
  {hd:Hd} {ps:Fo} {a':OA} {c':Nat} {O2:NP}
  (hps:SlF O2 w a' ps.len ps) (hO2:∀ k,O2 k→(B≤k∧k < w.heap.size)∧¬ O k∧¬ Sh.bk a k) (hlen:f.f.len + 1≤4611686018427387904) (hbytes:(f.f.len + 1) * bytes≤140737488355328) {pa:OA} {pc g:Nat} (ha:a=some ⟨g,0,none⟩) (hcell:w.cell? ⟨g,r.length * 4 + 3,none⟩=some (lV pa f.f.len pc))
  {K4:OA→Nat→Nat→World→Prop}
  (hK:∀ a1 c1 w2 (q:Addr),(∀ KK:Addr→Prop,KK q→idx a1 (f.f.len + 1) (f.f.len:Int) 4 KK) →
   (∀ K:WP,(∀ w' O',StAt e B w' a n c (f.add hd ps :: r) O'→Chg (fun k=>Sh.bk a k∨O k) w w'→(∀ k,O' k→O k∨O2 k∨(w.heap.size≤k∧k < w'.heap.size))→K w') →
    (stL w2 q 0 (qa6 hd a' ps.len c') fun w3=>(stL w3 ⟨g,r.length * 4 + 3,none⟩ 0 [lV a1 (f.f.len + 1) c1] K)∧True) ∧
    (stL w2 ⟨g,r.length * 4 + 3,none⟩ 0 [lV a1 (f.f.len + 1) c1] fun w3=>(stL w3 q 0 (qa6 hd a' ps.len c') K)∧True) ∧
    (stL w2 ⟨g,r.length * 4 + 3,none⟩ 0 [lV a1 (f.f.len + 1) c1] fun w3=>idx a1 (f.f.len + 1) (f.f.len:Int) 4 fun q=>stL w3 q 0 (qa6 hd a' ps.len c') K) ∧
    (zc=qa6 hd a' ps.len c'→stL w2 ⟨g,r.length * 4 + 3,none⟩ 0 [lV a1 (f.f.len + 1) c1] K))→K4 a1 (f.f.len + 1) c1 w2) :
  app P [t,t] ty (lV pa f.f.len pc) (lV (some ⟨bz,0,none⟩) 1 1) w K4:=by
 obtain ⟨h0,xs,h1,⟨pa',pc',O0,Or,ys,rfl,h2,h3,h4,h5⟩,h6⟩:=h;obtain ⟨g',ha',hg,hc⟩:=h1.cell (by rw [h0];simp);obtain rfl:g'=g:=by rw [ha] at ha';simpa using ha'.symm
 have hl:=h3.len;have hn:n=r.length + 1:=by rw [h0,length_cons]
 have hcell':w.cell? ⟨g',r.length * 4 + 3,none⟩=some (lV pa' f.f.len pc'):=by
  refine hc _ _ ?_;rw [List.getElem?_append_right (by omega),show r.length * 4 + 3 - ys.length=3 by omega];rfl
 obtain ⟨rfl,rfl⟩:pa'=pa∧pc'=pc:=by
  rw [hcell] at hcell';have:=Value.slice.inj (Option.some.inj hcell')
  exact ⟨this.1.symm,this.2.2.symm⟩
 obtain ⟨_,o1,o2,px,q1,q2⟩:=h2;refine qr0 hT q1 hB (S:=fun _=>True) zc (by rw [hzc,Nat.one_mul]) (.inr ⟨bz,0,rfl,trivial,hbz.lt,fun j v hj=>by show _=_;rw [Nat.zero_add,hbz.cell];exact hj⟩) hz1 hlen hbytes fun a1 c1 w2 ho hcw hnn=>?_;have z:=hcw.size;obtain ⟨g1,ha1,hidx,hst⟩:=ho.storeLast (vs:=qa6 hd a' ps.len c') hzc rfl (by intro u hu;simp only [mem_cons,not_mem_nil,or_false] at hu;rcases hu with rfl | rfl | rfl | rfl <;> rfl);have paO:∀ k,Sh.bk pa' k→O k:=fun k hk=>(h4 k).2 (.inl (o1 k hk));have h1':Owns w2 B e 4 a n c (ys++qa6 f.h pa' f.f.len pc'):=h1.chg hcw fun k hk hp=>h6 k (paO k hp) hk;have na1:∀ k,Sh.bk a1 k→¬ Sh.bk a k:=fun k hk hb=>(hnn k hk).elim (fun h=>h6 k (paO k h) hb) (fun h=>by have:=(h1.bk hb).2;omega);have hset:(ys++qa6 f.h pa' f.f.len pc').set (r.length * 4 + 3) (lV a1 (f.f.len + 1) c1)=ys++qa6 f.h a1 (f.f.len + 1) c1:=by
  rw [List.set_append_right _ _ (by omega),show r.length * 4 + 3 - ys.length=3 by omega];rfl
 have hlen':(f.add hd ps).f.len=f.f.len + 1:=by unfold Fr.add;simp [Fo.one]
 have fin:∀ w',Owns w' B e 4 a1 (f.f.len + 1) c1 (px++qa6 hd a' ps.len c')→Owns w' B e 4 a n c (ys++qa6 f.h a1 (f.f.len + 1) c1)→Chg (fun k=>Sh.bk a1 k∨Sh.bk a k) w2 w' →
   StAt e B w' a n c (f.add hd ps :: r) (fun k=>(O0 k∨O2 k∨Sh.bk a1 k)∨Or k)∧Chg (fun k=>Sh.bk a k∨O k) w w'∧(∀ k,((O0 k∨O2 k∨Sh.bk a1 k)∨Or k)→O k∨O2 k∨(w.heap.size≤k∧k < w'.heap.size)):=by
  intro w' x1 x2 x3;have z3:=x3.size;have own1:∀ k,(O0 k∨O2 k∨Sh.bk a1 k)→B≤k∧k < w'.heap.size:=fun k hk=>by
   rcases hk with hk | hk | hk
   ·exact ⟨(o2 k hk).1,by have:=(o2 k hk).2;omega⟩
   ·exact ⟨(hO2 k hk).1.1,by have:=(hO2 k hk).1.2;omega⟩
   ·exact x1.bk hk
  have same:∀ k,k < w.heap.size→¬ Sh.bk pa' k→¬ Sh.bk a k→¬ Sh.bk a1 k∧w'.heap[k]? = w.heap[k]?:=fun k hk n1 n2=>by
   have n3:¬ Sh.bk a1 k:=fun hh=>(hnn k hh).elim n1 (by omega);exact ⟨n3,(x3.block k (by omega) fun hh=>hh.elim n3 n2).trans (hcw.block k hk n1)⟩
  refine ⟨⟨by rw [h0];rfl,_,x2,⟨a1,c1,_,Or,ys,by rw [hlen'];rfl,?_,?_,fun k=>Iff.rfl,?_⟩,?_⟩,?_,?_⟩
  ·rw [hlen'];refine ⟨by show _=(f.f.app _).len;simp [Fo.one],fun k hk=>.inr (.inr hk),own1,_,x1,?_⟩;obtain ⟨_,us,g3,g4⟩:=hps;have k1:∀ k,((False∨O0 k)∧¬ Sh.bk pa' k)→k < w.heap.size→((False∨O0 k∨O2 k∨Sh.bk a1 k)∧¬ Sh.bk a1 k)∧w'.heap[k]? = w.heap[k]?:=fun k hk hl=>by
    have ho:O0 k:=hk.1.elim (fun h=>h.elim) id;obtain ⟨s1,s2⟩:=same k hl hk.2 (h6 k ((h4 k).2 (.inl ho)));exact ⟨⟨.inr (.inl ho),s1⟩,s2⟩
   have k2:∀ k,O2 k→k < w.heap.size→((False∨O0 k∨O2 k∨Sh.bk a1 k)∧¬ Sh.bk a1 k)∧w'.heap[k]? = w.heap[k]?:=fun k hk hl=>by
    obtain ⟨s1,s2⟩:=same k hl (fun hh=>(hO2 k hk).2.1 (paO k hh)) (hO2 k hk).2.2;exact ⟨⟨.inr (.inr (.inl hk)),s1⟩,s2⟩
   exact (q2.keep k1 (by omega)).app ⟨a',c',us,[],rfl,g3.keep k2 (by omega),g4.keep k2 (by omega),rfl⟩
  ·exact (h3.chg hcw fun k hk hp=>h5 k (o1 k hp) hk).chg x3 fun k hk hh=>hh.elim (fun hb=>(hnn k hb).elim (fun hp=>h5 k (o1 k hp) hk) (fun hp=>by have:=(h3.own k hk).2;omega)) (h6 k ((h4 k).2 (.inr hk)))
  ·intro k hk h2';rcases hk with hk | hk | hk
   ·exact h5 k hk h2'
   ·exact (hO2 k hk).2.1 ((h4 k).2 (.inr h2'))
   ·rcases hnn k hk with hp | hp
    ·exact h5 k (o1 k hp) h2'
    ·have:=(h3.own k h2').2;omega
  ·intro k hk;rcases hk with hk | hk
   ·rcases hk with hk | hk | hk
    ·exact h6 k ((h4 k).2 (.inl hk))
    ·exact (hO2 k hk).2.2
    ·exact na1 k hk
   ·exact h6 k ((h4 k).2 (.inr hk))
  ·refine ⟨x3.os.trans hcw.os,x3.tape.trans hcw.tape,x3.output.trans hcw.output,by omega,fun k hk hh=>(same k hk (fun hp=>hh (.inr (paO k hp))) (fun hb=>hh (.inl hb))).2⟩
  ·intro k hk;rcases hk with hk | hk
   ·rcases hk with hk | hk | hk
    ·exact .inl ((h4 k).2 (.inl hk))
    ·exact .inr (.inl hk)
    ·rcases hnn k hk with hp | hp
     ·exact .inl (paO k hp)
     ·exact .inr (.inr ⟨hp,(x1.bk hk).2⟩)
   ·exact .inl ((h4 k).2 (.inr hk))
 have seth:∀ {W:World} {K:WP},Owns W B e 4 a n c (ys++qa6 f.h pa' f.f.len pc')→(∀ w',Owns w' B e 4 a n c (ys++qa6 f.h a1 (f.f.len + 1) c1)→Chg (Sh.bk a) W w'→w'.heap.size=W.heap.size→K w')→stL W ⟨g',r.length * 4 + 3,none⟩ 0 [lV a1 (f.f.len + 1) c1] K:=by
  intro W K hW hk;obtain ⟨g2,hg2,hst2⟩:=owns_set hW (j:=r.length * 4 + 3) (by omega) (v:=lV a1 (f.f.len + 1) c1) rfl;obtain rfl:g2=g':=by rw [ha] at hg2;simpa using hg2.symm
  refine hst2 K fun w' x1 x2 x3=>hk w' (by rw [← hset];exact x1) x2 x3
 have sete:∀ {W:World} {K:WP},Owns W B e 4 a1 (f.f.len + 1) c1 (px++zc)→(∀ w',Owns w' B e 4 a1 (f.f.len + 1) c1 (px++qa6 hd a' ps.len c')→Chg (Sh.bk a1) W w'→w'.heap.size=W.heap.size→K w')→stL W ⟨g1,f.f.len * 4,none⟩ 0 (qa6 hd a' ps.len c') K:=by
  intro W K hW hk;obtain ⟨g2,hg2,_,hst2⟩:=hW.storeLast (vs:=qa6 hd a' ps.len c') hzc rfl (by intro u hu;simp only [mem_cons,not_mem_nil,or_false] at hu;rcases hu with rfl | rfl | rfl | rfl <;> rfl);obtain rfl:g2=g1:=by rw [ha1] at hg2;simpa using hg2.symm
  exact hst2 K hk
 refine hK a1 c1 w2 ⟨g1,f.f.len * 4,none⟩ hidx fun K hk=>?_;have eh:∀ {K:WP},(∀ w' O',StAt e B w' a n c (f.add hd ps :: r) O'→Chg (fun k=>Sh.bk a k∨O k) w w'→(∀ k,O' k→O k∨O2 k∨(w.heap.size≤k∧k < w'.heap.size))→K w')→stL w2 ⟨g1,f.f.len * 4,none⟩ 0 (qa6 hd a' ps.len c') fun w3=>(stL w3 ⟨g',r.length * 4 + 3,none⟩ 0 [lV a1 (f.f.len + 1) c1] K)∧True:=by
  intro K hk;refine sete ho fun w3 x1 x2 x3=>⟨seth (h1'.chg x2 fun k hk hh=>na1 k hh hk) fun w4 y1 y2 y3=>?_,trivial⟩;obtain ⟨f1,f2,f3⟩:=fin w4 (x1.chg y2 fun k hk hh=>na1 k hk hh) y1 ((x2.mono fun k _ hk=>.inl hk).trans (y2.mono fun k _ hk=>.inr hk));exact hk w4 _ f1 f2 f3
 have he:∀ {W:World} {K:WP},(∀ w' O',StAt e B w' a n c (f.add hd ps :: r) O'→Chg (fun k=>Sh.bk a k∨O k) w w'→(∀ k,O' k→O k∨O2 k∨(w.heap.size≤k∧k < w'.heap.size))→K w')→Owns W B e 4 a n c (ys++qa6 f.h a1 (f.f.len + 1) c1)→Chg (Sh.bk a) w2 W→stL W ⟨g1,f.f.len * 4,none⟩ 0 (qa6 hd a' ps.len c') K:=by
  intro W K hk y1 y2;refine sete (ho.chg y2 fun k hk hh=>na1 k hk hh) fun w4 x1 x2 x3=>?_;obtain ⟨f1,f2,f3⟩:=fin w4 x1 (y1.chg x2 fun k hk hh=>na1 k hh hk) ((y2.mono fun k _ hk=>.inr hk).trans (x2.mono fun k _ hk=>.inl hk));exact hk w4 _ f1 f2 f3
 refine ⟨eh hk,seth h1' fun w3 y1 y2 _=>⟨he hk y1 y2,trivial⟩,seth h1' fun w3 y1 y2 _=>hidx _ (he hk y1 y2),fun hz=>seth h1' fun w3 y1 y2 _=>?_⟩;obtain ⟨f1,f2,f3⟩:=fin w3 (by rw [← hz];exact ho.chg y2 fun k hk hh=>na1 k hk hh) y1 (y2.mono fun k _ hk=>.inr hk);exact hk w3 _ f1 f2 f3
end
def tkOk (x:Tk):Prop:=(x.k=1∧x.nm=[])∨((x.k=2∨x.k=3∨x.k=4)∧qcm x.nm=true∧qgq x.nm=decide (x.k=4)∧(x.k=3→x.vl=[])∧(x.k≠3→valB x.nm x.vl=true))
theorem chk_tk {x:Lx} {pt:Bool} {at_:Int} (h:qd9 x pt at_=0):tkOk (tkX x):=by
 obtain ⟨h1,_,h3,_⟩:=chk_inv h;unfold qb8 at h1;unfold tkOk tkX;by_cases hk:x.k=1
 ·left
  rw [if_pos hk] at h1;split at h1
  ·cases h1
  ·rename_i hn;exact ⟨hk,Classical.not_not.1 hn⟩
 ·right
  rw [if_neg hk] at h1;split at h1
  ·rename_i hk2;split at h1
   ·rename_i hn;have hr:=h3 hk;unfold qb2 at hr;refine ⟨hk2,hn.1,hn.2,fun h=>?_,fun h=>?_⟩
    ·rw [if_pos h] at hr;exact of_decide_eq_true hr
    ·rw [if_neg h] at hr;exact hr
   ·cases h1
  ·cases h1
theorem q7y:∀ {L:List Lx} {pt:Bool} {at_:Nat},chkGo L pt at_=0→∀ x∈L,tkOk (tkX x)
 | [],_,_,_,x,hx=>by cases hx
 | y :: r,pt,at_,h,x,hx=>by
  obtain ⟨h1,h2⟩:=chkGo_cons.1 h;rcases mem_cons.1 hx with rfl | hx
  ·exact chk_tk h1
  ·exact q7y h2 x hx
theorem num_val {most:Nat} (hm:most≤64) {v:LU} (h:numV most v=true):1≤numOf v∧numOf v≤64∧Lib.decDigits (numOf v).toNat=v:=by
 obtain ⟨n,h1,h2,h3,h4⟩:=(qqv hm v).1 h;unfold numOf;rw [h1];exact ⟨by show (1:Int)≤(n:Int);omega,by show (n:Int)≤64;omega,h4⟩
theorem qz0 {nm vl:LU} {c:Int} (hc:c≠1) (h1:qcm nm=true) (h2:valB nm vl=true) :
  let h:=headF ⟨c,nm,vl⟩
  tagF h.k=nm∧valT h.k h.t h.n=vl∧q7s h.k h.t h.n∧h.k≠1∧qz h.k=!qgq nm:=by
 have hm:nm∈qxv:=of_decide_eq_true h1;unfold headF;simp only [hc,if_false];simp only [qxv,mem_cons,not_mem_nil,or_false] at hm;have sm:∀ i:Nat,i < 12→2≤i→(if qai (i:Int)=true then vl else [])=(if qai (i:Int) then vl else []):=fun _ _ _=>rfl;rcases hm with rfl | rfl | rfl | rfl | rfl | rfl | rfl | rfl | rfl | rfl
 ·rw [show kindN [97,98]=10 by decide +kernel];exact ⟨rfl,rfl,.inr ⟨by decide,by decide,fun hh=>(by cases hh),fun _=>rfl,fun hh=>(by cases hh)⟩,by decide,rfl⟩
 ·rw [show kindN [97,100,100]=8 by decide +kernel];obtain ⟨a,b,d⟩:=num_val (most:=8) (by omega) h2;exact ⟨rfl,d,.inr ⟨by decide,by decide,fun _=>rfl,fun hh=>(by cases hh),fun _=>⟨a,b⟩⟩,by decide,rfl⟩
 ·rw [show kindN [100,101,108]=9 by decide +kernel];obtain ⟨a,b,d⟩:=num_val (most:=8) (by omega) h2;exact ⟨rfl,d,.inr ⟨by decide,by decide,fun _=>rfl,fun hh=>(by cases hh),fun _=>⟨a,b⟩⟩,by decide,rfl⟩
 ·rw [show kindN [103,97,112]=6 by decide +kernel];obtain ⟨a,b,d⟩:=num_val (most:=64) (by omega) h2;exact ⟨rfl,d,.inr ⟨by decide,by decide,fun _=>rfl,fun hh=>(by cases hh),fun _=>⟨a,b⟩⟩,by decide,rfl⟩
 ·rw [show kindN [108,98]=2 by decide +kernel];exact ⟨rfl,(of_decide_eq_true h2).symm,.inr ⟨by decide,by decide,fun _=>rfl,fun _=>rfl,fun hh=>(by cases hh)⟩,by decide,rfl⟩
 ·rw [show kindN [110,97,109,101]=11 by decide +kernel];exact ⟨rfl,rfl,.inr ⟨by decide,by decide,fun hh=>(by cases hh),fun _=>rfl,fun hh=>(by cases hh)⟩,by decide,rfl⟩
 ·rw [show kindN [112,98]=3 by decide +kernel];exact ⟨rfl,rfl,.inr ⟨by decide,by decide,fun hh=>(by cases hh),fun _=>rfl,fun hh=>(by cases hh)⟩,by decide,rfl⟩
 ·rw [show kindN [115,101,99]=4 by decide +kernel];exact ⟨rfl,rfl,.inr ⟨by decide,by decide,fun hh=>(by cases hh),fun _=>rfl,fun hh=>(by cases hh)⟩,by decide,rfl⟩
 ·rw [show kindN [117,110,99,108,101,97,114]=7 by decide +kernel];exact ⟨rfl,(of_decide_eq_true h2).symm,.inr ⟨by decide,by decide,fun _=>rfl,fun _=>rfl,fun hh=>(by cases hh)⟩,by decide,rfl⟩
 ·rw [show kindN [118]=5 by decide +kernel];exact ⟨rfl,(of_decide_eq_true h2).symm,.inr ⟨by decide,by decide,fun _=>rfl,fun _=>rfl,fun hh=>(by cases hh)⟩,by decide,rfl⟩
def hdTk (h:Hd):Tk:=⟨2,tagF h.k,valT h.k h.t h.n⟩
def unp:List Fr→List Tk
 | []=>[]
 | [f]=>tksF f.f
 | f :: g :: r=>unp (g :: r)++hdTk f.h :: tksF f.f
def hdOk (h:Hd):Prop:=q7s h.k h.t h.n∧h.k≠1∧qz h.k=true
def frOk:List Fr→Prop
 | []=>False
 | [f]=>qgn f.f
 | f :: g :: r=>hdOk f.h∧qgn f.f∧frOk (g :: r)
def qqw:List Fr→List (LU)
 | []=>[]
 | [_]=>[]
 | f :: g :: r=>tagF f.h.k :: qqw (g :: r)
theorem shape_app {f g:Fo}:qgn (f.app g)↔qgn f∧qgn g:=by
 induction f with
 | nil=>simp [qgn]
 | cons k t n ps r _ ih=>simp only [Fo.cons_app,qgn,ih,and_assoc]
theorem unp_add (f:Fr) (h:Hd) (ps:Fo) (r:List Fr):unp (f.add h ps :: r)=unp (f :: r)++tksF (.one h.k h.t h.n ps):=by
 cases r with
 | nil=>exact tksF_app _ _
 | cons g r =>
  show unp (g :: r)++hdTk f.h :: tksF (f.f.app _)=(unp (g :: r)++hdTk f.h :: tksF f.f)++_;rw [tksF_app];simp
theorem fr_add {f:Fr} {h:Hd} {ps:Fo} {r:List Fr} (hf:frOk (f :: r)) (hs:qgn (.one h.k h.t h.n ps)):frOk (f.add h ps :: r):=by
 cases r with
 | nil=>exact shape_app.2 ⟨hf,hs⟩
 | cons g r=>exact ⟨hf.1,shape_app.2 ⟨hf.2.1,hs⟩,hf.2.2⟩
theorem qzr (f:Fr) (h:Hd) (ps:Fo) (r:List Fr):qqw (f.add h ps :: r)=qqw (f :: r):=by
 cases r <;> rfl
theorem tks_one (h:Hd) (ps:Fo):tksF (.one h.k h.t h.n ps)=(if h.k=1 then [⟨1,[],h.t⟩] else if qz h.k then ⟨2,tagF h.k,valT h.k h.t h.n⟩ :: (tksF ps++[⟨3,tagF h.k,[]⟩]) else [⟨4,tagF h.k,valT h.k h.t h.n⟩]):=by
 unfold Fo.one;rw [tksF,tksF,append_nil]
theorem qzk:∀ (L:List Lx) (st:List Fr),frOk st→(∀ x∈L,tkOk (tkX x))→qhv L (qqw st)=0→∃ fr:Fr,(L.map tkX).foldl stepP st=[fr]∧qgn fr.f∧tksF fr.f=unp st++L.map tkX
 | [],st,hf,_,hn=>by
  match st,hf with
  | [f],hf=>exact ⟨f,rfl,hf,by simp [unp]⟩
  | f :: g :: r,hf =>
   rw [qqw,qhv] at hn;simp at hn
 | x :: L,st,hf,ht,hn=>by
  have hx:=ht x List.mem_cons_self;have htl:∀ y∈L,tkOk (tkX y):=fun y hy=>ht y (List.mem_cons_of_mem _ hy);obtain ⟨f,r,rfl⟩:∃ f r,st=f :: r:=by
   cases st with
   | nil=>exact hf.elim
   | cons f r=>exact ⟨f,r,rfl⟩
  rw [List.map_cons,List.foldl_cons];rw [qhv] at hn;have fin:∀ st',stepP (f :: r) (tkX x)=st'→frOk st'→qhv L (qqw st')=0→unp st'=unp (f :: r)++[tkX x]→∃ fr:Fr,(L.map tkX).foldl stepP (stepP (f :: r) (tkX x))=[fr]∧qgn fr.f∧tksF fr.f=unp (f :: r)++tkX x :: L.map tkX:=by
   intro st' h1 h2 h3 h4;obtain ⟨fr,g1,g2,g3⟩:=qzk L st' h2 htl h3;exact ⟨fr,by rw [h1];exact g1,g2,by rw [g3,h4];simp⟩
  by_cases h2:x.k=2
  ·rw [if_pos h2] at hn;split at hn
   ·cases hn
   rcases hx with hx | ⟨_,hk,he,_,hv⟩
   ·exact absurd (hx.1.symm.trans h2) (by decide)
   have hb:=qz0 (c:=x.k) (by omega) hk (hv (by show x.k≠3;omega));obtain ⟨b1,b2,b3,b4,b5⟩:=hb;have hpt:qz (headF (tkX x)).k=true:=by
    rw [show qz (headF (tkX x)).k=!qgq x.nm from b5];have:qgq x.nm=decide (x.k=4):=he;rw [this,decide_eq_false (by omega)];rfl
   refine fin (⟨headF (tkX x),.nil⟩ :: f :: r) (by unfold stepP;rw [if_pos (show (tkX x).k=2 from h2)]) ⟨⟨b3,b4,hpt⟩,trivial,hf⟩ ?_ ?_
   ·show qhv L (tagF (headF (tkX x)).k :: qqw (f :: r))=0;rw [show tagF (headF (tkX x)).k=x.nm from b1];exact hn
   ·show unp (f :: r)++[hdTk (headF (tkX x))]=_;have:hdTk (headF (tkX x))=tkX x:=by
     unfold hdTk;rw [show tagF (headF (tkX x)).k=x.nm from b1,show valT (headF (tkX x)).k (headF (tkX x)).t (headF (tkX x)).n=x.vl from b2];unfold tkX;rw [h2]
    rw [this]
  ·rw [if_neg h2] at hn;by_cases h3:x.k=3
   ·rw [if_pos h3] at hn;cases r with
    | nil=>simp [qqw,popS] at hn
    | cons f1 r =>
     rw [qqw] at hn;by_cases he:tagF f.h.k=x.nm
     ·rw [popS,if_pos he] at hn;obtain ⟨⟨a1,a2,a3⟩,a4,a5⟩:=hf;have hvl:x.vl=[]:=by
       rcases hx with hx | ⟨_,_,_,hv,_⟩
       ·exact absurd (hx.1.symm.trans h3) (by decide)
       ·exact hv h3
      refine fin (f1.add f.h f.f :: r) ?_ (fr_add a5 ?_) (by rw [qzr];exact hn) ?_
      ·unfold stepP;rw [if_neg (show ¬ (tkX x).k=2 from h2),if_pos (show (tkX x).k=3 from h3)]
      ·exact ⟨a1,fun hh=>(by rw [a3] at hh;cases hh),a4,trivial⟩
      ·rw [unp_add,tks_one,if_neg a2,if_pos a3];show _=(unp (f1 :: r)++hdTk f.h :: tksF f.f)++[tkX x];have:tkX x=⟨3,tagF f.h.k,[]⟩:=by unfold tkX;rw [h3,he,hvl]
       rw [this];simp [hdTk]
     ·rw [popS,if_neg he] at hn;simp at hn
   ·rw [if_neg h3] at hn;have hs:stepP (f :: r) (tkX x)=f.add (headF (tkX x)) .nil :: r:=by
     unfold stepP;rw [if_neg (show ¬ (tkX x).k=2 from h2),if_neg (show ¬ (tkX x).k=3 from h3)]
    rcases hx with hx | ⟨hk4,hk,he,_,hv⟩
    ·obtain ⟨k1,n0⟩:=hx;have k1:x.k=1:=k1;have n0:x.nm=[]:=n0;have hh:headF (tkX x)=⟨1,x.vl,0⟩:=by unfold headF;rw [if_pos (show (tkX x).k=1 from k1)];rfl
     refine fin _ hs (fr_add hf ?_) (by rw [qzr];exact hn) ?_
     ·rw [hh];exact ⟨.inl ⟨rfl,rfl⟩,fun _=>rfl,trivial,trivial⟩
     ·rw [unp_add,tks_one,hh,if_pos rfl];unfold tkX;rw [k1,n0]
    ·have k4:x.k=4:=by
      have:x.k=2∨x.k=3∨x.k=4:=hk4;omega
     obtain ⟨b1,b2,b3,b4,b5⟩:=qz0 (c:=x.k) (by omega) hk (hv (by show x.k≠3;omega));have hpt:qz (headF (tkX x)).k=false:=by
      rw [show qz (headF (tkX x)).k=!qgq x.nm from b5];have:qgq x.nm=decide (x.k=4):=he;rw [this,decide_eq_true k4];rfl
     refine fin _ hs (fr_add hf ⟨b3,fun _=>rfl,trivial,trivial⟩) (by rw [qzr];exact hn) ?_;rw [unp_add,tks_one,if_neg (show ¬ (headF (tkX x)).k=1 from b4),if_neg (by rw [hpt];decide)];rw [show tagF (headF (tkX x)).k=x.nm from b1,show valT (headF (tkX x)).k (headF (tkX x)).t (headF (tkX x)).n=x.vl from b2];unfold tkX;rw [k4]
theorem tree_inv {L:List Lx} (h:nestX L=0):qgn (treeT (L.map tkX))∧tksF (treeT (L.map tkX))=L.map tkX:=by
 unfold nestX at h;split at h
 ·cases h
 rename_i hc;obtain ⟨fr,h1,h2,h3⟩:=qzk L [⟨⟨0,[],0⟩,.nil⟩] trivial (q7y (Classical.not_not.1 hc)) h;unfold treeT;rw [h1];exact ⟨h2,by rw [h3];rfl⟩
theorem all_cons {k:Int} {t:LU} {n:Int} {ps r:Fo} {b w:Bool} (h:allF (.cons k t n ps r) b w=0):qv k t n ps b w=0∧allF ps false true=0∧allF r (decide (k=1)) w=0:=by
 rw [allF] at h;split at h
 ·rename_i h1;exact absurd h h1
 rename_i h1;split at h
 ·rename_i h2;exact absurd h h2
 rename_i h2;exact ⟨Classical.not_not.1 h1,Classical.not_not.1 h2,h⟩
end Go.Proofs