/- A part of the proof. -/
import Derived.Test.YtkecgnlelgdndaaGreatDoorLawJ
set_option linter.all false
set_option maxRecDepth 40000
namespace Go.Proofs
open Go Go.Sh Go.RowKit Go.Proofs.Tryz IntKind List
section
variable {R:EP} {w:World}
theorem setN {b i:Nat} {T:TypeId} {cs:LV} {v:Value} {w:World} (hb:Blk w b cs T) (hi:i < cs.length) (hv:v.oneCell'=true) {K:WP}
  (h:∀ w',Blk w' b (cs.set i v) T→Chg (fun k=>k=b) w w'→w'.heap.size=w.heap.size→K w'):stL w ((⟨b,0,none⟩:Addr).add i) 0 [v] K:=by
 rw [qd];refine qaf hb (by simp;omega) (by intro u hu;rw [mem_singleton.1 hu];exact hv) fun w' b1 x2 x3 x4 x5 x6=>?_;have e:putAt cs (0 + i + 0) [v]=cs.set i v:=by rw [Nat.zero_add,Nat.add_zero];rfl
 rw [e] at b1;exact h w' b1 ⟨x4,x5,x6,by omega,fun j _ hj=>x2 j hj⟩ x3
def lastN (R:EP) (p7:Addr) (w41:World):Prop :=
 ∃ (x42:Int),World.cell? w41 (p7.add 0)=some (iV x42)∧(∃ (x43:LU),World.cell? w41 (p7.add 1)=some (sV x43)∧(∃ (x44:Int),World.cell? w41 (p7.add 2)=some (iV x44)∧(∃ (x45:OA) (x45n:Nat) (x45c:Nat),World.cell? w41 (p7.add 3)=some (lV x45 x45n x45c)∧(R (.returned (.agg ⟨[iV x42,sV x43,iV x44,lV x45 x45n x45c]⟩)) w41))))
def outN (R:EP) (p20 p7:Addr) (w36:World):Prop :=
 ∃ (x37:Int),World.cell? w36 (p20.add 0)=some (iV x37)∧(∃ (x38:LU),World.cell? w36 (p20.add 1)=some (sV x38)∧(∃ (x39:Int),World.cell? w36 (p20.add 2)=some (iV x39)∧(∃ (x40:OA) (x40n:Nat) (x40c:Nat),World.cell? w36 (p20.add 3)=some (lV x40 x40n x40c)∧(stL w36 p7 0 [iV x37,sV x38,iV x39,lV x40 x40n x40c] fun w41=>lastN R p7 w41))))
theorem one4n {k n:Int} {t:LU} {a:OA} {l c:Nat}:∀ u∈([iV k,sV t,iV n,lV a l c]:LV),u.oneCell'=true:=by
 intro u hu;simp only [mem_cons,not_mem_nil,or_false] at hu;rcases hu with rfl | rfl | rfl | rfl <;> rfl
theorem st4n {b7:Nat} {T':TypeId} {cs:LV} {w:World} {k n:Int} {t:LU} (B7:Blk w b7 cs T') (hl:cs.length=4)
  (h:∀ w',Chg (fun k=>k=b7) w w'→R (.returned (.agg ⟨[iV k,sV t,iV n,lV none 0 0]⟩)) w'):stL w ⟨b7,0,none⟩ 0 [iV k,sV t,iV n,lV none 0 0] fun w41=>lastN R ⟨b7,0,none⟩ w41:=by
 refine qaf B7 (by simp [hl]) one4n fun w' b1 x2 x3 x4 x5 x6=>?_;rw [Nat.add_zero,putAt4 hl rfl] at b1;obtain ⟨y0,y1,y2,y3⟩:=blk4 b1;exact ⟨_,y0,_,y1,_,y2,_,_,_,y3,h w' ⟨x4,x5,x6,by omega,fun j _ hj=>x2 j hj⟩⟩
theorem outN_ok {b20 b7:Nat} {T T':TypeId} {cs:LV} {w:World} {k n:Int} {t:LU} (B20:Blk w b20 [iV k,sV t,iV n,lV none 0 0] T) (B7:Blk w b7 cs T') (hl:cs.length=4)
  (h:∀ w',Chg (fun k=>k=b7) w w'→R (.returned (.agg ⟨[iV k,sV t,iV n,lV none 0 0]⟩)) w'):outN R ⟨b20,0,none⟩ ⟨b7,0,none⟩ w:=by
 obtain ⟨y0,y1,y2,y3⟩:=blk4 B20;exact ⟨_,y0,_,y1,_,y2,_,_,_,y3,st4n B7 hl h⟩
theorem forms_all:∀ i:Nat,i < 12→formsCells[i * 4]? = some (sV (tagF i))∧formsCells[i * 4 + 1]? = some (bV (qai i))∧formsCells[i * 4 + 2]? = some (bV (numsF i))∧formsCells[i * 4 + 3]? = some (bV (qz i)):=by
 intro i hi
 match i,hi with
 | 0,_=>exact ⟨rfl,rfl,rfl,rfl⟩
 | 1,_=>exact ⟨rfl,rfl,rfl,rfl⟩
 | 2,_=>exact ⟨rfl,rfl,rfl,rfl⟩
 | 3,_=>exact ⟨rfl,rfl,rfl,rfl⟩
 | 4,_=>exact ⟨rfl,rfl,rfl,rfl⟩
 | 5,_=>exact ⟨rfl,rfl,rfl,rfl⟩
 | 6,_=>exact ⟨rfl,rfl,rfl,rfl⟩
 | 7,_=>exact ⟨rfl,rfl,rfl,rfl⟩
 | 8,_=>exact ⟨rfl,rfl,rfl,rfl⟩
 | 9,_=>exact ⟨rfl,rfl,rfl,rfl⟩
 | 10,_=>exact ⟨rfl,rfl,rfl,rfl⟩
 | 11,_=>exact ⟨rfl,rfl,rfl,rfl⟩
 | n + 12,h=>omega
theorem Forms.at {w:World} (h:Forms w) {i:Nat} (hi:i < 12) :
  (∀ K:Addr→Prop,K ⟨ql,i * 4,none⟩→idx (some ⟨ql,0,none⟩) 12 (i:Int) 4 K)∧w.cell? ((⟨ql,i * 4,none⟩:Addr).add 0)=some (sV (tagF i))∧w.cell? ((⟨ql,i * 4,none⟩:Addr).add 1)=some (bV (qai i))∧w.cell? ((⟨ql,i * 4,none⟩:Addr).add 2)=some (bV (numsF i))∧w.cell? ((⟨ql,i * 4,none⟩:Addr).add 3)=some (bV (qz i)):=by
 obtain ⟨f0,f1,f2,f3⟩:=forms_all i hi;refine ⟨fun K hK=>⟨by omega,by omega,?_⟩,?_⟩
 ·show K _;rw [qd,Int.toNat_natCast,Nat.zero_add];exact hK
 ·simp only [qd];exact ⟨h.2 _ _ f0,h.2 _ _ f1,h.2 _ _ f2,h.2 _ _ f3⟩
theorem kindN_at {nm:LU} (h:qcm nm=true):2≤kindN nm∧kindN nm≤11∧∀ i:Nat,i < 12→i≤kindN nm→(decide (tagF i=nm∧tagF i≠[])=decide (i=kindN nm)) :=
 qzw (C:=fun nm=>2≤kindN nm∧kindN nm≤11∧∀ i:Nat,i < 12→i≤kindN nm→(decide (tagF i=nm∧tagF i≠[])=decide (i=kindN nm))) h (by decide +kernel)
theorem node1_spec (tg nm:LU) (b1 b2 b3:Bool) (p:Addr) (hp:w.cell? (p.add 1)=some (sV nm)) (h:∀ w',Ext w w'→R (.returned (bV (decide (tg=nm∧tg≠[])))) w') :
  Calls prog qc4 ⟨[.agg ⟨[sV tg,bV b1,bV b2,bV b3]⟩,.pointer (some p)]⟩ w R:=by
 apply qo1;refine qg fun b6 w7 hb6 B6 e7 s7=>?_;have y0:w7.cell? ((⟨b6,0,none⟩:Addr).add 0)=some (sV tg):=by show _=_;rw [qd,B6.cell];rfl
 refine ⟨_,y0,dr_ok ⟨_,qp hp e7,qb (fun g=>⟨_,y0,?_⟩) (fun g=>?_)⟩⟩
 ·have e:decide (tg=nm∧tg≠[])=decide (tg≠[]):=decide_eq_decide.2 ⟨fun hh=>hh.2,fun hh=>⟨g,hh⟩⟩;rw [← e];exact h w7 e7
 ·have e:decide (tg=nm∧tg≠[])=false:=decide_eq_false fun hh=>g hh.1;rw [← e];exact h w7 e7
theorem q4t (nm:LU) (hk:qcm nm=true) (hF:Forms w) (p:Addr) (hp:w.cell? (p.add 1)=some (sV nm)) (h:∀ w',Ext w w'→R (.returned (iV (kindN nm:Int))) w') :
  Calls prog qac ⟨[lV (some ⟨ql,0,none⟩) 12 12,.func (.func qc4) ⟨[]⟩ ⟨[.pointer (some p)]⟩]⟩ w R:=by
 apply qa4;obtain ⟨k1,k2,k3⟩:=kindN_at hk;refine ⟨fun t W m=>∃ k:Nat,t=k∧k≤kindN nm∧m=12 - k∧Ext w W,⟨_,0,rfl,by omega,rfl,bR⟩,?_⟩;rintro _ W m ⟨k,rfl,hkk,rfl,he⟩ _;obtain ⟨hq,f0,f1,f2,f3⟩:=(hF.ext he).at (i:=k) (by omega);refine qb (fun hlt=>hq _ ⟨_,f0,_,f1,_,f2,_,f3,⟨by kernel_rfl,?_⟩⟩) (fun hge=>by omega);refine node1_spec (tagF k) nm _ _ _ p (qp hp he) fun w14 e14=>⟨_,rfl,?_⟩;rw [k3 k (by omega) hkk];refine qb (fun g=>?_) (fun g=>?_)
 ·rw [g];exact h w14 (qa he e14)
 ·exact ⟨12 - (k + 1),by omega,k + 1,by rw [qj (by omega)],by omega,rfl,qa he e14⟩
theorem num_ok {x:Tk} (h:tkOk x) (h1:x.k≠1) (h3:x.k≠3) (hn:numsF (kindN x.nm)=true) (ht:qai (kindN x.nm)=false):∃ v:Int,Lib.atoiAll x.vl=.ok v∧numOf x.vl=v:=by
 rcases h with h | ⟨_,hk,_,_,hv⟩
 ·exact absurd h.1 h1
 have hb:=qz0 (c:=x.k) h1 hk (hv h3);obtain ⟨b1,b2,b3,b4,b5⟩:=hb;have e:headF ⟨x.k,x.nm,x.vl⟩=⟨kindN x.nm,[],numOf x.vl⟩:=by unfold headF;rw [if_neg h1];simp only [ht,hn,Bool.false_eq_true,if_false,if_true]
 rw [e] at b3;rcases b3 with b3 | ⟨_,_,_,_,b3⟩
 ·rw [e] at b4;exact absurd b3.1 b4
 obtain ⟨c1,c2⟩:=b3 hn;unfold numOf at c1 ⊢;cases ha:Lib.atoiAll x.vl with
 | ok v=>exact ⟨v,rfl,rfl⟩
 | _=>rw [ha] at c1;exact absurd (show (1:Int)≤0 from c1) (by omega)
theorem q5l (x:Lx) (hx:tkOk (tkX x)) (h3:x.k≠3) (hl:x.vl.length≤1000000000) (hF:Forms w) (hM:Mk w)
  (h:∀ w',Ext w w'→R (.returned (.agg ⟨qa6 (headF (tkX x)) none 0 0⟩)) w'):Calls prog qeo ⟨[aggX x]⟩ w R:=by
 apply qum;refine qg fun b5 w6 hb5 B5 e6 s6=>?_;refine qg fun b7 w8 hb7 B7 e8 s8=>?_;obtain ⟨c0,c1,c2,c3⟩:=blk4x (B5.ext e8);have E8:=qa e6 e8;have z6:=e6.size;refine ⟨_,c0,qb (fun g=>⟨_,c2,?_⟩) (fun g=>?_)⟩
 ·have e:headF (tkX x)=⟨1,x.vl,0⟩:=by unfold headF;rw [if_pos (show (tkX x).k=1 from g)];rfl
  rw [e] at h;exact st4n B7 rfl fun w' hc=>h w' (qaz E8 hc (by omega))
 have hkn:qcm x.nm=true:=by
  rcases hx with hx | hx
  ·exact absurd hx.1 g
  ·exact hx.2.1
 obtain ⟨k1,k2,_⟩:=kindN_at hkn;have hsl:∀ {K:OA→Nat→Nat→Prop},K (some ⟨ql,0,none⟩) 12 12→sls (some (⟨ql,0,none⟩:Addr)) 12 0 (12:Nat) 4 K:=fun {K} hK=>sls_cut (m:=12) (by omega) (fun p hp=>by rw [← Option.some.inj hp];rfl) hK;refine hsl ?_;refine q4t x.nm hkn (hF.ext E8) ⟨b5,0,none⟩ c1 fun w18 e18=>⟨_,rfl,?_⟩;refine qw rfl one4n fun b20 w22 hb20 B20 e22 s22=>?_;have E22:=qa (qa E8 e18) e22;have B5a:=((B5.ext e8).ext e18).ext e22;have B7a:=(B7.ext e18).ext e22;have z8:=e8.size;have z18:=e18.size;obtain ⟨_,_,d2,_⟩:=blk4x B5a;obtain ⟨hq,f0,f1,f2,f3⟩:=(hF.ext E22).at (i:=kindN x.nm) (by omega);have hh:headF (tkX x)=⟨kindN x.nm,if qai (kindN x.nm) then x.vl else [],if qai (kindN x.nm) then 0 else if numsF (kindN x.nm) then numOf x.vl else 0⟩:=by unfold headF;rw [if_neg (show ¬ (tkX x).k=1 from g)];rfl
 rw [hh] at h;refine qb (fun gn=>by omega) (fun _=>hq _ ⟨_,f1,qk (fun gt=>⟨_,d2,?_⟩) (fun gt=>hq _ ⟨_,f2,qk (fun gn=>⟨_,d2,?_⟩) (fun gn=>?_)⟩)⟩)
 ·simp only [gt,if_true] at h;refine setN B20 (i:=1) (by simp) rfl fun w36 B36 c36 s36=>?_;exact outN_ok (t:=x.vl) B36 (c36.blk B7a (by omega)) rfl fun w' hc=>h w' (qaz (qaz E22 c36 (by omega)) hc (by omega))
 ·simp only [gt,gn,Bool.false_eq_true,if_false,if_true] at h;obtain ⟨v,hv,hnv⟩:=num_ok hx g h3 gn gt;rw [show numOf x.vl=v from hnv] at h;refine (Tryz.strconv_Atoi_ok ⟨⟨x.vl⟩⟩ (by show x.vl.length≤_;omega) v hv w22).mono ?_;rintro e w50 ⟨rfl,hw⟩;have he:Ext w22 w50:=by
   rcases hw with rfl | ⟨t,rfl⟩
   ·exact bR
   ·exact Joins.below_bytesWorld _ _ _ _ (Nat.le_refl _)
  have z50:=he.size;refine ⟨v,.nilIface,rfl,?_⟩;refine setN (B20.ext he) (i:=2) (by simp) rfl fun w53 B53 c53 s53=>?_;exact outN_ok (n:=v) B53 (c53.blk (B7a.ext he) (by omega)) rfl fun w' hc=>h w' (qaz (qaz (qa E22 he) c53 (by omega)) hc (by omega))
 ·simp only [gt,gn,Bool.false_eq_true,if_false] at h;exact outN_ok B20 B7a rfl fun w' hc=>h w' (qaz E22 hc (by omega))
end
def wantT (l:List Tk):Nat:=(l.filter fun x=>decide (x.k≠3)).length
theorem qye (l m:List Tk):wantT (l++m)=wantT l + wantT m:=by unfold wantT;rw [filter_append,length_append]
theorem q58:∀ {g:Fo},qgn g→wantT (tksF g)=g.size
 | .nil,_=>rfl
 | .cons k t n ps r,⟨h1,h2,h3,h4⟩=>by
  rw [tksF,qye,q58 h4,Fo.size];have key:wantT (if k=1 then [⟨1,[],t⟩] else if qz k then ⟨2,tagF k,valT k t n⟩ :: (tksF ps++[⟨3,tagF k,[]⟩]) else [⟨4,tagF k,valT k t n⟩])=ps.size + 1:=by
   by_cases hk:k=1
   ·subst hk;rw [if_pos rfl,h2 (by decide)];simp [wantT,Fo.size]
   ·rw [if_neg hk];by_cases hp:qz k=true
    ·rw [if_pos hp];have e:(⟨2,tagF k,valT k t n⟩ :: (tksF ps++[⟨3,tagF k,[]⟩]):List Tk)=[⟨2,tagF k,valT k t n⟩]++(tksF ps++[⟨3,tagF k,[]⟩]):=rfl;rw [e,qye,qye,q58 h3];simp [wantT];omega
    ·have hp:qz k=false:=by simpa using hp
     rw [if_neg (by rw [hp];decide),h2 hp];simp [wantT,Fo.size]
  rw [key];omega
def qki (s:LU):Fo × Int :=
 if (scanF s).2≠0 then (.nil,(scanF s).2)
 else if nestX (scanF s).1≠0 then (.nil,nestX (scanF s).1)
 else if qab (treeT ((scanF s).1.map tkX))≠0 then (.nil,qab (treeT ((scanF s).1.map tkX)))
 else (treeT ((scanF s).1.map tkX),0)
section
variable {R:EP} {w:World}
theorem qq3 {a:OA} {g n i:Nat} (ha:a=some ⟨g,0,none⟩) (hi:i < n) {K:Addr→Prop} (hK:K ⟨g,i * 4,none⟩):idx a n (i:Int) 4 K:=by
 subst ha;refine ⟨by omega,by omega,?_⟩;show K _;rw [qd,Int.toNat_natCast,Nat.zero_add];exact hK
abbrev init0:List Fr:=[⟨⟨0,[],0⟩,.nil⟩]
theorem step_ne {st:List Fr} (h:st≠[]) (x:Tk):stepP st x≠[]:=by
 cases st with
 | nil=>exact absurd rfl h
 | cons f r =>
  unfold stepP;split
  ·simp
  ·split
   ·cases r with
    | nil=>simp
    | cons f1 r=>simp
   ·simp
theorem step_len {st:List Fr} {x:Tk} {k:Nat} (h1:st.length≤k) (h2:∀ f∈st,f.f.len≤k):(stepP st x).length≤k + 1∧∀ f∈stepP st x,f.f.len≤k + 1:=by
 have hw:∀ f∈st,f.f.len≤k + 1:=fun f hf=>by have:=h2 f hf;omega
 have hadd:∀ (f:Fr) (h:Hd) (ps:Fo),f.f.len≤k→(f.add h ps).f.len≤k + 1:=fun f h ps hf=>by unfold Fr.add;simp [Fo.one];omega
 unfold stepP;split
 ·refine ⟨by rw [length_cons];omega,fun f hf=>?_⟩;rcases mem_cons.1 hf with rfl | hf
  ·simp
  ·exact hw f hf
 ·split
  ·cases st with
   | nil=>exact ⟨by simp,fun f hf=>by cases hf⟩
   | cons f2 st =>
    cases st with
    | nil=>exact ⟨(show [f2].length≤k + 1 by omega),hw⟩
    | cons f1 r =>
     simp only [length_cons] at h1;refine ⟨by rw [length_cons];omega,fun f hf=>?_⟩;rcases mem_cons.1 hf with rfl | hf
     ·exact hadd _ _ _ (h2 f1 (by simp))
     ·exact hw f (by simp [hf])
  ·cases st with
   | nil=>exact ⟨by simp,fun f hf=>by cases hf⟩
   | cons f1 r =>
    simp only [length_cons] at h1;refine ⟨by rw [length_cons];omega,fun f hf=>?_⟩;rcases mem_cons.1 hf with rfl | hf
    ·exact hadd _ _ _ (h2 f1 (by simp))
    ·exact hw f (by simp [hf])
theorem st_init {B b:Nat} (hb:Blk w b (qa6 ⟨0,[],0⟩ none 0 0) 56) (hB:B≤b):StAt 56 B w (some ⟨b,0,none⟩) 1 1 init0 (fun _=>False):=by
 refine ⟨rfl,_,⟨rfl,.inr ⟨b,1,⟨qa6 ⟨0,[],0⟩ none 0 0⟩,rfl,hB,hb,Nat.le_refl _,by simp [maxLen],rfl,rfl⟩⟩,⟨none,0,fun _=>False,fun _=>False,[],rfl,OwnG.nil w,⟨rfl,fun _ h=>h⟩,fun k=>by simp,fun k h=>h.elim⟩,fun k h=>h.elim⟩
theorem st_cap {e:TypeId} {B:Nat} {a:OA} {n c:Nat} {st:List Fr} {O:NP} (h:StAt e B w a n c st O):n≤c:=by
 obtain ⟨_,xs,h1,_⟩:=h;exact owns_le h1
theorem app_def {B:Nat} {oa:OA} {on oc:Nat} {f:Fr} {r:List Fr} {O:NP} {W:World} (hS:StAt 56 B W oa on oc (f :: r) O) (hB:B≤W.heap.size) {g:Nat} (hg:oa=some ⟨g,0,none⟩) {pa:OA} {pc:Nat} (hc:W.cell? ⟨g,r.length * 4 + 3,none⟩=some (lV pa f.f.len pc))
  {bz:Nat} (hz:Blk W bz (qa6 ⟨0,[],0⟩ none 0 0) 56) (hd:Hd) (hl:f.f.len≤1000000) {Fin:WP}
  (hF:∀ w' O',StAt 56 B w' oa on oc (f.add hd .nil :: r) O'→Chg (fun k=>Sh.bk oa k∨O k) W w'→Fin w') {i:Int} (hi:i=(r.length:Int)) :
  app prog [43,43] 43 (lV pa f.f.len pc) (lV (some ⟨bz,0,none⟩) 1 1) W fun a1 n1 c1 w2=>idx a1 n1 (f.f.len:Int) 4 fun p5=>idx oa on i 4 fun p6 =>
   (stL w2 p5 0 (qa6 hd none 0 0) fun w7=>(stL w7 (p6.add 3) 0 [lV a1 n1 c1] Fin)∧True) ∧
   (stL w2 (p6.add 3) 0 [lV a1 n1 c1] fun w7=>(stL w7 p5 0 (qa6 hd none 0 0) Fin)∧True)∧True:=by
 subst hi;have hn:on=r.length + 1:=hS.1;refine StAt.grow qa8 hS hB hz rfl one4n (hd:=hd) (ps:=.nil) (a':=none) (c':=0) (O2:=fun _=>False) (SlF.nil none) (fun k h=>h.elim) (by omega) (by omega) hg hc fun a1 c1 w2 q hq ord=>hq _ (qq3 hg (by omega) ?_);obtain ⟨o1,o2,_⟩:=ord Fin fun w' O' s1 s2 s3=>hF w' O' s1 s2;rw [qd];exact ⟨o1,o2,trivial⟩
theorem Parse_spec (s:LU) (hF:Forms w) (hM:Mk w)
  (h:∀ a n c w',n=(qki s).1.len→SlF (fun _=>True) w' a n (qki s).1→Ext w w'→R (.returned (.tuple ⟨[lV a n c,iV (qki s).2]⟩)) w'):Calls prog qg2 ⟨[sV s]⟩ w R:=by
 apply qrk;obtain ⟨hT,hll⟩:=scan_small s;refine Scan_spec s hM fun a n c w3 hn hO e3=>⟨_,_,_,_,rfl,?_⟩;have hL:=OwnL.out hO;refine qb (fun g=>?_) (fun g=>?_)
 ·have hp:qki s=(.nil,(scanF s).2):=by unfold qki;rw [if_pos g]
  rw [hp] at h;exact h none 0 0 w3 rfl (SlF.nil _) e3
 refine Nested_spec (scanF s).1 hL hT (hM.ext e3) fun w7 e7=>⟨_,rfl,?_⟩;have E7:=qa e3 e7;have hL7:=hL.ext e7;refine qb (fun g1=>?_) (fun g1=>?_)
 ·have hp:qki s=(.nil,nestX (scanF s).1):=by unfold qki;rw [if_neg g,if_pos g1]
  rw [hp] at h;exact h none 0 0 w7 rfl (SlF.nil _) E7
 have hne:nestX (scanF s).1=0:=Classical.not_not.1 g1;have hp:qki s=if qab (treeT ((scanF s).1.map tkX))≠0 then (.nil,qab (treeT ((scanF s).1.map tkX))) else (treeT ((scanF s).1.map tkX),0):=by unfold qki;rw [if_neg g,if_neg g1]
 have hck:chkX (scanF s).1=0:=by
  unfold nestX at hne;split at hne
  ·cases hne
  ·rename_i hc;exact Classical.not_not.1 hc
 have htk:=q7y hck;obtain ⟨t1,t2⟩:=tree_inv hne;obtain ⟨fr,u1,u2,u3⟩:=qzk (scanF s).1 init0 trivial htk (by
  unfold nestX at hne;rw [if_neg (by rw [hck];simp)] at hne;exact hne)
 have htree:treeT ((scanF s).1.map tkX)=fr.f:=by unfold treeT;rw [u1]
 have hsz:fr.f.size≤65536:=by
  rw [htree] at t1 t2;rw [← q58 t1,t2];have:wantT ((scanF s).1.map tkX)≤((scanF s).1.map tkX).length:=List.length_filter_le _ _;rw [length_map] at this;omega
 rw [hp,htree] at h;generalize hLL:(scanF s).1=L at *;refine qg fun b9 w10 hb9 B9 e10 s10=>?_;have z10:=e10.size;refine ⟨fun oa on oc t W m=>∃ (k:Nat) (st:List Fr) (O:NP),t=k∧k≤n∧m=n - k∧st=((L.map tkX).take k).foldl stepP init0∧st≠[]∧st.length≤k + 1∧(∀ f∈st,f.f.len≤k + 1)∧StAt 56 w7.heap.size W oa on oc st O∧Ext w7 W,⟨_,0,init0,_,rfl,by omega,rfl,rfl,by simp,by simp,fun f hf=>by rw [mem_singleton.1 hf];simp,st_init B9 (by omega),e10⟩,?_⟩;rintro oa on oc _ W m ⟨k,st,O,rfl,hk,rfl,hst,hne0,hsl,hfl,hS,he⟩ _;have zW:=he.size;refine qb (fun hlt=>?_) (fun hge=>?_)
 ·have hkL:k < L.length:=by omega
  obtain ⟨q,hq,c0,c1,c2,c3⟩:=get_lx (hL7.ext he) hkL;have hx:=q6d hkL;have htx:=htk L[k] (getElem_mem hkL);have hstep:((L.map tkX).take (k + 1)).foldl stepP init0=stepP st (tkX L[k]):=by
   rw [take_succ_eq_append_getElem (by rw [length_map];exact hkL),List.foldl_append,← hst];simp
  have hls:=step_len (x:=tkX L[k]) hsl hfl;have hne':=step_ne hne0 (tkX L[k]);have next:∀ oa' on' oc' O' v,StAt 56 w7.heap.size v oa' on' oc' (stepP st (tkX L[k])) O'→Ext w7 v→∃ m40:Nat,m40 < n - k∧∃ (k':Nat) (st:List Fr) (O:NP),i64.wrap ((k:Int) + 1)=k'∧k'≤n∧m40=n - k'∧st=((L.map tkX).take k').foldl stepP init0∧st≠[]∧st.length≤k' + 1∧(∀ f∈st,f.f.len≤k' + 1)∧StAt 56 w7.heap.size v oa' on' oc' st O∧Ext w7 v:=by
   intro oa' on' oc' O' v h1 h2;exact ⟨n - (k + 1),by omega,k + 1,_,O',by rw [qj (by omega)],by omega,rfl,hstep.symm,hne',hls.1,hls.2,h1,h2⟩
  refine hq _ ⟨_,c0,_,c1,_,c2,_,c3,?_⟩;refine qw rfl one4 fun b22 w24 hb22 B22 e24 s24=>?_;obtain ⟨d0,d1,d2,d3⟩:=blk4x (x:=L[k]) B22;have E24:=qa he e24;have S24:=hS.ext e24;have EW:∀ v,Ext w24 v→Ext w v:=fun v ev=>qa E7 (qa E24 ev);have FW:∀ v,Ext w24 v→Forms v:=fun v ev=>hF.ext (EW v ev);have MW:∀ v,Ext w24 v→Mk v:=fun v ev=>hM.ext (EW v ev);have z24:=e24.size;generalize hxk:L[k]=x at *;refine ⟨_,d0,qb (fun g2=>?_) (fun g2=>qb (fun g3=>?_) (fun g3=>?_))⟩
  ·
   have hs2:stepP st (tkX x)=⟨headF (tkX x),.nil⟩ :: st:=by unfold stepP;rw [if_pos (show (tkX x).k=2 from g2)]
   rw [hs2] at next
   refine ⟨_,d0,_,d1,_,d2,_,d3,?_⟩;refine q5l x htx (by omega) (by omega) (FW _ bR) (MW _ bR) fun w31 e31=>⟨_,_,_,_,_,_,rfl,?_⟩;have z31:=e31.size;have hon:on=st.length:=hS.1;refine StAt.push qa8 (S24.ext e31) (by omega) (headF (tkX x)) (by omega) (by omega) fun a' c' w' o1 o2=>?_;exact next _ _ _ _ _ o1 (qi (qa E24 e31) o2 fun j hj=>(hS.bk hj).1)
  ·
   cases st with
   | nil=>exact absurd rfl hne0
   | cons f2 st' =>
    cases st' with
    | nil =>
     have hon:on=1:=hS.1;have hs2:stepP [f2] (tkX x)=[f2]:=by unfold stepP;rw [if_neg (show ¬ (tkX x).k=2 from g2),if_pos (show (tkX x).k=3 from g3)]
     rw [hs2] at next
     rw [hon,show ((1:Nat):Int) - 1=((0:Nat):Int) by omega,qo (by omega)];refine qb (fun hh=>absurd hh (by omega)) (fun _=>?_);exact next oa 1 oc O w24 (hon ▸ S24) E24
    | cons f1 r =>
     have hon:on=r.length + 2:=hS.1;have hs2:stepP (f2 :: f1 :: r) (tkX x)=f1.add f2.h f2.f :: r:=by unfold stepP;rw [if_neg (show ¬ (tkX x).k=2 from g2),if_pos (show (tkX x).k=3 from g3)]
     rw [hs2] at next
     have hfl1:=hfl f1 (by simp);have hfl2:=hfl f2 (by simp);simp only [length_cons] at hsl;have i1:i64.wrap ((on:Int) - 1)=((r.length + 1:Nat):Int):=by rw [qo (by omega)];omega
     have i2:i64.wrap (((r.length + 1:Nat):Int) - 1)=(r.length:Int):=by rw [qo (by omega)];omega
     rw [i1,i2];refine qb (fun _=>?_) (fun hh=>absurd (by omega) hh);intro K41 hK41;have k41:∀ (b:Bool) (v:World),Ext w24 v→K41 b v:=by
      intro b v ev;refine hK41 _ _ fun _=>?_;have Sd:=(S24.ext ev).ext (qn v);have Ed:=qa (qa E24 ev) (qn v);have zd:=Ed.size;have hcap:=st_cap Sd;obtain ⟨p2,q2,O1,O',S1,hsl2,hd1,hs1,hs1',g,hg,x0,x1,x2,x3⟩:=Sd.pop;obtain ⟨g',pa,pc,_,hg',_,_,_,_,y3,_,_⟩:=S1.top;obtain rfl:g'=g:=by rw [hg] at hg';simpa using hg'.symm
      simp only [length_cons] at x0 x1 x2 x3;have fin:∀ w' O'',StAt 56 w7.heap.size w' oa (f1 :: r).length oc (f1.add f2.h f2.f :: r) O''→Ext w7 w'→sls oa oc 0 ((r.length + 1:Nat):Int) 4 fun a60 a60n a60c=>∃ m40:Nat,m40 < n - k∧∃ (k':Nat) (st:List Fr) (O:NP),i64.wrap ((k:Int) + 1)=k'∧k'≤n∧m40=n - k'∧st=((L.map tkX).take k').foldl stepP init0∧st≠[]∧st.length≤k' + 1∧(∀ f∈st,f.f.len≤k' + 1)∧StAt 56 w7.heap.size w' a60 a60n a60c st O∧Ext w7 w':=by
       intro w' O'' h1 h2;refine sls_cut (by omega) (fun p hp=>by rw [hg] at hp;rw [← Option.some.inj hp];rfl) ?_;exact next oa (r.length + 1) oc O'' w' h1 h2
      have ex:∀ {W' w':World},Ext w7 W'→Chg (fun k=>Sh.bk oa k∨O' k) W' w'→Ext w7 w':=fun {W' w'} h1 h2=>qi h1 h2 fun j hj=>hj.elim (fun hb=>(Sd.bk hb).1) (fun ho=>(S1.own ho).1);unfold drw;cases b with
      | true =>
       rw [br_t];refine qq3 hg (by omega) ⟨_,_,_,by show _=_;rw [qd];exact y3,qq3 hg (i:=r.length + 1) (by omega) ⟨_,by show _=_;rw [qd,Nat.add_zero];exact x0,_,by show _=_;rw [qd];exact x1,_,by show _=_;rw [qd];exact x2,_,_,_,by show _=_;rw [qd];exact x3,⟨?_,trivial⟩⟩⟩;refine qg fun bz W' hbz Bz ez sz=>⟨?_,trivial⟩;refine StAt.grow qa8 (S1.ext ez) (by omega) Bz rfl one4n (hd:=f2.h) (ps:=f2.f) (a':=p2) (c':=q2) (O2:=O1) (hsl2.ext ez) (fun j hj=>⟨⟨(hd1 j hj).1.1,by have:=(hd1 j hj).1.2;omega⟩,(hd1 j hj).2⟩) (by omega) (by omega) hg (by rw [← y3];exact qp y3 ez ▸ y3.symm ▸ rfl) fun a1 c1 w2 qq hqq ord=>?_;refine qq3 hg (by omega) ⟨?_,trivial⟩;rw [qd];exact (ord _ fun w' O'' s1 s2 s3=>fin w' O'' s1 (ex (qa Ed ez) s2)).2.2.1
      | false =>
       rw [br_f];refine qq3 hg (by omega) ⟨_,_,_,by show _=_;rw [qd];exact y3,qq3 hg (i:=r.length + 1) (by omega) ⟨_,by show _=_;rw [qd,Nat.add_zero];exact x0,_,by show _=_;rw [qd];exact x1,_,by show _=_;rw [qd];exact x2,_,_,_,by show _=_;rw [qd];exact x3,⟨?_,trivial⟩⟩⟩;refine qg fun bz W' hbz Bz ez sz=>⟨?_,trivial⟩;refine StAt.grow qa8 (S1.ext ez) (by omega) Bz rfl one4n (hd:=f2.h) (ps:=f2.f) (a':=p2) (c':=q2) (O2:=O1) (hsl2.ext ez) (fun j hj=>⟨⟨(hd1 j hj).1.1,by have:=(hd1 j hj).1.2;omega⟩,(hd1 j hj).2⟩) (by omega) (by omega) hg (qp y3 ez) fun a1 c1 w2 qq hqq ord=>?_;refine qq3 hg (by omega) ⟨?_,trivial⟩;rw [qd];exact (ord _ fun w' O'' s1 s2 s3=>fin w' O'' s1 (ex (qa Ed ez) s2)).2.2.2 rfl
     unfold drw;have ed:=qn w24;refine ⟨qg fun b79 w80 hb79 B79 e80 s80=>⟨?_,?_,trivial⟩,trivial⟩
     ·refine qr B79 rfl fun w81 B81 c81 s81=>⟨qr B81 rfl fun w82 B82 c82 s82=>⟨_,by show _=_;rw [B82.cell];rfl,?_⟩,trivial⟩;exact k41 _ _ (qaz (qaz (qa ed e80) c81 (by have:=ed.size;omega)) c82 (by have:=ed.size;omega))
     ·refine qr B79 rfl fun w81 B81 c81 s81=>⟨qr B81 rfl fun w82 B82 c82 s82=>⟨_,by show _=_;rw [B82.cell];rfl,?_⟩,trivial⟩;exact k41 _ _ (qaz (qaz (qa ed e80) c81 (by have:=ed.size;omega)) c82 (by have:=ed.size;omega))
  ·
   cases st with
   | nil=>exact absurd rfl hne0
   | cons f r =>
    have hon:on=r.length + 1:=hS.1;have hs2:stepP (f :: r) (tkX x)=f.add (headF (tkX x)) .nil :: r:=by unfold stepP;rw [if_neg (show ¬ (tkX x).k=2 from g2),if_neg (show ¬ (tkX x).k=3 from g3)]
    rw [hs2] at next
    have hfl1:=hfl f (by simp);simp only [length_cons] at hsl;have i1:i64.wrap ((on:Int) - 1)=(r.length:Int):=by rw [qo (by omega)];omega
    rw [i1];unfold drw;have ed:=qn w24;have Sd:=S24.ext ed;have Ed:=qa E24 ed;have zd:=Ed.size;obtain ⟨g,pa,pc,_,hg,_,_,_,_,y3,_,_⟩:=Sd.top;have y3':w24.drew.cell? ((⟨g,r.length * 4,none⟩:Addr).add 3)=some (lV pa f.f.len pc):=by rw [qd];exact y3
    have ap:∀ (W':World) (bz:Nat),Ext w24.drew W'→Blk W' bz (qa6 ⟨0,[],0⟩ none 0 0) 56→app prog [43,43] 43 (lV pa f.f.len pc) (lV (some ⟨bz,0,none⟩) 1 1) W' fun a1 n1 c1 w2=>idx a1 n1 (f.f.len:Int) 4 fun p5=>idx oa on (r.length:Int) 4 fun p6 =>
      (stL w2 p5 0 (qa6 (headF (tkX x)) none 0 0) fun w7'=>(stL w7' (p6.add 3) 0 [lV a1 n1 c1] fun v=>∃ m40:Nat,m40 < n - k∧∃ (k':Nat) (st:List Fr) (O:NP),i64.wrap ((k:Int) + 1)=k'∧k'≤n∧m40=n - k'∧st=((L.map tkX).take k').foldl stepP init0∧st≠[]∧st.length≤k' + 1∧(∀ f∈st,f.f.len≤k' + 1)∧StAt 56 w7.heap.size v oa on oc st O∧Ext w7 v)∧True) ∧
      (stL w2 (p6.add 3) 0 [lV a1 n1 c1] fun w7'=>(stL w7' p5 0 (qa6 (headF (tkX x)) none 0 0) fun v=>∃ m40:Nat,m40 < n - k∧∃ (k':Nat) (st:List Fr) (O:NP),i64.wrap ((k:Int) + 1)=k'∧k'≤n∧m40=n - k'∧st=((L.map tkX).take k').foldl stepP init0∧st≠[]∧st.length≤k' + 1∧(∀ f∈st,f.f.len≤k' + 1)∧StAt 56 w7.heap.size v oa on oc st O∧Ext w7 v)∧True)∧True:=by
     intro W' bz eW hz;have zz:=eW.size;refine app_def (Sd.ext eW) (by omega) hg (qp y3 eW) hz (headF (tkX x)) (by omega) (fun w' O' s1 s2=>?_) rfl;exact next oa on oc O' w' s1 (qi (qa Ed eW) s2 fun j hj=>hj.elim (fun hb=>(Sd.bk hb).1) (fun ho=>(Sd.own ho).1))
    have nd:∀ (W':World),Ext w24.drew W'→∀ {K:EP},(∀ v,Ext W' v→K (.returned (.agg ⟨qa6 (headF (tkX x)) none 0 0⟩)) v)→Calls prog qeo ⟨[aggX x]⟩ W' K:=fun W' eW {K} hK =>
     q5l x htx g3 (by omega) (FW _ (qa ed eW)) (MW _ (qa ed eW)) hK
    have rr:Ext w24.drew w24.drew:=bR;refine qq3 hg (by omega) ⟨_,qp d0 ed,_,qp d1 ed,_,qp d2 ed,_,qp d3 ed,?_⟩;refine ⟨⟨_,_,_,y3',?_,?_,trivial⟩,?_,?_,trivial⟩
    ·exact nd _ rr fun v ev=>⟨_,_,_,_,_,_,rfl,qg fun bz W' hbz Bz ez sz=>⟨ap W' bz (qa ev ez) Bz,trivial⟩,trivial⟩
    ·exact qg fun bz W' hbz Bz ez sz=>⟨nd _ ez fun v ev=>⟨_,_,_,_,_,_,rfl,ap v bz (qa ez ev) (Bz.ext ev),trivial⟩,trivial⟩
    ·exact nd _ rr fun v ev=>⟨_,_,_,_,_,_,rfl,_,_,_,qp y3' ev,qg fun bz W' hbz Bz ez sz=>⟨ap W' bz (qa ev ez) Bz,trivial⟩,trivial⟩
    ·exact qg fun bz W' hbz Bz ez sz=>⟨nd _ ez fun v ev=>⟨_,_,_,_,_,_,rfl,_,_,_,qp y3' (qa ez ev),ap v bz (qa ez ev) (Bz.ext ev),trivial⟩,trivial⟩
 ·have hkn:k=L.length:=by omega
  have hst':st=[fr]:=by rw [hst,hkn,take_of_length_le (by rw [length_map];exact Nat.le_refl _),u1]
  subst hst';have hon:on=1:=hS.1;obtain ⟨g,pa,pc,O1,hg,_,_,_,_,y3,hG,_⟩:=hS.top;have hi:idx oa on 0 4=idx oa on ((0:Nat):Int) 4:=rfl;rw [hi];refine qq3 hg (i:=0) (by omega) ⟨_,_,_,by show _=_;rw [qd];exact y3,?_⟩;have hsl:=hG.out;refine qdb fr.f (by unfold small;omega) hsl (hF.ext (qa E7 he)) fun w172 e172=>⟨_,rfl,qb (fun gc=>?_) (fun gc=>?_)⟩
  ·rw [if_pos gc] at h;exact h none 0 0 w172 rfl (SlF.nil _) (qa (qa E7 he) e172)
  ·rw [if_neg gc] at h;exact h _ _ _ w172 rfl ((hsl.ext e172).imp fun _ _ _=>trivial) (qa (qa E7 he) e172)
end
def smF:Fo:=.cons 4 [111,110,101] 0 .nil (.cons 1 [100,101] 0 .nil (.cons 8 [] 1 (.one 1 [117,115] 0 .nil) (.cons 4 [116,119,111] 0 .nil (.one 1 [101,116] 0 .nil))))
def smS:LU:=[60,115,101,99,32,111,110,101,47,62,100,101,60,97,100,100,32,49,62,117,115,60,47,97,100,100,62,60,115,101,99,32,116,119,111,47,62,101,116]
def smL:List Wt:=[([65],smF)]
def scF (l:List (LU)):Fo:=l.foldr (fun s f=>.cons 4 s 0 .nil f) .nil
def scL:List Wt:=[([65],scF [[111,110,101],[116,104,114,101,101]]),([66],scF [[116,119,111],[116,104,114,101,101]])]
set_option maxRecDepth 100000
theorem sm_wit:witE ([65],smF)=0:=by decide +kernel
theorem sm_srcE:srcE smL=0:=by decide +kernel
theorem sm_src:allS smL 0=[([65,42],0,0),([65,49],0,1)]:=by decide +kernel
theorem sm_sec:secs smF=[[111,110,101],[116,119,111]]:=by decide +kernel
theorem sc_ordE:ordE scL=0:=by decide +kernel
theorem sc_ord:ordR scL=[[111,110,101],[116,119,111],[116,104,114,101,101]]:=by decide +kernel
set_option maxRecDepth 100000
theorem sm_parse:(qki smS).1.beq smF=true:=by decide +kernel
theorem sm_tokE:tokWE smL [] [111,110,101]=0:=by decide +kernel
theorem sm_tokS:tokWS smL [] [111,110,101]=[[65,42],[65,49]]:=by decide +kernel
theorem sm_tokT:(tokWT smL [] [111,110,101]).map (fun l=>l.map (·.t))=[[[100,101]],[[100,101,117,115]]]:=by decide +kernel
theorem scF_snoc (l:List Nm) (s:Nm):scF (l++[s])=(scF l).app (.one 4 s 0 .nil):=by
 induction l with
 | nil=>rfl
 | cons x l ih=>show Fo.cons 4 x 0 .nil (scF (l++[s]))=_;rw [ih];rfl
theorem scF_len (l:List Nm):(scF l).len=l.length:=by
 induction l with
 | nil=>rfl
 | cons x l ih=>show (scF l).len + 1=_;rw [ih];rfl
theorem qu2 {α:Type} {E:Enc α} {w:World} {b:Nat} {cs:LV} {T:TypeId} (hb:Blk w b cs T) (l:List α) (h:E.row l=cs) {n:Nat} (hn:n=l.length):RowAt E (fun k=>k=b) w (some ⟨b,0,none⟩) n l :=
 ⟨hn,.inr ⟨b,0,rfl,rfl,hb.lt,fun j v hj=>by show _=_;rw [Nat.zero_add,hb.cell,← h];exact hj⟩⟩
theorem qq6 {S:NP} {w:World} {b:Nat} {cs:LV} {T:TypeId} (hb:Blk w b cs T) (hcs:∀ (j:Nat) (k:Int),cs[j]?≠some (Value.int .i64 k)):∀ {f:Fo} {us:LV},FoC S w f us→(∀ {a},At S w a us→At (fun k=>S k∧k≠b) w a us)∧FoC (fun k=>S k∧k≠b) w f us
 | .nil,us,h=>⟨fun _=>.inl h,h⟩
 | .cons k t n ps r,vs,⟨a,c,us,vs',h1,h2,h3,h4⟩=>by
  refine ⟨fun {a'} hat=>?_,a,c,us,vs',h1,(qq6 hb hcs h3).1 h2,(qq6 hb hcs h3).2,(qq6 hb hcs h4).2⟩;rcases hat with hat | ⟨b',o,e,hS,hl,hc⟩
  ·exact .inl hat
  ·refine .inr ⟨b',o,e,⟨hS,fun hh=>?_⟩,hl,hc⟩;subst hh;have:=hc 0 (iV k) (by rw [h1];rfl)
   rw [hb.cell] at this;exact hcs _ _ this
theorem slF_avoid {S:NP} {w:World} {b:Nat} {cs:LV} {T:TypeId} {a:OA} {n:Nat} {f:Fo} (h:SlF S w a n f) (hb:Blk w b cs T) (hcs:∀ (j:Nat) (k:Int),cs[j]?≠some (Value.int .i64 k)):SlF (fun k=>S k∧k≠b) w a n f:=by
 obtain ⟨h1,us,h2,h3⟩:=h;obtain ⟨g1,g2⟩:=qq6 hb hcs h3;exact ⟨h1,us,g1 h2,g2⟩
theorem q5t {f:Fo} (h:qi0 f=false):f.size≤4100:=by
 have hl:=f.len_le_size;unfold qi0 at h;split at h
 ·rw [Bool.or_eq_false_iff] at h;have:=h.1;simp at this;omega
 ·rw [Bool.or_eq_false_iff] at h;have:=h.1;simp at this;omega
section
variable {R:EP} {w:World}
theorem qkb (hF:Forms w) (hM:Mk w) (h:∀ a c w',SlF (fun _=>True) w' a smF.len smF→Ext w w'→R (.returned (.agg ⟨[sV ([65]),lV a smF.len c]⟩)) w'):Calls prog qns ⟨[]⟩ w R:=by
 apply q3q;refine qg fun b1 w2 hb1 B1 e2 s2=>?_;refine Parse_spec smS (hF.ext e2) (hM.ext e2) fun a n c w4 hn hS e4=>⟨_,_,_,_,rfl,?_⟩;have hp:(qki smS).1=smF:=(Fo.beq_iff _ _).1 sm_parse;rw [hp] at hS hn;subst hn;have hS':=slF_avoid hS (B1.ext e4) (fun j k=>by rcases j with _ | _ | j <;> simp);refine qaf (B1.ext e4) (by simp) one2 fun w7 q1 q2 q3 q4 q5 q6=>?_;obtain ⟨y0,y1⟩:=blk2w (show Blk w7 b1 [sV ([65]),lV a smF.len c] 45 from q1);refine ⟨_,y0,_,_,_,y1,h a c w7 ?_ ?_⟩
 ·exact (hS'.chg (T:=fun k=>k=b1) ⟨q4,q5,q6,by omega,fun k _ hk=>q2 k hk⟩ fun j hj=>hj.2).imp fun _ _ _=>trivial
 ·exact qi (qa e2 e4) (S:=fun k=>k=b1) ⟨q4,q5,q6,by omega,fun k _ hk=>q2 k hk⟩ fun k hk=>by omega
theorem qm8 {S:NP} {a:OA} {n c:Nat} (sg:Nm) (l:List Nm) (hl:l.length≤1000) (hR:RowAt Sh.encStr S w a n l) (h:∀ a' c' w',SlF (fun k=>w.heap.size≤k) w' a' (scF l).len (scF l)→Ext w w'→R (.returned (.agg ⟨[sV sg,.slice a' (scF l).len c']⟩)) w') :
  Calls prog qjn ⟨[sV sg,lV a n c]⟩ w R:=by
 apply qw6;have hn:=hR.1;refine qg fun b3 w4 hb3 B3 e4 s4=>?_;refine qw rfl one2 fun b5 w7 hb5 B5 e7 s7=>?_;have E7:=qa e4 e7;refine ⟨fun i W m=>∃ (k:Nat) (oa:OA) (oc:Nat),i=k∧k≤n∧m=n - k∧Blk W b5 [sV sg,lV oa k oc] 45∧OwnF 56 (fun _=>False) w7.heap.size W oa k oc (scF (l.take k))∧Blk W b3 [sV ([]),lV none 0 0] 45∧Ext w W∧w7.heap.size≤W.heap.size,
  ⟨_,0,none,0,rfl,by omega,rfl,B5,OwnF.nil _,B3.ext e7,E7,Nat.le_refl _⟩,?_⟩
 rintro _ W m ⟨k,oa,oc,rfl,hk,rfl,C5,hO,C3,he,hz⟩ _;refine qb (fun hlt=>?_) (fun hge=>?_)
 ·have hkl:k < l.length:=by omega
  obtain ⟨q,hq,c0⟩:=qb0 (hR.ext he) hkl;have htk:l.take (k + 1)=l.take k++[l[k]]:=take_succ_eq_append_getElem hkl;refine hq _ ⟨_,c0,_,_,_,(blk2w C5).2,?_⟩;refine OwnF.push (P:=prog) (k:=4) (s:=l[k]) (m:=0) (a':=none) (c':=0) (ps:=.nil) qa8 hO (by omega) (SlF.nil none) (by omega) (by omega) fun a18 n18 c18 w19 ho hc=>?_;have hn18:n18=k + 1:=by rw [ho.len,Fo.len_app,scF_len,length_take];simp [Fo.one];omega
  subst hn18;have D5:=hc.blk C5 (fun hh=>by have:=hO.bk hh;omega);have D3:=hc.blk C3 (fun hh=>by have:=hO.bk hh;omega);rw [qd];refine qaf D5 (by simp) (by intro u hu;simp only [mem_singleton] at hu;subst hu;rfl) fun v r1 r2 r3 r4 r5 r6=>?_;simp only [putAt,List.set] at r1;have hcv:Chg (· = b5) w19 v:=⟨r4,r5,r6,by omega,fun k _ hk=>r2 k hk⟩
  refine ⟨n - (k + 1),by omega,k + 1,a18,c18,by rw [qj (by omega)],by omega,rfl,r1,?_,hcv.blk D3 (by omega),?_,by have:=hc.size;omega⟩
  ·rw [htk,scF_snoc];exact ho.chg hcv fun j hj=>⟨fun h=>h,by omega⟩
  ·exact qi (qi he hc fun j hj=>by have:=hO.bk hj;have:=E7.size;omega) hcv fun j hj=>by omega
 ·have:k=n:=by omega
  subst this;rw [take_of_length_le (by omega)] at hO;obtain ⟨y0,y1⟩:=blk2w C5;refine ⟨_,y0,_,_,_,y1,?_⟩;refine qaf C3 (by simp) one2 fun v r1 r2 r3 r4 r5 r6=>?_;have hcv:Chg (· = b3) W v:=⟨r4,r5,r6,by omega,fun k _ hk=>r2 k hk⟩
  obtain ⟨z0,z1⟩:=blk2w (show Blk v b3 [sV sg,lV oa k oc] 45 from r1);refine ⟨_,z0,_,_,_,z1,?_⟩;have hkk:k=(scF l).len:=by rw [scF_len];exact hn
  have hS:=(hO.out.chg hcv fun j hj hh=>by rcases hj with hj | hj;exact hj;omega).imp (S':=fun j=>w.heap.size≤j) fun j hj _=>by
   have:=E7.size
   rcases hj with hj | hj
   ·exact hj.elim
   ·omega
  rw [hkk] at hS ⊢;exact h oa oc v hS (qi he hcv fun j hj=>by omega)
theorem awake16_spec (hF:Forms w) (hM:Mk w) (h:∀ w',Ext w w'→R (.returned (bV true)) w'):Calls prog qjc ⟨[]⟩ w R:=by
 apply q8r;have hsm:small smF:=by unfold small;decide
 have hsmL:∀ x∈smL,small x.2:=fun x hx=>by rw [mem_singleton.1 hx];exact hsm
 refine qkb hF hM fun a1 c1 w2 h1 e2=>⟨_,_,_,_,rfl,?_⟩;refine qg fun b5 w6 hb5 B5 e6 s6=>?_;have E6:=qa e2 e6;refine qlh smL hsmL (hF.ext E6) (wit_blk (x:=([65],smF)) B5 (h1.ext e6)) fun xa xn xc w8 hX e8=>⟨_,_,_,_,rfl,?_⟩;have E8:=qa E6 e8;refine qkb (hF.ext E8) (hM.ext E8) fun a2 c2 w12 h2 e12=>⟨_,_,_,_,rfl,?_⟩;have E12:=qa E8 e12;refine q9c ([65],smF) hsm (hF.ext E12) h2 fun ya yn yc w16 hY e16=>⟨_,_,_,_,rfl,?_⟩;have E16:=qa E12 e16;refine qkb (hF.ext E16) (hM.ext E16) fun a3 c3 w20 h3 e20=>⟨_,_,_,_,rfl,?_⟩;have E20:=qa E16 e20;refine qg fun b23 w24 hb23 B23 e24 s24=>?_;have E24:=qa E20 e24;refine qvt smL [] [111,110,101] hsmL (hF.ext E24) (wit_blk (x:=([65],smF)) B23 (h3.ext e24)) smallR_nil (rules_none (fun _=>True) _) fun sa sn sc ta tn tc w26 hS hT e26=>⟨_,_,_,_,_,_,_,rfl,?_⟩;have E26:=qa E24 e26;refine qg fun b30 w31 hb30 B30 e31 s31=>?_;have E31:=qa E26 e31;refine qm8 [65] [[111,110,101],[116,104,114,101,101]] (by decide) (qu2 B30 [[111,110,101],[116,104,114,101,101]] rfl rfl) fun a4 c4 w33 h4 e33=>⟨_,_,_,_,rfl,?_⟩;have E33:=qa E31 e33;refine qg fun b36 w37 hb36 B36 e37 s37=>?_;have E37:=qa E33 e37;refine qm8 [66] [[116,119,111],[116,104,114,101,101]] (by decide) (qu2 B36 [[116,119,111],[116,104,114,101,101]] rfl rfl) fun a5 c5 w39 h5 e39=>⟨_,_,_,_,rfl,?_⟩;have E39:=qa E37 e39;refine qg fun b42 w43 hb42 B42 e43 s43=>?_;have E43:=qa E39 e43;have hsc:SlW (fun _=>True) w43 (some ⟨b42,0,none⟩) 2 scL:=by
  refine ⟨rfl,_,.inr ⟨b42,0,rfl,trivial,B42.lt,fun j v hj=>by show _=_;rw [Nat.zero_add,B42.cell];exact hj⟩,a4,c4,_,rfl,?_,a5,c5,[],rfl,?_,rfl⟩
  ·exact (h4.ext (qa e37 (qa e39 e43))).imp fun _ _ _=>trivial
  ·exact (h5.ext e43).imp fun _ _ _=>trivial
 have hscs:∀ x∈scL,small x.2:=fun x hx=>by
  unfold scL at hx;simp only [mem_cons,not_mem_nil,or_false] at hx;rcases hx with rfl | rfl <;> (unfold small;decide)
 refine q5w scL hscs (hF.ext E43) hsc fun oa on oc w45 hO e45=>⟨_,_,_,_,rfl,?_⟩;have E45:=qa E43 e45;have e0:srcE smL=0:=sm_srcE;have e1:secE ([65],smF)=0:=by unfold secE;rw [if_pos sm_wit]
 have r0:srcR smL=[([65,42],0,0),([65,49],0,1)]:=by unfold srcR;rw [if_pos e0];exact sm_src
 have r1:secR ([65],smF)=[[111,110,101],[116,119,111]]:=by unfold secR;rw [if_pos sm_wit];exact sm_sec
 have r2:tokWS smL [] [111,110,101]=[[65,42],[65,49]]:=sm_tokS;rw [e0,e1,sm_tokE,sc_ordE];rw [r0] at hX;rw [r1] at hY;rw [r2] at hS;rw [sc_ord] at hO;have hT45:=hT.ext (qa e31 (qa e33 (qa e37 (qa e39 (qa e43 e45)))));obtain ⟨t0,t1,ht,ht0,ht1⟩:∃ t0 t1:Tok,tokWT smL [] [111,110,101]=[[t0],[t1]]∧t0.t=[100,101]∧t1.t=[100,101,117,115]:=by
  have:=sm_tokT
  revert this;generalize tokWT smL [] [111,110,101]=z;intro hz
  match z,hz with
  | [[t0],[t1]],hz =>
   simp only [List.map_cons,List.map_nil,List.cons.injEq,and_true] at hz;exact ⟨t0,t1,rfl,hz.1,hz.2⟩
  | [],hz=>simp at hz
  | [_],hz=>simp at hz
  | [[],_],hz=>simp at hz
  | [_ :: _ :: _,_],hz=>simp at hz
  | [[_],[]],hz=>simp at hz
  | [[_],_ :: _ :: _],hz=>simp at hz
  | _ :: _ :: _ :: _,hz=>simp at hz
 rw [ht] at hT45;have htn:tn=2:=hT45.1;subst htn;intro K48 hK48;obtain ⟨q0,a0,c0,hq0,m0,hr0⟩:=hT45.get (i:=0) (o:=[t0]) rfl;obtain ⟨q1,a1',c1',hq1,m1,hr1⟩:=hT45.get (i:=1) (o:=[t1]) rfl;refine qb (fun g=>absurd rfl g) (fun _=>qb (fun g=>absurd rfl g) (fun _=>hq0 _ ⟨_,_,_,m0,qb (fun g=>absurd rfl g) (fun _=>hq1 _ ⟨_,_,_,m1,qb (fun g=>absurd rfl g) (fun _=>?_)⟩)⟩));refine hK48 w45 fun _=>?_;refine qg fun b50 w51 hb50 B50 e51 s51=>?_;have eX:Ext w8 w51:=qa e12 (qa e16 (qa e20 (qa e24 (qa e26 (qa e31 (qa e33 (qa e37 (qa e39 (qa e43 (qa e45 e51))))))))));have eY:Ext w16 w51:=qa e20 (qa e24 (qa e26 (qa e31 (qa e33 (qa e37 (qa e39 (qa e43 (qa e45 e51))))))));have eZ:Ext w26 w51:=qa e31 (qa e33 (qa e37 (qa e39 (qa e43 (qa e45 e51)))));have hXR:=(OwnL.out (E:=encSr) hX).ext eX;refine EqualSr_spec _ [([65,42],0,0),([65,49],0,1)] hXR (qu2 B50 [([65,42],0,0),([65,49],0,1)] rfl rfl) (by have:=hXR.1;simp at this;omega) fun w53 e53=>⟨_,rfl,?_⟩;rw [decide_eq_true rfl,br_t];refine qg fun b55 w56 hb55 B55 e56 s56=>?_;have e5356:=qa e53 e56;refine qis _ [[111,110,101],[116,119,111]] ((OwnL.out (E:=Sh.encStr) hY).ext (qa eY e5356)) (qu2 B55 [[111,110,101],[116,119,111]] rfl rfl) (by decide) fun w58 e58=>⟨_,rfl,?_⟩;rw [decide_eq_true rfl,br_t];refine qg fun b60 w61 hb60 B60 e61 s61=>?_;have e5361:=qa e5356 (qa e58 e61);refine qis _ [[65,42],[65,49]] (hS.ext (qa eZ e5361)) (qu2 B60 [[65,42],[65,49]] rfl rfl) (by decide) fun w63 e63=>⟨_,rfl,?_⟩;rw [decide_eq_true rfl,br_t];have e4563:Ext w45 w63:=qa e51 (qa e5361 e63);have hT63:=hT45.ext e4563;obtain ⟨q0,a0,c0,hq0,m0,hr0⟩:=hT63.get (i:=0) (o:=[t0]) rfl;obtain ⟨q1,a1',c1',hq1,m1,hr1⟩:=hT63.get (i:=1) (o:=[t1]) rfl;obtain ⟨p0,hp0,f0,_⟩:=qtn hr0 (i:=0) (x:=t0) rfl;obtain ⟨p1,hp1,f1,_⟩:=qtn hr1 (i:=0) (x:=t1) rfl;refine hq0 _ ⟨_,_,_,m0,hp0 _ ⟨_,f0,qb (fun _=>?_) (fun g=>absurd ht0 g)⟩⟩;refine hq1 _ ⟨_,_,_,m1,hp1 _ ⟨_,f1,qb (fun _=>?_) (fun g=>absurd ht1 g)⟩⟩;refine qg fun b73 w74 hb73 B73 e74 s74=>?_;have E63:=qa E45 e4563;refine qis _ [[111,110,101],[116,119,111],[116,104,114,101,101]] ((OwnL.out (E:=Sh.encStr) hO).ext (qa e4563 e74)) (qu2 B73 [[111,110,101],[116,119,111],[116,104,114,101,101]] rfl rfl) (by decide) fun w76 e76=>⟨_,rfl,?_⟩;rw [decide_eq_true rfl];exact h w76 (qa E63 (qa e74 e76))
end
section
variable {R:EP} {w:World}
theorem qhg (s:LU) (hs:s.length≤4611686018427387904) (h:R (.returned (bV (qad s))) w):Calls prog qls ⟨[sV s]⟩ w R:=by
 apply q0m;refine ⟨fun i W m=>∃ k:Nat,i=k∧k≤s.length∧m=s.length - k∧qad (s.take k)=true∧W=w,⟨_,0,rfl,by omega,rfl,by rw [List.take_zero];rfl,rfl⟩,?_⟩;rintro _ W m ⟨k,rfl,hk,rfl,hw,rfl⟩ _;refine qb (fun hlt=>?_) (fun hge=>?_)
 ·have hkl:k < s.length:=by omega
  refine qbi hkl ?_;refine qb6 _ ⟨_,rfl,?_⟩;have yes:(kd s[k]=1∨kd s[k]=2∨kd s[k]=3∨kd s[k]=4)→∃ m',m' < s.length - k∧∃ k':Nat,i64.wrap ((k:Int) + 1)=k'∧k'≤s.length∧m'=s.length - k'∧qad (s.take k')=true∧W=W:=fun hh =>
   ⟨s.length - (k + 1),by omega,k + 1,by rw [qj (by omega)],by omega,rfl,by rw [q9x s k hkl,hw,inn_of,decide_eq_true hh];rfl,rfl⟩
  refine qb (fun g1=>qb (fun g2=>qb (fun g3=>qb (fun g4=>?_) (fun g4=>?_)) (fun g3=>?_)) (fun g2=>?_)) (fun g1=>?_)
  ·rw [q9w s k hkl (by rw [inn_of];exact decide_eq_false (by omega))] at h;exact h
  ·exact yes (.inr (.inr (.inr (Decidable.not_not.1 g4))))
  ·exact yes (.inr (.inr (.inl (Decidable.not_not.1 g3))))
  ·exact yes (.inr (.inl (Decidable.not_not.1 g2)))
  ·exact yes (.inl (Decidable.not_not.1 g1))
 ·rw [take_of_length_le (by omega)] at hw;rw [hw] at h;exact h
theorem qwc {S:NP} {a:OA} {n c:Nat} (rs:List Rw) (hsm:qfw rs) (hR:RowAt encRw S w a n rs) (h:∀ w',Ext w w'→R (.returned (iV (ruleE rs))) w'):Calls prog qs2 ⟨[lV a n c]⟩ w R:=by
 apply q8b;have hn:=hR.1;refine qb (fun g=>?_) (fun g=>?_)
 ·have:ruleE rs=4:=by unfold ruleE;rw [if_pos (by omega)]
  rw [← this];exact h w bR
 have hE:ruleE rs=qcb rs:=by unfold ruleE;rw [if_neg (by omega)]
 rw [hE] at h;refine ⟨fun i W m=>∃ k:Nat,i=k∧k≤n∧m=n - k∧qcb (rs.take k)=0∧Ext w W,⟨_,0,rfl,by omega,rfl,rfl,bR⟩,?_⟩;rintro _ W m ⟨k,rfl,hk,rfl,hz,he⟩ _;refine qb (fun hlt=>?_) (fun hge=>?_)
 ·have hkl:k < rs.length:=by omega
  have hx:rs[k]? = some rs[k]:=by simp [hkl]
  unfold drw;have Ed:=qa he (qn W);generalize W.drew=v at *;obtain ⟨bb,o,hq,_,_,hc⟩:=(hR.ext Ed).get hx;obtain ⟨q1,q2⟩:=hsm rs[k] (getElem_mem hkl);have bad:∀ e:Int,qbg rs[k]=e→e≠0→R (.returned (iV e)) v:=fun e he1 he2=>by
   have:=qzc hkl hz (by rw [he1];exact he2)
   rw [this,he1] at h;exact h v Ed
  have go:qbg rs[k]=0→∃ m',m' < n - k∧∃ k':Nat,i64.wrap ((k:Int) + 1)=k'∧k'≤n∧m'=n - k'∧qcb (rs.take k')=0∧Ext w v:=fun e =>
   ⟨n - (k + 1),by omega,k + 1,by rw [qj (by omega)],by omega,rfl,qok hkl hz e,Ed⟩
  refine hq _ ⟨_,by show _=_;rw [qd];exact hc 0 _ rfl,hq _ ⟨_,by show _=_;rw [qd];exact hc 1 _ rfl,?_⟩⟩;generalize rs[k]=x at *;intro K12 hK12;have k12:¬ (x.1=[]∨x.2=[])→K12 v:=by
   intro n1;refine hK12 _ fun _=>?_;intro K14 hK14;have k14:¬ (64 < x.1.length∨64 < x.2.length)→K14 v:=by
    intro n2;refine hK14 _ fun _=>?_;intro K16 hK16;have k16:¬ (qad x.1=false∨qad x.2=false)→K16 v:=by
     intro n3;refine hK16 _ fun _=>?_;have fin:∀ e,(if x.1.length < x.2.length∨(x.2.length=x.1.length∧Op.bytesLess x.2 x.1=false) then (24:Int) else 0)=e→qbg x=e:=fun e he=>by unfold qbg;rw [if_neg n1,if_neg n2,if_neg n3];exact he
     refine qb (fun q=>bad 24 (fin _ (if_pos (.inl (by omega)))) (by decide)) (fun q=>qb (fun q2=>qk (fun q3=>bad 24 (fin _ (if_pos (.inr ⟨by omega,by simpa using q3⟩))) (by decide)) (fun q3=>go (fin _ (if_neg ?_)))) (fun q2=>go (fin _ (if_neg ?_))))
     ·rintro (hh | ⟨_,hh⟩)
      ·omega
      ·rw [hh] at q3;cases q3
     ·rintro (hh | ⟨hh,_⟩)
      ·omega
      ·exact q2 (by omega)
    refine qhg _ q1 ⟨_,rfl,qk (fun g=>bad 11 ?_ (by decide)) (fun g=>qhg _ q2 ⟨_,rfl,qk (fun g2=>bad 11 ?_ (by decide)) (fun g2=>k16 ?_)⟩)⟩
    ·have:qad x.1=false:=by simpa using g
     unfold qbg;rw [if_neg n1,if_neg n2,if_pos (.inl this)]
    ·have:qad x.2=false:=by simpa using g2
     unfold qbg;rw [if_neg n1,if_neg n2,if_pos (.inr this)]
    ·have h1:qad x.1=true:=by simpa using g
     have h2:qad x.2=true:=by simpa using g2
     simp [h1,h2]
   refine qb (fun g=>bad 4 ?_ (by decide)) (fun g=>qb (fun g2=>bad 4 ?_ (by decide)) (fun g2=>k14 (by omega)))
   ·unfold qbg;rw [if_neg n1,if_pos (by omega)]
   ·unfold qbg;rw [if_neg n1,if_pos (by omega)]
  refine qb (fun g=>bad 5 ?_ (by decide)) (fun g=>qb (fun g2=>bad 5 ?_ (by decide)) (fun g2=>k12 (fun hh=>hh.elim g g2)))
  ·unfold qbg;rw [if_pos (.inl g)]
  ·unfold qbg;rw [if_pos (.inr g2)]
 ·rw [take_of_length_le (by omega)] at hz;rw [hz] at h;exact h W he
theorem check14_spec {S:NP} {a:OA} {n c:Nat} (rs:List Rw) (s:LU) (hsm:qfw rs) (hR:RowAt encRw S w a n rs) (h:∀ w',Ext w w'→R (.returned (iV (chkE rs s))) w'):Calls prog qs0 ⟨[lV a n c,sV s]⟩ w R:=by
 apply q79;refine qwc rs hsm hR fun w4 e4=>⟨_,rfl,?_⟩;have H:∀ e:Int,chkE rs s=e→R (.returned (iV e)) w4:=fun e he=>by rw [← he];exact h w4 e4
 refine qb (fun g=>H 1 (by unfold chkE;rw [if_pos g])) (fun g=>qb (fun g2=>H 4 (by unfold chkE;rw [if_neg g,if_pos (by omega)])) (fun g2=>?_));refine qhg s (by omega) ⟨_,rfl,qk (fun g3=>H 11 ?_) (fun g3=>H 0 ?_)⟩
 ·unfold chkE;rw [if_neg g,if_neg (by omega),if_pos (by simpa using g3)]
 ·unfold chkE;rw [if_neg g,if_neg (by omega),if_neg (by simpa using g3)]
theorem at14_spec (s u:LU) (k:Nat) (hk:k≤s.length) (hs:s.length≤1000000000) (hu:u.length≤1000000000) (h:R (.returned (bV (hitB s u k))) w):Calls prog q52 ⟨[sV s,sV u,iV (k:Int)]⟩ w R:=by
 apply c_ref14_at
 unfold qyu
 rw [qo (by omega),show (k:Int) + (u.length:Int)=((k + u.length:Nat):Int) by omega];unfold hitB at h;refine qb (fun g=>?_) (fun g=>?_)
 ·refine qdg (by omega) (by omega) ?_;rw [decide_eq_true (show k + u.length≤s.length by omega),Bool.true_and] at h;have e:(s.take (k + u.length)).drop k=(s.drop k).take u.length:=by rw [List.drop_take];congr 1;omega
  rw [e];exact h
 ·rw [decide_eq_false (show ¬ k + u.length≤s.length by omega),Bool.false_and] at h;exact h
theorem q27 (x:Rw) (s:LU) (k:Nat) (hk:k + x.1.length≤s.length) (hs:s.length≤1000000000) (hu:x.2.length≤1000000000) (h:∀ w',Ext w w'→R (.returned (sV (putW s x k))) w'):Calls prog qlr ⟨[.agg ⟨[sV x.1,sV x.2]⟩,sV s,iV (k:Int)]⟩ w R:=by
 apply q0l;refine qg fun b w6 hb B6 e6 s6=>?_;unfold drw;have Ed:=qa e6 (qn w6);have B7:=B6.ext (qn w6);generalize w6.drew=v at *;obtain ⟨c0,c1⟩:=blk2' B7;have h00:((0:Nat):Int)=0:=rfl;rw [← h00];refine qdg (by omega) (by omega) ⟨_,c1,⟨by simp;omega,_,c0,?_⟩⟩;rw [qo (by omega),show (k:Int) + (x.1.length:Int)=((k + x.1.length:Nat):Int) by omega];refine qdg (by omega) (Nat.le_refl _) ⟨by simp;omega,?_⟩;have e:(s.take k).drop 0++x.2++(s.take s.length).drop (k + x.1.length)=putW s x k:=by unfold putW;rw [List.drop_zero,List.take_length,append_assoc]
 rw [e];exact h v Ed
theorem stepAt_head {rs:List Rw} {s:LU} {k:Nat} {j:Nat} (hj:j < rs.length) (h0:qax (rs.take j) s k=[]) (h1:hitB s rs[j].1 k=true):(qax rs s k).head? = some (putW s rs[j] k):=by
 have h2:=qnz (rs.take j) rs[j] s k;rw [← take_succ_eq_append_getElem hj,h0,if_pos h1,nil_append] at h2;have h3:=q5c (rs.take (j + 1)) (rs.drop (j + 1)) s k;rw [take_append_drop,h2] at h3;obtain ⟨t,ht⟩:=h3;rw [← ht];rfl
theorem step_found {rs:List Rw} {s x:LU} {k:Nat} (hk:k < s.length) (h0:(List.range k).flatMap (qax rs s)=[]) (h1:(qax rs s k).head? = some x):stepW rs s=some x:=by
 unfold stepW;obtain ⟨t,ht⟩:=resW_pre rs s k hk;rw [h0,nil_append] at ht;rw [← ht];cases hh:qax rs s k with
 | nil=>rw [hh] at h1;cases h1
 | cons y l=>rw [hh] at h1;exact h1
theorem step_range {rs:List Rw} {s:LU} {k:Nat} (h0:(List.range k).flatMap (qax rs s)=[]) (h1:qax rs s k=[]):(List.range (k + 1)).flatMap (qax rs s)=[]:=by
 rw [List.range_succ,List.flatMap_append,h0];simpa using h1
theorem step14_spec {S:NP} {a:OA} {n c:Nat} (rs:List Rw) (s:LU) (hln:rs.length≤64) (hr:∀ x∈rs,x.1.length≤64∧x.2.length≤64) (hs:s.length≤64) (hR:RowAt encRw S w a n rs)
  (h:∀ w',Ext w w'→R (.returned (.tuple ⟨[sV ((stepW rs s).getD s),bV (stepW rs s).isSome]⟩)) w'):Calls prog qv1 ⟨[lV a n c,sV s]⟩ w R:=by
 apply c_ref14_step;have hn:=hR.1;refine ⟨fun i W m=>∃ k:Nat,i=k∧k≤s.length∧m=s.length - k∧(List.range k).flatMap (qax rs s)=[]∧Ext w W,⟨_,0,rfl,by omega,rfl,rfl,bR⟩,?_⟩;rintro _ W m ⟨k,rfl,hk,rfl,hz,he⟩ _;refine qb (fun hlt=>?_) (fun hge=>?_)
 ·have hkl:k < s.length:=by omega
  refine ⟨fun i2 W2 m2=>∃ j:Nat,i2=j∧j≤n∧m2=n - j∧qax (rs.take j) s k=[]∧Ext w W2,⟨_,0,rfl,by omega,rfl,rfl,he⟩,?_⟩;rintro _ W2 m2 ⟨j,rfl,hj,rfl,hz2,he2⟩ _;refine qb (fun hlt2=>?_) (fun hge2=>?_)
  ·have hjl:j < rs.length:=by omega
   have hx:rs[j]? = some rs[j]:=by simp [hjl]
   obtain ⟨r1,r2⟩:=hr rs[j] (getElem_mem hjl);obtain ⟨bb,o,hq,_,_,hc⟩:=(hR.ext he2).get hx;refine hq _ ⟨_,by show _=_;rw [qd];exact hc 0 _ rfl,?_⟩;refine at14_spec s _ k (by omega) (by omega) (by omega) ⟨_,rfl,qk (fun g=>?_) (fun g=>?_)⟩
   ·refine hq _ ⟨_,by show _=_;rw [qd];exact hc 0 _ rfl,_,by show _=_;rw [qd];exact hc 1 _ rfl,?_⟩;have hle:k + rs[j].1.length≤s.length:=by
     unfold hitB at g;rw [Bool.and_eq_true,decide_eq_true_eq] at g;exact g.1
    refine q27 rs[j] s k hle (by omega) (by omega) fun w22 e22=>⟨_,rfl,?_⟩;have hst:=step_found hkl hz (stepAt_head hjl hz2 g);rw [hst] at h;exact h w22 (qa he2 e22)
   ·refine ⟨n - (j + 1),by omega,j + 1,by rw [qj (by omega)],by omega,rfl,?_,he2⟩;rw [take_succ_eq_append_getElem hjl,qnz,hz2,g];rfl
  ·rw [take_of_length_le (by omega)] at hz2;exact ⟨s.length - (k + 1),by omega,k + 1,by rw [qj (by omega)],by omega,rfl,step_range hz hz2,he2⟩
 ·have hkn:k=s.length:=by omega
  subst hkn;have hst:stepW rs s=none:=by unfold stepW resW;rw [hz];rfl
  rw [hst] at h;exact h W he
theorem Trace14_spec {S:NP} {a:OA} {n c:Nat} (rs:List Rw) (s:LU) (hsm:qfw rs) (hR:RowAt encRw S w a n rs)
  (h:∀ a' n' c' w' (L:List (LU)),(rwE rs s=0→RowAt Sh.encStr (fun k=>w.heap.size≤k) w' a' n' (L++[rwR rs s])∧L.length≤4095)→Ext w w'→R (.returned (.tuple ⟨[lV a' n' c',iV (rwE rs s)]⟩)) w') :
  Calls prog qs1 ⟨[lV a n c,sV s]⟩ w R:=by
 apply q8a;refine check14_spec rs s hsm hR fun w4 e4=>⟨_,rfl,qb (fun g=>?_) (fun g=>?_)⟩
 ·have hE:rwE rs s=chkE rs s:=by rw [rwE_eq,if_pos g]
  rw [hE] at h;exact h none 0 0 w4 [] (fun hh=>absurd hh g) e4
 obtain ⟨hln,hr,hs,hw⟩:=chk_zero (Decidable.not_not.1 g);have hE:rwE rs s=if (qdf rs 4095 s).isNone=true then 4 else 0:=by rw [rwE_eq,if_neg g]
 refine qg fun b3 w7 hb3 B3 e7 s7=>?_;have E7:=qa e4 e7;have z4:=e4.size;refine ⟨fun x oa on oc W m=>∃ (L:List (LU)),on=L.length + 1∧m=4095 - L.length∧L.length≤4095∧OwnL Sh.encStr W w.heap.size 9 oa on oc (L++[x])∧qdf rs m x=qdf rs 4095 s∧x.length≤64∧qad x=true∧Ext w W,
  ⟨_,[],rfl,rfl,by simp,?_,rfl,hs,hw,E7⟩,?_⟩
 ·have hb:Blk w7 b3 ((List.replicate 1 (Sh.encStr.enc s)).flatten) 9:=B3;have:=OwnL.made (E:=Sh.encStr) (x:=s) (n:=1) (B:=w.heap.size) hb (by omega) (by decide)
  exact this
 rintro x oa on oc W k ⟨L,rfl,hk,hL,hO,htr,hx,hwx,he⟩ _;have zW:=he.size;refine step14_spec rs x hln (qza hr) hx (hR.ext he) fun w13 e13=>⟨_,_,rfl,?_⟩;have E13:=qa he e13;have hO13:=hO.ext e13;cases hst:stepW rs x with
 | none =>
  simp only [Option.isSome_none,Bool.not_false,br_t];have ht:=q46 (n:=k) hst;rw [htr] at ht;have hE0:rwE rs s=0:=by rw [hE,ht];rfl
  have hRx:rwR rs s=x:=by unfold rwR;rw [if_neg (by rw [hE0];decide),ht];rfl
  rw [hE0,hRx] at h;refine h oa _ oc w13 L (fun _=>?_) E13;exact ⟨(OwnL.out hO13).imp fun k hk _=>(Owns.bk hO13 hk).1,hL⟩
 | some y =>
  simp only [Option.isSome_some,Bool.not_true,br_f,Option.getD_some];refine qb (fun g2=>?_) (fun g2=>?_)
  ·have hk0:k=0:=by omega
   subst hk0;rw [q48 hst] at htr;have hE4:rwE rs s=4:=by rw [hE,← htr];rfl
   rw [hE4] at h;exact h none 0 0 w13 [] (fun hr'=>by cases hr') E13
  ·obtain ⟨q1,q2,q3⟩:=q94 hr hwx (List.mem_of_head? (show (resW rs x).head? = some y from hst));refine qg fun b16 w17 hb16 B16 e17 s17=>?_;have z13:=E13.size;have B16':Blk w17 b16 (Sh.encStr.enc y) 9:=B16;refine OwnL.app1 (P:=prog) slT_strT (hO13.ext e17) (by omega) B16' (by omega) (by omega) fun a' c'' w19 ho hcg hn=>?_;have z17:=e17.size;refine ⟨k - 1,by omega,L++[x],by simp,by simp;omega,by simp;omega,?_,?_,by omega,q1,?_⟩
   ·exact ho
   ·rw [← htr,show k=(k - 1) + 1 by omega,q47 hst,Nat.add_sub_cancel]
   ·exact qi (qa E13 e17) hcg fun k hk=>(hO13.bk hk).1
theorem Norm14_spec {S:NP} {a:OA} {n c:Nat} (rs:List Rw) (s:LU) (hsm:qfw rs) (hR:RowAt encRw S w a n rs)
  (h:∀ w',Ext w w'→R (.returned (.tuple ⟨[sV (rwR rs s),iV (rwE rs s)]⟩)) w'):Calls prog qio ⟨[lV a n c,sV s]⟩ w R:=by
 apply quy;refine Trace14_spec rs s hsm hR fun a' n' c' w4 L hL e4=>⟨_,_,_,_,rfl,qb (fun g=>?_) (fun g=>?_)⟩
 ·have hR':rwR rs s=[]:=by unfold rwR;rw [if_pos g]
  rw [hR'] at h;exact h w4 e4
 ·have g0:rwE rs s=0:=Decidable.not_not.1 g;obtain ⟨hRow,hl⟩:=hL g0;have hg:(L++[rwR rs s])[L.length]? = some (rwR rs s):=by simp
  have hn:n'=L.length + 1:=by have:=hRow.1;simpa using this
  obtain ⟨bb,o,hq,_,_,hc⟩:=hRow.get hg;have ei:i64.wrap (((n':Nat):Int) - 1)=(L.length:Int):=by rw [qo (by omega)];omega
  rw [ei];refine hq _ ⟨_,hc 0 _ rfl,?_⟩;rw [g0] at h;exact h w4 e4
end
section
variable {R:EP} {w:World}
theorem Same15_spec {S S':NP} {a a':OA} {n n' c c':Nat} (L M:List Tok) (hL:RowAt encTk S w a n L) (hM:RowAt encTk S' w a' n' M) (hb:n≤1000000000) (h:∀ w',Ext w w'→R (.returned (bV (decide (L=M)))) w') :
  Calls prog qdw ⟨[lV a n c,lV a' n' c']⟩ w R:=by
 apply qrr;have h1:=hL.1;have h2:=hM.1;refine qb (fun g=>?_) (fun g=>?_)
 ·rw [decide_eq_false (fun hh=>g (by rw [h1,h2,hh]))] at h;exact h w bR
 refine ⟨fun i W m=>∃ k:Nat,i=k∧k≤n∧m=n - k∧L.take k=M.take k∧Ext w W,⟨_,0,rfl,by omega,rfl,rfl,bR⟩,?_⟩;rintro _ W m ⟨k,rfl,hk,rfl,ht,he⟩ _;refine qb (fun hlt=>?_) (fun hge=>?_)
 ·have hkL:k < L.length:=by omega
  have hkM:k < M.length:=by omega
  unfold drw;have ed:=qn W;have hd:=qa he ed;generalize W.drew=Wd at *;obtain ⟨q,hq,c0,c1,c2,c3,c4,c5⟩:=qtn (hL.ext hd) (show L[k]? = some L[k] by simp [hkL]);obtain ⟨q',hq',d0,d1,d2,d3,d4,d5⟩:=qtn (hM.ext hd) (show M[k]? = some M[k] by simp [hkM]);refine hq _ ⟨_,c0,_,c1,_,c2,_,c3,_,c4,_,c5,hq' _ ⟨_,d0,_,d1,_,d2,_,d3,_,d4,_,d5,?_⟩⟩;show br (!eqTk L[k] M[k]) _ _;refine qk (fun g1=>?_) (fun g1=>?_)
  ·have hne:L[k]≠M[k]:=fun hh=>by rw [(q7t _ _).2 hh] at g1;cases g1
   rw [decide_eq_false (fun hh=>hne (by subst hh;rfl))] at h;exact h _ hd
  ·have heq:L[k]=M[k]:=(q7t _ _).1 (by rw [Bool.not_eq_false'] at g1;exact g1);refine ⟨n - (k + 1),by omega,k + 1,by rw [qj (by omega)],by omega,rfl,?_,hd⟩;rw [take_succ_eq_append_getElem hkL,take_succ_eq_append_getElem hkM,ht,heq]
 ·rw [take_of_length_le (by omega),take_of_length_le (by omega)] at ht;rw [decide_eq_true ht] at h;exact h _ he
end
section
variable {R:EP} {w:World}
theorem has_eq {g:Int} (h0:0≤g) (h1:g≤31):(decide (Int.tmod (i64.wrap (Int.tdiv g 2)) 2=1)=hasG g 2)∧(decide (Int.tmod (i64.wrap (Int.tdiv g 8)) 2=1)=hasG g 8)∧(decide (Int.tmod (i64.wrap (Int.tdiv g 16)) 2=1)=hasG g 16):=by
 have key:∀ n:Fin 32,(decide (Int.tmod (i64.wrap (Int.tdiv (n.val:Int) 2)) 2=1)=hasG (n.val:Int) 2)∧(decide (Int.tmod (i64.wrap (Int.tdiv (n.val:Int) 8)) 2=1)=hasG (n.val:Int) 8)∧(decide (Int.tmod (i64.wrap (Int.tdiv (n.val:Int) 16)) 2=1)=hasG (n.val:Int) 16):=by decide +kernel
 have:=key ⟨g.toNat,by omega⟩
 have e:((g.toNat:Nat):Int)=g:=by omega
 simp only [e] at this;exact this
theorem q5s (x:Tok) (m:Int) (hm:m=2∨m=8∨m=16) (h0:0≤x.g) (h1:x.g≤31) (h:∀ w',Ext w w'→R (.returned (bV (hasG x.g m))) w'):Calls prog q1t ⟨[aggT x,iV m]⟩ w R:=by
 apply c_ref15_has;refine qg fun b w9 hb B9 e9 s9=>⟨_,(blk6' B9).2.2.2.2.1,by rcases hm with rfl | rfl | rfl <;> decide,by decide,?_⟩;obtain ⟨q2,q8,q16⟩:=has_eq h0 h1;have hh:=h w9 e9;rcases hm with rfl | rfl | rfl
 ·rw [q2];exact hh
 ·rw [q8];exact hh
 ·rw [q16];exact hh
theorem word15_spec (x:Tok) (h0:0≤x.g) (h1:x.g≤31) (h:∀ w',Ext w w'→R (.returned (bV (wordG x.g))) w'):Calls prog qv0 ⟨[aggT x]⟩ w R:=by
 apply c_ref15_word;refine qg fun b w8 hb B8 e8 s8=>?_;obtain ⟨c0,c1,c2,c3,c4,c5⟩:=blk6' B8;refine ⟨_,c0,_,c1,_,c2,_,c3,_,c4,_,c5,q5s x 2 (.inl rfl) h0 h1 fun w16 e16=>⟨_,rfl,?_⟩⟩;have E16:=qa e8 e16;unfold wordG at h;cases h2:hasG x.g 2 with
 | true =>
  simp only [Bool.not_true,br_f];rw [h2] at h;exact h w16 E16
 | false =>
  simp only [Bool.not_false,br_t];obtain ⟨d0,d1,d2,d3,d4,d5⟩:=blk6' (B8.ext e16);refine ⟨_,d0,_,d1,_,d2,_,d3,_,d4,_,d5,q5s x 8 (.inr (.inl rfl)) h0 h1 fun w25 e25=>⟨_,rfl,?_⟩⟩;rw [h2] at h;exact h w25 (qa E16 e25)
theorem q56 (c:UInt8) (h:R (.returned (bV (innC c))) w):Calls prog qnh ⟨[.int .u8 (c.toNat:Int)]⟩ w R:=by
 apply q3e;refine qb6 c ⟨_,rfl,?_⟩;rw [inn_of] at h;refine qb (fun g=>?_) (fun g=>qb (fun g2=>?_) (fun g2=>qb (fun g3=>?_) (fun g3=>?_)))
 ·rw [decide_eq_true (.inl g)] at h;exact h
 ·rw [decide_eq_true (.inr (.inl g2))] at h;exact h
 ·rw [decide_eq_true (.inr (.inr (.inl g3)))] at h;exact h
 ·rw [decide_eq_decide.2 (show (kd c=1∨kd c=2∨kd c=3∨kd c=4)↔kd c=4 by omega)] at h;exact h
theorem q8v (c:UInt8) (h:R (.returned (bV (letB c))) w):Calls prog qnk ⟨[.int .u8 (c.toNat:Int)]⟩ w R:=by
 apply q3h;refine qb6 c ⟨_,rfl,qb (fun g=>?_) (fun g=>?_)⟩
 ·have:letB c=true:=(qcv c).2 (.inl g);rw [this] at h;exact h
 ·have:letB c=decide (kd c=3):=by
   rw [Bool.eq_iff_iff,qcv,decide_eq_true_eq];omega
  rw [this] at h;exact h
theorem named15_spec (s:LU) (h:∀ w',Ext w w'→R (.returned (bV (qd8 s))) w'):Calls prog qsz ⟨[sV s]⟩ w R:=by
 apply q78;unfold qd8 at h;refine qb (fun g=>?_) (fun g=>qli s fun w3 e3=>⟨_,rfl,?_⟩)
 ·rw [decide_eq_true g] at h;exact h w bR
 ·rw [decide_eq_false g] at h;exact h w3 e3
theorem q7h {S:NP} {a:OA} {n c:Nat} (l:List Tok) (hR:RowAt encTk S w a n l) (h:R (.returned (iV (if longT l=true then 4 else 0))) w):Calls prog qni ⟨[lV a n c]⟩ w R:=by
 apply q3f;have hn:=hR.1;refine qb (fun g=>?_) (fun g=>?_)
 ·have:longT l=true:=by unfold longT;rw [decide_eq_true (by omega),Bool.true_or]
  rw [this] at h;exact h
 have hl:longT l=l.any fun x=>decide (64 < x.t.length):=by unfold longT;rw [decide_eq_false (by omega),Bool.false_or]
 rw [hl] at h;refine ⟨fun i W m=>∃ k:Nat,i=k∧k≤n∧m=n - k∧((l.take k).any fun x=>decide (64 < x.t.length))=false∧W=w,⟨_,0,rfl,by omega,rfl,rfl,rfl⟩,?_⟩;rintro _ W m ⟨k,rfl,hk,rfl,hz,rfl⟩ _;refine qb (fun hlt=>?_) (fun hge=>?_)
 ·have hkl:k < l.length:=by omega
  obtain ⟨q,hq,c0,_⟩:=qtn hR (show l[k]? = some l[k] by simp [hkl]);refine hq _ ⟨_,c0,qb (fun g2=>?_) (fun g2=>?_)⟩
  ·have:(l.any fun x=>decide (64 < x.t.length))=true:=any_eq_true.2 ⟨l[k],getElem_mem hkl,by simpa using (show 64 < l[k].t.length by omega)⟩;rw [this] at h;exact h
  ·refine ⟨n - (k + 1),by omega,k + 1,by rw [qj (by omega)],by omega,rfl,?_,rfl⟩;rw [take_succ_eq_append_getElem hkl,any_append,hz];simp;omega
 ·rw [take_of_length_le (by omega)] at hz;rw [hz] at h;exact h
theorem nrm_word {rs:List Rw} {x:Tok} (h:wordG x.g=true):nrmT rs x=setM x (rwR rs x.t):=by unfold nrmT;rw [h];rfl
theorem nrm_other {rs:List Rw} {x:Tok} (h:wordG x.g=false) (hm:x.m=x.t):nrmT rs x=x:=by unfold nrmT setM;rw [h];cases x;simp_all
theorem qwx {S S2:NP} {a0:OA} {n0 c0:Nat} {a:OA} {n c:Nat} (rs:List Rw) (l:List Tok) (hsm:qfw rs) (hR:RowAt encRw S w a0 n0 rs) (hO:RowAt encTk S2 w a n l) (hg:∀ x∈l,0≤x.g∧x.g≤31) (hm:∀ x∈l,wordG x.g=false→x.m=x.t) (hn:n≤1000000)
  (h:∀ a' n' c' w',Ext w w'→OwnL encTk w' w.heap.size 69 a' n' c' (if nrmE rs l=0 then l.map (nrmT rs) else [])→R (.returned (.tuple ⟨[lV a' n' c',iV (nrmE rs l)]⟩)) w') :
  Calls prog qin ⟨[lV a0 n0 c0,lV a n c]⟩ w R:=by
 apply qux;have hln:=hO.1;refine ⟨fun oa on oc i W m=>∃ k:Nat,i=k∧k≤n∧m=n - k∧on=k∧Ext w W∧OwnL encTk W w.heap.size 69 oa on oc ((l.take k).map (nrmT rs))∧nrmE rs (l.take k)=0,⟨_,0,rfl,by omega,rfl,rfl,bR,Owns.nil _ _ _ _,rfl⟩,?_⟩;rintro oa on oc _ W m ⟨k,rfl,hk,rfl,rfl,he,hOW,hz⟩ _;refine qb (fun hlt=>?_) (fun hge=>?_)
 ·have hkl:on < l.length:=by omega
  have htk:l.take (on + 1)=l.take on++[l[on]]:=take_succ_eq_append_getElem hkl;obtain ⟨hg0,hg1⟩:=hg l[on] (getElem_mem hkl);have hmx:=hm l[on] (getElem_mem hkl);obtain ⟨q,hq,c0,c1,c2,c3,c4,c5⟩:=qtn (hO.ext he) (show l[on]? = some l[on] by simp [hkl]);generalize hx:l[on]=x at *;refine hq _ ⟨_,c0,_,c1,_,c2,_,c3,_,c4,_,c5,?_⟩;refine qw rfl (one6t _) fun b w18 hb B18 e18 s18=>?_;have zW:=he.size;have E18:=qa he e18;intro K19 hK19;have k19:∀ (y:Tok) (v:World),Blk v b (encTk.enc y) 69→Ext w v→W.heap.size≤v.heap.size→OwnL encTk v w.heap.size 69 oa on oc ((l.take on).map (nrmT rs))→nrmT rs x=y→nrmE rs (l.take (on + 1))=0→K19 v:=by
   intro y v Bv Ev zv Ov hy hz2;refine hK19 _ fun _=>?_;have Bv':Blk v b [sV y.t,sV y.m,sV y.p.1,iV y.p.2,iV y.g,sV y.a] 69:=Bv;obtain ⟨d0,d1,d2,d3,d4,d5⟩:=blk6' Bv';refine ⟨_,d0,_,d1,_,d2,_,d3,_,d4,_,d5,?_⟩;refine qg fun b27 w28 hb27 B28 e28 s28=>?_;have z28:=(qa Ev e28).size;have B28':Blk w28 b27 (encTk.enc y) 69:=B28;refine OwnL.app1 (P:=prog) slT_tok (Owns.ext Ov e28) (by omega) B28' (by omega) (by omega) fun a' c'' w30 ho hcg hn2=>?_;refine ⟨n - (on + 1),by omega,on + 1,by rw [qj (by omega)],by omega,rfl,rfl,qi (qa Ev e28) hcg fun k hk=>((Owns.ext Ov e28).bk hk).1,?_,hz2⟩;rw [htk,map_append,List.map_singleton,hy];exact ho
  obtain ⟨d0,d1,d2,d3,d4,d5⟩:=blk6' B18;refine ⟨_,d0,_,d1,_,d2,_,d3,_,d4,_,d5,word15_spec x hg0 hg1 fun w39 e39=>⟨_,rfl,?_⟩⟩;have E39:=qa E18 e39;have B39:=B18.ext e39;have O39:=(Owns.ext (Owns.ext hOW e18) e39);have z39:=(qa e18 e39).size;cases hwg:wordG x.g with
  | false =>
   simp only [br_f];refine k19 x w39 B39 E39 z39 O39 (nrm_other hwg (hmx hwg)) ?_;rw [htk,qfz rs _ _ hz,if_neg (fun hh=>by rw [hwg] at hh;cases hh.1)]
  | true =>
   simp only [br_t];refine ⟨_,(blk6' B39).1,?_⟩;refine Norm14_spec rs x.t hsm (hR.ext E39) fun w43 e43=>⟨_,_,rfl,?_⟩;have E43:=qa E39 e43;refine qb (fun g3=>?_) (fun g3=>?_)
   ·have he3:nrmE rs l=rwE rs x.t:=by
     have h1:nrmE rs (l.take (on + 1))=rwE rs x.t:=by rw [htk,qfz rs _ _ hz,if_pos ⟨hwg,g3⟩]
     have h2:=q7c rs (l.take (on + 1)) (l.drop (on + 1)) (by rw [h1];exact g3);rw [take_append_drop] at h2;rw [h2,h1]
    rw [he3,if_neg g3] at h;exact h none 0 0 w43 E43 (Owns.nil _ _ _ _)
   ·have B43:=B39.ext e43;refine qap B43 (i:=1) (by simp) rfl fun w46 B46 c46 s46=>?_;have hbl:w.heap.size≤b:=by omega
    have hnb:∀ k,bk oa k→¬ k=b:=fun k hk he=>by have:=(hOW.bk hk).2;omega
    refine k19 (setM x (rwR rs x.t)) w46 B46 (qi E43 c46 fun k hk=>by omega) (by have:=e43.size;omega) ((Owns.ext O39 e43).chg c46 hnb) (nrm_word hwg) ?_;rw [htk,qfz rs _ _ hz,if_neg (fun hh=>hh.2 (Decidable.not_not.1 g3))]
 ·have hkn:on=n:=by omega
  subst hkn;rw [take_of_length_le (by omega)] at hz hOW;rw [hz,if_pos rfl] at h;exact h oa on oc W he hOW
end
def q70:Am→LV
 | .ch c p u nm=>[.int .u8 (c.toNat:Int),iV 0,bV false,bV u,sV nm,sV p.1,iV p.2]
 | .gap n p u nm=>[.int .u8 0,iV n,bV false,bV u,sV nm,sV p.1,iV p.2]
 | .brk v=>[.int .u8 0,iV 0,bV v,bV false,sV ([]),sV ([]),iV 0]
def encSg:Enc Am:=⟨q70,7,fun x=>by cases x <;> rfl,by decide,by
 intro x v hv;cases x <;> simp only [q70,mem_cons,not_mem_nil,or_false] at hv <;> rcases hv with rfl | rfl | rfl | rfl | rfl | rfl | rfl <;> rfl⟩
theorem q99:SlT prog 149 206 7 64 (.agg #[.int .u8 0,iV 0,bV false,bV false,sV ([]),sV ([]),iV 0]):=⟨by kernel_rfl,by kernel_rfl,rfl,by decide⟩
theorem q5k:∀ (f g:Fo) (u:Bool) (nm:LU),qew (f.app g) u nm=qew f u nm++qew g u nm
 | .nil,g,u,nm=>rfl
 | .cons k t n ps r,g,u,nm=>by simp only [Fo.cons_app,qew,q5k r g u nm,cons_append,append_assoc]
theorem amsF_app (p:Ps) (f g:Fo) (u:Bool) (nm:LU):amsF p (f.app g) u nm=amsF p f u nm++amsF (endL p (nodesF f)) g u nm:=by
 unfold amsF;rw [q5k,q88,ql9]
theorem amsF_nil (p:Ps) (u:Bool) (nm:LU):amsF p .nil u nm=[]:=rfl
def hdF:Fo→Bool
 | .nil=>false
 | .cons k _ _ ps r=>(decide (k=8)||decide (k=9))||(hdF ps||hdF r)
theorem hdF_app:∀ f g:Fo,hdF (f.app g)=(hdF f||hdF g)
 | .nil,g=>by simp [hdF]
 | .cons k t n ps r,g=>by rw [Fo.cons_app,hdF,hdF,hdF_app r g];simp only [Bool.or_assoc]
theorem hdF_cnt:∀ f:Fo,hdF f=decide (cntF 8 f + cntF 9 f≠0)
 | .nil=>rfl
 | .cons k t n ps r=>by
  rw [hdF,hdF_cnt ps,hdF_cnt r,qrb,qrb];by_cases h8:k=8
  ·subst h8;simp
  ·by_cases h9:k=9
   ·subst h9;simp
   ·simp [h8,h9];rw [Bool.eq_iff_iff];simp;omega
def nkF:Fo→Prop
 | .nil=>True
 | .cons k _ _ ps r=>(k < 7→ps=.nil)∧nkF ps∧nkF r
theorem nkF_app:∀ {f g:Fo},nkF (f.app g)↔nkF f∧nkF g
 | .nil,g=>by simp [nkF]
 | .cons k t n ps r,g=>by
  simp only [Fo.cons_app,nkF,nkF_app (f:=r) (g:=g),and_assoc]
theorem okF_nk:∀ {w:Bool} {f:Fo},okF w f→nkF f
 | _,.nil,_=>trivial
 | w,.cons k t n ps r,h=>⟨(qc5 h.1).2.2.2.2.2.1,okF_nk h.2.1,okF_nk h.2.2⟩
section
theorem blk2x {w:World} {b:Nat} {v0 v1:Value} {T:TypeId} (h:Blk w b [v0,v1] T):w.cell? ((⟨b,0,none⟩:Addr).add 0)=some v0∧w.cell? ((⟨b,0,none⟩:Addr).add 1)=some v1:=by
 simp only [qd,h.cell];exact ⟨rfl,rfl⟩
theorem signs_spec:∀ (f:Fo) {R:EP} {S:NP} {w:World} {a:OA} {n c:Nat} (p0:Ps) (u:Bool) (nm:LU),nkF f→f.size≤1000000→tlen f≤1000000000→0≤p0.2→p0.2 + f.size≤1000000000→SlF S w a n f →
  (∀ a' n' c' w',OwnL encSg w' w.heap.size 206 a' n' c' (amsF p0 f u nm)→Ext w w'→R (.returned (.tuple ⟨[lV a' n' c',.agg ⟨[.string ⟨⟨(endL p0 (nodesF f)).1⟩⟩,iV (endL p0 (nodesF f)).2]⟩,bV (hdF f)]⟩)) w') →
  Calls prog qsy ⟨[.agg ⟨[sV p0.1,iV p0.2]⟩,lV a n c,bV u,sV nm]⟩ w R:=by
 intro f
 induction hz:f.size using Nat.strongRecOn generalizing f with
 | _ z ih =>
 intro R S w a n c p0 u nm hok hs htl hp0 hpb hf0 h;apply q77;have hn:=hf0.1;have hf:SlF (fun k=>S k∧k < w.heap.size) w a n f:=hf0.imp fun k hk hl=>⟨hk,hl⟩;refine qg fun b6 w7 hb6 B6 e7 s7=>?_;refine qg fun b8 w9 hb8 B8 e9 s9=>?_;have E9:=qa e7 e9;have z9:=E9.size;refine ⟨fun oa on oc hd i W m=>∃ (p r:Fo),f=p.app r∧i=p.len∧m=r.len∧hd=hdF p∧Blk W b6 [.string ⟨⟨(endL p0 (nodesF p)).1⟩⟩,iV (endL p0 (nodesF p)).2] 51∧Blk W b8 [sV ([]),iV 0] 51∧OwnL encSg W (w.heap.size + 2) 206 oa on oc (amsF p0 p u nm)∧Ext w W,
  ⟨_,.nil,f,rfl,rfl,rfl,rfl,B6.ext e9,B8,Owns.nil _ _ _ _,E9⟩,?_⟩
 rintro oa on oc _ _ W m ⟨p,r,hpr,rfl,rfl,rfl,C6,C8,hO,he⟩ _;have hwW:=he.size;have hbO:∀ k,bk oa k→b8 < k∧k < W.heap.size:=fun k hk=>by have:=hO.bk hk;omega
 have c6l:=C6.lt;have c8l:=C8.lt;refine qb (fun hlt=>?_) (fun hge=>?_)
 ·obtain ⟨k,t,mm,ps,r,rfl⟩:=Fo.next hpr (by omega);have hsl:=Fo.sub_len hpr;have hsz:=Fo.sub_size hpr;have hss:f.size=p.size + (ps.size + r.size + 1):=by rw [hpr,Fo.size_app];rfl
  have hst:tlen f=tlen p + (t.length + tlen ps + tlen r):=by rw [hpr,qbv];rfl
  have hokp:=nkF_app.1 (hpr ▸ hok);obtain ⟨hokP,hnil,hokps,hokr⟩:=hokp;obtain ⟨po1,po0,_⟩:=qkt p p0 hp0;have hcp:=qra 2 p;have hal:=qvc p p0 u nm;have hon:=OwnL.length hO;have e1:f=(p.app (.one k t mm ps)).app r:=by rw [Fo.app_one_app];exact hpr
  have i1:i64.wrap ((p.len:Int) + 1)=((p.app (.one k t mm ps)).len:Int):=by
   have:=Fo.len_le_size f
   rw [qj (by omega)];simp [Fo.one]
  have hx:hdF (p.app (.one k t mm ps))=(hdF p||((decide (k=8)||decide (k=9))||hdF ps)):=by rw [hdF_app];unfold Fo.one;rw [hdF,hdF.eq_1,Bool.or_false]
  have nx:endL p0 (nodesF (p.app (.one k t mm ps)))=endL (posN (endL p0 (nodesF p)) ⟨k,t,mm,ps⟩).1 (nodesF ps):=by
   rw [qt5,qmg];unfold Fo.one;rw [nodesF,nodesF.eq_1,append_nil,endL]
  have ax:amsF p0 (p.app (.one k t mm ps)) u nm=amsF p0 p u nm++(amN (endL p0 (nodesF p)) ⟨⟨k,t,mm,ps⟩,u,nm⟩++amsF (posN (endL p0 (nodesF p)) ⟨k,t,mm,ps⟩).1 ps (u||decide (k=7)) (if k=11 then t else nm)):=by
   rw [amsF_app];unfold Fo.one;rw [qsk,amsF_nil,append_nil]
  generalize hpo:endL p0 (nodesF p)=po at *;obtain ⟨q,a',c',hq,hSq,hql,hN⟩:=(hf.ext he).get hpr;refine hq _ ⟨k,hN.kind,t,hN.text,mm,hN.num,a',ps.len,c',hN.parts,?_⟩;refine qw rfl (by intro u hu;simp only [mem_cons,not_mem_nil,or_false] at hu;rcases hu with rfl | rfl | rfl | rfl <;> rfl) fun bx w24 hbx Bx e24 s24=>?_;obtain ⟨x0,x1,x2,x3⟩:=blk4 Bx;have E24:=qa he e24;have z24:=e24.size;have O24:=Owns.ext hO e24;have D6:=C6.ext e24;have D8:=C8.ext e24;obtain ⟨y0,y1⟩:=blk2x D6;have next:∀ (v:World) (oa':OA) (on' oc':Nat) (hd':Bool) (pe:Ps) (am:List Am),pe=endL (posN po ⟨k,t,mm,ps⟩).1 (nodesF ps)→am=amN po ⟨⟨k,t,mm,ps⟩,u,nm⟩++amsF (posN po ⟨k,t,mm,ps⟩).1 ps (u||decide (k=7)) (if k=11 then t else nm)→Blk v b6 [sV pe.1,iV pe.2] 51→Blk v b8 [sV ([]),iV 0] 51→OwnL encSg v (w.heap.size + 2) 206 oa' on' oc' (amsF p0 p u nm++am)→hd'=(hdF p||((decide (k=8)||decide (k=9))||hdF ps))→Ext w v →
    ∃ m',m' < (Fo.cons k t mm ps r).len∧∃ (p' r':Fo),f=p'.app r'∧i64.wrap ((p.len:Int) + 1)=p'.len∧m'=r'.len∧hd'=hdF p'∧Blk v b6 [.string ⟨⟨(endL p0 (nodesF p')).1⟩⟩,iV (endL p0 (nodesF p')).2] 51∧Blk v b8 [sV ([]),iV 0] 51∧OwnL encSg v (w.heap.size + 2) 206 oa' on' oc' (amsF p0 p' u nm)∧Ext w v:=by
   rintro v oa' on' oc' hd' pe am rfl rfl q6 q8 qO qh qe;exact ⟨r.len,by simp,p.app (.one k t mm ps),r,e1,i1,rfl,by rw [qh,hx],by rw [nx];exact q6,q8,by rw [ax];exact qO,qe⟩
  have psn:k < 7→ps=.nil:=hnil;have am0:ps=.nil→amsF (posN po ⟨k,t,mm,ps⟩).1 ps (u||decide (k=7)) (if k=11 then t else nm)=[]:=fun hh=>by rw [hh];rfl
  have en0:ps=.nil→endL (posN po ⟨k,t,mm,ps⟩).1 (nodesF ps)=(posN po ⟨k,t,mm,ps⟩).1:=fun hh=>by rw [hh];rfl
  have hd0:k < 7→hdF p=(hdF p||((decide (k=8)||decide (k=9))||hdF ps)):=fun hh=>by
   rw [psn hh,decide_eq_false (show ¬ k=8 by omega),decide_eq_false (show ¬ k=9 by omega),hdF.eq_1];simp
  have hnb:∀ j,bk oa j→¬ j=b6:=fun j hj=>by have:=hbO j hj;omega
  refine ⟨_,x0,qb (fun g1=>?_) (fun g1=>qb (fun g6=>?_) (fun g6=>qb (fun g2=>?_) (fun g2=>qb (fun g3=>?_) (fun g3=>?_))))⟩
  ·
   have hps:=psn (by omega);have hamn:amN po ⟨⟨k,t,mm,ps⟩,u,nm⟩=amT t po u nm:=by unfold amN;rw [if_pos g1]
   have hpos:(posN po ⟨k,t,mm,ps⟩).1=po:=by unfold posN;rw [if_pos g1]
   refine ⟨fun oa2 on2 oc2 i2 W2 m2=>∃ j:Nat,i2=j∧j≤t.length∧m2=t.length - j∧OwnL encSg W2 (w.heap.size + 2) 206 oa2 on2 oc2 (amsF p0 p u nm++amT (t.take j) po u nm)∧Blk W2 b6 [sV po.1,iV po.2] 51∧Blk W2 b8 [sV ([]),iV 0] 51∧Blk W2 bx [iV k,sV t,iV mm,lV a' ps.len c'] 56∧(∀ j,bk oa2 j→j≠bx)∧Ext w W2,
    ⟨_,0,rfl,by omega,rfl,by simpa [amT] using O24,D6,D8,Bx,fun j hj=>by have:=hbO j hj;omega,E24⟩,?_⟩
   rintro oa2 on2 oc2 _ W2 m2 ⟨j,rfl,hj,rfl,hO2,F6,F8,Fx,hnx,he2⟩ _;have hon2:=OwnL.length hO2;rw [length_append] at hon2;have hal2:(amT (t.take j) po u nm).length≤t.length:=by unfold amT;simp;omega
   refine ⟨_,(blk4 Fx).2.1,qb (fun hl2=>?_) (fun hg2=>?_)⟩
   ·have hjl:j < t.length:=by omega
    unfold drw;have ed:=qn W2;have Ed:=qa he2 ed;have G6:=F6.ext ed;have G8:=F8.ext ed;have Gx:=Fx.ext ed;have GO:=Owns.ext hO2 ed;generalize W2.drew=wd at *;refine ⟨_,(blk4 Gx).2.1,qbi hjl ⟨_,(blk2x G6).1,_,(blk2x G6).2,⟨?_,trivial⟩⟩⟩;refine qg fun b38 w39 hb38 B38 e39 s39=>⟨?_,trivial⟩;have B38':Blk w39 b38 (encSg.enc (.ch t[j] po u nm)) 206:=B38;have z39:=(qa Ed e39).size;have bx6:=G6.lt;have bx8:=G8.lt;have bxx:=Gx.lt;refine OwnL.app1 (P:=prog) q99 (Owns.ext GO e39) (by omega) B38' (by omega) (by omega) fun a5 c5 w41 ho5 hc5 hn5=>?_;have hb5:∀ i,bk oa2 i→w.heap.size + 2≤i:=fun i hi=>(hO2.bk hi).1;refine ⟨t.length - (j + 1),by omega,j + 1,by rw [qj (by omega)],by omega,rfl,?_,hc5.blk (G6.ext e39) (fun hh=>by have:=hb5 _ hh;omega),hc5.blk (G8.ext e39) (fun hh=>by have:=hb5 _ hh;omega),hc5.blk (Gx.ext e39) (fun hh=>hnx _ hh rfl),fun i hi=>?_,qi (qa Ed e39) hc5 fun i hi=>by have:=hb5 i hi;omega⟩
    ·rw [take_succ_eq_append_getElem hjl];unfold amT;rw [map_append,← append_assoc];exact ho5
    ·rcases hn5 i hi with hh | hh
     ·exact hnx i hh
     ·omega
   ·rw [take_of_length_le (by omega)] at hO2;exact next W2 oa2 on2 oc2 (hdF p) po _ (by rw [en0 hps,hpos]) (by rw [am0 hps,hamn,append_nil]) F6 F8 hO2 (hd0 (by omega)) he2
  ·
   have hps:=psn (by omega);have hamn:amN po ⟨⟨k,t,mm,ps⟩,u,nm⟩=[.gap mm po u nm]:=by unfold amN;rw [if_neg g1,if_pos g6]
   have hpos:(posN po ⟨k,t,mm,ps⟩).1=po:=by unfold posN;rw [if_neg g1,if_pos g6]
   refine ⟨_,x2,_,y0,_,y1,?_⟩;refine qg fun b47 w48 hb47 B47 e48 s48=>?_;have B47':Blk w48 b47 (encSg.enc (.gap mm po u nm)) 206:=B47;have z48:=(qa E24 e48).size;refine OwnL.app1 (P:=prog) q99 (Owns.ext O24 e48) (by omega) B47' (by omega) (by omega) fun a5 c5 w41 ho5 hc5 hn5=>?_;exact next w41 a5 _ c5 (hdF p) po _ (by rw [en0 hps,hpos]) (by rw [am0 hps,hamn,append_nil]) (hc5.blk (D6.ext e48) (fun hh=>hnb _ hh rfl)) (hc5.blk (D8.ext e48) (fun hh=>by have:=hbO _ hh;omega)) ho5 (hd0 (by omega)) (qi (qa E24 e48) hc5 fun i hi=>by have:=hbO i hi;omega)
  ·
   have hps:=psn (by omega);have hamn:amN po ⟨⟨k,t,mm,ps⟩,u,nm⟩=[]:=by unfold amN;rw [if_neg g1,if_neg g6,if_neg (show ¬ (k=4∨k=5) by omega)]
   have hpos:(posN po ⟨k,t,mm,ps⟩).1=(po.1,po.2 + 1):=by unfold posN;rw [if_neg g1,if_neg g6,if_neg (show ¬ k=3 by omega),if_pos g2]
   refine ⟨_,y1,?_⟩;rw [qo (by omega)];refine qap D6 (i:=1) (by simp) rfl fun w53 B53 c53 s53=>?_;exact next w53 oa on oc (hdF p) (po.1,po.2 + 1) [] (by rw [en0 hps,hpos]) (by rw [am0 hps,hamn];rfl) B53 (c53.blk D8 (by omega)) (by rw [append_nil];exact O24.chg c53 hnb) (hd0 (by omega)) (qi E24 c53 fun i hi=>by omega)
  ·
   have hps:=psn (by omega);have hamn:amN po ⟨⟨k,t,mm,ps⟩,u,nm⟩=[]:=by unfold amN;rw [if_neg g1,if_neg g6,if_neg (show ¬ (k=4∨k=5) by omega)]
   have hpos:(posN po ⟨k,t,mm,ps⟩).1=(t,0):=by unfold posN;rw [if_neg g1,if_neg g6,if_pos g3]
   refine ⟨_,x1,?_⟩;refine qaf D6 (by simp) (by intro v hv;simp only [mem_cons,not_mem_nil,or_false] at hv;rcases hv with rfl | rfl <;> rfl) fun w56 r1 r2 r3 r4 r5 r6=>?_;have c56:Chg (· = b6) w24 w56:=⟨r4,r5,r6,by omega,fun k _ hk=>r2 k hk⟩
   exact next w56 oa on oc (hdF p) (t,0) [] (by rw [en0 hps,hpos]) (by rw [am0 hps,hamn];rfl) r1 (c56.blk D8 (by omega)) (by rw [append_nil];exact O24.chg c56 hnb) (hd0 (by omega)) (qi E24 c56 fun i hi=>by omega)
  ·
   have hpos:(posN po ⟨k,t,mm,ps⟩).1=po:=by unfold posN;rw [if_neg g1,if_neg g6,if_neg g3,if_neg g2]
   intro K58 hK58;have k58:K58 (decide (k=4∨k=5)) w24:=by
    refine hK58 _ _ fun _=>qb (fun g45=>?_) (fun g45=>?_)
    ·have hps:=psn (by omega);have hamn:amN po ⟨⟨k,t,mm,ps⟩,u,nm⟩=[.brk (decide (k=5))]:=by unfold amN;rw [if_neg g1,if_neg g6,if_pos g45]
     refine ⟨_,x0,?_⟩;refine qg fun b47 w48 hb47 B47 e48 s48=>?_;have B47':Blk w48 b47 (encSg.enc (.brk (decide (k=5)))) 206:=B47;have z48:=(qa E24 e48).size;refine OwnL.app1 (P:=prog) q99 (Owns.ext O24 e48) (by omega) B47' (by omega) (by omega) fun a5 c5 w41 ho5 hc5 hn5=>?_;exact next w41 a5 _ c5 (hdF p) po _ (by rw [en0 hps,hpos]) (by rw [am0 hps,hamn,append_nil]) (hc5.blk (D6.ext e48) (fun hh=>hnb _ hh rfl)) (hc5.blk (D8.ext e48) (fun hh=>by have:=hbO _ hh;omega)) ho5 (hd0 (by omega)) (qi (qa E24 e48) hc5 fun i hi=>by have:=hbO i hi;omega)
    ·have hamn:amN po ⟨⟨k,t,mm,ps⟩,u,nm⟩=[]:=by unfold amN;rw [if_neg g1,if_neg g6,if_neg (show ¬ (k=4∨k=5) by omega)]
     intro K67 hK67;have k67:K67 (if k=11 then t else nm) w24:=by
      refine hK67 _ _ fun _=>?_;intro K70 hK70;have k70:∀ (a5:OA) (n5 c5:Nat) (bt:Nat) (w74:World),OwnL encSg w74 w24.heap.size 206 a5 n5 c5 (amsF po ps (u||decide (k=7)) (if k=11 then t else nm))→Blk w74 bt [.string ⟨⟨(endL po (nodesF ps)).1⟩⟩,iV (endL po (nodesF ps)).2] 51→w24.heap.size≤bt→(∀ j,bk a5 j→j≠bt)→Ext w24 w74→K70 a5 n5 c5 (some ⟨bt,0,none⟩) (hdF ps) w74:=by
       intro a5 n5 c5 bt w74 hO5 Bt hbt hnt e74;refine hK70 _ _ _ _ _ _ fun _=>?_;intro K75 hK75;have k75:∀ (oa':OA) (on' oc':Nat) (v:World),Blk v b6 [.string ⟨⟨(endL po (nodesF ps)).1⟩⟩,iV (endL po (nodesF ps)).2] 51→Blk v b8 [sV ([]),iV 0] 51→Blk v bx [iV k,sV t,iV mm,lV a' ps.len c'] 56→OwnL encSg v (w.heap.size + 2) 206 oa' on' oc' (amsF p0 p u nm++amsF po ps (u||decide (k=7)) (if k=11 then t else nm))→Ext w v→K75 oa' on' oc' v:=by
        intro oa' on' oc' v q6 q8 qx qO qe;have nn:∀ hd',hd'=(hdF p||((decide (k=8)||decide (k=9))||hdF ps))→_:=fun hd' hh=>next v oa' on' oc' hd' (endL po (nodesF ps)) (amsF po ps (u||decide (k=7)) (if k=11 then t else nm)) (by rw [hpos]) (by rw [hamn,hpos];rfl) q6 q8 qO hh qe
        refine hK75 _ _ _ _ fun _=>qk (fun h1=>nn true (by rw [h1];rfl)) (fun h1=>qk (fun h2=>nn true (by rw [h2];simp)) (fun h2=>⟨_,(blk4 qx).1,qb (fun h3=>nn true (by rw [decide_eq_true h3];simp)) (fun h3=>⟨_,(blk4 qx).1,nn _ (by rw [h1,h2,decide_eq_false h3];simp)⟩)⟩))
       unfold drw;have ed:=qn w74;have Ed:=qa (qa E24 e74) ed;have hOd:=Owns.ext (Owns.ext O24 e74) ed;have hO5d:=Owns.ext hO5 ed;have Btd:=Bt.ext ed;have D6d:=(D6.ext e74).ext ed;have D8d:=(D8.ext e74).ext ed;have Dxd:=(Bx.ext e74).ext ed;have zd:=(qa e74 ed).size;generalize w74.drew=wd at *;have hal5:=qvc ps po (u||decide (k=7)) (if k=11 then t else nm);have hon5:=OwnL.length hO5d;have x5:∀ j,bk a5 j→w24.heap.size≤j:=fun j hj=>(hO5d.bk hj).1;have fin:∀ (a6:OA) (c6:Nat) (v:World),OwnL encSg v (w.heap.size + 2) 206 a6 (on + n5) c6 (amsF p0 p u nm++amsF po ps (u||decide (k=7)) (if k=11 then t else nm))→Chg (bk oa) wd v→(∀ k,bk a6 k→bk oa k∨wd.heap.size≤k) →
         stL v ⟨b6,0,none⟩ 0 [.string ⟨⟨(endL po (nodesF ps)).1⟩⟩,iV (endL po (nodesF ps)).2] fun v'=>K75 a6 (on + n5) c6 v':=by
        intro a6 c6 v hO6 hc6 hn6;have q6:=hc6.blk D6d (fun hh=>hnb _ hh rfl);refine qaf q6 (by simp) (by intro v hv;simp only [mem_cons,not_mem_nil,or_false] at hv;rcases hv with rfl | rfl <;> rfl) fun v' r1 r2 r3 r4 r5 r6=>?_;have cv:Chg (· = b6) v v':=⟨r4,r5,r6,by omega,fun k _ hk=>r2 k hk⟩
        refine k75 _ _ _ v' r1 (cv.blk (hc6.blk D8d (fun hh=>by have:=hbO _ hh;omega)) (by omega)) (cv.blk (hc6.blk Dxd (fun hh=>by have:=hbO _ hh;omega)) (by omega)) (hO6.chg cv fun j hj hh=>?_) (qi (qi Ed hc6 fun i hi=>by have:=hbO i hi;omega) cv fun i hi=>by omega);rcases hn6 j hj with h1 | h1
        ·exact hnb j h1 hh
        ·omega
       have zwd:w.heap.size + 2≤wd.heap.size:=by have:=Ed.size;omega
       constructor
       ·refine OwnL.pushAll (P:=prog) q99 hOd zwd (OwnL.out hO5d) (by omega) (by omega) fun a6 c6 v hO6 hc6 hn6=>dr_ok ?_;obtain ⟨t0,t1⟩:=blk2x (hc6.blk Btd (fun hh=>by have:=hbO _ hh;omega));exact ⟨_,t0,_,t1,fin a6 c6 v hO6 hc6 hn6,trivial⟩
       ·refine ⟨dr_ok ?_,trivial⟩;obtain ⟨t0,t1⟩:=blk2x Btd;refine ⟨_,t0,_,t1,?_,trivial⟩;exact OwnL.pushAll (P:=prog) q99 hOd zwd (OwnL.out hO5d) (by omega) (by omega) fun a6 c6 v hO6 hc6 hn6=>⟨fin a6 c6 v hO6 hc6 hn6,trivial⟩
      have recur:∀ {R':EP} (u':Bool),u'=(u||decide (k=7))→(∀ a5 n5 c5 w',OwnL encSg w' w24.heap.size 206 a5 n5 c5 (amsF po ps (u||decide (k=7)) (if k=11 then t else nm))→Ext w24 w'→R' (.returned (.tuple ⟨[lV a5 n5 c5,.agg ⟨[.string ⟨⟨(endL po (nodesF ps)).1⟩⟩,iV (endL po (nodesF ps)).2]⟩,bV (hdF ps)]⟩)) w') →
        Calls prog 113 ⟨[.agg ⟨[sV po.1,iV po.2]⟩,lV a' ps.len c',bV u',sV (if k=11 then t else nm)]⟩ w24 R':=by
       rintro R' u' rfl hR;exact ih _ (hz ▸ hsz) ps rfl (S:=fun j=>S j∧j < w.heap.size) po _ _ hokps (by omega) (by omega) po0 (by omega) (hN.sl.ext e24) hR
      have after:∀ (a5:OA) (n5 c5:Nat) (v:World),OwnL encSg v w24.heap.size 206 a5 n5 c5 (amsF po ps (u||decide (k=7)) (if k=11 then t else nm))→Ext w24 v→al v 51 [sV ([]),iV 0] fun p106 w107=>stL w107 p106 0 [.string ⟨⟨(endL po (nodesF ps)).1⟩⟩,iV (endL po (nodesF ps)).2] fun w108=>K70 a5 n5 c5 (some p106) (hdF ps) w108:=by
       intro a5 n5 c5 v hv ev;refine qw rfl (by intro v hv;simp only [mem_cons,not_mem_nil,or_false] at hv;rcases hv with rfl | rfl <;> rfl) fun b106 w108 hb B106 e108 s108=>?_;have:=ev.size
       exact k70 a5 n5 c5 b106 w108 (Owns.ext hv e108) B106 (by omega) (fun j hj=>by have:=(hv.bk hj).2;omega) (qa ev e108)
      refine ⟨_,y0,_,y1,_,_,_,x3,qk (fun hu=>?_) (fun hu=>⟨_,x0,?_⟩)⟩
      ·exact recur true (by rw [hu];rfl) fun a5 n5 c5 v hv ev=>⟨_,_,_,_,_,_,rfl,after a5 n5 c5 v hv ev⟩
      ·exact recur _ (by rw [hu];rfl) fun a5 n5 c5 v hv ev=>⟨_,_,_,_,_,_,rfl,after a5 n5 c5 v hv ev⟩
     refine ⟨_,x0,qb (fun g11=>⟨_,x1,by rw [if_pos g11] at k67;exact k67⟩) (fun g11=>by rw [if_neg g11] at k67;exact k67)⟩
   refine qb (fun g5=>?_) (fun g5=>?_)
   ·rw [decide_eq_true g5];rw [decide_eq_true (show k=4∨k=5 from .inr g5)] at k58;exact k58
   ·rw [decide_eq_decide.2 (show (k=4∨k=5)↔k=4 by omega)] at k58;exact k58
 ·obtain ⟨rfl,rfl⟩:=Fo.last hpr (by omega);unfold drw;have ed:=qn W;have Ed:=qa he ed;have D6:=C6.ext ed;have D8:=C8.ext ed;have DO:=Owns.ext hO ed;generalize W.drew=wd at *;obtain ⟨y0,y1⟩:=blk2x D6;refine ⟨_,y0,_,y1,?_,trivial⟩;refine qaf D8 (by simp) (by intro v hv;simp only [mem_cons,not_mem_nil,or_false] at hv;rcases hv with rfl | rfl <;> rfl) fun v r1 r2 r3 r4 r5 r6=>?_;have cv:Chg (· = b8) wd v:=⟨r4,r5,r6,by omega,fun k _ hk=>r2 k hk⟩
  have r1':Blk v b8 [.string ⟨⟨(endL p0 (nodesF p)).1⟩⟩,iV (endL p0 (nodesF p)).2] 51:=r1;obtain ⟨t0,t1⟩:=blk2x r1';refine ⟨_,t0,_,t1,?_⟩;exact h oa on oc v (Owns.weak (DO.chg cv fun j hj=>by have:=hbO j hj;omega) (by omega)) (qi Ed cv fun i hi=>by omega)
end
end Go.Proofs