/- Written by program: for each function its verification condition, that it is the code's (by the kernel), and that it gives the call. -/
import Derived.Test.YtkecgnlelgdndaaGreatDoorFn
set_option linter.all false
set_option maxRecDepth 100000
namespace Go.Proofs
open Go Go.Sh Go.Proofs.Tryz IntKind
def q7f:Ann:=T F (T (T F (.one (.loop 8796093022192 [(5,.one (.int .i64))] (T (T F (T F F)) (T (.one (T (.cut 2147467328 [(6,.one (.int .i64))] F (T F (T (T F F) F))) (T F (T F (T (T F F) F))))) F))))) (T F F))
def q52 (j:Option Addr) (d:Nat) (M:Nat) (c:Bool) (R:Ending→World→Prop) (w:World):Prop :=
 ∃ (y:Int→World→Nat→Prop),(∃ N,y 0 w N)∧∀ a A F,y a A F→∀ _:Env,(br (decide ((a:Int) < ((d:Int)))) (∀ (z:Int→World→Prop),(∀ (i:Int) (h:World),(∀ _:Env,(br (decide ((i:Int)≠0)) (R (.returned (I i)) h) (idx j d a 4 fun G =>
 ∃ t l k,h.cell? (G.add 3)=some (L t l k)∧Calls prog 151 ⟨[L t l k,B true]⟩ h fun C s =>
 ∃ m,C=.returned (I m)∧br (decide (m≠0)) (R (.returned (I m)) s) (∃ r,r < F∧y (i64.wrap (a + 1)) s r))))→z i h)→(drw A fun b =>
 idx j d a 4 fun g =>
 ∃ n,b.cell? (g.add 0)=some (I n)∧∃ o,b.cell? (g.add 1)=some (S o)∧∃ p,b.cell? (g.add 2)=some (I p)∧∃ q f e,b.cell? (g.add 3)=some (L q f e)∧br (decide ((0:Int) < a)) (idx j d (i64.wrap (a - 1)) 4 fun H =>
 ∃ u,b.cell? (H.add 0)=some (I u)∧((Calls prog 193 ⟨[.agg ⟨[I n,S o,I p,L q f e]⟩,.bool (decide (u=1)),B c]⟩ b fun D J =>
 ∃ v,D=.returned (I v)∧(z v J))∧True)) ((Calls prog 193 ⟨[.agg ⟨[I n,S o,I p,L q f e]⟩,B false,B c]⟩ b fun E K =>
 ∃ x,E=.returned (I x)∧(z x K))∧True))) (R (.returned (I 0)) A))
theorem q9c {d c b a R w} (h:q52 d c b a R w):Calls prog qza ⟨[L d c b,B a]⟩ w R:=qe Tryz.func151 (Eq.mpr (by kernel_rfl:fnV _ _ q7f _ _ _=_) h)
def q0z:Ann:=T F (T F (T (T F (.one (.loop 147573952589676412920 [(3,.one (.str)),(4,.one (.int .i64))] (T (T F (T F F)) (T (.one (T F (T (T F (T (T F F) F)) (T F (.cut 68451041344 [(6,.one (.str))] (T F (T F F)) (.cut 35115652612160 [(6,.one (.str))] (T F (T F F)) (T (T F (T (T F F) F)) F))))))) F))))) (T F F)))
def qzs (c5:Option Addr) (p:Nat) (f3:Nat) (R:Ending→World→Prop) (w:World):Prop :=
 ∃ (j:List UInt8→Int→World→Nat→Prop),(∃ f4,j ([]) 0 w f4)∧∀ b c k m,j b c k m→∀ _:Env,(br (decide ((c:Int) < ((p:Int)))) (idx c5 p c 4 fun y =>
 ∃ f2,k.cell? (y.add 0)=some (I f2)∧∃ M,k.cell? (y.add 1)=some (S M)∧∃ N,k.cell? (y.add 2)=some (I N)∧∃ O x v,k.cell? (y.add 3)=some (L O x v)∧al k 56 [I 0,S [],I 0,L none 0 0] fun a e6 =>
 stL e6 a 0 [I f2,S M,I N,L O x v] fun h =>
 ∃ Q,h.cell? (a.add 0)=some (I Q)∧br (decide (Q=1)) (∃ T,h.cell? (a.add 1)=some (S T)∧(sadd b T fun c6 =>
 ∃ z,z < m∧j c6 (i64.wrap (c + 1)) h z)) (∃ U,h.cell? (a.add 0)=some (I U)∧Calls prog 194 ⟨[I U]⟩ h fun b4 G =>
 ∃ V,b4=.returned (S V)∧(sadd ([60]) V fun F =>
 ∀ (n:List UInt8→World→Prop),(∀ (d:List UInt8) (r:World),(∀ _:Env,(∀ (o:List UInt8→World→Prop),(∀ (e:List UInt8) (s:World),(∀ _:Env,(∃ W,s.cell? (a.add 0)=some (I W)∧Calls prog 197 ⟨[I W]⟩ s fun b5 H =>
 ∃ X,b5=.returned (B X)∧br (!X) (sadd b e fun c7 =>
 sadd c7 ([47,62]) fun c8 =>
 ∃ A,A < m∧j c8 (i64.wrap (c + 1)) H A) (drw H fun i =>
 sadd b e fun c9 =>
 sadd c9 ([62]) fun q =>
 ∃ l g f,i.cell? (a.add 3)=some (L l g f)∧((Calls prog 152 ⟨[L l g f]⟩ i fun b6 J =>
 ∃ Y,b6=.returned (S Y)∧(sadd q Y fun d0 =>
 sadd d0 ([60,47]) fun d1 =>
 ∃ Z,J.cell? (a.add 0)=some (I Z)∧((Calls prog 194 ⟨[I Z]⟩ J fun b7 e7 =>
 ∃ a0,b7=.returned (S a0)∧(sadd d1 a0 fun d2 =>
 sadd d2 ([62]) fun d3 =>
 ∃ C,C < m∧j d3 (i64.wrap (c + 1)) e7 C))∧True)))∧((Calls prog 152 ⟨[L l g f]⟩ i fun b8 K =>
 ∃ a1,b8=.returned (S a1)∧(sadd q a1 fun d4 =>
 sadd d4 ([60,47]) fun d5 =>
 ∃ a2,K.cell? (a.add 0)=some (I a2)∧((Calls prog 194 ⟨[I a2]⟩ K fun b9 e8 =>
 ∃ a3,b9=.returned (S a3)∧(sadd d5 a3 fun d6 =>
 sadd d6 ([62]) fun d7 =>
 ∃ D,D < m∧j d7 (i64.wrap (c + 1)) e8 D))∧True)))∧(∃ a4,i.cell? (a.add 0)=some (I a4)∧((Calls prog 152 ⟨[L l g f]⟩ i fun c0 e9 =>
 ∃ a5,c0=.returned (S a5)∧(sadd q a5 fun d8 =>
 sadd d8 ([60,47]) fun d9 =>
 (Calls prog 194 ⟨[I a4]⟩ e9 fun c1 f0 =>
 ∃ a6,c1=.returned (S a6)∧(sadd d9 a6 fun e0 =>
 sadd e0 ([62]) fun e1 =>
 ∃ E,E < m∧j e1 (i64.wrap (c + 1)) f0 E))∧True))∧True))∧True)∧True))))→o e s)→(∃ a7,r.cell? (a.add 0)=some (I a7)∧Calls prog 196 ⟨[I a7]⟩ r fun c2 t =>
 ∃ a8,c2=.returned (B a8)∧br a8 (sadd d ([32]) fun e2 =>
 ∃ a9,t.cell? (a.add 2)=some (I a9)∧Calls prog 59 ⟨[I a9]⟩ t fun c3 f1 =>
 ∃ b0,c3=.returned (S b0)∧(sadd e2 b0 fun e3 =>
 o e3 f1)) (o d t))))→n d r)→(∃ b1,G.cell? (a.add 0)=some (I b1)∧Calls prog 195 ⟨[I b1]⟩ G fun c4 u =>
 ∃ b2,c4=.returned (B b2)∧br b2 (sadd F ([32]) fun e4 =>
 ∃ b3,u.cell? (a.add 1)=some (S b3)∧(sadd e4 b3 fun e5 =>
 n e5 u)) (n F u))))) (R (.returned (S b)) k))
theorem q4e {c b a R w} (h:qzs c b a R w):Calls prog qim ⟨[L c b a]⟩ w R:=qe Tryz.func152 (Eq.mpr (by kernel_rfl:fnV _ _ q0z _ _ _=_) h)
def qyw:Ann:=T F (T F (T F F))
def qwx (c:Fn) (a:Array Value) (b:Array Value) (j:Option Addr) (R:Ending→World→Prop) (w:World):Prop :=
 al w 57 [.func c a b] fun p r =>
 al r 89 [.nilFunc] fun i s =>
 stL s i 0 [.func (.func 154) ⟨[]⟩ ⟨[.pointer (some p),.pointer (some i)]⟩] fun k =>
 ∃ o g h,k.cell? i=some (.func o g h)∧(dr j fun q =>
 ∃ f e d,k.cell? q=some (L f e d)∧CallV prog (.func o g h) [L f e d] k fun l m =>
 ∃ n,l=.returned (B n)∧R (.returned (.tuple ⟨[]⟩)) m)
theorem ql8 {c a b d R w} (h:qwx c a b d R w):Calls prog qby ⟨[.func c a b,.pointer d]⟩ w R:=qe Tryz.func153 (Eq.mpr (by kernel_rfl:fnV _ _ qyw _ _ _=_) h)
def qth:Ann:=T F (T (T F (.one (.loop 33554000 [(9,.one (.int .i64))] (T F (T (T F F) (T (.one (T F (T F (T (T F F) F)))) F)))))) (T F F))
def qr2 (Q:Option Addr) (f:Nat) (X:Nat) (K:Option Addr) (M:Option Addr) (R:Ending→World→Prop) (w:World):Prop :=
 ∃ (J:Int→World→Nat→Prop),(∃ Y,J 0 w Y)∧∀ c d T,J c d T→∀ _:Env,(br (decide ((c:Int) < ((f:Int)))) (idx Q f c 4 fun q =>
 ∃ t,d.cell? (q.add 0)=some (I t)∧∃ u,d.cell? (q.add 1)=some (S u)∧∃ v,d.cell? (q.add 2)=some (I v)∧∃ x h g,d.cell? (q.add 3)=some (L x h g)∧al d 56 [I 0,S [],I 0,L none 0 0] fun a W =>
 stL W a 0 [I t,S u,I v,L x h g] fun b =>
 dr K fun U =>
 ∃ y i j,b.cell? U=some (.func y i j)∧∃ z,b.cell? (a.add 0)=some (I z)∧∃ A,b.cell? (a.add 1)=some (S A)∧∃ C,b.cell? (a.add 2)=some (I C)∧∃ D l k,b.cell? (a.add 3)=some (L D l k)∧CallV prog (.func y i j) [.agg ⟨[I z,S A,I C,L D l k]⟩] b fun N e =>
 ∃ E,N=.returned (B E)∧br (!E) (R (.returned (B false)) e) (dr M fun V =>
 ∃ F m n,e.cell? V=some (.func F m n)∧∃ G p o,e.cell? (a.add 3)=some (L G p o)∧CallV prog (.func F m n) [L G p o] e fun O s =>
 ∃ H,O=.returned (B H)∧br (!H) (R (.returned (B false)) s) (∃ r,r < T∧J (i64.wrap (c + 1)) s r))) (R (.returned (B true)) d))
theorem qiv {e b a c d R w} (h:qr2 e b a c d R w):Calls prog qe0 ⟨[L e b a,.pointer c,.pointer d]⟩ w R:=qe Tryz.func154 (Eq.mpr (by kernel_rfl:fnV _ _ qth _ _ _=_) h)
def qes:Ann:=T F (T F (T F (T F F)))
def qej (a:Option Addr) (b:List UInt8) (R:Ending→World→Prop) (w:World):Prop :=
 Calls prog 200 ⟨[.pointer a]⟩ w fun k h =>
 k=.returned (.tuple ⟨[]⟩)∧(dr a fun l =>
 ∃ i d c,h.cell? (l.add 1)=some (L i d c)∧app prog [114,9] 114 (L i d c) (S b) h fun j f e n =>
 dr a fun m =>
 stL n (m.add 1) 0 [L j f e] fun g =>
 R (.returned (.tuple ⟨[.int .i64 ((List.length b:Int)),.nilIface]⟩)) g)
theorem qey {a b R w} (h:qej a b R w):Calls prog qbx ⟨[.pointer a,S b]⟩ w R:=qe Tryz.func159 (Eq.mpr (by kernel_rfl:fnV _ _ qes _ _ _=_) h)
def q1b:Ann:=T F (T (T F (T (T F F) F)) (T F (T (T F (.one (.rf [2,3,4,14] 0))) (T F F))))
def qz4 (v:List UInt8) (R:Ending→World→Prop) (w:World):Prop :=
 al w 197 [L none 0 0] fun c Y =>
 al Y 28 [I 0] fun d V =>
 br (decide ((65536:Int) < ((List.length v:Int)))) (stL V c 0 [L none 0 0] fun Z =>
 stL Z d 0 [I 4] fun J =>
 ∃ W H G,J.cell? c=some (L W H G)∧∃ X,J.cell? d=some (I X)∧R (.returned (.tuple ⟨[L W H G,I X]⟩)) J) (al V 197 [L none 0 0] fun f M =>
 Calls prog 205 ⟨[S v]⟩ M fun K N =>
 ∃ x j k,K=.returned (.func x j k)∧∀ e:Env,RFw prog none 49 (cdAt Tryz.f161 [1,1,1,0,1,2]) (upd (upd (upd (upd e 14 (.func x j k)) 4 (.pointer (some f))) 3 (.pointer (some d))) 2 (.pointer (some c))) [] N 0 (fun a b =>
 ∃ B q p,b.cell? f=some (L B q p)∧stL b c 0 [L B q p] fun T =>
 stL T d 0 [I 0] fun U =>
 retD a U fun h =>
 ∃ C s r,h.cell? c=some (L C s r)∧∃ D,h.cell? d=some (I D)∧R (.returned (.tuple ⟨[L C s r,I D]⟩)) h) (fun a b =>
 retD a b fun i =>
 ∃ E u t,i.cell? c=some (L E u t)∧∃ F,i.cell? d=some (I F)∧R (.returned (.tuple ⟨[L E u t,I F]⟩)) i) (fun a b =>
 ∃ y m l,b.cell? f=some (L y m l)∧stL b c 0 [L y m l] fun O =>
 stL O d 0 [I 0] fun Q =>
 retD a Q fun g =>
 ∃ z o n,g.cell? c=some (L z o n)∧∃ A,g.cell? d=some (I A)∧R (.returned (.tuple ⟨[L z o n,I A]⟩)) g))
theorem q4p {a R w} (h:qz4 a R w):Calls prog qrn ⟨[S a]⟩ w R:=qe Tryz.func161 (Eq.mpr (by kernel_rfl:fnV _ _ q1b _ _ _=_) h)
def qhr:Ann:=T F F
def qhp:Ann:=.one (T F (.cut 4398045987584 [] (.one (T F (T (T F (T (T F F) F)) (T F (T (T F F) (T F (T (T F (T (T F F) F)) F))))))) (T F F)))
def quw (f:Option Addr) (g:Option Addr) (h:Option Addr) (a4:Fn) (K:Array Value) (M:Array Value) (k:Int) (a:List UInt8) (l:Nat) (Kn Kr Kx:World→World→Prop) (w:World):Prop :=
 Ext w w∧∀ c:World,Upd l w c→(al c 202 [I 0,S [],S [],I 0] fun b a5 =>
 stL a5 b 0 [I 1,S [],S a,I 0] fun m =>
 ∀ (j:World→Prop),(∀  (q:World),(∀ _:Env,(stL q (b.add 3) 0 [I k] fun d =>
 dr h fun V =>
 ∃ s o n,d.cell? V=some (L s o n)∧∃ t,d.cell? (b.add 0)=some (I t)∧∃ u,d.cell? (b.add 1)=some (S u)∧∃ v,d.cell? (b.add 2)=some (S v)∧∃ x,d.cell? (b.add 3)=some (I x)∧al d 202 [I t,S u,S v,I x] fun W a6 =>
 app prog [197,197] 197 (L s o n) (.slice (some W) 1 1) a6 fun N J H a7 =>
 dr h fun X =>
 stL a7 X 0 [L N J H] fun a8 =>
 Kn c a8))→j q)→(sidx a 0 fun O =>
 br (decide ((((O.toNat:Int)):Int)≠60)) (Calls prog 173 ⟨[S a]⟩ m fun T r =>
 ∃ y,T=.returned (I y)∧br (decide (y≠0)) (dr f fun Y =>
 stL r Y 0 [L none 0 0] fun a9 =>
 dr g fun Z =>
 stL a9 Z 0 [I 11] fun b0 =>
 Kr c b0) (j r)) (sidx a (i64.wrap (((List.length a:Int)) - 1)) fun Q =>
 br (decide ((((Q.toNat:Int)):Int)≠62)) (dr f fun a0 =>
 stL m a0 0 [L none 0 0] fun b1 =>
 dr g fun a1 =>
 stL b1 a1 0 [I 3] fun b2 =>
 Kr c b2) (Calls prog 206 ⟨[S a]⟩ m fun U b3 =>
 ∃ z A B C p,U=.returned (.tuple ⟨[.agg ⟨[I z,S A,S B,I C]⟩,I p]⟩)∧al b3 202 [I 0,S [],S [],I 0] fun i b4 =>
 stL b4 i 0 [I z,S A,S B,I C] fun e =>
 br (decide (p≠0)) (dr f fun a2 =>
 stL e a2 0 [L none 0 0] fun b5 =>
 dr g fun a3 =>
 stL b5 a3 0 [I p] fun b6 =>
 Kr c b6) (∃ D,e.cell? (i.add 0)=some (I D)∧∃ E,e.cell? (i.add 1)=some (S E)∧∃ F,e.cell? (i.add 2)=some (S F)∧∃ G,e.cell? (i.add 3)=some (I G)∧stL e b 0 [I D,S E,S F,I G] fun b7 =>
 j b7)))))
theorem quy (base:Env) (g:Option Addr) (h:Option Addr) (c:Option Addr) (d:Fn) (a:Array Value) (b:Array Value) (e:Int) (f:List UInt8) (l:Nat) (Kn Kr Kx:World→World→Prop) (w:World):fragV prog 49 qhr qhp (cdAt Tryz.f161 [1,1,1,0,1,2,5]) (cdAt Tryz.f161 [1,1,1,0,1,2,6]) l 0 Kn Kr Kx (updPs [15,16] [I e,S f] (upd (upd (upd (upd base 14 (.func d a b)) 4 (.pointer c)) 3 (.pointer h)) 2 (.pointer g))) w=quw g h c d a b e f l Kn Kr Kx w:=by kernel_rfl
theorem qu1:cdAt Tryz.f161 [1,1,1,0,1,2]=.rangeFunc (Operand.tmp 14) #[15,16] (cdAt Tryz.f161 [1,1,1,0,1,2,5]) (cdAt Tryz.f161 [1,1,1,0,1,2,6]):=by kernel_rfl
def qvk:Ann:=T F (T (T F (T (T F F) F)) (T F (T (T F (.one (.loop 562949953419308 [(3,.one (.slice)),(11,.one (.int .i64))] (T F (T (T F F) (T (.one (T F (T F (.one (T F (T (T F (T F (T (T F F) F))) (T F (T (.cut 8795556151300 [] (T F (T (T F F) F)) F) F)))))))) F)))))) (T (T F (T (T F F) F)) (T F F)))))
def qur (p:Option Addr) (h:Nat) (G:Nat) (R:Ending→World→Prop) (w:World):Prop :=
 Calls prog 207 ⟨[L p h G]⟩ w fun V T =>
 ∃ U,V=.returned (I U)∧(br (decide (U≠0)) (R (.returned (I 1)) T) (∃ (k:Option Addr→Nat→Nat→Int→World→Nat→Prop),(∃ K,k none 0 0 0 T K)∧∀ b a c d g n,k b a c d g n→∀ _:Env,(br (decide ((d:Int) < ((h:Int)))) (idx p h d 4 fun i =>
 ∃ v,g.cell? (i.add 0)=some (I v)∧∃ x,g.cell? (i.add 1)=some (S x)∧∃ y,g.cell? (i.add 2)=some (S y)∧∃ z,g.cell? (i.add 3)=some (I z)∧al g 202 [I 0,S [],S [],I 0] fun j O =>
 stL O j 0 [I v,S x,S y,I z] fun e =>
 ∃ m,e.cell? (j.add 0)=some (I m)∧br (decide (m=2)) (∃ A,e.cell? (j.add 1)=some (S A)∧al e 9 [S A] fun M Q =>
 app prog [31,31] 31 (L b a c) (.slice (some M) 1 1) Q fun H l D t =>
 br (decide ((16:Int) < ((l:Int)))) (R (.returned (I 4)) t) (∃ q,q < n∧k H l D (i64.wrap (d + 1)) t q)) (br (decide (m=3)) (∀ (o:World→Prop),(∀  (u:World),(∀ _:Env,(sls b c 0 (i64.wrap (((a:Int)) - 1)) 1 fun J F E =>
 ∃ r,r < n∧k J F E (i64.wrap (d + 1)) u r))→o u)→(drw e fun f =>
 br (decide ((((a:Int)):Int)=0)) (R (.returned (I 12)) f) (idx b a (i64.wrap (((a:Int)) - 1)) 1 fun N =>
 ∃ B,f.cell? N=some (S B)∧∃ C,f.cell? (j.add 1)=some (S C)∧br (decide (B≠C)) (R (.returned (I 12)) f) (o f)))) (∃ s,s < n∧k b a c (i64.wrap (d + 1)) e s))) (br (decide ((0:Int) < ((a:Int)))) (R (.returned (I 12)) g) (R (.returned (I 0)) g)))))
theorem qyf {c b a R w} (h:qur c b a R w):Calls prog qk1 ⟨[L c b a]⟩ w R:=qe Tryz.func162 (Eq.mpr (by kernel_rfl:fnV _ _ qvk _ _ _=_) h)
def qqm:Ann:=T F (T (T F (T (T F F) F)) (T F (T F (T (.one (T F (T F (T F (T F (T F (T F F))))))) (T F F)))))
def qou (e1:Int) (e2:List UInt8) (e3:List UInt8) (e4:Int) (R:Ending→World→Prop) (w:World):Prop :=
 al w 202 [I e1,S e2,S e3,I e4] fun m e5 =>
 al e5 56 [I 0,S [],I 0,L none 0 0] fun b H =>
 ∃ e0,H.cell? (m.add 0)=some (I e0)∧(br (decide (e0=1)) (∃ J,H.cell? (m.add 2)=some (S J)∧stL H b 0 [I 1,S J,I 0,L none 0 0] fun d =>
 ∃ K,d.cell? (b.add 0)=some (I K)∧∃ M,d.cell? (b.add 1)=some (S M)∧∃ N,d.cell? (b.add 2)=some (I N)∧∃ O o n,d.cell? (b.add 3)=some (L O o n)∧R (.returned (.agg ⟨[I K,S M,I N,L O o n]⟩)) d) (sls (some (⟨0,0,none⟩)) 12 0 (12:Nat) 4 fun d1 d0 c9 =>
 Calls prog 208 ⟨[L d1 d0 c9,.func (.func 209) ⟨[]⟩ ⟨[.pointer (some m)]⟩]⟩ H fun d2 d6 =>
 ∃ l,d2=.returned (I l)∧al d6 56 [I 0,S [],I 0,L none 0 0] fun a d7 =>
 stL d7 a 0 [I l,S [],I 0,L none 0 0] fun c =>
 br (decide (l < 0)) (stL c (a.add 0) 0 [I 0] fun e =>
 ∃ Q,e.cell? (a.add 0)=some (I Q)∧∃ T,e.cell? (a.add 1)=some (S T)∧∃ U,e.cell? (a.add 2)=some (I U)∧∃ V q p,e.cell? (a.add 3)=some (L V q p)∧stL e b 0 [I Q,S T,I U,L V q p] fun f =>
 ∃ W,f.cell? (b.add 0)=some (I W)∧∃ X,f.cell? (b.add 1)=some (S X)∧∃ Y,f.cell? (b.add 2)=some (I Y)∧∃ Z s r,f.cell? (b.add 3)=some (L Z s r)∧R (.returned (.agg ⟨[I W,S X,I Y,L Z s r]⟩)) f) (idx (some (⟨0,0,none⟩)) 12 l 4 fun d4 =>
 ∃ a0,c.cell? (d4.add 1)=some (B a0)∧br a0 (∃ a1,c.cell? (m.add 2)=some (S a1)∧stL c (a.add 1) 0 [S a1] fun g =>
 ∃ a2,g.cell? (a.add 0)=some (I a2)∧∃ a3,g.cell? (a.add 1)=some (S a3)∧∃ a4,g.cell? (a.add 2)=some (I a4)∧∃ a5 u t,g.cell? (a.add 3)=some (L a5 u t)∧stL g b 0 [I a2,S a3,I a4,L a5 u t] fun h =>
 ∃ a6,h.cell? (b.add 0)=some (I a6)∧∃ a7,h.cell? (b.add 1)=some (S a7)∧∃ a8,h.cell? (b.add 2)=some (I a8)∧∃ a9 x v,h.cell? (b.add 3)=some (L a9 x v)∧R (.returned (.agg ⟨[I a6,S a7,I a8,L a9 x v]⟩)) h) (idx (some (⟨0,0,none⟩)) 12 l 4 fun d5 =>
 ∃ b0,c.cell? (d5.add 2)=some (B b0)∧br b0 (∃ b1,c.cell? (m.add 2)=some (S b1)∧Calls prog 210 ⟨[S b1]⟩ c fun d3 d8 =>
 ∃ b2 d9,d3=.returned (.tuple ⟨[I b2,d9]⟩)∧stL d8 (a.add 2) 0 [I b2] fun i =>
 ∃ b3,i.cell? (a.add 0)=some (I b3)∧∃ b4,i.cell? (a.add 1)=some (S b4)∧∃ b5,i.cell? (a.add 2)=some (I b5)∧∃ b6 z y,i.cell? (a.add 3)=some (L b6 z y)∧stL i b 0 [I b3,S b4,I b5,L b6 z y] fun j =>
 ∃ b7,j.cell? (b.add 0)=some (I b7)∧∃ b8,j.cell? (b.add 1)=some (S b8)∧∃ b9,j.cell? (b.add 2)=some (I b9)∧∃ c0 C A,j.cell? (b.add 3)=some (L c0 C A)∧R (.returned (.agg ⟨[I b7,S b8,I b9,L c0 C A]⟩)) j) (∃ c1,c.cell? (a.add 0)=some (I c1)∧∃ c2,c.cell? (a.add 1)=some (S c2)∧∃ c3,c.cell? (a.add 2)=some (I c3)∧∃ c4 E D,c.cell? (a.add 3)=some (L c4 E D)∧stL c b 0 [I c1,S c2,I c3,L c4 E D] fun k =>
 ∃ c5,k.cell? (b.add 0)=some (I c5)∧∃ c6,k.cell? (b.add 1)=some (S c6)∧∃ c7,k.cell? (b.add 2)=some (I c7)∧∃ c8 G F,k.cell? (b.add 3)=some (L c8 G F)∧R (.returned (.agg ⟨[I c5,S c6,I c7,L c8 G F]⟩)) k)))))
theorem qsw {a b c d R w} (h:qou a b c d R w):Calls prog qec ⟨[.agg ⟨[I a,S b,S c,I d]⟩]⟩ w R:=qe Tryz.func163 (Eq.mpr (by kernel_rfl:fnV _ _ qqm _ _ _=_) h)
def q42:Ann:=T F (T (.one (.cut 262136 [(3,.one (.bool))] F (T (T F F) (.cut 536608768 [(18,.one (.bool))] F (T (T F F) (.cut 68182605824 [(29,.one (.bool))] F (T (T F F) (T F (T (T F F) (.cut 18889465930928825040896 [(39,.one (.bool))] F (T (T F F) (T F (T (T F F) F))))))))))))) (T F F))
def qo4 (a:Int) (R:Ending→World→Prop) (w:World):Prop :=
 ∀ (h:Bool→World→Prop),(∀ (i:Bool) (j:World),(∀ _:Env,(br i (R (.returned (I 1)) j) (∀ (k:Bool→World→Prop),(∀ (e:Bool) (l:World),(∀ _:Env,(br e (R (.returned (I 2)) l) (∀ (m:Bool→World→Prop),(∀ (f:Bool) (b:World),(∀ _:Env,(br f (R (.returned (I 3)) b) (br (decide ((a:Int)=39)) (R (.returned (I 4)) b) (∀ (c:Bool→World→Prop),(∀ (d:Bool) (g:World),(∀ _:Env,(br d (R (.returned (I 5)) g) (br (decide ((a:Int)=32)) (R (.returned (I 6)) g) (R (.returned (I 0)) g))))→c d g)→(br (decide ((a:Int)=46)) (c true b) (br (decide ((a:Int)=44)) (c true b) (br (decide ((a:Int)=59)) (c true b) (br (decide ((a:Int)=58)) (c true b) (br (decide ((a:Int)=33)) (c true b) (br (decide ((a:Int)=63)) (c true b) (br (decide ((a:Int)=40)) (c true b) (br (decide ((a:Int)=41)) (c true b) (c (decide ((a:Int)=45)) b)))))))))))))→m f b)→(br (decide ((48:Int)≤a)) (m (decide ((a:Int)≤57)) l) (m false l)))))→k e l)→(br (decide ((a:Int)=94)) (k true j) (br (decide ((a:Int)=126)) (k true j) (k (decide ((a:Int)=37)) j))))))→h i j)→(br (decide ((97:Int)≤a)) (br (decide ((a:Int)≤122)) (h true w) (br (decide ((65:Int)≤a)) (h (decide ((a:Int)≤90)) w) (h false w))) (br (decide ((65:Int)≤a)) (h (decide ((a:Int)≤90)) w) (h false w)))
theorem q7a {a R w} (h:qo4 a R w):Calls prog quc ⟨[.int .u8 a]⟩ w R:=qe Tryz.func166 (Eq.mpr (by kernel_rfl:fnV _ _ q42 _ _ _=_) h)
def qjc:Ann:=T F (T F (T F F))
def qi6 (c:Fn) (a:Array Value) (b:Array Value) (j:Option Addr) (R:Ending→World→Prop) (w:World):Prop :=
 al w 209 [.func c a b] fun p r =>
 al r 136 [.nilFunc] fun i s =>
 stL s i 0 [.func (.func 172) ⟨[]⟩ ⟨[.pointer (some p),.pointer (some i)]⟩] fun k =>
 ∃ o g h,k.cell? i=some (.func o g h)∧(dr j fun q =>
 ∃ f e d,k.cell? q=some (L f e d)∧CallV prog (.func o g h) [L f e d,I 0] k fun l m =>
 ∃ n,l=.returned (B n)∧R (.returned (.tuple ⟨[]⟩)) m)
theorem qep {c a b d R w} (h:qi6 c a b d R w):Calls prog qab ⟨[.func c a b,.pointer d]⟩ w R:=qe Tryz.func171 (Eq.mpr (by kernel_rfl:fnV _ _ qjc _ _ _=_) h)
def qhl:Ann:=T F (T F (T (T F (.one (.loop 1099511624384 [(7,.one (.bool)),(12,.one (.int .i64))] (T F (T (T F F) (T (.one (T F (T (T F (T (T F F) F)) F))) F)))))) (T F F)))
def qg9 (Y:Option Addr) (i:Nat) (a3:Nat) (b:Int) (U:Option Addr) (V:Option Addr) (R:Ending→World→Prop) (w:World):Prop :=
 ∃ (u:Bool→Int→World→Nat→Prop),(∃ Z,u false 0 w Z)∧∀ f a g T,u f a g T→∀ _:Env,(br (decide ((a:Int) < ((i:Int)))) (idx Y i a 4 fun h =>
 ∃ y,g.cell? (h.add 0)=some (I y)∧∃ z,g.cell? (h.add 1)=some (S z)∧∃ A,g.cell? (h.add 2)=some (I A)∧∃ C l k,g.cell? (h.add 3)=some (L C l k)∧al g 56 [I 0,S [],I 0,L none 0 0] fun c a2 =>
 stL a2 c 0 [I y,S z,I A,L C l k] fun d =>
 dr U fun a0 =>
 ∃ D m n,d.cell? a0=some (.func D m n)∧∃ E,d.cell? (c.add 0)=some (I E)∧∃ F,d.cell? (c.add 1)=some (S F)∧∃ G,d.cell? (c.add 2)=some (I G)∧∃ H p o,d.cell? (c.add 3)=some (L H p o)∧CallV prog (.func D m n) [.agg ⟨[I E,S F,I G,L H p o,I b,B f]⟩] d fun W e =>
 ∃ J,W=.returned (B J)∧br (!J) (R (.returned (B false)) e) (br (decide ((b:Int)≤16)) (dr V fun a1 =>
 ∃ K q r,e.cell? a1=some (.func K q r)∧∃ M t s,e.cell? (c.add 3)=some (L M t s)∧CallV prog (.func K q r) [L M t s,.int .i64 (i64.wrap (b + 1))] e fun X j =>
 ∃ N,X=.returned (B N)∧br (!N) (R (.returned (B false)) j) (∃ O,j.cell? (c.add 0)=some (I O)∧∃ v,v < T∧u (decide (O=1)) (i64.wrap (a + 1)) j v)) (∃ Q,e.cell? (c.add 0)=some (I Q)∧∃ x,x < T∧u (decide (Q=1)) (i64.wrap (a + 1)) e x))) (R (.returned (B true)) g))
theorem qdc {f c b a d e R w} (h:qg9 f c b a d e R w):Calls prog qbq ⟨[L f c b,I a,.pointer d,.pointer e]⟩ w R:=qe Tryz.func172 (Eq.mpr (by kernel_rfl:fnV _ _ qhl _ _ _=_) h)
def qvo:Ann:=T F (T (T F (T (T F F) F)) (T (T F (.one (.rf [2,10] 0))) (T F F)))
def quu (e:List UInt8) (R:Ending→World→Prop) (w:World):Prop :=
 al w 28 [I 0] fun b p =>
 br (decide ((65536:Int) < ((List.length e:Int)))) (stL p b 0 [I 4] fun q =>
 ∃ r,q.cell? b=some (I r)∧R (.returned (I r)) q) (Calls prog 217 ⟨[S e]⟩ p fun t u =>
 ∃ s l m,t=.returned (.func s l m)∧∀ d:Env,RFw prog none 22 (cdAt Tryz.f173 [1,1,0,1,2]) (upd (upd d 10 (.func s l m)) 2 (.pointer (some b))) [] u 0 (fun a c =>
 stL c b 0 [I 0] fun o =>
 retD a o fun g =>
 ∃ j,g.cell? b=some (I j)∧R (.returned (I j)) g) (fun a c =>
 retD a c fun h =>
 ∃ k,h.cell? b=some (I k)∧R (.returned (I k)) h) (fun a c =>
 stL c b 0 [I 0] fun n =>
 retD a n fun f =>
 ∃ i,f.cell? b=some (I i)∧R (.returned (I i)) f))
theorem qyi {a R w} (h:quu a R w):Calls prog qk4 ⟨[S a]⟩ w R:=qe Tryz.func173 (Eq.mpr (by kernel_rfl:fnV _ _ qvo _ _ _=_) h)
def qfu:Ann:=F
def qfr:Ann:=.one (T F (T F (T (T F F) F)))
def qpa (b:Option Addr) (m:Fn) (f:Array Value) (g:Array Value) (n:Value) (c:List UInt8) (l:Nat) (Kn Kr Kx:World→World→Prop) (w:World):Prop :=
 Ext w w∧∀ a:World,Upd l w a→(sidx c 0 fun h =>
 Calls prog 184 ⟨[.int .u8 ((h.toNat:Int))]⟩ a fun i d =>
 ∃ e,i=.returned (I e)∧br (decide (e=0)) (dr b fun j =>
 stL d j 0 [I 11] fun o =>
 Kr a o) (br (decide (e=2)) (dr b fun k =>
 stL d k 0 [I 11] fun p =>
 Kr a p) (Kn a d)))
theorem qpt (base:Env) (f:Option Addr) (c:Fn) (a:Array Value) (b:Array Value) (d:Value) (e:List UInt8) (l:Nat) (Kn Kr Kx:World→World→Prop) (w:World):fragV prog 22 qfu qfr (cdAt Tryz.f173 [1,1,0,1,2,5]) (cdAt Tryz.f173 [1,1,0,1,2,6]) l 0 Kn Kr Kx (updPs [11,12] [d,S e] (upd (upd base 10 (.func c a b)) 2 (.pointer f))) w=qpa f c a b d e l Kn Kr Kx w:=by kernel_rfl
theorem qp0:cdAt Tryz.f173 [1,1,0,1,2]=.rangeFunc (Operand.tmp 10) #[11,12] (cdAt Tryz.f173 [1,1,0,1,2,5]) (cdAt Tryz.f173 [1,1,0,1,2,6]):=by kernel_rfl
def qtj:Ann:=T F (.cut 65524 [] (T F (T (T F F) F)) (.cut 33488908 [] (T F (T F (T (T F F) F))) (T F F)))
def qr4 (a:List UInt8) (R:Ending→World→Prop) (w:World):Prop :=
 ∀ (h:World→Prop),(∀  (n:World),(∀ _:Env,(∀ (g:World→Prop),(∀  (o:World),(∀ _:Env,(s2b prog o 5 a fun p j i r =>
 Calls prog 218 ⟨[L p j i,.func (.func 219) #[] #[]]⟩ r fun q s =>
 ∃ e,q=.returned (B e)∧R (.returned (.bool (!e))) s))→g o)→(sidx a 0 fun k =>
 Calls prog 184 ⟨[.int .u8 ((k.toNat:Int))]⟩ n fun l b =>
 ∃ c,l=.returned (I c)∧br (decide (c≠1)) (br (decide (c≠3)) (R (.returned (B false)) b) (g b)) (g b))))→h n)→(br (decide ((a:List UInt8)=([]))) (R (.returned (B false)) w) (br (decide ((64:Int) < ((List.length a:Int)))) (R (.returned (B false)) w) (Calls prog 173 ⟨[S a]⟩ w fun m d =>
 ∃ f,m=.returned (I f)∧br (decide (f≠0)) (R (.returned (B false)) d) (h d))))
theorem qu9 {a R w} (h:qr4 a R w):Calls prog qi4 ⟨[S a]⟩ w R:=qe Tryz.func174 (Eq.mpr (by kernel_rfl:fnV _ _ qtj _ _ _=_) h)
def qjd:Ann:=T F (.one (.loop 9007199254740576 [(9,.one (.int .i64))] (T F (T (T F F) (T (.one (T F (T F (.one (T F (T F (T F (T (.cut 8761733283840 [] F (T F F)) F)))))))) F)))))
def qi7 (h0:Option Addr) (x:Nat) (k4:Nat) (d:Option Addr) (e9:Option Addr) (R:Ending→World→Prop) (w:World):Prop :=
 ∃ (k:Int→World→Nat→Prop),(∃ k5,k 0 w k5)∧∀ e l v,k e l v→∀ _:Env,(br (decide ((e:Int) < ((x:Int)))) (idx h0 x e 4 fun a1 =>
 ∃ a6,l.cell? (a1.add 0)=some (I a6)∧∃ a7,l.cell? (a1.add 1)=some (S a7)∧∃ a8,l.cell? (a1.add 2)=some (I a8)∧∃ a9 K J,l.cell? (a1.add 3)=some (L a9 K J)∧al l 56 [I 0,S [],I 0,L none 0 0] fun a i4 =>
 stL i4 a 0 [I a6,S a7,I a8,L a9 K J] fun g =>
 ∃ b0,g.cell? (a.add 0)=some (I b0)∧idx (some (⟨0,0,none⟩)) 12 b0 4 fun t =>
 ∃ b1,g.cell? (t.add 0)=some (S b1)∧∃ b2,g.cell? (t.add 1)=some (B b2)∧∃ b3,g.cell? (t.add 2)=some (B b3)∧∃ b4,g.cell? (t.add 3)=some (B b4)∧al g 211 [S [],B false,B false,B false] fun f i5 =>
 stL i5 f 0 [S b1,B b2,B b3,B b4] fun h =>
 ∃ b5,h.cell? (a.add 0)=some (I b5)∧br (decide (b5=1)) (∃ b6,h.cell? (a.add 1)=some (S b6)∧Calls prog 159 ⟨[.pointer d,S b6]⟩ h fun g0 i6 =>
 ∃ j4 j5,g0=.returned (.tuple ⟨[I j4,j5]⟩)∧∃ a2,a2 < v∧k (i64.wrap (e + 1)) i6 a2) (∃ b7,h.cell? (f.add 3)=some (B b7)∧br b7 (∀ (s:World→Prop),(∀  (u:World),(∀ _:Env,(dr e9 fun h1 =>
 ∃ b8 M N,u.cell? h1=some (.func b8 M N)∧∃ b9 Q O,u.cell? (a.add 3)=some (L b9 Q O)∧CallV prog (.func b8 M N) [L b9 Q O] u fun g1 a4 =>
 g1=.returned (.tuple ⟨[]⟩)∧∃ c0,a4.cell? (f.add 0)=some (S c0)∧(sadd ([60,47]) c0 fun h2 =>
 sadd h2 ([62]) fun h3 =>
 Calls prog 159 ⟨[.pointer d,S h3]⟩ a4 fun g2 i7 =>
 ∃ j6 j7,g2=.returned (.tuple ⟨[I j6,j7]⟩)∧∃ a3,a3 < v∧k (i64.wrap (e + 1)) i7 a3)))→s u)→(drw h fun b =>
 (∃ c1,b.cell? (f.add 0)=some (S c1)∧(sadd ([60]) c1 fun h4 =>
 ∃ c2,b.cell? (a.add 0)=some (I c2)∧∃ c3,b.cell? (a.add 1)=some (S c3)∧∃ c4,b.cell? (a.add 2)=some (I c4)∧∃ c5 U T,b.cell? (a.add 3)=some (L c5 U T)∧((Calls prog 176 ⟨[.agg ⟨[I c2,S c3,I c4,L c5 U T]⟩]⟩ b fun g3 i8 =>
 ∃ c6,g3=.returned (S c6)∧(sadd h4 c6 fun h5 =>
 sadd h5 ([62]) fun h6 =>
 (Calls prog 159 ⟨[.pointer d,S h6]⟩ i8 fun g4 i9 =>
 ∃ j8 j9,g4=.returned (.tuple ⟨[I j8,j9]⟩)∧(s i9))∧True))∧True)))∧(∃ V,b.cell? (a.add 0)=some (I V)∧∃ W,b.cell? (a.add 1)=some (S W)∧∃ X,b.cell? (a.add 2)=some (I X)∧∃ Y r q,b.cell? (a.add 3)=some (L Y r q)∧((∃ c7,b.cell? (f.add 0)=some (S c7)∧(sadd ([60]) c7 fun h7 =>
 (Calls prog 176 ⟨[.agg ⟨[I V,S W,I X,L Y r q]⟩]⟩ b fun g5 j0 =>
 ∃ c8,g5=.returned (S c8)∧(sadd h7 c8 fun h8 =>
 sadd h8 ([62]) fun h9 =>
 (Calls prog 159 ⟨[.pointer d,S h9]⟩ j0 fun g6 j1 =>
 ∃ k0 k1,g6=.returned (.tuple ⟨[I k0,k1]⟩)∧(s j1))∧True))∧True))∧(Calls prog 176 ⟨[.agg ⟨[I V,S W,I X,L Y r q]⟩]⟩ b fun g7 a5 =>
 ∃ c9,g7=.returned (S c9)∧∃ d0,a5.cell? (f.add 0)=some (S d0)∧(sadd ([60]) d0 fun i0 =>
 sadd i0 c9 fun i1 =>
 sadd i1 ([62]) fun i2 =>
 (Calls prog 159 ⟨[.pointer d,S i2]⟩ a5 fun g8 j2 =>
 ∃ k2 k3,g8=.returned (.tuple ⟨[I k2,k3]⟩)∧(s j2))∧True))∧True))∧True)) (drw h fun c =>
 (∃ d1,c.cell? (f.add 0)=some (S d1)∧(sadd ([60]) d1 fun i3 =>
 ∃ d2,c.cell? (a.add 0)=some (I d2)∧∃ d3,c.cell? (a.add 1)=some (S d3)∧∃ d4,c.cell? (a.add 2)=some (I d4)∧∃ d5 a0 Z,c.cell? (a.add 3)=some (L d5 a0 Z)∧((Calls prog 176 ⟨[.agg ⟨[I d2,S d3,I d4,L d5 a0 Z]⟩]⟩ c fun g9 j3 =>
 ∃ D,g9=.returned (S D)∧(sadd i3 D fun e1 =>
 sadd e1 ([47,62]) fun e2 =>
 (Calls prog 159 ⟨[.pointer d,S e2]⟩ j3 fun d6 f0 =>
 ∃ f4 f5,d6=.returned (.tuple ⟨[I f4,f5]⟩)∧∃ y,y < v∧k (i64.wrap (e + 1)) f0 y)∧True))∧True)))∧(∃ m,c.cell? (a.add 0)=some (I m)∧∃ n,c.cell? (a.add 1)=some (S n)∧∃ o,c.cell? (a.add 2)=some (I o)∧∃ p j i,c.cell? (a.add 3)=some (L p j i)∧((∃ E,c.cell? (f.add 0)=some (S E)∧(sadd ([60]) E fun e3 =>
 (Calls prog 176 ⟨[.agg ⟨[I m,S n,I o,L p j i]⟩]⟩ c fun d7 f1 =>
 ∃ F,d7=.returned (S F)∧(sadd e3 F fun e4 =>
 sadd e4 ([47,62]) fun e5 =>
 (Calls prog 159 ⟨[.pointer d,S e5]⟩ f1 fun d8 f2 =>
 ∃ f6 f7,d8=.returned (.tuple ⟨[I f6,f7]⟩)∧∃ z,z < v∧k (i64.wrap (e + 1)) f2 z)∧True))∧True))∧(Calls prog 176 ⟨[.agg ⟨[I m,S n,I o,L p j i]⟩]⟩ c fun d9 C =>
 ∃ G,d9=.returned (S G)∧∃ H,C.cell? (f.add 0)=some (S H)∧(sadd ([60]) H fun e6 =>
 sadd e6 G fun e7 =>
 sadd e7 ([47,62]) fun e8 =>
 (Calls prog 159 ⟨[.pointer d,S e8]⟩ C fun e0 f3 =>
 ∃ f8 f9,e0=.returned (.tuple ⟨[I f8,f9]⟩)∧∃ A,A < v∧k (i64.wrap (e + 1)) f3 A)∧True))∧True))∧True))) (R (.returned (.tuple ⟨[]⟩)) l))
theorem qke {e b a c d R w} (h:qi7 e b a c d R w):Calls prog qet ⟨[L e b a,.pointer c,.pointer d]⟩ w R:=qe Tryz.func175 (Eq.mpr (by kernel_rfl:fnV _ _ qjd _ _ _=_) h)
def qnz:Ann:=T F (T F (T (.one (T F (T (T F F) (T F (T (T F F) F))))) (T F F)))
def qmt (x:Int) (y:List UInt8) (z:Int) (A:Option Addr) (o:Nat) (n:Nat) (R:Ending→World→Prop) (w:World):Prop :=
 al w 56 [I x,S y,I z,L A o n] fun m b =>
 ∃ u,b.cell? (m.add 0)=some (I u)∧(idx (some (⟨0,0,none⟩)) 12 u 4 fun d =>
 ∃ v,b.cell? (d.add 0)=some (S v)∧∃ e,b.cell? (d.add 1)=some (B e)∧∃ f,b.cell? (d.add 2)=some (B f)∧∃ g,b.cell? (d.add 3)=some (B g)∧al b 211 [S [],B false,B false,B false] fun c s =>
 stL s c 0 [S v,B e,B f,B g] fun a =>
 ∃ h,a.cell? (c.add 1)=some (B h)∧br h (∃ i,a.cell? (m.add 1)=some (S i)∧(sadd ([32]) i fun q =>
 R (.returned (S q)) a)) (∃ j,a.cell? (c.add 2)=some (B j)∧br j (∃ k,a.cell? (m.add 2)=some (I k)∧Calls prog 59 ⟨[I k]⟩ a fun p t =>
 ∃ l,p=.returned (S l)∧(sadd ([32]) l fun r =>
 R (.returned (S r)) t)) (R (.returned (S [])) a)))
theorem qp3 {c d e f b a R w} (h:qmt c d e f b a R w):Calls prog qgk ⟨[.agg ⟨[I c,S d,I e,L f b a]⟩]⟩ w R:=qe Tryz.func176 (Eq.mpr (by kernel_rfl:fnV _ _ qnz _ _ _=_) h)
def qqx:Ann:=T F (T F (T (T F (.one (.loop 70368744176800 [(5,.one (.slice)),(10,.one (.int .i64))] (T F (T (T F F) (T (.one (T F (.one (T F (T F (T F (T (T F (T F (T F F))) F))))))) F)))))) (T F F)))
def qo6 (d6:Option Addr) (l:Nat) (f1:Nat) (c7:Option Addr) (n:Option Addr) (R:Ending→World→Prop) (w:World):Prop :=
 ∃ (k:Option Addr→Nat→Nat→Int→World→Nat→Prop),(∃ f2,k none 0 0 0 w f2)∧∀ f d c e i m,k f d c e i m→∀ _:Env,(br (decide ((e:Int) < ((l:Int)))) (idx d6 l e 4 fun j =>
 ∃ V,i.cell? (j.add 0)=some (I V)∧∃ W,i.cell? (j.add 1)=some (S W)∧∃ X,i.cell? (j.add 2)=some (I X)∧∃ Y p o,i.cell? (j.add 3)=some (L Y p o)∧al i 56 [I 0,S [],I 0,L none 0 0] fun a e1 =>
 stL e1 a 0 [I V,S W,I X,L Y p o] fun h =>
 ∃ Z,h.cell? (a.add 0)=some (I Z)∧∃ a0,h.cell? (a.add 1)=some (S a0)∧∃ a1,h.cell? (a.add 2)=some (I a1)∧∃ a2 r q,h.cell? (a.add 3)=some (L a2 r q)∧Calls prog 99 ⟨[.agg ⟨[I Z,S a0,I a1,L a2 r q]⟩]⟩ h fun d3 b =>
 ∃ a3,d3=.returned (B a3)∧br a3 (dr c7 fun d7 =>
 ∃ a4 s t,b.cell? d7=some (.func a4 s t)∧∃ a5,b.cell? (a.add 0)=some (I a5)∧∃ a6,b.cell? (a.add 1)=some (S a6)∧∃ a7,b.cell? (a.add 2)=some (I a7)∧∃ a8 v u,b.cell? (a.add 3)=some (L a8 v u)∧CallV prog (.func a4 s t) [.agg ⟨[I a5,S a6,I a7,L a8 v u]⟩,.func (.func 178) ⟨[]⟩ ⟨[.pointer n,.pointer (some a)]⟩] b fun d4 e2 =>
 ∃ a9 y x,d4=.returned (L a9 y x)∧app prog [43,43] 43 (L f d c) (L a9 y x) e2 fun d0 c2 c1 e3 =>
 ∃ O,O < m∧k d0 c2 c1 (i64.wrap (e + 1)) e3 O) (∃ e9 z c8,b.cell? (a.add 3)=some (L e9 z c8)∧br (decide ((0:Int) < (z))) (dr n fun d8 =>
 ∃ b0 A C,b.cell? d8=some (.func b0 A C)∧∃ b1 E D,b.cell? (a.add 3)=some (L b1 E D)∧CallV prog (.func b0 A C) [L b1 E D] b fun d5 e4 =>
 ∃ b2 G F,d5=.returned (L b2 G F)∧stL e4 (a.add 3) 0 [L b2 G F] fun g =>
 ∃ f0 H c9,g.cell? (a.add 3)=some (L f0 H c9)∧br (decide ((0:Int) < (H))) (∃ b3,g.cell? (a.add 0)=some (I b3)∧∃ b4,g.cell? (a.add 1)=some (S b4)∧∃ b5,g.cell? (a.add 2)=some (I b5)∧∃ b6 K J,g.cell? (a.add 3)=some (L b6 K J)∧al g 56 [I b3,S b4,I b5,L b6 K J] fun d9 e5 =>
 app prog [43,43] 43 (L f d c) (.slice (some d9) 1 1) e5 fun d1 c4 c3 e6 =>
 ∃ Q,Q < m∧k d1 c4 c3 (i64.wrap (e + 1)) e6 Q) (∃ T,T < m∧k f d c (i64.wrap (e + 1)) g T)) (∃ b7,b.cell? (a.add 0)=some (I b7)∧∃ b8,b.cell? (a.add 1)=some (S b8)∧∃ b9,b.cell? (a.add 2)=some (I b9)∧∃ c0 N M,b.cell? (a.add 3)=some (L c0 N M)∧al b 56 [I b7,S b8,I b9,L c0 N M] fun e0 e7 =>
 app prog [43,43] 43 (L f d c) (.slice (some e0) 1 1) e7 fun d2 c6 c5 e8 =>
 ∃ U,U < m∧k d2 c6 c5 (i64.wrap (e + 1)) e8 U))) (R (.returned (L f d c)) i))
theorem qs7 {e b a c d R w} (h:qo6 e b a c d R w):Calls prog qh7 ⟨[L e b a,.pointer c,.pointer d]⟩ w R:=qe Tryz.func177 (Eq.mpr (by kernel_rfl:fnV _ _ qqx _ _ _=_) h)
def ql1:Ann:=T F (T F F)
def qlo (g:Option Addr) (h:Option Addr) (R:Ending→World→Prop) (w:World):Prop :=
 dr g fun m =>
 ∃ i a b,w.cell? m=some (.func i a b)∧(dr h fun n =>
 ∃ j d c,w.cell? (n.add 3)=some (L j d c)∧CallV prog (.func i a b) [L j d c] w fun l o =>
 ∃ k f e,l=.returned (L k f e)∧R (.returned (L k f e)) o)
theorem qnu {a b R w} (h:qlo a b R w):Calls prog qoh ⟨[.pointer a,.pointer b]⟩ w R:=qe Tryz.func178 (Eq.mpr (by kernel_rfl:fnV _ _ ql1 _ _ _=_) h)
def qn2:Ann:=T F (T F (T (T F (.one (.loop 288230376151711336 [(3,.one (.slice)),(9,.one (.int .i64))] (T F (T (T F F) (T (.one (T F (.cut 2088960 [] (T F (T F F)) (T (T F (.cut 549739036672 [(38,.one (.bool))] F (T (T F F) F))) (T F F))))) F)))))) (T F F)))
def qmw (a2:Option Addr) (o:Nat) (b4:Nat) (R:Ending→World→Prop) (w:World):Prop :=
 ∃ (m:Option Addr→Nat→Nat→Int→World→Nat→Prop),(∃ b5,m none 0 0 0 w b5)∧∀ b a c e j z,m b a c e j z→∀ _:Env,(br (decide ((e:Int) < ((o:Int)))) (idx a2 o e 4 fun A =>
 ∃ b3,j.cell? (A.add 0)=some (I b3)∧∃ E,j.cell? (A.add 1)=some (S E)∧∃ F,j.cell? (A.add 2)=some (I F)∧∃ G r q,j.cell? (A.add 3)=some (L G r q)∧al j 56 [I 0,S [],I 0,L none 0 0] fun d a8 =>
 stL a8 d 0 [I b3,S E,I F,L G r q] fun h =>
 ∀ (n:World→Prop),(∀  (f:World),(∀ _:Env,(∀ (k:Bool→World→Prop),(∀ (g:Bool) (l:World),(∀ _:Env,(br g (drw l fun p =>
 idx b a (i64.wrap (((a:Int)) - 1)) 4 fun a3 =>
 ∃ H,p.cell? (a3.add 1)=some (S H)∧∃ J,p.cell? (d.add 1)=some (S J)∧(sadd H J fun a7 =>
 idx b a (i64.wrap (((a:Int)) - 1)) 4 fun a4 =>
 (stL p (a4.add 1) 0 [S a7] fun a9 =>
 ∃ B,B < z∧m b a c (i64.wrap (e + 1)) a9 B)∧True)) (∃ K t s,l.cell? (d.add 3)=some (L K t s)∧Calls prog 179 ⟨[L K t s]⟩ l fun a1 b0 =>
 ∃ M v u,a1=.returned (L M v u)∧stL b0 (d.add 3) 0 [L M v u] fun i =>
 ∃ N,i.cell? (d.add 0)=some (I N)∧∃ O,i.cell? (d.add 1)=some (S O)∧∃ Q,i.cell? (d.add 2)=some (I Q)∧∃ T y x,i.cell? (d.add 3)=some (L T y x)∧al i 56 [I N,S O,I Q,L T y x] fun a5 b1 =>
 app prog [43,43] 43 (L b a c) (.slice (some a5) 1 1) b1 fun a0 Z Y b2 =>
 ∃ C,C < z∧m a0 Z Y (i64.wrap (e + 1)) b2 C)))→k g l)→(br (decide ((0:Int)≤(i64.wrap (((a:Int)) - 1)))) (∃ U,f.cell? (d.add 0)=some (I U)∧br (decide (U=1)) (idx b a (i64.wrap (((a:Int)) - 1)) 4 fun a6 =>
 ∃ V,f.cell? (a6.add 0)=some (I V)∧(k (decide (V=1)) f)) (k false f)) (k false f))))→n f)→(∃ W,h.cell? (d.add 0)=some (I W)∧br (decide (W=1)) (∃ X,h.cell? (d.add 1)=some (S X)∧br (decide (X=([]))) (∃ D,D < z∧m b a c (i64.wrap (e + 1)) h D) (n h)) (n h))) (R (.returned (L b a c)) j))
theorem qgc {c b a R w} (h:qmw c b a R w):Calls prog qdi ⟨[L c b a]⟩ w R:=qe Tryz.func179 (Eq.mpr (by kernel_rfl:fnV _ _ qn2 _ _ _=_) h)
def qn8:Ann:=T F (T (T F (.one (.loop 524236 [(6,.one (.int .i64))] (T F (T (T F F) (T (.one (T F (T F (.one (T (T F (T F (T F (T F (T F (T F F)))))) (T F (T F F))))))) F)))))) (T F F))
def qm2 (j:List UInt8) (R:Ending→World→Prop) (w:World):Prop :=
 ∃ (d:Int→World→Nat→Prop),(∃ n,d 0 w n)∧∀ a k e,d a k e→∀ _:Env,(br (decide ((a:Int) < ((List.length j:Int)))) (sidx j a fun l =>
 Calls prog 184 ⟨[.int .u8 ((l.toNat:Int))]⟩ k fun m c =>
 ∃ b,m=.returned (I b)∧br (decide (b=1)) (br (decide (b=1)) (∃ f,f < e∧d (i64.wrap (a + 1)) c f) (R (.returned (B false)) c)) (br (decide (b=2)) (br (decide (b=2)) (∃ g,g < e∧d (i64.wrap (a + 1)) c g) (R (.returned (B false)) c)) (br (decide (b=3)) (br (decide (b=3)) (∃ h,h < e∧d (i64.wrap (a + 1)) c h) (R (.returned (B false)) c)) (br (decide (b=4)) (∃ i,i < e∧d (i64.wrap (a + 1)) c i) (R (.returned (B false)) c))))) (R (.returned (B true)) k))
theorem qqb {a R w} (h:qm2 a R w):Calls prog qgs ⟨[S a]⟩ w R:=qe Tryz.func180 (Eq.mpr (by kernel_rfl:fnV _ _ qn8 _ _ _=_) h)
def qqp:Ann:=T F (T F (T F F))
def qox (a:Int) (R:Ending→World→Prop) (w:World):Prop :=
 Calls prog 184 ⟨[.int .u8 a]⟩ w fun e g =>
 ∃ c,e=.returned (I c)∧(Calls prog 183 ⟨[.int .u8 a]⟩ g fun f b =>
 ∃ d,f=.returned (B d)∧br d (R (.returned (B true)) b) (br (decide (c=2)) (R (.returned (B true)) b) (R (.returned (.bool (decide (c=4)))) b)))
theorem qsz {a R w} (h:qox a R w):Calls prog qhz ⟨[.int .u8 a]⟩ w R:=qe Tryz.func181 (Eq.mpr (by kernel_rfl:fnV _ _ qqp _ _ _=_) h)
def qfe:Ann:=T F (T F (T F (T F F)))
def qe7 (a:Option Addr) (f:Int) (R:Ending→World→Prop) (w:World):Prop :=
 Calls prog 200 ⟨[.pointer a]⟩ w fun m j =>
 m=.returned (.tuple ⟨[]⟩)∧(dr a fun n =>
 ∃ k c b,j.cell? (n.add 1)=some (L k c b)∧al j 5 [.int .u8 f] fun o p =>
 app prog [114,114] 114 (L k c b) (.slice (some o) 1 1) p fun l e d h =>
 dr a fun g =>
 stL h (g.add 1) 0 [L l e d] fun i =>
 R (.returned (.nilIface)) i)
theorem qfo {a b R w} (h:qe7 a b R w):Calls prog qcc ⟨[.pointer a,.int .u8 b]⟩ w R:=qe Tryz.func182 (Eq.mpr (by kernel_rfl:fnV _ _ qfe _ _ _=_) h)
def qn6:Ann:=T F (T F (T F F))
def qm0 (b:Int) (R:Ending→World→Prop) (w:World):Prop :=
 Calls prog 184 ⟨[.int .u8 b]⟩ w fun d c =>
 ∃ a,d=.returned (I a)∧(br (decide (a=1)) (R (.returned (B true)) c) (R (.returned (.bool (decide (a=3)))) c))
theorem qp9 {a R w} (h:qm0 a R w):Calls prog qgq ⟨[.int .u8 a]⟩ w R:=qe Tryz.func183 (Eq.mpr (by kernel_rfl:fnV _ _ qn6 _ _ _=_) h)
def qyy:Ann:=T F (T (.one (.cut 262136 [(3,.one (.bool))] F (T (T F F) (.cut 536608768 [(18,.one (.bool))] F (T (T F F) (.cut 68182605824 [(29,.one (.bool))] F (T (T F F) (T F (T (T F F) (T F (T (T F F) (T F (T (T F F) F))))))))))))) (T F F))
def qjo (a:Int) (R:Ending→World→Prop) (w:World):Prop :=
 ∀ (e:Bool→World→Prop),(∀ (f:Bool) (g:World),(∀ _:Env,(br f (R (.returned (I 1)) g) (∀ (h:Bool→World→Prop),(∀ (c:Bool) (i:World),(∀ _:Env,(br c (R (.returned (I 2)) i) (∀ (l:Bool→World→Prop),(∀ (d:Bool) (b:World),(∀ _:Env,(br d (R (.returned (I 3)) b) (br (decide ((a:Int)=39)) (R (.returned (I 4)) b) (br (decide ((a:Int)=32)) (R (.returned (I 6)) b) (br (decide ((a:Int)≠0)) (Calls prog 220 ⟨[S [46,44,59,58,33,63,40,41,45],.int .u8 a]⟩ b fun m j =>
 ∃ k,m=.returned (I k)∧br (decide ((0:Int)≤k)) (R (.returned (I 5)) j) (R (.returned (I 0)) j)) (R (.returned (I 0)) b))))))→l d b)→(br (decide ((48:Int)≤a)) (l (decide ((a:Int)≤57)) i) (l false i)))))→h c i)→(br (decide ((a:Int)=94)) (h true g) (br (decide ((a:Int)=126)) (h true g) (h (decide ((a:Int)=37)) g))))))→e f g)→(br (decide ((97:Int)≤a)) (br (decide ((a:Int)≤122)) (e true w) (br (decide ((65:Int)≤a)) (e (decide ((a:Int)≤90)) w) (e false w))) (br (decide ((65:Int)≤a)) (e (decide ((a:Int)≤90)) w) (e false w)))
theorem q0r {a R w} (h:qjo a R w):Calls prog qmn ⟨[.int .u8 a]⟩ w R:=qe Tryz.func184 (Eq.mpr (by kernel_rfl:fnV _ _ qyy _ _ _=_) h)
def qqu:Ann:=T F (T (T F (T F (T (T F F) F))) (T F F))
def qo2 (c:Option Addr) (b:Nat) (a:Nat) (d:List UInt8) (R:Ending→World→Prop) (w:World):Prop :=
 Calls prog 221 ⟨[L c b a,S d]⟩ w fun k h =>
 ∃ g,k=.returned (I g)∧(br (decide (g≠0)) (R (.returned (.tuple ⟨[L none 0 0,I g]⟩)) h) (Calls prog 222 ⟨[L c b a,S d]⟩ h fun l m =>
 ∃ i f e j,l=.returned (.tuple ⟨[L i f e,I j]⟩)∧R (.returned (.tuple ⟨[L i f e,I j]⟩)) m))
theorem qs4 {c b a d R w} (h:qo2 c b a d R w):Calls prog qtl ⟨[L c b a,S d]⟩ w R:=qe Tryz.func185 (Eq.mpr (by kernel_rfl:fnV _ _ qqu _ _ _=_) h)
def qyo:Ann:=T F (T F (T (T F (.one (.loop 34359738360 [(3,.one (.slice)),(4,.one (.int .i64))] (T (T F (T F F)) (T (.one (T F (.one (.cut 251658240 [(24,.one (.bool))] (T F (T F (T F (T F F)))) (T F F))))) F))))) (T F F)))
def qwp (l:Option Addr) (f:Nat) (V:Nat) (R:Ending→World→Prop) (w:World):Prop :=
 ∃ (s:Option Addr→Nat→Nat→Int→World→Nat→Prop),(∃ W,s none 0 0 0 w W)∧∀ d b a e j G,s d b a e j G→∀ _:Env,(br (decide ((e:Int) < ((f:Int)))) (idx l f e 4 fun X =>
 ∃ k,j.cell? (X.add 0)=some (I k)∧∀ (h:Bool→World→Prop),(∀ (g:Bool) (c:World),(∀ _:Env,(br g (idx l f e 4 fun i =>
 ∃ v,c.cell? (i.add 0)=some (I v)∧∃ x,c.cell? (i.add 1)=some (S x)∧∃ y,c.cell? (i.add 2)=some (I y)∧∃ z n m,c.cell? (i.add 3)=some (L z n m)∧al c 56 [I v,S x,I y,L z n m] fun M O =>
 app prog [43,43] 43 (L d b a) (.slice (some M) 1 1) O fun H D C Q =>
 ∃ t,t < G∧s H D C (i64.wrap (e + 1)) Q t) (idx l f e 4 fun N =>
 ∃ A p o,c.cell? (N.add 3)=some (L A p o)∧Calls prog 186 ⟨[L A p o]⟩ c fun K T =>
 ∃ B r q,K=.returned (L B r q)∧app prog [43,43] 43 (L d b a) (L B r q) T fun J F E U =>
 ∃ u,u < G∧s J F E (i64.wrap (e + 1)) U u)))→h g c)→(br (decide (k=2)) (h (decide (k=2)) j) (br (decide (k=3)) (h (decide (k=3)) j) (h (decide (k=4)) j)))) (R (.returned (L d b a)) j))
theorem q0i {c b a R w} (h:qwp c b a R w):Calls prog qme ⟨[L c b a]⟩ w R:=qe Tryz.func186 (Eq.mpr (by kernel_rfl:fnV _ _ qyo _ _ _=_) h)
def q4x:Ann:=T F (T (T F (T (T F F) F)) (T F (T F F)))
def q25 (q:Int) (r:List UInt8) (s:Int) (t:Option Addr) (l:Nat) (k:Nat) (c:Option Addr) (a:Nat) (b:Nat) (R:Ending→World→Prop) (w:World):Prop :=
 al w 56 [I q,S r,I s,L t l k] fun d o =>
 br (decide ((((a:Int)):Int)=0)) (R (.returned (L none 0 0)) o) (stL o (d.add 3) 0 [L c a b] fun e =>
 ∃ p,e.cell? (d.add 0)=some (I p)∧∃ h,e.cell? (d.add 1)=some (S h)∧∃ i,e.cell? (d.add 2)=some (I i)∧∃ j g f,e.cell? (d.add 3)=some (L j g f)∧al e 56 [I p,S h,I i,L j g f] fun m n =>
 R (.returned (.slice (some m) 1 1)) n)
theorem q65 {f g i j e d c b a R w} (h:q25 f g i j e d c b a R w):Calls prog qt7 ⟨[.agg ⟨[I f,S g,I i,L j e d]⟩,L c b a]⟩ w R:=qe Tryz.func187 (Eq.mpr (by kernel_rfl:fnV _ _ q4x _ _ _=_) h)
def q05:Ann:=T F (T (T F (T (T F F) F)) (T F (T (T F (.one (.loop 17179867188 [(4,.one (.int .i64))] (T (T F (T F F)) (T (.one (T F (T F (T (T F F) F)))) F))))) (T F F))))
def qzy (c:List UInt8) (R:Ending→World→Prop) (w:World):Prop :=
 br (decide ((65536:Int) < ((List.length c:Int)))) (R (.returned (I 4)) w) (Calls prog 226 ⟨[S c]⟩ w fun q s =>
 ∃ o i p,q=.returned (L o i p)∧∃ (e:Int→World→Nat→Prop),(∃ r,e 0 s r)∧∀ a k j,e a k j→∀ _:Env,(br (decide ((a:Int) < ((List.length c:Int)))) (sidx c a fun l =>
 Calls prog 166 ⟨[.int .u8 ((l.toNat:Int))]⟩ k fun m b =>
 ∃ d,m=.returned (I d)∧br (decide (d=0)) (R (.returned (I 11)) b) (br (decide (d=2)) (idx o i a 1 fun n =>
 ∃ h,b.cell? n=some (B h)∧br (!h) (R (.returned (I 11)) b) (∃ f,f < j∧e (i64.wrap (a + 1)) b f)) (∃ g,g < j∧e (i64.wrap (a + 1)) b g))) (R (.returned (I 0)) k)))
theorem q4j {a R w} (h:qzy a R w):Calls prog qri ⟨[S a]⟩ w R:=qe Tryz.func192 (Eq.mpr (by kernel_rfl:fnV _ _ q05 _ _ _=_) h)
def qyp:Ann:=T F (.cut 562949953421248 [] (T F (T (T F F) F)) (.cut 295147342229399404608 [] (T F (T (T F F) F)) (T (T F (.one (T F (T (T (T F (T (T F F) F)) (T F (T (T F F) F))) (.cut 2266735911777429702574080 [(77,.one (.bool))] (T F (T F (T F (T F F)))) (T (T (T F (T (T F F) F)) (T F (T (T F F) F))) (T F (T (T F (T (T F F) F)) (T F (T (T F (T (T F F) F)) (.cut 1135814937804493543741046072016896 [(107,.one (.bool))] (T F (T F F)) (T (T F (T (T F F) F)) F)))))))))))) (T F F))))
def qwq (f0:Int) (f1:List UInt8) (f2:Int) (f3:Option Addr) (d1:Nat) (d0:Nat) (p:Bool) (q:Bool) (R:Ending→World→Prop) (w:World):Prop :=
 al w 56 [I f0,S f1,I f2,L f3 d1 d0] fun a d =>
 ∀ (j:World→Prop),(∀  (e:World),(∀ _:Env,(∀ (k:World→Prop),(∀  (g:World),(∀ _:Env,(∃ c,g.cell? (a.add 0)=some (I c)∧br (decide (c=1)) (∃ K,g.cell? (a.add 1)=some (S K)∧Calls prog 192 ⟨[S K]⟩ g fun d2 v =>
 ∃ M,d2=.returned (I M)∧br (decide (M≠0)) (R (.returned (I 11)) v) (br p (R (.returned (I 10)) v) (R (.returned (I 0)) v))) (∀ (r:Bool→World→Prop),(∀ (l:Bool) (b:World),(∀ _:Env,(br l (∃ N,b.cell? (a.add 1)=some (S N)∧Calls prog 93 ⟨[S N]⟩ b fun d3 m =>
 ∃ O,d3=.returned (B O)∧br (!O) (R (.returned (I 14)) m) (br q (∃ Q,m.cell? (a.add 0)=some (I Q)∧br (decide (Q=4)) (R (.returned (I 12)) m) (R (.returned (I 0)) m)) (R (.returned (I 0)) m))) (br (decide (c=10)) (∃ T,b.cell? (a.add 1)=some (S T)∧Calls prog 149 ⟨[S T]⟩ b fun d4 E =>
 ∃ U,d4=.returned (B U)∧br (!U) (R (.returned (I 14)) E) (R (.returned (I 0)) E)) (br (decide (c=6)) (∃ V,b.cell? (a.add 2)=some (I V)∧br (decide (V < 1)) (R (.returned (I 2)) b) (∃ W,b.cell? (a.add 2)=some (I W)∧br (decide ((64:Int) < W)) (R (.returned (I 2)) b) (R (.returned (I 0)) b))) (∀ (u:Bool→World→Prop),(∀ (i:Bool) (h:World),(∀ _:Env,(br i (∃ X,h.cell? (a.add 2)=some (I X)∧br (decide (X < 1)) (R (.returned (I 2)) h) (∃ Y,h.cell? (a.add 2)=some (I Y)∧br (decide ((8:Int) < Y)) (R (.returned (I 2)) h) (R (.returned (I 0)) h))) (R (.returned (I 0)) h)))→u i h)→(br (decide (c=8)) (u (decide (c=8)) b) (u (decide (c=9)) b)))))))→r l b)→(br (decide (c=3)) (r (decide (c=3)) g) (br (decide (c=4)) (r (decide (c=4)) g) (r (decide (c=11)) g))))))→k g)→(∃ Z,e.cell? (a.add 0)=some (I Z)∧br (decide (Z=1)) (∃ a0,e.cell? (a.add 1)=some (S a0)∧br (decide (a0=([]))) (R (.returned (I 5)) e) (∃ a1,e.cell? (a.add 0)=some (I a1)∧Calls prog 197 ⟨[I a1]⟩ e fun d5 s =>
 ∃ a2,d5=.returned (B a2)∧br a2 (∃ e4 x c4,s.cell? (a.add 3)=some (L e4 x c4)∧br (decide (((x):Int)=0)) (R (.returned (I 5)) s) (k s)) (k s))) (∃ a3,e.cell? (a.add 0)=some (I a3)∧Calls prog 197 ⟨[I a3]⟩ e fun d6 t =>
 ∃ a4,d6=.returned (B a4)∧br a4 (∃ e5 y c5,t.cell? (a.add 3)=some (L e5 y c5)∧br (decide (((y):Int)=0)) (R (.returned (I 5)) t) (k t)) (k t)))))→j e)→(∃ a5,d.cell? (a.add 0)=some (I a5)∧br (decide (a5 < 1)) (R (.returned (I 8)) d) (∃ a6,d.cell? (a.add 0)=some (I a6)∧br (decide ((11:Int) < a6)) (R (.returned (I 8)) d) (∃ a7,d.cell? (a.add 1)=some (S a7)∧br (decide (a7≠([]))) (∃ a8,d.cell? (a.add 0)=some (I a8)∧Calls prog 195 ⟨[I a8]⟩ d fun d7 f =>
 ∃ a9,d7=.returned (B a9)∧br (!a9) (R (.returned (I 8)) f) (∃ b0,f.cell? (a.add 2)=some (I b0)∧br (decide (b0≠0)) (∃ b1,f.cell? (a.add 0)=some (I b1)∧Calls prog 196 ⟨[I b1]⟩ f fun d8 n =>
 ∃ b2,d8=.returned (B b2)∧br (!b2) (R (.returned (I 8)) n) (∃ e6 z c6,n.cell? (a.add 3)=some (L e6 z c6)∧br (decide ((0:Int) < (z))) (∃ b3,n.cell? (a.add 0)=some (I b3)∧Calls prog 197 ⟨[I b3]⟩ n fun d9 F =>
 ∃ b4,d9=.returned (B b4)∧br (!b4) (R (.returned (I 8)) F) (j F)) (j n))) (∃ e7 A c7,f.cell? (a.add 3)=some (L e7 A c7)∧br (decide ((0:Int) < (A))) (∃ b5,f.cell? (a.add 0)=some (I b5)∧Calls prog 197 ⟨[I b5]⟩ f fun e0 G =>
 ∃ b6,e0=.returned (B b6)∧br (!b6) (R (.returned (I 8)) G) (j G)) (j f)))) (∃ b7,d.cell? (a.add 2)=some (I b7)∧br (decide (b7≠0)) (∃ b8,d.cell? (a.add 0)=some (I b8)∧Calls prog 196 ⟨[I b8]⟩ d fun e1 o =>
 ∃ b9,e1=.returned (B b9)∧br (!b9) (R (.returned (I 8)) o) (∃ e8 C c8,o.cell? (a.add 3)=some (L e8 C c8)∧br (decide ((0:Int) < (C))) (∃ c0,o.cell? (a.add 0)=some (I c0)∧Calls prog 197 ⟨[I c0]⟩ o fun e2 H =>
 ∃ c1,e2=.returned (B c1)∧br (!c1) (R (.returned (I 8)) H) (j H)) (j o))) (∃ e9 D c9,d.cell? (a.add 3)=some (L e9 D c9)∧br (decide ((0:Int) < (D))) (∃ c2,d.cell? (a.add 0)=some (I c2)∧Calls prog 197 ⟨[I c2]⟩ d fun e3 J =>
 ∃ c3,e3=.returned (B c3)∧br (!c3) (R (.returned (I 8)) J) (j J)) (j d))))))
theorem q0j {e f g i d c a b R w} (h:qwq e f g i d c a b R w):Calls prog qmf ⟨[.agg ⟨[I e,S f,I g,L i d c]⟩,B a,B b]⟩ w R:=qe Tryz.func193 (Eq.mpr (by kernel_rfl:fnV _ _ qyp _ _ _=_) h)
def q4z:Ann:=T F (T F F)
def q27 (a:Int) (R:Ending→World→Prop) (w:World):Prop :=
 al w 9 [S [],S [],S [108,98],S [112,98],S [115,101,99],S [118],S [103,97,112],S [117,110,99,108,101,97,114],S [97,100,100],S [100,101,108],S [97,98],S [110,97,109,101]] fun d b =>
 idx (some d) 12 a 1 fun e =>
 ∃ c,b.cell? e=some (S c)∧(R (.returned (S c)) b)
theorem q67 {a R w} (h:q27 a R w):Calls prog qt9 ⟨[I a]⟩ w R:=qe Tryz.func194 (Eq.mpr (by kernel_rfl:fnV _ _ q4z _ _ _=_) h)
def q0y:Ann:=T F (T F F)
def qzr (a:Int) (R:Ending→World→Prop) (w:World):Prop :=
 br (decide ((a:Int)=1)) (R (.returned (B true)) w) (br (decide ((a:Int)=3)) (R (.returned (B true)) w) (br (decide ((a:Int)=4)) (R (.returned (B true)) w) (br (decide ((a:Int)=10)) (R (.returned (B true)) w) (R (.returned (.bool (decide ((a:Int)=11)))) w))))
theorem q4d {a R w} (h:qzr a R w):Calls prog qrd ⟨[I a]⟩ w R:=qe Tryz.func195 (Eq.mpr (by kernel_rfl:fnV _ _ q0y _ _ _=_) h)
def qvg:Ann:=T F (T F F)
def qum (a:Int) (R:Ending→World→Prop) (w:World):Prop :=
 br (decide ((a:Int)=6)) (R (.returned (B true)) w) (br (decide ((a:Int)=8)) (R (.returned (B true)) w) (R (.returned (.bool (decide ((a:Int)=9)))) w))
theorem qyb {a R w} (h:qum a R w):Calls prog qkx ⟨[I a]⟩ w R:=qe Tryz.func196 (Eq.mpr (by kernel_rfl:fnV _ _ qvg _ _ _=_) h)
def q00:Ann:=T F (T F F)
def qzt (a:Int) (R:Ending→World→Prop) (w:World):Prop :=
 br (decide ((7:Int)≤a)) (R (.returned (.bool (decide ((a:Int)≤11)))) w) (R (.returned (B false)) w)
theorem q4f {a R w} (h:qzt a R w):Calls prog qre ⟨[I a]⟩ w R:=qe Tryz.func197 (Eq.mpr (by kernel_rfl:fnV _ _ q00 _ _ _=_) h)
def qyt:Ann:=T F (T F F)
def qwu (a:List UInt8) (R:Ending→World→Prop) (w:World):Prop :=
 al w 9 [S a] fun b c =>
 R (.returned (.func (.func 232) ⟨[]⟩ ⟨[.pointer (some b)]⟩)) c
theorem q0n {a R w} (h:qwu a R w):Calls prog qmi ⟨[S a]⟩ w R:=qe Tryz.func205 (Eq.mpr (by kernel_rfl:fnV _ _ qyt _ _ _=_) h)
end Go.Proofs
