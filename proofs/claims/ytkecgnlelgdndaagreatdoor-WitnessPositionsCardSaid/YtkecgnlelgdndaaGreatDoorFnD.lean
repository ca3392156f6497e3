/- Written by program: for each function its verification condition, that it is the code's (by the kernel), and that it gives the call. -/
import Derived.Test.YtkecgnlelgdndaaGreatDoorFn
set_option linter.all false
set_option maxRecDepth 100000
namespace Go.Proofs
open Go Go.Sh Go.Proofs.Tryz IntKind
def qlr:Ann:=T F (.one (.loop 17592186043968 [(9,.one (.int .i64))] (T F (T (T F F) (T (.one (T F (T (T F (.one (T F (T F (T F (T F (T F (T F (T F (T F F)))))))))) F))) F)))))
def qkh (c8:Option Addr) (k:Nat) (e5:Nat) (l:Option Addr) (g:Option Addr) (d:Option Addr) (R:Ending→World→Prop) (w:World):Prop :=
 ∃ (f:Int→World→Nat→Prop),(∃ e6,f 0 w e6)∧∀ b h j,f b h j→∀ _:Env,(br (decide ((b:Int) < ((k:Int)))) (idx c8 k b 4 fun i =>
 ∃ a1,h.cell? (i.add 0)=some (I a1)∧∃ a2,h.cell? (i.add 1)=some (S a2)∧∃ a3,h.cell? (i.add 2)=some (I a3)∧∃ a4 r q,h.cell? (i.add 3)=some (L a4 r q)∧al h 56 [I 0,S [],I 0,L none 0 0] fun c d9 =>
 stL d9 c 0 [I a1,S a2,I a3,L a4 r q] fun a =>
 ∃ e,a.cell? (c.add 0)=some (I e)∧br (decide (e=1)) (dr l fun c9 =>
 ∃ a5 s t,a.cell? c9=some (.func a5 s t)∧∃ a6,a.cell? (c.add 1)=some (S a6)∧CallV prog (.func a5 s t) [.int .i64 ((List.length a6:Int))] a fun c1 m =>
 c1=.returned (.tuple ⟨[]⟩)∧dr d fun d0 =>
 ∃ a7 u v,m.cell? d0=some (.func a7 u v)∧∃ a8 y x,m.cell? (c.add 3)=some (L a8 y x)∧CallV prog (.func a7 u v) [L a8 y x] m fun c2 e0 =>
 c2=.returned (.tuple ⟨[]⟩)∧∃ W,W < j∧f (i64.wrap (b + 1)) e0 W) (br (decide (e=6)) (dr l fun d1 =>
 ∃ a9 z A,a.cell? d1=some (.func a9 z A)∧∃ b0,a.cell? (c.add 2)=some (I b0)∧CallV prog (.func a9 z A) [I b0] a fun c3 n =>
 c3=.returned (.tuple ⟨[]⟩)∧dr d fun d2 =>
 ∃ b1 B C,n.cell? d2=some (.func b1 B C)∧∃ b2 E D,n.cell? (c.add 3)=some (L b2 E D)∧CallV prog (.func b1 B C) [L b2 E D] n fun c4 e1 =>
 c4=.returned (.tuple ⟨[]⟩)∧∃ X,X < j∧f (i64.wrap (b + 1)) e1 X) (br (decide (e=3)) (∃ b3,a.cell? (c.add 1)=some (S b3)∧dr g fun d3 =>
 stL a d3 0 [S b3,I 0] fun o =>
 dr d fun d4 =>
 ∃ b4 F G,o.cell? d4=some (.func b4 F G)∧∃ b5 J H,o.cell? (c.add 3)=some (L b5 J H)∧CallV prog (.func b4 F G) [L b5 J H] o fun c5 e2 =>
 c5=.returned (.tuple ⟨[]⟩)∧∃ Y,Y < j∧f (i64.wrap (b + 1)) e2 Y) (br (decide (e=2)) (dr g fun d5 =>
 ∃ b6,a.cell? (d5.add 1)=some (I b6)∧dr g fun d6 =>
 stL a (d6.add 1) 0 [.int .i64 (i64.wrap (b6 + 1))] fun p =>
 dr d fun d7 =>
 ∃ b7 K M,p.cell? d7=some (.func b7 K M)∧∃ b8 O N,p.cell? (c.add 3)=some (L b8 O N)∧CallV prog (.func b7 K M) [L b8 O N] p fun c6 e3 =>
 c6=.returned (.tuple ⟨[]⟩)∧∃ Z,Z < j∧f (i64.wrap (b + 1)) e3 Z) (dr d fun d8 =>
 ∃ b9 Q T,a.cell? d8=some (.func b9 Q T)∧∃ c0 V U,a.cell? (c.add 3)=some (L c0 V U)∧CallV prog (.func b9 Q T) [L c0 V U] a fun c7 e4 =>
 c7=.returned (.tuple ⟨[]⟩)∧∃ a0,a0 < j∧f (i64.wrap (b + 1)) e4 a0))))) (R (.returned (.tuple ⟨[]⟩)) h))
theorem qm6 {f b a c d e R w} (h:qkh f b a c d e R w):Calls prog qcp ⟨[L f b a,.pointer c,.pointer d,.pointer e]⟩ w R:=qe Tryz.func157 (Eq.mpr (by kernel_rfl:fnV _ _ qlr _ _ _=_) h)
def qu1:Ann:=T F (T F F)
def qtp (c:Option Addr) (b:Nat) (a:Nat) (R:Ending→World→Prop) (w:World):Prop :=
 al w 43 [L c b a] fun d e =>
 R (.returned (.func (.func 198) ⟨[]⟩ ⟨[.pointer (some d)]⟩)) e
theorem qwp {c b a R w} (h:qtp c b a R w):Calls prog qjs ⟨[L c b a]⟩ w R:=qe Tryz.func158 (Eq.mpr (by kernel_rfl:fnV _ _ qu1 _ _ _=_) h)
def qe7:Ann:=T F (T F (T F (T F F)))
def qe0 (a:Option Addr) (b:List UInt8) (R:Ending→World→Prop) (w:World):Prop :=
 Calls prog 200 ⟨[.pointer a]⟩ w fun k h =>
 k=.returned (.tuple ⟨[]⟩)∧(dr a fun l =>
 ∃ i d c,h.cell? (l.add 1)=some (L i d c)∧app prog [114,9] 114 (L i d c) (S b) h fun j f e n =>
 dr a fun m =>
 stL n (m.add 1) 0 [L j f e] fun g =>
 R (.returned (.tuple ⟨[.int .i64 ((List.length b:Int)),.nilIface]⟩)) g)
theorem qfd {a b R w} (h:qe0 a b R w):Calls prog qaw ⟨[.pointer a,S b]⟩ w R:=qe Tryz.func159 (Eq.mpr (by kernel_rfl:fnV _ _ qe7 _ _ _=_) h)
def q2y:Ann:=T F (T (T F (T (T F F) F)) (T F (T (T F (.one (.rf [2,3,4,14] 0))) (T F F))))
def q1t (v:List UInt8) (R:Ending→World→Prop) (w:World):Prop :=
 al w 197 [L none 0 0] fun c Y =>
 al Y 28 [I 0] fun d V =>
 br (decide ((65536:Int) < ((List.length v:Int)))) (stL V c 0 [L none 0 0] fun Z =>
 stL Z d 0 [I 4] fun J =>
 ∃ W H G,J.cell? c=some (L W H G)∧∃ X,J.cell? d=some (I X)∧R (.returned (.tuple ⟨[L W H G,I X]⟩)) J) (al V 197 [L none 0 0] fun f M =>
 Calls prog 205 ⟨[S v]⟩ M fun K N =>
 ∃ x j k,K=.returned (.func x j k)∧∀ e:Env,RFw prog none 49 (cdAt Tryz.f161 [1,1,1,0,1,2]) (upd (upd (upd (upd e 14 (.func x j k)) 4 (.pointer (some f))) 3 (.pointer (some d))) 2 (.pointer (some c))) [] N 0 (fun a b =>
 ∃ B q p,b.cell? f=some (L B q p)∧stL b c 0 [L B q p] fun T =>
 stL T d 0 [I 0] fun U =>
 retD a U fun h =>
 ∃ C s r,h.cell? c=some (L C s r)∧∃ D,h.cell? d=some (I D)∧R (.returned (.tuple ⟨[L C s r,I D]⟩)) h) (fun a b =>
 retD a b fun i =>
 ∃ E u t,i.cell? c=some (L E u t)∧∃ F,i.cell? d=some (I F)∧R (.returned (.tuple ⟨[L E u t,I F]⟩)) i) (fun a b =>
 ∃ y m l,b.cell? f=some (L y m l)∧stL b c 0 [L y m l] fun O =>
 stL O d 0 [I 0] fun Q =>
 retD a Q fun g =>
 ∃ z o n,g.cell? c=some (L z o n)∧∃ A,g.cell? d=some (I A)∧R (.returned (.tuple ⟨[L z o n,I A]⟩)) g))
theorem q55 {a R w} (h:q1t a R w):Calls prog qte ⟨[S a]⟩ w R:=qe Tryz.func161 (Eq.mpr (by kernel_rfl:fnV _ _ q2y _ _ _=_) h)
def qie:Ann:=T F F
def qic:Ann:=.one (T F (.cut 4398045987584 [] (.one (T F (T (T F (T (T F F) F)) (T F (T (T F F) (T F (T (T F (T (T F F) F)) F))))))) (T F F)))
def qwf (f:Option Addr) (g:Option Addr) (h:Option Addr) (a4:Fn) (K:Array Value) (M:Array Value) (k:Int) (a:List UInt8) (l:Nat) (Kn Kr Kx:World→World→Prop) (w:World):Prop :=
 Ext w w∧∀ c:World,Upd l w c→(al c 202 [I 0,S [],S [],I 0] fun b a5 =>
 stL a5 b 0 [I 1,S [],S a,I 0] fun m =>
 ∀ (j:World→Prop),(∀  (q:World),(∀ _:Env,(stL q (b.add 3) 0 [I k] fun d =>
 dr h fun V =>
 ∃ s o n,d.cell? V=some (L s o n)∧∃ t,d.cell? (b.add 0)=some (I t)∧∃ u,d.cell? (b.add 1)=some (S u)∧∃ v,d.cell? (b.add 2)=some (S v)∧∃ x,d.cell? (b.add 3)=some (I x)∧al d 202 [I t,S u,S v,I x] fun W a6 =>
 app prog [197,197] 197 (L s o n) (.slice (some W) 1 1) a6 fun N J H a7 =>
 dr h fun X =>
 stL a7 X 0 [L N J H] fun a8 =>
 Kn c a8))→j q)→(sidx a 0 fun O =>
 br (decide ((((O.toNat:Int)):Int)≠60)) (Calls prog 173 ⟨[S a]⟩ m fun T r =>
 ∃ y,T=.returned (I y)∧br (decide (y≠0)) (dr f fun Y =>
 stL r Y 0 [L none 0 0] fun a9 =>
 dr g fun Z =>
 stL a9 Z 0 [I 11] fun b0 =>
 Kr c b0) (j r)) (sidx a (i64.wrap (((List.length a:Int)) - 1)) fun Q =>
 br (decide ((((Q.toNat:Int)):Int)≠62)) (dr f fun a0 =>
 stL m a0 0 [L none 0 0] fun b1 =>
 dr g fun a1 =>
 stL b1 a1 0 [I 3] fun b2 =>
 Kr c b2) (Calls prog 206 ⟨[S a]⟩ m fun U b3 =>
 ∃ z A B C p,U=.returned (.tuple ⟨[.agg ⟨[I z,S A,S B,I C]⟩,I p]⟩)∧al b3 202 [I 0,S [],S [],I 0] fun i b4 =>
 stL b4 i 0 [I z,S A,S B,I C] fun e =>
 br (decide (p≠0)) (dr f fun a2 =>
 stL e a2 0 [L none 0 0] fun b5 =>
 dr g fun a3 =>
 stL b5 a3 0 [I p] fun b6 =>
 Kr c b6) (∃ D,e.cell? (i.add 0)=some (I D)∧∃ E,e.cell? (i.add 1)=some (S E)∧∃ F,e.cell? (i.add 2)=some (S F)∧∃ G,e.cell? (i.add 3)=some (I G)∧stL e b 0 [I D,S E,S F,I G] fun b7 =>
 j b7)))))
theorem qwh (base:Env) (g:Option Addr) (h:Option Addr) (c:Option Addr) (d:Fn) (a:Array Value) (b:Array Value) (e:Int) (f:List UInt8) (l:Nat) (Kn Kr Kx:World→World→Prop) (w:World):fragV prog 49 qie qic (cdAt Tryz.f161 [1,1,1,0,1,2,5]) (cdAt Tryz.f161 [1,1,1,0,1,2,6]) l 0 Kn Kr Kx (updPs [15,16] [I e,S f] (upd (upd (upd (upd base 14 (.func d a b)) 4 (.pointer c)) 3 (.pointer h)) 2 (.pointer g))) w=qwf g h c d a b e f l Kn Kr Kx w:=by kernel_rfl
theorem qwk:cdAt Tryz.f161 [1,1,1,0,1,2]=.rangeFunc (Operand.tmp 14) #[15,16] (cdAt Tryz.f161 [1,1,1,0,1,2,5]) (cdAt Tryz.f161 [1,1,1,0,1,2,6]):=by kernel_rfl
def qw1:Ann:=T F (T (T F (T (T F F) F)) (T F (T (T F (.one (.loop 562949953419308 [(3,.one (.slice)),(11,.one (.int .i64))] (T F (T (T F F) (T (.one (T F (T F (.one (T F (T (T F (T F (T (T F F) F))) (T F (T (.cut 8795556151300 [] (T F (T (T F F) F)) F) F)))))))) F)))))) (T (T F (T (T F F) F)) (T F F)))))
def qwa (p:Option Addr) (h:Nat) (G:Nat) (R:Ending→World→Prop) (w:World):Prop :=
 Calls prog 207 ⟨[L p h G]⟩ w fun V T =>
 ∃ U,V=.returned (I U)∧(br (decide (U≠0)) (R (.returned (I 1)) T) (∃ (k:Option Addr→Nat→Nat→Int→World→Nat→Prop),(∃ K,k none 0 0 0 T K)∧∀ b a c d g n,k b a c d g n→∀ _:Env,(br (decide ((d:Int) < ((h:Int)))) (idx p h d 4 fun i =>
 ∃ v,g.cell? (i.add 0)=some (I v)∧∃ x,g.cell? (i.add 1)=some (S x)∧∃ y,g.cell? (i.add 2)=some (S y)∧∃ z,g.cell? (i.add 3)=some (I z)∧al g 202 [I 0,S [],S [],I 0] fun j O =>
 stL O j 0 [I v,S x,S y,I z] fun e =>
 ∃ m,e.cell? (j.add 0)=some (I m)∧br (decide (m=2)) (∃ A,e.cell? (j.add 1)=some (S A)∧al e 9 [S A] fun M Q =>
 app prog [31,31] 31 (L b a c) (.slice (some M) 1 1) Q fun H l D t =>
 br (decide ((16:Int) < ((l:Int)))) (R (.returned (I 4)) t) (∃ q,q < n∧k H l D (i64.wrap (d + 1)) t q)) (br (decide (m=3)) (∀ (o:World→Prop),(∀  (u:World),(∀ _:Env,(sls b c 0 (i64.wrap (((a:Int)) - 1)) 1 fun J F E =>
 ∃ r,r < n∧k J F E (i64.wrap (d + 1)) u r))→o u)→(drw e fun f =>
 br (decide ((((a:Int)):Int)=0)) (R (.returned (I 12)) f) (idx b a (i64.wrap (((a:Int)) - 1)) 1 fun N =>
 ∃ B,f.cell? N=some (S B)∧∃ C,f.cell? (j.add 1)=some (S C)∧br (decide (B≠C)) (R (.returned (I 12)) f) (o f)))) (∃ s,s < n∧k b a c (i64.wrap (d + 1)) e s))) (br (decide ((0:Int) < ((a:Int)))) (R (.returned (I 12)) g) (R (.returned (I 0)) g)))))
theorem qz5 {c b a R w} (h:qwa c b a R w):Calls prog ql6 ⟨[L c b a]⟩ w R:=qe Tryz.func162 (Eq.mpr (by kernel_rfl:fnV _ _ qw1 _ _ _=_) h)
def qsg:Ann:=T F (T (T F (T (T F F) F)) (T F (T F (T (.one (T F (T F (T F (T F (T F (T F F))))))) (T F F)))))
def qqm (e1:Int) (e2:List UInt8) (e3:List UInt8) (e4:Int) (R:Ending→World→Prop) (w:World):Prop :=
 al w 202 [I e1,S e2,S e3,I e4] fun m e5 =>
 al e5 56 [I 0,S [],I 0,L none 0 0] fun b H =>
 ∃ e0,H.cell? (m.add 0)=some (I e0)∧(br (decide (e0=1)) (∃ J,H.cell? (m.add 2)=some (S J)∧stL H b 0 [I 1,S J,I 0,L none 0 0] fun d =>
 ∃ K,d.cell? (b.add 0)=some (I K)∧∃ M,d.cell? (b.add 1)=some (S M)∧∃ N,d.cell? (b.add 2)=some (I N)∧∃ O o n,d.cell? (b.add 3)=some (L O o n)∧R (.returned (.agg ⟨[I K,S M,I N,L O o n]⟩)) d) (sls (some (⟨0,0,none⟩)) 12 0 (12:Nat) 4 fun d1 d0 c9 =>
 Calls prog 208 ⟨[L d1 d0 c9,.func (.func 209) ⟨[]⟩ ⟨[.pointer (some m)]⟩]⟩ H fun d2 d6 =>
 ∃ l,d2=.returned (I l)∧al d6 56 [I 0,S [],I 0,L none 0 0] fun a d7 =>
 stL d7 a 0 [I l,S [],I 0,L none 0 0] fun c =>
 br (decide (l < 0)) (stL c (a.add 0) 0 [I 0] fun e =>
 ∃ Q,e.cell? (a.add 0)=some (I Q)∧∃ T,e.cell? (a.add 1)=some (S T)∧∃ U,e.cell? (a.add 2)=some (I U)∧∃ V q p,e.cell? (a.add 3)=some (L V q p)∧stL e b 0 [I Q,S T,I U,L V q p] fun f =>
 ∃ W,f.cell? (b.add 0)=some (I W)∧∃ X,f.cell? (b.add 1)=some (S X)∧∃ Y,f.cell? (b.add 2)=some (I Y)∧∃ Z s r,f.cell? (b.add 3)=some (L Z s r)∧R (.returned (.agg ⟨[I W,S X,I Y,L Z s r]⟩)) f) (idx (some (⟨0,0,none⟩)) 12 l 4 fun d4 =>
 ∃ a0,c.cell? (d4.add 1)=some (B a0)∧br a0 (∃ a1,c.cell? (m.add 2)=some (S a1)∧stL c (a.add 1) 0 [S a1] fun g =>
 ∃ a2,g.cell? (a.add 0)=some (I a2)∧∃ a3,g.cell? (a.add 1)=some (S a3)∧∃ a4,g.cell? (a.add 2)=some (I a4)∧∃ a5 u t,g.cell? (a.add 3)=some (L a5 u t)∧stL g b 0 [I a2,S a3,I a4,L a5 u t] fun h =>
 ∃ a6,h.cell? (b.add 0)=some (I a6)∧∃ a7,h.cell? (b.add 1)=some (S a7)∧∃ a8,h.cell? (b.add 2)=some (I a8)∧∃ a9 x v,h.cell? (b.add 3)=some (L a9 x v)∧R (.returned (.agg ⟨[I a6,S a7,I a8,L a9 x v]⟩)) h) (idx (some (⟨0,0,none⟩)) 12 l 4 fun d5 =>
 ∃ b0,c.cell? (d5.add 2)=some (B b0)∧br b0 (∃ b1,c.cell? (m.add 2)=some (S b1)∧Calls prog 210 ⟨[S b1]⟩ c fun d3 d8 =>
 ∃ b2 d9,d3=.returned (.tuple ⟨[I b2,d9]⟩)∧stL d8 (a.add 2) 0 [I b2] fun i =>
 ∃ b3,i.cell? (a.add 0)=some (I b3)∧∃ b4,i.cell? (a.add 1)=some (S b4)∧∃ b5,i.cell? (a.add 2)=some (I b5)∧∃ b6 z y,i.cell? (a.add 3)=some (L b6 z y)∧stL i b 0 [I b3,S b4,I b5,L b6 z y] fun j =>
 ∃ b7,j.cell? (b.add 0)=some (I b7)∧∃ b8,j.cell? (b.add 1)=some (S b8)∧∃ b9,j.cell? (b.add 2)=some (I b9)∧∃ c0 C A,j.cell? (b.add 3)=some (L c0 C A)∧R (.returned (.agg ⟨[I b7,S b8,I b9,L c0 C A]⟩)) j) (∃ c1,c.cell? (a.add 0)=some (I c1)∧∃ c2,c.cell? (a.add 1)=some (S c2)∧∃ c3,c.cell? (a.add 2)=some (I c3)∧∃ c4 E D,c.cell? (a.add 3)=some (L c4 E D)∧stL c b 0 [I c1,S c2,I c3,L c4 E D] fun k =>
 ∃ c5,k.cell? (b.add 0)=some (I c5)∧∃ c6,k.cell? (b.add 1)=some (S c6)∧∃ c7,k.cell? (b.add 2)=some (I c7)∧∃ c8 G F,k.cell? (b.add 3)=some (L c8 G F)∧R (.returned (.agg ⟨[I c5,S c6,I c7,L c8 G F]⟩)) k)))))
theorem qui {a b c d R w} (h:qqm a b c d R w):Calls prog qer ⟨[.agg ⟨[I a,S b,S c,I d]⟩]⟩ w R:=qe Tryz.func163 (Eq.mpr (by kernel_rfl:fnV _ _ qsg _ _ _=_) h)
def q6d:Ann:=T F (T (.one (.cut 262136 [(3,.one (.bool))] F (T (T F F) (.cut 536608768 [(18,.one (.bool))] F (T (T F F) (.cut 68182605824 [(29,.one (.bool))] F (T (T F F) (T F (T (T F F) (.cut 18889465930928825040896 [(39,.one (.bool))] F (T (T F F) (T F (T (T F F) F))))))))))))) (T F F))
def qqw (a:Int) (R:Ending→World→Prop) (w:World):Prop :=
 ∀ (h:Bool→World→Prop),(∀ (i:Bool) (j:World),(∀ _:Env,(br i (R (.returned (I 1)) j) (∀ (k:Bool→World→Prop),(∀ (e:Bool) (l:World),(∀ _:Env,(br e (R (.returned (I 2)) l) (∀ (m:Bool→World→Prop),(∀ (f:Bool) (b:World),(∀ _:Env,(br f (R (.returned (I 3)) b) (br (decide ((a:Int)=39)) (R (.returned (I 4)) b) (∀ (c:Bool→World→Prop),(∀ (d:Bool) (g:World),(∀ _:Env,(br d (R (.returned (I 5)) g) (br (decide ((a:Int)=32)) (R (.returned (I 6)) g) (R (.returned (I 0)) g))))→c d g)→(br (decide ((a:Int)=46)) (c true b) (br (decide ((a:Int)=44)) (c true b) (br (decide ((a:Int)=59)) (c true b) (br (decide ((a:Int)=58)) (c true b) (br (decide ((a:Int)=33)) (c true b) (br (decide ((a:Int)=63)) (c true b) (br (decide ((a:Int)=40)) (c true b) (br (decide ((a:Int)=41)) (c true b) (c (decide ((a:Int)=45)) b)))))))))))))→m f b)→(br (decide ((48:Int)≤a)) (m (decide ((a:Int)≤57)) l) (m false l)))))→k e l)→(br (decide ((a:Int)=94)) (k true j) (br (decide ((a:Int)=126)) (k true j) (k (decide ((a:Int)=37)) j))))))→h i j)→(br (decide ((97:Int)≤a)) (br (decide ((a:Int)≤122)) (h true w) (br (decide ((65:Int)≤a)) (h (decide ((a:Int)≤90)) w) (h false w))) (br (decide ((65:Int)≤a)) (h (decide ((a:Int)≤90)) w) (h false w)))
theorem q8m {a R w} (h:qqw a R w):Calls prog qvx ⟨[.int .u8 a]⟩ w R:=qe Tryz.func166 (Eq.mpr (by kernel_rfl:fnV _ _ q6d _ _ _=_) h)
def qj2:Ann:=T F (T F (T F F))
def qjw (c:Fn) (a:Array Value) (b:Array Value) (j:Option Addr) (R:Ending→World→Prop) (w:World):Prop :=
 al w 209 [.func c a b] fun p r =>
 al r 136 [.nilFunc] fun i s =>
 stL s i 0 [.func (.func 172) ⟨[]⟩ ⟨[.pointer (some p),.pointer (some i)]⟩] fun k =>
 ∃ o g h,k.cell? i=some (.func o g h)∧(dr j fun q =>
 ∃ f e d,k.cell? q=some (L f e d)∧CallV prog (.func o g h) [L f e d,I 0] k fun l m =>
 ∃ n,l=.returned (B n)∧R (.returned (.tuple ⟨[]⟩)) m)
theorem qe5 {c a b d R w} (h:qjw c a b d R w):Calls prog qaa ⟨[.func c a b,.pointer d]⟩ w R:=qe Tryz.func171 (Eq.mpr (by kernel_rfl:fnV _ _ qj2 _ _ _=_) h)
def qh8:Ann:=T F (T F (T (T F (.one (.loop 1099511624384 [(7,.one (.bool)),(12,.one (.int .i64))] (T F (T (T F F) (T (.one (T F (T (T F (T (T F F) F)) F))) F)))))) (T F F)))
def qhv (Y:Option Addr) (i:Nat) (a3:Nat) (b:Int) (U:Option Addr) (V:Option Addr) (R:Ending→World→Prop) (w:World):Prop :=
 ∃ (u:Bool→Int→World→Nat→Prop),(∃ Z,u false 0 w Z)∧∀ f a g T,u f a g T→∀ _:Env,(br (decide ((a:Int) < ((i:Int)))) (idx Y i a 4 fun h =>
 ∃ y,g.cell? (h.add 0)=some (I y)∧∃ z,g.cell? (h.add 1)=some (S z)∧∃ A,g.cell? (h.add 2)=some (I A)∧∃ C l k,g.cell? (h.add 3)=some (L C l k)∧al g 56 [I 0,S [],I 0,L none 0 0] fun c a2 =>
 stL a2 c 0 [I y,S z,I A,L C l k] fun d =>
 dr U fun a0 =>
 ∃ D m n,d.cell? a0=some (.func D m n)∧∃ E,d.cell? (c.add 0)=some (I E)∧∃ F,d.cell? (c.add 1)=some (S F)∧∃ G,d.cell? (c.add 2)=some (I G)∧∃ H p o,d.cell? (c.add 3)=some (L H p o)∧CallV prog (.func D m n) [.agg ⟨[I E,S F,I G,L H p o,I b,B f]⟩] d fun W e =>
 ∃ J,W=.returned (B J)∧br (!J) (R (.returned (B false)) e) (br (decide ((b:Int)≤16)) (dr V fun a1 =>
 ∃ K q r,e.cell? a1=some (.func K q r)∧∃ M t s,e.cell? (c.add 3)=some (L M t s)∧CallV prog (.func K q r) [L M t s,.int .i64 (i64.wrap (b + 1))] e fun X j =>
 ∃ N,X=.returned (B N)∧br (!N) (R (.returned (B false)) j) (∃ O,j.cell? (c.add 0)=some (I O)∧∃ v,v < T∧u (decide (O=1)) (i64.wrap (a + 1)) j v)) (∃ Q,e.cell? (c.add 0)=some (I Q)∧∃ x,x < T∧u (decide (Q=1)) (i64.wrap (a + 1)) e x))) (R (.returned (B true)) g))
theorem qdp {f c b a d e R w} (h:qhv f c b a d e R w):Calls prog qbt ⟨[L f c b,I a,.pointer d,.pointer e]⟩ w R:=qe Tryz.func172 (Eq.mpr (by kernel_rfl:fnV _ _ qh8 _ _ _=_) h)
def qw5:Ann:=T F (T (T F (T (T F F) F)) (T (T F (.one (.rf [2,10] 0))) (T F F)))
def qwd (e:List UInt8) (R:Ending→World→Prop) (w:World):Prop :=
 al w 28 [I 0] fun b p =>
 br (decide ((65536:Int) < ((List.length e:Int)))) (stL p b 0 [I 4] fun q =>
 ∃ r,q.cell? b=some (I r)∧R (.returned (I r)) q) (Calls prog 217 ⟨[S e]⟩ p fun t u =>
 ∃ s l m,t=.returned (.func s l m)∧∀ d:Env,RFw prog none 22 (cdAt Tryz.f173 [1,1,0,1,2]) (upd (upd d 10 (.func s l m)) 2 (.pointer (some b))) [] u 0 (fun a c =>
 stL c b 0 [I 0] fun o =>
 retD a o fun g =>
 ∃ j,g.cell? b=some (I j)∧R (.returned (I j)) g) (fun a c =>
 retD a c fun h =>
 ∃ k,h.cell? b=some (I k)∧R (.returned (I k)) h) (fun a c =>
 stL c b 0 [I 0] fun n =>
 retD a n fun f =>
 ∃ i,f.cell? b=some (I i)∧R (.returned (I i)) f))
theorem qz8 {a R w} (h:qwd a R w):Calls prog ql9 ⟨[S a]⟩ w R:=qe Tryz.func173 (Eq.mpr (by kernel_rfl:fnV _ _ qw5 _ _ _=_) h)
def qge:Ann:=F
def qgb:Ann:=.one (T F (T F (T (T F F) F)))
def qq3 (b:Option Addr) (m:Fn) (f:Array Value) (g:Array Value) (n:Value) (c:List UInt8) (l:Nat) (Kn Kr Kx:World→World→Prop) (w:World):Prop :=
 Ext w w∧∀ a:World,Upd l w a→(sidx c 0 fun h =>
 Calls prog 184 ⟨[.int .u8 ((h.toNat:Int))]⟩ a fun i d =>
 ∃ e,i=.returned (I e)∧br (decide (e=0)) (dr b fun j =>
 stL d j 0 [I 11] fun o =>
 Kr a o) (br (decide (e=2)) (dr b fun k =>
 stL d k 0 [I 11] fun p =>
 Kr a p) (Kn a d)))
theorem qro (base:Env) (f:Option Addr) (c:Fn) (a:Array Value) (b:Array Value) (d:Value) (e:List UInt8) (l:Nat) (Kn Kr Kx:World→World→Prop) (w:World):fragV prog 22 qge qgb (cdAt Tryz.f173 [1,1,0,1,2,5]) (cdAt Tryz.f173 [1,1,0,1,2,6]) l 0 Kn Kr Kx (updPs [11,12] [d,S e] (upd (upd base 10 (.func c a b)) 2 (.pointer f))) w=qq3 f c a b d e l Kn Kr Kx w:=by kernel_rfl
theorem qrt:cdAt Tryz.f173 [1,1,0,1,2]=.rangeFunc (Operand.tmp 10) #[11,12] (cdAt Tryz.f173 [1,1,0,1,2,5]) (cdAt Tryz.f173 [1,1,0,1,2,6]):=by kernel_rfl
def qu5:Ann:=T F (.cut 65524 [] (T F (T (T F F) F)) (.cut 33488908 [] (T F (T F (T (T F F) F))) (T F F)))
def qtt (a:List UInt8) (R:Ending→World→Prop) (w:World):Prop :=
 ∀ (h:World→Prop),(∀  (n:World),(∀ _:Env,(∀ (g:World→Prop),(∀  (o:World),(∀ _:Env,(s2b prog o 5 a fun p j i r =>
 Calls prog 218 ⟨[L p j i,.func (.func 219) #[] #[]]⟩ r fun q s =>
 ∃ e,q=.returned (B e)∧R (.returned (.bool (!e))) s))→g o)→(sidx a 0 fun k =>
 Calls prog 184 ⟨[.int .u8 ((k.toNat:Int))]⟩ n fun l b =>
 ∃ c,l=.returned (I c)∧br (decide (c≠1)) (br (decide (c≠3)) (R (.returned (B false)) b) (g b)) (g b))))→h n)→(br (decide ((a:List UInt8)=([]))) (R (.returned (B false)) w) (br (decide ((64:Int) < ((List.length a:Int)))) (R (.returned (B false)) w) (Calls prog 173 ⟨[S a]⟩ w fun m d =>
 ∃ f,m=.returned (I f)∧br (decide (f≠0)) (R (.returned (B false)) d) (h d))))
theorem qwr {a R w} (h:qtt a R w):Calls prog qju ⟨[S a]⟩ w R:=qe Tryz.func174 (Eq.mpr (by kernel_rfl:fnV _ _ qu5 _ _ _=_) h)
def qj3:Ann:=T F (.one (.loop 9007199254740576 [(9,.one (.int .i64))] (T F (T (T F F) (T (.one (T F (T F (.one (T F (T F (T F (T (.cut 8761733283840 [] F (T F F)) F)))))))) F)))))
def qjx (h0:Option Addr) (x:Nat) (k4:Nat) (d:Option Addr) (e9:Option Addr) (R:Ending→World→Prop) (w:World):Prop :=
 ∃ (k:Int→World→Nat→Prop),(∃ k5,k 0 w k5)∧∀ e l v,k e l v→∀ _:Env,(br (decide ((e:Int) < ((x:Int)))) (idx h0 x e 4 fun a1 =>
 ∃ a6,l.cell? (a1.add 0)=some (I a6)∧∃ a7,l.cell? (a1.add 1)=some (S a7)∧∃ a8,l.cell? (a1.add 2)=some (I a8)∧∃ a9 K J,l.cell? (a1.add 3)=some (L a9 K J)∧al l 56 [I 0,S [],I 0,L none 0 0] fun a i4 =>
 stL i4 a 0 [I a6,S a7,I a8,L a9 K J] fun g =>
 ∃ b0,g.cell? (a.add 0)=some (I b0)∧idx (some (⟨0,0,none⟩)) 12 b0 4 fun t =>
 ∃ b1,g.cell? (t.add 0)=some (S b1)∧∃ b2,g.cell? (t.add 1)=some (B b2)∧∃ b3,g.cell? (t.add 2)=some (B b3)∧∃ b4,g.cell? (t.add 3)=some (B b4)∧al g 211 [S [],B false,B false,B false] fun f i5 =>
 stL i5 f 0 [S b1,B b2,B b3,B b4] fun h =>
 ∃ b5,h.cell? (a.add 0)=some (I b5)∧br (decide (b5=1)) (∃ b6,h.cell? (a.add 1)=some (S b6)∧Calls prog 159 ⟨[.pointer d,S b6]⟩ h fun g0 i6 =>
 ∃ j4 j5,g0=.returned (.tuple ⟨[I j4,j5]⟩)∧∃ a2,a2 < v∧k (i64.wrap (e + 1)) i6 a2) (∃ b7,h.cell? (f.add 3)=some (B b7)∧br b7 (∀ (s:World→Prop),(∀  (u:World),(∀ _:Env,(dr e9 fun h1 =>
 ∃ b8 M N,u.cell? h1=some (.func b8 M N)∧∃ b9 Q O,u.cell? (a.add 3)=some (L b9 Q O)∧CallV prog (.func b8 M N) [L b9 Q O] u fun g1 a4 =>
 g1=.returned (.tuple ⟨[]⟩)∧∃ c0,a4.cell? (f.add 0)=some (S c0)∧(sadd ([60,47]) c0 fun h2 =>
 sadd h2 ([62]) fun h3 =>
 Calls prog 159 ⟨[.pointer d,S h3]⟩ a4 fun g2 i7 =>
 ∃ j6 j7,g2=.returned (.tuple ⟨[I j6,j7]⟩)∧∃ a3,a3 < v∧k (i64.wrap (e + 1)) i7 a3)))→s u)→(drw h fun b =>
 (∃ c1,b.cell? (f.add 0)=some (S c1)∧(sadd ([60]) c1 fun h4 =>
 ∃ c2,b.cell? (a.add 0)=some (I c2)∧∃ c3,b.cell? (a.add 1)=some (S c3)∧∃ c4,b.cell? (a.add 2)=some (I c4)∧∃ c5 U T,b.cell? (a.add 3)=some (L c5 U T)∧((Calls prog 176 ⟨[.agg ⟨[I c2,S c3,I c4,L c5 U T]⟩]⟩ b fun g3 i8 =>
 ∃ c6,g3=.returned (S c6)∧(sadd h4 c6 fun h5 =>
 sadd h5 ([62]) fun h6 =>
 (Calls prog 159 ⟨[.pointer d,S h6]⟩ i8 fun g4 i9 =>
 ∃ j8 j9,g4=.returned (.tuple ⟨[I j8,j9]⟩)∧(s i9))∧True))∧True)))∧(∃ V,b.cell? (a.add 0)=some (I V)∧∃ W,b.cell? (a.add 1)=some (S W)∧∃ X,b.cell? (a.add 2)=some (I X)∧∃ Y r q,b.cell? (a.add 3)=some (L Y r q)∧((∃ c7,b.cell? (f.add 0)=some (S c7)∧(sadd ([60]) c7 fun h7 =>
 (Calls prog 176 ⟨[.agg ⟨[I V,S W,I X,L Y r q]⟩]⟩ b fun g5 j0 =>
 ∃ c8,g5=.returned (S c8)∧(sadd h7 c8 fun h8 =>
 sadd h8 ([62]) fun h9 =>
 (Calls prog 159 ⟨[.pointer d,S h9]⟩ j0 fun g6 j1 =>
 ∃ k0 k1,g6=.returned (.tuple ⟨[I k0,k1]⟩)∧(s j1))∧True))∧True))∧(Calls prog 176 ⟨[.agg ⟨[I V,S W,I X,L Y r q]⟩]⟩ b fun g7 a5 =>
 ∃ c9,g7=.returned (S c9)∧∃ d0,a5.cell? (f.add 0)=some (S d0)∧(sadd ([60]) d0 fun i0 =>
 sadd i0 c9 fun i1 =>
 sadd i1 ([62]) fun i2 =>
 (Calls prog 159 ⟨[.pointer d,S i2]⟩ a5 fun g8 j2 =>
 ∃ k2 k3,g8=.returned (.tuple ⟨[I k2,k3]⟩)∧(s j2))∧True))∧True))∧True)) (drw h fun c =>
 (∃ d1,c.cell? (f.add 0)=some (S d1)∧(sadd ([60]) d1 fun i3 =>
 ∃ d2,c.cell? (a.add 0)=some (I d2)∧∃ d3,c.cell? (a.add 1)=some (S d3)∧∃ d4,c.cell? (a.add 2)=some (I d4)∧∃ d5 a0 Z,c.cell? (a.add 3)=some (L d5 a0 Z)∧((Calls prog 176 ⟨[.agg ⟨[I d2,S d3,I d4,L d5 a0 Z]⟩]⟩ c fun g9 j3 =>
 ∃ D,g9=.returned (S D)∧(sadd i3 D fun e1 =>
 sadd e1 ([47,62]) fun e2 =>
 (Calls prog 159 ⟨[.pointer d,S e2]⟩ j3 fun d6 f0 =>
 ∃ f4 f5,d6=.returned (.tuple ⟨[I f4,f5]⟩)∧∃ y,y < v∧k (i64.wrap (e + 1)) f0 y)∧True))∧True)))∧(∃ m,c.cell? (a.add 0)=some (I m)∧∃ n,c.cell? (a.add 1)=some (S n)∧∃ o,c.cell? (a.add 2)=some (I o)∧∃ p j i,c.cell? (a.add 3)=some (L p j i)∧((∃ E,c.cell? (f.add 0)=some (S E)∧(sadd ([60]) E fun e3 =>
 (Calls prog 176 ⟨[.agg ⟨[I m,S n,I o,L p j i]⟩]⟩ c fun d7 f1 =>
 ∃ F,d7=.returned (S F)∧(sadd e3 F fun e4 =>
 sadd e4 ([47,62]) fun e5 =>
 (Calls prog 159 ⟨[.pointer d,S e5]⟩ f1 fun d8 f2 =>
 ∃ f6 f7,d8=.returned (.tuple ⟨[I f6,f7]⟩)∧∃ z,z < v∧k (i64.wrap (e + 1)) f2 z)∧True))∧True))∧(Calls prog 176 ⟨[.agg ⟨[I m,S n,I o,L p j i]⟩]⟩ c fun d9 C =>
 ∃ G,d9=.returned (S G)∧∃ H,C.cell? (f.add 0)=some (S H)∧(sadd ([60]) H fun e6 =>
 sadd e6 G fun e7 =>
 sadd e7 ([47,62]) fun e8 =>
 (Calls prog 159 ⟨[.pointer d,S e8]⟩ C fun e0 f3 =>
 ∃ f8 f9,e0=.returned (.tuple ⟨[I f8,f9]⟩)∧∃ A,A < v∧k (i64.wrap (e + 1)) f3 A)∧True))∧True))∧True))) (R (.returned (.tuple ⟨[]⟩)) l))
theorem qle {e b a c d R w} (h:qjx e b a c d R w):Calls prog qe8 ⟨[L e b a,.pointer c,.pointer d]⟩ w R:=qe Tryz.func175 (Eq.mpr (by kernel_rfl:fnV _ _ qj3 _ _ _=_) h)
def qpn:Ann:=T F (T F (T (.one (T F (T (T F F) (T F (T (T F F) F))))) (T F F)))
def qoa (x:Int) (y:List UInt8) (z:Int) (A:Option Addr) (o:Nat) (n:Nat) (R:Ending→World→Prop) (w:World):Prop :=
 al w 56 [I x,S y,I z,L A o n] fun m b =>
 ∃ u,b.cell? (m.add 0)=some (I u)∧(idx (some (⟨0,0,none⟩)) 12 u 4 fun d =>
 ∃ v,b.cell? (d.add 0)=some (S v)∧∃ e,b.cell? (d.add 1)=some (B e)∧∃ f,b.cell? (d.add 2)=some (B f)∧∃ g,b.cell? (d.add 3)=some (B g)∧al b 211 [S [],B false,B false,B false] fun c s =>
 stL s c 0 [S v,B e,B f,B g] fun a =>
 ∃ h,a.cell? (c.add 1)=some (B h)∧br h (∃ i,a.cell? (m.add 1)=some (S i)∧(sadd ([32]) i fun q =>
 R (.returned (S q)) a)) (∃ j,a.cell? (c.add 2)=some (B j)∧br j (∃ k,a.cell? (m.add 2)=some (I k)∧Calls prog 59 ⟨[I k]⟩ a fun p t =>
 ∃ l,p=.returned (S l)∧(sadd ([32]) l fun r =>
 R (.returned (S r)) t)) (R (.returned (S [])) a)))
theorem qrw {c d e f b a R w} (h:qoa c d e f b a R w):Calls prog qg5 ⟨[.agg ⟨[I c,S d,I e,L f b a]⟩]⟩ w R:=qe Tryz.func176 (Eq.mpr (by kernel_rfl:fnV _ _ qpn _ _ _=_) h)
def qsr:Ann:=T F (T F (T (T F (.one (.loop 70368744176800 [(5,.one (.slice)),(10,.one (.int .i64))] (T F (T (T F F) (T (.one (T F (.one (T F (T F (T F (T (T F (T F (T F F))) F))))))) F)))))) (T F F)))
def qqy (d6:Option Addr) (l:Nat) (f1:Nat) (c7:Option Addr) (n:Option Addr) (R:Ending→World→Prop) (w:World):Prop :=
 ∃ (k:Option Addr→Nat→Nat→Int→World→Nat→Prop),(∃ f2,k none 0 0 0 w f2)∧∀ f d c e i m,k f d c e i m→∀ _:Env,(br (decide ((e:Int) < ((l:Int)))) (idx d6 l e 4 fun j =>
 ∃ V,i.cell? (j.add 0)=some (I V)∧∃ W,i.cell? (j.add 1)=some (S W)∧∃ X,i.cell? (j.add 2)=some (I X)∧∃ Y p o,i.cell? (j.add 3)=some (L Y p o)∧al i 56 [I 0,S [],I 0,L none 0 0] fun a e1 =>
 stL e1 a 0 [I V,S W,I X,L Y p o] fun h =>
 ∃ Z,h.cell? (a.add 0)=some (I Z)∧∃ a0,h.cell? (a.add 1)=some (S a0)∧∃ a1,h.cell? (a.add 2)=some (I a1)∧∃ a2 r q,h.cell? (a.add 3)=some (L a2 r q)∧Calls prog 99 ⟨[.agg ⟨[I Z,S a0,I a1,L a2 r q]⟩]⟩ h fun d3 b =>
 ∃ a3,d3=.returned (B a3)∧br a3 (dr c7 fun d7 =>
 ∃ a4 s t,b.cell? d7=some (.func a4 s t)∧∃ a5,b.cell? (a.add 0)=some (I a5)∧∃ a6,b.cell? (a.add 1)=some (S a6)∧∃ a7,b.cell? (a.add 2)=some (I a7)∧∃ a8 v u,b.cell? (a.add 3)=some (L a8 v u)∧CallV prog (.func a4 s t) [.agg ⟨[I a5,S a6,I a7,L a8 v u]⟩,.func (.func 178) ⟨[]⟩ ⟨[.pointer n,.pointer (some a)]⟩] b fun d4 e2 =>
 ∃ a9 y x,d4=.returned (L a9 y x)∧app prog [43,43] 43 (L f d c) (L a9 y x) e2 fun d0 c2 c1 e3 =>
 ∃ O,O < m∧k d0 c2 c1 (i64.wrap (e + 1)) e3 O) (∃ e9 z c8,b.cell? (a.add 3)=some (L e9 z c8)∧br (decide ((0:Int) < (z))) (dr n fun d8 =>
 ∃ b0 A C,b.cell? d8=some (.func b0 A C)∧∃ b1 E D,b.cell? (a.add 3)=some (L b1 E D)∧CallV prog (.func b0 A C) [L b1 E D] b fun d5 e4 =>
 ∃ b2 G F,d5=.returned (L b2 G F)∧stL e4 (a.add 3) 0 [L b2 G F] fun g =>
 ∃ f0 H c9,g.cell? (a.add 3)=some (L f0 H c9)∧br (decide ((0:Int) < (H))) (∃ b3,g.cell? (a.add 0)=some (I b3)∧∃ b4,g.cell? (a.add 1)=some (S b4)∧∃ b5,g.cell? (a.add 2)=some (I b5)∧∃ b6 K J,g.cell? (a.add 3)=some (L b6 K J)∧al g 56 [I b3,S b4,I b5,L b6 K J] fun d9 e5 =>
 app prog [43,43] 43 (L f d c) (.slice (some d9) 1 1) e5 fun d1 c4 c3 e6 =>
 ∃ Q,Q < m∧k d1 c4 c3 (i64.wrap (e + 1)) e6 Q) (∃ T,T < m∧k f d c (i64.wrap (e + 1)) g T)) (∃ b7,b.cell? (a.add 0)=some (I b7)∧∃ b8,b.cell? (a.add 1)=some (S b8)∧∃ b9,b.cell? (a.add 2)=some (I b9)∧∃ c0 N M,b.cell? (a.add 3)=some (L c0 N M)∧al b 56 [I b7,S b8,I b9,L c0 N M] fun e0 e7 =>
 app prog [43,43] 43 (L f d c) (.slice (some e0) 1 1) e7 fun d2 c6 c5 e8 =>
 ∃ U,U < m∧k d2 c6 c5 (i64.wrap (e + 1)) e8 U))) (R (.returned (L f d c)) i))
theorem quu {e b a c d R w} (h:qqy e b a c d R w):Calls prog qiu ⟨[L e b a,.pointer c,.pointer d]⟩ w R:=qe Tryz.func177 (Eq.mpr (by kernel_rfl:fnV _ _ qsr _ _ _=_) h)
def qnh:Ann:=T F (T F F)
def qmy (g:Option Addr) (h:Option Addr) (R:Ending→World→Prop) (w:World):Prop :=
 dr g fun m =>
 ∃ i a b,w.cell? m=some (.func i a b)∧(dr h fun n =>
 ∃ j d c,w.cell? (n.add 3)=some (L j d c)∧CallV prog (.func i a b) [L j d c] w fun l o =>
 ∃ k f e,l=.returned (L k f e)∧R (.returned (L k f e)) o)
theorem qpi {a b R w} (h:qmy a b R w):Calls prog qp9 ⟨[.pointer a,.pointer b]⟩ w R:=qe Tryz.func178 (Eq.mpr (by kernel_rfl:fnV _ _ qnh _ _ _=_) h)
def qpq:Ann:=T F (T F (T (T F (.one (.loop 288230376151711336 [(3,.one (.slice)),(9,.one (.int .i64))] (T F (T (T F F) (T (.one (T F (.cut 2088960 [] (T F (T F F)) (T (T F (.cut 549739036672 [(38,.one (.bool))] F (T (T F F) F))) (T F F))))) F)))))) (T F F)))
def qod (a2:Option Addr) (o:Nat) (b4:Nat) (R:Ending→World→Prop) (w:World):Prop :=
 ∃ (m:Option Addr→Nat→Nat→Int→World→Nat→Prop),(∃ b5,m none 0 0 0 w b5)∧∀ b a c e j z,m b a c e j z→∀ _:Env,(br (decide ((e:Int) < ((o:Int)))) (idx a2 o e 4 fun A =>
 ∃ b3,j.cell? (A.add 0)=some (I b3)∧∃ E,j.cell? (A.add 1)=some (S E)∧∃ F,j.cell? (A.add 2)=some (I F)∧∃ G r q,j.cell? (A.add 3)=some (L G r q)∧al j 56 [I 0,S [],I 0,L none 0 0] fun d a8 =>
 stL a8 d 0 [I b3,S E,I F,L G r q] fun h =>
 ∀ (n:World→Prop),(∀  (f:World),(∀ _:Env,(∀ (k:Bool→World→Prop),(∀ (g:Bool) (l:World),(∀ _:Env,(br g (drw l fun p =>
 idx b a (i64.wrap (((a:Int)) - 1)) 4 fun a3 =>
 ∃ H,p.cell? (a3.add 1)=some (S H)∧∃ J,p.cell? (d.add 1)=some (S J)∧(sadd H J fun a7 =>
 idx b a (i64.wrap (((a:Int)) - 1)) 4 fun a4 =>
 (stL p (a4.add 1) 0 [S a7] fun a9 =>
 ∃ B,B < z∧m b a c (i64.wrap (e + 1)) a9 B)∧True)) (∃ K t s,l.cell? (d.add 3)=some (L K t s)∧Calls prog 179 ⟨[L K t s]⟩ l fun a1 b0 =>
 ∃ M v u,a1=.returned (L M v u)∧stL b0 (d.add 3) 0 [L M v u] fun i =>
 ∃ N,i.cell? (d.add 0)=some (I N)∧∃ O,i.cell? (d.add 1)=some (S O)∧∃ Q,i.cell? (d.add 2)=some (I Q)∧∃ T y x,i.cell? (d.add 3)=some (L T y x)∧al i 56 [I N,S O,I Q,L T y x] fun a5 b1 =>
 app prog [43,43] 43 (L b a c) (.slice (some a5) 1 1) b1 fun a0 Z Y b2 =>
 ∃ C,C < z∧m a0 Z Y (i64.wrap (e + 1)) b2 C)))→k g l)→(br (decide ((0:Int)≤(i64.wrap (((a:Int)) - 1)))) (∃ U,f.cell? (d.add 0)=some (I U)∧br (decide (U=1)) (idx b a (i64.wrap (((a:Int)) - 1)) 4 fun a6 =>
 ∃ V,f.cell? (a6.add 0)=some (I V)∧(k (decide (V=1)) f)) (k false f)) (k false f))))→n f)→(∃ W,h.cell? (d.add 0)=some (I W)∧br (decide (W=1)) (∃ X,h.cell? (d.add 1)=some (S X)∧br (decide (X=([]))) (∃ D,D < z∧m b a c (i64.wrap (e + 1)) h D) (n h)) (n h))) (R (.returned (L b a c)) j))
theorem qgv {c b a R w} (h:qod c b a R w):Calls prog qdu ⟨[L c b a]⟩ w R:=qe Tryz.func179 (Eq.mpr (by kernel_rfl:fnV _ _ qpq _ _ _=_) h)
def qpw:Ann:=T F (T (T F (.one (.loop 524236 [(6,.one (.int .i64))] (T F (T (T F F) (T (.one (T F (T F (.one (T (T F (T F (T F (T F (T F (T F F)))))) (T F (T F F))))))) F)))))) (T F F))
def qoj (j:List UInt8) (R:Ending→World→Prop) (w:World):Prop :=
 ∃ (d:Int→World→Nat→Prop),(∃ n,d 0 w n)∧∀ a k e,d a k e→∀ _:Env,(br (decide ((a:Int) < ((List.length j:Int)))) (sidx j a fun l =>
 Calls prog 184 ⟨[.int .u8 ((l.toNat:Int))]⟩ k fun m c =>
 ∃ b,m=.returned (I b)∧br (decide (b=1)) (br (decide (b=1)) (∃ f,f < e∧d (i64.wrap (a + 1)) c f) (R (.returned (B false)) c)) (br (decide (b=2)) (br (decide (b=2)) (∃ g,g < e∧d (i64.wrap (a + 1)) c g) (R (.returned (B false)) c)) (br (decide (b=3)) (br (decide (b=3)) (∃ h,h < e∧d (i64.wrap (a + 1)) c h) (R (.returned (B false)) c)) (br (decide (b=4)) (∃ i,i < e∧d (i64.wrap (a + 1)) c i) (R (.returned (B false)) c))))) (R (.returned (B true)) k))
theorem qr4 {a R w} (h:qoj a R w):Calls prog qhd ⟨[S a]⟩ w R:=qe Tryz.func180 (Eq.mpr (by kernel_rfl:fnV _ _ qpw _ _ _=_) h)
def qsj:Ann:=T F (T F (T F F))
def qqp (a:Int) (R:Ending→World→Prop) (w:World):Prop :=
 Calls prog 184 ⟨[.int .u8 a]⟩ w fun e g =>
 ∃ c,e=.returned (I c)∧(Calls prog 183 ⟨[.int .u8 a]⟩ g fun f b =>
 ∃ d,f=.returned (B d)∧br d (R (.returned (B true)) b) (br (decide (c=2)) (R (.returned (B true)) b) (R (.returned (.bool (decide (c=4)))) b)))
theorem qul {a R w} (h:qqp a R w):Calls prog qin ⟨[.int .u8 a]⟩ w R:=qe Tryz.func181 (Eq.mpr (by kernel_rfl:fnV _ _ qsj _ _ _=_) h)
def qfu:Ann:=T F (T F (T F (T F F)))
def qfp (a:Option Addr) (f:Int) (R:Ending→World→Prop) (w:World):Prop :=
 Calls prog 200 ⟨[.pointer a]⟩ w fun m j =>
 m=.returned (.tuple ⟨[]⟩)∧(dr a fun n =>
 ∃ k c b,j.cell? (n.add 1)=some (L k c b)∧al j 5 [.int .u8 f] fun o p =>
 app prog [114,114] 114 (L k c b) (.slice (some o) 1 1) p fun l e d h =>
 dr a fun g =>
 stL h (g.add 1) 0 [L l e d] fun i =>
 R (.returned (.nilIface)) i)
theorem qf8 {a b R w} (h:qfp a b R w):Calls prog qch ⟨[.pointer a,.int .u8 b]⟩ w R:=qe Tryz.func182 (Eq.mpr (by kernel_rfl:fnV _ _ qfu _ _ _=_) h)
def qpu:Ann:=T F (T F (T F F))
def qoh (b:Int) (R:Ending→World→Prop) (w:World):Prop :=
 Calls prog 184 ⟨[.int .u8 b]⟩ w fun d c =>
 ∃ a,d=.returned (I a)∧(br (decide (a=1)) (R (.returned (B true)) c) (R (.returned (.bool (decide (a=3)))) c))
theorem qr2 {a R w} (h:qoh a R w):Calls prog qhb ⟨[.int .u8 a]⟩ w R:=qe Tryz.func183 (Eq.mpr (by kernel_rfl:fnV _ _ qpu _ _ _=_) h)
def q0o:Ann:=T F (T (.one (.cut 262136 [(3,.one (.bool))] F (T (T F F) (.cut 536608768 [(18,.one (.bool))] F (T (T F F) (.cut 68182605824 [(29,.one (.bool))] F (T (T F F) (T F (T (T F F) (T F (T (T F F) (T F (T (T F F) F))))))))))))) (T F F))
def qkk (a:Int) (R:Ending→World→Prop) (w:World):Prop :=
 ∀ (e:Bool→World→Prop),(∀ (f:Bool) (g:World),(∀ _:Env,(br f (R (.returned (I 1)) g) (∀ (h:Bool→World→Prop),(∀ (c:Bool) (i:World),(∀ _:Env,(br c (R (.returned (I 2)) i) (∀ (l:Bool→World→Prop),(∀ (d:Bool) (b:World),(∀ _:Env,(br d (R (.returned (I 3)) b) (br (decide ((a:Int)=39)) (R (.returned (I 4)) b) (br (decide ((a:Int)=32)) (R (.returned (I 6)) b) (br (decide ((a:Int)≠0)) (Calls prog 220 ⟨[S [46,44,59,58,33,63,40,41,45],.int .u8 a]⟩ b fun m j =>
 ∃ k,m=.returned (I k)∧br (decide ((0:Int)≤k)) (R (.returned (I 5)) j) (R (.returned (I 0)) j)) (R (.returned (I 0)) b))))))→l d b)→(br (decide ((48:Int)≤a)) (l (decide ((a:Int)≤57)) i) (l false i)))))→h c i)→(br (decide ((a:Int)=94)) (h true g) (br (decide ((a:Int)=126)) (h true g) (h (decide ((a:Int)=37)) g))))))→e f g)→(br (decide ((97:Int)≤a)) (br (decide ((a:Int)≤122)) (e true w) (br (decide ((65:Int)≤a)) (e (decide ((a:Int)≤90)) w) (e false w))) (br (decide ((65:Int)≤a)) (e (decide ((a:Int)≤90)) w) (e false w)))
theorem q2h {a R w} (h:qkk a R w):Calls prog qn2 ⟨[.int .u8 a]⟩ w R:=qe Tryz.func184 (Eq.mpr (by kernel_rfl:fnV _ _ q0o _ _ _=_) h)
def qso:Ann:=T F (T (T F (T F (T (T F F) F))) (T F F))
def qqu (c:Option Addr) (b:Nat) (a:Nat) (d:List UInt8) (R:Ending→World→Prop) (w:World):Prop :=
 Calls prog 221 ⟨[L c b a,S d]⟩ w fun k h =>
 ∃ g,k=.returned (I g)∧(br (decide (g≠0)) (R (.returned (.tuple ⟨[L none 0 0,I g]⟩)) h) (Calls prog 222 ⟨[L c b a,S d]⟩ h fun l m =>
 ∃ i f e j,l=.returned (.tuple ⟨[L i f e,I j]⟩)∧R (.returned (.tuple ⟨[L i f e,I j]⟩)) m))
theorem qur {c b a d R w} (h:qqu c b a d R w):Calls prog qu7 ⟨[L c b a,S d]⟩ w R:=qe Tryz.func185 (Eq.mpr (by kernel_rfl:fnV _ _ qso _ _ _=_) h)
def q2s:Ann:=T F (T (T F (T (T F F) F)) (T F (T (T F (.one (.loop 17179867188 [(4,.one (.int .i64))] (T (T F (T F F)) (T (.one (T F (T F (T (T F F) F)))) F))))) (T F F))))
def q1n (c:List UInt8) (R:Ending→World→Prop) (w:World):Prop :=
 br (decide ((65536:Int) < ((List.length c:Int)))) (R (.returned (I 4)) w) (Calls prog 226 ⟨[S c]⟩ w fun q s =>
 ∃ o i p,q=.returned (L o i p)∧∃ (e:Int→World→Nat→Prop),(∃ r,e 0 s r)∧∀ a k j,e a k j→∀ _:Env,(br (decide ((a:Int) < ((List.length c:Int)))) (sidx c a fun l =>
 Calls prog 166 ⟨[.int .u8 ((l.toNat:Int))]⟩ k fun m b =>
 ∃ d,m=.returned (I d)∧br (decide (d=0)) (R (.returned (I 11)) b) (br (decide (d=2)) (idx o i a 1 fun n =>
 ∃ h,b.cell? n=some (B h)∧br (!h) (R (.returned (I 11)) b) (∃ f,f < j∧e (i64.wrap (a + 1)) b f)) (∃ g,g < j∧e (i64.wrap (a + 1)) b g))) (R (.returned (I 0)) k)))
theorem q5z {a R w} (h:q1n a R w):Calls prog qs9 ⟨[S a]⟩ w R:=qe Tryz.func192 (Eq.mpr (by kernel_rfl:fnV _ _ q2s _ _ _=_) h)
def q0e:Ann:=T F (.cut 562949953421248 [] (T F (T (T F F) F)) (.cut 295147342229399404608 [] (T F (T (T F F) F)) (T (T F (.one (T F (T (T (T F (T (T F F) F)) (T F (T (T F F) F))) (.cut 2266735911777429702574080 [(77,.one (.bool))] (T F (T F (T F (T F F)))) (T (T (T F (T (T F F) F)) (T F (T (T F F) F))) (T F (T (T F (T (T F F) F)) (T F (T (T F (T (T F F) F)) (.cut 1135814937804493543741046072016896 [(107,.one (.bool))] (T F (T F F)) (T (T F (T (T F F) F)) F)))))))))))) (T F F))))
def qyc (f0:Int) (f1:List UInt8) (f2:Int) (f3:Option Addr) (d1:Nat) (d0:Nat) (p:Bool) (q:Bool) (R:Ending→World→Prop) (w:World):Prop :=
 al w 56 [I f0,S f1,I f2,L f3 d1 d0] fun a d =>
 ∀ (j:World→Prop),(∀  (e:World),(∀ _:Env,(∀ (k:World→Prop),(∀  (g:World),(∀ _:Env,(∃ c,g.cell? (a.add 0)=some (I c)∧br (decide (c=1)) (∃ K,g.cell? (a.add 1)=some (S K)∧Calls prog 192 ⟨[S K]⟩ g fun d2 v =>
 ∃ M,d2=.returned (I M)∧br (decide (M≠0)) (R (.returned (I 11)) v) (br p (R (.returned (I 10)) v) (R (.returned (I 0)) v))) (∀ (r:Bool→World→Prop),(∀ (l:Bool) (b:World),(∀ _:Env,(br l (∃ N,b.cell? (a.add 1)=some (S N)∧Calls prog 93 ⟨[S N]⟩ b fun d3 m =>
 ∃ O,d3=.returned (B O)∧br (!O) (R (.returned (I 14)) m) (br q (∃ Q,m.cell? (a.add 0)=some (I Q)∧br (decide (Q=4)) (R (.returned (I 12)) m) (R (.returned (I 0)) m)) (R (.returned (I 0)) m))) (br (decide (c=10)) (∃ T,b.cell? (a.add 1)=some (S T)∧Calls prog 149 ⟨[S T]⟩ b fun d4 E =>
 ∃ U,d4=.returned (B U)∧br (!U) (R (.returned (I 14)) E) (R (.returned (I 0)) E)) (br (decide (c=6)) (∃ V,b.cell? (a.add 2)=some (I V)∧br (decide (V < 1)) (R (.returned (I 2)) b) (∃ W,b.cell? (a.add 2)=some (I W)∧br (decide ((64:Int) < W)) (R (.returned (I 2)) b) (R (.returned (I 0)) b))) (∀ (u:Bool→World→Prop),(∀ (i:Bool) (h:World),(∀ _:Env,(br i (∃ X,h.cell? (a.add 2)=some (I X)∧br (decide (X < 1)) (R (.returned (I 2)) h) (∃ Y,h.cell? (a.add 2)=some (I Y)∧br (decide ((8:Int) < Y)) (R (.returned (I 2)) h) (R (.returned (I 0)) h))) (R (.returned (I 0)) h)))→u i h)→(br (decide (c=8)) (u (decide (c=8)) b) (u (decide (c=9)) b)))))))→r l b)→(br (decide (c=3)) (r (decide (c=3)) g) (br (decide (c=4)) (r (decide (c=4)) g) (r (decide (c=11)) g))))))→k g)→(∃ Z,e.cell? (a.add 0)=some (I Z)∧br (decide (Z=1)) (∃ a0,e.cell? (a.add 1)=some (S a0)∧br (decide (a0=([]))) (R (.returned (I 5)) e) (∃ a1,e.cell? (a.add 0)=some (I a1)∧Calls prog 197 ⟨[I a1]⟩ e fun d5 s =>
 ∃ a2,d5=.returned (B a2)∧br a2 (∃ e4 x c4,s.cell? (a.add 3)=some (L e4 x c4)∧br (decide (((x):Int)=0)) (R (.returned (I 5)) s) (k s)) (k s))) (∃ a3,e.cell? (a.add 0)=some (I a3)∧Calls prog 197 ⟨[I a3]⟩ e fun d6 t =>
 ∃ a4,d6=.returned (B a4)∧br a4 (∃ e5 y c5,t.cell? (a.add 3)=some (L e5 y c5)∧br (decide (((y):Int)=0)) (R (.returned (I 5)) t) (k t)) (k t)))))→j e)→(∃ a5,d.cell? (a.add 0)=some (I a5)∧br (decide (a5 < 1)) (R (.returned (I 8)) d) (∃ a6,d.cell? (a.add 0)=some (I a6)∧br (decide ((11:Int) < a6)) (R (.returned (I 8)) d) (∃ a7,d.cell? (a.add 1)=some (S a7)∧br (decide (a7≠([]))) (∃ a8,d.cell? (a.add 0)=some (I a8)∧Calls prog 195 ⟨[I a8]⟩ d fun d7 f =>
 ∃ a9,d7=.returned (B a9)∧br (!a9) (R (.returned (I 8)) f) (∃ b0,f.cell? (a.add 2)=some (I b0)∧br (decide (b0≠0)) (∃ b1,f.cell? (a.add 0)=some (I b1)∧Calls prog 196 ⟨[I b1]⟩ f fun d8 n =>
 ∃ b2,d8=.returned (B b2)∧br (!b2) (R (.returned (I 8)) n) (∃ e6 z c6,n.cell? (a.add 3)=some (L e6 z c6)∧br (decide ((0:Int) < (z))) (∃ b3,n.cell? (a.add 0)=some (I b3)∧Calls prog 197 ⟨[I b3]⟩ n fun d9 F =>
 ∃ b4,d9=.returned (B b4)∧br (!b4) (R (.returned (I 8)) F) (j F)) (j n))) (∃ e7 A c7,f.cell? (a.add 3)=some (L e7 A c7)∧br (decide ((0:Int) < (A))) (∃ b5,f.cell? (a.add 0)=some (I b5)∧Calls prog 197 ⟨[I b5]⟩ f fun e0 G =>
 ∃ b6,e0=.returned (B b6)∧br (!b6) (R (.returned (I 8)) G) (j G)) (j f)))) (∃ b7,d.cell? (a.add 2)=some (I b7)∧br (decide (b7≠0)) (∃ b8,d.cell? (a.add 0)=some (I b8)∧Calls prog 196 ⟨[I b8]⟩ d fun e1 o =>
 ∃ b9,e1=.returned (B b9)∧br (!b9) (R (.returned (I 8)) o) (∃ e8 C c8,o.cell? (a.add 3)=some (L e8 C c8)∧br (decide ((0:Int) < (C))) (∃ c0,o.cell? (a.add 0)=some (I c0)∧Calls prog 197 ⟨[I c0]⟩ o fun e2 H =>
 ∃ c1,e2=.returned (B c1)∧br (!c1) (R (.returned (I 8)) H) (j H)) (j o))) (∃ e9 D c9,d.cell? (a.add 3)=some (L e9 D c9)∧br (decide ((0:Int) < (D))) (∃ c2,d.cell? (a.add 0)=some (I c2)∧Calls prog 197 ⟨[I c2]⟩ d fun e3 J =>
 ∃ c3,e3=.returned (B c3)∧br (!c3) (R (.returned (I 8)) J) (j J)) (j d))))))
theorem q18 {e f g i d c a b R w} (h:qyc e f g i d c a b R w):Calls prog qnu ⟨[.agg ⟨[I e,S f,I g,L i d c]⟩,B a,B b]⟩ w R:=qe Tryz.func193 (Eq.mpr (by kernel_rfl:fnV _ _ q0e _ _ _=_) h)
def q6b:Ann:=T F (T F F)
def q4n (a:Int) (R:Ending→World→Prop) (w:World):Prop :=
 al w 9 [S [],S [],S [108,98],S [112,98],S [115,101,99],S [118],S [103,97,112],S [117,110,99,108,101,97,114],S [97,100,100],S [100,101,108],S [97,98],S [110,97,109,101]] fun d b =>
 idx (some d) 12 a 1 fun e =>
 ∃ c,b.cell? e=some (S c)∧(R (.returned (S c)) b)
theorem q8k {a R w} (h:q4n a R w):Calls prog qvv ⟨[I a]⟩ w R:=qe Tryz.func194 (Eq.mpr (by kernel_rfl:fnV _ _ q6b _ _ _=_) h)
def q2m:Ann:=T F (T F F)
def q1h (a:Int) (R:Ending→World→Prop) (w:World):Prop :=
 br (decide ((a:Int)=1)) (R (.returned (B true)) w) (br (decide ((a:Int)=3)) (R (.returned (B true)) w) (br (decide ((a:Int)=4)) (R (.returned (B true)) w) (br (decide ((a:Int)=10)) (R (.returned (B true)) w) (R (.returned (.bool (decide ((a:Int)=11)))) w))))
theorem q5t {a R w} (h:q1h a R w):Calls prog qs4 ⟨[I a]⟩ w R:=qe Tryz.func195 (Eq.mpr (by kernel_rfl:fnV _ _ q2m _ _ _=_) h)
def qwx:Ann:=T F (T F F)
def qv6 (a:Int) (R:Ending→World→Prop) (w:World):Prop :=
 br (decide ((a:Int)=6)) (R (.returned (B true)) w) (br (decide ((a:Int)=8)) (R (.returned (B true)) w) (R (.returned (.bool (decide ((a:Int)=9)))) w))
theorem qz1 {a R w} (h:qv6 a R w):Calls prog ql2 ⟨[I a]⟩ w R:=qe Tryz.func196 (Eq.mpr (by kernel_rfl:fnV _ _ qwx _ _ _=_) h)
def q2o:Ann:=T F (T F F)
def q1j (a:Int) (R:Ending→World→Prop) (w:World):Prop :=
 br (decide ((7:Int)≤a)) (R (.returned (.bool (decide ((a:Int)≤11)))) w) (R (.returned (B false)) w)
theorem q5v {a R w} (h:q1j a R w):Calls prog qs5 ⟨[I a]⟩ w R:=qe Tryz.func197 (Eq.mpr (by kernel_rfl:fnV _ _ q2o _ _ _=_) h)
def qpy:Ann:=T F (T F (T F F))
def qol (c:Fn) (a:Array Value) (b:Array Value) (j:Option Addr) (R:Ending→World→Prop) (w:World):Prop :=
 al w 224 [.func c a b] fun p r =>
 al r 225 [.nilFunc] fun i s =>
 stL s i 0 [.func (.func 199) ⟨[]⟩ ⟨[.pointer (some p),.pointer (some i)]⟩] fun k =>
 ∃ o g h,k.cell? i=some (.func o g h)∧(dr j fun q =>
 ∃ f e d,k.cell? q=some (L f e d)∧CallV prog (.func o g h) [L f e d,B false] k fun l m =>
 ∃ n,l=.returned (B n)∧R (.returned (.tuple ⟨[]⟩)) m)
theorem qr6 {c a b d R w} (h:qol c a b d R w):Calls prog qbd ⟨[.func c a b,.pointer d]⟩ w R:=qe Tryz.func198 (Eq.mpr (by kernel_rfl:fnV _ _ qpy _ _ _=_) h)
def qlp:Ann:=T F (T (T F (.one (.loop 17179867456 [(11,.one (.int .i64))] (T F (T (T F F) (T (.one (T F (T F (T (T F F) F)))) F)))))) (T F F))
def qkf (Z:Option Addr) (l:Nat) (a3:Nat) (b:Bool) (U:Option Addr) (V:Option Addr) (R:Ending→World→Prop) (w:World):Prop :=
 ∃ (u:Int→World→Nat→Prop),(∃ a4,u 0 w a4)∧∀ a f T,u a f T→∀ _:Env,(br (decide ((a:Int) < ((l:Int)))) (idx Z l a 4 fun k =>
 ∃ A,f.cell? (k.add 0)=some (I A)∧∃ C,f.cell? (k.add 1)=some (S C)∧∃ D,f.cell? (k.add 2)=some (I D)∧∃ E n m,f.cell? (k.add 3)=some (L E n m)∧al f 56 [I 0,S [],I 0,L none 0 0] fun c a2 =>
 stL a2 c 0 [I A,S C,I D,L E n m] fun d =>
 dr U fun a0 =>
 ∃ F o p,d.cell? a0=some (.func F o p)∧∃ G,d.cell? (c.add 0)=some (I G)∧∃ H,d.cell? (c.add 1)=some (S H)∧∃ J,d.cell? (c.add 2)=some (I J)∧∃ K r q,d.cell? (c.add 3)=some (L K r q)∧CallV prog (.func F o p) [.agg ⟨[I G,S H,I J,L K r q]⟩,B b] d fun W e =>
 ∃ M,W=.returned (B M)∧br (!M) (R (.returned (B false)) e) (dr V fun a1 =>
 ∃ s g h,e.cell? a1=some (.func s g h)∧∃ t j i,e.cell? (c.add 3)=some (L t j i)∧br b (CallV prog (.func s g h) [L t j i,B true] e fun X y =>
 ∃ N,X=.returned (B N)∧br (!N) (R (.returned (B false)) y) (∃ v,v < T∧u (i64.wrap (a + 1)) y v)) (∃ O,e.cell? (c.add 0)=some (I O)∧CallV prog (.func s g h) [L t j i,.bool (decide (O=7))] e fun Y z =>
 ∃ Q,Y=.returned (B Q)∧br (!Q) (R (.returned (B false)) z) (∃ x,x < T∧u (i64.wrap (a + 1)) z x)))) (R (.returned (B true)) f))
theorem qm4 {f c b a d e R w} (h:qkf f c b a d e R w):Calls prog qfm ⟨[L f c b,B a,.pointer d,.pointer e]⟩ w R:=qe Tryz.func199 (Eq.mpr (by kernel_rfl:fnV _ _ qlp _ _ _=_) h)
def q0i:Ann:=T F (T F F)
def qyg (a:List UInt8) (R:Ending→World→Prop) (w:World):Prop :=
 al w 9 [S a] fun b c =>
 R (.returned (.func (.func 232) ⟨[]⟩ ⟨[.pointer (some b)]⟩)) c
theorem q2c {a R w} (h:qyg a R w):Calls prog qnx ⟨[S a]⟩ w R:=qe Tryz.func205 (Eq.mpr (by kernel_rfl:fnV _ _ q0i _ _ _=_) h)
def q2v:Ann:=T F (T F (T F (.cut 133169248 [(5,.one (.str))] (T F (T F (T F F))) (T F (T (T F (T (T F F) F)) (T F (.cut 1924145348608 [] (T F (T F F)) (.cut 18012199486233600 [] (T F (T F (T F (T F (T F F))))) (T (T F (T (T F F) F)) (T F F))))))))))
def q1q (d:List UInt8) (R:Ending→World→Prop) (w:World):Prop :=
 al w 202 [I 0,S [],S [],I 0] fun b h6 =>
 ssl d 1 (i64.wrap (((List.length d:Int)) - 1)) fun g1 =>
 Calls prog 233 ⟨[S g1,S [47]]⟩ h6 fun h5 h7 =>
 ∃ N,h5=.returned (S N)∧(∀ (f5:List UInt8→World→Prop),(∀ (j:List UInt8) (O:World),(∀ _:Env,(Calls prog 235 ⟨[S j]⟩ O fun g7 h2 =>
 ∃ T U V W,g7=.returned (.tuple ⟨[.agg ⟨[S T,B U,V]⟩,B W]⟩)∧al h2 262 [S [],B false,.nilFunc] fun t h3 =>
 stL h3 t 0 [S T,B U,V] fun z =>
 br (!W) (stL z b 0 [I 0,S [],S [],I 0] fun k =>
 ∃ X,k.cell? (b.add 0)=some (I X)∧∃ Y,k.cell? (b.add 1)=some (S Y)∧∃ Z,k.cell? (b.add 2)=some (S Z)∧∃ a0,k.cell? (b.add 3)=some (I a0)∧R (.returned (.tuple ⟨[.agg ⟨[I X,S Y,S Z,I a0]⟩,I 12]⟩)) k) (∃ a1,z.cell? (t.add 0)=some (S a1)∧al z 202 [I 0,S [],S [],I 0] fun a h4 =>
 stL h4 a 0 [I 2,S a1,S [],I 0] fun A =>
 ∀ (u:World→Prop),(∀  (Q:World),(∀ _:Env,(∀ (s:World→Prop),(∀  (c:World),(∀ _:Env,(∃ a2,c.cell? (a.add 0)=some (I a2)∧br (decide (a2=3)) (∃ a3,c.cell? (t.add 1)=some (B a3)∧br a3 (stL c b 0 [I 0,S [],S [],I 0] fun l =>
 ∃ a4,l.cell? (b.add 0)=some (I a4)∧∃ a5,l.cell? (b.add 1)=some (S a5)∧∃ a6,l.cell? (b.add 2)=some (S a6)∧∃ a7,l.cell? (b.add 3)=some (I a7)∧R (.returned (.tuple ⟨[.agg ⟨[I a4,S a5,S a6,I a7]⟩,I 3]⟩)) l) (∃ a8,c.cell? (a.add 0)=some (I a8)∧∃ a9,c.cell? (a.add 1)=some (S a9)∧∃ b0,c.cell? (a.add 2)=some (S b0)∧∃ b1,c.cell? (a.add 3)=some (I b1)∧Calls prog 238 ⟨[.agg ⟨[I a8,S a9,S b0,I b1]⟩]⟩ c fun g8 f =>
 ∃ b2,g8=.returned (B b2)∧br (!b2) (stL f b 0 [I 0,S [],S [],I 0] fun m =>
 ∃ b3,m.cell? (b.add 0)=some (I b3)∧∃ b4,m.cell? (b.add 1)=some (S b4)∧∃ b5,m.cell? (b.add 2)=some (S b5)∧∃ b6,m.cell? (b.add 3)=some (I b6)∧R (.returned (.tuple ⟨[.agg ⟨[I b3,S b4,S b5,I b6]⟩,I 3]⟩)) m) (∃ b7,f.cell? (a.add 0)=some (I b7)∧∃ b8,f.cell? (a.add 1)=some (S b8)∧∃ b9,f.cell? (a.add 2)=some (S b9)∧∃ c0,f.cell? (a.add 3)=some (I c0)∧Calls prog 239 ⟨[.agg ⟨[I b7,S b8,S b9,I c0]⟩]⟩ f fun g9 g =>
 ∃ c1,g9=.returned (S c1)∧br (decide (c1≠d)) (stL g b 0 [I 0,S [],S [],I 0] fun n =>
 ∃ c2,n.cell? (b.add 0)=some (I c2)∧∃ c3,n.cell? (b.add 1)=some (S c3)∧∃ c4,n.cell? (b.add 2)=some (S c4)∧∃ c5,n.cell? (b.add 3)=some (I c5)∧R (.returned (.tuple ⟨[.agg ⟨[I c2,S c3,S c4,I c5]⟩,I 3]⟩)) n) (∃ c6,g.cell? (a.add 0)=some (I c6)∧∃ c7,g.cell? (a.add 1)=some (S c7)∧∃ c8,g.cell? (a.add 2)=some (S c8)∧∃ c9,g.cell? (a.add 3)=some (I c9)∧stL g b 0 [I c6,S c7,S c8,I c9] fun o =>
 ∃ d0,o.cell? (b.add 0)=some (I d0)∧∃ d1,o.cell? (b.add 1)=some (S d1)∧∃ d2,o.cell? (b.add 2)=some (S d2)∧∃ d3,o.cell? (b.add 3)=some (I d3)∧R (.returned (.tuple ⟨[.agg ⟨[I d0,S d1,S d2,I d3]⟩,I 0]⟩)) o)))) (∃ d4,c.cell? (a.add 0)=some (I d4)∧∃ d5,c.cell? (a.add 1)=some (S d5)∧∃ d6,c.cell? (a.add 2)=some (S d6)∧∃ d7,c.cell? (a.add 3)=some (I d7)∧Calls prog 238 ⟨[.agg ⟨[I d4,S d5,S d6,I d7]⟩]⟩ c fun h0 h =>
 ∃ d8,h0=.returned (B d8)∧br (!d8) (stL h b 0 [I 0,S [],S [],I 0] fun p =>
 ∃ d9,p.cell? (b.add 0)=some (I d9)∧∃ e0,p.cell? (b.add 1)=some (S e0)∧∃ e1,p.cell? (b.add 2)=some (S e1)∧∃ e2,p.cell? (b.add 3)=some (I e2)∧R (.returned (.tuple ⟨[.agg ⟨[I d9,S e0,S e1,I e2]⟩,I 3]⟩)) p) (∃ e3,h.cell? (a.add 0)=some (I e3)∧∃ e4,h.cell? (a.add 1)=some (S e4)∧∃ e5,h.cell? (a.add 2)=some (S e5)∧∃ e6,h.cell? (a.add 3)=some (I e6)∧Calls prog 239 ⟨[.agg ⟨[I e3,S e4,S e5,I e6]⟩]⟩ h fun h1 i =>
 ∃ e7,h1=.returned (S e7)∧br (decide (e7≠d)) (stL i b 0 [I 0,S [],S [],I 0] fun q =>
 ∃ e8,q.cell? (b.add 0)=some (I e8)∧∃ e9,q.cell? (b.add 1)=some (S e9)∧∃ f0,q.cell? (b.add 2)=some (S f0)∧∃ f1,q.cell? (b.add 3)=some (I f1)∧R (.returned (.tuple ⟨[.agg ⟨[I e8,S e9,S f0,I f1]⟩,I 3]⟩)) q) (∃ f2,i.cell? (a.add 0)=some (I f2)∧∃ f3,i.cell? (a.add 1)=some (S f3)∧∃ f4,i.cell? (a.add 2)=some (S f4)∧∃ C,i.cell? (a.add 3)=some (I C)∧stL i b 0 [I f2,S f3,S f4,I C] fun e =>
 ∃ D,e.cell? (b.add 0)=some (I D)∧∃ E,e.cell? (b.add 1)=some (S E)∧∃ F,e.cell? (b.add 2)=some (S F)∧∃ G,e.cell? (b.add 3)=some (I G)∧R (.returned (.tuple ⟨[.agg ⟨[I D,S E,S F,I G]⟩,I 0]⟩)) e)))))→s c)→(Calls prog 202 ⟨[S g1,S [47]]⟩ Q fun f6 v =>
 ∃ H,f6=.returned (B H)∧br H (stL v (a.add 0) 0 [I 3] fun g2 =>
 s g2) (Calls prog 237 ⟨[S g1,S [47]]⟩ v fun f7 g3 =>
 ∃ J,f7=.returned (S J)∧Calls prog 236 ⟨[S J,S [32]]⟩ g3 fun f8 x =>
 ∃ g6 K L,f8=.returned (.tuple ⟨[S g6,S K,B L]⟩)∧br L (stL x (a.add 2) 0 [S K] fun g4 =>
 s g4) (s x)))))→u Q)→(∃ M,A.cell? (t.add 1)=some (B M)∧br M (stL A (a.add 0) 0 [I 4] fun g5 =>
 u g5) (u A)))))→f5 j O)→(Calls prog 234 ⟨[S N,S [32,47]]⟩ h7 fun f9 y =>
 ∃ r,f9=.returned (I r)∧br (decide ((0:Int)≤r)) (ssl N 0 r fun g0 =>
 f5 g0 y) (f5 N y)))
theorem q52 {a R w} (h:q1q a R w):Calls prog qtb ⟨[S a]⟩ w R:=qe Tryz.func206 (Eq.mpr (by kernel_rfl:fnV _ _ q2v _ _ _=_) h)
end Go.Proofs
