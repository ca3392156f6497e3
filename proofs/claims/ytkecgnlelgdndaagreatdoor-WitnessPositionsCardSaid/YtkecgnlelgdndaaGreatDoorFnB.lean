/- Written by program: for each function its verification condition, that it is the code's (by the kernel), and that it gives the call. -/
import Derived.Test.YtkecgnlelgdndaaGreatDoorFn
set_option linter.all false
set_option maxRecDepth 100000
namespace Go.Proofs
open Go Go.Sh Go.Proofs.Tryz IntKind
def qwt:Ann:=T F (T F (T (T F (.one (.rf [2,3,6] 0))) (T F F)))
def qv2 (o:Option Addr) (m:Nat) (l:Nat) (R:Ending→World→Prop) (w:World):Prop :=
 al w 31 [L none 0 0] fun n u =>
 Calls prog 91 ⟨[L o m l]⟩ u fun t v =>
 ∃ s j k,t=.returned (.func s j k)∧(∀ g:Env,RFw prog none 14 (cdAt Tryz.f62 [1,1,0,1,2]) (upd (upd (upd g 6 (.func s j k)) 3 (.pointer (some n))) 2 (L none 0 0)) [] v 0 (fun a b =>
 ∃ i f e,b.cell? n=some (L i f e)∧retD a b fun q =>
 R (.returned (L i f e)) q) (fun a b =>
 retD a b fun r =>
 R (.returned (L none 0 0)) r) (fun a b =>
 ∃ h d c,b.cell? n=some (L h d c)∧retD a b fun p =>
 R (.returned (L h d c)) p))
theorem qzx {c b a R w} (h:qv2 c b a R w):Calls prog qlw ⟨[L c b a]⟩ w R:=qe Tryz.func62 (Eq.mpr (by kernel_rfl:fnV _ _ qwt _ _ _=_) h)
def qgc:Ann:=F
def qf9:Ann:=.one F
def qq1 (u:Option Addr) (o:Nat) (n:Nat) (a:Option Addr) (v:Fn) (p:Array Value) (q:Array Value) (e:List UInt8) (x:Value) (l:Nat) (Kn Kr Kx:World→World→Prop) (w:World):Prop :=
 Ext w w∧∀ b:World,Upd l w b→(dr a fun j =>
 ∃ f d c,b.cell? j=some (L f d c)∧al b 9 [S e] fun k r =>
 app prog [31,31] 31 (L f d c) (.slice (some k) 1 1) r fun i h g s =>
 dr a fun m =>
 stL s m 0 [L i h g] fun t =>
 Kn b t)
theorem qrm (base:Env) (f:Option Addr) (c:Nat) (b:Nat) (a:Option Addr) (g:Fn) (d:Array Value) (e:Array Value) (h:List UInt8) (i:Value) (l:Nat) (Kn Kr Kx:World→World→Prop) (w:World):fragV prog 14 qgc qf9 (cdAt Tryz.f62 [1,1,0,1,2,5]) (cdAt Tryz.f62 [1,1,0,1,2,6]) l 0 Kn Kr Kx (updPs [7,8] [S h,i] (upd (upd (upd base 6 (.func g d e)) 3 (.pointer a)) 2 (L f c b))) w=qq1 f c b a g d e h i l Kn Kr Kx w:=by kernel_rfl
theorem qrr:cdAt Tryz.f62 [1,1,0,1,2]=.rangeFunc (Operand.tmp 6) #[7,8] (cdAt Tryz.f62 [1,1,0,1,2,5]) (cdAt Tryz.f62 [1,1,0,1,2,6]):=by kernel_rfl
def qsf:Ann:=T F (T (T F (.one (.loop 34359736656 [(11,.one (.int .i64))] (T F (T (T F F) (T (.one (T F (T F (.one (.loop 17179738384 [(17,.one (.int .i64))] (T F (T (T F F) (T (.one (T F (T (T F (T F F)) (T F (T (T F F) F))))) F)))))))) F)))))) (T F F))
def qql (e:List UInt8) (x:Option Addr) (y:Option Addr) (R:Ending→World→Prop) (w:World):Prop :=
 dr x fun I =>
 ∃ G k H,w.cell? I=some (L G k H)∧(∃ (l:Int→World→Nat→Prop),(∃ A,l 0 w A)∧∀ b m v,l b m v→∀ _:Env,(br (decide ((b:Int) < (k))) (idx G k b 1 fun D =>
 ∃ h d i,m.cell? D=some (L h d i)∧∃ (f:Int→World→Nat→Prop),(∃ C,f 0 m C)∧∀ a c g,f a c g→∀ _:Env,(br (decide ((a:Int) < (d))) (idx h d a 1 fun E =>
 ∃ j,c.cell? E=some (S j)∧br (decide (j=e)) (∃ n,n < v∧l (i64.wrap (b + 1)) c n) (dr y fun F =>
 ∃ s,c.cell? F=some (s)∧∃ t,lkAt prog 95 s (S j) c (B t)∧br (!t) (Calls prog 34 ⟨[L h d i,S e]⟩ c fun z r =>
 ∃ u,z=.returned (B u)∧br u (R (.returned (B false)) r) (∃ o,o < g∧f (i64.wrap (a + 1)) r o)) (∃ p,p < g∧f (i64.wrap (a + 1)) c p))) (∃ q,q < v∧l (i64.wrap (b + 1)) c q))) (R (.returned (B true)) m)))
theorem quh {a b c R w} (h:qql a b c R w):Calls prog qik ⟨[S a,.pointer b,.pointer c]⟩ w R:=qe Tryz.func63 (Eq.mpr (by kernel_rfl:fnV _ _ qsf _ _ _=_) h)
def qse:Ann:=T F (T (T F (.one (.loop 8589932888 [(11,.one (.int .i64))] (T F (T (T F F) (T (.one (T F (T F (.one (.loop 4294836504 [(17,.one (.int .i64))] (T F (T (T F F) (T (.one (T F (T F (T (T F F) F)))) F)))))))) F)))))) (T F F))
def qqk (v:Option Addr) (x:Option Addr) (y:Option Addr) (R:Ending→World→Prop) (w:World):Prop :=
 dr v fun M =>
 ∃ J j K,w.cell? M=some (L J j K)∧(∃ (u:Int→World→Nat→Prop),(∃ C,u 0 w C)∧∀ c k E,u c k E→∀ _:Env,(br (decide ((c:Int) < (j))) (idx J j c 1 fun F =>
 ∃ p d z,k.cell? F=some (L p d z)∧∃ (e:Int→World→Nat→Prop),(∃ D,e 0 k D)∧∀ a b g,e a b g→∀ _:Env,(br (decide ((a:Int) < (d))) (idx p d a 1 fun G =>
 ∃ f,b.cell? G=some (S f)∧dr x fun H =>
 ∃ q,b.cell? H=some (q)∧∃ r,lkAt prog 95 q (S f) b (B r)∧br (!r) (dr y fun I =>
 ∃ s h i,b.cell? I=some (.func s h i)∧CallV prog (.func s h i) [S f] b fun A o =>
 ∃ t,A=.returned (B t)∧br t (R (.returned (.tuple ⟨[S f,B true]⟩)) o) (∃ l,l < g∧e (i64.wrap (a + 1)) o l)) (∃ m,m < g∧e (i64.wrap (a + 1)) b m)) (∃ n,n < E∧u (i64.wrap (c + 1)) b n))) (R (.returned (.tuple ⟨[S [],B false]⟩)) k)))
theorem qug {a b c R w} (h:qqk a b c R w):Calls prog qij ⟨[.pointer a,.pointer b,.pointer c]⟩ w R:=qe Tryz.func64 (Eq.mpr (by kernel_rfl:fnV _ _ qse _ _ _=_) h)
def q2j:Ann:=T F (T F (T (T F (.one (.loop 67108824 [(3,.one (.slice)),(4,.one (.int .i64))] (T (T F (T F F)) (T (.one (T F (T F F))) F))))) (T F F)))
def q1e (h:Option Addr) (e:Nat) (v:Nat) (R:Ending→World→Prop) (w:World):Prop :=
 al w 9 [] fun y z =>
 ∃ (g:Option Addr→Nat→Nat→Int→World→Nat→Prop),(∃ x,g (some y) 0 0 0 z x)∧∀ c b a d f o,g c b a d f o→∀ _:Env,(br (decide ((d:Int) < ((e:Int)))) (idx h e d 4 fun q =>
 ∃ k,f.cell? (q.add 0)=some (I k)∧br (decide (k=4)) (idx h e d 4 fun r =>
 ∃ l,f.cell? (r.add 1)=some (S l)∧al f 9 [S l] fun s t =>
 app prog [31,31] 31 (L c b a) (.slice (some s) 1 1) t fun p n m u =>
 ∃ i,i < o∧g p n m (i64.wrap (d + 1)) u i) (∃ j,j < o∧g c b a (i64.wrap (d + 1)) f j)) (R (.returned (L c b a)) f))
theorem q5q {c b a R w} (h:q1e c b a R w):Calls prog qs1 ⟨[L c b a]⟩ w R:=qe Tryz.func65 (Eq.mpr (by kernel_rfl:fnV _ _ q2j _ _ _=_) h)
def q2i:Ann:=T F (T (T F (.one (.loop 524272 [(5,.one (.int .i64))] (T (T F (T F F)) (T (.one (T F (T (T F F) F))) F))))) (T F F))
def q1d (f:Option Addr) (b:Nat) (j:Nat) (h:List UInt8) (R:Ending→World→Prop) (w:World):Prop :=
 ∃ (e:Int→World→Nat→Prop),(∃ k,e 0 w k)∧∀ a c g,e a c g→∀ _:Env,(br (decide ((a:Int) < ((b:Int)))) (idx f b a 1 fun l =>
 ∃ i,c.cell? l=some (S i)∧br (decide (i=h)) (R (.returned (I a)) c) (∃ d,d < g∧e (i64.wrap (a + 1)) c d)) (R (.returned (.int .i64 ((-1)))) c))
theorem q5p {c b a d R w} (h:q1d c b a d R w):Calls prog qs0 ⟨[L c b a,S d]⟩ w R:=qe Tryz.func66 (Eq.mpr (by kernel_rfl:fnV _ _ q2i _ _ _=_) h)
def an_slices_ContainsFunc_of_api_Witness_api_Witness:Ann:=T F (T F F)
def sh_slices_ContainsFunc_of_api_Witness_api_Witness (f:Option Addr) (d:Nat) (c:Nat) (e:Fn) (a:Array Value) (b:Array Value) (R:Ending→World→Prop) (w:World):Prop :=
 Calls prog 117 ⟨[L f d c,.func e a b]⟩ w fun h i =>
 ∃ g,h=.returned (I g)∧(R (.returned (.bool (decide ((0:Int)≤g)))) i)
theorem c_slices_ContainsFunc_of_api_Witness_api_Witness {f d c e a b R w} (h:sh_slices_ContainsFunc_of_api_Witness_api_Witness f d c e a b R w):Calls prog F_slices_ContainsFunc_of_api_Witness_api_Witness ⟨[L f d c,.func e a b]⟩ w R:=qe Tryz.func69 (Eq.mpr (by kernel_rfl:fnV _ _ an_slices_ContainsFunc_of_api_Witness_api_Witness _ _ _=_) h)
def q0l:Ann:=T F (T F F)
def qyj (p:List UInt8) (q:Option Addr) (m:Nat) (l:Nat) (R:Ending→World→Prop) (w:World):Prop :=
 al w 45 [S p,L q m l] fun d k =>
 ∃ r,k.cell? (d.add 0)=some (S r)∧(∃ s j i,k.cell? (d.add 1)=some (L s j i)∧al k 45 [S r,L s j i] fun u v =>
 Calls prog 11 ⟨[.slice (some u) 1 1]⟩ v fun t a =>
 ∃ e,t=.returned (B e)∧br e (R (.returned (B true)) a) (∃ f,a.cell? (d.add 0)=some (S f)∧∃ g c b,a.cell? (d.add 1)=some (L g c b)∧Calls prog 43 ⟨[.agg ⟨[S f,L g c b]⟩]⟩ a fun n o =>
 ∃ h,n=.returned (I h)∧R (.returned (.bool (decide (h≠0)))) o))
theorem q2f {c d b a R w} (h:qyj c d b a R w):Calls prog qhq ⟨[.agg ⟨[S c,L d b a]⟩]⟩ w R:=qe Tryz.func70 (Eq.mpr (by kernel_rfl:fnV _ _ q0l _ _ _=_) h)
def qps:Ann:=T F (T F (T F (T (T F (.one (.rf [0,2,4,10] 0))) (T (T F (.one (.rf [0,2,28] 0))) (T (T F (T (T F F) F)) (T F F))))))
def qof (d:Option Addr) (b:Nat) (a:Nat) (R:Ending→World→Prop) (w:World):Prop :=
 al w 28 [I 0] fun c a8 =>
 al a8 3 [I 0] fun Z a9 =>
 stL a9 Z 0 [I 4096] fun b0 =>
 al b0 26 [.nilFunc] fun a0 b1 =>
 stL b1 a0 0 [.func (.func 118) ⟨[]⟩ ⟨[.pointer (some Z)]⟩] fun b2 =>
 Calls prog 119 ⟨[L d b a]⟩ b2 fun U a1 =>
 ∃ D n o,U=.returned (.func D n o)∧(∀ k:Env,RFw prog none 39 (cdAt Tryz.f71 [1,1,1,0,1,2]) (upd (upd (upd (upd k 10 (.func D n o)) 4 (.pointer (some a0))) 2 (.pointer (some c))) 0 (L d b a)) [] a1 0 (fun e h =>
 Calls prog 119 ⟨[L d b a]⟩ h fun X a5 =>
 ∃ K r s,X=.returned (.func K r s)∧∀ m:Env,RFw prog none 39 (cdAt Tryz.f71 [1,1,1,1,0,1,2]) (upd (upd (upd m 28 (.func K r s)) 2 (.pointer (some c))) 0 (L d b a)) e a5 0 (fun g j =>
 Calls prog 121 ⟨[L d b a]⟩ j fun Y y =>
 ∃ M,Y=.returned (S M)∧br (decide ((65536:Int) < ((List.length M:Int)))) (stL y c 0 [I 4] fun a6 =>
 retD g a6 fun z =>
 ∃ N,z.cell? c=some (I N)∧R (.returned (I N)) z) (stL y c 0 [I 0] fun a7 =>
 retD g a7 fun A =>
 ∃ O,A.cell? c=some (I O)∧R (.returned (I O)) A)) (fun g j =>
 retD g j fun B =>
 ∃ Q,B.cell? c=some (I Q)∧R (.returned (I Q)) B) (fun g j =>
 False)) (fun e h =>
 retD e h fun C =>
 ∃ T,C.cell? c=some (I T)∧R (.returned (I T)) C) (fun e h =>
 Calls prog 119 ⟨[L d b a]⟩ h fun V a2 =>
 ∃ E p q,V=.returned (.func E p q)∧∀ l:Env,RFw prog none 39 (cdAt Tryz.f71 [1,1,1,1,0,1,2]) (upd (upd (upd l 28 (.func E p q)) 2 (.pointer (some c))) 0 (L d b a)) e a2 0 (fun f i =>
 Calls prog 121 ⟨[L d b a]⟩ i fun W t =>
 ∃ F,W=.returned (S F)∧br (decide ((65536:Int) < ((List.length F:Int)))) (stL t c 0 [I 4] fun a3 =>
 retD f a3 fun u =>
 ∃ G,u.cell? c=some (I G)∧R (.returned (I G)) u) (stL t c 0 [I 0] fun a4 =>
 retD f a4 fun v =>
 ∃ H,v.cell? c=some (I H)∧R (.returned (I H)) v)) (fun f i =>
 retD f i fun x =>
 ∃ J,x.cell? c=some (I J)∧R (.returned (I J)) x) (fun f i =>
 False)))
theorem qr0 {c b a R w} (h:qof c b a R w):Calls prog qg9 ⟨[L c b a]⟩ w R:=qe Tryz.func71 (Eq.mpr (by kernel_rfl:fnV _ _ qps _ _ _=_) h)
def qej:Ann:=F
def qee:Ann:=.one (T F (T (T F F) F))
def qko (N:Option Addr) (M:Nat) (K:Nat) (d:Option Addr) (c:Option Addr) (E:Fn) (x:Array Value) (y:Array Value) (h:Int) (i:List UInt8) (j:Int) (k:Option Addr) (f:Nat) (e:Nat) (m:Int) (n:Bool) (l:Nat) (Kn Kr Kx:World→World→Prop) (w:World):Prop :=
 al w 159 [I 0,S [],I 0,L none 0 0,I 0,B false] fun g F =>
 stL F g 0 [I h,S i,I j,L k f e,I m,B n] fun r =>
 Ext w r∧∀ a:World,Upd l r a→(dr c fun A =>
 ∃ s o p,a.cell? A=some (.func s o p)∧CallV prog (.func s o p) [] a fun z b =>
 ∃ t,z=.returned (B t)∧br (!t) (dr d fun C =>
 stL b C 0 [I 4] fun G =>
 Kr a G) (∃ u,b.cell? (g.add 4)=some (I u)∧br (decide ((16:Int)≤u)) (∃ J q v,b.cell? ((g.add 0).add 3)=some (L J q v)∧br (decide ((0:Int) < (q))) (dr d fun D =>
 stL b D 0 [I 4] fun H =>
 Kr a H) (Kn a b)) (Kn a b)))
theorem qk1 (base:Env) (q:Option Addr) (o:Nat) (n:Nat) (p:Option Addr) (a:Option Addr) (f:Fn) (b:Array Value) (c:Array Value) (g:Int) (h:List UInt8) (i:Int) (j:Option Addr) (e:Nat) (d:Nat) (k:Int) (m:Bool) (l:Nat) (Kn Kr Kx:World→World→Prop) (w:World):fragV prog 39 qej qee (cdAt Tryz.f71 [1,1,1,0,1,2,5]) (cdAt Tryz.f71 [1,1,1,0,1,2,6]) l 0 Kn Kr Kx (updPs [11] [.agg ⟨[I g,S h,I i,L j e d,I k,B m]⟩] (upd (upd (upd (upd base 10 (.func f b c)) 4 (.pointer a)) 2 (.pointer p)) 0 (L q o n))) w=qko q o n p a f b c g h i j e d k m l Kn Kr Kx w:=by kernel_rfl
theorem qlb:cdAt Tryz.f71 [1,1,1,0,1,2]=.rangeFunc (Operand.tmp 10) #[11] (cdAt Tryz.f71 [1,1,1,0,1,2,5]) (cdAt Tryz.f71 [1,1,1,0,1,2,6]):=by kernel_rfl
def qei:Ann:=F
def qed:Ann:=.one (T F (T F (T (T F F) F)))
def qkn (J:Option Addr) (H:Nat) (G:Nat) (o:Option Addr) (D:Fn) (z:Array Value) (A:Array Value) (e:Int) (f:List UInt8) (g:Int) (h:Option Addr) (d:Nat) (c:Nat) (i:Int) (j:Bool) (l:Nat) (Kn Kr Kx:World→World→Prop) (w:World):Prop :=
 al w 159 [I 0,S [],I 0,L none 0 0,I 0,B false] fun b E =>
 stL E b 0 [I e,S f,I g,L h d c,I i,B j] fun p =>
 Ext w p∧∀ a:World,Upd l p a→(∃ r,a.cell? (b.add 0)=some (I r)∧∃ s,a.cell? (b.add 1)=some (S s)∧∃ t,a.cell? (b.add 2)=some (I t)∧∃ u m k,a.cell? (b.add 3)=some (L u m k)∧∃ v,a.cell? (b.add 4)=some (I v)∧∃ x,a.cell? (b.add 5)=some (B x)∧Calls prog 120 ⟨[.agg ⟨[I r,S s,I t,L u m k,I v,B x]⟩]⟩ a fun C q =>
 ∃ n,C=.returned (I n)∧br (decide (n≠0)) (dr o fun y =>
 stL q y 0 [I n] fun F =>
 Kr a F) (Kn a q))
theorem qk0 (base:Env) (p:Option Addr) (n:Nat) (m:Nat) (o:Option Addr) (e:Fn) (a:Array Value) (b:Array Value) (f:Int) (g:List UInt8) (h:Int) (i:Option Addr) (d:Nat) (c:Nat) (j:Int) (k:Bool) (l:Nat) (Kn Kr Kx:World→World→Prop) (w:World):fragV prog 39 qei qed (cdAt Tryz.f71 [1,1,1,1,0,1,2,5]) (cdAt Tryz.f71 [1,1,1,1,0,1,2,6]) l 0 Kn Kr Kx (updPs [29] [.agg ⟨[I f,S g,I h,L i d c,I j,B k]⟩] (upd (upd (upd base 28 (.func e a b)) 2 (.pointer o)) 0 (L p n m))) w=qkn p n m o e a b f g h i d c j k l Kn Kr Kx w:=by kernel_rfl
theorem qla:cdAt Tryz.f71 [1,1,1,1,0,1,2]=.rangeFunc (Operand.tmp 28) #[29] (cdAt Tryz.f71 [1,1,1,1,0,1,2,5]) (cdAt Tryz.f71 [1,1,1,1,0,1,2,6]):=by kernel_rfl
def qu4:Ann:=T F (T F F)
def qts (f:Option Addr) (e:Nat) (d:Nat) (a:Int) (R:Ending→World→Prop) (w:World):Prop :=
 al w 3 [I a] fun i j =>
 Calls prog 122 ⟨[L f e d,.func (.func 123) ⟨[]⟩ ⟨[.pointer (some i)]⟩]⟩ j fun h k =>
 ∃ g c b,h=.returned (L g c b)∧(R (.returned (L g c b)) k)
theorem qjn {d c b a R w} (h:qts d c b a R w):Calls prog qff ⟨[L d c b,I a]⟩ w R:=qe Tryz.func72 (Eq.mpr (by kernel_rfl:fnV _ _ qu4 _ _ _=_) h)
def q0b:Ann:=T F (T (T F (.one (.rf [2,3,4,5,6,11] 0))) (T F F))
def qx9 (T:Option Addr) (O:Nat) (N:Nat) (d:List UInt8) (R:Ending→World→Prop) (w:World):Prop :=
 al w 43 [L T O N] fun U a4 =>
 al a4 9 [S d] fun a3 a5 =>
 al a5 43 [L none 0 0] fun i a6 =>
 al a6 51 [S [],I 0] fun c V =>
 al V 4 [B false] fun b u =>
 ∃ v l k,u.cell? U=some (L v l k)∧(Calls prog 91 ⟨[L v l k]⟩ u fun Q W =>
 ∃ x m n,Q=.returned (.func x m n)∧∀ j:Env,RFw prog none 44 (cdAt Tryz.f73 [1,0,1,2]) (upd (upd (upd (upd (upd (upd j 11 (.func x m n)) 6 (.pointer (some b))) 5 (.pointer (some c))) 4 (.pointer (some i))) 3 (.pointer (some a3))) 2 (.pointer (some U))) [] W 0 (fun a e =>
 stL e i 0 [L none 0 0] fun a0 =>
 stL a0 c 0 [S [],I 0] fun a1 =>
 stL a1 b 0 [B false] fun a2 =>
 retD a a2 fun g =>
 ∃ D r q,g.cell? i=some (L D r q)∧∃ E,g.cell? (c.add 0)=some (S E)∧∃ F,g.cell? (c.add 1)=some (I F)∧∃ G,g.cell? b=some (B G)∧R (.returned (.tuple ⟨[L D r q,.agg ⟨[S E,I F]⟩,B G]⟩)) g) (fun a e =>
 retD a e fun h =>
 ∃ H t s,h.cell? i=some (L H t s)∧∃ J,h.cell? (c.add 0)=some (S J)∧∃ K,h.cell? (c.add 1)=some (I K)∧∃ M,h.cell? b=some (B M)∧R (.returned (.tuple ⟨[L H t s,.agg ⟨[S J,I K]⟩,B M]⟩)) h) (fun a e =>
 stL e i 0 [L none 0 0] fun X =>
 stL X c 0 [S [],I 0] fun Y =>
 stL Y b 0 [B false] fun Z =>
 retD a Z fun f =>
 ∃ y p o,f.cell? i=some (L y p o)∧∃ z,f.cell? (c.add 0)=some (S z)∧∃ A,f.cell? (c.add 1)=some (I A)∧∃ C,f.cell? b=some (B C)∧R (.returned (.tuple ⟨[L y p o,.agg ⟨[S z,I A]⟩,B C]⟩)) f))
theorem q15 {d c b a R w} (h:qx9 d c b a R w):Calls prog qnr ⟨[L d c b,S a]⟩ w R:=qe Tryz.func73 (Eq.mpr (by kernel_rfl:fnV _ _ q0b _ _ _=_) h)
def qg1:Ann:=T F F
def qgz:Ann:=.one (T (T F (T F F)) (T F (.cut 8589410816 [(9,.one (.int .i64))] (.one (.loop 8589410816 [(9,.one (.int .i64))] (T (T F (T F F)) (.one F)))) (T (.one F) F))))
def qtw (d:Option Addr) (g:Option Addr) (h:Option Addr) (i:Option Addr) (j:Option Addr) (c1:Fn) (a1:Array Value) (a2:Array Value) (q:List UInt8) (b:Int) (l:Nat) (Kn Kr Kx:World→World→Prop) (w:World):Prop :=
 Ext w w∧∀ e:World,Upd l w e→(dr g fun a8 =>
 ∃ D,e.cell? a8=some (S D)∧br (decide ((q:List UInt8)≠D)) (Kn e e) (∀ (n:Int→World→Prop),(∀ (c:Int) (A:World),(∀ _:Env,(drw A fun k =>
 dr d fun a9 =>
 ∃ E W r,k.cell? a9=some (L E W r)∧sls E r 0 b 4 fun x p o =>
 (dr d fun b0 =>
 ∃ F X s,k.cell? b0=some (L F X s)∧sls F s (i64.wrap (b + 1)) c 4 fun a3 T Q =>
 (Calls prog 125 ⟨[.agg ⟨[S [],I 0]⟩,L x p o]⟩ k fun a5 c2 =>
 ∃ G H,a5=.returned (.agg ⟨[S G,I H]⟩)∧((dr h fun b1 =>
 stL c2 b1 0 [L a3 T Q] fun c3 =>
 (dr i fun b2 =>
 stL c3 b2 0 [S G,I H] fun c4 =>
 (dr j fun b3 =>
 stL c4 b3 0 [B true] fun c5 =>
 Kr e c5)∧True)∧True)∧True))∧True)∧(Calls prog 125 ⟨[.agg ⟨[S [],I 0]⟩,L x p o]⟩ k fun a6 C =>
 ∃ J K,a6=.returned (.agg ⟨[S J,I K]⟩)∧dr d fun b4 =>
 ∃ M Y t,C.cell? b4=some (L M Y t)∧sls M t (i64.wrap (b + 1)) c 4 fun a4 V U =>
 (dr h fun b5 =>
 stL C b5 0 [L a4 V U] fun c6 =>
 (dr i fun b6 =>
 stL c6 b6 0 [S J,I K] fun c7 =>
 (dr j fun b7 =>
 stL c7 b7 0 [B true] fun c8 =>
 Kr e c8)∧True)∧True)∧True)∧True))→n c A)→(∃ (m:Int→World→Nat→Prop),(∃ a7,m (i64.wrap (b + 1)) e a7)∧∀ a f y,m a f y→∀ _:Env,(dr d fun b8 =>
 ∃ c9 u Z,f.cell? b8=some (L c9 u Z)∧br (decide ((a:Int) < (u))) (dr d fun b9 =>
 ∃ N v a0,f.cell? b9=some (L N v a0)∧idx N v a 4 fun c0 =>
 ∃ O,f.cell? (c0.add 0)=some (I O)∧br (decide (O≠4)) (∃ z,z < y∧m (i64.wrap (a + 1)) f z) (n a f)) (n a f)))))
theorem qt5 (base:Env) (j:Option Addr) (a:Option Addr) (g:Option Addr) (h:Option Addr) (i:Option Addr) (d:Fn) (b:Array Value) (c:Array Value) (e:List UInt8) (f:Int) (l:Nat) (Kn Kr Kx:World→World→Prop) (w:World):fragV prog 44 qg1 qgz (cdAt Tryz.f73 [1,0,1,2,5]) (cdAt Tryz.f73 [1,0,1,2,6]) l 0 Kn Kr Kx (updPs [12,13] [S e,I f] (upd (upd (upd (upd (upd (upd base 11 (.func d b c)) 6 (.pointer i)) 5 (.pointer h)) 4 (.pointer g)) 3 (.pointer a)) 2 (.pointer j))) w=qtw j a g h i d b c e f l Kn Kr Kx w:=by kernel_rfl
theorem quc:cdAt Tryz.f73 [1,0,1,2]=.rangeFunc (Operand.tmp 11) #[12,13] (cdAt Tryz.f73 [1,0,1,2,5]) (cdAt Tryz.f73 [1,0,1,2,6]):=by kernel_rfl
def qcu:Ann:=T F (T (T F (T (T F F) F)) (T F F))
def qcr (a:Option Addr) (c:Nat) (b:Nat) (R:Ending→World→Prop) (w:World):Prop :=
 br (Option.isNone a) (R (.returned (L none 0 0)) w) (al w 56 [] fun g h =>
 app prog [43,43] 43 (.slice (some g) 0 0) (L a c b) h fun f e d i =>
 R (.returned (L f e d)) i)
theorem qc4 {c b a R w} (h:qcr c b a R w):Calls prog qa3 ⟨[L c b a]⟩ w R:=qe Tryz.func74 (Eq.mpr (by kernel_rfl:fnV _ _ qcu _ _ _=_) h)
def qap:Ann:=T F (T (T F (T (T F F) F)) (T (T F (.one (.loop 4294837184 [(17,.one (.int .i64))] (T F (T (T F F) (T (.one (T F (T F (T F (T (T F F) F))))) F)))))) (T F F)))
def qao (W:Option Addr) (c:Nat) (a2:Nat) (X:Option Addr) (i:Nat) (a3:Nat) (V:Fn) (r:Array Value) (s:Array Value) (R:Ending→World→Prop) (w:World):Prop :=
 br (decide ((((c:Int)):Int)≠((i:Int)))) (R (.returned (B false)) w) (∃ (U:Int→World→Nat→Prop),(∃ a4,U 0 w a4)∧∀ a g Z,U a g Z→∀ _:Env,(br (decide ((a:Int) < ((c:Int)))) (idx W c a 4 fun t =>
 ∃ x,g.cell? (t.add 0)=some (I x)∧∃ y,g.cell? (t.add 1)=some (S y)∧∃ z,g.cell? (t.add 2)=some (I z)∧∃ A k j,g.cell? (t.add 3)=some (L A k j)∧al g 56 [I 0,S [],I 0,L none 0 0] fun d a0 =>
 stL a0 d 0 [I x,S y,I z,L A k j] fun f =>
 idx X i a 4 fun h =>
 ∃ C,f.cell? (h.add 0)=some (I C)∧∃ D,f.cell? (h.add 1)=some (S D)∧∃ E,f.cell? (h.add 2)=some (I E)∧∃ F m l,f.cell? (h.add 3)=some (L F m l)∧al f 56 [I 0,S [],I 0,L none 0 0] fun e a1 =>
 stL a1 e 0 [I C,S D,I E,L F m l] fun b =>
 ∃ G,b.cell? (d.add 0)=some (I G)∧∃ H,b.cell? (d.add 1)=some (S H)∧∃ J,b.cell? (d.add 2)=some (I J)∧∃ K o n,b.cell? (d.add 3)=some (L K o n)∧∃ M,b.cell? (e.add 0)=some (I M)∧∃ N,b.cell? (e.add 1)=some (S N)∧∃ O,b.cell? (e.add 2)=some (I O)∧∃ Q q p,b.cell? (e.add 3)=some (L Q q p)∧CallV prog (.func V r s) [.agg ⟨[I G,S H,I J,L K o n]⟩,.agg ⟨[I M,S N,I O,L Q q p]⟩] b fun Y v =>
 ∃ T,Y=.returned (B T)∧br (!T) (R (.returned (B false)) v) (∃ u,u < Z∧U (i64.wrap (a + 1)) v u)) (R (.returned (B true)) g)))
theorem qar {i d c j f e g a b R w} (h:qao i d c j f e g a b R w):Calls prog qau ⟨[L i d c,L j f e,.func g a b]⟩ w R:=qe Tryz.func75 (Eq.mpr (by kernel_rfl:fnV _ _ qap _ _ _=_) h)
def qnc:Ann:=T F (T F F)
def qmu (y:Int) (z:List UInt8) (A:Int) (C:Option Addr) (r:Nat) (q:Nat) (D:Int) (E:List UInt8) (F:Int) (G:Option Addr) (t:Nat) (s:Nat) (R:Ending→World→Prop) (w:World):Prop :=
 al w 56 [I y,S z,I A,L C r q] fun g v =>
 al v 56 [I D,S E,I F,L G t s] fun b a =>
 ∃ h,a.cell? (g.add 0)=some (I h)∧(∃ i,a.cell? (b.add 0)=some (I i)∧br (decide (h=i)) (∃ j,a.cell? (g.add 1)=some (S j)∧∃ k,a.cell? (b.add 1)=some (S k)∧br (decide (j=k)) (∃ l,a.cell? (g.add 2)=some (I l)∧∃ m,a.cell? (b.add 2)=some (I m)∧br (decide (l=m)) (∃ n d c,a.cell? (g.add 3)=some (L n d c)∧∃ o f e,a.cell? (b.add 3)=some (L o f e)∧Calls prog 32 ⟨[L n d c,L o f e]⟩ a fun u x =>
 ∃ p,u=.returned (B p)∧R (.returned (B p)) x) (R (.returned (B false)) a)) (R (.returned (B false)) a)) (R (.returned (B false)) a))
theorem qpe {e f g i b a j k l m d c R w} (h:qmu e f g i b a j k l m d c R w):Calls prog qgh ⟨[.agg ⟨[I e,S f,I g,L i b a]⟩,.agg ⟨[I j,S k,I l,L m d c]⟩]⟩ w R:=qe Tryz.func76 (Eq.mpr (by kernel_rfl:fnV _ _ qnc _ _ _=_) h)
def qsp:Ann:=T F (T (T F (T (T F F) F)) (T (T F (.one (.loop 2095156 [(11,.one (.int .i64))] (T F (T (T F F) (T (.one (T F (T F (T F (T (T F F) F))))) F)))))) (T F F)))
def qqv (c:Option Addr) (a:Nat) (m:Nat) (R:Ending→World→Prop) (w:World):Prop :=
 br (decide ((64:Int) < ((a:Int)))) (R (.returned (I 4)) w) (∃ (l:Int→World→Nat→Prop),(∃ t,l 0 w t)∧∀ b f o,l b f o→∀ _:Env,(br (decide ((b:Int) < ((a:Int)))) (idx c a b 2 fun p =>
 ∃ r,f.cell? (p.add 0)=some (S r)∧∃ s,f.cell? (p.add 1)=some (S s)∧al f 91 [S [],S []] fun d q =>
 stL q d 0 [S r,S s] fun e =>
 ∃ j,e.cell? (d.add 0)=some (S j)∧∃ k,e.cell? (d.add 1)=some (S k)∧Calls prog 126 ⟨[.agg ⟨[S j,S k]⟩]⟩ e fun n i =>
 ∃ g,n=.returned (I g)∧br (decide (g≠0)) (R (.returned (I g)) i) (∃ h,h < o∧l (i64.wrap (b + 1)) i h)) (R (.returned (I 0)) f)))
theorem qus {c b a R w} (h:qqv c b a R w):Calls prog qis ⟨[L c b a]⟩ w R:=qe Tryz.func77 (Eq.mpr (by kernel_rfl:fnV _ _ qsp _ _ _=_) h)
def qsi:Ann:=T F (T F F)
def qqo (a:List UInt8) (R:Ending→World→Prop) (w:World):Prop :=
 br (decide ((a:List UInt8)=([]))) (R (.returned (B true)) w) (Calls prog 90 ⟨[S a]⟩ w fun c d =>
 ∃ b,c=.returned (B b)∧R (.returned (B b)) d)
theorem quk {a R w} (h:qqo a R w):Calls prog qim ⟨[S a]⟩ w R:=qe Tryz.func78 (Eq.mpr (by kernel_rfl:fnV _ _ qsi _ _ _=_) h)
def qpr:Ann:=T F (T (T F (T (T F F) F)) (.cut 129072 [(4,.one (.int .i64)),(5,.one (.int .i64))] (T F (T (T F F) F)) (T F (T (T F (.one (.rf [3,4,5,6,18] 0))) (T F F)))))
def qoe (m:Option Addr) (j:Nat) (i:Nat) (h:Int) (R:Ending→World→Prop) (w:World):Prop :=
 al w 3 [I h] fun t F =>
 Calls prog 71 ⟨[L m j i]⟩ F fun E f =>
 ∃ D,E=.returned (I D)∧(br (decide (D≠0)) (R (.returned (.tuple ⟨[I 0,I 1]⟩)) f) (∀ (u:Int→Int→World→Prop),(∀ (d:Int) (c:Int) (n:World),(∀ _:Env,(al n 3 [I 0] fun e x =>
 stL x e 0 [I 0] fun y =>
 Calls prog 119 ⟨[L m j i]⟩ y fun v z =>
 ∃ o k l,v=.returned (.func o k l)∧∀ g:Env,RFw prog none 28 (cdAt Tryz.f79 [1,1,1,1,0,1,2]) (upd (upd (upd (upd (upd g 18 (.func o k l)) 6 (.pointer (some e))) 5 (I c)) 4 (I d)) 3 (.pointer (some t))) [] z 0 (fun a b =>
 ∃ q,b.cell? e=some (I q)∧retD a b fun B =>
 R (.returned (.tuple ⟨[I q,I 0]⟩)) B) (fun a b =>
 retD a b fun C =>
 R (.returned (.tuple ⟨[I d,I c]⟩)) C) (fun a b =>
 ∃ p,b.cell? e=some (I p)∧retD a b fun A =>
 R (.returned (.tuple ⟨[I p,I 0]⟩)) A)))→u d c n)→(∃ r,f.cell? t=some (I r)∧br (decide (r < 1)) (R (.returned (.tuple ⟨[I 0,I 8]⟩)) f) (∃ s,f.cell? t=some (I s)∧br (decide ((11:Int) < s)) (R (.returned (.tuple ⟨[I 0,I 8]⟩)) f) (u 0 0 f)))))
theorem qrz {d c b a R w} (h:qoe d c b a R w):Calls prog qg8 ⟨[L d c b,I a]⟩ w R:=qe Tryz.func79 (Eq.mpr (by kernel_rfl:fnV _ _ qpr _ _ _=_) h)
def qeh:Ann:=F
def qec:Ann:=.one (T F (T F F))
def qkm (b:Option Addr) (A:Int) (C:Int) (e:Option Addr) (x:Fn) (r:Array Value) (s:Array Value) (f:Int) (g:List UInt8) (h:Int) (i:Option Addr) (d:Nat) (c:Nat) (j:Int) (k:Bool) (l:Nat) (Kn Kr Kx:World→World→Prop) (w:World):Prop :=
 al w 159 [I 0,S [],I 0,L none 0 0,I 0,B false] fun m y =>
 stL y m 0 [I f,S g,I h,L i d c,I j,B k] fun n =>
 Ext w n∧∀ a:World,Upd l n a→(∃ o,a.cell? ((m.add 0).add 0)=some (I o)∧dr b fun t =>
 ∃ p,a.cell? t=some (I p)∧br (decide (o=p)) (dr e fun u =>
 ∃ q,a.cell? u=some (I q)∧dr e fun v =>
 stL a v 0 [.int .i64 (i64.wrap (q + 1))] fun z =>
 Kn a z) (Kn a a))
theorem qkz (base:Env) (a:Option Addr) (n:Int) (o:Int) (p:Option Addr) (f:Fn) (b:Array Value) (c:Array Value) (g:Int) (h:List UInt8) (i:Int) (j:Option Addr) (e:Nat) (d:Nat) (k:Int) (m:Bool) (l:Nat) (Kn Kr Kx:World→World→Prop) (w:World):fragV prog 28 qeh qec (cdAt Tryz.f79 [1,1,1,1,0,1,2,5]) (cdAt Tryz.f79 [1,1,1,1,0,1,2,6]) l 0 Kn Kr Kx (updPs [19] [.agg ⟨[I g,S h,I i,L j e d,I k,B m]⟩] (upd (upd (upd (upd (upd base 18 (.func f b c)) 6 (.pointer p)) 5 (I o)) 4 (I n)) 3 (.pointer a))) w=qkm a n o p f b c g h i j e d k m l Kn Kr Kx w:=by kernel_rfl
theorem qk9:cdAt Tryz.f79 [1,1,1,1,0,1,2]=.rangeFunc (Operand.tmp 18) #[19] (cdAt Tryz.f79 [1,1,1,1,0,1,2,5]) (cdAt Tryz.f79 [1,1,1,1,0,1,2,6]):=by kernel_rfl
def qsk:Ann:=T F (T F F)
def qqq (a:List UInt8) (b:Int) (e:Option Addr) (d:Nat) (c:Nat) (R:Ending→World→Prop) (w:World):Prop :=
 al w 51 [S a,I b] fun f h =>
 al h 43 [L e d c] fun g i =>
 R (.returned (.func (.func 127) ⟨[]⟩ ⟨[.pointer (some f),.pointer (some g)]⟩)) i
theorem qum {a b e d c R w} (h:qqq a b e d c R w):Calls prog qio ⟨[.agg ⟨[S a,I b]⟩,L e d c]⟩ w R:=qe Tryz.func80 (Eq.mpr (by kernel_rfl:fnV _ _ qsk _ _ _=_) h)
def qia:Ann:=T F (T F (.one (T F (T F (T F (T (T F (T F (.cut 128849018896 [(4,.one (.int .i64))] (T F (T F F)) (T F F)))) (T F F)))))))
def qhx (a:Option Addr) (f3:Int) (f4:Int) (f5:Int) (f6:List UInt8) (f7:Int) (f8:Bool) (f9:List UInt8) (R:Ending→World→Prop) (w:World):Prop :=
 al w 123 [I f3,.int .u8 f4,I f5,S f6,I f7,B f8,S f9] fun b d =>
 ∃ n,d.cell? (b.add 0)=some (I n)∧(br (decide (n=1)) (∃ q,d.cell? (b.add 0)=some (I q)∧∃ r,d.cell? (b.add 1)=some (.int .u8 r)∧∃ s,d.cell? (b.add 2)=some (I s)∧∃ t,d.cell? (b.add 3)=some (S t)∧∃ u,d.cell? (b.add 4)=some (I u)∧∃ v,d.cell? (b.add 5)=some (B v)∧∃ x,d.cell? (b.add 6)=some (S x)∧Calls prog 129 ⟨[.pointer a,.agg ⟨[I q,.int .u8 r,I s,S t,I u,B v,S x]⟩]⟩ d fun a3 d1 =>
 a3=.returned (.tuple ⟨[]⟩)∧R (.returned (.tuple ⟨[]⟩)) d1) (br (decide (n=6)) (Calls prog 82 ⟨[.pointer a]⟩ d fun a4 l =>
 a4=.returned (.tuple ⟨[]⟩)∧∀ (h:Int→World→Prop),(∀ (f:Int) (e:World),(∀ _:Env,(∃ y,e.cell? (b.add 0)=some (I y)∧∃ z,e.cell? (b.add 1)=some (.int .u8 z)∧∃ A,e.cell? (b.add 2)=some (I A)∧∃ C,e.cell? (b.add 3)=some (S C)∧∃ D,e.cell? (b.add 4)=some (I D)∧∃ E,e.cell? (b.add 5)=some (B E)∧∃ F,e.cell? (b.add 6)=some (S F)∧Calls prog 130 ⟨[.pointer a,.agg ⟨[I y,.int .u8 z,I A,S C,I D,B E,S F]⟩,I f]⟩ e fun a5 d2 =>
 a5=.returned (.tuple ⟨[]⟩)∧drw d2 fun g =>
 (Calls prog 131 ⟨[.pointer a]⟩ g fun a6 o =>
 ∃ G,a6=.returned (.pointer G)∧∃ H,o.cell? (b.add 2)=some (I H)∧((Calls prog 59 ⟨[I H]⟩ o fun a7 d3 =>
 ∃ J,a7=.returned (S J)∧(sadd ([91]) J fun c5 =>
 sadd c5 ([93]) fun c6 =>
 dr G fun b3 =>
 (stL d3 (b3.add 0) 0 [S c6] fun d4 =>
 R (.returned (.tuple ⟨[]⟩)) d4)∧True))∧True))∧((Calls prog 131 ⟨[.pointer a]⟩ g fun a8 p =>
 ∃ K,a8=.returned (.pointer K)∧∃ L,p.cell? (b.add 2)=some (I L)∧((Calls prog 59 ⟨[I L]⟩ p fun a9 d5 =>
 ∃ M,a9=.returned (S M)∧(sadd ([91]) M fun c7 =>
 sadd c7 ([93]) fun c8 =>
 dr K fun b4 =>
 (stL d5 (b4.add 0) 0 [S c8] fun d6 =>
 R (.returned (.tuple ⟨[]⟩)) d6)∧True))∧True))∧(∃ N,g.cell? (b.add 2)=some (I N)∧((Calls prog 131 ⟨[.pointer a]⟩ g fun b0 d7 =>
 ∃ O,b0=.returned (.pointer O)∧((Calls prog 59 ⟨[I N]⟩ d7 fun b1 d8 =>
 ∃ Q,b1=.returned (S Q)∧(sadd ([91]) Q fun c9 =>
 sadd c9 ([93]) fun d0 =>
 dr O fun b5 =>
 (stL d8 (b5.add 0) 0 [S d0] fun d9 =>
 R (.returned (.tuple ⟨[]⟩)) d9)∧True))∧True))∧True))∧True)∧True))→h f e)→(∃ T,l.cell? (b.add 5)=some (B T)∧br T (h (bitO .i64 2 1) l) (h 2 l))) (Calls prog 82 ⟨[.pointer a]⟩ d fun b2 e0 =>
 b2=.returned (.tuple ⟨[]⟩)∧drw e0 fun c =>
 dr a fun b6 =>
 ∃ U,c.cell? (b6.add 5)=some (B U)∧br U ((dr a fun b7 =>
 (stL c (b7.add 4) 0 [B false] fun e1 =>
 dr a fun b8 =>
 (stL e1 (b8.add 5) 0 [B true] fun e2 =>
 R (.returned (.tuple ⟨[]⟩)) e2)∧True)∧True)∧(dr a fun i =>
 ((stL c (i.add 4) 0 [B false] fun e3 =>
 dr a fun b9 =>
 (stL e3 (b9.add 5) 0 [B true] fun e4 =>
 R (.returned (.tuple ⟨[]⟩)) e4)∧True)∧True)∧(((stL c (i.add 4) 0 [B false] fun e5 =>
 dr a fun c0 =>
 (stL e5 (c0.add 5) 0 [B true] fun e6 =>
 R (.returned (.tuple ⟨[]⟩)) e6)∧True)∧True)∧(stL c (i.add 4) 0 [B false] fun e7 =>
 dr a fun c1 =>
 (stL e7 (c1.add 5) 0 [B true] fun e8 =>
 R (.returned (.tuple ⟨[]⟩)) e8)∧True)∧True)∧True)∧True) ((∃ V,c.cell? (b.add 0)=some (I V)∧dr a fun c2 =>
 (stL c (c2.add 4) 0 [B false] fun e9 =>
 dr a fun c3 =>
 (stL e9 (c3.add 5) 0 [.bool (decide (V=5))] fun f0 =>
 R (.returned (.tuple ⟨[]⟩)) f0)∧True)∧True)∧(dr a fun j =>
 (∃ W,c.cell? (b.add 0)=some (I W)∧((stL c (j.add 4) 0 [B false] fun f1 =>
 dr a fun c4 =>
 (stL f1 (c4.add 5) 0 [.bool (decide (W=5))] fun f2 =>
 R (.returned (.tuple ⟨[]⟩)) f2)∧True)∧True))∧((∃ X,c.cell? (b.add 0)=some (I X)∧((stL c (j.add 4) 0 [B false] fun a0 =>
 dr a fun Y =>
 (stL a0 (Y.add 5) 0 [.bool (decide (X=5))] fun a1 =>
 R (.returned (.tuple ⟨[]⟩)) a1)∧True)∧True))∧(stL c (j.add 4) 0 [B false] fun k =>
 ∃ m,k.cell? (b.add 0)=some (I m)∧dr a fun Z =>
 (stL k (Z.add 5) 0 [.bool (decide (m=5))] fun a2 =>
 R (.returned (.tuple ⟨[]⟩)) a2)∧True)∧True)∧True)∧True))))
theorem qbr {a b c d e f g i R w} (h:qhx a b c d e f g i R w):Calls prog qdv ⟨[.pointer a,.agg ⟨[I b,.int .u8 c,I d,S e,I f,B g,S i]⟩]⟩ w R:=qe Tryz.func81 (Eq.mpr (by kernel_rfl:fnV _ _ qia _ _ _=_) h)
def qh9:Ann:=.cut 16380 [] (T F (T F F)) (T F F)
def qhw (a:Option Addr) (R:Ending→World→Prop) (w:World):Prop :=
 ∀ (c:World→Prop),(∀  (J:World),(∀ _:Env,(dr a fun U =>
 stL J (U.add 3) 0 [B false] fun X =>
 dr a fun V =>
 Calls prog 133 ⟨[.pointer (some (V.add 1))]⟩ X fun T Y =>
 T=.returned (.tuple ⟨[]⟩)∧R (.returned (.tuple ⟨[]⟩)) Y))→c J)→(dr a fun W =>
 ∃ e,w.cell? (W.add 3)=some (B e)∧br e (drw w fun b =>
 (Calls prog 131 ⟨[.pointer a]⟩ b fun n D =>
 ∃ f,n=.returned (.pointer f)∧dr a fun v =>
 (Calls prog 132 ⟨[.pointer (some (v.add 1))]⟩ D fun o E =>
 ∃ g,o=.returned (S g)∧dr f fun x =>
 (stL E (x.add 0) 0 [S g] fun F =>
 c F)∧True)∧True)∧((Calls prog 131 ⟨[.pointer a]⟩ b fun p G =>
 ∃ h,p=.returned (.pointer h)∧dr a fun y =>
 (Calls prog 132 ⟨[.pointer (some (y.add 1))]⟩ G fun q H =>
 ∃ i,q=.returned (S i)∧dr h fun z =>
 (stL H (z.add 0) 0 [S i] fun I =>
 c I)∧True)∧True)∧(dr a fun d =>
 (Calls prog 131 ⟨[.pointer a]⟩ b fun r K =>
 ∃ j,r=.returned (.pointer j)∧((Calls prog 132 ⟨[.pointer (some (d.add 1))]⟩ K fun s L =>
 ∃ k,s=.returned (S k)∧dr j fun A =>
 (stL L (A.add 0) 0 [S k] fun M =>
 c M)∧True)∧True))∧((Calls prog 131 ⟨[.pointer a]⟩ b fun t N =>
 ∃ l,t=.returned (.pointer l)∧((Calls prog 132 ⟨[.pointer (some (d.add 1))]⟩ N fun u O =>
 ∃ m,u=.returned (S m)∧dr l fun C =>
 (stL O (C.add 0) 0 [S m] fun Q =>
 c Q)∧True)∧True))∧True)∧True)∧True)∧True) (c w))
theorem qdq {a R w} (h:qhw a R w):Calls prog qa1 ⟨[.pointer a]⟩ w R:=qe Tryz.func82 (Eq.mpr (by kernel_rfl:fnV _ _ qh9 _ _ _=_) h)
def qbl:Ann:=T F (T F F)
def qbi (f:Option Addr) (d:Nat) (c:Nat) (e:Fn) (a:Array Value) (b:Array Value) (R:Ending→World→Prop) (w:World):Prop :=
 Calls prog 134 ⟨[L f d c,.func e a b]⟩ w fun h i =>
 ∃ g,h=.returned (I g)∧(R (.returned (.bool (decide ((0:Int)≤g)))) i)
theorem qbo {f d c e a b R w} (h:qbi f d c e a b R w):Calls prog qah ⟨[L f d c,.func e a b]⟩ w R:=qe Tryz.func83 (Eq.mpr (by kernel_rfl:fnV _ _ qbl _ _ _=_) h)
def qlm:Ann:=T F (T F F)
def qkc (a:List UInt8) (b:List UInt8) (c:List UInt8) (d:Int) (e:Int) (f:List UInt8) (R:Ending→World→Prop) (w:World):Prop :=
 al w 69 [S a,S b,S c,I d,I e,S f] fun i g =>
 ∃ h,g.cell? (i.add 0)=some (S h)∧(R (.returned (.bool (decide ((64:Int) < ((List.length h:Int)))))) g)
theorem qm1 {a b c d e f R w} (h:qkc a b c d e f R w):Calls prog qco ⟨[.agg ⟨[S a,S b,S c,I d,I e,S f]⟩]⟩ w R:=qe Tryz.func84 (Eq.mpr (by kernel_rfl:fnV _ _ qlm _ _ _=_) h)
def qjd:Ann:=T F (T (T F (.one (.loop 281474976709104 [(11,.one (.int .i64))] (T F (T (T F F) (T (.one (T F (T F (T (T F (T F F)) (T F (T (T F (T (T F F) F)) F)))))) F)))))) (T F F))
def qiz (h:Option Addr) (g:Nat) (f:Nat) (d:Option Addr) (b:Nat) (z:Nat) (R:Ending→World→Prop) (w:World):Prop :=
 ∃ (k:Int→World→Nat→Prop),(∃ K,k 0 w K)∧∀ a l A,k a l A→∀ _:Env,(br (decide ((a:Int) < ((b:Int)))) (idx d b a 6 fun M =>
 ∃ J,l.cell? (M.add 0)=some (S J)∧idx d b a 6 fun E =>
 stL l (E.add 1) 0 [S J] fun c =>
 idx d b a 6 fun e =>
 ∃ p,c.cell? (e.add 0)=some (S p)∧∃ q,c.cell? (e.add 1)=some (S q)∧∃ r,c.cell? (e.add 2)=some (S r)∧∃ s,c.cell? (e.add 3)=some (I s)∧∃ t,c.cell? (e.add 4)=some (I t)∧∃ u,c.cell? (e.add 5)=some (S u)∧Calls prog 135 ⟨[.agg ⟨[S p,S q,S r,I s,I t,S u]⟩]⟩ c fun C i =>
 ∃ v,C=.returned (B v)∧br (!v) (∃ m,m < A∧k (i64.wrap (a + 1)) i m) (idx d b a 6 fun F =>
 ∃ x,i.cell? (F.add 0)=some (S x)∧Calls prog 136 ⟨[L h g f,S x]⟩ i fun D o =>
 ∃ y j,D=.returned (.tuple ⟨[S y,I j]⟩)∧br (decide (j≠0)) (R (.returned (.tuple ⟨[L none 0 0,I j]⟩)) o) (idx d b a 6 fun G =>
 stL o (G.add 1) 0 [S y] fun H =>
 ∃ n,n < A∧k (i64.wrap (a + 1)) H n))) (R (.returned (.tuple ⟨[L d b z,I 0]⟩)) l))
theorem qj1 {c b a f e d R w} (h:qiz c b a f e d R w):Calls prog qem ⟨[L c b a,L f e d]⟩ w R:=qe Tryz.func85 (Eq.mpr (by kernel_rfl:fnV _ _ qjd _ _ _=_) h)
def qu6:Ann:=T F (T F F)
def qtu (a:List UInt8) (R:Ending→World→Prop) (w:World):Prop :=
 br (decide ((a:List UInt8)≠([]))) (br (decide ((((List.length a:Int)):Int)≤16)) (Calls prog 140 ⟨[S a]⟩ w fun c d =>
 ∃ b,c=.returned (I b)∧R (.returned (.bool (decide (b=((List.length a:Int)))))) d) (R (.returned (B false)) w)) (R (.returned (B false)) w)
theorem qws {a R w} (h:qtu a R w):Calls prog qjv ⟨[S a]⟩ w R:=qe Tryz.func90 (Eq.mpr (by kernel_rfl:fnV _ _ qu6 _ _ _=_) h)
def qpl:Ann:=T F (T F F)
def qn8 (c:Option Addr) (b:Nat) (a:Nat) (R:Ending→World→Prop) (w:World):Prop :=
 al w 43 [L c b a] fun d e =>
 R (.returned (.func (.func 141) ⟨[]⟩ ⟨[.pointer (some d)]⟩)) e
theorem qru {c b a R w} (h:qn8 c b a R w):Calls prog qg3 ⟨[L c b a]⟩ w R:=qe Tryz.func91 (Eq.mpr (by kernel_rfl:fnV _ _ qpl _ _ _=_) h)
def q0g:Ann:=T F (T F F)
def qye (a:List UInt8) (R:Ending→World→Prop) (w:World):Prop :=
 br (decide ((((List.length a:Int)):Int)≤16)) (Calls prog 149 ⟨[S a]⟩ w fun e b =>
 ∃ c,e=.returned (B c)∧br c (Calls prog 150 ⟨[S a]⟩ b fun f g =>
 ∃ d,f=.returned (I d)∧R (.returned (.bool (decide (d=((List.length a:Int)))))) g) (R (.returned (B false)) b)) (R (.returned (B false)) w)
theorem q2a {a R w} (h:qye a R w):Calls prog qnw ⟨[S a]⟩ w R:=qe Tryz.func93 (Eq.mpr (by kernel_rfl:fnV _ _ q0g _ _ _=_) h)
def q2q:Ann:=T F (T (T F (T F (T (T F F) F))) (T (T F (T F (T (T F F) F))) (T (T F (T (T F F) F)) (T F F))))
def q1l (c:Option Addr) (b:Nat) (a:Nat) (R:Ending→World→Prop) (w:World):Prop :=
 Calls prog 105 ⟨[L c b a,I 16,I 4096]⟩ w fun k h =>
 ∃ m n j,k=.returned (.tuple ⟨[I m,I n,B j]⟩)∧(br (!j) (R (.returned (I 4)) h) (Calls prog 151 ⟨[L c b a,B false]⟩ h fun l i =>
 ∃ f,l=.returned (I f)∧br (decide (f≠0)) (R (.returned (I f)) i) (Calls prog 152 ⟨[L c b a]⟩ i fun g d =>
 ∃ e,g=.returned (S e)∧br (decide ((65536:Int) < ((List.length e:Int)))) (R (.returned (I 4)) d) (R (.returned (I 0)) d))))
theorem q5x {c b a R w} (h:q1l c b a R w):Calls prog qs7 ⟨[L c b a]⟩ w R:=qe Tryz.func94 (Eq.mpr (by kernel_rfl:fnV _ _ q2q _ _ _=_) h)
def q0d:Ann:=T F (T (T F (.one (.loop 16380 [(3,.one (.int .i64))] (T (T F (T F F)) (T (.one (T F (T (T F F) F))) F))))) (T F F))
def qyb (c:List UInt8) (R:Ending→World→Prop) (w:World):Prop :=
 ∃ (d:Int→World→Nat→Prop),(∃ h,d 0 w h)∧∀ a b e,d a b e→∀ _:Env,(br (decide ((a:Int) < ((List.length c:Int)))) (sidx c a fun g =>
 br (decide ((((g.toNat:Int)):Int)≠32)) (R (.returned (B false)) b) (∃ f,f < e∧d (i64.wrap (a + 1)) b f)) (R (.returned (B true)) b))
theorem q17 {a R w} (h:qyb a R w):Calls prog qnt ⟨[S a]⟩ w R:=qe Tryz.func95 (Eq.mpr (by kernel_rfl:fnV _ _ q0d _ _ _=_) h)
def qw2:Ann:=T F (T F F)
def qjk (d:Option Addr) (c:Nat) (b:Nat) (a:Int) (R:Ending→World→Prop) (w:World):Prop :=
 Calls prog 72 ⟨[L d c b,.int .i64 (i64.wrap (a - 1))]⟩ w fun m p =>
 ∃ k g f,m=.returned (L k g f)∧(Calls prog 72 ⟨[L d c b,I a]⟩ p fun n q =>
 ∃ l i h,n=.returned (L l i h)∧Calls prog 32 ⟨[L k g f,L l i h]⟩ q fun o j =>
 ∃ e,o=.returned (B e)∧R (.returned (.bool (!e))) j)
theorem qz6 {d c b a R w} (h:qjk d c b a R w):Calls prog ql7 ⟨[L d c b,I a]⟩ w R:=qe Tryz.func96 (Eq.mpr (by kernel_rfl:fnV _ _ qw2 _ _ _=_) h)
def q6f:Ann:=T F (T F F)
def q4q (c:Option Addr) (b:Nat) (a:Nat) (R:Ending→World→Prop) (w:World):Prop :=
 al w 43 [L c b a] fun d e =>
 R (.returned (.func (.func 153) ⟨[]⟩ ⟨[.pointer (some d)]⟩)) e
theorem q8o {c b a R w} (h:q4q c b a R w):Calls prog qv1 ⟨[L c b a]⟩ w R:=qe Tryz.func98 (Eq.mpr (by kernel_rfl:fnV _ _ q6f _ _ _=_) h)
def qp2:Ann:=T F (T F F)
def qop (g:Int) (h:List UInt8) (i:Int) (j:Option Addr) (c:Nat) (b:Nat) (R:Ending→World→Prop) (w:World):Prop :=
 al w 56 [I g,S h,I i,L j c b] fun d a =>
 ∃ e,a.cell? (d.add 0)=some (I e)∧(br (decide (e=8)) (R (.returned (B true)) a) (∃ f,a.cell? (d.add 0)=some (I f)∧R (.returned (.bool (decide (f=9)))) a))
theorem qr8 {c d e f b a R w} (h:qop c d e f b a R w):Calls prog qhf ⟨[.agg ⟨[I c,S d,I e,L f b a]⟩]⟩ w R:=qe Tryz.func99 (Eq.mpr (by kernel_rfl:fnV _ _ qp2 _ _ _=_) h)
def qpz:Ann:=T F (T F (T F (T F (T F (T F (T F (T F F)))))))
def qom (a:List UInt8) (b:Int) (r:Option Addr) (o:Nat) (n:Nat) (R:Ending→World→Prop) (w:World):Prop :=
 al w 51 [S a,I b] fun s C =>
 al C 83 [L none 0 0] fun t p =>
 ∃ A,p.cell? (s.add 0)=some (S A)∧(∃ B,p.cell? (s.add 1)=some (I B)∧al p 51 [S [],I 0] fun c u =>
 stL u c 0 [S A,I B] fun v =>
 al v 187 [.nilFunc] fun i x =>
 stL x i 0 [.func (.func 156) ⟨[]⟩ ⟨[.pointer (some t),.pointer (some c)]⟩] fun y =>
 al y 188 [.nilFunc] fun d z =>
 stL z d 0 [.func (.func 157) ⟨[]⟩ ⟨[.pointer (some i),.pointer (some c),.pointer (some d)]⟩] fun j =>
 ∃ l e f,j.cell? d=some (.func l e f)∧CallV prog (.func l e f) [L r o n] j fun q k =>
 q=.returned (.tuple ⟨[]⟩)∧∃ m h g,k.cell? t=some (L m h g)∧R (.returned (L m h g)) k)
theorem qgw {a b e d c R w} (h:qom a b e d c R w):Calls prog qdx ⟨[.agg ⟨[S a,I b]⟩,L e d c]⟩ w R:=qe Tryz.func101 (Eq.mpr (by kernel_rfl:fnV _ _ qpz _ _ _=_) h)
def qpx:Ann:=T F (T (T F (T (T F F) F)) (T (T F (.one (.rf [2,8] 0))) (T F F)))
def qok (i:Option Addr) (f:Nat) (e:Nat) (R:Ending→World→Prop) (w:World):Prop :=
 al w 28 [I 0] fun b A =>
 Calls prog 71 ⟨[L i f e]⟩ A fun y t =>
 ∃ v,y=.returned (I v)∧(br (decide (v≠0)) (stL t b 0 [I 1] fun u =>
 ∃ x,u.cell? b=some (I x)∧R (.returned (I x)) u) (Calls prog 158 ⟨[L i f e]⟩ t fun z q =>
 ∃ m g h,z=.returned (.func m g h)∧∀ d:Env,RFw prog none 19 (cdAt Tryz.f102 [1,1,0,1,2]) (upd (upd d 8 (.func m g h)) 2 (.pointer (some b))) [] q 0 (fun a c =>
 stL c b 0 [I 0] fun s =>
 retD a s fun k =>
 ∃ o,k.cell? b=some (I o)∧R (.returned (I o)) k) (fun a c =>
 retD a c fun l =>
 ∃ p,l.cell? b=some (I p)∧R (.returned (I p)) l) (fun a c =>
 stL c b 0 [I 0] fun r =>
 retD a r fun j =>
 ∃ n,j.cell? b=some (I n)∧R (.returned (I n)) j)))
theorem qr5 {c b a R w} (h:qok c b a R w):Calls prog qhe ⟨[L c b a]⟩ w R:=qe Tryz.func102 (Eq.mpr (by kernel_rfl:fnV _ _ qpx _ _ _=_) h)
def qel:Ann:=F
def qeg:Ann:=.one (T F (T (T F F) F))
def qkq (b:Option Addr) (v:Fn) (q:Array Value) (r:Array Value) (f:Int) (g:List UInt8) (h:Int) (i:Option Addr) (e:Nat) (d:Nat) (p:Value) (l:Nat) (Kn Kr Kx:World→World→Prop) (w:World):Prop :=
 al w 56 [I 0,S [],I 0,L none 0 0] fun c s =>
 stL s c 0 [I f,S g,I h,L i e d] fun j =>
 Ext w j∧∀ a:World,Upd l j a→(∃ k,a.cell? (c.add 0)=some (I k)∧br (decide (k=8)) (dr b fun n =>
 stL a n 0 [I 13] fun t =>
 Kr a t) (∃ m,a.cell? (c.add 0)=some (I m)∧br (decide (m=9)) (dr b fun o =>
 stL a o 0 [I 13] fun u =>
 Kr a u) (Kn a a)))
theorem qk3 (base:Env) (f:Option Addr) (g:Fn) (b:Array Value) (c:Array Value) (h:Int) (i:List UInt8) (j:Int) (k:Option Addr) (e:Nat) (d:Nat) (a:Value) (l:Nat) (Kn Kr Kx:World→World→Prop) (w:World):fragV prog 19 qel qeg (cdAt Tryz.f102 [1,1,0,1,2,5]) (cdAt Tryz.f102 [1,1,0,1,2,6]) l 0 Kn Kr Kx (updPs [9,10] [.agg ⟨[I h,S i,I j,L k e d]⟩,a] (upd (upd base 8 (.func g b c)) 2 (.pointer f))) w=qkq f g b c h i j k e d a l Kn Kr Kx w:=by kernel_rfl
theorem qld:cdAt Tryz.f102 [1,1,0,1,2]=.rangeFunc (Operand.tmp 8) #[9,10] (cdAt Tryz.f102 [1,1,0,1,2,5]) (cdAt Tryz.f102 [1,1,0,1,2,6]):=by kernel_rfl
def qlo:Ann:=T F (T (T F (T (T F F) F)) (T F F))
def qke (a:List UInt8) (R:Ending→World→Prop) (w:World):Prop :=
 br (decide ((65536:Int) < ((List.length a:Int)))) (R (.returned (.tuple ⟨[S [],I 4]⟩)) w) (R (.returned (.tuple ⟨[S a,I 0]⟩)) w)
theorem qm3 {a R w} (h:qke a R w):Calls prog qnl ⟨[S a]⟩ w R:=qe Tryz.func103 (Eq.mpr (by kernel_rfl:fnV _ _ qlo _ _ _=_) h)
def qln:Ann:=T F (T F (T (T F (.one (.rf [2,3,6] 0))) (T F F)))
def qkd (m:Option Addr) (i:Nat) (h:Nat) (R:Ending→World→Prop) (w:World):Prop :=
 al w 116 [.pointer none,L none 0 0] fun j u =>
 Calls prog 158 ⟨[L m i h]⟩ u fun t v =>
 ∃ s f g,t=.returned (.func s f g)∧(∀ c:Env,RFw prog none 23 (cdAt Tryz.f104 [1,1,0,1,2]) (upd (upd (upd c 6 (.func s f g)) 3 (.pointer (some j))) 2 (S [])) [] v 0 (fun a b =>
 Calls prog 132 ⟨[.pointer (some j)]⟩ b fun l p =>
 ∃ e,l=.returned (S e)∧retD a p fun q =>
 R (.returned (S e)) q) (fun a b =>
 retD a b fun r =>
 R (.returned (S [])) r) (fun a b =>
 Calls prog 132 ⟨[.pointer (some j)]⟩ b fun k n =>
 ∃ d,k=.returned (S d)∧retD a n fun o =>
 R (.returned (S d)) o))
theorem qm2 {c b a R w} (h:qkd c b a R w):Calls prog qfl ⟨[L c b a]⟩ w R:=qe Tryz.func104 (Eq.mpr (by kernel_rfl:fnV _ _ qln _ _ _=_) h)
def qda:Ann:=F
def qc9:Ann:=.one (T F (.one (T F (T F (T F (T F F))))))
def qi1 (D:List UInt8) (e:Option Addr) (E:Fn) (s:Array Value) (t:Array Value) (g:Int) (h:List UInt8) (i:Int) (j:Option Addr) (d:Nat) (c:Nat) (F:Value) (l:Nat) (Kn Kr Kx:World→World→Prop) (w:World):Prop :=
 al w 56 [I 0,S [],I 0,L none 0 0] fun b u =>
 stL u b 0 [I g,S h,I i,L j d c] fun k =>
 Ext w k∧∀ a:World,Upd l k a→(∃ f,a.cell? (b.add 0)=some (I f)∧br (decide (f=1)) (∃ m,a.cell? (b.add 1)=some (S m)∧Calls prog 159 ⟨[.pointer e,S m]⟩ a fun p v =>
 ∃ z A,p=.returned (.tuple ⟨[I z,A]⟩)∧(Kn a v)) (br (decide (f=6)) (∃ n,a.cell? (b.add 2)=some (I n)∧Calls prog 160 ⟨[S [95],I n]⟩ a fun q x =>
 ∃ o,q=.returned (S o)∧Calls prog 159 ⟨[.pointer e,S o]⟩ x fun r y =>
 ∃ B C,r=.returned (.tuple ⟨[I B,C]⟩)∧(Kn a y)) (Kn a a)))
theorem qi8 (base:Env) (e:List UInt8) (m:Option Addr) (f:Fn) (a:Array Value) (b:Array Value) (g:Int) (h:List UInt8) (i:Int) (j:Option Addr) (d:Nat) (c:Nat) (k:Value) (l:Nat) (Kn Kr Kx:World→World→Prop) (w:World):fragV prog 23 qda qc9 (cdAt Tryz.f104 [1,1,0,1,2,5]) (cdAt Tryz.f104 [1,1,0,1,2,6]) l 0 Kn Kr Kx (updPs [7,8] [.agg ⟨[I g,S h,I i,L j d c]⟩,k] (upd (upd (upd base 6 (.func f a b)) 3 (.pointer m)) 2 (S e))) w=qi1 e m f a b g h i j d c k l Kn Kr Kx w:=by kernel_rfl
theorem qjb:cdAt Tryz.f104 [1,1,0,1,2]=.rangeFunc (Operand.tmp 6) #[7,8] (cdAt Tryz.f104 [1,1,0,1,2,5]) (cdAt Tryz.f104 [1,1,0,1,2,6]):=by kernel_rfl
def q6a:Ann:=T F (T F (T (T F (.one (.loop 576460752303423424 [(9,.one (.int .i64)),(10,.one (.int .i64)),(11,.one (.int .i64))] (T (T F (T F F)) (T (.one (T F (T (T F (T (T F F) F)) (T (T F (T F F)) (T (T F (T (T F F) F)) (T F (T (T F (T (T F F) F)) (T F F)))))))) F))))) (T F F)))
def q4m (l:Option Addr) (g:Nat) (C:Nat) (b:Int) (e:Int) (R:Ending→World→Prop) (w:World):Prop :=
 ∃ (k:Int→Int→Int→World→Nat→Prop),(∃ x,k 0 0 0 w x)∧∀ d a c f t,k d a c f t→∀ _:Env,(br (decide ((c:Int) < ((g:Int)))) (br (decide ((e:Int) < (i64.wrap (d + 1)))) (R (.returned (.tuple ⟨[I 0,I 0,B false]⟩)) f) (idx l g c 4 fun y =>
 ∃ A h u,f.cell? (y.add 3)=some (L A h u)∧br (decide (((h):Int)=0)) (∃ m,m < t∧k (i64.wrap (d + 1)) a (i64.wrap (c + 1)) f m) (br (decide ((b:Int)=0)) (R (.returned (.tuple ⟨[I 0,I 0,B false]⟩)) f) (idx l g c 4 fun z =>
 ∃ p j i,f.cell? (z.add 3)=some (L p j i)∧Calls prog 105 ⟨[L p j i,.int .i64 (i64.wrap (b - 1)),.int .i64 (i64.wrap (e - (i64.wrap (d + 1))))]⟩ f fun v o =>
 ∃ q r s,v=.returned (.tuple ⟨[I q,I r,B s]⟩)∧br (!s) (R (.returned (.tuple ⟨[I 0,I 0,B false]⟩)) o) (∃ n,n < t∧k (i64.wrap ((i64.wrap (d + 1)) + q)) ((max a (i64.wrap (r + 1)))) (i64.wrap (c + 1)) o n))))) (R (.returned (.tuple ⟨[I d,I a,B true]⟩)) f))
theorem q8j {e d c a b R w} (h:q4m e d c a b R w):Calls prog qvu ⟨[L e d c,I a,I b]⟩ w R:=qe Tryz.func105 (Eq.mpr (by kernel_rfl:fnV _ _ q6a _ _ _=_) h)
def q6c:Ann:=T F (T (T F (.one (.loop 8796093022192 [(5,.one (.int .i64))] (T (T F (T F F)) (T (.one (T F (T F (T (T F F) F)))) F))))) (T F F))
def q4o (e:Option Addr) (d:Nat) (z:Nat) (a:Int) (R:Ending→World→Prop) (w:World):Prop :=
 ∃ (k:Int→World→Nat→Prop),(∃ A,k 0 w A)∧∀ b c t,k b c t→∀ _:Env,(br (decide ((b:Int) < ((d:Int)))) (idx e d b 4 fun C =>
 ∃ j,c.cell? (C.add 1)=some (S j)∧br (decide ((a:Int)=0)) (R (.returned (B true)) c) (br (decide ((60:Int) < ((List.length j:Int)))) (br (decide ((((List.length j:Int)):Int)≤65536)) (R (.returned (B true)) c) (br (decide ((65540:Int) < ((List.length j:Int)))) (R (.returned (B true)) c) (idx e d b 4 fun x =>
 ∃ p g f,c.cell? (x.add 3)=some (L p g f)∧Calls prog 106 ⟨[L p g f,.int .i64 (i64.wrap (a - 1))]⟩ c fun u n =>
 ∃ q,u=.returned (B q)∧br q (R (.returned (B true)) n) (∃ l,l < t∧k (i64.wrap (b + 1)) n l)))) (br (decide ((65540:Int) < ((List.length j:Int)))) (R (.returned (B true)) c) (idx e d b 4 fun y =>
 ∃ r i h,c.cell? (y.add 3)=some (L r i h)∧Calls prog 106 ⟨[L r i h,.int .i64 (i64.wrap (a - 1))]⟩ c fun v o =>
 ∃ s,v=.returned (B s)∧br s (R (.returned (B true)) o) (∃ m,m < t∧k (i64.wrap (b + 1)) o m))))) (R (.returned (B false)) c))
theorem q8l {d c b a R w} (h:q4o d c b a R w):Calls prog qvw ⟨[L d c b,I a]⟩ w R:=qe Tryz.func106 (Eq.mpr (by kernel_rfl:fnV _ _ q6c _ _ _=_) h)
end Go.Proofs
