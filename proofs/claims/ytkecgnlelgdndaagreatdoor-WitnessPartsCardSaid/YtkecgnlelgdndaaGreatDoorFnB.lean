/- Written by program: for each function its verification condition, that it is the code's (by the kernel), and that it gives the call. -/
import Derived.Test.YtkecgnlelgdndaaGreatDoorFn
set_option linter.all false
set_option maxRecDepth 100000
namespace Go.Proofs
open Go Go.Sh Go.Proofs.Tryz IntKind
def q02:Ann:=T F (T (.cut 32640 [(14,.one (.bool))] F (T (T F (T F F)) F)) (T (T F (.one (.loop 1099377410116 [(6,.one (.int .i64))] (T (T F (T F F)) (T (.one (T F (T (T F F) F))) F))))) (T F F)))
def qzv (e:Option Addr) (a:Nat) (d:Nat) (R:Ending→World→Prop) (w:World):Prop :=
 ∀ (m:Bool→World→Prop),(∀ (f:Bool) (n:World),(∀ _:Env,(br f (Calls prog 105 ⟨[L e a d,I 20,I 40]⟩ n fun z v =>
 ∃ A C y,z=.returned (.tuple ⟨[I A,I C,B y]⟩)∧br (!y) (R (.returned (B true)) v) (Calls prog 106 ⟨[L e a d,I 20]⟩ v fun p t =>
 ∃ k,p=.returned (B k)∧R (.returned (B k)) t)) (∃ (g:Int→World→Nat→Prop),(∃ r,g 0 n r)∧∀ b c i,g b c i→∀ _:Env,(br (decide ((b:Int) < ((a:Int)))) (idx e a b 4 fun s =>
 ∃ x h o,c.cell? (s.add 3)=some (L x h o)∧br (decide ((0:Int) < (h))) (R (.returned (B true)) c) (∃ j,j < i∧g (i64.wrap (b + 1)) c j)) (Calls prog 106 ⟨[L e a d,I 20]⟩ c fun q u =>
 ∃ l,q=.returned (B l)∧R (.returned (B l)) u)))))→m f n)→(br (decide ((((a:Int)):Int)≤4096)) (m true w) (m (decide ((4100:Int) < ((a:Int)))) w))
theorem q4g {c b a R w} (h:qzv c b a R w):Calls prog qrf ⟨[L c b a]⟩ w R:=qe Tryz.func55 (Eq.mpr (by kernel_rfl:fnV _ _ q02 _ _ _=_) h)
def qyv:Ann:=T F (T F (T F F))
def qww  (R:Ending→World→Prop) (w:World):Prop :=
 al w 45 [S [],L none 0 0] fun e k =>
 Calls prog 107 ⟨[S [60,115,101,99,32,111,110,101,47,62,100,101,60,97,100,100,32,49,62,117,115,60,47,97,100,100,62,60,115,101,99,32,116,119,111,47,62,101,116]]⟩ k fun j l =>
 ∃ g b a m,j=.returned (.tuple ⟨[L g b a,I m]⟩)∧(stL l e 0 [S [65],L g b a] fun f =>
 ∃ h,f.cell? (e.add 0)=some (S h)∧∃ i d c,f.cell? (e.add 1)=some (L i d c)∧R (.returned (.agg ⟨[S h,L i d c]⟩)) f)
theorem q0p {R w} (h:qww  R w):Calls prog qmk ⟨[]⟩ w R:=qe Tryz.func56 (Eq.mpr (by kernel_rfl:fnV _ _ qyv _ _ _=_) h)
def qb4:Ann:=T F (T (T F (T (T F F) F)) (T (T F (.one (.loop 67100720 [(13,.one (.int .i64))] (T F (T (T F F) (T (.one (T F (T F (T (T F F) F)))) F)))))) (T F F)))
def qal (o:Option Addr) (b:Nat) (s:Nat) (p:Option Addr) (d:Nat) (t:Nat) (R:Ending→World→Prop) (w:World):Prop :=
 br (decide ((((b:Int)):Int)≠((d:Int)))) (R (.returned (B false)) w) (∃ (m:Int→World→Nat→Prop),(∃ u,m 0 w u)∧∀ a q r,m a q r→∀ _:Env,(br (decide ((a:Int) < ((b:Int)))) (drw q fun c =>
 idx o b a 3 fun n =>
 ∃ g,c.cell? (n.add 0)=some (S g)∧∃ h,c.cell? (n.add 1)=some (I h)∧∃ i,c.cell? (n.add 2)=some (I i)∧idx p d a 3 fun e =>
 ∃ j,c.cell? (e.add 0)=some (S j)∧∃ k,c.cell? (e.add 1)=some (I k)∧∃ l,c.cell? (e.add 2)=some (I l)∧br (!(decide (g=j)&&(decide (h=k)&&(decide (i=l)&&true)))) (R (.returned (B false)) c) (∃ f,f < r∧m (i64.wrap (a + 1)) c f)) (R (.returned (B true)) q)))
theorem qca {e b a f d c R w} (h:qal e b a f d c R w):Calls prog qar ⟨[L e b a,L f d c]⟩ w R:=qe Tryz.func57 (Eq.mpr (by kernel_rfl:fnV _ _ qb4 _ _ _=_) h)
def qvc:Ann:=T F (T (T F (T (T F F) F)) (T (T F (T (T F F) F)) (T F F)))
def qui (c:Option Addr) (a:Nat) (b:Nat) (R:Ending→World→Prop) (w:World):Prop :=
 br (decide ((32:Int) < ((a:Int)))) (R (.returned (I 4)) w) (Calls prog 69 ⟨[L c a b,.func (.func 108) #[] #[]]⟩ w fun f d =>
 ∃ e,f=.returned (B e)∧br e (R (.returned (I 1)) d) (R (.returned (I 0)) d))
theorem qx7 {c b a R w} (h:qui c b a R w):Calls prog qkq ⟨[L c b a]⟩ w R:=qe Tryz.func58 (Eq.mpr (by kernel_rfl:fnV _ _ qvc _ _ _=_) h)
def qvb:Ann:=T F (T F (T (T F (.one (.rf [2,3,6] 0))) (T F F)))
def quh (o:Option Addr) (m:Nat) (l:Nat) (R:Ending→World→Prop) (w:World):Prop :=
 al w 31 [L none 0 0] fun n u =>
 Calls prog 91 ⟨[L o m l]⟩ u fun t v =>
 ∃ s j k,t=.returned (.func s j k)∧(∀ g:Env,RFw prog none 14 (cdAt Tryz.f62 [1,1,0,1,2]) (upd (upd (upd g 6 (.func s j k)) 3 (.pointer (some n))) 2 (L none 0 0)) [] v 0 (fun a b =>
 ∃ i f e,b.cell? n=some (L i f e)∧retD a b fun q =>
 R (.returned (L i f e)) q) (fun a b =>
 retD a b fun r =>
 R (.returned (L none 0 0)) r) (fun a b =>
 ∃ h d c,b.cell? n=some (L h d c)∧retD a b fun p =>
 R (.returned (L h d c)) p))
theorem qx6 {c b a R w} (h:quh c b a R w):Calls prog qkp ⟨[L c b a]⟩ w R:=qe Tryz.func62 (Eq.mpr (by kernel_rfl:fnV _ _ qvb _ _ _=_) h)
def qfs:Ann:=F
def qfp:Ann:=.one F
def qo8 (u:Option Addr) (o:Nat) (n:Nat) (a:Option Addr) (v:Fn) (p:Array Value) (q:Array Value) (e:List UInt8) (x:Value) (l:Nat) (Kn Kr Kx:World→World→Prop) (w:World):Prop :=
 Ext w w∧∀ b:World,Upd l w b→(dr a fun j =>
 ∃ f d c,b.cell? j=some (L f d c)∧al b 9 [S e] fun k r =>
 app prog [31,31] 31 (L f d c) (.slice (some k) 1 1) r fun i h g s =>
 dr a fun m =>
 stL s m 0 [L i h g] fun t =>
 Kn b t)
theorem qpr (base:Env) (f:Option Addr) (c:Nat) (b:Nat) (a:Option Addr) (g:Fn) (d:Array Value) (e:Array Value) (h:List UInt8) (i:Value) (l:Nat) (Kn Kr Kx:World→World→Prop) (w:World):fragV prog 14 qfs qfp (cdAt Tryz.f62 [1,1,0,1,2,5]) (cdAt Tryz.f62 [1,1,0,1,2,6]) l 0 Kn Kr Kx (updPs [7,8] [S h,i] (upd (upd (upd base 6 (.func g d e)) 3 (.pointer a)) 2 (L f c b))) w=qo8 f c b a g d e h i l Kn Kr Kx w:=by kernel_rfl
theorem qpy:cdAt Tryz.f62 [1,1,0,1,2]=.rangeFunc (Operand.tmp 6) #[7,8] (cdAt Tryz.f62 [1,1,0,1,2,5]) (cdAt Tryz.f62 [1,1,0,1,2,6]):=by kernel_rfl
def qql:Ann:=T F (T (T F (.one (.loop 34359736656 [(11,.one (.int .i64))] (T F (T (T F F) (T (.one (T F (T F (.one (.loop 17179738384 [(17,.one (.int .i64))] (T F (T (T F F) (T (.one (T F (T (T F (T F F)) (T F (T (T F F) F))))) F)))))))) F)))))) (T F F))
def qot (e:List UInt8) (x:Option Addr) (y:Option Addr) (R:Ending→World→Prop) (w:World):Prop :=
 dr x fun I =>
 ∃ G k H,w.cell? I=some (L G k H)∧(∃ (l:Int→World→Nat→Prop),(∃ A,l 0 w A)∧∀ b m v,l b m v→∀ _:Env,(br (decide ((b:Int) < (k))) (idx G k b 1 fun D =>
 ∃ h d i,m.cell? D=some (L h d i)∧∃ (f:Int→World→Nat→Prop),(∃ C,f 0 m C)∧∀ a c g,f a c g→∀ _:Env,(br (decide ((a:Int) < (d))) (idx h d a 1 fun E =>
 ∃ j,c.cell? E=some (S j)∧br (decide (j=e)) (∃ n,n < v∧l (i64.wrap (b + 1)) c n) (dr y fun F =>
 ∃ s,c.cell? F=some (s)∧∃ t,lkAt prog 95 s (S j) c (B t)∧br (!t) (Calls prog 34 ⟨[L h d i,S e]⟩ c fun z r =>
 ∃ u,z=.returned (B u)∧br u (R (.returned (B false)) r) (∃ o,o < g∧f (i64.wrap (a + 1)) r o)) (∃ p,p < g∧f (i64.wrap (a + 1)) c p))) (∃ q,q < v∧l (i64.wrap (b + 1)) c q))) (R (.returned (B true)) m)))
theorem qsv {a b c R w} (h:qot a b c R w):Calls prog qhw ⟨[S a,.pointer b,.pointer c]⟩ w R:=qe Tryz.func63 (Eq.mpr (by kernel_rfl:fnV _ _ qql _ _ _=_) h)
def qqk:Ann:=T F (T (T F (.one (.loop 8589932888 [(11,.one (.int .i64))] (T F (T (T F F) (T (.one (T F (T F (.one (.loop 4294836504 [(17,.one (.int .i64))] (T F (T (T F F) (T (.one (T F (T F (T (T F F) F)))) F)))))))) F)))))) (T F F))
def qos (v:Option Addr) (x:Option Addr) (y:Option Addr) (R:Ending→World→Prop) (w:World):Prop :=
 dr v fun M =>
 ∃ J j K,w.cell? M=some (L J j K)∧(∃ (u:Int→World→Nat→Prop),(∃ C,u 0 w C)∧∀ c k E,u c k E→∀ _:Env,(br (decide ((c:Int) < (j))) (idx J j c 1 fun F =>
 ∃ p d z,k.cell? F=some (L p d z)∧∃ (e:Int→World→Nat→Prop),(∃ D,e 0 k D)∧∀ a b g,e a b g→∀ _:Env,(br (decide ((a:Int) < (d))) (idx p d a 1 fun G =>
 ∃ f,b.cell? G=some (S f)∧dr x fun H =>
 ∃ q,b.cell? H=some (q)∧∃ r,lkAt prog 95 q (S f) b (B r)∧br (!r) (dr y fun I =>
 ∃ s h i,b.cell? I=some (.func s h i)∧CallV prog (.func s h i) [S f] b fun A o =>
 ∃ t,A=.returned (B t)∧br t (R (.returned (.tuple ⟨[S f,B true]⟩)) o) (∃ l,l < g∧e (i64.wrap (a + 1)) o l)) (∃ m,m < g∧e (i64.wrap (a + 1)) b m)) (∃ n,n < E∧u (i64.wrap (c + 1)) b n))) (R (.returned (.tuple ⟨[S [],B false]⟩)) k)))
theorem qsu {a b c R w} (h:qos a b c R w):Calls prog qhv ⟨[.pointer a,.pointer b,.pointer c]⟩ w R:=qe Tryz.func64 (Eq.mpr (by kernel_rfl:fnV _ _ qqk _ _ _=_) h)
def q0t:Ann:=T F (T F (T (T F (.one (.loop 67108824 [(3,.one (.slice)),(4,.one (.int .i64))] (T (T F (T F F)) (T (.one (T F (T F F))) F))))) (T F F)))
def qzm (h:Option Addr) (e:Nat) (v:Nat) (R:Ending→World→Prop) (w:World):Prop :=
 al w 9 [] fun y z =>
 ∃ (g:Option Addr→Nat→Nat→Int→World→Nat→Prop),(∃ x,g (some y) 0 0 0 z x)∧∀ c b a d f o,g c b a d f o→∀ _:Env,(br (decide ((d:Int) < ((e:Int)))) (idx h e d 4 fun q =>
 ∃ k,f.cell? (q.add 0)=some (I k)∧br (decide (k=4)) (idx h e d 4 fun r =>
 ∃ l,f.cell? (r.add 1)=some (S l)∧al f 9 [S l] fun s t =>
 app prog [31,31] 31 (L c b a) (.slice (some s) 1 1) t fun p n m u =>
 ∃ i,i < o∧g p n m (i64.wrap (d + 1)) u i) (∃ j,j < o∧g c b a (i64.wrap (d + 1)) f j)) (R (.returned (L c b a)) f))
theorem q38 {c b a R w} (h:qzm c b a R w):Calls prog qq8 ⟨[L c b a]⟩ w R:=qe Tryz.func65 (Eq.mpr (by kernel_rfl:fnV _ _ q0t _ _ _=_) h)
def q0s:Ann:=T F (T (T F (.one (.loop 524272 [(5,.one (.int .i64))] (T (T F (T F F)) (T (.one (T F (T (T F F) F))) F))))) (T F F))
def qzl (f:Option Addr) (b:Nat) (j:Nat) (h:List UInt8) (R:Ending→World→Prop) (w:World):Prop :=
 ∃ (e:Int→World→Nat→Prop),(∃ k,e 0 w k)∧∀ a c g,e a c g→∀ _:Env,(br (decide ((a:Int) < ((b:Int)))) (idx f b a 1 fun l =>
 ∃ i,c.cell? l=some (S i)∧br (decide (i=h)) (R (.returned (I a)) c) (∃ d,d < g∧e (i64.wrap (a + 1)) c d)) (R (.returned (.int .i64 ((-1)))) c))
theorem q37 {c b a d R w} (h:qzl c b a d R w):Calls prog qq7 ⟨[L c b a,S d]⟩ w R:=qe Tryz.func66 (Eq.mpr (by kernel_rfl:fnV _ _ q0s _ _ _=_) h)
def an_slices_ContainsFunc_of_api_Witness_api_Witness:Ann:=T F (T F F)
def sh_slices_ContainsFunc_of_api_Witness_api_Witness (f:Option Addr) (d:Nat) (c:Nat) (e:Fn) (a:Array Value) (b:Array Value) (R:Ending→World→Prop) (w:World):Prop :=
 Calls prog 117 ⟨[L f d c,.func e a b]⟩ w fun h i =>
 ∃ g,h=.returned (I g)∧(R (.returned (.bool (decide ((0:Int)≤g)))) i)
theorem c_slices_ContainsFunc_of_api_Witness_api_Witness {f d c e a b R w} (h:sh_slices_ContainsFunc_of_api_Witness_api_Witness f d c e a b R w):Calls prog F_slices_ContainsFunc_of_api_Witness_api_Witness ⟨[L f d c,.func e a b]⟩ w R:=qe Tryz.func69 (Eq.mpr (by kernel_rfl:fnV _ _ an_slices_ContainsFunc_of_api_Witness_api_Witness _ _ _=_) h)
def qn4:Ann:=T F (T F (T F (T (T F (.one (.rf [0,2,4,10] 0))) (T (T F (.one (.rf [0,2,28] 0))) (T (T F (T (T F F) F)) (T F F))))))
def qmy (d:Option Addr) (b:Nat) (a:Nat) (R:Ending→World→Prop) (w:World):Prop :=
 al w 28 [I 0] fun c a8 =>
 al a8 3 [I 0] fun Z a9 =>
 stL a9 Z 0 [I 4096] fun b0 =>
 al b0 26 [.nilFunc] fun a0 b1 =>
 stL b1 a0 0 [.func (.func 118) ⟨[]⟩ ⟨[.pointer (some Z)]⟩] fun b2 =>
 Calls prog 119 ⟨[L d b a]⟩ b2 fun U a1 =>
 ∃ D n o,U=.returned (.func D n o)∧(∀ k:Env,RFw prog none 39 (cdAt Tryz.f71 [1,1,1,0,1,2]) (upd (upd (upd (upd k 10 (.func D n o)) 4 (.pointer (some a0))) 2 (.pointer (some c))) 0 (L d b a)) [] a1 0 (fun e h =>
 Calls prog 119 ⟨[L d b a]⟩ h fun X a5 =>
 ∃ K r s,X=.returned (.func K r s)∧∀ m:Env,RFw prog none 39 (cdAt Tryz.f71 [1,1,1,1,0,1,2]) (upd (upd (upd m 28 (.func K r s)) 2 (.pointer (some c))) 0 (L d b a)) e a5 0 (fun g j =>
 Calls prog 121 ⟨[L d b a]⟩ j fun Y y =>
 ∃ M,Y=.returned (S M)∧br (decide ((65536:Int) < ((List.length M:Int)))) (stL y c 0 [I 4] fun a6 =>
 retD g a6 fun z =>
 ∃ N,z.cell? c=some (I N)∧R (.returned (I N)) z) (stL y c 0 [I 0] fun a7 =>
 retD g a7 fun A =>
 ∃ O,A.cell? c=some (I O)∧R (.returned (I O)) A)) (fun g j =>
 retD g j fun B =>
 ∃ Q,B.cell? c=some (I Q)∧R (.returned (I Q)) B) (fun g j =>
 False)) (fun e h =>
 retD e h fun C =>
 ∃ T,C.cell? c=some (I T)∧R (.returned (I T)) C) (fun e h =>
 Calls prog 119 ⟨[L d b a]⟩ h fun V a2 =>
 ∃ E p q,V=.returned (.func E p q)∧∀ l:Env,RFw prog none 39 (cdAt Tryz.f71 [1,1,1,1,0,1,2]) (upd (upd (upd l 28 (.func E p q)) 2 (.pointer (some c))) 0 (L d b a)) e a2 0 (fun f i =>
 Calls prog 121 ⟨[L d b a]⟩ i fun W t =>
 ∃ F,W=.returned (S F)∧br (decide ((65536:Int) < ((List.length F:Int)))) (stL t c 0 [I 4] fun a3 =>
 retD f a3 fun u =>
 ∃ G,u.cell? c=some (I G)∧R (.returned (I G)) u) (stL t c 0 [I 0] fun a4 =>
 retD f a4 fun v =>
 ∃ H,v.cell? c=some (I H)∧R (.returned (I H)) v)) (fun f i =>
 retD f i fun x =>
 ∃ J,x.cell? c=some (I J)∧R (.returned (I J)) x) (fun f i =>
 False)))
theorem qp7 {c b a R w} (h:qmy c b a R w):Calls prog qgo ⟨[L c b a]⟩ w R:=qe Tryz.func71 (Eq.mpr (by kernel_rfl:fnV _ _ qn4 _ _ _=_) h)
def qd4:Ann:=F
def qd0:Ann:=.one (T F (T (T F F) F))
def qjs (N:Option Addr) (M:Nat) (K:Nat) (d:Option Addr) (c:Option Addr) (E:Fn) (x:Array Value) (y:Array Value) (h:Int) (i:List UInt8) (j:Int) (k:Option Addr) (f:Nat) (e:Nat) (m:Int) (n:Bool) (l:Nat) (Kn Kr Kx:World→World→Prop) (w:World):Prop :=
 al w 159 [I 0,S [],I 0,L none 0 0,I 0,B false] fun g F =>
 stL F g 0 [I h,S i,I j,L k f e,I m,B n] fun r =>
 Ext w r∧∀ a:World,Upd l r a→(dr c fun A =>
 ∃ s o p,a.cell? A=some (.func s o p)∧CallV prog (.func s o p) [] a fun z b =>
 ∃ t,z=.returned (B t)∧br (!t) (dr d fun C =>
 stL b C 0 [I 4] fun G =>
 Kr a G) (∃ u,b.cell? (g.add 4)=some (I u)∧br (decide ((16:Int)≤u)) (∃ J q v,b.cell? ((g.add 0).add 3)=some (L J q v)∧br (decide ((0:Int) < (q))) (dr d fun D =>
 stL b D 0 [I 4] fun H =>
 Kr a H) (Kn a b)) (Kn a b)))
theorem qj5 (base:Env) (q:Option Addr) (o:Nat) (n:Nat) (p:Option Addr) (a:Option Addr) (f:Fn) (b:Array Value) (c:Array Value) (g:Int) (h:List UInt8) (i:Int) (j:Option Addr) (e:Nat) (d:Nat) (k:Int) (m:Bool) (l:Nat) (Kn Kr Kx:World→World→Prop) (w:World):fragV prog 39 qd4 qd0 (cdAt Tryz.f71 [1,1,1,0,1,2,5]) (cdAt Tryz.f71 [1,1,1,0,1,2,6]) l 0 Kn Kr Kx (updPs [11] [.agg ⟨[I g,S h,I i,L j e d,I k,B m]⟩] (upd (upd (upd (upd base 10 (.func f b c)) 4 (.pointer a)) 2 (.pointer p)) 0 (L q o n))) w=qjs q o n p a f b c g h i j e d k m l Kn Kr Kx w:=by kernel_rfl
theorem qkc:cdAt Tryz.f71 [1,1,1,0,1,2]=.rangeFunc (Operand.tmp 10) #[11] (cdAt Tryz.f71 [1,1,1,0,1,2,5]) (cdAt Tryz.f71 [1,1,1,0,1,2,6]):=by kernel_rfl
def qd3:Ann:=F
def qdz:Ann:=.one (T F (T F (T (T F F) F)))
def qjr (J:Option Addr) (H:Nat) (G:Nat) (o:Option Addr) (D:Fn) (z:Array Value) (A:Array Value) (e:Int) (f:List UInt8) (g:Int) (h:Option Addr) (d:Nat) (c:Nat) (i:Int) (j:Bool) (l:Nat) (Kn Kr Kx:World→World→Prop) (w:World):Prop :=
 al w 159 [I 0,S [],I 0,L none 0 0,I 0,B false] fun b E =>
 stL E b 0 [I e,S f,I g,L h d c,I i,B j] fun p =>
 Ext w p∧∀ a:World,Upd l p a→(∃ r,a.cell? (b.add 0)=some (I r)∧∃ s,a.cell? (b.add 1)=some (S s)∧∃ t,a.cell? (b.add 2)=some (I t)∧∃ u m k,a.cell? (b.add 3)=some (L u m k)∧∃ v,a.cell? (b.add 4)=some (I v)∧∃ x,a.cell? (b.add 5)=some (B x)∧Calls prog 120 ⟨[.agg ⟨[I r,S s,I t,L u m k,I v,B x]⟩]⟩ a fun C q =>
 ∃ n,C=.returned (I n)∧br (decide (n≠0)) (dr o fun y =>
 stL q y 0 [I n] fun F =>
 Kr a F) (Kn a q))
theorem qj4 (base:Env) (p:Option Addr) (n:Nat) (m:Nat) (o:Option Addr) (e:Fn) (a:Array Value) (b:Array Value) (f:Int) (g:List UInt8) (h:Int) (i:Option Addr) (d:Nat) (c:Nat) (j:Int) (k:Bool) (l:Nat) (Kn Kr Kx:World→World→Prop) (w:World):fragV prog 39 qd3 qdz (cdAt Tryz.f71 [1,1,1,1,0,1,2,5]) (cdAt Tryz.f71 [1,1,1,1,0,1,2,6]) l 0 Kn Kr Kx (updPs [29] [.agg ⟨[I f,S g,I h,L i d c,I j,B k]⟩] (upd (upd (upd base 28 (.func e a b)) 2 (.pointer o)) 0 (L p n m))) w=qjr p n m o e a b f g h i d c j k l Kn Kr Kx w:=by kernel_rfl
theorem qkb:cdAt Tryz.f71 [1,1,1,1,0,1,2]=.rangeFunc (Operand.tmp 28) #[29] (cdAt Tryz.f71 [1,1,1,1,0,1,2,5]) (cdAt Tryz.f71 [1,1,1,1,0,1,2,6]):=by kernel_rfl
def qti:Ann:=T F (T F F)
def qr3 (f:Option Addr) (e:Nat) (d:Nat) (a:Int) (R:Ending→World→Prop) (w:World):Prop :=
 al w 3 [I a] fun i j =>
 Calls prog 122 ⟨[L f e d,.func (.func 123) ⟨[]⟩ ⟨[.pointer (some i)]⟩]⟩ j fun h k =>
 ∃ g c b,h=.returned (L g c b)∧(R (.returned (L g c b)) k)
theorem qiw {d c b a R w} (h:qr3 d c b a R w):Calls prog qe1 ⟨[L d c b,I a]⟩ w R:=qe Tryz.func72 (Eq.mpr (by kernel_rfl:fnV _ _ qti _ _ _=_) h)
def qyk:Ann:=T F (T (T F (.one (.rf [2,3,4,5,6,11] 0))) (T F F))
def qwl (T:Option Addr) (O:Nat) (N:Nat) (d:List UInt8) (R:Ending→World→Prop) (w:World):Prop :=
 al w 43 [L T O N] fun U a4 =>
 al a4 9 [S d] fun a3 a5 =>
 al a5 43 [L none 0 0] fun i a6 =>
 al a6 51 [S [],I 0] fun c V =>
 al V 4 [B false] fun b u =>
 ∃ v l k,u.cell? U=some (L v l k)∧(Calls prog 91 ⟨[L v l k]⟩ u fun Q W =>
 ∃ x m n,Q=.returned (.func x m n)∧∀ j:Env,RFw prog none 44 (cdAt Tryz.f73 [1,0,1,2]) (upd (upd (upd (upd (upd (upd j 11 (.func x m n)) 6 (.pointer (some b))) 5 (.pointer (some c))) 4 (.pointer (some i))) 3 (.pointer (some a3))) 2 (.pointer (some U))) [] W 0 (fun a e =>
 stL e i 0 [L none 0 0] fun a0 =>
 stL a0 c 0 [S [],I 0] fun a1 =>
 stL a1 b 0 [B false] fun a2 =>
 retD a a2 fun g =>
 ∃ D r q,g.cell? i=some (L D r q)∧∃ E,g.cell? (c.add 0)=some (S E)∧∃ F,g.cell? (c.add 1)=some (I F)∧∃ G,g.cell? b=some (B G)∧R (.returned (.tuple ⟨[L D r q,.agg ⟨[S E,I F]⟩,B G]⟩)) g) (fun a e =>
 retD a e fun h =>
 ∃ H t s,h.cell? i=some (L H t s)∧∃ J,h.cell? (c.add 0)=some (S J)∧∃ K,h.cell? (c.add 1)=some (I K)∧∃ M,h.cell? b=some (B M)∧R (.returned (.tuple ⟨[L H t s,.agg ⟨[S J,I K]⟩,B M]⟩)) h) (fun a e =>
 stL e i 0 [L none 0 0] fun X =>
 stL X c 0 [S [],I 0] fun Y =>
 stL Y b 0 [B false] fun Z =>
 retD a Z fun f =>
 ∃ y p o,f.cell? i=some (L y p o)∧∃ z,f.cell? (c.add 0)=some (S z)∧∃ A,f.cell? (c.add 1)=some (I A)∧∃ C,f.cell? b=some (B C)∧R (.returned (.tuple ⟨[L y p o,.agg ⟨[S z,I A]⟩,B C]⟩)) f))
theorem q0e {d c b a R w} (h:qwl d c b a R w):Calls prog qma ⟨[L d c b,S a]⟩ w R:=qe Tryz.func73 (Eq.mpr (by kernel_rfl:fnV _ _ qyk _ _ _=_) h)
def qgf:Ann:=T F F
def qgd:Ann:=.one (T (T F (T F F)) (T F (.cut 8589410816 [(9,.one (.int .i64))] (.one (.loop 8589410816 [(9,.one (.int .i64))] (T (T F (T F F)) (.one F)))) (T (.one F) F))))
def qr7 (d:Option Addr) (g:Option Addr) (h:Option Addr) (i:Option Addr) (j:Option Addr) (c1:Fn) (a1:Array Value) (a2:Array Value) (q:List UInt8) (b:Int) (l:Nat) (Kn Kr Kx:World→World→Prop) (w:World):Prop :=
 Ext w w∧∀ e:World,Upd l w e→(dr g fun a8 =>
 ∃ D,e.cell? a8=some (S D)∧br (decide ((q:List UInt8)≠D)) (Kn e e) (∀ (n:Int→World→Prop),(∀ (c:Int) (A:World),(∀ _:Env,(drw A fun k =>
 dr d fun a9 =>
 ∃ E W r,k.cell? a9=some (L E W r)∧sls E r 0 b 4 fun x p o =>
 (dr d fun b0 =>
 ∃ F X s,k.cell? b0=some (L F X s)∧sls F s (i64.wrap (b + 1)) c 4 fun a3 T Q =>
 (Calls prog 125 ⟨[.agg ⟨[S [],I 0]⟩,L x p o]⟩ k fun a5 c2 =>
 ∃ G H,a5=.returned (.agg ⟨[S G,I H]⟩)∧((dr h fun b1 =>
 stL c2 b1 0 [L a3 T Q] fun c3 =>
 (dr i fun b2 =>
 stL c3 b2 0 [S G,I H] fun c4 =>
 (dr j fun b3 =>
 stL c4 b3 0 [B true] fun c5 =>
 Kr e c5)∧True)∧True)∧True))∧True)∧(Calls prog 125 ⟨[.agg ⟨[S [],I 0]⟩,L x p o]⟩ k fun a6 C =>
 ∃ J K,a6=.returned (.agg ⟨[S J,I K]⟩)∧dr d fun b4 =>
 ∃ M Y t,C.cell? b4=some (L M Y t)∧sls M t (i64.wrap (b + 1)) c 4 fun a4 V U =>
 (dr h fun b5 =>
 stL C b5 0 [L a4 V U] fun c6 =>
 (dr i fun b6 =>
 stL c6 b6 0 [S J,I K] fun c7 =>
 (dr j fun b7 =>
 stL c7 b7 0 [B true] fun c8 =>
 Kr e c8)∧True)∧True)∧True)∧True))→n c A)→(∃ (m:Int→World→Nat→Prop),(∃ a7,m (i64.wrap (b + 1)) e a7)∧∀ a f y,m a f y→∀ _:Env,(dr d fun b8 =>
 ∃ c9 u Z,f.cell? b8=some (L c9 u Z)∧br (decide ((a:Int) < (u))) (dr d fun b9 =>
 ∃ N v a0,f.cell? b9=some (L N v a0)∧idx N v a 4 fun c0 =>
 ∃ O,f.cell? (c0.add 0)=some (I O)∧br (decide (O≠4)) (∃ z,z < y∧m (i64.wrap (a + 1)) f z) (n a f)) (n a f)))))
theorem qsj (base:Env) (j:Option Addr) (a:Option Addr) (g:Option Addr) (h:Option Addr) (i:Option Addr) (d:Fn) (b:Array Value) (c:Array Value) (e:List UInt8) (f:Int) (l:Nat) (Kn Kr Kx:World→World→Prop) (w:World):fragV prog 44 qgf qgd (cdAt Tryz.f73 [1,0,1,2,5]) (cdAt Tryz.f73 [1,0,1,2,6]) l 0 Kn Kr Kx (updPs [12,13] [S e,I f] (upd (upd (upd (upd (upd (upd base 11 (.func d b c)) 6 (.pointer i)) 5 (.pointer h)) 4 (.pointer g)) 3 (.pointer a)) 2 (.pointer j))) w=qr7 j a g h i d b c e f l Kn Kr Kx w:=by kernel_rfl
theorem qsq:cdAt Tryz.f73 [1,0,1,2]=.rangeFunc (Operand.tmp 11) #[12,13] (cdAt Tryz.f73 [1,0,1,2,5]) (cdAt Tryz.f73 [1,0,1,2,6]):=by kernel_rfl
def qck:Ann:=T F (T (T F (T (T F F) F)) (T F F))
def qci (a:Option Addr) (c:Nat) (b:Nat) (R:Ending→World→Prop) (w:World):Prop :=
 br (Option.isNone a) (R (.returned (L none 0 0)) w) (al w 56 [] fun g h =>
 app prog [43,43] 43 (.slice (some g) 0 0) (L a c b) h fun f e d i =>
 R (.returned (L f e d)) i)
theorem qcs {c b a R w} (h:qci c b a R w):Calls prog qa0 ⟨[L c b a]⟩ w R:=qe Tryz.func74 (Eq.mpr (by kernel_rfl:fnV _ _ qck _ _ _=_) h)
def qao:Ann:=T F (T (T F (T (T F F) F)) (T (T F (.one (.loop 4294837184 [(17,.one (.int .i64))] (T F (T (T F F) (T (.one (T F (T F (T F (T (T F F) F))))) F)))))) (T F F)))
def qan (W:Option Addr) (c:Nat) (a2:Nat) (X:Option Addr) (i:Nat) (a3:Nat) (V:Fn) (r:Array Value) (s:Array Value) (R:Ending→World→Prop) (w:World):Prop :=
 br (decide ((((c:Int)):Int)≠((i:Int)))) (R (.returned (B false)) w) (∃ (U:Int→World→Nat→Prop),(∃ a4,U 0 w a4)∧∀ a g Z,U a g Z→∀ _:Env,(br (decide ((a:Int) < ((c:Int)))) (idx W c a 4 fun t =>
 ∃ x,g.cell? (t.add 0)=some (I x)∧∃ y,g.cell? (t.add 1)=some (S y)∧∃ z,g.cell? (t.add 2)=some (I z)∧∃ A k j,g.cell? (t.add 3)=some (L A k j)∧al g 56 [I 0,S [],I 0,L none 0 0] fun d a0 =>
 stL a0 d 0 [I x,S y,I z,L A k j] fun f =>
 idx X i a 4 fun h =>
 ∃ C,f.cell? (h.add 0)=some (I C)∧∃ D,f.cell? (h.add 1)=some (S D)∧∃ E,f.cell? (h.add 2)=some (I E)∧∃ F m l,f.cell? (h.add 3)=some (L F m l)∧al f 56 [I 0,S [],I 0,L none 0 0] fun e a1 =>
 stL a1 e 0 [I C,S D,I E,L F m l] fun b =>
 ∃ G,b.cell? (d.add 0)=some (I G)∧∃ H,b.cell? (d.add 1)=some (S H)∧∃ J,b.cell? (d.add 2)=some (I J)∧∃ K o n,b.cell? (d.add 3)=some (L K o n)∧∃ M,b.cell? (e.add 0)=some (I M)∧∃ N,b.cell? (e.add 1)=some (S N)∧∃ O,b.cell? (e.add 2)=some (I O)∧∃ Q q p,b.cell? (e.add 3)=some (L Q q p)∧CallV prog (.func V r s) [.agg ⟨[I G,S H,I J,L K o n]⟩,.agg ⟨[I M,S N,I O,L Q q p]⟩] b fun Y v =>
 ∃ T,Y=.returned (B T)∧br (!T) (R (.returned (B false)) v) (∃ u,u < Z∧U (i64.wrap (a + 1)) v u)) (R (.returned (B true)) g)))
theorem qaq {i d c j f e g a b R w} (h:qan i d c j f e g a b R w):Calls prog qas ⟨[L i d c,L j f e,.func g a b]⟩ w R:=qe Tryz.func75 (Eq.mpr (by kernel_rfl:fnV _ _ qao _ _ _=_) h)
def qlw:Ann:=T F (T F F)
def qlk (y:Int) (z:List UInt8) (A:Int) (C:Option Addr) (r:Nat) (q:Nat) (D:Int) (E:List UInt8) (F:Int) (G:Option Addr) (t:Nat) (s:Nat) (R:Ending→World→Prop) (w:World):Prop :=
 al w 56 [I y,S z,I A,L C r q] fun g v =>
 al v 56 [I D,S E,I F,L G t s] fun b a =>
 ∃ h,a.cell? (g.add 0)=some (I h)∧(∃ i,a.cell? (b.add 0)=some (I i)∧br (decide (h=i)) (∃ j,a.cell? (g.add 1)=some (S j)∧∃ k,a.cell? (b.add 1)=some (S k)∧br (decide (j=k)) (∃ l,a.cell? (g.add 2)=some (I l)∧∃ m,a.cell? (b.add 2)=some (I m)∧br (decide (l=m)) (∃ n d c,a.cell? (g.add 3)=some (L n d c)∧∃ o f e,a.cell? (b.add 3)=some (L o f e)∧Calls prog 32 ⟨[L n d c,L o f e]⟩ a fun u x =>
 ∃ p,u=.returned (B p)∧R (.returned (B p)) x) (R (.returned (B false)) a)) (R (.returned (B false)) a)) (R (.returned (B false)) a))
theorem qnq {e f g i b a j k l m d c R w} (h:qlk e f g i b a j k l m d c R w):Calls prog qfx ⟨[.agg ⟨[I e,S f,I g,L i b a]⟩,.agg ⟨[I j,S k,I l,L m d c]⟩]⟩ w R:=qe Tryz.func76 (Eq.mpr (by kernel_rfl:fnV _ _ qlw _ _ _=_) h)
def qqv:Ann:=T F (T (T F (T (T F F) F)) (T (T F (.one (.loop 2095156 [(11,.one (.int .i64))] (T F (T (T F F) (T (.one (T F (T F (T F (T (T F F) F))))) F)))))) (T F F)))
def qo3 (c:Option Addr) (a:Nat) (m:Nat) (R:Ending→World→Prop) (w:World):Prop :=
 br (decide ((64:Int) < ((a:Int)))) (R (.returned (I 4)) w) (∃ (l:Int→World→Nat→Prop),(∃ t,l 0 w t)∧∀ b f o,l b f o→∀ _:Env,(br (decide ((b:Int) < ((a:Int)))) (idx c a b 2 fun p =>
 ∃ r,f.cell? (p.add 0)=some (S r)∧∃ s,f.cell? (p.add 1)=some (S s)∧al f 91 [S [],S []] fun d q =>
 stL q d 0 [S r,S s] fun e =>
 ∃ j,e.cell? (d.add 0)=some (S j)∧∃ k,e.cell? (d.add 1)=some (S k)∧Calls prog 126 ⟨[.agg ⟨[S j,S k]⟩]⟩ e fun n i =>
 ∃ g,n=.returned (I g)∧br (decide (g≠0)) (R (.returned (I g)) i) (∃ h,h < o∧l (i64.wrap (b + 1)) i h)) (R (.returned (I 0)) f)))
theorem qs5 {c b a R w} (h:qo3 c b a R w):Calls prog qh5 ⟨[L c b a]⟩ w R:=qe Tryz.func77 (Eq.mpr (by kernel_rfl:fnV _ _ qqv _ _ _=_) h)
def qqo:Ann:=T F (T F F)
def qow (a:List UInt8) (R:Ending→World→Prop) (w:World):Prop :=
 br (decide ((a:List UInt8)=([]))) (R (.returned (B true)) w) (Calls prog 90 ⟨[S a]⟩ w fun c d =>
 ∃ b,c=.returned (B b)∧R (.returned (B b)) d)
theorem qsy {a R w} (h:qow a R w):Calls prog qhy ⟨[S a]⟩ w R:=qe Tryz.func78 (Eq.mpr (by kernel_rfl:fnV _ _ qqo _ _ _=_) h)
def qn3:Ann:=T F (T (T F (T (T F F) F)) (.cut 129072 [(4,.one (.int .i64)),(5,.one (.int .i64))] (T F (T (T F F) F)) (T F (T (T F (.one (.rf [3,4,5,6,18] 0))) (T F F)))))
def qmx (m:Option Addr) (j:Nat) (i:Nat) (h:Int) (R:Ending→World→Prop) (w:World):Prop :=
 al w 3 [I h] fun t F =>
 Calls prog 71 ⟨[L m j i]⟩ F fun E f =>
 ∃ D,E=.returned (I D)∧(br (decide (D≠0)) (R (.returned (.tuple ⟨[I 0,I 1]⟩)) f) (∀ (u:Int→Int→World→Prop),(∀ (d:Int) (c:Int) (n:World),(∀ _:Env,(al n 3 [I 0] fun e x =>
 stL x e 0 [I 0] fun y =>
 Calls prog 119 ⟨[L m j i]⟩ y fun v z =>
 ∃ o k l,v=.returned (.func o k l)∧∀ g:Env,RFw prog none 28 (cdAt Tryz.f79 [1,1,1,1,0,1,2]) (upd (upd (upd (upd (upd g 18 (.func o k l)) 6 (.pointer (some e))) 5 (I c)) 4 (I d)) 3 (.pointer (some t))) [] z 0 (fun a b =>
 ∃ q,b.cell? e=some (I q)∧retD a b fun B =>
 R (.returned (.tuple ⟨[I q,I 0]⟩)) B) (fun a b =>
 retD a b fun C =>
 R (.returned (.tuple ⟨[I d,I c]⟩)) C) (fun a b =>
 ∃ p,b.cell? e=some (I p)∧retD a b fun A =>
 R (.returned (.tuple ⟨[I p,I 0]⟩)) A)))→u d c n)→(∃ r,f.cell? t=some (I r)∧br (decide (r < 1)) (R (.returned (.tuple ⟨[I 0,I 8]⟩)) f) (∃ s,f.cell? t=some (I s)∧br (decide ((11:Int) < s)) (R (.returned (.tuple ⟨[I 0,I 8]⟩)) f) (u 0 0 f)))))
theorem qp6 {d c b a R w} (h:qmx d c b a R w):Calls prog qgn ⟨[L d c b,I a]⟩ w R:=qe Tryz.func79 (Eq.mpr (by kernel_rfl:fnV _ _ qn3 _ _ _=_) h)
def qd2:Ann:=F
def qdy:Ann:=.one (T F (T F F))
def qjq (b:Option Addr) (A:Int) (C:Int) (e:Option Addr) (x:Fn) (r:Array Value) (s:Array Value) (f:Int) (g:List UInt8) (h:Int) (i:Option Addr) (d:Nat) (c:Nat) (j:Int) (k:Bool) (l:Nat) (Kn Kr Kx:World→World→Prop) (w:World):Prop :=
 al w 159 [I 0,S [],I 0,L none 0 0,I 0,B false] fun m y =>
 stL y m 0 [I f,S g,I h,L i d c,I j,B k] fun n =>
 Ext w n∧∀ a:World,Upd l n a→(∃ o,a.cell? ((m.add 0).add 0)=some (I o)∧dr b fun t =>
 ∃ p,a.cell? t=some (I p)∧br (decide (o=p)) (dr e fun u =>
 ∃ q,a.cell? u=some (I q)∧dr e fun v =>
 stL a v 0 [.int .i64 (i64.wrap (q + 1))] fun z =>
 Kn a z) (Kn a a))
theorem qj3 (base:Env) (a:Option Addr) (n:Int) (o:Int) (p:Option Addr) (f:Fn) (b:Array Value) (c:Array Value) (g:Int) (h:List UInt8) (i:Int) (j:Option Addr) (e:Nat) (d:Nat) (k:Int) (m:Bool) (l:Nat) (Kn Kr Kx:World→World→Prop) (w:World):fragV prog 28 qd2 qdy (cdAt Tryz.f79 [1,1,1,1,0,1,2,5]) (cdAt Tryz.f79 [1,1,1,1,0,1,2,6]) l 0 Kn Kr Kx (updPs [19] [.agg ⟨[I g,S h,I i,L j e d,I k,B m]⟩] (upd (upd (upd (upd (upd base 18 (.func f b c)) 6 (.pointer p)) 5 (I o)) 4 (I n)) 3 (.pointer a))) w=qjq a n o p f b c g h i j e d k m l Kn Kr Kx w:=by kernel_rfl
theorem qka:cdAt Tryz.f79 [1,1,1,1,0,1,2]=.rangeFunc (Operand.tmp 18) #[19] (cdAt Tryz.f79 [1,1,1,1,0,1,2,5]) (cdAt Tryz.f79 [1,1,1,1,0,1,2,6]):=by kernel_rfl
def qqq:Ann:=T F (T F F)
def qoy (a:List UInt8) (b:Int) (e:Option Addr) (d:Nat) (c:Nat) (R:Ending→World→Prop) (w:World):Prop :=
 al w 51 [S a,I b] fun f h =>
 al h 43 [L e d c] fun g i =>
 R (.returned (.func (.func 127) ⟨[]⟩ ⟨[.pointer (some f),.pointer (some g)]⟩)) i
theorem qs0 {a b e d c R w} (h:qoy a b e d c R w):Calls prog qh0 ⟨[.agg ⟨[S a,I b]⟩,L e d c]⟩ w R:=qe Tryz.func80 (Eq.mpr (by kernel_rfl:fnV _ _ qqq _ _ _=_) h)
def qhn:Ann:=T F (T F (.one (T F (T F (T F (T (T F (T F (.cut 128849018896 [(4,.one (.int .i64))] (T F (T F F)) (T F F)))) (T F F)))))))
def qhb (a:Option Addr) (f3:Int) (f4:Int) (f5:Int) (f6:List UInt8) (f7:Int) (f8:Bool) (f9:List UInt8) (R:Ending→World→Prop) (w:World):Prop :=
 al w 123 [I f3,.int .u8 f4,I f5,S f6,I f7,B f8,S f9] fun b d =>
 ∃ n,d.cell? (b.add 0)=some (I n)∧(br (decide (n=1)) (∃ q,d.cell? (b.add 0)=some (I q)∧∃ r,d.cell? (b.add 1)=some (.int .u8 r)∧∃ s,d.cell? (b.add 2)=some (I s)∧∃ t,d.cell? (b.add 3)=some (S t)∧∃ u,d.cell? (b.add 4)=some (I u)∧∃ v,d.cell? (b.add 5)=some (B v)∧∃ x,d.cell? (b.add 6)=some (S x)∧Calls prog 129 ⟨[.pointer a,.agg ⟨[I q,.int .u8 r,I s,S t,I u,B v,S x]⟩]⟩ d fun a3 d1 =>
 a3=.returned (.tuple ⟨[]⟩)∧R (.returned (.tuple ⟨[]⟩)) d1) (br (decide (n=6)) (Calls prog 82 ⟨[.pointer a]⟩ d fun a4 l =>
 a4=.returned (.tuple ⟨[]⟩)∧∀ (h:Int→World→Prop),(∀ (f:Int) (e:World),(∀ _:Env,(∃ y,e.cell? (b.add 0)=some (I y)∧∃ z,e.cell? (b.add 1)=some (.int .u8 z)∧∃ A,e.cell? (b.add 2)=some (I A)∧∃ C,e.cell? (b.add 3)=some (S C)∧∃ D,e.cell? (b.add 4)=some (I D)∧∃ E,e.cell? (b.add 5)=some (B E)∧∃ F,e.cell? (b.add 6)=some (S F)∧Calls prog 130 ⟨[.pointer a,.agg ⟨[I y,.int .u8 z,I A,S C,I D,B E,S F]⟩,I f]⟩ e fun a5 d2 =>
 a5=.returned (.tuple ⟨[]⟩)∧drw d2 fun g =>
 (Calls prog 131 ⟨[.pointer a]⟩ g fun a6 o =>
 ∃ G,a6=.returned (.pointer G)∧∃ H,o.cell? (b.add 2)=some (I H)∧((Calls prog 59 ⟨[I H]⟩ o fun a7 d3 =>
 ∃ J,a7=.returned (S J)∧(sadd ([91]) J fun c5 =>
 sadd c5 ([93]) fun c6 =>
 dr G fun b3 =>
 (stL d3 (b3.add 0) 0 [S c6] fun d4 =>
 R (.returned (.tuple ⟨[]⟩)) d4)∧True))∧True))∧((Calls prog 131 ⟨[.pointer a]⟩ g fun a8 p =>
 ∃ K,a8=.returned (.pointer K)∧∃ L,p.cell? (b.add 2)=some (I L)∧((Calls prog 59 ⟨[I L]⟩ p fun a9 d5 =>
 ∃ M,a9=.returned (S M)∧(sadd ([91]) M fun c7 =>
 sadd c7 ([93]) fun c8 =>
 dr K fun b4 =>
 (stL d5 (b4.add 0) 0 [S c8] fun d6 =>
 R (.returned (.tuple ⟨[]⟩)) d6)∧True))∧True))∧(∃ N,g.cell? (b.add 2)=some (I N)∧((Calls prog 131 ⟨[.pointer a]⟩ g fun b0 d7 =>
 ∃ O,b0=.returned (.pointer O)∧((Calls prog 59 ⟨[I N]⟩ d7 fun b1 d8 =>
 ∃ Q,b1=.returned (S Q)∧(sadd ([91]) Q fun c9 =>
 sadd c9 ([93]) fun d0 =>
 dr O fun b5 =>
 (stL d8 (b5.add 0) 0 [S d0] fun d9 =>
 R (.returned (.tuple ⟨[]⟩)) d9)∧True))∧True))∧True))∧True)∧True))→h f e)→(∃ T,l.cell? (b.add 5)=some (B T)∧br T (h (bitO .i64 2 1) l) (h 2 l))) (Calls prog 82 ⟨[.pointer a]⟩ d fun b2 e0 =>
 b2=.returned (.tuple ⟨[]⟩)∧drw e0 fun c =>
 dr a fun b6 =>
 ∃ U,c.cell? (b6.add 5)=some (B U)∧br U ((dr a fun b7 =>
 (stL c (b7.add 4) 0 [B false] fun e1 =>
 dr a fun b8 =>
 (stL e1 (b8.add 5) 0 [B true] fun e2 =>
 R (.returned (.tuple ⟨[]⟩)) e2)∧True)∧True)∧(dr a fun i =>
 ((stL c (i.add 4) 0 [B false] fun e3 =>
 dr a fun b9 =>
 (stL e3 (b9.add 5) 0 [B true] fun e4 =>
 R (.returned (.tuple ⟨[]⟩)) e4)∧True)∧True)∧(((stL c (i.add 4) 0 [B false] fun e5 =>
 dr a fun c0 =>
 (stL e5 (c0.add 5) 0 [B true] fun e6 =>
 R (.returned (.tuple ⟨[]⟩)) e6)∧True)∧True)∧(stL c (i.add 4) 0 [B false] fun e7 =>
 dr a fun c1 =>
 (stL e7 (c1.add 5) 0 [B true] fun e8 =>
 R (.returned (.tuple ⟨[]⟩)) e8)∧True)∧True)∧True)∧True) ((∃ V,c.cell? (b.add 0)=some (I V)∧dr a fun c2 =>
 (stL c (c2.add 4) 0 [B false] fun e9 =>
 dr a fun c3 =>
 (stL e9 (c3.add 5) 0 [.bool (decide (V=5))] fun f0 =>
 R (.returned (.tuple ⟨[]⟩)) f0)∧True)∧True)∧(dr a fun j =>
 (∃ W,c.cell? (b.add 0)=some (I W)∧((stL c (j.add 4) 0 [B false] fun f1 =>
 dr a fun c4 =>
 (stL f1 (c4.add 5) 0 [.bool (decide (W=5))] fun f2 =>
 R (.returned (.tuple ⟨[]⟩)) f2)∧True)∧True))∧((∃ X,c.cell? (b.add 0)=some (I X)∧((stL c (j.add 4) 0 [B false] fun a0 =>
 dr a fun Y =>
 (stL a0 (Y.add 5) 0 [.bool (decide (X=5))] fun a1 =>
 R (.returned (.tuple ⟨[]⟩)) a1)∧True)∧True))∧(stL c (j.add 4) 0 [B false] fun k =>
 ∃ m,k.cell? (b.add 0)=some (I m)∧dr a fun Z =>
 (stL k (Z.add 5) 0 [.bool (decide (m=5))] fun a2 =>
 R (.returned (.tuple ⟨[]⟩)) a2)∧True)∧True)∧True)∧True))))
theorem qbo {a b c d e f g i R w} (h:qhb a b c d e f g i R w):Calls prog qdj ⟨[.pointer a,.agg ⟨[I b,.int .u8 c,I d,S e,I f,B g,S i]⟩]⟩ w R:=qe Tryz.func81 (Eq.mpr (by kernel_rfl:fnV _ _ qhn _ _ _=_) h)
def qhm:Ann:=.cut 16380 [] (T F (T F F)) (T F F)
def qha (a:Option Addr) (R:Ending→World→Prop) (w:World):Prop :=
 ∀ (c:World→Prop),(∀  (J:World),(∀ _:Env,(dr a fun U =>
 stL J (U.add 3) 0 [B false] fun X =>
 dr a fun V =>
 Calls prog 133 ⟨[.pointer (some (V.add 1))]⟩ X fun T Y =>
 T=.returned (.tuple ⟨[]⟩)∧R (.returned (.tuple ⟨[]⟩)) Y))→c J)→(dr a fun W =>
 ∃ e,w.cell? (W.add 3)=some (B e)∧br e (drw w fun b =>
 (Calls prog 131 ⟨[.pointer a]⟩ b fun n D =>
 ∃ f,n=.returned (.pointer f)∧dr a fun v =>
 (Calls prog 132 ⟨[.pointer (some (v.add 1))]⟩ D fun o E =>
 ∃ g,o=.returned (S g)∧dr f fun x =>
 (stL E (x.add 0) 0 [S g] fun F =>
 c F)∧True)∧True)∧((Calls prog 131 ⟨[.pointer a]⟩ b fun p G =>
 ∃ h,p=.returned (.pointer h)∧dr a fun y =>
 (Calls prog 132 ⟨[.pointer (some (y.add 1))]⟩ G fun q H =>
 ∃ i,q=.returned (S i)∧dr h fun z =>
 (stL H (z.add 0) 0 [S i] fun I =>
 c I)∧True)∧True)∧(dr a fun d =>
 (Calls prog 131 ⟨[.pointer a]⟩ b fun r K =>
 ∃ j,r=.returned (.pointer j)∧((Calls prog 132 ⟨[.pointer (some (d.add 1))]⟩ K fun s L =>
 ∃ k,s=.returned (S k)∧dr j fun A =>
 (stL L (A.add 0) 0 [S k] fun M =>
 c M)∧True)∧True))∧((Calls prog 131 ⟨[.pointer a]⟩ b fun t N =>
 ∃ l,t=.returned (.pointer l)∧((Calls prog 132 ⟨[.pointer (some (d.add 1))]⟩ N fun u O =>
 ∃ m,u=.returned (S m)∧dr l fun C =>
 (stL O (C.add 0) 0 [S m] fun Q =>
 c Q)∧True)∧True))∧True)∧True)∧True)∧True) (c w))
theorem qdd {a R w} (h:qha a R w):Calls prog qay ⟨[.pointer a]⟩ w R:=qe Tryz.func82 (Eq.mpr (by kernel_rfl:fnV _ _ qhm _ _ _=_) h)
def qbe:Ann:=T F (T F F)
def qbc (f:Option Addr) (d:Nat) (c:Nat) (e:Fn) (a:Array Value) (b:Array Value) (R:Ending→World→Prop) (w:World):Prop :=
 Calls prog 134 ⟨[L f d c,.func e a b]⟩ w fun h i =>
 ∃ g,h=.returned (I g)∧(R (.returned (.bool (decide ((0:Int)≤g)))) i)
theorem qbj {f d c e a b R w} (h:qbc f d c e a b R w):Calls prog qah ⟨[L f d c,.func e a b]⟩ w R:=qe Tryz.func83 (Eq.mpr (by kernel_rfl:fnV _ _ qbe _ _ _=_) h)
def qkm:Ann:=T F (T F F)
def qjm (a:List UInt8) (b:List UInt8) (c:List UInt8) (d:Int) (e:Int) (f:List UInt8) (R:Ending→World→Prop) (w:World):Prop :=
 al w 69 [S a,S b,S c,I d,I e,S f] fun i g =>
 ∃ h,g.cell? (i.add 0)=some (S h)∧(R (.returned (.bool (decide ((64:Int) < ((List.length h:Int)))))) g)
theorem qlr {a b c d e f R w} (h:qjm a b c d e f R w):Calls prog qcg ⟨[.agg ⟨[S a,S b,S c,I d,I e,S f]⟩]⟩ w R:=qe Tryz.func84 (Eq.mpr (by kernel_rfl:fnV _ _ qkm _ _ _=_) h)
def qik:Ann:=T F (T (T F (.one (.loop 281474976709104 [(11,.one (.int .i64))] (T F (T (T F F) (T (.one (T F (T F (T (T F (T F F)) (T F (T (T F (T (T F F) F)) F)))))) F)))))) (T F F))
def qid (h:Option Addr) (g:Nat) (f:Nat) (d:Option Addr) (b:Nat) (z:Nat) (R:Ending→World→Prop) (w:World):Prop :=
 ∃ (k:Int→World→Nat→Prop),(∃ K,k 0 w K)∧∀ a l A,k a l A→∀ _:Env,(br (decide ((a:Int) < ((b:Int)))) (idx d b a 6 fun M =>
 ∃ J,l.cell? (M.add 0)=some (S J)∧idx d b a 6 fun E =>
 stL l (E.add 1) 0 [S J] fun c =>
 idx d b a 6 fun e =>
 ∃ p,c.cell? (e.add 0)=some (S p)∧∃ q,c.cell? (e.add 1)=some (S q)∧∃ r,c.cell? (e.add 2)=some (S r)∧∃ s,c.cell? (e.add 3)=some (I s)∧∃ t,c.cell? (e.add 4)=some (I t)∧∃ u,c.cell? (e.add 5)=some (S u)∧Calls prog 135 ⟨[.agg ⟨[S p,S q,S r,I s,I t,S u]⟩]⟩ c fun C i =>
 ∃ v,C=.returned (B v)∧br (!v) (∃ m,m < A∧k (i64.wrap (a + 1)) i m) (idx d b a 6 fun F =>
 ∃ x,i.cell? (F.add 0)=some (S x)∧Calls prog 136 ⟨[L h g f,S x]⟩ i fun D o =>
 ∃ y j,D=.returned (.tuple ⟨[S y,I j]⟩)∧br (decide (j≠0)) (R (.returned (.tuple ⟨[L none 0 0,I j]⟩)) o) (idx d b a 6 fun G =>
 stL o (G.add 1) 0 [S y] fun H =>
 ∃ n,n < A∧k (i64.wrap (a + 1)) H n))) (R (.returned (.tuple ⟨[L d b z,I 0]⟩)) l))
theorem qjb {c b a f e d R w} (h:qid c b a f e d R w):Calls prog qd6 ⟨[L c b a,L f e d]⟩ w R:=qe Tryz.func85 (Eq.mpr (by kernel_rfl:fnV _ _ qik _ _ _=_) h)
def q0x:Ann:=T F (T (T F (T F (T (T F F) F))) (T F F))
def qzq (f:Option Addr) (c:Nat) (b:Nat) (a:Int) (R:Ending→World→Prop) (w:World):Prop :=
 Calls prog 137 ⟨[L f c b,I a,I 0]⟩ w fun n l =>
 ∃ j,n=.returned (I j)∧(br (decide (j≠0)) (R (.returned (.tuple ⟨[L none 0 0,I j]⟩)) l) (Calls prog 139 ⟨[L f c b,I a,B false]⟩ l fun o q =>
 ∃ m i h,o=.returned (L m i h)∧Calls prog 138 ⟨[L m i h]⟩ q fun p k =>
 ∃ g e d,p=.returned (L g e d)∧R (.returned (.tuple ⟨[L g e d,I 0]⟩)) k))
theorem q4c {d c b a R w} (h:qzq d c b a R w):Calls prog qrc ⟨[L d c b,I a]⟩ w R:=qe Tryz.func86 (Eq.mpr (by kernel_rfl:fnV _ _ q0x _ _ _=_) h)
def q4u:Ann:=T F (T (T F (.one (.loop 2199023255520 [(5,.one (.int .i64))] (T (T F (T F F)) (T (.one (.cut 16773120 [] (T F (T F F)) (.cut 17163091968 [] (T F (T F F)) F))) F))))) (T F F))
def q22 (N:List UInt8) (O:Int) (f:Option Addr) (c:Nat) (W:Nat) (R:Ending→World→Prop) (w:World):Prop :=
 al w 51 [S N,I O] fun d X =>
 al X 51 [S [],I 0] fun E Y =>
 ∃ (D:Int→World→Nat→Prop),(∃ G,D 0 Y G)∧∀ b a m,D b a m→∀ _:Env,(br (decide ((b:Int) < ((c:Int)))) (∀ (h:World→Prop),(∀  (e:World),(∀ _:Env,(∀ (i:World→Prop),(∀  (o:World),(∀ _:Env,(drw o fun g =>
 ∃ p,g.cell? (d.add 0)=some (S p)∧∃ q,g.cell? (d.add 1)=some (I q)∧idx f c b 4 fun H =>
 ∃ r l k,g.cell? (H.add 3)=some (L r l k)∧((Calls prog 87 ⟨[.agg ⟨[S p,I q]⟩,L r l k]⟩ g fun F Q =>
 ∃ s t,F=.returned (.agg ⟨[S s,I t]⟩)∧((stL Q d 0 [S s,I t] fun T =>
 ∃ n,n < m∧D (i64.wrap (b + 1)) T n)∧True))∧True)))→i o)→(idx f c b 4 fun J =>
 ∃ u,e.cell? (J.add 0)=some (I u)∧br (decide (u=2)) (∃ v,e.cell? (d.add 1)=some (I v)∧stL e (d.add 1) 0 [.int .i64 (i64.wrap (v + 1))] fun U =>
 i U) (i e))))→h e)→(idx f c b 4 fun K =>
 ∃ x,a.cell? (K.add 0)=some (I x)∧br (decide (x=3)) (idx f c b 4 fun M =>
 ∃ y,a.cell? (M.add 1)=some (S y)∧stL a d 0 [S y,I 0] fun V =>
 h V) (h a))) (∃ z,a.cell? (d.add 0)=some (S z)∧∃ A,a.cell? (d.add 1)=some (I A)∧stL a E 0 [S z,I A] fun j =>
 ∃ B,j.cell? (E.add 0)=some (S B)∧∃ C,j.cell? (E.add 1)=some (I C)∧R (.returned (.agg ⟨[S B,I C]⟩)) j))
theorem q62 {d e c b a R w} (h:q22 d e c b a R w):Calls prog qt4 ⟨[.agg ⟨[S d,I e]⟩,L c b a]⟩ w R:=qe Tryz.func87 (Eq.mpr (by kernel_rfl:fnV _ _ q4u _ _ _=_) h)
def qbk:Ann:=T F (T (T F (.one (.loop 524080 [(8,.one (.int .i64))] (T F (T (T F F) (T (.one (T F (T F (T (T F F) F)))) F)))))) (T F F))
def qbi (p:Option Addr) (c:Nat) (s:Nat) (n:Fn) (j:Array Value) (k:Array Value) (R:Ending→World→Prop) (w:World):Prop :=
 ∃ (i:Int→World→Nat→Prop),(∃ r,i 0 w r)∧∀ a b o,i a b o→∀ _:Env,(br (decide ((a:Int) < ((c:Int)))) (idx p c a 3 fun l =>
 ∃ q,b.cell? (l.add 0)=some (S q)∧∃ f,b.cell? (l.add 1)=some (I f)∧∃ g,b.cell? (l.add 2)=some (I g)∧CallV prog (.func n j k) [.agg ⟨[S q,I f,I g]⟩] b fun m e =>
 ∃ h,m=.returned (B h)∧br h (R (.returned (I a)) e) (∃ d,d < o∧i (i64.wrap (a + 1)) e d)) (R (.returned (.int .i64 ((-1)))) b))
theorem qbp {f d c e a b R w} (h:qbi f d c e a b R w):Calls prog qbs ⟨[L f d c,.func e a b]⟩ w R:=qe Tryz.func88 (Eq.mpr (by kernel_rfl:fnV _ _ qbk _ _ _=_) h)
def qtc:Ann:=T F (T F F)
def qrx (c:List UInt8) (d:Int) (e:Int) (a:Option Addr) (R:Ending→World→Prop) (w:World):Prop :=
 al w 65 [S c,I d,I e] fun h b =>
 ∃ f,b.cell? (h.add 0)=some (S f)∧(dr a fun i =>
 ∃ g,b.cell? i=some (S g)∧R (.returned (.bool (decide (f=g)))) b)
theorem qu4 {b c d a R w} (h:qrx b c d a R w):Calls prog qiy ⟨[.agg ⟨[S b,I c,I d]⟩,.pointer a]⟩ w R:=qe Tryz.func89 (Eq.mpr (by kernel_rfl:fnV _ _ qtc _ _ _=_) h)
def qtk:Ann:=T F (T F F)
def qr5 (a:List UInt8) (R:Ending→World→Prop) (w:World):Prop :=
 br (decide ((a:List UInt8)≠([]))) (br (decide ((((List.length a:Int)):Int)≤16)) (Calls prog 140 ⟨[S a]⟩ w fun c d =>
 ∃ b,c=.returned (I b)∧R (.returned (.bool (decide (b=((List.length a:Int)))))) d) (R (.returned (B false)) w)) (R (.returned (B false)) w)
theorem qva {a R w} (h:qr5 a R w):Calls prog qi5 ⟨[S a]⟩ w R:=qe Tryz.func90 (Eq.mpr (by kernel_rfl:fnV _ _ qtk _ _ _=_) h)
def qnx:Ann:=T F (T F F)
def qmr (c:Option Addr) (b:Nat) (a:Nat) (R:Ending→World→Prop) (w:World):Prop :=
 al w 43 [L c b a] fun d e =>
 R (.returned (.func (.func 141) ⟨[]⟩ ⟨[.pointer (some d)]⟩)) e
theorem qp1 {c b a R w} (h:qmr c b a R w):Calls prog qgi ⟨[L c b a]⟩ w R:=qe Tryz.func91 (Eq.mpr (by kernel_rfl:fnV _ _ qnx _ _ _=_) h)
def qyr:Ann:=T F (T F F)
def qws (a:List UInt8) (R:Ending→World→Prop) (w:World):Prop :=
 br (decide ((((List.length a:Int)):Int)≤16)) (Calls prog 149 ⟨[S a]⟩ w fun e b =>
 ∃ c,e=.returned (B c)∧br c (Calls prog 150 ⟨[S a]⟩ b fun f g =>
 ∃ d,f=.returned (I d)∧R (.returned (.bool (decide (d=((List.length a:Int)))))) g) (R (.returned (B false)) b)) (R (.returned (B false)) w)
theorem q0l {a R w} (h:qws a R w):Calls prog qmh ⟨[S a]⟩ w R:=qe Tryz.func93 (Eq.mpr (by kernel_rfl:fnV _ _ qyr _ _ _=_) h)
def q03:Ann:=T F (T (T F (T F (T (T F F) F))) (T (T F (T F (T (T F F) F))) (T (T F (T (T F F) F)) (T F F))))
def qzw (c:Option Addr) (b:Nat) (a:Nat) (R:Ending→World→Prop) (w:World):Prop :=
 Calls prog 105 ⟨[L c b a,I 16,I 4096]⟩ w fun k h =>
 ∃ m n j,k=.returned (.tuple ⟨[I m,I n,B j]⟩)∧(br (!j) (R (.returned (I 4)) h) (Calls prog 151 ⟨[L c b a,B false]⟩ h fun l i =>
 ∃ f,l=.returned (I f)∧br (decide (f≠0)) (R (.returned (I f)) i) (Calls prog 152 ⟨[L c b a]⟩ i fun g d =>
 ∃ e,g=.returned (S e)∧br (decide ((65536:Int) < ((List.length e:Int)))) (R (.returned (I 4)) d) (R (.returned (I 0)) d))))
theorem q4h {c b a R w} (h:qzw c b a R w):Calls prog qrg ⟨[L c b a]⟩ w R:=qe Tryz.func94 (Eq.mpr (by kernel_rfl:fnV _ _ q03 _ _ _=_) h)
def qyn:Ann:=T F (T (T F (.one (.loop 16380 [(3,.one (.int .i64))] (T (T F (T F F)) (T (.one (T F (T (T F F) F))) F))))) (T F F))
def qwo (c:List UInt8) (R:Ending→World→Prop) (w:World):Prop :=
 ∃ (d:Int→World→Nat→Prop),(∃ h,d 0 w h)∧∀ a b e,d a b e→∀ _:Env,(br (decide ((a:Int) < ((List.length c:Int)))) (sidx c a fun g =>
 br (decide ((((g.toNat:Int)):Int)≠32)) (R (.returned (B false)) b) (∃ f,f < e∧d (i64.wrap (a + 1)) b f)) (R (.returned (B true)) b))
theorem q0h {a R w} (h:qwo a R w):Calls prog qmd ⟨[S a]⟩ w R:=qe Tryz.func95 (Eq.mpr (by kernel_rfl:fnV _ _ qyn _ _ _=_) h)
def qvl:Ann:=T F (T F F)
def qis (d:Option Addr) (c:Nat) (b:Nat) (a:Int) (R:Ending→World→Prop) (w:World):Prop :=
 Calls prog 72 ⟨[L d c b,.int .i64 (i64.wrap (a - 1))]⟩ w fun m p =>
 ∃ k g f,m=.returned (L k g f)∧(Calls prog 72 ⟨[L d c b,I a]⟩ p fun n q =>
 ∃ l i h,n=.returned (L l i h)∧Calls prog 32 ⟨[L k g f,L l i h]⟩ q fun o j =>
 ∃ e,o=.returned (B e)∧R (.returned (.bool (!e))) j)
theorem qyg {d c b a R w} (h:qis d c b a R w):Calls prog qk2 ⟨[L d c b,I a]⟩ w R:=qe Tryz.func96 (Eq.mpr (by kernel_rfl:fnV _ _ qvl _ _ _=_) h)
def q43:Ann:=T F (T F F)
def q3a (c:Option Addr) (b:Nat) (a:Nat) (R:Ending→World→Prop) (w:World):Prop :=
 al w 43 [L c b a] fun d e =>
 R (.returned (.func (.func 153) ⟨[]⟩ ⟨[.pointer (some d)]⟩)) e
theorem q7b {c b a R w} (h:q3a c b a R w):Calls prog quf ⟨[L c b a]⟩ w R:=qe Tryz.func98 (Eq.mpr (by kernel_rfl:fnV _ _ q43 _ _ _=_) h)
def qoa:Ann:=T F (T F F)
def qm4 (g:Int) (h:List UInt8) (i:Int) (j:Option Addr) (c:Nat) (b:Nat) (R:Ending→World→Prop) (w:World):Prop :=
 al w 56 [I g,S h,I i,L j c b] fun d a =>
 ∃ e,a.cell? (d.add 0)=some (I e)∧(br (decide (e=8)) (R (.returned (B true)) a) (∃ f,a.cell? (d.add 0)=some (I f)∧R (.returned (.bool (decide (f=9)))) a))
theorem qqe {c d e f b a R w} (h:qm4 c d e f b a R w):Calls prog qgt ⟨[.agg ⟨[I c,S d,I e,L f b a]⟩]⟩ w R:=qe Tryz.func99 (Eq.mpr (by kernel_rfl:fnV _ _ qoa _ _ _=_) h)
def q4y:Ann:=T F (T F (T (T F (.one (.loop 576460752303423424 [(9,.one (.int .i64)),(10,.one (.int .i64)),(11,.one (.int .i64))] (T (T F (T F F)) (T (.one (T F (T (T F (T (T F F) F)) (T (T F (T F F)) (T (T F (T (T F F) F)) (T F (T (T F (T (T F F) F)) (T F F)))))))) F))))) (T F F)))
def q26 (l:Option Addr) (g:Nat) (C:Nat) (b:Int) (e:Int) (R:Ending→World→Prop) (w:World):Prop :=
 ∃ (k:Int→Int→Int→World→Nat→Prop),(∃ x,k 0 0 0 w x)∧∀ d a c f t,k d a c f t→∀ _:Env,(br (decide ((c:Int) < ((g:Int)))) (br (decide ((e:Int) < (i64.wrap (d + 1)))) (R (.returned (.tuple ⟨[I 0,I 0,B false]⟩)) f) (idx l g c 4 fun y =>
 ∃ A h u,f.cell? (y.add 3)=some (L A h u)∧br (decide (((h):Int)=0)) (∃ m,m < t∧k (i64.wrap (d + 1)) a (i64.wrap (c + 1)) f m) (br (decide ((b:Int)=0)) (R (.returned (.tuple ⟨[I 0,I 0,B false]⟩)) f) (idx l g c 4 fun z =>
 ∃ p j i,f.cell? (z.add 3)=some (L p j i)∧Calls prog 105 ⟨[L p j i,.int .i64 (i64.wrap (b - 1)),.int .i64 (i64.wrap (e - (i64.wrap (d + 1))))]⟩ f fun v o =>
 ∃ q r s,v=.returned (.tuple ⟨[I q,I r,B s]⟩)∧br (!s) (R (.returned (.tuple ⟨[I 0,I 0,B false]⟩)) o) (∃ n,n < t∧k (i64.wrap ((i64.wrap (d + 1)) + q)) ((max a (i64.wrap (r + 1)))) (i64.wrap (c + 1)) o n))))) (R (.returned (.tuple ⟨[I d,I a,B true]⟩)) f))
theorem q66 {e d c a b R w} (h:q26 e d c a b R w):Calls prog qt8 ⟨[L e d c,I a,I b]⟩ w R:=qe Tryz.func105 (Eq.mpr (by kernel_rfl:fnV _ _ q4y _ _ _=_) h)
def q40:Ann:=T F (T (T F (.one (.loop 8796093022192 [(5,.one (.int .i64))] (T (T F (T F F)) (T (.one (T F (T F (T (T F F) F)))) F))))) (T F F))
def q28 (e:Option Addr) (d:Nat) (z:Nat) (a:Int) (R:Ending→World→Prop) (w:World):Prop :=
 ∃ (k:Int→World→Nat→Prop),(∃ A,k 0 w A)∧∀ b c t,k b c t→∀ _:Env,(br (decide ((b:Int) < ((d:Int)))) (idx e d b 4 fun C =>
 ∃ j,c.cell? (C.add 1)=some (S j)∧br (decide ((a:Int)=0)) (R (.returned (B true)) c) (br (decide ((60:Int) < ((List.length j:Int)))) (br (decide ((((List.length j:Int)):Int)≤65536)) (R (.returned (B true)) c) (br (decide ((65540:Int) < ((List.length j:Int)))) (R (.returned (B true)) c) (idx e d b 4 fun x =>
 ∃ p g f,c.cell? (x.add 3)=some (L p g f)∧Calls prog 106 ⟨[L p g f,.int .i64 (i64.wrap (a - 1))]⟩ c fun u n =>
 ∃ q,u=.returned (B q)∧br q (R (.returned (B true)) n) (∃ l,l < t∧k (i64.wrap (b + 1)) n l)))) (br (decide ((65540:Int) < ((List.length j:Int)))) (R (.returned (B true)) c) (idx e d b 4 fun y =>
 ∃ r i h,c.cell? (y.add 3)=some (L r i h)∧Calls prog 106 ⟨[L r i h,.int .i64 (i64.wrap (a - 1))]⟩ c fun v o =>
 ∃ s,v=.returned (B s)∧br s (R (.returned (B true)) o) (∃ m,m < t∧k (i64.wrap (b + 1)) o m))))) (R (.returned (B false)) c))
theorem q68 {d c b a R w} (h:q28 d c b a R w):Calls prog qua ⟨[L d c b,I a]⟩ w R:=qe Tryz.func106 (Eq.mpr (by kernel_rfl:fnV _ _ q40 _ _ _=_) h)
end Go.Proofs
