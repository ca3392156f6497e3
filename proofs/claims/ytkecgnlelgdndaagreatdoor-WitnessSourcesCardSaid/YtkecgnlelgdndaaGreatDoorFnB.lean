/- A part of the proof. -/
import Derived.Test.YtkecgnlelgdndaaGreatDoorFn
set_option linter.all false
set_option maxRecDepth 100000
namespace Go.Proofs
open Go Go.Sh Go.Proofs.Tryz IntKind
def qxc:Ann:=T F (.cut 1047552 [] (T F (T (T F F) F)) (T (T F (T (T F F) F)) (T F (T (T F (.one (.rf [1,2,3,27] 0))) (T (T F (.one (.loop 2361183232638729585152 [(43,.one (.int .i64))] (T F (T (T F F) (T (.one (T F (.one (T F (T (T F F) (.cut 1150669704793161728 [(51,.one (.bool))] F (T F (T F (T F (T F F)))))))))) F)))))) (T F F))))))
def qwg (i1:LU) (i2:OA) (f7:Nat) (f6:Nat) (R:EP) (w:World):Prop :=
 al w 45 [S i1,L i2 f7 f6] fun q i4 =>
 al i4 28 [I 0] fun a h5 =>
 ∀ (g0:WP),(∀ (f5:World),(∀ _:Env,(∃ i3 f2 f1,ce f5 q 1 (L i3 f2 f1)∧Cp 71 [L i3 f2 f1] f5 fun g2 a8 =>
 ∃ c0,rI g2 c0∧br (decide (c0≠0)) (stL a8 a 0 [I 1] fun a9 =>
 ∃ c1,cf a9 a (I c1)∧R (rt (I c1)) a9) (mkm a8 fun g1 g8 =>
 al g8 130 [.map none] fun a7 g9 =>
 stL g9 a7 0 [.map (some g1)] fun b0 =>
 ∃ c2 W V,ce b0 q 1 (L c2 W V)∧Cp 91 [L c2 W V] b0 fun g3 h0 =>
 ∃ c3 X Y,rV g3 (.func c3 X Y)∧∀ A:Env,RFw prog none 71 (cdAt Tryz.f42 [1,1,1,1,0,1,2]) (upd (upd (upd (upd A 27 (.func c3 X Y)) 3 (.pointer (some a7))) 2 (.pointer (some a))) 1 (.pointer (some q))) [] h0 0 (fun b e =>
 ∃ d9 s f9,ce e q 1 (L d9 s f9)∧∃ (u:Int→World→Nat→Prop),(∃ g7,u 0 e g7)∧∀ d g C,u d g C→∀ _:Env,(br (decide ((d:Int) < (s))) (idx d9 s d 4 fun x =>
 ∃ e0,ce g x 0 (I e0)∧∃ e1,ce g x 1 (S e1)∧∃ e2,ce g x 2 (I e2)∧∃ e3 a2 a1,ce g x 3 (L e3 a2 a1)∧al g 56 [I 0,S [],I 0,L none 0 0] fun i h7 =>
 stL h7 i 0 [I e0,S e1,I e2,L e3 a2 a1] fun l =>
 ∃ e4,ce l i 0 (I e4)∧br (decide (e4=4)) (stL l a 0 [I 0] fun h8 =>
 retD b h8 fun b6 =>
 ∃ e5,cf b6 a (I e5)∧R (rt (I e5)) b6) (∀ (z:Bool→World→Prop),(∀ (p:Bool) (m:World),(∀ _:Env,(br p (∃ a5,a5 < C∧u (i64.wrap (d + 1)) m a5) (∃ e6,ce m i 0 (I e6)∧br (decide (e6=1)) (∃ e7,ce m i 1 (S e7)∧Cp 92 [S e7,S [32]] m fun g5 b7 =>
 ∃ e8,rV g5 (S e8)∧br (decide (e8=([]))) (∃ a6,a6 < C∧u (i64.wrap (d + 1)) b7 a6) (stL b7 a 0 [I 10] fun h9 =>
 retD b h9 fun b8 =>
 ∃ e9,cf b8 a (I e9)∧R (rt (I e9)) b8)) (stL m a 0 [I 10] fun i0 =>
 retD b i0 fun b9 =>
 ∃ f0,cf b9 a (I f0)∧R (rt (I f0)) b9))))→z p m)→(∃ H,ce l i 0 (I H)∧br (decide (H=3)) (z true l) (∃ J,ce l i 0 (I J)∧(z (decide (J=2)) l))))) (stL g a 0 [I 0] fun f4 =>
 retD b f4 fun D =>
 ∃ K,cf D a (I K)∧R (rt (I K)) D))) (fun b e =>
 retD b e fun E =>
 ∃ M,cf E a (I M)∧R (rt (I M)) E) (fun b e =>
 ∃ c4 r f8,ce e q 1 (L c4 r f8)∧∃ (t:Int→World→Nat→Prop),(∃ g6,t 0 e g6)∧∀ c f B,t c f B→∀ _:Env,(br (decide ((c:Int) < (r))) (idx c4 r c 4 fun v =>
 ∃ c5,ce f v 0 (I c5)∧∃ c6,ce f v 1 (S c6)∧∃ c7,ce f v 2 (I c7)∧∃ c8 a0 Z,ce f v 3 (L c8 a0 Z)∧al f 56 [I 0,S [],I 0,L none 0 0] fun h h1 =>
 stL h1 h 0 [I c5,S c6,I c7,L c8 a0 Z] fun j =>
 ∃ c9,ce j h 0 (I c9)∧br (decide (c9=4)) (stL j a 0 [I 0] fun h2 =>
 retD b h2 fun b1 =>
 ∃ d0,cf b1 a (I d0)∧R (rt (I d0)) b1) (∀ (y:Bool→World→Prop),(∀ (o:Bool) (k:World),(∀ _:Env,(br o (∃ a3,a3 < B∧t (i64.wrap (c + 1)) k a3) (∃ d1,ce k h 0 (I d1)∧br (decide (d1=1)) (∃ d2,ce k h 1 (S d2)∧Cp 92 [S d2,S [32]] k fun g4 b2 =>
 ∃ d3,rV g4 (S d3)∧br (decide (d3=([]))) (∃ a4,a4 < B∧t (i64.wrap (c + 1)) b2 a4) (stL b2 a 0 [I 10] fun h3 =>
 retD b h3 fun b3 =>
 ∃ d4,cf b3 a (I d4)∧R (rt (I d4)) b3)) (stL k a 0 [I 10] fun h4 =>
 retD b h4 fun b4 =>
 ∃ d5,cf b4 a (I d5)∧R (rt (I d5)) b4))))→y o k)→(∃ d6,ce j h 0 (I d6)∧br (decide (d6=3)) (y true j) (∃ d7,ce j h 0 (I d7)∧(y (decide (d7=2)) j))))) (stL f a 0 [I 0] fun h6 =>
 retD b h6 fun b5 =>
 ∃ d8,cf b5 a (I d8)∧R (rt (I d8)) b5))))))→g0 f5)→(∃ N,ce h5 q 0 (S N)∧Cp 90 [S N] h5 fun f3 n =>
 ∃ O,rB f3 O∧br (!O) (stL n a 0 [I 14] fun F =>
 ∃ Q,cf F a (I Q)∧R (rt (I Q)) F) (∃ T,ce n q 0 (S T)∧br (decide ((14:Int) < ((List.length T:Int)))) (stL n a 0 [I 14] fun G =>
 ∃ U,cf G a (I U)∧R (rt (I U)) G) (g0 n)))
theorem q0j {c d b a R w} (h:qwg c d b a R w):Calls prog qlm ⟨[.agg ⟨[S c,L d b a]⟩]⟩ w R:=qc Tryz.func42 (Eq.mpr (by kernel_rfl:fnV _ _ qxc _ _ _=_) h)
def qf8:Ann:=T F F
def qf5:Ann:=.one (T (T F (T F (T (T F F) F))) F)
def qqq (s:OA) (f:OA) (b:OA) (r:Fn) (m:Array Value) (n:Array Value) (c:LU) (d:Int) (l:Nat) (Kn Kr Kx:World→World→Prop) (w:World):Prop :=
 Ext w w∧∀ a:World,Upd l w a→(dr b fun i =>
 ∃ g,cf a i (g)∧∃ q,∃ (e:Bool),lkAt2 prog 130 g (S c) a (I q) e∧br e (dr f fun j =>
 stL a j 0 [I 7] fun o =>
 Kr a o) (dr b fun k =>
 ∃ h,cf a k (h)∧(mupd prog 130 h (S c) (I d) a fun p =>
 Kn a p)))
theorem qq8 (base:Env) (h:OA) (g:OA) (a:OA) (d:Fn) (b:Array Value) (c:Array Value) (e:LU) (f:Int) (l:Nat) (Kn Kr Kx:World→World→Prop) (w:World):fragV prog 71 qf8 qf5 (cdAt Tryz.f42 [1,1,1,1,0,1,2,5]) (cdAt Tryz.f42 [1,1,1,1,0,1,2,6]) l 0 Kn Kr Kx (updPs [28,29] [S e,I f] (upd (upd (upd (upd base 27 (.func d b c)) 3 (.pointer a)) 2 (.pointer g)) 1 (.pointer h))) w=qqq h g a d b c e f l Kn Kr Kx w:=by kernel_rfl
theorem qre:cdAt Tryz.f42 [1,1,1,1,0,1,2]=.rangeFunc (Operand.tmp 27) #[28,29] (cdAt Tryz.f42 [1,1,1,1,0,1,2,5]) (cdAt Tryz.f42 [1,1,1,1,0,1,2,6]):=by kernel_rfl
def q3y:Ann:=T F (.cut 130948 [] (T F (T (T F F) F)) (T (T F (T (T F F) F)) (T F (T (T F (.one (.loop 274861129748 [(4,.one (.int .i64))] (T (T F (T F F)) (T (.one (T F (T (T F F) F))) F))))) (T (T F (.one (.loop 4722366482594767306852 [(5,.one (.int .i64))] (T (T F (T F F)) (T (.one (T F (T (T F (T (T F F) F)) (T F (T (T F F) F))))) F))))) (T F F))))))
def q2d (b9:LU) (c0:OA) (a5:Nat) (a4:Nat) (R:EP) (w:World):Prop :=
 al w 45 [S b9,L c0 a5 a4] fun l b8 =>
 ∀ (a8:WP),(∀ (a2:World),(∀ _:Env,(∃ c2 a1 a0,ce a2 l 1 (L c2 a1 a0)∧Cp 94 [L c2 a1 a0] a2 fun c3 a3 =>
 ∃ D,rI c3 D∧br (decide (D≠0)) (R (rt (I 1)) a3) (∃ E o n,ce a3 l 1 (L E o n)∧Cp 65 [L E o n] a3 fun a9 b6 =>
 ∃ p f q,rV a9 (L p f q)∧∃ (m:Int→World→Nat→Prop),(∃ b3,m 0 b6 b3)∧∀ d j v,m d j v→∀ _:Env,(br (decide ((d:Int) < (f))) (idx p f d 1 fun b5 =>
 ∃ F,cf j b5 (S F)∧Cp 66 [L p f q,S F] j fun b0 B =>
 ∃ G,rI b0 G∧br (decide (G≠d)) (R (rt (I 7)) B) (∃ x,x < v∧m (i64.wrap (d + 1)) B x)) (∃ (g:Int→World→Nat→Prop),(∃ b4,g 0 j b4)∧∀ c b h,g c b h→∀ _:Env,(∃ c1 r a6,ce b l 1 (L c1 r a6)∧br (decide ((c:Int) < (r))) (∃ H s a7,ce b l 1 (L H s a7)∧idx H s c 4 fun i =>
 ∃ J,ce b i 0 (I J)∧∃ K,ce b i 1 (S K)∧∃ M,ce b i 2 (I M)∧∃ N u t,ce b i 3 (L N u t)∧al b 56 [I 0,S [],I 0,L none 0 0] fun e b7 =>
 stL b7 e 0 [I J,S K,I M,L N u t] fun a =>
 ∃ O,ce a e 0 (I O)∧br (decide (O=4)) (R (rt (I 0)) a) (∃ Q,ce a e 0 (I Q)∧br (decide (Q≠3)) (∃ T,ce a e 0 (I T)∧br (decide (T≠2)) (∃ U,ce a e 0 (I U)∧br (decide (U≠1)) (R (rt (I 10)) a) (∃ V,ce a e 1 (S V)∧Cp 95 [S V] a fun b1 C =>
 ∃ W,rB b1 W∧br (!W) (R (rt (I 10)) C) (∃ y,y < h∧g (i64.wrap (c + 1)) C y))) (∃ z,z < h∧g (i64.wrap (c + 1)) a z)) (∃ A,A < h∧g (i64.wrap (c + 1)) a A))) (R (rt (I 0)) b)))))))→a8 a2)→(∃ X,ce b8 l 0 (S X)∧Cp 93 [S X] b8 fun b2 k =>
 ∃ Y,rB b2 Y∧br (!Y) (R (rt (I 14)) k) (∃ Z,ce k l 0 (S Z)∧br (decide ((14:Int) < ((List.length Z:Int)))) (R (rt (I 14)) k) (a8 k)))
theorem q76 {c d b a R w} (h:q2d c d b a R w):Calls prog qsx ⟨[.agg ⟨[S c,L d b a]⟩]⟩ w R:=qc Tryz.func43 (Eq.mpr (by kernel_rfl:fnV _ _ q3y _ _ _=_) h)
def q85:Ann:=T F (T (T F (T (T F F) F)) (T (T F (.one (.loop 295147905179352823856 [(5,.one (.int .i64))] (T (T F (T F F)) (T (.one (T F (T (T F F) F))) F))))) (T F F)))
def q6t (e:OA) (b:Nat) (J:Nat) (f:OA) (d:Nat) (K:Nat) (R:EP) (w:World):Prop :=
 br (decide ((((b:Int)):Int)≠((d:Int)))) (R (rt (B false)) w) (∃ (v:Int→World→Nat→Prop),(∃ M,v 0 w M)∧∀ a x z,v a x z→∀ _:Env,(br (decide ((a:Int) < ((b:Int)))) (drw x fun c =>
 idx e b a 4 fun N =>
 ∃ m,ce c N 0 (I m)∧idx f d a 4 fun A =>
 ∃ n,ce c A 0 (I n)∧br (decide (m≠n)) ((R (rt (B false)) c)∧True) (idx e b a 4 fun C =>
 ∃ o,ce c C 1 (S o)∧idx f d a 4 fun D =>
 ∃ p,ce c D 1 (S p)∧br (decide (o≠p)) ((R (rt (B false)) c)∧True) (idx e b a 4 fun E =>
 ∃ q,ce c E 2 (I q)∧idx f d a 4 fun F =>
 ∃ r,ce c F 2 (I r)∧br (decide (q≠r)) ((R (rt (B false)) c)∧True) (idx e b a 4 fun G =>
 ∃ s h g,ce c G 3 (L s h g)∧idx f d a 4 fun H =>
 ∃ t j i,ce c H 3 (L t j i)∧((Cp 44 [L s h g,L t j i] c fun y l =>
 ∃ u,rB y u∧br (!u) (R (rt (B false)) l) (∃ k,k < z∧v (i64.wrap (a + 1)) l k))∧True))))) (R (rt (B true)) x)))
theorem c_ref10_Same {e b a f d c R w} (h:q6t e b a f d c R w):Calls prog qv6 ⟨[L e b a,L f d c]⟩ w R:=qc Tryz.func44 (Eq.mpr (by kernel_rfl:fnV _ _ q85 _ _ _=_) h)
def q4n:Ann:=T F (T F (T (T F (T (T F F) F)) (T F (T (T F (.one (.loop 268370112 [(6,.one (.slice)),(7,.one (.int .i64))] (T (T F (T F F)) (T (.one (T F (T F F))) F))))) (T F F)))))
def q22 (i:OA) (f:Nat) (e:Nat) (R:EP) (w:World):Prop :=
 Cp 49 [L i f e] w fun A y =>
 ∃ z q,rV A (.tuple ⟨[I z,I q]⟩)∧(br (decide (q≠0)) (R (rt (.tuple ⟨[L none 0 0,I q]⟩)) y) (∃ (h:OA→Nat→Nat→Int→World→Nat→Prop),(∃ t,h none 0 0 1 y t)∧∀ d c b a p g,h d c b a p g→∀ _:Env,(br (decide ((a:Int)≤z)) (Cp 96 [L i f e,I a] p fun s l =>
 ∃ m,rB s m∧br m (al l 3 [I a] fun u v =>
 app prog [74,74] 74 (L d c b) (.slice (some u) 1 1) v fun r o n x =>
 ∃ j,j < g∧h r o n (i64.wrap (a + 1)) x j) (∃ k,k < g∧h d c b (i64.wrap (a + 1)) l k)) (R (rt (.tuple ⟨[L d c b,I 0]⟩)) p))))
theorem q8t {c b a R w} (h:q22 c b a R w):Calls prog qje ⟨[L c b a]⟩ w R:=qc Tryz.func45 (Eq.mpr (by kernel_rfl:fnV _ _ q4n _ _ _=_) h)
def q4o:Ann:=T F (T (T F (T (T F F) F)) (T F (T (T F (.one (.rf [2,3,4,10] 0))) (T F F))))
def q23 (i:OA) (e:Nat) (d:Nat) (R:EP) (w:World):Prop :=
 Cp 71 [L i e d] w fun r p =>
 ∃ q,rI r q∧(br (decide (q≠0)) (R (rt (.tuple ⟨[I 0,I 1]⟩)) p) (al p 3 [I 0] fun h t =>
 stL t h 0 [I 0] fun u =>
 Cp 98 [L i e d] u fun s v =>
 ∃ j f g,rV s (.func j f g)∧∀ c:Env,RFw prog none 19 (cdAt Tryz.f49 [1,1,1,0,1,2]) (upd (upd (upd (upd c 10 (.func j f g)) 4 (.pointer (some h))) 3 (I 0)) 2 (I 0)) [] v 0 (fun a b =>
 ∃ l,cf b h (I l)∧retD a b fun n =>
 R (rt (.tuple ⟨[I l,I 0]⟩)) n) (fun a b =>
 retD a b fun o =>
 R (rt (.tuple ⟨[I 0,I 0]⟩)) o) (fun a b =>
 ∃ k,cf b h (I k)∧retD a b fun m =>
 R (rt (.tuple ⟨[I k,I 0]⟩)) m)))
theorem q8u {c b a R w} (h:q23 c b a R w):Calls prog qtk ⟨[L c b a]⟩ w R:=qc Tryz.func49 (Eq.mpr (by kernel_rfl:fnV _ _ q4o _ _ _=_) h)
def qh9:Ann:=F
def qh7:Ann:=.one (T F (T F F))
def qww (E:Int) (F:Int) (b:OA) (B:Fn) (v:Array Value) (x:Array Value) (g:Int) (h:LU) (i:Int) (j:OA) (f:Nat) (e:Nat) (l:Nat) (Kn Kr Kx:World→World→Prop) (w:World):Prop :=
 al w 56 [I 0,S [],I 0,L none 0 0] fun c C =>
 stL C c 0 [I g,S h,I i,L j f e] fun n =>
 Ext w n∧∀ a:World,Upd l n a→(∃ o,ce a c 0 (I o)∧∃ p,ce a c 1 (S p)∧∃ q,ce a c 2 (I q)∧∃ r m k,ce a c 3 (L r m k)∧Cp 99 [.agg ⟨[I o,S p,I q,L r m k]⟩] a fun y d =>
 ∃ s,rB y s∧br s (dr b fun z =>
 ∃ t,cf d z (I t)∧∃ u,ce d c 2 (I u)∧dr b fun A =>
 stL d A 0 [.int .i64 ((max t u))] fun D =>
 Kn a D) (Kn a d))
theorem qwz (base:Env) (k:Int) (m:Int) (a:OA) (f:Fn) (b:Array Value) (c:Array Value) (g:Int) (h:LU) (i:Int) (j:OA) (e:Nat) (d:Nat) (l:Nat) (Kn Kr Kx:World→World→Prop) (w:World):fragV prog 19 qh9 qh7 (cdAt Tryz.f49 [1,1,1,0,1,2,5]) (cdAt Tryz.f49 [1,1,1,0,1,2,6]) l 0 Kn Kr Kx (updPs [11] [.agg ⟨[I g,S h,I i,L j e d]⟩] (upd (upd (upd (upd base 10 (.func f b c)) 4 (.pointer a)) 3 (I m)) 2 (I k))) w=qww k m a f b c g h i j e d l Kn Kr Kx w:=by kernel_rfl
theorem qw2:cdAt Tryz.f49 [1,1,1,0,1,2]=.rangeFunc (Operand.tmp 10) #[11] (cdAt Tryz.f49 [1,1,1,0,1,2,5]) (cdAt Tryz.f49 [1,1,1,0,1,2,6]):=by kernel_rfl
def q4b:Ann:=T F (T (.cut 32640 [(14,.one (.bool))] F (T (T F (T F F)) F)) (T (T F (.one (.loop 1099377410116 [(6,.one (.int .i64))] (T (T F (T F F)) (T (.one (T F (T (T F F) F))) F))))) (T F F)))
def q2q (e:OA) (a:Nat) (d:Nat) (R:EP) (w:World):Prop :=
 ∀ (m:Bool→World→Prop),(∀ (f:Bool) (n:World),(∀ _:Env,(br f (Cp 105 [L e a d,I 20,I 40] n fun z v =>
 ∃ A C y,rV z (.tuple ⟨[I A,I C,B y]⟩)∧br (!y) (R (rt (B true)) v) (Cp 106 [L e a d,I 20] v fun p t =>
 ∃ k,rB p k∧R (rt (B k)) t)) (∃ (g:Int→World→Nat→Prop),(∃ r,g 0 n r)∧∀ b c i,g b c i→∀ _:Env,(br (decide ((b:Int) < ((a:Int)))) (idx e a b 4 fun s =>
 ∃ x h o,ce c s 3 (L x h o)∧br (decide ((0:Int) < (h))) (R (rt (B true)) c) (∃ j,j < i∧g (i64.wrap (b + 1)) c j)) (Cp 106 [L e a d,I 20] c fun q u =>
 ∃ l,rB q l∧R (rt (B l)) u)))))→m f n)→(br (decide ((((a:Int)):Int)≤4096)) (m true w) (m (decide ((4100:Int) < ((a:Int)))) w))
theorem q8h {c b a R w} (h:q2q c b a R w):Calls prog qs7 ⟨[L c b a]⟩ w R:=qc Tryz.func55 (Eq.mpr (by kernel_rfl:fnV _ _ q4b _ _ _=_) h)
def q1e:Ann:=T F (T F (T F F))
def qy2  (R:EP) (w:World):Prop :=
 al w 45 [S [],L none 0 0] fun e k =>
 Cp 107 [S [60,115,101,99,32,111,110,101,47,62,100,101,60,97,100,100,32,49,62,117,115,60,47,97,100,100,62,60,115,101,99,32,116,119,111,47,62,101,116]] k fun j l =>
 ∃ g b a m,rV j (.tuple ⟨[L g b a,I m]⟩)∧(stL l e 0 [S [65],L g b a] fun f =>
 ∃ h,ce f e 0 (S h)∧∃ i d c,ce f e 1 (L i d c)∧R (rt (.agg ⟨[S h,L i d c]⟩)) f)
theorem q3q {R w} (h:qy2  R w):Calls prog qns ⟨[]⟩ w R:=qc Tryz.func56 (Eq.mpr (by kernel_rfl:fnV _ _ q1e _ _ _=_) h)
def qcc:Ann:=T F (T (T F (T (T F F) F)) (T (T F (.one (.loop 67100720 [(13,.one (.int .i64))] (T F (T (T F F) (T (.one (T F (T F (T (T F F) F)))) F)))))) (T F F)))
def qar (o:OA) (b:Nat) (s:Nat) (p:OA) (d:Nat) (t:Nat) (R:EP) (w:World):Prop :=
 br (decide ((((b:Int)):Int)≠((d:Int)))) (R (rt (B false)) w) (∃ (m:Int→World→Nat→Prop),(∃ u,m 0 w u)∧∀ a q r,m a q r→∀ _:Env,(br (decide ((a:Int) < ((b:Int)))) (drw q fun c =>
 idx o b a 3 fun n =>
 ∃ g,ce c n 0 (S g)∧∃ h,ce c n 1 (I h)∧∃ i,ce c n 2 (I i)∧idx p d a 3 fun e =>
 ∃ j,ce c e 0 (S j)∧∃ k,ce c e 1 (I k)∧∃ l,ce c e 2 (I l)∧br (!(decide (g=j)&&(decide (h=k)&&(decide (i=l)&&true)))) (R (rt (B false)) c) (∃ f,f < r∧m (i64.wrap (a + 1)) c f)) (R (rt (B true)) q)))
theorem qci {e b a f d c R w} (h:qar e b a f d c R w):Calls prog qav ⟨[L e b a,L f d c]⟩ w R:=qc Tryz.func57 (Eq.mpr (by kernel_rfl:fnV _ _ qcc _ _ _=_) h)
def qxa:Ann:=T F (T (T F (T (T F F) F)) (T (T F (T (T F F) F)) (T F F)))
def qwe (c:OA) (a:Nat) (b:Nat) (R:EP) (w:World):Prop :=
 br (decide ((32:Int) < ((a:Int)))) (R (rt (I 4)) w) (Cp 69 [L c a b,.func (.func 108) #[] #[]] w fun f d =>
 ∃ e,rB f e∧br e (R (rt (I 1)) d) (R (rt (I 0)) d))
theorem q0h {c b a R w} (h:qwe c b a R w):Calls prog qlk ⟨[L c b a]⟩ w R:=qc Tryz.func58 (Eq.mpr (by kernel_rfl:fnV _ _ qxa _ _ _=_) h)
def q3v:Ann:=T F (T (T F (T (T F F) F)) (T (T F (.one (.loop 524172 [(3,.one (.int .i64))] (T (T F (T F F)) (T (.one (T F (T (T F F) F))) F))))) (T F F)))
def q2a (k:OA) (a:Nat) (p:Nat) (R:EP) (w:World):Prop :=
 br (decide ((32:Int) < ((a:Int)))) (R (rt (I 4)) w) (∃ (i:Int→World→Nat→Prop),(∃ q,i 0 w q)∧∀ b c l,i b c l→∀ _:Env,(br (decide ((b:Int) < ((a:Int)))) (idx k a b 2 fun m =>
 ∃ n,ce c m 0 (S n)∧∃ o h g,ce c m 1 (L o h g)∧Cp 43 [.agg ⟨[S n,L o h g]⟩] c fun j e =>
 ∃ f,rI j f∧br (decide (f≠0)) (R (rt (I 1)) e) (∃ d,d < l∧i (i64.wrap (b + 1)) e d)) (R (rt (I 0)) c)))
theorem q73 {c b a R w} (h:q2a c b a R w):Calls prog qsu ⟨[L c b a]⟩ w R:=qc Tryz.func60 (Eq.mpr (by kernel_rfl:fnV _ _ q3v _ _ _=_) h)
def q36:Ann:=T F (T (T F (T (T F F) F)) (T F (T (T F (.one (.loop 67107056 [(4,.one (.slice)),(5,.one (.int .i64))] (T (T F (T F F)) (T (.one (T F (T F (T F F)))) F))))) (T F F))))
def q2l (h:OA) (f:Nat) (e:Nat) (R:EP) (w:World):Prop :=
 Cp 94 [L h f e] w fun A x =>
 ∃ z,rI A z∧(br (decide (z≠0)) (R (rt (.tuple ⟨[L none 0 0,I 1]⟩)) x) (∃ (g:OA→Nat→Nat→Int→World→Nat→Prop),(∃ s,g none 0 0 1 x s)∧∀ c b a d p o,g c b a d p o→∀ _:Env,(br (decide ((d:Int)≤8)) (Cp 110 [L h f e,I d] p fun r k =>
 ∃ l y,rV r (.tuple ⟨[B l,I y]⟩)∧br l (al k 3 [I d] fun t u =>
 app prog [74,74] 74 (L c b a) (.slice (some t) 1 1) u fun q n m v =>
 ∃ i,i < o∧g q n m (i64.wrap (d + 1)) v i) (∃ j,j < o∧g c b a (i64.wrap (d + 1)) k j)) (R (rt (.tuple ⟨[L c b a,I 0]⟩)) p))))
theorem q8d {c b a R w} (h:q2l c b a R w):Calls prog qs4 ⟨[L c b a]⟩ w R:=qc Tryz.func61 (Eq.mpr (by kernel_rfl:fnV _ _ q36 _ _ _=_) h)
def qw9:Ann:=T F (T F (T (T F (.one (.rf [2,3,6] 0))) (T F F)))
def qwd (o:OA) (m:Nat) (l:Nat) (R:EP) (w:World):Prop :=
 al w 31 [L none 0 0] fun n u =>
 Cp 91 [L o m l] u fun t v =>
 ∃ s j k,rV t (.func s j k)∧(∀ g:Env,RFw prog none 14 (cdAt Tryz.f62 [1,1,0,1,2]) (upd (upd (upd g 6 (.func s j k)) 3 (.pointer (some n))) 2 (L none 0 0)) [] v 0 (fun a b =>
 ∃ i f e,cf b n (L i f e)∧retD a b fun q =>
 R (rt (L i f e)) q) (fun a b =>
 retD a b fun r =>
 R (rt (L none 0 0)) r) (fun a b =>
 ∃ h d c,cf b n (L h d c)∧retD a b fun p =>
 R (rt (L h d c)) p))
theorem q0g {c b a R w} (h:qwd c b a R w):Calls prog qlj ⟨[L c b a]⟩ w R:=qc Tryz.func62 (Eq.mpr (by kernel_rfl:fnV _ _ qw9 _ _ _=_) h)
def qf7:Ann:=F
def qf4:Ann:=.one F
def qqp (u:OA) (o:Nat) (n:Nat) (a:OA) (v:Fn) (p:Array Value) (q:Array Value) (e:LU) (x:Value) (l:Nat) (Kn Kr Kx:World→World→Prop) (w:World):Prop :=
 Ext w w∧∀ b:World,Upd l w b→(dr a fun j =>
 ∃ f d c,cf b j (L f d c)∧al b 9 [S e] fun k r =>
 app prog [31,31] 31 (L f d c) (.slice (some k) 1 1) r fun i h g s =>
 dr a fun m =>
 stL s m 0 [L i h g] fun t =>
 Kn b t)
theorem qq7 (base:Env) (f:OA) (c:Nat) (b:Nat) (a:OA) (g:Fn) (d:Array Value) (e:Array Value) (h:LU) (i:Value) (l:Nat) (Kn Kr Kx:World→World→Prop) (w:World):fragV prog 14 qf7 qf4 (cdAt Tryz.f62 [1,1,0,1,2,5]) (cdAt Tryz.f62 [1,1,0,1,2,6]) l 0 Kn Kr Kx (updPs [7,8] [S h,i] (upd (upd (upd base 6 (.func g d e)) 3 (.pointer a)) 2 (L f c b))) w=qqp f c b a g d e h i l Kn Kr Kx w:=by kernel_rfl
theorem qrd:cdAt Tryz.f62 [1,1,0,1,2]=.rangeFunc (Operand.tmp 6) #[7,8] (cdAt Tryz.f62 [1,1,0,1,2,5]) (cdAt Tryz.f62 [1,1,0,1,2,6]):=by kernel_rfl
def qr4:Ann:=T F (T (T F (.one (.loop 34359736656 [(11,.one (.int .i64))] (T F (T (T F F) (T (.one (T F (T F (.one (.loop 17179738384 [(17,.one (.int .i64))] (T F (T (T F F) (T (.one (T F (T (T F (T F F)) (T F (T (T F F) F))))) F)))))))) F)))))) (T F F))
def qp7 (e:LU) (x:OA) (y:OA) (R:EP) (w:World):Prop :=
 dr x fun I =>
 ∃ G k H,cf w I (L G k H)∧(∃ (l:Int→World→Nat→Prop),(∃ A,l 0 w A)∧∀ b m v,l b m v→∀ _:Env,(br (decide ((b:Int) < (k))) (idx G k b 1 fun D =>
 ∃ h d i,cf m D (L h d i)∧∃ (f:Int→World→Nat→Prop),(∃ C,f 0 m C)∧∀ a c g,f a c g→∀ _:Env,(br (decide ((a:Int) < (d))) (idx h d a 1 fun E =>
 ∃ j,cf c E (S j)∧br (decide (j=e)) (∃ n,n < v∧l (i64.wrap (b + 1)) c n) (dr y fun F =>
 ∃ s,cf c F (s)∧∃ t,lkAt prog 95 s (S j) c (B t)∧br (!t) (Cp 34 [L h d i,S e] c fun z r =>
 ∃ u,rB z u∧br u (R (rt (B false)) r) (∃ o,o < g∧f (i64.wrap (a + 1)) r o)) (∃ p,p < g∧f (i64.wrap (a + 1)) c p))) (∃ q,q < v∧l (i64.wrap (b + 1)) c q))) (R (rt (B true)) m)))
theorem qul {a b c R w} (h:qp7 a b c R w):Calls prog qid ⟨[S a,.pointer b,.pointer c]⟩ w R:=qc Tryz.func63 (Eq.mpr (by kernel_rfl:fnV _ _ qr4 _ _ _=_) h)
def qr3:Ann:=T F (T (T F (.one (.loop 8589932888 [(11,.one (.int .i64))] (T F (T (T F F) (T (.one (T F (T F (.one (.loop 4294836504 [(17,.one (.int .i64))] (T F (T (T F F) (T (.one (T F (T F (T (T F F) F)))) F)))))))) F)))))) (T F F))
def qp6 (v:OA) (x:OA) (y:OA) (R:EP) (w:World):Prop :=
 dr v fun M =>
 ∃ J j K,cf w M (L J j K)∧(∃ (u:Int→World→Nat→Prop),(∃ C,u 0 w C)∧∀ c k E,u c k E→∀ _:Env,(br (decide ((c:Int) < (j))) (idx J j c 1 fun F =>
 ∃ p d z,cf k F (L p d z)∧∃ (e:Int→World→Nat→Prop),(∃ D,e 0 k D)∧∀ a b g,e a b g→∀ _:Env,(br (decide ((a:Int) < (d))) (idx p d a 1 fun G =>
 ∃ f,cf b G (S f)∧dr x fun H =>
 ∃ q,cf b H (q)∧∃ r,lkAt prog 95 q (S f) b (B r)∧br (!r) (dr y fun I =>
 ∃ s h i,cf b I (.func s h i)∧CallV prog (.func s h i) [S f] b fun A o =>
 ∃ t,rB A t∧br t (R (rt (.tuple ⟨[S f,B true]⟩)) o) (∃ l,l < g∧e (i64.wrap (a + 1)) o l)) (∃ m,m < g∧e (i64.wrap (a + 1)) b m)) (∃ n,n < E∧u (i64.wrap (c + 1)) b n))) (R (rt (.tuple ⟨[S [],B false]⟩)) k)))
theorem quk {a b c R w} (h:qp6 a b c R w):Calls prog qic ⟨[.pointer a,.pointer b,.pointer c]⟩ w R:=qc Tryz.func64 (Eq.mpr (by kernel_rfl:fnV _ _ qr3 _ _ _=_) h)
def q3u:Ann:=T F (T F (T (T F (.one (.loop 67108824 [(3,.one (.slice)),(4,.one (.int .i64))] (T (T F (T F F)) (T (.one (T F (T F F))) F))))) (T F F)))
def q19 (h:OA) (e:Nat) (v:Nat) (R:EP) (w:World):Prop :=
 al w 9 [] fun y z =>
 ∃ (g:OA→Nat→Nat→Int→World→Nat→Prop),(∃ x,g (some y) 0 0 0 z x)∧∀ c b a d f o,g c b a d f o→∀ _:Env,(br (decide ((d:Int) < ((e:Int)))) (idx h e d 4 fun q =>
 ∃ k,ce f q 0 (I k)∧br (decide (k=4)) (idx h e d 4 fun r =>
 ∃ l,ce f r 1 (S l)∧al f 9 [S l] fun s t =>
 app prog [31,31] 31 (L c b a) (.slice (some s) 1 1) t fun p n m u =>
 ∃ i,i < o∧g p n m (i64.wrap (d + 1)) u i) (∃ j,j < o∧g c b a (i64.wrap (d + 1)) f j)) (R (rt (L c b a)) f))
theorem q72 {c b a R w} (h:q19 c b a R w):Calls prog qst ⟨[L c b a]⟩ w R:=qc Tryz.func65 (Eq.mpr (by kernel_rfl:fnV _ _ q3u _ _ _=_) h)
def q3t:Ann:=T F (T (T F (.one (.loop 524272 [(5,.one (.int .i64))] (T (T F (T F F)) (T (.one (T F (T (T F F) F))) F))))) (T F F))
def q18 (f:OA) (b:Nat) (j:Nat) (h:LU) (R:EP) (w:World):Prop :=
 ∃ (e:Int→World→Nat→Prop),(∃ k,e 0 w k)∧∀ a c g,e a c g→∀ _:Env,(br (decide ((a:Int) < ((b:Int)))) (idx f b a 1 fun l =>
 ∃ i,cf c l (S i)∧br (decide (i=h)) (R (rt (I a)) c) (∃ d,d < g∧e (i64.wrap (a + 1)) c d)) (R (rt (.int .i64 ((-1)))) c))
theorem q71 {c b a d R w} (h:q18 c b a d R w):Calls prog qss ⟨[L c b a,S d]⟩ w R:=qc Tryz.func66 (Eq.mpr (by kernel_rfl:fnV _ _ q3t _ _ _=_) h)
def q8x:Ann:=T F (T (T F (.one (.loop 274877906880 [(7,.one (.int .i64))] (T (T F (T F F)) (T (.one (T F (T F (T F (.one (.loop 274810799168 [(10,.one (.int .i64))] (T (T F (T F F)) (T (.one (T F (T (T F F) F))) F)))))))) F))))) (T F F))
def q6l (C:OA) (i:Nat) (J:Nat) (g:OA) (c:Nat) (b:Nat) (G:LU) (R:EP) (w:World):Prop :=
 ∃ (x:Int→World→Nat→Prop),(∃ K,x 0 w K)∧∀ e n E,x e n E→∀ _:Env,(br (decide ((e:Int) < ((i:Int)))) (idx C i e 2 fun M =>
 ∃ s k j,ce n M 1 (L s k j)∧Cp 65 [L s k j] n fun y H =>
 ∃ l d m,rV y (L l d m)∧Cp 66 [L l d m,S G] H fun z I =>
 ∃ t,rI z t∧∃ (h:Int→World→Nat→Prop),(∃ D,h 0 I D)∧∀ a f o,h a f o→∀ _:Env,(br (decide ((a:Int) < t)) (idx l d a 1 fun F =>
 ∃ u,cf f F (S u)∧Cp 66 [L g c b,S u] f fun A r =>
 ∃ v,rI A v∧br (decide (v < 0)) (R (rt (B false)) r) (∃ p,p < o∧h (i64.wrap (a + 1)) r p)) (∃ q,q < E∧x (i64.wrap (e + 1)) f q))) (R (rt (B true)) n))
theorem c_ref16_free {f e d c b a g R w} (h:q6l f e d c b a g R w):Calls prog qvy ⟨[L f e d,L c b a,S g]⟩ w R:=qc Tryz.func67 (Eq.mpr (by kernel_rfl:fnV _ _ q8x _ _ _=_) h)
def q06:Ann:=T F (.cut 2089152 [] (T F (T (T F F) F)) (.cut 534773952 [] (T F (T (T F F) F)) (T (T F (T (T F F) F)) (T F (T (T F (T (T F F) F)) (T F (T (T F (T F (T (T F F) F))) (T F F))))))))
def qyt (g:LU) (h:Int) (t:OA) (k:Nat) (j:Nat) (c:OA) (b:Nat) (a:Nat) (R:EP) (w:World):Prop :=
 al w 51 [S g,I h] fun l a7 =>
 ∀ (T:WP),(∀ (i:World),(∀ _:Env,(∀ (U:WP),(∀ (m:World),(∀ _:Env,(∃ z,ce m l 0 (S z)∧Cp 112 [S z] m fun V f =>
 ∃ A,rB V A∧br (!A) (R (rt (.tuple ⟨[L none 0 0,I 14]⟩)) f) (∃ C,ce f l 0 (S C)∧∃ D,ce f l 1 (I D)∧Cp 113 [.agg ⟨[S C,I D]⟩,L t k j,B false,S []] f fun W a3 =>
 ∃ E o n F G H,rV W (.tuple ⟨[L E o n,.agg ⟨[S F,I G]⟩,B H]⟩)∧al a3 51 [S [],I 0] fun a2 a4 =>
 stL a4 a2 0 [S F,I G] fun u =>
 br H (R (rt (.tuple ⟨[L none 0 0,I 13]⟩)) u) (Cp 114 [L E o n] u fun X a5 =>
 ∃ p e d,rV X (L p e d)∧Cp 115 [L p e d] a5 fun Y v =>
 ∃ q,rI Y q∧br (decide (q≠0)) (R (rt (.tuple ⟨[L none 0 0,I q]⟩)) v) (Cp 116 [L c b a,L p e d] v fun Z a6 =>
 ∃ J s r K,rV Z (.tuple ⟨[L J s r,I K]⟩)∧R (rt (.tuple ⟨[L J s r,I K]⟩)) a6)))))→U m)→(∃ M,ce i l 1 (I M)∧br (decide (M < 0)) (R (rt (.tuple ⟨[L none 0 0,I 2]⟩)) i) (∃ N,ce i l 1 (I N)∧br (decide ((4096:Int) < N)) (R (rt (.tuple ⟨[L none 0 0,I 2]⟩)) i) (U i)))))→T i)→(Cp 94 [L t k j] a7 fun a0 x =>
 ∃ O,rI a0 O∧br (decide (O≠0)) (R (rt (.tuple ⟨[L none 0 0,I 1]⟩)) x) (Cp 111 [L c b a] x fun a1 y =>
 ∃ Q,rI a1 Q∧br (decide (Q≠0)) (R (rt (.tuple ⟨[L none 0 0,I 1]⟩)) y) (T y)))
theorem q3i {d e i g f c b a R w} (h:qyt d e i g f c b a R w):Calls prog qnl ⟨[.agg ⟨[S d,I e]⟩,L i g f,L c b a]⟩ w R:=qc Tryz.func68 (Eq.mpr (by kernel_rfl:fnV _ _ q06 _ _ _=_) h)
def an_slices_ContainsFunc_of_api_Witness_api_Witness:Ann:=T F (T F F)
def sh_slices_ContainsFunc_of_api_Witness_api_Witness (f:OA) (d:Nat) (c:Nat) (e:Fn) (a:Array Value) (b:Array Value) (R:EP) (w:World):Prop :=
 Cp 117 [L f d c,.func e a b] w fun h i =>
 ∃ g,rI h g∧(R (rt (.bool (decide ((0:Int)≤g)))) i)
theorem c_slices_ContainsFunc_of_api_Witness_api_Witness {f d c e a b R w} (h:sh_slices_ContainsFunc_of_api_Witness_api_Witness f d c e a b R w):Calls prog F_slices_ContainsFunc_of_api_Witness_api_Witness ⟨[L f d c,.func e a b]⟩ w R:=qc Tryz.func69 (Eq.mpr (by kernel_rfl:fnV _ _ an_slices_ContainsFunc_of_api_Witness_api_Witness _ _ _=_) h)
def qpi:Ann:=T F (T F (T F (T (T F (.one (.rf [0,2,4,10] 0))) (T (T F (.one (.rf [0,2,28] 0))) (T (T F (T (T F F) F)) (T F F))))))
def qn8 (d:OA) (b:Nat) (a:Nat) (R:EP) (w:World):Prop :=
 al w 28 [I 0] fun c a8 =>
 al a8 3 [I 0] fun Z a9 =>
 stL a9 Z 0 [I 4096] fun b0 =>
 al b0 26 [.nilFunc] fun a0 b1 =>
 stL b1 a0 0 [.func (.func 118) ⟨[]⟩ ⟨[.pointer (some Z)]⟩] fun b2 =>
 Cp 119 [L d b a] b2 fun U a1 =>
 ∃ D n o,rV U (.func D n o)∧(∀ k:Env,RFw prog none 39 (cdAt Tryz.f71 [1,1,1,0,1,2]) (upd (upd (upd (upd k 10 (.func D n o)) 4 (.pointer (some a0))) 2 (.pointer (some c))) 0 (L d b a)) [] a1 0 (fun e h =>
 Cp 119 [L d b a] h fun X a5 =>
 ∃ K r s,rV X (.func K r s)∧∀ m:Env,RFw prog none 39 (cdAt Tryz.f71 [1,1,1,1,0,1,2]) (upd (upd (upd m 28 (.func K r s)) 2 (.pointer (some c))) 0 (L d b a)) e a5 0 (fun g j =>
 Cp 121 [L d b a] j fun Y y =>
 ∃ M,rV Y (S M)∧br (decide ((65536:Int) < ((List.length M:Int)))) (stL y c 0 [I 4] fun a6 =>
 retD g a6 fun z =>
 ∃ N,cf z c (I N)∧R (rt (I N)) z) (stL y c 0 [I 0] fun a7 =>
 retD g a7 fun A =>
 ∃ O,cf A c (I O)∧R (rt (I O)) A)) (fun g j =>
 retD g j fun B =>
 ∃ Q,cf B c (I Q)∧R (rt (I Q)) B) (fun g j =>
 False)) (fun e h =>
 retD e h fun C =>
 ∃ T,cf C c (I T)∧R (rt (I T)) C) (fun e h =>
 Cp 119 [L d b a] h fun V a2 =>
 ∃ E p q,rV V (.func E p q)∧∀ l:Env,RFw prog none 39 (cdAt Tryz.f71 [1,1,1,1,0,1,2]) (upd (upd (upd l 28 (.func E p q)) 2 (.pointer (some c))) 0 (L d b a)) e a2 0 (fun f i =>
 Cp 121 [L d b a] i fun W t =>
 ∃ F,rV W (S F)∧br (decide ((65536:Int) < ((List.length F:Int)))) (stL t c 0 [I 4] fun a3 =>
 retD f a3 fun u =>
 ∃ G,cf u c (I G)∧R (rt (I G)) u) (stL t c 0 [I 0] fun a4 =>
 retD f a4 fun v =>
 ∃ H,cf v c (I H)∧R (rt (I H)) v)) (fun f i =>
 retD f i fun x =>
 ∃ J,cf x c (I J)∧R (rt (I J)) x) (fun f i =>
 False)))
theorem qrm {c b a R w} (h:qn8 c b a R w):Calls prog qg4 ⟨[L c b a]⟩ w R:=qc Tryz.func71 (Eq.mpr (by kernel_rfl:fnV _ _ qpi _ _ _=_) h)
def qeg:Ann:=F
def qec:Ann:=.one (T F (T (T F F) F))
def qke (N:OA) (M:Nat) (K:Nat) (d:OA) (c:OA) (E:Fn) (x:Array Value) (y:Array Value) (h:Int) (i:LU) (j:Int) (k:OA) (f:Nat) (e:Nat) (m:Int) (n:Bool) (l:Nat) (Kn Kr Kx:World→World→Prop) (w:World):Prop :=
 al w 159 [I 0,S [],I 0,L none 0 0,I 0,B false] fun g F =>
 stL F g 0 [I h,S i,I j,L k f e,I m,B n] fun r =>
 Ext w r∧∀ a:World,Upd l r a→(dr c fun A =>
 ∃ s o p,cf a A (.func s o p)∧CallV prog (.func s o p) [] a fun z b =>
 ∃ t,rB z t∧br (!t) (dr d fun C =>
 stL b C 0 [I 4] fun G =>
 Kr a G) (∃ u,ce b g 4 (I u)∧br (decide ((16:Int)≤u)) (∃ J q v,b.cell? ((g.add 0).add 3)=some (L J q v)∧br (decide ((0:Int) < (q))) (dr d fun D =>
 stL b D 0 [I 4] fun H =>
 Kr a H) (Kn a b)) (Kn a b)))
theorem qkr (base:Env) (q:OA) (o:Nat) (n:Nat) (p:OA) (a:OA) (f:Fn) (b:Array Value) (c:Array Value) (g:Int) (h:LU) (i:Int) (j:OA) (e:Nat) (d:Nat) (k:Int) (m:Bool) (l:Nat) (Kn Kr Kx:World→World→Prop) (w:World):fragV prog 39 qeg qec (cdAt Tryz.f71 [1,1,1,0,1,2,5]) (cdAt Tryz.f71 [1,1,1,0,1,2,6]) l 0 Kn Kr Kx (updPs [11] [.agg ⟨[I g,S h,I i,L j e d,I k,B m]⟩] (upd (upd (upd (upd base 10 (.func f b c)) 4 (.pointer a)) 2 (.pointer p)) 0 (L q o n))) w=qke q o n p a f b c g h i j e d k m l Kn Kr Kx w:=by kernel_rfl
theorem qk1:cdAt Tryz.f71 [1,1,1,0,1,2]=.rangeFunc (Operand.tmp 10) #[11] (cdAt Tryz.f71 [1,1,1,0,1,2,5]) (cdAt Tryz.f71 [1,1,1,0,1,2,6]):=by kernel_rfl
def qef:Ann:=F
def qeb:Ann:=.one (T F (T F (T (T F F) F)))
def qkd (J:OA) (H:Nat) (G:Nat) (o:OA) (D:Fn) (z:Array Value) (A:Array Value) (e:Int) (f:LU) (g:Int) (h:OA) (d:Nat) (c:Nat) (i:Int) (j:Bool) (l:Nat) (Kn Kr Kx:World→World→Prop) (w:World):Prop :=
 al w 159 [I 0,S [],I 0,L none 0 0,I 0,B false] fun b E =>
 stL E b 0 [I e,S f,I g,L h d c,I i,B j] fun p =>
 Ext w p∧∀ a:World,Upd l p a→(∃ r,ce a b 0 (I r)∧∃ s,ce a b 1 (S s)∧∃ t,ce a b 2 (I t)∧∃ u m k,ce a b 3 (L u m k)∧∃ v,ce a b 4 (I v)∧∃ x,ce a b 5 (B x)∧Cp 120 [.agg ⟨[I r,S s,I t,L u m k,I v,B x]⟩] a fun C q =>
 ∃ n,rI C n∧br (decide (n≠0)) (dr o fun y =>
 stL q y 0 [I n] fun F =>
 Kr a F) (Kn a q))
theorem qkq (base:Env) (p:OA) (n:Nat) (m:Nat) (o:OA) (e:Fn) (a:Array Value) (b:Array Value) (f:Int) (g:LU) (h:Int) (i:OA) (d:Nat) (c:Nat) (j:Int) (k:Bool) (l:Nat) (Kn Kr Kx:World→World→Prop) (w:World):fragV prog 39 qef qeb (cdAt Tryz.f71 [1,1,1,1,0,1,2,5]) (cdAt Tryz.f71 [1,1,1,1,0,1,2,6]) l 0 Kn Kr Kx (updPs [29] [.agg ⟨[I f,S g,I h,L i d c,I j,B k]⟩] (upd (upd (upd base 28 (.func e a b)) 2 (.pointer o)) 0 (L p n m))) w=qkd p n m o e a b f g h i d c j k l Kn Kr Kx w:=by kernel_rfl
theorem qk0:cdAt Tryz.f71 [1,1,1,1,0,1,2]=.rangeFunc (Operand.tmp 28) #[29] (cdAt Tryz.f71 [1,1,1,1,0,1,2,5]) (cdAt Tryz.f71 [1,1,1,1,0,1,2,6]):=by kernel_rfl
def qu9:Ann:=T F (T F F)
def qtu (f:OA) (e:Nat) (d:Nat) (a:Int) (R:EP) (w:World):Prop :=
 al w 3 [I a] fun i j =>
 Cp 122 [L f e d,.func (.func 123) ⟨[]⟩ ⟨[.pointer (some i)]⟩] j fun h k =>
 ∃ g c b,rV h (L g c b)∧(R (rt (L g c b)) k)
theorem qji {d c b a R w} (h:qtu d c b a R w):Calls prog qfc ⟨[L d c b,I a]⟩ w R:=qc Tryz.func72 (Eq.mpr (by kernel_rfl:fnV _ _ qu9 _ _ _=_) h)
def q0y:Ann:=T F (T (T F (.one (.rf [2,3,4,5,6,11] 0))) (T F F))
def qyl (T:OA) (O:Nat) (N:Nat) (d:LU) (R:EP) (w:World):Prop :=
 al w 43 [L T O N] fun U a4 =>
 al a4 9 [S d] fun a3 a5 =>
 al a5 43 [L none 0 0] fun i a6 =>
 al a6 51 [S [],I 0] fun c V =>
 al V 4 [B false] fun b u =>
 ∃ v l k,cf u U (L v l k)∧(Cp 91 [L v l k] u fun Q W =>
 ∃ x m n,rV Q (.func x m n)∧∀ j:Env,RFw prog none 44 (cdAt Tryz.f73 [1,0,1,2]) (upd (upd (upd (upd (upd (upd j 11 (.func x m n)) 6 (.pointer (some b))) 5 (.pointer (some c))) 4 (.pointer (some i))) 3 (.pointer (some a3))) 2 (.pointer (some U))) [] W 0 (fun a e =>
 stL e i 0 [L none 0 0] fun a0 =>
 stL a0 c 0 [S [],I 0] fun a1 =>
 stL a1 b 0 [B false] fun a2 =>
 retD a a2 fun g =>
 ∃ D r q,cf g i (L D r q)∧∃ E,ce g c 0 (S E)∧∃ F,ce g c 1 (I F)∧∃ G,cf g b (B G)∧R (rt (.tuple ⟨[L D r q,.agg ⟨[S E,I F]⟩,B G]⟩)) g) (fun a e =>
 retD a e fun h =>
 ∃ H t s,cf h i (L H t s)∧∃ J,ce h c 0 (S J)∧∃ K,ce h c 1 (I K)∧∃ M,cf h b (B M)∧R (rt (.tuple ⟨[L H t s,.agg ⟨[S J,I K]⟩,B M]⟩)) h) (fun a e =>
 stL e i 0 [L none 0 0] fun X =>
 stL X c 0 [S [],I 0] fun Y =>
 stL Y b 0 [B false] fun Z =>
 retD a Z fun f =>
 ∃ y p o,cf f i (L y p o)∧∃ z,ce f c 0 (S z)∧∃ A,ce f c 1 (I A)∧∃ C,cf f b (B C)∧R (rt (.tuple ⟨[L y p o,.agg ⟨[S z,I A]⟩,B C]⟩)) f))
theorem q3a {d c b a R w} (h:qyl d c b a R w):Calls prog qnd ⟨[L d c b,S a]⟩ w R:=qc Tryz.func73 (Eq.mpr (by kernel_rfl:fnV _ _ q0y _ _ _=_) h)
def qgv:Ann:=T F F
def qgt:Ann:=.one (T (T F (T F F)) (T F (.cut 8589410816 [(9,.one (.int .i64))] (.one (.loop 8589410816 [(9,.one (.int .i64))] (T (T F (T F F)) (.one F)))) (T (.one F) F))))
def qty (d:OA) (g:OA) (h:OA) (i:OA) (j:OA) (c1:Fn) (a1:Array Value) (a2:Array Value) (q:LU) (b:Int) (l:Nat) (Kn Kr Kx:World→World→Prop) (w:World):Prop :=
 Ext w w∧∀ e:World,Upd l w e→(dr g fun a8 =>
 ∃ D,cf e a8 (S D)∧br (decide ((q:LU)≠D)) (Kn e e) (∀ (n:Int→World→Prop),(∀ (c:Int) (A:World),(∀ _:Env,(drw A fun k =>
 dr d fun a9 =>
 ∃ E W r,cf k a9 (L E W r)∧sls E r 0 b 4 fun x p o =>
 (dr d fun b0 =>
 ∃ F X s,cf k b0 (L F X s)∧sls F s (i64.wrap (b + 1)) c 4 fun a3 T Q =>
 (Cp 125 [.agg ⟨[S [],I 0]⟩,L x p o] k fun a5 c2 =>
 ∃ G H,rV a5 (.agg ⟨[S G,I H]⟩)∧((dr h fun b1 =>
 stL c2 b1 0 [L a3 T Q] fun c3 =>
 (dr i fun b2 =>
 stL c3 b2 0 [S G,I H] fun c4 =>
 (dr j fun b3 =>
 stL c4 b3 0 [B true] fun c5 =>
 Kr e c5)∧True)∧True)∧True))∧True)∧(Cp 125 [.agg ⟨[S [],I 0]⟩,L x p o] k fun a6 C =>
 ∃ J K,rV a6 (.agg ⟨[S J,I K]⟩)∧dr d fun b4 =>
 ∃ M Y t,cf C b4 (L M Y t)∧sls M t (i64.wrap (b + 1)) c 4 fun a4 V U =>
 (dr h fun b5 =>
 stL C b5 0 [L a4 V U] fun c6 =>
 (dr i fun b6 =>
 stL c6 b6 0 [S J,I K] fun c7 =>
 (dr j fun b7 =>
 stL c7 b7 0 [B true] fun c8 =>
 Kr e c8)∧True)∧True)∧True)∧True))→n c A)→(∃ (m:Int→World→Nat→Prop),(∃ a7,m (i64.wrap (b + 1)) e a7)∧∀ a f y,m a f y→∀ _:Env,(dr d fun b8 =>
 ∃ c9 u Z,cf f b8 (L c9 u Z)∧br (decide ((a:Int) < (u))) (dr d fun b9 =>
 ∃ N v a0,cf f b9 (L N v a0)∧idx N v a 4 fun c0 =>
 ∃ O,ce f c0 0 (I O)∧br (decide (O≠4)) (∃ z,z < y∧m (i64.wrap (a + 1)) f z) (n a f)) (n a f)))))
theorem qt9 (base:Env) (j:OA) (a:OA) (g:OA) (h:OA) (i:OA) (d:Fn) (b:Array Value) (c:Array Value) (e:LU) (f:Int) (l:Nat) (Kn Kr Kx:World→World→Prop) (w:World):fragV prog 44 qgv qgt (cdAt Tryz.f73 [1,0,1,2,5]) (cdAt Tryz.f73 [1,0,1,2,6]) l 0 Kn Kr Kx (updPs [12,13] [S e,I f] (upd (upd (upd (upd (upd (upd base 11 (.func d b c)) 6 (.pointer i)) 5 (.pointer h)) 4 (.pointer g)) 3 (.pointer a)) 2 (.pointer j))) w=qty j a g h i d b c e f l Kn Kr Kx w:=by kernel_rfl
theorem qug:cdAt Tryz.f73 [1,0,1,2]=.rangeFunc (Operand.tmp 11) #[12,13] (cdAt Tryz.f73 [1,0,1,2,5]) (cdAt Tryz.f73 [1,0,1,2,6]):=by kernel_rfl
def qcr:Ann:=T F (T (T F (T (T F F) F)) (T F F))
def qcq (a:OA) (c:Nat) (b:Nat) (R:EP) (w:World):Prop :=
 br (Option.isNone a) (R (rt (L none 0 0)) w) (al w 56 [] fun g h =>
 app prog [43,43] 43 (.slice (some g) 0 0) (L a c b) h fun f e d i =>
 R (rt (L f e d)) i)
theorem qc0 {c b a R w} (h:qcq c b a R w):Calls prog qa7 ⟨[L c b a]⟩ w R:=qc Tryz.func74 (Eq.mpr (by kernel_rfl:fnV _ _ qcr _ _ _=_) h)
def qat:Ann:=T F (T (T F (T (T F F) F)) (T (T F (.one (.loop 4294837184 [(17,.one (.int .i64))] (T F (T (T F F) (T (.one (T F (T F (T F (T (T F F) F))))) F)))))) (T F F)))
def qas (W:OA) (c:Nat) (a2:Nat) (X:OA) (i:Nat) (a3:Nat) (V:Fn) (r:Array Value) (s:Array Value) (R:EP) (w:World):Prop :=
 br (decide ((((c:Int)):Int)≠((i:Int)))) (R (rt (B false)) w) (∃ (U:Int→World→Nat→Prop),(∃ a4,U 0 w a4)∧∀ a g Z,U a g Z→∀ _:Env,(br (decide ((a:Int) < ((c:Int)))) (idx W c a 4 fun t =>
 ∃ x,ce g t 0 (I x)∧∃ y,ce g t 1 (S y)∧∃ z,ce g t 2 (I z)∧∃ A k j,ce g t 3 (L A k j)∧al g 56 [I 0,S [],I 0,L none 0 0] fun d a0 =>
 stL a0 d 0 [I x,S y,I z,L A k j] fun f =>
 idx X i a 4 fun h =>
 ∃ C,ce f h 0 (I C)∧∃ D,ce f h 1 (S D)∧∃ E,ce f h 2 (I E)∧∃ F m l,ce f h 3 (L F m l)∧al f 56 [I 0,S [],I 0,L none 0 0] fun e a1 =>
 stL a1 e 0 [I C,S D,I E,L F m l] fun b =>
 ∃ G,ce b d 0 (I G)∧∃ H,ce b d 1 (S H)∧∃ J,ce b d 2 (I J)∧∃ K o n,ce b d 3 (L K o n)∧∃ M,ce b e 0 (I M)∧∃ N,ce b e 1 (S N)∧∃ O,ce b e 2 (I O)∧∃ Q q p,ce b e 3 (L Q q p)∧CallV prog (.func V r s) [.agg ⟨[I G,S H,I J,L K o n]⟩,.agg ⟨[I M,S N,I O,L Q q p]⟩] b fun Y v =>
 ∃ T,rB Y T∧br (!T) (R (rt (B false)) v) (∃ u,u < Z∧U (i64.wrap (a + 1)) v u)) (R (rt (B true)) g)))
theorem qau {i d c j f e g a b R w} (h:qas i d c j f e g a b R w):Calls prog qaw ⟨[L i d c,L j f e,.func g a b]⟩ w R:=qc Tryz.func75 (Eq.mpr (by kernel_rfl:fnV _ _ qat _ _ _=_) h)
def qmy:Ann:=T F (T F F)
def qmm (y:Int) (z:LU) (A:Int) (C:OA) (r:Nat) (q:Nat) (D:Int) (E:LU) (F:Int) (G:OA) (t:Nat) (s:Nat) (R:EP) (w:World):Prop :=
 al w 56 [I y,S z,I A,L C r q] fun g v =>
 al v 56 [I D,S E,I F,L G t s] fun b a =>
 ∃ h,ce a g 0 (I h)∧(∃ i,ce a b 0 (I i)∧br (decide (h=i)) (∃ j,ce a g 1 (S j)∧∃ k,ce a b 1 (S k)∧br (decide (j=k)) (∃ l,ce a g 2 (I l)∧∃ m,ce a b 2 (I m)∧br (decide (l=m)) (∃ n d c,ce a g 3 (L n d c)∧∃ o f e,ce a b 3 (L o f e)∧Cp 32 [L n d c,L o f e] a fun u x =>
 ∃ p,rB u p∧R (rt (B p)) x) (R (rt (B false)) a)) (R (rt (B false)) a)) (R (rt (B false)) a))
theorem qo3 {e f g i b a j k l m d c R w} (h:qmm e f g i b a j k l m d c R w):Calls prog qgc ⟨[.agg ⟨[I e,S f,I g,L i b a]⟩,.agg ⟨[I j,S k,I l,L m d c]⟩]⟩ w R:=qc Tryz.func76 (Eq.mpr (by kernel_rfl:fnV _ _ qmy _ _ _=_) h)
def qse:Ann:=T F (T (T F (T (T F F) F)) (T (T F (.one (.loop 2095156 [(11,.one (.int .i64))] (T F (T (T F F) (T (.one (T F (T F (T F (T (T F F) F))))) F)))))) (T F F)))
def qqh (c:OA) (a:Nat) (m:Nat) (R:EP) (w:World):Prop :=
 br (decide ((64:Int) < ((a:Int)))) (R (rt (I 4)) w) (∃ (l:Int→World→Nat→Prop),(∃ t,l 0 w t)∧∀ b f o,l b f o→∀ _:Env,(br (decide ((b:Int) < ((a:Int)))) (idx c a b 2 fun p =>
 ∃ r,ce f p 0 (S r)∧∃ s,ce f p 1 (S s)∧al f 91 [S [],S []] fun d q =>
 stL q d 0 [S r,S s] fun e =>
 ∃ j,ce e d 0 (S j)∧∃ k,ce e d 1 (S k)∧Cp 126 [.agg ⟨[S j,S k]⟩] e fun n i =>
 ∃ g,rI n g∧br (decide (g≠0)) (R (rt (I g)) i) (∃ h,h < o∧l (i64.wrap (b + 1)) i h)) (R (rt (I 0)) f)))
theorem quw {c b a R w} (h:qqh c b a R w):Calls prog qim ⟨[L c b a]⟩ w R:=qc Tryz.func77 (Eq.mpr (by kernel_rfl:fnV _ _ qse _ _ _=_) h)
def qr7:Ann:=T F (T F F)
def qqa (a:LU) (R:EP) (w:World):Prop :=
 br (decide ((a:LU)=([]))) (R (rt (B true)) w) (Cp 90 [S a] w fun c d =>
 ∃ b,rB c b∧R (rt (B b)) d)
theorem qup {a R w} (h:qqa a R w):Calls prog qif ⟨[S a]⟩ w R:=qc Tryz.func78 (Eq.mpr (by kernel_rfl:fnV _ _ qr7 _ _ _=_) h)
def qph:Ann:=T F (T (T F (T (T F F) F)) (.cut 129072 [(4,.one (.int .i64)),(5,.one (.int .i64))] (T F (T (T F F) F)) (T F (T (T F (.one (.rf [3,4,5,6,18] 0))) (T F F)))))
def qn7 (m:OA) (j:Nat) (i:Nat) (h:Int) (R:EP) (w:World):Prop :=
 al w 3 [I h] fun t F =>
 Cp 71 [L m j i] F fun E f =>
 ∃ D,rI E D∧(br (decide (D≠0)) (R (rt (.tuple ⟨[I 0,I 1]⟩)) f) (∀ (u:Int→Int→World→Prop),(∀ (d:Int) (c:Int) (n:World),(∀ _:Env,(al n 3 [I 0] fun e x =>
 stL x e 0 [I 0] fun y =>
 Cp 119 [L m j i] y fun v z =>
 ∃ o k l,rV v (.func o k l)∧∀ g:Env,RFw prog none 28 (cdAt Tryz.f79 [1,1,1,1,0,1,2]) (upd (upd (upd (upd (upd g 18 (.func o k l)) 6 (.pointer (some e))) 5 (I c)) 4 (I d)) 3 (.pointer (some t))) [] z 0 (fun a b =>
 ∃ q,cf b e (I q)∧retD a b fun B =>
 R (rt (.tuple ⟨[I q,I 0]⟩)) B) (fun a b =>
 retD a b fun C =>
 R (rt (.tuple ⟨[I d,I c]⟩)) C) (fun a b =>
 ∃ p,cf b e (I p)∧retD a b fun A =>
 R (rt (.tuple ⟨[I p,I 0]⟩)) A)))→u d c n)→(∃ r,cf f t (I r)∧br (decide (r < 1)) (R (rt (.tuple ⟨[I 0,I 8]⟩)) f) (∃ s,cf f t (I s)∧br (decide ((11:Int) < s)) (R (rt (.tuple ⟨[I 0,I 8]⟩)) f) (u 0 0 f)))))
theorem qrl {d c b a R w} (h:qn7 d c b a R w):Calls prog qg3 ⟨[L d c b,I a]⟩ w R:=qc Tryz.func79 (Eq.mpr (by kernel_rfl:fnV _ _ qph _ _ _=_) h)
def qee:Ann:=F
def qea:Ann:=.one (T F (T F F))
def qkc (b:OA) (A:Int) (C:Int) (e:OA) (x:Fn) (r:Array Value) (s:Array Value) (f:Int) (g:LU) (h:Int) (i:OA) (d:Nat) (c:Nat) (j:Int) (k:Bool) (l:Nat) (Kn Kr Kx:World→World→Prop) (w:World):Prop :=
 al w 159 [I 0,S [],I 0,L none 0 0,I 0,B false] fun m y =>
 stL y m 0 [I f,S g,I h,L i d c,I j,B k] fun n =>
 Ext w n∧∀ a:World,Upd l n a→(∃ o,a.cell? ((m.add 0).add 0)=some (I o)∧dr b fun t =>
 ∃ p,cf a t (I p)∧br (decide (o=p)) (dr e fun u =>
 ∃ q,cf a u (I q)∧dr e fun v =>
 stL a v 0 [.int .i64 (i64.wrap (q + 1))] fun z =>
 Kn a z) (Kn a a))
theorem qkp (base:Env) (a:OA) (n:Int) (o:Int) (p:OA) (f:Fn) (b:Array Value) (c:Array Value) (g:Int) (h:LU) (i:Int) (j:OA) (e:Nat) (d:Nat) (k:Int) (m:Bool) (l:Nat) (Kn Kr Kx:World→World→Prop) (w:World):fragV prog 28 qee qea (cdAt Tryz.f79 [1,1,1,1,0,1,2,5]) (cdAt Tryz.f79 [1,1,1,1,0,1,2,6]) l 0 Kn Kr Kx (updPs [19] [.agg ⟨[I g,S h,I i,L j e d,I k,B m]⟩] (upd (upd (upd (upd (upd base 18 (.func f b c)) 6 (.pointer p)) 5 (I o)) 4 (I n)) 3 (.pointer a))) w=qkc a n o p f b c g h i j e d k m l Kn Kr Kx w:=by kernel_rfl
theorem qkz:cdAt Tryz.f79 [1,1,1,1,0,1,2]=.rangeFunc (Operand.tmp 18) #[19] (cdAt Tryz.f79 [1,1,1,1,0,1,2,5]) (cdAt Tryz.f79 [1,1,1,1,0,1,2,6]):=by kernel_rfl
def qr9:Ann:=T F (T F F)
def qqc (a:LU) (b:Int) (e:OA) (d:Nat) (c:Nat) (R:EP) (w:World):Prop :=
 al w 51 [S a,I b] fun f h =>
 al h 43 [L e d c] fun g i =>
 R (rt (.func (.func 127) ⟨[]⟩ ⟨[.pointer (some f),.pointer (some g)]⟩)) i
theorem qur {a b e d c R w} (h:qqc a b e d c R w):Calls prog qih ⟨[.agg ⟨[S a,I b]⟩,L e d c]⟩ w R:=qc Tryz.func80 (Eq.mpr (by kernel_rfl:fnV _ _ qr9 _ _ _=_) h)
def qh4:Ann:=T F (T F (.one (T F (T F (T F (T (T F (T F (.cut 128849018896 [(4,.one (.int .i64))] (T F (T F F)) (T F F)))) (T F F)))))))
def qhr (a:OA) (f3:Int) (f4:Int) (f5:Int) (f6:LU) (f7:Int) (f8:Bool) (f9:LU) (R:EP) (w:World):Prop :=
 al w 123 [I f3,.int .u8 f4,I f5,S f6,I f7,B f8,S f9] fun b d =>
 ∃ n,ce d b 0 (I n)∧(br (decide (n=1)) (∃ q,ce d b 0 (I q)∧∃ r,ce d b 1 (.int .u8 r)∧∃ s,ce d b 2 (I s)∧∃ t,ce d b 3 (S t)∧∃ u,ce d b 4 (I u)∧∃ v,ce d b 5 (B v)∧∃ x,ce d b 6 (S x)∧Cp 129 [.pointer a,.agg ⟨[I q,.int .u8 r,I s,S t,I u,B v,S x]⟩] d fun a3 d1 =>
 a3=.returned (.tuple ⟨[]⟩)∧R (rt (.tuple ⟨[]⟩)) d1) (br (decide (n=6)) (Cp 82 [.pointer a] d fun a4 l =>
 a4=.returned (.tuple ⟨[]⟩)∧∀ (h:Int→World→Prop),(∀ (f:Int) (e:World),(∀ _:Env,(∃ y,ce e b 0 (I y)∧∃ z,ce e b 1 (.int .u8 z)∧∃ A,ce e b 2 (I A)∧∃ C,ce e b 3 (S C)∧∃ D,ce e b 4 (I D)∧∃ E,ce e b 5 (B E)∧∃ F,ce e b 6 (S F)∧Cp 130 [.pointer a,.agg ⟨[I y,.int .u8 z,I A,S C,I D,B E,S F]⟩,I f] e fun a5 d2 =>
 a5=.returned (.tuple ⟨[]⟩)∧drw d2 fun g =>
 (Cp 131 [.pointer a] g fun a6 o =>
 ∃ G,rV a6 (.pointer G)∧∃ H,ce o b 2 (I H)∧((Cp 59 [I H] o fun a7 d3 =>
 ∃ J,rV a7 (S J)∧(sadd ([91]) J fun c5 =>
 sadd c5 ([93]) fun c6 =>
 dr G fun b3 =>
 (stL d3 (b3.add 0) 0 [S c6] fun d4 =>
 R (rt (.tuple ⟨[]⟩)) d4)∧True))∧True))∧((Cp 131 [.pointer a] g fun a8 p =>
 ∃ K,rV a8 (.pointer K)∧∃ L,ce p b 2 (I L)∧((Cp 59 [I L] p fun a9 d5 =>
 ∃ M,rV a9 (S M)∧(sadd ([91]) M fun c7 =>
 sadd c7 ([93]) fun c8 =>
 dr K fun b4 =>
 (stL d5 (b4.add 0) 0 [S c8] fun d6 =>
 R (rt (.tuple ⟨[]⟩)) d6)∧True))∧True))∧(∃ N,ce g b 2 (I N)∧((Cp 131 [.pointer a] g fun b0 d7 =>
 ∃ O,rV b0 (.pointer O)∧((Cp 59 [I N] d7 fun b1 d8 =>
 ∃ Q,rV b1 (S Q)∧(sadd ([91]) Q fun c9 =>
 sadd c9 ([93]) fun d0 =>
 dr O fun b5 =>
 (stL d8 (b5.add 0) 0 [S d0] fun d9 =>
 R (rt (.tuple ⟨[]⟩)) d9)∧True))∧True))∧True))∧True)∧True))→h f e)→(∃ T,ce l b 5 (B T)∧br T (h (bitO .i64 2 1) l) (h 2 l))) (Cp 82 [.pointer a] d fun b2 e0 =>
 b2=.returned (.tuple ⟨[]⟩)∧drw e0 fun c =>
 dr a fun b6 =>
 ∃ U,ce c b6 5 (B U)∧br U ((dr a fun b7 =>
 (stL c (b7.add 4) 0 [B false] fun e1 =>
 dr a fun b8 =>
 (stL e1 (b8.add 5) 0 [B true] fun e2 =>
 R (rt (.tuple ⟨[]⟩)) e2)∧True)∧True)∧(dr a fun i =>
 ((stL c (i.add 4) 0 [B false] fun e3 =>
 dr a fun b9 =>
 (stL e3 (b9.add 5) 0 [B true] fun e4 =>
 R (rt (.tuple ⟨[]⟩)) e4)∧True)∧True)∧(((stL c (i.add 4) 0 [B false] fun e5 =>
 dr a fun c0 =>
 (stL e5 (c0.add 5) 0 [B true] fun e6 =>
 R (rt (.tuple ⟨[]⟩)) e6)∧True)∧True)∧(stL c (i.add 4) 0 [B false] fun e7 =>
 dr a fun c1 =>
 (stL e7 (c1.add 5) 0 [B true] fun e8 =>
 R (rt (.tuple ⟨[]⟩)) e8)∧True)∧True)∧True)∧True) ((∃ V,ce c b 0 (I V)∧dr a fun c2 =>
 (stL c (c2.add 4) 0 [B false] fun e9 =>
 dr a fun c3 =>
 (stL e9 (c3.add 5) 0 [.bool (decide (V=5))] fun f0 =>
 R (rt (.tuple ⟨[]⟩)) f0)∧True)∧True)∧(dr a fun j =>
 (∃ W,ce c b 0 (I W)∧((stL c (j.add 4) 0 [B false] fun f1 =>
 dr a fun c4 =>
 (stL f1 (c4.add 5) 0 [.bool (decide (W=5))] fun f2 =>
 R (rt (.tuple ⟨[]⟩)) f2)∧True)∧True))∧((∃ X,ce c b 0 (I X)∧((stL c (j.add 4) 0 [B false] fun a0 =>
 dr a fun Y =>
 (stL a0 (Y.add 5) 0 [.bool (decide (X=5))] fun a1 =>
 R (rt (.tuple ⟨[]⟩)) a1)∧True)∧True))∧(stL c (j.add 4) 0 [B false] fun k =>
 ∃ m,ce k b 0 (I m)∧dr a fun Z =>
 (stL k (Z.add 5) 0 [.bool (decide (m=5))] fun a2 =>
 R (rt (.tuple ⟨[]⟩)) a2)∧True)∧True)∧True)∧True))))
theorem qbx {a b c d e f g i R w} (h:qhr a b c d e f g i R w):Calls prog qdu ⟨[.pointer a,.agg ⟨[I b,.int .u8 c,I d,S e,I f,B g,S i]⟩]⟩ w R:=qc Tryz.func81 (Eq.mpr (by kernel_rfl:fnV _ _ qh4 _ _ _=_) h)
def qh3:Ann:=.cut 16380 [] (T F (T F F)) (T F F)
def qhq (a:OA) (R:EP) (w:World):Prop :=
 ∀ (c:WP),(∀ (J:World),(∀ _:Env,(dr a fun U =>
 stL J (U.add 3) 0 [B false] fun X =>
 dr a fun V =>
 Cp 133 [.pointer (some (V.add 1))] X fun T Y =>
 T=.returned (.tuple ⟨[]⟩)∧R (rt (.tuple ⟨[]⟩)) Y))→c J)→(dr a fun W =>
 ∃ e,ce w W 3 (B e)∧br e (drw w fun b =>
 (Cp 131 [.pointer a] b fun n D =>
 ∃ f,rV n (.pointer f)∧dr a fun v =>
 (Cp 132 [.pointer (some (v.add 1))] D fun o E =>
 ∃ g,rV o (S g)∧dr f fun x =>
 (stL E (x.add 0) 0 [S g] fun F =>
 c F)∧True)∧True)∧((Cp 131 [.pointer a] b fun p G =>
 ∃ h,rV p (.pointer h)∧dr a fun y =>
 (Cp 132 [.pointer (some (y.add 1))] G fun q H =>
 ∃ i,rV q (S i)∧dr h fun z =>
 (stL H (z.add 0) 0 [S i] fun I =>
 c I)∧True)∧True)∧(dr a fun d =>
 (Cp 131 [.pointer a] b fun r K =>
 ∃ j,rV r (.pointer j)∧((Cp 132 [.pointer (some (d.add 1))] K fun s L =>
 ∃ k,rV s (S k)∧dr j fun A =>
 (stL L (A.add 0) 0 [S k] fun M =>
 c M)∧True)∧True))∧((Cp 131 [.pointer a] b fun t N =>
 ∃ l,rV t (.pointer l)∧((Cp 132 [.pointer (some (d.add 1))] N fun u O =>
 ∃ m,rV u (S m)∧dr l fun C =>
 (stL O (C.add 0) 0 [S m] fun Q =>
 c Q)∧True)∧True))∧True)∧True)∧True)∧True) (c w))
theorem qdn {a R w} (h:qhq a R w):Calls prog qa5 ⟨[.pointer a]⟩ w R:=qc Tryz.func82 (Eq.mpr (by kernel_rfl:fnV _ _ qh3 _ _ _=_) h)
def qbo:Ann:=T F (T F F)
def qbl (f:OA) (d:Nat) (c:Nat) (e:Fn) (a:Array Value) (b:Array Value) (R:EP) (w:World):Prop :=
 Cp 134 [L f d c,.func e a b] w fun h i =>
 ∃ g,rI h g∧(R (rt (.bool (decide ((0:Int)≤g)))) i)
theorem qbs {f d c e a b R w} (h:qbl f d c e a b R w):Calls prog qaj ⟨[L f d c,.func e a b]⟩ w R:=qc Tryz.func83 (Eq.mpr (by kernel_rfl:fnV _ _ qbo _ _ _=_) h)
def qld:Ann:=T F (T F F)
def qj8 (a:LU) (b:LU) (c:LU) (d:Int) (e:Int) (f:LU) (R:EP) (w:World):Prop :=
 al w 69 [S a,S b,S c,I d,I e,S f] fun i g =>
 ∃ h,ce g i 0 (S h)∧(R (rt (.bool (decide ((64:Int) < ((List.length h:Int)))))) g)
theorem qmt {a b c d e f R w} (h:qj8 a b c d e f R w):Calls prog qco ⟨[.agg ⟨[S a,S b,S c,I d,I e,S f]⟩]⟩ w R:=qc Tryz.func84 (Eq.mpr (by kernel_rfl:fnV _ _ qld _ _ _=_) h)
end Go.Proofs