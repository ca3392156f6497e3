/- Written by program: for each function its verification condition, that it is the code's (by the kernel), and that it gives the call. -/
import Derived.Test.YtkecgnlelgdndaaGreatDoorFn
set_option linter.all false
set_option maxRecDepth 100000
namespace Go.Proofs
open Go Go.Sh Go.Proofs.Tryz IntKind
def qdd:Ann:=T F (T (T F (T (T F F) F)) (T (T F (.one (.loop 67100720 [(13,.one (.int .i64))] (T F (T (T F F) (T (.one (T F (T F (T (T F F) F)))) F)))))) (T F F)))
def qdc (u:Option Addr) (d:Nat) (z:Nat) (v:Option Addr) (e:Nat) (A:Nat) (R:Ending→World→Prop) (w:World):Prop :=
 br (decide ((((d:Int)):Int)≠((e:Int)))) (R (.returned (B false)) w) (∃ (t:Int→World→Nat→Prop),(∃ C,t 0 w C)∧∀ a x y,t a x y→∀ _:Env,(br (decide ((a:Int) < ((d:Int)))) (drw x fun b =>
 idx u d a 6 fun f =>
 ∃ h,b.cell? (f.add 0)=some (S h)∧∃ i,b.cell? (f.add 1)=some (S i)∧∃ j,b.cell? (f.add 2)=some (S j)∧∃ k,b.cell? (f.add 3)=some (I k)∧∃ l,b.cell? (f.add 4)=some (I l)∧∃ m,b.cell? (f.add 5)=some (S m)∧idx v e a 6 fun c =>
 ∃ n,b.cell? (c.add 0)=some (S n)∧∃ o,b.cell? (c.add 1)=some (S o)∧∃ p,b.cell? (c.add 2)=some (S p)∧∃ q,b.cell? (c.add 3)=some (I q)∧∃ r,b.cell? (c.add 4)=some (I r)∧∃ s,b.cell? (c.add 5)=some (S s)∧br (!(decide (h=n)&&(decide (i=o)&&((decide (j=p)&&(decide (k=q)&&true))&&(decide (l=r)&&(decide (m=s)&&true)))))) (R (.returned (B false)) b) (∃ g,g < y∧t (i64.wrap (a + 1)) b g)) (R (.returned (B true)) x)))
theorem qdg {e b a f d c R w} (h:qdc e b a f d c R w):Calls prog qa6 ⟨[L e b a,L f d c]⟩ w R:=qe Tryz.func37 (Eq.mpr (by kernel_rfl:fnV _ _ qdd _ _ _=_) h)
def qz9:Ann:=T F (T F (T (T F (T (T F F) F)) (T F F)))
def qx0 (e:Option Addr) (c:Nat) (b:Nat) (a:List UInt8) (R:Ending→World→Prop) (w:World):Prop :=
 al w 9 [S a] fun h i =>
 Calls prog 88 ⟨[L e c b,.func (.func 89) ⟨[]⟩ ⟨[.pointer (some h)]⟩]⟩ i fun g f =>
 ∃ d,g=.returned (I d)∧(br (decide (d < 0)) (R (.returned (.tuple ⟨[I 0,I 6]⟩)) f) (R (.returned (.tuple ⟨[I d,I 0]⟩)) f))
theorem q16 {d c b a R w} (h:qx0 d c b a R w):Calls prog qns ⟨[L d c b,S a]⟩ w R:=qe Tryz.func40 (Eq.mpr (by kernel_rfl:fnV _ _ qz9 _ _ _=_) h)
def qwp:Ann:=T F (.cut 1047552 [] (T F (T (T F F) F)) (T (T F (T (T F F) F)) (T F (T (T F (.one (.rf [1,2,3,27] 0))) (T (T F (.one (.loop 2361183232638729585152 [(43,.one (.int .i64))] (T F (T (T F F) (T (.one (T F (.one (T F (T (T F F) (.cut 1150669704793161728 [(51,.one (.bool))] F (T F (T F (T F (T F F)))))))))) F)))))) (T F F))))))
def qvy (i2:List UInt8) (i3:Option Addr) (f8:Nat) (f7:Nat) (R:Ending→World→Prop) (w:World):Prop :=
 al w 45 [S i2,L i3 f8 f7] fun q i5 =>
 al i5 28 [I 0] fun a h6 =>
 ∀ (g1:World→Prop),(∀  (f6:World),(∀ _:Env,(∃ i4 f3 f2,f6.cell? (q.add 1)=some (L i4 f3 f2)∧Calls prog 71 ⟨[L i4 f3 f2]⟩ f6 fun g3 a9 =>
 ∃ c1,g3=.returned (I c1)∧br (decide (c1≠0)) (stL a9 a 0 [I 1] fun b0 =>
 ∃ c2,b0.cell? a=some (I c2)∧R (.returned (I c2)) b0) (mkm a9 fun g2 g9 =>
 al g9 130 [.map none] fun a8 h0 =>
 stL h0 a8 0 [.map (some g2)] fun b1 =>
 ∃ c3 X W,b1.cell? (q.add 1)=some (L c3 X W)∧Calls prog 91 ⟨[L c3 X W]⟩ b1 fun g4 h1 =>
 ∃ c4 Y Z,g4=.returned (.func c4 Y Z)∧∀ A:Env,RFw prog none 71 (cdAt Tryz.f42 [1,1,1,1,0,1,2]) (upd (upd (upd (upd A 27 (.func c4 Y Z)) 3 (.pointer (some a8))) 2 (.pointer (some a))) 1 (.pointer (some q))) [] h1 0 (fun b e =>
 ∃ e0 s g0,e.cell? (q.add 1)=some (L e0 s g0)∧∃ (u:Int→World→Nat→Prop),(∃ g8,u 0 e g8)∧∀ d g D,u d g D→∀ _:Env,(br (decide ((d:Int) < (s))) (idx e0 s d 4 fun x =>
 ∃ e1,g.cell? (x.add 0)=some (I e1)∧∃ e2,g.cell? (x.add 1)=some (S e2)∧∃ e3,g.cell? (x.add 2)=some (I e3)∧∃ e4 a3 a2,g.cell? (x.add 3)=some (L e4 a3 a2)∧al g 56 [I 0,S [],I 0,L none 0 0] fun i h8 =>
 stL h8 i 0 [I e1,S e2,I e3,L e4 a3 a2] fun l =>
 ∃ e5,l.cell? (i.add 0)=some (I e5)∧br (decide (e5=4)) (stL l a 0 [I 0] fun h9 =>
 retD b h9 fun b7 =>
 ∃ e6,b7.cell? a=some (I e6)∧R (.returned (I e6)) b7) (∀ (z:Bool→World→Prop),(∀ (p:Bool) (m:World),(∀ _:Env,(br p (∃ a6,a6 < D∧u (i64.wrap (d + 1)) m a6) (∃ e7,m.cell? (i.add 0)=some (I e7)∧br (decide (e7=1)) (∃ e8,m.cell? (i.add 1)=some (S e8)∧Calls prog 92 ⟨[S e8,S [32]]⟩ m fun g6 b8 =>
 ∃ e9,g6=.returned (S e9)∧br (decide (e9=([]))) (∃ a7,a7 < D∧u (i64.wrap (d + 1)) b8 a7) (stL b8 a 0 [I 10] fun i0 =>
 retD b i0 fun b9 =>
 ∃ f0,b9.cell? a=some (I f0)∧R (.returned (I f0)) b9)) (stL m a 0 [I 10] fun i1 =>
 retD b i1 fun c0 =>
 ∃ f1,c0.cell? a=some (I f1)∧R (.returned (I f1)) c0))))→z p m)→(∃ J,l.cell? (i.add 0)=some (I J)∧br (decide (J=3)) (z true l) (∃ K,l.cell? (i.add 0)=some (I K)∧(z (decide (K=2)) l))))) (stL g a 0 [I 0] fun f5 =>
 retD b f5 fun E =>
 ∃ M,E.cell? a=some (I M)∧R (.returned (I M)) E))) (fun b e =>
 retD b e fun F =>
 ∃ N,F.cell? a=some (I N)∧R (.returned (I N)) F) (fun b e =>
 ∃ c5 r f9,e.cell? (q.add 1)=some (L c5 r f9)∧∃ (t:Int→World→Nat→Prop),(∃ g7,t 0 e g7)∧∀ c f C,t c f C→∀ _:Env,(br (decide ((c:Int) < (r))) (idx c5 r c 4 fun v =>
 ∃ c6,f.cell? (v.add 0)=some (I c6)∧∃ c7,f.cell? (v.add 1)=some (S c7)∧∃ c8,f.cell? (v.add 2)=some (I c8)∧∃ c9 a1 a0,f.cell? (v.add 3)=some (L c9 a1 a0)∧al f 56 [I 0,S [],I 0,L none 0 0] fun h h2 =>
 stL h2 h 0 [I c6,S c7,I c8,L c9 a1 a0] fun j =>
 ∃ d0,j.cell? (h.add 0)=some (I d0)∧br (decide (d0=4)) (stL j a 0 [I 0] fun h3 =>
 retD b h3 fun b2 =>
 ∃ d1,b2.cell? a=some (I d1)∧R (.returned (I d1)) b2) (∀ (y:Bool→World→Prop),(∀ (o:Bool) (k:World),(∀ _:Env,(br o (∃ a4,a4 < C∧t (i64.wrap (c + 1)) k a4) (∃ d2,k.cell? (h.add 0)=some (I d2)∧br (decide (d2=1)) (∃ d3,k.cell? (h.add 1)=some (S d3)∧Calls prog 92 ⟨[S d3,S [32]]⟩ k fun g5 b3 =>
 ∃ d4,g5=.returned (S d4)∧br (decide (d4=([]))) (∃ a5,a5 < C∧t (i64.wrap (c + 1)) b3 a5) (stL b3 a 0 [I 10] fun h4 =>
 retD b h4 fun b4 =>
 ∃ d5,b4.cell? a=some (I d5)∧R (.returned (I d5)) b4)) (stL k a 0 [I 10] fun h5 =>
 retD b h5 fun b5 =>
 ∃ d6,b5.cell? a=some (I d6)∧R (.returned (I d6)) b5))))→y o k)→(∃ d7,j.cell? (h.add 0)=some (I d7)∧br (decide (d7=3)) (y true j) (∃ d8,j.cell? (h.add 0)=some (I d8)∧(y (decide (d8=2)) j))))) (stL f a 0 [I 0] fun h7 =>
 retD b h7 fun b6 =>
 ∃ d9,b6.cell? a=some (I d9)∧R (.returned (I d9)) b6))))))→g1 f6)→(∃ O,h6.cell? (q.add 0)=some (S O)∧Calls prog 90 ⟨[S O]⟩ h6 fun f4 n =>
 ∃ Q,f4=.returned (B Q)∧br (!Q) (stL n a 0 [I 14] fun G =>
 ∃ T,G.cell? a=some (I T)∧R (.returned (I T)) G) (∃ U,n.cell? (q.add 0)=some (S U)∧br (decide ((14:Int) < ((List.length U:Int)))) (stL n a 0 [I 14] fun H =>
 ∃ V,H.cell? a=some (I V)∧R (.returned (I V)) H) (g1 n)))
theorem qzw {c d b a R w} (h:qvy c d b a R w):Calls prog ql9 ⟨[.agg ⟨[S c,L d b a]⟩]⟩ w R:=qe Tryz.func42 (Eq.mpr (by kernel_rfl:fnV _ _ qwp _ _ _=_) h)
def qg6:Ann:=T F F
def qg3:Ann:=.one (T (T F (T F (T (T F F) F))) F)
def qqq (s:Option Addr) (f:Option Addr) (b:Option Addr) (r:Fn) (m:Array Value) (n:Array Value) (c:List UInt8) (d:Int) (l:Nat) (Kn Kr Kx:World→World→Prop) (w:World):Prop :=
 Ext w w∧∀ a:World,Upd l w a→(dr b fun i =>
 ∃ g,a.cell? i=some (g)∧∃ q,∃ (e:Bool),lkAt2 prog 130 g (S c) a (I q) e∧br e (dr f fun j =>
 stL a j 0 [I 7] fun o =>
 Kr a o) (dr b fun k =>
 ∃ h,a.cell? k=some (h)∧(mupd prog 130 h (S c) (I d) a fun p =>
 Kn a p)))
theorem qre (base:Env) (h:Option Addr) (g:Option Addr) (a:Option Addr) (d:Fn) (b:Array Value) (c:Array Value) (e:List UInt8) (f:Int) (l:Nat) (Kn Kr Kx:World→World→Prop) (w:World):fragV prog 71 qg6 qg3 (cdAt Tryz.f42 [1,1,1,1,0,1,2,5]) (cdAt Tryz.f42 [1,1,1,1,0,1,2,6]) l 0 Kn Kr Kx (updPs [28,29] [S e,I f] (upd (upd (upd (upd base 27 (.func d b c)) 3 (.pointer a)) 2 (.pointer g)) 1 (.pointer h))) w=qqq h g a d b c e f l Kn Kr Kx w:=by kernel_rfl
theorem qri:cdAt Tryz.f42 [1,1,1,1,0,1,2]=.rangeFunc (Operand.tmp 27) #[28,29] (cdAt Tryz.f42 [1,1,1,1,0,1,2,5]) (cdAt Tryz.f42 [1,1,1,1,0,1,2,6]):=by kernel_rfl
def q2l:Ann:=T F (.cut 130948 [] (T F (T (T F F) F)) (T (T F (T (T F F) F)) (T F (T (T F (.one (.loop 274861129748 [(4,.one (.int .i64))] (T (T F (T F F)) (T (.one (T F (T (T F F) F))) F))))) (T (T F (.one (.loop 4722366482594767306852 [(5,.one (.int .i64))] (T (T F (T F F)) (T (.one (T F (T (T F (T (T F F) F)) (T F (T (T F F) F))))) F))))) (T F F))))))
def q1f (c0:List UInt8) (c1:Option Addr) (a6:Nat) (a5:Nat) (R:Ending→World→Prop) (w:World):Prop :=
 al w 45 [S c0,L c1 a6 a5] fun l b9 =>
 ∀ (a9:World→Prop),(∀  (a3:World),(∀ _:Env,(∃ c3 a2 a1,a3.cell? (l.add 1)=some (L c3 a2 a1)∧Calls prog 94 ⟨[L c3 a2 a1]⟩ a3 fun c4 a4 =>
 ∃ E,c4=.returned (I E)∧br (decide (E≠0)) (R (.returned (I 1)) a4) (∃ F o n,a4.cell? (l.add 1)=some (L F o n)∧Calls prog 65 ⟨[L F o n]⟩ a4 fun b0 b7 =>
 ∃ p f q,b0=.returned (L p f q)∧∃ (m:Int→World→Nat→Prop),(∃ b4,m 0 b7 b4)∧∀ d j v,m d j v→∀ _:Env,(br (decide ((d:Int) < (f))) (idx p f d 1 fun b6 =>
 ∃ G,j.cell? b6=some (S G)∧Calls prog 66 ⟨[L p f q,S G]⟩ j fun b1 C =>
 ∃ H,b1=.returned (I H)∧br (decide (H≠d)) (R (.returned (I 7)) C) (∃ x,x < v∧m (i64.wrap (d + 1)) C x)) (∃ (g:Int→World→Nat→Prop),(∃ b5,g 0 j b5)∧∀ c b h,g c b h→∀ _:Env,(∃ c2 r a7,b.cell? (l.add 1)=some (L c2 r a7)∧br (decide ((c:Int) < (r))) (∃ J s a8,b.cell? (l.add 1)=some (L J s a8)∧idx J s c 4 fun i =>
 ∃ K,b.cell? (i.add 0)=some (I K)∧∃ M,b.cell? (i.add 1)=some (S M)∧∃ N,b.cell? (i.add 2)=some (I N)∧∃ O u t,b.cell? (i.add 3)=some (L O u t)∧al b 56 [I 0,S [],I 0,L none 0 0] fun e b8 =>
 stL b8 e 0 [I K,S M,I N,L O u t] fun a =>
 ∃ Q,a.cell? (e.add 0)=some (I Q)∧br (decide (Q=4)) (R (.returned (I 0)) a) (∃ T,a.cell? (e.add 0)=some (I T)∧br (decide (T≠3)) (∃ U,a.cell? (e.add 0)=some (I U)∧br (decide (U≠2)) (∃ V,a.cell? (e.add 0)=some (I V)∧br (decide (V≠1)) (R (.returned (I 10)) a) (∃ W,a.cell? (e.add 1)=some (S W)∧Calls prog 95 ⟨[S W]⟩ a fun b2 D =>
 ∃ X,b2=.returned (B X)∧br (!X) (R (.returned (I 10)) D) (∃ y,y < h∧g (i64.wrap (c + 1)) D y))) (∃ z,z < h∧g (i64.wrap (c + 1)) a z)) (∃ A,A < h∧g (i64.wrap (c + 1)) a A))) (R (.returned (I 0)) b)))))))→a9 a3)→(∃ Y,b9.cell? (l.add 0)=some (S Y)∧Calls prog 93 ⟨[S Y]⟩ b9 fun b3 k =>
 ∃ Z,b3=.returned (B Z)∧br (!Z) (R (.returned (I 14)) k) (∃ a0,k.cell? (l.add 0)=some (S a0)∧br (decide ((14:Int) < ((List.length a0:Int)))) (R (.returned (I 14)) k) (a9 k)))
theorem q59 {c d b a R w} (h:q1f c d b a R w):Calls prog qsr ⟨[.agg ⟨[S c,L d b a]⟩]⟩ w R:=qe Tryz.func43 (Eq.mpr (by kernel_rfl:fnV _ _ q2l _ _ _=_) h)
def q21:Ann:=T F (T F (T (T F (T (T F F) F)) (T F (T (T F (.one (.loop 268370112 [(6,.one (.slice)),(7,.one (.int .i64))] (T (T F (T F F)) (T (.one (T F (T F F))) F))))) (T F F)))))
def q1v (i:Option Addr) (f:Nat) (e:Nat) (R:Ending→World→Prop) (w:World):Prop :=
 Calls prog 49 ⟨[L i f e]⟩ w fun A y =>
 ∃ z q,A=.returned (.tuple ⟨[I z,I q]⟩)∧(br (decide (q≠0)) (R (.returned (.tuple ⟨[L none 0 0,I q]⟩)) y) (∃ (h:Option Addr→Nat→Nat→Int→World→Nat→Prop),(∃ t,h none 0 0 1 y t)∧∀ d c b a p g,h d c b a p g→∀ _:Env,(br (decide ((a:Int)≤z)) (Calls prog 96 ⟨[L i f e,I a]⟩ p fun s l =>
 ∃ m,s=.returned (B m)∧br m (al l 3 [I a] fun u v =>
 app prog [74,74] 74 (L d c b) (.slice (some u) 1 1) v fun r o n x =>
 ∃ j,j < g∧h r o n (i64.wrap (a + 1)) x j) (∃ k,k < g∧h d c b (i64.wrap (a + 1)) l k)) (R (.returned (.tuple ⟨[L d c b,I 0]⟩)) p))))
theorem q6p {c b a R w} (h:q1v c b a R w):Calls prog qka ⟨[L c b a]⟩ w R:=qe Tryz.func45 (Eq.mpr (by kernel_rfl:fnV _ _ q21 _ _ _=_) h)
def qb8:Ann:=T F (T F F)
def qb5 (g:Option Addr) (e:Nat) (d:Nat) (h:List UInt8) (i:Int) (j:Int) (R:Ending→World→Prop) (w:World):Prop :=
 al w 65 [S h,I i,I j] fun c a =>
 ∃ l,a.cell? (c.add 0)=some (S l)∧(∃ m,a.cell? (c.add 1)=some (I m)∧∃ n,a.cell? (c.add 2)=some (I n)∧Calls prog 97 ⟨[L g e d,.agg ⟨[S l,I m,I n]⟩]⟩ a fun f k =>
 ∃ b,f=.returned (I b)∧R (.returned (.bool (decide ((0:Int)≤b)))) k)
theorem qck {c b a d e f R w} (h:qb5 c b a d e f R w):Calls prog qaq ⟨[L c b a,.agg ⟨[S d,I e,I f]⟩]⟩ w R:=qe Tryz.func46 (Eq.mpr (by kernel_rfl:fnV _ _ qb8 _ _ _=_) h)
def qbl:Ann:=T F (T F F)
def qbj (f:Option Addr) (d:Nat) (c:Nat) (e:Fn) (a:Array Value) (b:Array Value) (R:Ending→World→Prop) (w:World):Prop :=
 Calls prog 88 ⟨[L f d c,.func e a b]⟩ w fun h i =>
 ∃ g,h=.returned (I g)∧(R (.returned (.bool (decide ((0:Int)≤g)))) i)
theorem qbn {f d c e a b R w} (h:qbj f d c e a b R w):Calls prog qah ⟨[L f d c,.func e a b]⟩ w R:=qe Tryz.func47 (Eq.mpr (by kernel_rfl:fnV _ _ qbl _ _ _=_) h)
def an_law16_WitnessSigla_1:Ann:=T F (T F F)
def sh_law16_WitnessSigla_1 (j:List UInt8) (k:Int) (l:Int) (e:Option Addr) (f:Option Addr) (R:Ending→World→Prop) (w:World):Prop :=
 al w 65 [S j,I k,I l] fun h a =>
 ∃ i,a.cell? (h.add 1)=some (I i)∧(dr e fun m =>
 ∃ b,a.cell? m=some (I b)∧br (decide (i=b)) (∃ c,a.cell? (h.add 2)=some (I c)∧dr f fun g =>
 ∃ d,a.cell? g=some (I d)∧R (.returned (.bool (decide (c=d)))) a) (R (.returned (B false)) a))
theorem c_law16_WitnessSigla_1 {c d e a b R w} (h:sh_law16_WitnessSigla_1 c d e a b R w):Calls prog F_law16_WitnessSigla_1 ⟨[.agg ⟨[S c,I d,I e]⟩,.pointer a,.pointer b]⟩ w R:=qe Tryz.func48 (Eq.mpr (by kernel_rfl:fnV _ _ an_law16_WitnessSigla_1 _ _ _=_) h)
def q22:Ann:=T F (T (T F (T (T F F) F)) (T F (T (T F (.one (.rf [2,3,4,10] 0))) (T F F))))
def q1w (i:Option Addr) (e:Nat) (d:Nat) (R:Ending→World→Prop) (w:World):Prop :=
 Calls prog 71 ⟨[L i e d]⟩ w fun r p =>
 ∃ q,r=.returned (I q)∧(br (decide (q≠0)) (R (.returned (.tuple ⟨[I 0,I 1]⟩)) p) (al p 3 [I 0] fun h t =>
 stL t h 0 [I 0] fun u =>
 Calls prog 98 ⟨[L i e d]⟩ u fun s v =>
 ∃ j f g,s=.returned (.func j f g)∧∀ c:Env,RFw prog none 19 (cdAt Tryz.f49 [1,1,1,0,1,2]) (upd (upd (upd (upd c 10 (.func j f g)) 4 (.pointer (some h))) 3 (I 0)) 2 (I 0)) [] v 0 (fun a b =>
 ∃ l,b.cell? h=some (I l)∧retD a b fun n =>
 R (.returned (.tuple ⟨[I l,I 0]⟩)) n) (fun a b =>
 retD a b fun o =>
 R (.returned (.tuple ⟨[I 0,I 0]⟩)) o) (fun a b =>
 ∃ k,b.cell? h=some (I k)∧retD a b fun m =>
 R (.returned (.tuple ⟨[I k,I 0]⟩)) m)))
theorem q6q {c b a R w} (h:q1w c b a R w):Calls prog qs7 ⟨[L c b a]⟩ w R:=qe Tryz.func49 (Eq.mpr (by kernel_rfl:fnV _ _ q22 _ _ _=_) h)
def qi8:Ann:=F
def qi6:Ann:=.one (T F (T F F))
def qv9 (F:Int) (G:Int) (b:Option Addr) (C:Fn) (v:Array Value) (x:Array Value) (g:Int) (h:List UInt8) (i:Int) (j:Option Addr) (f:Nat) (e:Nat) (l:Nat) (Kn Kr Kx:World→World→Prop) (w:World):Prop :=
 al w 56 [I 0,S [],I 0,L none 0 0] fun c D =>
 stL D c 0 [I g,S h,I i,L j f e] fun n =>
 Ext w n∧∀ a:World,Upd l n a→(∃ o,a.cell? (c.add 0)=some (I o)∧∃ p,a.cell? (c.add 1)=some (S p)∧∃ q,a.cell? (c.add 2)=some (I q)∧∃ r m k,a.cell? (c.add 3)=some (L r m k)∧Calls prog 99 ⟨[.agg ⟨[I o,S p,I q,L r m k]⟩]⟩ a fun y d =>
 ∃ s,y=.returned (B s)∧br s (dr b fun z =>
 ∃ t,d.cell? z=some (I t)∧∃ u,d.cell? (c.add 2)=some (I u)∧dr b fun A =>
 stL d A 0 [.int .i64 ((max t u))] fun E =>
 Kn a E) (Kn a d))
theorem qwb (base:Env) (k:Int) (m:Int) (a:Option Addr) (f:Fn) (b:Array Value) (c:Array Value) (g:Int) (h:List UInt8) (i:Int) (j:Option Addr) (e:Nat) (d:Nat) (l:Nat) (Kn Kr Kx:World→World→Prop) (w:World):fragV prog 19 qi8 qi6 (cdAt Tryz.f49 [1,1,1,0,1,2,5]) (cdAt Tryz.f49 [1,1,1,0,1,2,6]) l 0 Kn Kr Kx (updPs [11] [.agg ⟨[I g,S h,I i,L j e d]⟩] (upd (upd (upd (upd base 10 (.func f b c)) 4 (.pointer a)) 3 (I m)) 2 (I k))) w=qv9 k m a f b c g h i j e d l Kn Kr Kx w:=by kernel_rfl
theorem qwe:cdAt Tryz.f49 [1,1,1,0,1,2]=.rangeFunc (Operand.tmp 10) #[11] (cdAt Tryz.f49 [1,1,1,0,1,2,5]) (cdAt Tryz.f49 [1,1,1,0,1,2,6]):=by kernel_rfl
def q23:Ann:=T F (T (T F (T (T F F) F)) (T F F))
def q1x (e:Option Addr) (b:Nat) (a:Nat) (R:Ending→World→Prop) (w:World):Prop :=
 Calls prog 71 ⟨[L e b a]⟩ w fun o l =>
 ∃ m,o=.returned (I m)∧(br (decide (m≠0)) (R (.returned (.tuple ⟨[B false,I 1]⟩)) l) (Calls prog 98 ⟨[L e b a]⟩ l fun p r =>
 ∃ n h i,p=.returned (.func n h i)∧Calls prog 100 ⟨[.func n h i]⟩ r fun q s =>
 ∃ f d c,q=.returned (L f d c)∧Calls prog 28 ⟨[L f d c,.func (.func 99) #[] #[]]⟩ s fun j k =>
 ∃ g,j=.returned (B g)∧R (.returned (.tuple ⟨[.bool (!g),I 0]⟩)) k))
theorem q6r {c b a R w} (h:q1x c b a R w):Calls prog qs8 ⟨[L c b a]⟩ w R:=qe Tryz.func50 (Eq.mpr (by kernel_rfl:fnV _ _ q23 _ _ _=_) h)
def q2p:Ann:=T F (T (.cut 32640 [(14,.one (.bool))] F (T (T F (T F F)) F)) (T (T F (.one (.loop 1099377410116 [(6,.one (.int .i64))] (T (T F (T F F)) (T (.one (T F (T (T F F) F))) F))))) (T F F)))
def q1j (e:Option Addr) (a:Nat) (d:Nat) (R:Ending→World→Prop) (w:World):Prop :=
 ∀ (m:Bool→World→Prop),(∀ (f:Bool) (n:World),(∀ _:Env,(br f (Calls prog 105 ⟨[L e a d,I 20,I 40]⟩ n fun z v =>
 ∃ A C y,z=.returned (.tuple ⟨[I A,I C,B y]⟩)∧br (!y) (R (.returned (B true)) v) (Calls prog 106 ⟨[L e a d,I 20]⟩ v fun p t =>
 ∃ k,p=.returned (B k)∧R (.returned (B k)) t)) (∃ (g:Int→World→Nat→Prop),(∃ r,g 0 n r)∧∀ b c i,g b c i→∀ _:Env,(br (decide ((b:Int) < ((a:Int)))) (idx e a b 4 fun s =>
 ∃ x h o,c.cell? (s.add 3)=some (L x h o)∧br (decide ((0:Int) < (h))) (R (.returned (B true)) c) (∃ j,j < i∧g (i64.wrap (b + 1)) c j)) (Calls prog 106 ⟨[L e a d,I 20]⟩ c fun q u =>
 ∃ l,q=.returned (B l)∧R (.returned (B l)) u)))))→m f n)→(br (decide ((((a:Int)):Int)≤4096)) (m true w) (m (decide ((4100:Int) < ((a:Int)))) w))
theorem q6d {c b a R w} (h:q1j c b a R w):Calls prog qsu ⟨[L c b a]⟩ w R:=qe Tryz.func55 (Eq.mpr (by kernel_rfl:fnV _ _ q2p _ _ _=_) h)
def q0h:Ann:=T F (T F (T F F))
def qx8  (R:Ending→World→Prop) (w:World):Prop :=
 al w 45 [S [],L none 0 0] fun e k =>
 Calls prog 107 ⟨[S [60,115,101,99,32,111,110,101,47,62,100,101,60,97,100,100,32,49,62,117,115,60,47,97,100,100,62,60,115,101,99,32,116,119,111,47,62,101,116]]⟩ k fun j l =>
 ∃ g b a m,j=.returned (.tuple ⟨[L g b a,I m]⟩)∧(stL l e 0 [S [65],L g b a] fun f =>
 ∃ h,f.cell? (e.add 0)=some (S h)∧∃ i d c,f.cell? (e.add 1)=some (L i d c)∧R (.returned (.agg ⟨[S h,L i d c]⟩)) f)
theorem q2e {R w} (h:qx8  R w):Calls prog qnz ⟨[]⟩ w R:=qe Tryz.func56 (Eq.mpr (by kernel_rfl:fnV _ _ q0h _ _ _=_) h)
def qcy:Ann:=T F (T (T F (T (T F F) F)) (T (T F (.one (.loop 67100720 [(13,.one (.int .i64))] (T F (T (T F F) (T (.one (T F (T F (T (T F F) F)))) F)))))) (T F F)))
def qat (o:Option Addr) (b:Nat) (s:Nat) (p:Option Addr) (d:Nat) (t:Nat) (R:Ending→World→Prop) (w:World):Prop :=
 br (decide ((((b:Int)):Int)≠((d:Int)))) (R (.returned (B false)) w) (∃ (m:Int→World→Nat→Prop),(∃ u,m 0 w u)∧∀ a q r,m a q r→∀ _:Env,(br (decide ((a:Int) < ((b:Int)))) (drw q fun c =>
 idx o b a 3 fun n =>
 ∃ g,c.cell? (n.add 0)=some (S g)∧∃ h,c.cell? (n.add 1)=some (I h)∧∃ i,c.cell? (n.add 2)=some (I i)∧idx p d a 3 fun e =>
 ∃ j,c.cell? (e.add 0)=some (S j)∧∃ k,c.cell? (e.add 1)=some (I k)∧∃ l,c.cell? (e.add 2)=some (I l)∧br (!(decide (g=j)&&(decide (h=k)&&(decide (i=l)&&true)))) (R (.returned (B false)) c) (∃ f,f < r∧m (i64.wrap (a + 1)) c f)) (R (.returned (B true)) q)))
theorem qc6 {e b a f d c R w} (h:qat e b a f d c R w):Calls prog qaz ⟨[L e b a,L f d c]⟩ w R:=qe Tryz.func57 (Eq.mpr (by kernel_rfl:fnV _ _ qcy _ _ _=_) h)
def qwn:Ann:=T F (T (T F (T (T F F) F)) (T (T F (T (T F F) F)) (T F F)))
def qvw (c:Option Addr) (a:Nat) (b:Nat) (R:Ending→World→Prop) (w:World):Prop :=
 br (decide ((32:Int) < ((a:Int)))) (R (.returned (I 4)) w) (Calls prog 69 ⟨[L c a b,.func (.func 108) #[] #[]]⟩ w fun f d =>
 ∃ e,f=.returned (B e)∧br e (R (.returned (I 1)) d) (R (.returned (I 0)) d))
theorem qzu {c b a R w} (h:qvw c b a R w):Calls prog ql7 ⟨[L c b a]⟩ w R:=qe Tryz.func58 (Eq.mpr (by kernel_rfl:fnV _ _ qwn _ _ _=_) h)
def qwm:Ann:=T F (T F (T (T F (.one (.rf [2,3,6] 0))) (T F F)))
def qvv (o:Option Addr) (m:Nat) (l:Nat) (R:Ending→World→Prop) (w:World):Prop :=
 al w 31 [L none 0 0] fun n u =>
 Calls prog 91 ⟨[L o m l]⟩ u fun t v =>
 ∃ s j k,t=.returned (.func s j k)∧(∀ g:Env,RFw prog none 14 (cdAt Tryz.f62 [1,1,0,1,2]) (upd (upd (upd g 6 (.func s j k)) 3 (.pointer (some n))) 2 (L none 0 0)) [] v 0 (fun a b =>
 ∃ i f e,b.cell? n=some (L i f e)∧retD a b fun q =>
 R (.returned (L i f e)) q) (fun a b =>
 retD a b fun r =>
 R (.returned (L none 0 0)) r) (fun a b =>
 ∃ h d c,b.cell? n=some (L h d c)∧retD a b fun p =>
 R (.returned (L h d c)) p))
theorem qzt {c b a R w} (h:qvv c b a R w):Calls prog ql6 ⟨[L c b a]⟩ w R:=qe Tryz.func62 (Eq.mpr (by kernel_rfl:fnV _ _ qwm _ _ _=_) h)
def qg5:Ann:=F
def qg2:Ann:=.one F
def qqp (u:Option Addr) (o:Nat) (n:Nat) (a:Option Addr) (v:Fn) (p:Array Value) (q:Array Value) (e:List UInt8) (x:Value) (l:Nat) (Kn Kr Kx:World→World→Prop) (w:World):Prop :=
 Ext w w∧∀ b:World,Upd l w b→(dr a fun j =>
 ∃ f d c,b.cell? j=some (L f d c)∧al b 9 [S e] fun k r =>
 app prog [31,31] 31 (L f d c) (.slice (some k) 1 1) r fun i h g s =>
 dr a fun m =>
 stL s m 0 [L i h g] fun t =>
 Kn b t)
theorem qrd (base:Env) (f:Option Addr) (c:Nat) (b:Nat) (a:Option Addr) (g:Fn) (d:Array Value) (e:Array Value) (h:List UInt8) (i:Value) (l:Nat) (Kn Kr Kx:World→World→Prop) (w:World):fragV prog 14 qg5 qg2 (cdAt Tryz.f62 [1,1,0,1,2,5]) (cdAt Tryz.f62 [1,1,0,1,2,6]) l 0 Kn Kr Kx (updPs [7,8] [S h,i] (upd (upd (upd base 6 (.func g d e)) 3 (.pointer a)) 2 (L f c b))) w=qqp f c b a g d e h i l Kn Kr Kx w:=by kernel_rfl
theorem qrh:cdAt Tryz.f62 [1,1,0,1,2]=.rangeFunc (Operand.tmp 6) #[7,8] (cdAt Tryz.f62 [1,1,0,1,2,5]) (cdAt Tryz.f62 [1,1,0,1,2,6]):=by kernel_rfl
def qr3:Ann:=T F (T (T F (.one (.loop 34359736656 [(11,.one (.int .i64))] (T F (T (T F F) (T (.one (T F (T F (.one (.loop 17179738384 [(17,.one (.int .i64))] (T F (T (T F F) (T (.one (T F (T (T F (T F F)) (T F (T (T F F) F))))) F)))))))) F)))))) (T F F))
def qqa (e:List UInt8) (x:Option Addr) (y:Option Addr) (R:Ending→World→Prop) (w:World):Prop :=
 dr x fun I =>
 ∃ G k H,w.cell? I=some (L G k H)∧(∃ (l:Int→World→Nat→Prop),(∃ A,l 0 w A)∧∀ b m v,l b m v→∀ _:Env,(br (decide ((b:Int) < (k))) (idx G k b 1 fun D =>
 ∃ h d i,m.cell? D=some (L h d i)∧∃ (f:Int→World→Nat→Prop),(∃ C,f 0 m C)∧∀ a c g,f a c g→∀ _:Env,(br (decide ((a:Int) < (d))) (idx h d a 1 fun E =>
 ∃ j,c.cell? E=some (S j)∧br (decide (j=e)) (∃ n,n < v∧l (i64.wrap (b + 1)) c n) (dr y fun F =>
 ∃ s,c.cell? F=some (s)∧∃ t,lkAt prog 95 s (S j) c (B t)∧br (!t) (Calls prog 34 ⟨[L h d i,S e]⟩ c fun z r =>
 ∃ u,z=.returned (B u)∧br u (R (.returned (B false)) r) (∃ o,o < g∧f (i64.wrap (a + 1)) r o)) (∃ p,p < g∧f (i64.wrap (a + 1)) c p))) (∃ q,q < v∧l (i64.wrap (b + 1)) c q))) (R (.returned (B true)) m)))
theorem qt9 {a b c R w} (h:qqa a b c R w):Calls prog qjc ⟨[S a,.pointer b,.pointer c]⟩ w R:=qe Tryz.func63 (Eq.mpr (by kernel_rfl:fnV _ _ qr3 _ _ _=_) h)
def qr2:Ann:=T F (T (T F (.one (.loop 8589932888 [(11,.one (.int .i64))] (T F (T (T F F) (T (.one (T F (T F (.one (.loop 4294836504 [(17,.one (.int .i64))] (T F (T (T F F) (T (.one (T F (T F (T (T F F) F)))) F)))))))) F)))))) (T F F))
def qp9 (v:Option Addr) (x:Option Addr) (y:Option Addr) (R:Ending→World→Prop) (w:World):Prop :=
 dr v fun M =>
 ∃ J j K,w.cell? M=some (L J j K)∧(∃ (u:Int→World→Nat→Prop),(∃ C,u 0 w C)∧∀ c k E,u c k E→∀ _:Env,(br (decide ((c:Int) < (j))) (idx J j c 1 fun F =>
 ∃ p d z,k.cell? F=some (L p d z)∧∃ (e:Int→World→Nat→Prop),(∃ D,e 0 k D)∧∀ a b g,e a b g→∀ _:Env,(br (decide ((a:Int) < (d))) (idx p d a 1 fun G =>
 ∃ f,b.cell? G=some (S f)∧dr x fun H =>
 ∃ q,b.cell? H=some (q)∧∃ r,lkAt prog 95 q (S f) b (B r)∧br (!r) (dr y fun I =>
 ∃ s h i,b.cell? I=some (.func s h i)∧CallV prog (.func s h i) [S f] b fun A o =>
 ∃ t,A=.returned (B t)∧br t (R (.returned (.tuple ⟨[S f,B true]⟩)) o) (∃ l,l < g∧e (i64.wrap (a + 1)) o l)) (∃ m,m < g∧e (i64.wrap (a + 1)) b m)) (∃ n,n < E∧u (i64.wrap (c + 1)) b n))) (R (.returned (.tuple ⟨[S [],B false]⟩)) k)))
theorem qt8 {a b c R w} (h:qp9 a b c R w):Calls prog qjb ⟨[.pointer a,.pointer b,.pointer c]⟩ w R:=qe Tryz.func64 (Eq.mpr (by kernel_rfl:fnV _ _ qr2 _ _ _=_) h)
def q2j:Ann:=T F (T F (T (T F (.one (.loop 67108824 [(3,.one (.slice)),(4,.one (.int .i64))] (T (T F (T F F)) (T (.one (T F (T F F))) F))))) (T F F)))
def q1d (h:Option Addr) (e:Nat) (v:Nat) (R:Ending→World→Prop) (w:World):Prop :=
 al w 9 [] fun y z =>
 ∃ (g:Option Addr→Nat→Nat→Int→World→Nat→Prop),(∃ x,g (some y) 0 0 0 z x)∧∀ c b a d f o,g c b a d f o→∀ _:Env,(br (decide ((d:Int) < ((e:Int)))) (idx h e d 4 fun q =>
 ∃ k,f.cell? (q.add 0)=some (I k)∧br (decide (k=4)) (idx h e d 4 fun r =>
 ∃ l,f.cell? (r.add 1)=some (S l)∧al f 9 [S l] fun s t =>
 app prog [31,31] 31 (L c b a) (.slice (some s) 1 1) t fun p n m u =>
 ∃ i,i < o∧g p n m (i64.wrap (d + 1)) u i) (∃ j,j < o∧g c b a (i64.wrap (d + 1)) f j)) (R (.returned (L c b a)) f))
theorem q57 {c b a R w} (h:q1d c b a R w):Calls prog qsp ⟨[L c b a]⟩ w R:=qe Tryz.func65 (Eq.mpr (by kernel_rfl:fnV _ _ q2j _ _ _=_) h)
def q2i:Ann:=T F (T (T F (.one (.loop 524272 [(5,.one (.int .i64))] (T (T F (T F F)) (T (.one (T F (T (T F F) F))) F))))) (T F F))
def q1c (f:Option Addr) (b:Nat) (j:Nat) (h:List UInt8) (R:Ending→World→Prop) (w:World):Prop :=
 ∃ (e:Int→World→Nat→Prop),(∃ k,e 0 w k)∧∀ a c g,e a c g→∀ _:Env,(br (decide ((a:Int) < ((b:Int)))) (idx f b a 1 fun l =>
 ∃ i,c.cell? l=some (S i)∧br (decide (i=h)) (R (.returned (I a)) c) (∃ d,d < g∧e (i64.wrap (a + 1)) c d)) (R (.returned (.int .i64 ((-1)))) c))
theorem q56 {c b a d R w} (h:q1c c b a d R w):Calls prog qso ⟨[L c b a,S d]⟩ w R:=qe Tryz.func66 (Eq.mpr (by kernel_rfl:fnV _ _ q2i _ _ _=_) h)
def an_slices_ContainsFunc_of_api_Witness_api_Witness:Ann:=T F (T F F)
def sh_slices_ContainsFunc_of_api_Witness_api_Witness (f:Option Addr) (d:Nat) (c:Nat) (e:Fn) (a:Array Value) (b:Array Value) (R:Ending→World→Prop) (w:World):Prop :=
 Calls prog 117 ⟨[L f d c,.func e a b]⟩ w fun h i =>
 ∃ g,h=.returned (I g)∧(R (.returned (.bool (decide ((0:Int)≤g)))) i)
theorem c_slices_ContainsFunc_of_api_Witness_api_Witness {f d c e a b R w} (h:sh_slices_ContainsFunc_of_api_Witness_api_Witness f d c e a b R w):Calls prog F_slices_ContainsFunc_of_api_Witness_api_Witness ⟨[L f d c,.func e a b]⟩ w R:=qe Tryz.func69 (Eq.mpr (by kernel_rfl:fnV _ _ an_slices_ContainsFunc_of_api_Witness_api_Witness _ _ _=_) h)
def q0i:Ann:=T F (T F F)
def qx9 (p:List UInt8) (q:Option Addr) (m:Nat) (l:Nat) (R:Ending→World→Prop) (w:World):Prop :=
 al w 45 [S p,L q m l] fun d k =>
 ∃ r,k.cell? (d.add 0)=some (S r)∧(∃ s j i,k.cell? (d.add 1)=some (L s j i)∧al k 45 [S r,L s j i] fun u v =>
 Calls prog 11 ⟨[.slice (some u) 1 1]⟩ v fun t a =>
 ∃ e,t=.returned (B e)∧br e (R (.returned (B true)) a) (∃ f,a.cell? (d.add 0)=some (S f)∧∃ g c b,a.cell? (d.add 1)=some (L g c b)∧Calls prog 43 ⟨[.agg ⟨[S f,L g c b]⟩]⟩ a fun n o =>
 ∃ h,n=.returned (I h)∧R (.returned (.bool (decide (h≠0)))) o))
theorem q2f {c d b a R w} (h:qx9 c d b a R w):Calls prog qij ⟨[.agg ⟨[S c,L d b a]⟩]⟩ w R:=qe Tryz.func70 (Eq.mpr (by kernel_rfl:fnV _ _ q0i _ _ _=_) h)
def qpl:Ann:=T F (T F (T F (T (T F (.one (.rf [0,2,4,10] 0))) (T (T F (.one (.rf [0,2,28] 0))) (T (T F (T (T F F) F)) (T F F))))))
def qoe (d:Option Addr) (b:Nat) (a:Nat) (R:Ending→World→Prop) (w:World):Prop :=
 al w 28 [I 0] fun c a8 =>
 al a8 3 [I 0] fun Z a9 =>
 stL a9 Z 0 [I 4096] fun b0 =>
 al b0 26 [.nilFunc] fun a0 b1 =>
 stL b1 a0 0 [.func (.func 118) ⟨[]⟩ ⟨[.pointer (some Z)]⟩] fun b2 =>
 Calls prog 119 ⟨[L d b a]⟩ b2 fun U a1 =>
 ∃ D n o,U=.returned (.func D n o)∧(∀ k:Env,RFw prog none 39 (cdAt Tryz.f71 [1,1,1,0,1,2]) (upd (upd (upd (upd k 10 (.func D n o)) 4 (.pointer (some a0))) 2 (.pointer (some c))) 0 (L d b a)) [] a1 0 (fun e h =>
 Calls prog 119 ⟨[L d b a]⟩ h fun X a5 =>
 ∃ K r s,X=.returned (.func K r s)∧∀ m:Env,RFw prog none 39 (cdAt Tryz.f71 [1,1,1,1,0,1,2]) (upd (upd (upd m 28 (.func K r s)) 2 (.pointer (some c))) 0 (L d b a)) e a5 0 (fun g j =>
 Calls prog 121 ⟨[L d b a]⟩ j fun Y y =>
 ∃ M,Y=.returned (S M)∧br (decide ((65536:Int) < ((List.length M:Int)))) (stL y c 0 [I 4] fun a6 =>
 retD g a6 fun z =>
 ∃ N,z.cell? c=some (I N)∧R (.returned (I N)) z) (stL y c 0 [I 0] fun a7 =>
 retD g a7 fun A =>
 ∃ O,A.cell? c=some (I O)∧R (.returned (I O)) A)) (fun g j =>
 retD g j fun B =>
 ∃ Q,B.cell? c=some (I Q)∧R (.returned (I Q)) B) (fun g j =>
 False)) (fun e h =>
 retD e h fun C =>
 ∃ T,C.cell? c=some (I T)∧R (.returned (I T)) C) (fun e h =>
 Calls prog 119 ⟨[L d b a]⟩ h fun V a2 =>
 ∃ E p q,V=.returned (.func E p q)∧∀ l:Env,RFw prog none 39 (cdAt Tryz.f71 [1,1,1,1,0,1,2]) (upd (upd (upd l 28 (.func E p q)) 2 (.pointer (some c))) 0 (L d b a)) e a2 0 (fun f i =>
 Calls prog 121 ⟨[L d b a]⟩ i fun W t =>
 ∃ F,W=.returned (S F)∧br (decide ((65536:Int) < ((List.length F:Int)))) (stL t c 0 [I 4] fun a3 =>
 retD f a3 fun u =>
 ∃ G,u.cell? c=some (I G)∧R (.returned (I G)) u) (stL t c 0 [I 0] fun a4 =>
 retD f a4 fun v =>
 ∃ H,v.cell? c=some (I H)∧R (.returned (I H)) v)) (fun f i =>
 retD f i fun x =>
 ∃ J,x.cell? c=some (I J)∧R (.returned (I J)) x) (fun f i =>
 False)))
theorem qrq {c b a R w} (h:qoe c b a R w):Calls prog qh2 ⟨[L c b a]⟩ w R:=qe Tryz.func71 (Eq.mpr (by kernel_rfl:fnV _ _ qpl _ _ _=_) h)
def qe7:Ann:=F
def qe3:Ann:=.one (T F (T (T F F) F))
def qk8 (N:Option Addr) (M:Nat) (K:Nat) (d:Option Addr) (c:Option Addr) (E:Fn) (x:Array Value) (y:Array Value) (h:Int) (i:List UInt8) (j:Int) (k:Option Addr) (f:Nat) (e:Nat) (m:Int) (n:Bool) (l:Nat) (Kn Kr Kx:World→World→Prop) (w:World):Prop :=
 al w 159 [I 0,S [],I 0,L none 0 0,I 0,B false] fun g F =>
 stL F g 0 [I h,S i,I j,L k f e,I m,B n] fun r =>
 Ext w r∧∀ a:World,Upd l r a→(dr c fun A =>
 ∃ s o p,a.cell? A=some (.func s o p)∧CallV prog (.func s o p) [] a fun z b =>
 ∃ t,z=.returned (B t)∧br (!t) (dr d fun C =>
 stL b C 0 [I 4] fun G =>
 Kr a G) (∃ u,b.cell? (g.add 4)=some (I u)∧br (decide ((16:Int)≤u)) (∃ J q v,b.cell? ((g.add 0).add 3)=some (L J q v)∧br (decide ((0:Int) < (q))) (dr d fun D =>
 stL b D 0 [I 4] fun H =>
 Kr a H) (Kn a b)) (Kn a b)))
theorem qlk (base:Env) (q:Option Addr) (o:Nat) (n:Nat) (p:Option Addr) (a:Option Addr) (f:Fn) (b:Array Value) (c:Array Value) (g:Int) (h:List UInt8) (i:Int) (j:Option Addr) (e:Nat) (d:Nat) (k:Int) (m:Bool) (l:Nat) (Kn Kr Kx:World→World→Prop) (w:World):fragV prog 39 qe7 qe3 (cdAt Tryz.f71 [1,1,1,0,1,2,5]) (cdAt Tryz.f71 [1,1,1,0,1,2,6]) l 0 Kn Kr Kx (updPs [11] [.agg ⟨[I g,S h,I i,L j e d,I k,B m]⟩] (upd (upd (upd (upd base 10 (.func f b c)) 4 (.pointer a)) 2 (.pointer p)) 0 (L q o n))) w=qk8 q o n p a f b c g h i j e d k m l Kn Kr Kx w:=by kernel_rfl
theorem qls:cdAt Tryz.f71 [1,1,1,0,1,2]=.rangeFunc (Operand.tmp 10) #[11] (cdAt Tryz.f71 [1,1,1,0,1,2,5]) (cdAt Tryz.f71 [1,1,1,0,1,2,6]):=by kernel_rfl
def qe6:Ann:=F
def qe2:Ann:=.one (T F (T F (T (T F F) F)))
def qk7 (J:Option Addr) (H:Nat) (G:Nat) (o:Option Addr) (D:Fn) (z:Array Value) (A:Array Value) (e:Int) (f:List UInt8) (g:Int) (h:Option Addr) (d:Nat) (c:Nat) (i:Int) (j:Bool) (l:Nat) (Kn Kr Kx:World→World→Prop) (w:World):Prop :=
 al w 159 [I 0,S [],I 0,L none 0 0,I 0,B false] fun b E =>
 stL E b 0 [I e,S f,I g,L h d c,I i,B j] fun p =>
 Ext w p∧∀ a:World,Upd l p a→(∃ r,a.cell? (b.add 0)=some (I r)∧∃ s,a.cell? (b.add 1)=some (S s)∧∃ t,a.cell? (b.add 2)=some (I t)∧∃ u m k,a.cell? (b.add 3)=some (L u m k)∧∃ v,a.cell? (b.add 4)=some (I v)∧∃ x,a.cell? (b.add 5)=some (B x)∧Calls prog 120 ⟨[.agg ⟨[I r,S s,I t,L u m k,I v,B x]⟩]⟩ a fun C q =>
 ∃ n,C=.returned (I n)∧br (decide (n≠0)) (dr o fun y =>
 stL q y 0 [I n] fun F =>
 Kr a F) (Kn a q))
theorem qlj (base:Env) (p:Option Addr) (n:Nat) (m:Nat) (o:Option Addr) (e:Fn) (a:Array Value) (b:Array Value) (f:Int) (g:List UInt8) (h:Int) (i:Option Addr) (d:Nat) (c:Nat) (j:Int) (k:Bool) (l:Nat) (Kn Kr Kx:World→World→Prop) (w:World):fragV prog 39 qe6 qe2 (cdAt Tryz.f71 [1,1,1,1,0,1,2,5]) (cdAt Tryz.f71 [1,1,1,1,0,1,2,6]) l 0 Kn Kr Kx (updPs [29] [.agg ⟨[I f,S g,I h,L i d c,I j,B k]⟩] (upd (upd (upd base 28 (.func e a b)) 2 (.pointer o)) 0 (L p n m))) w=qk7 p n m o e a b f g h i d c j k l Kn Kr Kx w:=by kernel_rfl
theorem qlr:cdAt Tryz.f71 [1,1,1,1,0,1,2]=.rangeFunc (Operand.tmp 28) #[29] (cdAt Tryz.f71 [1,1,1,1,0,1,2,5]) (cdAt Tryz.f71 [1,1,1,1,0,1,2,6]):=by kernel_rfl
def quw:Ann:=T F (T F F)
def qti (f:Option Addr) (e:Nat) (d:Nat) (a:Int) (R:Ending→World→Prop) (w:World):Prop :=
 al w 3 [I a] fun i j =>
 Calls prog 122 ⟨[L f e d,.func (.func 123) ⟨[]⟩ ⟨[.pointer (some i)]⟩]⟩ j fun h k =>
 ∃ g c b,h=.returned (L g c b)∧(R (.returned (L g c b)) k)
theorem qkd {d c b a R w} (h:qti d c b a R w):Calls prog qf6 ⟨[L d c b,I a]⟩ w R:=qe Tryz.func72 (Eq.mpr (by kernel_rfl:fnV _ _ quw _ _ _=_) h)
def qz7:Ann:=T F (T (T F (.one (.rf [2,3,4,5,6,11] 0))) (T F F))
def qxy (T:Option Addr) (O:Nat) (N:Nat) (d:List UInt8) (R:Ending→World→Prop) (w:World):Prop :=
 al w 43 [L T O N] fun U a4 =>
 al a4 9 [S d] fun a3 a5 =>
 al a5 43 [L none 0 0] fun i a6 =>
 al a6 51 [S [],I 0] fun c V =>
 al V 4 [B false] fun b u =>
 ∃ v l k,u.cell? U=some (L v l k)∧(Calls prog 91 ⟨[L v l k]⟩ u fun Q W =>
 ∃ x m n,Q=.returned (.func x m n)∧∀ j:Env,RFw prog none 44 (cdAt Tryz.f73 [1,0,1,2]) (upd (upd (upd (upd (upd (upd j 11 (.func x m n)) 6 (.pointer (some b))) 5 (.pointer (some c))) 4 (.pointer (some i))) 3 (.pointer (some a3))) 2 (.pointer (some U))) [] W 0 (fun a e =>
 stL e i 0 [L none 0 0] fun a0 =>
 stL a0 c 0 [S [],I 0] fun a1 =>
 stL a1 b 0 [B false] fun a2 =>
 retD a a2 fun g =>
 ∃ D r q,g.cell? i=some (L D r q)∧∃ E,g.cell? (c.add 0)=some (S E)∧∃ F,g.cell? (c.add 1)=some (I F)∧∃ G,g.cell? b=some (B G)∧R (.returned (.tuple ⟨[L D r q,.agg ⟨[S E,I F]⟩,B G]⟩)) g) (fun a e =>
 retD a e fun h =>
 ∃ H t s,h.cell? i=some (L H t s)∧∃ J,h.cell? (c.add 0)=some (S J)∧∃ K,h.cell? (c.add 1)=some (I K)∧∃ M,h.cell? b=some (B M)∧R (.returned (.tuple ⟨[L H t s,.agg ⟨[S J,I K]⟩,B M]⟩)) h) (fun a e =>
 stL e i 0 [L none 0 0] fun X =>
 stL X c 0 [S [],I 0] fun Y =>
 stL Y b 0 [B false] fun Z =>
 retD a Z fun f =>
 ∃ y p o,f.cell? i=some (L y p o)∧∃ z,f.cell? (c.add 0)=some (S z)∧∃ A,f.cell? (c.add 1)=some (I A)∧∃ C,f.cell? b=some (B C)∧R (.returned (.tuple ⟨[L y p o,.agg ⟨[S z,I A]⟩,B C]⟩)) f))
theorem q14 {d c b a R w} (h:qxy d c b a R w):Calls prog qnq ⟨[L d c b,S a]⟩ w R:=qe Tryz.func73 (Eq.mpr (by kernel_rfl:fnV _ _ qz7 _ _ _=_) h)
def qht:Ann:=T F F
def qhr:Ann:=.one (T (T F (T F F)) (T F (.cut 8589410816 [(9,.one (.int .i64))] (.one (.loop 8589410816 [(9,.one (.int .i64))] (T (T F (T F F)) (.one F)))) (T (.one F) F))))
def qtm (d:Option Addr) (g:Option Addr) (h:Option Addr) (i:Option Addr) (j:Option Addr) (c1:Fn) (a1:Array Value) (a2:Array Value) (q:List UInt8) (b:Int) (l:Nat) (Kn Kr Kx:World→World→Prop) (w:World):Prop :=
 Ext w w∧∀ e:World,Upd l w e→(dr g fun a8 =>
 ∃ D,e.cell? a8=some (S D)∧br (decide ((q:List UInt8)≠D)) (Kn e e) (∀ (n:Int→World→Prop),(∀ (c:Int) (A:World),(∀ _:Env,(drw A fun k =>
 dr d fun a9 =>
 ∃ E W r,k.cell? a9=some (L E W r)∧sls E r 0 b 4 fun x p o =>
 (dr d fun b0 =>
 ∃ F X s,k.cell? b0=some (L F X s)∧sls F s (i64.wrap (b + 1)) c 4 fun a3 T Q =>
 (Calls prog 125 ⟨[.agg ⟨[S [],I 0]⟩,L x p o]⟩ k fun a5 c2 =>
 ∃ G H,a5=.returned (.agg ⟨[S G,I H]⟩)∧((dr h fun b1 =>
 stL c2 b1 0 [L a3 T Q] fun c3 =>
 (dr i fun b2 =>
 stL c3 b2 0 [S G,I H] fun c4 =>
 (dr j fun b3 =>
 stL c4 b3 0 [B true] fun c5 =>
 Kr e c5)∧True)∧True)∧True))∧True)∧(Calls prog 125 ⟨[.agg ⟨[S [],I 0]⟩,L x p o]⟩ k fun a6 C =>
 ∃ J K,a6=.returned (.agg ⟨[S J,I K]⟩)∧dr d fun b4 =>
 ∃ M Y t,C.cell? b4=some (L M Y t)∧sls M t (i64.wrap (b + 1)) c 4 fun a4 V U =>
 (dr h fun b5 =>
 stL C b5 0 [L a4 V U] fun c6 =>
 (dr i fun b6 =>
 stL c6 b6 0 [S J,I K] fun c7 =>
 (dr j fun b7 =>
 stL c7 b7 0 [B true] fun c8 =>
 Kr e c8)∧True)∧True)∧True)∧True))→n c A)→(∃ (m:Int→World→Nat→Prop),(∃ a7,m (i64.wrap (b + 1)) e a7)∧∀ a f y,m a f y→∀ _:Env,(dr d fun b8 =>
 ∃ c9 u Z,f.cell? b8=some (L c9 u Z)∧br (decide ((a:Int) < (u))) (dr d fun b9 =>
 ∃ N v a0,f.cell? b9=some (L N v a0)∧idx N v a 4 fun c0 =>
 ∃ O,f.cell? (c0.add 0)=some (I O)∧br (decide (O≠4)) (∃ z,z < y∧m (i64.wrap (a + 1)) f z) (n a f)) (n a f)))))
theorem qtx (base:Env) (j:Option Addr) (a:Option Addr) (g:Option Addr) (h:Option Addr) (i:Option Addr) (d:Fn) (b:Array Value) (c:Array Value) (e:List UInt8) (f:Int) (l:Nat) (Kn Kr Kx:World→World→Prop) (w:World):fragV prog 44 qht qhr (cdAt Tryz.f73 [1,0,1,2,5]) (cdAt Tryz.f73 [1,0,1,2,6]) l 0 Kn Kr Kx (updPs [12,13] [S e,I f] (upd (upd (upd (upd (upd (upd base 11 (.func d b c)) 6 (.pointer i)) 5 (.pointer h)) 4 (.pointer g)) 3 (.pointer a)) 2 (.pointer j))) w=qtm j a g h i d b c e f l Kn Kr Kx w:=by kernel_rfl
theorem qt4:cdAt Tryz.f73 [1,0,1,2]=.rangeFunc (Operand.tmp 11) #[12,13] (cdAt Tryz.f73 [1,0,1,2,5]) (cdAt Tryz.f73 [1,0,1,2,6]):=by kernel_rfl
def qdn:Ann:=T F (T (T F (T (T F F) F)) (T F F))
def qdk (a:Option Addr) (c:Nat) (b:Nat) (R:Ending→World→Prop) (w:World):Prop :=
 br (Option.isNone a) (R (.returned (L none 0 0)) w) (al w 56 [] fun g h =>
 app prog [43,43] 43 (.slice (some g) 0 0) (L a c b) h fun f e d i =>
 R (.returned (L f e d)) i)
theorem qdv {c b a R w} (h:qdk c b a R w):Calls prog qbb ⟨[L c b a]⟩ w R:=qe Tryz.func74 (Eq.mpr (by kernel_rfl:fnV _ _ qdn _ _ _=_) h)
def qav:Ann:=T F (T (T F (T (T F F) F)) (T (T F (.one (.loop 4294837184 [(17,.one (.int .i64))] (T F (T (T F F) (T (.one (T F (T F (T F (T (T F F) F))))) F)))))) (T F F)))
def qau (W:Option Addr) (c:Nat) (a2:Nat) (X:Option Addr) (i:Nat) (a3:Nat) (V:Fn) (r:Array Value) (s:Array Value) (R:Ending→World→Prop) (w:World):Prop :=
 br (decide ((((c:Int)):Int)≠((i:Int)))) (R (.returned (B false)) w) (∃ (U:Int→World→Nat→Prop),(∃ a4,U 0 w a4)∧∀ a g Z,U a g Z→∀ _:Env,(br (decide ((a:Int) < ((c:Int)))) (idx W c a 4 fun t =>
 ∃ x,g.cell? (t.add 0)=some (I x)∧∃ y,g.cell? (t.add 1)=some (S y)∧∃ z,g.cell? (t.add 2)=some (I z)∧∃ A k j,g.cell? (t.add 3)=some (L A k j)∧al g 56 [I 0,S [],I 0,L none 0 0] fun d a0 =>
 stL a0 d 0 [I x,S y,I z,L A k j] fun f =>
 idx X i a 4 fun h =>
 ∃ C,f.cell? (h.add 0)=some (I C)∧∃ D,f.cell? (h.add 1)=some (S D)∧∃ E,f.cell? (h.add 2)=some (I E)∧∃ F m l,f.cell? (h.add 3)=some (L F m l)∧al f 56 [I 0,S [],I 0,L none 0 0] fun e a1 =>
 stL a1 e 0 [I C,S D,I E,L F m l] fun b =>
 ∃ G,b.cell? (d.add 0)=some (I G)∧∃ H,b.cell? (d.add 1)=some (S H)∧∃ J,b.cell? (d.add 2)=some (I J)∧∃ K o n,b.cell? (d.add 3)=some (L K o n)∧∃ M,b.cell? (e.add 0)=some (I M)∧∃ N,b.cell? (e.add 1)=some (S N)∧∃ O,b.cell? (e.add 2)=some (I O)∧∃ Q q p,b.cell? (e.add 3)=some (L Q q p)∧CallV prog (.func V r s) [.agg ⟨[I G,S H,I J,L K o n]⟩,.agg ⟨[I M,S N,I O,L Q q p]⟩] b fun Y v =>
 ∃ T,Y=.returned (B T)∧br (!T) (R (.returned (B false)) v) (∃ u,u < Z∧U (i64.wrap (a + 1)) v u)) (R (.returned (B true)) g)))
theorem qay {i d c j f e g a b R w} (h:qau i d c j f e g a b R w):Calls prog qa0 ⟨[L i d c,L j f e,.func g a b]⟩ w R:=qe Tryz.func75 (Eq.mpr (by kernel_rfl:fnV _ _ qav _ _ _=_) h)
def qne:Ann:=T F (T F F)
def qm2 (y:Int) (z:List UInt8) (A:Int) (C:Option Addr) (r:Nat) (q:Nat) (D:Int) (E:List UInt8) (F:Int) (G:Option Addr) (t:Nat) (s:Nat) (R:Ending→World→Prop) (w:World):Prop :=
 al w 56 [I y,S z,I A,L C r q] fun g v =>
 al v 56 [I D,S E,I F,L G t s] fun b a =>
 ∃ h,a.cell? (g.add 0)=some (I h)∧(∃ i,a.cell? (b.add 0)=some (I i)∧br (decide (h=i)) (∃ j,a.cell? (g.add 1)=some (S j)∧∃ k,a.cell? (b.add 1)=some (S k)∧br (decide (j=k)) (∃ l,a.cell? (g.add 2)=some (I l)∧∃ m,a.cell? (b.add 2)=some (I m)∧br (decide (l=m)) (∃ n d c,a.cell? (g.add 3)=some (L n d c)∧∃ o f e,a.cell? (b.add 3)=some (L o f e)∧Calls prog 32 ⟨[L n d c,L o f e]⟩ a fun u x =>
 ∃ p,u=.returned (B p)∧R (.returned (B p)) x) (R (.returned (B false)) a)) (R (.returned (B false)) a)) (R (.returned (B false)) a))
theorem qo7 {e f g i b a j k l m d c R w} (h:qm2 e f g i b a j k l m d c R w):Calls prog qhb ⟨[.agg ⟨[I e,S f,I g,L i b a]⟩,.agg ⟨[I j,S k,I l,L m d c]⟩]⟩ w R:=qe Tryz.func76 (Eq.mpr (by kernel_rfl:fnV _ _ qne _ _ _=_) h)
def qsd:Ann:=T F (T (T F (T (T F F) F)) (T (T F (.one (.loop 2095156 [(11,.one (.int .i64))] (T F (T (T F F) (T (.one (T F (T F (T F (T (T F F) F))))) F)))))) (T F F)))
def qqk (c:Option Addr) (a:Nat) (m:Nat) (R:Ending→World→Prop) (w:World):Prop :=
 br (decide ((64:Int) < ((a:Int)))) (R (.returned (I 4)) w) (∃ (l:Int→World→Nat→Prop),(∃ t,l 0 w t)∧∀ b f o,l b f o→∀ _:Env,(br (decide ((b:Int) < ((a:Int)))) (idx c a b 2 fun p =>
 ∃ r,f.cell? (p.add 0)=some (S r)∧∃ s,f.cell? (p.add 1)=some (S s)∧al f 91 [S [],S []] fun d q =>
 stL q d 0 [S r,S s] fun e =>
 ∃ j,e.cell? (d.add 0)=some (S j)∧∃ k,e.cell? (d.add 1)=some (S k)∧Calls prog 126 ⟨[.agg ⟨[S j,S k]⟩]⟩ e fun n i =>
 ∃ g,n=.returned (I g)∧br (decide (g≠0)) (R (.returned (I g)) i) (∃ h,h < o∧l (i64.wrap (b + 1)) i h)) (R (.returned (I 0)) f)))
theorem quj {c b a R w} (h:qqk c b a R w):Calls prog qjl ⟨[L c b a]⟩ w R:=qe Tryz.func77 (Eq.mpr (by kernel_rfl:fnV _ _ qsd _ _ _=_) h)
def qr6:Ann:=T F (T F F)
def qqd (a:List UInt8) (R:Ending→World→Prop) (w:World):Prop :=
 br (decide ((a:List UInt8)=([]))) (R (.returned (B true)) w) (Calls prog 90 ⟨[S a]⟩ w fun c d =>
 ∃ b,c=.returned (B b)∧R (.returned (B b)) d)
theorem quc {a R w} (h:qqd a R w):Calls prog qje ⟨[S a]⟩ w R:=qe Tryz.func78 (Eq.mpr (by kernel_rfl:fnV _ _ qr6 _ _ _=_) h)
def qpk:Ann:=T F (T (T F (T (T F F) F)) (.cut 129072 [(4,.one (.int .i64)),(5,.one (.int .i64))] (T F (T (T F F) F)) (T F (T (T F (.one (.rf [3,4,5,6,18] 0))) (T F F)))))
def qod (m:Option Addr) (j:Nat) (i:Nat) (h:Int) (R:Ending→World→Prop) (w:World):Prop :=
 al w 3 [I h] fun t F =>
 Calls prog 71 ⟨[L m j i]⟩ F fun E f =>
 ∃ D,E=.returned (I D)∧(br (decide (D≠0)) (R (.returned (.tuple ⟨[I 0,I 1]⟩)) f) (∀ (u:Int→Int→World→Prop),(∀ (d:Int) (c:Int) (n:World),(∀ _:Env,(al n 3 [I 0] fun e x =>
 stL x e 0 [I 0] fun y =>
 Calls prog 119 ⟨[L m j i]⟩ y fun v z =>
 ∃ o k l,v=.returned (.func o k l)∧∀ g:Env,RFw prog none 28 (cdAt Tryz.f79 [1,1,1,1,0,1,2]) (upd (upd (upd (upd (upd g 18 (.func o k l)) 6 (.pointer (some e))) 5 (I c)) 4 (I d)) 3 (.pointer (some t))) [] z 0 (fun a b =>
 ∃ q,b.cell? e=some (I q)∧retD a b fun B =>
 R (.returned (.tuple ⟨[I q,I 0]⟩)) B) (fun a b =>
 retD a b fun C =>
 R (.returned (.tuple ⟨[I d,I c]⟩)) C) (fun a b =>
 ∃ p,b.cell? e=some (I p)∧retD a b fun A =>
 R (.returned (.tuple ⟨[I p,I 0]⟩)) A)))→u d c n)→(∃ r,f.cell? t=some (I r)∧br (decide (r < 1)) (R (.returned (.tuple ⟨[I 0,I 8]⟩)) f) (∃ s,f.cell? t=some (I s)∧br (decide ((11:Int) < s)) (R (.returned (.tuple ⟨[I 0,I 8]⟩)) f) (u 0 0 f)))))
theorem qrp {d c b a R w} (h:qod d c b a R w):Calls prog qh1 ⟨[L d c b,I a]⟩ w R:=qe Tryz.func79 (Eq.mpr (by kernel_rfl:fnV _ _ qpk _ _ _=_) h)
def qe5:Ann:=F
def qe1:Ann:=.one (T F (T F F))
def qk6 (b:Option Addr) (A:Int) (C:Int) (e:Option Addr) (x:Fn) (r:Array Value) (s:Array Value) (f:Int) (g:List UInt8) (h:Int) (i:Option Addr) (d:Nat) (c:Nat) (j:Int) (k:Bool) (l:Nat) (Kn Kr Kx:World→World→Prop) (w:World):Prop :=
 al w 159 [I 0,S [],I 0,L none 0 0,I 0,B false] fun m y =>
 stL y m 0 [I f,S g,I h,L i d c,I j,B k] fun n =>
 Ext w n∧∀ a:World,Upd l n a→(∃ o,a.cell? ((m.add 0).add 0)=some (I o)∧dr b fun t =>
 ∃ p,a.cell? t=some (I p)∧br (decide (o=p)) (dr e fun u =>
 ∃ q,a.cell? u=some (I q)∧dr e fun v =>
 stL a v 0 [.int .i64 (i64.wrap (q + 1))] fun z =>
 Kn a z) (Kn a a))
theorem qli (base:Env) (a:Option Addr) (n:Int) (o:Int) (p:Option Addr) (f:Fn) (b:Array Value) (c:Array Value) (g:Int) (h:List UInt8) (i:Int) (j:Option Addr) (e:Nat) (d:Nat) (k:Int) (m:Bool) (l:Nat) (Kn Kr Kx:World→World→Prop) (w:World):fragV prog 28 qe5 qe1 (cdAt Tryz.f79 [1,1,1,1,0,1,2,5]) (cdAt Tryz.f79 [1,1,1,1,0,1,2,6]) l 0 Kn Kr Kx (updPs [19] [.agg ⟨[I g,S h,I i,L j e d,I k,B m]⟩] (upd (upd (upd (upd (upd base 18 (.func f b c)) 6 (.pointer p)) 5 (I o)) 4 (I n)) 3 (.pointer a))) w=qk6 a n o p f b c g h i j e d k m l Kn Kr Kx w:=by kernel_rfl
theorem qlq:cdAt Tryz.f79 [1,1,1,1,0,1,2]=.rangeFunc (Operand.tmp 18) #[19] (cdAt Tryz.f79 [1,1,1,1,0,1,2,5]) (cdAt Tryz.f79 [1,1,1,1,0,1,2,6]):=by kernel_rfl
def qr8:Ann:=T F (T F F)
def qqf (a:List UInt8) (b:Int) (e:Option Addr) (d:Nat) (c:Nat) (R:Ending→World→Prop) (w:World):Prop :=
 al w 51 [S a,I b] fun f h =>
 al h 43 [L e d c] fun g i =>
 R (.returned (.func (.func 127) ⟨[]⟩ ⟨[.pointer (some f),.pointer (some g)]⟩)) i
theorem que {a b e d c R w} (h:qqf a b e d c R w):Calls prog qjg ⟨[.agg ⟨[S a,I b]⟩,L e d c]⟩ w R:=qe Tryz.func80 (Eq.mpr (by kernel_rfl:fnV _ _ qr8 _ _ _=_) h)
def qi3:Ann:=T F (T F (.one (T F (T F (T F (T (T F (T F (.cut 128849018896 [(4,.one (.int .i64))] (T F (T F F)) (T F F)))) (T F F)))))))
def qip (a:Option Addr) (f3:Int) (f4:Int) (f5:Int) (f6:List UInt8) (f7:Int) (f8:Bool) (f9:List UInt8) (R:Ending→World→Prop) (w:World):Prop :=
 al w 123 [I f3,.int .u8 f4,I f5,S f6,I f7,B f8,S f9] fun b d =>
 ∃ n,d.cell? (b.add 0)=some (I n)∧(br (decide (n=1)) (∃ q,d.cell? (b.add 0)=some (I q)∧∃ r,d.cell? (b.add 1)=some (.int .u8 r)∧∃ s,d.cell? (b.add 2)=some (I s)∧∃ t,d.cell? (b.add 3)=some (S t)∧∃ u,d.cell? (b.add 4)=some (I u)∧∃ v,d.cell? (b.add 5)=some (B v)∧∃ x,d.cell? (b.add 6)=some (S x)∧Calls prog 129 ⟨[.pointer a,.agg ⟨[I q,.int .u8 r,I s,S t,I u,B v,S x]⟩]⟩ d fun a3 d1 =>
 a3=.returned (.tuple ⟨[]⟩)∧R (.returned (.tuple ⟨[]⟩)) d1) (br (decide (n=6)) (Calls prog 82 ⟨[.pointer a]⟩ d fun a4 l =>
 a4=.returned (.tuple ⟨[]⟩)∧∀ (h:Int→World→Prop),(∀ (f:Int) (e:World),(∀ _:Env,(∃ y,e.cell? (b.add 0)=some (I y)∧∃ z,e.cell? (b.add 1)=some (.int .u8 z)∧∃ A,e.cell? (b.add 2)=some (I A)∧∃ C,e.cell? (b.add 3)=some (S C)∧∃ D,e.cell? (b.add 4)=some (I D)∧∃ E,e.cell? (b.add 5)=some (B E)∧∃ F,e.cell? (b.add 6)=some (S F)∧Calls prog 130 ⟨[.pointer a,.agg ⟨[I y,.int .u8 z,I A,S C,I D,B E,S F]⟩,I f]⟩ e fun a5 d2 =>
 a5=.returned (.tuple ⟨[]⟩)∧drw d2 fun g =>
 (Calls prog 131 ⟨[.pointer a]⟩ g fun a6 o =>
 ∃ G,a6=.returned (.pointer G)∧∃ H,o.cell? (b.add 2)=some (I H)∧((Calls prog 59 ⟨[I H]⟩ o fun a7 d3 =>
 ∃ J,a7=.returned (S J)∧(sadd ([91]) J fun c5 =>
 sadd c5 ([93]) fun c6 =>
 dr G fun b3 =>
 (stL d3 (b3.add 0) 0 [S c6] fun d4 =>
 R (.returned (.tuple ⟨[]⟩)) d4)∧True))∧True))∧((Calls prog 131 ⟨[.pointer a]⟩ g fun a8 p =>
 ∃ K,a8=.returned (.pointer K)∧∃ L,p.cell? (b.add 2)=some (I L)∧((Calls prog 59 ⟨[I L]⟩ p fun a9 d5 =>
 ∃ M,a9=.returned (S M)∧(sadd ([91]) M fun c7 =>
 sadd c7 ([93]) fun c8 =>
 dr K fun b4 =>
 (stL d5 (b4.add 0) 0 [S c8] fun d6 =>
 R (.returned (.tuple ⟨[]⟩)) d6)∧True))∧True))∧(∃ N,g.cell? (b.add 2)=some (I N)∧((Calls prog 131 ⟨[.pointer a]⟩ g fun b0 d7 =>
 ∃ O,b0=.returned (.pointer O)∧((Calls prog 59 ⟨[I N]⟩ d7 fun b1 d8 =>
 ∃ Q,b1=.returned (S Q)∧(sadd ([91]) Q fun c9 =>
 sadd c9 ([93]) fun d0 =>
 dr O fun b5 =>
 (stL d8 (b5.add 0) 0 [S d0] fun d9 =>
 R (.returned (.tuple ⟨[]⟩)) d9)∧True))∧True))∧True))∧True)∧True))→h f e)→(∃ T,l.cell? (b.add 5)=some (B T)∧br T (h (bitO .i64 2 1) l) (h 2 l))) (Calls prog 82 ⟨[.pointer a]⟩ d fun b2 e0 =>
 b2=.returned (.tuple ⟨[]⟩)∧drw e0 fun c =>
 dr a fun b6 =>
 ∃ U,c.cell? (b6.add 5)=some (B U)∧br U ((dr a fun b7 =>
 (stL c (b7.add 4) 0 [B false] fun e1 =>
 dr a fun b8 =>
 (stL e1 (b8.add 5) 0 [B true] fun e2 =>
 R (.returned (.tuple ⟨[]⟩)) e2)∧True)∧True)∧(dr a fun i =>
 ((stL c (i.add 4) 0 [B false] fun e3 =>
 dr a fun b9 =>
 (stL e3 (b9.add 5) 0 [B true] fun e4 =>
 R (.returned (.tuple ⟨[]⟩)) e4)∧True)∧True)∧(((stL c (i.add 4) 0 [B false] fun e5 =>
 dr a fun c0 =>
 (stL e5 (c0.add 5) 0 [B true] fun e6 =>
 R (.returned (.tuple ⟨[]⟩)) e6)∧True)∧True)∧(stL c (i.add 4) 0 [B false] fun e7 =>
 dr a fun c1 =>
 (stL e7 (c1.add 5) 0 [B true] fun e8 =>
 R (.returned (.tuple ⟨[]⟩)) e8)∧True)∧True)∧True)∧True) ((∃ V,c.cell? (b.add 0)=some (I V)∧dr a fun c2 =>
 (stL c (c2.add 4) 0 [B false] fun e9 =>
 dr a fun c3 =>
 (stL e9 (c3.add 5) 0 [.bool (decide (V=5))] fun f0 =>
 R (.returned (.tuple ⟨[]⟩)) f0)∧True)∧True)∧(dr a fun j =>
 (∃ W,c.cell? (b.add 0)=some (I W)∧((stL c (j.add 4) 0 [B false] fun f1 =>
 dr a fun c4 =>
 (stL f1 (c4.add 5) 0 [.bool (decide (W=5))] fun f2 =>
 R (.returned (.tuple ⟨[]⟩)) f2)∧True)∧True))∧((∃ X,c.cell? (b.add 0)=some (I X)∧((stL c (j.add 4) 0 [B false] fun a0 =>
 dr a fun Y =>
 (stL a0 (Y.add 5) 0 [.bool (decide (X=5))] fun a1 =>
 R (.returned (.tuple ⟨[]⟩)) a1)∧True)∧True))∧(stL c (j.add 4) 0 [B false] fun k =>
 ∃ m,k.cell? (b.add 0)=some (I m)∧dr a fun Z =>
 (stL k (Z.add 5) 0 [.bool (decide (m=5))] fun a2 =>
 R (.returned (.tuple ⟨[]⟩)) a2)∧True)∧True)∧True)∧True))))
theorem qb7 {a b c d e f g i R w} (h:qip a b c d e f g i R w):Calls prog qem ⟨[.pointer a,.agg ⟨[I b,.int .u8 c,I d,S e,I f,B g,S i]⟩]⟩ w R:=qe Tryz.func81 (Eq.mpr (by kernel_rfl:fnV _ _ qi3 _ _ _=_) h)
def qi2:Ann:=.cut 16380 [] (T F (T F F)) (T F F)
def qio (a:Option Addr) (R:Ending→World→Prop) (w:World):Prop :=
 ∀ (c:World→Prop),(∀  (J:World),(∀ _:Env,(dr a fun U =>
 stL J (U.add 3) 0 [B false] fun X =>
 dr a fun V =>
 Calls prog 133 ⟨[.pointer (some (V.add 1))]⟩ X fun T Y =>
 T=.returned (.tuple ⟨[]⟩)∧R (.returned (.tuple ⟨[]⟩)) Y))→c J)→(dr a fun W =>
 ∃ e,w.cell? (W.add 3)=some (B e)∧br e (drw w fun b =>
 (Calls prog 131 ⟨[.pointer a]⟩ b fun n D =>
 ∃ f,n=.returned (.pointer f)∧dr a fun v =>
 (Calls prog 132 ⟨[.pointer (some (v.add 1))]⟩ D fun o E =>
 ∃ g,o=.returned (S g)∧dr f fun x =>
 (stL E (x.add 0) 0 [S g] fun F =>
 c F)∧True)∧True)∧((Calls prog 131 ⟨[.pointer a]⟩ b fun p G =>
 ∃ h,p=.returned (.pointer h)∧dr a fun y =>
 (Calls prog 132 ⟨[.pointer (some (y.add 1))]⟩ G fun q H =>
 ∃ i,q=.returned (S i)∧dr h fun z =>
 (stL H (z.add 0) 0 [S i] fun I =>
 c I)∧True)∧True)∧(dr a fun d =>
 (Calls prog 131 ⟨[.pointer a]⟩ b fun r K =>
 ∃ j,r=.returned (.pointer j)∧((Calls prog 132 ⟨[.pointer (some (d.add 1))]⟩ K fun s L =>
 ∃ k,s=.returned (S k)∧dr j fun A =>
 (stL L (A.add 0) 0 [S k] fun M =>
 c M)∧True)∧True))∧((Calls prog 131 ⟨[.pointer a]⟩ b fun t N =>
 ∃ l,t=.returned (.pointer l)∧((Calls prog 132 ⟨[.pointer (some (d.add 1))]⟩ N fun u O =>
 ∃ m,u=.returned (S m)∧dr l fun C =>
 (stL O (C.add 0) 0 [S m] fun Q =>
 c Q)∧True)∧True))∧True)∧True)∧True)∧True) (c w))
theorem qeg {a R w} (h:qio a R w):Calls prog qa8 ⟨[.pointer a]⟩ w R:=qe Tryz.func82 (Eq.mpr (by kernel_rfl:fnV _ _ qi2 _ _ _=_) h)
def qbv:Ann:=T F (T F F)
def qbs (f:Option Addr) (d:Nat) (c:Nat) (e:Fn) (a:Array Value) (b:Array Value) (R:Ending→World→Prop) (w:World):Prop :=
 Calls prog 134 ⟨[L f d c,.func e a b]⟩ w fun h i =>
 ∃ g,h=.returned (I g)∧(R (.returned (.bool (decide ((0:Int)≤g)))) i)
theorem qb1 {f d c e a b R w} (h:qbs f d c e a b R w):Calls prog qaj ⟨[L f d c,.func e a b]⟩ w R:=qe Tryz.func83 (Eq.mpr (by kernel_rfl:fnV _ _ qbv _ _ _=_) h)
def ql3:Ann:=T F (T F F)
def qk2 (a:List UInt8) (b:List UInt8) (c:List UInt8) (d:Int) (e:Int) (f:List UInt8) (R:Ending→World→Prop) (w:World):Prop :=
 al w 69 [S a,S b,S c,I d,I e,S f] fun i g =>
 ∃ h,g.cell? (i.add 0)=some (S h)∧(R (.returned (.bool (decide ((64:Int) < ((List.length h:Int)))))) g)
theorem qm9 {a b c d e f R w} (h:qk2 a b c d e f R w):Calls prog qdi ⟨[.agg ⟨[S a,S b,S c,I d,I e,S f]⟩]⟩ w R:=qe Tryz.func84 (Eq.mpr (by kernel_rfl:fnV _ _ ql3 _ _ _=_) h)
end Go.Proofs
