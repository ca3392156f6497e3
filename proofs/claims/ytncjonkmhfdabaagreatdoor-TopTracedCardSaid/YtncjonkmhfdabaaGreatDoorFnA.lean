/- Written by program: for each function its verification condition, that it is the code's (by the kernel), and that it gives the call. -/
import Derived.Test.YtncjonkmhfdabaaGreatDoorFn
set_option linter.all false
set_option maxRecDepth 100000
namespace Go.Proofs
open Go Go.Sh Go.Proofs.Tryz IntKind
def qjj:Ann:=T F (.cut 17592183947328 [] (T F (T (T F F) F)) (T F (.cut 4611123068473968128 [(9,.one (.slice)),(10,.one (.int .i64))] (.one F) (T (T F (T (T F F) F)) (T (T F (T (T F F) F)) (T (T F (.one (.loop 5192296858534237332720137623828544 [(69,.one (.int .i64))] (T F (T (T F F) (T (.one (T F (T F (T (T F (T (T F F) F)) (T F (.one (.loop 2596148274524908903592713802448960 [(87,.one (.int .i64))] (T F (T (T F F) (T (.one (T F (T F (T F (T (T F F) F))))) F)))))))))) F)))))) (T (T F (T (T F F) F)) (T (T F (.one (.loop 348448479113043094128559146106600510193728 [(119,.one (.int .i64))] (T F (T (T F F) (T (.one (T F (T F (T F (T (T F F) F))))) F)))))) (T F F)))))))))
def qi5 (v3:List UInt8) (v4:Option Addr) (s5:Nat) (s4:Nat) (v5:Option Addr) (s7:Nat) (s6:Nat) (v6:Option Addr) (s9:Nat) (s8:Nat) (J:Option Addr) (l:Nat) (o:Nat) (k:Int) (R:Ending→World→Prop) (w:World):Prop :=
 al w 62 [S v3,L v4 s5 s4,L v5 s7 s6,L v6 s9 s8] fun a d5 =>
 ∀ (t0:World→Prop),(∀  (t:World),(∀ _:Env,(∃ l9,t.cell? (a.add 0)=some (S l9)∧∃ m0 f2 f1,t.cell? (a.add 1)=some (L m0 f2 f1)∧∃ m1 g0 f9,t.cell? (a.add 2)=some (L m1 g0 f9)∧∃ m2 g8 g7,t.cell? (a.add 3)=some (L m2 g8 g7)∧Calls prog 24 ⟨[.agg ⟨[S l9,L m0 f2 f1,L m1 g0 f9,L m2 g8 g7]⟩]⟩ t fun t1 u5 =>
 ∃ u j n m3,t1=.returned (.tuple ⟨[L u j n,I m3]⟩)∧∀ (H:Option Addr→Nat→Nat→Int→World→Prop),(∀ (g:Option Addr) (c:Nat) (i:Nat) (d0:Int) (U:World),(∀ _:Env,(br (decide (m3≠0)) (R (.returned (B false)) U) (br (decide ((d0:Int)≠0)) (Calls prog 23 ⟨[]⟩ U fun t2 u6 =>
 ∃ m4,t2=.returned (B m4)∧R (.returned (B m4)) u6) (∃ (c8:Int→World→Nat→Prop),(∃ u2,c8 0 U u2)∧∀ f e k8,c8 f e k8→∀ _:Env,(br (decide ((f:Int) < ((c:Int)))) (idx g c f 7 fun p =>
 ∃ m5,e.cell? (p.add 0)=some (S m5)∧∃ m6,e.cell? (p.add 1)=some (I m6)∧∃ m7,e.cell? (p.add 2)=some (I m7)∧∃ m8,e.cell? (p.add 3)=some (I m8)∧∃ m9,e.cell? (p.add 4)=some (B m9)∧∃ n0,e.cell? (p.add 5)=some (B n0)∧∃ n1,e.cell? (p.add 6)=some (S n1)∧al e 36 [S [],I 0,I 0,I 0,B false,B false,S []] fun l4 u7 =>
 stL u7 l4 0 [S m5,I m6,I m7,I m8,B m9,B n0,S n1] fun K =>
 ∃ n2,K.cell? (a.add 0)=some (S n2)∧∃ n3 h6 h5,K.cell? (a.add 1)=some (L n3 h6 h5)∧∃ n4 h8 h7,K.cell? (a.add 2)=some (L n4 h8 h7)∧∃ n5 i0 h9,K.cell? (a.add 3)=some (L n5 i0 h9)∧Calls prog 26 ⟨[.agg ⟨[S n2,L n3 h6 h5,L n4 h8 h7,L n5 i0 h9]⟩,L u j n,L g c i,I f]⟩ K fun t3 d3 =>
 ∃ n6 i2 i1 n7,t3=.returned (.tuple ⟨[L n6 i2 i1,I n7]⟩)∧br (decide (n7≠0)) (R (.returned (B false)) d3) (∃ v1 i3 s2,d3.cell? (a.add 1)=some (L v1 i3 s2)∧∃ (T:Int→World→Nat→Prop),(∃ u3,T 0 d3 u3)∧∀ d r d1,T d r d1→∀ _:Env,(br (decide ((d:Int) < (i3))) (∃ n8,r.cell? (a.add 0)=some (S n8)∧∃ n9 i5 i4,r.cell? (a.add 1)=some (L n9 i5 i4)∧∃ o0 i7 i6,r.cell? (a.add 2)=some (L o0 i7 i6)∧∃ o1 i9 i8,r.cell? (a.add 3)=some (L o1 i9 i8)∧Calls prog 27 ⟨[.agg ⟨[S n8,L n9 i5 i4,L o0 i7 i6,L o1 i9 i8]⟩,I d]⟩ r fun t4 l5 =>
 ∃ o2 j1 j0 o3,t4=.returned (.tuple ⟨[L o2 j1 j0,I o3]⟩)∧br (decide (o3≠0)) (R (.returned (B false)) l5) (Calls prog 28 ⟨[L n6 i2 i1,I d]⟩ l5 fun t5 d4 =>
 ∃ o4,t5=.returned (B o4)∧br o4 (∃ o5,d4.cell? (l4.add 0)=some (S o5)∧Calls prog 29 ⟨[L o2 j1 j0,S o5]⟩ d4 fun t6 l6 =>
 ∃ o6,t6=.returned (B o6)∧br (!o6) (R (.returned (B false)) l6) (∃ k9,k9 < d1∧T (i64.wrap (d + 1)) l6 k9)) (∃ l0,l0 < d1∧T (i64.wrap (d + 1)) d4 l0))) (∃ l1,l1 < k8∧c8 (i64.wrap (f + 1)) r l1)))) (br (decide ((0:Int) < (j))) (Calls prog 23 ⟨[]⟩ e fun t7 u8 =>
 ∃ o7,t7=.returned (B o7)∧R (.returned (B o7)) u8) (∃ v2 j2 s3,e.cell? (a.add 1)=some (L v2 j2 s3)∧∃ (c9:Int→World→Nat→Prop),(∃ u4,c9 0 e u4)∧∀ h s l2,c9 h s l2→∀ _:Env,(br (decide ((h:Int) < (j2))) (∃ o8,s.cell? (a.add 0)=some (S o8)∧∃ o9 j4 j3,s.cell? (a.add 1)=some (L o9 j4 j3)∧∃ p0 j6 j5,s.cell? (a.add 2)=some (L p0 j6 j5)∧∃ p1 j8 j7,s.cell? (a.add 3)=some (L p1 j8 j7)∧Calls prog 27 ⟨[.agg ⟨[S o8,L o9 j4 j3,L p0 j6 j5,L p1 j8 j7]⟩,I h]⟩ s fun t8 l7 =>
 ∃ p2 k0 j9 p3,t8=.returned (.tuple ⟨[L p2 k0 j9,I p3]⟩)∧br (decide (p3≠0)) (R (.returned (B false)) l7) (Calls prog 31 ⟨[L g c i]⟩ l7 fun t9 u9 =>
 ∃ p4 k2 k1,t9=.returned (L p4 k2 k1)∧Calls prog 30 ⟨[L p2 k0 j9,L p4 k2 k1]⟩ u9 fun u0 l8 =>
 ∃ p5,u0=.returned (B p5)∧br (!p5) (R (.returned (B false)) l8) (∃ l3,l3 < l2∧c9 (i64.wrap (h + 1)) l8 l3))) (Calls prog 23 ⟨[]⟩ s fun u1 v0 =>
 ∃ d6,u1=.returned (B d6)∧R (.returned (B d6)) v0)))))))))→H g c i d0 U)→(drw u5 fun b =>
 (∃ M,b.cell? (a.add 0)=some (S M)∧∃ N x v,b.cell? (a.add 1)=some (L N x v)∧∃ O z y,b.cell? (a.add 2)=some (L O z y)∧∃ Q C A,b.cell? (a.add 3)=some (L Q C A)∧((∃ r7 D k3,b.cell? (a.add 1)=some (L r7 D k3)∧idiv (D) ((Calls prog 25 ⟨[.agg ⟨[S M,L N x v,L O z y,L Q C A]⟩,L u j n,L J l o,.int .i64 (Int.tmod (i64.wrap k) (D))]⟩ b fun p6 q8 =>
 ∃ d7 W V d8,p6=.returned (.tuple ⟨[L d7 W V,I d8]⟩)∧(H d7 W V d8 q8))∧True))∧(∃ r8 E k4,b.cell? (a.add 1)=some (L r8 E k4)∧((idiv (E) ((Calls prog 25 ⟨[.agg ⟨[S M,L N x v,L O z y,L Q C A]⟩,L u j n,L J l o,.int .i64 (Int.tmod (i64.wrap k) (E))]⟩ b fun p7 q9 =>
 ∃ d9 Y X e0,p7=.returned (.tuple ⟨[L d9 Y X,I e0]⟩)∧(H d9 Y X e0 q9))∧True))∧True))∧True))∧(∃ e1,b.cell? (a.add 0)=some (S e1)∧∃ e2 a0 Z,b.cell? (a.add 1)=some (L e2 a0 Z)∧∃ e3 a2 a1,b.cell? (a.add 2)=some (L e3 a2 a1)∧∃ e4 a4 a3,b.cell? (a.add 3)=some (L e4 a4 a3)∧∃ r9 F k5,b.cell? (a.add 1)=some (L r9 F k5)∧idiv (F) ((Calls prog 25 ⟨[.agg ⟨[S e1,L e2 a0 Z,L e3 a2 a1,L e4 a4 a3]⟩,L u j n,L J l o,.int .i64 (Int.tmod (i64.wrap k) (F))]⟩ b fun p8 r0 =>
 ∃ e5 a6 a5 e6,p8=.returned (.tuple ⟨[L e5 a6 a5,I e6]⟩)∧(H e5 a6 a5 e6 r0))∧True))∧(∃ s0 G k6,b.cell? (a.add 1)=some (L s0 G k6)∧((∃ e7,b.cell? (a.add 0)=some (S e7)∧∃ e8 a8 a7,b.cell? (a.add 1)=some (L e8 a8 a7)∧∃ e9 b0 a9,b.cell? (a.add 2)=some (L e9 b0 a9)∧∃ f0 b2 b1,b.cell? (a.add 3)=some (L f0 b2 b1)∧idiv (G) ((Calls prog 25 ⟨[.agg ⟨[S e7,L e8 a8 a7,L e9 b0 a9,L f0 b2 b1]⟩,L u j n,L J l o,.int .i64 (Int.tmod (i64.wrap k) (G))]⟩ b fun p9 r1 =>
 ∃ f3 b4 b3 f4,p9=.returned (.tuple ⟨[L f3 b4 b3,I f4]⟩)∧(H f3 b4 b3 f4 r1))∧True))∧True))∧True)))→t0 t)→(∃ f5,d5.cell? (a.add 0)=some (S f5)∧∃ f6 b6 b5,d5.cell? (a.add 1)=some (L f6 b6 b5)∧∃ f7 b8 b7,d5.cell? (a.add 2)=some (L f7 b8 b7)∧∃ f8 c0 b9,d5.cell? (a.add 3)=some (L f8 c0 b9)∧Calls prog 19 ⟨[.agg ⟨[S f5,L f6 b6 b5,L f7 b8 b7,L f8 c0 b9]⟩]⟩ d5 fun q0 m =>
 ∃ g1,q0=.returned (B g1)∧br g1 (Calls prog 23 ⟨[]⟩ m fun q1 r2 =>
 ∃ g2,q1=.returned (B g2)∧R (.returned (B g2)) r2) (∃ g3,m.cell? (a.add 0)=some (S g3)∧∃ g4 c2 c1,m.cell? (a.add 1)=some (L g4 c2 c1)∧∃ g5 c4 c3,m.cell? (a.add 2)=some (L g5 c4 c3)∧∃ g6 c6 c5,m.cell? (a.add 3)=some (L g6 c6 c5)∧Calls prog 20 ⟨[.agg ⟨[S g3,L g4 c2 c1,L g5 c4 c3,L g6 c6 c5]⟩]⟩ m fun q2 q =>
 ∃ g9,q2=.returned (I g9)∧br (decide (g9≠0)) (Calls prog 23 ⟨[]⟩ q fun q3 r3 =>
 ∃ h0,q3=.returned (B h0)∧R (.returned (B h0)) r3) (∃ s1 c7 k7,q.cell? (a.add 1)=some (L s1 c7 k7)∧br (decide (((c7):Int)=0)) (Calls prog 23 ⟨[]⟩ q fun q4 r4 =>
 ∃ h1,q4=.returned (B h1)∧R (.returned (B h1)) r4) (br (decide ((8:Int) < ((l:Int)))) (Calls prog 23 ⟨[]⟩ q fun q5 r5 =>
 ∃ h2,q5=.returned (B h2)∧R (.returned (B h2)) r5) (Calls prog 21 ⟨[L J l o,.func (.func 22) #[] #[]]⟩ q fun q6 d2 =>
 ∃ h3,q6=.returned (B h3)∧br h3 (Calls prog 23 ⟨[]⟩ d2 fun q7 r6 =>
 ∃ h4,q7=.returned (B h4)∧R (.returned (B h4)) r6) (t0 d2))))))
theorem qkx {l m e d n g f o j i k c b a R w} (h:qi5 l m e d n g f o j i k c b a R w):Calls prog qeo ⟨[.agg ⟨[S l,L m e d,L n g f,L o j i]⟩,L k c b,.int .u8 a]⟩ w R:=qb Tryz.func4 (Eq.mpr (by kernel_rfl:fnV _ _ qjj _ _ _=_) h)
def qb6:Ann:=T F (T F F)
def qb1 (f:Option Addr) (d:Nat) (c:Nat) (e:Fn) (a:Array Value) (b:Array Value) (R:Ending→World→Prop) (w:World):Prop :=
 Calls prog 37 ⟨[L f d c,.func e a b]⟩ w fun h i =>
 ∃ g,h=.returned (I g)∧(R (.returned (.bool (decide ((0:Int)≤g)))) i)
theorem qcc {f d c e a b R w} (h:qb1 f d c e a b R w):Calls prog qaj ⟨[L f d c,.func e a b]⟩ w R:=qb Tryz.func6 (Eq.mpr (by kernel_rfl:fnV _ _ qb6 _ _ _=_) h)
def q1x:Ann:=T F (T (T F (.one (.loop 262140 [(3,.one (.int .i64))] (T (T F (T F F)) (T (.one (T F (T (T F F) F))) F))))) (T F F))
def q1i (W:List UInt8) (X:Option Addr) (E:Nat) (D:Nat) (Y:Option Addr) (G:Nat) (F:Nat) (Z:Option Addr) (I:Nat) (H:Nat) (R:Ending→World→Prop) (w:World):Prop :=
 al w 62 [S W,L X E D,L Y G F,L Z I H] fun c a0 =>
 ∃ (v:Int→World→Nat→Prop),(∃ M,v 0 a0 M)∧∀ d b n,v d b n→∀ _:Env,(∃ Q e x,b.cell? (c.add 3)=some (L Q e x)∧br (decide ((d:Int) < (e))) (∃ p f y,b.cell? (c.add 3)=some (L p f y)∧idx p f d 1 fun N =>
 ∃ T g z,b.cell? N=some (L T g z)∧br (decide ((36:Int) < (g))) (R (.returned (B true)) b) (∃ o,o < n∧v (i64.wrap (d + 1)) b o)) (∃ q i h,b.cell? (c.add 2)=some (L q i h)∧Calls prog 53 ⟨[L q i h]⟩ b fun J a =>
 ∃ r,J=.returned (B r)∧br r (R (.returned (B true)) a) (∃ U j A,a.cell? (c.add 3)=some (L U j A)∧br (decide ((24:Int) < (j))) (R (.returned (B true)) a) (∃ V k C,a.cell? (c.add 1)=some (L V k C)∧br (decide ((36:Int) < (k))) (R (.returned (B true)) a) (∃ s,a.cell? (c.add 0)=some (S s)∧∃ t m l,a.cell? (c.add 1)=some (L t m l)∧Calls prog 54 ⟨[S s,L t m l]⟩ a fun K O =>
 ∃ u,K=.returned (B u)∧R (.returned (B u)) O)))))
theorem q4i {g i b a j d c k f e R w} (h:q1i g i b a j d c k f e R w):Calls prog quw ⟨[.agg ⟨[S g,L i b a,L j d c,L k f e]⟩]⟩ w R:=qb Tryz.func19 (Eq.mpr (by kernel_rfl:fnV _ _ q1x _ _ _=_) h)
def q1y:Ann:=T F (T (T F (T F (T (T F F) F))) (T F (T (T F (.one (.loop 4835703278458516682047972 [(5,.one (.int .i64))] (T (T F (T F F)) (T (.one (T F (T (T F (T (T F F) F)) (T F (T (T F (.one (.loop 1208925819612430151451012 [(7,.one (.bool)),(8,.one (.int .i64))] (T (T F (T F F)) (T (.one (T (T F (T F F)) (.cut 18889461427878953484292 [] (T F (T (T F F) F)) (T F F)))) F))))) (T F (T (T F F) F))))))) F))))) (T (T F (.one (.loop 633820464410836242231652778500 [(9,.one (.int .i64))] (T (T F (T F F)) (T (.one (T F (T (T F F) F))) F))))) (T F F)))))
def q1j (d9:List UInt8) (e0:Option Addr) (b1:Nat) (b0:Nat) (e1:Option Addr) (b3:Nat) (b2:Nat) (e2:Option Addr) (b5:Nat) (b4:Nat) (R:Ending→World→Prop) (w:World):Prop :=
 al w 62 [S d9,L e0 b1 b0,L e1 b3 b2,L e2 b5 b4] fun j C =>
 ∃ d6,C.cell? (j.add 0)=some (S d6)∧(∃ d7 Z Y,C.cell? (j.add 1)=some (L d7 Z Y)∧∃ d8 a1 a0,C.cell? (j.add 2)=some (L d8 a1 a0)∧Calls prog 55 ⟨[S d6,L d7 Z Y,L d8 a1 a0]⟩ C fun b6 r =>
 ∃ u,b6=.returned (I u)∧br (decide (u≠0)) (R (.returned (I u)) r) (∃ d2 b a2,r.cell? (j.add 1)=some (L d2 b a2)∧mks r 3 8 [I 0] (b) (b) fun m d0 =>
 ∃ (o:Int→World→Nat→Prop),(∃ b7,o 0 d0 b7)∧∀ i g E,o i g E→∀ _:Env,(∃ d3 v a3,g.cell? (j.add 3)=some (L d3 v a3)∧br (decide ((i:Int) < (v))) (∃ M x a4,g.cell? (j.add 3)=some (L M x a4)∧idx M x i 1 fun c0 =>
 ∃ n d a5,g.cell? c0=some (L n d a5)∧br (decide (((d):Int)≠(((Int.toNat (b)):Int)))) (R (.returned (I 19)) g) (∃ (l:Bool→Int→World→Nat→Prop),(∃ b8,l false 0 g b8)∧∀ c a h q,l c a h q→∀ _:Env,(br (decide ((a:Int) < (d))) (idx n d a 1 fun c1 =>
 ∃ N,h.cell? c1=some (I N)∧br (decide (N=((-1)))) (∃ F,F < q∧l c (i64.wrap (a + 1)) h F) (∀ (D:World→Prop),(∀  (s:World),(∀ _:Env,(idx (some m) (Int.toNat (b)) a 1 fun c2 =>
 ∃ O,s.cell? c2=some (I O)∧idx (some m) (Int.toNat (b)) a 1 fun c3 =>
 stL s c3 0 [.int .i64 (i64.wrap (O + 1))] fun d1 =>
 ∃ G,G < q∧l true (i64.wrap (a + 1)) d1 G))→D s)→(drw h fun e =>
 idx n d a 1 fun c4 =>
 ∃ Q,e.cell? c4=some (I Q)∧idx (some m) (Int.toNat (b)) a 1 fun c5 =>
 ∃ T,e.cell? c5=some (I T)∧br (decide (Q≠T)) (R (.returned (I 19)) e) (idx n d a 1 fun c6 =>
 ∃ U,e.cell? c6=some (I U)∧∃ V y a6,e.cell? (j.add 2)=some (L V y a6)∧idx V y a 1 fun c7 =>
 ∃ d4 z a7,e.cell? c7=some (L d4 z a7)∧br (decide (((z):Int)≤U)) (R (.returned (I 19)) e) (D e))))) (br (!c) (R (.returned (I 19)) h) (∃ H,H < E∧o (i64.wrap (i + 1)) h H))))) (∃ (p:Int→World→Nat→Prop),(∃ b9,p 0 g b9)∧∀ f t J,p f t J→∀ _:Env,(br (decide ((f:Int) < (((Int.toNat (b)):Int)))) (drw t fun k =>
 idx (some m) (Int.toNat (b)) f 1 fun c8 =>
 ∃ W,k.cell? c8=some (I W)∧∃ X A a8,k.cell? (j.add 2)=some (L X A a8)∧idx X A f 1 fun c9 =>
 ∃ d5 B a9,k.cell? c9=some (L d5 B a9)∧br (decide (W≠(B))) (R (.returned (I 19)) k) (∃ K,K < J∧p (i64.wrap (f + 1)) k K)) (R (.returned (I 0)) t))))))
theorem q4j {g i b a j d c k f e R w} (h:q1j g i b a j d c k f e R w):Calls prog qux ⟨[.agg ⟨[S g,L i b a,L j d c,L k f e]⟩]⟩ w R:=qb Tryz.func20 (Eq.mpr (by kernel_rfl:fnV _ _ q1y _ _ _=_) h)
def qa1:Ann:=T F (T F F)
def qay (f:Option Addr) (d:Nat) (c:Nat) (e:Fn) (a:Array Value) (b:Array Value) (R:Ending→World→Prop) (w:World):Prop :=
 Calls prog 56 ⟨[L f d c,.func e a b]⟩ w fun h i =>
 ∃ g,h=.returned (I g)∧(R (.returned (.bool (decide ((0:Int)≤g)))) i)
theorem qa4 {f d c e a b R w} (h:qay f d c e a b R w):Calls prog qv ⟨[L f d c,.func e a b]⟩ w R:=qb Tryz.func21 (Eq.mpr (by kernel_rfl:fnV _ _ qa1 _ _ _=_) h)
def qhx:Ann:=T F (T F F)
def qhq (b:Int) (c:List UInt8) (d:Int) (e:List UInt8) (R:Ending→World→Prop) (w:World):Prop :=
 al w 68 [I b,S c,I d,S e] fun f a =>
 ∃ g,a.cell? (f.add 3)=some (S g)∧(br (decide ((80:Int) < ((List.length g:Int)))) (R (.returned (B true)) a) (∃ h,a.cell? (f.add 1)=some (S h)∧R (.returned (.bool (decide ((20:Int) < ((List.length h:Int)))))) a))
theorem qit {a b c d R w} (h:qhq a b c d R w):Calls prog qiy ⟨[.agg ⟨[I a,S b,I c,S d]⟩]⟩ w R:=qb Tryz.func22 (Eq.mpr (by kernel_rfl:fnV _ _ qhx _ _ _=_) h)
def qix:Ann:=T F (T F (T F (T F (T F (T F (T F (T F F)))))))
def qim  (R:Ending→World→Prop) (w:World):Prop :=
 al w 9 [S [65],S [66]] fun i5 i6 =>
 CallV prog (.func (.func 57) #[] #[]) [S [97]] i6 fun i4 i7 =>
 ∃ h9 i0 i1 i2 i3 Z,i4=.returned (.agg ⟨[S h9,S i0,S i1,I i2,I i3,S Z]⟩)∧(CallV prog (.func (.func 57) #[] #[]) [S [99]] i7 fun e4 g4 =>
 ∃ a0 a1 a2 a3 a4 a5,e4=.returned (.agg ⟨[S a0,S a1,S a2,I a3,I a4,S a5]⟩)∧al g4 117 [S h9,S i0,S i1,I i2,I i3,S Z,S a0,S a1,S a2,I a3,I a4,S a5] fun f5 g5 =>
 CallV prog (.func (.func 57) #[] #[]) [S [98]] g5 fun e5 g6 =>
 ∃ a6 a7 a8 a9 b0 b1,e5=.returned (.agg ⟨[S a6,S a7,S a8,I a9,I b0,S b1]⟩)∧CallV prog (.func (.func 57) #[] #[]) [S [99]] g6 fun e6 g7 =>
 ∃ b2 b3 b4 b5 b6 b7,e6=.returned (.agg ⟨[S b2,S b3,S b4,I b5,I b6,S b7]⟩)∧al g7 117 [S a6,S a7,S a8,I a9,I b0,S b1,S b2,S b3,S b4,I b5,I b6,S b7] fun f6 g8 =>
 al g8 112 [.slice (some f5) 2 2,.slice (some f6) 2 2] fun f7 g9 =>
 al g9 3 [I 0,I 0] fun f8 h0 =>
 al h0 3 [I 1,I 1] fun f9 h1 =>
 al h1 40 [.slice (some f8) 2 2,.slice (some f9) 2 2] fun g0 h2 =>
 al h2 62 [S [],L none 0 0,L none 0 0,L none 0 0] fun a h3 =>
 stL h3 a 0 [S [73],.slice (some i5) 2 2,.slice (some f7) 2 2,.slice (some g0) 2 2] fun f =>
 ∃ b8,f.cell? (a.add 0)=some (S b8)∧∃ b9 n m,f.cell? (a.add 1)=some (L b9 n m)∧∃ c0 p o,f.cell? (a.add 2)=some (L c0 p o)∧∃ c1 r q,f.cell? (a.add 3)=some (L c1 r q)∧Calls prog 24 ⟨[.agg ⟨[S b8,L b9 n m,L c0 p o,L c1 r q]⟩]⟩ f fun e7 g =>
 ∃ k c b c2,e7=.returned (.tuple ⟨[L k c b,I c2]⟩)∧∃ c3,g.cell? (a.add 0)=some (S c3)∧∃ c4 t s,g.cell? (a.add 1)=some (L c4 t s)∧∃ c5 v u,g.cell? (a.add 2)=some (L c5 v u)∧∃ c6 y x,g.cell? (a.add 3)=some (L c6 y x)∧Calls prog 25 ⟨[.agg ⟨[S c3,L c4 t s,L c5 v u,L c6 y x]⟩,L k c b,L none 0 0,I 1]⟩ g fun e8 h =>
 ∃ l e d c7,e8=.returned (.tuple ⟨[L l e d,I c7]⟩)∧∃ c8,h.cell? (a.add 0)=some (S c8)∧∃ c9 A z,h.cell? (a.add 1)=some (L c9 A z)∧∃ d0 D C,h.cell? (a.add 2)=some (L d0 D C)∧∃ d1 F E,h.cell? (a.add 3)=some (L d1 F E)∧Calls prog 26 ⟨[.agg ⟨[S c8,L c9 A z,L d0 D C,L d1 F E]⟩,L k c b,L l e d,I 0]⟩ h fun e9 i =>
 ∃ d2 H G d3,e9=.returned (.tuple ⟨[L d2 H G,I d3]⟩)∧∃ d4,i.cell? (a.add 0)=some (S d4)∧∃ d5 K J,i.cell? (a.add 1)=some (L d5 K J)∧∃ d6 N M,i.cell? (a.add 2)=some (L d6 N M)∧∃ d7 Q O,i.cell? (a.add 3)=some (L d7 Q O)∧Calls prog 26 ⟨[.agg ⟨[S d4,L d5 K J,L d6 N M,L d7 Q O]⟩,L k c b,L l e d,I 1]⟩ i fun f0 j =>
 ∃ d8 U T d9,f0=.returned (.tuple ⟨[L d8 U T,I d9]⟩)∧br (decide (c2=0)) (br (decide (c7=0)) (br (decide (d3=0)) (br (decide (d9=0)) (Calls prog 31 ⟨[L l e d]⟩ j fun f1 h4 =>
 ∃ e0 W V,f1=.returned (L e0 W V)∧al h4 9 [S [98],S [99]] fun g1 h5 =>
 Calls prog 30 ⟨[L e0 W V,.slice (some g1) 2 2]⟩ h5 fun f2 X =>
 ∃ e1,f2=.returned (B e1)∧br e1 (al X 3 [I 1] fun g2 h6 =>
 Calls prog 39 ⟨[L d2 H G,.slice (some g2) 1 1]⟩ h6 fun f3 Y =>
 ∃ e2,f3=.returned (B e2)∧br e2 (al Y 3 [I 0,I 1] fun g3 h7 =>
 Calls prog 39 ⟨[L d8 U T,.slice (some g3) 2 2]⟩ h7 fun f4 h8 =>
 ∃ e3,f4=.returned (B e3)∧R (.returned (B e3)) h8) (R (.returned (B false)) Y)) (R (.returned (B false)) X)) (R (.returned (B false)) j)) (R (.returned (B false)) j)) (R (.returned (B false)) j)) (R (.returned (B false)) j))
theorem qje {R w} (h:qim  R w):Calls prog qdx ⟨[]⟩ w R:=qb Tryz.func23 (Eq.mpr (by kernel_rfl:fnV _ _ qix _ _ _=_) h)
def qt6:Ann:=T F (T (T F (T (T F F) F)) (T F (T (T F (.one (.rf [1,2,3,4,11] 0))) (T F F))))
def qsf (a4:List UInt8) (a5:Option Addr) (N:Nat) (M:Nat) (a6:Option Addr) (Q:Nat) (O:Nat) (a7:Option Addr) (U:Nat) (T:Nat) (R:Ending→World→Prop) (w:World):Prop :=
 al w 62 [S a4,L a5 N M,L a6 Q O,L a7 U T] fun c g =>
 ∃ a1,g.cell? (c.add 0)=some (S a1)∧(∃ a2 H G,g.cell? (c.add 1)=some (L a2 H G)∧∃ a3 K J,g.cell? (c.add 2)=some (L a3 K J)∧∃ x i h,g.cell? (c.add 3)=some (L x i h)∧Calls prog 58 ⟨[.agg ⟨[S a1,L a2 H G,L a3 K J,L x i h]⟩]⟩ g fun V v =>
 ∃ y,V=.returned (I y)∧br (decide (y≠0)) (R (.returned (.tuple ⟨[L none 0 0,I 1]⟩)) v) (al v 70 [L none 0 0] fun f d =>
 ∃ z,d.cell? (c.add 0)=some (S z)∧∃ A k j,d.cell? (c.add 1)=some (L A k j)∧∃ B m l,d.cell? (c.add 2)=some (L B m l)∧∃ C o n,d.cell? (c.add 3)=some (L C o n)∧Calls prog 59 ⟨[.agg ⟨[S z,L A k j,L B m l,L C o n]⟩]⟩ d fun W X =>
 ∃ D p q,W=.returned (.func D p q)∧∀ e:Env,RFw prog none 25 (cdAt Tryz.f24 [1,1,1,0,1,2]) (upd (upd (upd (upd (upd e 11 (.func D p q)) 4 (.pointer (some f))) 3 (I 0)) 2 (L none 0 0)) 1 (.pointer (some c))) [] X 0 (fun a b =>
 ∃ F u t,b.cell? f=some (L F u t)∧retD a b fun Z =>
 R (.returned (.tuple ⟨[L F u t,I 0]⟩)) Z) (fun a b =>
 retD a b fun a0 =>
 R (.returned (.tuple ⟨[L none 0 0,I 0]⟩)) a0) (fun a b =>
 ∃ E s r,b.cell? f=some (L E s r)∧retD a b fun Y =>
 R (.returned (.tuple ⟨[L E s r,I 0]⟩)) Y)))
theorem qwa {g i b a j d c k f e R w} (h:qsf g i b a j d c k f e R w):Calls prog qjm ⟨[.agg ⟨[S g,L i b a,L j d c,L k f e]⟩]⟩ w R:=qb Tryz.func24 (Eq.mpr (by kernel_rfl:fnV _ _ qt6 _ _ _=_) h)
def qf5:Ann:=T F F
def qf3:Ann:=.one (.one F)
def qoq (K:Option Addr) (b1:Option Addr) (a3:Nat) (a2:Nat) (b2:Int) (a:Option Addr) (a1:Fn) (M:Array Value) (N:Array Value) (b:Int) (c:Int) (l:Nat) (Kn Kr Kx:World→World→Prop) (w:World):Prop :=
 Ext w w∧∀ m:World,Upd l w m→(drw m fun d =>
 dr K fun k =>
 ∃ n,d.cell? (k.add 0)=some (S n)∧∃ o f e,d.cell? (k.add 1)=some (L o f e)∧∃ p h g,d.cell? (k.add 2)=some (L p h g)∧∃ q j i,d.cell? (k.add 3)=some (L q j i)∧((dr a fun V =>
 ∃ B s r,d.cell? V=some (L B s r)∧((Calls prog 60 ⟨[.agg ⟨[S n,L o f e,L p h g,L q j i]⟩,I b,I c]⟩ d fun T a4 =>
 ∃ C u t,T=.returned (L C u t)∧((al a4 123 [I b,I c,L C u t] fun W a5 =>
 (app prog [70,70] 70 (L B s r) (.slice (some W) 1 1) a5 fun O G F a6 =>
 (dr a fun X =>
 stL a6 X 0 [L O G F] fun a7 =>
 Kn m a7)∧True)∧True)∧True))∧True))∧(Calls prog 60 ⟨[.agg ⟨[S n,L o f e,L p h g,L q j i]⟩,I b,I c]⟩ d fun U A =>
 ∃ D x v,U=.returned (L D x v)∧dr a fun Y =>
 ∃ E z y,A.cell? Y=some (L E z y)∧((al A 123 [I b,I c,L D x v] fun Z a8 =>
 (app prog [70,70] 70 (L E z y) (.slice (some Z) 1 1) a8 fun Q J H a9 =>
 (dr a fun a0 =>
 stL a9 a0 0 [L Q J H] fun b0 =>
 Kn m b0)∧True)∧True)∧True))∧True))
theorem qos (base:Env) (k:Option Addr) (i:Option Addr) (h:Nat) (g:Nat) (j:Int) (c:Option Addr) (d:Fn) (a:Array Value) (b:Array Value) (e:Int) (f:Int) (l:Nat) (Kn Kr Kx:World→World→Prop) (w:World):fragV prog 25 qf5 qf3 (cdAt Tryz.f24 [1,1,1,0,1,2,5]) (cdAt Tryz.f24 [1,1,1,0,1,2,6]) l 0 Kn Kr Kx (updPs [12,13] [I e,I f] (upd (upd (upd (upd (upd base 11 (.func d a b)) 4 (.pointer c)) 3 (I j)) 2 (L i h g)) 1 (.pointer k))) w=qoq k i h g j c d a b e f l Kn Kr Kx w:=by kernel_rfl
theorem qou:cdAt Tryz.f24 [1,1,1,0,1,2]=.rangeFunc (Operand.tmp 11) #[12,13] (cdAt Tryz.f24 [1,1,1,0,1,2,5]) (cdAt Tryz.f24 [1,1,1,0,1,2,6]):=by kernel_rfl
def qnp:Ann:=T F (T (T F (T F (T (T F F) F))) (.cut 2194728289024 [(8,.one (.slice)),(9,.one (.int .i64))] (T F (T (T F F) F)) (T F (T (T F (T (T F F) F)) (T F (T (T F (.one (.loop 147429837401600606208 [(57,.one (.int .i64))] (T F (T (T F F) (T (.one (T F F)) F)))))) (T F (T F (T F (T (.cut 2417556491324078996586496 [(78,.one (.slice)),(79,.one (.int .i64)),(80,.one (.int .i64))] (.one F) (.one (.loopD 735924591551510526531268598616373053592698880 [(18,.one (.int .i64)),(80,.one (.int .i64))] (T F (T (T F F) (T (.one (T F (T (T F (.one (.rf [1,2,3,4,8,9,13,16,17,18,19,20,78,79,80,90] 0))) (T F (.one (T F (T F (T F (T (T F (.one (.rf [1,2,3,4,8,9,13,16,17,18,19,78,79,80,143] 0))) (T F (.cut 20748905024535658843698038065594368 [(111,.one (.slice)),(112,.one (.int .i64)),(113,.one (.int .i64))] (.one F) (.one (.loop 85060207136517546210586590865317167104 [(113,.one (.int .i64))] (T F (T (T F F) (T (.one (T F F)) F)))))))))))))))) F)))))) (T (T F (T (T F F) F)) (T F F))))))))))))
def qmj (x_1:List UInt8) (x_2:Option Addr) (x_2n:Nat) (x_2c:Nat) (x_3:Option Addr) (x_3n:Nat) (x_3c:Nat) (x_4:Option Addr) (x_4n:Nat) (x_4c:Nat) (F:Option Addr) (k:Nat) (o:Nat) (i6:Option Addr) (c8:Nat) (g5:Nat) (n:Int) (R:Ending→World→Prop) (w:World):Prop :=
 al w 62 [S x_1,L x_2 x_2n x_2c,L x_3 x_3n x_3c,L x_4 x_4n x_4c] fun c u4 =>
 ∃ x10,u4.cell? (c.add 0)=some (S x10)∧(∃ x11 v2 v1,u4.cell? (c.add 1)=some (L x11 v2 v1)∧∃ x12 x0 v9,u4.cell? (c.add 2)=some (L x12 x0 v9)∧∃ x13 x8 x7,u4.cell? (c.add 3)=some (L x13 x8 x7)∧Calls prog 61 ⟨[.agg ⟨[S x10,L x11 v2 v1,L x12 x0 v9,L x13 x8 x7]⟩,L F k o]⟩ u4 fun e14 g2 =>
 ∃ z0,e14=.returned (I z0)∧br (decide (z0≠0)) (R (.returned (.tuple ⟨[L none 0 0,I z0]⟩)) g2) (∀ (K17:Option Addr→Nat→Nat→Int→World→Prop),(∀ (J:Option Addr) (y:Nat) (x:Nat) (K:Int) (c6:World),(∀ _:Env,(∃ x21,c6.cell? (c.add 0)=some (S x21)∧∃ x22 D9 D8,c6.cell? (c.add 1)=some (L x22 D9 D8)∧∃ x23 E7 E6,c6.cell? (c.add 2)=some (L x23 E7 E6)∧∃ x24 G6 G5,c6.cell? (c.add 3)=some (L x24 G6 G5)∧Calls prog 62 ⟨[.agg ⟨[S x21,L x22 D9 D8,L x23 E7 E6,L x24 G6 G5]⟩,L F k o,L i6 c8 g5]⟩ c6 fun e25 w26 =>
 ∃ x27 h3 x27c J6,e25=.returned (.tuple ⟨[L x27 h3 x27c,I J6]⟩)∧br (decide (J6≠0)) (R (.returned (.tuple ⟨[L none 0 0,I J6]⟩)) w26) (al w26 3 [.int .i64 ((-1))] fun p29 w30 =>
 Calls prog 63 ⟨[.slice (some p29) 1 1,.int .i64 ((k:Int))]⟩ w30 fun e31 w32 =>
 ∃ c4 E h4,e31=.returned (L c4 E h4)∧∃ (t2:Int→World→Nat→Prop),(∃ m38,t2 0 w32 m38)∧∀ v i9 m37,t2 v i9 m37→∀ _:Env,(br (decide ((v:Int) < (h3))) (idx x27 h3 v 1 fun p39 =>
 ∃ x40,i9.cell? p39=some (I x40)∧idx c4 E x40 1 fun p41 =>
 stL i9 p41 0 [I v] fun w42 =>
 ∃ m43,m43 < m37∧t2 (i64.wrap (v + 1)) w42 m43) (al i9 27 [L none 0 0] fun f9 w45 =>
 al w45 129 [.nilFunc] fun i8 w47 =>
 stL w47 i8 0 [.func (.func 64) ⟨[]⟩ ⟨[.pointer (some f9)]⟩] fun w48 =>
 ∀ (c5:Option Addr→Nat→Nat→Int→Int→World→Prop),(∀ (G:Option Addr) (C:Nat) (a4:Nat) (H:Int) (g1:Int) (w53:World),(∀ _:Env,(∃ (f8:Int→Int→List Deferred→World→Nat→Prop),(∃ m60,f8 0 g1 [] w53 m60)∧∀ a3 g c9 M i7,f8 a3 g c9 M i7→∀ _:Env,(br (decide ((g:Int) < H)) (idx G C g 3 fun t9 =>
 ∃ x62,M.cell? (t9.add 0)=some (I x62)∧∃ x63,M.cell? (t9.add 1)=some (I x63)∧∃ x64 Y8 Y7,M.cell? (t9.add 2)=some (L x64 Y8 Y7)∧al M 3 [I 0] fun a7 w66 =>
 al w66 123 [I 0,I 0,L none 0 0] fun d w68 =>
 stL w68 a7 0 [I g] fun w69 =>
 stL w69 d 0 [I x62,I x63,L x64 Y8 Y7] fun c7 =>
 ∃ x71,c7.cell? (c.add 0)=some (S x71)∧∃ x72 Z0 Y9,c7.cell? (c.add 1)=some (L x72 Z0 Y9)∧∃ x73 Z2 Z1,c7.cell? (c.add 2)=some (L x73 Z2 Z1)∧∃ x74 Z4 Z3,c7.cell? (c.add 3)=some (L x74 Z4 Z3)∧∃ x75,c7.cell? (d.add 0)=some (I x75)∧Calls prog 67 ⟨[.agg ⟨[S x71,L x72 Z0 Y9,L x73 Z2 Z1,L x74 Z4 Z3]⟩,I a3,I x75,I n]⟩ c7 fun e76 w77 =>
 ∃ x78 Z5 Z6,e76=.returned (.func x78 Z5 Z6)∧∀ t3:Env,RFw prog none 154 (cdAt Tryz.f25 [1,1,1,1,1,1,1,1,1,1,0,1,2,2,1,1,0,2,1,0,1,2]) (upd (upd (upd (upd (upd (upd (upd (upd (upd (upd (upd (upd (upd (upd (upd (upd t3 90 (.func x78 Z5 Z6)) 80 (I g)) 79 (I H)) 78 (L G C a4)) 20 (.pointer (some d))) 19 (.pointer (some a7))) 18 (I a3)) 17 (.pointer (some i8))) 16 (.pointer (some f9))) 13 (L c4 E h4)) 9 (I K)) 8 (L J y x)) 4 (.pointer (some c))) 3 (I n)) 2 (L i6 c8 g5)) 1 (L F k o)) c9 w77 0 (fun a2 f =>
 ∃ g3,f.cell? (d.add 1)=some (I g3)∧∃ x83,f.cell? a7=some (I x83)∧br (decide (x83=((k:Int)))) (∃ m84,m84 < i7∧f8 g3 (i64.wrap (g + 1)) a2 f m84) (∃ x85,f.cell? a7=some (I x85)∧idx c4 E x85 1 fun p86 =>
 ∃ x87,f.cell? p86=some (I x87)∧br (decide (x87 < 0)) (∃ x88,f.cell? (c.add 0)=some (S x88)∧∃ x89 Z8 Z7,f.cell? (c.add 1)=some (L x89 Z8 Z7)∧∃ x90 x90n Z9,f.cell? (c.add 2)=some (L x90 x90n Z9)∧∃ x91 x91n x91c,f.cell? (c.add 3)=some (L x91 x91n x91c)∧∃ x92,f.cell? (d.add 0)=some (I x92)∧∃ x93,f.cell? (d.add 1)=some (I x93)∧Calls prog 67 ⟨[.agg ⟨[S x88,L x89 Z8 Z7,L x90 x90n Z9,L x91 x91n x91c]⟩,I x92,I x93,I n]⟩ f fun e94 w95 =>
 ∃ x96 x96a x96b,e94=.returned (.func x96 x96a x96b)∧∀ t4:Env,RFw prog none 154 (cdAt Tryz.f25 [1,1,1,1,1,1,1,1,1,1,0,1,2,2,1,1,0,2,1,1,1,2,1,4,1,3,1,2]) (upd (upd (upd (upd (upd (upd (upd (upd (upd (upd (upd (upd (upd (upd (upd t4 143 (.func x96 x96a x96b)) 80 (I g)) 79 (I H)) 78 (L G C a4)) 19 (.pointer (some a7))) 18 (I g3)) 17 (.pointer (some i8))) 16 (.pointer (some f9))) 13 (L c4 E h4)) 9 (I K)) 8 (L J y x)) 4 (.pointer (some c))) 3 (I n)) 2 (L i6 c8 g5)) 1 (L F k o)) a2 w95 0 (fun d0 j0 =>
 ∃ t5,t5 < i7∧f8 g3 (i64.wrap (g + 1)) d0 j0 t5) (fun d0 j0 =>
 retD d0 j0 fun w101 =>
 R (.returned (.tuple ⟨[L J y x,I K]⟩)) w101) (fun d0 j0 =>
 False)) (∃ u5,f.cell? a7=some (I u5)∧idx c4 E u5 1 fun p103 =>
 ∃ u6,f.cell? p103=some (I u6)∧idx i6 c8 u6 4 fun d1 =>
 ∃ u7,f.cell? (d1.add 0)=some (I u7)∧∃ u8,f.cell? (d1.add 1)=some (S u8)∧∃ u9,f.cell? (d1.add 2)=some (I u9)∧∃ v0,f.cell? (d1.add 3)=some (S v0)∧al f 68 [I 0,S [],I 0,S []] fun a w111 =>
 stL w111 a 0 [I u7,S u8,I u9,S v0] fun w112 =>
 ∀ (e:Option Addr→Nat→Nat→Int→Int→World→Prop),(∀ (b0:Option Addr) (a8:Nat) (g0:Nat) (b1:Int) (b2:Int) (u0:World),(∀ _:Env,(∃ (g4:Int→World→Nat→Prop),(∃ m122,g4 b2 u0 m122)∧∀ p l t6,g4 p l t6→∀ _:Env,(br (decide ((p:Int) < b1)) (idx b0 a8 p 7 fun D =>
 ∃ v3,l.cell? (D.add 0)=some (S v3)∧∃ v4,l.cell? (D.add 1)=some (S v4)∧∃ v5,l.cell? (D.add 2)=some (S v5)∧∃ v6,l.cell? (D.add 3)=some (I v6)∧∃ v7,l.cell? (D.add 4)=some (I v7)∧∃ v8,l.cell? (D.add 5)=some (S v8)∧∃ x1,l.cell? (D.add 6)=some (I x1)∧al l 128 [S [],S [],S [],I 0,I 0,S [],I 0] fun u w132 =>
 stL w132 u 0 [S v3,S v4,S v5,I v6,I v7,S v8,I x1] fun w133 =>
 drw w133 fun i =>
 ∃ x2 j1 j2,i.cell? i8=some (.func x2 j1 j2)∧∃ x3,i.cell? (u.add 0)=some (S x3)∧∃ x4,i.cell? (u.add 1)=some (S x4)∧∃ x5,i.cell? (u.add 2)=some (S x5)∧∃ x6,i.cell? (u.add 3)=some (I x6)∧∃ x9,i.cell? (u.add 4)=some (I x9)∧∃ y0,i.cell? (u.add 5)=some (S y0)∧∃ y1,i.cell? (u.add 6)=some (I y1)∧∃ y2,i.cell? a7=some (I y2)∧∃ y3,i.cell? a7=some (I y3)∧idx c4 E y3 1 fun p145 =>
 ∃ y4,i.cell? p145=some (I y4)∧((CallV prog (.func x2 j1 j2) [.agg ⟨[S x3,S x4,S x5,I x6,I x9,S y0,I y1]⟩,I y2,I y4] i fun e147 w148 =>
 e147=.returned (.tuple ⟨[]⟩)∧∃ t7,t7 < t6∧g4 (i64.wrap (p + 1)) w148 t7)∧True)) (∃ t8,t8 < i7∧f8 g3 (i64.wrap (g + 1)) a2 l t8))))→e b0 a8 g0 b1 b2 u0)→(drw w112 fun b =>
 (Calls prog 68 ⟨[]⟩ b fun e152 h =>
 ∃ y5 y6 y7 y8,e152=.returned (.agg ⟨[y5,y6,y7,y8]⟩)∧∃ y9,h.cell? (a.add 0)=some (I y9)∧(aidxF [y5,y6,y7,y8] 4 y9 fun b159 b159a b159b =>
 ∃ z1,h.cell? (c.add 0)=some (S z1)∧∃ z2 j4 j3,h.cell? (c.add 1)=some (L z2 j4 j3)∧∃ z3 j6 j5,h.cell? (c.add 2)=some (L z3 j6 j5)∧∃ z4 j8 j7,h.cell? (c.add 3)=some (L z4 j8 j7)∧∃ z5,h.cell? (d.add 0)=some (I z5)∧∃ z6,h.cell? (d.add 1)=some (I z6)∧∃ z7 k0 j9,h.cell? (d.add 2)=some (L z7 k0 j9)∧∃ z8,h.cell? (a.add 0)=some (I z8)∧∃ z9,h.cell? (a.add 1)=some (S z9)∧∃ A0,h.cell? (a.add 2)=some (I A0)∧∃ A1,h.cell? (a.add 3)=some (S A1)∧((CallV prog (.func b159 b159a b159b) [.agg ⟨[S z1,L z2 j4 j3,L z3 j6 j5,L z4 j8 j7]⟩,.agg ⟨[I z5,I z6,L z7 k0 j9]⟩,.agg ⟨[I z8,S z9,I A0,S A1]⟩] h fun e171 w172 =>
 ∃ A2 d3 k1,e171=.returned (L A2 d3 k1)∧(e A2 d3 k1 (d3) 0 w172))∧True)))∧(∃ t,b.cell? (a.add 0)=some (I t)∧((Calls prog 68 ⟨[]⟩ b fun e175 j =>
 ∃ A3 A4 A5 A6,e175=.returned (.agg ⟨[A3,A4,A5,A6]⟩)∧(aidxF [A3,A4,A5,A6] 4 t fun b181 b181a b181b =>
 ∃ A7,j.cell? (c.add 0)=some (S A7)∧∃ A8 k3 k2,j.cell? (c.add 1)=some (L A8 k3 k2)∧∃ A9 k5 k4,j.cell? (c.add 2)=some (L A9 k5 k4)∧∃ B0 k7 k6,j.cell? (c.add 3)=some (L B0 k7 k6)∧∃ B1,j.cell? (d.add 0)=some (I B1)∧∃ B2,j.cell? (d.add 1)=some (I B2)∧∃ B3 k9 k8,j.cell? (d.add 2)=some (L B3 k9 k8)∧∃ B4,j.cell? (a.add 0)=some (I B4)∧∃ B5,j.cell? (a.add 1)=some (S B5)∧∃ B6,j.cell? (a.add 2)=some (I B6)∧∃ B7,j.cell? (a.add 3)=some (S B7)∧((CallV prog (.func b181 b181a b181b) [.agg ⟨[S A7,L A8 k3 k2,L A9 k5 k4,L B0 k7 k6]⟩,.agg ⟨[I B1,I B2,L B3 k9 k8]⟩,.agg ⟨[I B4,S B5,I B6,S B7]⟩] j fun e193 w194 =>
 ∃ B8 d4 l0,e193=.returned (L B8 d4 l0)∧(e B8 d4 l0 (d4) 0 w194))∧True)))∧(∃ b6,b.cell? (c.add 0)=some (S b6)∧∃ b7 O N,b.cell? (c.add 1)=some (L b7 O N)∧∃ b8 T Q,b.cell? (c.add 2)=some (L b8 T Q)∧∃ b9 V U,b.cell? (c.add 3)=some (L b9 V U)∧((Calls prog 68 ⟨[]⟩ b fun e200 z =>
 ∃ B9 C0 C1 C2,e200=.returned (.agg ⟨[B9,C0,C1,C2]⟩)∧(aidxF [B9,C0,C1,C2] 4 t fun b206 b206a b206b =>
 ∃ C3,z.cell? (d.add 0)=some (I C3)∧∃ C4,z.cell? (d.add 1)=some (I C4)∧∃ C5 l2 l1,z.cell? (d.add 2)=some (L C5 l2 l1)∧∃ C6,z.cell? (a.add 0)=some (I C6)∧∃ C7,z.cell? (a.add 1)=some (S C7)∧∃ C8,z.cell? (a.add 2)=some (I C8)∧∃ C9,z.cell? (a.add 3)=some (S C9)∧((CallV prog (.func b206 b206a b206b) [.agg ⟨[S b6,L b7 O N,L b8 T Q,L b9 V U]⟩,.agg ⟨[I C3,I C4,L C5 l2 l1]⟩,.agg ⟨[I C6,S C7,I C8,S C9]⟩] z fun e214 w215 =>
 ∃ D0 d5 l3,e214=.returned (L D0 d5 l3)∧(e D0 d5 l3 (d5) 0 w215))∧True)))∧(∃ g7,b.cell? (d.add 0)=some (I g7)∧∃ g8,b.cell? (d.add 1)=some (I g8)∧∃ g9 d7 d6,b.cell? (d.add 2)=some (L g9 d7 d6)∧((Calls prog 68 ⟨[]⟩ b fun e220 b3 =>
 ∃ D1 D2 D3 D4,e220=.returned (.agg ⟨[D1,D2,D3,D4]⟩)∧(aidxF [D1,D2,D3,D4] 4 t fun b226 b226a b226b =>
 ∃ D5,b3.cell? (a.add 0)=some (I D5)∧∃ D6,b3.cell? (a.add 1)=some (S D6)∧∃ D7,b3.cell? (a.add 2)=some (I D7)∧∃ E0,b3.cell? (a.add 3)=some (S E0)∧((CallV prog (.func b226 b226a b226b) [.agg ⟨[S b6,L b7 O N,L b8 T Q,L b9 V U]⟩,.agg ⟨[I g7,I g8,L g9 d7 d6]⟩,.agg ⟨[I D5,S D6,I D7,S E0]⟩] b3 fun e231 w232 =>
 ∃ E1 d8 l4,e231=.returned (L E1 d8 l4)∧(e E1 d8 l4 (d8) 0 w232))∧True)))∧(∃ E2,b.cell? (a.add 0)=some (I E2)∧∃ E3,b.cell? (a.add 1)=some (S E3)∧∃ E4,b.cell? (a.add 2)=some (I E4)∧∃ E5,b.cell? (a.add 3)=some (S E5)∧((Calls prog 68 ⟨[]⟩ b fun e238 w239 =>
 ∃ E8 E9 G0 G1,e238=.returned (.agg ⟨[E8,E9,G0,G1]⟩)∧(aidxF [E8,E9,G0,G1] 4 t fun b244 b244a b244b =>
 (CallV prog (.func b244 b244a b244b) [.agg ⟨[S b6,L b7 O N,L b8 T Q,L b9 V U]⟩,.agg ⟨[I g7,I g8,L g9 d7 d6]⟩,.agg ⟨[I E2,S E3,I E4,S E5]⟩] w239 fun e245 w246 =>
 ∃ G2 d9 l5,e245=.returned (L G2 d9 l5)∧(e G2 d9 l5 (d9) 0 w246))∧True))∧True))∧True))∧(∃ G3,b.cell? (a.add 0)=some (I G3)∧∃ G4,b.cell? (a.add 1)=some (S G4)∧∃ G7,b.cell? (a.add 2)=some (I G7)∧∃ G8,b.cell? (a.add 3)=some (S G8)∧((Calls prog 68 ⟨[]⟩ b fun e252 d2 =>
 ∃ G9 H0 H1 H2,e252=.returned (.agg ⟨[G9,H0,H1,H2]⟩)∧(aidxF [G9,H0,H1,H2] 4 t fun b258 b258a b258b =>
 ∃ H3,d2.cell? (d.add 0)=some (I H3)∧∃ H4,d2.cell? (d.add 1)=some (I H4)∧∃ H5 l7 l6,d2.cell? (d.add 2)=some (L H5 l7 l6)∧((CallV prog (.func b258 b258a b258b) [.agg ⟨[S b6,L b7 O N,L b8 T Q,L b9 V U]⟩,.agg ⟨[I H3,I H4,L H5 l7 l6]⟩,.agg ⟨[I G3,S G4,I G7,S G8]⟩] d2 fun e262 w263 =>
 ∃ H6 e0 l8,e262=.returned (L H6 e0 l8)∧(e H6 e0 l8 (e0) 0 w263))∧True)))∧True))∧True))∧(∃ h0,b.cell? (d.add 0)=some (I h0)∧∃ h1,b.cell? (d.add 1)=some (I h1)∧∃ h2 e2 e1,b.cell? (d.add 2)=some (L h2 e2 e1)∧((Calls prog 68 ⟨[]⟩ b fun e268 q =>
 ∃ H7 H8 H9 J0,e268=.returned (.agg ⟨[H7,H8,H9,J0]⟩)∧(aidxF [H7,H8,H9,J0] 4 t fun b274 b274a b274b =>
 ∃ J1,q.cell? (c.add 0)=some (S J1)∧∃ J2 m0 l9,q.cell? (c.add 1)=some (L J2 m0 l9)∧∃ J3 m2 m1,q.cell? (c.add 2)=some (L J3 m2 m1)∧∃ J4 m4 m3,q.cell? (c.add 3)=some (L J4 m4 m3)∧∃ J5,q.cell? (a.add 0)=some (I J5)∧∃ J7,q.cell? (a.add 1)=some (S J7)∧∃ J8,q.cell? (a.add 2)=some (I J8)∧∃ J9,q.cell? (a.add 3)=some (S J9)∧((CallV prog (.func b274 b274a b274b) [.agg ⟨[S J1,L J2 m0 l9,L J3 m2 m1,L J4 m4 m3]⟩,.agg ⟨[I h0,I h1,L h2 e2 e1]⟩,.agg ⟨[I J5,S J7,I J8,S J9]⟩] q fun e283 w284 =>
 ∃ K0 e3 m5,e283=.returned (L K0 e3 m5)∧(e K0 e3 m5 (e3) 0 w284))∧True)))∧(∃ K1,b.cell? (a.add 0)=some (I K1)∧∃ K2,b.cell? (a.add 1)=some (S K2)∧∃ K3,b.cell? (a.add 2)=some (I K3)∧∃ K4,b.cell? (a.add 3)=some (S K4)∧((Calls prog 68 ⟨[]⟩ b fun e290 b4 =>
 ∃ K5 K6 K7 K8,e290=.returned (.agg ⟨[K5,K6,K7,K8]⟩)∧(aidxF [K5,K6,K7,K8] 4 t fun b296 b296a b296b =>
 ∃ K9,b4.cell? (c.add 0)=some (S K9)∧∃ L0 m7 m6,b4.cell? (c.add 1)=some (L L0 m7 m6)∧∃ L1 m9 m8,b4.cell? (c.add 2)=some (L L1 m9 m8)∧∃ L2 n1 n0,b4.cell? (c.add 3)=some (L L2 n1 n0)∧((CallV prog (.func b296 b296a b296b) [.agg ⟨[S K9,L L0 m7 m6,L L1 m9 m8,L L2 n1 n0]⟩,.agg ⟨[I h0,I h1,L h2 e2 e1]⟩,.agg ⟨[I K1,S K2,I K3,S K4]⟩] b4 fun e301 w302 =>
 ∃ L3 e4 n2,e301=.returned (L L3 e4 n2)∧(e L3 e4 n2 (e4) 0 w302))∧True)))∧True))∧True))∧(∃ L4,b.cell? (a.add 0)=some (I L4)∧∃ L5,b.cell? (a.add 1)=some (S L5)∧∃ L6,b.cell? (a.add 2)=some (I L6)∧∃ L7,b.cell? (a.add 3)=some (S L7)∧((Calls prog 68 ⟨[]⟩ b fun e308 A =>
 ∃ L8 L9 M0 M1,e308=.returned (.agg ⟨[L8,L9,M0,M1]⟩)∧(aidxF [L8,L9,M0,M1] 4 t fun b314 b314a b314b =>
 ∃ M2,A.cell? (c.add 0)=some (S M2)∧∃ M3 n4 n3,A.cell? (c.add 1)=some (L M3 n4 n3)∧∃ M4 n6 n5,A.cell? (c.add 2)=some (L M4 n6 n5)∧∃ M5 n8 n7,A.cell? (c.add 3)=some (L M5 n8 n7)∧∃ M6,A.cell? (d.add 0)=some (I M6)∧∃ M7,A.cell? (d.add 1)=some (I M7)∧∃ M8 o0 n9,A.cell? (d.add 2)=some (L M8 o0 n9)∧((CallV prog (.func b314 b314a b314b) [.agg ⟨[S M2,L M3 n4 n3,L M4 n6 n5,L M5 n8 n7]⟩,.agg ⟨[I M6,I M7,L M8 o0 n9]⟩,.agg ⟨[I L4,S L5,I L6,S L7]⟩] A fun e322 w323 =>
 ∃ M9 e5 o1,e322=.returned (L M9 e5 o1)∧(e M9 e5 o1 (e5) 0 w323))∧True)))∧True))∧True))∧(∃ c0,b.cell? (c.add 0)=some (S c0)∧∃ c1 X W,b.cell? (c.add 1)=some (L c1 X W)∧∃ c2 Z Y,b.cell? (c.add 2)=some (L c2 Z Y)∧∃ c3 a1 a0,b.cell? (c.add 3)=some (L c3 a1 a0)∧((Calls prog 68 ⟨[]⟩ b fun e329 r =>
 ∃ N0 N1 N2 N3,e329=.returned (.agg ⟨[N0,N1,N2,N3]⟩)∧∃ N4,r.cell? (a.add 0)=some (I N4)∧(aidxF [N0,N1,N2,N3] 4 N4 fun b336 b336a b336b =>
 ∃ N5,r.cell? (d.add 0)=some (I N5)∧∃ N6,r.cell? (d.add 1)=some (I N6)∧∃ N7 o3 o2,r.cell? (d.add 2)=some (L N7 o3 o2)∧∃ N8,r.cell? (a.add 0)=some (I N8)∧∃ N9,r.cell? (a.add 1)=some (S N9)∧∃ O0,r.cell? (a.add 2)=some (I O0)∧∃ O1,r.cell? (a.add 3)=some (S O1)∧((CallV prog (.func b336 b336a b336b) [.agg ⟨[S c0,L c1 X W,L c2 Z Y,L c3 a1 a0]⟩,.agg ⟨[I N5,I N6,L N7 o3 o2]⟩,.agg ⟨[I N8,S N9,I O0,S O1]⟩] r fun e344 w345 =>
 ∃ O2 e6 o4,e344=.returned (L O2 e6 o4)∧(e O2 e6 o4 (e6) 0 w345))∧True)))∧(∃ h5,b.cell? (d.add 0)=some (I h5)∧∃ h6,b.cell? (d.add 1)=some (I h6)∧∃ h7 e8 e7,b.cell? (d.add 2)=some (L h7 e8 e7)∧((Calls prog 68 ⟨[]⟩ b fun e350 a5 =>
 ∃ O3 O4 O5 O6,e350=.returned (.agg ⟨[O3,O4,O5,O6]⟩)∧∃ O7,a5.cell? (a.add 0)=some (I O7)∧(aidxF [O3,O4,O5,O6] 4 O7 fun b357 b357a b357b =>
 ∃ O8,a5.cell? (a.add 0)=some (I O8)∧∃ O9,a5.cell? (a.add 1)=some (S O9)∧∃ Q0,a5.cell? (a.add 2)=some (I Q0)∧∃ Q1,a5.cell? (a.add 3)=some (S Q1)∧((CallV prog (.func b357 b357a b357b) [.agg ⟨[S c0,L c1 X W,L c2 Z Y,L c3 a1 a0]⟩,.agg ⟨[I h5,I h6,L h7 e8 e7]⟩,.agg ⟨[I O8,S O9,I Q0,S Q1]⟩] a5 fun e362 w363 =>
 ∃ Q2 e9 o5,e362=.returned (L Q2 e9 o5)∧(e Q2 e9 o5 (e9) 0 w363))∧True)))∧(∃ Q3,b.cell? (a.add 0)=some (I Q3)∧∃ Q4,b.cell? (a.add 1)=some (S Q4)∧∃ Q5,b.cell? (a.add 2)=some (I Q5)∧∃ Q6,b.cell? (a.add 3)=some (S Q6)∧((Calls prog 68 ⟨[]⟩ b fun e369 u1 =>
 ∃ Q7 Q8 Q9 S0,e369=.returned (.agg ⟨[Q7,Q8,Q9,S0]⟩)∧∃ S1,u1.cell? (a.add 0)=some (I S1)∧(aidxF [Q7,Q8,Q9,S0] 4 S1 fun b376 b376a b376b =>
 (CallV prog (.func b376 b376a b376b) [.agg ⟨[S c0,L c1 X W,L c2 Z Y,L c3 a1 a0]⟩,.agg ⟨[I h5,I h6,L h7 e8 e7]⟩,.agg ⟨[I Q3,S Q4,I Q5,S Q6]⟩] u1 fun e377 w378 =>
 ∃ S2 f0 o6,e377=.returned (L S2 f0 o6)∧(e S2 f0 o6 (f0) 0 w378))∧True))∧True))∧True))∧(∃ S3,b.cell? (a.add 0)=some (I S3)∧∃ S4,b.cell? (a.add 1)=some (S S4)∧∃ S5,b.cell? (a.add 2)=some (I S5)∧∃ S6,b.cell? (a.add 3)=some (S S6)∧((Calls prog 68 ⟨[]⟩ b fun e384 b5 =>
 ∃ S7 S8 S9 T0,e384=.returned (.agg ⟨[S7,S8,S9,T0]⟩)∧∃ T1,b5.cell? (a.add 0)=some (I T1)∧(aidxF [S7,S8,S9,T0] 4 T1 fun b391 b391a b391b =>
 ∃ T2,b5.cell? (d.add 0)=some (I T2)∧∃ T3,b5.cell? (d.add 1)=some (I T3)∧∃ T4 o8 o7,b5.cell? (d.add 2)=some (L T4 o8 o7)∧((CallV prog (.func b391 b391a b391b) [.agg ⟨[S c0,L c1 X W,L c2 Z Y,L c3 a1 a0]⟩,.agg ⟨[I T2,I T3,L T4 o8 o7]⟩,.agg ⟨[I S3,S S4,I S5,S S6]⟩] b5 fun e395 w396 =>
 ∃ T5 f1 o9,e395=.returned (L T5 f1 o9)∧(e T5 f1 o9 (f1) 0 w396))∧True)))∧True))∧True))∧(∃ h8,b.cell? (d.add 0)=some (I h8)∧∃ h9,b.cell? (d.add 1)=some (I h9)∧∃ i0 f3 f2,b.cell? (d.add 2)=some (L i0 f3 f2)∧((Calls prog 68 ⟨[]⟩ b fun e401 m =>
 ∃ T6 T7 T8 T9,e401=.returned (.agg ⟨[T6,T7,T8,T9]⟩)∧∃ U0,m.cell? (a.add 0)=some (I U0)∧(aidxF [T6,T7,T8,T9] 4 U0 fun b408 b408a b408b =>
 ∃ U1,m.cell? (c.add 0)=some (S U1)∧∃ U2 p1 p0,m.cell? (c.add 1)=some (L U2 p1 p0)∧∃ U3 p3 p2,m.cell? (c.add 2)=some (L U3 p3 p2)∧∃ U4 p5 p4,m.cell? (c.add 3)=some (L U4 p5 p4)∧∃ U5,m.cell? (a.add 0)=some (I U5)∧∃ U6,m.cell? (a.add 1)=some (S U6)∧∃ U7,m.cell? (a.add 2)=some (I U7)∧∃ U8,m.cell? (a.add 3)=some (S U8)∧((CallV prog (.func b408 b408a b408b) [.agg ⟨[S U1,L U2 p1 p0,L U3 p3 p2,L U4 p5 p4]⟩,.agg ⟨[I h8,I h9,L i0 f3 f2]⟩,.agg ⟨[I U5,S U6,I U7,S U8]⟩] m fun e417 w418 =>
 ∃ U9 f4 p6,e417=.returned (L U9 f4 p6)∧(e U9 f4 p6 (f4) 0 w418))∧True)))∧(∃ V0,b.cell? (a.add 0)=some (I V0)∧∃ V1,b.cell? (a.add 1)=some (S V1)∧∃ V2,b.cell? (a.add 2)=some (I V2)∧∃ V3,b.cell? (a.add 3)=some (S V3)∧((Calls prog 68 ⟨[]⟩ b fun e424 a6 =>
 ∃ V4 V5 V6 V7,e424=.returned (.agg ⟨[V4,V5,V6,V7]⟩)∧∃ V8,a6.cell? (a.add 0)=some (I V8)∧(aidxF [V4,V5,V6,V7] 4 V8 fun b431 b431a b431b =>
 ∃ V9,a6.cell? (c.add 0)=some (S V9)∧∃ W0 p8 p7,a6.cell? (c.add 1)=some (L W0 p8 p7)∧∃ W1 q0 p9,a6.cell? (c.add 2)=some (L W1 q0 p9)∧∃ W2 q2 q1,a6.cell? (c.add 3)=some (L W2 q2 q1)∧((CallV prog (.func b431 b431a b431b) [.agg ⟨[S V9,L W0 p8 p7,L W1 q0 p9,L W2 q2 q1]⟩,.agg ⟨[I h8,I h9,L i0 f3 f2]⟩,.agg ⟨[I V0,S V1,I V2,S V3]⟩] a6 fun e436 w437 =>
 ∃ W3 f5 q3,e436=.returned (L W3 f5 q3)∧(e W3 f5 q3 (f5) 0 w437))∧True)))∧True))∧True))∧(∃ W4,b.cell? (a.add 0)=some (I W4)∧∃ W5,b.cell? (a.add 1)=some (S W5)∧∃ W6,b.cell? (a.add 2)=some (I W6)∧∃ W7,b.cell? (a.add 3)=some (S W7)∧((Calls prog 68 ⟨[]⟩ b fun e443 s =>
 ∃ W8 W9 X0 X1,e443=.returned (.agg ⟨[W8,W9,X0,X1]⟩)∧∃ X2,s.cell? (a.add 0)=some (I X2)∧(aidxF [W8,W9,X0,X1] 4 X2 fun b450 b450a b450b =>
 ∃ X3,s.cell? (c.add 0)=some (S X3)∧∃ X4 q5 q4,s.cell? (c.add 1)=some (L X4 q5 q4)∧∃ X5 q7 q6,s.cell? (c.add 2)=some (L X5 q7 q6)∧∃ X6 q9 q8,s.cell? (c.add 3)=some (L X6 q9 q8)∧∃ X7,s.cell? (d.add 0)=some (I X7)∧∃ X8,s.cell? (d.add 1)=some (I X8)∧∃ X9 r1 r0,s.cell? (d.add 2)=some (L X9 r1 r0)∧((CallV prog (.func b450 b450a b450b) [.agg ⟨[S X3,L X4 q5 q4,L X5 q7 q6,L X6 q9 q8]⟩,.agg ⟨[I X7,I X8,L X9 r1 r0]⟩,.agg ⟨[I W4,S W5,I W6,S W7]⟩] s fun e458 w459 =>
 ∃ Y0 f6 r2,e458=.returned (L Y0 f6 r2)∧(e Y0 f6 r2 (f6) 0 w459))∧True)))∧True))∧True)))) (fun a2 f =>
 retD a2 f fun w461 =>
 R (.returned (.tuple ⟨[L J y x,I K]⟩)) w461) (fun a2 f =>
 False)) (∃ x462 r3 x462c,M.cell? f9=some (L x462 r3 x462c)∧br (decide ((1024:Int) < (r3))) (retD c9 M fun w463 =>
 R (.returned (.tuple ⟨[L none 0 0,I 4]⟩)) w463) (∃ Y1 r5 r4,M.cell? f9=some (L Y1 r5 r4)∧retD c9 M fun w465 =>
 R (.returned (.tuple ⟨[L Y1 r5 r4,I 0]⟩)) w465)))))→c5 G C a4 H g1 w53)→(drw w48 fun B =>
 (Calls prog 66 ⟨[L F k o]⟩ B fun e467 g6 =>
 ∃ Y2 r7 r6,e467=.returned (L Y2 r7 r6)∧∃ x470 r8 x470c,g6.cell? (c.add 3)=some (L x470 r8 x470c)∧∃ x471 r9 x471c,g6.cell? (c.add 3)=some (L x471 r9 x471c)∧((al g6 123 [.int .i64 (r8),.int .i64 (r9),L none 0 0] fun p472 w473 =>
 (app prog [70,70] 70 (L Y2 r7 r6) (.slice (some p472) 1 1) w473 fun a474 i1 a474c w475 =>
 c5 a474 i1 a474c ((i1:Int)) 0 w475)∧True)∧True))∧(∃ x476 a9 x476c,B.cell? (c.add 3)=some (L x476 a9 x476c)∧((Calls prog 66 ⟨[L F k o]⟩ B fun e477 u2 =>
 ∃ Y3 s1 s0,e477=.returned (L Y3 s1 s0)∧∃ x480 s2 x480c,u2.cell? (c.add 3)=some (L x480 s2 x480c)∧((al u2 123 [.int .i64 (a9),.int .i64 (s2),L none 0 0] fun p481 w482 =>
 (app prog [70,70] 70 (L Y3 s1 s0) (.slice (some p481) 1 1) w482 fun a483 i2 a483c w484 =>
 c5 a483 i2 a483c ((i2:Int)) 0 w484)∧True)∧True))∧(∃ x485 f7 x485c,B.cell? (c.add 3)=some (L x485 f7 x485c)∧((Calls prog 66 ⟨[L F k o]⟩ B fun e486 w487 =>
 ∃ Y4 s4 s3,e486=.returned (L Y4 s4 s3)∧((al w487 123 [.int .i64 (a9),.int .i64 (f7),L none 0 0] fun p489 w490 =>
 (app prog [70,70] 70 (L Y4 s4 s3) (.slice (some p489) 1 1) w490 fun a491 i3 a491c w492 =>
 c5 a491 i3 a491c ((i3:Int)) 0 w492)∧True)∧True))∧(al B 123 [.int .i64 (a9),.int .i64 (f7),L none 0 0] fun p493 w494 =>
 (Calls prog 66 ⟨[L F k o]⟩ w494 fun e495 w496 =>
 ∃ Y5 s6 s5,e495=.returned (L Y5 s6 s5)∧((app prog [70,70] 70 (L Y5 s6 s5) (.slice (some p493) 1 1) w496 fun a498 i4 a498c w499 =>
 c5 a498 i4 a498c ((i4:Int)) 0 w499)∧True))∧True)∧True))∧True))∧(∃ x500 s7 x500c,B.cell? (c.add 3)=some (L x500 s7 x500c)∧((Calls prog 66 ⟨[L F k o]⟩ B fun e501 u3 =>
 ∃ Y6 s9 s8,e501=.returned (L Y6 s9 s8)∧∃ x504 t0 x504c,u3.cell? (c.add 3)=some (L x504 t0 x504c)∧((al u3 123 [.int .i64 (t0),.int .i64 (s7),L none 0 0] fun p505 w506 =>
 (app prog [70,70] 70 (L Y6 s9 s8) (.slice (some p505) 1 1) w506 fun a507 i5 a507c w508 =>
 c5 a507 i5 a507c ((i5:Int)) 0 w508)∧True)∧True))∧True))∧True))))))→K17 J y x K c6)→(br (decide ((n:Int) < 0)) (R (.returned (.tuple ⟨[L none 0 0,I 2]⟩)) g2) (∃ x509 t1 x509c,g2.cell? (c.add 1)=some (L x509 t1 x509c)∧br (decide (((t1):Int)≤n)) (R (.returned (.tuple ⟨[L none 0 0,I 2]⟩)) g2) (K17 none 0 0 0 g2)))))
theorem qo4 {o p g f q j i r l k n e d m c b a R w} (h:qmj o p g f q j i r l k n e d m c b a R w):Calls prog qgp ⟨[.agg ⟨[S o,L p g f,L q j i,L r l k]⟩,L n e d,L m c b,I a]⟩ w R:=qb Tryz.func25 (Eq.mpr (by kernel_rfl:fnV _ _ qnp _ _ _=_) h)
def qdu:Ann:=F
def qdr:Ann:=.one F
def qkg (a3:Option Addr) (Y:Nat) (X:Nat) (a1:Option Addr) (W:Nat) (V:Nat) (B:Int) (a5:Option Addr) (Z:Option Addr) (T:Nat) (Q:Nat) (a0:Int) (A:Option Addr) (y:Nat) (x:Nat) (L:Option Addr) (e:Option Addr) (C:Int) (a2:Option Addr) (a4:Option Addr) (M:Option Addr) (F:Nat) (E:Nat) (N:Int) (O:Int) (U:Fn) (G:Array Value) (H:Array Value) (f:List UInt8) (g:List UInt8) (h:List UInt8) (i:Int) (j:Int) (k:List UInt8) (m:Int) (l:Nat) (Kn Kr Kx:World→World→Prop) (w:World):Prop :=
 al w 128 [S [],S [],S [],I 0,I 0,S [],I 0] fun b J =>
 stL J b 0 [S f,S g,S h,I i,I j,S k,I m] fun n =>
 Ext w n∧∀ a:World,Upd l n a→(dr e fun D =>
 ∃ o c d,a.cell? D=some (.func o c d)∧∃ p,a.cell? (b.add 0)=some (S p)∧∃ q,a.cell? (b.add 1)=some (S q)∧∃ r,a.cell? (b.add 2)=some (S r)∧∃ s,a.cell? (b.add 3)=some (I s)∧∃ t,a.cell? (b.add 4)=some (I t)∧∃ u,a.cell? (b.add 5)=some (S u)∧∃ v,a.cell? (b.add 6)=some (I v)∧CallV prog (.func o c d) [.agg ⟨[S p,S q,S r,I s,I t,S u,I v]⟩,.int .i64 ((-1)),.int .i64 ((-1))] a fun z K =>
 z=.returned (.tuple ⟨[]⟩)∧(Kn a K))
theorem qkr (base:Env) (J:Option Addr) (D:Nat) (C:Nat) (G:Option Addr) (B:Nat) (A:Nat) (d:Int) (M:Option Addr) (E:Option Addr) (q:Nat) (p:Nat) (F:Int) (c:Option Addr) (b:Nat) (a:Nat) (k:Option Addr) (j:Option Addr) (e:Int) (H:Option Addr) (K:Option Addr) (m:Option Addr) (g:Nat) (f:Nat) (n:Int) (o:Int) (r:Fn) (h:Array Value) (i:Array Value) (s:List UInt8) (t:List UInt8) (u:List UInt8) (v:Int) (x:Int) (y:List UInt8) (z:Int) (l:Nat) (Kn Kr Kx:World→World→Prop) (w:World):fragV prog 154 qdu qdr (cdAt Tryz.f25 [1,1,1,1,1,1,1,1,1,1,0,1,2,2,1,1,0,2,1,0,1,2,5]) (cdAt Tryz.f25 [1,1,1,1,1,1,1,1,1,1,0,1,2,2,1,1,0,2,1,0,1,2,6]) l 0 Kn Kr Kx (updPs [91] [.agg ⟨[S s,S t,S u,I v,I x,S y,I z]⟩] (upd (upd (upd (upd (upd (upd (upd (upd (upd (upd (upd (upd (upd (upd (upd (upd base 90 (.func r h i)) 80 (I o)) 79 (I n)) 78 (L m g f)) 20 (.pointer K)) 19 (.pointer H)) 18 (I e)) 17 (.pointer j)) 16 (.pointer k)) 13 (L c b a)) 9 (I F)) 8 (L E q p)) 4 (.pointer M)) 3 (I d)) 2 (L G B A)) 1 (L J D C))) w=qkg J D C G B A d M E q p F c b a k j e H K m g f n o r h i s t u v x y z l Kn Kr Kx w:=by kernel_rfl
theorem qkv:cdAt Tryz.f25 [1,1,1,1,1,1,1,1,1,1,0,1,2,2,1,1,0,2,1,0,1,2]=.rangeFunc (Operand.tmp 90) #[91] (cdAt Tryz.f25 [1,1,1,1,1,1,1,1,1,1,0,1,2,2,1,1,0,2,1,0,1,2,5]) (cdAt Tryz.f25 [1,1,1,1,1,1,1,1,1,1,0,1,2,2,1,1,0,2,1,0,1,2,6]):=by kernel_rfl
def qdt:Ann:=F
def qdq:Ann:=.one F
def qkf (a5:Option Addr) (a1:Nat) (a0:Nat) (a4:Option Addr) (Z:Nat) (Y:Nat) (F:Int) (a6:Option Addr) (a2:Option Addr) (X:Nat) (W:Nat) (a3:Int) (E:Option Addr) (A:Nat) (z:Nat) (Q:Option Addr) (m:Option Addr) (G:Int) (y:Option Addr) (T:Option Addr) (M:Nat) (L:Nat) (U:Int) (V:Int) (K:Fn) (B:Array Value) (C:Array Value) (c:List UInt8) (d:List UInt8) (e:List UInt8) (f:Int) (g:Int) (h:List UInt8) (i:Int) (l:Nat) (Kn Kr Kx:World→World→Prop) (w:World):Prop :=
 al w 128 [S [],S [],S [],I 0,I 0,S [],I 0] fun b N =>
 stL N b 0 [S c,S d,S e,I f,I g,S h,I i] fun n =>
 Ext w n∧∀ a:World,Upd l n a→(dr m fun H =>
 ∃ o j k,a.cell? H=some (.func o j k)∧∃ p,a.cell? (b.add 0)=some (S p)∧∃ q,a.cell? (b.add 1)=some (S q)∧∃ r,a.cell? (b.add 2)=some (S r)∧∃ s,a.cell? (b.add 3)=some (I s)∧∃ t,a.cell? (b.add 4)=some (I t)∧∃ u,a.cell? (b.add 5)=some (S u)∧∃ v,a.cell? (b.add 6)=some (I v)∧dr y fun J =>
 ∃ x,a.cell? J=some (I x)∧CallV prog (.func o j k) [.agg ⟨[S p,S q,S r,I s,I t,S u,I v]⟩,I x,.int .i64 ((-1))] a fun D O =>
 D=.returned (.tuple ⟨[]⟩)∧(Kn a O))
theorem qkq (base:Env) (J:Option Addr) (D:Nat) (C:Nat) (G:Option Addr) (B:Nat) (A:Nat) (f:Int) (K:Option Addr) (E:Option Addr) (z:Nat) (y:Nat) (F:Int) (e:Option Addr) (b:Nat) (a:Nat) (t:Option Addr) (s:Option Addr) (g:Int) (H:Option Addr) (u:Option Addr) (r:Nat) (q:Nat) (v:Int) (x:Int) (h:Fn) (c:Array Value) (d:Array Value) (i:List UInt8) (j:List UInt8) (k:List UInt8) (m:Int) (n:Int) (o:List UInt8) (p:Int) (l:Nat) (Kn Kr Kx:World→World→Prop) (w:World):fragV prog 154 qdt qdq (cdAt Tryz.f25 [1,1,1,1,1,1,1,1,1,1,0,1,2,2,1,1,0,2,1,1,1,2,1,4,1,3,1,2,5]) (cdAt Tryz.f25 [1,1,1,1,1,1,1,1,1,1,0,1,2,2,1,1,0,2,1,1,1,2,1,4,1,3,1,2,6]) l 0 Kn Kr Kx (updPs [144] [.agg ⟨[S i,S j,S k,I m,I n,S o,I p]⟩] (upd (upd (upd (upd (upd (upd (upd (upd (upd (upd (upd (upd (upd (upd (upd base 143 (.func h c d)) 80 (I x)) 79 (I v)) 78 (L u r q)) 19 (.pointer H)) 18 (I g)) 17 (.pointer s)) 16 (.pointer t)) 13 (L e b a)) 9 (I F)) 8 (L E z y)) 4 (.pointer K)) 3 (I f)) 2 (L G B A)) 1 (L J D C))) w=qkf J D C G B A f K E z y F e b a t s g H u r q v x h c d i j k m n o p l Kn Kr Kx w:=by kernel_rfl
theorem qku:cdAt Tryz.f25 [1,1,1,1,1,1,1,1,1,1,0,1,2,2,1,1,0,2,1,1,1,2,1,4,1,3,1,2]=.rangeFunc (Operand.tmp 143) #[144] (cdAt Tryz.f25 [1,1,1,1,1,1,1,1,1,1,0,1,2,2,1,1,0,2,1,1,1,2,1,4,1,3,1,2,5]) (cdAt Tryz.f25 [1,1,1,1,1,1,1,1,1,1,0,1,2,2,1,1,0,2,1,1,1,2,1,4,1,3,1,2,6]):=by kernel_rfl
def qnm:Ann:=T F (T (T F (T F (T (T F F) F))) (.cut 66847488 [] (T F (T (T F F) F)) (T F F)))
def qmh (Z:List UInt8) (a0:Option Addr) (O:Nat) (N:Nat) (a1:Option Addr) (T:Nat) (Q:Nat) (a2:Option Addr) (V:Nat) (U:Nat) (B:Option Addr) (i:Nat) (h:Nat) (d:Option Addr) (a:Nat) (b:Nat) (g:Int) (R:Ending→World→Prop) (w:World):Prop :=
 al w 62 [S Z,L a0 O N,L a1 T Q,L a2 V U] fun e j =>
 ∃ C,j.cell? (e.add 0)=some (S C)∧(∃ D l k,j.cell? (e.add 1)=some (L D l k)∧∃ E n m,j.cell? (e.add 2)=some (L E n m)∧∃ F p o,j.cell? (e.add 3)=some (L F p o)∧Calls prog 69 ⟨[.agg ⟨[S C,L D l k,L E n m,L F p o]⟩,L B i h,L d a b]⟩ j fun W f =>
 ∃ q,W=.returned (I q)∧br (decide (q≠0)) (R (.returned (.tuple ⟨[L none 0 0,I q]⟩)) f) (∀ (A:World→Prop),(∀  (c:World),(∀ _:Env,(∃ G,c.cell? (e.add 0)=some (S G)∧∃ H s r,c.cell? (e.add 1)=some (L H s r)∧∃ J u t,c.cell? (e.add 2)=some (L J u t)∧∃ K x v,c.cell? (e.add 3)=some (L K x v)∧Calls prog 70 ⟨[.agg ⟨[S G,L H s r,L J u t,L K x v]⟩,L B i h,L d a b,I g]⟩ c fun X Y =>
 ∃ M z y,X=.returned (L M z y)∧R (.returned (.tuple ⟨[L M z y,I 0]⟩)) Y))→A c)→(br (decide ((g:Int) < 0)) (R (.returned (.tuple ⟨[L none 0 0,I 2]⟩)) f) (br (decide ((((a:Int)):Int)≤g)) (R (.returned (.tuple ⟨[L none 0 0,I 2]⟩)) f) (A f)))))
theorem qo1 {o p g f q j i r l k n e d c b a m R w} (h:qmh o p g f q j i r l k n e d c b a m R w):Calls prog qgo ⟨[.agg ⟨[S o,L p g f,L q j i,L r l k]⟩,L n e d,L c b a,I m]⟩ w R:=qb Tryz.func26 (Eq.mpr (by kernel_rfl:fnV _ _ qnm _ _ _=_) h)
def qw5:Ann:=T F (T (T F (T (T F F) F)) (.cut 261680 [] (T F (T (T F F) F)) (T F F)))
def qvu (T:List UInt8) (U:Option Addr) (C:Nat) (B:Nat) (V:Option Addr) (E:Nat) (D:Nat) (W:Option Addr) (G:Nat) (F:Nat) (d:Int) (R:Ending→World→Prop) (w:World):Prop :=
 al w 62 [S T,L U C B,L V E D,L W G F] fun c e =>
 ∃ O,e.cell? (c.add 0)=some (S O)∧(∃ Q y x,e.cell? (c.add 1)=some (L Q y x)∧∃ q g f,e.cell? (c.add 2)=some (L q g f)∧∃ r i h,e.cell? (c.add 3)=some (L r i h)∧Calls prog 58 ⟨[.agg ⟨[S O,L Q y x,L q g f,L r i h]⟩]⟩ e fun H a =>
 ∃ s,H=.returned (I s)∧br (decide (s≠0)) (R (.returned (.tuple ⟨[L none 0 0,I 1]⟩)) a) (∀ (p:World→Prop),(∀  (b:World),(∀ _:Env,(∃ t j z,b.cell? (c.add 2)=some (L t j z)∧idx t j d 1 fun K =>
 ∃ u l k,b.cell? K=some (L u l k)∧Calls prog 71 ⟨[L u l k]⟩ b fun J M =>
 ∃ v n m,J=.returned (L v n m)∧R (.returned (.tuple ⟨[L v n m,I 0]⟩)) M))→p b)→(br (decide ((d:Int) < 0)) (R (.returned (.tuple ⟨[L none 0 0,I 2]⟩)) a) (∃ N o A,a.cell? (c.add 1)=some (L N o A)∧br (decide (((o):Int)≤d)) (R (.returned (.tuple ⟨[L none 0 0,I 2]⟩)) a) (p a)))))
theorem qyh {i j b a k d c l f e g R w} (h:qvu i j b a k d c l f e g R w):Calls prog qlh ⟨[.agg ⟨[S i,L j b a,L k d c,L l f e]⟩,I g]⟩ w R:=qb Tryz.func27 (Eq.mpr (by kernel_rfl:fnV _ _ qw5 _ _ _=_) h)
end Go.Proofs
