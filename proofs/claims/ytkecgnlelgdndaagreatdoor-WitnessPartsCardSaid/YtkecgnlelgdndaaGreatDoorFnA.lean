/- Written by program: for each function its verification condition, that it is the code's (by the kernel), and that it gives the call. -/
import Derived.Test.YtkecgnlelgdndaaGreatDoorFn
set_option linter.all false
set_option maxRecDepth 100000
namespace Go.Proofs
open Go Go.Sh Go.Proofs.Tryz IntKind
def an_law16_WitnessParts:Ann:=T F (.cut 17592152491008 [] (T F (T (T F F) F)) (T F (T F (T F (T F (T F (T F (T F F))))))))
def sh_law16_WitnessParts (j7:List UInt8) (j8:Option Addr) (g9:Nat) (g8:Nat) (a:List UInt8) (h:Int) (b7:Option Addr) (k:Nat) (x:Nat) (e:List UInt8) (R:Ending→World→Prop) (w:World):Prop :=
 al w 45 [S j7,L j8 g9 g8] fun b g7 =>
 ∀ (h0:World→Prop),(∀  (v:World),(∀ _:Env,(∃ c0,v.cell? (b.add 0)=some (S c0)∧∃ c1 N M,v.cell? (b.add 1)=some (L c1 N M)∧Calls prog 25 ⟨[.agg ⟨[S c0,L c1 N M]⟩]⟩ v fun h1 y =>
 ∃ O m l Q,h1=.returned (.tuple ⟨[L O m l,I Q]⟩)∧∃ c2,y.cell? (b.add 0)=some (S c2)∧∃ c3 U T,y.cell? (b.add 1)=some (L c3 U T)∧Calls prog 38 ⟨[.agg ⟨[S c2,L c3 U T]⟩]⟩ y fun h2 z =>
 ∃ V o n W,h2=.returned (.tuple ⟨[L V o n,I W]⟩)∧∃ c4,z.cell? (b.add 0)=some (S c4)∧∃ c5 Y X,z.cell? (b.add 1)=some (L c5 Y X)∧Calls prog 27 ⟨[.agg ⟨[S c4,L c5 Y X]⟩,S a,I h]⟩ z fun h3 i7 =>
 ∃ Z q p c6 c7 a0,h3=.returned (.tuple ⟨[L Z q p,.agg ⟨[S c6,I c7]⟩,I a0]⟩)∧al i7 51 [S [],I 0] fun i i8 =>
 stL i8 i 0 [S c6,I c7] fun A =>
 ∃ c8,A.cell? (b.add 0)=some (S c8)∧∃ c9 a2 a1,A.cell? (b.add 1)=some (L c9 a2 a1)∧Calls prog 39 ⟨[.agg ⟨[S c8,L c9 a2 a1]⟩,S a,I h]⟩ A fun h4 i9 =>
 ∃ a3 s r d0 d1 a4,h4=.returned (.tuple ⟨[L a3 s r,.agg ⟨[S d0,I d1]⟩,I a4]⟩)∧al i9 51 [S [],I 0] fun j j0 =>
 stL j0 j 0 [S d0,I d1] fun j1 =>
 Calls prog 40 ⟨[L b7 k x,S e]⟩ j1 fun h5 j2 =>
 ∃ a5 a6,h5=.returned (.tuple ⟨[I a5,I a6]⟩)∧Calls prog 41 ⟨[L b7 k x,S e]⟩ j2 fun h6 j3 =>
 ∃ a7 a8,h6=.returned (.tuple ⟨[I a7,I a8]⟩)∧drw j3 fun g =>
 ∃ a9,g.cell? (b.add 0)=some (S a9)∧∃ b0 u t,g.cell? (b.add 1)=some (L b0 u t)∧((Calls prog 42 ⟨[.agg ⟨[S a9,L b0 u t]⟩]⟩ g fun h7 C =>
 ∃ d2,h7=.returned (I d2)∧∃ d3,C.cell? (b.add 0)=some (S d3)∧∃ d4 b2 b1,C.cell? (b.add 1)=some (L d4 b2 b1)∧((Calls prog 43 ⟨[.agg ⟨[S d3,L d4 b2 b1]⟩]⟩ C fun h8 b8 =>
 ∃ d5,h8=.returned (I d5)∧br (decide (d2=d5)) ((Calls prog 19 ⟨[L O m l,L V o n]⟩ b8 fun h9 D =>
 ∃ d6,h9=.returned (B d6)∧br d6 (br (decide (Q=W)) ((Calls prog 44 ⟨[L Z q p,L a3 s r]⟩ D fun i0 c =>
 ∃ d7,i0=.returned (B d7)∧br d7 (∃ d8,c.cell? (i.add 0)=some (S d8)∧∃ d9,c.cell? (i.add 1)=some (I d9)∧∃ e0,c.cell? (j.add 0)=some (S e0)∧∃ e1,c.cell? (j.add 1)=some (I e1)∧br ((decide (d8=e0)&&(decide (d9=e1)&&true))) (br (decide (a0=a4)) (br (decide (a5=a7)) ((br (decide (a6=a8)) (Calls prog 13 ⟨[]⟩ c fun i1 j4 =>
 ∃ e2,i1=.returned (B e2)∧R (.returned (B e2)) j4) (R (.returned (B false)) c))∧True) ((R (.returned (B false)) c)∧True)) ((R (.returned (B false)) c)∧True)) ((R (.returned (B false)) c)∧True)) ((R (.returned (B false)) c)∧True))∧True) (((R (.returned (B false)) D)∧True)∧True)) (((R (.returned (B false)) D)∧True)∧True))∧True) ((((R (.returned (B false)) b8)∧True)∧True)∧True))∧True))∧(∃ e3,g.cell? (b.add 0)=some (S e3)∧∃ e4 b4 b3,g.cell? (b.add 1)=some (L e4 b4 b3)∧((Calls prog 42 ⟨[.agg ⟨[S a9,L b0 u t]⟩]⟩ g fun i2 j5 =>
 ∃ e5,i2=.returned (I e5)∧((Calls prog 43 ⟨[.agg ⟨[S e3,L e4 b4 b3]⟩]⟩ j5 fun i3 b9 =>
 ∃ e6,i3=.returned (I e6)∧br (decide (e5=e6)) ((Calls prog 19 ⟨[L O m l,L V o n]⟩ b9 fun i4 E =>
 ∃ e7,i4=.returned (B e7)∧br e7 (br (decide (Q=W)) ((Calls prog 44 ⟨[L Z q p,L a3 s r]⟩ E fun i5 d =>
 ∃ e8,i5=.returned (B e8)∧br e8 (∃ e9,d.cell? (i.add 0)=some (S e9)∧∃ f0,d.cell? (i.add 1)=some (I f0)∧∃ f1,d.cell? (j.add 0)=some (S f1)∧∃ f2,d.cell? (j.add 1)=some (I f2)∧br ((decide (e9=f1)&&(decide (f0=f2)&&true))) (br (decide (a0=a4)) (br (decide (a5=a7)) ((br (decide (a6=a8)) (Calls prog 13 ⟨[]⟩ d fun i6 j6 =>
 ∃ f3,i6=.returned (B f3)∧R (.returned (B f3)) j6) (R (.returned (B false)) d))∧True) ((R (.returned (B false)) d)∧True)) ((R (.returned (B false)) d)∧True)) ((R (.returned (B false)) d)∧True)) ((R (.returned (B false)) d)∧True))∧True) (((R (.returned (B false)) E)∧True)∧True)) (((R (.returned (B false)) E)∧True)∧True))∧True) ((((R (.returned (B false)) b9)∧True)∧True)∧True))∧True))∧True))∧True)))→h0 v)→(∃ f4,g7.cell? (b.add 0)=some (S f4)∧∃ f5 b6 b5,g7.cell? (b.add 1)=some (L f5 b6 b5)∧al g7 45 [S f4,L f5 b6 b5] fun g1 g2 =>
 Calls prog 11 ⟨[.slice (some g1) 1 1]⟩ g2 fun f6 f =>
 ∃ F,f6=.returned (B F)∧br F (Calls prog 13 ⟨[]⟩ f fun f7 g3 =>
 ∃ G,f7=.returned (B G)∧R (.returned (B G)) g3) (br (decide ((30:Int) < ((List.length a:Int)))) (Calls prog 13 ⟨[]⟩ f fun f8 g4 =>
 ∃ H,f8=.returned (B H)∧R (.returned (B H)) g4) (br (decide ((8:Int) < ((k:Int)))) (Calls prog 13 ⟨[]⟩ f fun f9 g5 =>
 ∃ J,f9=.returned (B J)∧R (.returned (B J)) g5) (br (decide ((30:Int) < ((List.length e:Int)))) (Calls prog 13 ⟨[]⟩ f fun g0 g6 =>
 ∃ K,g0=.returned (B K)∧R (.returned (B K)) g6) (h0 f)))))
theorem c_law16_WitnessParts {j k g f a c i e d b R w} (h:sh_law16_WitnessParts j k g f a c i e d b R w):Calls prog F_law16_WitnessParts ⟨[.agg ⟨[S j,L k g f]⟩,S a,I c,L i e d,S b]⟩ w R:=qe Tryz.func7 (Eq.mpr (by kernel_rfl:fnV _ _ an_law16_WitnessParts _ _ _=_) h)
def q0u:Ann:=T F (T (T F (T (T F F) F)) (T (T F (.one (.loop 140737488355212 [(3,.one (.int .i64))] (T (T F (T F F)) (T (.one (T F (T (T F F) F))) F))))) (T F F)))
def qzn (d:Option Addr) (a:Nat) (u:Nat) (R:Ending→World→Prop) (w:World):Prop :=
 br (decide ((35:Int) < ((a:Int)))) (R (.returned (B true)) w) (∃ (f:Int→World→Nat→Prop),(∃ v,f 0 w v)∧∀ c g n,f c g n→∀ _:Env,(br (decide ((c:Int) < ((a:Int)))) (idx d a c 2 fun x =>
 ∃ s m l,g.cell? (x.add 1)=some (L s m l)∧Calls prog 55 ⟨[L s m l]⟩ g fun t b =>
 ∃ j,t=.returned (B j)∧br j (R (.returned (B true)) b) (idx d a c 2 fun p =>
 ∃ k,b.cell? (p.add 0)=some (S k)∧br (decide ((20:Int) < ((List.length k:Int)))) (R (.returned (B true)) b) (br (decide ((4:Int) < ((a:Int)))) (br (decide ((((a:Int)):Int)≤32)) (R (.returned (B true)) b) (idx d a c 2 fun q =>
 ∃ r e o,b.cell? (q.add 1)=some (L r e o)∧br (decide ((0:Int) < (e))) (R (.returned (B true)) b) (∃ h,h < n∧f (i64.wrap (c + 1)) b h))) (∃ i,i < n∧f (i64.wrap (c + 1)) b i)))) (R (.returned (B false)) g)))
theorem q39 {c b a R w} (h:qzn c b a R w):Calls prog qq9 ⟨[L c b a]⟩ w R:=qe Tryz.func11 (Eq.mpr (by kernel_rfl:fnV _ _ q0u _ _ _=_) h)
def q1c:Ann:=T F (T F (T F (T F (T F (.cut 4611685880988434433 [] (T F (T (T F F) F)) (T F F))))))
def qz5  (R:Ending→World→Prop) (w:World):Prop :=
 Calls prog 56 ⟨[]⟩ w fun f8 g1 =>
 ∃ f3 f4 X W,f8=.returned (.agg ⟨[S f3,L f4 X W]⟩)∧(al g1 45 [S f3,L f4 X W] fun g0 g2 =>
 Calls prog 14 ⟨[.slice (some g0) 1 1]⟩ g2 fun f9 g3 =>
 ∃ f7 a7 a6 C,f9=.returned (.tuple ⟨[L f7 a7 a6,I C]⟩)∧Calls prog 56 ⟨[]⟩ g3 fun b3 d8 =>
 ∃ D E f e,b3=.returned (.agg ⟨[S D,L E f e]⟩)∧Calls prog 25 ⟨[.agg ⟨[S D,L E f e]⟩]⟩ d8 fun b4 d9 =>
 ∃ F h g G,b4=.returned (.tuple ⟨[L F h g,I G]⟩)∧Calls prog 56 ⟨[]⟩ d9 fun b5 e0 =>
 ∃ H J j i,b5=.returned (.agg ⟨[S H,L J j i]⟩)∧al e0 45 [S H,L J j i] fun c4 e1 =>
 Calls prog 20 ⟨[.slice (some c4) 1 1,L none 0 0,S [111,110,101]]⟩ e1 fun b6 e2 =>
 ∃ K l k d a a8 M,b6=.returned (.tuple ⟨[L K l k,L d a a8,I M]⟩)∧al e2 9 [S [111,110,101],S [116,104,114,101,101]] fun c5 e3 =>
 Calls prog 35 ⟨[S [65],.slice (some c5) 2 2]⟩ e3 fun b7 e4 =>
 ∃ N O n m,b7=.returned (.agg ⟨[S N,L O n m]⟩)∧al e4 9 [S [116,119,111],S [116,104,114,101,101]] fun c6 e5 =>
 Calls prog 35 ⟨[S [66],.slice (some c6) 2 2]⟩ e5 fun b8 e6 =>
 ∃ Q T p o,b8=.returned (.agg ⟨[S Q,L T p o]⟩)∧al e6 45 [S N,L O n m,S Q,L T p o] fun c7 e7 =>
 Calls prog 16 ⟨[.slice (some c7) 2 2]⟩ e7 fun b9 c =>
 ∃ U r q V,b9=.returned (.tuple ⟨[L U r q,I V]⟩)∧∀ (x:World→Prop),(∀  (y:World),(∀ _:Env,(al y 65 [S [65,42],I 0,I 0,S [65,49],I 0,I 1] fun c8 e8 =>
 Calls prog 57 ⟨[L f7 a7 a6,.slice (some c8) 2 2]⟩ e8 fun c0 z =>
 ∃ Y,c0=.returned (B Y)∧br Y (al z 9 [S [111,110,101],S [116,119,111]] fun c9 e9 =>
 Calls prog 19 ⟨[L F h g,.slice (some c9) 2 2]⟩ e9 fun c1 A =>
 ∃ Z,c1=.returned (B Z)∧br Z (al A 9 [S [65,42],S [65,49]] fun d0 f0 =>
 Calls prog 19 ⟨[L K l k,.slice (some d0) 2 2]⟩ f0 fun c2 b =>
 ∃ a0,c2=.returned (B a0)∧br a0 (idx d a 0 1 fun d1 =>
 ∃ a1 s a9,b.cell? d1=some (L a1 s a9)∧idx a1 s 0 6 fun d2 =>
 ∃ a2,b.cell? (d2.add 0)=some (S a2)∧br (decide (a2=([100,101]))) (idx d a 1 1 fun d3 =>
 ∃ a3 t b0,b.cell? d3=some (L a3 t b0)∧idx a3 t 0 6 fun d4 =>
 ∃ a4,b.cell? (d4.add 0)=some (S a4)∧br (decide (a4=([100,101,117,115]))) (al b 9 [S [111,110,101],S [116,119,111],S [116,104,114,101,101]] fun d5 f1 =>
 Calls prog 19 ⟨[L U r q,.slice (some d5) 3 3]⟩ f1 fun c3 f2 =>
 ∃ a5,c3=.returned (B a5)∧R (.returned (B a5)) f2) (R (.returned (B false)) b)) (R (.returned (B false)) b)) (R (.returned (B false)) b)) (R (.returned (B false)) A)) (R (.returned (B false)) z)))→x y)→(br (decide ((((max (max (max C G) M) V)):Int)≠0)) (R (.returned (B false)) c) (br (decide (((a):Int)≠2)) (R (.returned (B false)) c) (idx d a 0 1 fun d6 =>
 ∃ f5 u b1,c.cell? d6=some (L f5 u b1)∧br (decide (((u):Int)≠1)) (R (.returned (B false)) c) (idx d a 1 1 fun d7 =>
 ∃ f6 v b2,c.cell? d7=some (L f6 v b2)∧br (decide (((v):Int)≠1)) (R (.returned (B false)) c) (x c))))))
theorem q4q {R w} (h:qz5  R w):Calls prog qip ⟨[]⟩ w R:=qe Tryz.func13 (Eq.mpr (by kernel_rfl:fnV _ _ q1c _ _ _=_) h)
def qqj:Ann:=T F (T (T F (T F (T (T F F) F))) (T F (T (T F (.one (.loop 9444732965739286236140 [(5,.one (.slice)),(22,.one (.int .i64))] (T F (T (T F F) (T (.one (T F (T F (T (T F (T (T F F) F)) (T (T F (T (T F F) F)) (T F (T F (.one (.loop 4722294425275607287840 [(5,.one (.slice)),(56,.one (.int .i64))] (T F (T (T F F) (T (.one (T F (.one F))) F)))))))))))) F)))))) (T F (T (T F (.one (.loop 309409451957619154401378316 [(76,.one (.int .i64))] (T F (T (T F F) (T (.one (T F (T (T F (T (T F F) F)) F))) F)))))) (T (T F (T (T F F) F)) (T F F)))))))
def qor (H:Option Addr) (p:Nat) (c0:Nat) (R:Ending→World→Prop) (w:World):Prop :=
 Calls prog 58 ⟨[L H p c0]⟩ w fun f6 e5 =>
 ∃ c3,f6=.returned (I c3)∧(br (decide (c3≠0)) (R (.returned (.tuple ⟨[L none 0 0,I c3]⟩)) e5) (∃ (F:Option Addr→Nat→Nat→Int→World→Nat→Prop),(∃ d1,F none 0 0 0 e5 d1)∧∀ g b h a y c1,F g b h a y c1→∀ _:Env,(br (decide ((a:Int) < ((p:Int)))) (idx H p a 2 fun T =>
 ∃ W,y.cell? (T.add 0)=some (S W)∧∃ X A z,y.cell? (T.add 1)=some (L X A z)∧al y 45 [S [],L none 0 0] fun k e2 =>
 stL e2 k 0 [S W,L X A z] fun U =>
 ∃ Y D C,U.cell? (k.add 1)=some (L Y D C)∧Calls prog 45 ⟨[L Y D C]⟩ U fun c8 m =>
 ∃ Z l c2 E,c8=.returned (.tuple ⟨[L Z l c2,I E]⟩)∧br (decide (E≠0)) (R (.returned (.tuple ⟨[L none 0 0,I E]⟩)) m) (br (decide (((l):Int)=0)) (∃ a0,m.cell? (k.add 0)=some (S a0)∧al m 65 [S a0,I a,I 0] fun d4 e3 =>
 app prog [27,27] 27 (L g b h) (.slice (some d4) 1 1) e3 fun c4 b3 b2 e4 =>
 ∃ J,J < c1∧F c4 b3 b2 (i64.wrap (a + 1)) e4 J) (∃ a1,m.cell? (k.add 0)=some (S a1)∧(sadd a1 ([42]) fun d9 =>
 al m 65 [S d9,I a,I 0] fun d5 e6 =>
 app prog [27,27] 27 (L g b h) (.slice (some d5) 1 1) e6 fun c5 b5 b4 e7 =>
 ∃ (q:Option Addr→Nat→Nat→Int→World→Nat→Prop),(∃ d2,q c5 b5 b4 0 e7 d2)∧∀ f e d c r t,q f e d c r t→∀ _:Env,(br (decide ((c:Int) < (l))) (idx Z l c 1 fun d6 =>
 ∃ o,r.cell? d6=some (I o)∧drw r fun x =>
 (∃ a2,x.cell? (k.add 0)=some (S a2)∧((Calls prog 59 ⟨[I o]⟩ x fun c9 e8 =>
 ∃ a3,c9=.returned (S a3)∧(sadd a2 a3 fun e0 =>
 (al e8 65 [S e0,I a,I o] fun d7 e9 =>
 (app prog [27,27] 27 (L f e d) (.slice (some d7) 1 1) e9 fun c6 b7 b6 f0 =>
 ∃ K,K < t∧q c6 b7 b6 (i64.wrap (c + 1)) f0 K)∧True)∧True))∧True))∧(Calls prog 59 ⟨[I o]⟩ x fun d0 V =>
 ∃ a4,d0=.returned (S a4)∧∃ a5,V.cell? (k.add 0)=some (S a5)∧(sadd a5 a4 fun e1 =>
 (al V 65 [S e1,I a,I o] fun d8 f1 =>
 (app prog [27,27] 27 (L f e d) (.slice (some d8) 1 1) f1 fun c7 b9 b8 f2 =>
 ∃ M,M < t∧q c7 b9 b8 (i64.wrap (c + 1)) f2 M)∧True)∧True))∧True) (∃ N,N < c1∧F f e d (i64.wrap (a + 1)) r N)))))) (mkm y fun G f3 =>
 ∃ (s:Int→World→Nat→Prop),(∃ d3,s 0 f3 d3)∧∀ i j O,s i j O→∀ _:Env,(br (decide ((i:Int) < ((b:Int)))) (idx g b i 3 fun u =>
 ∃ a6,j.cell? (u.add 0)=some (S a6)∧∃ a7,j.cell? (u.add 1)=some (I a7)∧∃ a8,j.cell? (u.add 2)=some (I a8)∧al j 65 [S [],I 0,I 0] fun v f4 =>
 stL f4 v 0 [S a6,I a7,I a8] fun n =>
 ∃ a9,n.cell? (v.add 0)=some (S a9)∧∃ b0,lkAt prog 95 (.map (some G)) (S a9) n (B b0)∧br b0 (R (.returned (.tuple ⟨[L none 0 0,I 7]⟩)) n) (∃ b1,n.cell? (v.add 0)=some (S b1)∧(mupd prog 95 (.map (some G)) (S b1) (B true) n fun f5 =>
 ∃ Q,Q < O∧s (i64.wrap (i + 1)) f5 Q))) (br (decide ((32:Int) < ((b:Int)))) (R (.returned (.tuple ⟨[L none 0 0,I 4]⟩)) j) (R (.returned (.tuple ⟨[L g b h,I 0]⟩)) j)))))))
theorem qst {c b a R w} (h:qor c b a R w):Calls prog qhu ⟨[L c b a]⟩ w R:=qe Tryz.func14 (Eq.mpr (by kernel_rfl:fnV _ _ qqj _ _ _=_) h)
def qvd:Ann:=T F (T (T F (T F (T (T F F) F))) (T F (T F (T (T F (.one (.loop 140737421249280 [(26,.one (.int .i64))] (T F (T (T F F) (T (.one (T F (T F (T F (T F (.one (.loop 69818988365824 [(39,.one (.int .i64))] (T F (T (T F F) (T (.one (T F F)) F)))))))))) F)))))) (T (T (T F F) (T (T F F) F)) (T F (T F (T F (T F (T (.one (.loop 2361174234235568066572 [(12,.one (.slice))] (T (T (T F F) (T F F)) (.one (T F (T (T F (T (T F F) F)) (T F F))))))) (T F F)))))))))))
def quj (z:Option Addr) (h:Nat) (a4:Nat) (R:Ending→World→Prop) (w:World):Prop :=
 Calls prog 58 ⟨[L z h a4]⟩ w fun d3 c3 =>
 ∃ a5,d3=.returned (I a5)∧(br (decide (a5≠0)) (R (.returned (.tuple ⟨[L none 0 0,I a5]⟩)) c3) (al c3 96 [L none 0 0] fun y d4 =>
 mkm d4 fun a3 d5 =>
 ∃ (Y:Int→World→Nat→Prop),(∃ b1,Y 0 d5 b1)∧∀ b f A,Y b f A→∀ _:Env,(br (decide ((b:Int) < ((h:Int)))) (idx z h b 2 fun H =>
 ∃ O,f.cell? (H.add 0)=some (S O)∧∃ Q p o,f.cell? (H.add 1)=some (L Q p o)∧al f 45 [S [],L none 0 0] fun J b9 =>
 stL b9 J 0 [S O,L Q p o] fun M =>
 ∃ T r q,M.cell? (J.add 1)=some (L T r q)∧Calls prog 62 ⟨[L T r q]⟩ M fun a9 N =>
 ∃ s g t,a9=.returned (L s g t)∧∃ U v u,N.cell? y=some (L U v u)∧al N 31 [L s g t] fun b6 c0 =>
 app prog [96,96] 96 (L U v u) (.slice (some b6) 1 1) c0 fun a6 a0 Z c1 =>
 stL c1 y 0 [L a6 a0 Z] fun c2 =>
 ∃ (l:Int→World→Nat→Prop),(∃ b2,l 0 c2 b2)∧∀ c j C,l c j C→∀ _:Env,(br (decide ((c:Int) < (g))) (idx s g c 1 fun b7 =>
 ∃ V,j.cell? b7=some (S V)∧(mupd prog 95 (.map (some a3)) (S V) (B true) j fun c4 =>
 ∃ D,D < C∧l (i64.wrap (c + 1)) c4 D)) (∃ E,E < A∧Y (i64.wrap (b + 1)) j E))) (mlenV f (.map (some a3)) fun b4 =>
 br (decide ((64:Int) < b4)) (R (.returned (.tuple ⟨[L none 0 0,I 4]⟩)) f) (mkm f fun a8 c5 =>
 al c5 95 [.map none] fun i c6 =>
 stL c6 i 0 [.map (some a8)] fun c7 =>
 al c7 98 [.nilFunc] fun K c8 =>
 stL c8 K 0 [.func (.func 63) ⟨[]⟩ ⟨[.pointer (some y),.pointer (some i)]⟩] fun c9 =>
 ∃ (m:Option Addr→Nat→Nat→World→Nat→Prop),(∃ b3,m none 0 0 c9 b3)∧∀ e a d k F,m e a d k F→∀ _:Env,(mlenV k (.map (some a3)) fun b5 =>
 br (decide ((((a:Int)):Int) < b5)) (CallV prog (.func (.func 64) ⟨[]⟩ ⟨[.pointer (some y),.pointer (some i),.pointer (some K)]⟩) [] k fun b0 n =>
 ∃ x W,b0=.returned (.tuple ⟨[S x,B W]⟩)∧br (!W) (R (.returned (.tuple ⟨[L none 0 0,I 15]⟩)) n) (∃ X,n.cell? i=some (X)∧(mupd prog 95 X (S x) (B true) n fun d0 =>
 al d0 9 [S x] fun b8 d1 =>
 app prog [31,31] 31 (L e a d) (.slice (some b8) 1 1) d1 fun a7 a2 a1 d2 =>
 ∃ G,G < F∧m a7 a2 a1 d2 G))) (R (.returned (.tuple ⟨[L e a d,I 0]⟩)) k)))))))
theorem qx8 {c b a R w} (h:quj c b a R w):Calls prog qkr ⟨[L c b a]⟩ w R:=qe Tryz.func16 (Eq.mpr (by kernel_rfl:fnV _ _ qvd _ _ _=_) h)
def ql0:Ann:=T F (T (T F (T (T F F) F)) (T (T F (.one (.loop 67106864 [(5,.one (.int .i64))] (T (T F (T F F)) (T (.one (T F (T (T F F) F))) F))))) (T F F)))
def qe3 (p:Option Addr) (c:Nat) (s:Nat) (q:Option Addr) (d:Nat) (t:Nat) (R:Ending→World→Prop) (w:World):Prop :=
 br (decide ((((c:Int)):Int)≠((d:Int)))) (R (.returned (B false)) w) (∃ (m:Int→World→Nat→Prop),(∃ u,m 0 w u)∧∀ a o r,m a o r→∀ _:Env,(br (decide ((a:Int) < ((c:Int)))) (drw o fun b =>
 idx p c a 3 fun n =>
 ∃ g,b.cell? (n.add 0)=some (S g)∧∃ h,b.cell? (n.add 1)=some (I h)∧∃ i,b.cell? (n.add 2)=some (I i)∧idx q d a 3 fun e =>
 ∃ j,b.cell? (e.add 0)=some (S j)∧∃ k,b.cell? (e.add 1)=some (I k)∧∃ l,b.cell? (e.add 2)=some (I l)∧br (!(decide (g=j)&&(decide (h=k)&&(decide (i=l)&&true)))) (R (.returned (B false)) b) (∃ f,f < r∧m (i64.wrap (a + 1)) b f)) (R (.returned (B true)) o)))
theorem q9b {e b a f d c R w} (h:qe3 e b a f d c R w):Calls prog qog ⟨[L e b a,L f d c]⟩ w R:=qe Tryz.func18 (Eq.mpr (by kernel_rfl:fnV _ _ ql0 _ _ _=_) h)
def qds:Ann:=T F (T (T F (T (T F F) F)) (T (T F (.one (.loop 67100720 [(13,.one (.int .i64))] (T F (T (T F F) (T (.one (T F (T F (T (T F F) F)))) F)))))) (T F F)))
def qdn (i:Option Addr) (b:Nat) (n:Nat) (j:Option Addr) (c:Nat) (o:Nat) (R:Ending→World→Prop) (w:World):Prop :=
 br (decide ((((b:Int)):Int)≠((c:Int)))) (R (.returned (B false)) w) (∃ (h:Int→World→Nat→Prop),(∃ p,h 0 w p)∧∀ a k l,h a k l→∀ _:Env,(br (decide ((a:Int) < ((b:Int)))) (drw k fun d =>
 idx i b a 1 fun q =>
 ∃ f,d.cell? q=some (S f)∧idx j c a 1 fun m =>
 ∃ g,d.cell? m=some (S g)∧br (decide (f≠g)) (R (.returned (B false)) d) (∃ e,e < l∧h (i64.wrap (a + 1)) d e)) (R (.returned (B true)) k)))
theorem qd9 {e b a f d c R w} (h:qdn e b a f d c R w):Calls prog qbg ⟨[L e b a,L f d c]⟩ w R:=qe Tryz.func19 (Eq.mpr (by kernel_rfl:fnV _ _ qds _ _ _=_) h)
def qtb:Ann:=T F (T F (T (T F (T (T F F) F)) (T F (T F (T (T F (.one (.loop 604462909807314050996672 [(11,.one (.slice)),(12,.one (.slice)),(29,.one (.int .i64))] (T F (T (T F F) (T (.one (T F (T (T F (T F F)) (.cut 72048797945135104 [(15,.one (.slice)),(16,.one (.ptr)),(17,.one (.int .i64))] F (T (T F (T (T F F) F)) (T F (T (T F (T (T F F) F)) F))))))) F)))))) (T (T F (T (T F F) F)) (T F F)))))))
def qrw (z:Option Addr) (q:Nat) (d1:Nat) (x:Option Addr) (s:Nat) (r:Nat) (f:List UInt8) (R:Ending→World→Prop) (w:World):Prop :=
 Calls prog 14 ⟨[L z q d1]⟩ w fun f9 e8 =>
 ∃ f7 W f8 d2,f9=.returned (.tuple ⟨[L f7 W f8,I d2]⟩)∧(br (decide (d2≠0)) (R (.returned (.tuple ⟨[L none 0 0,L none 0 0,I d2]⟩)) e8) (∃ (Z:Option Addr→Nat→Nat→Option Addr→Nat→Nat→Int→World→Nat→Prop),(∃ e0,Z none 0 0 none 0 0 0 e8 e0)∧∀ h c e d b a g l A,Z h c e d b a g l A→∀ _:Env,(br (decide ((g:Int) < (W))) (idx f7 W g 3 fun C =>
 ∃ a7,l.cell? (C.add 0)=some (S a7)∧∃ a8,l.cell? (C.add 1)=some (I a8)∧∃ a9,l.cell? (C.add 2)=some (I a9)∧al l 65 [S [],I 0,I 0] fun n e4 =>
 stL e4 n 0 [S a7,I a8,I a9] fun D =>
 ∃ b0,D.cell? (n.add 1)=some (I b0)∧idx z q b0 2 fun e1 =>
 ∃ b1 G F,D.cell? (e1.add 1)=some (L b1 G F)∧Calls prog 62 ⟨[L b1 G F]⟩ D fun d5 e5 =>
 ∃ b2 J H,d5=.returned (L b2 J H)∧Calls prog 34 ⟨[L b2 J H,S f]⟩ e5 fun d6 a6 =>
 ∃ b3,d6=.returned (B b3)∧br (!b3) (∃ a0,a0 < A∧Z h c e d b a (i64.wrap (g + 1)) a6 a0) (∀ (y:Option Addr→Nat→Nat→Option Addr→Int→World→Prop),(∀ (k:Option Addr) (j:Nat) (i:Nat) (v:Option Addr) (p:Int) (o:World),(∀ _:Env,(br (decide ((p:Int)≠0)) (R (.returned (.tuple ⟨[L none 0 0,L none 0 0,I p]⟩)) o) (dr v fun a2 =>
 ∃ b4,o.cell? (a2.add 0)=some (S b4)∧∃ b5,o.cell? (a2.add 1)=some (I b5)∧Calls prog 36 ⟨[.agg ⟨[S b4,I b5]⟩,L k j i,L x s r]⟩ o fun d7 E =>
 ∃ b6 M K N,d7=.returned (.tuple ⟨[L b6 M K,I N]⟩)∧br (decide (N≠0)) (R (.returned (.tuple ⟨[L none 0 0,L none 0 0,I N]⟩)) E) (∃ b7,E.cell? (n.add 0)=some (S b7)∧al E 9 [S b7] fun e2 e6 =>
 app prog [31,31] 31 (L h c e) (.slice (some e2) 1 1) e6 fun d3 c8 c7 e7 =>
 al e7 40 [L b6 M K] fun e3 e9 =>
 app prog [36,36] 36 (L d b a) (.slice (some e3) 1 1) e9 fun d4 d0 c9 f0 =>
 ∃ a1,a1 < A∧Z d3 c8 c7 d4 d0 c9 (i64.wrap (g + 1)) f0 a1))))→y k j i v p o)→(drw a6 fun m =>
 ∃ b8,m.cell? (n.add 1)=some (I b8)∧idx z q b8 2 fun a3 =>
 ∃ O,m.cell? (a3.add 0)=some (S O)∧∃ Q u t,m.cell? (a3.add 1)=some (L Q u t)∧∃ T,m.cell? (n.add 2)=some (I T)∧((Calls prog 27 ⟨[.agg ⟨[S O,L Q u t]⟩,S f,I T]⟩ m fun d8 f1 =>
 ∃ b9 V U c0 c1 c2,d8=.returned (.tuple ⟨[L b9 V U,.agg ⟨[S c0,I c1]⟩,I c2]⟩)∧((al f1 51 [S [],I 0] fun a4 f2 =>
 (stL f2 a4 0 [S c0,I c1] fun f3 =>
 y b9 V U (some a4) c2 f3)∧True)∧True))∧(al m 51 [S [],I 0] fun a5 f4 =>
 (Calls prog 27 ⟨[.agg ⟨[S O,L Q u t]⟩,S f,I T]⟩ f4 fun d9 f5 =>
 ∃ c3 Y X c4 c5 c6,d9=.returned (.tuple ⟨[L c3 Y X,.agg ⟨[S c4,I c5]⟩,I c6]⟩)∧((stL f5 a5 0 [S c4,I c5] fun f6 =>
 y c3 Y X (some a5) c6 f6)∧True))∧True)∧True)))) (br (decide ((((c:Int)):Int)=0)) (R (.returned (.tuple ⟨[L none 0 0,L none 0 0,I 6]⟩)) l) (R (.returned (.tuple ⟨[L h c e,L d b a,I 0]⟩)) l)))))
theorem qu3 {g f e d c b a R w} (h:qrw g f e d c b a R w):Calls prog qix ⟨[L g f e,L d c b,S a]⟩ w R:=qe Tryz.func20 (Eq.mpr (by kernel_rfl:fnV _ _ qtb _ _ _=_) h)
def qny:Ann:=T F (T (T F (T (T F F) F)) (T F F))
def qms (p:List UInt8) (q:Option Addr) (m:Nat) (l:Nat) (R:Ending→World→Prop) (w:World):Prop :=
 al w 45 [S p,L q m l] fun i j =>
 ∃ r,j.cell? (i.add 0)=some (S r)∧(∃ s h g,j.cell? (i.add 1)=some (L s h g)∧Calls prog 42 ⟨[.agg ⟨[S r,L s h g]⟩]⟩ j fun u k =>
 ∃ t,u=.returned (I t)∧br (decide (t≠0)) (R (.returned (.tuple ⟨[L none 0 0,I 1]⟩)) k) (∃ e b a,k.cell? (i.add 1)=some (L e b a)∧Calls prog 62 ⟨[L e b a]⟩ k fun n o =>
 ∃ f d c,n=.returned (L f d c)∧R (.returned (.tuple ⟨[L f d c,I 0]⟩)) o))
theorem qp2 {c d b a R w} (h:qms c d b a R w):Calls prog qgj ⟨[.agg ⟨[S c,L d b a]⟩]⟩ w R:=qe Tryz.func25 (Eq.mpr (by kernel_rfl:fnV _ _ qny _ _ _=_) h)
def q1d:Ann:=T F (T (T F (T (T F F) F)) (.cut 32304 [] (T F (T (T F F) F)) (T F F)))
def qz6 (g:Option Addr) (c:Nat) (b:Nat) (a:Int) (R:Ending→World→Prop) (w:World):Prop :=
 Calls prog 71 ⟨[L g c b]⟩ w fun l f =>
 ∃ k,l=.returned (I k)∧(br (decide (k≠0)) (R (.returned (.tuple ⟨[L none 0 0,I 1]⟩)) f) (∀ (i:World→Prop),(∀  (j:World),(∀ _:Env,(Calls prog 72 ⟨[L g c b,I a]⟩ j fun m n =>
 ∃ h e d,m=.returned (L h e d)∧R (.returned (.tuple ⟨[L h e d,I 0]⟩)) n))→i j)→(br (decide ((a:Int) < 0)) (R (.returned (.tuple ⟨[L none 0 0,I 13]⟩)) f) (br (decide ((8:Int) < a)) (R (.returned (.tuple ⟨[L none 0 0,I 13]⟩)) f) (i f)))))
theorem q4r {d c b a R w} (h:qz6 d c b a R w):Calls prog qrr ⟨[L d c b,I a]⟩ w R:=qe Tryz.func26 (Eq.mpr (by kernel_rfl:fnV _ _ q1d _ _ _=_) h)
def qyl:Ann:=T F (T (.one (T F (T (T F F) (.cut 66584576 [(19,.one (.bool))] F (T (T F F) F))))) (T F (T (T F (T (T F F) F)) (T F (T (T F (T (T F F) F)) (T F F))))))
def qwm (c4:List UInt8) (c5:Option Addr) (b5:Nat) (b4:Nat) (d:List UInt8) (b:Int) (R:Ending→World→Prop) (w:World):Prop :=
 al w 45 [S c4,L c5 b5 b4] fun b2 c7 =>
 al c7 51 [S [],I 0] fun a b3 =>
 ∃ c6,b3.cell? (b2.add 0)=some (S c6)∧(∃ J t s,b3.cell? (b2.add 1)=some (L J t s)∧Calls prog 42 ⟨[.agg ⟨[S c6,L J t s]⟩]⟩ b3 fun b6 k =>
 ∃ K,b6=.returned (I K)∧br (decide (K≠0)) (stL k a 0 [S [],I 0] fun l =>
 ∃ M,l.cell? (a.add 0)=some (S M)∧∃ N,l.cell? (a.add 1)=some (I N)∧R (.returned (.tuple ⟨[L none 0 0,.agg ⟨[S M,I N]⟩,I 1]⟩)) l) (∀ (j:Bool→World→Prop),(∀ (e:Bool) (h:World),(∀ _:Env,(br e (stL h a 0 [S [],I 0] fun m =>
 ∃ O,m.cell? (a.add 0)=some (S O)∧∃ Q,m.cell? (a.add 1)=some (I Q)∧R (.returned (.tuple ⟨[L none 0 0,.agg ⟨[S O,I Q]⟩,I 13]⟩)) m) (∃ T v u,h.cell? (b2.add 1)=some (L T v u)∧Calls prog 26 ⟨[L T v u,I b]⟩ h fun b7 G =>
 ∃ U y x z,b7=.returned (.tuple ⟨[L U y x,I z]⟩)∧br (decide (z≠0)) (stL G a 0 [S [],I 0] fun n =>
 ∃ V,n.cell? (a.add 0)=some (S V)∧∃ W,n.cell? (a.add 1)=some (I W)∧R (.returned (.tuple ⟨[L none 0 0,.agg ⟨[S V,I W]⟩,I z]⟩)) n) (Calls prog 73 ⟨[L U y x,S d]⟩ G fun b8 c1 =>
 ∃ A g f X Y Z,b8=.returned (.tuple ⟨[L A g f,.agg ⟨[S X,I Y]⟩,B Z]⟩)∧al c1 51 [S [],I 0] fun c c2 =>
 stL c2 c 0 [S X,I Y] fun H =>
 br (!Z) (stL H a 0 [S [],I 0] fun o =>
 ∃ a0,o.cell? (a.add 0)=some (S a0)∧∃ a1,o.cell? (a.add 1)=some (I a1)∧R (.returned (.tuple ⟨[L none 0 0,.agg ⟨[S a0,I a1]⟩,I 6]⟩)) o) (drw H fun i =>
 (Calls prog 74 ⟨[L A g f]⟩ i fun b9 p =>
 ∃ a2 D C,b9=.returned (L a2 D C)∧∃ a3,p.cell? (c.add 0)=some (S a3)∧∃ a4,p.cell? (c.add 1)=some (I a4)∧((stL p a 0 [S a3,I a4] fun q =>
 ∃ a5,q.cell? (a.add 0)=some (S a5)∧∃ a6,q.cell? (a.add 1)=some (I a6)∧R (.returned (.tuple ⟨[L a2 D C,.agg ⟨[S a5,I a6]⟩,I 0]⟩)) q)∧True))∧(∃ a7,i.cell? (c.add 0)=some (S a7)∧∃ a8,i.cell? (c.add 1)=some (I a8)∧((Calls prog 74 ⟨[L A g f]⟩ i fun c0 c3 =>
 ∃ a9 F E,c0=.returned (L a9 F E)∧((stL c3 a 0 [S a7,I a8] fun r =>
 ∃ b0,r.cell? (a.add 0)=some (S b0)∧∃ b1,r.cell? (a.add 1)=some (I b1)∧R (.returned (.tuple ⟨[L a9 F E,.agg ⟨[S b0,I b1]⟩,I 0]⟩)) r)∧True))∧True))∧True)))))→j e h)→(br (decide ((b:Int) < 0)) (j true k) (j (decide ((8:Int) < b)) k))))
theorem q0f {e f d c a b R w} (h:qwm e f d c a b R w):Calls prog qmb ⟨[.agg ⟨[S e,L f d c]⟩,S a,I b]⟩ w R:=qe Tryz.func27 (Eq.mpr (by kernel_rfl:fnV _ _ qyl _ _ _=_) h)
def qqn:Ann:=T F (T F F)
def qov (e:Option Addr) (b:Nat) (a:Nat) (f:Option Addr) (d:Nat) (c:Nat) (R:Ending→World→Prop) (w:World):Prop :=
 Calls prog 75 ⟨[L e b a,L f d c,.func (.func 76) #[] #[]]⟩ w fun h i =>
 ∃ g,h=.returned (B g)∧(R (.returned (B g)) i)
theorem qsx {e b a f d c R w} (h:qov e b a f d c R w):Calls prog qhx ⟨[L e b a,L f d c]⟩ w R:=qe Tryz.func32 (Eq.mpr (by kernel_rfl:fnV _ _ qqn _ _ _=_) h)
def qdq:Ann:=T F (T (T F (.one (.loop 524080 [(8,.one (.int .i64))] (T F (T (T F F) (T (.one (T F (T F (T (T F F) F)))) F)))))) (T F F))
def qdl (g:Option Addr) (b:Nat) (l:Nat) (h:List UInt8) (R:Ending→World→Prop) (w:World):Prop :=
 ∃ (e:Int→World→Nat→Prop),(∃ j,e 0 w j)∧∀ a c f,e a c f→∀ _:Env,(br (decide ((a:Int) < ((b:Int)))) (idx g b a 1 fun k =>
 ∃ i,c.cell? k=some (S i)∧br (decide ((h:List UInt8)=i)) (R (.returned (I a)) c) (∃ d,d < f∧e (i64.wrap (a + 1)) c d)) (R (.returned (.int .i64 ((-1)))) c))
theorem qd7 {c b a d R w} (h:qdl c b a d R w):Calls prog qed ⟨[L c b a,S d]⟩ w R:=qe Tryz.func33 (Eq.mpr (by kernel_rfl:fnV _ _ qdq _ _ _=_) h)
def qcu:Ann:=T F (T F F)
def qcq (c:Option Addr) (b:Nat) (a:Nat) (d:List UInt8) (R:Ending→World→Prop) (w:World):Prop :=
 Calls prog 33 ⟨[L c b a,S d]⟩ w fun f g =>
 ∃ e,f=.returned (I e)∧(R (.returned (.bool (decide ((0:Int)≤e)))) g)
theorem qc3 {c b a d R w} (h:qcq c b a d R w):Calls prog qa3 ⟨[L c b a,S d]⟩ w R:=qe Tryz.func34 (Eq.mpr (by kernel_rfl:fnV _ _ qcu _ _ _=_) h)
def qtg:Ann:=T F (T F (T (T F (.one (.loop 16773248 [(12,.one (.int .i64))] (T F (T (T F F) (T (.one (T F F)) F)))))) (T F F)))
def qr1 (d:List UInt8) (e:Option Addr) (b:Nat) (z:Nat) (R:Ending→World→Prop) (w:World):Prop :=
 al w 45 [S [],L none 0 0] fun A J =>
 al J 45 [S [],L none 0 0] fun f K =>
 stL K f 0 [S d,L none 0 0] fun M =>
 ∃ (v:Int→World→Nat→Prop),(∃ C,v 0 M C)∧∀ a c n,v a c n→∀ _:Env,(br (decide ((a:Int) < ((b:Int)))) (idx e b a 1 fun D =>
 ∃ p,c.cell? D=some (S p)∧∃ q i h,c.cell? (f.add 1)=some (L q i h)∧al c 56 [I 4,S p,I 0,L none 0 0] fun E F =>
 app prog [43,43] 43 (L q i h) (.slice (some E) 1 1) F fun B y x G =>
 stL G (f.add 1) 0 [L B y x] fun H =>
 ∃ o,o < n∧v (i64.wrap (a + 1)) H o) (∃ r,c.cell? (f.add 0)=some (S r)∧∃ s k j,c.cell? (f.add 1)=some (L s k j)∧stL c A 0 [S r,L s k j] fun g =>
 ∃ t,g.cell? (A.add 0)=some (S t)∧∃ u m l,g.cell? (A.add 1)=some (L u m l)∧R (.returned (.agg ⟨[S t,L u m l]⟩)) g))
theorem qu8 {c d b a R w} (h:qr1 c d b a R w):Calls prog qi3 ⟨[S c,L d b a]⟩ w R:=qe Tryz.func35 (Eq.mpr (by kernel_rfl:fnV _ _ qtg _ _ _=_) h)
def qn7:Ann:=T F (.cut 4178112 [(6,.one (.slice)),(7,.one (.int .i64))] (T F (T (T F F) F)) (.cut 1069547712 [(6,.one (.slice)),(7,.one (.int .i64))] (T F (T (T F F) F)) (T (T F (T (T F F) F)) (T F (T F (T (T F (T (T F F) F)) (T F (T (T F (.one (.rf [2,6,7,12,50] 0))) (T F (.cut 18410715276690587840 [] (T F (T (T F F) F)) (T F F)))))))))))
def qm1 (s:List UInt8) (t:Int) (n:Option Addr) (j:Nat) (i:Nat) (d:Option Addr) (c:Nat) (b:Nat) (R:Ending→World→Prop) (w:World):Prop :=
 al w 51 [S s,I t] fun v f9 =>
 ∀ (d1:Option Addr→Nat→Nat→Int→World→Prop),(∀ (x:Option Addr) (p:Nat) (o:Nat) (y:Int) (h:World),(∀ _:Env,(∀ (Z:Option Addr→Nat→Nat→Int→World→Prop),(∀ (k:Option Addr) (g:Nat) (f:Nat) (l:Int) (z:World),(∀ _:Env,(∃ a8,z.cell? (v.add 0)=some (S a8)∧Calls prog 78 ⟨[S a8]⟩ z fun d2 a2 =>
 ∃ a9,d2=.returned (B a9)∧br (!a9) (R (.returned (.tuple ⟨[L none 0 0,I 14]⟩)) a2) (Calls prog 79 ⟨[L n j i,I 8]⟩ a2 fun d3 e4 =>
 ∃ b0 f5,d3=.returned (.tuple ⟨[I b0,I f5]⟩)∧Calls prog 79 ⟨[L n j i,I 9]⟩ e4 fun d4 a3 =>
 ∃ b1 f6,d4=.returned (.tuple ⟨[I b1,I f6]⟩)∧br (decide ((0:Int) < (i64.wrap (b0 + b1)))) (R (.returned (.tuple ⟨[L none 0 0,I 13]⟩)) a3) (al a3 118 [L none 0 0,.pointer none,L none 0 0,B false,B false,B false] fun e A =>
 ∃ b2,A.cell? (v.add 0)=some (S b2)∧∃ b3,A.cell? (v.add 1)=some (I b3)∧Calls prog 80 ⟨[.agg ⟨[S b2,I b3]⟩,L n j i]⟩ A fun d5 e5 =>
 ∃ b4 E F,d5=.returned (.func b4 E F)∧∀ u:Env,RFw prog none 70 (cdAt Tryz.f36 [1,1,1,1,1,1,1,1,0,1,2]) (upd (upd (upd (upd (upd u 50 (.func b4 E F)) 12 (.pointer (some e))) 7 (I l)) 6 (L k g f)) 2 (L d c b)) [] e5 0 (fun a m =>
 Calls prog 82 ⟨[.pointer (some e)]⟩ m fun d9 r =>
 d9=.returned (.tuple ⟨[]⟩)∧∀ (a1:World→Prop),(∀  (D:World),(∀ _:Env,(∃ c0 T Q,D.cell? (e.add 0)=some (L c0 T Q)∧Calls prog 85 ⟨[L d c b,L c0 T Q]⟩ D fun e0 f0 =>
 ∃ c1 V U c2,e0=.returned (.tuple ⟨[L c1 V U,I c2]⟩)∧retD a f0 fun f1 =>
 R (.returned (.tuple ⟨[L c1 V U,I c2]⟩)) f1))→a1 D)→(∃ f8 W d0,r.cell? (e.add 0)=some (L f8 W d0)∧br (decide ((1024:Int) < (W))) (retD a r fun f2 =>
 R (.returned (.tuple ⟨[L none 0 0,I 4]⟩)) f2) (∃ c3 Y X,r.cell? (e.add 0)=some (L c3 Y X)∧Calls prog 83 ⟨[L c3 Y X,.func (.func 84) #[] #[]]⟩ r fun e1 a5 =>
 ∃ c4,e1=.returned (B c4)∧br c4 (retD a a5 fun f3 =>
 R (.returned (.tuple ⟨[L none 0 0,I 4]⟩)) f3) (a1 a5)))) (fun a m =>
 retD a m fun f4 =>
 R (.returned (.tuple ⟨[L k g f,I l]⟩)) f4) (fun a m =>
 Calls prog 82 ⟨[.pointer (some e)]⟩ m fun d6 q =>
 d6=.returned (.tuple ⟨[]⟩)∧∀ (a0:World→Prop),(∀  (C:World),(∀ _:Env,(∃ b5 H G,C.cell? (e.add 0)=some (L b5 H G)∧Calls prog 85 ⟨[L d c b,L b5 H G]⟩ C fun d7 e6 =>
 ∃ b6 K J b7,d7=.returned (.tuple ⟨[L b6 K J,I b7]⟩)∧retD a e6 fun e7 =>
 R (.returned (.tuple ⟨[L b6 K J,I b7]⟩)) e7))→a0 C)→(∃ f7 M c9,q.cell? (e.add 0)=some (L f7 M c9)∧br (decide ((1024:Int) < (M))) (retD a q fun e8 =>
 R (.returned (.tuple ⟨[L none 0 0,I 4]⟩)) e8) (∃ b8 O N,q.cell? (e.add 0)=some (L b8 O N)∧Calls prog 83 ⟨[L b8 O N,.func (.func 84) #[] #[]]⟩ q fun d8 a4 =>
 ∃ b9,d8=.returned (B b9)∧br b9 (retD a a4 fun e9 =>
 R (.returned (.tuple ⟨[L none 0 0,I 4]⟩)) e9) (a0 a4))))))))→Z k g f l z)→(∃ c5,h.cell? (v.add 1)=some (I c5)∧br (decide (c5 < 0)) (R (.returned (.tuple ⟨[L none 0 0,I 2]⟩)) h) (∃ c6,h.cell? (v.add 1)=some (I c6)∧br (decide ((4096:Int) < c6)) (R (.returned (.tuple ⟨[L none 0 0,I 2]⟩)) h) (Z x p o y h)))))→d1 x p o y h)→(Calls prog 71 ⟨[L n j i]⟩ f9 fun e2 a6 =>
 ∃ c7,e2=.returned (I c7)∧br (decide (c7≠0)) (R (.returned (.tuple ⟨[L none 0 0,I 1]⟩)) a6) (Calls prog 77 ⟨[L d c b]⟩ a6 fun e3 a7 =>
 ∃ c8,e3=.returned (I c8)∧br (decide (c8≠0)) (R (.returned (.tuple ⟨[L none 0 0,I 1]⟩)) a7) (d1 none 0 0 0 a7)))
theorem qqa {d e i g f c b a R w} (h:qm1 d e i g f c b a R w):Calls prog qgr ⟨[.agg ⟨[S d,I e]⟩,L i g f,L c b a]⟩ w R:=qe Tryz.func36 (Eq.mpr (by kernel_rfl:fnV _ _ qn7 _ _ _=_) h)
def qd5:Ann:=F
def qd1:Ann:=.one F
def qjt (x:Option Addr) (o:Nat) (n:Nat) (G:Option Addr) (E:Nat) (D:Nat) (H:Int) (u:Option Addr) (C:Fn) (z:Array Value) (A:Array Value) (c:Int) (d:Int) (e:Int) (f:List UInt8) (g:Int) (h:Bool) (i:List UInt8) (l:Nat) (Kn Kr Kx:World→World→Prop) (w:World):Prop :=
 al w 123 [I 0,.int .u8 0,I 0,S [],I 0,B false,S []] fun b F =>
 stL F b 0 [I c,.int .u8 d,I e,S f,I g,B h,S i] fun p =>
 Ext w p∧∀ a:World,Upd l p a→(∃ q,a.cell? (b.add 0)=some (I q)∧∃ r,a.cell? (b.add 1)=some (.int .u8 r)∧∃ s,a.cell? (b.add 2)=some (I s)∧∃ t,a.cell? (b.add 3)=some (S t)∧∃ j,a.cell? (b.add 4)=some (I j)∧∃ k,a.cell? (b.add 5)=some (B k)∧∃ m,a.cell? (b.add 6)=some (S m)∧Calls prog 81 ⟨[.pointer u,.agg ⟨[I q,.int .u8 r,I s,S t,I j,B k,S m]⟩]⟩ a fun v y =>
 v=.returned (.tuple ⟨[]⟩)∧(Kn a y))
theorem qj6 (base:Env) (c:Option Addr) (b:Nat) (a:Nat) (q:Option Addr) (p:Nat) (o:Nat) (r:Int) (s:Option Addr) (f:Fn) (d:Array Value) (e:Array Value) (g:Int) (h:Int) (i:Int) (j:List UInt8) (k:Int) (m:Bool) (n:List UInt8) (l:Nat) (Kn Kr Kx:World→World→Prop) (w:World):fragV prog 70 qd5 qd1 (cdAt Tryz.f36 [1,1,1,1,1,1,1,1,0,1,2,5]) (cdAt Tryz.f36 [1,1,1,1,1,1,1,1,0,1,2,6]) l 0 Kn Kr Kx (updPs [51] [.agg ⟨[I g,.int .u8 h,I i,S j,I k,B m,S n]⟩] (upd (upd (upd (upd (upd base 50 (.func f d e)) 12 (.pointer s)) 7 (I r)) 6 (L q p o)) 2 (L c b a))) w=qjt c b a q p o r s f d e g h i j k m n l Kn Kr Kx w:=by kernel_rfl
theorem qkd:cdAt Tryz.f36 [1,1,1,1,1,1,1,1,0,1,2]=.rangeFunc (Operand.tmp 50) #[51] (cdAt Tryz.f36 [1,1,1,1,1,1,1,1,0,1,2,5]) (cdAt Tryz.f36 [1,1,1,1,1,1,1,1,0,1,2,6]):=by kernel_rfl
def qte:Ann:=T F (T (T F (T (T F F) F)) (T F F))
def qrz (p:List UInt8) (q:Option Addr) (m:Nat) (l:Nat) (R:Ending→World→Prop) (w:World):Prop :=
 al w 45 [S p,L q m l] fun i j =>
 ∃ r,j.cell? (i.add 0)=some (S r)∧(∃ s h g,j.cell? (i.add 1)=some (L s h g)∧Calls prog 43 ⟨[.agg ⟨[S r,L s h g]⟩]⟩ j fun u k =>
 ∃ t,u=.returned (I t)∧br (decide (t≠0)) (R (.returned (.tuple ⟨[L none 0 0,I 1]⟩)) k) (∃ e b a,k.cell? (i.add 1)=some (L e b a)∧Calls prog 65 ⟨[L e b a]⟩ k fun n o =>
 ∃ f d c,n=.returned (L f d c)∧R (.returned (.tuple ⟨[L f d c,I 0]⟩)) o))
theorem qu6 {c d b a R w} (h:qrz c d b a R w):Calls prog qi2 ⟨[.agg ⟨[S c,L d b a]⟩]⟩ w R:=qe Tryz.func38 (Eq.mpr (by kernel_rfl:fnV _ _ qte _ _ _=_) h)
def q4v:Ann:=T F (T (T F (T (T F F) F)) (T (.cut 8257536 [(22,.one (.bool))] F (T (T F F) F)) (T (T F (T (T F F) F)) (T F (T (T F (T (T F F) F)) (T F (.cut 576456354256914432 [(11,.one (.int .i64))] (.one (.loop 576456354256914432 [(11,.one (.int .i64))] (T (T F (T F F)) (.one F)))) (T F (.cut 37776626019947948019712 [(12,.one (.int .i64))] (.one (.loop 37776626019947948019712 [(12,.one (.int .i64))] (T (T F (T F F)) (.one F)))) (T F F))))))))))
def q23 (e1:List UInt8) (e2:Option Addr) (c5:Nat) (c4:Nat) (e:List UInt8) (f:Int) (R:Ending→World→Prop) (w:World):Prop :=
 al w 45 [S e1,L e2 c5 c4] fun M e4 =>
 al e4 51 [S [],I 0] fun d c3 =>
 ∃ e3,c3.cell? (M.add 0)=some (S e3)∧(∃ Y C B,c3.cell? (M.add 1)=some (L Y C B)∧Calls prog 43 ⟨[.agg ⟨[S e3,L Y C B]⟩]⟩ c3 fun c8 t =>
 ∃ Z,c8=.returned (I Z)∧br (decide (Z≠0)) (stL t d 0 [S [],I 0] fun u =>
 ∃ a0,u.cell? (d.add 0)=some (S a0)∧∃ a1,u.cell? (d.add 1)=some (I a1)∧R (.returned (.tuple ⟨[L none 0 0,.agg ⟨[S a0,I a1]⟩,I 1]⟩)) u) (∀ (q:Bool→World→Prop),(∀ (j:Bool) (o:World),(∀ _:Env,(br j (stL o d 0 [S [],I 0] fun v =>
 ∃ a2,v.cell? (d.add 0)=some (S a2)∧∃ a3,v.cell? (d.add 1)=some (I a3)∧R (.returned (.tuple ⟨[L none 0 0,.agg ⟨[S a2,I a3]⟩,I 13]⟩)) v) (∃ a4 E D,o.cell? (M.add 1)=some (L a4 E D)∧Calls prog 65 ⟨[L a4 E D]⟩ o fun c9 d8 =>
 ∃ a5 G F,c9=.returned (L a5 G F)∧Calls prog 66 ⟨[L a5 G F,S e]⟩ d8 fun d0 x =>
 ∃ a6,d0=.returned (I a6)∧br (decide (a6 < 0)) (stL x d 0 [S [],I 0] fun y =>
 ∃ a7,y.cell? (d.add 0)=some (S a7)∧∃ a8,y.cell? (d.add 1)=some (I a8)∧R (.returned (.tuple ⟨[L none 0 0,.agg ⟨[S a7,I a8]⟩,I 6]⟩)) y) (∃ a9 J H,x.cell? (M.add 1)=some (L a9 J H)∧Calls prog 86 ⟨[L a9 J H,I f]⟩ x fun d1 V =>
 ∃ i g l K,d1=.returned (.tuple ⟨[L i g l,I K]⟩)∧br (decide (K≠0)) (stL V d 0 [S [],I 0] fun z =>
 ∃ b0,z.cell? (d.add 0)=some (S b0)∧∃ b1,z.cell? (d.add 1)=some (I b1)∧R (.returned (.tuple ⟨[L none 0 0,.agg ⟨[S b0,I b1]⟩,I K]⟩)) z) (∀ (N:Int→World→Prop),(∀ (b:Int) (W:World),(∀ _:Env,(∀ (r:Int→World→Prop),(∀ (n:Int) (X:World),(∀ _:Env,(drw X fun d9 =>
 sls i l (i64.wrap (b + 1)) n 4 fun c6 c0 b9 =>
 sls i l 0 b 4 fun c7 c2 c1 =>
 (Calls prog 87 ⟨[.agg ⟨[S [],I 0]⟩,L c7 c2 c1]⟩ d9 fun d2 e0 =>
 ∃ b2 b3,d2=.returned (.agg ⟨[S b2,I b3]⟩)∧((stL e0 d 0 [S b2,I b3] fun A =>
 ∃ b4,A.cell? (d.add 0)=some (S b4)∧∃ b5,A.cell? (d.add 1)=some (I b5)∧R (.returned (.tuple ⟨[L c6 c0 b9,.agg ⟨[S b4,I b5]⟩,I 0]⟩)) A)∧True))∧True))→r n X)→(∃ (p:Int→World→Nat→Prop),(∃ d3,p (i64.wrap (b + 1)) W d3)∧∀ c k O,p c k O→∀ _:Env,(br (decide ((c:Int) < (g))) (idx i g c 4 fun d5 =>
 ∃ b6,k.cell? (d5.add 0)=some (I b6)∧br (decide (b6≠4)) (∃ Q,Q < O∧p (i64.wrap (c + 1)) k Q) (r c k)) (r c k)))))→N b W)→(∃ (m:Int→World→Nat→Prop),(∃ d4,m 0 V d4)∧∀ a h s,m a h s→∀ _:Env,(idx i g a 4 fun d6 =>
 ∃ b7,h.cell? (d6.add 0)=some (I b7)∧br (decide (b7≠4)) (∃ T,T < s∧m (i64.wrap (a + 1)) h T) (idx i g a 4 fun d7 =>
 ∃ b8,h.cell? (d7.add 1)=some (S b8)∧br (decide (b8≠e)) (∃ U,U < s∧m (i64.wrap (a + 1)) h U) (N a h)))))))))→q j o)→(br (decide ((f:Int) < 0)) (q true t) (q (decide ((8:Int) < f)) t))))
theorem q63 {e f d c a b R w} (h:q23 e f d c a b R w):Calls prog qt5 ⟨[.agg ⟨[S e,L f d c]⟩,S a,I b]⟩ w R:=qe Tryz.func39 (Eq.mpr (by kernel_rfl:fnV _ _ q4v _ _ _=_) h)
def qym:Ann:=T F (T F (T (T F (T (T F F) F)) (T F F)))
def qwn (e:Option Addr) (c:Nat) (b:Nat) (a:List UInt8) (R:Ending→World→Prop) (w:World):Prop :=
 al w 9 [S a] fun h i =>
 Calls prog 88 ⟨[L e c b,.func (.func 89) ⟨[]⟩ ⟨[.pointer (some h)]⟩]⟩ i fun g f =>
 ∃ d,g=.returned (I d)∧(br (decide (d < 0)) (R (.returned (.tuple ⟨[I 0,I 6]⟩)) f) (R (.returned (.tuple ⟨[I d,I 0]⟩)) f))
theorem q0g {d c b a R w} (h:qwn d c b a R w):Calls prog qmc ⟨[L d c b,S a]⟩ w R:=qe Tryz.func40 (Eq.mpr (by kernel_rfl:fnV _ _ qym _ _ _=_) h)
def q4w:Ann:=T F (T (T F (.one (.loop 2097136 [(6,.one (.int .i64))] (T (T F (T F F)) (T (.one (T F (T (T F F) F))) F))))) (T F F))
def q24 (g:Option Addr) (c:Nat) (j:Nat) (b:List UInt8) (R:Ending→World→Prop) (w:World):Prop :=
 ∃ (f:Int→World→Nat→Prop),(∃ k,f 0 w k)∧∀ a d h,f a d h→∀ _:Env,(br (decide ((a:Int) < ((c:Int)))) (idx g c a 3 fun l =>
 ∃ i,d.cell? (l.add 0)=some (S i)∧br (decide (i=b)) (R (.returned (.tuple ⟨[I a,I 0]⟩)) d) (∃ e,e < h∧f (i64.wrap (a + 1)) d e)) (R (.returned (.tuple ⟨[I 0,I 6]⟩)) d))
theorem q64 {d c b a R w} (h:q24 d c b a R w):Calls prog qt6 ⟨[L d c b,S a]⟩ w R:=qe Tryz.func41 (Eq.mpr (by kernel_rfl:fnV _ _ q4w _ _ _=_) h)
def qve:Ann:=T F (.cut 1047552 [] (T F (T (T F F) F)) (T (T F (T (T F F) F)) (T F (T (T F (.one (.rf [1,2,3,27] 0))) (T (T F (.one (.loop 2361183232638729585152 [(43,.one (.int .i64))] (T F (T (T F F) (T (.one (T F (.one (T F (T (T F F) (.cut 1150669704793161728 [(51,.one (.bool))] F (T F (T F (T F (T F F)))))))))) F)))))) (T F F))))))
def quk (i2:List UInt8) (i3:Option Addr) (f8:Nat) (f7:Nat) (R:Ending→World→Prop) (w:World):Prop :=
 al w 45 [S i2,L i3 f8 f7] fun q i5 =>
 al i5 28 [I 0] fun a h6 =>
 ∀ (g1:World→Prop),(∀  (f6:World),(∀ _:Env,(∃ i4 f3 f2,f6.cell? (q.add 1)=some (L i4 f3 f2)∧Calls prog 71 ⟨[L i4 f3 f2]⟩ f6 fun g3 a9 =>
 ∃ c1,g3=.returned (I c1)∧br (decide (c1≠0)) (stL a9 a 0 [I 1] fun b0 =>
 ∃ c2,b0.cell? a=some (I c2)∧R (.returned (I c2)) b0) (mkm a9 fun g2 g9 =>
 al g9 130 [.map none] fun a8 h0 =>
 stL h0 a8 0 [.map (some g2)] fun b1 =>
 ∃ c3 X W,b1.cell? (q.add 1)=some (L c3 X W)∧Calls prog 91 ⟨[L c3 X W]⟩ b1 fun g4 h1 =>
 ∃ c4 Y Z,g4=.returned (.func c4 Y Z)∧∀ A:Env,RFw prog none 71 (cdAt Tryz.f42 [1,1,1,1,0,1,2]) (upd (upd (upd (upd A 27 (.func c4 Y Z)) 3 (.pointer (some a8))) 2 (.pointer (some a))) 1 (.pointer (some q))) [] h1 0 (fun b e =>
 ∃ e0 s g0,e.cell? (q.add 1)=some (L e0 s g0)∧∃ (u:Int→World→Nat→Prop),(∃ g8,u 0 e g8)∧∀ d g D,u d g D→∀ _:Env,(br (decide ((d:Int) < (s))) (idx e0 s d 4 fun x =>
 ∃ e1,g.cell? (x.add 0)=some (I e1)∧∃ e2,g.cell? (x.add 1)=some (S e2)∧∃ e3,g.cell? (x.add 2)=some (I e3)∧∃ e4 a3 a2,g.cell? (x.add 3)=some (L e4 a3 a2)∧al g 56 [I 0,S [],I 0,L none 0 0] fun i h8 =>
 stL h8 i 0 [I e1,S e2,I e3,L e4 a3 a2] fun l =>
 ∃ e5,l.cell? (i.add 0)=some (I e5)∧br (decide (e5=4)) (stL l a 0 [I 0] fun h9 =>
 retD b h9 fun b7 =>
 ∃ e6,b7.cell? a=some (I e6)∧R (.returned (I e6)) b7) (∀ (z:Bool→World→Prop),(∀ (p:Bool) (m:World),(∀ _:Env,(br p (∃ a6,a6 < D∧u (i64.wrap (d + 1)) m a6) (∃ e7,m.cell? (i.add 0)=some (I e7)∧br (decide (e7=1)) (∃ e8,m.cell? (i.add 1)=some (S e8)∧Calls prog 92 ⟨[S e8,S [32]]⟩ m fun g6 b8 =>
 ∃ e9,g6=.returned (S e9)∧br (decide (e9=([]))) (∃ a7,a7 < D∧u (i64.wrap (d + 1)) b8 a7) (stL b8 a 0 [I 10] fun i0 =>
 retD b i0 fun b9 =>
 ∃ f0,b9.cell? a=some (I f0)∧R (.returned (I f0)) b9)) (stL m a 0 [I 10] fun i1 =>
 retD b i1 fun c0 =>
 ∃ f1,c0.cell? a=some (I f1)∧R (.returned (I f1)) c0))))→z p m)→(∃ J,l.cell? (i.add 0)=some (I J)∧br (decide (J=3)) (z true l) (∃ K,l.cell? (i.add 0)=some (I K)∧(z (decide (K=2)) l))))) (stL g a 0 [I 0] fun f5 =>
 retD b f5 fun E =>
 ∃ M,E.cell? a=some (I M)∧R (.returned (I M)) E))) (fun b e =>
 retD b e fun F =>
 ∃ N,F.cell? a=some (I N)∧R (.returned (I N)) F) (fun b e =>
 ∃ c5 r f9,e.cell? (q.add 1)=some (L c5 r f9)∧∃ (t:Int→World→Nat→Prop),(∃ g7,t 0 e g7)∧∀ c f C,t c f C→∀ _:Env,(br (decide ((c:Int) < (r))) (idx c5 r c 4 fun v =>
 ∃ c6,f.cell? (v.add 0)=some (I c6)∧∃ c7,f.cell? (v.add 1)=some (S c7)∧∃ c8,f.cell? (v.add 2)=some (I c8)∧∃ c9 a1 a0,f.cell? (v.add 3)=some (L c9 a1 a0)∧al f 56 [I 0,S [],I 0,L none 0 0] fun h h2 =>
 stL h2 h 0 [I c6,S c7,I c8,L c9 a1 a0] fun j =>
 ∃ d0,j.cell? (h.add 0)=some (I d0)∧br (decide (d0=4)) (stL j a 0 [I 0] fun h3 =>
 retD b h3 fun b2 =>
 ∃ d1,b2.cell? a=some (I d1)∧R (.returned (I d1)) b2) (∀ (y:Bool→World→Prop),(∀ (o:Bool) (k:World),(∀ _:Env,(br o (∃ a4,a4 < C∧t (i64.wrap (c + 1)) k a4) (∃ d2,k.cell? (h.add 0)=some (I d2)∧br (decide (d2=1)) (∃ d3,k.cell? (h.add 1)=some (S d3)∧Calls prog 92 ⟨[S d3,S [32]]⟩ k fun g5 b3 =>
 ∃ d4,g5=.returned (S d4)∧br (decide (d4=([]))) (∃ a5,a5 < C∧t (i64.wrap (c + 1)) b3 a5) (stL b3 a 0 [I 10] fun h4 =>
 retD b h4 fun b4 =>
 ∃ d5,b4.cell? a=some (I d5)∧R (.returned (I d5)) b4)) (stL k a 0 [I 10] fun h5 =>
 retD b h5 fun b5 =>
 ∃ d6,b5.cell? a=some (I d6)∧R (.returned (I d6)) b5))))→y o k)→(∃ d7,j.cell? (h.add 0)=some (I d7)∧br (decide (d7=3)) (y true j) (∃ d8,j.cell? (h.add 0)=some (I d8)∧(y (decide (d8=2)) j))))) (stL f a 0 [I 0] fun h7 =>
 retD b h7 fun b6 =>
 ∃ d9,b6.cell? a=some (I d9)∧R (.returned (I d9)) b6))))))→g1 f6)→(∃ O,h6.cell? (q.add 0)=some (S O)∧Calls prog 90 ⟨[S O]⟩ h6 fun f4 n =>
 ∃ Q,f4=.returned (B Q)∧br (!Q) (stL n a 0 [I 14] fun G =>
 ∃ T,G.cell? a=some (I T)∧R (.returned (I T)) G) (∃ U,n.cell? (q.add 0)=some (S U)∧br (decide ((14:Int) < ((List.length U:Int)))) (stL n a 0 [I 14] fun H =>
 ∃ V,H.cell? a=some (I V)∧R (.returned (I V)) H) (g1 n)))
theorem qx9 {c d b a R w} (h:quk c d b a R w):Calls prog qks ⟨[.agg ⟨[S c,L d b a]⟩]⟩ w R:=qe Tryz.func42 (Eq.mpr (by kernel_rfl:fnV _ _ qve _ _ _=_) h)
def qft:Ann:=T F F
def qfq:Ann:=.one (T (T F (T F (T (T F F) F))) F)
def qo9 (s:Option Addr) (f:Option Addr) (b:Option Addr) (r:Fn) (m:Array Value) (n:Array Value) (c:List UInt8) (d:Int) (l:Nat) (Kn Kr Kx:World→World→Prop) (w:World):Prop :=
 Ext w w∧∀ a:World,Upd l w a→(dr b fun i =>
 ∃ g,a.cell? i=some (g)∧∃ q,∃ (e:Bool),lkAt2 prog 130 g (S c) a (I q) e∧br e (dr f fun j =>
 stL a j 0 [I 7] fun o =>
 Kr a o) (dr b fun k =>
 ∃ h,a.cell? k=some (h)∧(mupd prog 130 h (S c) (I d) a fun p =>
 Kn a p)))
theorem qps (base:Env) (h:Option Addr) (g:Option Addr) (a:Option Addr) (d:Fn) (b:Array Value) (c:Array Value) (e:List UInt8) (f:Int) (l:Nat) (Kn Kr Kx:World→World→Prop) (w:World):fragV prog 71 qft qfq (cdAt Tryz.f42 [1,1,1,1,0,1,2,5]) (cdAt Tryz.f42 [1,1,1,1,0,1,2,6]) l 0 Kn Kr Kx (updPs [28,29] [S e,I f] (upd (upd (upd (upd base 27 (.func d b c)) 3 (.pointer a)) 2 (.pointer g)) 1 (.pointer h))) w=qo9 h g a d b c e f l Kn Kr Kx w:=by kernel_rfl
theorem qpz:cdAt Tryz.f42 [1,1,1,1,0,1,2]=.rangeFunc (Operand.tmp 27) #[28,29] (cdAt Tryz.f42 [1,1,1,1,0,1,2,5]) (cdAt Tryz.f42 [1,1,1,1,0,1,2,6]):=by kernel_rfl
def q0v:Ann:=T F (.cut 130948 [] (T F (T (T F F) F)) (T (T F (T (T F F) F)) (T F (T (T F (.one (.loop 274861129748 [(4,.one (.int .i64))] (T (T F (T F F)) (T (.one (T F (T (T F F) F))) F))))) (T (T F (.one (.loop 4722366482594767306852 [(5,.one (.int .i64))] (T (T F (T F F)) (T (.one (T F (T (T F (T (T F F) F)) (T F (T (T F F) F))))) F))))) (T F F))))))
def qzo (c0:List UInt8) (c1:Option Addr) (a6:Nat) (a5:Nat) (R:Ending→World→Prop) (w:World):Prop :=
 al w 45 [S c0,L c1 a6 a5] fun l b9 =>
 ∀ (a9:World→Prop),(∀  (a3:World),(∀ _:Env,(∃ c3 a2 a1,a3.cell? (l.add 1)=some (L c3 a2 a1)∧Calls prog 94 ⟨[L c3 a2 a1]⟩ a3 fun c4 a4 =>
 ∃ E,c4=.returned (I E)∧br (decide (E≠0)) (R (.returned (I 1)) a4) (∃ F o n,a4.cell? (l.add 1)=some (L F o n)∧Calls prog 65 ⟨[L F o n]⟩ a4 fun b0 b7 =>
 ∃ p f q,b0=.returned (L p f q)∧∃ (m:Int→World→Nat→Prop),(∃ b4,m 0 b7 b4)∧∀ d j v,m d j v→∀ _:Env,(br (decide ((d:Int) < (f))) (idx p f d 1 fun b6 =>
 ∃ G,j.cell? b6=some (S G)∧Calls prog 66 ⟨[L p f q,S G]⟩ j fun b1 C =>
 ∃ H,b1=.returned (I H)∧br (decide (H≠d)) (R (.returned (I 7)) C) (∃ x,x < v∧m (i64.wrap (d + 1)) C x)) (∃ (g:Int→World→Nat→Prop),(∃ b5,g 0 j b5)∧∀ c b h,g c b h→∀ _:Env,(∃ c2 r a7,b.cell? (l.add 1)=some (L c2 r a7)∧br (decide ((c:Int) < (r))) (∃ J s a8,b.cell? (l.add 1)=some (L J s a8)∧idx J s c 4 fun i =>
 ∃ K,b.cell? (i.add 0)=some (I K)∧∃ M,b.cell? (i.add 1)=some (S M)∧∃ N,b.cell? (i.add 2)=some (I N)∧∃ O u t,b.cell? (i.add 3)=some (L O u t)∧al b 56 [I 0,S [],I 0,L none 0 0] fun e b8 =>
 stL b8 e 0 [I K,S M,I N,L O u t] fun a =>
 ∃ Q,a.cell? (e.add 0)=some (I Q)∧br (decide (Q=4)) (R (.returned (I 0)) a) (∃ T,a.cell? (e.add 0)=some (I T)∧br (decide (T≠3)) (∃ U,a.cell? (e.add 0)=some (I U)∧br (decide (U≠2)) (∃ V,a.cell? (e.add 0)=some (I V)∧br (decide (V≠1)) (R (.returned (I 10)) a) (∃ W,a.cell? (e.add 1)=some (S W)∧Calls prog 95 ⟨[S W]⟩ a fun b2 D =>
 ∃ X,b2=.returned (B X)∧br (!X) (R (.returned (I 10)) D) (∃ y,y < h∧g (i64.wrap (c + 1)) D y))) (∃ z,z < h∧g (i64.wrap (c + 1)) a z)) (∃ A,A < h∧g (i64.wrap (c + 1)) a A))) (R (.returned (I 0)) b)))))))→a9 a3)→(∃ Y,b9.cell? (l.add 0)=some (S Y)∧Calls prog 93 ⟨[S Y]⟩ b9 fun b3 k =>
 ∃ Z,b3=.returned (B Z)∧br (!Z) (R (.returned (I 14)) k) (∃ a0,k.cell? (l.add 0)=some (S a0)∧br (decide ((14:Int) < ((List.length a0:Int)))) (R (.returned (I 14)) k) (a9 k)))
theorem q4a {c d b a R w} (h:qzo c d b a R w):Calls prog qra ⟨[.agg ⟨[S c,L d b a]⟩]⟩ w R:=qe Tryz.func43 (Eq.mpr (by kernel_rfl:fnV _ _ q0v _ _ _=_) h)
def q41:Ann:=T F (T (T F (T (T F F) F)) (T (T F (.one (.loop 295147905179352823856 [(5,.one (.int .i64))] (T (T F (T F F)) (T (.one (T F (T (T F F) F))) F))))) (T F F)))
def q29 (e:Option Addr) (b:Nat) (J:Nat) (f:Option Addr) (d:Nat) (K:Nat) (R:Ending→World→Prop) (w:World):Prop :=
 br (decide ((((b:Int)):Int)≠((d:Int)))) (R (.returned (B false)) w) (∃ (v:Int→World→Nat→Prop),(∃ M,v 0 w M)∧∀ a x z,v a x z→∀ _:Env,(br (decide ((a:Int) < ((b:Int)))) (drw x fun c =>
 idx e b a 4 fun N =>
 ∃ m,c.cell? (N.add 0)=some (I m)∧idx f d a 4 fun A =>
 ∃ n,c.cell? (A.add 0)=some (I n)∧br (decide (m≠n)) ((R (.returned (B false)) c)∧True) (idx e b a 4 fun C =>
 ∃ o,c.cell? (C.add 1)=some (S o)∧idx f d a 4 fun D =>
 ∃ p,c.cell? (D.add 1)=some (S p)∧br (decide (o≠p)) ((R (.returned (B false)) c)∧True) (idx e b a 4 fun E =>
 ∃ q,c.cell? (E.add 2)=some (I q)∧idx f d a 4 fun F =>
 ∃ r,c.cell? (F.add 2)=some (I r)∧br (decide (q≠r)) ((R (.returned (B false)) c)∧True) (idx e b a 4 fun G =>
 ∃ s h g,c.cell? (G.add 3)=some (L s h g)∧idx f d a 4 fun H =>
 ∃ t j i,c.cell? (H.add 3)=some (L t j i)∧((Calls prog 44 ⟨[L s h g,L t j i]⟩ c fun y l =>
 ∃ u,y=.returned (B u)∧br (!u) (R (.returned (B false)) l) (∃ k,k < z∧v (i64.wrap (a + 1)) l k))∧True))))) (R (.returned (B true)) x)))
theorem q69 {e b a f d c R w} (h:q29 e b a f d c R w):Calls prog qub ⟨[L e b a,L f d c]⟩ w R:=qe Tryz.func44 (Eq.mpr (by kernel_rfl:fnV _ _ q41 _ _ _=_) h)
def q1e:Ann:=T F (T F (T (T F (T (T F F) F)) (T F (T (T F (.one (.loop 268370112 [(6,.one (.slice)),(7,.one (.int .i64))] (T (T F (T F F)) (T (.one (T F (T F F))) F))))) (T F F)))))
def qz7 (i:Option Addr) (f:Nat) (e:Nat) (R:Ending→World→Prop) (w:World):Prop :=
 Calls prog 49 ⟨[L i f e]⟩ w fun A y =>
 ∃ z q,A=.returned (.tuple ⟨[I z,I q]⟩)∧(br (decide (q≠0)) (R (.returned (.tuple ⟨[L none 0 0,I q]⟩)) y) (∃ (h:Option Addr→Nat→Nat→Int→World→Nat→Prop),(∃ t,h none 0 0 1 y t)∧∀ d c b a p g,h d c b a p g→∀ _:Env,(br (decide ((a:Int)≤z)) (Calls prog 96 ⟨[L i f e,I a]⟩ p fun s l =>
 ∃ m,s=.returned (B m)∧br m (al l 3 [I a] fun u v =>
 app prog [74,74] 74 (L d c b) (.slice (some u) 1 1) v fun r o n x =>
 ∃ j,j < g∧h r o n (i64.wrap (a + 1)) x j) (∃ k,k < g∧h d c b (i64.wrap (a + 1)) l k)) (R (.returned (.tuple ⟨[L d c b,I 0]⟩)) p))))
theorem q4s {c b a R w} (h:qz7 c b a R w):Calls prog qir ⟨[L c b a]⟩ w R:=qe Tryz.func45 (Eq.mpr (by kernel_rfl:fnV _ _ q1e _ _ _=_) h)
def q1f:Ann:=T F (T (T F (T (T F F) F)) (T F (T (T F (.one (.rf [2,3,4,10] 0))) (T F F))))
def qz8 (i:Option Addr) (e:Nat) (d:Nat) (R:Ending→World→Prop) (w:World):Prop :=
 Calls prog 71 ⟨[L i e d]⟩ w fun r p =>
 ∃ q,r=.returned (I q)∧(br (decide (q≠0)) (R (.returned (.tuple ⟨[I 0,I 1]⟩)) p) (al p 3 [I 0] fun h t =>
 stL t h 0 [I 0] fun u =>
 Calls prog 98 ⟨[L i e d]⟩ u fun s v =>
 ∃ j f g,s=.returned (.func j f g)∧∀ c:Env,RFw prog none 19 (cdAt Tryz.f49 [1,1,1,0,1,2]) (upd (upd (upd (upd c 10 (.func j f g)) 4 (.pointer (some h))) 3 (I 0)) 2 (I 0)) [] v 0 (fun a b =>
 ∃ l,b.cell? h=some (I l)∧retD a b fun n =>
 R (.returned (.tuple ⟨[I l,I 0]⟩)) n) (fun a b =>
 retD a b fun o =>
 R (.returned (.tuple ⟨[I 0,I 0]⟩)) o) (fun a b =>
 ∃ k,b.cell? h=some (I k)∧retD a b fun m =>
 R (.returned (.tuple ⟨[I k,I 0]⟩)) m)))
theorem q4t {c b a R w} (h:qz8 c b a R w):Calls prog qrs ⟨[L c b a]⟩ w R:=qe Tryz.func49 (Eq.mpr (by kernel_rfl:fnV _ _ q1f _ _ _=_) h)
def qhs:Ann:=F
def qhq:Ann:=.one (T F (T F F))
def qux (F:Int) (G:Int) (b:Option Addr) (C:Fn) (v:Array Value) (x:Array Value) (g:Int) (h:List UInt8) (i:Int) (j:Option Addr) (f:Nat) (e:Nat) (l:Nat) (Kn Kr Kx:World→World→Prop) (w:World):Prop :=
 al w 56 [I 0,S [],I 0,L none 0 0] fun c D =>
 stL D c 0 [I g,S h,I i,L j f e] fun n =>
 Ext w n∧∀ a:World,Upd l n a→(∃ o,a.cell? (c.add 0)=some (I o)∧∃ p,a.cell? (c.add 1)=some (S p)∧∃ q,a.cell? (c.add 2)=some (I q)∧∃ r m k,a.cell? (c.add 3)=some (L r m k)∧Calls prog 99 ⟨[.agg ⟨[I o,S p,I q,L r m k]⟩]⟩ a fun y d =>
 ∃ s,y=.returned (B s)∧br s (dr b fun z =>
 ∃ t,d.cell? z=some (I t)∧∃ u,d.cell? (c.add 2)=some (I u)∧dr b fun A =>
 stL d A 0 [.int .i64 ((max t u))] fun E =>
 Kn a E) (Kn a d))
theorem quz (base:Env) (k:Int) (m:Int) (a:Option Addr) (f:Fn) (b:Array Value) (c:Array Value) (g:Int) (h:List UInt8) (i:Int) (j:Option Addr) (e:Nat) (d:Nat) (l:Nat) (Kn Kr Kx:World→World→Prop) (w:World):fragV prog 19 qhs qhq (cdAt Tryz.f49 [1,1,1,0,1,2,5]) (cdAt Tryz.f49 [1,1,1,0,1,2,6]) l 0 Kn Kr Kx (updPs [11] [.agg ⟨[I g,S h,I i,L j e d]⟩] (upd (upd (upd (upd base 10 (.func f b c)) 4 (.pointer a)) 3 (I m)) 2 (I k))) w=qux k m a f b c g h i j e d l Kn Kr Kx w:=by kernel_rfl
theorem qu2:cdAt Tryz.f49 [1,1,1,0,1,2]=.rangeFunc (Operand.tmp 10) #[11] (cdAt Tryz.f49 [1,1,1,0,1,2,5]) (cdAt Tryz.f49 [1,1,1,0,1,2,6]):=by kernel_rfl
end Go.Proofs
