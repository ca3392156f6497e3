/- Written by program: for each function its verification condition, that it is the code's (by the kernel), and that it gives the call. -/
import Derived.Test.YtkecgnlelgdndaaGreatDoorFn
set_option linter.all false
set_option maxRecDepth 100000
namespace Go.Proofs
open Go Go.Sh Go.Proofs.Tryz IntKind
def an_law16_WitnessDivides:Ann:=T F (T F (T (T F (T (T F F) F)) (T F (T F (.cut 8658654068752 [] (T F (T (T F F) F)) (T F (T (T F (.one (.loop 2361183206250450580496 [(10,.one (.slice)),(45,.one (.int .i64))] (T F (T (T F F) (T (.one (T F (T F (.cut 9079256848778919952 [] (T F (T (T F F) F)) F)))) F)))))) (T F (T (T F (T (T F F) F)) (T F F))))))))))
def sh_law16_WitnessDivides (e5:List UInt8) (e6:Option Addr) (b8:Nat) (b7:Nat) (f:Int) (R:Ending→World→Prop) (w:World):Prop :=
 al w 45 [S e5,L e6 b8 b7] fun g b6 =>
 idiv 9 (∃ e7,b6.cell? (g.add 0)=some (S e7)∧∃ e8 a9 a8,b6.cell? (g.add 1)=some (L e8 a9 a8)∧al b6 45 [S e7,L e8 a9 a8] fun e9 f0 =>
 Calls prog 24 ⟨[.slice (some e9) 1 1]⟩ f0 fun c3 m =>
 ∃ O,c3=.returned (B O)∧br (!O) (Calls prog 13 ⟨[]⟩ m fun c4 d7 =>
 ∃ Q,c4=.returned (B Q)∧R (.returned (B Q)) d7) (∃ T,m.cell? (g.add 0)=some (S T)∧∃ U r q,m.cell? (g.add 1)=some (L U r q)∧Calls prog 25 ⟨[.agg ⟨[S T,L U r q]⟩]⟩ m fun c5 G =>
 ∃ V h b9 W,c5=.returned (.tuple ⟨[L V h b9,I W]⟩)∧∃ X t s,G.cell? (g.add 1)=some (L X t s)∧Calls prog 26 ⟨[L X t s,.int .i64 (Int.tmod (i64.wrap f) 9)]⟩ G fun c6 o =>
 ∃ u j i Y,c6=.returned (.tuple ⟨[L u j i,I Y]⟩)∧∀ (C:World→Prop),(∀  (H:World),(∀ _:Env,(∃ (n:Option Addr→Nat→Nat→Int→World→Nat→Prop),(∃ d3,n none 0 0 0 H d3)∧∀ d a c b e E,n d a c b e E→∀ _:Env,(br (decide ((b:Int) < (h))) (idx V h b 1 fun d4 =>
 ∃ v,e.cell? d4=some (S v)∧∃ Z,e.cell? (g.add 0)=some (S Z)∧∃ a0 y x,e.cell? (g.add 1)=some (L a0 y x)∧Calls prog 27 ⟨[.agg ⟨[S Z,L a0 y x]⟩,S v,.int .i64 (Int.tmod (i64.wrap f) 9)]⟩ e fun c7 d8 =>
 ∃ z l k a1 a2 a3,c7=.returned (.tuple ⟨[L z l k,.agg ⟨[S a1,I a2]⟩,I a3]⟩)∧al d8 51 [S [],I 0] fun d5 d9 =>
 stL d9 d5 0 [S a1,I a2] fun J =>
 ∀ (D:World→Prop),(∀  (K:World),(∀ _:Env,(al K 56 [I 4,S v,I 0,L none 0 0] fun d6 e0 =>
 app prog [43,43] 43 (L d a c) (.slice (some d6) 1 1) e0 fun c0 b1 b0 e1 =>
 app prog [43,43] 43 (L c0 b1 b0) (L z l k) e1 fun c1 b3 b2 e2 =>
 ∃ F,F < E∧n c1 b3 b2 (i64.wrap (b + 1)) e2 F))→D K)→(br (decide (a3≠0)) (R (.returned (B false)) J) (Calls prog 28 ⟨[L z l k,.func (.func 29) #[] #[]]⟩ J fun c8 M =>
 ∃ a4,c8=.returned (B a4)∧br a4 (R (.returned (B false)) M) (D M)))) (Calls prog 30 ⟨[L u j i,.func (.func 31) #[] #[]]⟩ e fun c9 p =>
 ∃ A,c9=.returned (I A)∧br (decide (A < 0)) (br (decide ((((a:Int)):Int)=0)) (Calls prog 13 ⟨[]⟩ p fun d0 e3 =>
 ∃ a5,d0=.returned (B a5)∧R (.returned (B a5)) e3) (R (.returned (B false)) p)) (sls u i A j 4 fun c2 b5 b4 =>
 Calls prog 32 ⟨[L d a c,L c2 b5 b4]⟩ p fun d1 N =>
 ∃ a6,d1=.returned (B a6)∧br a6 (Calls prog 13 ⟨[]⟩ N fun d2 e4 =>
 ∃ a7,d2=.returned (B a7)∧R (.returned (B a7)) e4) (R (.returned (B false)) N))))))→C H)→(br (decide (W≠0)) (R (.returned (B false)) o) (br (decide (Y≠0)) (R (.returned (B false)) o) (C o)))))
theorem c_law16_WitnessDivides {d e c b a R w} (h:sh_law16_WitnessDivides d e c b a R w):Calls prog F_law16_WitnessDivides ⟨[.agg ⟨[S d,L e c b]⟩,.int .u8 a]⟩ w R:=qe Tryz.func4 (Eq.mpr (by kernel_rfl:fnV _ _ an_law16_WitnessDivides _ _ _=_) h)
def an_law16_WitnessOrders:Ann:=T F (.cut 1071644676 [] (T F (T (T F F) F)) (T F (T (T F (T (T F F) F)) (T F (T (T F (.one (.loop 41538374868278620740013594482538468 [(5,.one (.int .i64)),(58,.one (.int .i64))] (T F (T (T F F) (T (.one (T F (T F (T F (T F (.one (.loop 20769187434138129922501267906065444 [(5,.one (.int .i64)),(10,.one (.int .i64)),(70,.one (.int .i64))] (T F (T (T F F) (T (.one (T F (T F (.cut 19191697386382238148460548 [] (T F (T (T F F) F)) (T F (T F (T (T F (.one (.loop 1298073595663687264442486633218048 [(14,.one (.bool)),(89,.one (.int .i64))] (T F (T (T F F) (T (.one (T F (T F F))) F)))))) (T F (T F F))))))))) F)))))))))) F)))))) (T (T F (T (T F F) F)) (T F (T F F))))))))
def sh_law16_WitnessOrders (n:Option Addr) (g:Nat) (k:Nat) (R:Ending→World→Prop) (w:World):Prop :=
 ∀ (e6:World→Prop),(∀  (g9:World),(∀ _:Env,(Calls prog 16 ⟨[L n g k]⟩ g9 fun h9 l =>
 ∃ a3 h u Y,h9=.returned (.tuple ⟨[L a3 h u,I Y]⟩)∧br (decide (Y≠0)) (br (decide (Y=15)) (br (decide ((1:Int) < ((g:Int)))) (br (decide (((h):Int)=0)) (Calls prog 13 ⟨[]⟩ l fun i0 i1 =>
 ∃ b8,i0=.returned (B b8)∧R (.returned (B b8)) i1) (R (.returned (B false)) l)) (br (decide (Y=4)) (br (decide (((h):Int)=0)) (Calls prog 13 ⟨[]⟩ l fun e9 g6 =>
 ∃ b9,e9=.returned (B b9)∧R (.returned (B b9)) g6) (R (.returned (B false)) l)) (R (.returned (B false)) l))) (br (decide (Y=4)) (br (decide (((h):Int)=0)) (Calls prog 13 ⟨[]⟩ l fun f0 g7 =>
 ∃ c0,f0=.returned (B c0)∧R (.returned (B c0)) g7) (R (.returned (B false)) l)) (R (.returned (B false)) l))) (∃ (v:Int→Int→World→Nat→Prop),(∃ g1,v 0 0 l g1)∧∀ e c i a5,v e c i a5→∀ _:Env,(br (decide ((c:Int) < ((g:Int)))) (idx n g c 2 fun b2 =>
 ∃ c1,i.cell? (b2.add 0)=some (S c1)∧∃ c2 K J,i.cell? (b2.add 1)=some (L c2 K J)∧al i 45 [S [],L none 0 0] fun z g8 =>
 stL g8 z 0 [S c1,L c2 K J] fun C =>
 ∃ c3,C.cell? (z.add 0)=some (S c3)∧∃ c4 N M,C.cell? (z.add 1)=some (L c4 N M)∧Calls prog 25 ⟨[.agg ⟨[S c3,L c4 N M]⟩]⟩ C fun f1 h0 =>
 ∃ c5 o e5 c6,f1=.returned (.tuple ⟨[L c5 o e5,I c6]⟩)∧∃ (p:Int→Int→Int→World→Nat→Prop),(∃ g2,p e ((-1)) 0 h0 g2)∧∀ b q d s y,p b q d s y→∀ _:Env,(br (decide ((d:Int) < (o))) (idx c5 o d 1 fun g4 =>
 ∃ O,s.cell? g4=some (S O)∧Calls prog 33 ⟨[L a3 h u,S O]⟩ s fun f2 D =>
 ∃ t,f2=.returned (I t)∧∀ (a4:World→Prop),(∀  (b4:World),(∀ _:Env,(sls n k 0 c 2 fun e7 x h8 =>
 ∃ (m:Bool→Int→World→Nat→Prop),(∃ g3,m true 0 b4 g3)∧∀ f a j r,m f a j r→∀ _:Env,(br (decide ((a:Int) < ((x:Int)))) (idx e7 x a 2 fun b3 =>
 ∃ c7,j.cell? (b3.add 0)=some (S c7)∧∃ c8 T Q,j.cell? (b3.add 1)=some (L c8 T Q)∧al j 45 [S [],L none 0 0] fun A h1 =>
 stL h1 A 0 [S c7,L c8 T Q] fun E =>
 ∃ c9,E.cell? (A.add 0)=some (S c9)∧∃ d0 V U,E.cell? (A.add 1)=some (L d0 V U)∧Calls prog 25 ⟨[.agg ⟨[S c9,L d0 V U]⟩]⟩ E fun f3 F =>
 ∃ d1 X W d2,f3=.returned (.tuple ⟨[L d1 X W,I d2]⟩)∧br f (br (decide (d2=0)) (Calls prog 34 ⟨[L d1 X W,S O]⟩ F fun f4 h2 =>
 ∃ d3,f4=.returned (B d3)∧∃ a6,a6 < r∧m (!d3) (i64.wrap (a + 1)) h2 a6) (∃ a7,a7 < r∧m false (i64.wrap (a + 1)) F a7)) (∃ a8,a8 < r∧m false (i64.wrap (a + 1)) F a8)) (br f (∃ a9,a9 < y∧p (i64.wrap (b + 1)) t (i64.wrap (d + 1)) j a9) (∃ b0,b0 < y∧p b t (i64.wrap (d + 1)) j b0)))))→a4 b4)→(br (decide (c6≠0)) (R (.returned (B false)) D) (br (decide (t≤q)) (R (.returned (B false)) D) (a4 D)))) (∃ b1,b1 < a5∧v b (i64.wrap (c + 1)) s b1))) (br (decide ((e:Int)≠(h))) (R (.returned (B false)) i) (Calls prog 35 ⟨[S [122],L a3 h u]⟩ i fun f5 h3 =>
 ∃ d4 d5 a0 Z,f5=.returned (.agg ⟨[S d4,L d5 a0 Z]⟩)∧al h3 45 [S d4,L d5 a0 Z] fun g5 h4 =>
 app prog [22,22] 22 (.slice (some g5) 1 1) (L n g k) h4 fun e8 e2 e1 h5 =>
 Calls prog 16 ⟨[L e8 e2 e1]⟩ h5 fun f6 b5 =>
 ∃ d6 a2 a1 d7,f6=.returned (.tuple ⟨[L d6 a2 a1,I d7]⟩)∧br (decide (d7=0)) (Calls prog 19 ⟨[L d6 a2 a1,L a3 h u]⟩ b5 fun f7 b6 =>
 ∃ d8,f7=.returned (B d8)∧br d8 (Calls prog 13 ⟨[]⟩ b6 fun f8 h6 =>
 ∃ d9,f8=.returned (B d9)∧R (.returned (B d9)) h6) (R (.returned (B false)) b6)) (R (.returned (B false)) b5)))))))→e6 g9)→(br (decide ((4:Int) < ((g:Int)))) (Calls prog 13 ⟨[]⟩ w fun f9 h7 =>
 ∃ e0,f9=.returned (B e0)∧R (.returned (B e0)) h7) (Calls prog 24 ⟨[L n g k]⟩ w fun g0 b7 =>
 ∃ G,g0=.returned (B G)∧br (!G) (Calls prog 13 ⟨[]⟩ b7 fun e3 e4 =>
 ∃ H,e3=.returned (B H)∧R (.returned (B H)) e4) (e6 b7)))
theorem c_law16_WitnessOrders {c b a R w} (h:sh_law16_WitnessOrders c b a R w):Calls prog F_law16_WitnessOrders ⟨[L c b a]⟩ w R:=qe Tryz.func5 (Eq.mpr (by kernel_rfl:fnV _ _ an_law16_WitnessOrders _ _ _=_) h)
def an_law16_WitnessTokens:Ann:=T F (.cut 8588886080 [] (T F (T (T F F) F)) (T F (T F (T (.cut 4433230883192832 [(51,.one (.bool))] F (T (T F F) F)) (T (T F (T (T F F) F)) (T F (T (T F (.one (.loop 10889035741470030811938521506338002948160 [(12,.one (.int .i64)),(74,.one (.int .i64))] (T F (T (T F F) (T (.one (T F (.cut 2475577847115856892504801280 [(15,.one (.slice)),(16,.one (.ptr)),(17,.one (.int .i64))] F (T (T F (T F F)) (T F (T (T F (T (T F F) F)) F)))))) F)))))) (T F F))))))))
def sh_law16_WitnessTokens (z:Option Addr) (i:Nat) (s:Nat) (f:Option Addr) (e:Nat) (d:Nat) (b:List UInt8) (R:Ending→World→Prop) (w:World):Prop :=
 ∀ (d8:World→Prop),(∀  (f8:World),(∀ _:Env,(Calls prog 20 ⟨[L z i s,L f e d,S b]⟩ f8 fun h3 h4 =>
 ∃ g9 o h0 h1 C h2 H,h3=.returned (.tuple ⟨[L g9 o h0,L h1 C h2,I H]⟩)∧Calls prog 14 ⟨[L z i s]⟩ h4 fun d9 a4 =>
 ∃ a8 t d7 a9,d9=.returned (.tuple ⟨[L a8 t d7,I a9]⟩)∧∀ (D:Bool→World→Prop),(∀ (p:Bool) (l:World),(∀ _:Env,(br p (br (decide (H≠0)) (br (decide (((o):Int)=0)) (br (decide (((C):Int)=0)) (Calls prog 13 ⟨[]⟩ l fun e0 f4 =>
 ∃ b0,e0=.returned (B b0)∧R (.returned (B b0)) f4) (R (.returned (B false)) l)) (R (.returned (B false)) l)) (R (.returned (B false)) l)) (br (decide (((o):Int)≠(C))) (R (.returned (B false)) l) (∃ (x:Int→Int→World→Nat→Prop),(∃ f1,x 0 0 l f1)∧∀ a c g F,x a c g F→∀ _:Env,(br (decide ((c:Int) < (t))) (idx a8 t c 3 fun G =>
 ∃ b1,g.cell? (G.add 0)=some (S b1)∧∃ b2,g.cell? (G.add 1)=some (I b2)∧∃ b3,g.cell? (G.add 2)=some (I b3)∧al g 65 [S [],I 0,I 0] fun A f5 =>
 stL f5 A 0 [S b1,I b2,I b3] fun f6 =>
 ∀ (E:Option Addr→Nat→Nat→Option Addr→Int→World→Prop),(∀ (m:Option Addr) (k:Nat) (j:Nat) (y:Option Addr) (r:Int) (q:World),(∀ _:Env,(br (decide ((r:Int)=6)) (∃ Y,Y < F∧x a (i64.wrap (c + 1)) q Y) (dr y fun a0 =>
 ∃ b4,q.cell? (a0.add 0)=some (S b4)∧∃ b5,q.cell? (a0.add 1)=some (I b5)∧Calls prog 36 ⟨[.agg ⟨[S b4,I b5]⟩,L m k j,L f e d]⟩ q fun e1 f7 =>
 ∃ b6 K J b7,e1=.returned (.tuple ⟨[L b6 K J,I b7]⟩)∧drw f7 fun h =>
 br (decide ((r:Int)≠0)) ((R (.returned (B false)) h)∧True) (br (decide (b7≠0)) ((R (.returned (B false)) h)∧True) (br (decide (((o):Int)≤a)) ((R (.returned (B false)) h)∧True) (idx g9 o a 1 fun f2 =>
 ∃ b8,h.cell? f2=some (S b8)∧∃ b9,h.cell? (A.add 0)=some (S b9)∧br (decide (b8≠b9)) ((R (.returned (B false)) h)∧True) (idx h1 C a 1 fun f3 =>
 ∃ c0 N M,h.cell? f3=some (L c0 N M)∧((Calls prog 37 ⟨[L c0 N M,L b6 K J]⟩ h fun e2 a5 =>
 ∃ c1,e2=.returned (B c1)∧br (!c1) (R (.returned (B false)) a5) (∃ Z,Z < F∧x (i64.wrap (a + 1)) (i64.wrap (c + 1)) a5 Z))∧True))))))))→E m k j y r q)→(drw f6 fun n =>
 ∃ c2,n.cell? (A.add 1)=some (I c2)∧idx z i c2 2 fun a1 =>
 ∃ O,n.cell? (a1.add 0)=some (S O)∧∃ Q v u,n.cell? (a1.add 1)=some (L Q v u)∧∃ T,n.cell? (A.add 2)=some (I T)∧((Calls prog 27 ⟨[.agg ⟨[S O,L Q v u]⟩,S b,I T]⟩ n fun e3 f9 =>
 ∃ c3 V U c4 c5 c6,e3=.returned (.tuple ⟨[L c3 V U,.agg ⟨[S c4,I c5]⟩,I c6]⟩)∧((al f9 51 [S [],I 0] fun a2 g0 =>
 (stL g0 a2 0 [S c4,I c5] fun g1 =>
 E c3 V U (some a2) c6 g1)∧True)∧True))∧(al n 51 [S [],I 0] fun a3 g2 =>
 (Calls prog 27 ⟨[.agg ⟨[S O,L Q v u]⟩,S b,I T]⟩ g2 fun e4 g3 =>
 ∃ c7 X W c8 c9 d0,e4=.returned (.tuple ⟨[L c7 X W,.agg ⟨[S c8,I c9]⟩,I d0]⟩)∧((stL g3 a3 0 [S c8,I c9] fun g4 =>
 E c7 X W (some a3) d0 g4)∧True))∧True)∧True))) (br (decide ((a:Int)=(o))) (br (decide ((0:Int) < a)) (Calls prog 13 ⟨[]⟩ g fun e5 g5 =>
 ∃ d1,e5=.returned (B d1)∧R (.returned (B d1)) g5) (R (.returned (B false)) g)) (R (.returned (B false)) g)))))))→D p l)→(br (decide (H≠0)) (D true a4) (D (decide (a9≠0)) a4))))→d8 f8)→(br (decide ((4:Int) < ((i:Int)))) (Calls prog 13 ⟨[]⟩ w fun e6 g6 =>
 ∃ d2,e6=.returned (B d2)∧R (.returned (B d2)) g6) (Calls prog 24 ⟨[L z i s]⟩ w fun e7 a6 =>
 ∃ d3,e7=.returned (B d3)∧br (!d3) (Calls prog 13 ⟨[]⟩ a6 fun e8 g7 =>
 ∃ d4,e8=.returned (B d4)∧R (.returned (B d4)) g7) (Calls prog 12 ⟨[L f e d]⟩ a6 fun e9 a7 =>
 ∃ d5,e9=.returned (B d5)∧br d5 (Calls prog 13 ⟨[]⟩ a7 fun f0 g8 =>
 ∃ d6,f0=.returned (B d6)∧R (.returned (B d6)) g8) (d8 a7))))
theorem c_law16_WitnessTokens {g f e d c b a R w} (h:sh_law16_WitnessTokens g f e d c b a R w):Calls prog F_law16_WitnessTokens ⟨[L g f e,L d c b,S a]⟩ w R:=qe Tryz.func6 (Eq.mpr (by kernel_rfl:fnV _ _ an_law16_WitnessTokens _ _ _=_) h)
def an_law16_WitnessSigla:Ann:=T F (.cut 267911172 [] (T F (T (T F F) F)) (T F (T (T F (T (T F F) F)) (T (T F (.one (.loop 316912650057055098574362116580 [(51,.one (.int .i64))] (T F (T (T F F) (T (.one (T F (T F (T F (T (T F F) F))))) F)))))) (T (T F (.one (.loop 748288838313422294119018983750508676662340759158276 [(100,.one (.int .i64))] (T F (T (T F F) (T (.one (T F (T F (T F (T F (T (T F (.one (.loop 1360464853685861395917046526196932755456 [(14,.one (.int .i64)),(119,.one (.int .i64))] (T F (T (T F F) (T (.one (T F (T F (T F F)))) F)))))) (.cut 182687703305233397091706750236036947729918722052 [] (T F (T (T F F) F)) (T F (.one (.loop 373413668338045695601041474759010311522090764992516 [(159,.one (.int .i64))] (T F (T (T F F) (T (.one (T F (T F (T (T F F) F)))) F))))))))))))) F)))))) (T F F))))))
def sh_law16_WitnessSigla (A:Option Addr) (i:Nat) (C:Nat) (R:Ending→World→Prop) (w:World):Prop :=
 ∀ (e5:World→Prop),(∀  (g1:World),(∀ _:Env,(Calls prog 14 ⟨[L A i C]⟩ g1 fun h0 x =>
 ∃ p g v W,h0=.returned (.tuple ⟨[L p g v,I W]⟩)∧br (decide (W≠0)) (br (decide (W=7)) (br (decide (((g):Int)=0)) (Calls prog 13 ⟨[]⟩ x fun h1 h2 =>
 ∃ b2,h1=.returned (B b2)∧R (.returned (B b2)) h2) (R (.returned (B false)) x)) (br (decide (W=4)) (br (decide (((g):Int)=0)) (Calls prog 13 ⟨[]⟩ x fun e6 f8 =>
 ∃ b3,e6=.returned (B b3)∧R (.returned (B b3)) f8) (R (.returned (B false)) x)) (R (.returned (B false)) x))) (∃ (q:Int→World→Nat→Prop),(∃ f2,q 0 x f2)∧∀ b k D,q b k D→∀ _:Env,(br (decide ((b:Int) < (g))) (idx p g b 3 fun F =>
 ∃ b4,k.cell? (F.add 0)=some (S b4)∧∃ b5,k.cell? (F.add 1)=some (I b5)∧∃ b6,k.cell? (F.add 2)=some (I b6)∧al k 65 [S [],I 0,I 0] fun m f9 =>
 stL f9 m 0 [S b4,I b5,I b6] fun a8 =>
 ∃ b7,a8.cell? (m.add 0)=some (S b7)∧Calls prog 40 ⟨[L p g v,S b7]⟩ a8 fun e7 g0 =>
 ∃ b8 b9,e7=.returned (.tuple ⟨[I b8,I b9]⟩)∧drw g0 fun f =>
 br (decide (b9≠0)) (R (.returned (B false)) f) (br (decide (b8≠b)) (R (.returned (B false)) f) (∃ c0,f.cell? (m.add 1)=some (I c0)∧br (decide (c0 < 0)) (R (.returned (B false)) f) (∃ c1,f.cell? (m.add 1)=some (I c1)∧br (decide ((((i:Int)):Int)≤c1)) (R (.returned (B false)) f) (br (decide ((0:Int) < b)) (∃ c2,f.cell? (m.add 1)=some (I c2)∧idx p g (i64.wrap (b - 1)) 3 fun f6 =>
 ∃ c3,f.cell? (f6.add 1)=some (I c3)∧br (decide (c2 < c3)) (R (.returned (B false)) f) (∃ X,X < D∧q (i64.wrap (b + 1)) f X)) (∃ Y,Y < D∧q (i64.wrap (b + 1)) f Y)))))) (∃ (y:Int→World→Nat→Prop),(∃ f3,y 0 k f3)∧∀ d n Z,y d n Z→∀ _:Env,(br (decide ((d:Int) < ((i:Int)))) (idx A i d 2 fun a5 =>
 ∃ c4,n.cell? (a5.add 0)=some (S c4)∧∃ c5 T Q,n.cell? (a5.add 1)=some (L c5 T Q)∧al n 3 [I 0] fun s g2 =>
 al g2 45 [S [],L none 0 0] fun G g3 =>
 stL g3 s 0 [I d] fun g4 =>
 stL g4 G 0 [S c4,L c5 T Q] fun a9 =>
 ∃ c6 V U,a9.cell? (G.add 1)=some (L c6 V U)∧Calls prog 45 ⟨[L c6 V U]⟩ a9 fun e8 K =>
 ∃ c7 j e4 c8,e8=.returned (.tuple ⟨[L c7 j e4,I c8]⟩)∧∃ c9,K.cell? (G.add 0)=some (S c9)∧∃ d0,K.cell? s=some (I d0)∧Calls prog 46 ⟨[L p g v,.agg ⟨[S c9,I d0,I 0]⟩]⟩ K fun e9 g5 =>
 ∃ o,e9=.returned (B o)∧∃ (r:Int→Int→World→Nat→Prop),(∃ f4,r 0 0 g5 f4)∧∀ a e c E,r a e c E→∀ _:Env,(br (decide ((e:Int) < (g))) (idx p g e 3 fun H =>
 ∃ d1,c.cell? (H.add 0)=some (S d1)∧∃ d2,c.cell? (H.add 1)=some (I d2)∧∃ d3,c.cell? (H.add 2)=some (I d3)∧al c 65 [S [],I 0,I 0] fun a6 g6 =>
 stL g6 a6 0 [S d1,I d2,I d3] fun t =>
 ∃ d4,t.cell? (a6.add 1)=some (I d4)∧∃ d5,t.cell? s=some (I d5)∧br (decide (d4=d5)) (∃ a0,a0 < E∧r (i64.wrap (a + 1)) (i64.wrap (e + 1)) t a0) (∃ a1,a1 < E∧r a (i64.wrap (e + 1)) t a1)) (∀ (l:World→Prop),(∀  (b0:World),(∀ _:Env,(∃ (z:Int→World→Nat→Prop),(∃ f5,z 0 b0 f5)∧∀ h u a2,z h u a2→∀ _:Env,(br (decide ((h:Int) < (j))) (idx c7 j h 1 fun f7 =>
 ∃ d6,u.cell? f7=some (I d6)∧al u 3 [I 0] fun a7 g7 =>
 stL g7 a7 0 [I d6] fun g8 =>
 Calls prog 47 ⟨[L p g v,.func (.func 48) ⟨[]⟩ ⟨[.pointer (some s),.pointer (some a7)]⟩]⟩ g8 fun f0 b1 =>
 ∃ d7,f0=.returned (B d7)∧br (!d7) (R (.returned (B false)) b1) (∃ a3,a3 < a2∧z (i64.wrap (h + 1)) b1 a3)) (∃ a4,a4 < Z∧y (i64.wrap (d + 1)) u a4))))→l b0)→(br (decide (c8≠0)) (R (.returned (B false)) c) (br (decide (o≠(decide (((j):Int)=0)))) (R (.returned (B false)) c) (br o (br (decide ((a:Int)≠1)) (R (.returned (B false)) c) (br (!o) (br (decide ((a:Int)≠(i64.wrap ((j) + 1)))) (R (.returned (B false)) c) (l c)) (l c))) (br (!o) (br (decide ((a:Int)≠(i64.wrap ((j) + 1)))) (R (.returned (B false)) c) (l c)) (l c)))))))) (Calls prog 13 ⟨[]⟩ n fun f1 g9 =>
 ∃ d8,f1=.returned (B d8)∧R (.returned (B d8)) g9)))))))→e5 g1)→(br (decide ((4:Int) < ((i:Int)))) (Calls prog 13 ⟨[]⟩ w fun d9 e2 =>
 ∃ M,d9=.returned (B M)∧R (.returned (B M)) e2) (Calls prog 24 ⟨[L A i C]⟩ w fun e0 J =>
 ∃ N,e0=.returned (B N)∧br (!N) (Calls prog 13 ⟨[]⟩ J fun e1 e3 =>
 ∃ O,e1=.returned (B O)∧R (.returned (B O)) e3) (e5 J)))
theorem c_law16_WitnessSigla {c b a R w} (h:sh_law16_WitnessSigla c b a R w):Calls prog F_law16_WitnessSigla ⟨[L c b a]⟩ w R:=qe Tryz.func8 (Eq.mpr (by kernel_rfl:fnV _ _ an_law16_WitnessSigla _ _ _=_) h)
def an_law16_WitnessHands:Ann:=T F (T (T F (T (T F F) F)) (T F (T F (.cut 9006649498927120 [] (T F (T (T F F) F)) (T F (T (T F (.one (.loop 2596148429267409202579229738268688 [(62,.one (.int .i64))] (T F (T (T F F) (T (.one (T F (T F (T F (.cut 633820464410836242231652778000 [] (T F (T (T F F) F)) (T F (T F (T (T F F) F)))))))) F)))))) (T F (T F F))))))))
def sh_law16_WitnessHands (f5:List UInt8) (f6:Option Addr) (d0:Nat) (c9:Nat) (l:Int) (R:Ending→World→Prop) (w:World):Prop :=
 al w 45 [S f5,L f6 d0 c9] fun e c8 =>
 ∃ f7,c8.cell? (e.add 0)=some (S f7)∧(∃ f8 c6 c5,c8.cell? (e.add 1)=some (L f8 c6 c5)∧al c8 45 [S f7,L f8 c6 c5] fun g0 g1 =>
 Calls prog 24 ⟨[.slice (some g0) 1 1]⟩ g1 fun d4 j =>
 ∃ U,d4=.returned (B U)∧br (!U) (Calls prog 13 ⟨[]⟩ j fun d5 e7 =>
 ∃ V,d5=.returned (B V)∧R (.returned (B V)) e7) (∃ W,j.cell? (e.add 0)=some (S W)∧∃ X r q,j.cell? (e.add 1)=some (L X r q)∧Calls prog 25 ⟨[.agg ⟨[S W,L X r q]⟩]⟩ j fun d6 M =>
 ∃ Y g d1 Z,d6=.returned (.tuple ⟨[L Y g d1,I Z]⟩)∧∃ a0 t s,M.cell? (e.add 1)=some (L a0 t s)∧Calls prog 49 ⟨[L a0 t s]⟩ M fun d7 f =>
 ∃ d a1,d7=.returned (.tuple ⟨[I d,I a1]⟩)∧∀ (G:World→Prop),(∀  (N:World),(∀ _:Env,(idiv (i64.wrap (9 - d)) (∃ (k:Int→World→Nat→Prop),(∃ e4,k 0 N e4)∧∀ a b J,k a b J→∀ _:Env,(br (decide ((a:Int) < (g))) (idx Y g a 1 fun e5 =>
 ∃ u,b.cell? e5=some (S u)∧∃ a2,b.cell? (e.add 0)=some (S a2)∧∃ a3 x v,b.cell? (e.add 1)=some (L a3 x v)∧Calls prog 27 ⟨[.agg ⟨[S a2,L a3 x v]⟩,S u,I d]⟩ b fun d8 e8 =>
 ∃ a4 z y a5 a6 a7,d8=.returned (.tuple ⟨[L a4 z y,.agg ⟨[S a5,I a6]⟩,I a7]⟩)∧al e8 51 [S [],I 0] fun m e9 =>
 stL e9 m 0 [S a5,I a6] fun o =>
 ∃ a8,o.cell? (e.add 0)=some (S a8)∧∃ a9 C A,o.cell? (e.add 1)=some (L a9 C A)∧Calls prog 27 ⟨[.agg ⟨[S a8,L a9 C A]⟩,S u,.int .i64 (i64.wrap (d + (Int.tmod (i64.wrap l) (i64.wrap (9 - d)))))]⟩ o fun d9 f0 =>
 ∃ D i h b0 b1 b2,d9=.returned (.tuple ⟨[L D i h,.agg ⟨[S b0,I b1]⟩,I b2]⟩)∧al f0 51 [S [],I 0] fun n f1 =>
 stL f1 n 0 [S b0,I b1] fun c =>
 ∀ (H:World→Prop),(∀  (O:World),(∀ _:Env,(Calls prog 50 ⟨[L D i h]⟩ O fun e0 p =>
 ∃ b3 b4,e0=.returned (.tuple ⟨[B b3,I b4]⟩)∧br (decide (b4≠0)) (R (.returned (B false)) p) (br (!b3) (R (.returned (B false)) p) (∃ K,K < J∧k (i64.wrap (a + 1)) p K))))→H O)→(br (decide (a7≠0)) (R (.returned (B false)) c) (br (decide (b2≠0)) (R (.returned (B false)) c) (∃ b5,c.cell? (m.add 0)=some (S b5)∧∃ b6,c.cell? (m.add 1)=some (I b6)∧∃ b7,c.cell? (n.add 0)=some (S b7)∧∃ b8,c.cell? (n.add 1)=some (I b8)∧br (!(decide (b5=b7)&&(decide (b6=b8)&&true))) (R (.returned (B false)) c) (Calls prog 32 ⟨[L a4 z y,L D i h]⟩ c fun e1 Q =>
 ∃ b9,e1=.returned (B b9)∧br (!b9) (R (.returned (B false)) Q) (H Q)))))) (∃ c0,b.cell? (e.add 0)=some (S c0)∧∃ c1 F E,b.cell? (e.add 1)=some (L c1 F E)∧Calls prog 27 ⟨[.agg ⟨[S c0,L c1 F E]⟩,S [110,111,32,115,117,99,104,32,115,101,99,116,105,111,110],I d]⟩ b fun e2 f2 =>
 ∃ f9 d3 d2 c2 c3 c4,e2=.returned (.tuple ⟨[L f9 d3 d2,.agg ⟨[S c2,I c3]⟩,I c4]⟩)∧al f2 51 [S [],I 0] fun e6 f3 =>
 stL f3 e6 0 [S c2,I c3] fun T =>
 br (decide (c4=6)) (Calls prog 13 ⟨[]⟩ T fun e3 f4 =>
 ∃ c7,e3=.returned (B c7)∧R (.returned (B c7)) f4) (R (.returned (B false)) T))))))→G N)→(br (decide (Z≠0)) (R (.returned (B false)) f) (br (decide (a1≠0)) (R (.returned (B false)) f) (br (decide (d < 0)) (R (.returned (B false)) f) (br (decide ((8:Int) < d)) (R (.returned (B false)) f) (G f)))))))
theorem c_law16_WitnessHands {d e c b a R w} (h:sh_law16_WitnessHands d e c b a R w):Calls prog F_law16_WitnessHands ⟨[.agg ⟨[S d,L e c b]⟩,.int .u8 a]⟩ w R:=qe Tryz.func9 (Eq.mpr (by kernel_rfl:fnV _ _ an_law16_WitnessHands _ _ _=_) h)
def q2k:Ann:=T F (T (T F (T (T F F) F)) (T (T F (.one (.loop 140737488355212 [(3,.one (.int .i64))] (T (T F (T F F)) (T (.one (T F (T (T F F) F))) F))))) (T F F)))
def q1e (d:Option Addr) (a:Nat) (u:Nat) (R:Ending→World→Prop) (w:World):Prop :=
 br (decide ((35:Int) < ((a:Int)))) (R (.returned (B true)) w) (∃ (f:Int→World→Nat→Prop),(∃ v,f 0 w v)∧∀ c g n,f c g n→∀ _:Env,(br (decide ((c:Int) < ((a:Int)))) (idx d a c 2 fun x =>
 ∃ s m l,g.cell? (x.add 1)=some (L s m l)∧Calls prog 55 ⟨[L s m l]⟩ g fun t b =>
 ∃ j,t=.returned (B j)∧br j (R (.returned (B true)) b) (idx d a c 2 fun p =>
 ∃ k,b.cell? (p.add 0)=some (S k)∧br (decide ((20:Int) < ((List.length k:Int)))) (R (.returned (B true)) b) (br (decide ((4:Int) < ((a:Int)))) (br (decide ((((a:Int)):Int)≤32)) (R (.returned (B true)) b) (idx d a c 2 fun q =>
 ∃ r e o,b.cell? (q.add 1)=some (L r e o)∧br (decide ((0:Int) < (e))) (R (.returned (B true)) b) (∃ h,h < n∧f (i64.wrap (c + 1)) b h))) (∃ i,i < n∧f (i64.wrap (c + 1)) b i)))) (R (.returned (B false)) g)))
theorem q58 {c b a R w} (h:q1e c b a R w):Calls prog qsq ⟨[L c b a]⟩ w R:=qe Tryz.func11 (Eq.mpr (by kernel_rfl:fnV _ _ q2k _ _ _=_) h)
def qkw:Ann:=T F (T (T F (T (T F F) F)) (T (T F (.one (.loop 140737488355212 [(3,.one (.int .i64))] (T (T F (T F F)) (T (.one (T F (T (T F F) F))) F))))) (T F F)))
def qkp (d:Option Addr) (a:Nat) (n:Nat) (R:Ending→World→Prop) (w:World):Prop :=
 br (decide ((4099:Int) < ((a:Int)))) (R (.returned (B true)) w) (∃ (e:Int→World→Nat→Prop),(∃ o,e 0 w o)∧∀ c b l,e c b l→∀ _:Env,(br (decide ((c:Int) < ((a:Int)))) (idx d a c 2 fun p =>
 ∃ m,b.cell? (p.add 0)=some (S m)∧br (decide ((30:Int) < ((List.length m:Int)))) (R (.returned (B true)) b) (idx d a c 2 fun q =>
 ∃ i,b.cell? (q.add 1)=some (S i)∧br (decide ((30:Int) < ((List.length i:Int)))) (R (.returned (B true)) b) (br (decide ((8:Int) < ((a:Int)))) (br (decide ((((a:Int)):Int)≤4096)) (R (.returned (B true)) b) (idx d a c 2 fun h =>
 ∃ j,b.cell? (h.add 0)=some (S j)∧∃ k,b.cell? (h.add 1)=some (S k)∧br (!(decide (j=([]))&&(decide (k=([]))&&true))) (R (.returned (B true)) b) (∃ f,f < l∧e (i64.wrap (c + 1)) b f))) (∃ g,g < l∧e (i64.wrap (c + 1)) b g)))) (R (.returned (B false)) b)))
theorem qly {c b a R w} (h:qkp c b a R w):Calls prog qfz ⟨[L c b a]⟩ w R:=qe Tryz.func12 (Eq.mpr (by kernel_rfl:fnV _ _ qkw _ _ _=_) h)
def q2z:Ann:=T F (T F (T F (T F (T F (.cut 4611685880988434433 [] (T F (T (T F F) F)) (T F F))))))
def q1t  (R:Ending→World→Prop) (w:World):Prop :=
 Calls prog 56 ⟨[]⟩ w fun f8 g1 =>
 ∃ f3 f4 X W,f8=.returned (.agg ⟨[S f3,L f4 X W]⟩)∧(al g1 45 [S f3,L f4 X W] fun g0 g2 =>
 Calls prog 14 ⟨[.slice (some g0) 1 1]⟩ g2 fun f9 g3 =>
 ∃ f7 a7 a6 C,f9=.returned (.tuple ⟨[L f7 a7 a6,I C]⟩)∧Calls prog 56 ⟨[]⟩ g3 fun b3 d8 =>
 ∃ D E f e,b3=.returned (.agg ⟨[S D,L E f e]⟩)∧Calls prog 25 ⟨[.agg ⟨[S D,L E f e]⟩]⟩ d8 fun b4 d9 =>
 ∃ F h g G,b4=.returned (.tuple ⟨[L F h g,I G]⟩)∧Calls prog 56 ⟨[]⟩ d9 fun b5 e0 =>
 ∃ H J j i,b5=.returned (.agg ⟨[S H,L J j i]⟩)∧al e0 45 [S H,L J j i] fun c4 e1 =>
 Calls prog 20 ⟨[.slice (some c4) 1 1,L none 0 0,S [111,110,101]]⟩ e1 fun b6 e2 =>
 ∃ K l k d a a8 M,b6=.returned (.tuple ⟨[L K l k,L d a a8,I M]⟩)∧al e2 9 [S [111,110,101],S [116,104,114,101,101]] fun c5 e3 =>
 Calls prog 35 ⟨[S [65],.slice (some c5) 2 2]⟩ e3 fun b7 e4 =>
 ∃ N O n m,b7=.returned (.agg ⟨[S N,L O n m]⟩)∧al e4 9 [S [116,119,111],S [116,104,114,101,101]] fun c6 e5 =>
 Calls prog 35 ⟨[S [66],.slice (some c6) 2 2]⟩ e5 fun b8 e6 =>
 ∃ Q T p o,b8=.returned (.agg ⟨[S Q,L T p o]⟩)∧al e6 45 [S N,L O n m,S Q,L T p o] fun c7 e7 =>
 Calls prog 16 ⟨[.slice (some c7) 2 2]⟩ e7 fun b9 c =>
 ∃ U r q V,b9=.returned (.tuple ⟨[L U r q,I V]⟩)∧∀ (x:World→Prop),(∀  (y:World),(∀ _:Env,(al y 65 [S [65,42],I 0,I 0,S [65,49],I 0,I 1] fun c8 e8 =>
 Calls prog 57 ⟨[L f7 a7 a6,.slice (some c8) 2 2]⟩ e8 fun c0 z =>
 ∃ Y,c0=.returned (B Y)∧br Y (al z 9 [S [111,110,101],S [116,119,111]] fun c9 e9 =>
 Calls prog 19 ⟨[L F h g,.slice (some c9) 2 2]⟩ e9 fun c1 A =>
 ∃ Z,c1=.returned (B Z)∧br Z (al A 9 [S [65,42],S [65,49]] fun d0 f0 =>
 Calls prog 19 ⟨[L K l k,.slice (some d0) 2 2]⟩ f0 fun c2 b =>
 ∃ a0,c2=.returned (B a0)∧br a0 (idx d a 0 1 fun d1 =>
 ∃ a1 s a9,b.cell? d1=some (L a1 s a9)∧idx a1 s 0 6 fun d2 =>
 ∃ a2,b.cell? (d2.add 0)=some (S a2)∧br (decide (a2=([100,101]))) (idx d a 1 1 fun d3 =>
 ∃ a3 t b0,b.cell? d3=some (L a3 t b0)∧idx a3 t 0 6 fun d4 =>
 ∃ a4,b.cell? (d4.add 0)=some (S a4)∧br (decide (a4=([100,101,117,115]))) (al b 9 [S [111,110,101],S [116,119,111],S [116,104,114,101,101]] fun d5 f1 =>
 Calls prog 19 ⟨[L U r q,.slice (some d5) 3 3]⟩ f1 fun c3 f2 =>
 ∃ a5,c3=.returned (B a5)∧R (.returned (B a5)) f2) (R (.returned (B false)) b)) (R (.returned (B false)) b)) (R (.returned (B false)) b)) (R (.returned (B false)) A)) (R (.returned (B false)) z)))→x y)→(br (decide ((((max (max (max C G) M) V)):Int)≠0)) (R (.returned (B false)) c) (br (decide (((a):Int)≠2)) (R (.returned (B false)) c) (idx d a 0 1 fun d6 =>
 ∃ f5 u b1,c.cell? d6=some (L f5 u b1)∧br (decide (((u):Int)≠1)) (R (.returned (B false)) c) (idx d a 1 1 fun d7 =>
 ∃ f6 v b2,c.cell? d7=some (L f6 v b2)∧br (decide (((v):Int)≠1)) (R (.returned (B false)) c) (x c))))))
theorem q6n {R w} (h:q1t  R w):Calls prog qcd ⟨[]⟩ w R:=qe Tryz.func13 (Eq.mpr (by kernel_rfl:fnV _ _ q2z _ _ _=_) h)
def qr1:Ann:=T F (T (T F (T F (T (T F F) F))) (T F (T (T F (.one (.loop 9444732965739286236140 [(5,.one (.slice)),(22,.one (.int .i64))] (T F (T (T F F) (T (.one (T F (T F (T (T F (T (T F F) F)) (T (T F (T (T F F) F)) (T F (T F (.one (.loop 4722294425275607287840 [(5,.one (.slice)),(56,.one (.int .i64))] (T F (T (T F F) (T (.one (T F (.one F))) F)))))))))))) F)))))) (T F (T (T F (.one (.loop 309409451957619154401378316 [(76,.one (.int .i64))] (T F (T (T F F) (T (.one (T F (T (T F (T (T F F) F)) F))) F)))))) (T (T F (T (T F F) F)) (T F F)))))))
def qp8 (H:Option Addr) (p:Nat) (c0:Nat) (R:Ending→World→Prop) (w:World):Prop :=
 Calls prog 58 ⟨[L H p c0]⟩ w fun f6 e5 =>
 ∃ c3,f6=.returned (I c3)∧(br (decide (c3≠0)) (R (.returned (.tuple ⟨[L none 0 0,I c3]⟩)) e5) (∃ (F:Option Addr→Nat→Nat→Int→World→Nat→Prop),(∃ d1,F none 0 0 0 e5 d1)∧∀ g b h a y c1,F g b h a y c1→∀ _:Env,(br (decide ((a:Int) < ((p:Int)))) (idx H p a 2 fun T =>
 ∃ W,y.cell? (T.add 0)=some (S W)∧∃ X A z,y.cell? (T.add 1)=some (L X A z)∧al y 45 [S [],L none 0 0] fun k e2 =>
 stL e2 k 0 [S W,L X A z] fun U =>
 ∃ Y D C,U.cell? (k.add 1)=some (L Y D C)∧Calls prog 45 ⟨[L Y D C]⟩ U fun c8 m =>
 ∃ Z l c2 E,c8=.returned (.tuple ⟨[L Z l c2,I E]⟩)∧br (decide (E≠0)) (R (.returned (.tuple ⟨[L none 0 0,I E]⟩)) m) (br (decide (((l):Int)=0)) (∃ a0,m.cell? (k.add 0)=some (S a0)∧al m 65 [S a0,I a,I 0] fun d4 e3 =>
 app prog [27,27] 27 (L g b h) (.slice (some d4) 1 1) e3 fun c4 b3 b2 e4 =>
 ∃ J,J < c1∧F c4 b3 b2 (i64.wrap (a + 1)) e4 J) (∃ a1,m.cell? (k.add 0)=some (S a1)∧(sadd a1 ([42]) fun d9 =>
 al m 65 [S d9,I a,I 0] fun d5 e6 =>
 app prog [27,27] 27 (L g b h) (.slice (some d5) 1 1) e6 fun c5 b5 b4 e7 =>
 ∃ (q:Option Addr→Nat→Nat→Int→World→Nat→Prop),(∃ d2,q c5 b5 b4 0 e7 d2)∧∀ f e d c r t,q f e d c r t→∀ _:Env,(br (decide ((c:Int) < (l))) (idx Z l c 1 fun d6 =>
 ∃ o,r.cell? d6=some (I o)∧drw r fun x =>
 (∃ a2,x.cell? (k.add 0)=some (S a2)∧((Calls prog 59 ⟨[I o]⟩ x fun c9 e8 =>
 ∃ a3,c9=.returned (S a3)∧(sadd a2 a3 fun e0 =>
 (al e8 65 [S e0,I a,I o] fun d7 e9 =>
 (app prog [27,27] 27 (L f e d) (.slice (some d7) 1 1) e9 fun c6 b7 b6 f0 =>
 ∃ K,K < t∧q c6 b7 b6 (i64.wrap (c + 1)) f0 K)∧True)∧True))∧True))∧(Calls prog 59 ⟨[I o]⟩ x fun d0 V =>
 ∃ a4,d0=.returned (S a4)∧∃ a5,V.cell? (k.add 0)=some (S a5)∧(sadd a5 a4 fun e1 =>
 (al V 65 [S e1,I a,I o] fun d8 f1 =>
 (app prog [27,27] 27 (L f e d) (.slice (some d8) 1 1) f1 fun c7 b9 b8 f2 =>
 ∃ M,M < t∧q c7 b9 b8 (i64.wrap (c + 1)) f2 M)∧True)∧True))∧True) (∃ N,N < c1∧F f e d (i64.wrap (a + 1)) r N)))))) (mkm y fun G f3 =>
 ∃ (s:Int→World→Nat→Prop),(∃ d3,s 0 f3 d3)∧∀ i j O,s i j O→∀ _:Env,(br (decide ((i:Int) < ((b:Int)))) (idx g b i 3 fun u =>
 ∃ a6,j.cell? (u.add 0)=some (S a6)∧∃ a7,j.cell? (u.add 1)=some (I a7)∧∃ a8,j.cell? (u.add 2)=some (I a8)∧al j 65 [S [],I 0,I 0] fun v f4 =>
 stL f4 v 0 [S a6,I a7,I a8] fun n =>
 ∃ a9,n.cell? (v.add 0)=some (S a9)∧∃ b0,lkAt prog 95 (.map (some G)) (S a9) n (B b0)∧br b0 (R (.returned (.tuple ⟨[L none 0 0,I 7]⟩)) n) (∃ b1,n.cell? (v.add 0)=some (S b1)∧(mupd prog 95 (.map (some G)) (S b1) (B true) n fun f5 =>
 ∃ Q,Q < O∧s (i64.wrap (i + 1)) f5 Q))) (br (decide ((32:Int) < ((b:Int)))) (R (.returned (.tuple ⟨[L none 0 0,I 4]⟩)) j) (R (.returned (.tuple ⟨[L g b h,I 0]⟩)) j)))))))
theorem qt7 {c b a R w} (h:qp8 c b a R w):Calls prog qja ⟨[L c b a]⟩ w R:=qe Tryz.func14 (Eq.mpr (by kernel_rfl:fnV _ _ qr1 _ _ _=_) h)
def qwo:Ann:=T F (T (T F (T F (T (T F F) F))) (T F (T F (T (T F (.one (.loop 140737421249280 [(26,.one (.int .i64))] (T F (T (T F F) (T (.one (T F (T F (T F (T F (.one (.loop 69818988365824 [(39,.one (.int .i64))] (T F (T (T F F) (T (.one (T F F)) F)))))))))) F)))))) (T (T (T F F) (T (T F F) F)) (T F (T F (T F (T F (T (.one (.loop 2361174234235568066572 [(12,.one (.slice))] (T (T (T F F) (T F F)) (.one (T F (T (T F (T (T F F) F)) (T F F))))))) (T F F)))))))))))
def qvx (z:Option Addr) (h:Nat) (a4:Nat) (R:Ending→World→Prop) (w:World):Prop :=
 Calls prog 58 ⟨[L z h a4]⟩ w fun d3 c3 =>
 ∃ a5,d3=.returned (I a5)∧(br (decide (a5≠0)) (R (.returned (.tuple ⟨[L none 0 0,I a5]⟩)) c3) (al c3 96 [L none 0 0] fun y d4 =>
 mkm d4 fun a3 d5 =>
 ∃ (Y:Int→World→Nat→Prop),(∃ b1,Y 0 d5 b1)∧∀ b f A,Y b f A→∀ _:Env,(br (decide ((b:Int) < ((h:Int)))) (idx z h b 2 fun H =>
 ∃ O,f.cell? (H.add 0)=some (S O)∧∃ Q p o,f.cell? (H.add 1)=some (L Q p o)∧al f 45 [S [],L none 0 0] fun J b9 =>
 stL b9 J 0 [S O,L Q p o] fun M =>
 ∃ T r q,M.cell? (J.add 1)=some (L T r q)∧Calls prog 62 ⟨[L T r q]⟩ M fun a9 N =>
 ∃ s g t,a9=.returned (L s g t)∧∃ U v u,N.cell? y=some (L U v u)∧al N 31 [L s g t] fun b6 c0 =>
 app prog [96,96] 96 (L U v u) (.slice (some b6) 1 1) c0 fun a6 a0 Z c1 =>
 stL c1 y 0 [L a6 a0 Z] fun c2 =>
 ∃ (l:Int→World→Nat→Prop),(∃ b2,l 0 c2 b2)∧∀ c j C,l c j C→∀ _:Env,(br (decide ((c:Int) < (g))) (idx s g c 1 fun b7 =>
 ∃ V,j.cell? b7=some (S V)∧(mupd prog 95 (.map (some a3)) (S V) (B true) j fun c4 =>
 ∃ D,D < C∧l (i64.wrap (c + 1)) c4 D)) (∃ E,E < A∧Y (i64.wrap (b + 1)) j E))) (mlenV f (.map (some a3)) fun b4 =>
 br (decide ((64:Int) < b4)) (R (.returned (.tuple ⟨[L none 0 0,I 4]⟩)) f) (mkm f fun a8 c5 =>
 al c5 95 [.map none] fun i c6 =>
 stL c6 i 0 [.map (some a8)] fun c7 =>
 al c7 98 [.nilFunc] fun K c8 =>
 stL c8 K 0 [.func (.func 63) ⟨[]⟩ ⟨[.pointer (some y),.pointer (some i)]⟩] fun c9 =>
 ∃ (m:Option Addr→Nat→Nat→World→Nat→Prop),(∃ b3,m none 0 0 c9 b3)∧∀ e a d k F,m e a d k F→∀ _:Env,(mlenV k (.map (some a3)) fun b5 =>
 br (decide ((((a:Int)):Int) < b5)) (CallV prog (.func (.func 64) ⟨[]⟩ ⟨[.pointer (some y),.pointer (some i),.pointer (some K)]⟩) [] k fun b0 n =>
 ∃ x W,b0=.returned (.tuple ⟨[S x,B W]⟩)∧br (!W) (R (.returned (.tuple ⟨[L none 0 0,I 15]⟩)) n) (∃ X,n.cell? i=some (X)∧(mupd prog 95 X (S x) (B true) n fun d0 =>
 al d0 9 [S x] fun b8 d1 =>
 app prog [31,31] 31 (L e a d) (.slice (some b8) 1 1) d1 fun a7 a2 a1 d2 =>
 ∃ G,G < F∧m a7 a2 a1 d2 G))) (R (.returned (.tuple ⟨[L e a d,I 0]⟩)) k)))))))
theorem qzv {c b a R w} (h:qvx c b a R w):Calls prog ql8 ⟨[L c b a]⟩ w R:=qe Tryz.func16 (Eq.mpr (by kernel_rfl:fnV _ _ qwo _ _ _=_) h)
def qni:Ann:=T F (T (T F (T (T F F) F)) (T (T F (.one (.loop 67106864 [(5,.one (.int .i64))] (T (T F (T F F)) (T (.one (T F (T (T F F) F))) F))))) (T F F)))
def qf8 (p:Option Addr) (c:Nat) (s:Nat) (q:Option Addr) (d:Nat) (t:Nat) (R:Ending→World→Prop) (w:World):Prop :=
 br (decide ((((c:Int)):Int)≠((d:Int)))) (R (.returned (B false)) w) (∃ (m:Int→World→Nat→Prop),(∃ u,m 0 w u)∧∀ a o r,m a o r→∀ _:Env,(br (decide ((a:Int) < ((c:Int)))) (drw o fun b =>
 idx p c a 3 fun n =>
 ∃ g,b.cell? (n.add 0)=some (S g)∧∃ h,b.cell? (n.add 1)=some (I h)∧∃ i,b.cell? (n.add 2)=some (I i)∧idx q d a 3 fun e =>
 ∃ j,b.cell? (e.add 0)=some (S j)∧∃ k,b.cell? (e.add 1)=some (I k)∧∃ l,b.cell? (e.add 2)=some (I l)∧br (!(decide (g=j)&&(decide (h=k)&&(decide (i=l)&&true)))) (R (.returned (B false)) b) (∃ f,f < r∧m (i64.wrap (a + 1)) b f)) (R (.returned (B true)) o)))
theorem c_ref16_SameSources {e b a f d c R w} (h:qf8 e b a f d c R w):Calls prog qpx ⟨[L e b a,L f d c]⟩ w R:=qe Tryz.func18 (Eq.mpr (by kernel_rfl:fnV _ _ qni _ _ _=_) h)
def qev:Ann:=T F (T (T F (T (T F F) F)) (T (T F (.one (.loop 67100720 [(13,.one (.int .i64))] (T F (T (T F F) (T (.one (T F (T F (T (T F F) F)))) F)))))) (T F F)))
def qeq (i:Option Addr) (b:Nat) (n:Nat) (j:Option Addr) (c:Nat) (o:Nat) (R:Ending→World→Prop) (w:World):Prop :=
 br (decide ((((b:Int)):Int)≠((c:Int)))) (R (.returned (B false)) w) (∃ (h:Int→World→Nat→Prop),(∃ p,h 0 w p)∧∀ a k l,h a k l→∀ _:Env,(br (decide ((a:Int) < ((b:Int)))) (drw k fun d =>
 idx i b a 1 fun q =>
 ∃ f,d.cell? q=some (S f)∧idx j c a 1 fun m =>
 ∃ g,d.cell? m=some (S g)∧br (decide (f≠g)) (R (.returned (B false)) d) (∃ e,e < l∧h (i64.wrap (a + 1)) d e)) (R (.returned (B true)) k)))
theorem qfb {e b a f d c R w} (h:qeq e b a f d c R w):Calls prog qby ⟨[L e b a,L f d c]⟩ w R:=qe Tryz.func19 (Eq.mpr (by kernel_rfl:fnV _ _ qev _ _ _=_) h)
def quq:Ann:=T F (T F (T (T F (T (T F F) F)) (T F (T F (T (T F (.one (.loop 604462909807314050996672 [(11,.one (.slice)),(12,.one (.slice)),(29,.one (.int .i64))] (T F (T (T F F) (T (.one (T F (T (T F (T F F)) (.cut 72048797945135104 [(15,.one (.slice)),(16,.one (.ptr)),(17,.one (.int .i64))] F (T (T F (T (T F F) F)) (T F (T (T F (T (T F F) F)) F))))))) F)))))) (T (T F (T (T F F) F)) (T F F)))))))
def qtc (z:Option Addr) (q:Nat) (d1:Nat) (x:Option Addr) (s:Nat) (r:Nat) (f:List UInt8) (R:Ending→World→Prop) (w:World):Prop :=
 Calls prog 14 ⟨[L z q d1]⟩ w fun f9 e8 =>
 ∃ f7 W f8 d2,f9=.returned (.tuple ⟨[L f7 W f8,I d2]⟩)∧(br (decide (d2≠0)) (R (.returned (.tuple ⟨[L none 0 0,L none 0 0,I d2]⟩)) e8) (∃ (Z:Option Addr→Nat→Nat→Option Addr→Nat→Nat→Int→World→Nat→Prop),(∃ e0,Z none 0 0 none 0 0 0 e8 e0)∧∀ h c e d b a g l A,Z h c e d b a g l A→∀ _:Env,(br (decide ((g:Int) < (W))) (idx f7 W g 3 fun C =>
 ∃ a7,l.cell? (C.add 0)=some (S a7)∧∃ a8,l.cell? (C.add 1)=some (I a8)∧∃ a9,l.cell? (C.add 2)=some (I a9)∧al l 65 [S [],I 0,I 0] fun n e4 =>
 stL e4 n 0 [S a7,I a8,I a9] fun D =>
 ∃ b0,D.cell? (n.add 1)=some (I b0)∧idx z q b0 2 fun e1 =>
 ∃ b1 G F,D.cell? (e1.add 1)=some (L b1 G F)∧Calls prog 62 ⟨[L b1 G F]⟩ D fun d5 e5 =>
 ∃ b2 J H,d5=.returned (L b2 J H)∧Calls prog 34 ⟨[L b2 J H,S f]⟩ e5 fun d6 a6 =>
 ∃ b3,d6=.returned (B b3)∧br (!b3) (∃ a0,a0 < A∧Z h c e d b a (i64.wrap (g + 1)) a6 a0) (∀ (y:Option Addr→Nat→Nat→Option Addr→Int→World→Prop),(∀ (k:Option Addr) (j:Nat) (i:Nat) (v:Option Addr) (p:Int) (o:World),(∀ _:Env,(br (decide ((p:Int)≠0)) (R (.returned (.tuple ⟨[L none 0 0,L none 0 0,I p]⟩)) o) (dr v fun a2 =>
 ∃ b4,o.cell? (a2.add 0)=some (S b4)∧∃ b5,o.cell? (a2.add 1)=some (I b5)∧Calls prog 36 ⟨[.agg ⟨[S b4,I b5]⟩,L k j i,L x s r]⟩ o fun d7 E =>
 ∃ b6 M K N,d7=.returned (.tuple ⟨[L b6 M K,I N]⟩)∧br (decide (N≠0)) (R (.returned (.tuple ⟨[L none 0 0,L none 0 0,I N]⟩)) E) (∃ b7,E.cell? (n.add 0)=some (S b7)∧al E 9 [S b7] fun e2 e6 =>
 app prog [31,31] 31 (L h c e) (.slice (some e2) 1 1) e6 fun d3 c8 c7 e7 =>
 al e7 40 [L b6 M K] fun e3 e9 =>
 app prog [36,36] 36 (L d b a) (.slice (some e3) 1 1) e9 fun d4 d0 c9 f0 =>
 ∃ a1,a1 < A∧Z d3 c8 c7 d4 d0 c9 (i64.wrap (g + 1)) f0 a1))))→y k j i v p o)→(drw a6 fun m =>
 ∃ b8,m.cell? (n.add 1)=some (I b8)∧idx z q b8 2 fun a3 =>
 ∃ O,m.cell? (a3.add 0)=some (S O)∧∃ Q u t,m.cell? (a3.add 1)=some (L Q u t)∧∃ T,m.cell? (n.add 2)=some (I T)∧((Calls prog 27 ⟨[.agg ⟨[S O,L Q u t]⟩,S f,I T]⟩ m fun d8 f1 =>
 ∃ b9 V U c0 c1 c2,d8=.returned (.tuple ⟨[L b9 V U,.agg ⟨[S c0,I c1]⟩,I c2]⟩)∧((al f1 51 [S [],I 0] fun a4 f2 =>
 (stL f2 a4 0 [S c0,I c1] fun f3 =>
 y b9 V U (some a4) c2 f3)∧True)∧True))∧(al m 51 [S [],I 0] fun a5 f4 =>
 (Calls prog 27 ⟨[.agg ⟨[S O,L Q u t]⟩,S f,I T]⟩ f4 fun d9 f5 =>
 ∃ c3 Y X c4 c5 c6,d9=.returned (.tuple ⟨[L c3 Y X,.agg ⟨[S c4,I c5]⟩,I c6]⟩)∧((stL f5 a5 0 [S c4,I c5] fun f6 =>
 y c3 Y X (some a5) c6 f6)∧True))∧True)∧True)))) (br (decide ((((c:Int)):Int)=0)) (R (.returned (.tuple ⟨[L none 0 0,L none 0 0,I 6]⟩)) l) (R (.returned (.tuple ⟨[L h c e,L d b a,I 0]⟩)) l)))))
theorem qwf {g f e d c b a R w} (h:qtc g f e d c b a R w):Calls prog qke ⟨[L g f e,L d c b,S a]⟩ w R:=qe Tryz.func20 (Eq.mpr (by kernel_rfl:fnV _ _ quq _ _ _=_) h)
def q6w:Ann:=T F (T F F)
def q4u (c:Option Addr) (b:Nat) (a:Nat) (R:Ending→World→Prop) (w:World):Prop :=
 Calls prog 69 ⟨[L c b a,.func (.func 70) #[] #[]]⟩ w fun e f =>
 ∃ d,e=.returned (B d)∧(R (.returned (.bool (!d))) f)
theorem q83 {c b a R w} (h:q4u c b a R w):Calls prog qvr ⟨[L c b a]⟩ w R:=qe Tryz.func24 (Eq.mpr (by kernel_rfl:fnV _ _ q6w _ _ _=_) h)
def qpf:Ann:=T F (T (T F (T (T F F) F)) (T F F))
def qn8 (p:List UInt8) (q:Option Addr) (m:Nat) (l:Nat) (R:Ending→World→Prop) (w:World):Prop :=
 al w 45 [S p,L q m l] fun i j =>
 ∃ r,j.cell? (i.add 0)=some (S r)∧(∃ s h g,j.cell? (i.add 1)=some (L s h g)∧Calls prog 42 ⟨[.agg ⟨[S r,L s h g]⟩]⟩ j fun u k =>
 ∃ t,u=.returned (I t)∧br (decide (t≠0)) (R (.returned (.tuple ⟨[L none 0 0,I 1]⟩)) k) (∃ e b a,k.cell? (i.add 1)=some (L e b a)∧Calls prog 62 ⟨[L e b a]⟩ k fun n o =>
 ∃ f d c,n=.returned (L f d c)∧R (.returned (.tuple ⟨[L f d c,I 0]⟩)) o))
theorem qrl {c d b a R w} (h:qn8 c d b a R w):Calls prog qhx ⟨[.agg ⟨[S c,L d b a]⟩]⟩ w R:=qe Tryz.func25 (Eq.mpr (by kernel_rfl:fnV _ _ qpf _ _ _=_) h)
def q20:Ann:=T F (T (T F (T (T F F) F)) (.cut 32304 [] (T F (T (T F F) F)) (T F F)))
def q1u (g:Option Addr) (c:Nat) (b:Nat) (a:Int) (R:Ending→World→Prop) (w:World):Prop :=
 Calls prog 71 ⟨[L g c b]⟩ w fun l f =>
 ∃ k,l=.returned (I k)∧(br (decide (k≠0)) (R (.returned (.tuple ⟨[L none 0 0,I 1]⟩)) f) (∀ (i:World→Prop),(∀  (j:World),(∀ _:Env,(Calls prog 72 ⟨[L g c b,I a]⟩ j fun m n =>
 ∃ h e d,m=.returned (L h e d)∧R (.returned (.tuple ⟨[L h e d,I 0]⟩)) n))→i j)→(br (decide ((a:Int) < 0)) (R (.returned (.tuple ⟨[L none 0 0,I 13]⟩)) f) (br (decide ((8:Int) < a)) (R (.returned (.tuple ⟨[L none 0 0,I 13]⟩)) f) (i f)))))
theorem q6o {d c b a R w} (h:q1u d c b a R w):Calls prog qs6 ⟨[L d c b,I a]⟩ w R:=qe Tryz.func26 (Eq.mpr (by kernel_rfl:fnV _ _ q20 _ _ _=_) h)
def qz8:Ann:=T F (T (.one (T F (T (T F F) (.cut 66584576 [(19,.one (.bool))] F (T (T F F) F))))) (T F (T (T F (T (T F F) F)) (T F (T (T F (T (T F F) F)) (T F F))))))
def qxz (c4:List UInt8) (c5:Option Addr) (b5:Nat) (b4:Nat) (d:List UInt8) (b:Int) (R:Ending→World→Prop) (w:World):Prop :=
 al w 45 [S c4,L c5 b5 b4] fun b2 c7 =>
 al c7 51 [S [],I 0] fun a b3 =>
 ∃ c6,b3.cell? (b2.add 0)=some (S c6)∧(∃ J t s,b3.cell? (b2.add 1)=some (L J t s)∧Calls prog 42 ⟨[.agg ⟨[S c6,L J t s]⟩]⟩ b3 fun b6 k =>
 ∃ K,b6=.returned (I K)∧br (decide (K≠0)) (stL k a 0 [S [],I 0] fun l =>
 ∃ M,l.cell? (a.add 0)=some (S M)∧∃ N,l.cell? (a.add 1)=some (I N)∧R (.returned (.tuple ⟨[L none 0 0,.agg ⟨[S M,I N]⟩,I 1]⟩)) l) (∀ (j:Bool→World→Prop),(∀ (e:Bool) (h:World),(∀ _:Env,(br e (stL h a 0 [S [],I 0] fun m =>
 ∃ O,m.cell? (a.add 0)=some (S O)∧∃ Q,m.cell? (a.add 1)=some (I Q)∧R (.returned (.tuple ⟨[L none 0 0,.agg ⟨[S O,I Q]⟩,I 13]⟩)) m) (∃ T v u,h.cell? (b2.add 1)=some (L T v u)∧Calls prog 26 ⟨[L T v u,I b]⟩ h fun b7 G =>
 ∃ U y x z,b7=.returned (.tuple ⟨[L U y x,I z]⟩)∧br (decide (z≠0)) (stL G a 0 [S [],I 0] fun n =>
 ∃ V,n.cell? (a.add 0)=some (S V)∧∃ W,n.cell? (a.add 1)=some (I W)∧R (.returned (.tuple ⟨[L none 0 0,.agg ⟨[S V,I W]⟩,I z]⟩)) n) (Calls prog 73 ⟨[L U y x,S d]⟩ G fun b8 c1 =>
 ∃ A g f X Y Z,b8=.returned (.tuple ⟨[L A g f,.agg ⟨[S X,I Y]⟩,B Z]⟩)∧al c1 51 [S [],I 0] fun c c2 =>
 stL c2 c 0 [S X,I Y] fun H =>
 br (!Z) (stL H a 0 [S [],I 0] fun o =>
 ∃ a0,o.cell? (a.add 0)=some (S a0)∧∃ a1,o.cell? (a.add 1)=some (I a1)∧R (.returned (.tuple ⟨[L none 0 0,.agg ⟨[S a0,I a1]⟩,I 6]⟩)) o) (drw H fun i =>
 (Calls prog 74 ⟨[L A g f]⟩ i fun b9 p =>
 ∃ a2 D C,b9=.returned (L a2 D C)∧∃ a3,p.cell? (c.add 0)=some (S a3)∧∃ a4,p.cell? (c.add 1)=some (I a4)∧((stL p a 0 [S a3,I a4] fun q =>
 ∃ a5,q.cell? (a.add 0)=some (S a5)∧∃ a6,q.cell? (a.add 1)=some (I a6)∧R (.returned (.tuple ⟨[L a2 D C,.agg ⟨[S a5,I a6]⟩,I 0]⟩)) q)∧True))∧(∃ a7,i.cell? (c.add 0)=some (S a7)∧∃ a8,i.cell? (c.add 1)=some (I a8)∧((Calls prog 74 ⟨[L A g f]⟩ i fun c0 c3 =>
 ∃ a9 F E,c0=.returned (L a9 F E)∧((stL c3 a 0 [S a7,I a8] fun r =>
 ∃ b0,r.cell? (a.add 0)=some (S b0)∧∃ b1,r.cell? (a.add 1)=some (I b1)∧R (.returned (.tuple ⟨[L a9 F E,.agg ⟨[S b0,I b1]⟩,I 0]⟩)) r)∧True))∧True))∧True)))))→j e h)→(br (decide ((b:Int) < 0)) (j true k) (j (decide ((8:Int) < b)) k))))
theorem q15 {e f d c a b R w} (h:qxz e f d c a b R w):Calls prog qnr ⟨[.agg ⟨[S e,L f d c]⟩,S a,I b]⟩ w R:=qe Tryz.func27 (Eq.mpr (by kernel_rfl:fnV _ _ qz8 _ _ _=_) h)
def qb9:Ann:=T F (T F F)
def qb6 (f:Option Addr) (d:Nat) (c:Nat) (e:Fn) (a:Array Value) (b:Array Value) (R:Ending→World→Prop) (w:World):Prop :=
 Calls prog 30 ⟨[L f d c,.func e a b]⟩ w fun h i =>
 ∃ g,h=.returned (I g)∧(R (.returned (.bool (decide ((0:Int)≤g)))) i)
theorem qap {f d c e a b R w} (h:qb6 f d c e a b R w):Calls prog qar ⟨[L f d c,.func e a b]⟩ w R:=qe Tryz.func28 (Eq.mpr (by kernel_rfl:fnV _ _ qb9 _ _ _=_) h)
def an_law16_WitnessDivides_1:Ann:=T F (T F F)
def sh_law16_WitnessDivides_1 (e:Int) (f:List UInt8) (g:Int) (h:Option Addr) (b:Nat) (a:Nat) (R:Ending→World→Prop) (w:World):Prop :=
 al w 56 [I e,S f,I g,L h b a] fun i c =>
 ∃ d,c.cell? (i.add 0)=some (I d)∧(R (.returned (.bool (decide (d=4)))) c)
theorem c_law16_WitnessDivides_1 {c d e f b a R w} (h:sh_law16_WitnessDivides_1 c d e f b a R w):Calls prog F_law16_WitnessDivides_1 ⟨[.agg ⟨[I c,S d,I e,L f b a]⟩]⟩ w R:=qe Tryz.func29 (Eq.mpr (by kernel_rfl:fnV _ _ an_law16_WitnessDivides_1 _ _ _=_) h)
def qcx:Ann:=T F (T (T F (.one (.loop 524080 [(8,.one (.int .i64))] (T F (T (T F F) (T (.one (T F (T F (T (T F F) F)))) F)))))) (T F F))
def qcu (s:Option Addr) (c:Nat) (v:Nat) (q:Fn) (n:Array Value) (o:Array Value) (R:Ending→World→Prop) (w:World):Prop :=
 ∃ (m:Int→World→Nat→Prop),(∃ u,m 0 w u)∧∀ a b r,m a b r→∀ _:Env,(br (decide ((a:Int) < ((c:Int)))) (idx s c a 4 fun f =>
 ∃ t,b.cell? (f.add 0)=some (I t)∧∃ i,b.cell? (f.add 1)=some (S i)∧∃ j,b.cell? (f.add 2)=some (I j)∧∃ k e d,b.cell? (f.add 3)=some (L k e d)∧CallV prog (.func q n o) [.agg ⟨[I t,S i,I j,L k e d]⟩] b fun p h =>
 ∃ l,p=.returned (B l)∧br l (R (.returned (I a)) h) (∃ g,g < r∧m (i64.wrap (a + 1)) h g)) (R (.returned (.int .i64 ((-1)))) b))
theorem qax {f d c e a b R w} (h:qcu f d c e a b R w):Calls prog qad ⟨[L f d c,.func e a b]⟩ w R:=qe Tryz.func30 (Eq.mpr (by kernel_rfl:fnV _ _ qcx _ _ _=_) h)
def an_law16_WitnessDivides_2:Ann:=T F (T F F)
def sh_law16_WitnessDivides_2 (e:Int) (f:List UInt8) (g:Int) (h:Option Addr) (b:Nat) (a:Nat) (R:Ending→World→Prop) (w:World):Prop :=
 al w 56 [I e,S f,I g,L h b a] fun i c =>
 ∃ d,c.cell? (i.add 0)=some (I d)∧(R (.returned (.bool (decide (d=4)))) c)
theorem c_law16_WitnessDivides_2 {c d e f b a R w} (h:sh_law16_WitnessDivides_2 c d e f b a R w):Calls prog F_law16_WitnessDivides_2 ⟨[.agg ⟨[I c,S d,I e,L f b a]⟩]⟩ w R:=qe Tryz.func31 (Eq.mpr (by kernel_rfl:fnV _ _ an_law16_WitnessDivides_2 _ _ _=_) h)
def qr5:Ann:=T F (T F F)
def qqc (e:Option Addr) (b:Nat) (a:Nat) (f:Option Addr) (d:Nat) (c:Nat) (R:Ending→World→Prop) (w:World):Prop :=
 Calls prog 75 ⟨[L e b a,L f d c,.func (.func 76) #[] #[]]⟩ w fun h i =>
 ∃ g,h=.returned (B g)∧(R (.returned (B g)) i)
theorem qub {e b a f d c R w} (h:qqc e b a f d c R w):Calls prog qjd ⟨[L e b a,L f d c]⟩ w R:=qe Tryz.func32 (Eq.mpr (by kernel_rfl:fnV _ _ qr5 _ _ _=_) h)
def qet:Ann:=T F (T (T F (.one (.loop 524080 [(8,.one (.int .i64))] (T F (T (T F F) (T (.one (T F (T F (T (T F F) F)))) F)))))) (T F F))
def qeo (g:Option Addr) (b:Nat) (l:Nat) (h:List UInt8) (R:Ending→World→Prop) (w:World):Prop :=
 ∃ (e:Int→World→Nat→Prop),(∃ j,e 0 w j)∧∀ a c f,e a c f→∀ _:Env,(br (decide ((a:Int) < ((b:Int)))) (idx g b a 1 fun k =>
 ∃ i,c.cell? k=some (S i)∧br (decide ((h:List UInt8)=i)) (R (.returned (I a)) c) (∃ d,d < f∧e (i64.wrap (a + 1)) c d)) (R (.returned (.int .i64 ((-1)))) c))
theorem qbu {c b a d R w} (h:qeo c b a d R w):Calls prog qbw ⟨[L c b a,S d]⟩ w R:=qe Tryz.func33 (Eq.mpr (by kernel_rfl:fnV _ _ qet _ _ _=_) h)
def qdx:Ann:=T F (T F F)
def qdt (c:Option Addr) (b:Nat) (a:Nat) (d:List UInt8) (R:Ending→World→Prop) (w:World):Prop :=
 Calls prog 33 ⟨[L c b a,S d]⟩ w fun f g =>
 ∃ e,f=.returned (I e)∧(R (.returned (.bool (decide ((0:Int)≤e)))) g)
theorem qd5 {c b a d R w} (h:qdt c b a d R w):Calls prog qbd ⟨[L c b a,S d]⟩ w R:=qe Tryz.func34 (Eq.mpr (by kernel_rfl:fnV _ _ qdx _ _ _=_) h)
def quu:Ann:=T F (T F (T (T F (.one (.loop 16773248 [(12,.one (.int .i64))] (T F (T (T F F) (T (.one (T F F)) F)))))) (T F F)))
def qtg (d:List UInt8) (e:Option Addr) (b:Nat) (z:Nat) (R:Ending→World→Prop) (w:World):Prop :=
 al w 45 [S [],L none 0 0] fun A J =>
 al J 45 [S [],L none 0 0] fun f K =>
 stL K f 0 [S d,L none 0 0] fun M =>
 ∃ (v:Int→World→Nat→Prop),(∃ C,v 0 M C)∧∀ a c n,v a c n→∀ _:Env,(br (decide ((a:Int) < ((b:Int)))) (idx e b a 1 fun D =>
 ∃ p,c.cell? D=some (S p)∧∃ q i h,c.cell? (f.add 1)=some (L q i h)∧al c 56 [I 4,S p,I 0,L none 0 0] fun E F =>
 app prog [43,43] 43 (L q i h) (.slice (some E) 1 1) F fun B y x G =>
 stL G (f.add 1) 0 [L B y x] fun H =>
 ∃ o,o < n∧v (i64.wrap (a + 1)) H o) (∃ r,c.cell? (f.add 0)=some (S r)∧∃ s k j,c.cell? (f.add 1)=some (L s k j)∧stL c A 0 [S r,L s k j] fun g =>
 ∃ t,g.cell? (A.add 0)=some (S t)∧∃ u m l,g.cell? (A.add 1)=some (L u m l)∧R (.returned (.agg ⟨[S t,L u m l]⟩)) g))
theorem qwj {c d b a R w} (h:qtg c d b a R w):Calls prog qkh ⟨[S c,L d b a]⟩ w R:=qe Tryz.func35 (Eq.mpr (by kernel_rfl:fnV _ _ quu _ _ _=_) h)
def qpo:Ann:=T F (.cut 4178112 [(6,.one (.slice)),(7,.one (.int .i64))] (T F (T (T F F) F)) (.cut 1069547712 [(6,.one (.slice)),(7,.one (.int .i64))] (T F (T (T F F) F)) (T (T F (T (T F F) F)) (T F (T F (T (T F (T (T F F) F)) (T F (T (T F (.one (.rf [2,6,7,12,50] 0))) (T F (.cut 18410715276690587840 [] (T F (T (T F F) F)) (T F F)))))))))))
def qoh (s:List UInt8) (t:Int) (n:Option Addr) (j:Nat) (i:Nat) (d:Option Addr) (c:Nat) (b:Nat) (R:Ending→World→Prop) (w:World):Prop :=
 al w 51 [S s,I t] fun v f9 =>
 ∀ (d1:Option Addr→Nat→Nat→Int→World→Prop),(∀ (x:Option Addr) (p:Nat) (o:Nat) (y:Int) (h:World),(∀ _:Env,(∀ (Z:Option Addr→Nat→Nat→Int→World→Prop),(∀ (k:Option Addr) (g:Nat) (f:Nat) (l:Int) (z:World),(∀ _:Env,(∃ a8,z.cell? (v.add 0)=some (S a8)∧Calls prog 78 ⟨[S a8]⟩ z fun d2 a2 =>
 ∃ a9,d2=.returned (B a9)∧br (!a9) (R (.returned (.tuple ⟨[L none 0 0,I 14]⟩)) a2) (Calls prog 79 ⟨[L n j i,I 8]⟩ a2 fun d3 e4 =>
 ∃ b0 f5,d3=.returned (.tuple ⟨[I b0,I f5]⟩)∧Calls prog 79 ⟨[L n j i,I 9]⟩ e4 fun d4 a3 =>
 ∃ b1 f6,d4=.returned (.tuple ⟨[I b1,I f6]⟩)∧br (decide ((0:Int) < (i64.wrap (b0 + b1)))) (R (.returned (.tuple ⟨[L none 0 0,I 13]⟩)) a3) (al a3 118 [L none 0 0,.pointer none,L none 0 0,B false,B false,B false] fun e A =>
 ∃ b2,A.cell? (v.add 0)=some (S b2)∧∃ b3,A.cell? (v.add 1)=some (I b3)∧Calls prog 80 ⟨[.agg ⟨[S b2,I b3]⟩,L n j i]⟩ A fun d5 e5 =>
 ∃ b4 E F,d5=.returned (.func b4 E F)∧∀ u:Env,RFw prog none 70 (cdAt Tryz.f36 [1,1,1,1,1,1,1,1,0,1,2]) (upd (upd (upd (upd (upd u 50 (.func b4 E F)) 12 (.pointer (some e))) 7 (I l)) 6 (L k g f)) 2 (L d c b)) [] e5 0 (fun a m =>
 Calls prog 82 ⟨[.pointer (some e)]⟩ m fun d9 r =>
 d9=.returned (.tuple ⟨[]⟩)∧∀ (a1:World→Prop),(∀  (D:World),(∀ _:Env,(∃ c0 T Q,D.cell? (e.add 0)=some (L c0 T Q)∧Calls prog 85 ⟨[L d c b,L c0 T Q]⟩ D fun e0 f0 =>
 ∃ c1 V U c2,e0=.returned (.tuple ⟨[L c1 V U,I c2]⟩)∧retD a f0 fun f1 =>
 R (.returned (.tuple ⟨[L c1 V U,I c2]⟩)) f1))→a1 D)→(∃ f8 W d0,r.cell? (e.add 0)=some (L f8 W d0)∧br (decide ((1024:Int) < (W))) (retD a r fun f2 =>
 R (.returned (.tuple ⟨[L none 0 0,I 4]⟩)) f2) (∃ c3 Y X,r.cell? (e.add 0)=some (L c3 Y X)∧Calls prog 83 ⟨[L c3 Y X,.func (.func 84) #[] #[]]⟩ r fun e1 a5 =>
 ∃ c4,e1=.returned (B c4)∧br c4 (retD a a5 fun f3 =>
 R (.returned (.tuple ⟨[L none 0 0,I 4]⟩)) f3) (a1 a5)))) (fun a m =>
 retD a m fun f4 =>
 R (.returned (.tuple ⟨[L k g f,I l]⟩)) f4) (fun a m =>
 Calls prog 82 ⟨[.pointer (some e)]⟩ m fun d6 q =>
 d6=.returned (.tuple ⟨[]⟩)∧∀ (a0:World→Prop),(∀  (C:World),(∀ _:Env,(∃ b5 H G,C.cell? (e.add 0)=some (L b5 H G)∧Calls prog 85 ⟨[L d c b,L b5 H G]⟩ C fun d7 e6 =>
 ∃ b6 K J b7,d7=.returned (.tuple ⟨[L b6 K J,I b7]⟩)∧retD a e6 fun e7 =>
 R (.returned (.tuple ⟨[L b6 K J,I b7]⟩)) e7))→a0 C)→(∃ f7 M c9,q.cell? (e.add 0)=some (L f7 M c9)∧br (decide ((1024:Int) < (M))) (retD a q fun e8 =>
 R (.returned (.tuple ⟨[L none 0 0,I 4]⟩)) e8) (∃ b8 O N,q.cell? (e.add 0)=some (L b8 O N)∧Calls prog 83 ⟨[L b8 O N,.func (.func 84) #[] #[]]⟩ q fun d8 a4 =>
 ∃ b9,d8=.returned (B b9)∧br b9 (retD a a4 fun e9 =>
 R (.returned (.tuple ⟨[L none 0 0,I 4]⟩)) e9) (a0 a4))))))))→Z k g f l z)→(∃ c5,h.cell? (v.add 1)=some (I c5)∧br (decide (c5 < 0)) (R (.returned (.tuple ⟨[L none 0 0,I 2]⟩)) h) (∃ c6,h.cell? (v.add 1)=some (I c6)∧br (decide ((4096:Int) < c6)) (R (.returned (.tuple ⟨[L none 0 0,I 2]⟩)) h) (Z x p o y h)))))→d1 x p o y h)→(Calls prog 71 ⟨[L n j i]⟩ f9 fun e2 a6 =>
 ∃ c7,e2=.returned (I c7)∧br (decide (c7≠0)) (R (.returned (.tuple ⟨[L none 0 0,I 1]⟩)) a6) (Calls prog 77 ⟨[L d c b]⟩ a6 fun e3 a7 =>
 ∃ c8,e3=.returned (I c8)∧br (decide (c8≠0)) (R (.returned (.tuple ⟨[L none 0 0,I 1]⟩)) a7) (d1 none 0 0 0 a7)))
theorem qrt {d e i g f c b a R w} (h:qoh d e i g f c b a R w):Calls prog qh5 ⟨[.agg ⟨[S d,I e]⟩,L i g f,L c b a]⟩ w R:=qe Tryz.func36 (Eq.mpr (by kernel_rfl:fnV _ _ qpo _ _ _=_) h)
def qe8:Ann:=F
def qe4:Ann:=.one F
def qk9 (x:Option Addr) (o:Nat) (n:Nat) (G:Option Addr) (E:Nat) (D:Nat) (H:Int) (u:Option Addr) (C:Fn) (z:Array Value) (A:Array Value) (c:Int) (d:Int) (e:Int) (f:List UInt8) (g:Int) (h:Bool) (i:List UInt8) (l:Nat) (Kn Kr Kx:World→World→Prop) (w:World):Prop :=
 al w 123 [I 0,.int .u8 0,I 0,S [],I 0,B false,S []] fun b F =>
 stL F b 0 [I c,.int .u8 d,I e,S f,I g,B h,S i] fun p =>
 Ext w p∧∀ a:World,Upd l p a→(∃ q,a.cell? (b.add 0)=some (I q)∧∃ r,a.cell? (b.add 1)=some (.int .u8 r)∧∃ s,a.cell? (b.add 2)=some (I s)∧∃ t,a.cell? (b.add 3)=some (S t)∧∃ j,a.cell? (b.add 4)=some (I j)∧∃ k,a.cell? (b.add 5)=some (B k)∧∃ m,a.cell? (b.add 6)=some (S m)∧Calls prog 81 ⟨[.pointer u,.agg ⟨[I q,.int .u8 r,I s,S t,I j,B k,S m]⟩]⟩ a fun v y =>
 v=.returned (.tuple ⟨[]⟩)∧(Kn a y))
theorem qll (base:Env) (c:Option Addr) (b:Nat) (a:Nat) (q:Option Addr) (p:Nat) (o:Nat) (r:Int) (s:Option Addr) (f:Fn) (d:Array Value) (e:Array Value) (g:Int) (h:Int) (i:Int) (j:List UInt8) (k:Int) (m:Bool) (n:List UInt8) (l:Nat) (Kn Kr Kx:World→World→Prop) (w:World):fragV prog 70 qe8 qe4 (cdAt Tryz.f36 [1,1,1,1,1,1,1,1,0,1,2,5]) (cdAt Tryz.f36 [1,1,1,1,1,1,1,1,0,1,2,6]) l 0 Kn Kr Kx (updPs [51] [.agg ⟨[I g,.int .u8 h,I i,S j,I k,B m,S n]⟩] (upd (upd (upd (upd (upd base 50 (.func f d e)) 12 (.pointer s)) 7 (I r)) 6 (L q p o)) 2 (L c b a))) w=qk9 c b a q p o r s f d e g h i j k m n l Kn Kr Kx w:=by kernel_rfl
theorem qlt:cdAt Tryz.f36 [1,1,1,1,1,1,1,1,0,1,2]=.rangeFunc (Operand.tmp 50) #[51] (cdAt Tryz.f36 [1,1,1,1,1,1,1,1,0,1,2,5]) (cdAt Tryz.f36 [1,1,1,1,1,1,1,1,0,1,2,6]):=by kernel_rfl
end Go.Proofs
