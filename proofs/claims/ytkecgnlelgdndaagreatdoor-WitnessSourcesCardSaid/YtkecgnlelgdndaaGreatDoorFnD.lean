/- A part of the proof. -/
import Derived.Test.YtkecgnlelgdndaaGreatDoorFn
set_option linter.all false
set_option maxRecDepth 100000
namespace Go.Proofs
open Go Go.Sh Go.Proofs.Tryz IntKind
def qjz:Ann:=T F (T (T F (.one (.loop 9903520314283042199192987552 [(13,.one (.int .i64))] (T F (T (T F F) (T (.one (T F (.cut 8257536 [] F (T F (.one (T F (T F (T F (T F (T F (T (T F (.one (.loop 19340451930592631972692256 [(71,.one (.int .i64))] (T F (T (T F F) (T (.one (T F (T F (T F (T (T F F) F))))) F)))))) (.cut 290142196707511001929482240 [(84,.one (.bool))] (T F (T F (T F (T F F)))) (T (T F (T (T F F) F)) (T F (.cut 17112760320 [] F (.cut 1082331758592 [] (T F (T F F)) (T F (T F (T F (T (T F F) F)))))))))))))))))))) F)))))) (T F F))
def qjs (i5:OA) (H:Nat) (k3:Nat) (a:OA) (Q:OA) (h1:OA) (R:EP) (w:World):Prop :=
 ∃ (n:Int→World→Nat→Prop),(∃ k4,n 0 w k4)∧∀ c t p,n c t p→∀ _:Env,(br (decide ((c:Int) < ((H:Int)))) (idx i5 H c 4 fun x =>
 ∃ c5,ce t x 0 (I c5)∧∃ c6,ce t x 1 (S c6)∧∃ c7,ce t x 2 (I c7)∧∃ c8 a7 a6,ce t x 3 (L c8 a7 a6)∧al t 56 [I 0,S [],I 0,L none 0 0] fun d j6 =>
 stL j6 d 0 [I c5,S c6,I c7,L c8 a7 a6] fun j7 =>
 ∀ (u:WP),(∀ (e:World),(∀ _:Env,(∃ h,ce e d 0 (I h)∧br (decide (h=2)) (dr a fun i7 =>
 ∃ c9,e.cell? ((i7.add 3).add 1)=some (I c9)∧dr a fun i8 =>
 stL e ((i8.add 3).add 1) 0 [.int .i64 (i64.wrap (c9 + 1))] fun j8 =>
 ∃ b6,b6 < p∧n (i64.wrap (c + 1)) j8 b6) (br (decide (h=3)) (∃ d0,ce e d 1 (S d0)∧dr a fun i9 =>
 stL e (i9.add 3) 0 [S d0,I 0] fun j9 =>
 ∃ b7,b7 < p∧n (i64.wrap (c + 1)) j9 b7) (br (decide (h=1)) (∃ d1,ce e d 1 (S d1)∧∃ (E:Int→World→Nat→Prop),(∃ i6,E 0 e i6)∧∀ f y b8,E f y b8→∀ _:Env,(br (decide ((f:Int) < ((List.length d1:Int)))) (∃ d2,ce y d 1 (S d2)∧(sidx d2 f fun i1 =>
 dr a fun j0 =>
 stL y (j0.add 1) 0 [.int .u8 ((i1.toNat:Int))] fun g =>
 dr Q fun j1 =>
 ∃ d3 a8 a9,cf g j1 (.func d3 a8 a9)∧dr a fun j =>
 ∃ d4,ce g j 0 (I d4)∧∃ d5,ce g j 1 (.int .u8 d5)∧∃ d6,ce g j 2 (I d6)∧∃ d7,ce g j 3 (S d7)∧∃ d8,ce g j 4 (I d8)∧∃ d9,ce g j 5 (B d9)∧∃ e0,ce g j 6 (S e0)∧CallV prog (.func d3 a8 a9) [.agg ⟨[I d4,.int .u8 d5,I d6,S d7,I d8,B d9,S e0]⟩] g fun i2 c2 =>
 ∃ e1,rB i2 e1∧br (!e1) (R (rt (B false)) c2) (∃ b9,b9 < b8∧E (i64.wrap (f + 1)) c2 b9))) (∃ c0,c0 < p∧n (i64.wrap (c + 1)) y c0))) (∀ (v:Bool→World→Prop),(∀ (r:Bool) (b:World),(∀ _:Env,(br r (dr Q fun j2 =>
 ∃ e2 b0 b1,cf b j2 (.func e2 b0 b1)∧dr a fun k =>
 ∃ e3,ce b k 0 (I e3)∧∃ e4,ce b k 1 (.int .u8 e4)∧∃ e5,ce b k 2 (I e5)∧∃ e6,ce b k 3 (S e6)∧∃ e7,ce b k 4 (I e7)∧∃ e8,ce b k 5 (B e8)∧∃ e9,ce b k 6 (S e9)∧CallV prog (.func e2 b0 b1) [.agg ⟨[I e3,.int .u8 e4,I e5,S e6,I e7,B e8,S e9]⟩] b fun i3 c3 =>
 ∃ f0,rB i3 f0∧br (!f0) (R (rt (B false)) c3) (∃ c1,c1 < p∧n (i64.wrap (c + 1)) c3 c1)) (dr a fun l =>
 ∃ f1,ce b l 0 (I f1)∧∃ f2,ce b l 1 (.int .u8 f2)∧∃ f3,ce b l 2 (I f3)∧∃ f4,ce b l 3 (S f4)∧∃ f5,ce b l 4 (I f5)∧∃ f6,ce b l 5 (B f6)∧∃ f7,ce b l 6 (S f7)∧al b 123 [I 0,.int .u8 0,I 0,S [],I 0,B false,S []] fun q k0 =>
 stL k0 q 0 [I f1,.int .u8 f2,I f3,S f4,I f5,B f6,S f7] fun z =>
 ∀ (F:WP),(∀ (s:World),(∀ _:Env,(∀ (G:WP),(∀ (A:World),(∀ _:Env,(dr h1 fun j3 =>
 ∃ f8 b2 b3,cf A j3 (.func f8 b2 b3)∧∃ f9 b5 b4,ce A d 3 (L f9 b5 b4)∧CallV prog (.func f8 b2 b3) [L f9 b5 b4] A fun i4 k1 =>
 ∃ C,rB i4 C∧drw k1 fun m =>
 ∃ D,ce m q 5 (B D)∧((∃ g0,ce m q 6 (S g0)∧dr a fun j4 =>
 (stL m (j4.add 5) 0 [B D] fun k2 =>
 dr a fun j5 =>
 (stL k2 (j5.add 6) 0 [S g0] fun c4 =>
 br (!C) (R (rt (B false)) c4) (∃ J,J < p∧n (i64.wrap (c + 1)) c4 J))∧True)∧True)∧(dr a fun N =>
 (∃ X,ce m q 6 (S X)∧((stL m (N.add 5) 0 [B D] fun h2 =>
 dr a fun g1 =>
 (stL h2 (g1.add 6) 0 [S X] fun T =>
 br (!C) (R (rt (B false)) T) (∃ K,K < p∧n (i64.wrap (c + 1)) T K))∧True)∧True))∧(stL m (N.add 5) 0 [B D] fun U =>
 ∃ Y,ce U q 6 (S Y)∧dr a fun g2 =>
 (stL U (g2.add 6) 0 [S Y] fun V =>
 br (!C) (R (rt (B false)) V) (∃ M,M < p∧n (i64.wrap (c + 1)) V M))∧True)∧True)∧True)))→G A)→(∃ Z,ce s d 0 (I Z)∧br (decide (Z=11)) (∃ a0,ce s d 1 (S a0)∧dr a fun g3 =>
 stL s (g3.add 6) 0 [S a0] fun h3 =>
 G h3) (G s))))→F s)→(dr a fun g4 =>
 ∃ a1,ce z g4 5 (B a1)∧br a1 (dr a fun g5 =>
 stL z (g5.add 5) 0 [B true] fun h4 =>
 F h4) (∃ a2,ce z d 0 (I a2)∧dr a fun g6 =>
 stL z (g6.add 5) 0 [.bool (decide (a2=7))] fun h5 =>
 F h5)))))→v r b)→(br (decide (h=6)) (v (decide (h=6)) e) (br (decide (h=5)) (v (decide (h=5)) e) (v (decide (h=4)) e))))))))→u e)→(drw j7 fun i =>
 ∃ o,ce i d 0 (I o)∧((∃ a3,ce i d 2 (I a3)∧dr a fun g7 =>
 (stL i (g7.add 0) 0 [I o] fun h6 =>
 dr a fun g8 =>
 (stL h6 (g8.add 2) 0 [I a3] fun h7 =>
 u h7)∧True)∧True)∧(dr a fun O =>
 (∃ a4,ce i d 2 (I a4)∧((stL i (O.add 0) 0 [I o] fun h8 =>
 dr a fun g9 =>
 (stL h8 (g9.add 2) 0 [I a4] fun h9 =>
 u h9)∧True)∧True))∧(stL i (O.add 0) 0 [I o] fun W =>
 ∃ a5,ce W d 2 (I a5)∧dr a fun h0 =>
 (stL W (h0.add 2) 0 [I a5] fun i0 =>
 u i0)∧True)∧True)∧True))) (R (rt (B true)) t))
theorem qk4 {f b a c d e R w} (h:qjs f b a c d e R w):Calls prog qe5 ⟨[L f b a,.pointer c,.pointer d,.pointer e]⟩ w R:=qc Tryz.func128 (Eq.mpr (by kernel_rfl:fnV _ _ qjz _ _ _=_) h)
def qhi:Ann:=T F (T F (.cut 112 [(4,.one (.int .i64))] (T F (T F F)) (.one (.cut 4290772992 [(22,.one (.bool))] F (T (T F F) (T F (T (T F (T F F)) (T F (T (T F F) (T F (T F F)))))))))))
def qhe (a:OA) (g5:Int) (g6:Int) (g7:Int) (g8:LU) (g9:Int) (h0:Bool) (h1:LU) (R:EP) (w:World):Prop :=
 al w 123 [I g5,.int .u8 g6,I g7,S g8,I g9,B h0,S h1] fun b l =>
 ∀ (j:Int→World→Prop),(∀ (c:Int) (g:World),(∀ _:Env,(∀ (k:Bool→World→Prop),(∀ (f:Bool) (i:World),(∀ _:Env,(br f (Cp 131 [.pointer a] i fun c4 y =>
 ∃ u,rV c4 (.pointer u)∧dr u fun d6 =>
 ∃ J,ce y d6 4 (I J)∧dr u fun d7 =>
 stL y (d7.add 4) 0 [.int .i64 (bitO .i64 J c)] fun f1 =>
 drw f1 fun z =>
 dr a fun d8 =>
 ∃ K,ce z b 1 (.int .u8 K)∧((Cp 182 [.pointer (some (d8.add 1)),.int .u8 K] z fun c5 f2 =>
 ∃ g3,rV c5 (g3)∧R (rt (.tuple ⟨[]⟩)) f2)∧True)) (∃ L,ce i b 1 (.int .u8 L)∧Cp 183 [.int .u8 L] i fun c6 d =>
 ∃ M,rB c6 M∧br M (∃ N,ce d b 0 (I N)∧∃ O,ce d b 1 (.int .u8 O)∧∃ Q,ce d b 2 (I Q)∧∃ T,ce d b 3 (S T)∧∃ U,ce d b 4 (I U)∧∃ V,ce d b 5 (B V)∧∃ W,ce d b 6 (S W)∧Cp 130 [.pointer a,.agg ⟨[I N,.int .u8 O,I Q,S T,I U,B V,S W]⟩,I c] d fun c7 f3 =>
 c7=.returned (.tuple ⟨[]⟩)∧dr a fun d9 =>
 stL f3 (d9.add 3) 0 [B true] fun f4 =>
 drw f4 fun A =>
 dr a fun e0 =>
 ∃ X,ce A b 1 (.int .u8 X)∧((Cp 182 [.pointer (some (e0.add 1)),.int .u8 X] A fun c8 f5 =>
 ∃ g4,rV c8 (g4)∧R (rt (.tuple ⟨[]⟩)) f5)∧True)) (∃ Y,ce d b 1 (.int .u8 Y)∧Cp 184 [.int .u8 Y] d fun c9 C =>
 ∃ Z,rI c9 Z∧br (decide (Z=6)) (Cp 82 [.pointer a] C fun d0 f6 =>
 d0=.returned (.tuple ⟨[]⟩)∧dr a fun e1 =>
 stL f6 (e1.add 4) 0 [B false] fun f7 =>
 R (rt (.tuple ⟨[]⟩)) f7) (Cp 82 [.pointer a] C fun d1 e =>
 d1=.returned (.tuple ⟨[]⟩)∧∃ a0,ce e b 0 (I a0)∧∃ a1,ce e b 1 (.int .u8 a1)∧∃ a2,ce e b 2 (I a2)∧∃ a3,ce e b 3 (S a3)∧∃ a4,ce e b 4 (I a4)∧∃ a5,ce e b 5 (B a5)∧∃ a6,ce e b 6 (S a6)∧Cp 130 [.pointer a,.agg ⟨[I a0,.int .u8 a1,I a2,S a3,I a4,B a5,S a6]⟩,.int .i64 (bitO .i64 c 8)] e fun d2 f8 =>
 d2=.returned (.tuple ⟨[]⟩)∧drw f8 fun h =>
 (Cp 131 [.pointer a] h fun d3 D =>
 ∃ a7,rV d3 (.pointer a7)∧∃ a8,ce D b 1 (.int .u8 a8)∧((al D 5 [.int .u8 a8] fun e2 E =>
 (b2s prog E (some e2) 1 1 fun e8 =>
 dr a7 fun e3 =>
 (stL E (e3.add 0) 0 [S e8] fun f9 =>
 R (rt (.tuple ⟨[]⟩)) f9)∧True)∧True)∧True))∧((Cp 131 [.pointer a] h fun d4 F =>
 ∃ a9,rV d4 (.pointer a9)∧∃ b0,ce F b 1 (.int .u8 b0)∧((al F 5 [.int .u8 b0] fun e4 G =>
 (b2s prog G (some e4) 1 1 fun e9 =>
 dr a9 fun e5 =>
 (stL G (e5.add 0) 0 [S e9] fun g0 =>
 R (rt (.tuple ⟨[]⟩)) g0)∧True)∧True)∧True))∧(∃ v,ce h b 1 (.int .u8 v)∧((Cp 131 [.pointer a] h fun d5 g1 =>
 ∃ b1,rV d5 (.pointer b1)∧((al g1 5 [.int .u8 v] fun e6 H =>
 (b2s prog H (some e6) 1 1 fun f0 =>
 dr b1 fun e7 =>
 (stL H (e7.add 0) 0 [S f0] fun g2 =>
 R (rt (.tuple ⟨[]⟩)) g2)∧True)∧True)∧True))∧(al h 5 [.int .u8 v] fun x n =>
 (Cp 131 [.pointer a] n fun b2 m =>
 ∃ o,rV b2 (.pointer o)∧((b2s prog m (some x) 1 1 fun b8 =>
 dr o fun b5 =>
 (stL m (b5.add 0) 0 [S b8] fun c0 =>
 R (rt (.tuple ⟨[]⟩)) c0)∧True)∧True))∧(b2s prog n (some x) 1 1 fun b9 =>
 (Cp 131 [.pointer a] n fun b3 c1 =>
 ∃ p,rV b3 (.pointer p)∧dr p fun b6 =>
 (stL c1 (b6.add 0) 0 [S b9] fun c2 =>
 R (rt (.tuple ⟨[]⟩)) c2)∧True)∧True)∧True)∧True))∧True)∧True)))))→k f i)→(dr a fun b7 =>
 ∃ q,ce g b7 3 (B q)∧br q (∃ r,ce g b 1 (.int .u8 r)∧Cp 181 [.int .u8 r] g fun b4 c3 =>
 ∃ s,rB b4 s∧(k s c3)) (k false g))))→j c g)→(∃ t,ce l b 5 (B t)∧br t (j 1 l) (j 0 l))
theorem qh0 {a b c d e f g i R w} (h:qhe a b c d e f g i R w):Calls prog qc9 ⟨[.pointer a,.agg ⟨[I b,.int .u8 c,I d,S e,I f,B g,S i]⟩]⟩ w R:=qc Tryz.func129 (Eq.mpr (by kernel_rfl:fnV _ _ qhi _ _ _=_) h)
def qgi:Ann:=T F (.cut 1048516 [(2,.one (.int .i64))] (T F (T F F)) (.cut 66060292 [(2,.one (.int .i64))] (T F (T F F)) (T F F)))
def qgh (c:OA) (T:Int) (U:Int) (V:Int) (W:LU) (X:Int) (Y:Bool) (Z:LU) (b:Int) (R:EP) (w:World):Prop :=
 al w 123 [I T,.int .u8 U,I V,S W,I X,B Y,S Z] fun j e =>
 ∀ (g:Int→World→Prop),(∀ (a:Int) (h:World),(∀ _:Env,(∀ (i:Int→World→Prop),(∀ (d:Int) (n:World),(∀ _:Env,(drw n fun f =>
 dr c fun z =>
 ∃ o l k,ce f z 0 (L o l k)∧∃ p,f.cell? ((j.add 3).add 0)=some (S p)∧∃ q,f.cell? ((j.add 3).add 1)=some (I q)∧∃ r,ce f j 6 (S r)∧((al f 69 [S [],S [],S p,I q,I d,S r] fun A J =>
 (app prog [40,40] 40 (L o l k) (.slice (some A) 1 1) J fun y v u K =>
 dr c fun C =>
 (stL K (C.add 0) 0 [L y v u] fun M =>
 dr c fun D =>
 stL M (D.add 4) 0 [B true] fun N =>
 dr c fun E =>
 stL N (E.add 5) 0 [B false] fun O =>
 R (rt (.tuple ⟨[]⟩)) O)∧True)∧True)∧True)))→i d n)→(dr c fun F =>
 ∃ s,ce h F 5 (B s)∧br s (i (bitO .i64 a 4) h) (i a h))))→g a h)→(dr c fun G =>
 ∃ t,ce e G 4 (B t)∧br t (dr c fun H =>
 ∃ Q m x,ce e H 0 (L Q m x)∧br (decide ((0:Int) < (m))) (g (bitO .i64 b 16) e) (g b e)) (g b e))
theorem qhh {b c d e f g i j a R w} (h:qgh b c d e f g i j a R w):Calls prog qcu ⟨[.pointer b,.agg ⟨[I c,.int .u8 d,I e,S f,I g,B i,S j]⟩,I a]⟩ w R:=qc Tryz.func130 (Eq.mpr (by kernel_rfl:fnV _ _ qgi _ _ _=_) h)
def qhj:Ann:=T F (T F F)
def qcp (a:OA) (R:EP) (w:World):Prop :=
 drw w fun d =>
 dr a fun h =>
 ∃ e b f,ce d h 0 (L e b f)∧(dr a fun i =>
 ∃ k c g,ce d i 0 (L k c g)∧idx e b (i64.wrap ((c) - 1)) 6 fun j =>
 R (rt (.pointer (some j))) d)
theorem qh1 {a R w} (h:qcp a R w):Calls prog qda ⟨[.pointer a]⟩ w R:=qc Tryz.func131 (Eq.mpr (by kernel_rfl:fnV _ _ qhj _ _ _=_) h)
def qh5:Ann:=T F F
def qhs (a:OA) (R:EP) (w:World):Prop :=
 dr a fun b =>
 stL w (b.add 0) 0 [.pointer none] fun d =>
 dr a fun c =>
 stL d (c.add 1) 0 [L none 0 0] fun e =>
 R (rt (.tuple ⟨[]⟩)) e
theorem qi4 {a R w} (h:qhs a R w):Calls prog qdv ⟨[.pointer a]⟩ w R:=qc Tryz.func133 (Eq.mpr (by kernel_rfl:fnV _ _ qh5 _ _ _=_) h)
def qb3:Ann:=T F (T (T F (.one (.loop 524080 [(8,.one (.int .i64))] (T F (T (T F F) (T (.one (T F (T F (T (T F F) F)))) F)))))) (T F F))
def qb1 (s:OA) (d:Nat) (v:Nat) (q:Fn) (n:Array Value) (o:Array Value) (R:EP) (w:World):Prop :=
 ∃ (m:Int→World→Nat→Prop),(∃ u,m 0 w u)∧∀ a b r,m a b r→∀ _:Env,(br (decide ((a:Int) < ((d:Int)))) (idx s d a 6 fun c =>
 ∃ t,ce b c 0 (S t)∧∃ g,ce b c 1 (S g)∧∃ h,ce b c 2 (S h)∧∃ i,ce b c 3 (I i)∧∃ j,ce b c 4 (I j)∧∃ k,ce b c 5 (S k)∧CallV prog (.func q n o) [.agg ⟨[S t,S g,S h,I i,I j,S k]⟩] b fun p f =>
 ∃ l,rB p l∧br l (R (rt (I a)) f) (∃ e,e < r∧m (i64.wrap (a + 1)) f e)) (R (rt (.int .i64 ((-1)))) b))
theorem qb9 {f d c e a b R w} (h:qb1 f d c e a b R w):Calls prog qca ⟨[L f d c,.func e a b]⟩ w R:=qc Tryz.func134 (Eq.mpr (by kernel_rfl:fnV _ _ qb3 _ _ _=_) h)
def qpj:Ann:=T F (T F F)
def qn9 (a:LU) (b:LU) (c:LU) (d:Int) (e:Int) (f:LU) (R:EP) (w:World):Prop :=
 al w 69 [S a,S b,S c,I d,I e,S f] fun i g =>
 ∃ h,ce g i 4 (I h)∧(R (rt (.bool (decide (((bitA .i64 h 10):Int)=0)))) g)
theorem qrn {a b c d e f R w} (h:qn9 a b c d e f R w):Calls prog qg5 ⟨[.agg ⟨[S a,S b,S c,I d,I e,S f]⟩]⟩ w R:=qc Tryz.func135 (Eq.mpr (by kernel_rfl:fnV _ _ qpj _ _ _=_) h)
def qj1:Ann:=T F (T F (T (T F (T (T F F) F)) (T F F)))
def qju (c:OA) (b:Nat) (a:Nat) (g:LU) (R:EP) (w:World):Prop :=
 Cp 185 [L c b a,S g] w fun k e =>
 ∃ h d i f,rV k (.tuple ⟨[L h d i,I f]⟩)∧(br (decide (f≠0)) (R (rt (.tuple ⟨[S [],I f]⟩)) e) (idx h d (i64.wrap ((d) - 1)) 1 fun l =>
 ∃ j,cf e l (S j)∧R (rt (.tuple ⟨[S j,I 0]⟩)) e))
theorem qk6 {c b a d R w} (h:qju c b a d R w):Calls prog qe6 ⟨[L c b a,S d]⟩ w R:=qc Tryz.func136 (Eq.mpr (by kernel_rfl:fnV _ _ qj1 _ _ _=_) h)
def q34:Ann:=T F (T (T F (T (T F F) F)) (T (T F (T (T F F) F)) (T F F)))
def q2j (f:OA) (e:Nat) (d:Nat) (a:Int) (b:Int) (R:EP) (w:World):Prop :=
 Cp 94 [L f e d] w fun h c =>
 ∃ g,rI h g∧(br (decide (g≠0)) (R (rt (I 1)) c) (br (decide ((a:Int) < b)) (R (rt (I 13)) c) (br (decide ((8:Int) < a)) (R (rt (I 13)) c) (R (rt (I 0)) c))))
theorem q8c {e d c b a R w} (h:q2j e d c b a R w):Calls prog qs3 ⟨[L e d c,I b,I a]⟩ w R:=qc Tryz.func137 (Eq.mpr (by kernel_rfl:fnV _ _ q34 _ _ _=_) h)
def q4a:Ann:=T F (T F (T (T F (.one (.loop 1180591620717411303288 [(3,.one (.slice)),(4,.one (.int .i64))] (T (T F (T F F)) (T (.one (T F (.cut 66846720 [] (T F (T F F)) (.cut 17112760320 [] (T F (T F F)) (T (T F (.cut 4503530907893760 [(51,.one (.bool))] F (T (T F F) F))) F))))) F))))) (T F F)))
def q2p (a6:OA) (q:Nat) (b9:Nat) (R:EP) (w:World):Prop :=
 al w 56 [] fun c1 c2 =>
 ∃ (n:OA→Nat→Nat→Int→World→Nat→Prop),(∃ c0,n (some c1) 0 0 0 c2 c0)∧∀ b a d f k C,n b a d f k C→∀ _:Env,(br (decide ((f:Int) < ((q:Int)))) (idx a6 q f 4 fun m =>
 ∃ G,ce k m 0 (I G)∧∃ H,ce k m 1 (S H)∧∃ J,ce k m 2 (I J)∧∃ K t s,ce k m 3 (L K t s)∧al k 56 [I 0,S [],I 0,L none 0 0] fun c b2 =>
 stL b2 c 0 [I G,S H,I J,L K t s] fun i =>
 ∀ (o:WP),(∀ (j:World),(∀ _:Env,(∀ (p:WP),(∀ (g:World),(∀ _:Env,(∀ (l:Bool→World→Prop),(∀ (h:Bool) (e:World),(∀ _:Env,(br h (drw e fun r =>
 idx b a (i64.wrap (((a:Int)) - 1)) 4 fun a7 =>
 ∃ M,ce r a7 1 (S M)∧∃ N,ce r c 1 (S N)∧(sadd M N fun b1 =>
 idx b a (i64.wrap (((a:Int)) - 1)) 4 fun a8 =>
 (stL r (a8.add 1) 0 [S b1] fun b3 =>
 ∃ D,D < C∧n b a d (i64.wrap (f + 1)) b3 D)∧True)) (∃ O,ce e c 0 (I O)∧∃ Q,ce e c 1 (S Q)∧∃ T,ce e c 2 (I T)∧∃ U v u,ce e c 3 (L U v u)∧al e 56 [I O,S Q,I T,L U v u] fun a9 b4 =>
 app prog [43,43] 43 (L b a d) (.slice (some a9) 1 1) b4 fun a4 a2 a1 b5 =>
 ∃ E,E < C∧n a4 a2 a1 (i64.wrap (f + 1)) b5 E)))→l h e)→(∃ V,ce g c 0 (I V)∧br (decide (V=1)) (br (decide ((0:Int) < ((a:Int)))) (idx b a (i64.wrap (((a:Int)) - 1)) 4 fun b0 =>
 ∃ W,ce g b0 0 (I W)∧(l (decide (W=1)) g)) (l false g)) (l false g))))→p g)→(∃ b8 x a3,ce j c 3 (L b8 x a3)∧br (decide ((0:Int) < (x))) (∃ X z y,ce j c 3 (L X z y)∧Cp 138 [L X z y] j fun a5 b6 =>
 ∃ Y B A,rV a5 (L Y B A)∧stL b6 (c.add 3) 0 [L Y B A] fun b7 =>
 p b7) (p j))))→o j)→(∃ Z,ce i c 0 (I Z)∧br (decide (Z=1)) (∃ a0,ce i c 1 (S a0)∧br (decide (a0=([]))) (∃ F,F < C∧n b a d (i64.wrap (f + 1)) i F) (o i)) (o i))) (R (rt (L b a d)) k))
theorem qrt {c b a R w} (h:q2p c b a R w):Calls prog qja ⟨[L c b a]⟩ w R:=qc Tryz.func138 (Eq.mpr (by kernel_rfl:fnV _ _ q4a _ _ _=_) h)
def qxg:Ann:=T F (T F (T (T F (.one (.loop 1329227995784915872903807060280344448 [(7,.one (.slice)),(8,.one (.int .i64))] (T (T F (T F F)) (T (.one (T F (.one (.cut 17163091968 [(24,.one (.bool))] F (T F (.cut 562400197607424 [(39,.one (.bool))] F (T F (.cut 295075847585314897920 [(56,.one (.bool))] F (T (.one F) (T F (T F (T F (T F (.cut 2595989972942385285590061076709376 [(97,.one (.bool))] F (T (.one F) F))))))))))))))) F))))) (T F F)))
def qwk (n9:OA) (V:Nat) (p6:Nat) (f:Int) (b:Bool) (R:EP) (w:World):Prop :=
 ∃ (j:OA→Nat→Nat→Int→World→Nat→Prop),(∃ p7,j none 0 0 0 w p7)∧∀ e d c h v p,j e d c h v p→∀ _:Env,(br (decide ((h:Int) < ((V:Int)))) (idx n9 V h 4 fun E =>
 ∃ g8,ce v E 0 (I g8)∧∃ g9,ce v E 1 (S g9)∧∃ h0,ce v E 2 (I h0)∧∃ h1 b9 b8,ce v E 3 (L h1 b9 b8)∧al v 56 [I 0,S [],I 0,L none 0 0] fun a o0 =>
 stL o0 a 0 [I g8,S g9,I h0,L h1 b9 b8] fun F =>
 ∀ (T:Bool→World→Prop),(∀ (q:Bool) (l:World),(∀ _:Env,(br q (∃ h2 c1 c0,ce l a 3 (L h2 c1 c0)∧Cp 186 [L h2 c1 c0] l fun m9 o1 =>
 ∃ h3 c3 c2,rV m9 (L h3 c3 c2)∧app prog [43,43] 43 (L e d c) (L h3 c3 c2) o1 fun m3 k4 k3 o2 =>
 ∃ g2,g2 < p∧j m3 k4 k3 (i64.wrap (h + 1)) o2 g2) (∀ (U:Bool→World→Prop),(∀ (r:Bool) (i:World),(∀ _:Env,(br r (∃ h4 c5 c4,ce i a 3 (L h4 c5 c4)∧Cp 139 [L h4 c5 c4,I f,B b] i fun n0 o3 =>
 ∃ h5 c7 c6,rV n0 (L h5 c7 c6)∧app prog [43,43] 43 (L e d c) (L h5 c7 c6) o3 fun m4 k6 k5 o4 =>
 ∃ g3,g3 < p∧j m4 k6 k5 (i64.wrap (h + 1)) o4 g3) (∀ (C:Bool→World→Prop),(∀ (s:Bool) (g:World),(∀ _:Env,(br s (drw g fun m =>
 ∃ c8 y x,ce m a 3 (L c8 y x)∧((∃ h6,ce m a 0 (I h6)∧∃ h7,ce m a 1 (S h7)∧∃ h8,ce m a 2 (I h8)∧∃ h9 d0 c9,ce m a 3 (L h9 d0 c9)∧((Cp 139 [L c8 y x,I f,B b] m fun n1 o5 =>
 ∃ i0 d2 d1,rV n1 (L i0 d2 d1)∧((Cp 187 [.agg ⟨[I h6,S h7,I h8,L h9 d0 c9]⟩,L i0 d2 d1] o5 fun n2 o6 =>
 ∃ i1 d4 d3,rV n2 (L i1 d4 d3)∧((app prog [43,43] 43 (L e d c) (L i1 d4 d3) o6 fun m5 k8 k7 o7 =>
 ∃ g4,g4 < p∧j m5 k8 k7 (i64.wrap (h + 1)) o7 g4)∧True))∧True))∧True))∧(Cp 139 [L c8 y x,I f,B b] m fun n3 u =>
 ∃ i2 d6 d5,rV n3 (L i2 d6 d5)∧∃ i3,ce u a 0 (I i3)∧∃ i4,ce u a 1 (S i4)∧∃ i5,ce u a 2 (I i5)∧∃ i6 d8 d7,ce u a 3 (L i6 d8 d7)∧((Cp 187 [.agg ⟨[I i3,S i4,I i5,L i6 d8 d7]⟩,L i2 d6 d5] u fun n4 o8 =>
 ∃ i7 e0 d9,rV n4 (L i7 e0 d9)∧((app prog [43,43] 43 (L e d c) (L i7 e0 d9) o8 fun m6 l0 k9 o9 =>
 ∃ g5,g5 < p∧j m6 l0 k9 (i64.wrap (h + 1)) o9 g5)∧True))∧True))∧True)) (∃ i8,ce g a 0 (I i8)∧br (decide (i8=8)) (∃ i9 e2 e1,ce g a 3 (L i9 e2 e1)∧Cp 186 [L i9 e2 e1] g fun n5 p0 =>
 ∃ j0 e4 e3,rV n5 (L j0 e4 e3)∧app prog [43,43] 43 (L e d c) (L j0 e4 e3) p0 fun m7 l2 l1 p1 =>
 ∃ g6,g6 < p∧j m7 l2 l1 (i64.wrap (h + 1)) p1 g6) (∃ j1,ce g a 0 (I j1)∧br (decide (j1=9)) (∃ j2 e6 e5,ce g a 3 (L j2 e6 e5)∧Cp 139 [L j2 e6 e5,I f,B b] g fun n6 p2 =>
 ∃ j3 e8 e7,rV n6 (L j3 e8 e7)∧app prog [43,43] 43 (L e d c) (L j3 e8 e7) p2 fun m8 l4 l3 p3 =>
 ∃ g7,g7 < p∧j m8 l4 l3 (i64.wrap (h + 1)) p3 g7) (∀ (D:Bool→World→Prop),(∀ (t:Bool) (n:World),(∀ _:Env,(br t (drw n fun o =>
 ∃ e9 A z,ce o a 3 (L e9 A z)∧((∃ j4,ce o a 0 (I j4)∧∃ j5,ce o a 1 (S j5)∧∃ j6,ce o a 2 (I j6)∧∃ j7 f1 f0,ce o a 3 (L j7 f1 f0)∧((Cp 139 [L e9 A z,I f,B b] o fun n7 p4 =>
 ∃ j8 f3 f2,rV n7 (L j8 f3 f2)∧((Cp 187 [.agg ⟨[I j4,S j5,I j6,L j7 f1 f0]⟩,L j8 f3 f2] p4 fun n8 p5 =>
 ∃ j9 f5 f4,rV n8 (L j9 f5 f4)∧((app prog [43,43] 43 (L e d c) (L j9 f5 f4) p5 fun k0 f7 f6 l8 =>
 ∃ W,W < p∧j k0 f7 f6 (i64.wrap (h + 1)) l8 W)∧True))∧True))∧True))∧(Cp 139 [L e9 A z,I f,B b] o fun l5 k =>
 ∃ Z H G,rV l5 (L Z H G)∧∃ a0,ce k a 0 (I a0)∧∃ a1,ce k a 1 (S a1)∧∃ a2,ce k a 2 (I a2)∧∃ a3 K J,ce k a 3 (L a3 K J)∧((Cp 187 [.agg ⟨[I a0,S a1,I a2,L a3 K J]⟩,L Z H G] k fun l6 l9 =>
 ∃ a4 N M,rV l6 (L a4 N M)∧((app prog [43,43] 43 (L e d c) (L a4 N M) l9 fun k1 f9 f8 m0 =>
 ∃ X,X < p∧j k1 f9 f8 (i64.wrap (h + 1)) m0 X)∧True))∧True))∧True)) (∃ a5,ce n a 0 (I a5)∧∃ a6,ce n a 1 (S a6)∧∃ a7,ce n a 2 (I a7)∧∃ a8 Q O,ce n a 3 (L a8 Q O)∧al n 56 [I a5,S a6,I a7,L a8 Q O] fun l7 m1 =>
 app prog [43,43] 43 (L e d c) (.slice (some l7) 1 1) m1 fun k2 g1 g0 m2 =>
 ∃ Y,Y < p∧j k2 g1 g0 (i64.wrap (h + 1)) m2 Y)))→D t n)→(∃ a9,ce g a 0 (I a9)∧br (decide (a9=7)) (D true g) (∃ b0,ce g a 0 (I b0)∧br (decide (b0=10)) (D true g) (∃ b1,ce g a 0 (I b1)∧(D (decide (b1=11)) g)))))))))→C s g)→(∃ b2,ce i a 0 (I b2)∧br (decide (b2=8)) (C b i) (∃ b3,ce i a 0 (I b3)∧br (decide (b3=9)) (C b i) (C false i))))))→U r i)→(∃ b4,ce l a 0 (I b4)∧br (decide (b4=8)) (∃ b5,ce l a 2 (I b5)∧(U (decide (b5≤f)) l)) (U false l)))))→T q l)→(∃ b6,ce F a 0 (I b6)∧br (decide (b6=9)) (∃ b7,ce F a 2 (I b7)∧(T (decide (b7≤f)) F)) (T false F))) (R (rt (L e d c)) v))
theorem q0n {e d c b a R w} (h:qwk e d c b a R w):Calls prog qlt ⟨[L e d c,I b,B a]⟩ w R:=qc Tryz.func139 (Eq.mpr (by kernel_rfl:fnV _ _ qxg _ _ _=_) h)
def qsj:Ann:=T F (T F (T (T F (.one (.loop 16777016 [(3,.one (.int .i64)),(8,.one (.int .i64))] (T F (T (T F F) (T (.one (T F (T F (T F (T F F))))) F)))))) (T F F)))
def qqn (j:LU) (R:EP) (w:World):Prop :=
 ∃ (c:Int→Int→World→Nat→Prop),(∃ n,c 0 0 w n)∧∀ b a k f,c b a k f→∀ _:Env,(br (decide ((a:Int) < ((List.length j:Int)))) (sidx j a fun l =>
 Cp 184 [.int .u8 ((l.toNat:Int))] k fun m d =>
 ∃ e,rI m e∧br (decide (e=1)) (∃ g,g < f∧c (i64.wrap (b + 1)) (i64.wrap (a + 1)) d g) (br (decide (e=3)) (∃ h,h < f∧c (i64.wrap (b + 1)) (i64.wrap (a + 1)) d h) (∃ i,i < f∧c b (i64.wrap (a + 1)) d i))) (R (rt (I b)) k))
theorem qu1 {a R w} (h:qqn a R w):Calls prog qir ⟨[S a]⟩ w R:=qc Tryz.func140 (Eq.mpr (by kernel_rfl:fnV _ _ qsj _ _ _=_) h)
def qlb:Ann:=T F (.one (.loop 16777112 [(7,.one (.int .i64))] (T F (T (T F F) (T (.one (T F (T F (T F F)))) F)))))
def qj6 (g:Fn) (c:Array Value) (d:Array Value) (y:OA) (R:EP) (w:World):Prop :=
 dr y fun E =>
 ∃ B k C,cf w E (L B k C)∧(∃ (l:Int→World→Nat→Prop),(∃ D,l 0 w D)∧∀ a b x,l a b x→∀ _:Env,(br (decide ((a:Int) < (k))) (idx B k a 4 fun e =>
 ∃ p,ce b e 0 (I p)∧∃ q,ce b e 1 (S q)∧∃ r,ce b e 2 (I r)∧∃ s j i,ce b e 3 (L s j i)∧al b 56 [I 0,S [],I 0,L none 0 0] fun h A =>
 stL A h 0 [I p,S q,I r,L s j i] fun f =>
 ∃ t,ce f h 0 (I t)∧br (decide (t=4)) (∃ u,ce f h 1 (S u)∧CallV prog (.func g c d) [S u,I a] f fun z o =>
 ∃ v,rB z v∧br (!v) (R (rt (.tuple ⟨[]⟩)) o) (∃ m,m < x∧l (i64.wrap (a + 1)) o m)) (∃ n,n < x∧l (i64.wrap (a + 1)) f n)) (R (rt (.tuple ⟨[]⟩)) b)))
theorem qmr {c a b d R w} (h:qj6 c a b d R w):Calls prog qal ⟨[.func c a b,.pointer d]⟩ w R:=qc Tryz.func141 (Eq.mpr (by kernel_rfl:fnV _ _ qlb _ _ _=_) h)
def q09:Ann:=T F (.cut 262116 [] (T F (T (T F F) F)) (.cut 133955596 [] (T F (T F (T (T F F) F))) (T (T F (.one (.loop 274743689236 [(4,.one (.int .i64))] (T (T F (T F F)) (T (.one (T F (T (T F F) F))) F))))) (T F F))))
def qyx (a:LU) (R:EP) (w:World):Prop :=
 ∀ (m:WP),(∀ (u:World),(∀ _:Env,(∀ (k:WP),(∀ (v:World),(∀ _:Env,(∃ (j:Int→World→Nat→Prop),(∃ s,j 0 v s)∧∀ b l t,j b l t→∀ _:Env,(br (decide ((b:Int) < ((List.length a:Int)))) (sidx a b fun n =>
 Cp 166 [.int .u8 ((n.toNat:Int))] l fun p f =>
 ∃ h,rI p h∧br (decide ((4:Int) < h)) (R (rt (B false)) f) (∃ e,e < t∧j (i64.wrap (b + 1)) f e)) (R (rt (B true)) l))))→k v)→(sidx a 0 fun o =>
 Cp 166 [.int .u8 ((o.toNat:Int))] u fun q c =>
 ∃ d,rI q d∧br (decide (d≠1)) (br (decide (d≠3)) (R (rt (B false)) c) (k c)) (k c))))→m u)→(br (decide ((((List.length a:Int)):Int) < 1)) (R (rt (B false)) w) (br (decide ((64:Int) < ((List.length a:Int)))) (R (rt (B false)) w) (Cp 192 [S a] w fun r g =>
 ∃ i,rI r i∧br (decide (i≠0)) (R (rt (B false)) g) (m g))))
theorem q3l {a R w} (h:qyx a R w):Calls prog qno ⟨[S a]⟩ w R:=qc Tryz.func149 (Eq.mpr (by kernel_rfl:fnV _ _ q09 _ _ _=_) h)
def qxj:Ann:=T F (T F (T (T F (.one (.loop 16777208 [(3,.one (.int .i64)),(4,.one (.int .i64))] (T (T F (T F F)) (T (.one (T F (T F (T F F)))) F))))) (T F F)))
def qwn (j:LU) (R:EP) (w:World):Prop :=
 ∃ (c:Int→Int→World→Nat→Prop),(∃ n,c 0 0 w n)∧∀ b a k f,c b a k f→∀ _:Env,(br (decide ((a:Int) < ((List.length j:Int)))) (sidx j a fun l =>
 Cp 166 [.int .u8 ((l.toNat:Int))] k fun m d =>
 ∃ e,rI m e∧br (decide (e=1)) (∃ g,g < f∧c (i64.wrap (b + 1)) (i64.wrap (a + 1)) d g) (br (decide (e=3)) (∃ h,h < f∧c (i64.wrap (b + 1)) (i64.wrap (a + 1)) d h) (∃ i,i < f∧c b (i64.wrap (a + 1)) d i))) (R (rt (I b)) k))
theorem q0q {a R w} (h:qwn a R w):Calls prog qlw ⟨[S a]⟩ w R:=qc Tryz.func150 (Eq.mpr (by kernel_rfl:fnV _ _ qxj _ _ _=_) h)
def an_ref10_all:Ann:=T F (T (T F (.one (.loop 8796093022192 [(5,.one (.int .i64))] (T (T F (T F F)) (T (.one (T (.cut 2147467328 [(6,.one (.int .i64))] F (T F (T (T F F) F))) (T F (T F (T (T F F) F))))) F))))) (T F F))
def sh_ref10_all (j:OA) (d:Nat) (M:Nat) (c:Bool) (R:EP) (w:World):Prop :=
 ∃ (y:Int→World→Nat→Prop),(∃ N,y 0 w N)∧∀ a A F,y a A F→∀ _:Env,(br (decide ((a:Int) < ((d:Int)))) (∀ (z:Int→World→Prop),(∀ (i:Int) (h:World),(∀ _:Env,(br (decide ((i:Int)≠0)) (R (rt (I i)) h) (idx j d a 4 fun G =>
 ∃ t l k,ce h G 3 (L t l k)∧Cp 151 [L t l k,B true] h fun C s =>
 ∃ m,rI C m∧br (decide (m≠0)) (R (rt (I m)) s) (∃ r,r < F∧y (i64.wrap (a + 1)) s r))))→z i h)→(drw A fun b =>
 idx j d a 4 fun g =>
 ∃ n,ce b g 0 (I n)∧∃ o,ce b g 1 (S o)∧∃ p,ce b g 2 (I p)∧∃ q f e,ce b g 3 (L q f e)∧br (decide ((0:Int) < a)) (idx j d (i64.wrap (a - 1)) 4 fun H =>
 ∃ u,ce b H 0 (I u)∧((Cp 193 [.agg ⟨[I n,S o,I p,L q f e]⟩,.bool (decide (u=1)),B c] b fun D J =>
 ∃ v,rI D v∧(z v J))∧True)) ((Cp 193 [.agg ⟨[I n,S o,I p,L q f e]⟩,B false,B c] b fun E K =>
 ∃ x,rI E x∧(z x K))∧True))) (R (rt (I 0)) A))
theorem c_ref10_all {d c b a R w} (h:sh_ref10_all d c b a R w):Calls prog q1u ⟨[L d c b,B a]⟩ w R:=qc Tryz.func151 (Eq.mpr (by kernel_rfl:fnV _ _ an_ref10_all _ _ _=_) h)
def q38:Ann:=T F (T F (T (T F (.one (.loop 147573952589676412920 [(3,.one (.str)),(4,.one (.int .i64))] (T (T F (T F F)) (T (.one (T F (T (T F (T (T F F) F)) (T F (.cut 68451041344 [(6,.one (.str))] (T F (T F F)) (.cut 35115652612160 [(6,.one (.str))] (T F (T F F)) (T (T F (T (T F F) F)) F))))))) F))))) (T F F)))
def q2n (c4:OA) (p:Nat) (f2:Nat) (R:EP) (w:World):Prop :=
 ∃ (j:LU→Int→World→Nat→Prop),(∃ f3,j ([]) 0 w f3)∧∀ b c k m,j b c k m→∀ _:Env,(br (decide ((c:Int) < ((p:Int)))) (idx c4 p c 4 fun y =>
 ∃ f1,ce k y 0 (I f1)∧∃ K,ce k y 1 (S K)∧∃ M,ce k y 2 (I M)∧∃ N x v,ce k y 3 (L N x v)∧al k 56 [I 0,S [],I 0,L none 0 0] fun a e5 =>
 stL e5 a 0 [I f1,S K,I M,L N x v] fun h =>
 ∃ O,ce h a 0 (I O)∧br (decide (O=1)) (∃ Q,ce h a 1 (S Q)∧(sadd b Q fun c5 =>
 ∃ z,z < m∧j c5 (i64.wrap (c + 1)) h z)) (∃ T,ce h a 0 (I T)∧Cp 194 [I T] h fun b3 F =>
 ∃ U,rV b3 (S U)∧(sadd ([60]) U fun E =>
 ∀ (n:LU→World→Prop),(∀ (d:LU) (r:World),(∀ _:Env,(∀ (o:LU→World→Prop),(∀ (e:LU) (s:World),(∀ _:Env,(∃ V,ce s a 0 (I V)∧Cp 197 [I V] s fun b4 G =>
 ∃ W,rB b4 W∧br (!W) (sadd b e fun c6 =>
 sadd c6 ([47,62]) fun c7 =>
 ∃ A,A < m∧j c7 (i64.wrap (c + 1)) G A) (drw G fun i =>
 sadd b e fun c8 =>
 sadd c8 ([62]) fun q =>
 ∃ l g f,ce i a 3 (L l g f)∧((Cp 152 [L l g f] i fun b5 H =>
 ∃ X,rV b5 (S X)∧(sadd q X fun c9 =>
 sadd c9 ([60,47]) fun d0 =>
 ∃ Y,ce H a 0 (I Y)∧((Cp 194 [I Y] H fun b6 e6 =>
 ∃ Z,rV b6 (S Z)∧(sadd d0 Z fun d1 =>
 sadd d1 ([62]) fun d2 =>
 ∃ B,B < m∧j d2 (i64.wrap (c + 1)) e6 B))∧True)))∧((Cp 152 [L l g f] i fun b7 J =>
 ∃ a0,rV b7 (S a0)∧(sadd q a0 fun d3 =>
 sadd d3 ([60,47]) fun d4 =>
 ∃ a1,ce J a 0 (I a1)∧((Cp 194 [I a1] J fun b8 e7 =>
 ∃ a2,rV b8 (S a2)∧(sadd d4 a2 fun d5 =>
 sadd d5 ([62]) fun d6 =>
 ∃ C,C < m∧j d6 (i64.wrap (c + 1)) e7 C))∧True)))∧(∃ a3,ce i a 0 (I a3)∧((Cp 152 [L l g f] i fun b9 e8 =>
 ∃ a4,rV b9 (S a4)∧(sadd q a4 fun d7 =>
 sadd d7 ([60,47]) fun d8 =>
 (Cp 194 [I a3] e8 fun c0 e9 =>
 ∃ a5,rV c0 (S a5)∧(sadd d8 a5 fun d9 =>
 sadd d9 ([62]) fun e0 =>
 ∃ D,D < m∧j e0 (i64.wrap (c + 1)) e9 D))∧True))∧True))∧True)∧True))))→o e s)→(∃ a6,ce r a 0 (I a6)∧Cp 196 [I a6] r fun c1 t =>
 ∃ a7,rB c1 a7∧br a7 (sadd d ([32]) fun e1 =>
 ∃ a8,ce t a 2 (I a8)∧Cp 59 [I a8] t fun c2 f0 =>
 ∃ a9,rV c2 (S a9)∧(sadd e1 a9 fun e2 =>
 o e2 f0)) (o d t))))→n d r)→(∃ b0,ce F a 0 (I b0)∧Cp 195 [I b0] F fun c3 u =>
 ∃ b1,rB c3 b1∧br b1 (sadd E ([32]) fun e3 =>
 ∃ b2,ce u a 1 (S b2)∧(sadd e3 b2 fun e4 =>
 n e4 u)) (n E u))))) (R (rt (S b)) k))
theorem q8f {c b a R w} (h:q2n c b a R w):Calls prog qi9 ⟨[L c b a]⟩ w R:=qc Tryz.func152 (Eq.mpr (by kernel_rfl:fnV _ _ q38 _ _ _=_) h)
def q1f:Ann:=T F (T F (T F F))
def qy3 (c:Fn) (a:Array Value) (b:Array Value) (j:OA) (R:EP) (w:World):Prop :=
 al w 57 [.func c a b] fun p r =>
 al r 89 [.nilFunc] fun i s =>
 stL s i 0 [.func (.func 154) ⟨[]⟩ ⟨[.pointer (some p),.pointer (some i)]⟩] fun k =>
 ∃ o g h,cf k i (.func o g h)∧(dr j fun q =>
 ∃ f e d,cf k q (L f e d)∧CallV prog (.func o g h) [L f e d] k fun l m =>
 ∃ n,rB l n∧R (rt (.tuple ⟨[]⟩)) m)
theorem qna {c a b d R w} (h:qy3 c a b d R w):Calls prog qb7 ⟨[.func c a b,.pointer d]⟩ w R:=qc Tryz.func153 (Eq.mpr (by kernel_rfl:fnV _ _ q1f _ _ _=_) h)
def qu8:Ann:=T F (T (T F (.one (.loop 33554000 [(9,.one (.int .i64))] (T F (T (T F F) (T (.one (T F (T F (T (T F F) F)))) F)))))) (T F F))
def qtt (Q:OA) (f:Nat) (X:Nat) (K:OA) (M:OA) (R:EP) (w:World):Prop :=
 ∃ (J:Int→World→Nat→Prop),(∃ Y,J 0 w Y)∧∀ c d T,J c d T→∀ _:Env,(br (decide ((c:Int) < ((f:Int)))) (idx Q f c 4 fun q =>
 ∃ t,ce d q 0 (I t)∧∃ u,ce d q 1 (S u)∧∃ v,ce d q 2 (I v)∧∃ x h g,ce d q 3 (L x h g)∧al d 56 [I 0,S [],I 0,L none 0 0] fun a W =>
 stL W a 0 [I t,S u,I v,L x h g] fun b =>
 dr K fun U =>
 ∃ y i j,cf b U (.func y i j)∧∃ z,ce b a 0 (I z)∧∃ A,ce b a 1 (S A)∧∃ C,ce b a 2 (I C)∧∃ D l k,ce b a 3 (L D l k)∧CallV prog (.func y i j) [.agg ⟨[I z,S A,I C,L D l k]⟩] b fun N e =>
 ∃ E,rB N E∧br (!E) (R (rt (B false)) e) (dr M fun V =>
 ∃ F m n,cf e V (.func F m n)∧∃ G p o,ce e a 3 (L G p o)∧CallV prog (.func F m n) [L G p o] e fun O s =>
 ∃ H,rB O H∧br (!H) (R (rt (B false)) s) (∃ r,r < T∧J (i64.wrap (c + 1)) s r))) (R (rt (B true)) d))
theorem qjh {e b a c d R w} (h:qtt e b a c d R w):Calls prog qfb ⟨[L e b a,.pointer c,.pointer d]⟩ w R:=qc Tryz.func154 (Eq.mpr (by kernel_rfl:fnV _ _ qu8 _ _ _=_) h)
def qe3:Ann:=T F (T F (T F (T F F)))
def qet (a:OA) (b:LU) (R:EP) (w:World):Prop :=
 Cp 200 [.pointer a] w fun k h =>
 k=.returned (.tuple ⟨[]⟩)∧(dr a fun l =>
 ∃ i d c,ce h l 1 (L i d c)∧app prog [114,9] 114 (L i d c) (S b) h fun j f e n =>
 dr a fun m =>
 stL n (m.add 1) 0 [L j f e] fun g =>
 R (rt (.tuple ⟨[.int .i64 ((List.length b:Int)),.nilIface]⟩)) g)
theorem qe9 {a b R w} (h:qet a b R w):Calls prog qb5 ⟨[.pointer a,S b]⟩ w R:=qc Tryz.func159 (Eq.mpr (by kernel_rfl:fnV _ _ qe3 _ _ _=_) h)
def q4k:Ann:=T F (T (T F (T (T F F) F)) (T F (T (T F (.one (.rf [2,3,4,14] 0))) (T F F))))
def q2z (v:LU) (R:EP) (w:World):Prop :=
 al w 197 [L none 0 0] fun c Y =>
 al Y 28 [I 0] fun d V =>
 br (decide ((65536:Int) < ((List.length v:Int)))) (stL V c 0 [L none 0 0] fun Z =>
 stL Z d 0 [I 4] fun J =>
 ∃ W H G,cf J c (L W H G)∧∃ X,cf J d (I X)∧R (rt (.tuple ⟨[L W H G,I X]⟩)) J) (al V 197 [L none 0 0] fun f M =>
 Cp 205 [S v] M fun K N =>
 ∃ x j k,rV K (.func x j k)∧∀ e:Env,RFw prog none 49 (cdAt Tryz.f161 [1,1,1,0,1,2]) (upd (upd (upd (upd e 14 (.func x j k)) 4 (.pointer (some f))) 3 (.pointer (some d))) 2 (.pointer (some c))) [] N 0 (fun a b =>
 ∃ B q p,cf b f (L B q p)∧stL b c 0 [L B q p] fun T =>
 stL T d 0 [I 0] fun U =>
 retD a U fun h =>
 ∃ C s r,cf h c (L C s r)∧∃ D,cf h d (I D)∧R (rt (.tuple ⟨[L C s r,I D]⟩)) h) (fun a b =>
 retD a b fun i =>
 ∃ E u t,cf i c (L E u t)∧∃ F,cf i d (I F)∧R (rt (.tuple ⟨[L E u t,I F]⟩)) i) (fun a b =>
 ∃ y m l,cf b f (L y m l)∧stL b c 0 [L y m l] fun O =>
 stL O d 0 [I 0] fun Q =>
 retD a Q fun g =>
 ∃ z o n,cf g c (L z o n)∧∃ A,cf g d (I A)∧R (rt (.tuple ⟨[L z o n,I A]⟩)) g))
theorem q8q {a R w} (h:q2z a R w):Calls prog qtf ⟨[S a]⟩ w R:=qc Tryz.func161 (Eq.mpr (by kernel_rfl:fnV _ _ q4k _ _ _=_) h)
def qh8:Ann:=T F F
def qh6:Ann:=.one (T F (.cut 4398045987584 [] (.one (T F (T (T F (T (T F F) F)) (T F (T (T F F) (T F (T (T F (T (T F F) F)) F))))))) (T F F)))
def qwv (f:OA) (g:OA) (h:OA) (a4:Fn) (K:Array Value) (M:Array Value) (k:Int) (a:LU) (l:Nat) (Kn Kr Kx:World→World→Prop) (w:World):Prop :=
 Ext w w∧∀ c:World,Upd l w c→(al c 202 [I 0,S [],S [],I 0] fun b a5 =>
 stL a5 b 0 [I 1,S [],S a,I 0] fun m =>
 ∀ (j:WP),(∀ (q:World),(∀ _:Env,(stL q (b.add 3) 0 [I k] fun d =>
 dr h fun V =>
 ∃ s o n,cf d V (L s o n)∧∃ t,ce d b 0 (I t)∧∃ u,ce d b 1 (S u)∧∃ v,ce d b 2 (S v)∧∃ x,ce d b 3 (I x)∧al d 202 [I t,S u,S v,I x] fun W a6 =>
 app prog [197,197] 197 (L s o n) (.slice (some W) 1 1) a6 fun N J H a7 =>
 dr h fun X =>
 stL a7 X 0 [L N J H] fun a8 =>
 Kn c a8))→j q)→(sidx a 0 fun O =>
 br (decide ((((O.toNat:Int)):Int)≠60)) (Cp 173 [S a] m fun T r =>
 ∃ y,rI T y∧br (decide (y≠0)) (dr f fun Y =>
 stL r Y 0 [L none 0 0] fun a9 =>
 dr g fun Z =>
 stL a9 Z 0 [I 11] fun b0 =>
 Kr c b0) (j r)) (sidx a (i64.wrap (((List.length a:Int)) - 1)) fun Q =>
 br (decide ((((Q.toNat:Int)):Int)≠62)) (dr f fun a0 =>
 stL m a0 0 [L none 0 0] fun b1 =>
 dr g fun a1 =>
 stL b1 a1 0 [I 3] fun b2 =>
 Kr c b2) (Cp 206 [S a] m fun U b3 =>
 ∃ z A B C p,rV U (.tuple ⟨[.agg ⟨[I z,S A,S B,I C]⟩,I p]⟩)∧al b3 202 [I 0,S [],S [],I 0] fun i b4 =>
 stL b4 i 0 [I z,S A,S B,I C] fun e =>
 br (decide (p≠0)) (dr f fun a2 =>
 stL e a2 0 [L none 0 0] fun b5 =>
 dr g fun a3 =>
 stL b5 a3 0 [I p] fun b6 =>
 Kr c b6) (∃ D,ce e i 0 (I D)∧∃ E,ce e i 1 (S E)∧∃ F,ce e i 2 (S F)∧∃ G,ce e i 3 (I G)∧stL e b 0 [I D,S E,S F,I G] fun b7 =>
 j b7)))))
theorem qwy (base:Env) (g:OA) (h:OA) (c:OA) (d:Fn) (a:Array Value) (b:Array Value) (e:Int) (f:LU) (l:Nat) (Kn Kr Kx:World→World→Prop) (w:World):fragV prog 49 qh8 qh6 (cdAt Tryz.f161 [1,1,1,0,1,2,5]) (cdAt Tryz.f161 [1,1,1,0,1,2,6]) l 0 Kn Kr Kx (updPs [15,16] [I e,S f] (upd (upd (upd (upd base 14 (.func d a b)) 4 (.pointer c)) 3 (.pointer h)) 2 (.pointer g))) w=qwv g h c d a b e f l Kn Kr Kx w:=by kernel_rfl
theorem qw1:cdAt Tryz.f161 [1,1,1,0,1,2]=.rangeFunc (Operand.tmp 14) #[15,16] (cdAt Tryz.f161 [1,1,1,0,1,2,5]) (cdAt Tryz.f161 [1,1,1,0,1,2,6]):=by kernel_rfl
def qxm:Ann:=T F (T (T F (T (T F F) F)) (T F (T (T F (.one (.loop 562949953419308 [(3,.one (.slice)),(11,.one (.int .i64))] (T F (T (T F F) (T (.one (T F (T F (.one (T F (T (T F (T F (T (T F F) F))) (T F (T (.cut 8795556151300 [] (T F (T (T F F) F)) F) F)))))))) F)))))) (T (T F (T (T F F) F)) (T F F)))))
def qwq (p:OA) (h:Nat) (G:Nat) (R:EP) (w:World):Prop :=
 Cp 207 [L p h G] w fun V T =>
 ∃ U,rI V U∧(br (decide (U≠0)) (R (rt (I 1)) T) (∃ (k:OA→Nat→Nat→Int→World→Nat→Prop),(∃ K,k none 0 0 0 T K)∧∀ b a c d g n,k b a c d g n→∀ _:Env,(br (decide ((d:Int) < ((h:Int)))) (idx p h d 4 fun i =>
 ∃ v,ce g i 0 (I v)∧∃ x,ce g i 1 (S x)∧∃ y,ce g i 2 (S y)∧∃ z,ce g i 3 (I z)∧al g 202 [I 0,S [],S [],I 0] fun j O =>
 stL O j 0 [I v,S x,S y,I z] fun e =>
 ∃ m,ce e j 0 (I m)∧br (decide (m=2)) (∃ A,ce e j 1 (S A)∧al e 9 [S A] fun M Q =>
 app prog [31,31] 31 (L b a c) (.slice (some M) 1 1) Q fun H l D t =>
 br (decide ((16:Int) < ((l:Int)))) (R (rt (I 4)) t) (∃ q,q < n∧k H l D (i64.wrap (d + 1)) t q)) (br (decide (m=3)) (∀ (o:WP),(∀ (u:World),(∀ _:Env,(sls b c 0 (i64.wrap (((a:Int)) - 1)) 1 fun J F E =>
 ∃ r,r < n∧k J F E (i64.wrap (d + 1)) u r))→o u)→(drw e fun f =>
 br (decide ((((a:Int)):Int)=0)) (R (rt (I 12)) f) (idx b a (i64.wrap (((a:Int)) - 1)) 1 fun N =>
 ∃ B,cf f N (S B)∧∃ C,ce f j 1 (S C)∧br (decide (B≠C)) (R (rt (I 12)) f) (o f)))) (∃ s,s < n∧k b a c (i64.wrap (d + 1)) e s))) (br (decide ((0:Int) < ((a:Int)))) (R (rt (I 12)) g) (R (rt (I 0)) g)))))
theorem q0t {c b a R w} (h:qwq c b a R w):Calls prog qlz ⟨[L c b a]⟩ w R:=qc Tryz.func162 (Eq.mpr (by kernel_rfl:fnV _ _ qxm _ _ _=_) h)
def qr5:Ann:=T F (T (T F (T (T F F) F)) (T F (T F (T (.one (T F (T F (T F (T F (T F (T F F))))))) (T F F)))))
def qp8 (e1:Int) (e2:LU) (e3:LU) (e4:Int) (R:EP) (w:World):Prop :=
 al w 202 [I e1,S e2,S e3,I e4] fun m e5 =>
 al e5 56 [I 0,S [],I 0,L none 0 0] fun b H =>
 ∃ e0,ce H m 0 (I e0)∧(br (decide (e0=1)) (∃ J,ce H m 2 (S J)∧stL H b 0 [I 1,S J,I 0,L none 0 0] fun d =>
 ∃ K,ce d b 0 (I K)∧∃ M,ce d b 1 (S M)∧∃ N,ce d b 2 (I N)∧∃ O o n,ce d b 3 (L O o n)∧R (rt (.agg ⟨[I K,S M,I N,L O o n]⟩)) d) (sls (some (⟨0,0,none⟩)) 12 0 (12:Nat) 4 fun d1 d0 c9 =>
 Cp 208 [L d1 d0 c9,.func (.func 209) ⟨[]⟩ ⟨[.pointer (some m)]⟩] H fun d2 d6 =>
 ∃ l,rI d2 l∧al d6 56 [I 0,S [],I 0,L none 0 0] fun a d7 =>
 stL d7 a 0 [I l,S [],I 0,L none 0 0] fun c =>
 br (decide (l < 0)) (stL c (a.add 0) 0 [I 0] fun e =>
 ∃ Q,ce e a 0 (I Q)∧∃ T,ce e a 1 (S T)∧∃ U,ce e a 2 (I U)∧∃ V q p,ce e a 3 (L V q p)∧stL e b 0 [I Q,S T,I U,L V q p] fun f =>
 ∃ W,ce f b 0 (I W)∧∃ X,ce f b 1 (S X)∧∃ Y,ce f b 2 (I Y)∧∃ Z s r,ce f b 3 (L Z s r)∧R (rt (.agg ⟨[I W,S X,I Y,L Z s r]⟩)) f) (idx (some (⟨0,0,none⟩)) 12 l 4 fun d4 =>
 ∃ a0,ce c d4 1 (B a0)∧br a0 (∃ a1,ce c m 2 (S a1)∧stL c (a.add 1) 0 [S a1] fun g =>
 ∃ a2,ce g a 0 (I a2)∧∃ a3,ce g a 1 (S a3)∧∃ a4,ce g a 2 (I a4)∧∃ a5 u t,ce g a 3 (L a5 u t)∧stL g b 0 [I a2,S a3,I a4,L a5 u t] fun h =>
 ∃ a6,ce h b 0 (I a6)∧∃ a7,ce h b 1 (S a7)∧∃ a8,ce h b 2 (I a8)∧∃ a9 x v,ce h b 3 (L a9 x v)∧R (rt (.agg ⟨[I a6,S a7,I a8,L a9 x v]⟩)) h) (idx (some (⟨0,0,none⟩)) 12 l 4 fun d5 =>
 ∃ b0,ce c d5 2 (B b0)∧br b0 (∃ b1,ce c m 2 (S b1)∧Cp 210 [S b1] c fun d3 d8 =>
 ∃ b2 d9,rV d3 (.tuple ⟨[I b2,d9]⟩)∧stL d8 (a.add 2) 0 [I b2] fun i =>
 ∃ b3,ce i a 0 (I b3)∧∃ b4,ce i a 1 (S b4)∧∃ b5,ce i a 2 (I b5)∧∃ b6 z y,ce i a 3 (L b6 z y)∧stL i b 0 [I b3,S b4,I b5,L b6 z y] fun j =>
 ∃ b7,ce j b 0 (I b7)∧∃ b8,ce j b 1 (S b8)∧∃ b9,ce j b 2 (I b9)∧∃ c0 C A,ce j b 3 (L c0 C A)∧R (rt (.agg ⟨[I b7,S b8,I b9,L c0 C A]⟩)) j) (∃ c1,ce c a 0 (I c1)∧∃ c2,ce c a 1 (S c2)∧∃ c3,ce c a 2 (I c3)∧∃ c4 E D,ce c a 3 (L c4 E D)∧stL c b 0 [I c1,S c2,I c3,L c4 E D] fun k =>
 ∃ c5,ce k b 0 (I c5)∧∃ c6,ce k b 1 (S c6)∧∃ c7,ce k b 2 (I c7)∧∃ c8 G F,ce k b 3 (L c8 G F)∧R (rt (.agg ⟨[I c5,S c6,I c7,L c8 G F]⟩)) k)))))
theorem qum {a b c d R w} (h:qp8 a b c d R w):Calls prog qeo ⟨[.agg ⟨[I a,S b,S c,I d]⟩]⟩ w R:=qc Tryz.func163 (Eq.mpr (by kernel_rfl:fnV _ _ qr5 _ _ _=_) h)
def qxf:Ann:=T F (T (T F (.one (.loop 536870908 [(3,.one (.int .i64))] (T (T F (T F F)) (T (.one (T F (T F (T (T F F) F)))) F))))) (T F F))
def qwj (j:LU) (R:EP) (w:World):Prop :=
 ∃ (c:Int→World→Nat→Prop),(∃ n,c 0 w n)∧∀ a k d,c a k d→∀ _:Env,(br (decide ((a:Int) < ((List.length j:Int)))) (sidx j a fun l =>
 Cp 166 [.int .u8 ((l.toNat:Int))] k fun m e =>
 ∃ b,rI m b∧br (decide (b≠1)) (br (decide (b≠2)) (br (decide (b≠3)) (br (decide (b≠4)) (R (rt (B false)) e) (∃ f,f < d∧c (i64.wrap (a + 1)) e f)) (∃ g,g < d∧c (i64.wrap (a + 1)) e g)) (∃ h,h < d∧c (i64.wrap (a + 1)) e h)) (∃ i,i < d∧c (i64.wrap (a + 1)) e i)) (R (rt (B true)) k))
theorem q0m {a R w} (h:qwj a R w):Calls prog qls ⟨[S a]⟩ w R:=qc Tryz.func165 (Eq.mpr (by kernel_rfl:fnV _ _ qxf _ _ _=_) h)
def q86:Ann:=T F (T (.one (.cut 262136 [(3,.one (.bool))] F (T (T F F) (.cut 536608768 [(18,.one (.bool))] F (T (T F F) (.cut 68182605824 [(29,.one (.bool))] F (T (T F F) (T F (T (T F F) (.cut 18889465930928825040896 [(39,.one (.bool))] F (T (T F F) (T F (T (T F F) F))))))))))))) (T F F))
def qqk (a:Int) (R:EP) (w:World):Prop :=
 ∀ (h:Bool→World→Prop),(∀ (i:Bool) (j:World),(∀ _:Env,(br i (R (rt (I 1)) j) (∀ (k:Bool→World→Prop),(∀ (e:Bool) (l:World),(∀ _:Env,(br e (R (rt (I 2)) l) (∀ (m:Bool→World→Prop),(∀ (f:Bool) (b:World),(∀ _:Env,(br f (R (rt (I 3)) b) (br (decide ((a:Int)=39)) (R (rt (I 4)) b) (∀ (c:Bool→World→Prop),(∀ (d:Bool) (g:World),(∀ _:Env,(br d (R (rt (I 5)) g) (br (decide ((a:Int)=32)) (R (rt (I 6)) g) (R (rt (I 0)) g))))→c d g)→(br (decide ((a:Int)=46)) (c true b) (br (decide ((a:Int)=44)) (c true b) (br (decide ((a:Int)=59)) (c true b) (br (decide ((a:Int)=58)) (c true b) (br (decide ((a:Int)=33)) (c true b) (br (decide ((a:Int)=63)) (c true b) (br (decide ((a:Int)=40)) (c true b) (br (decide ((a:Int)=41)) (c true b) (c (decide ((a:Int)=45)) b)))))))))))))→m f b)→(br (decide ((48:Int)≤a)) (m (decide ((a:Int)≤57)) l) (m false l)))))→k e l)→(br (decide ((a:Int)=94)) (k true j) (br (decide ((a:Int)=126)) (k true j) (k (decide ((a:Int)=37)) j))))))→h i j)→(br (decide ((97:Int)≤a)) (br (decide ((a:Int)≤122)) (h true w) (br (decide ((65:Int)≤a)) (h (decide ((a:Int)≤90)) w) (h false w))) (br (decide ((65:Int)≤a)) (h (decide ((a:Int)≤90)) w) (h false w)))
theorem c_ref01_Kind {a R w} (h:qqk a R w):Calls prog qv7 ⟨[.int .u8 a]⟩ w R:=qc Tryz.func166 (Eq.mpr (by kernel_rfl:fnV _ _ q86 _ _ _=_) h)
def q05:Ann:=T F (T F (T F F))
def qys (b:Int) (R:EP) (w:World):Prop :=
 Cp 166 [.int .u8 b] w fun d c =>
 ∃ a,rI d a∧(br (decide (a=1)) (R (rt (B true)) c) (R (rt (.bool (decide (a=3)))) c))
theorem q3h {a R w} (h:qys a R w):Calls prog qnk ⟨[.int .u8 a]⟩ w R:=qc Tryz.func167 (Eq.mpr (by kernel_rfl:fnV _ _ q05 _ _ _=_) h)
def q02:Ann:=T F (T F (T F F))
def qyp (c:Int) (R:EP) (w:World):Prop :=
 Cp 166 [.int .u8 c] w fun d b =>
 ∃ a,rI d a∧(br (decide (a=1)) (R (rt (B true)) b) (br (decide (a=2)) (R (rt (B true)) b) (br (decide (a=3)) (R (rt (B true)) b) (R (rt (.bool (decide (a=4)))) b))))
theorem q3e {a R w} (h:qyp a R w):Calls prog qnh ⟨[.int .u8 a]⟩ w R:=qc Tryz.func168 (Eq.mpr (by kernel_rfl:fnV _ _ q02 _ _ _=_) h)
def q8z:Ann:=T F (T F F)
def q6n (s:LU) (t:LU) (u:LU) (v:Int) (x:Int) (y:LU) (R:EP) (w:World):Prop :=
 al w 69 [S s,S t,S u,I v,I x,S y] fun b c =>
 ∃ A,ce c b 0 (S A)∧(∃ d,ce c b 1 (S d)∧∃ e,ce c b 2 (S e)∧∃ f,ce c b 3 (I f)∧∃ g,ce c b 4 (I g)∧∃ h,ce c b 5 (S h)∧Cp 215 [.agg ⟨[S A,S d,S e,I f,I g,S h]⟩,I 2] c fun q a =>
 ∃ i,rB q i∧br (!i) (∃ j,ce a b 0 (S j)∧∃ k,ce a b 1 (S k)∧∃ l,ce a b 2 (S l)∧∃ m,ce a b 3 (I m)∧∃ n,ce a b 4 (I n)∧∃ o,ce a b 5 (S o)∧Cp 215 [.agg ⟨[S j,S k,S l,I m,I n,S o]⟩,I 8] a fun r z =>
 ∃ p,rB r p∧R (rt (.bool (!p))) z) (R (rt (B false)) a))
theorem c_ref15_word {a b c d e f R w} (h:q6n a b c d e f R w):Calls prog qv0 ⟨[.agg ⟨[S a,S b,S c,I d,I e,S f]⟩]⟩ w R:=qc Tryz.func169 (Eq.mpr (by kernel_rfl:fnV _ _ q8z _ _ _=_) h)
def qsg:Ann:=T F (T F (T (T F (T (T F F) F)) (T F F)))
def qqj (c:OA) (b:Nat) (a:Nat) (g:LU) (R:EP) (w:World):Prop :=
 Cp 216 [L c b a,S g] w fun k e =>
 ∃ h d i f,rV k (.tuple ⟨[L h d i,I f]⟩)∧(br (decide (f≠0)) (R (rt (.tuple ⟨[S [],I f]⟩)) e) (idx h d (i64.wrap ((d) - 1)) 1 fun l =>
 ∃ j,cf e l (S j)∧R (rt (.tuple ⟨[S j,I 0]⟩)) e))
theorem quy {c b a d R w} (h:qqj c b a d R w):Calls prog qio ⟨[L c b a,S d]⟩ w R:=qc Tryz.func170 (Eq.mpr (by kernel_rfl:fnV _ _ qsg _ _ _=_) h)
def qjx:Ann:=T F (T F (T F F))
def qjq (c:Fn) (a:Array Value) (b:Array Value) (j:OA) (R:EP) (w:World):Prop :=
 al w 209 [.func c a b] fun p r =>
 al r 136 [.nilFunc] fun i s =>
 stL s i 0 [.func (.func 172) ⟨[]⟩ ⟨[.pointer (some p),.pointer (some i)]⟩] fun k =>
 ∃ o g h,cf k i (.func o g h)∧(dr j fun q =>
 ∃ f e d,cf k q (L f e d)∧CallV prog (.func o g h) [L f e d,I 0] k fun l m =>
 ∃ n,rB l n∧R (rt (.tuple ⟨[]⟩)) m)
theorem qe0 {c a b d R w} (h:qjq c a b d R w):Calls prog qae ⟨[.func c a b,.pointer d]⟩ w R:=qc Tryz.func171 (Eq.mpr (by kernel_rfl:fnV _ _ qjx _ _ _=_) h)
def qh2:Ann:=T F (T F (T (T F (.one (.loop 1099511624384 [(7,.one (.bool)),(12,.one (.int .i64))] (T F (T (T F F) (T (.one (T F (T (T F (T (T F F) F)) F))) F)))))) (T F F)))
def qhp (Y:OA) (i:Nat) (a3:Nat) (b:Int) (U:OA) (V:OA) (R:EP) (w:World):Prop :=
 ∃ (u:Bool→Int→World→Nat→Prop),(∃ Z,u false 0 w Z)∧∀ f a g T,u f a g T→∀ _:Env,(br (decide ((a:Int) < ((i:Int)))) (idx Y i a 4 fun h =>
 ∃ y,ce g h 0 (I y)∧∃ z,ce g h 1 (S z)∧∃ A,ce g h 2 (I A)∧∃ C l k,ce g h 3 (L C l k)∧al g 56 [I 0,S [],I 0,L none 0 0] fun c a2 =>
 stL a2 c 0 [I y,S z,I A,L C l k] fun d =>
 dr U fun a0 =>
 ∃ D m n,cf d a0 (.func D m n)∧∃ E,ce d c 0 (I E)∧∃ F,ce d c 1 (S F)∧∃ G,ce d c 2 (I G)∧∃ H p o,ce d c 3 (L H p o)∧CallV prog (.func D m n) [.agg ⟨[I E,S F,I G,L H p o,I b,B f]⟩] d fun W e =>
 ∃ J,rB W J∧br (!J) (R (rt (B false)) e) (br (decide ((b:Int)≤16)) (dr V fun a1 =>
 ∃ K q r,cf e a1 (.func K q r)∧∃ M t s,ce e c 3 (L M t s)∧CallV prog (.func K q r) [L M t s,.int .i64 (i64.wrap (b + 1))] e fun X j =>
 ∃ N,rB X N∧br (!N) (R (rt (B false)) j) (∃ O,ce j c 0 (I O)∧∃ v,v < T∧u (decide (O=1)) (i64.wrap (a + 1)) j v)) (∃ Q,ce e c 0 (I Q)∧∃ x,x < T∧u (decide (Q=1)) (i64.wrap (a + 1)) e x))) (R (rt (B true)) g))
theorem qdm {f c b a d e R w} (h:qhp f c b a d e R w):Calls prog qby ⟨[L f c b,I a,.pointer d,.pointer e]⟩ w R:=qc Tryz.func172 (Eq.mpr (by kernel_rfl:fnV _ _ qh2 _ _ _=_) h)
end Go.Proofs