/- A part of the proof. -/
import Derived.Test.YtkecgnlelgdndaaGreatDoorFn
set_option linter.all false
set_option maxRecDepth 100000
namespace Go.Proofs
open Go Go.Sh Go.Proofs.Tryz IntKind
def qxq:Ann:=T F (T (T F (T (T F F) F)) (T (T F (.one (.rf [2,10] 0))) (T F F)))
def qwt (e:LU) (R:EP) (w:World):Prop :=
 al w 28 [I 0] fun b p =>
 br (decide ((65536:Int) < ((List.length e:Int)))) (stL p b 0 [I 4] fun q =>
 ∃ r,cf q b (I r)∧R (rt (I r)) q) (Cp 217 [S e] p fun t u =>
 ∃ s l m,rV t (.func s l m)∧∀ d:Env,RFw prog none 22 (cdAt Tryz.f173 [1,1,0,1,2]) (upd (upd d 10 (.func s l m)) 2 (.pointer (some b))) [] u 0 (fun a c =>
 stL c b 0 [I 0] fun o =>
 retD a o fun g =>
 ∃ j,cf g b (I j)∧R (rt (I j)) g) (fun a c =>
 retD a c fun h =>
 ∃ k,cf h b (I k)∧R (rt (I k)) h) (fun a c =>
 stL c b 0 [I 0] fun n =>
 retD a n fun f =>
 ∃ i,cf f b (I i)∧R (rt (I i)) f))
theorem q0w {a R w} (h:qwt a R w):Calls prog ql2 ⟨[S a]⟩ w R:=qc Tryz.func173 (Eq.mpr (by kernel_rfl:fnV _ _ qxq _ _ _=_) h)
def qf9:Ann:=F
def qf6:Ann:=.one (T F (T F (T (T F F) F)))
def qqr (b:OA) (m:Fn) (f:Array Value) (g:Array Value) (n:Value) (c:LU) (l:Nat) (Kn Kr Kx:World→World→Prop) (w:World):Prop :=
 Ext w w∧∀ a:World,Upd l w a→(sidx c 0 fun h =>
 Cp 184 [.int .u8 ((h.toNat:Int))] a fun i d =>
 ∃ e,rI i e∧br (decide (e=0)) (dr b fun j =>
 stL d j 0 [I 11] fun o =>
 Kr a o) (br (decide (e=2)) (dr b fun k =>
 stL d k 0 [I 11] fun p =>
 Kr a p) (Kn a d)))
theorem qq9 (base:Env) (f:OA) (c:Fn) (a:Array Value) (b:Array Value) (d:Value) (e:LU) (l:Nat) (Kn Kr Kx:World→World→Prop) (w:World):fragV prog 22 qf9 qf6 (cdAt Tryz.f173 [1,1,0,1,2,5]) (cdAt Tryz.f173 [1,1,0,1,2,6]) l 0 Kn Kr Kx (updPs [11,12] [d,S e] (upd (upd base 10 (.func c a b)) 2 (.pointer f))) w=qqr f c a b d e l Kn Kr Kx w:=by kernel_rfl
theorem qrf:cdAt Tryz.f173 [1,1,0,1,2]=.rangeFunc (Operand.tmp 10) #[11,12] (cdAt Tryz.f173 [1,1,0,1,2,5]) (cdAt Tryz.f173 [1,1,0,1,2,6]):=by kernel_rfl
def qva:Ann:=T F (.cut 65524 [] (T F (T (T F F) F)) (.cut 33488908 [] (T F (T F (T (T F F) F))) (T F F)))
def qtv (a:LU) (R:EP) (w:World):Prop :=
 ∀ (h:WP),(∀ (n:World),(∀ _:Env,(∀ (g:WP),(∀ (o:World),(∀ _:Env,(s2b prog o 5 a fun p j i r =>
 Cp 218 [L p j i,.func (.func 219) #[] #[]] r fun q s =>
 ∃ e,rB q e∧R (rt (.bool (!e))) s))→g o)→(sidx a 0 fun k =>
 Cp 184 [.int .u8 ((k.toNat:Int))] n fun l b =>
 ∃ c,rI l c∧br (decide (c≠1)) (br (decide (c≠3)) (R (rt (B false)) b) (g b)) (g b))))→h n)→(br (decide ((a:LU)=([]))) (R (rt (B false)) w) (br (decide ((64:Int) < ((List.length a:Int)))) (R (rt (B false)) w) (Cp 173 [S a] w fun m d =>
 ∃ f,rI m f∧br (decide (f≠0)) (R (rt (B false)) d) (h d))))
theorem qw7 {a R w} (h:qtv a R w):Calls prog qjo ⟨[S a]⟩ w R:=qc Tryz.func174 (Eq.mpr (by kernel_rfl:fnV _ _ qva _ _ _=_) h)
def qjy:Ann:=T F (.one (.loop 9007199254740576 [(9,.one (.int .i64))] (T F (T (T F F) (T (.one (T F (T F (.one (T F (T F (T F (T (.cut 8761733283840 [] F (T F F)) F)))))))) F)))))
def qjr (h0:OA) (x:Nat) (k4:Nat) (d:OA) (e9:OA) (R:EP) (w:World):Prop :=
 ∃ (k:Int→World→Nat→Prop),(∃ k5,k 0 w k5)∧∀ e l v,k e l v→∀ _:Env,(br (decide ((e:Int) < ((x:Int)))) (idx h0 x e 4 fun a1 =>
 ∃ a6,ce l a1 0 (I a6)∧∃ a7,ce l a1 1 (S a7)∧∃ a8,ce l a1 2 (I a8)∧∃ a9 K J,ce l a1 3 (L a9 K J)∧al l 56 [I 0,S [],I 0,L none 0 0] fun a i4 =>
 stL i4 a 0 [I a6,S a7,I a8,L a9 K J] fun g =>
 ∃ b0,ce g a 0 (I b0)∧idx (some (⟨0,0,none⟩)) 12 b0 4 fun t =>
 ∃ b1,ce g t 0 (S b1)∧∃ b2,ce g t 1 (B b2)∧∃ b3,ce g t 2 (B b3)∧∃ b4,ce g t 3 (B b4)∧al g 211 [S [],B false,B false,B false] fun f i5 =>
 stL i5 f 0 [S b1,B b2,B b3,B b4] fun h =>
 ∃ b5,ce h a 0 (I b5)∧br (decide (b5=1)) (∃ b6,ce h a 1 (S b6)∧Cp 159 [.pointer d,S b6] h fun g0 i6 =>
 ∃ j4 j5,rV g0 (.tuple ⟨[I j4,j5]⟩)∧∃ a2,a2 < v∧k (i64.wrap (e + 1)) i6 a2) (∃ b7,ce h f 3 (B b7)∧br b7 (∀ (s:WP),(∀ (u:World),(∀ _:Env,(dr e9 fun h1 =>
 ∃ b8 M N,cf u h1 (.func b8 M N)∧∃ b9 Q O,ce u a 3 (L b9 Q O)∧CallV prog (.func b8 M N) [L b9 Q O] u fun g1 a4 =>
 g1=.returned (.tuple ⟨[]⟩)∧∃ c0,ce a4 f 0 (S c0)∧(sadd ([60,47]) c0 fun h2 =>
 sadd h2 ([62]) fun h3 =>
 Cp 159 [.pointer d,S h3] a4 fun g2 i7 =>
 ∃ j6 j7,rV g2 (.tuple ⟨[I j6,j7]⟩)∧∃ a3,a3 < v∧k (i64.wrap (e + 1)) i7 a3)))→s u)→(drw h fun b =>
 (∃ c1,ce b f 0 (S c1)∧(sadd ([60]) c1 fun h4 =>
 ∃ c2,ce b a 0 (I c2)∧∃ c3,ce b a 1 (S c3)∧∃ c4,ce b a 2 (I c4)∧∃ c5 U T,ce b a 3 (L c5 U T)∧((Cp 176 [.agg ⟨[I c2,S c3,I c4,L c5 U T]⟩] b fun g3 i8 =>
 ∃ c6,rV g3 (S c6)∧(sadd h4 c6 fun h5 =>
 sadd h5 ([62]) fun h6 =>
 (Cp 159 [.pointer d,S h6] i8 fun g4 i9 =>
 ∃ j8 j9,rV g4 (.tuple ⟨[I j8,j9]⟩)∧(s i9))∧True))∧True)))∧(∃ V,ce b a 0 (I V)∧∃ W,ce b a 1 (S W)∧∃ X,ce b a 2 (I X)∧∃ Y r q,ce b a 3 (L Y r q)∧((∃ c7,ce b f 0 (S c7)∧(sadd ([60]) c7 fun h7 =>
 (Cp 176 [.agg ⟨[I V,S W,I X,L Y r q]⟩] b fun g5 j0 =>
 ∃ c8,rV g5 (S c8)∧(sadd h7 c8 fun h8 =>
 sadd h8 ([62]) fun h9 =>
 (Cp 159 [.pointer d,S h9] j0 fun g6 j1 =>
 ∃ k0 k1,rV g6 (.tuple ⟨[I k0,k1]⟩)∧(s j1))∧True))∧True))∧(Cp 176 [.agg ⟨[I V,S W,I X,L Y r q]⟩] b fun g7 a5 =>
 ∃ c9,rV g7 (S c9)∧∃ d0,ce a5 f 0 (S d0)∧(sadd ([60]) d0 fun i0 =>
 sadd i0 c9 fun i1 =>
 sadd i1 ([62]) fun i2 =>
 (Cp 159 [.pointer d,S i2] a5 fun g8 j2 =>
 ∃ k2 k3,rV g8 (.tuple ⟨[I k2,k3]⟩)∧(s j2))∧True))∧True))∧True)) (drw h fun c =>
 (∃ d1,ce c f 0 (S d1)∧(sadd ([60]) d1 fun i3 =>
 ∃ d2,ce c a 0 (I d2)∧∃ d3,ce c a 1 (S d3)∧∃ d4,ce c a 2 (I d4)∧∃ d5 a0 Z,ce c a 3 (L d5 a0 Z)∧((Cp 176 [.agg ⟨[I d2,S d3,I d4,L d5 a0 Z]⟩] c fun g9 j3 =>
 ∃ D,rV g9 (S D)∧(sadd i3 D fun e1 =>
 sadd e1 ([47,62]) fun e2 =>
 (Cp 159 [.pointer d,S e2] j3 fun d6 f0 =>
 ∃ f4 f5,rV d6 (.tuple ⟨[I f4,f5]⟩)∧∃ y,y < v∧k (i64.wrap (e + 1)) f0 y)∧True))∧True)))∧(∃ m,ce c a 0 (I m)∧∃ n,ce c a 1 (S n)∧∃ o,ce c a 2 (I o)∧∃ p j i,ce c a 3 (L p j i)∧((∃ E,ce c f 0 (S E)∧(sadd ([60]) E fun e3 =>
 (Cp 176 [.agg ⟨[I m,S n,I o,L p j i]⟩] c fun d7 f1 =>
 ∃ F,rV d7 (S F)∧(sadd e3 F fun e4 =>
 sadd e4 ([47,62]) fun e5 =>
 (Cp 159 [.pointer d,S e5] f1 fun d8 f2 =>
 ∃ f6 f7,rV d8 (.tuple ⟨[I f6,f7]⟩)∧∃ z,z < v∧k (i64.wrap (e + 1)) f2 z)∧True))∧True))∧(Cp 176 [.agg ⟨[I m,S n,I o,L p j i]⟩] c fun d9 C =>
 ∃ G,rV d9 (S G)∧∃ H,ce C f 0 (S H)∧(sadd ([60]) H fun e6 =>
 sadd e6 G fun e7 =>
 sadd e7 ([47,62]) fun e8 =>
 (Cp 159 [.pointer d,S e8] C fun e0 f3 =>
 ∃ f8 f9,rV e0 (.tuple ⟨[I f8,f9]⟩)∧∃ A,A < v∧k (i64.wrap (e + 1)) f3 A)∧True))∧True))∧True))) (R (rt (.tuple ⟨[]⟩)) l))
theorem qk3 {e b a c d R w} (h:qjr e b a c d R w):Calls prog qe4 ⟨[L e b a,.pointer c,.pointer d]⟩ w R:=qc Tryz.func175 (Eq.mpr (by kernel_rfl:fnV _ _ qjy _ _ _=_) h)
def qpd:Ann:=T F (T F (T (.one (T F (T (T F F) (T F (T (T F F) F))))) (T F F)))
def qn3 (x:Int) (y:LU) (z:Int) (A:OA) (o:Nat) (n:Nat) (R:EP) (w:World):Prop :=
 al w 56 [I x,S y,I z,L A o n] fun m b =>
 ∃ u,ce b m 0 (I u)∧(idx (some (⟨0,0,none⟩)) 12 u 4 fun d =>
 ∃ v,ce b d 0 (S v)∧∃ e,ce b d 1 (B e)∧∃ f,ce b d 2 (B f)∧∃ g,ce b d 3 (B g)∧al b 211 [S [],B false,B false,B false] fun c s =>
 stL s c 0 [S v,B e,B f,B g] fun a =>
 ∃ h,ce a c 1 (B h)∧br h (∃ i,ce a m 1 (S i)∧(sadd ([32]) i fun q =>
 R (rt (S q)) a)) (∃ j,ce a c 2 (B j)∧br j (∃ k,ce a m 2 (I k)∧Cp 59 [I k] a fun p t =>
 ∃ l,rV p (S l)∧(sadd ([32]) l fun r =>
 R (rt (S r)) t)) (R (rt (S [])) a)))
theorem qri {c d e f b a R w} (h:qn3 c d e f b a R w):Calls prog qg0 ⟨[.agg ⟨[I c,S d,I e,L f b a]⟩]⟩ w R:=qc Tryz.func176 (Eq.mpr (by kernel_rfl:fnV _ _ qpd _ _ _=_) h)
def qsi:Ann:=T F (T F (T (T F (.one (.loop 70368744176800 [(5,.one (.slice)),(10,.one (.int .i64))] (T F (T (T F F) (T (.one (T F (.one (T F (T F (T F (T (T F (T F (T F F))) F))))))) F)))))) (T F F)))
def qqm (d5:OA) (l:Nat) (f0:Nat) (c6:OA) (n:OA) (R:EP) (w:World):Prop :=
 ∃ (k:OA→Nat→Nat→Int→World→Nat→Prop),(∃ f1,k none 0 0 0 w f1)∧∀ f d c e i m,k f d c e i m→∀ _:Env,(br (decide ((e:Int) < ((l:Int)))) (idx d5 l e 4 fun j =>
 ∃ U,ce i j 0 (I U)∧∃ V,ce i j 1 (S V)∧∃ W,ce i j 2 (I W)∧∃ X p o,ce i j 3 (L X p o)∧al i 56 [I 0,S [],I 0,L none 0 0] fun a e0 =>
 stL e0 a 0 [I U,S V,I W,L X p o] fun h =>
 ∃ Y,ce h a 0 (I Y)∧∃ Z,ce h a 1 (S Z)∧∃ a0,ce h a 2 (I a0)∧∃ a1 r q,ce h a 3 (L a1 r q)∧Cp 99 [.agg ⟨[I Y,S Z,I a0,L a1 r q]⟩] h fun d2 b =>
 ∃ a2,rB d2 a2∧br a2 (dr c6 fun d6 =>
 ∃ a3 s t,cf b d6 (.func a3 s t)∧∃ a4,ce b a 0 (I a4)∧∃ a5,ce b a 1 (S a5)∧∃ a6,ce b a 2 (I a6)∧∃ a7 v u,ce b a 3 (L a7 v u)∧CallV prog (.func a3 s t) [.agg ⟨[I a4,S a5,I a6,L a7 v u]⟩,.func (.func 178) ⟨[]⟩ ⟨[.pointer n,.pointer (some a)]⟩] b fun d3 e1 =>
 ∃ a8 y x,rV d3 (L a8 y x)∧app prog [43,43] 43 (L f d c) (L a8 y x) e1 fun c9 c1 c0 e2 =>
 ∃ N,N < m∧k c9 c1 c0 (i64.wrap (e + 1)) e2 N) (∃ e8 z c7,ce b a 3 (L e8 z c7)∧br (decide ((0:Int) < (z))) (dr n fun d7 =>
 ∃ a9 A B,cf b d7 (.func a9 A B)∧∃ b0 D C,ce b a 3 (L b0 D C)∧CallV prog (.func a9 A B) [L b0 D C] b fun d4 e3 =>
 ∃ b1 F E,rV d4 (L b1 F E)∧stL e3 (a.add 3) 0 [L b1 F E] fun g =>
 ∃ e9 G c8,ce g a 3 (L e9 G c8)∧br (decide ((0:Int) < (G))) (∃ b2,ce g a 0 (I b2)∧∃ b3,ce g a 1 (S b3)∧∃ b4,ce g a 2 (I b4)∧∃ b5 J H,ce g a 3 (L b5 J H)∧al g 56 [I b2,S b3,I b4,L b5 J H] fun d8 e4 =>
 app prog [43,43] 43 (L f d c) (.slice (some d8) 1 1) e4 fun d0 c3 c2 e5 =>
 ∃ O,O < m∧k d0 c3 c2 (i64.wrap (e + 1)) e5 O) (∃ Q,Q < m∧k f d c (i64.wrap (e + 1)) g Q)) (∃ b6,ce b a 0 (I b6)∧∃ b7,ce b a 1 (S b7)∧∃ b8,ce b a 2 (I b8)∧∃ b9 M K,ce b a 3 (L b9 M K)∧al b 56 [I b6,S b7,I b8,L b9 M K] fun d9 e6 =>
 app prog [43,43] 43 (L f d c) (.slice (some d9) 1 1) e6 fun d1 c5 c4 e7 =>
 ∃ T,T < m∧k d1 c5 c4 (i64.wrap (e + 1)) e7 T))) (R (rt (L f d c)) i))
theorem qu0 {e b a c d R w} (h:qqm e b a c d R w):Calls prog qiq ⟨[L e b a,.pointer c,.pointer d]⟩ w R:=qc Tryz.func177 (Eq.mpr (by kernel_rfl:fnV _ _ qsi _ _ _=_) h)
def qm3:Ann:=T F (T F F)
def qmq (g:OA) (h:OA) (R:EP) (w:World):Prop :=
 dr g fun m =>
 ∃ i a b,cf w m (.func i a b)∧(dr h fun n =>
 ∃ j d c,ce w n 3 (L j d c)∧CallV prog (.func i a b) [L j d c] w fun l o =>
 ∃ k f e,rV l (L k f e)∧R (rt (L k f e)) o)
theorem qo8 {a b R w} (h:qmq a b R w):Calls prog qpv ⟨[.pointer a,.pointer b]⟩ w R:=qc Tryz.func178 (Eq.mpr (by kernel_rfl:fnV _ _ qm3 _ _ _=_) h)
def qpg:Ann:=T F (T F (T (T F (.one (.loop 288230376151711336 [(3,.one (.slice)),(9,.one (.int .i64))] (T F (T (T F F) (T (.one (T F (.cut 2088960 [] (T F (T F F)) (T (T F (.cut 549739036672 [(38,.one (.bool))] F (T (T F F) F))) (T F F))))) F)))))) (T F F)))
def qn6 (a2:OA) (o:Nat) (b4:Nat) (R:EP) (w:World):Prop :=
 ∃ (m:OA→Nat→Nat→Int→World→Nat→Prop),(∃ b5,m none 0 0 0 w b5)∧∀ b a c e j z,m b a c e j z→∀ _:Env,(br (decide ((e:Int) < ((o:Int)))) (idx a2 o e 4 fun A =>
 ∃ b3,ce j A 0 (I b3)∧∃ E,ce j A 1 (S E)∧∃ F,ce j A 2 (I F)∧∃ G r q,ce j A 3 (L G r q)∧al j 56 [I 0,S [],I 0,L none 0 0] fun d a8 =>
 stL a8 d 0 [I b3,S E,I F,L G r q] fun h =>
 ∀ (n:WP),(∀ (f:World),(∀ _:Env,(∀ (k:Bool→World→Prop),(∀ (g:Bool) (l:World),(∀ _:Env,(br g (drw l fun p =>
 idx b a (i64.wrap (((a:Int)) - 1)) 4 fun a3 =>
 ∃ H,ce p a3 1 (S H)∧∃ J,ce p d 1 (S J)∧(sadd H J fun a7 =>
 idx b a (i64.wrap (((a:Int)) - 1)) 4 fun a4 =>
 (stL p (a4.add 1) 0 [S a7] fun a9 =>
 ∃ B,B < z∧m b a c (i64.wrap (e + 1)) a9 B)∧True)) (∃ K t s,ce l d 3 (L K t s)∧Cp 179 [L K t s] l fun a1 b0 =>
 ∃ M v u,rV a1 (L M v u)∧stL b0 (d.add 3) 0 [L M v u] fun i =>
 ∃ N,ce i d 0 (I N)∧∃ O,ce i d 1 (S O)∧∃ Q,ce i d 2 (I Q)∧∃ T y x,ce i d 3 (L T y x)∧al i 56 [I N,S O,I Q,L T y x] fun a5 b1 =>
 app prog [43,43] 43 (L b a c) (.slice (some a5) 1 1) b1 fun a0 Z Y b2 =>
 ∃ C,C < z∧m a0 Z Y (i64.wrap (e + 1)) b2 C)))→k g l)→(br (decide ((0:Int)≤(i64.wrap (((a:Int)) - 1)))) (∃ U,ce f d 0 (I U)∧br (decide (U=1)) (idx b a (i64.wrap (((a:Int)) - 1)) 4 fun a6 =>
 ∃ V,ce f a6 0 (I V)∧(k (decide (V=1)) f)) (k false f)) (k false f))))→n f)→(∃ W,ce h d 0 (I W)∧br (decide (W=1)) (∃ X,ce h d 1 (S X)∧br (decide (X=([]))) (∃ D,D < z∧m b a c (i64.wrap (e + 1)) h D) (n h)) (n h))) (R (rt (L b a c)) j))
theorem qgs {c b a R w} (h:qn6 c b a R w):Calls prog qdt ⟨[L c b a]⟩ w R:=qc Tryz.func179 (Eq.mpr (by kernel_rfl:fnV _ _ qpg _ _ _=_) h)
def qpm:Ann:=T F (T (T F (.one (.loop 524236 [(6,.one (.int .i64))] (T F (T (T F F) (T (.one (T F (T F (.one (T (T F (T F (T F (T F (T F (T F F)))))) (T F (T F F))))))) F)))))) (T F F))
def qoc (j:LU) (R:EP) (w:World):Prop :=
 ∃ (d:Int→World→Nat→Prop),(∃ n,d 0 w n)∧∀ a k e,d a k e→∀ _:Env,(br (decide ((a:Int) < ((List.length j:Int)))) (sidx j a fun l =>
 Cp 184 [.int .u8 ((l.toNat:Int))] k fun m c =>
 ∃ b,rI m b∧br (decide (b=1)) (br (decide (b=1)) (∃ f,f < e∧d (i64.wrap (a + 1)) c f) (R (rt (B false)) c)) (br (decide (b=2)) (br (decide (b=2)) (∃ g,g < e∧d (i64.wrap (a + 1)) c g) (R (rt (B false)) c)) (br (decide (b=3)) (br (decide (b=3)) (∃ h,h < e∧d (i64.wrap (a + 1)) c h) (R (rt (B false)) c)) (br (decide (b=4)) (∃ i,i < e∧d (i64.wrap (a + 1)) c i) (R (rt (B false)) c))))) (R (rt (B true)) k))
theorem qrq {a R w} (h:qoc a R w):Calls prog qg8 ⟨[S a]⟩ w R:=qc Tryz.func180 (Eq.mpr (by kernel_rfl:fnV _ _ qpm _ _ _=_) h)
def qr8:Ann:=T F (T F (T F F))
def qqb (a:Int) (R:EP) (w:World):Prop :=
 Cp 184 [.int .u8 a] w fun e g =>
 ∃ c,rI e c∧(Cp 183 [.int .u8 a] g fun f b =>
 ∃ d,rB f d∧br d (R (rt (B true)) b) (br (decide (c=2)) (R (rt (B true)) b) (R (rt (.bool (decide (c=4)))) b)))
theorem quq {a R w} (h:qqb a R w):Calls prog qig ⟨[.int .u8 a]⟩ w R:=qc Tryz.func181 (Eq.mpr (by kernel_rfl:fnV _ _ qr8 _ _ _=_) h)
def qfo:Ann:=T F (T F (T F (T F F)))
def qfj (a:OA) (f:Int) (R:EP) (w:World):Prop :=
 Cp 200 [.pointer a] w fun m j =>
 m=.returned (.tuple ⟨[]⟩)∧(dr a fun n =>
 ∃ k c b,ce j n 1 (L k c b)∧al j 5 [.int .u8 f] fun o p =>
 app prog [114,114] 114 (L k c b) (.slice (some o) 1 1) p fun l e d h =>
 dr a fun g =>
 stL h (g.add 1) 0 [L l e d] fun i =>
 R (rt (.nilIface)) i)
theorem qf3 {a b R w} (h:qfj a b R w):Calls prog qck ⟨[.pointer a,.int .u8 b]⟩ w R:=qc Tryz.func182 (Eq.mpr (by kernel_rfl:fnV _ _ qfo _ _ _=_) h)
def qpk:Ann:=T F (T F (T F F))
def qoa (b:Int) (R:EP) (w:World):Prop :=
 Cp 184 [.int .u8 b] w fun d c =>
 ∃ a,rI d a∧(br (decide (a=1)) (R (rt (B true)) c) (R (rt (.bool (decide (a=3)))) c))
theorem qro {a R w} (h:qoa a R w):Calls prog qg6 ⟨[.int .u8 a]⟩ w R:=qc Tryz.func183 (Eq.mpr (by kernel_rfl:fnV _ _ qpk _ _ _=_) h)
def q1h:Ann:=T F (T (.one (.cut 262136 [(3,.one (.bool))] F (T (T F F) (.cut 536608768 [(18,.one (.bool))] F (T (T F F) (.cut 68182605824 [(29,.one (.bool))] F (T (T F F) (T F (T (T F F) (T F (T (T F F) (T F (T (T F F) F))))))))))))) (T F F))
def qka (a:Int) (R:EP) (w:World):Prop :=
 ∀ (e:Bool→World→Prop),(∀ (f:Bool) (g:World),(∀ _:Env,(br f (R (rt (I 1)) g) (∀ (h:Bool→World→Prop),(∀ (c:Bool) (i:World),(∀ _:Env,(br c (R (rt (I 2)) i) (∀ (l:Bool→World→Prop),(∀ (d:Bool) (b:World),(∀ _:Env,(br d (R (rt (I 3)) b) (br (decide ((a:Int)=39)) (R (rt (I 4)) b) (br (decide ((a:Int)=32)) (R (rt (I 6)) b) (br (decide ((a:Int)≠0)) (Cp 220 [S [46,44,59,58,33,63,40,41,45],.int .u8 a] b fun m j =>
 ∃ k,rI m k∧br (decide ((0:Int)≤k)) (R (rt (I 5)) j) (R (rt (I 0)) j)) (R (rt (I 0)) b))))))→l d b)→(br (decide ((48:Int)≤a)) (l (decide ((a:Int)≤57)) i) (l false i)))))→h c i)→(br (decide ((a:Int)=94)) (h true g) (br (decide ((a:Int)=126)) (h true g) (h (decide ((a:Int)=37)) g))))))→e f g)→(br (decide ((97:Int)≤a)) (br (decide ((a:Int)≤122)) (e true w) (br (decide ((65:Int)≤a)) (e (decide ((a:Int)≤90)) w) (e false w))) (br (decide ((65:Int)≤a)) (e (decide ((a:Int)≤90)) w) (e false w)))
theorem q3s {a R w} (h:qka a R w):Calls prog qnv ⟨[.int .u8 a]⟩ w R:=qc Tryz.func184 (Eq.mpr (by kernel_rfl:fnV _ _ q1h _ _ _=_) h)
def qsd:Ann:=T F (T (T F (T F (T (T F F) F))) (T F F))
def qqg (c:OA) (b:Nat) (a:Nat) (d:LU) (R:EP) (w:World):Prop :=
 Cp 221 [L c b a,S d] w fun k h =>
 ∃ g,rI k g∧(br (decide (g≠0)) (R (rt (.tuple ⟨[L none 0 0,I g]⟩)) h) (Cp 222 [L c b a,S d] h fun l m =>
 ∃ i f e j,rV l (.tuple ⟨[L i f e,I j]⟩)∧R (rt (.tuple ⟨[L i f e,I j]⟩)) m))
theorem quv {c b a d R w} (h:qqg c b a d R w):Calls prog qvd ⟨[L c b a,S d]⟩ w R:=qc Tryz.func185 (Eq.mpr (by kernel_rfl:fnV _ _ qsd _ _ _=_) h)
def q07:Ann:=T F (T F (T (T F (.one (.loop 34359738360 [(3,.one (.slice)),(4,.one (.int .i64))] (T (T F (T F F)) (T (.one (T F (.one (.cut 251658240 [(24,.one (.bool))] (T F (T F (T F (T F F)))) (T F F))))) F))))) (T F F)))
def qyv (l:OA) (f:Nat) (V:Nat) (R:EP) (w:World):Prop :=
 ∃ (s:OA→Nat→Nat→Int→World→Nat→Prop),(∃ W,s none 0 0 0 w W)∧∀ d b a e j G,s d b a e j G→∀ _:Env,(br (decide ((e:Int) < ((f:Int)))) (idx l f e 4 fun X =>
 ∃ k,ce j X 0 (I k)∧∀ (h:Bool→World→Prop),(∀ (g:Bool) (c:World),(∀ _:Env,(br g (idx l f e 4 fun i =>
 ∃ v,ce c i 0 (I v)∧∃ x,ce c i 1 (S x)∧∃ y,ce c i 2 (I y)∧∃ z n m,ce c i 3 (L z n m)∧al c 56 [I v,S x,I y,L z n m] fun M O =>
 app prog [43,43] 43 (L d b a) (.slice (some M) 1 1) O fun H D C Q =>
 ∃ t,t < G∧s H D C (i64.wrap (e + 1)) Q t) (idx l f e 4 fun N =>
 ∃ A p o,ce c N 3 (L A p o)∧Cp 186 [L A p o] c fun K T =>
 ∃ B r q,rV K (L B r q)∧app prog [43,43] 43 (L d b a) (L B r q) T fun J F E U =>
 ∃ u,u < G∧s J F E (i64.wrap (e + 1)) U u)))→h g c)→(br (decide (k=2)) (h (decide (k=2)) j) (br (decide (k=3)) (h (decide (k=3)) j) (h (decide (k=4)) j)))) (R (rt (L d b a)) j))
theorem q3j {c b a R w} (h:qyv c b a R w):Calls prog qnm ⟨[L c b a]⟩ w R:=qc Tryz.func186 (Eq.mpr (by kernel_rfl:fnV _ _ q07 _ _ _=_) h)
def q81:Ann:=T F (T (T F (T (T F F) F)) (T F (T F F)))
def q6p (q:Int) (r:LU) (s:Int) (t:OA) (l:Nat) (k:Nat) (c:OA) (a:Nat) (b:Nat) (R:EP) (w:World):Prop :=
 al w 56 [I q,S r,I s,L t l k] fun d o =>
 br (decide ((((a:Int)):Int)=0)) (R (rt (L none 0 0)) o) (stL o (d.add 3) 0 [L c a b] fun e =>
 ∃ p,ce e d 0 (I p)∧∃ h,ce e d 1 (S h)∧∃ i,ce e d 2 (I i)∧∃ j g f,ce e d 3 (L j g f)∧al e 56 [I p,S h,I i,L j g f] fun m n =>
 R (rt (.slice (some m) 1 1)) n)
theorem c_ref11_part {f g i j e d c b a R w} (h:q6p f g i j e d c b a R w):Calls prog qv2 ⟨[.agg ⟨[I f,S g,I i,L j e d]⟩,L c b a]⟩ w R:=qc Tryz.func187 (Eq.mpr (by kernel_rfl:fnV _ _ q81 _ _ _=_) h)
def q4e:Ann:=T F (T (T F (T (T F F) F)) (T F (T (T F (.one (.loop 17179867188 [(4,.one (.int .i64))] (T (T F (T F F)) (T (.one (T F (T F (T (T F F) F)))) F))))) (T F F))))
def q2t (c:LU) (R:EP) (w:World):Prop :=
 br (decide ((65536:Int) < ((List.length c:Int)))) (R (rt (I 4)) w) (Cp 226 [S c] w fun q s =>
 ∃ o i p,rV q (L o i p)∧∃ (e:Int→World→Nat→Prop),(∃ r,e 0 s r)∧∀ a k j,e a k j→∀ _:Env,(br (decide ((a:Int) < ((List.length c:Int)))) (sidx c a fun l =>
 Cp 166 [.int .u8 ((l.toNat:Int))] k fun m b =>
 ∃ d,rI m d∧br (decide (d=0)) (R (rt (I 11)) b) (br (decide (d=2)) (idx o i a 1 fun n =>
 ∃ h,cf b n (B h)∧br (!h) (R (rt (I 11)) b) (∃ f,f < j∧e (i64.wrap (a + 1)) b f)) (∃ g,g < j∧e (i64.wrap (a + 1)) b g))) (R (rt (I 0)) k)))
theorem q8k {a R w} (h:q2t a R w):Calls prog qta ⟨[S a]⟩ w R:=qc Tryz.func192 (Eq.mpr (by kernel_rfl:fnV _ _ q4e _ _ _=_) h)
def q08:Ann:=T F (.cut 562949953421248 [] (T F (T (T F F) F)) (.cut 295147342229399404608 [] (T F (T (T F F) F)) (T (T F (.one (T F (T (T (T F (T (T F F) F)) (T F (T (T F F) F))) (.cut 2266735911777429702574080 [(77,.one (.bool))] (T F (T F (T F (T F F)))) (T (T (T F (T (T F F) F)) (T F (T (T F F) F))) (T F (T (T F (T (T F F) F)) (T F (T (T F (T (T F F) F)) (.cut 1135814937804493543741046072016896 [(107,.one (.bool))] (T F (T F F)) (T (T F (T (T F F) F)) F)))))))))))) (T F F))))
def qyw (e9:Int) (f0:LU) (f1:Int) (f2:OA) (d0:Nat) (c9:Nat) (p:Bool) (q:Bool) (R:EP) (w:World):Prop :=
 al w 56 [I e9,S f0,I f1,L f2 d0 c9] fun a d =>
 ∀ (j:WP),(∀ (e:World),(∀ _:Env,(∀ (k:WP),(∀ (g:World),(∀ _:Env,(∃ c,ce g a 0 (I c)∧br (decide (c=1)) (∃ J,ce g a 1 (S J)∧Cp 192 [S J] g fun d1 v =>
 ∃ K,rI d1 K∧br (decide (K≠0)) (R (rt (I 11)) v) (br p (R (rt (I 10)) v) (R (rt (I 0)) v))) (∀ (r:Bool→World→Prop),(∀ (l:Bool) (b:World),(∀ _:Env,(br l (∃ M,ce b a 1 (S M)∧Cp 93 [S M] b fun d2 m =>
 ∃ N,rB d2 N∧br (!N) (R (rt (I 14)) m) (br q (∃ O,ce m a 0 (I O)∧br (decide (O=4)) (R (rt (I 12)) m) (R (rt (I 0)) m)) (R (rt (I 0)) m))) (br (decide (c=10)) (∃ Q,ce b a 1 (S Q)∧Cp 149 [S Q] b fun d3 D =>
 ∃ T,rB d3 T∧br (!T) (R (rt (I 14)) D) (R (rt (I 0)) D)) (br (decide (c=6)) (∃ U,ce b a 2 (I U)∧br (decide (U < 1)) (R (rt (I 2)) b) (∃ V,ce b a 2 (I V)∧br (decide ((64:Int) < V)) (R (rt (I 2)) b) (R (rt (I 0)) b))) (∀ (u:Bool→World→Prop),(∀ (i:Bool) (h:World),(∀ _:Env,(br i (∃ W,ce h a 2 (I W)∧br (decide (W < 1)) (R (rt (I 2)) h) (∃ X,ce h a 2 (I X)∧br (decide ((8:Int) < X)) (R (rt (I 2)) h) (R (rt (I 0)) h))) (R (rt (I 0)) h)))→u i h)→(br (decide (c=8)) (u (decide (c=8)) b) (u (decide (c=9)) b)))))))→r l b)→(br (decide (c=3)) (r (decide (c=3)) g) (br (decide (c=4)) (r (decide (c=4)) g) (r (decide (c=11)) g))))))→k g)→(∃ Y,ce e a 0 (I Y)∧br (decide (Y=1)) (∃ Z,ce e a 1 (S Z)∧br (decide (Z=([]))) (R (rt (I 5)) e) (∃ a0,ce e a 0 (I a0)∧Cp 197 [I a0] e fun d4 s =>
 ∃ a1,rB d4 a1∧br a1 (∃ e3 x c3,ce s a 3 (L e3 x c3)∧br (decide (((x):Int)=0)) (R (rt (I 5)) s) (k s)) (k s))) (∃ a2,ce e a 0 (I a2)∧Cp 197 [I a2] e fun d5 t =>
 ∃ a3,rB d5 a3∧br a3 (∃ e4 y c4,ce t a 3 (L e4 y c4)∧br (decide (((y):Int)=0)) (R (rt (I 5)) t) (k t)) (k t)))))→j e)→(∃ a4,ce d a 0 (I a4)∧br (decide (a4 < 1)) (R (rt (I 8)) d) (∃ a5,ce d a 0 (I a5)∧br (decide ((11:Int) < a5)) (R (rt (I 8)) d) (∃ a6,ce d a 1 (S a6)∧br (decide (a6≠([]))) (∃ a7,ce d a 0 (I a7)∧Cp 195 [I a7] d fun d6 f =>
 ∃ a8,rB d6 a8∧br (!a8) (R (rt (I 8)) f) (∃ a9,ce f a 2 (I a9)∧br (decide (a9≠0)) (∃ b0,ce f a 0 (I b0)∧Cp 196 [I b0] f fun d7 n =>
 ∃ b1,rB d7 b1∧br (!b1) (R (rt (I 8)) n) (∃ e5 z c5,ce n a 3 (L e5 z c5)∧br (decide ((0:Int) < (z))) (∃ b2,ce n a 0 (I b2)∧Cp 197 [I b2] n fun d8 E =>
 ∃ b3,rB d8 b3∧br (!b3) (R (rt (I 8)) E) (j E)) (j n))) (∃ e6 A c6,ce f a 3 (L e6 A c6)∧br (decide ((0:Int) < (A))) (∃ b4,ce f a 0 (I b4)∧Cp 197 [I b4] f fun d9 F =>
 ∃ b5,rB d9 b5∧br (!b5) (R (rt (I 8)) F) (j F)) (j f)))) (∃ b6,ce d a 2 (I b6)∧br (decide (b6≠0)) (∃ b7,ce d a 0 (I b7)∧Cp 196 [I b7] d fun e0 o =>
 ∃ b8,rB e0 b8∧br (!b8) (R (rt (I 8)) o) (∃ e7 B c7,ce o a 3 (L e7 B c7)∧br (decide ((0:Int) < (B))) (∃ b9,ce o a 0 (I b9)∧Cp 197 [I b9] o fun e1 G =>
 ∃ c0,rB e1 c0∧br (!c0) (R (rt (I 8)) G) (j G)) (j o))) (∃ e8 C c8,ce d a 3 (L e8 C c8)∧br (decide ((0:Int) < (C))) (∃ c1,ce d a 0 (I c1)∧Cp 197 [I c1] d fun e2 H =>
 ∃ c2,rB e2 c2∧br (!c2) (R (rt (I 8)) H) (j H)) (j d))))))
theorem q3k {e f g i d c a b R w} (h:qyw e f g i d c a b R w):Calls prog qnn ⟨[.agg ⟨[I e,S f,I g,L i d c]⟩,B a,B b]⟩ w R:=qc Tryz.func193 (Eq.mpr (by kernel_rfl:fnV _ _ q08 _ _ _=_) h)
def q83:Ann:=T F (T F F)
def q6r (a:Int) (R:EP) (w:World):Prop :=
 al w 9 [S [],S [],S [108,98],S [112,98],S [115,101,99],S [118],S [103,97,112],S [117,110,99,108,101,97,114],S [97,100,100],S [100,101,108],S [97,98],S [110,97,109,101]] fun d b =>
 idx (some d) 12 a 1 fun e =>
 ∃ c,cf b e (S c)∧(R (rt (S c)) b)
theorem c_ref10_name {a R w} (h:q6r a R w):Calls prog qv4 ⟨[I a]⟩ w R:=qc Tryz.func194 (Eq.mpr (by kernel_rfl:fnV _ _ q83 _ _ _=_) h)
def q37:Ann:=T F (T F F)
def q2m (a:Int) (R:EP) (w:World):Prop :=
 br (decide ((a:Int)=1)) (R (rt (B true)) w) (br (decide ((a:Int)=3)) (R (rt (B true)) w) (br (decide ((a:Int)=4)) (R (rt (B true)) w) (br (decide ((a:Int)=10)) (R (rt (B true)) w) (R (rt (.bool (decide ((a:Int)=11)))) w))))
theorem q8e {a R w} (h:q2m a R w):Calls prog qs5 ⟨[I a]⟩ w R:=qc Tryz.func195 (Eq.mpr (by kernel_rfl:fnV _ _ q37 _ _ _=_) h)
def qxi:Ann:=T F (T F F)
def qwm (a:Int) (R:EP) (w:World):Prop :=
 br (decide ((a:Int)=6)) (R (rt (B true)) w) (br (decide ((a:Int)=8)) (R (rt (B true)) w) (R (rt (.bool (decide ((a:Int)=9)))) w))
theorem q0p {a R w} (h:qwm a R w):Calls prog qlv ⟨[I a]⟩ w R:=qc Tryz.func196 (Eq.mpr (by kernel_rfl:fnV _ _ qxi _ _ _=_) h)
def q39:Ann:=T F (T F F)
def q2o (a:Int) (R:EP) (w:World):Prop :=
 br (decide ((7:Int)≤a)) (R (rt (.bool (decide ((a:Int)≤11)))) w) (R (rt (B false)) w)
theorem q8g {a R w} (h:q2o a R w):Calls prog qs6 ⟨[I a]⟩ w R:=qc Tryz.func197 (Eq.mpr (by kernel_rfl:fnV _ _ q39 _ _ _=_) h)
def q1c:Ann:=T F (T F F)
def qy0 (a:LU) (R:EP) (w:World):Prop :=
 al w 9 [S a] fun b c =>
 R (rt (.func (.func 232) ⟨[]⟩ ⟨[.pointer (some b)]⟩)) c
theorem q3o {a R w} (h:qy0 a R w):Calls prog qnq ⟨[S a]⟩ w R:=qc Tryz.func205 (Eq.mpr (by kernel_rfl:fnV _ _ q1c _ _ _=_) h)
def q4h:Ann:=T F (T F (T F (.cut 133169248 [(5,.one (.str))] (T F (T F (T F F))) (T F (T (T F (T (T F F) F)) (T F (.cut 1924145348608 [] (T F (T F F)) (.cut 18012199486233600 [] (T F (T F (T F (T F (T F F))))) (T (T F (T (T F F) F)) (T F F))))))))))
def q2w (d:LU) (R:EP) (w:World):Prop :=
 al w 202 [I 0,S [],S [],I 0] fun b h6 =>
 ssl d 1 (i64.wrap (((List.length d:Int)) - 1)) fun g1 =>
 Cp 233 [S g1,S [47]] h6 fun h5 h7 =>
 ∃ N,rV h5 (S N)∧(∀ (f5:LU→World→Prop),(∀ (j:LU) (O:World),(∀ _:Env,(Cp 235 [S j] O fun g7 h2 =>
 ∃ T U V W,rV g7 (.tuple ⟨[.agg ⟨[S T,B U,V]⟩,B W]⟩)∧al h2 262 [S [],B false,.nilFunc] fun t h3 =>
 stL h3 t 0 [S T,B U,V] fun z =>
 br (!W) (stL z b 0 [I 0,S [],S [],I 0] fun k =>
 ∃ X,ce k b 0 (I X)∧∃ Y,ce k b 1 (S Y)∧∃ Z,ce k b 2 (S Z)∧∃ a0,ce k b 3 (I a0)∧R (rt (.tuple ⟨[.agg ⟨[I X,S Y,S Z,I a0]⟩,I 12]⟩)) k) (∃ a1,ce z t 0 (S a1)∧al z 202 [I 0,S [],S [],I 0] fun a h4 =>
 stL h4 a 0 [I 2,S a1,S [],I 0] fun A =>
 ∀ (u:WP),(∀ (Q:World),(∀ _:Env,(∀ (s:WP),(∀ (c:World),(∀ _:Env,(∃ a2,ce c a 0 (I a2)∧br (decide (a2=3)) (∃ a3,ce c t 1 (B a3)∧br a3 (stL c b 0 [I 0,S [],S [],I 0] fun l =>
 ∃ a4,ce l b 0 (I a4)∧∃ a5,ce l b 1 (S a5)∧∃ a6,ce l b 2 (S a6)∧∃ a7,ce l b 3 (I a7)∧R (rt (.tuple ⟨[.agg ⟨[I a4,S a5,S a6,I a7]⟩,I 3]⟩)) l) (∃ a8,ce c a 0 (I a8)∧∃ a9,ce c a 1 (S a9)∧∃ b0,ce c a 2 (S b0)∧∃ b1,ce c a 3 (I b1)∧Cp 238 [.agg ⟨[I a8,S a9,S b0,I b1]⟩] c fun g8 f =>
 ∃ b2,rB g8 b2∧br (!b2) (stL f b 0 [I 0,S [],S [],I 0] fun m =>
 ∃ b3,ce m b 0 (I b3)∧∃ b4,ce m b 1 (S b4)∧∃ b5,ce m b 2 (S b5)∧∃ b6,ce m b 3 (I b6)∧R (rt (.tuple ⟨[.agg ⟨[I b3,S b4,S b5,I b6]⟩,I 3]⟩)) m) (∃ b7,ce f a 0 (I b7)∧∃ b8,ce f a 1 (S b8)∧∃ b9,ce f a 2 (S b9)∧∃ c0,ce f a 3 (I c0)∧Cp 239 [.agg ⟨[I b7,S b8,S b9,I c0]⟩] f fun g9 g =>
 ∃ c1,rV g9 (S c1)∧br (decide (c1≠d)) (stL g b 0 [I 0,S [],S [],I 0] fun n =>
 ∃ c2,ce n b 0 (I c2)∧∃ c3,ce n b 1 (S c3)∧∃ c4,ce n b 2 (S c4)∧∃ c5,ce n b 3 (I c5)∧R (rt (.tuple ⟨[.agg ⟨[I c2,S c3,S c4,I c5]⟩,I 3]⟩)) n) (∃ c6,ce g a 0 (I c6)∧∃ c7,ce g a 1 (S c7)∧∃ c8,ce g a 2 (S c8)∧∃ c9,ce g a 3 (I c9)∧stL g b 0 [I c6,S c7,S c8,I c9] fun o =>
 ∃ d0,ce o b 0 (I d0)∧∃ d1,ce o b 1 (S d1)∧∃ d2,ce o b 2 (S d2)∧∃ d3,ce o b 3 (I d3)∧R (rt (.tuple ⟨[.agg ⟨[I d0,S d1,S d2,I d3]⟩,I 0]⟩)) o)))) (∃ d4,ce c a 0 (I d4)∧∃ d5,ce c a 1 (S d5)∧∃ d6,ce c a 2 (S d6)∧∃ d7,ce c a 3 (I d7)∧Cp 238 [.agg ⟨[I d4,S d5,S d6,I d7]⟩] c fun h0 h =>
 ∃ d8,rB h0 d8∧br (!d8) (stL h b 0 [I 0,S [],S [],I 0] fun p =>
 ∃ d9,ce p b 0 (I d9)∧∃ e0,ce p b 1 (S e0)∧∃ e1,ce p b 2 (S e1)∧∃ e2,ce p b 3 (I e2)∧R (rt (.tuple ⟨[.agg ⟨[I d9,S e0,S e1,I e2]⟩,I 3]⟩)) p) (∃ e3,ce h a 0 (I e3)∧∃ e4,ce h a 1 (S e4)∧∃ e5,ce h a 2 (S e5)∧∃ e6,ce h a 3 (I e6)∧Cp 239 [.agg ⟨[I e3,S e4,S e5,I e6]⟩] h fun h1 i =>
 ∃ e7,rV h1 (S e7)∧br (decide (e7≠d)) (stL i b 0 [I 0,S [],S [],I 0] fun q =>
 ∃ e8,ce q b 0 (I e8)∧∃ e9,ce q b 1 (S e9)∧∃ f0,ce q b 2 (S f0)∧∃ f1,ce q b 3 (I f1)∧R (rt (.tuple ⟨[.agg ⟨[I e8,S e9,S f0,I f1]⟩,I 3]⟩)) q) (∃ f2,ce i a 0 (I f2)∧∃ f3,ce i a 1 (S f3)∧∃ f4,ce i a 2 (S f4)∧∃ C,ce i a 3 (I C)∧stL i b 0 [I f2,S f3,S f4,I C] fun e =>
 ∃ D,ce e b 0 (I D)∧∃ E,ce e b 1 (S E)∧∃ F,ce e b 2 (S F)∧∃ G,ce e b 3 (I G)∧R (rt (.tuple ⟨[.agg ⟨[I D,S E,S F,I G]⟩,I 0]⟩)) e)))))→s c)→(Cp 202 [S g1,S [47]] Q fun f6 v =>
 ∃ H,rB f6 H∧br H (stL v (a.add 0) 0 [I 3] fun g2 =>
 s g2) (Cp 237 [S g1,S [47]] v fun f7 g3 =>
 ∃ J,rV f7 (S J)∧Cp 236 [S J,S [32]] g3 fun f8 x =>
 ∃ g6 K L,rV f8 (.tuple ⟨[S g6,S K,B L]⟩)∧br L (stL x (a.add 2) 0 [S K] fun g4 =>
 s g4) (s x)))))→u Q)→(∃ M,ce A t 1 (B M)∧br M (stL A (a.add 0) 0 [I 4] fun g5 =>
 u g5) (u A)))))→f5 j O)→(Cp 234 [S N,S [32,47]] h7 fun f9 y =>
 ∃ r,rI f9 r∧br (decide ((0:Int)≤r)) (ssl N 0 r fun g0 =>
 f5 g0 y) (f5 N y)))
theorem q8n {a R w} (h:q2w a R w):Calls prog qtc ⟨[S a]⟩ w R:=qc Tryz.func206 (Eq.mpr (by kernel_rfl:fnV _ _ q4h _ _ _=_) h)
def q1d:Ann:=T F (T F (T (T F (.one (.loop 9007199254740604 [(3,.one (.int .i64)),(9,.one (.int .i64))] (T F (T (T F F) (T (.one (T F (T (T F (T F (T (T F F) F))) (.cut 34359214084 [] (T F (T (T F F) F)) (.cut 8761733283844 [] (T F (T (T F F) F)) (T (T F (T (T F F) F)) F)))))) F)))))) (T (T F (T (T F F) F)) (T F F))))
def qy1 (n:OA) (i:Nat) (Z:Nat) (R:EP) (w:World):Prop :=
 ∃ (N:Int→Int→World→Nat→Prop),(∃ a0,N 0 0 w a0)∧∀ f b h U,N f b h U→∀ _:Env,(br (decide ((b:Int) < ((i:Int)))) (idx n i b 4 fun m =>
 ∃ Y,ce h m 0 (I Y)∧∃ q,ce h m 1 (S q)∧∃ r,ce h m 2 (S r)∧∃ s,ce h m 3 (I s)∧al h 202 [I 0,S [],S [],I 0] fun a W =>
 stL W a 0 [I Y,S q,S r,I s] fun g =>
 ∃ t,ce g a 0 (I t)∧∃ u,ce g a 1 (S u)∧∃ v,ce g a 2 (S v)∧∃ x,ce g a 3 (I x)∧Cp 240 [.agg ⟨[I t,S u,S v,I x]⟩] g fun O e =>
 ∃ l,rI O l∧br (decide (l≠0)) (R (rt (I l)) e) (∀ (j:WP),(∀ (c:World),(∀ _:Env,(∀ (k:WP),(∀ (d:World),(∀ _:Env,(∃ y,ce d a 3 (I y)∧br (decide (y≠f)) (R (rt (I 9)) d) (∃ z,ce d a 0 (I z)∧∃ A,ce d a 1 (S A)∧∃ B,ce d a 2 (S B)∧∃ C,ce d a 3 (I C)∧Cp 239 [.agg ⟨[I z,S A,S B,I C]⟩] d fun Q X =>
 ∃ D,rV Q (S D)∧∃ o,o < U∧N (i64.wrap (f + ((List.length D:Int)))) (i64.wrap (b + 1)) X o)))→k d)→(∃ E,ce c a 0 (I E)∧br (decide (E≠1)) (∃ F,ce c a 0 (I F)∧∃ G,ce c a 1 (S G)∧∃ H,ce c a 2 (S H)∧∃ J,ce c a 3 (I J)∧Cp 238 [.agg ⟨[I F,S G,S H,I J]⟩] c fun T p =>
 ∃ K,rB T K∧br (!K) (R (rt (I 3)) p) (k p)) (k c))))→j c)→(∃ L,ce e a 0 (I L)∧br (decide (L=1)) (br (decide ((0:Int) < b)) (idx n i (i64.wrap (b - 1)) 4 fun V =>
 ∃ M,ce e V 0 (I M)∧br (decide (M=1)) (R (rt (I 10)) e) (j e)) (j e)) (j e)))) (br (decide ((65536:Int) < f)) (R (rt (I 4)) h) (R (rt (I 0)) h)))
theorem q3p {c b a R w} (h:qy1 c b a R w):Calls prog qnr ⟨[L c b a]⟩ w R:=qc Tryz.func207 (Eq.mpr (by kernel_rfl:fnV _ _ q1d _ _ _=_) h)
def qa2:Ann:=T F (T (T F (.one (.loop 524080 [(8,.one (.int .i64))] (T F (T (T F F) (T (.one (T F (T F (T (T F F) F)))) F)))))) (T F F))
def qa0 (q:OA) (c:Nat) (t:Nat) (o:Fn) (l:Array Value) (m:Array Value) (R:EP) (w:World):Prop :=
 ∃ (k:Int→World→Nat→Prop),(∃ s,k 0 w s)∧∀ a b p,k a b p→∀ _:Env,(br (decide ((a:Int) < ((c:Int)))) (idx q c a 4 fun d =>
 ∃ r,ce b d 0 (S r)∧∃ g,ce b d 1 (B g)∧∃ h,ce b d 2 (B h)∧∃ i,ce b d 3 (B i)∧CallV prog (.func o l m) [.agg ⟨[S r,B g,B h,B i]⟩] b fun n f =>
 ∃ j,rB n j∧br j (R (rt (I a)) f) (∃ e,e < p∧k (i64.wrap (a + 1)) f e)) (R (rt (.int .i64 ((-1)))) b))
theorem qa4 {f d c e a b R w} (h:qa0 f d c e a b R w):Calls prog qac ⟨[L f d c,.func e a b]⟩ w R:=qc Tryz.func208 (Eq.mpr (by kernel_rfl:fnV _ _ qa2 _ _ _=_) h)
def qmw:Ann:=T F (T F F)
def qmk (e:LU) (f:Bool) (g:Bool) (h:Bool) (d:OA) (R:EP) (w:World):Prop :=
 al w 211 [S e,B f,B g,B h] fun i a =>
 ∃ j,ce a i 0 (S j)∧(dr d fun k =>
 ∃ b,ce a k 1 (S b)∧br (decide (j=b)) (∃ c,ce a i 0 (S c)∧R (rt (.bool (decide (c≠([]))))) a) (R (rt (B false)) a))
theorem qo1 {b c d e a R w} (h:qmk b c d e a R w):Calls prog qc4 ⟨[.agg ⟨[S b,B c,B d,B e]⟩,.pointer a]⟩ w R:=qc Tryz.func209 (Eq.mpr (by kernel_rfl:fnV _ _ qmw _ _ _=_) h)
def an_ref15_has:Ann:=T F (T F F)
def sh_ref15_has (c:LU) (d:LU) (e:LU) (f:Int) (g:Int) (h:LU) (a:Int) (R:EP) (w:World):Prop :=
 al w 69 [S c,S d,S e,I f,I g,S h] fun j i =>
 ∃ b,ce i j 4 (I b)∧(idiv a (idiv 2 (R (rt (.bool (decide (((Int.tmod (i64.wrap (Int.tdiv b a)) 2):Int)=1)))) i)))
theorem c_ref15_has {b c d e f g a R w} (h:sh_ref15_has b c d e f g a R w):Calls prog q1t ⟨[.agg ⟨[S b,S c,S d,I e,I f,S g]⟩,I a]⟩ w R:=qc Tryz.func215 (Eq.mpr (by kernel_rfl:fnV _ _ an_ref15_has _ _ _=_) h)
def q32:Ann:=T F (T (T F (T F (T (T F F) F))) (T F (.one (.loop 34359477170 [(1,.one (.str)),(7,.one (.slice))] (.one (T F (T (T F (T (T F F) F)) (T (T F (T (T F F) F)) (T F F)))))))))
def q2h (f:OA) (e:Nat) (d:Nat) (h:LU) (R:EP) (w:World):Prop :=
 Cp 248 [L f e d,S h] w fun A z =>
 ∃ r,rI A r∧(br (decide (r≠0)) (R (rt (.tuple ⟨[L none 0 0,I r]⟩)) z) (al z 9 [S h] fun C D =>
 ∃ (o:LU→OA→Nat→Nat→World→Nat→Prop),(∃ u,o h (some C) 1 1 D u)∧∀ m c a b l j,o m c a b l j→∀ _:Env,(Cp 249 [L f e d,S m] l fun t g =>
 ∃ i n,rV t (.tuple ⟨[S i,B n]⟩)∧br (!n) (R (rt (.tuple ⟨[L c a b,I 0]⟩)) g) (br (decide ((((a:Int)):Int)=4096)) (R (rt (.tuple ⟨[L none 0 0,I 4]⟩)) g) (al g 9 [S i] fun v x =>
 app prog [31,31] 31 (L c a b) (.slice (some v) 1 1) x fun s q p y =>
 ∃ k,k < j∧o i s q p y k)))))
theorem q8a {c b a d R w} (h:q2h c b a d R w):Calls prog qs1 ⟨[L c b a,S d]⟩ w R:=qc Tryz.func216 (Eq.mpr (by kernel_rfl:fnV _ _ q32 _ _ _=_) h)
def qpq:Ann:=T F (T F F)
def qog (a:LU) (R:EP) (w:World):Prop :=
 al w 9 [S a] fun b c =>
 R (rt (.func (.func 250) ⟨[]⟩ ⟨[.pointer (some b)]⟩)) c
theorem qrw {a R w} (h:qog a R w):Calls prog qha ⟨[S a]⟩ w R:=qc Tryz.func217 (Eq.mpr (by kernel_rfl:fnV _ _ qpq _ _ _=_) h)
def qc3:Ann:=T F (T F F)
def qcy (f:OA) (d:Nat) (c:Nat) (e:Fn) (a:Array Value) (b:Array Value) (R:EP) (w:World):Prop :=
 Cp 252 [L f d c,.func e a b] w fun h i =>
 ∃ g,rI h g∧(R (rt (.bool (decide ((0:Int)≤g)))) i)
theorem qdd {f d c e a b R w} (h:qcy f d c e a b R w):Calls prog qde ⟨[L f d c,.func e a b]⟩ w R:=qc Tryz.func218 (Eq.mpr (by kernel_rfl:fnV _ _ qc3 _ _ _=_) h)
def qpr:Ann:=T F (T F (T F F))
def qoh (b:Int) (R:EP) (w:World):Prop :=
 Cp 184 [.int .u8 b] w fun d c =>
 ∃ a,rI d a∧(br (decide (a=5)) (R (rt (B true)) c) (R (rt (.bool (decide (a=6)))) c))
theorem qrx {a R w} (h:qoh a R w):Calls prog qhb ⟨[.int .u8 a]⟩ w R:=qc Tryz.func219 (Eq.mpr (by kernel_rfl:fnV _ _ qpr _ _ _=_) h)
def qsc:Ann:=T F (T (.one (T F (T (T F F) (T F (T (T F F) (T F (T (T F F) F))))))) (T F F))
def qqf (c:OA) (b:Nat) (a:Nat) (d:LU) (R:EP) (w:World):Prop :=
 Cp 77 [L c b a] w fun i e =>
 ∃ g,rI i g∧(br (decide (g≠0)) (R (rt (I 1)) e) (br (decide ((64:Int) < ((List.length d:Int)))) (R (rt (I 4)) e) (Cp 180 [S d] e fun j f =>
 ∃ h,rB j h∧br (!h) (R (rt (I 11)) f) (R (rt (I 0)) f))))
theorem quu {c b a d R w} (h:qqf c b a d R w):Calls prog qil ⟨[L c b a,S d]⟩ w R:=qc Tryz.func221 (Eq.mpr (by kernel_rfl:fnV _ _ qsc _ _ _=_) h)
def qsa:Ann:=T F (T F (.one (.loop 4294965744 [(6,.one (.slice))] (.one (T F (T (T F (T (T F F) F)) (T (T F (T (T F F) F)) F)))))))
def qqd (f:OA) (e:Nat) (d:Nat) (x:LU) (R:EP) (w:World):Prop :=
 al w 9 [S x] fun z A =>
 ∃ (l:OA→Nat→Nat→World→Nat→Prop),(∃ y,l (some z) 1 1 A y)∧∀ b a c o r,l b a c o r→∀ _:Env,(idx b a (i64.wrap (((a:Int)) - 1)) 1 fun s =>
 ∃ i,cf o s (S i)∧Cp 254 [L f e d,S i] o fun q g =>
 ∃ j k,rV q (.tuple ⟨[S j,B k]⟩)∧br (!k) (R (rt (.tuple ⟨[L b a c,I 0]⟩)) g) (br (decide ((((a:Int)):Int)=4096)) (R (rt (.tuple ⟨[L none 0 0,I 4]⟩)) g) (al g 9 [S j] fun t u =>
 app prog [31,31] 31 (L b a c) (.slice (some t) 1 1) u fun p n m v =>
 ∃ h,h < r∧l p n m v h)))
theorem qus {c b a d R w} (h:qqd c b a d R w):Calls prog qij ⟨[L c b a,S d]⟩ w R:=qc Tryz.func222 (Eq.mpr (by kernel_rfl:fnV _ _ qsa _ _ _=_) h)
def q4d:Ann:=T F (T F (T (T F (.one (.loop 549755813848 [(3,.one (.slice)),(4,.one (.int .i64))] (T (T F (T F F)) (T (.one F) F))))) (T F F)))
def q2s (g:LU) (R:EP) (w:World):Prop :=
 al w 4 [] fun a0 a1 =>
 ∃ (e:OA→Nat→Nat→Int→World→Nat→Prop),(∃ Z,e (some a0) 0 0 0 a1 Z)∧∀ c a b d z f,e c a b d z f→∀ _:Env,(br (decide ((d:Int) < ((List.length g:Int)))) (sidx g d fun F =>
 Cp 166 [.int .u8 ((F.toNat:Int))] z fun H h =>
 ∃ n,rI H n∧br (decide (n=2)) (br (decide ((0:Int) < d)) (sidx g (i64.wrap (d - 1)) fun G =>
 Cp 166 [.int .u8 ((G.toNat:Int))] h fun I i =>
 ∃ o,rI I o∧br (decide (o=1)) (al i 4 [B true] fun J Q =>
 app prog [250,250] 250 (L c a b) (.slice (some J) 1 1) Q fun A r q S =>
 ∃ j,j < f∧e A r q (i64.wrap (d + 1)) S j) (idx c a (i64.wrap (d - 1)) 1 fun K =>
 ∃ p,cf i K (B p)∧al i 4 [B p] fun M T =>
 app prog [250,250] 250 (L c a b) (.slice (some M) 1 1) T fun C t s U =>
 ∃ k,k < f∧e C t s (i64.wrap (d + 1)) U k)) (al h 4 [B false] fun N V =>
 app prog [250,250] 250 (L c a b) (.slice (some N) 1 1) V fun D v u W =>
 ∃ l,l < f∧e D v u (i64.wrap (d + 1)) W l)) (al h 4 [B false] fun O X =>
 app prog [250,250] 250 (L c a b) (.slice (some O) 1 1) X fun E y x Y =>
 ∃ m,m < f∧e E y x (i64.wrap (d + 1)) Y m)) (R (rt (L c a b)) z))
theorem q8j {a R w} (h:q2s a R w):Calls prog qs9 ⟨[S a]⟩ w R:=qc Tryz.func226 (Eq.mpr (by kernel_rfl:fnV _ _ q4d _ _ _=_) h)
def qdq:Ann:=T F (T F F)
def qdh (b:LU) (a:LU) (R:EP) (w:World):Prop :=
 br (decide ((((List.length a:Int)):Int)≤((List.length b:Int)))) (ssl b 0 ((List.length a:Int)) fun c =>
 R (rt (.bool (decide ((c:LU)=a)))) w) (R (rt (B false)) w)
theorem qd0 {b a R w} (h:qdh b a R w):Calls prog qbh ⟨[S b,S a]⟩ w R:=qc Tryz.func230 (Eq.mpr (by kernel_rfl:fnV _ _ qdq _ _ _=_) h)
def qu6:Ann:=T F (.one (.loop 35184372088824 [(3,.one (.int .i64))] (T (T F (T F F)) (.one (T F (.cut 68719468656 [(4,.one (.int .i64))] (T F (T (T F (T F (T F F))) (T F (T F (T F F))))) (T (T F (T F F)) F)))))))
def qtr (h:Fn) (f:Array Value) (g:Array Value) (b:OA) (R:EP) (w:World):Prop :=
 ∃ (v:Int→World→Nat→Prop),(∃ M,v 0 w M)∧∀ a d B,v a d B→∀ _:Env,(dr b fun N =>
 ∃ L,cf d N (S L)∧br (decide ((a:Int) < ((List.length L:Int)))) (dr b fun C =>
 ∃ j,cf d C (S j)∧∀ (e:Int→World→Prop),(∀ (c:Int) (i:World),(∀ _:Env,(dr b fun D =>
 ∃ s,cf i D (S s)∧(ssl s a c fun H =>
 CallV prog (.func h f g) [I a,S H] i fun y p =>
 ∃ t,rB y t∧br (!t) (R (rt (.tuple ⟨[]⟩)) p) (∃ o,o < B∧v c p o))))→e c i)→(dr b fun E =>
 ∃ u,cf d E (S u)∧(sidx u a fun x =>
 br (decide ((((x.toNat:Int)):Int)=60)) (dr b fun F =>
 ∃ k,cf d F (S k)∧(ssl k a (List.length k:Int) fun J =>
 Cp 220 [S J,.int .u8 62] d fun z q =>
 ∃ l,rI z l∧br (decide ((0:Int)≤l)) (e (i64.wrap ((i64.wrap (a + l)) + 1)) q) (e ((List.length j:Int)) q))) (dr b fun G =>
 ∃ m,cf d G (S m)∧(ssl m a (List.length m:Int) fun K =>
 Cp 220 [S K,.int .u8 60] d fun A r =>
 ∃ n,rI A n∧br (decide ((0:Int)≤n)) (e (i64.wrap (a + n)) r) (e ((List.length j:Int)) r)))))) (R (rt (.tuple ⟨[]⟩)) d))
theorem qw5 {c a b d R w} (h:qtr c a b d R w):Calls prog qcw ⟨[.func c a b,.pointer d]⟩ w R:=qc Tryz.func232 (Eq.mpr (by kernel_rfl:fnV _ _ qu6 _ _ _=_) h)
def q4j:Ann:=T F (T (T F (.one (.loop 261928 [(8,.one (.int .i64))] (T F (T (T F F) (T (.one (T F (T F (T (T F F) F)))) F)))))) (T F F))
def q2y (h:LU) (R:EP) (w:World):Prop :=
 al w 262 [S [],B false,.nilFunc] fun d H =>
 Cp 261 [] H fun G I =>
 ∃ E j F,rV G (L E j F)∧(∃ (A:Int→World→Nat→Prop),(∃ C,A 0 I C)∧∀ b g k,A b g k→∀ _:Env,(br (decide ((b:Int) < (j))) (idx E j b 3 fun i =>
 ∃ m,ce g i 0 (S m)∧∃ n,ce g i 1 (B n)∧∃ o,ce g i 2 (o)∧al g 262 [S [],B false,.nilFunc] fun c D =>
 stL D c 0 [S m,B n,o] fun a =>
 ∃ p,ce a c 0 (S p)∧br (decide (p=h)) (∃ q,ce a c 0 (S q)∧∃ r,ce a c 1 (B r)∧∃ s,ce a c 2 (s)∧stL a d 0 [S q,B r,s] fun e =>
 ∃ t,ce e d 0 (S t)∧∃ u,ce e d 1 (B u)∧∃ v,ce e d 2 (v)∧R (rt (.tuple ⟨[.agg ⟨[S t,B u,v]⟩,B true]⟩)) e) (∃ l,l < k∧A (i64.wrap (b + 1)) a l)) (stL g d 0 [S [],B false,.nilFunc] fun f =>
 ∃ x,ce f d 0 (S x)∧∃ y,ce f d 1 (B y)∧∃ z,ce f d 2 (z)∧R (rt (.tuple ⟨[.agg ⟨[S x,B y,z]⟩,B false]⟩)) f)))
theorem q8p {a R w} (h:q2y a R w):Calls prog qte ⟨[S a]⟩ w R:=qc Tryz.func235 (Eq.mpr (by kernel_rfl:fnV _ _ q4j _ _ _=_) h)
def q1b:Ann:=T F (T (T F (T (T F F) F)) (T F (T F F)))
def qyz (v:Int) (x:LU) (y:LU) (z:Int) (R:EP) (w:World):Prop :=
 al w 202 [I v,S x,S y,I z] fun e b =>
 ∃ s,ce b e 0 (I s)∧(br (decide (s=3)) (∃ t,ce b e 2 (S t)∧R (rt (.bool (decide (t=([]))))) b) (∃ u,ce b e 1 (S u)∧Cp 235 [S u] b fun m o =>
 ∃ g h i r,rV m (.tuple ⟨[.agg ⟨[S g,B h,i]⟩,B r]⟩)∧al o 262 [S [],B false,.nilFunc] fun f p =>
 stL p f 0 [S g,B h,i] fun a =>
 ∃ j c d,ce a f 2 (.func j c d)∧∃ k,ce a e 2 (S k)∧CallV prog (.func j c d) [S k] a fun n q =>
 ∃ l,rB n l∧R (rt (B l)) q))
theorem q3n {a b c d R w} (h:qyz a b c d R w):Calls prog qhk ⟨[.agg ⟨[I a,S b,S c,I d]⟩]⟩ w R:=qc Tryz.func238 (Eq.mpr (by kernel_rfl:fnV _ _ q1b _ _ _=_) h)
def q4f:Ann:=T F (T F (.cut 16328 [(3,.one (.str))] (T F (T F F)) (T (T F (.one (T F (T (T F F) (T F (T (T F F) (T F (T (T F F) F)))))))) (T F F))))
def q2u (s:Int) (t:LU) (u:LU) (v:Int) (R:EP) (w:World):Prop :=
 al w 202 [I s,S t,S u,I v] fun d e =>
 ∃ j,ce e d 1 (S j)∧(∀ (i:LU→World→Prop),(∀ (a:LU) (b:World),(∀ _:Env,(∃ c,ce b d 0 (I c)∧br (decide (c=2)) (sadd ([60]) a fun k =>
 sadd k ([62]) fun l =>
 R (rt (S l)) b) (br (decide (c=3)) (sadd ([60,47]) a fun m =>
 sadd m ([62]) fun n =>
 R (rt (S n)) b) (br (decide (c=4)) (sadd ([60]) a fun o =>
 sadd o ([47,62]) fun p =>
 R (rt (S p)) b) (∃ f,ce b d 2 (S f)∧R (rt (S f)) b)))))→i a b)→(∃ g,ce e d 2 (S g)∧br (decide (g≠([]))) (∃ h,ce e d 2 (S h)∧(sadd ([32]) h fun q =>
 sadd j q fun r =>
 i r e)) (i j e)))
theorem q8l {a b c d R w} (h:q2u a b c d R w):Calls prog qjb ⟨[.agg ⟨[I a,S b,S c,I d]⟩]⟩ w R:=qc Tryz.func239 (Eq.mpr (by kernel_rfl:fnV _ _ q4f _ _ _=_) h)
def qxk:Ann:=T F (T (T F (.one (T F (T (T (.one (T F (T (T F F) (T F (T (T F F) (T F (T (T F F) F))))))) (T F F)) (.cut 62914560 [(22,.one (.bool))] (T F (T F (T F (T F F)))) (T (T (T F (T F (T (T F F) F))) (T F F)) F)))))) (T F F))
def qwo (z:Int) (A:LU) (C:LU) (D:Int) (R:EP) (w:World):Prop :=
 al w 202 [I z,S A,S C,I D] fun g a =>
 ∃ d,ce a g 0 (I d)∧(br (decide (d=1)) (∃ x,ce a g 1 (S x)∧br (decide (x≠([]))) (R (rt (I 12)) a) (∃ y,ce a g 2 (S y)∧br (decide (y=([]))) (R (rt (I 5)) a) (∃ j,ce a g 2 (S j)∧Cp 173 [S j] a fun s i =>
 ∃ k,rI s k∧br (decide (k≠0)) (R (rt (I 11)) i) (R (rt (I 0)) i)))) (∀ (e:Bool→World→Prop),(∀ (b:Bool) (f:World),(∀ _:Env,(br b (∃ l,ce f g 1 (S l)∧Cp 235 [S l] f fun t u =>
 ∃ m n o p,rV t (.tuple ⟨[.agg ⟨[S m,B n,o]⟩,B p]⟩)∧al u 262 [S [],B false,.nilFunc] fun h v =>
 stL v h 0 [S m,B n,o] fun c =>
 br (!p) (R (rt (I 12)) c) (∃ q,ce c h 1 (B q)∧∃ r,ce c g 0 (I r)∧br (decide (q≠(decide (r=4)))) (R (rt (I 12)) c) (R (rt (I 0)) c))) (R (rt (I 8)) f)))→e b f)→(br (decide (d=2)) (e (decide (d=2)) a) (br (decide (d=3)) (e (decide (d=3)) a) (e (decide (d=4)) a)))))
theorem q0r {a b c d R w} (h:qwo a b c d R w):Calls prog qlx ⟨[.agg ⟨[I a,S b,S c,I d]⟩]⟩ w R:=qc Tryz.func240 (Eq.mpr (by kernel_rfl:fnV _ _ qxk _ _ _=_) h)
end Go.Proofs