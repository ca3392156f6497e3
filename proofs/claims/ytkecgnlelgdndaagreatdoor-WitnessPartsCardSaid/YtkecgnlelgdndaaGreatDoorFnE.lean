/- Written by program: for each function its verification condition, that it is the code's (by the kernel), and that it gives the call. -/
import Derived.Test.YtkecgnlelgdndaaGreatDoorFn
set_option linter.all false
set_option maxRecDepth 100000
namespace Go.Proofs
open Go Go.Sh Go.Proofs.Tryz IntKind
def q08:Ann:=T F (T F (T F (.cut 133169248 [(5,.one (.str))] (T F (T F (T F F))) (T F (T (T F (T (T F F) F)) (T F (.cut 1924145348608 [] (T F (T F F)) (.cut 18012199486233600 [] (T F (T F (T F (T F (T F F))))) (T (T F (T (T F F) F)) (T F F))))))))))
def qz1 (d:List UInt8) (R:Ending→World→Prop) (w:World):Prop :=
 al w 202 [I 0,S [],S [],I 0] fun b h6 =>
 ssl d 1 (i64.wrap (((List.length d:Int)) - 1)) fun g1 =>
 Calls prog 233 ⟨[S g1,S [47]]⟩ h6 fun h5 h7 =>
 ∃ N,h5=.returned (S N)∧(∀ (f5:List UInt8→World→Prop),(∀ (j:List UInt8) (O:World),(∀ _:Env,(Calls prog 235 ⟨[S j]⟩ O fun g7 h2 =>
 ∃ T U V W,g7=.returned (.tuple ⟨[.agg ⟨[S T,B U,V]⟩,B W]⟩)∧al h2 262 [S [],B false,.nilFunc] fun t h3 =>
 stL h3 t 0 [S T,B U,V] fun z =>
 br (!W) (stL z b 0 [I 0,S [],S [],I 0] fun k =>
 ∃ X,k.cell? (b.add 0)=some (I X)∧∃ Y,k.cell? (b.add 1)=some (S Y)∧∃ Z,k.cell? (b.add 2)=some (S Z)∧∃ a0,k.cell? (b.add 3)=some (I a0)∧R (.returned (.tuple ⟨[.agg ⟨[I X,S Y,S Z,I a0]⟩,I 12]⟩)) k) (∃ a1,z.cell? (t.add 0)=some (S a1)∧al z 202 [I 0,S [],S [],I 0] fun a h4 =>
 stL h4 a 0 [I 2,S a1,S [],I 0] fun A =>
 ∀ (u:World→Prop),(∀  (Q:World),(∀ _:Env,(∀ (s:World→Prop),(∀  (c:World),(∀ _:Env,(∃ a2,c.cell? (a.add 0)=some (I a2)∧br (decide (a2=3)) (∃ a3,c.cell? (t.add 1)=some (B a3)∧br a3 (stL c b 0 [I 0,S [],S [],I 0] fun l =>
 ∃ a4,l.cell? (b.add 0)=some (I a4)∧∃ a5,l.cell? (b.add 1)=some (S a5)∧∃ a6,l.cell? (b.add 2)=some (S a6)∧∃ a7,l.cell? (b.add 3)=some (I a7)∧R (.returned (.tuple ⟨[.agg ⟨[I a4,S a5,S a6,I a7]⟩,I 3]⟩)) l) (∃ a8,c.cell? (a.add 0)=some (I a8)∧∃ a9,c.cell? (a.add 1)=some (S a9)∧∃ b0,c.cell? (a.add 2)=some (S b0)∧∃ b1,c.cell? (a.add 3)=some (I b1)∧Calls prog 238 ⟨[.agg ⟨[I a8,S a9,S b0,I b1]⟩]⟩ c fun g8 f =>
 ∃ b2,g8=.returned (B b2)∧br (!b2) (stL f b 0 [I 0,S [],S [],I 0] fun m =>
 ∃ b3,m.cell? (b.add 0)=some (I b3)∧∃ b4,m.cell? (b.add 1)=some (S b4)∧∃ b5,m.cell? (b.add 2)=some (S b5)∧∃ b6,m.cell? (b.add 3)=some (I b6)∧R (.returned (.tuple ⟨[.agg ⟨[I b3,S b4,S b5,I b6]⟩,I 3]⟩)) m) (∃ b7,f.cell? (a.add 0)=some (I b7)∧∃ b8,f.cell? (a.add 1)=some (S b8)∧∃ b9,f.cell? (a.add 2)=some (S b9)∧∃ c0,f.cell? (a.add 3)=some (I c0)∧Calls prog 239 ⟨[.agg ⟨[I b7,S b8,S b9,I c0]⟩]⟩ f fun g9 g =>
 ∃ c1,g9=.returned (S c1)∧br (decide (c1≠d)) (stL g b 0 [I 0,S [],S [],I 0] fun n =>
 ∃ c2,n.cell? (b.add 0)=some (I c2)∧∃ c3,n.cell? (b.add 1)=some (S c3)∧∃ c4,n.cell? (b.add 2)=some (S c4)∧∃ c5,n.cell? (b.add 3)=some (I c5)∧R (.returned (.tuple ⟨[.agg ⟨[I c2,S c3,S c4,I c5]⟩,I 3]⟩)) n) (∃ c6,g.cell? (a.add 0)=some (I c6)∧∃ c7,g.cell? (a.add 1)=some (S c7)∧∃ c8,g.cell? (a.add 2)=some (S c8)∧∃ c9,g.cell? (a.add 3)=some (I c9)∧stL g b 0 [I c6,S c7,S c8,I c9] fun o =>
 ∃ d0,o.cell? (b.add 0)=some (I d0)∧∃ d1,o.cell? (b.add 1)=some (S d1)∧∃ d2,o.cell? (b.add 2)=some (S d2)∧∃ d3,o.cell? (b.add 3)=some (I d3)∧R (.returned (.tuple ⟨[.agg ⟨[I d0,S d1,S d2,I d3]⟩,I 0]⟩)) o)))) (∃ d4,c.cell? (a.add 0)=some (I d4)∧∃ d5,c.cell? (a.add 1)=some (S d5)∧∃ d6,c.cell? (a.add 2)=some (S d6)∧∃ d7,c.cell? (a.add 3)=some (I d7)∧Calls prog 238 ⟨[.agg ⟨[I d4,S d5,S d6,I d7]⟩]⟩ c fun h0 h =>
 ∃ d8,h0=.returned (B d8)∧br (!d8) (stL h b 0 [I 0,S [],S [],I 0] fun p =>
 ∃ d9,p.cell? (b.add 0)=some (I d9)∧∃ e0,p.cell? (b.add 1)=some (S e0)∧∃ e1,p.cell? (b.add 2)=some (S e1)∧∃ e2,p.cell? (b.add 3)=some (I e2)∧R (.returned (.tuple ⟨[.agg ⟨[I d9,S e0,S e1,I e2]⟩,I 3]⟩)) p) (∃ e3,h.cell? (a.add 0)=some (I e3)∧∃ e4,h.cell? (a.add 1)=some (S e4)∧∃ e5,h.cell? (a.add 2)=some (S e5)∧∃ e6,h.cell? (a.add 3)=some (I e6)∧Calls prog 239 ⟨[.agg ⟨[I e3,S e4,S e5,I e6]⟩]⟩ h fun h1 i =>
 ∃ e7,h1=.returned (S e7)∧br (decide (e7≠d)) (stL i b 0 [I 0,S [],S [],I 0] fun q =>
 ∃ e8,q.cell? (b.add 0)=some (I e8)∧∃ e9,q.cell? (b.add 1)=some (S e9)∧∃ f0,q.cell? (b.add 2)=some (S f0)∧∃ f1,q.cell? (b.add 3)=some (I f1)∧R (.returned (.tuple ⟨[.agg ⟨[I e8,S e9,S f0,I f1]⟩,I 3]⟩)) q) (∃ f2,i.cell? (a.add 0)=some (I f2)∧∃ f3,i.cell? (a.add 1)=some (S f3)∧∃ f4,i.cell? (a.add 2)=some (S f4)∧∃ C,i.cell? (a.add 3)=some (I C)∧stL i b 0 [I f2,S f3,S f4,I C] fun e =>
 ∃ D,e.cell? (b.add 0)=some (I D)∧∃ E,e.cell? (b.add 1)=some (S E)∧∃ F,e.cell? (b.add 2)=some (S F)∧∃ G,e.cell? (b.add 3)=some (I G)∧R (.returned (.tuple ⟨[.agg ⟨[I D,S E,S F,I G]⟩,I 0]⟩)) e)))))→s c)→(Calls prog 202 ⟨[S g1,S [47]]⟩ Q fun f6 v =>
 ∃ H,f6=.returned (B H)∧br H (stL v (a.add 0) 0 [I 3] fun g2 =>
 s g2) (Calls prog 237 ⟨[S g1,S [47]]⟩ v fun f7 g3 =>
 ∃ J,f7=.returned (S J)∧Calls prog 236 ⟨[S J,S [32]]⟩ g3 fun f8 x =>
 ∃ g6 K L,f8=.returned (.tuple ⟨[S g6,S K,B L]⟩)∧br L (stL x (a.add 2) 0 [S K] fun g4 =>
 s g4) (s x)))))→u Q)→(∃ M,A.cell? (t.add 1)=some (B M)∧br M (stL A (a.add 0) 0 [I 4] fun g5 =>
 u g5) (u A)))))→f5 j O)→(Calls prog 234 ⟨[S N,S [32,47]]⟩ h7 fun f9 y =>
 ∃ r,f9=.returned (I r)∧br (decide ((0:Int)≤r)) (ssl N 0 r fun g0 =>
 f5 g0 y) (f5 N y)))
theorem q4m {a R w} (h:qz1 a R w):Calls prog qrk ⟨[S a]⟩ w R:=qe Tryz.func206 (Eq.mpr (by kernel_rfl:fnV _ _ q08 _ _ _=_) h)
def qyu:Ann:=T F (T F (T (T F (.one (.loop 9007199254740604 [(3,.one (.int .i64)),(9,.one (.int .i64))] (T F (T (T F F) (T (.one (T F (T (T F (T F (T (T F F) F))) (.cut 34359214084 [] (T F (T (T F F) F)) (.cut 8761733283844 [] (T F (T (T F F) F)) (T (T F (T (T F F) F)) F)))))) F)))))) (T (T F (T (T F F) F)) (T F F))))
def qwv (n:Option Addr) (i:Nat) (a0:Nat) (R:Ending→World→Prop) (w:World):Prop :=
 ∃ (O:Int→Int→World→Nat→Prop),(∃ a1,O 0 0 w a1)∧∀ f b h V,O f b h V→∀ _:Env,(br (decide ((b:Int) < ((i:Int)))) (idx n i b 4 fun m =>
 ∃ Z,h.cell? (m.add 0)=some (I Z)∧∃ q,h.cell? (m.add 1)=some (S q)∧∃ r,h.cell? (m.add 2)=some (S r)∧∃ s,h.cell? (m.add 3)=some (I s)∧al h 202 [I 0,S [],S [],I 0] fun a X =>
 stL X a 0 [I Z,S q,S r,I s] fun g =>
 ∃ t,g.cell? (a.add 0)=some (I t)∧∃ u,g.cell? (a.add 1)=some (S u)∧∃ v,g.cell? (a.add 2)=some (S v)∧∃ x,g.cell? (a.add 3)=some (I x)∧Calls prog 240 ⟨[.agg ⟨[I t,S u,S v,I x]⟩]⟩ g fun Q e =>
 ∃ l,Q=.returned (I l)∧br (decide (l≠0)) (R (.returned (I l)) e) (∀ (j:World→Prop),(∀  (c:World),(∀ _:Env,(∀ (k:World→Prop),(∀  (d:World),(∀ _:Env,(∃ y,d.cell? (a.add 3)=some (I y)∧br (decide (y≠f)) (R (.returned (I 9)) d) (∃ z,d.cell? (a.add 0)=some (I z)∧∃ A,d.cell? (a.add 1)=some (S A)∧∃ C,d.cell? (a.add 2)=some (S C)∧∃ D,d.cell? (a.add 3)=some (I D)∧Calls prog 239 ⟨[.agg ⟨[I z,S A,S C,I D]⟩]⟩ d fun T Y =>
 ∃ E,T=.returned (S E)∧∃ o,o < V∧O (i64.wrap (f + ((List.length E:Int)))) (i64.wrap (b + 1)) Y o)))→k d)→(∃ F,c.cell? (a.add 0)=some (I F)∧br (decide (F≠1)) (∃ G,c.cell? (a.add 0)=some (I G)∧∃ H,c.cell? (a.add 1)=some (S H)∧∃ J,c.cell? (a.add 2)=some (S J)∧∃ K,c.cell? (a.add 3)=some (I K)∧Calls prog 238 ⟨[.agg ⟨[I G,S H,S J,I K]⟩]⟩ c fun U p =>
 ∃ L,U=.returned (B L)∧br (!L) (R (.returned (I 3)) p) (k p)) (k c))))→j c)→(∃ M,e.cell? (a.add 0)=some (I M)∧br (decide (M=1)) (br (decide ((0:Int) < b)) (idx n i (i64.wrap (b - 1)) 4 fun W =>
 ∃ N,e.cell? (W.add 0)=some (I N)∧br (decide (N=1)) (R (.returned (I 10)) e) (j e)) (j e)) (j e)))) (br (decide ((65536:Int) < f)) (R (.returned (I 4)) h) (R (.returned (I 0)) h)))
theorem q0o {c b a R w} (h:qwv c b a R w):Calls prog qmj ⟨[L c b a]⟩ w R:=qe Tryz.func207 (Eq.mpr (by kernel_rfl:fnV _ _ qyu _ _ _=_) h)
def qaw:Ann:=T F (T (T F (.one (.loop 524080 [(8,.one (.int .i64))] (T F (T (T F F) (T (.one (T F (T F (T (T F F) F)))) F)))))) (T F F))
def qav (q:Option Addr) (c:Nat) (t:Nat) (o:Fn) (l:Array Value) (m:Array Value) (R:Ending→World→Prop) (w:World):Prop :=
 ∃ (k:Int→World→Nat→Prop),(∃ s,k 0 w s)∧∀ a b p,k a b p→∀ _:Env,(br (decide ((a:Int) < ((c:Int)))) (idx q c a 4 fun d =>
 ∃ r,b.cell? (d.add 0)=some (S r)∧∃ g,b.cell? (d.add 1)=some (B g)∧∃ h,b.cell? (d.add 2)=some (B h)∧∃ i,b.cell? (d.add 3)=some (B i)∧CallV prog (.func o l m) [.agg ⟨[S r,B g,B h,B i]⟩] b fun n f =>
 ∃ j,n=.returned (B j)∧br j (R (.returned (I a)) f) (∃ e,e < p∧k (i64.wrap (a + 1)) f e)) (R (.returned (.int .i64 ((-1)))) b))
theorem qax {f d c e a b R w} (h:qav f d c e a b R w):Calls prog qz ⟨[L f d c,.func e a b]⟩ w R:=qe Tryz.func208 (Eq.mpr (by kernel_rfl:fnV _ _ qaw _ _ _=_) h)
def qlu:Ann:=T F (T F F)
def qli (e:List UInt8) (f:Bool) (g:Bool) (h:Bool) (d:Option Addr) (R:Ending→World→Prop) (w:World):Prop :=
 al w 211 [S e,B f,B g,B h] fun i a =>
 ∃ j,a.cell? (i.add 0)=some (S j)∧(dr d fun k =>
 ∃ b,a.cell? (k.add 1)=some (S b)∧br (decide (j=b)) (∃ c,a.cell? (i.add 0)=some (S c)∧R (.returned (.bool (decide (c≠([]))))) a) (R (.returned (B false)) a))
theorem qno {b c d e a R w} (h:qli b c d e a R w):Calls prog qcw ⟨[.agg ⟨[S b,B c,B d,B e]⟩,.pointer a]⟩ w R:=qe Tryz.func209 (Eq.mpr (by kernel_rfl:fnV _ _ qlu _ _ _=_) h)
def qob:Ann:=T F (T F F)
def qm5 (a:List UInt8) (R:Ending→World→Prop) (w:World):Prop :=
 al w 9 [S a] fun b c =>
 R (.returned (.func (.func 250) ⟨[]⟩ ⟨[.pointer (some b)]⟩)) c
theorem qqf {a R w} (h:qm5 a R w):Calls prog qgu ⟨[S a]⟩ w R:=qe Tryz.func217 (Eq.mpr (by kernel_rfl:fnV _ _ qob _ _ _=_) h)
def qcv:Ann:=T F (T F F)
def qcr (f:Option Addr) (d:Nat) (c:Nat) (e:Fn) (a:Array Value) (b:Array Value) (R:Ending→World→Prop) (w:World):Prop :=
 Calls prog 252 ⟨[L f d c,.func e a b]⟩ w fun h i =>
 ∃ g,h=.returned (I g)∧(R (.returned (.bool (decide ((0:Int)≤g)))) i)
theorem qc4 {f d c e a b R w} (h:qcr f d c e a b R w):Calls prog qc5 ⟨[L f d c,.func e a b]⟩ w R:=qe Tryz.func218 (Eq.mpr (by kernel_rfl:fnV _ _ qcv _ _ _=_) h)
def qoc:Ann:=T F (T F (T F F))
def qm6 (b:Int) (R:Ending→World→Prop) (w:World):Prop :=
 Calls prog 184 ⟨[.int .u8 b]⟩ w fun d c =>
 ∃ a,d=.returned (I a)∧(br (decide (a=5)) (R (.returned (B true)) c) (R (.returned (.bool (decide (a=6)))) c))
theorem qqg {a R w} (h:qm6 a R w):Calls prog qgv ⟨[.int .u8 a]⟩ w R:=qe Tryz.func219 (Eq.mpr (by kernel_rfl:fnV _ _ qoc _ _ _=_) h)
def qqt:Ann:=T F (T (.one (T F (T (T F F) (T F (T (T F F) (T F (T (T F F) F))))))) (T F F))
def qo1 (c:Option Addr) (b:Nat) (a:Nat) (d:List UInt8) (R:Ending→World→Prop) (w:World):Prop :=
 Calls prog 77 ⟨[L c b a]⟩ w fun i e =>
 ∃ g,i=.returned (I g)∧(br (decide (g≠0)) (R (.returned (I 1)) e) (br (decide ((64:Int) < ((List.length d:Int)))) (R (.returned (I 4)) e) (Calls prog 180 ⟨[S d]⟩ e fun j f =>
 ∃ h,j=.returned (B h)∧br (!h) (R (.returned (I 11)) f) (R (.returned (I 0)) f))))
theorem qs3 {c b a d R w} (h:qo1 c b a d R w):Calls prog qh4 ⟨[L c b a,S d]⟩ w R:=qe Tryz.func221 (Eq.mpr (by kernel_rfl:fnV _ _ qqt _ _ _=_) h)
def qqr:Ann:=T F (T F (.one (.loop 4294965744 [(6,.one (.slice))] (.one (T F (T (T F (T (T F F) F)) (T (T F (T (T F F) F)) F)))))))
def qoz (f:Option Addr) (e:Nat) (d:Nat) (x:List UInt8) (R:Ending→World→Prop) (w:World):Prop :=
 al w 9 [S x] fun z A =>
 ∃ (l:Option Addr→Nat→Nat→World→Nat→Prop),(∃ y,l (some z) 1 1 A y)∧∀ b a c o r,l b a c o r→∀ _:Env,(idx b a (i64.wrap (((a:Int)) - 1)) 1 fun s =>
 ∃ i,o.cell? s=some (S i)∧Calls prog 254 ⟨[L f e d,S i]⟩ o fun q g =>
 ∃ j k,q=.returned (.tuple ⟨[S j,B k]⟩)∧br (!k) (R (.returned (.tuple ⟨[L b a c,I 0]⟩)) g) (br (decide ((((a:Int)):Int)=4096)) (R (.returned (.tuple ⟨[L none 0 0,I 4]⟩)) g) (al g 9 [S j] fun t u =>
 app prog [31,31] 31 (L b a c) (.slice (some t) 1 1) u fun p n m v =>
 ∃ h,h < r∧l p n m v h)))
theorem qs1 {c b a d R w} (h:qoz c b a d R w):Calls prog qh2 ⟨[L c b a,S d]⟩ w R:=qe Tryz.func222 (Eq.mpr (by kernel_rfl:fnV _ _ qqr _ _ _=_) h)
def q04:Ann:=T F (T F (T (T F (.one (.loop 549755813848 [(3,.one (.slice)),(4,.one (.int .i64))] (T (T F (T F F)) (T (.one F) F))))) (T F F)))
def qzx (g:List UInt8) (R:Ending→World→Prop) (w:World):Prop :=
 al w 4 [] fun a1 a2 =>
 ∃ (e:Option Addr→Nat→Nat→Int→World→Nat→Prop),(∃ a0,e (some a1) 0 0 0 a2 a0)∧∀ c a b d z f,e c a b d z f→∀ _:Env,(br (decide ((d:Int) < ((List.length g:Int)))) (sidx g d fun F =>
 Calls prog 166 ⟨[.int .u8 ((F.toNat:Int))]⟩ z fun H h =>
 ∃ n,H=.returned (I n)∧br (decide (n=2)) (br (decide ((0:Int) < d)) (sidx g (i64.wrap (d - 1)) fun G =>
 Calls prog 166 ⟨[.int .u8 ((G.toNat:Int))]⟩ h fun J i =>
 ∃ o,J=.returned (I o)∧br (decide (o=1)) (al i 4 [B true] fun K S =>
 app prog [250,250] 250 (L c a b) (.slice (some K) 1 1) S fun A r q T =>
 ∃ j,j < f∧e A r q (i64.wrap (d + 1)) T j) (idx c a (i64.wrap (d - 1)) 1 fun M =>
 ∃ p,i.cell? M=some (B p)∧al i 4 [B p] fun N U =>
 app prog [250,250] 250 (L c a b) (.slice (some N) 1 1) U fun C t s V =>
 ∃ k,k < f∧e C t s (i64.wrap (d + 1)) V k)) (al h 4 [B false] fun O W =>
 app prog [250,250] 250 (L c a b) (.slice (some O) 1 1) W fun D v u X =>
 ∃ l,l < f∧e D v u (i64.wrap (d + 1)) X l)) (al h 4 [B false] fun Q Y =>
 app prog [250,250] 250 (L c a b) (.slice (some Q) 1 1) Y fun E y x Z =>
 ∃ m,m < f∧e E y x (i64.wrap (d + 1)) Z m)) (R (.returned (L c a b)) z))
theorem q4i {a R w} (h:qzx a R w):Calls prog qrh ⟨[S a]⟩ w R:=qe Tryz.func226 (Eq.mpr (by kernel_rfl:fnV _ _ q04 _ _ _=_) h)
def qdf:Ann:=T F (T F F)
def qc6 (b:List UInt8) (a:List UInt8) (R:Ending→World→Prop) (w:World):Prop :=
 br (decide ((((List.length a:Int)):Int)≤((List.length b:Int)))) (ssl b 0 ((List.length a:Int)) fun c =>
 R (.returned (.bool (decide ((c:List UInt8)=a)))) w) (R (.returned (B false)) w)
theorem qdo {b a R w} (h:qc6 b a R w):Calls prog qa9 ⟨[S b,S a]⟩ w R:=qe Tryz.func230 (Eq.mpr (by kernel_rfl:fnV _ _ qdf _ _ _=_) h)
def qtf:Ann:=T F (.one (.loop 35184372088824 [(3,.one (.int .i64))] (T (T F (T F F)) (.one (T F (.cut 68719468656 [(4,.one (.int .i64))] (T F (T (T F (T F (T F F))) (T F (T F (T F F))))) (T (T F (T F F)) F)))))))
def qr0 (h:Fn) (f:Array Value) (g:Array Value) (b:Option Addr) (R:Ending→World→Prop) (w:World):Prop :=
 ∃ (v:Int→World→Nat→Prop),(∃ N,v 0 w N)∧∀ a d C,v a d C→∀ _:Env,(dr b fun O =>
 ∃ M,d.cell? O=some (S M)∧br (decide ((a:Int) < ((List.length M:Int)))) (dr b fun D =>
 ∃ j,d.cell? D=some (S j)∧∀ (e:Int→World→Prop),(∀ (c:Int) (i:World),(∀ _:Env,(dr b fun E =>
 ∃ s,i.cell? E=some (S s)∧(ssl s a c fun J =>
 CallV prog (.func h f g) [I a,S J] i fun y p =>
 ∃ t,y=.returned (B t)∧br (!t) (R (.returned (.tuple ⟨[]⟩)) p) (∃ o,o < C∧v c p o))))→e c i)→(dr b fun F =>
 ∃ u,d.cell? F=some (S u)∧(sidx u a fun x =>
 br (decide ((((x.toNat:Int)):Int)=60)) (dr b fun G =>
 ∃ k,d.cell? G=some (S k)∧(ssl k a (List.length k:Int) fun K =>
 Calls prog 220 ⟨[S K,.int .u8 62]⟩ d fun z q =>
 ∃ l,z=.returned (I l)∧br (decide ((0:Int)≤l)) (e (i64.wrap ((i64.wrap (a + l)) + 1)) q) (e ((List.length j:Int)) q))) (dr b fun H =>
 ∃ m,d.cell? H=some (S m)∧(ssl m a (List.length m:Int) fun L =>
 Calls prog 220 ⟨[S L,.int .u8 60]⟩ d fun A r =>
 ∃ n,A=.returned (I n)∧br (decide ((0:Int)≤n)) (e (i64.wrap (a + n)) r) (e ((List.length j:Int)) r)))))) (R (.returned (.tuple ⟨[]⟩)) d))
theorem qu7 {c a b d R w} (h:qr0 c a b d R w):Calls prog qcp ⟨[.func c a b,.pointer d]⟩ w R:=qe Tryz.func232 (Eq.mpr (by kernel_rfl:fnV _ _ qtf _ _ _=_) h)
def q1a:Ann:=T F (T (T F (.one (.loop 261928 [(8,.one (.int .i64))] (T F (T (T F F) (T (.one (T F (T F (T (T F F) F)))) F)))))) (T F F))
def qz3 (h:List UInt8) (R:Ending→World→Prop) (w:World):Prop :=
 al w 262 [S [],B false,.nilFunc] fun d H =>
 Calls prog 261 ⟨[]⟩ H fun G I =>
 ∃ E j F,G=.returned (L E j F)∧(∃ (A:Int→World→Nat→Prop),(∃ C,A 0 I C)∧∀ b g k,A b g k→∀ _:Env,(br (decide ((b:Int) < (j))) (idx E j b 3 fun i =>
 ∃ m,g.cell? (i.add 0)=some (S m)∧∃ n,g.cell? (i.add 1)=some (B n)∧∃ o,g.cell? (i.add 2)=some (o)∧al g 262 [S [],B false,.nilFunc] fun c D =>
 stL D c 0 [S m,B n,o] fun a =>
 ∃ p,a.cell? (c.add 0)=some (S p)∧br (decide (p=h)) (∃ q,a.cell? (c.add 0)=some (S q)∧∃ r,a.cell? (c.add 1)=some (B r)∧∃ s,a.cell? (c.add 2)=some (s)∧stL a d 0 [S q,B r,s] fun e =>
 ∃ t,e.cell? (d.add 0)=some (S t)∧∃ u,e.cell? (d.add 1)=some (B u)∧∃ v,e.cell? (d.add 2)=some (v)∧R (.returned (.tuple ⟨[.agg ⟨[S t,B u,v]⟩,B true]⟩)) e) (∃ l,l < k∧A (i64.wrap (b + 1)) a l)) (stL g d 0 [S [],B false,.nilFunc] fun f =>
 ∃ x,f.cell? (d.add 0)=some (S x)∧∃ y,f.cell? (d.add 1)=some (B y)∧∃ z,f.cell? (d.add 2)=some (z)∧R (.returned (.tuple ⟨[.agg ⟨[S x,B y,z]⟩,B false]⟩)) f)))
theorem q4o {a R w} (h:qz3 a R w):Calls prog qrm ⟨[S a]⟩ w R:=qe Tryz.func235 (Eq.mpr (by kernel_rfl:fnV _ _ q1a _ _ _=_) h)
def qys:Ann:=T F (T (T F (T (T F F) F)) (T F (T F F)))
def qwt (v:Int) (x:List UInt8) (y:List UInt8) (z:Int) (R:Ending→World→Prop) (w:World):Prop :=
 al w 202 [I v,S x,S y,I z] fun e b =>
 ∃ s,b.cell? (e.add 0)=some (I s)∧(br (decide (s=3)) (∃ t,b.cell? (e.add 2)=some (S t)∧R (.returned (.bool (decide (t=([]))))) b) (∃ u,b.cell? (e.add 1)=some (S u)∧Calls prog 235 ⟨[S u]⟩ b fun m o =>
 ∃ g h i r,m=.returned (.tuple ⟨[.agg ⟨[S g,B h,i]⟩,B r]⟩)∧al o 262 [S [],B false,.nilFunc] fun f p =>
 stL p f 0 [S g,B h,i] fun a =>
 ∃ j c d,a.cell? (f.add 2)=some (.func j c d)∧∃ k,a.cell? (e.add 2)=some (S k)∧CallV prog (.func j c d) [S k] a fun n q =>
 ∃ l,n=.returned (B l)∧R (.returned (B l)) q))
theorem q0m {a b c d R w} (h:qwt a b c d R w):Calls prog qg4 ⟨[.agg ⟨[I a,S b,S c,I d]⟩]⟩ w R:=qe Tryz.func238 (Eq.mpr (by kernel_rfl:fnV _ _ qys _ _ _=_) h)
def q06:Ann:=T F (T F (.cut 16328 [(3,.one (.str))] (T F (T F F)) (T (T F (.one (T F (T (T F F) (T F (T (T F F) (T F (T (T F F) F)))))))) (T F F))))
def qzz (s:Int) (t:List UInt8) (u:List UInt8) (v:Int) (R:Ending→World→Prop) (w:World):Prop :=
 al w 202 [I s,S t,S u,I v] fun d e =>
 ∃ j,e.cell? (d.add 1)=some (S j)∧(∀ (i:List UInt8→World→Prop),(∀ (a:List UInt8) (b:World),(∀ _:Env,(∃ c,b.cell? (d.add 0)=some (I c)∧br (decide (c=2)) (sadd ([60]) a fun k =>
 sadd k ([62]) fun l =>
 R (.returned (S l)) b) (br (decide (c=3)) (sadd ([60,47]) a fun m =>
 sadd m ([62]) fun n =>
 R (.returned (S n)) b) (br (decide (c=4)) (sadd ([60]) a fun o =>
 sadd o ([47,62]) fun p =>
 R (.returned (S p)) b) (∃ f,b.cell? (d.add 2)=some (S f)∧R (.returned (S f)) b)))))→i a b)→(∃ g,e.cell? (d.add 2)=some (S g)∧br (decide (g≠([]))) (∃ h,e.cell? (d.add 2)=some (S h)∧(sadd ([32]) h fun q =>
 sadd j q fun r =>
 i r e)) (i j e)))
theorem q4k {a b c d R w} (h:qzz a b c d R w):Calls prog qio ⟨[.agg ⟨[I a,S b,S c,I d]⟩]⟩ w R:=qe Tryz.func239 (Eq.mpr (by kernel_rfl:fnV _ _ q06 _ _ _=_) h)
def qvi:Ann:=T F (T (T F (.one (T F (T (T (.one (T F (T (T F F) (T F (T (T F F) (T F (T (T F F) F))))))) (T F F)) (.cut 62914560 [(22,.one (.bool))] (T F (T F (T F (T F F)))) (T (T (T F (T F (T (T F F) F))) (T F F)) F)))))) (T F F))
def qup (z:Int) (A:List UInt8) (C:List UInt8) (D:Int) (R:Ending→World→Prop) (w:World):Prop :=
 al w 202 [I z,S A,S C,I D] fun g a =>
 ∃ d,a.cell? (g.add 0)=some (I d)∧(br (decide (d=1)) (∃ x,a.cell? (g.add 1)=some (S x)∧br (decide (x≠([]))) (R (.returned (I 12)) a) (∃ y,a.cell? (g.add 2)=some (S y)∧br (decide (y=([]))) (R (.returned (I 5)) a) (∃ j,a.cell? (g.add 2)=some (S j)∧Calls prog 173 ⟨[S j]⟩ a fun s i =>
 ∃ k,s=.returned (I k)∧br (decide (k≠0)) (R (.returned (I 11)) i) (R (.returned (I 0)) i)))) (∀ (e:Bool→World→Prop),(∀ (b:Bool) (f:World),(∀ _:Env,(br b (∃ l,f.cell? (g.add 1)=some (S l)∧Calls prog 235 ⟨[S l]⟩ f fun t u =>
 ∃ m n o p,t=.returned (.tuple ⟨[.agg ⟨[S m,B n,o]⟩,B p]⟩)∧al u 262 [S [],B false,.nilFunc] fun h v =>
 stL v h 0 [S m,B n,o] fun c =>
 br (!p) (R (.returned (I 12)) c) (∃ q,c.cell? (h.add 1)=some (B q)∧∃ r,c.cell? (g.add 0)=some (I r)∧br (decide (q≠(decide (r=4)))) (R (.returned (I 12)) c) (R (.returned (I 0)) c))) (R (.returned (I 8)) f)))→e b f)→(br (decide (d=2)) (e (decide (d=2)) a) (br (decide (d=3)) (e (decide (d=3)) a) (e (decide (d=4)) a)))))
theorem qyd {a b c d R w} (h:qup a b c d R w):Calls prog qkz ⟨[.agg ⟨[I a,S b,S c,I d]⟩]⟩ w R:=qe Tryz.func240 (Eq.mpr (by kernel_rfl:fnV _ _ qvi _ _ _=_) h)
def qkn:Ann:=T F (T F (.one (.loop 137438953464 [(3,.one (.int .i64)),(4,.one (.int .i64))] (T (T F (T F F)) (T (.one (.cut 268433408 [] (T F (T F F)) (T (T F (T F F)) F))) F)))))
def qjn (h:Fn) (e:Array Value) (f:Array Value) (c:Option Addr) (R:Ending→World→Prop) (w:World):Prop :=
 ∃ (k:Int→Int→World→Nat→Prop),(∃ K,k 0 1 w K)∧∀ a b d y,k a b d y→∀ _:Env,(dr c fun L =>
 ∃ p,d.cell? L=some (S p)∧br (decide ((b:Int)≤((List.length p:Int)))) (∀ (g:World→Prop),(∀  (i:World),(∀ _:Env,(dr c fun E =>
 ∃ q,i.cell? E=some (S q)∧(ssl q a b fun J =>
 CallV prog (.func h e f) [I a,S J] i fun A n =>
 ∃ r,A=.returned (B r)∧br (!r) (R (.returned (.tuple ⟨[]⟩)) n) (∃ l,l < y∧k b (i64.wrap (b + 1)) n l))))→g i)→(dr c fun F =>
 ∃ s,d.cell? F=some (S s)∧br (decide ((b:Int) < ((List.length s:Int)))) (dr c fun G =>
 ∃ t,d.cell? G=some (S t)∧(sidx t b fun z =>
 Calls prog 184 ⟨[.int .u8 ((z.toNat:Int))]⟩ d fun C j =>
 ∃ u,C=.returned (I u)∧br (decide (u=2)) (dr c fun H =>
 ∃ v,j.cell? H=some (S v)∧Calls prog 251 ⟨[S v,I a,I b]⟩ j fun D o =>
 ∃ x,D=.returned (B x)∧br x (∃ m,m < y∧k a (i64.wrap (b + 1)) o m) (g o)) (g j))) (g d))) (R (.returned (.tuple ⟨[]⟩)) d))
theorem qls {c a b d R w} (h:qjn c a b d R w):Calls prog qbb ⟨[.func c a b,.pointer d]⟩ w R:=qe Tryz.func250 (Eq.mpr (by kernel_rfl:fnV _ _ qkn _ _ _=_) h)
def qvn:Ann:=T F (T F F)
def qut (c:List UInt8) (a:Int) (b:Int) (R:Ending→World→Prop) (w:World):Prop :=
 sidx c a fun f =>
 Calls prog 184 ⟨[.int .u8 ((f.toNat:Int))]⟩ w fun g d =>
 ∃ e,g=.returned (I e)∧(br (decide (e=1)) (R (.returned (.bool (decide ((a:Int) < b)))) d) (R (.returned (B false)) d))
theorem qyh {c a b R w} (h:qut c a b R w):Calls prog qk3 ⟨[S c,I a,I b]⟩ w R:=qe Tryz.func251 (Eq.mpr (by kernel_rfl:fnV _ _ qvn _ _ _=_) h)
def qdr:Ann:=T F (T (T F (.one (.loop 524080 [(8,.one (.int .i64))] (T F (T (T F F) (T (.one (T F (T F (T (T F F) F)))) F)))))) (T F F))
def qdm (m:Option Addr) (b:Nat) (q:Nat) (k:Fn) (h:Array Value) (i:Array Value) (R:Ending→World→Prop) (w:World):Prop :=
 ∃ (g:Int→World→Nat→Prop),(∃ o,g 0 w o)∧∀ a c l,g a c l→∀ _:Env,(br (decide ((a:Int) < ((b:Int)))) (idx m b a 1 fun p =>
 ∃ n,c.cell? p=some (.int .u8 n)∧CallV prog (.func k h i) [.int .u8 n] c fun j e =>
 ∃ f,j=.returned (B f)∧br f (R (.returned (I a)) e) (∃ d,d < l∧g (i64.wrap (a + 1)) e d)) (R (.returned (.int .i64 ((-1)))) c))
theorem qd8 {f d c e a b R w} (h:qdm f d c e a b R w):Calls prog qbf ⟨[L f d c,.func e a b]⟩ w R:=qe Tryz.func252 (Eq.mpr (by kernel_rfl:fnV _ _ qdr _ _ _=_) h)
def qtd:Ann:=T F (T (T F (.one (.rf [1,4,5,9] 0))) (T F F))
def qry (h:Option Addr) (d:Nat) (c:Nat) (e:List UInt8) (R:Ending→World→Prop) (w:World):Prop :=
 al w 9 [S []] fun f C =>
 al C 4 [B false] fun g D =>
 Calls prog 274 ⟨[L h d c,S e]⟩ D fun A E =>
 ∃ z s t,A=.returned (.func z s t)∧(∀ i:Env,RFw prog none 13 (cdAt Tryz.f254 [1,0,1,2]) (upd (upd (upd (upd i 9 (.func z s t)) 5 (.pointer (some g))) 4 (.pointer (some f))) 1 (S e)) [] E 0 (fun a b =>
 stL b f 0 [S e] fun x =>
 stL x g 0 [B false] fun y =>
 retD a y fun k =>
 ∃ o,k.cell? f=some (S o)∧∃ p,k.cell? g=some (B p)∧R (.returned (.tuple ⟨[S o,B p]⟩)) k) (fun a b =>
 retD a b fun l =>
 ∃ q,l.cell? f=some (S q)∧∃ r,l.cell? g=some (B r)∧R (.returned (.tuple ⟨[S q,B r]⟩)) l) (fun a b =>
 stL b f 0 [S e] fun u =>
 stL u g 0 [B false] fun v =>
 retD a v fun j =>
 ∃ m,j.cell? f=some (S m)∧∃ n,j.cell? g=some (B n)∧R (.returned (.tuple ⟨[S m,B n]⟩)) j))
theorem qu5 {c b a d R w} (h:qry c b a d R w):Calls prog qi1 ⟨[L c b a,S d]⟩ w R:=qe Tryz.func254 (Eq.mpr (by kernel_rfl:fnV _ _ qtd _ _ _=_) h)
def qe5:Ann:=F
def qe4:Ann:=.one (T F F)
def qm9 (m:List UInt8) (c:Option Addr) (d:Option Addr) (k:Fn) (g:Array Value) (h:Array Value) (a:List UInt8) (l:Nat) (Kn Kr Kx:World→World→Prop) (w:World):Prop :=
 Ext w w∧∀ b:World,Upd l w b→(dr c fun e =>
 stL b e 0 [S a] fun i =>
 dr d fun f =>
 stL i f 0 [B true] fun j =>
 Kr b j)
theorem qnk (base:Env) (g:List UInt8) (d:Option Addr) (e:Option Addr) (f:Fn) (b:Array Value) (c:Array Value) (a:List UInt8) (l:Nat) (Kn Kr Kx:World→World→Prop) (w:World):fragV prog 13 qe5 qe4 (cdAt Tryz.f254 [1,0,1,2,5]) (cdAt Tryz.f254 [1,0,1,2,6]) l 0 Kn Kr Kx (updPs [10] [S a] (upd (upd (upd (upd base 9 (.func f b c)) 5 (.pointer e)) 4 (.pointer d)) 1 (S g))) w=qm9 g d e f b c a l Kn Kr Kx w:=by kernel_rfl
theorem qnm:cdAt Tryz.f254 [1,0,1,2]=.rangeFunc (Operand.tmp 9) #[10] (cdAt Tryz.f254 [1,0,1,2,5]) (cdAt Tryz.f254 [1,0,1,2,6]):=by kernel_rfl
def q07:Ann:=T F (T F (T F F))
def qz0  (R:Ending→World→Prop) (w:World):Prop :=
 Calls prog 275 ⟨[I 8]⟩ w fun g j =>
 ∃ e a b,g=.returned (.func e a b)∧(Calls prog 275 ⟨[I 64]⟩ j fun h k =>
 ∃ f c d,h=.returned (.func f c d)∧al k 262 [S [97,98],B false,.func (.func 174) #[] #[],S [97,100,100],B false,.func e a b,S [100,101,108],B false,.func e a b,S [103,97,112],B true,.func f c d,S [108,98],B true,.func (.func 276) #[] #[],S [110,97,109,101],B false,.func (.func 90) #[] #[],S [112,98],B true,.func (.func 90) #[] #[],S [115,101,99],B true,.func (.func 90) #[] #[],S [117,110,99,108,101,97,114],B false,.func (.func 276) #[] #[],S [118],B true,.func (.func 276) #[] #[]] fun i l =>
 R (.returned (.slice (some i) 10 10)) l)
theorem q4l {R w} (h:qz0  R w):Calls prog qrj ⟨[]⟩ w R:=qe Tryz.func261 (Eq.mpr (by kernel_rfl:fnV _ _ q07 _ _ _=_) h)
def qlz:Ann:=T F (T F F)
def qln (c:Option Addr) (b:Nat) (a:Nat) (d:List UInt8) (R:Ending→World→Prop) (w:World):Prop :=
 al w 23 [L c b a] fun e g =>
 al g 9 [S d] fun f h =>
 R (.returned (.func (.func 282) ⟨[]⟩ ⟨[.pointer (some f),.pointer (some e)]⟩)) h
theorem qnt {c b a d R w} (h:qln c b a d R w):Calls prog qfz ⟨[L c b a,S d]⟩ w R:=qe Tryz.func274 (Eq.mpr (by kernel_rfl:fnV _ _ qlz _ _ _=_) h)
def qvj:Ann:=T F (T F F)
def quq (a:Int) (R:Ending→World→Prop) (w:World):Prop :=
 al w 3 [I a] fun b c =>
 R (.returned (.func (.func 284) ⟨[]⟩ ⟨[.pointer (some b)]⟩)) c
theorem qye {a R w} (h:quq a R w):Calls prog qk0 ⟨[I a]⟩ w R:=qe Tryz.func275 (Eq.mpr (by kernel_rfl:fnV _ _ qvj _ _ _=_) h)
def q09:Ann:=T F (T F F)
def qz2 (a:List UInt8) (R:Ending→World→Prop) (w:World):Prop :=
 R (.returned (.bool (decide ((a:List UInt8)=([]))))) w
theorem q4n {a R w} (h:qz2 a R w):Calls prog qrl ⟨[S a]⟩ w R:=qe Tryz.func276 (Eq.mpr (by kernel_rfl:fnV _ _ q09 _ _ _=_) h)
def qjf:Ann:=T F (.one (.loop 35184372087248 [(11,.one (.int .i64))] (T F (T (T F F) (T (.one (T F (T F (.one (.loop 17592185979328 [(16,.one (.int .i64))] (T F (T (T F F) (T (.one (T F (T F (T F (T F F))))) F)))))))) F)))))
def qi9 (j:Fn) (f:Array Value) (g:Array Value) (d:Option Addr) (G:Option Addr) (R:Ending→World→Prop) (w:World):Prop :=
 dr d fun a2 =>
 ∃ a1,w.cell? a2=some (S a1)∧(∃ (F:Int→World→Nat→Prop),(∃ K,F 0 w K)∧∀ b o N,F b o N→∀ _:Env,(br (decide ((b:Int) < ((List.length a1:Int)))) (dr G fun O =>
 ∃ u e H,o.cell? O=some (L u e H)∧∃ (h:Int→World→Nat→Prop),(∃ M,h 0 o M)∧∀ a c k,h a c k→∀ _:Env,(br (decide ((a:Int) < (e))) (idx u e a 2 fun s =>
 ∃ v,c.cell? (s.add 0)=some (S v)∧∃ x,c.cell? (s.add 1)=some (S x)∧al c 91 [S [],S []] fun l Y =>
 stL Y l 0 [S v,S x] fun Z =>
 drw Z fun m =>
 dr d fun Q =>
 ∃ n,m.cell? Q=some (S n)∧(ssl n b (List.length n:Int) fun U =>
 ∃ y,m.cell? (l.add 0)=some (S y)∧((Calls prog 283 ⟨[S U,S y]⟩ m fun I a0 =>
 ∃ z A,I=.returned (.tuple ⟨[S z,B A]⟩)∧drw a0 fun i =>
 br A (dr d fun T =>
 ∃ C,i.cell? T=some (S C)∧(ssl C 0 b fun V =>
 ∃ D,i.cell? (l.add 1)=some (S D)∧(sadd V D fun W =>
 sadd W z fun X =>
 (CallV prog (.func j f g) [S X] i fun J t =>
 ∃ E,J=.returned (B E)∧br (!E) (R (.returned (.tuple ⟨[]⟩)) t) (∃ p,p < k∧h (i64.wrap (a + 1)) t p))∧True))) ((∃ q,q < k∧h (i64.wrap (a + 1)) i q)∧True))∧True))) (∃ r,r < N∧F (i64.wrap (b + 1)) c r))) (R (.returned (.tuple ⟨[]⟩)) o)))
theorem qkg {c a b d e R w} (h:qi9 c a b d e R w):Calls prog qa6 ⟨[.func c a b,.pointer d,.pointer e]⟩ w R:=qe Tryz.func282 (Eq.mpr (by kernel_rfl:fnV _ _ qjf _ _ _=_) h)
def qly:Ann:=T F (T F F)
def qlm (b:List UInt8) (a:List UInt8) (R:Ending→World→Prop) (w:World):Prop :=
 Calls prog 288 ⟨[S b,S a]⟩ w fun e f =>
 ∃ c d,e=.returned (.tuple ⟨[S c,B d]⟩)∧(R (.returned (.tuple ⟨[S c,B d]⟩)) f)
theorem qns {b a R w} (h:qlm b a R w):Calls prog qfy ⟨[S b,S a]⟩ w R:=qe Tryz.func283 (Eq.mpr (by kernel_rfl:fnV _ _ qly _ _ _=_) h)
def qqw:Ann:=T F (T F (T F F))
def qo5 (c:List UInt8) (e:Option Addr) (R:Ending→World→Prop) (w:World):Prop :=
 Calls prog 210 ⟨[S c]⟩ w fun k a =>
 ∃ b h,k=.returned (.tuple ⟨[I b,h]⟩)∧(ifc h fun j =>
 br j (br (decide ((1:Int)≤b)) (dr e fun l =>
 ∃ i,a.cell? l=some (I i)∧br (decide (b≤i)) (Calls prog 59 ⟨[I b]⟩ a fun f g =>
 ∃ d,f=.returned (S d)∧R (.returned (.bool (decide (d=c)))) g) (R (.returned (B false)) a)) (R (.returned (B false)) a)) (R (.returned (B false)) a))
theorem qs6 {b a R w} (h:qo5 b a R w):Calls prog qh6 ⟨[S b,.pointer a]⟩ w R:=qe Tryz.func284 (Eq.mpr (by kernel_rfl:fnV _ _ qqw _ _ _=_) h)
def qdg:Ann:=T F (T (T F (T (T F F) F)) (T F F))
def qc7 (b:List UInt8) (a:List UInt8) (R:Ending→World→Prop) (w:World):Prop :=
 Calls prog 230 ⟨[S b,S a]⟩ w fun e c =>
 ∃ d,e=.returned (B d)∧(br (!d) (R (.returned (.tuple ⟨[S b,B false]⟩)) c) (ssl b ((List.length a:Int)) (List.length b:Int) fun f =>
 R (.returned (.tuple ⟨[S f,B true]⟩)) c))
theorem qdp {b a R w} (h:qc7 b a R w):Calls prog qdu ⟨[S b,S a]⟩ w R:=qe Tryz.func288 (Eq.mpr (by kernel_rfl:fnV _ _ qdg _ _ _=_) h)
end Go.Proofs
