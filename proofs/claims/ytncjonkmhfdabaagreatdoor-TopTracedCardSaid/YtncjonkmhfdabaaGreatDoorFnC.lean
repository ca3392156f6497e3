/- Written by program: for each function its verification condition, that it is the code's (by the kernel), and that it gives the call. -/
import Derived.Test.YtncjonkmhfdabaaGreatDoorFn
set_option linter.all false
set_option maxRecDepth 100000
namespace Go.Proofs
open Go Go.Sh Go.Proofs.Tryz IntKind
def qrg:Ann:=T F (.one (.loop 68719476728 [(3,.one (.int .i64))] (T (T F (T F F)) (.one (T F (.cut 16775184 [(4,.one (.int .i64))] (.one (.loop 16775184 [(4,.one (.int .i64))] (T (T F (T F F)) (.one F)))) (T (T F (T F F)) F)))))))
def qp1 (i:Fn) (f:Array Value) (g:Array Value) (e:Option Addr) (R:Ending→World→Prop) (w:World):Prop :=
 ∃ (t:Int→World→Nat→Prop),(∃ X,t 0 w X)∧∀ a u M,t a u M→∀ _:Env,(dr e fun Y =>
 ∃ Z K W,u.cell? (Y.add 3)=some (L Z K W)∧br (decide ((a:Int) < (K))) (∀ (k:Int→World→Prop),(∀ (c:Int) (l:World),(∀ _:Env,(br (decide ((a:Int) < c)) (CallV prog (.func i f g) [I a,I c] l fun O A =>
 ∃ D,O=.returned (B D)∧br (!D) (R (.returned (.tuple ⟨[]⟩)) A) (∃ v,v < M∧t (i64.wrap (c + 1)) A v)) (∃ x,x < M∧t (i64.wrap (c + 1)) l x)))→k c l)→(∃ (j:Int→World→Nat→Prop),(∃ T,j a u T)∧∀ b d y,j b d y→∀ _:Env,(dr e fun U =>
 ∃ V m N,d.cell? (U.add 3)=some (L V m N)∧br (decide ((b:Int) < (m))) (dr e fun h =>
 ∃ E,d.cell? (h.add 0)=some (S E)∧∃ F o n,d.cell? (h.add 1)=some (L F o n)∧∃ G q p,d.cell? (h.add 2)=some (L G q p)∧∃ H s r,d.cell? (h.add 3)=some (L H s r)∧Calls prog 102 ⟨[.agg ⟨[S E,L F o n,L G q p,L H s r]⟩,I b]⟩ d fun Q C =>
 ∃ J,Q=.returned (B J)∧br (!J) (∃ z,z < y∧j (i64.wrap (b + 1)) C z) (k b C)) (k b d)))) (R (.returned (.tuple ⟨[]⟩)) u))
theorem qth {c a b d R w} (h:qp1 c a b d R w):Calls prog qcm ⟨[.func c a b,.pointer d]⟩ w R:=qb Tryz.func101 (Eq.mpr (by kernel_rfl:fnV _ _ qrg _ _ _=_) h)
def qrh:Ann:=T F (T F (T (T F (.one (.loop 2199022732176 [(19,.one (.int .i64))] (T F (T (T F F) (T (.one (T F (T F (T F (T (T F F) F))))) F)))))) (T F F)))
def qp2 (a1:List UInt8) (a2:Option Addr) (N:Nat) (M:Nat) (a3:Option Addr) (Q:Nat) (O:Nat) (a4:Option Addr) (U:Nat) (T:Nat) (b:Int) (R:Ending→World→Prop) (w:World):Prop :=
 al w 62 [S a1,L a2 N M,L a3 Q O,L a4 U T] fun d g =>
 ∃ Z,g.cell? (d.add 0)=some (S Z)∧(∃ a0 J H,g.cell? (d.add 1)=some (L a0 J H)∧∃ v i h,g.cell? (d.add 2)=some (L v i h)∧∃ x k j,g.cell? (d.add 3)=some (L x k j)∧Calls prog 147 ⟨[.agg ⟨[S Z,L a0 J H,L v i h,L x k j]⟩,I b,I 0]⟩ g fun V u =>
 ∃ y z,V=.returned (.tuple ⟨[S y,B z]⟩)∧∃ Y l K,u.cell? (d.add 1)=some (L Y l K)∧∃ (f:Int→World→Nat→Prop),(∃ X,f 0 u X)∧∀ a c s,f a c s→∀ _:Env,(br (decide ((a:Int) < (l))) (∃ A,c.cell? (d.add 0)=some (S A)∧∃ C n m,c.cell? (d.add 1)=some (L C n m)∧∃ D p o,c.cell? (d.add 2)=some (L D p o)∧∃ E r q,c.cell? (d.add 3)=some (L E r q)∧Calls prog 147 ⟨[.agg ⟨[S A,L C n m,L D p o,L E r q]⟩,I b,I a]⟩ c fun W e =>
 ∃ F G,W=.returned (.tuple ⟨[S F,B G]⟩)∧br (!z) (R (.returned (B false)) e) (br (!G) (R (.returned (B false)) e) (br (decide (F≠y)) (R (.returned (B false)) e) (∃ t,t < s∧f (i64.wrap (a + 1)) e t)))) (R (.returned (B true)) c)))
theorem qti {i j c b k e d l g f a R w} (h:qp2 i j c b k e d l g f a R w):Calls prog qh5 ⟨[.agg ⟨[S i,L j c b,L k e d,L l g f]⟩,I a]⟩ w R:=qb Tryz.func102 (Eq.mpr (by kernel_rfl:fnV _ _ qrh _ _ _=_) h)
def qo7:Ann:=T F (T F (T (T F (.one (.loop 2147474944 [(9,.one (.slice)),(10,.one (.int .i64))] (T (T F (T F F)) (T (.one (T F (T F (T F F)))) F))))) (T F F)))
def qof (V:List UInt8) (W:Option Addr) (F:Nat) (E:Nat) (X:Option Addr) (H:Nat) (G:Nat) (Y:Option Addr) (K:Nat) (J:Nat) (h:Int) (D:Int) (f:Int) (R:Ending→World→Prop) (w:World):Prop :=
 al w 62 [S V,L W F E,L X H G,L Y K J] fun p Z =>
 ∃ (g:Option Addr→Nat→Nat→Int→World→Nat→Prop),(∃ O,g none 0 0 h Z O)∧∀ c b a d e i,g c b a d e i→∀ _:Env,(br (decide ((d:Int) < D)) (∃ t,e.cell? (p.add 0)=some (S t)∧∃ u k j,e.cell? (p.add 1)=some (L u k j)∧∃ v m l,e.cell? (p.add 2)=some (L v m l)∧∃ x o n,e.cell? (p.add 3)=some (L x o n)∧Calls prog 147 ⟨[.agg ⟨[S t,L u k j,L v m l,L x o n]⟩,I d,I f]⟩ e fun N s =>
 ∃ y z,N=.returned (.tuple ⟨[S y,B z]⟩)∧br z (al s 9 [S y] fun Q T =>
 app prog [23,23] 23 (L c b a) (.slice (some Q) 1 1) T fun M C A U =>
 ∃ q,q < i∧g M C A (i64.wrap (d + 1)) U q) (∃ r,r < i∧g c b a (i64.wrap (d + 1)) s r)) (R (.returned (L c b a)) e))
theorem qq2 {k l e d m g f n j i b c a R w} (h:qof k l e d m g f n j i b c a R w):Calls prog qhe ⟨[.agg ⟨[S k,L l e d,L m g f,L n j i]⟩,I b,I c,I a]⟩ w R:=qb Tryz.func103 (Eq.mpr (by kernel_rfl:fnV _ _ qo7 _ _ _=_) h)
def qex:Ann:=T F (T F F)
def qep (k:Option Addr) (f:Nat) (e:Nat) (m:Option Addr) (h:Nat) (g:Nat) (n:Option Addr) (j:Nat) (i:Nat) (c:Fn) (a:Array Value) (b:Array Value) (R:Ending→World→Prop) (w:World):Prop :=
 al w 179 [L m h g,L n j i] fun p r =>
 al r 181 [.func c a b] fun q s =>
 Calls prog 148 ⟨[L k f e,.func (.func 149) ⟨[]⟩ ⟨[.pointer (some q),.pointer (some p)]⟩]⟩ s fun o l =>
 ∃ d,o=.returned (I d)∧(R (.returned (I d)) l)
theorem qfg {k e d l g f m j i c a b R w} (h:qep k e d l g f m j i c a b R w):Calls prog qbv ⟨[L k e d,.agg ⟨[L l g f,L m j i]⟩,.func c a b]⟩ w R:=qb Tryz.func104 (Eq.mpr (by kernel_rfl:fnV _ _ qex _ _ _=_) h)
def qky:Ann:=T F (T F F)
def qj9 (p:Option Addr) (h:Nat) (g:Nat) (q:Option Addr) (j:Nat) (i:Nat) (r:Option Addr) (l:Nat) (k:Nat) (s:Option Addr) (n:Nat) (m:Nat) (R:Ending→World→Prop) (w:World):Prop :=
 al w 179 [L p h g,L q j i] fun x z =>
 al z 179 [L r l k,L s n m] fun y o =>
 ∃ v f e,o.cell? (x.add 0)=some (L v f e)∧(∃ c b a,o.cell? (y.add 0)=some (L c b a)∧Calls prog 30 ⟨[L v f e,L c b a]⟩ o fun t u =>
 ∃ d,t=.returned (B d)∧R (.returned (B d)) u)
theorem qlr {j b a k d c l f e m i g R w} (h:qj9 j b a k d c l f e m i g R w):Calls prog ql2 ⟨[.agg ⟨[L j b a,L k d c]⟩,.agg ⟨[L l f e,L m i g]⟩]⟩ w R:=qb Tryz.func105 (Eq.mpr (by kernel_rfl:fnV _ _ qky _ _ _=_) h)
def qt7:Ann:=T F (T (T F (T (T F F) F)) (T (T F (T (T F F) F)) (T F F)))
def qsg (Q:List UInt8) (T:Option Addr) (D:Nat) (C:Nat) (U:Option Addr) (F:Nat) (E:Nat) (V:Option Addr) (H:Nat) (G:Nat) (M:Option Addr) (A:Nat) (z:Nat) (R:Ending→World→Prop) (w:World):Prop :=
 al w 62 [S Q,L T D C,L U F E,L V H G] fun b c =>
 ∃ N,c.cell? (b.add 0)=some (S N)∧(∃ O y x,c.cell? (b.add 1)=some (L O y x)∧∃ o e d,c.cell? (b.add 2)=some (L o e d)∧∃ p g f,c.cell? (b.add 3)=some (L p g f)∧Calls prog 58 ⟨[.agg ⟨[S N,L O y x,L o e d,L p g f]⟩]⟩ c fun J a =>
 ∃ q,J=.returned (I q)∧br (decide (q≠0)) (R (.returned (I 1)) a) (∃ r,a.cell? (b.add 0)=some (S r)∧∃ s i h,a.cell? (b.add 1)=some (L s i h)∧∃ t k j,a.cell? (b.add 2)=some (L t k j)∧∃ u m l,a.cell? (b.add 3)=some (L u m l)∧Calls prog 150 ⟨[.agg ⟨[S r,L s i h,L t k j,L u m l]⟩,L M A z]⟩ a fun K n =>
 ∃ v,K=.returned (B v)∧br (!v) (R (.returned (I 20)) n) (R (.returned (I 0)) n)))
theorem qwb {k l d c m f e n i g j b a R w} (h:qsg k l d c m f e n i g j b a R w):Calls prog qjn ⟨[.agg ⟨[S k,L l d c,L m f e,L n i g]⟩,L j b a]⟩ w R:=qb Tryz.func106 (Eq.mpr (by kernel_rfl:fnV _ _ qt7 _ _ _=_) h)
def qw0:Ann:=T F (.cut 4294951104 [] (.one (.cut 8372224 [(14,.one (.bool))] F (T (T F F) (T F (T (T F F) F))))) (T F (T (T F (T (T F F) F)) (T F (T (T F (T (T F F) F)) (T F (.cut 2269814212194730176 [] (T F (T (T F F) F)) (T (T F (T (T F (T (T F (T (T F F) F)) (T F (T (T F F) F)))) F)) (T F F)))))))))
def qvp (b6:List UInt8) (b7:Option Addr) (a0:Nat) (Z:Nat) (b8:Option Addr) (a2:Nat) (a1:Nat) (b9:Option Addr) (a4:Nat) (a3:Nat) (b3:Option Addr) (X:Nat) (W:Nat) (a5:Int) (a6:List UInt8) (a7:Int) (a8:List UInt8) (R:Ending→World→Prop) (w:World):Prop :=
 al w 62 [S b6,L b7 a0 Z,L b8 a2 a1,L b9 a4 a3] fun d b4 =>
 al b4 68 [I a5,S a6,I a7,S a8] fun a g =>
 ∀ (j:World→Prop),(∀  (h:World),(∀ _:Env,(∃ B o n,h.cell? (d.add 1)=some (L B o n)∧∃ C,h.cell? (a.add 1)=some (S C)∧Calls prog 73 ⟨[L B o n,S C]⟩ h fun a9 b =>
 ∃ p,a9=.returned (I p)∧br (decide (p < 0)) (R (.returned (.tuple ⟨[I 0,I 6]⟩)) b) (∃ D,b.cell? (d.add 0)=some (S D)∧∃ E r q,b.cell? (d.add 1)=some (L E r q)∧∃ F t s,b.cell? (d.add 2)=some (L F t s)∧∃ G v u,b.cell? (d.add 3)=some (L G v u)∧∃ H,b.cell? (a.add 2)=some (I H)∧Calls prog 151 ⟨[.agg ⟨[S D,L E r q,L F t s,L G v u]⟩,I p,I H]⟩ b fun b0 A =>
 ∃ J K,b0=.returned (.tuple ⟨[I J,I K]⟩)∧br (decide (K≠0)) (R (.returned (.tuple ⟨[I 0,I 6]⟩)) A) (Calls prog 117 ⟨[L b3 X W,I J]⟩ A fun b1 l =>
 ∃ i M,b1=.returned (.tuple ⟨[I i,I M]⟩)∧∀ (z:World→Prop),(∀  (f:World),(∀ _:Env,(∃ N,f.cell? (a.add 0)=some (I N)∧br (decide (N=2)) (∃ O,f.cell? (a.add 3)=some (S O)∧Calls prog 152 ⟨[S O]⟩ f fun b2 m =>
 ∃ b5 x Y y,b2=.returned (.tuple ⟨[L b5 x Y,I y]⟩)∧br (decide (y≠0)) (R (.returned (.tuple ⟨[I 0,I y]⟩)) m) (br (decide (((x):Int)=0)) (R (.returned (.tuple ⟨[I 0,I 5]⟩)) m) (R (.returned (.tuple ⟨[I i,I 0]⟩)) m))) (R (.returned (.tuple ⟨[I i,I 0]⟩)) f)))→z f)→(br (decide (M≠0)) (R (.returned (.tuple ⟨[I 0,I 20]⟩)) l) (br (decide (i < 0)) (R (.returned (.tuple ⟨[I 0,I 20]⟩)) l) (z l)))))))→j h)→(∀ (k:Bool→World→Prop),(∀ (e:Bool) (c:World),(∀ _:Env,(br e (R (.returned (.tuple ⟨[I 0,I 8]⟩)) c) (∃ Q,c.cell? (a.add 3)=some (S Q)∧br (decide (Q≠([]))) (∃ T,c.cell? (a.add 0)=some (I T)∧br (decide (T≠2)) (R (.returned (.tuple ⟨[I 0,I 1]⟩)) c) (j c)) (j c))))→k e c)→(∃ U,g.cell? (a.add 0)=some (I U)∧br (decide (U < 1)) (k true g) (∃ V,g.cell? (a.add 0)=some (I V)∧(k (decide ((3:Int) < V)) g))))
theorem qyc {o p d c q f e r i g n b a j k l m R w} (h:qvp o p d c q f e r i g n b a j k l m R w):Calls prog qlc ⟨[.agg ⟨[S o,L p d c,L q f e,L r i g]⟩,L n b a,.agg ⟨[I j,S k,I l,S m]⟩]⟩ w R:=qb Tryz.func107 (Eq.mpr (by kernel_rfl:fnV _ _ qw0 _ _ _=_) h)
def qw7:Ann:=T F (.cut 65524 [] (T F (T (T F F) F)) (.cut 33488908 [] (T F (T F (T (T F F) F))) (T F F)))
def qvw (a:List UInt8) (R:Ending→World→Prop) (w:World):Prop :=
 ∀ (h:World→Prop),(∀  (n:World),(∀ _:Env,(∀ (g:World→Prop),(∀  (o:World),(∀ _:Env,(s2b prog o 5 a fun p j i r =>
 Calls prog 156 ⟨[L p j i,.func (.func 157) #[] #[]]⟩ r fun q s =>
 ∃ e,q=.returned (B e)∧R (.returned (.bool (!e))) s))→g o)→(sidx a 0 fun k =>
 Calls prog 91 ⟨[.int .u8 ((k.toNat:Int))]⟩ n fun l b =>
 ∃ c,l=.returned (I c)∧br (decide (c≠1)) (br (decide (c≠3)) (R (.returned (B false)) b) (g b)) (g b))))→h n)→(br (decide ((a:List UInt8)=([]))) (R (.returned (B false)) w) (br (decide ((64:Int) < ((List.length a:Int)))) (R (.returned (B false)) w) (Calls prog 155 ⟨[S a]⟩ w fun m d =>
 ∃ f,m=.returned (I f)∧br (decide (f≠0)) (R (.returned (B false)) d) (h d))))
theorem qyj {a R w} (h:qvw a R w):Calls prog qlj ⟨[S a]⟩ w R:=qb Tryz.func109 (Eq.mpr (by kernel_rfl:fnV _ _ qw7 _ _ _=_) h)
def qpf:Ann:=T F (.one (.loop 549755813568 [(6,.one (.int .i64))] (T (T F (T F F)) (T (.one (T F (T F (T F F)))) F))))
def qon (g:Fn) (d:Array Value) (e:Array Value) (K:Option Addr) (M:Option Addr) (i:Option Addr) (j:Option Addr) (R:Ending→World→Prop) (w:World):Prop :=
 dr K fun a5 =>
 ∃ a4,w.cell? a5=some (I a4)∧(∃ (p:Int→World→Nat→Prop),(∃ V,p a4 w V)∧∀ b f h,p b f h→∀ _:Env,(dr M fun W =>
 ∃ t,f.cell? W=some (I t)∧br (decide ((b:Int) < t)) (drw f fun a =>
 dr i fun X =>
 ∃ u k N,a.cell? (X.add 3)=some (L u k N)∧idx u k b 1 fun Y =>
 ∃ v l O,a.cell? Y=some (L v l O)∧dr j fun Z =>
 ∃ x,a.cell? Z=some (I x)∧idx v l x 1 fun a0 =>
 ∃ m,a.cell? a0=some (I m)∧br (decide ((0:Int)≤m)) (dr i fun a1 =>
 ∃ y n Q,a.cell? (a1.add 2)=some (L y n Q)∧dr j fun a2 =>
 ∃ z,a.cell? a2=some (I z)∧idx y n z 1 fun a3 =>
 ∃ A o T,a.cell? a3=some (L A o T)∧idx A o m 6 fun c =>
 ∃ C,a.cell? (c.add 0)=some (S C)∧∃ D,a.cell? (c.add 1)=some (S D)∧∃ E,a.cell? (c.add 2)=some (S E)∧∃ F,a.cell? (c.add 3)=some (I F)∧∃ G,a.cell? (c.add 4)=some (I G)∧∃ H,a.cell? (c.add 5)=some (S H)∧CallV prog (.func g d e) [.agg ⟨[S C,S D,S E,I F,I G,S H,I b]⟩] a fun U s =>
 ∃ J,U=.returned (B J)∧br (!J) (R (.returned (.tuple ⟨[]⟩)) s) (∃ q,q < h∧p (i64.wrap (b + 1)) s q)) (∃ r,r < h∧p (i64.wrap (b + 1)) a r)) (R (.returned (.tuple ⟨[]⟩)) f)))
theorem qra {c a b d e f g R w} (h:qon c a b d e f g R w):Calls prog qa3 ⟨[.func c a b,.pointer d,.pointer e,.pointer f,.pointer g]⟩ w R:=qb Tryz.func110 (Eq.mpr (by kernel_rfl:fnV _ _ qpf _ _ _=_) h)
def qry:Ann:=T F (T (.one F) F)
def qqj (o8:List UInt8) (o9:Option Addr) (k2:Nat) (k1:Nat) (p0:Option Addr) (k4:Nat) (k3:Nat) (p1:Option Addr) (k6:Nat) (k5:Nat) (m9:Int) (n0:Int) (n1:Option Addr) (j6:Nat) (j5:Nat) (k7:Int) (k8:List UInt8) (i8:Int) (i9:List UInt8) (R:Ending→World→Prop) (w:World):Prop :=
 al w 62 [S o8,L o9 k2 k1,L p0 k4 k3,L p1 k6 k5] fun a n2 =>
 al n2 123 [I m9,I n0,L n1 j6 j5] fun c n3 =>
 al n3 68 [I k7,S k8,I i8,S i9] fun m8 n4 =>
 drw n4 fun b =>
 ∃ g e d,b.cell? (a.add 1)=some (L g e d)∧(∃ h,b.cell? (m8.add 1)=some (S h)∧((∃ r,b.cell? (a.add 0)=some (S r)∧∃ s j i,b.cell? (a.add 1)=some (L s j i)∧∃ t l k,b.cell? (a.add 2)=some (L t l k)∧∃ u n m,b.cell? (a.add 3)=some (L u n m)∧((∃ b3,b.cell? (c.add 0)=some (I b3)∧((∃ f3,b.cell? (c.add 1)=some (I f3)∧((Calls prog 73 ⟨[L g e d,S h]⟩ b fun k9 n5 =>
 ∃ f4,k9=.returned (I f4)∧((Calls prog 67 ⟨[.agg ⟨[S r,L s j i,L t l k,L u n m]⟩,I b3,I f3,I f4]⟩ n5 fun l0 n6 =>
 ∃ f5 b4 b5,l0=.returned (.func f5 b4 b5)∧((Calls prog 112 ⟨[.func f5 b4 b5]⟩ n6 fun l1 n7 =>
 ∃ f6 b7 b6,l1=.returned (L f6 b7 b6)∧R (.returned (L f6 b7 b6)) n7)∧True))∧True))∧True))∧(Calls prog 73 ⟨[L g e d,S h]⟩ b fun l2 f1 =>
 ∃ f7,l2=.returned (I f7)∧∃ f8,f1.cell? (c.add 1)=some (I f8)∧((Calls prog 67 ⟨[.agg ⟨[S r,L s j i,L t l k,L u n m]⟩,I b3,I f8,I f7]⟩ f1 fun l3 n8 =>
 ∃ f9 b8 b9,l3=.returned (.func f9 b8 b9)∧((Calls prog 112 ⟨[.func f9 b8 b9]⟩ n8 fun l4 n9 =>
 ∃ g0 c1 c0,l4=.returned (L g0 c1 c0)∧R (.returned (L g0 c1 c0)) n9)∧True))∧True))∧True))∧(∃ g1,b.cell? (c.add 1)=some (I g1)∧((Calls prog 73 ⟨[L g e d,S h]⟩ b fun l5 f2 =>
 ∃ g2,l5=.returned (I g2)∧∃ g3,f2.cell? (c.add 0)=some (I g3)∧((Calls prog 67 ⟨[.agg ⟨[S r,L s j i,L t l k,L u n m]⟩,I g3,I g1,I g2]⟩ f2 fun l6 o0 =>
 ∃ g4 c2 c3,l6=.returned (.func g4 c2 c3)∧((Calls prog 112 ⟨[.func g4 c2 c3]⟩ o0 fun l7 o1 =>
 ∃ g5 c5 c4,l7=.returned (L g5 c5 c4)∧R (.returned (L g5 c5 c4)) o1)∧True))∧True))∧True))∧(Calls prog 73 ⟨[L g e d,S h]⟩ b fun l8 V =>
 ∃ g6,l8=.returned (I g6)∧∃ g7,V.cell? (c.add 0)=some (I g7)∧∃ g8,V.cell? (c.add 1)=some (I g8)∧((Calls prog 67 ⟨[.agg ⟨[S r,L s j i,L t l k,L u n m]⟩,I g7,I g8,I g6]⟩ V fun l9 o2 =>
 ∃ g9 c6 c7,l9=.returned (.func g9 c6 c7)∧((Calls prog 112 ⟨[.func g9 c6 c7]⟩ o2 fun m0 o3 =>
 ∃ h0 c9 c8,m0=.returned (L h0 c9 c8)∧R (.returned (L h0 c9 c8)) o3)∧True))∧True))∧True))∧(∃ d0,b.cell? (c.add 0)=some (I d0)∧((∃ h1,b.cell? (c.add 1)=some (I h1)∧((Calls prog 73 ⟨[L g e d,S h]⟩ b fun m1 q =>
 ∃ h2,m1=.returned (I h2)∧∃ h3,q.cell? (a.add 0)=some (S h3)∧∃ h4 d2 d1,q.cell? (a.add 1)=some (L h4 d2 d1)∧∃ h5 d4 d3,q.cell? (a.add 2)=some (L h5 d4 d3)∧∃ h6 d6 d5,q.cell? (a.add 3)=some (L h6 d6 d5)∧((Calls prog 67 ⟨[.agg ⟨[S h3,L h4 d2 d1,L h5 d4 d3,L h6 d6 d5]⟩,I d0,I h1,I h2]⟩ q fun m2 o4 =>
 ∃ h7 d7 d8,m2=.returned (.func h7 d7 d8)∧((Calls prog 112 ⟨[.func h7 d7 d8]⟩ o4 fun m3 o5 =>
 ∃ h8 e0 d9,m3=.returned (L h8 e0 d9)∧R (.returned (L h8 e0 d9)) o5)∧True))∧True))∧True))∧(Calls prog 73 ⟨[L g e d,S h]⟩ b fun m4 o =>
 ∃ h9,m4=.returned (I h9)∧∃ i0,o.cell? (a.add 0)=some (S i0)∧∃ i1 e2 e1,o.cell? (a.add 1)=some (L i1 e2 e1)∧∃ i2 e4 e3,o.cell? (a.add 2)=some (L i2 e4 e3)∧∃ i3 e6 e5,o.cell? (a.add 3)=some (L i3 e6 e5)∧∃ i4,o.cell? (c.add 1)=some (I i4)∧((Calls prog 67 ⟨[.agg ⟨[S i0,L i1 e2 e1,L i2 e4 e3,L i3 e6 e5]⟩,I d0,I i4,I h9]⟩ o fun m5 o6 =>
 ∃ i5 e7 e8,m5=.returned (.func i5 e7 e8)∧((Calls prog 112 ⟨[.func i5 e7 e8]⟩ o6 fun m6 o7 =>
 ∃ i6 f0 e9,m6=.returned (L i6 f0 e9)∧R (.returned (L i6 f0 e9)) o7)∧True))∧True))∧True))∧(∃ i7,b.cell? (c.add 1)=some (I i7)∧((Calls prog 73 ⟨[L g e d,S h]⟩ b fun m7 p =>
 ∃ W,m7=.returned (I W)∧∃ X,p.cell? (a.add 0)=some (S X)∧∃ Y x v,p.cell? (a.add 1)=some (L Y x v)∧∃ Z z y,p.cell? (a.add 2)=some (L Z z y)∧∃ a0 B A,p.cell? (a.add 3)=some (L a0 B A)∧∃ a1,p.cell? (c.add 0)=some (I a1)∧((Calls prog 67 ⟨[.agg ⟨[S X,L Y x v,L Z z y,L a0 B A]⟩,I a1,I i7,I W]⟩ p fun j0 j7 =>
 ∃ a2 C D,j0=.returned (.func a2 C D)∧((Calls prog 112 ⟨[.func a2 C D]⟩ j7 fun j1 j8 =>
 ∃ a3 F E,j1=.returned (L a3 F E)∧R (.returned (L a3 F E)) j8)∧True))∧True))∧True))∧(Calls prog 73 ⟨[L g e d,S h]⟩ b fun j2 f =>
 ∃ a4,j2=.returned (I a4)∧∃ a5,f.cell? (a.add 0)=some (S a5)∧∃ a6 H G,f.cell? (a.add 1)=some (L a6 H G)∧∃ a7 K J,f.cell? (a.add 2)=some (L a7 K J)∧∃ a8 N M,f.cell? (a.add 3)=some (L a8 N M)∧∃ a9,f.cell? (c.add 0)=some (I a9)∧∃ b0,f.cell? (c.add 1)=some (I b0)∧((Calls prog 67 ⟨[.agg ⟨[S a5,L a6 H G,L a7 K J,L a8 N M]⟩,I a9,I b0,I a4]⟩ f fun j3 j9 =>
 ∃ b1 O Q,j3=.returned (.func b1 O Q)∧((Calls prog 112 ⟨[.func b1 O Q]⟩ j9 fun j4 k0 =>
 ∃ b2 U T,j4=.returned (L b2 U T)∧R (.returned (L b2 U T)) k0)∧True))∧True))∧True))
theorem qtz {q r f e s i g t k j n o p d c l m a b R w} (h:qqj q r f e s i g t k j n o p d c l m a b R w):Calls prog qu8 ⟨[.agg ⟨[S q,L r f e,L s i g,L t k j]⟩,.agg ⟨[I n,I o,L p d c]⟩,.agg ⟨[I l,S m,I a,S b]⟩]⟩ w R:=qb Tryz.func111 (Eq.mpr (by kernel_rfl:fnV _ _ qry _ _ _=_) h)
def qdn:Ann:=T F (T F F)
def qdj (c:Fn) (a:Array Value) (b:Array Value) (R:Ending→World→Prop) (w:World):Prop :=
 Calls prog 158 ⟨[L none 0 0,.func c a b]⟩ w fun g h =>
 ∃ f e d,g=.returned (L f e d)∧(R (.returned (L f e d)) h)
theorem qd1 {c a b R w} (h:qdj c a b R w):Calls prog qd4 ⟨[.func c a b]⟩ w R:=qb Tryz.func112 (Eq.mpr (by kernel_rfl:fnV _ _ qdn _ _ _=_) h)
def qrx:Ann:=T F (T F (T (T F (.one (.loop 2147467904 [(7,.one (.slice)),(14,.one (.int .i64))] (T F (T (T F F) (T (.one (T F (T F (T F F)))) F)))))) (T F F)))
def qqi (U:List UInt8) (V:Option Addr) (l:Nat) (k:Nat) (W:Option Addr) (n:Nat) (m:Nat) (X:Option Addr) (p:Nat) (o:Nat) (a9:Int) (b0:Int) (b1:Option Addr) (Z:Nat) (Y:Nat) (a2:Int) (a3:List UInt8) (Q:Int) (T:List UInt8) (R:Ending→World→Prop) (w:World):Prop :=
 al w 62 [S U,L V l k,L W n m,L X p o] fun b9 b2 =>
 al b2 123 [I a9,I b0,L b1 Z Y] fun a6 b3 =>
 al b3 68 [I a2,S a3,I Q,S T] fun a7 s =>
 ∃ u,s.cell? (a7.add 3)=some (S u)∧(Calls prog 114 ⟨[S u]⟩ s fun a4 b4 =>
 ∃ v i a0,a4=.returned (L v i a0)∧∃ (j:Option Addr→Nat→Nat→Int→World→Nat→Prop),(∃ a5,j none 0 0 0 b4 a5)∧∀ g e d b c q,j g e d b c q→∀ _:Env,(br (decide ((b:Int) < (i))) (idx v i b 6 fun h =>
 ∃ x,c.cell? (h.add 0)=some (S x)∧∃ y,c.cell? (h.add 1)=some (S y)∧∃ z,c.cell? (h.add 2)=some (S z)∧∃ A,c.cell? (h.add 3)=some (I A)∧∃ B,c.cell? (h.add 4)=some (I B)∧∃ C,c.cell? (h.add 5)=some (S C)∧al c 117 [S [],S [],S [],I 0,I 0,S []] fun a b5 =>
 stL b5 a 0 [S x,S y,S z,I A,I B,S C] fun t =>
 ∃ D,t.cell? (a.add 4)=some (I D)∧stL t (a.add 4) 0 [.int .i64 (bitN .i64 D 4)] fun b6 =>
 stL b6 (a.add 5) 0 [S []] fun f =>
 ∃ E,f.cell? (a.add 0)=some (S E)∧∃ F,f.cell? (a.add 1)=some (S F)∧∃ G,f.cell? (a.add 2)=some (S G)∧∃ H,f.cell? (a.add 3)=some (I H)∧∃ J,f.cell? (a.add 4)=some (I J)∧∃ K,f.cell? (a.add 5)=some (S K)∧∃ M,f.cell? (a6.add 0)=some (I M)∧al f 128 [S E,S F,S G,I H,I J,S K,I M] fun a8 b7 =>
 app prog [134,134] 134 (L g e d) (.slice (some a8) 1 1) b7 fun a1 O N b8 =>
 ∃ r,r < q∧j a1 O N (i64.wrap (b + 1)) b8 r) (R (.returned (L g e d)) c)))
theorem qty {j k b a l d c m f e r s t o n p q g i R w} (h:qqi j k b a l d c m f e r s t o n p q g i R w):Calls prog qu7 ⟨[.agg ⟨[S j,L k b a,L l d c,L m f e]⟩,.agg ⟨[I r,I s,L t o n]⟩,.agg ⟨[I p,S q,I g,S i]⟩]⟩ w R:=qb Tryz.func113 (Eq.mpr (by kernel_rfl:fnV _ _ qrx _ _ _=_) h)
def qk1:Ann:=T F (T F (T F F))
def qkc (a:List UInt8) (R:Ending→World→Prop) (w:World):Prop :=
 al w 226 [I 1,S a,I 0,L none 0 0] fun f g =>
 Calls prog 159 ⟨[.agg ⟨[S [],I 0]⟩,.slice (some f) 1 1,L none 0 0]⟩ g fun e h =>
 ∃ d c b i,e=.returned (.tuple ⟨[L d c b,I i]⟩)∧(R (.returned (L d c b)) h)
theorem qlu {a R w} (h:qkc a R w):Calls prog qfe ⟨[S a]⟩ w R:=qb Tryz.func114 (Eq.mpr (by kernel_rfl:fnV _ _ qk1 _ _ _=_) h)
def qrw:Ann:=T F (T F F)
def qqh (k:List UInt8) (l:Option Addr) (b:Nat) (a:Nat) (m:Option Addr) (d:Nat) (c:Nat) (n:Option Addr) (f:Nat) (e:Nat) (o:Int) (p:Int) (q:Option Addr) (h:Nat) (g:Nat) (r:Int) (s:List UInt8) (i:Int) (j:List UInt8) (R:Ending→World→Prop) (w:World):Prop :=
 al w 62 [S k,L l b a,L m d c,L n f e] fun x t =>
 al t 123 [I o,I p,L q h g] fun y u =>
 al u 68 [I r,S s,I i,S j] fun z v =>
 R (.returned (L none 0 0)) v
theorem qtx {l m b a n d c o f e p q r i g s t j k R w} (h:qqh l m b a n d c o f e p q r i g s t j k R w):Calls prog qu6 ⟨[.agg ⟨[S l,L m b a,L n d c,L o f e]⟩,.agg ⟨[I p,I q,L r i g]⟩,.agg ⟨[I s,S t,I j,S k]⟩]⟩ w R:=qb Tryz.func115 (Eq.mpr (by kernel_rfl:fnV _ _ qrw _ _ _=_) h)
def quj:Ann:=T F (.cut 144115188075848704 [] (.one (.cut 8380416 [(13,.one (.bool))] F (T (T F F) (.cut 70368735789056 [(23,.one (.bool))] F (T (T F F) (T F (T (T F F) F))))))) (T (T F (T F (T (T F F) F))) (T (T F (T (T F F) F)) (T F F))))
def qst (c3:List UInt8) (c4:Option Addr) (a7:Nat) (a6:Nat) (c5:Option Addr) (a9:Nat) (a8:Nat) (c6:Option Addr) (b1:Nat) (b0:Nat) (b3:Option Addr) (s:Nat) (a1:Nat) (b7:List UInt8) (b8:Int) (b9:Int) (c0:Int) (a2:Bool) (a3:Bool) (a4:List UInt8) (g:List UInt8) (h:Int) (i:Int) (j:Int) (k:Bool) (l:Bool) (m:List UInt8) (d:Bool) (R:Ending→World→Prop) (w:World):Prop :=
 al w 62 [S c3,L c4 a7 a6,L c5 a9 a8,L c6 b1 b0] fun b4 b5 =>
 al b5 36 [S b7,I b8,I b9,I c0,B a2,B a3,S a4] fun b b6 =>
 al b6 36 [S g,I h,I i,I j,B k,B l,S m] fun n q =>
 ∀ (v:World→Prop),(∀  (t:World),(∀ _:Env,(∃ x,t.cell? (b.add 1)=some (I x)∧Calls prog 117 ⟨[L b3 s a1,I x]⟩ t fun b2 a =>
 ∃ y c1,b2=.returned (.tuple ⟨[I y,I c1]⟩)∧∃ z,a.cell? (b.add 2)=some (I z)∧br (decide (y≠z)) (R (.returned (I 20)) a) (∃ A,a.cell? (b.add 3)=some (I A)∧br (decide (A < ((-1)))) (R (.returned (I 2)) a) (∃ C,a.cell? (b.add 2)=some (I C)∧br (decide (C < 0)) (∃ D,a.cell? (b.add 3)=some (I D)∧br (decide (D≠((-1)))) (R (.returned (I 2)) a) (br (!d) (∃ E,a.cell? (b.add 2)=some (I E)∧br (decide ((0:Int)≤E)) (∃ F,a.cell? (b.add 2)=some (I F)∧∃ G,a.cell? (n.add 2)=some (I G)∧br (decide (F=G)) (∃ H,a.cell? (b.add 3)=some (I H)∧∃ J,a.cell? (n.add 3)=some (I J)∧br (decide (H≠J)) (R (.returned (I 2)) a) (R (.returned (I 0)) a)) (R (.returned (I 0)) a)) (R (.returned (I 0)) a)) (R (.returned (I 0)) a))) (br (!d) (∃ K,a.cell? (b.add 2)=some (I K)∧br (decide ((0:Int)≤K)) (∃ M,a.cell? (b.add 2)=some (I M)∧∃ N,a.cell? (n.add 2)=some (I N)∧br (decide (M=N)) (∃ O,a.cell? (b.add 3)=some (I O)∧∃ Q,a.cell? (n.add 3)=some (I Q)∧br (decide (O≠Q)) (R (.returned (I 2)) a) (R (.returned (I 0)) a)) (R (.returned (I 0)) a)) (R (.returned (I 0)) a)) (R (.returned (I 0)) a))))))→v t)→(∀ (r:Bool→World→Prop),(∀ (o:Bool) (c:World),(∀ _:Env,(br o (R (.returned (I 11)) c) (∀ (f:Bool→World→Prop),(∀ (p:Bool) (e:World),(∀ _:Env,(br p (R (.returned (I 19)) e) (∃ T,e.cell? (b.add 2)=some (I T)∧br (decide (T < ((-1)))) (R (.returned (I 20)) e) (∃ U,e.cell? (b.add 2)=some (I U)∧br (decide ((((s:Int)):Int)≤U)) (R (.returned (I 20)) e) (v e)))))→f p e)→(∃ V,c.cell? (b.add 1)=some (I V)∧br (decide (V < 0)) (f true c) (∃ W,c.cell? (b.add 1)=some (I W)∧∃ c2 u a5,c.cell? (b4.add 3)=some (L c2 u a5)∧br (decide (((u):Int)≤W)) (f true c) (br (!d) (∃ X,c.cell? (b.add 1)=some (I X)∧∃ Y,c.cell? (n.add 1)=some (I Y)∧(f (decide (X < Y)) c)) (f false c)))))))→r o c)→(∃ Z,q.cell? (b.add 0)=some (S Z)∧br (decide (Z=([]))) (r true q) (∃ a0,q.cell? (b.add 0)=some (S a0)∧(r (decide ((64:Int) < ((List.length a0:Int)))) q))))
theorem qwn {A C p o D r q E t s u k j v x y z l m n a b c d e f g i R w} (h:qst A C p o D r q E t s u k j v x y z l m n a b c d e f g i R w):Calls prog qj0 ⟨[.agg ⟨[S A,L C p o,L D r q,L E t s]⟩,L u k j,.agg ⟨[S v,I x,I y,I z,B l,B m,S n]⟩,.agg ⟨[S a,I b,I c,I d,B e,B f,S g]⟩,B i]⟩ w R:=qb Tryz.func116 (Eq.mpr (by kernel_rfl:fnV _ _ quj _ _ _=_) h)
def qwv:Ann:=T F (T (T F (T (T F F) F)) (T F F))
def qvk (e:Option Addr) (c:Nat) (b:Nat) (a:Int) (R:Ending→World→Prop) (w:World):Prop :=
 al w 3 [I a] fun f d =>
 ∃ g,d.cell? f=some (I g)∧(br (decide (g < 0)) (R (.returned (.tuple ⟨[I 0,I 2]⟩)) d) (Calls prog 160 ⟨[L e c b,.func (.func 161) ⟨[]⟩ ⟨[.pointer (some f)]⟩]⟩ d fun i j =>
 ∃ h,i=.returned (I h)∧R (.returned (.tuple ⟨[I h,I 0]⟩)) j))
theorem qk7 {d c b a R w} (h:qvk d c b a R w):Calls prog qgg ⟨[L d c b,I a]⟩ w R:=qb Tryz.func117 (Eq.mpr (by kernel_rfl:fnV _ _ qwv _ _ _=_) h)
def qnn:Ann:=T F (T F F)
def qmi (k:List UInt8) (l:Int) (m:Int) (n:Int) (o:Bool) (p:Bool) (q:List UInt8) (g:Option Addr) (h:Option Addr) (R:Ending→World→Prop) (w:World):Prop :=
 al w 36 [S k,I l,I m,I n,B o,B p,S q] fun b a =>
 ∃ c,a.cell? (b.add 1)=some (I c)∧(dr g fun i =>
 ∃ d,a.cell? i=some (I d)∧br (decide (c=d)) (∃ e,a.cell? (b.add 0)=some (S e)∧dr h fun j =>
 ∃ f,a.cell? j=some (S f)∧R (.returned (.bool (decide (e=f)))) a) (R (.returned (B false)) a))
theorem qo2 {c d e f g i j a b R w} (h:qmi c d e f g i j a b R w):Calls prog qpi ⟨[.agg ⟨[S c,I d,I e,I f,B g,B i,S j]⟩,.pointer a,.pointer b]⟩ w R:=qb Tryz.func118 (Eq.mpr (by kernel_rfl:fnV _ _ qnn _ _ _=_) h)
def qnl:Ann:=T F (T F (T (T F (.one (.rf [0,2,6,7,12] 0))) (T F F)))
def qmg (h:Option Addr) (d:Nat) (t:Nat) (g:Option Addr) (f:Nat) (e:Nat) (a:Int) (R:Ending→World→Prop) (w:World):Prop :=
 al w 23 [L none 0 0] fun u H =>
 Calls prog 162 ⟨[L g f e,I a]⟩ H fun G J =>
 ∃ F r s,G=.returned (.func F r s)∧(∀ m:Env,RFw prog none 27 (cdAt Tryz.f119 [1,1,0,1,2]) (upd (upd (upd (upd (upd m 12 (.func F r s)) 7 (.pointer (some u))) 6 (I 0)) 2 (I a)) 0 (L h d t)) [] J 0 (fun b c =>
 idx h d a 3 fun z =>
 ∃ p l k,c.cell? (z.add 2)=some (L p l k)∧Calls prog 148 ⟨[L p l k,.func (.func 163) ⟨[]⟩ ⟨[.pointer (some u)]⟩]⟩ c fun x C =>
 ∃ q,x=.returned (I q)∧retD b C fun D =>
 R (.returned (I q)) D) (fun b c =>
 retD b c fun E =>
 R (.returned (I 0)) E) (fun b c =>
 idx h d a 3 fun y =>
 ∃ n j i,c.cell? (y.add 2)=some (L n j i)∧Calls prog 148 ⟨[L n j i,.func (.func 163) ⟨[]⟩ ⟨[.pointer (some u)]⟩]⟩ c fun v A =>
 ∃ o,v=.returned (I o)∧retD b A fun B =>
 R (.returned (I o)) B))
theorem qo0 {g f e c b a d R w} (h:qmg g f e c b a d R w):Calls prog qgn ⟨[L g f e,L c b a,I d]⟩ w R:=qb Tryz.func119 (Eq.mpr (by kernel_rfl:fnV _ _ qnl _ _ _=_) h)
def qds:Ann:=F
def qdp:Ann:=.one F
def qke (M:Option Addr) (J:Nat) (H:Nat) (u:Int) (K:Int) (a:Option Addr) (A:Fn) (s:Array Value) (t:Array Value) (C:Value) (c:List UInt8) (d:Int) (e:Int) (f:Int) (g:Bool) (h:Bool) (i:List UInt8) (l:Nat) (Kn Kr Kx:World→World→Prop) (w:World):Prop :=
 al w 36 [S [],I 0,I 0,I 0,B false,B false,S []] fun m D =>
 stL D m 0 [S c,I d,I e,I f,B g,B h,S i] fun n =>
 Ext w n∧∀ b:World,Upd l n b→(dr a fun x =>
 ∃ o k j,b.cell? x=some (L o k j)∧∃ p,b.cell? (m.add 0)=some (S p)∧al b 9 [S p] fun y E =>
 app prog [23,23] 23 (L o k j) (.slice (some y) 1 1) E fun v r q F =>
 dr a fun z =>
 stL F z 0 [L v r q] fun G =>
 Kn b G)
theorem qkp (base:Env) (r:Option Addr) (p:Nat) (o:Nat) (c:Int) (q:Int) (d:Option Addr) (e:Fn) (a:Array Value) (b:Array Value) (f:Value) (g:List UInt8) (h:Int) (i:Int) (j:Int) (k:Bool) (m:Bool) (n:List UInt8) (l:Nat) (Kn Kr Kx:World→World→Prop) (w:World):fragV prog 27 qds qdp (cdAt Tryz.f119 [1,1,0,1,2,5]) (cdAt Tryz.f119 [1,1,0,1,2,6]) l 0 Kn Kr Kx (updPs [13,14] [f,.agg ⟨[S g,I h,I i,I j,B k,B m,S n]⟩] (upd (upd (upd (upd (upd base 12 (.func e a b)) 7 (.pointer d)) 6 (I q)) 2 (I c)) 0 (L r p o))) w=qke r p o c q d e a b f g h i j k m n l Kn Kr Kx w:=by kernel_rfl
theorem qkt:cdAt Tryz.f119 [1,1,0,1,2]=.rangeFunc (Operand.tmp 12) #[13,14] (cdAt Tryz.f119 [1,1,0,1,2,5]) (cdAt Tryz.f119 [1,1,0,1,2,6]):=by kernel_rfl
def qhw:Ann:=T F (T (T F (T (T F F) F)) (T F F))
def qhp (a:Option Addr) (c:Nat) (b:Nat) (R:Ending→World→Prop) (w:World):Prop :=
 br (Option.isNone a) (R (.returned (L none 0 0)) w) (al w 3 [] fun g h =>
 app prog [40,40] 40 (.slice (some g) 0 0) (L a c b) h fun f e d i =>
 R (.returned (L f e d)) i)
theorem qis {c b a R w} (h:qhp c b a R w):Calls prog qdf ⟨[L c b a]⟩ w R:=qb Tryz.func120 (Eq.mpr (by kernel_rfl:fnV _ _ qhw _ _ _=_) h)
def q0t:Ann:=T F (.cut 262116 [] (T F (T (T F F) F)) (.cut 133955596 [] (T F (T F (T (T F F) F))) (T (T F (.one (.loop 274743689236 [(4,.one (.int .i64))] (T (T F (T F F)) (T (.one (T F (T (T F F) F))) F))))) (T F F))))
def qzm (a:List UInt8) (R:Ending→World→Prop) (w:World):Prop :=
 ∀ (m:World→Prop),(∀  (u:World),(∀ _:Env,(∀ (k:World→Prop),(∀  (v:World),(∀ _:Env,(∃ (j:Int→World→Nat→Prop),(∃ s,j 0 v s)∧∀ b l t,j b l t→∀ _:Env,(br (decide ((b:Int) < ((List.length a:Int)))) (sidx a b fun n =>
 Calls prog 137 ⟨[.int .u8 ((n.toNat:Int))]⟩ l fun p f =>
 ∃ h,p=.returned (I h)∧br (decide ((4:Int) < h)) (R (.returned (B false)) f) (∃ e,e < t∧j (i64.wrap (b + 1)) f e)) (R (.returned (B true)) l))))→k v)→(sidx a 0 fun o =>
 Calls prog 137 ⟨[.int .u8 ((o.toNat:Int))]⟩ u fun q c =>
 ∃ d,q=.returned (I d)∧br (decide (d≠1)) (br (decide (d≠3)) (R (.returned (B false)) c) (k c)) (k c))))→m u)→(br (decide ((((List.length a:Int)):Int) < 1)) (R (.returned (B false)) w) (br (decide ((64:Int) < ((List.length a:Int)))) (R (.returned (B false)) w) (Calls prog 179 ⟨[S a]⟩ w fun r g =>
 ∃ i,r=.returned (I i)∧br (decide (i≠0)) (R (.returned (B false)) g) (m g))))
theorem q1u {a R w} (h:qzm a R w):Calls prog qpq ⟨[S a]⟩ w R:=qb Tryz.func133 (Eq.mpr (by kernel_rfl:fnV _ _ q0t _ _ _=_) h)
def qym:Ann:=T F (T F (T (T F (.one (.loop 16777208 [(3,.one (.int .i64)),(4,.one (.int .i64))] (T (T F (T F F)) (T (.one (T F (T F (T F F)))) F))))) (T F F)))
def qx0 (j:List UInt8) (R:Ending→World→Prop) (w:World):Prop :=
 ∃ (c:Int→Int→World→Nat→Prop),(∃ n,c 0 0 w n)∧∀ b a k f,c b a k f→∀ _:Env,(br (decide ((a:Int) < ((List.length j:Int)))) (sidx j a fun l =>
 Calls prog 137 ⟨[.int .u8 ((l.toNat:Int))]⟩ k fun m d =>
 ∃ e,m=.returned (I e)∧br (decide (e=1)) (∃ g,g < f∧c (i64.wrap (b + 1)) (i64.wrap (a + 1)) d g) (br (decide (e=3)) (∃ h,h < f∧c (i64.wrap (b + 1)) (i64.wrap (a + 1)) d h) (∃ i,i < f∧c b (i64.wrap (a + 1)) d i))) (R (.returned (I b)) k))
theorem q0k {a R w} (h:qx0 a R w):Calls prog qny ⟨[S a]⟩ w R:=qb Tryz.func134 (Eq.mpr (by kernel_rfl:fnV _ _ qym _ _ _=_) h)
def q6j:Ann:=T F (T F F)
def q5m (c:List UInt8) (d:List UInt8) (e:List UInt8) (f:Int) (g:Int) (h:List UInt8) (a:Int) (R:Ending→World→Prop) (w:World):Prop :=
 al w 117 [S c,S d,S e,I f,I g,S h] fun j i =>
 ∃ b,i.cell? (j.add 4)=some (I b)∧(idiv a (idiv 2 (R (.returned (.bool (decide (((Int.tmod (i64.wrap (Int.tdiv b a)) 2):Int)=1)))) i)))
theorem q75 {b c d e f g a R w} (h:q5m b c d e f g a R w):Calls prog q04 ⟨[.agg ⟨[S b,S c,S d,I e,I f,S g]⟩,I a]⟩ w R:=qb Tryz.func135 (Eq.mpr (by kernel_rfl:fnV _ _ q6j _ _ _=_) h)
def q0s:Ann:=T F (T (T F (.one (.loop 16380 [(3,.one (.int .i64))] (T (T F (T F F)) (T (.one (T F (T (T F F) F))) F))))) (T F F))
def qzl (h:List UInt8) (R:Ending→World→Prop) (w:World):Prop :=
 ∃ (c:Int→World→Nat→Prop),(∃ l,c 1 w l)∧∀ a d e,c a d e→∀ _:Env,(br (decide ((a:Int)≤64)) (Calls prog 180 ⟨[I a]⟩ d fun k i =>
 ∃ j,k=.returned (S j)∧(sadd ([91]) j fun f =>
 sadd f ([93]) fun g =>
 br (decide ((h:List UInt8)=g)) (R (.returned (B true)) i) (∃ b,b < e∧c (i64.wrap (a + 1)) i b))) (R (.returned (B false)) d))
theorem q1t {a R w} (h:qzl a R w):Calls prog qpp ⟨[S a]⟩ w R:=qb Tryz.func136 (Eq.mpr (by kernel_rfl:fnV _ _ q0s _ _ _=_) h)
def q4q:Ann:=T F (T (.one (.cut 262136 [(3,.one (.bool))] F (T (T F F) (.cut 536608768 [(18,.one (.bool))] F (T (T F F) (.cut 68182605824 [(29,.one (.bool))] F (T (T F F) (T F (T (T F F) (.cut 18889465930928825040896 [(39,.one (.bool))] F (T (T F F) (T F (T (T F F) F))))))))))))) (T F F))
def qss (a:Int) (R:Ending→World→Prop) (w:World):Prop :=
 ∀ (h:Bool→World→Prop),(∀ (i:Bool) (j:World),(∀ _:Env,(br i (R (.returned (I 1)) j) (∀ (k:Bool→World→Prop),(∀ (e:Bool) (l:World),(∀ _:Env,(br e (R (.returned (I 2)) l) (∀ (m:Bool→World→Prop),(∀ (f:Bool) (b:World),(∀ _:Env,(br f (R (.returned (I 3)) b) (br (decide ((a:Int)=39)) (R (.returned (I 4)) b) (∀ (c:Bool→World→Prop),(∀ (d:Bool) (g:World),(∀ _:Env,(br d (R (.returned (I 5)) g) (br (decide ((a:Int)=32)) (R (.returned (I 6)) g) (R (.returned (I 0)) g))))→c d g)→(br (decide ((a:Int)=46)) (c true b) (br (decide ((a:Int)=44)) (c true b) (br (decide ((a:Int)=59)) (c true b) (br (decide ((a:Int)=58)) (c true b) (br (decide ((a:Int)=33)) (c true b) (br (decide ((a:Int)=63)) (c true b) (br (decide ((a:Int)=40)) (c true b) (br (decide ((a:Int)=41)) (c true b) (c (decide ((a:Int)=45)) b)))))))))))))→m f b)→(br (decide ((48:Int)≤a)) (m (decide ((a:Int)≤57)) l) (m false l)))))→k e l)→(br (decide ((a:Int)=94)) (k true j) (br (decide ((a:Int)=126)) (k true j) (k (decide ((a:Int)=37)) j))))))→h i j)→(br (decide ((97:Int)≤a)) (br (decide ((a:Int)≤122)) (h true w) (br (decide ((65:Int)≤a)) (h (decide ((a:Int)≤90)) w) (h false w))) (br (decide ((65:Int)≤a)) (h (decide ((a:Int)≤90)) w) (h false w)))
theorem q6g {a R w} (h:qss a R w):Calls prog qxu ⟨[.int .u8 a]⟩ w R:=qb Tryz.func137 (Eq.mpr (by kernel_rfl:fnV _ _ q4q _ _ _=_) h)
def q0r:Ann:=T F (T F (T F F))
def qzk (c:Int) (R:Ending→World→Prop) (w:World):Prop :=
 Calls prog 137 ⟨[.int .u8 c]⟩ w fun d b =>
 ∃ a,d=.returned (I a)∧(br (decide (a=1)) (R (.returned (B true)) b) (br (decide (a=2)) (R (.returned (B true)) b) (br (decide (a=3)) (R (.returned (B true)) b) (R (.returned (.bool (decide (a=4)))) b))))
theorem q1s {a R w} (h:qzk a R w):Calls prog qpo ⟨[.int .u8 a]⟩ w R:=qb Tryz.func138 (Eq.mpr (by kernel_rfl:fnV _ _ q0r _ _ _=_) h)
def q1z:Ann:=T F (T F F)
def q1k (a:List UInt8) (R:Ending→World→Prop) (w:World):Prop :=
 br (decide ((a:List UInt8)=([]))) (R (.returned (B true)) w) (Calls prog 96 ⟨[S a]⟩ w fun c d =>
 ∃ b,c=.returned (B b)∧R (.returned (B b)) d)
theorem q4k {a R w} (h:q1k a R w):Calls prog quy ⟨[S a]⟩ w R:=qb Tryz.func139 (Eq.mpr (by kernel_rfl:fnV _ _ q1z _ _ _=_) h)
def qw8:Ann:=T F (T F F)
def qvx (a:List UInt8) (R:Ending→World→Prop) (w:World):Prop :=
 br (decide ((a:List UInt8)≠([]))) (br (decide ((((List.length a:Int)):Int)≤16)) (Calls prog 181 ⟨[S a]⟩ w fun c d =>
 ∃ b,c=.returned (I b)∧R (.returned (.bool (decide (b=((List.length a:Int)))))) d) (R (.returned (B false)) w)) (R (.returned (B false)) w)
theorem qyk {a R w} (h:qvx a R w):Calls prog qlk ⟨[S a]⟩ w R:=qb Tryz.func140 (Eq.mpr (by kernel_rfl:fnV _ _ qw8 _ _ _=_) h)
def qrz:Ann:=T F (T F (T F F))
def qqk (a:List UInt8) (R:Ending→World→Prop) (w:World):Prop :=
 Calls prog 182 ⟨[S a,S [42]]⟩ w fun f h =>
 ∃ c d,f=.returned (.tuple ⟨[S c,B d]⟩)∧(Calls prog 140 ⟨[S c]⟩ h fun g b =>
 ∃ e,g=.returned (B e)∧br e (br (!d) (R (.returned (B true)) b) (R (.returned (.bool (decide ((((List.length a:Int)):Int)≤16)))) b)) (R (.returned (B false)) b))
theorem qt0 {a R w} (h:qqk a R w):Calls prog qii ⟨[S a]⟩ w R:=qb Tryz.func141 (Eq.mpr (by kernel_rfl:fnV _ _ qrz _ _ _=_) h)
def qbu:Ann:=T F (T F F)
def qbn (f:Option Addr) (d:Nat) (c:Nat) (e:Fn) (a:Array Value) (b:Array Value) (R:Ending→World→Prop) (w:World):Prop :=
 Calls prog 183 ⟨[L f d c,.func e a b]⟩ w fun h i =>
 ∃ g,h=.returned (I g)∧(R (.returned (.bool (decide ((0:Int)≤g)))) i)
theorem qah {f d c e a b R w} (h:qbn f d c e a b R w):Calls prog qp ⟨[L f d c,.func e a b]⟩ w R:=qb Tryz.func142 (Eq.mpr (by kernel_rfl:fnV _ _ qbu _ _ _=_) h)
def ql1:Ann:=T F (T F F)
def qlq (j:List UInt8) (k:List UInt8) (l:List UInt8) (m:Int) (n:Int) (o:List UInt8) (R:Ending→World→Prop) (w:World):Prop :=
 al w 117 [S j,S k,S l,I m,I n,S o] fun b a =>
 ∃ q,a.cell? (b.add 0)=some (S q)∧(∃ c,a.cell? (b.add 1)=some (S c)∧∃ d,a.cell? (b.add 2)=some (S d)∧∃ e,a.cell? (b.add 3)=some (I e)∧∃ f,a.cell? (b.add 4)=some (I f)∧∃ g,a.cell? (b.add 5)=some (S g)∧Calls prog 144 ⟨[.agg ⟨[S q,S c,S d,I e,I f,S g]⟩]⟩ a fun i p =>
 ∃ h,i=.returned (I h)∧R (.returned (.bool (decide (h≠0)))) p)
theorem qnd {a b c d e f R w} (h:qlq a b c d e f R w):Calls prog qcz ⟨[.agg ⟨[S a,S b,S c,I d,I e,S f]⟩]⟩ w R:=qb Tryz.func143 (Eq.mpr (by kernel_rfl:fnV _ _ ql1 _ _ _=_) h)
def qud:Ann:=T F (.cut 16324 [] (T F (T (T F F) F)) (T F (.cut 62914564 [] (T F (T (T F F) F)) (T F (.cut 67108896 [(5,.one (.fn))] (T F (T F F)) (.cut 134217760 [(5,.one (.fn))] (T F (T F F)) (T (.one (.cut 4503599358935040 [(28,.one (.bool))] (T F (T F (.cut 4381135077376 [(28,.one (.bool))] F (T F F)))) (T (T F F) (T F (T (T F F) (T F (T (T F F) F))))))) (T F F))))))))
def qsm (b7:List UInt8) (b8:List UInt8) (b9:List UInt8) (c0:Int) (c1:Int) (c2:List UInt8) (R:Ending→World→Prop) (w:World):Prop :=
 al w 117 [S b7,S b8,S b9,I c0,I c1,S c2] fun a z =>
 ∀ (b0:World→Prop),(∀  (E:World),(∀ _:Env,(drw E fun n =>
 ∃ A,n.cell? (a.add 4)=some (I A)∧∃ C,n.cell? (a.add 4)=some (I C)∧∀ (p:World→Prop),(∀  (t:World),(∀ _:Env,(∀ (q:Fn→Array Value→Array Value→World→Prop),(∀ (i:Fn) (d:Array Value) (e:Array Value) (u:World),(∀ _:Env,(∀ (r:Fn→Array Value→Array Value→World→Prop),(∀ (j:Fn) (f:Array Value) (g:Array Value) (v:World),(∀ _:Env,(∀ (l:Bool→World→Prop),(∀ (m:Bool) (k:World),(∀ _:Env,(br m (R (.returned (I 11)) k) (∃ G,k.cell? ((a.add 2).add 1)=some (I G)∧br (decide (G < 0)) (R (.returned (I 2)) k) (∃ H,k.cell? ((a.add 2).add 0)=some (S H)∧Calls prog 188 ⟨[S H]⟩ k fun b1 x =>
 ∃ J,b1=.returned (B J)∧br (!J) (R (.returned (I 14)) x) (∃ K,x.cell? (a.add 5)=some (S K)∧Calls prog 188 ⟨[S K]⟩ x fun b2 F =>
 ∃ L,b2=.returned (B L)∧br (!L) (R (.returned (I 14)) F) (R (.returned (I 0)) F))))))→l m k)→(∃ M,v.cell? (a.add 0)=some (S M)∧CallV prog (.func j f g) [S M] v fun b3 c =>
 ∃ D,b3=.returned (B D)∧br (!D) (l (!D) c) (∀ (s:Bool→World→Prop),(∀ (h:Bool) (b:World),(∀ _:Env,(br h (l h b) (∃ N,b.cell? (a.add 0)=some (S N)∧∃ O,b.cell? (a.add 1)=some (S O)∧∃ Q,b.cell? (a.add 2)=some (S Q)∧∃ T,b.cell? (a.add 3)=some (I T)∧∃ U,b.cell? (a.add 4)=some (I U)∧∃ V,b.cell? (a.add 5)=some (S V)∧Calls prog 186 ⟨[.agg ⟨[S N,S O,S Q,I T,I U,S V]⟩]⟩ b fun b4 o =>
 ∃ W,b4=.returned (B W)∧br (!W) (∃ X,o.cell? (a.add 1)=some (S X)∧∃ Y,o.cell? (a.add 0)=some (S Y)∧(l (decide (X≠Y)) o)) (l false o))))→s h b)→(∃ Z,c.cell? (a.add 0)=some (S Z)∧∃ a0,c.cell? (a.add 1)=some (S a0)∧∃ a1,c.cell? (a.add 2)=some (S a1)∧∃ a2,c.cell? (a.add 3)=some (I a2)∧∃ a3,c.cell? (a.add 4)=some (I a3)∧∃ a4,c.cell? (a.add 5)=some (S a4)∧Calls prog 186 ⟨[.agg ⟨[S Z,S a0,S a1,I a2,I a3,S a4]⟩]⟩ c fun b5 y =>
 ∃ a5,b5=.returned (B a5)∧br a5 (∃ a6,y.cell? (a.add 1)=some (S a6)∧Calls prog 187 ⟨[S a6]⟩ y fun b6 c3 =>
 ∃ a7,b6=.returned (B a7)∧(s (!a7) c3)) (s false y))))))→r j f g v)→(br (decide (((bitA .i64 C 8):Int)≠0)) (r (.func 185) #[] #[] u) (r i d e u))))→q i d e u)→(br (decide (((bitA .i64 A 2):Int)≠0)) (q (.func 184) #[] #[] t) (q (.func 109) #[] #[] t))))→p t)→(br (decide (((bitA .i64 A 2):Int)≠0)) (br (decide (((bitA .i64 C 8):Int)≠0)) (R (.returned (I 8)) n) (p n)) (p n))))→b0 E)→(∃ a8,z.cell? (a.add 4)=some (I a8)∧br (decide (a8 < 0)) (R (.returned (I 2)) z) (∃ a9,z.cell? (a.add 4)=some (I a9)∧br (decide ((31:Int) < a9)) (R (.returned (I 2)) z) (b0 z)))
theorem qwh {a b c d e f R w} (h:qsm a b c d e f R w):Calls prog qjt ⟨[.agg ⟨[S a,S b,S c,I d,I e,S f]⟩]⟩ w R:=qb Tryz.func144 (Eq.mpr (by kernel_rfl:fnV _ _ qud _ _ _=_) h)
def qru:Ann:=T F (T (.one (T F (T (T F F) (T F (T (T F F) F))))) (T F F))
def qqf (c:Option Addr) (a:Nat) (b:Nat) (R:Ending→World→Prop) (w:World):Prop :=
 br (decide ((((a:Int)):Int)=0)) (R (.returned (I 5)) w) (br (decide ((32:Int) < ((a:Int)))) (R (.returned (I 4)) w) (Calls prog 189 ⟨[L c a b,.func (.func 190) #[] #[]]⟩ w fun f d =>
 ∃ e,f=.returned (B e)∧br e (R (.returned (I 4)) d) (R (.returned (I 0)) d)))
theorem qtv {c b a R w} (h:qqf c b a R w):Calls prog qu3 ⟨[L c b a]⟩ w R:=qb Tryz.func145 (Eq.mpr (by kernel_rfl:fnV _ _ qru _ _ _=_) h)
def qrv:Ann:=T F (T F (T (T F (.one (.loop 1152921504606717840 [(17,.one (.int .i64))] (T F (T (T F F) (T (.one (T F (T (T F (T (T F F) F)) (T F (T (T F (.one (.loop 144115187807422224 [(8,.one (.bool)),(28,.one (.int .i64))] (T F (T (T F F) (T (.one (T F (T (T F (T F F)) (.cut 1125865547104272 [] (T F (T (T F F) F)) (T F F))))) F)))))) (T F (T (T F F) F))))))) F)))))) (T (T F (.one (.loop 75553252039895896033296 [(62,.one (.int .i64))] (T F (T (T F F) (T (.one (T F (T F (T (T F F) F)))) F)))))) (T F F))))
def qqg (x:Option Addr) (b:Nat) (a4:Nat) (i:Option Addr) (e:Nat) (t:Nat) (R:Ending→World→Prop) (w:World):Prop :=
 mks w 3 8 [I 0] ((b:Int)) ((b:Int)) fun u a6 =>
 ∃ (J:Int→World→Nat→Prop),(∃ a5,J 0 a6 a5)∧∀ g q S,J g q S→∀ _:Env,(br (decide ((g:Int) < ((e:Int)))) (idx i e g 1 fun T =>
 ∃ E h K,q.cell? T=some (L E h K)∧br (decide (((h):Int)≠((b:Int)))) (R (.returned (B false)) q) (∃ (j:Bool→Int→World→Nat→Prop),(∃ O,j false 0 q O)∧∀ f a d n,j f a d n→∀ _:Env,(br (decide ((a:Int) < (h))) (idx E h a 1 fun U =>
 ∃ l,d.cell? U=some (I l)∧br (decide (l=((-1)))) (∃ y,y < n∧j f (i64.wrap (a + 1)) d y) (∀ (v:World→Prop),(∀  (o:World),(∀ _:Env,(idx (some u) (Int.toNat ((b:Int))) a 1 fun V =>
 ∃ F,o.cell? V=some (I F)∧idx (some u) (Int.toNat ((b:Int))) a 1 fun W =>
 stL o W 0 [.int .i64 (i64.wrap (F + 1))] fun a1 =>
 ∃ z,z < n∧j true (i64.wrap (a + 1)) a1 z))→v o)→(idx (some u) (Int.toNat ((b:Int))) a 1 fun X =>
 ∃ G,d.cell? X=some (I G)∧br (decide (l≠G)) (R (.returned (B false)) d) (idx x b a 1 fun Y =>
 ∃ a2 r M,d.cell? Y=some (L a2 r M)∧br (decide (((r):Int)≤l)) (R (.returned (B false)) d) (v d))))) (br (!f) (R (.returned (B false)) d) (∃ A,A < S∧J (i64.wrap (g + 1)) d A))))) (∃ (m:Int→World→Nat→Prop),(∃ Q,m 0 q Q)∧∀ c p C,m c p C→∀ _:Env,(br (decide ((c:Int) < ((b:Int)))) (drw p fun k =>
 idx (some u) (Int.toNat ((b:Int))) c 1 fun Z =>
 ∃ H,k.cell? Z=some (I H)∧idx x b c 1 fun a0 =>
 ∃ a3 s N,k.cell? a0=some (L a3 s N)∧br (decide (H≠(s))) (R (.returned (B false)) k) (∃ D,D < C∧m (i64.wrap (c + 1)) k D)) (R (.returned (B true)) p))))
theorem qtw {f e d c b a R w} (h:qqg f e d c b a R w):Calls prog qih ⟨[L f e d,L c b a]⟩ w R:=qb Tryz.func146 (Eq.mpr (by kernel_rfl:fnV _ _ qrv _ _ _=_) h)
def qwu:Ann:=T F (T F (T (T F (T (T F F) F)) (T F F)))
def qvj (E:List UInt8) (F:Option Addr) (q:Nat) (p:Nat) (G:Option Addr) (s:Nat) (r:Nat) (H:Option Addr) (u:Nat) (t:Nat) (c:Int) (a:Int) (R:Ending→World→Prop) (w:World):Prop :=
 al w 62 [S E,L F q p,L G s r,L H u t] fun A b =>
 ∃ C l D,b.cell? (A.add 3)=some (L C l D)∧(idx C l c 1 fun v =>
 ∃ h d m,b.cell? v=some (L h d m)∧idx h d a 1 fun x =>
 ∃ e,b.cell? x=some (I e)∧br (decide (e < 0)) (R (.returned (.tuple ⟨[S [],B false]⟩)) b) (∃ i f n,b.cell? (A.add 2)=some (L i f n)∧idx i f a 1 fun y =>
 ∃ j g o,b.cell? y=some (L j g o)∧idx j g e 6 fun z =>
 ∃ k,b.cell? (z.add 0)=some (S k)∧R (.returned (.tuple ⟨[S k,B true]⟩)) b))
theorem qx7 {j k d c l f e m i g a b R w} (h:qvj j k d c l f e m i g a b R w):Calls prog qk8 ⟨[.agg ⟨[S j,L k d c,L l f e,L m i g]⟩,I a,I b]⟩ w R:=qb Tryz.func147 (Eq.mpr (by kernel_rfl:fnV _ _ qwu _ _ _=_) h)
def qbj:Ann:=T F (T (T F (.one (.loop 524080 [(8,.one (.int .i64))] (T F (T (T F F) (T (.one (T F (T F (T (T F F) F)))) F)))))) (T F F))
def qbh (s:Option Addr) (b:Nat) (v:Nat) (p:Fn) (m:Array Value) (n:Array Value) (R:Ending→World→Prop) (w:World):Prop :=
 ∃ (l:Int→World→Nat→Prop),(∃ u,l 0 w u)∧∀ a c q,l a c q→∀ _:Env,(br (decide ((a:Int) < ((b:Int)))) (idx s b a 2 fun r =>
 ∃ t k j,c.cell? (r.add 0)=some (L t k j)∧∃ h e d,c.cell? (r.add 1)=some (L h e d)∧CallV prog (.func p m n) [.agg ⟨[L t k j,L h e d]⟩] c fun o g =>
 ∃ i,o=.returned (B i)∧br i (R (.returned (I a)) g) (∃ f,f < q∧l (i64.wrap (a + 1)) g f)) (R (.returned (.int .i64 ((-1)))) c))
theorem qbs {f d c e a b R w} (h:qbh f d c e a b R w):Calls prog qae ⟨[L f d c,.func e a b]⟩ w R:=qb Tryz.func148 (Eq.mpr (by kernel_rfl:fnV _ _ qbj _ _ _=_) h)
def qd2:Ann:=T F (T F F)
def qdy (D:Option Addr) (t:Nat) (s:Nat) (E:Option Addr) (v:Nat) (u:Nat) (q:Option Addr) (r:Option Addr) (R:Ending→World→Prop) (w:World):Prop :=
 al w 179 [L D t s,L E v u] fun y a =>
 dr q fun F =>
 ∃ C o p,a.cell? F=some (.func C o p)∧(dr r fun z =>
 ∃ j c b,a.cell? (z.add 0)=some (L j c b)∧∃ k e d,a.cell? (z.add 1)=some (L k e d)∧∃ l g f,a.cell? (y.add 0)=some (L l g f)∧∃ m i h,a.cell? (y.add 1)=some (L m i h)∧CallV prog (.func C o p) [.agg ⟨[L j c b,L k e d]⟩,.agg ⟨[L l g f,L m i h]⟩] a fun x A =>
 ∃ n,x=.returned (B n)∧R (.returned (B n)) A)
theorem qed {g d c i f e a b R w} (h:qdy g d c i f e a b R w):Calls prog qel ⟨[.agg ⟨[L g d c,L i f e]⟩,.pointer a,.pointer b]⟩ w R:=qb Tryz.func149 (Eq.mpr (by kernel_rfl:fnV _ _ qd2 _ _ _=_) h)
end Go.Proofs
