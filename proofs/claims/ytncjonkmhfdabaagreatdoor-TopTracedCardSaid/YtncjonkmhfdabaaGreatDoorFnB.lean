/- Written by program: for each function its verification condition, that it is the code's (by the kernel), and that it gives the call. -/
import Derived.Test.YtncjonkmhfdabaaGreatDoorFn
set_option linter.all false
set_option maxRecDepth 100000
namespace Go.Proofs
open Go Go.Sh Go.Proofs.Tryz IntKind
def qgd:Ann:=T F (T F F)
def qgb (c:Option Addr) (b:Nat) (a:Nat) (d:Int) (R:Ending→World→Prop) (w:World):Prop :=
 Calls prog 72 ⟨[L c b a,I d]⟩ w fun f g =>
 ∃ e,f=.returned (I e)∧(R (.returned (.bool (decide ((0:Int)≤e)))) g)
theorem qgt {c b a d R w} (h:qgb c b a d R w):Calls prog qcn ⟨[L c b a,I d]⟩ w R:=qb Tryz.func28 (Eq.mpr (by kernel_rfl:fnV _ _ qgd _ _ _=_) h)
def qdl:Ann:=T F (T F F)
def qdh (c:Option Addr) (b:Nat) (a:Nat) (d:List UInt8) (R:Ending→World→Prop) (w:World):Prop :=
 Calls prog 73 ⟨[L c b a,S d]⟩ w fun f g =>
 ∃ e,f=.returned (I e)∧(R (.returned (.bool (decide ((0:Int)≤e)))) g)
theorem qdz {c b a d R w} (h:qdh c b a d R w):Calls prog qa6 ⟨[L c b a,S d]⟩ w R:=qb Tryz.func29 (Eq.mpr (by kernel_rfl:fnV _ _ qdl _ _ _=_) h)
def qe0:Ann:=T F (T (T F (T (T F F) F)) (T (T F (.one (.loop 67100720 [(13,.one (.int .i64))] (T F (T (T F F) (T (.one (T F (T F (T (T F F) F)))) F)))))) (T F F)))
def qes (i:Option Addr) (b:Nat) (n:Nat) (j:Option Addr) (c:Nat) (o:Nat) (R:Ending→World→Prop) (w:World):Prop :=
 br (decide ((((b:Int)):Int)≠((c:Int)))) (R (.returned (B false)) w) (∃ (h:Int→World→Nat→Prop),(∃ p,h 0 w p)∧∀ a k l,h a k l→∀ _:Env,(br (decide ((a:Int) < ((b:Int)))) (drw k fun d =>
 idx i b a 1 fun q =>
 ∃ f,d.cell? q=some (S f)∧idx j c a 1 fun m =>
 ∃ g,d.cell? m=some (S g)∧br (decide (f≠g)) (R (.returned (B false)) d) (∃ e,e < l∧h (i64.wrap (a + 1)) d e)) (R (.returned (B true)) k)))
theorem qfi {e b a f d c R w} (h:qes e b a f d c R w):Calls prog qby ⟨[L e b a,L f d c]⟩ w R:=qb Tryz.func30 (Eq.mpr (by kernel_rfl:fnV _ _ qe0 _ _ _=_) h)
def qw4:Ann:=T F (T F (T (T F (.one (.loop 261928 [(3,.one (.slice)),(8,.one (.int .i64))] (T F (T (T F F) (T (.one (T F F)) F)))))) (T F F)))
def qvt (v:Option Addr) (g:Nat) (E:Nat) (R:Ending→World→Prop) (w:World):Prop :=
 ∃ (r:Option Addr→Nat→Nat→Int→World→Nat→Prop),(∃ F,r none 0 0 0 w F)∧∀ d b a e c x,r d b a e c x→∀ _:Env,(br (decide ((e:Int) < ((g:Int)))) (idx v g e 7 fun f =>
 ∃ D,c.cell? (f.add 0)=some (S D)∧∃ k,c.cell? (f.add 1)=some (I k)∧∃ l,c.cell? (f.add 2)=some (I l)∧∃ m,c.cell? (f.add 3)=some (I m)∧∃ n,c.cell? (f.add 4)=some (B n)∧∃ o,c.cell? (f.add 5)=some (B o)∧∃ p,c.cell? (f.add 6)=some (S p)∧al c 36 [S [],I 0,I 0,I 0,B false,B false,S []] fun i z =>
 stL z i 0 [S D,I k,I l,I m,B n,B o,S p] fun j =>
 ∃ q,j.cell? (i.add 0)=some (S q)∧al j 9 [S q] fun y A =>
 app prog [23,23] 23 (L d b a) (.slice (some y) 1 1) A fun u t s C =>
 ∃ h,h < x∧r u t s (i64.wrap (e + 1)) C h) (R (.returned (L d b a)) c))
theorem qyg {c b a R w} (h:qvt c b a R w):Calls prog qlg ⟨[L c b a]⟩ w R:=qb Tryz.func31 (Eq.mpr (by kernel_rfl:fnV _ _ qw4 _ _ _=_) h)
def qcq:Ann:=T F (T (T F (.one (.loop 524080 [(8,.one (.int .i64))] (T F (T (T F F) (T (.one (T F (T F (T (T F F) F)))) F)))))) (T F F))
def qco (t:Option Addr) (d:Nat) (x:Nat) (r:Fn) (o:Array Value) (p:Array Value) (R:Ending→World→Prop) (w:World):Prop :=
 ∃ (n:Int→World→Nat→Prop),(∃ v,n 0 w v)∧∀ a b s,n a b s→∀ _:Env,(br (decide ((a:Int) < ((d:Int)))) (idx t d a 7 fun c =>
 ∃ u,b.cell? (c.add 0)=some (S u)∧∃ g,b.cell? (c.add 1)=some (I g)∧∃ h,b.cell? (c.add 2)=some (I h)∧∃ i,b.cell? (c.add 3)=some (I i)∧∃ j,b.cell? (c.add 4)=some (B j)∧∃ k,b.cell? (c.add 5)=some (B k)∧∃ l,b.cell? (c.add 6)=some (S l)∧CallV prog (.func r o p) [.agg ⟨[S u,I g,I h,I i,B j,B k,S l]⟩] b fun q f =>
 ∃ m,q=.returned (B m)∧br m (R (.returned (I a)) f) (∃ e,e < s∧n (i64.wrap (a + 1)) f e)) (R (.returned (.int .i64 ((-1)))) b))
theorem qcu {f d c e a b R w} (h:qco f d c e a b R w):Calls prog qcy ⟨[L f d c,.func e a b]⟩ w R:=qb Tryz.func37 (Eq.mpr (by kernel_rfl:fnV _ _ qcq _ _ _=_) h)
def qhv:Ann:=T F (T (T F (T (T F F) F)) (T (T F (.one (.loop 67100720 [(13,.one (.int .i64))] (T F (T (T F F) (T (.one (T F (T F (T (T F F) F)))) F)))))) (T F F)))
def qho (i:Option Addr) (b:Nat) (n:Nat) (j:Option Addr) (c:Nat) (o:Nat) (R:Ending→World→Prop) (w:World):Prop :=
 br (decide ((((b:Int)):Int)≠((c:Int)))) (R (.returned (B false)) w) (∃ (h:Int→World→Nat→Prop),(∃ p,h 0 w p)∧∀ a k l,h a k l→∀ _:Env,(br (decide ((a:Int) < ((b:Int)))) (drw k fun d =>
 idx i b a 1 fun q =>
 ∃ f,d.cell? q=some (I f)∧idx j c a 1 fun m =>
 ∃ g,d.cell? m=some (I g)∧br (decide (f≠g)) (R (.returned (B false)) d) (∃ e,e < l∧h (i64.wrap (a + 1)) d e)) (R (.returned (B true)) k)))
theorem qir {e b a f d c R w} (h:qho e b a f d c R w):Calls prog qde ⟨[L e b a,L f d c]⟩ w R:=qb Tryz.func39 (Eq.mpr (by kernel_rfl:fnV _ _ qhv _ _ _=_) h)
def qr1:Ann:=T F (T F F)
def qql (a:List UInt8) (R:Ending→World→Prop) (w:World):Prop :=
 al w 9 [S a] fun b c =>
 R (.returned (.func (.func 90) ⟨[]⟩ ⟨[.pointer (some b)]⟩)) c
theorem qt2 {a R w} (h:qql a R w):Calls prog qij ⟨[S a]⟩ w R:=qb Tryz.func48 (Eq.mpr (by kernel_rfl:fnV _ _ qr1 _ _ _=_) h)
def qpe:Ann:=T F (T F (T (T F (.one (.loop 1208925819614629174706172 [(3,.one (.int .i64)),(4,.one (.int .i64))] (T (T F (T F F)) (T (.one (.cut 2147475460 [] (T F (T (T F F) F)) (.cut 2196875771912 [(3,.one (.int .i64))] (T F (T F F)) (T F (.one (.loop 1208925819612430151450724 [(5,.one (.int .i64))] (T (T F (T F F)) (T (.one (T F (T F (T (T F F) F)))) F)))))))) F))))) (T F F)))
def qom (h:Option Addr) (a:Nat) (a8:Nat) (R:Ending→World→Prop) (w:World):Prop :=
 ∃ (M:Int→Int→World→Nat→Prop),(∃ a9,M 1 0 w a9)∧∀ j c e X,M j c e X→∀ _:Env,(br (decide ((c:Int) < ((a:Int)))) (∀ (N:World→Prop),(∀  (s:World),(∀ _:Env,(∀ (l:Int→World→Prop),(∀ (m:Int) (x:World),(∀ _:Env,(∃ (k:Int→World→Nat→Prop),(∃ W,k 0 x W)∧∀ g b t,k g b t→∀ _:Env,(idx h a c 1 fun Y =>
 ∃ a4 n O,b.cell? Y=some (L a4 n O)∧br (decide ((g:Int) < (n))) (idx h a c 1 fun Z =>
 ∃ y o Q,b.cell? Z=some (L y o Q)∧idx y o g 6 fun f =>
 ∃ z,b.cell? (f.add 0)=some (S z)∧∃ A,b.cell? (f.add 1)=some (S A)∧∃ C,b.cell? (f.add 2)=some (S C)∧∃ D,b.cell? (f.add 3)=some (I D)∧∃ E,b.cell? (f.add 4)=some (I E)∧∃ F,b.cell? (f.add 5)=some (S F)∧al b 117 [S [],S [],S [],I 0,I 0,S []] fun i a3 =>
 stL a3 i 0 [S z,S A,S C,I D,I E,S F] fun d =>
 ∃ G,d.cell? (i.add 0)=some (S G)∧br (decide ((12:Int) < ((List.length G:Int)))) (R (.returned (B true)) d) (∃ H,d.cell? (i.add 1)=some (S H)∧br (decide ((12:Int) < ((List.length H:Int)))) (R (.returned (B true)) d) (∃ J,d.cell? ((i.add 2).add 0)=some (S J)∧br (decide ((20:Int) < ((List.length J:Int)))) (R (.returned (B true)) d) (∃ K,d.cell? (i.add 5)=some (S K)∧br (decide ((20:Int) < ((List.length K:Int)))) (R (.returned (B true)) d) (∃ u,u < t∧k (i64.wrap (g + 1)) d u))))) (∃ v,v < X∧M m (i64.wrap (c + 1)) b v))))→l m x)→(br (decide ((c:Int) < 4)) (idx h a c 1 fun a0 =>
 ∃ a5 p T,s.cell? a0=some (L a5 p T)∧(l (i64.wrap (j * (i64.wrap ((p) + 1)))) s)) (l j s))))→N s)→(idx h a c 1 fun a1 =>
 ∃ a6 q U,e.cell? a1=some (L a6 q U)∧br (decide ((6:Int) < (q))) (R (.returned (B true)) e) (br (decide ((4:Int)≤c)) (idx h a c 1 fun a2 =>
 ∃ a7 r V,e.cell? a2=some (L a7 r V)∧br (decide ((1:Int) < (r))) (R (.returned (B true)) e) (N e)) (N e)))) (br (decide ((400:Int) < j)) (R (.returned (B true)) e) (br (decide ((6:Int) < ((a:Int)))) (br (decide ((((a:Int)):Int)≤32)) (R (.returned (B true)) e) (R (.returned (.bool (decide ((34:Int) < ((a:Int)))))) e)) (R (.returned (.bool (decide ((34:Int) < ((a:Int)))))) e))))
theorem qq9 {c b a R w} (h:qom c b a R w):Calls prog qhk ⟨[L c b a]⟩ w R:=qb Tryz.func53 (Eq.mpr (by kernel_rfl:fnV _ _ qpe _ _ _=_) h)
def qrr:Ann:=T F (T (T F (.one (.loop 262128 [(5,.one (.int .i64))] (T (T F (T F F)) (T (.one (T F (T (T F F) F))) F))))) (T F F))
def qqc (b:List UInt8) (d:Option Addr) (a:Nat) (h:Nat) (R:Ending→World→Prop) (w:World):Prop :=
 ∃ (g:Int→World→Nat→Prop),(∃ k,g 0 w k)∧∀ c e i,g c e i→∀ _:Env,(br (decide ((c:Int) < ((a:Int)))) (idx d a c 1 fun l =>
 ∃ j,e.cell? l=some (S j)∧br (decide ((20:Int) < ((List.length j:Int)))) (R (.returned (B true)) e) (∃ f,f < i∧g (i64.wrap (c + 1)) e f)) (R (.returned (.bool (decide ((20:Int) < ((List.length b:Int)))))) e))
theorem qts {a d c b R w} (h:qqc a d c b R w):Calls prog qif ⟨[S a,L d c b]⟩ w R:=qb Tryz.func54 (Eq.mpr (by kernel_rfl:fnV _ _ qrr _ _ _=_) h)
def q4p:Ann:=T F (T (T F (T (T F F) F)) (T (T F (T (T F F) F)) (T (T F (T (T F F) F)) (T (T F (.one (.loop 70368743129536 [(7,.one (.int .i64))] (T (T F (T F F)) (T (.one (T (T F (T (T F F) F)) (T F (.one (.loop 70364449210688 [(8,.one (.int .i64))] (T (T F (T F F)) (T (.one (T F (T (T F F) F))) F))))))) F))))) (T (T F (T (T F F) F)) (T (T F (.one (.loop 2417851636977458535728704 [(9,.one (.int .i64))] (T (T F (T F F)) (T (.one (T (T F (T (T F F) F)) (T F (.one (.loop 2417842415857221494637632 [(10,.one (.int .i64))] (T (T F (T F F)) (T (.one (T F (T (T F F) F))) F))))))) F))))) (T F F)))))))
def q3l (k:List UInt8) (f:Option Addr) (a:Nat) (a1:Nat) (d:Option Addr) (b:Nat) (G:Nat) (R:Ending→World→Prop) (w:World):Prop :=
 Calls prog 96 ⟨[S k]⟩ w fun c0 v =>
 ∃ b9,c0=.returned (B b9)∧(br (!b9) (R (.returned (I 14)) v) (br (decide ((((a:Int)):Int)=0)) (R (.returned (I 5)) v) (br (decide ((32:Int) < ((a:Int)))) (R (.returned (I 4)) v) (∃ (a0:Int→World→Nat→Prop),(∃ a7,a0 0 v a7)∧∀ g r x,a0 g r x→∀ _:Env,(br (decide ((g:Int) < ((a:Int)))) (idx f a g 1 fun b1 =>
 ∃ K,r.cell? b1=some (S K)∧Calls prog 97 ⟨[S K]⟩ r fun a5 H =>
 ∃ M,a5=.returned (B M)∧br (!M) (R (.returned (I 14)) H) (∃ (n:Int→World→Nat→Prop),(∃ a8,n 0 H a8)∧∀ i q y,n i q y→∀ _:Env,(br (decide ((i:Int) < g)) (drw q fun m =>
 idx f a i 1 fun b2 =>
 ∃ N,m.cell? b2=some (S N)∧idx f a g 1 fun b3 =>
 ∃ O,m.cell? b3=some (S O)∧br (decide (N=O)) (R (.returned (I 7)) m) (∃ z,z < y∧n (i64.wrap (i + 1)) m z)) (∃ A,A < x∧a0 (i64.wrap (g + 1)) q A)))) (br (decide ((((b:Int)):Int)≠((a:Int)))) (R (.returned (I 9)) r) (∃ (o:Int→World→Nat→Prop),(∃ a9,o 0 r a9)∧∀ e l C,o e l C→∀ _:Env,(br (decide ((e:Int) < ((b:Int)))) (idx d b e 1 fun b4 =>
 ∃ b7 s a2,l.cell? b4=some (L b7 s a2)∧br (decide ((1024:Int) < (s))) (R (.returned (I 4)) l) (∃ (p:Int→World→Nat→Prop),(∃ b0,p 0 l b0)∧∀ j c D,p j c D→∀ _:Env,(idx d b e 1 fun b5 =>
 ∃ b8 t a3,c.cell? b5=some (L b8 t a3)∧br (decide ((j:Int) < (t))) (idx d b e 1 fun b6 =>
 ∃ Q u a4,c.cell? b6=some (L Q u a4)∧idx Q u j 6 fun h =>
 ∃ T,c.cell? (h.add 0)=some (S T)∧∃ U,c.cell? (h.add 1)=some (S U)∧∃ V,c.cell? (h.add 2)=some (S V)∧∃ W,c.cell? (h.add 3)=some (I W)∧∃ X,c.cell? (h.add 4)=some (I X)∧∃ Y,c.cell? (h.add 5)=some (S Y)∧Calls prog 98 ⟨[.agg ⟨[S T,S U,S V,I W,I X,S Y]⟩]⟩ c fun a6 J =>
 ∃ Z,a6=.returned (I Z)∧br (decide (Z≠0)) (R (.returned (I 1)) J) (∃ E,E < D∧p (i64.wrap (j + 1)) J E)) (∃ F,F < C∧o (i64.wrap (e + 1)) c F)))) (R (.returned (I 0)) l)))))))))
theorem q6f {a g e d f c b R w} (h:q3l a g e d f c b R w):Calls prog qxt ⟨[S a,L g e d,L f c b]⟩ w R:=qb Tryz.func55 (Eq.mpr (by kernel_rfl:fnV _ _ q4p _ _ _=_) h)
def qbb:Ann:=T F (T (T F (.one (.loop 524080 [(8,.one (.int .i64))] (T F (T (T F F) (T (.one (T F (T F (T (T F F) F)))) F)))))) (T F F))
def qba (q:Option Addr) (c:Nat) (t:Nat) (o:Fn) (l:Array Value) (m:Array Value) (R:Ending→World→Prop) (w:World):Prop :=
 ∃ (k:Int→World→Nat→Prop),(∃ s,k 0 w s)∧∀ a b p,k a b p→∀ _:Env,(br (decide ((a:Int) < ((c:Int)))) (idx q c a 4 fun d =>
 ∃ r,b.cell? (d.add 0)=some (I r)∧∃ g,b.cell? (d.add 1)=some (S g)∧∃ h,b.cell? (d.add 2)=some (I h)∧∃ i,b.cell? (d.add 3)=some (S i)∧CallV prog (.func o l m) [.agg ⟨[I r,S g,I h,S i]⟩] b fun n f =>
 ∃ j,n=.returned (B j)∧br j (R (.returned (I a)) f) (∃ e,e < p∧k (i64.wrap (a + 1)) f e)) (R (.returned (.int .i64 ((-1)))) b))
theorem qbe {f d c e a b R w} (h:qba f d c e a b R w):Calls prog qbf ⟨[L f d c,.func e a b]⟩ w R:=qb Tryz.func56 (Eq.mpr (by kernel_rfl:fnV _ _ qbb _ _ _=_) h)
def qhb:Ann:=T F (T F F)
def qg4 (c:List UInt8) (R:Ending→World→Prop) (w:World):Prop :=
 al w 117 [S [],S [],S [],I 0,I 0,S []] fun a j =>
 stL j a 0 [S c,S c,S [],I 0,I 0,S []] fun b =>
 ∃ e,b.cell? (a.add 0)=some (S e)∧(∃ f,b.cell? (a.add 1)=some (S f)∧∃ g,b.cell? (a.add 2)=some (S g)∧∃ h,b.cell? (a.add 3)=some (I h)∧∃ i,b.cell? (a.add 4)=some (I i)∧∃ d,b.cell? (a.add 5)=some (S d)∧R (.returned (.agg ⟨[S e,S f,S g,I h,I i,S d]⟩)) b)
theorem qhs {a R w} (h:qg4 a R w):Calls prog qhy ⟨[S a]⟩ w R:=qb Tryz.func57 (Eq.mpr (by kernel_rfl:fnV _ _ qhb _ _ _=_) h)
def qum:Ann:=T F (T (T F (T F (T (T F F) F))) (T (T F (T (T F F) F)) (T F F)))
def qsw (C:List UInt8) (D:Option Addr) (r:Nat) (q:Nat) (E:Option Addr) (t:Nat) (s:Nat) (F:Option Addr) (v:Nat) (u:Nat) (R:Ending→World→Prop) (w:World):Prop :=
 al w 62 [S C,L D r q,L E t s,L F v u] fun b h =>
 ∃ z,h.cell? (b.add 0)=some (S z)∧(∃ A n m,h.cell? (b.add 1)=some (L A n m)∧∃ B p o,h.cell? (b.add 2)=some (L B p o)∧Calls prog 99 ⟨[S z,L A n m,L B p o]⟩ h fun x a =>
 ∃ c,x=.returned (I c)∧br (decide (c≠0)) (R (.returned (I c)) a) (∃ j e d,a.cell? (b.add 2)=some (L j e d)∧∃ k g f,a.cell? (b.add 3)=some (L k g f)∧Calls prog 100 ⟨[L j e d,L k g f]⟩ a fun y i =>
 ∃ l,y=.returned (I l)∧br (decide (l≠0)) (R (.returned (I 19)) i) (R (.returned (I 0)) i)))
theorem qwp {g i b a j d c k f e R w} (h:qsw g i b a j d c k f e R w):Calls prog qj2 ⟨[.agg ⟨[S g,L i b a,L j d c,L k f e]⟩]⟩ w R:=qb Tryz.func58 (Eq.mpr (by kernel_rfl:fnV _ _ qum _ _ _=_) h)
def qwt:Ann:=T F (T F F)
def qvi (g:List UInt8) (h:Option Addr) (b:Nat) (a:Nat) (i:Option Addr) (d:Nat) (c:Nat) (j:Option Addr) (f:Nat) (e:Nat) (R:Ending→World→Prop) (w:World):Prop :=
 al w 62 [S g,L h b a,L i d c,L j f e] fun k l =>
 R (.returned (.func (.func 101) ⟨[]⟩ ⟨[.pointer (some k)]⟩)) l
theorem qk6 {g i b a j d c k f e R w} (h:qvi g i b a j d c k f e R w):Calls prog qyq ⟨[.agg ⟨[S g,L i b a,L j d c,L k f e]⟩]⟩ w R:=qb Tryz.func59 (Eq.mpr (by kernel_rfl:fnV _ _ qwt _ _ _=_) h)
def qng:Ann:=T F (T F (T (T F (.one (.loop 140737488340864 [(7,.one (.slice)),(14,.one (.int .i64))] (T F (T (T F F) (T (.one (T F (T F (T F (T (T F (T (T F F) F)) F))))) F)))))) (T F F)))
def qmb (c9:List UInt8) (d0:Option Addr) (a4:Nat) (a3:Nat) (d1:Option Addr) (a6:Nat) (a5:Nat) (d2:Option Addr) (a8:Nat) (a7:Nat) (j:Int) (a2:Int) (R:Ending→World→Prop) (w:World):Prop :=
 al w 62 [S c9,L d0 a4 a3,L d1 a6 a5,L d2 a8 a7] fun l c7 =>
 ∃ d3 X c8,c7.cell? (l.add 1)=some (L d3 X c8)∧(∃ (h:Option Addr→Nat→Nat→Int→World→Nat→Prop),(∃ b3,h none 0 0 0 c7 b3)∧∀ b a d c e k,h b a d c e k→∀ _:Env,(br (decide ((c:Int) < (X))) (∃ J,e.cell? (l.add 0)=some (S J)∧∃ K o n,e.cell? (l.add 1)=some (L K o n)∧∃ M q p,e.cell? (l.add 2)=some (L M q p)∧∃ N s r,e.cell? (l.add 3)=some (L N s r)∧Calls prog 103 ⟨[.agg ⟨[S J,L K o n,L M q p,L N s r]⟩,I j,I a2,I c]⟩ e fun b1 b9 =>
 ∃ O u t,b1=.returned (L O u t)∧al b9 3 [I c] fun b4 c0 =>
 al c0 179 [L none 0 0,L none 0 0] fun f c1 =>
 stL c1 f 0 [L O u t,.slice (some b4) 1 1] fun m =>
 ∃ Q x v,m.cell? (f.add 0)=some (L Q x v)∧∃ T z y,m.cell? (f.add 1)=some (L T z y)∧Calls prog 104 ⟨[L b a d,.agg ⟨[L Q x v,L T z y]⟩,.func (.func 105) #[] #[]]⟩ m fun b2 g =>
 ∃ i,b2=.returned (I i)∧br (decide (i < 0)) (∃ U B A,g.cell? (f.add 0)=some (L U B A)∧∃ V D C,g.cell? (f.add 1)=some (L V D C)∧al g 179 [L U B A,L V D C] fun b5 c2 =>
 app prog [120,120] 120 (L b a d) (.slice (some b5) 1 1) c2 fun a9 Z Y c3 =>
 ∃ G,G < k∧h a9 Z Y (i64.wrap (c + 1)) c3 G) (idx b a i 2 fun b6 =>
 ∃ W F E,g.cell? (b6.add 1)=some (L W F E)∧al g 3 [I c] fun b7 c4 =>
 app prog [40,40] 40 (L W F E) (.slice (some b7) 1 1) c4 fun b0 a1 a0 c5 =>
 idx b a i 2 fun b8 =>
 stL c5 (b8.add 1) 0 [L b0 a1 a0] fun c6 =>
 ∃ H,H < k∧h b a d (i64.wrap (c + 1)) c6 H)) (R (.returned (L b a d)) e)))
theorem qov {j k d c l f e m i g a b R w} (h:qmb j k d c l f e m i g a b R w):Calls prog qgk ⟨[.agg ⟨[S j,L k d c,L l f e,L m i g]⟩,I a,I b]⟩ w R:=qb Tryz.func60 (Eq.mpr (by kernel_rfl:fnV _ _ qng _ _ _=_) h)
def qw3:Ann:=T F (T (T F (T (T F F) F)) (T (T F (T (T F F) F)) (T F F)))
def qvs (O:List UInt8) (Q:Option Addr) (C:Nat) (B:Nat) (T:Option Addr) (E:Nat) (D:Nat) (U:Option Addr) (G:Nat) (F:Nat) (K:Option Addr) (A:Nat) (z:Nat) (R:Ending→World→Prop) (w:World):Prop :=
 al w 62 [S O,L Q C B,L T E D,L U G F] fun b c =>
 ∃ M,c.cell? (b.add 0)=some (S M)∧(∃ N y x,c.cell? (b.add 1)=some (L N y x)∧∃ o e d,c.cell? (b.add 2)=some (L o e d)∧∃ p g f,c.cell? (b.add 3)=some (L p g f)∧Calls prog 58 ⟨[.agg ⟨[S M,L N y x,L o e d,L p g f]⟩]⟩ c fun H a =>
 ∃ q,H=.returned (I q)∧br (decide (q≠0)) (R (.returned (I 1)) a) (∃ r,a.cell? (b.add 0)=some (S r)∧∃ s i h,a.cell? (b.add 1)=some (L s i h)∧∃ t k j,a.cell? (b.add 2)=some (L t k j)∧∃ u m l,a.cell? (b.add 3)=some (L u m l)∧Calls prog 106 ⟨[.agg ⟨[S r,L s i h,L t k j,L u m l]⟩,L K A z]⟩ a fun J n =>
 ∃ v,J=.returned (I v)∧br (decide (v≠0)) (R (.returned (I 20)) n) (R (.returned (I 0)) n)))
theorem qyf {k l d c m f e n i g j b a R w} (h:qvs k l d c m f e n i g j b a R w):Calls prog qlf ⟨[.agg ⟨[S k,L l d c,L m f e,L n i g]⟩,L j b a]⟩ w R:=qb Tryz.func61 (Eq.mpr (by kernel_rfl:fnV _ _ qw3 _ _ _=_) h)
def qul:Ann:=T F (T (T F (T (T F F) F)) (T F (T (T F (.one (.loop 137438698944 [(8,.one (.slice)),(18,.one (.int .i64))] (T F (T (T F F) (T (.one (T F (T F (T (T F (T (T F F) F)) F)))) F)))))) (T F F))))
def qsv (a8:List UInt8) (a9:Option Addr) (T:Nat) (Q:Nat) (b0:Option Addr) (V:Nat) (U:Nat) (b1:Option Addr) (X:Nat) (W:Nat) (a1:Option Addr) (O:Nat) (N:Nat) (Z:Option Addr) (h:Nat) (b2:Nat) (R:Ending→World→Prop) (w:World):Prop :=
 al w 62 [S a8,L a9 T Q,L b0 V U,L b1 X W] fun q a7 =>
 br (decide ((256:Int) < ((h:Int)))) (R (.returned (.tuple ⟨[L none 0 0,I 4]⟩)) a7) (∃ (J:Option Addr→Nat→Nat→Int→World→Nat→Prop),(∃ a2,J none 0 0 0 a7 a2)∧∀ e d c a f r,J e d c a f r→∀ _:Env,(br (decide ((a:Int) < ((h:Int)))) (idx Z h a 4 fun i =>
 ∃ u,f.cell? (i.add 0)=some (I u)∧∃ v,f.cell? (i.add 1)=some (S v)∧∃ x,f.cell? (i.add 2)=some (I x)∧∃ y,f.cell? (i.add 3)=some (S y)∧al f 68 [I 0,S [],I 0,S []] fun g a4 =>
 stL a4 g 0 [I u,S v,I x,S y] fun b =>
 ∃ z,b.cell? (q.add 0)=some (S z)∧∃ A k j,b.cell? (q.add 1)=some (L A k j)∧∃ B m l,b.cell? (q.add 2)=some (L B m l)∧∃ C o n,b.cell? (q.add 3)=some (L C o n)∧∃ D,b.cell? (g.add 0)=some (I D)∧∃ E,b.cell? (g.add 1)=some (S E)∧∃ F,b.cell? (g.add 2)=some (I F)∧∃ G,b.cell? (g.add 3)=some (S G)∧Calls prog 107 ⟨[.agg ⟨[S z,L A k j,L B m l,L C o n]⟩,L a1 O N,.agg ⟨[I D,S E,I F,S G]⟩]⟩ b fun a0 t =>
 ∃ H p,a0=.returned (.tuple ⟨[I H,I p]⟩)∧br (decide (p≠0)) (R (.returned (.tuple ⟨[L none 0 0,I p]⟩)) t) (al t 3 [I H] fun a3 a5 =>
 app prog [40,40] 40 (L e d c) (.slice (some a3) 1 1) a5 fun Y M K a6 =>
 ∃ s,s < r∧J Y M K (i64.wrap (a + 1)) a6 s)) (R (.returned (.tuple ⟨[L e d c,I 0]⟩)) f)))
theorem qwo {n o f e p i g q k j m d c l b a R w} (h:qsv n o f e p i g q k j m d c l b a R w):Calls prog qj1 ⟨[.agg ⟨[S n,L o f e,L p i g,L q k j]⟩,L m d c,L l b a]⟩ w R:=qb Tryz.func62 (Eq.mpr (by kernel_rfl:fnV _ _ qul _ _ _=_) h)
def qha:Ann:=T F (.cut 3584 [] (T F (T F F)) (T F (.cut 266338304 [] (T F (T F F)) (T F (T F (T (.one (.loop 140720308486400 [(8,.one (.int .i64))] (T (T F (T F F)) (.one F)))) (T F F)))))))
def qg2 (D:Option Addr) (g:Nat) (o:Nat) (c:Int) (R:Ending→World→Prop) (w:World):Prop :=
 ∀ (p:World→Prop),(∀  (B:World),(∀ _:Env,(Calls prog 108 ⟨[.int .u64 (IntKind.u64.wrap ((g:Int))),.int .u64 (IntKind.u64.wrap c)]⟩ B fun E F =>
 ∃ C a,E=.returned (.tuple ⟨[.int .u64 C,.int .u64 a]⟩)∧∀ (q:World→Prop),(∀  (j:World),(∀ _:Env,(mks j 3 8 [I 0] (i64.wrap a) (i64.wrap a) fun d x =>
 cpy prog [40,40] 3 [.slice (some d) (Int.toNat (i64.wrap a)) (Int.toNat (i64.wrap a)),L D g o] x fun u y =>
 ∃ (e:Int→World→Nat→Prop),(∃ t,e u y t)∧∀ b f h,e b f h→∀ _:Env,(br (decide ((b:Int) < (((Int.toNat (i64.wrap a)):Int)))) (drw f fun z =>
 sls (some d) (Int.toNat (i64.wrap a)) b ((Int.toNat (i64.wrap a)):Int) 1 fun r l k =>
 sls (some d) (Int.toNat (i64.wrap a)) 0 b 1 fun s n m =>
 (cpy prog [40,40] 3 [L r l k,L s n m] z fun v A =>
 ∃ i,i < h∧e (i64.wrap (b + v)) A i)∧True) (R (.returned (.slice (some d) (Int.toNat (i64.wrap a)) (Int.toNat (i64.wrap a)))) f))))→q j)→(br (decide ((0:Int) < C)) (False) (br (decide ((9223372036854775807:Int) < a)) (False) (q F)))))→p B)→(br (decide ((c:Int) < 0)) (False) (p w))
theorem qhr {d c b a R w} (h:qg2 d c b a R w):Calls prog qc2 ⟨[L d c b,I a]⟩ w R:=qb Tryz.func63 (Eq.mpr (by kernel_rfl:fnV _ _ qha _ _ _=_) h)
def qk2:Ann:=T F (T F (T F (.cut 281474842492928 [] F F)))
def qkd (Y:List UInt8) (Z:List UInt8) (a0:List UInt8) (a1:Int) (a2:Int) (a3:List UInt8) (a4:Int) (j:Int) (e:Int) (c:Option Addr) (R:Ending→World→Prop) (w:World):Prop :=
 al w 128 [S Y,S Z,S a0,I a1,I a2,S a3,I a4] fun f g =>
 ∃ o,g.cell? ((f.add 0).add 0)=some (S o)∧(∃ p,g.cell? (f.add 6)=some (I p)∧∃ q,g.cell? ((f.add 0).add 4)=some (I q)∧∃ r,g.cell? ((f.add 0).add 5)=some (S r)∧al g 36 [S [],I 0,I 0,I 0,B false,B false,S []] fun a a5 =>
 stL a5 a 0 [S o,I p,I j,I e,B false,.bool (decide (((bitA .i64 q 4):Int)≠0)),S r] fun n =>
 dr c fun Q =>
 ∃ b3 h K,n.cell? Q=some (L b3 h K)∧∀ (i:World→Prop),(∀  (b:World),(∀ _:Env,(dr c fun T =>
 ∃ s l k,b.cell? T=some (L s l k)∧∃ t,b.cell? (a.add 0)=some (S t)∧∃ u,b.cell? (a.add 1)=some (I u)∧∃ v,b.cell? (a.add 2)=some (I v)∧∃ x,b.cell? (a.add 3)=some (I x)∧∃ y,b.cell? (a.add 4)=some (B y)∧∃ z,b.cell? (a.add 5)=some (B z)∧∃ A,b.cell? (a.add 6)=some (S A)∧al b 36 [S t,I u,I v,I x,B y,B z,S A] fun U a6 =>
 app prog [27,27] 27 (L s l k) (.slice (some U) 1 1) a6 fun N J H a7 =>
 dr c fun V =>
 stL a7 V 0 [L N J H] fun a8 =>
 R (.returned (.tuple ⟨[]⟩)) a8))→i b)→(drw n fun d =>
 ∃ C,d.cell? ((f.add 0).add 4)=some (I C)∧br (decide (((bitA .i64 C 16):Int)≠0)) (br (decide ((0:Int) < (h))) (dr c fun W =>
 ∃ D m M,d.cell? W=some (L D m M)∧idx D m (i64.wrap ((h) - 1)) 7 fun X =>
 ∃ E,d.cell? (X.add 0)=some (S E)∧∃ F,d.cell? (a.add 0)=some (S F)∧((Calls prog 65 ⟨[S E,S F]⟩ d fun O a9 =>
 ∃ G,O=.returned (B G)∧((stL a9 (a.add 4) 0 [B G] fun b0 =>
 i b0)∧True))∧True)) (((stL d (a.add 4) 0 [B false] fun b1 =>
 i b1)∧True)∧True)) (((stL d (a.add 4) 0 [B false] fun b2 =>
 i b2)∧True)∧True)))
theorem qlv {d e f g i j k b a c R w} (h:qkd d e f g i j k b a c R w):Calls prog ql4 ⟨[.agg ⟨[S d,S e,S f,I g,I i,S j,I k]⟩,I b,I a,.pointer c]⟩ w R:=qb Tryz.func64 (Eq.mpr (by kernel_rfl:fnV _ _ qk2 _ _ _=_) h)
def qw2:Ann:=T F (T (T F (T (T F F) F)) (T F F))
def qvr (a:List UInt8) (b:List UInt8) (R:Ending→World→Prop) (w:World):Prop :=
 Calls prog 109 ⟨[S a]⟩ w fun g c =>
 ∃ e,g=.returned (B e)∧(br e (Calls prog 109 ⟨[S b]⟩ c fun h d =>
 ∃ f,h=.returned (B f)∧br (!f) (R (.returned (.bool (decide ((b:List UInt8)≠([39]))))) d) (R (.returned (B false)) d)) (R (.returned (B true)) c))
theorem qye {a b R w} (h:qvr a b R w):Calls prog qle ⟨[S a,S b]⟩ w R:=qb Tryz.func65 (Eq.mpr (by kernel_rfl:fnV _ _ qw2 _ _ _=_) h)
def qda:Ann:=T F (T (T F (T (T F F) F)) (T F F))
def qc8 (a:Option Addr) (c:Nat) (b:Nat) (R:Ending→World→Prop) (w:World):Prop :=
 br (Option.isNone a) (R (.returned (L none 0 0)) w) (al w 123 [] fun g h =>
 app prog [70,70] 70 (.slice (some g) 0 0) (L a c b) h fun f e d i =>
 R (.returned (L f e d)) i)
theorem qdk {c b a R w} (h:qc8 c b a R w):Calls prog qa2 ⟨[L c b a]⟩ w R:=qb Tryz.func66 (Eq.mpr (by kernel_rfl:fnV _ _ qda _ _ _=_) h)
def quk:Ann:=T F (T F F)
def qsu (p:List UInt8) (q:Option Addr) (e:Nat) (d:Nat) (r:Option Addr) (g:Nat) (f:Nat) (s:Option Addr) (i:Nat) (h:Nat) (b:Int) (c:Int) (a:Int) (R:Ending→World→Prop) (w:World):Prop :=
 al w 62 [S p,L q e d,L r g f,L s i h] fun t u =>
 al u 3 [I b] fun j m =>
 al m 3 [I c] fun k n =>
 al n 3 [I a] fun l o =>
 R (.returned (.func (.func 110) ⟨[]⟩ ⟨[.pointer (some j),.pointer (some k),.pointer (some t),.pointer (some l)]⟩)) o
theorem qfj {k l e d m g f n j i b c a R w} (h:qsu k l e d m g f n j i b c a R w):Calls prog qxe ⟨[.agg ⟨[S k,L l e d,L m g f,L n j i]⟩,I b,I c,I a]⟩ w R:=qb Tryz.func67 (Eq.mpr (by kernel_rfl:fnV _ _ quk _ _ _=_) h)
def qw1:Ann:=T F (T F F)
def qvq  (R:Ending→World→Prop) (w:World):Prop :=
 al w 136 [.nilFunc,.nilFunc,.nilFunc,.nilFunc] fun a g =>
 stL g a 0 [.nilFunc,.func (.func 111) #[] #[],.func (.func 113) #[] #[],.func (.func 115) #[] #[]] fun b =>
 ∃ c,b.cell? (a.add 0)=some (c)∧(∃ d,b.cell? (a.add 1)=some (d)∧∃ e,b.cell? (a.add 2)=some (e)∧∃ f,b.cell? (a.add 3)=some (f)∧R (.returned (.agg ⟨[c,d,e,f]⟩)) b)
theorem qyd {R w} (h:qvq  R w):Calls prog qld ⟨[]⟩ w R:=qb Tryz.func68 (Eq.mpr (by kernel_rfl:fnV _ _ qw1 _ _ _=_) h)
def qrt:Ann:=T F (T (T F (T F (T (T F F) F))) (T F (T F (T (T F (.one (.loop 18014397435747392 [(30,.one (.int .i64))] (T F (T (T F F) (T (.one (T F (T (T F (T F (T (T F F) F))) (T F F)))) F)))))) (T (T F (.one (.loop 4951760156997405911520895040 [(57,.one (.int .i64))] (T F (T (T F F) (T (.one (T F (T (T F (T F (T F F))) (T F (T F (T (T F F) F)))))) F)))))) (T F F))))))
def qqe (i9:List UInt8) (j0:Option Addr) (g4:Nat) (g3:Nat) (j1:Option Addr) (g6:Nat) (g5:Nat) (j2:Option Addr) (g8:Nat) (g7:Nat) (x:Option Addr) (o:Nat) (n:Nat) (l:Option Addr) (g:Nat) (u:Nat) (R:Ending→World→Prop) (w:World):Prop :=
 al w 62 [S i9,L j0 g4 g3,L j1 g6 g5,L j2 g8 g7] fun k F =>
 ∃ i8,F.cell? (k.add 0)=some (S i8)∧(∃ b2 M K,F.cell? (k.add 1)=some (L b2 M K)∧∃ b3 O N,F.cell? (k.add 2)=some (L b3 O N)∧∃ b4 T Q,F.cell? (k.add 3)=some (L b4 T Q)∧Calls prog 106 ⟨[.agg ⟨[S i8,L b2 M K,L b3 O N,L b4 T Q]⟩,L x o n]⟩ F fun g9 D =>
 ∃ U,g9=.returned (I U)∧br (decide (U≠0)) (R (.returned (I U)) D) (∃ i6 h f8,D.cell? (k.add 3)=some (L i6 h f8)∧mks D 3 8 [I 0] (h) (h) fun A i0 =>
 al i0 36 [S [],I 0,I 0,I 0,B false,B false,S []] fun i i1 =>
 ∃ (v:Int→World→Nat→Prop),(∃ h2,v 0 i1 h2)∧∀ d e a6,v d e a6→∀ _:Env,(br (decide ((d:Int) < ((g:Int)))) (idx l g d 7 fun j =>
 ∃ b5,e.cell? (j.add 0)=some (S b5)∧∃ b6,e.cell? (j.add 1)=some (I b6)∧∃ b7,e.cell? (j.add 2)=some (I b7)∧∃ b8,e.cell? (j.add 3)=some (I b8)∧∃ b9,e.cell? (j.add 4)=some (B b9)∧∃ c0,e.cell? (j.add 5)=some (B c0)∧∃ c1,e.cell? (j.add 6)=some (S c1)∧al e 36 [S [],I 0,I 0,I 0,B false,B false,S []] fun b i2 =>
 stL i2 b 0 [S b5,I b6,I b7,I b8,B b9,B c0,S c1] fun a =>
 ∃ c2,a.cell? (k.add 0)=some (S c2)∧∃ c3 W V,a.cell? (k.add 1)=some (L c3 W V)∧∃ c4 Y X,a.cell? (k.add 2)=some (L c4 Y X)∧∃ c5 a0 Z,a.cell? (k.add 3)=some (L c5 a0 Z)∧∃ c6,a.cell? (b.add 0)=some (S c6)∧∃ c7,a.cell? (b.add 1)=some (I c7)∧∃ c8,a.cell? (b.add 2)=some (I c8)∧∃ c9,a.cell? (b.add 3)=some (I c9)∧∃ d0,a.cell? (b.add 4)=some (B d0)∧∃ d1,a.cell? (b.add 5)=some (B d1)∧∃ d2,a.cell? (b.add 6)=some (S d2)∧∃ d3,a.cell? (i.add 0)=some (S d3)∧∃ d4,a.cell? (i.add 1)=some (I d4)∧∃ d5,a.cell? (i.add 2)=some (I d5)∧∃ d6,a.cell? (i.add 3)=some (I d6)∧∃ d7,a.cell? (i.add 4)=some (B d7)∧∃ d8,a.cell? (i.add 5)=some (B d8)∧∃ d9,a.cell? (i.add 6)=some (S d9)∧Calls prog 116 ⟨[.agg ⟨[S c2,L c3 W V,L c4 Y X,L c5 a0 Z]⟩,L x o n,.agg ⟨[S c6,I c7,I c8,I c9,B d0,B d1,S d2]⟩,.agg ⟨[S d3,I d4,I d5,I d6,B d7,B d8,S d9]⟩,.bool (decide ((d:Int)=0))]⟩ a fun h0 f =>
 ∃ a1,h0=.returned (I a1)∧br (decide (a1≠0)) (R (.returned (I a1)) f) (∃ e0,f.cell? (b.add 0)=some (S e0)∧∃ e1,f.cell? (b.add 1)=some (I e1)∧∃ e2,f.cell? (b.add 2)=some (I e2)∧∃ e3,f.cell? (b.add 3)=some (I e3)∧∃ e4,f.cell? (b.add 4)=some (B e4)∧∃ e5,f.cell? (b.add 5)=some (B e5)∧∃ e6,f.cell? (b.add 6)=some (S e6)∧stL f i 0 [S e0,I e1,I e2,I e3,B e4,B e5,S e6] fun E =>
 ∃ a2,E.cell? (b.add 1)=some (I a2)∧idx (some A) (Int.toNat (h)) a2 1 fun h4 =>
 ∃ e7,E.cell? h4=some (I e7)∧idx (some A) (Int.toNat (h)) a2 1 fun h5 =>
 stL E h5 0 [.int .i64 (i64.wrap (e7 + 1))] fun i3 =>
 ∃ a7,a7 < a6∧v (i64.wrap (d + 1)) i3 a7)) (∃ e8 p f9,e.cell? (k.add 3)=some (L e8 p f9)∧∃ (q:Int→World→Nat→Prop),(∃ h3,q 0 e h3)∧∀ c s z,q c s z→∀ _:Env,(br (decide ((c:Int) < (p))) (idx e8 p c 1 fun h6 =>
 ∃ e9 a3 g0,s.cell? h6=some (L e9 a3 g0)∧al s 3 [I 0] fun r i4 =>
 stL i4 r 0 [I c] fun b0 =>
 ∃ f0,b0.cell? r=some (I f0)∧Calls prog 117 ⟨[L x o n,I f0]⟩ b0 fun h1 b1 =>
 ∃ f1 i7,h1=.returned (.tuple ⟨[I f1,I i7]⟩)∧br (decide ((0:Int)≤f1)) (∃ a8,a8 < z∧q (i64.wrap (c + 1)) b1 a8) (drw b1 fun m =>
 ∃ f2 a4 g1,m.cell? (k.add 2)=some (L f2 a4 g1)∧idx f2 a4 0 1 fun h7 =>
 ∃ f3 a5 g2,m.cell? h7=some (L f3 a5 g2)∧idx e9 a3 0 1 fun h8 =>
 ∃ f4,m.cell? h8=some (I f4)∧idx f3 a5 f4 6 fun h9 =>
 ∃ f5,m.cell? (h9.add 0)=some (S f5)∧((al m 9 [S []] fun a9 i5 =>
 (stL i5 a9 0 [S f5] fun t =>
 ∃ G,t.cell? r=some (I G)∧idx (some A) (Int.toNat (h)) G 1 fun f7 =>
 ∃ H,t.cell? f7=some (I H)∧br (decide (H≠1)) (R (.returned (I 9)) t) (Calls prog 6 ⟨[L l g u,.func (.func 118) ⟨[]⟩ ⟨[.pointer (some r),.pointer (some a9)]⟩]⟩ t fun f6 C =>
 ∃ J,f6=.returned (B J)∧br (!J) (R (.returned (I 9)) C) (∃ y,y < z∧q (i64.wrap (c + 1)) C y)))∧True)∧True))) (R (.returned (I 0)) s))))))
theorem qtu {n o g f p j i q l k m e d c b a R w} (h:qqe n o g f p j i q l k m e d c b a R w):Calls prog qig ⟨[.agg ⟨[S n,L o g f,L p j i,L q l k]⟩,L m e d,L c b a]⟩ w R:=qb Tryz.func69 (Eq.mpr (by kernel_rfl:fnV _ _ qrt _ _ _=_) h)
def qnk:Ann:=T F (T F (T (T F (T (T F (T (T F (.one (.loop 2139098112 [(10,.one (.slice)),(23,.one (.int .i64))] (T F (T (T F F) (T (.one (T F F)) F)))))) (T F F))) F)) (T (T F (T F (T (T F F) F))) (T F F))))
def qmf (a4:List UInt8) (a5:Option Addr) (H:Nat) (G:Nat) (a6:Option Addr) (K:Nat) (J:Nat) (a7:Option Addr) (N:Nat) (M:Nat) (u:Option Addr) (k:Nat) (D:Nat) (f:Option Addr) (e:Nat) (i:Nat) (U:Int) (R:Ending→World→Prop) (w:World):Prop :=
 al w 62 [S a4,L a5 H G,L a6 K J,L a7 N M] fun a8 t =>
 idx f e U 7 fun W =>
 ∃ h,t.cell? (W.add 2)=some (I h)∧(br (decide (h < 0)) (∃ a3 m E,t.cell? (a8.add 1)=some (L a3 m E)∧∃ (j:Option Addr→Nat→Nat→Int→World→Nat→Prop),(∃ V,j none 0 0 0 t V)∧∀ d c b a l v,j d c b a l v→∀ _:Env,(br (decide ((a:Int) < (m))) (al l 3 [I a] fun X a0 =>
 app prog [40,40] 40 (L d c b) (.slice (some X) 1 1) a0 fun O C B a1 =>
 ∃ x,x < v∧j O C B (i64.wrap (a + 1)) a1 x) (R (.returned (L d c b)) l))) (Calls prog 119 ⟨[L u k D,L f e i,I h]⟩ t fun Q g =>
 ∃ n,Q=.returned (I n)∧br (decide ((0:Int)≤n)) (idx u k h 3 fun Y =>
 ∃ y o F,g.cell? (Y.add 2)=some (L y o F)∧idx y o n 2 fun Z =>
 ∃ z q p,g.cell? (Z.add 1)=some (L z q p)∧Calls prog 120 ⟨[L z q p]⟩ g fun T a2 =>
 ∃ A s r,T=.returned (L A s r)∧R (.returned (L A s r)) a2) (R (.returned (L none 0 0)) g)))
theorem qoz {o p g f q j i r l k n e d c b a m R w} (h:qmf o p g f q j i r l k n e d c b a m R w):Calls prog qgm ⟨[.agg ⟨[S o,L p g f,L q j i,L r l k]⟩,L n e d,L c b a,I m]⟩ w R:=qb Tryz.func70 (Eq.mpr (by kernel_rfl:fnV _ _ qnk _ _ _=_) h)
def qub:Ann:=T F (T F (T (T F (.one (.loop 261928 [(3,.one (.slice)),(8,.one (.int .i64))] (T F (T (T F F) (T (.one (T F F)) F)))))) (T F F)))
def qsk (u:Option Addr) (g:Nat) (C:Nat) (R:Ending→World→Prop) (w:World):Prop :=
 ∃ (q:Option Addr→Nat→Nat→Int→World→Nat→Prop),(∃ D,q none 0 0 0 w D)∧∀ c b a d e v,q c b a d e v→∀ _:Env,(br (decide ((d:Int) < ((g:Int)))) (idx u g d 6 fun f =>
 ∃ B,e.cell? (f.add 0)=some (S B)∧∃ k,e.cell? (f.add 1)=some (S k)∧∃ l,e.cell? (f.add 2)=some (S l)∧∃ m,e.cell? (f.add 3)=some (I m)∧∃ n,e.cell? (f.add 4)=some (I n)∧∃ o,e.cell? (f.add 5)=some (S o)∧al e 117 [S [],S [],S [],I 0,I 0,S []] fun i y =>
 stL y i 0 [S B,S k,S l,I m,I n,S o] fun j =>
 ∃ p,j.cell? (i.add 0)=some (S p)∧al j 9 [S p] fun x z =>
 app prog [23,23] 23 (L c b a) (.slice (some x) 1 1) z fun t s r A =>
 ∃ h,h < v∧q t s r (i64.wrap (d + 1)) A h) (R (.returned (L c b a)) e))
theorem qwf {c b a R w} (h:qsk c b a R w):Calls prog qjr ⟨[L c b a]⟩ w R:=qb Tryz.func71 (Eq.mpr (by kernel_rfl:fnV _ _ qub _ _ _=_) h)
def qhu:Ann:=T F (T (T F (.one (.loop 524080 [(8,.one (.int .i64))] (T F (T (T F F) (T (.one (T F (T F (T (T F F) F)))) F)))))) (T F F))
def qhn (g:Option Addr) (b:Nat) (l:Nat) (h:Int) (R:Ending→World→Prop) (w:World):Prop :=
 ∃ (e:Int→World→Nat→Prop),(∃ j,e 0 w j)∧∀ a c f,e a c f→∀ _:Env,(br (decide ((a:Int) < ((b:Int)))) (idx g b a 1 fun k =>
 ∃ i,c.cell? k=some (I i)∧br (decide ((h:Int)=i)) (R (.returned (I a)) c) (∃ d,d < f∧e (i64.wrap (a + 1)) c d)) (R (.returned (.int .i64 ((-1)))) c))
theorem qiq {c b a d R w} (h:qhn c b a d R w):Calls prog qdd ⟨[L c b a,I d]⟩ w R:=qb Tryz.func72 (Eq.mpr (by kernel_rfl:fnV _ _ qhu _ _ _=_) h)
def qey:Ann:=T F (T (T F (.one (.loop 524080 [(8,.one (.int .i64))] (T F (T (T F F) (T (.one (T F (T F (T (T F F) F)))) F)))))) (T F F))
def qeq (g:Option Addr) (b:Nat) (l:Nat) (h:List UInt8) (R:Ending→World→Prop) (w:World):Prop :=
 ∃ (e:Int→World→Nat→Prop),(∃ j,e 0 w j)∧∀ a c f,e a c f→∀ _:Env,(br (decide ((a:Int) < ((b:Int)))) (idx g b a 1 fun k =>
 ∃ i,c.cell? k=some (S i)∧br (decide ((h:List UInt8)=i)) (R (.returned (I a)) c) (∃ d,d < f∧e (i64.wrap (a + 1)) c d)) (R (.returned (.int .i64 ((-1)))) c))
theorem qbr {c b a d R w} (h:qeq c b a d R w):Calls prog qbw ⟨[L c b a,S d]⟩ w R:=qb Tryz.func73 (Eq.mpr (by kernel_rfl:fnV _ _ qey _ _ _=_) h)
def qf1:Ann:=T F (T F (T F (T F F)))
def qft (a:Option Addr) (b:List UInt8) (R:Ending→World→Prop) (w:World):Prop :=
 Calls prog 129 ⟨[.pointer a]⟩ w fun k h =>
 k=.returned (.tuple ⟨[]⟩)∧(dr a fun l =>
 ∃ i d c,h.cell? (l.add 1)=some (L i d c)∧app prog [158,9] 158 (L i d c) (S b) h fun j f e n =>
 dr a fun m =>
 stL n (m.add 1) 0 [L j f e] fun g =>
 R (.returned (.tuple ⟨[.int .i64 ((List.length b:Int)),.nilIface]⟩)) g)
theorem qgc {a b R w} (h:qft a b R w):Calls prog qcf ⟨[.pointer a,S b]⟩ w R:=qb Tryz.func87 (Eq.mpr (by kernel_rfl:fnV _ _ qf1 _ _ _=_) h)
def qgw:Ann:=T F (T F (T F (T F F)))
def qgq (a:Option Addr) (f:Int) (R:Ending→World→Prop) (w:World):Prop :=
 Calls prog 129 ⟨[.pointer a]⟩ w fun m j =>
 m=.returned (.tuple ⟨[]⟩)∧(dr a fun n =>
 ∃ k c b,j.cell? (n.add 1)=some (L k c b)∧al j 5 [.int .u8 f] fun o p =>
 app prog [158,158] 158 (L k c b) (.slice (some o) 1 1) p fun l e d h =>
 dr a fun g =>
 stL h (g.add 1) 0 [L l e d] fun i =>
 R (.returned (.nilIface)) i)
theorem qg9 {a b R w} (h:qgq a b R w):Calls prog qcx ⟨[.pointer a,.int .u8 b]⟩ w R:=qb Tryz.func88 (Eq.mpr (by kernel_rfl:fnV _ _ qgw _ _ _=_) h)
def qnq:Ann:=T F (T F (.one (.loop 137438953464 [(3,.one (.int .i64)),(4,.one (.int .i64))] (T (T F (T F F)) (T (.one (.cut 268433408 [] (T F (T F F)) (T (T F (T F F)) F))) F)))))
def qmk (h:Fn) (e:Array Value) (f:Array Value) (c:Option Addr) (R:Ending→World→Prop) (w:World):Prop :=
 ∃ (k:Int→Int→World→Nat→Prop),(∃ K,k 0 1 w K)∧∀ a b d y,k a b d y→∀ _:Env,(dr c fun L =>
 ∃ p,d.cell? L=some (S p)∧br (decide ((b:Int)≤((List.length p:Int)))) (∀ (g:World→Prop),(∀  (i:World),(∀ _:Env,(dr c fun E =>
 ∃ q,i.cell? E=some (S q)∧(ssl q a b fun J =>
 CallV prog (.func h e f) [I a,S J] i fun A n =>
 ∃ r,A=.returned (B r)∧br (!r) (R (.returned (.tuple ⟨[]⟩)) n) (∃ l,l < y∧k b (i64.wrap (b + 1)) n l))))→g i)→(dr c fun F =>
 ∃ s,d.cell? F=some (S s)∧br (decide ((b:Int) < ((List.length s:Int)))) (dr c fun G =>
 ∃ t,d.cell? G=some (S t)∧(sidx t b fun z =>
 Calls prog 91 ⟨[.int .u8 ((z.toNat:Int))]⟩ d fun C j =>
 ∃ u,C=.returned (I u)∧br (decide (u=2)) (dr c fun H =>
 ∃ v,j.cell? H=some (S v)∧Calls prog 92 ⟨[S v,I a,I b]⟩ j fun D o =>
 ∃ x,D=.returned (B x)∧br x (∃ m,m < y∧k a (i64.wrap (b + 1)) o m) (g o)) (g j))) (g d))) (R (.returned (.tuple ⟨[]⟩)) d))
theorem qo5 {c a b d R w} (h:qmk c a b d R w):Calls prog qbm ⟨[.func c a b,.pointer d]⟩ w R:=qb Tryz.func90 (Eq.mpr (by kernel_rfl:fnV _ _ qnq _ _ _=_) h)
def q0v:Ann:=T F (T (.one (.cut 262136 [(3,.one (.bool))] F (T (T F F) (.cut 536608768 [(18,.one (.bool))] F (T (T F F) (.cut 68182605824 [(29,.one (.bool))] F (T (T F F) (T F (T (T F F) (T F (T (T F F) (T F (T (T F F) F))))))))))))) (T F F))
def qml (a:Int) (R:Ending→World→Prop) (w:World):Prop :=
 ∀ (e:Bool→World→Prop),(∀ (f:Bool) (g:World),(∀ _:Env,(br f (R (.returned (I 1)) g) (∀ (h:Bool→World→Prop),(∀ (c:Bool) (i:World),(∀ _:Env,(br c (R (.returned (I 2)) i) (∀ (l:Bool→World→Prop),(∀ (d:Bool) (b:World),(∀ _:Env,(br d (R (.returned (I 3)) b) (br (decide ((a:Int)=39)) (R (.returned (I 4)) b) (br (decide ((a:Int)=32)) (R (.returned (I 6)) b) (br (decide ((a:Int)≠0)) (Calls prog 130 ⟨[S [46,44,59,58,33,63,40,41,45],.int .u8 a]⟩ b fun m j =>
 ∃ k,m=.returned (I k)∧br (decide ((0:Int)≤k)) (R (.returned (I 5)) j) (R (.returned (I 0)) j)) (R (.returned (I 0)) b))))))→l d b)→(br (decide ((48:Int)≤a)) (l (decide ((a:Int)≤57)) i) (l false i)))))→h c i)→(br (decide ((a:Int)=94)) (h true g) (br (decide ((a:Int)=126)) (h true g) (h (decide ((a:Int)=37)) g))))))→e f g)→(br (decide ((97:Int)≤a)) (br (decide ((a:Int)≤122)) (e true w) (br (decide ((65:Int)≤a)) (e (decide ((a:Int)≤90)) w) (e false w))) (br (decide ((65:Int)≤a)) (e (decide ((a:Int)≤90)) w) (e false w)))
theorem q1w {a R w} (h:qml a R w):Calls prog qpt ⟨[.int .u8 a]⟩ w R:=qb Tryz.func91 (Eq.mpr (by kernel_rfl:fnV _ _ q0v _ _ _=_) h)
def qyn:Ann:=T F (T F F)
def qx1 (c:List UInt8) (a:Int) (b:Int) (R:Ending→World→Prop) (w:World):Prop :=
 sidx c a fun f =>
 Calls prog 91 ⟨[.int .u8 ((f.toNat:Int))]⟩ w fun g d =>
 ∃ e,g=.returned (I e)∧(br (decide (e=1)) (R (.returned (.bool (decide ((a:Int) < b)))) d) (R (.returned (B false)) d))
theorem q0l {c a b R w} (h:qx1 c a b R w):Calls prog qnz ⟨[S c,I a,I b]⟩ w R:=qb Tryz.func92 (Eq.mpr (by kernel_rfl:fnV _ _ qyn _ _ _=_) h)
def qeh:Ann:=T F (T F F)
def qd6 (b:List UInt8) (a:List UInt8) (R:Ending→World→Prop) (w:World):Prop :=
 br (decide ((((List.length a:Int)):Int)≤((List.length b:Int)))) (ssl b (i64.wrap (((List.length b:Int)) - ((List.length a:Int)))) (List.length b:Int) fun c =>
 R (.returned (.bool (decide ((c:List UInt8)=a)))) w) (R (.returned (B false)) w)
theorem qet {b a R w} (h:qd6 b a R w):Calls prog qe1 ⟨[S b,S a]⟩ w R:=qb Tryz.func95 (Eq.mpr (by kernel_rfl:fnV _ _ qeh _ _ _=_) h)
def q0u:Ann:=T F (T F F)
def qzn (a:List UInt8) (R:Ending→World→Prop) (w:World):Prop :=
 br (decide ((((List.length a:Int)):Int)≤16)) (Calls prog 133 ⟨[S a]⟩ w fun e b =>
 ∃ c,e=.returned (B c)∧br c (Calls prog 134 ⟨[S a]⟩ b fun f g =>
 ∃ d,f=.returned (I d)∧R (.returned (.bool (decide (d=((List.length a:Int)))))) g) (R (.returned (B false)) b)) (R (.returned (B false)) w)
theorem q1v {a R w} (h:qzn a R w):Calls prog qpr ⟨[S a]⟩ w R:=qb Tryz.func96 (Eq.mpr (by kernel_rfl:fnV _ _ q0u _ _ _=_) h)
def q0q:Ann:=T F (T (T F (.cut 32704 [(14,.one (.bool))] F (T (T F F) F))) (T F F))
def qzj (a:List UInt8) (R:Ending→World→Prop) (w:World):Prop :=
 ∀ (e:Bool→World→Prop),(∀ (b:Bool) (c:World),(∀ _:Env,(br b (br (decide ((((List.length a:Int)):Int)≤16)) (ssl a 0 (i64.wrap (((List.length a:Int)) - 1)) fun k =>
 Calls prog 96 ⟨[S k]⟩ c fun i l =>
 ∃ h,i=.returned (B h)∧R (.returned (B h)) l) (R (.returned (B false)) c)) (Calls prog 96 ⟨[S a]⟩ c fun j g =>
 ∃ d,j=.returned (B d)∧R (.returned (B d)) g)))→e b c)→(br (decide ((0:Int) < ((List.length a:Int)))) (sidx a (i64.wrap (((List.length a:Int)) - 1)) fun f =>
 e (decide ((((f.toNat:Int)):Int)=42)) w) (e false w))
theorem q1r {a R w} (h:qzj a R w):Calls prog qpn ⟨[S a]⟩ w R:=qb Tryz.func97 (Eq.mpr (by kernel_rfl:fnV _ _ q0q _ _ _=_) h)
def q10:Ann:=T F (.cut 16324 [] (T F (T (T F F) F)) (.cut 245784 [(3,.one (.bool)),(4,.one (.bool))] F (.cut 3932164 [] (T F (T (T F F) F)) (.cut 1237940039285380274894929956 [] (.one (T F (T (T F (T (T F F) F)) (T F (T (T F (T (T F F) F)) (.cut 137434759172 [] (T F (T (T F F) F)) (T F (.one (.loop 1125762467889188 [(5,.one (.int .i64))] (T (T F (T F F)) (T (.one (T F (T (T F F) F))) F))))))))))) (T (T F (T (T F F) F)) (T (T F (T (T F F) F)) (T F F)))))))
def q1l (e6:List UInt8) (e7:List UInt8) (e8:List UInt8) (e9:Int) (f0:Int) (f1:List UInt8) (R:Ending→World→Prop) (w:World):Prop :=
 al w 117 [S e6,S e7,S e8,I e9,I f0,S f1] fun a t =>
 ∀ (d0:World→Prop),(∀  (H:World),(∀ _:Env,(∀ (q:Bool→Bool→World→Prop),(∀ (e:Bool) (c:Bool) (o:World),(∀ _:Env,(∀ (r:World→Prop),(∀  (d:World),(∀ _:Env,(∀ (j:World→Prop),(∀  (k:World),(∀ _:Env,(∃ M,k.cell? ((a.add 2).add 1)=some (I M)∧br (decide (M < 0)) (R (.returned (I 2)) k) (∃ N,k.cell? ((a.add 2).add 0)=some (S N)∧Calls prog 139 ⟨[S N]⟩ k fun d4 s =>
 ∃ O,d4=.returned (B O)∧br (!O) (R (.returned (I 14)) s) (∃ Q,s.cell? (a.add 5)=some (S Q)∧Calls prog 139 ⟨[S Q]⟩ s fun d5 J =>
 ∃ T,d5=.returned (B T)∧br (!T) (R (.returned (I 14)) J) (R (.returned (I 0)) J)))))→j k)→(br e (∃ U,d.cell? (a.add 0)=some (S U)∧Calls prog 136 ⟨[S U]⟩ d fun d6 l =>
 ∃ V,d6=.returned (B V)∧br (!V) (R (.returned (I 11)) l) (∃ W,l.cell? (a.add 1)=some (S W)∧∃ X,l.cell? (a.add 0)=some (S X)∧br (decide (W≠X)) (R (.returned (I 11)) l) (j l))) (br c (∃ Y,d.cell? (a.add 0)=some (S Y)∧br (decide ((((List.length Y:Int)):Int)≠1)) (R (.returned (I 11)) d) (∃ Z,d.cell? (a.add 0)=some (S Z)∧(sidx Z 0 fun d1 =>
 Calls prog 137 ⟨[.int .u8 ((d1.toNat:Int))]⟩ d fun d7 g =>
 ∃ a0,d7=.returned (I a0)∧br (decide (a0≠5)) (∃ a1,g.cell? (a.add 0)=some (S a1)∧(sidx a1 0 fun d2 =>
 Calls prog 137 ⟨[.int .u8 ((d2.toNat:Int))]⟩ g fun d8 m =>
 ∃ a2,d8=.returned (I a2)∧br (decide (a2≠4)) (R (.returned (I 11)) m) (∃ a3,m.cell? (a.add 1)=some (S a3)∧∃ a4,m.cell? (a.add 0)=some (S a4)∧br (decide (a3≠a4)) (R (.returned (I 11)) m) (j m)))) (∃ a5,g.cell? (a.add 1)=some (S a5)∧∃ a6,g.cell? (a.add 0)=some (S a6)∧br (decide (a5≠a6)) (R (.returned (I 11)) g) (j g))))) (∀ (E:World→Prop),(∀  (K:World),(∀ _:Env,(∃ (p:Int→World→Nat→Prop),(∃ e5,p 0 K e5)∧∀ i n F,p i n F→∀ _:Env,(∃ a7,n.cell? (a.add 1)=some (S a7)∧br (decide ((i:Int) < ((List.length a7:Int)))) (∃ a8,n.cell? (a.add 1)=some (S a8)∧(sidx a8 i fun d3 =>
 Calls prog 138 ⟨[.int .u8 ((d3.toNat:Int))]⟩ n fun d9 L =>
 ∃ a9,d9=.returned (B a9)∧br (!a9) (R (.returned (I 11)) L) (∃ G,G < F∧p (i64.wrap (i + 1)) L G))) (j n))))→E K)→(∃ b0,d.cell? (a.add 0)=some (S b0)∧Calls prog 133 ⟨[S b0]⟩ d fun e0 h =>
 ∃ b1,e0=.returned (B b1)∧br (!b1) (R (.returned (I 11)) h) (∃ b2,h.cell? (a.add 1)=some (S b2)∧br (decide (b2=([]))) (R (.returned (I 11)) h) (∃ b3,h.cell? (a.add 1)=some (S b3)∧br (decide ((64:Int) < ((List.length b3:Int)))) (R (.returned (I 11)) h) (E h)))))))))→r d)→(br e (br c (R (.returned (I 8)) o) (r o)) (r o))))→q e c o)→(drw H fun b =>
 ∃ x,b.cell? (a.add 0)=some (S x)∧∃ y,b.cell? (a.add 1)=some (S y)∧∃ z,b.cell? (a.add 2)=some (S z)∧∃ A,b.cell? (a.add 3)=some (I A)∧∃ C,b.cell? (a.add 4)=some (I C)∧∃ D,b.cell? (a.add 5)=some (S D)∧((Calls prog 135 ⟨[.agg ⟨[S x,S y,S z,I A,I C,S D]⟩,I 2]⟩ b fun e1 f =>
 ∃ b4,e1=.returned (B b4)∧∃ b5,f.cell? (a.add 0)=some (S b5)∧∃ b6,f.cell? (a.add 1)=some (S b6)∧∃ b7,f.cell? (a.add 2)=some (S b7)∧∃ b8,f.cell? (a.add 3)=some (I b8)∧∃ b9,f.cell? (a.add 4)=some (I b9)∧∃ c0,f.cell? (a.add 5)=some (S c0)∧((Calls prog 135 ⟨[.agg ⟨[S b5,S b6,S b7,I b8,I b9,S c0]⟩,I 8]⟩ f fun e2 f2 =>
 ∃ c1,e2=.returned (B c1)∧(q b4 c1 f2))∧True))∧(∃ c2,b.cell? (a.add 0)=some (S c2)∧∃ c3,b.cell? (a.add 1)=some (S c3)∧∃ c4,b.cell? (a.add 2)=some (S c4)∧∃ c5,b.cell? (a.add 3)=some (I c5)∧∃ c6,b.cell? (a.add 4)=some (I c6)∧∃ c7,b.cell? (a.add 5)=some (S c7)∧((Calls prog 135 ⟨[.agg ⟨[S x,S y,S z,I A,I C,S D]⟩,I 2]⟩ b fun e3 f3 =>
 ∃ c8,e3=.returned (B c8)∧((Calls prog 135 ⟨[.agg ⟨[S c2,S c3,S c4,I c5,I c6,S c7]⟩,I 8]⟩ f3 fun e4 f4 =>
 ∃ c9,e4=.returned (B c9)∧(q c8 c9 f4))∧True))∧True))∧True))))→d0 H)→(∃ u,t.cell? (a.add 4)=some (I u)∧br (decide (u < 0)) (R (.returned (I 2)) t) (∃ v,t.cell? (a.add 4)=some (I v)∧br (decide ((31:Int) < v)) (R (.returned (I 2)) t) (d0 t)))
theorem q4l {a b c d e f R w} (h:q1l a b c d e f R w):Calls prog quz ⟨[.agg ⟨[S a,S b,S c,I d,I e,S f]⟩]⟩ w R:=qb Tryz.func98 (Eq.mpr (by kernel_rfl:fnV _ _ q10 _ _ _=_) h)
def qpg:Ann:=T F (T (.one (T F (T (T F F) (T F (T (T F F) (T F (T (T F F) F))))))) (T (T F (.one (.loop 549722259904 [(25,.one (.int .i64))] (T F (T (T F F) (T (.one (T F (T (T F (T (T F F) F)) (T F (T (T F F) F))))) F)))))) (T (T F (T (T F F) F)) (T (T F (.one (.loop 71987225293751360 [(46,.one (.int .i64))] (T F (T (T F F) (T (.one (T F (T (T F (T (T F F) F)) (T F (T (T F F) F))))) F)))))) (T F F)))))
def qoo (f:List UInt8) (e:Option Addr) (a:Nat) (h:Nat) (i:Option Addr) (b:Nat) (t:Nat) (R:Ending→World→Prop) (w:World):Prop :=
 Calls prog 140 ⟨[S f]⟩ w fun U o =>
 ∃ T,U=.returned (B T)∧(br (!T) (R (.returned (I 14)) o) (br (decide ((((a:Int)):Int)=0)) (R (.returned (I 5)) o) (br (decide ((32:Int) < ((a:Int)))) (R (.returned (I 4)) o) (∃ (D:Int→World→Nat→Prop),(∃ M,D 0 o M)∧∀ c l p,D c l p→∀ _:Env,(br (decide ((c:Int) < ((a:Int)))) (idx e a c 1 fun O =>
 ∃ m,l.cell? O=some (S m)∧Calls prog 141 ⟨[S m]⟩ l fun H u =>
 ∃ y,H=.returned (B y)∧br (!y) (R (.returned (I 14)) u) (sls e h 0 c 1 fun G F E =>
 Calls prog 29 ⟨[L G F E,S m]⟩ u fun J v =>
 ∃ z,J=.returned (B z)∧br z (R (.returned (I 7)) v) (∃ q,q < p∧D (i64.wrap (c + 1)) v q))) (br (decide ((((b:Int)):Int)≠((a:Int)))) (R (.returned (I 9)) l) (∃ (k:Int→World→Nat→Prop),(∃ N,k 0 l N)∧∀ d g r,k d g r→∀ _:Env,(br (decide ((d:Int) < ((b:Int)))) (idx i b d 1 fun Q =>
 ∃ A j n,g.cell? Q=some (L A j n)∧br (decide ((1024:Int) < (j))) (R (.returned (I 4)) g) (Calls prog 142 ⟨[L A j n,.func (.func 143) #[] #[]]⟩ g fun K x =>
 ∃ C,K=.returned (B C)∧br C (R (.returned (I 1)) x) (∃ s,s < r∧k (i64.wrap (d + 1)) x s))) (R (.returned (I 0)) g)))))))))
theorem qrb {a g e d f c b R w} (h:qoo a g e d f c b R w):Calls prog qhl ⟨[S a,L g e d,L f c b]⟩ w R:=qb Tryz.func99 (Eq.mpr (by kernel_rfl:fnV _ _ qpg _ _ _=_) h)
def qwz:Ann:=T F (T (T F (T F (T (T F F) F))) (T (T F (T (T F F) F)) (T F F)))
def qvo (f:Option Addr) (e:Nat) (d:Nat) (c:Option Addr) (b:Nat) (a:Nat) (R:Ending→World→Prop) (w:World):Prop :=
 Calls prog 145 ⟨[L f e d]⟩ w fun k h =>
 ∃ g,k=.returned (I g)∧(br (decide (g≠0)) (R (.returned (I g)) h) (Calls prog 146 ⟨[L f e d,L c b a]⟩ h fun l i =>
 ∃ j,l=.returned (B j)∧br (!j) (R (.returned (I 19)) i) (R (.returned (I 0)) i)))
theorem qyb {f e d c b a R w} (h:qvo f e d c b a R w):Calls prog qys ⟨[L f e d,L c b a]⟩ w R:=qb Tryz.func100 (Eq.mpr (by kernel_rfl:fnV _ _ qwz _ _ _=_) h)
end Go.Proofs
