/- Written by program: for each function its verification condition, that it is the code's (by the kernel), and that it gives the call. -/
import Derived.Test.YtncjonkmhfdabaaGreatDoorFn
set_option linter.all false
set_option maxRecDepth 100000
namespace Go.Proofs
open Go Go.Sh Go.Proofs.Tryz IntKind
def qei:Ann:=T F (T F F)
def qd7 (b:List UInt8) (a:List UInt8) (R:Ending→World→Prop) (w:World):Prop :=
 br (decide ((((List.length a:Int)):Int)≤((List.length b:Int)))) (ssl b 0 ((List.length a:Int)) fun c =>
 R (.returned (.bool (decide ((c:List UInt8)=a)))) w) (R (.returned (B false)) w)
theorem qeu {b a R w} (h:qd7 b a R w):Calls prog qbg ⟨[S b,S a]⟩ w R:=qb Tryz.func208 (Eq.mpr (by kernel_rfl:fnV _ _ qei _ _ _=_) h)
def q11:Ann:=T F (T F (T (T F (.one (.loop 549755813848 [(3,.one (.slice)),(4,.one (.int .i64))] (T (T F (T F F)) (T (.one F) F))))) (T F F)))
def q1m (g:List UInt8) (R:Ending→World→Prop) (w:World):Prop :=
 al w 4 [] fun a1 a2 =>
 ∃ (e:Option Addr→Nat→Nat→Int→World→Nat→Prop),(∃ a0,e (some a1) 0 0 0 a2 a0)∧∀ c a b d z f,e c a b d z f→∀ _:Env,(br (decide ((d:Int) < ((List.length g:Int)))) (sidx g d fun F =>
 Calls prog 137 ⟨[.int .u8 ((F.toNat:Int))]⟩ z fun H h =>
 ∃ n,H=.returned (I n)∧br (decide (n=2)) (br (decide ((0:Int) < d)) (sidx g (i64.wrap (d - 1)) fun G =>
 Calls prog 137 ⟨[.int .u8 ((G.toNat:Int))]⟩ h fun J i =>
 ∃ o,J=.returned (I o)∧br (decide (o=1)) (al i 4 [B true] fun K S =>
 app prog [22,22] 22 (L c a b) (.slice (some K) 1 1) S fun A r q T =>
 ∃ j,j < f∧e A r q (i64.wrap (d + 1)) T j) (idx c a (i64.wrap (d - 1)) 1 fun M =>
 ∃ p,i.cell? M=some (B p)∧al i 4 [B p] fun N U =>
 app prog [22,22] 22 (L c a b) (.slice (some N) 1 1) U fun C t s V =>
 ∃ k,k < f∧e C t s (i64.wrap (d + 1)) V k)) (al h 4 [B false] fun O W =>
 app prog [22,22] 22 (L c a b) (.slice (some O) 1 1) W fun D v u X =>
 ∃ l,l < f∧e D v u (i64.wrap (d + 1)) X l)) (al h 4 [B false] fun Q Y =>
 app prog [22,22] 22 (L c a b) (.slice (some Q) 1 1) Y fun E y x Z =>
 ∃ m,m < f∧e E y x (i64.wrap (d + 1)) Z m)) (R (.returned (L c a b)) z))
theorem q4m {a R w} (h:q1m a R w):Calls prog qu0 ⟨[S a]⟩ w R:=qb Tryz.func210 (Eq.mpr (by kernel_rfl:fnV _ _ q11 _ _ _=_) h)
def qej:Ann:=T F (T (T F (T (T F F) F)) (T F F))
def qd8 (b:List UInt8) (a:List UInt8) (R:Ending→World→Prop) (w:World):Prop :=
 Calls prog 95 ⟨[S b,S a]⟩ w fun e c =>
 ∃ d,e=.returned (B d)∧(br (!d) (R (.returned (.tuple ⟨[S b,B false]⟩)) c) (ssl b 0 (i64.wrap (((List.length b:Int)) - ((List.length a:Int)))) fun f =>
 R (.returned (.tuple ⟨[S f,B true]⟩)) c))
theorem qev {b a R w} (h:qd8 b a R w):Calls prog qe2 ⟨[S b,S a]⟩ w R:=qb Tryz.func212 (Eq.mpr (by kernel_rfl:fnV _ _ qej _ _ _=_) h)
def qt9:Ann:=T F (T F (T F F))
def qsi (a:Int) (R:Ending→World→Prop) (w:World):Prop :=
 Calls prog 91 ⟨[.int .u8 a]⟩ w fun e g =>
 ∃ c,e=.returned (I c)∧(Calls prog 237 ⟨[.int .u8 a]⟩ g fun f b =>
 ∃ d,f=.returned (B d)∧br d (R (.returned (B true)) b) (br (decide (c=2)) (R (.returned (B true)) b) (R (.returned (.bool (decide (c=4)))) b)))
theorem qwd {a R w} (h:qsi a R w):Calls prog qjp ⟨[.int .u8 a]⟩ w R:=qb Tryz.func214 (Eq.mpr (by kernel_rfl:fnV _ _ qt9 _ _ _=_) h)
def qb5:Ann:=T F (T (T F (.one (.loop 524080 [(8,.one (.int .i64))] (T F (T (T F F) (T (.one (T F (T F (T (T F F) F)))) F)))))) (T F F))
def qb0 (o:Option Addr) (b:Nat) (s:Nat) (m:Fn) (j:Array Value) (k:Array Value) (R:Ending→World→Prop) (w:World):Prop :=
 ∃ (i:Int→World→Nat→Prop),(∃ q,i 0 w q)∧∀ a c n,i a c n→∀ _:Env,(br (decide ((a:Int) < ((b:Int)))) (idx o b a 1 fun r =>
 ∃ p h g,c.cell? r=some (L p h g)∧CallV prog (.func m j k) [L p h g] c fun l e =>
 ∃ f,l=.returned (B f)∧br f (R (.returned (I a)) e) (∃ d,d < n∧i (i64.wrap (a + 1)) e d)) (R (.returned (.int .i64 ((-1)))) c))
theorem qcb {f d c e a b R w} (h:qb0 f d c e a b R w):Calls prog qcg ⟨[L f d c,.func e a b]⟩ w R:=qb Tryz.func215 (Eq.mpr (by kernel_rfl:fnV _ _ qb5 _ _ _=_) h)
def qy:Ann:=T F (T (T F (T (T F F) F)) (T (T F (.one (.loop 4294837184 [(17,.one (.int .i64))] (T F (T (T F F) (T (.one (T F (T F (T F (T (T F F) F))))) F)))))) (T F F)))
def qx (T:Option Addr) (b:Nat) (a0:Nat) (U:Option Addr) (d:Nat) (a1:Nat) (S:Fn) (z:Array Value) (A:Array Value) (R:Ending→World→Prop) (w:World):Prop :=
 br (decide ((((b:Int)):Int)≠((d:Int)))) (R (.returned (B false)) w) (∃ (Q:Int→World→Nat→Prop),(∃ a2,Q 0 w a2)∧∀ a h W,Q a h W→∀ _:Env,(br (decide ((a:Int) < ((b:Int)))) (idx T b a 2 fun X =>
 ∃ F j i,h.cell? (X.add 0)=some (L F j i)∧∃ G l k,h.cell? (X.add 1)=some (L G l k)∧al h 179 [L none 0 0,L none 0 0] fun e Y =>
 stL Y e 0 [L F j i,L G l k] fun g =>
 idx U d a 2 fun D =>
 ∃ H n m,g.cell? (D.add 0)=some (L H n m)∧∃ I p o,g.cell? (D.add 1)=some (L I p o)∧al g 179 [L none 0 0,L none 0 0] fun f Z =>
 stL Z f 0 [L H n m,L I p o] fun c =>
 ∃ J r q,c.cell? (e.add 0)=some (L J r q)∧∃ K t s,c.cell? (e.add 1)=some (L K t s)∧∃ M v u,c.cell? (f.add 0)=some (L M v u)∧∃ N y x,c.cell? (f.add 1)=some (L N y x)∧CallV prog (.func S z A) [.agg ⟨[L J r q,L K t s]⟩,.agg ⟨[L M v u,L N y x]⟩] c fun V E =>
 ∃ O,V=.returned (B O)∧br (!O) (R (.returned (B false)) E) (∃ C,C < W∧Q (i64.wrap (a + 1)) E C)) (R (.returned (B true)) h)))
theorem qaa {i d c j f e g a b R w} (h:qx i d c j f e g a b R w):Calls prog qab ⟨[L i d c,L j f e,.func g a b]⟩ w R:=qb Tryz.func216 (Eq.mpr (by kernel_rfl:fnV _ _ qy _ _ _=_) h)
def qrf:Ann:=T F (T F F)
def qp0 (F:Option Addr) (q:Nat) (p:Nat) (G:Option Addr) (s:Nat) (r:Nat) (H:Option Addr) (u:Nat) (t:Nat) (I:Option Addr) (x:Nat) (v:Nat) (R:Ending→World→Prop) (w:World):Prop :=
 al w 179 [L F q p,L G s r] fun A J =>
 al J 179 [L H u t,L I x v] fun C o =>
 ∃ E n m,o.cell? (A.add 0)=some (L E n m)∧(∃ h c b,o.cell? (C.add 0)=some (L h c b)∧Calls prog 30 ⟨[L E n m,L h c b]⟩ o fun y a =>
 ∃ i,y=.returned (B i)∧br i (∃ j e d,a.cell? (A.add 1)=some (L j e d)∧∃ k g f,a.cell? (C.add 1)=some (L k g f)∧Calls prog 39 ⟨[L j e d,L k g f]⟩ a fun z D =>
 ∃ l,z=.returned (B l)∧R (.returned (B l)) D) (R (.returned (B false)) a))
theorem qtg {j b a k d c l f e m i g R w} (h:qp0 j b a k d c l f e m i g R w):Calls prog qut ⟨[.agg ⟨[L j b a,L k d c]⟩,.agg ⟨[L l f e,L m i g]⟩]⟩ w R:=qb Tryz.func217 (Eq.mpr (by kernel_rfl:fnV _ _ qrf _ _ _=_) h)
def qnh:Ann:=T F (T F (T F F))
def qmc (a:Option Addr) (R:Ending→World→Prop) (w:World):Prop :=
 dr a fun e =>
 ∃ c,w.cell? e=some (I c)∧(dr a fun f =>
 stL w f 0 [.int .i64 (i64.wrap (c - 1))] fun b =>
 dr a fun g =>
 ∃ d,b.cell? g=some (I d)∧R (.returned (.bool (decide ((0:Int)≤d)))) b)
theorem qow {a R w} (h:qmc a R w):Calls prog qgl ⟨[.pointer a]⟩ w R:=qb Tryz.func218 (Eq.mpr (by kernel_rfl:fnV _ _ qnh _ _ _=_) h)
def qo8:Ann:=T F (T F F)
def qog (c:Option Addr) (b:Nat) (a:Nat) (R:Ending→World→Prop) (w:World):Prop :=
 al w 224 [L c b a] fun d e =>
 R (.returned (.func (.func 238) ⟨[]⟩ ⟨[.pointer (some d)]⟩)) e
theorem qq3 {c b a R w} (h:qog c b a R w):Calls prog qhf ⟨[L c b a]⟩ w R:=qb Tryz.func219 (Eq.mpr (by kernel_rfl:fnV _ _ qo8 _ _ _=_) h)
def qrk:Ann:=T F (T F (.cut 65284 [] (T F (T (T F F) F)) (T F (T F (T (.one (.cut 9007199246352384 [(23,.one (.bool))] F (T (T F F) (.cut 4722357475670390472704 [(53,.one (.bool))] F (T (T F F) (.cut 4830980911975647053611008 [(72,.one (.bool))] F (T (T F F) (.cut 1298074209798003628674107383480320 [(82,.one (.bool))] (.cut 4946924453863062582897672192 [(82,.one (.bool))] F (T F F)) (T (T F F) (.cut 43556141667805908689605042618642248761344 [(110,.one (.bool))] (.cut 331008924731595261318819140987781120 [(110,.one (.bool))] F (T F (.cut 20936639007827058705142093823497732096 [(110,.one (.bool))] F (T F F)))) (T (T F F) (.cut 11106816456299431447444547186572914421923840 [(135,.one (.bool))] F (T (T F F) (T F (T (T F F) F))))))))))))))) (T F F))))))
def qp5 (f6:Int) (f7:List UInt8) (f8:Int) (f9:Option Addr) (e6:Nat) (e5:Nat) (g0:Int) (g1:Bool) (R:Ending→World→Prop) (w:World):Prop :=
 al w 281 [I f6,S f7,I f8,L f9 e6 e5,I g0,B g1] fun F N =>
 ∃ g9,N.cell? ((F.add 0).add 0)=some (I g9)∧(∃ a3,N.cell? ((F.add 0).add 1)=some (S a3)∧∃ a4,N.cell? ((F.add 0).add 2)=some (I a4)∧∃ a5 U T,N.cell? ((F.add 0).add 3)=some (L a5 U T)∧al N 226 [I 0,S [],I 0,L none 0 0] fun a g2 =>
 stL g2 a 0 [I g9,S a3,I a4,L a5 U T] fun A =>
 ∀ (a2:World→Prop),(∀  (j:World),(∀ _:Env,(∃ a6,j.cell? (a.add 0)=some (I a6)∧idx (some (⟨3,0,none⟩)) 12 a6 4 fun D =>
 ∃ a7,j.cell? (D.add 0)=some (S a7)∧∃ a8,j.cell? (D.add 1)=some (B a8)∧∃ a9,j.cell? (D.add 2)=some (B a9)∧∃ b0,j.cell? (D.add 3)=some (B b0)∧al j 305 [S [],B false,B false,B false] fun c g3 =>
 stL g3 c 0 [S a7,B a8,B a9,B b0] fun b =>
 ∃ V,b.cell? (a.add 0)=some (I V)∧∀ (e:Bool→World→Prop),(∀ (v:Bool) (d:World),(∀ _:Env,(br v (R (.returned (I 8)) d) (∀ (m:Bool→World→Prop),(∀ (x:Bool) (r:World),(∀ _:Env,(br x (R (.returned (I 5)) r) (∀ (G:Bool→World→Prop),(∀ (y:Bool) (s:World),(∀ _:Env,(br y (R (.returned (I 11)) s) (∀ (n:Bool→World→Prop),(∀ (z:Bool) (t:World),(∀ _:Env,(br z (R (.returned (I 14)) t) (∀ (o:Bool→World→Prop),(∀ (p:Bool) (u:World),(∀ _:Env,(br p (R (.returned (I 2)) u) (∀ (H:Bool→World→Prop),(∀ (q:Bool) (k:World),(∀ _:Env,(br q (R (.returned (I 10)) k) (∃ b1,k.cell? (a.add 0)=some (I b1)∧br (decide (b1=4)) (∃ b2,k.cell? (F.add 4)=some (I b2)∧br (decide ((0:Int) < b2)) (R (.returned (I 12)) k) (R (.returned (I 0)) k)) (R (.returned (I 0)) k))))→H q k)→(∃ b3,u.cell? (a.add 0)=some (I b3)∧br (decide (b3=1)) (∃ b4,u.cell? (F.add 5)=some (B b4)∧(H b4 u)) (H false u)))))→o p u)→(∀ (J:Bool→World→Prop),(∀ (g:Bool) (C:World),(∀ _:Env,(br g (o g C) (∀ (K:Bool→World→Prop),(∀ (h:Bool) (l:World),(∀ _:Env,(br h (o h l) (∃ b5,l.cell? (c.add 2)=some (B b5)∧br b5 (br (!(decide (V=6))) (∃ b6,l.cell? (a.add 2)=some (I b6)∧(o (decide ((8:Int) < b6)) l)) (o false l)) (o false l))))→K h l)→(br (decide (V=6)) (∃ b7,C.cell? (a.add 2)=some (I b7)∧(K (decide ((64:Int) < b7)) C)) (K false C)))))→J g C)→(∃ b8,t.cell? (c.add 2)=some (B b8)∧br b8 (∃ b9,t.cell? (a.add 2)=some (I b9)∧(J (decide (b9 < 1)) t)) (J false t))))))→n z t)→(∀ (M:Bool→World→Prop),(∀ (i:Bool) (f:World),(∀ _:Env,(br i (n i f) (∃ c0,f.cell? (c.add 1)=some (B c0)∧br c0 (∃ c1,f.cell? (a.add 0)=some (I c1)∧br (decide (c1≠1)) (∃ c2,f.cell? (a.add 0)=some (I c2)∧br (decide (c2≠10)) (∃ c3,f.cell? (a.add 1)=some (S c3)∧Calls prog 140 ⟨[S c3]⟩ f fun f3 g4 =>
 ∃ c4,f3=.returned (B c4)∧(n (!c4) g4)) (n false f)) (n false f)) (n false f))))→M i f)→(∃ c5,s.cell? (a.add 0)=some (I c5)∧br (decide (c5=10)) (∃ c6,s.cell? (a.add 1)=some (S c6)∧Calls prog 109 ⟨[S c6]⟩ s fun f4 g5 =>
 ∃ c7,f4=.returned (B c7)∧(M (!c7) g5)) (M false s))))))→G y s)→(∃ c8,r.cell? (a.add 0)=some (I c8)∧br (decide (c8=1)) (∃ c9,r.cell? (a.add 1)=some (S c9)∧Calls prog 155 ⟨[S c9]⟩ r fun f5 g6 =>
 ∃ d0,f5=.returned (I d0)∧(G (decide (d0≠0)) g6)) (G false r)))))→m x r)→(∃ d1,d.cell? (a.add 0)=some (I d1)∧br (decide (d1=1)) (∃ d2,d.cell? (a.add 1)=some (S d2)∧br (decide (d2=([]))) (m true d) (∃ d3,d.cell? (c.add 3)=some (B d3)∧br d3 (∃ g7 W e8,d.cell? (a.add 3)=some (L g7 W e8)∧(m (decide (((W):Int)=0)) d)) (m false d))) (∃ d4,d.cell? (c.add 3)=some (B d4)∧br d4 (∃ g8 X e9,d.cell? (a.add 3)=some (L g8 X e9)∧(m (decide (((X):Int)=0)) d)) (m false d))))))→e v d)→(∃ d5,b.cell? (c.add 1)=some (B d5)∧br (!d5) (∃ d6,b.cell? (a.add 1)=some (S d6)∧br (decide (d6≠([]))) (e true b) (∃ d7,b.cell? (c.add 2)=some (B d7)∧br (!d7) (∃ d8,b.cell? (a.add 2)=some (I d8)∧br (decide (d8≠0)) (e true b) (∃ d9,b.cell? (c.add 3)=some (B d9)∧br (!d9) (∃ h0 Y f0,b.cell? (a.add 3)=some (L h0 Y f0)∧(e (decide ((0:Int) < (Y))) b)) (e false b))) (∃ e0,b.cell? (c.add 3)=some (B e0)∧br (!e0) (∃ h1 Z f1,b.cell? (a.add 3)=some (L h1 Z f1)∧(e (decide ((0:Int) < (Z))) b)) (e false b)))) (∃ e1,b.cell? (c.add 2)=some (B e1)∧br (!e1) (∃ e2,b.cell? (a.add 2)=some (I e2)∧br (decide (e2≠0)) (e true b) (∃ e3,b.cell? (c.add 3)=some (B e3)∧br (!e3) (∃ h2 a0 f2,b.cell? (a.add 3)=some (L h2 a0 f2)∧(e (decide ((0:Int) < (a0))) b)) (e false b))) (∃ e4,b.cell? (c.add 3)=some (B e4)∧br (!e4) (∃ e7 E a1,b.cell? (a.add 3)=some (L e7 E a1)∧(e (decide ((0:Int) < (E))) b)) (e false b))))))→a2 j)→(∃ O,A.cell? (a.add 0)=some (I O)∧br (decide (O < 1)) (R (.returned (I 8)) A) (∃ Q,A.cell? (a.add 0)=some (I Q)∧br (decide ((11:Int) < Q)) (R (.returned (I 8)) A) (a2 A))))
theorem qtl {c d e f b a g i R w} (h:qp5 c d e f b a g i R w):Calls prog qh7 ⟨[.agg ⟨[I c,S d,I e,L f b a,I g,B i]⟩]⟩ w R:=qb Tryz.func220 (Eq.mpr (by kernel_rfl:fnV _ _ qrk _ _ _=_) h)
def qo9:Ann:=T F (T F (T F (T F (T F (T F F)))))
def qoh (h:Option Addr) (e:Nat) (d:Nat) (R:Ending→World→Prop) (w:World):Prop :=
 al w 160 [.pointer none,L none 0 0] fun i n =>
 al n 307 [.nilFunc] fun f o =>
 stL o f 0 [.func (.func 240) ⟨[]⟩ ⟨[.pointer (some i),.pointer (some f)]⟩] fun k =>
 ∃ l b c,k.cell? f=some (.func l b c)∧(CallV prog (.func l b c) [L h e d] k fun m p =>
 m=.returned (.tuple ⟨[]⟩)∧Calls prog 89 ⟨[.pointer (some i)]⟩ p fun g j =>
 ∃ a,g=.returned (S a)∧R (.returned (S a)) j)
theorem qq4 {c b a R w} (h:qoh c b a R w):Calls prog qhg ⟨[L c b a]⟩ w R:=qb Tryz.func221 (Eq.mpr (by kernel_rfl:fnV _ _ qo9 _ _ _=_) h)
def quf:Ann:=T F (T (.one (.cut 4088 [(3,.one (.bool))] F (T (T F F) (.cut 8384512 [(12,.one (.bool))] F (T (T F F) (.cut 17171480576 [(23,.one (.bool))] F (T (T F F) (T F (T (T F F) F))))))))) (T F F))
def qso (F:List UInt8) (G:List UInt8) (R:Ending→World→Prop) (w:World):Prop :=
 al w 285 [S F,S G] fun b j =>
 ∀ (z:Bool→World→Prop),(∀ (h:Bool) (f:World),(∀ _:Env,(br h (R (.returned (I 5)) f) (∀ (A:Bool→World→Prop),(∀ (d:Bool) (e:World),(∀ _:Env,(br d (R (.returned (I 4)) e) (∀ (g:Bool→World→Prop),(∀ (c:Bool) (a:World),(∀ _:Env,(br c (R (.returned (I 11)) a) (∃ k,a.cell? (b.add 1)=some (S k)∧∃ l,a.cell? (b.add 0)=some (S l)∧br (decide ((((List.length l:Int)):Int) < ((List.length k:Int)))) (R (.returned (I 24)) a) (∃ m,a.cell? (b.add 1)=some (S m)∧∃ n,a.cell? (b.add 0)=some (S n)∧br (decide ((((List.length m:Int)):Int)=((List.length n:Int)))) (∃ o,a.cell? (b.add 1)=some (S o)∧∃ p,a.cell? (b.add 0)=some (S p)∧br (!(Op.bytesLess o p)) (R (.returned (I 24)) a) (R (.returned (I 0)) a)) (R (.returned (I 0)) a)))))→g c a)→(∃ q,e.cell? (b.add 0)=some (S q)∧Calls prog 242 ⟨[S q]⟩ e fun C i =>
 ∃ r,C=.returned (B r)∧br (!r) (g true i) (∃ s,i.cell? (b.add 1)=some (S s)∧Calls prog 242 ⟨[S s]⟩ i fun D E =>
 ∃ t,D=.returned (B t)∧(g (!t) E))))))→A d e)→(∃ u,f.cell? (b.add 0)=some (S u)∧br (decide ((64:Int) < ((List.length u:Int)))) (A true f) (∃ v,f.cell? (b.add 1)=some (S v)∧(A (decide ((64:Int) < ((List.length v:Int)))) f))))))→z h f)→(∃ x,j.cell? (b.add 0)=some (S x)∧br (decide (x=([]))) (z true j) (∃ y,j.cell? (b.add 1)=some (S y)∧(z (decide (y=([]))) j)))
theorem qwj {a b R w} (h:qso a b R w):Calls prog qjx ⟨[.agg ⟨[S a,S b]⟩]⟩ w R:=qb Tryz.func222 (Eq.mpr (by kernel_rfl:fnV _ _ quf _ _ _=_) h)
def qpa:Ann:=T F (T F (T F (T F F)))
def qoi (c:Fn) (a:Array Value) (b:Array Value) (l:Option Addr) (m:Option Addr) (R:Ending→World→Prop) (w:World):Prop :=
 al w 287 [.func c a b] fun A n =>
 dr l fun q =>
 ∃ y,n.cell? (q.add 0)=some (S y)∧(∃ z,n.cell? (q.add 1)=some (I z)∧al n 268 [I 0,.int .u8 0,I 0,S [],I 0,B false,S []] fun r s =>
 stL s r 0 [I 0,.int .u8 0,I 0,S y,I z,B false,S []] fun t =>
 al t 288 [.nilFunc] fun d u =>
 stL u d 0 [.func (.func 224) ⟨[]⟩ ⟨[.pointer (some r),.pointer (some A),.pointer (some d)]⟩] fun e =>
 ∃ j f g,e.cell? d=some (.func j f g)∧dr m fun p =>
 ∃ k i h,e.cell? p=some (L k i h)∧CallV prog (.func j f g) [L k i h] e fun o v =>
 ∃ x,o=.returned (B x)∧R (.returned (.tuple ⟨[]⟩)) v)
theorem qq5 {c a b d e R w} (h:qoi c a b d e R w):Calls prog qb9 ⟨[.func c a b,.pointer d,.pointer e]⟩ w R:=qb Tryz.func223 (Eq.mpr (by kernel_rfl:fnV _ _ qpa _ _ _=_) h)
def qly:Ann:=T F (T (T F (.one (.loop 9903520314283042199192987552 [(13,.one (.int .i64))] (T F (T (T F F) (T (.one (T F (.cut 8257536 [] F (T F (.one (T F (T F (T F (T F (T F (T (T F (.one (.loop 19340451930592631972692256 [(71,.one (.int .i64))] (T F (T (T F F) (T (.one (T F (T F (T F (T (T F F) F))))) F)))))) (.cut 290142196707511001929482240 [(84,.one (.bool))] (T F (T F (T F (T F F)))) (T (T F (T (T F F) F)) (T F (.cut 17112760320 [] F (.cut 1082331758592 [] (T F (T F F)) (T F (T F (T F (T (T F F) F)))))))))))))))))))) F)))))) (T F F))
def qln (i5:Option Addr) (H:Nat) (k3:Nat) (a:Option Addr) (Q:Option Addr) (h1:Option Addr) (R:Ending→World→Prop) (w:World):Prop :=
 ∃ (n:Int→World→Nat→Prop),(∃ k4,n 0 w k4)∧∀ c t p,n c t p→∀ _:Env,(br (decide ((c:Int) < ((H:Int)))) (idx i5 H c 4 fun x =>
 ∃ c5,t.cell? (x.add 0)=some (I c5)∧∃ c6,t.cell? (x.add 1)=some (S c6)∧∃ c7,t.cell? (x.add 2)=some (I c7)∧∃ c8 a7 a6,t.cell? (x.add 3)=some (L c8 a7 a6)∧al t 226 [I 0,S [],I 0,L none 0 0] fun d j6 =>
 stL j6 d 0 [I c5,S c6,I c7,L c8 a7 a6] fun j7 =>
 ∀ (u:World→Prop),(∀  (e:World),(∀ _:Env,(∃ h,e.cell? (d.add 0)=some (I h)∧br (decide (h=2)) (dr a fun i7 =>
 ∃ c9,e.cell? ((i7.add 3).add 1)=some (I c9)∧dr a fun i8 =>
 stL e ((i8.add 3).add 1) 0 [.int .i64 (i64.wrap (c9 + 1))] fun j8 =>
 ∃ b6,b6 < p∧n (i64.wrap (c + 1)) j8 b6) (br (decide (h=3)) (∃ d0,e.cell? (d.add 1)=some (S d0)∧dr a fun i9 =>
 stL e (i9.add 3) 0 [S d0,I 0] fun j9 =>
 ∃ b7,b7 < p∧n (i64.wrap (c + 1)) j9 b7) (br (decide (h=1)) (∃ d1,e.cell? (d.add 1)=some (S d1)∧∃ (E:Int→World→Nat→Prop),(∃ i6,E 0 e i6)∧∀ f y b8,E f y b8→∀ _:Env,(br (decide ((f:Int) < ((List.length d1:Int)))) (∃ d2,y.cell? (d.add 1)=some (S d2)∧(sidx d2 f fun i1 =>
 dr a fun j0 =>
 stL y (j0.add 1) 0 [.int .u8 ((i1.toNat:Int))] fun g =>
 dr Q fun j1 =>
 ∃ d3 a8 a9,g.cell? j1=some (.func d3 a8 a9)∧dr a fun j =>
 ∃ d4,g.cell? (j.add 0)=some (I d4)∧∃ d5,g.cell? (j.add 1)=some (.int .u8 d5)∧∃ d6,g.cell? (j.add 2)=some (I d6)∧∃ d7,g.cell? (j.add 3)=some (S d7)∧∃ d8,g.cell? (j.add 4)=some (I d8)∧∃ d9,g.cell? (j.add 5)=some (B d9)∧∃ e0,g.cell? (j.add 6)=some (S e0)∧CallV prog (.func d3 a8 a9) [.agg ⟨[I d4,.int .u8 d5,I d6,S d7,I d8,B d9,S e0]⟩] g fun i2 c2 =>
 ∃ e1,i2=.returned (B e1)∧br (!e1) (R (.returned (B false)) c2) (∃ b9,b9 < b8∧E (i64.wrap (f + 1)) c2 b9))) (∃ c0,c0 < p∧n (i64.wrap (c + 1)) y c0))) (∀ (v:Bool→World→Prop),(∀ (r:Bool) (b:World),(∀ _:Env,(br r (dr Q fun j2 =>
 ∃ e2 b0 b1,b.cell? j2=some (.func e2 b0 b1)∧dr a fun k =>
 ∃ e3,b.cell? (k.add 0)=some (I e3)∧∃ e4,b.cell? (k.add 1)=some (.int .u8 e4)∧∃ e5,b.cell? (k.add 2)=some (I e5)∧∃ e6,b.cell? (k.add 3)=some (S e6)∧∃ e7,b.cell? (k.add 4)=some (I e7)∧∃ e8,b.cell? (k.add 5)=some (B e8)∧∃ e9,b.cell? (k.add 6)=some (S e9)∧CallV prog (.func e2 b0 b1) [.agg ⟨[I e3,.int .u8 e4,I e5,S e6,I e7,B e8,S e9]⟩] b fun i3 c3 =>
 ∃ f0,i3=.returned (B f0)∧br (!f0) (R (.returned (B false)) c3) (∃ c1,c1 < p∧n (i64.wrap (c + 1)) c3 c1)) (dr a fun l =>
 ∃ f1,b.cell? (l.add 0)=some (I f1)∧∃ f2,b.cell? (l.add 1)=some (.int .u8 f2)∧∃ f3,b.cell? (l.add 2)=some (I f3)∧∃ f4,b.cell? (l.add 3)=some (S f4)∧∃ f5,b.cell? (l.add 4)=some (I f5)∧∃ f6,b.cell? (l.add 5)=some (B f6)∧∃ f7,b.cell? (l.add 6)=some (S f7)∧al b 268 [I 0,.int .u8 0,I 0,S [],I 0,B false,S []] fun q k0 =>
 stL k0 q 0 [I f1,.int .u8 f2,I f3,S f4,I f5,B f6,S f7] fun z =>
 ∀ (F:World→Prop),(∀  (s:World),(∀ _:Env,(∀ (G:World→Prop),(∀  (A:World),(∀ _:Env,(dr h1 fun j3 =>
 ∃ f8 b2 b3,A.cell? j3=some (.func f8 b2 b3)∧∃ f9 b5 b4,A.cell? (d.add 3)=some (L f9 b5 b4)∧CallV prog (.func f8 b2 b3) [L f9 b5 b4] A fun i4 k1 =>
 ∃ C,i4=.returned (B C)∧drw k1 fun m =>
 ∃ D,m.cell? (q.add 5)=some (B D)∧((∃ g0,m.cell? (q.add 6)=some (S g0)∧dr a fun j4 =>
 (stL m (j4.add 5) 0 [B D] fun k2 =>
 dr a fun j5 =>
 (stL k2 (j5.add 6) 0 [S g0] fun c4 =>
 br (!C) (R (.returned (B false)) c4) (∃ J,J < p∧n (i64.wrap (c + 1)) c4 J))∧True)∧True)∧(dr a fun N =>
 (∃ X,m.cell? (q.add 6)=some (S X)∧((stL m (N.add 5) 0 [B D] fun h2 =>
 dr a fun g1 =>
 (stL h2 (g1.add 6) 0 [S X] fun T =>
 br (!C) (R (.returned (B false)) T) (∃ K,K < p∧n (i64.wrap (c + 1)) T K))∧True)∧True))∧(stL m (N.add 5) 0 [B D] fun U =>
 ∃ Y,U.cell? (q.add 6)=some (S Y)∧dr a fun g2 =>
 (stL U (g2.add 6) 0 [S Y] fun V =>
 br (!C) (R (.returned (B false)) V) (∃ M,M < p∧n (i64.wrap (c + 1)) V M))∧True)∧True)∧True)))→G A)→(∃ Z,s.cell? (d.add 0)=some (I Z)∧br (decide (Z=11)) (∃ a0,s.cell? (d.add 1)=some (S a0)∧dr a fun g3 =>
 stL s (g3.add 6) 0 [S a0] fun h3 =>
 G h3) (G s))))→F s)→(dr a fun g4 =>
 ∃ a1,z.cell? (g4.add 5)=some (B a1)∧br a1 (dr a fun g5 =>
 stL z (g5.add 5) 0 [B true] fun h4 =>
 F h4) (∃ a2,z.cell? (d.add 0)=some (I a2)∧dr a fun g6 =>
 stL z (g6.add 5) 0 [.bool (decide (a2=7))] fun h5 =>
 F h5)))))→v r b)→(br (decide (h=6)) (v (decide (h=6)) e) (br (decide (h=5)) (v (decide (h=5)) e) (v (decide (h=4)) e))))))))→u e)→(drw j7 fun i =>
 ∃ o,i.cell? (d.add 0)=some (I o)∧((∃ a3,i.cell? (d.add 2)=some (I a3)∧dr a fun g7 =>
 (stL i (g7.add 0) 0 [I o] fun h6 =>
 dr a fun g8 =>
 (stL h6 (g8.add 2) 0 [I a3] fun h7 =>
 u h7)∧True)∧True)∧(dr a fun O =>
 (∃ a4,i.cell? (d.add 2)=some (I a4)∧((stL i (O.add 0) 0 [I o] fun h8 =>
 dr a fun g9 =>
 (stL h8 (g9.add 2) 0 [I a4] fun h9 =>
 u h9)∧True)∧True))∧(stL i (O.add 0) 0 [I o] fun W =>
 ∃ a5,W.cell? (d.add 2)=some (I a5)∧dr a fun h0 =>
 (stL W (h0.add 2) 0 [I a5] fun i0 =>
 u i0)∧True)∧True)∧True))) (R (.returned (B true)) t))
theorem qna {f b a c d e R w} (h:qln f b a c d e R w):Calls prog qf8 ⟨[L f b a,.pointer c,.pointer d,.pointer e]⟩ w R:=qb Tryz.func224 (Eq.mpr (by kernel_rfl:fnV _ _ qly _ _ _=_) h)
def qiv:Ann:=T F (T F (.cut 112 [(4,.one (.int .i64))] (T F (T F F)) (.one (.cut 4290772992 [(22,.one (.bool))] F (T (T F F) (T F (T (T F (T F F)) (T F (T (T F F) (T F (T F F)))))))))))
def qil (a:Option Addr) (g5:Int) (g6:Int) (g7:Int) (g8:List UInt8) (g9:Int) (h0:Bool) (h1:List UInt8) (R:Ending→World→Prop) (w:World):Prop :=
 al w 268 [I g5,.int .u8 g6,I g7,S g8,I g9,B h0,S h1] fun b l =>
 ∀ (j:Int→World→Prop),(∀ (c:Int) (g:World),(∀ _:Env,(∀ (k:Bool→World→Prop),(∀ (f:Bool) (i:World),(∀ _:Env,(br f (Calls prog 227 ⟨[.pointer a]⟩ i fun c4 y =>
 ∃ u,c4=.returned (.pointer u)∧dr u fun d6 =>
 ∃ J,y.cell? (d6.add 4)=some (I J)∧dr u fun d7 =>
 stL y (d7.add 4) 0 [.int .i64 (bitO .i64 J c)] fun f1 =>
 drw f1 fun z =>
 dr a fun d8 =>
 ∃ K,z.cell? (b.add 1)=some (.int .u8 K)∧((Calls prog 88 ⟨[.pointer (some (d8.add 1)),.int .u8 K]⟩ z fun c5 f2 =>
 ∃ g3,c5=.returned (g3)∧R (.returned (.tuple ⟨[]⟩)) f2)∧True)) (∃ L,i.cell? (b.add 1)=some (.int .u8 L)∧Calls prog 237 ⟨[.int .u8 L]⟩ i fun c6 d =>
 ∃ M,c6=.returned (B M)∧br M (∃ N,d.cell? (b.add 0)=some (I N)∧∃ O,d.cell? (b.add 1)=some (.int .u8 O)∧∃ Q,d.cell? (b.add 2)=some (I Q)∧∃ T,d.cell? (b.add 3)=some (S T)∧∃ U,d.cell? (b.add 4)=some (I U)∧∃ V,d.cell? (b.add 5)=some (B V)∧∃ W,d.cell? (b.add 6)=some (S W)∧Calls prog 226 ⟨[.pointer a,.agg ⟨[I N,.int .u8 O,I Q,S T,I U,B V,S W]⟩,I c]⟩ d fun c7 f3 =>
 c7=.returned (.tuple ⟨[]⟩)∧dr a fun d9 =>
 stL f3 (d9.add 3) 0 [B true] fun f4 =>
 drw f4 fun A =>
 dr a fun e0 =>
 ∃ X,A.cell? (b.add 1)=some (.int .u8 X)∧((Calls prog 88 ⟨[.pointer (some (e0.add 1)),.int .u8 X]⟩ A fun c8 f5 =>
 ∃ g4,c8=.returned (g4)∧R (.returned (.tuple ⟨[]⟩)) f5)∧True)) (∃ Y,d.cell? (b.add 1)=some (.int .u8 Y)∧Calls prog 91 ⟨[.int .u8 Y]⟩ d fun c9 C =>
 ∃ Z,c9=.returned (I Z)∧br (decide (Z=6)) (Calls prog 202 ⟨[.pointer a]⟩ C fun d0 f6 =>
 d0=.returned (.tuple ⟨[]⟩)∧dr a fun e1 =>
 stL f6 (e1.add 4) 0 [B false] fun f7 =>
 R (.returned (.tuple ⟨[]⟩)) f7) (Calls prog 202 ⟨[.pointer a]⟩ C fun d1 e =>
 d1=.returned (.tuple ⟨[]⟩)∧∃ a0,e.cell? (b.add 0)=some (I a0)∧∃ a1,e.cell? (b.add 1)=some (.int .u8 a1)∧∃ a2,e.cell? (b.add 2)=some (I a2)∧∃ a3,e.cell? (b.add 3)=some (S a3)∧∃ a4,e.cell? (b.add 4)=some (I a4)∧∃ a5,e.cell? (b.add 5)=some (B a5)∧∃ a6,e.cell? (b.add 6)=some (S a6)∧Calls prog 226 ⟨[.pointer a,.agg ⟨[I a0,.int .u8 a1,I a2,S a3,I a4,B a5,S a6]⟩,.int .i64 (bitO .i64 c 8)]⟩ e fun d2 f8 =>
 d2=.returned (.tuple ⟨[]⟩)∧drw f8 fun h =>
 (Calls prog 227 ⟨[.pointer a]⟩ h fun d3 D =>
 ∃ a7,d3=.returned (.pointer a7)∧∃ a8,D.cell? (b.add 1)=some (.int .u8 a8)∧((al D 5 [.int .u8 a8] fun e2 E =>
 (b2s prog E (some e2) 1 1 fun e8 =>
 dr a7 fun e3 =>
 (stL E (e3.add 0) 0 [S e8] fun f9 =>
 R (.returned (.tuple ⟨[]⟩)) f9)∧True)∧True)∧True))∧((Calls prog 227 ⟨[.pointer a]⟩ h fun d4 F =>
 ∃ a9,d4=.returned (.pointer a9)∧∃ b0,F.cell? (b.add 1)=some (.int .u8 b0)∧((al F 5 [.int .u8 b0] fun e4 G =>
 (b2s prog G (some e4) 1 1 fun e9 =>
 dr a9 fun e5 =>
 (stL G (e5.add 0) 0 [S e9] fun g0 =>
 R (.returned (.tuple ⟨[]⟩)) g0)∧True)∧True)∧True))∧(∃ v,h.cell? (b.add 1)=some (.int .u8 v)∧((Calls prog 227 ⟨[.pointer a]⟩ h fun d5 g1 =>
 ∃ b1,d5=.returned (.pointer b1)∧((al g1 5 [.int .u8 v] fun e6 H =>
 (b2s prog H (some e6) 1 1 fun f0 =>
 dr b1 fun e7 =>
 (stL H (e7.add 0) 0 [S f0] fun g2 =>
 R (.returned (.tuple ⟨[]⟩)) g2)∧True)∧True)∧True))∧(al h 5 [.int .u8 v] fun x n =>
 (Calls prog 227 ⟨[.pointer a]⟩ n fun b2 m =>
 ∃ o,b2=.returned (.pointer o)∧((b2s prog m (some x) 1 1 fun b8 =>
 dr o fun b5 =>
 (stL m (b5.add 0) 0 [S b8] fun c0 =>
 R (.returned (.tuple ⟨[]⟩)) c0)∧True)∧True))∧(b2s prog n (some x) 1 1 fun b9 =>
 (Calls prog 227 ⟨[.pointer a]⟩ n fun b3 c1 =>
 ∃ p,b3=.returned (.pointer p)∧dr p fun b6 =>
 (stL c1 (b6.add 0) 0 [S b9] fun c2 =>
 R (.returned (.tuple ⟨[]⟩)) c2)∧True)∧True)∧True)∧True))∧True)∧True)))))→k f i)→(dr a fun b7 =>
 ∃ q,g.cell? (b7.add 3)=some (B q)∧br q (∃ r,g.cell? (b.add 1)=some (.int .u8 r)∧Calls prog 214 ⟨[.int .u8 r]⟩ g fun b4 c3 =>
 ∃ s,b4=.returned (B s)∧(k s c3)) (k false g))))→j c g)→(∃ t,l.cell? (b.add 5)=some (B t)∧br t (j 1 l) (j 0 l))
theorem qjc {a b c d e f g i R w} (h:qil a b c d e f g i R w):Calls prog qdv ⟨[.pointer a,.agg ⟨[I b,.int .u8 c,I d,S e,I f,B g,S i]⟩]⟩ w R:=qb Tryz.func225 (Eq.mpr (by kernel_rfl:fnV _ _ qiv _ _ _=_) h)
def qht:Ann:=T F (.cut 1048516 [(2,.one (.int .i64))] (T F (T F F)) (.cut 66060292 [(2,.one (.int .i64))] (T F (T F F)) (T F F)))
def qhm (c:Option Addr) (T:Int) (U:Int) (V:Int) (W:List UInt8) (X:Int) (Y:Bool) (Z:List UInt8) (b:Int) (R:Ending→World→Prop) (w:World):Prop :=
 al w 268 [I T,.int .u8 U,I V,S W,I X,B Y,S Z] fun j e =>
 ∀ (g:Int→World→Prop),(∀ (a:Int) (h:World),(∀ _:Env,(∀ (i:Int→World→Prop),(∀ (d:Int) (n:World),(∀ _:Env,(drw n fun f =>
 dr c fun z =>
 ∃ o l k,f.cell? (z.add 0)=some (L o l k)∧∃ p,f.cell? ((j.add 3).add 0)=some (S p)∧∃ q,f.cell? ((j.add 3).add 1)=some (I q)∧∃ r,f.cell? (j.add 6)=some (S r)∧((al f 117 [S [],S [],S p,I q,I d,S r] fun A J =>
 (app prog [112,112] 112 (L o l k) (.slice (some A) 1 1) J fun y v u K =>
 dr c fun C =>
 (stL K (C.add 0) 0 [L y v u] fun M =>
 dr c fun D =>
 stL M (D.add 4) 0 [B true] fun N =>
 dr c fun E =>
 stL N (E.add 5) 0 [B false] fun O =>
 R (.returned (.tuple ⟨[]⟩)) O)∧True)∧True)∧True)))→i d n)→(dr c fun F =>
 ∃ s,h.cell? (F.add 5)=some (B s)∧br s (i (bitO .i64 a 4) h) (i a h))))→g a h)→(dr c fun G =>
 ∃ t,e.cell? (G.add 4)=some (B t)∧br t (dr c fun H =>
 ∃ Q m x,e.cell? (H.add 0)=some (L Q m x)∧br (decide ((0:Int) < (m))) (g (bitO .i64 b 16) e) (g b e)) (g b e))
theorem qip {b c d e f g i j a R w} (h:qhm b c d e f g i j a R w):Calls prog qdc ⟨[.pointer b,.agg ⟨[I c,.int .u8 d,I e,S f,I g,B i,S j]⟩,I a]⟩ w R:=qb Tryz.func226 (Eq.mpr (by kernel_rfl:fnV _ _ qht _ _ _=_) h)
def qiw:Ann:=T F (T F F)
def qc7 (a:Option Addr) (R:Ending→World→Prop) (w:World):Prop :=
 drw w fun d =>
 dr a fun h =>
 ∃ e b f,d.cell? (h.add 0)=some (L e b f)∧(dr a fun i =>
 ∃ k c g,d.cell? (i.add 0)=some (L k c g)∧idx e b (i64.wrap ((c) - 1)) 6 fun j =>
 R (.returned (.pointer (some j))) d)
theorem qjd {a R w} (h:qc7 a R w):Calls prog qdw ⟨[.pointer a]⟩ w R:=qb Tryz.func227 (Eq.mpr (by kernel_rfl:fnV _ _ qiw _ _ _=_) h)
def qji:Ann:=T F F
def qi4 (a:Option Addr) (R:Ending→World→Prop) (w:World):Prop :=
 dr a fun b =>
 stL w (b.add 0) 0 [.pointer none] fun d =>
 dr a fun c =>
 stL d (c.add 1) 0 [L none 0 0] fun e =>
 R (.returned (.tuple ⟨[]⟩)) e
theorem qkw {a R w} (h:qi4 a R w):Calls prog qen ⟨[.pointer a]⟩ w R:=qb Tryz.func228 (Eq.mpr (by kernel_rfl:fnV _ _ qji _ _ _=_) h)
def ql0:Ann:=T F (T F (T (T F (T (T F F) F)) (T F F)))
def qlp (c:Option Addr) (b:Nat) (a:Nat) (g:List UInt8) (R:Ending→World→Prop) (w:World):Prop :=
 Calls prog 243 ⟨[L c b a,S g]⟩ w fun k e =>
 ∃ h d i f,k=.returned (.tuple ⟨[L h d i,I f]⟩)∧(br (decide (f≠0)) (R (.returned (.tuple ⟨[S [],I f]⟩)) e) (idx h d (i64.wrap ((d) - 1)) 1 fun l =>
 ∃ j,e.cell? l=some (S j)∧R (.returned (.tuple ⟨[S j,I 0]⟩)) e))
theorem qnc {c b a d R w} (h:qlp c b a d R w):Calls prog qga ⟨[L c b a,S d]⟩ w R:=qb Tryz.func229 (Eq.mpr (by kernel_rfl:fnV _ _ ql0 _ _ _=_) h)
def qro:Ann:=T F (T F (T F F))
def qp9 (b:Int) (R:Ending→World→Prop) (w:World):Prop :=
 Calls prog 91 ⟨[.int .u8 b]⟩ w fun d c =>
 ∃ a,d=.returned (I a)∧(br (decide (a=1)) (R (.returned (B true)) c) (R (.returned (.bool (decide (a=3)))) c))
theorem qtp {a R w} (h:qp9 a R w):Calls prog qib ⟨[.int .u8 a]⟩ w R:=qb Tryz.func237 (Eq.mpr (by kernel_rfl:fnV _ _ qro _ _ _=_) h)
def qlw:Ann:=T F (T F (T F F))
def qll (c:Fn) (a:Array Value) (b:Array Value) (j:Option Addr) (R:Ending→World→Prop) (w:World):Prop :=
 al w 302 [.func c a b] fun p r =>
 al r 303 [.nilFunc] fun i s =>
 stL s i 0 [.func (.func 239) ⟨[]⟩ ⟨[.pointer (some p),.pointer (some i)]⟩] fun k =>
 ∃ o g h,k.cell? i=some (.func o g h)∧(dr j fun q =>
 ∃ f e d,k.cell? q=some (L f e d)∧CallV prog (.func o g h) [L f e d,I 0] k fun l m =>
 ∃ n,l=.returned (B n)∧R (.returned (.tuple ⟨[]⟩)) m)
theorem qfy {c a b d R w} (h:qll c a b d R w):Calls prog qt ⟨[.func c a b,.pointer d]⟩ w R:=qb Tryz.func238 (Eq.mpr (by kernel_rfl:fnV _ _ qlw _ _ _=_) h)
def qjf:Ann:=T F (T F (T (T F (.one (.loop 1099511624384 [(7,.one (.bool)),(12,.one (.int .i64))] (T F (T (T F F) (T (.one (T F (T (T F (T (T F F) F)) F))) F)))))) (T F F)))
def qi1 (Y:Option Addr) (i:Nat) (a3:Nat) (b:Int) (U:Option Addr) (V:Option Addr) (R:Ending→World→Prop) (w:World):Prop :=
 ∃ (u:Bool→Int→World→Nat→Prop),(∃ Z,u false 0 w Z)∧∀ f a g T,u f a g T→∀ _:Env,(br (decide ((a:Int) < ((i:Int)))) (idx Y i a 4 fun h =>
 ∃ y,g.cell? (h.add 0)=some (I y)∧∃ z,g.cell? (h.add 1)=some (S z)∧∃ A,g.cell? (h.add 2)=some (I A)∧∃ C l k,g.cell? (h.add 3)=some (L C l k)∧al g 226 [I 0,S [],I 0,L none 0 0] fun c a2 =>
 stL a2 c 0 [I y,S z,I A,L C l k] fun d =>
 dr U fun a0 =>
 ∃ D m n,d.cell? a0=some (.func D m n)∧∃ E,d.cell? (c.add 0)=some (I E)∧∃ F,d.cell? (c.add 1)=some (S F)∧∃ G,d.cell? (c.add 2)=some (I G)∧∃ H p o,d.cell? (c.add 3)=some (L H p o)∧CallV prog (.func D m n) [.agg ⟨[I E,S F,I G,L H p o,I b,B f]⟩] d fun W e =>
 ∃ J,W=.returned (B J)∧br (!J) (R (.returned (B false)) e) (br (decide ((b:Int)≤16)) (dr V fun a1 =>
 ∃ K q r,e.cell? a1=some (.func K q r)∧∃ M t s,e.cell? (c.add 3)=some (L M t s)∧CallV prog (.func K q r) [L M t s,.int .i64 (i64.wrap (b + 1))] e fun X j =>
 ∃ N,X=.returned (B N)∧br (!N) (R (.returned (B false)) j) (∃ O,j.cell? (c.add 0)=some (I O)∧∃ v,v < T∧u (decide (O=1)) (i64.wrap (a + 1)) j v)) (∃ Q,e.cell? (c.add 0)=some (I Q)∧∃ x,x < T∧u (decide (Q=1)) (i64.wrap (a + 1)) e x))) (R (.returned (B true)) g))
theorem qee {f c b a d e R w} (h:qi1 f c b a d e R w):Calls prog qb8 ⟨[L f c b,I a,.pointer d,.pointer e]⟩ w R:=qb Tryz.func239 (Eq.mpr (by kernel_rfl:fnV _ _ qjf _ _ _=_) h)
def qlx:Ann:=T F (.one (.loop 9007199254740576 [(9,.one (.int .i64))] (T F (T (T F F) (T (.one (T F (T F (.one (T F (T F (T F (T (.cut 8761733283840 [] F (T F F)) F)))))))) F)))))
def qlm (h0:Option Addr) (x:Nat) (k4:Nat) (d:Option Addr) (e9:Option Addr) (R:Ending→World→Prop) (w:World):Prop :=
 ∃ (k:Int→World→Nat→Prop),(∃ k5,k 0 w k5)∧∀ e l v,k e l v→∀ _:Env,(br (decide ((e:Int) < ((x:Int)))) (idx h0 x e 4 fun a1 =>
 ∃ a6,l.cell? (a1.add 0)=some (I a6)∧∃ a7,l.cell? (a1.add 1)=some (S a7)∧∃ a8,l.cell? (a1.add 2)=some (I a8)∧∃ a9 K J,l.cell? (a1.add 3)=some (L a9 K J)∧al l 226 [I 0,S [],I 0,L none 0 0] fun a i4 =>
 stL i4 a 0 [I a6,S a7,I a8,L a9 K J] fun g =>
 ∃ b0,g.cell? (a.add 0)=some (I b0)∧idx (some (⟨3,0,none⟩)) 12 b0 4 fun t =>
 ∃ b1,g.cell? (t.add 0)=some (S b1)∧∃ b2,g.cell? (t.add 1)=some (B b2)∧∃ b3,g.cell? (t.add 2)=some (B b3)∧∃ b4,g.cell? (t.add 3)=some (B b4)∧al g 305 [S [],B false,B false,B false] fun f i5 =>
 stL i5 f 0 [S b1,B b2,B b3,B b4] fun h =>
 ∃ b5,h.cell? (a.add 0)=some (I b5)∧br (decide (b5=1)) (∃ b6,h.cell? (a.add 1)=some (S b6)∧Calls prog 87 ⟨[.pointer d,S b6]⟩ h fun g0 i6 =>
 ∃ j4 j5,g0=.returned (.tuple ⟨[I j4,j5]⟩)∧∃ a2,a2 < v∧k (i64.wrap (e + 1)) i6 a2) (∃ b7,h.cell? (f.add 3)=some (B b7)∧br b7 (∀ (s:World→Prop),(∀  (u:World),(∀ _:Env,(dr e9 fun h1 =>
 ∃ b8 M N,u.cell? h1=some (.func b8 M N)∧∃ b9 Q O,u.cell? (a.add 3)=some (L b9 Q O)∧CallV prog (.func b8 M N) [L b9 Q O] u fun g1 a4 =>
 g1=.returned (.tuple ⟨[]⟩)∧∃ c0,a4.cell? (f.add 0)=some (S c0)∧(sadd ([60,47]) c0 fun h2 =>
 sadd h2 ([62]) fun h3 =>
 Calls prog 87 ⟨[.pointer d,S h3]⟩ a4 fun g2 i7 =>
 ∃ j6 j7,g2=.returned (.tuple ⟨[I j6,j7]⟩)∧∃ a3,a3 < v∧k (i64.wrap (e + 1)) i7 a3)))→s u)→(drw h fun b =>
 (∃ c1,b.cell? (f.add 0)=some (S c1)∧(sadd ([60]) c1 fun h4 =>
 ∃ c2,b.cell? (a.add 0)=some (I c2)∧∃ c3,b.cell? (a.add 1)=some (S c3)∧∃ c4,b.cell? (a.add 2)=some (I c4)∧∃ c5 U T,b.cell? (a.add 3)=some (L c5 U T)∧((Calls prog 241 ⟨[.agg ⟨[I c2,S c3,I c4,L c5 U T]⟩]⟩ b fun g3 i8 =>
 ∃ c6,g3=.returned (S c6)∧(sadd h4 c6 fun h5 =>
 sadd h5 ([62]) fun h6 =>
 (Calls prog 87 ⟨[.pointer d,S h6]⟩ i8 fun g4 i9 =>
 ∃ j8 j9,g4=.returned (.tuple ⟨[I j8,j9]⟩)∧(s i9))∧True))∧True)))∧(∃ V,b.cell? (a.add 0)=some (I V)∧∃ W,b.cell? (a.add 1)=some (S W)∧∃ X,b.cell? (a.add 2)=some (I X)∧∃ Y r q,b.cell? (a.add 3)=some (L Y r q)∧((∃ c7,b.cell? (f.add 0)=some (S c7)∧(sadd ([60]) c7 fun h7 =>
 (Calls prog 241 ⟨[.agg ⟨[I V,S W,I X,L Y r q]⟩]⟩ b fun g5 j0 =>
 ∃ c8,g5=.returned (S c8)∧(sadd h7 c8 fun h8 =>
 sadd h8 ([62]) fun h9 =>
 (Calls prog 87 ⟨[.pointer d,S h9]⟩ j0 fun g6 j1 =>
 ∃ k0 k1,g6=.returned (.tuple ⟨[I k0,k1]⟩)∧(s j1))∧True))∧True))∧(Calls prog 241 ⟨[.agg ⟨[I V,S W,I X,L Y r q]⟩]⟩ b fun g7 a5 =>
 ∃ c9,g7=.returned (S c9)∧∃ d0,a5.cell? (f.add 0)=some (S d0)∧(sadd ([60]) d0 fun i0 =>
 sadd i0 c9 fun i1 =>
 sadd i1 ([62]) fun i2 =>
 (Calls prog 87 ⟨[.pointer d,S i2]⟩ a5 fun g8 j2 =>
 ∃ k2 k3,g8=.returned (.tuple ⟨[I k2,k3]⟩)∧(s j2))∧True))∧True))∧True)) (drw h fun c =>
 (∃ d1,c.cell? (f.add 0)=some (S d1)∧(sadd ([60]) d1 fun i3 =>
 ∃ d2,c.cell? (a.add 0)=some (I d2)∧∃ d3,c.cell? (a.add 1)=some (S d3)∧∃ d4,c.cell? (a.add 2)=some (I d4)∧∃ d5 a0 Z,c.cell? (a.add 3)=some (L d5 a0 Z)∧((Calls prog 241 ⟨[.agg ⟨[I d2,S d3,I d4,L d5 a0 Z]⟩]⟩ c fun g9 j3 =>
 ∃ D,g9=.returned (S D)∧(sadd i3 D fun e1 =>
 sadd e1 ([47,62]) fun e2 =>
 (Calls prog 87 ⟨[.pointer d,S e2]⟩ j3 fun d6 f0 =>
 ∃ f4 f5,d6=.returned (.tuple ⟨[I f4,f5]⟩)∧∃ y,y < v∧k (i64.wrap (e + 1)) f0 y)∧True))∧True)))∧(∃ m,c.cell? (a.add 0)=some (I m)∧∃ n,c.cell? (a.add 1)=some (S n)∧∃ o,c.cell? (a.add 2)=some (I o)∧∃ p j i,c.cell? (a.add 3)=some (L p j i)∧((∃ E,c.cell? (f.add 0)=some (S E)∧(sadd ([60]) E fun e3 =>
 (Calls prog 241 ⟨[.agg ⟨[I m,S n,I o,L p j i]⟩]⟩ c fun d7 f1 =>
 ∃ F,d7=.returned (S F)∧(sadd e3 F fun e4 =>
 sadd e4 ([47,62]) fun e5 =>
 (Calls prog 87 ⟨[.pointer d,S e5]⟩ f1 fun d8 f2 =>
 ∃ f6 f7,d8=.returned (.tuple ⟨[I f6,f7]⟩)∧∃ z,z < v∧k (i64.wrap (e + 1)) f2 z)∧True))∧True))∧(Calls prog 241 ⟨[.agg ⟨[I m,S n,I o,L p j i]⟩]⟩ c fun d9 C =>
 ∃ G,d9=.returned (S G)∧∃ H,C.cell? (f.add 0)=some (S H)∧(sadd ([60]) H fun e6 =>
 sadd e6 G fun e7 =>
 sadd e7 ([47,62]) fun e8 =>
 (Calls prog 87 ⟨[.pointer d,S e8]⟩ C fun e0 f3 =>
 ∃ f8 f9,e0=.returned (.tuple ⟨[I f8,f9]⟩)∧∃ A,A < v∧k (i64.wrap (e + 1)) f3 A)∧True))∧True))∧True))) (R (.returned (.tuple ⟨[]⟩)) l))
theorem qm9 {e b a c d R w} (h:qlm e b a c d R w):Calls prog qf7 ⟨[L e b a,.pointer c,.pointer d]⟩ w R:=qb Tryz.func240 (Eq.mpr (by kernel_rfl:fnV _ _ qlx _ _ _=_) h)
def qrj:Ann:=T F (T F (T (.one (T F (T (T F F) (T F (T (T F F) F))))) (T F F)))
def qp4 (x:Int) (y:List UInt8) (z:Int) (A:Option Addr) (o:Nat) (n:Nat) (R:Ending→World→Prop) (w:World):Prop :=
 al w 226 [I x,S y,I z,L A o n] fun m b =>
 ∃ u,b.cell? (m.add 0)=some (I u)∧(idx (some (⟨3,0,none⟩)) 12 u 4 fun d =>
 ∃ v,b.cell? (d.add 0)=some (S v)∧∃ e,b.cell? (d.add 1)=some (B e)∧∃ f,b.cell? (d.add 2)=some (B f)∧∃ g,b.cell? (d.add 3)=some (B g)∧al b 305 [S [],B false,B false,B false] fun c s =>
 stL s c 0 [S v,B e,B f,B g] fun a =>
 ∃ h,a.cell? (c.add 1)=some (B h)∧br h (∃ i,a.cell? (m.add 1)=some (S i)∧(sadd ([32]) i fun q =>
 R (.returned (S q)) a)) (∃ j,a.cell? (c.add 2)=some (B j)∧br j (∃ k,a.cell? (m.add 2)=some (I k)∧Calls prog 180 ⟨[I k]⟩ a fun p t =>
 ∃ l,p=.returned (S l)∧(sadd ([32]) l fun r =>
 R (.returned (S r)) t)) (R (.returned (S [])) a)))
theorem qtk {c d e f b a R w} (h:qp4 c d e f b a R w):Calls prog qh6 ⟨[.agg ⟨[I c,S d,I e,L f b a]⟩]⟩ w R:=qb Tryz.func241 (Eq.mpr (by kernel_rfl:fnV _ _ qrj _ _ _=_) h)
def qrq:Ann:=T F (T (T F (.one (.loop 524236 [(6,.one (.int .i64))] (T F (T (T F F) (T (.one (T F (T F (.one (T (T F (T F (T F (T F (T F (T F F)))))) (T F (T F F))))))) F)))))) (T F F))
def qqb (j:List UInt8) (R:Ending→World→Prop) (w:World):Prop :=
 ∃ (d:Int→World→Nat→Prop),(∃ n,d 0 w n)∧∀ a k e,d a k e→∀ _:Env,(br (decide ((a:Int) < ((List.length j:Int)))) (sidx j a fun l =>
 Calls prog 91 ⟨[.int .u8 ((l.toNat:Int))]⟩ k fun m c =>
 ∃ b,m=.returned (I b)∧br (decide (b=1)) (br (decide (b=1)) (∃ f,f < e∧d (i64.wrap (a + 1)) c f) (R (.returned (B false)) c)) (br (decide (b=2)) (br (decide (b=2)) (∃ g,g < e∧d (i64.wrap (a + 1)) c g) (R (.returned (B false)) c)) (br (decide (b=3)) (br (decide (b=3)) (∃ h,h < e∧d (i64.wrap (a + 1)) c h) (R (.returned (B false)) c)) (br (decide (b=4)) (∃ i,i < e∧d (i64.wrap (a + 1)) c i) (R (.returned (B false)) c))))) (R (.returned (B true)) k))
theorem qtr {a R w} (h:qqb a R w):Calls prog qie ⟨[S a]⟩ w R:=qb Tryz.func242 (Eq.mpr (by kernel_rfl:fnV _ _ qrq _ _ _=_) h)
def quh:Ann:=T F (T (T F (T F (T (T F F) F))) (T F F))
def qsq (c:Option Addr) (b:Nat) (a:Nat) (d:List UInt8) (R:Ending→World→Prop) (w:World):Prop :=
 Calls prog 256 ⟨[L c b a,S d]⟩ w fun k h =>
 ∃ g,k=.returned (I g)∧(br (decide (g≠0)) (R (.returned (.tuple ⟨[L none 0 0,I g]⟩)) h) (Calls prog 257 ⟨[L c b a,S d]⟩ h fun l m =>
 ∃ i f e j,l=.returned (.tuple ⟨[L i f e,I j]⟩)∧R (.returned (.tuple ⟨[L i f e,I j]⟩)) m))
theorem qwl {c b a d R w} (h:qsq c b a d R w):Calls prog qw9 ⟨[L c b a,S d]⟩ w R:=qb Tryz.func243 (Eq.mpr (by kernel_rfl:fnV _ _ quh _ _ _=_) h)
def qug:Ann:=T F (T (.one (T F (T (T F F) (T F (T (T F F) (T F (T (T F F) F))))))) (T F F))
def qsp (c:Option Addr) (b:Nat) (a:Nat) (d:List UInt8) (R:Ending→World→Prop) (w:World):Prop :=
 Calls prog 198 ⟨[L c b a]⟩ w fun i e =>
 ∃ g,i=.returned (I g)∧(br (decide (g≠0)) (R (.returned (I 1)) e) (br (decide ((64:Int) < ((List.length d:Int)))) (R (.returned (I 4)) e) (Calls prog 242 ⟨[S d]⟩ e fun j f =>
 ∃ h,j=.returned (B h)∧br (!h) (R (.returned (I 11)) f) (R (.returned (I 0)) f))))
theorem qwk {c b a d R w} (h:qsp c b a d R w):Calls prog qjy ⟨[L c b a,S d]⟩ w R:=qb Tryz.func256 (Eq.mpr (by kernel_rfl:fnV _ _ qug _ _ _=_) h)
def que:Ann:=T F (T F (.one (.loop 4294965744 [(6,.one (.slice))] (.one (T F (T (T F (T (T F F) F)) (T (T F (T (T F F) F)) F)))))))
def qsn (f:Option Addr) (e:Nat) (d:Nat) (x:List UInt8) (R:Ending→World→Prop) (w:World):Prop :=
 al w 9 [S x] fun z A =>
 ∃ (l:Option Addr→Nat→Nat→World→Nat→Prop),(∃ y,l (some z) 1 1 A y)∧∀ b a c o r,l b a c o r→∀ _:Env,(idx b a (i64.wrap (((a:Int)) - 1)) 1 fun s =>
 ∃ i,o.cell? s=some (S i)∧Calls prog 266 ⟨[L f e d,S i]⟩ o fun q g =>
 ∃ j k,q=.returned (.tuple ⟨[S j,B k]⟩)∧br (!k) (R (.returned (.tuple ⟨[L b a c,I 0]⟩)) g) (br (decide ((((a:Int)):Int)=4096)) (R (.returned (.tuple ⟨[L none 0 0,I 4]⟩)) g) (al g 9 [S j] fun t u =>
 app prog [23,23] 23 (L b a c) (.slice (some t) 1 1) u fun p n m v =>
 ∃ h,h < r∧l p n m v h)))
theorem qwi {c b a d R w} (h:qsn c b a d R w):Calls prog qjw ⟨[L c b a,S d]⟩ w R:=qb Tryz.func257 (Eq.mpr (by kernel_rfl:fnV _ _ que _ _ _=_) h)
def qwy:Ann:=T F (T (T F (.one (.rf [1,4,5,9] 0))) (T F F))
def qvn (h:Option Addr) (d:Nat) (c:Nat) (e:List UInt8) (R:Ending→World→Prop) (w:World):Prop :=
 al w 9 [S []] fun f C =>
 al C 4 [B false] fun g D =>
 Calls prog 271 ⟨[L h d c,S e]⟩ D fun A E =>
 ∃ z s t,A=.returned (.func z s t)∧(∀ i:Env,RFw prog none 13 (cdAt Tryz.f266 [1,0,1,2]) (upd (upd (upd (upd i 9 (.func z s t)) 5 (.pointer (some g))) 4 (.pointer (some f))) 1 (S e)) [] E 0 (fun a b =>
 stL b f 0 [S e] fun x =>
 stL x g 0 [B false] fun y =>
 retD a y fun k =>
 ∃ o,k.cell? f=some (S o)∧∃ p,k.cell? g=some (B p)∧R (.returned (.tuple ⟨[S o,B p]⟩)) k) (fun a b =>
 retD a b fun l =>
 ∃ q,l.cell? f=some (S q)∧∃ r,l.cell? g=some (B r)∧R (.returned (.tuple ⟨[S q,B r]⟩)) l) (fun a b =>
 stL b f 0 [S e] fun u =>
 stL u g 0 [B false] fun v =>
 retD a v fun j =>
 ∃ m,j.cell? f=some (S m)∧∃ n,j.cell? g=some (B n)∧R (.returned (.tuple ⟨[S m,B n]⟩)) j))
theorem qya {c b a d R w} (h:qvn c b a d R w):Calls prog qlb ⟨[L c b a,S d]⟩ w R:=qb Tryz.func266 (Eq.mpr (by kernel_rfl:fnV _ _ qwy _ _ _=_) h)
def qgj:Ann:=F
def qgi:Ann:=.one (T F F)
def qqp (m:List UInt8) (c:Option Addr) (d:Option Addr) (k:Fn) (g:Array Value) (h:Array Value) (a:List UInt8) (l:Nat) (Kn Kr Kx:World→World→Prop) (w:World):Prop :=
 Ext w w∧∀ b:World,Upd l w b→(dr c fun e =>
 stL b e 0 [S a] fun i =>
 dr d fun f =>
 stL i f 0 [B true] fun j =>
 Kr b j)
theorem qqw (base:Env) (g:List UInt8) (d:Option Addr) (e:Option Addr) (f:Fn) (b:Array Value) (c:Array Value) (a:List UInt8) (l:Nat) (Kn Kr Kx:World→World→Prop) (w:World):fragV prog 13 qgj qgi (cdAt Tryz.f266 [1,0,1,2,5]) (cdAt Tryz.f266 [1,0,1,2,6]) l 0 Kn Kr Kx (updPs [10] [S a] (upd (upd (upd (upd base 9 (.func f b c)) 5 (.pointer e)) 4 (.pointer d)) 1 (S g))) w=qqp g d e f b c a l Kn Kr Kx w:=by kernel_rfl
theorem qq0:cdAt Tryz.f266 [1,0,1,2]=.rangeFunc (Operand.tmp 9) #[10] (cdAt Tryz.f266 [1,0,1,2,5]) (cdAt Tryz.f266 [1,0,1,2,6]):=by kernel_rfl
def qpd:Ann:=T F (T F F)
def qol (c:Option Addr) (b:Nat) (a:Nat) (d:List UInt8) (R:Ending→World→Prop) (w:World):Prop :=
 al w 258 [L c b a] fun e g =>
 al g 9 [S d] fun f h =>
 R (.returned (.func (.func 272) ⟨[]⟩ ⟨[.pointer (some f),.pointer (some e)]⟩)) h
theorem qq8 {c b a d R w} (h:qol c b a d R w):Calls prog qhj ⟨[L c b a,S d]⟩ w R:=qb Tryz.func271 (Eq.mpr (by kernel_rfl:fnV _ _ qpd _ _ _=_) h)
def qlz:Ann:=T F (.one (.loop 35184372087248 [(11,.one (.int .i64))] (T F (T (T F F) (T (.one (T F (T F (.one (.loop 17592185979328 [(16,.one (.int .i64))] (T F (T (T F F) (T (.one (T F (T F (T F (T F F))))) F)))))))) F)))))
def qlo (j:Fn) (f:Array Value) (g:Array Value) (d:Option Addr) (G:Option Addr) (R:Ending→World→Prop) (w:World):Prop :=
 dr d fun a2 =>
 ∃ a1,w.cell? a2=some (S a1)∧(∃ (F:Int→World→Nat→Prop),(∃ K,F 0 w K)∧∀ b o N,F b o N→∀ _:Env,(br (decide ((b:Int) < ((List.length a1:Int)))) (dr G fun O =>
 ∃ u e H,o.cell? O=some (L u e H)∧∃ (h:Int→World→Nat→Prop),(∃ M,h 0 o M)∧∀ a c k,h a c k→∀ _:Env,(br (decide ((a:Int) < (e))) (idx u e a 2 fun s =>
 ∃ v,c.cell? (s.add 0)=some (S v)∧∃ x,c.cell? (s.add 1)=some (S x)∧al c 285 [S [],S []] fun l Y =>
 stL Y l 0 [S v,S x] fun Z =>
 drw Z fun m =>
 dr d fun Q =>
 ∃ n,m.cell? Q=some (S n)∧(ssl n b (List.length n:Int) fun U =>
 ∃ y,m.cell? (l.add 0)=some (S y)∧((Calls prog 273 ⟨[S U,S y]⟩ m fun I a0 =>
 ∃ z A,I=.returned (.tuple ⟨[S z,B A]⟩)∧drw a0 fun i =>
 br A (dr d fun T =>
 ∃ C,i.cell? T=some (S C)∧(ssl C 0 b fun V =>
 ∃ D,i.cell? (l.add 1)=some (S D)∧(sadd V D fun W =>
 sadd W z fun X =>
 (CallV prog (.func j f g) [S X] i fun J t =>
 ∃ E,J=.returned (B E)∧br (!E) (R (.returned (.tuple ⟨[]⟩)) t) (∃ p,p < k∧h (i64.wrap (a + 1)) t p))∧True))) ((∃ q,q < k∧h (i64.wrap (a + 1)) i q)∧True))∧True))) (∃ r,r < N∧F (i64.wrap (b + 1)) c r))) (R (.returned (.tuple ⟨[]⟩)) o)))
theorem qnb {c a b d e R w} (h:qlo c a b d e R w):Calls prog qbc ⟨[.func c a b,.pointer d,.pointer e]⟩ w R:=qb Tryz.func272 (Eq.mpr (by kernel_rfl:fnV _ _ qlz _ _ _=_) h)
def qpc:Ann:=T F (T F F)
def qok (b:List UInt8) (a:List UInt8) (R:Ending→World→Prop) (w:World):Prop :=
 Calls prog 274 ⟨[S b,S a]⟩ w fun e f =>
 ∃ c d,e=.returned (.tuple ⟨[S c,B d]⟩)∧(R (.returned (.tuple ⟨[S c,B d]⟩)) f)
theorem qq7 {b a R w} (h:qok b a R w):Calls prog qhi ⟨[S b,S a]⟩ w R:=qb Tryz.func273 (Eq.mpr (by kernel_rfl:fnV _ _ qpc _ _ _=_) h)
def qek:Ann:=T F (T (T F (T (T F F) F)) (T F F))
def qd9 (b:List UInt8) (a:List UInt8) (R:Ending→World→Prop) (w:World):Prop :=
 Calls prog 208 ⟨[S b,S a]⟩ w fun e c =>
 ∃ d,e=.returned (B d)∧(br (!d) (R (.returned (.tuple ⟨[S b,B false]⟩)) c) (ssl b ((List.length a:Int)) (List.length b:Int) fun f =>
 R (.returned (.tuple ⟨[S f,B true]⟩)) c))
theorem qew {b a R w} (h:qd9 b a R w):Calls prog qe3 ⟨[S b,S a]⟩ w R:=qb Tryz.func274 (Eq.mpr (by kernel_rfl:fnV _ _ qek _ _ _=_) h)
end Go.Proofs
