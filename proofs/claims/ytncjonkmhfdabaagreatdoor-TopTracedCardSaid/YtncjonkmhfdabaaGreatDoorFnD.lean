/- Written by program: for each function its verification condition, that it is the code's (by the kernel), and that it gives the call. -/
import Derived.Test.YtncjonkmhfdabaaGreatDoorFn
set_option linter.all false
set_option maxRecDepth 100000
namespace Go.Proofs
open Go Go.Sh Go.Proofs.Tryz IntKind
def qt5:Ann:=T F (T F (T (T F (.one (.loop 36028797018960032 [(5,.one (.int .i64)),(12,.one (.int .i64))] (T F (T (T F F) (T (.one (T F (T (T (.one F) (T (T F F) F)) F))) F)))))) (T (T F (.one (.rf [3,4,56] 0))) (T F F))))
def qse (h6:List UInt8) (h7:Option Addr) (f7:Nat) (f6:Nat) (h8:Option Addr) (f9:Nat) (f8:Nat) (h9:Option Addr) (g1:Nat) (g0:Nat) (g7:Option Addr) (f3:Nat) (f2:Nat) (R:Ending→World→Prop) (w:World):Prop :=
 al w 62 [S h6,L h7 f7 f6,L h8 f9 f8,L h9 g1 g0] fun h i0 =>
 al i0 70 [L g7 f3 f2] fun g9 i1 =>
 al i1 4 [B false] fun a a4 =>
 ∃ b8 i f4,a4.cell? g9=some (L b8 i f4)∧(∃ (p:Int→Int→World→Nat→Prop),(∃ g8,p ((-1)) 0 a4 g8)∧∀ f d e s,p f d e s→∀ _:Env,(br (decide ((d:Int) < (i))) (idx b8 i d 3 fun t =>
 ∃ b9,e.cell? (t.add 0)=some (I b9)∧∃ c0,e.cell? (t.add 1)=some (I c0)∧∃ c1 y x,e.cell? (t.add 2)=some (L c1 y x)∧al e 123 [I 0,I 0,L none 0 0] fun c h0 =>
 stL h0 c 0 [I b9,I c0,L c1 y x] fun h1 =>
 drw h1 fun b =>
 ∃ c2,b.cell? (c.add 0)=some (I c2)∧br (decide (c2≤f)) ((((stL b a 0 [B false] fun a5 =>
 ∃ c3,a5.cell? a=some (B c3)∧R (.returned (B c3)) a5)∧True)∧True)∧((stL b a 0 [B false] fun a6 =>
 ∃ c4,a6.cell? a=some (B c4)∧R (.returned (B c4)) a6)∧True)∧True) (∃ c5,b.cell? (c.add 0)=some (I c5)∧br (decide (c5 < 0)) ((((stL b a 0 [B false] fun a7 =>
 ∃ c6,a7.cell? a=some (B c6)∧R (.returned (B c6)) a7)∧True)∧True)∧((stL b a 0 [B false] fun a8 =>
 ∃ c7,a8.cell? a=some (B c7)∧R (.returned (B c7)) a8)∧True)∧True) (∃ c8,b.cell? (c.add 0)=some (I c8)∧∃ c9,b.cell? (c.add 1)=some (I c9)∧br (decide (c9≤c8)) ((((stL b a 0 [B false] fun a9 =>
 ∃ d0,a9.cell? a=some (B d0)∧R (.returned (B d0)) a9)∧True)∧True)∧((stL b a 0 [B false] fun b0 =>
 ∃ d1,b0.cell? a=some (B d1)∧R (.returned (B d1)) b0)∧True)∧True) (∃ d2,b.cell? (c.add 1)=some (I d2)∧∃ h5 z f5,b.cell? (h.add 3)=some (L h5 z f5)∧br (decide (((z):Int) < d2)) ((((stL b a 0 [B false] fun b1 =>
 ∃ d3,b1.cell? a=some (B d3)∧R (.returned (B d3)) b1)∧True)∧True)∧((stL b a 0 [B false] fun b2 =>
 ∃ d4,b2.cell? a=some (B d4)∧R (.returned (B d4)) b2)∧True)∧True) (∃ A,b.cell? (h.add 0)=some (S A)∧∃ C k j,b.cell? (h.add 1)=some (L C k j)∧∃ D m l,b.cell? (h.add 2)=some (L D m l)∧∃ E o n,b.cell? (h.add 3)=some (L E o n)∧∃ F,b.cell? (c.add 0)=some (I F)∧∃ G,b.cell? (c.add 1)=some (I G)∧((∃ d5 J H,b.cell? (c.add 2)=some (L d5 J H)∧((Calls prog 60 ⟨[.agg ⟨[S A,L C k j,L D m l,L E o n]⟩,I F,I G]⟩ b fun g2 h2 =>
 ∃ d6 M K,g2=.returned (L d6 M K)∧((Calls prog 191 ⟨[L d5 J H,L d6 M K]⟩ h2 fun g3 u =>
 ∃ d7,g3=.returned (B d7)∧br (!d7) (stL u a 0 [B false] fun b3 =>
 ∃ d8,b3.cell? a=some (B d8)∧R (.returned (B d8)) b3) (∃ d9,u.cell? (c.add 1)=some (I d9)∧∃ a2,a2 < s∧p d9 (i64.wrap (d + 1)) u a2))∧True))∧True))∧(Calls prog 60 ⟨[.agg ⟨[S A,L C k j,L D m l,L E o n]⟩,I F,I G]⟩ b fun g4 b4 =>
 ∃ e0 O N,g4=.returned (L e0 O N)∧∃ e1 T Q,b4.cell? (c.add 2)=some (L e1 T Q)∧((Calls prog 191 ⟨[L e1 T Q,L e0 O N]⟩ b4 fun g5 v =>
 ∃ e2,g5=.returned (B e2)∧br (!e2) (stL v a 0 [B false] fun b5 =>
 ∃ e3,b5.cell? a=some (B e3)∧R (.returned (B e3)) b5) (∃ e4,v.cell? (c.add 1)=some (I e4)∧∃ a3,a3 < s∧p e4 (i64.wrap (d + 1)) v a3))∧True))∧True)))))) (∃ e5,e.cell? (h.add 0)=some (S e5)∧∃ e6 V U,e.cell? (h.add 1)=some (L e6 V U)∧∃ e7 X W,e.cell? (h.add 2)=some (L e7 X W)∧∃ e8 Z Y,e.cell? (h.add 3)=some (L e8 Z Y)∧Calls prog 59 ⟨[.agg ⟨[S e5,L e6 V U,L e7 X W,L e8 Z Y]⟩]⟩ e fun g6 h3 =>
 ∃ e9 a0 a1,g6=.returned (.func e9 a0 a1)∧∀ r:Env,RFw prog none 63 (cdAt Tryz.f150 [1,1,1,0,1,2]) (upd (upd (upd r 56 (.func e9 a0 a1)) 4 (.pointer (some a))) 3 (.pointer (some g9))) [] h3 0 (fun g q =>
 stL q a 0 [B true] fun h4 =>
 retD g h4 fun b6 =>
 ∃ f0,b6.cell? a=some (B f0)∧R (.returned (B f0)) b6) (fun g q =>
 retD g q fun b7 =>
 ∃ f1,b7.cell? a=some (B f1)∧R (.returned (B f1)) b7) (fun g q =>
 False))))
theorem qv9 {k l d c m f e n i g j b a R w} (h:qse k l d c m f e n i g j b a R w):Calls prog qjl ⟨[.agg ⟨[S k,L l d c,L m f e,L n i g]⟩,L j b a]⟩ w R:=qb Tryz.func150 (Eq.mpr (by kernel_rfl:fnV _ _ qt5 _ _ _=_) h)
def qf4:Ann:=T F F
def qf2:Ann:=.one (T F (T (T F F) F))
def qop (o:Option Addr) (k:Option Addr) (x:Fn) (u:Array Value) (v:Array Value) (e:Int) (f:Int) (l:Nat) (Kn Kr Kx:World→World→Prop) (w:World):Prop :=
 al w 3 [I 0] fun m y =>
 stL y m 0 [I e] fun r =>
 al r 3 [I 0] fun d s =>
 stL s d 0 [I f] fun g =>
 Ext w g∧∀ a:World,Upd l g a→(dr o fun p =>
 ∃ i c b,a.cell? p=some (L i c b)∧Calls prog 192 ⟨[L i c b,.func (.func 193) ⟨[]⟩ ⟨[.pointer (some m),.pointer (some d)]⟩]⟩ a fun n h =>
 ∃ j,n=.returned (B j)∧br (!j) (dr k fun q =>
 stL h q 0 [B false] fun t =>
 Kr a t) (Kn a h))
theorem qor (base:Env) (g:Option Addr) (f:Option Addr) (c:Fn) (a:Array Value) (b:Array Value) (d:Int) (e:Int) (l:Nat) (Kn Kr Kx:World→World→Prop) (w:World):fragV prog 63 qf4 qf2 (cdAt Tryz.f150 [1,1,1,0,1,2,5]) (cdAt Tryz.f150 [1,1,1,0,1,2,6]) l 0 Kn Kr Kx (updPs [57,58] [I d,I e] (upd (upd (upd base 56 (.func c a b)) 4 (.pointer f)) 3 (.pointer g))) w=qop g f c a b d e l Kn Kr Kx w:=by kernel_rfl
theorem qot:cdAt Tryz.f150 [1,1,1,0,1,2]=.rangeFunc (Operand.tmp 56) #[57,58] (cdAt Tryz.f150 [1,1,1,0,1,2,5]) (cdAt Tryz.f150 [1,1,1,0,1,2,6]):=by kernel_rfl
def qw6:Ann:=T F (T (T F (T (T F F) F)) (.cut 17179867328 [] (T F (T (T F F) F)) (T F F)))
def qvv (a4:List UInt8) (a5:Option Addr) (Q:Nat) (O:Nat) (a6:Option Addr) (U:Nat) (T:Nat) (a7:Option Addr) (W:Nat) (V:Nat) (d:Int) (e:Int) (R:Ending→World→Prop) (w:World):Prop :=
 al w 62 [S a4,L a5 Q O,L a6 U T,L a7 W V] fun c a8 =>
 al a8 3 [I d] fun s a0 =>
 al a0 3 [I e] fun f b =>
 ∃ v,b.cell? (c.add 0)=some (S v)∧(∃ x i h,b.cell? (c.add 1)=some (L x i h)∧∃ y k j,b.cell? (c.add 2)=some (L y k j)∧∃ z m l,b.cell? (c.add 3)=some (L z m l)∧Calls prog 58 ⟨[.agg ⟨[S v,L x i h,L y k j,L z m l]⟩]⟩ b fun X u =>
 ∃ A,X=.returned (I A)∧br (decide (A≠0)) (R (.returned (.tuple ⟨[I 0,I 1]⟩)) u) (∀ (t:World→Prop),(∀  (g:World),(∀ _:Env,(∃ B o n,g.cell? (c.add 3)=some (L B o n)∧Calls prog 194 ⟨[L B o n,.func (.func 195) ⟨[]⟩ ⟨[.pointer (some s),.pointer (some f)]⟩]⟩ g fun Y a1 =>
 ∃ C,Y=.returned (I C)∧R (.returned (.tuple ⟨[I C,I 0]⟩)) a1))→t g)→(drw u fun a =>
 ∃ D,a.cell? s=some (I D)∧br (decide (D < 0)) (R (.returned (.tuple ⟨[I 0,I 2]⟩)) a) (∃ E,a.cell? s=some (I E)∧∃ a2 p K,a.cell? (c.add 1)=some (L a2 p K)∧br (decide (((p):Int)≤E)) (R (.returned (.tuple ⟨[I 0,I 2]⟩)) a) (∃ F,a.cell? f=some (I F)∧br (decide (F < 0)) (R (.returned (.tuple ⟨[I 0,I 2]⟩)) a) (∃ G,a.cell? f=some (I G)∧∃ H q M,a.cell? (c.add 2)=some (L H q M)∧∃ J,a.cell? s=some (I J)∧idx H q J 1 fun Z =>
 ∃ a3 r N,a.cell? Z=some (L a3 r N)∧br (decide (((r):Int)≤G)) (R (.returned (.tuple ⟨[I 0,I 2]⟩)) a) (t a)))))))
theorem qyi {j k d c l f e m i g a b R w} (h:qvv j k d c l f e m i g a b R w):Calls prog qli ⟨[.agg ⟨[S j,L k d c,L l f e,L m i g]⟩,I a,I b]⟩ w R:=qb Tryz.func151 (Eq.mpr (by kernel_rfl:fnV _ _ qw6 _ _ _=_) h)
def quc:Ann:=T F (T (T F (T F (T (T F F) F))) (T (T F (T (T F F) F)) (T F (T F F))))
def qsl (a:List UInt8) (R:Ending→World→Prop) (w:World):Prop :=
 Calls prog 155 ⟨[S a]⟩ w fun m h =>
 ∃ i,m=.returned (I i)∧(br (decide (i≠0)) (R (.returned (.tuple ⟨[L none 0 0,I i]⟩)) h) (br (decide ((a:List UInt8)=([]))) (R (.returned (.tuple ⟨[L none 0 0,I 0]⟩)) h) (al h 226 [I 1,S a,I 0,L none 0 0] fun o p =>
 Calls prog 159 ⟨[.agg ⟨[S [],I 0]⟩,.slice (some o) 1 1,L none 0 0]⟩ p fun n q =>
 ∃ l g f d,n=.returned (.tuple ⟨[L l g f,I d]⟩)∧Calls prog 71 ⟨[L l g f]⟩ q fun j k =>
 ∃ e c b,j=.returned (L e c b)∧R (.returned (.tuple ⟨[L e c b,I d]⟩)) k)))
theorem qwg {a R w} (h:qsl a R w):Calls prog qjs ⟨[S a]⟩ w R:=qb Tryz.func152 (Eq.mpr (by kernel_rfl:fnV _ _ quc _ _ _=_) h)
def qyo:Ann:=T F (T (T F (T (T F F) F)) (T (T F (.one (.rf [2,10] 0))) (T F F)))
def qx2 (e:List UInt8) (R:Ending→World→Prop) (w:World):Prop :=
 al w 41 [I 0] fun b p =>
 br (decide ((65536:Int) < ((List.length e:Int)))) (stL p b 0 [I 4] fun q =>
 ∃ r,q.cell? b=some (I r)∧R (.returned (I r)) q) (Calls prog 48 ⟨[S e]⟩ p fun t u =>
 ∃ s l m,t=.returned (.func s l m)∧∀ d:Env,RFw prog none 22 (cdAt Tryz.f155 [1,1,0,1,2]) (upd (upd d 10 (.func s l m)) 2 (.pointer (some b))) [] u 0 (fun a c =>
 stL c b 0 [I 0] fun o =>
 retD a o fun g =>
 ∃ j,g.cell? b=some (I j)∧R (.returned (I j)) g) (fun a c =>
 retD a c fun h =>
 ∃ k,h.cell? b=some (I k)∧R (.returned (I k)) h) (fun a c =>
 stL c b 0 [I 0] fun n =>
 retD a n fun f =>
 ∃ i,f.cell? b=some (I i)∧R (.returned (I i)) f))
theorem q0m {a R w} (h:qx2 a R w):Calls prog qn0 ⟨[S a]⟩ w R:=qb Tryz.func155 (Eq.mpr (by kernel_rfl:fnV _ _ qyo _ _ _=_) h)
def qhd:Ann:=F
def qhc:Ann:=.one (T F (T F (T (T F F) F)))
def qsz (b:Option Addr) (m:Fn) (f:Array Value) (g:Array Value) (n:Value) (c:List UInt8) (l:Nat) (Kn Kr Kx:World→World→Prop) (w:World):Prop :=
 Ext w w∧∀ a:World,Upd l w a→(sidx c 0 fun h =>
 Calls prog 91 ⟨[.int .u8 ((h.toNat:Int))]⟩ a fun i d =>
 ∃ e,i=.returned (I e)∧br (decide (e=0)) (dr b fun j =>
 stL d j 0 [I 11] fun o =>
 Kr a o) (br (decide (e=2)) (dr b fun k =>
 stL d k 0 [I 11] fun p =>
 Kr a p) (Kn a d)))
theorem qtd (base:Env) (f:Option Addr) (c:Fn) (a:Array Value) (b:Array Value) (d:Value) (e:List UInt8) (l:Nat) (Kn Kr Kx:World→World→Prop) (w:World):fragV prog 22 qhd qhc (cdAt Tryz.f155 [1,1,0,1,2,5]) (cdAt Tryz.f155 [1,1,0,1,2,6]) l 0 Kn Kr Kx (updPs [11,12] [d,S e] (upd (upd base 10 (.func c a b)) 2 (.pointer f))) w=qsz f c a b d e l Kn Kr Kx w:=by kernel_rfl
theorem qtf:cdAt Tryz.f155 [1,1,0,1,2]=.rangeFunc (Operand.tmp 10) #[11,12] (cdAt Tryz.f155 [1,1,0,1,2,5]) (cdAt Tryz.f155 [1,1,0,1,2,6]):=by kernel_rfl
def qdm:Ann:=T F (T F F)
def qdi (f:Option Addr) (d:Nat) (c:Nat) (e:Fn) (a:Array Value) (b:Array Value) (R:Ending→World→Prop) (w:World):Prop :=
 Calls prog 196 ⟨[L f d c,.func e a b]⟩ w fun h i =>
 ∃ g,h=.returned (I g)∧(R (.returned (.bool (decide ((0:Int)≤g)))) i)
theorem qd0 {f d c e a b R w} (h:qdi f d c e a b R w):Calls prog qd3 ⟨[L f d c,.func e a b]⟩ w R:=qb Tryz.func156 (Eq.mpr (by kernel_rfl:fnV _ _ qdm _ _ _=_) h)
def qr2:Ann:=T F (T F (T F F))
def qqm (b:Int) (R:Ending→World→Prop) (w:World):Prop :=
 Calls prog 91 ⟨[.int .u8 b]⟩ w fun d c =>
 ∃ a,d=.returned (I a)∧(br (decide (a=5)) (R (.returned (B true)) c) (R (.returned (.bool (decide (a=6)))) c))
theorem qt3 {a R w} (h:qqm a R w):Calls prog qik ⟨[.int .u8 a]⟩ w R:=qb Tryz.func157 (Eq.mpr (by kernel_rfl:fnV _ _ qr2 _ _ _=_) h)
def qax:Ann:=T F (T (T F (.one (.rf [2,4,6] 0))) (T F F))
def qaw (o:Option Addr) (n:Nat) (m:Nat) (h:Fn) (c:Array Value) (d:Array Value) (R:Ending→World→Prop) (w:World):Prop :=
 al w 134 [L o n m] fun l s =>
 ∀ g:Env,RFw prog none 13 (cdAt Tryz.f158 [1,0,1,2]) (upd (upd (upd g 6 (.func h c d)) 4 (L none 0 0)) 2 (.pointer (some l))) [] s 0 (fun a b =>
 ∃ i f e,b.cell? l=some (L i f e)∧retD a b fun p =>
 R (.returned (L i f e)) p) (fun a b =>
 retD a b fun q =>
 R (.returned (L none 0 0)) q) (fun a b =>
 ∃ r k j,b.cell? l=some (L r k j)∧retD a b fun t =>
 R (.returned (L r k j)) t)
theorem qa0 {f e d c a b R w} (h:qaw f e d c a b R w):Calls prog qu ⟨[L f e d,.func c a b]⟩ w R:=qb Tryz.func158 (Eq.mpr (by kernel_rfl:fnV _ _ qax _ _ _=_) h)
def qs:Ann:=F
def qr:Ann:=.one F
def qap (c:Option Addr) (N:Option Addr) (E:Nat) (D:Nat) (O:Fn) (F:Array Value) (G:Array Value) (f:List UInt8) (g:List UInt8) (h:List UInt8) (i:Int) (j:Int) (k:List UInt8) (m:Int) (l:Nat) (Kn Kr Kx:World→World→Prop) (w:World):Prop :=
 al w 128 [S [],S [],S [],I 0,I 0,S [],I 0] fun b H =>
 stL H b 0 [S f,S g,S h,I i,I j,S k,I m] fun n =>
 Ext w n∧∀ a:World,Upd l n a→(dr c fun A =>
 ∃ o e d,a.cell? A=some (L o e d)∧∃ p,a.cell? (b.add 0)=some (S p)∧∃ q,a.cell? (b.add 1)=some (S q)∧∃ r,a.cell? (b.add 2)=some (S r)∧∃ s,a.cell? (b.add 3)=some (I s)∧∃ t,a.cell? (b.add 4)=some (I t)∧∃ u,a.cell? (b.add 5)=some (S u)∧∃ v,a.cell? (b.add 6)=some (I v)∧al a 128 [S p,S q,S r,I s,I t,S u,I v] fun B J =>
 app prog [134,134] 134 (L o e d) (.slice (some B) 1 1) J fun z y x K =>
 dr c fun C =>
 stL K C 0 [L z y x] fun M =>
 Kn a M)
theorem qaq (base:Env) (o:Option Addr) (e:Option Addr) (b:Nat) (a:Nat) (f:Fn) (c:Array Value) (d:Array Value) (g:List UInt8) (h:List UInt8) (i:List UInt8) (j:Int) (k:Int) (m:List UInt8) (n:Int) (l:Nat) (Kn Kr Kx:World→World→Prop) (w:World):fragV prog 13 qs qr (cdAt Tryz.f158 [1,0,1,2,5]) (cdAt Tryz.f158 [1,0,1,2,6]) l 0 Kn Kr Kx (updPs [7] [.agg ⟨[S g,S h,S i,I j,I k,S m,I n]⟩] (upd (upd (upd base 6 (.func f c d)) 4 (L e b a)) 2 (.pointer o))) w=qap o e b a f c d g h i j k m n l Kn Kr Kx w:=by kernel_rfl
theorem qas:cdAt Tryz.f158 [1,0,1,2]=.rangeFunc (Operand.tmp 6) #[7] (cdAt Tryz.f158 [1,0,1,2,5]) (cdAt Tryz.f158 [1,0,1,2,6]):=by kernel_rfl
def qrp:Ann:=T F (.cut 4178112 [(6,.one (.slice)),(7,.one (.int .i64))] (T F (T (T F F) F)) (.cut 1069547712 [(6,.one (.slice)),(7,.one (.int .i64))] (T F (T (T F F) F)) (T (T F (T (T F F) F)) (T F (T F (T (T F (T (T F F) F)) (T F (T (T F (.one (.rf [2,6,7,12,50] 0))) (T F (.cut 18410715276690587840 [] (T F (T (T F F) F)) (T F F)))))))))))
def qqa (s:List UInt8) (t:Int) (n:Option Addr) (j:Nat) (i:Nat) (d:Option Addr) (c:Nat) (b:Nat) (R:Ending→World→Prop) (w:World):Prop :=
 al w 115 [S s,I t] fun v f9 =>
 ∀ (d1:Option Addr→Nat→Nat→Int→World→Prop),(∀ (x:Option Addr) (p:Nat) (o:Nat) (y:Int) (h:World),(∀ _:Env,(∀ (Z:Option Addr→Nat→Nat→Int→World→Prop),(∀ (k:Option Addr) (g:Nat) (f:Nat) (l:Int) (z:World),(∀ _:Env,(∃ a8,z.cell? (v.add 0)=some (S a8)∧Calls prog 188 ⟨[S a8]⟩ z fun d2 a2 =>
 ∃ a9,d2=.returned (B a9)∧br (!a9) (R (.returned (.tuple ⟨[L none 0 0,I 14]⟩)) a2) (Calls prog 199 ⟨[L n j i,I 8]⟩ a2 fun d3 e4 =>
 ∃ b0 f5,d3=.returned (.tuple ⟨[I b0,I f5]⟩)∧Calls prog 199 ⟨[L n j i,I 9]⟩ e4 fun d4 a3 =>
 ∃ b1 f6,d4=.returned (.tuple ⟨[I b1,I f6]⟩)∧br (decide ((0:Int) < (i64.wrap (b0 + b1)))) (R (.returned (.tuple ⟨[L none 0 0,I 13]⟩)) a3) (al a3 263 [L none 0 0,.pointer none,L none 0 0,B false,B false,B false] fun e A =>
 ∃ b2,A.cell? (v.add 0)=some (S b2)∧∃ b3,A.cell? (v.add 1)=some (I b3)∧Calls prog 200 ⟨[.agg ⟨[S b2,I b3]⟩,L n j i]⟩ A fun d5 e5 =>
 ∃ b4 E F,d5=.returned (.func b4 E F)∧∀ u:Env,RFw prog none 70 (cdAt Tryz.f159 [1,1,1,1,1,1,1,1,0,1,2]) (upd (upd (upd (upd (upd u 50 (.func b4 E F)) 12 (.pointer (some e))) 7 (I l)) 6 (L k g f)) 2 (L d c b)) [] e5 0 (fun a m =>
 Calls prog 202 ⟨[.pointer (some e)]⟩ m fun d9 r =>
 d9=.returned (.tuple ⟨[]⟩)∧∀ (a1:World→Prop),(∀  (D:World),(∀ _:Env,(∃ c0 T Q,D.cell? (e.add 0)=some (L c0 T Q)∧Calls prog 204 ⟨[L d c b,L c0 T Q]⟩ D fun e0 f0 =>
 ∃ c1 V U c2,e0=.returned (.tuple ⟨[L c1 V U,I c2]⟩)∧retD a f0 fun f1 =>
 R (.returned (.tuple ⟨[L c1 V U,I c2]⟩)) f1))→a1 D)→(∃ f8 W d0,r.cell? (e.add 0)=some (L f8 W d0)∧br (decide ((1024:Int) < (W))) (retD a r fun f2 =>
 R (.returned (.tuple ⟨[L none 0 0,I 4]⟩)) f2) (∃ c3 Y X,r.cell? (e.add 0)=some (L c3 Y X)∧Calls prog 142 ⟨[L c3 Y X,.func (.func 203) #[] #[]]⟩ r fun e1 a5 =>
 ∃ c4,e1=.returned (B c4)∧br c4 (retD a a5 fun f3 =>
 R (.returned (.tuple ⟨[L none 0 0,I 4]⟩)) f3) (a1 a5)))) (fun a m =>
 retD a m fun f4 =>
 R (.returned (.tuple ⟨[L k g f,I l]⟩)) f4) (fun a m =>
 Calls prog 202 ⟨[.pointer (some e)]⟩ m fun d6 q =>
 d6=.returned (.tuple ⟨[]⟩)∧∀ (a0:World→Prop),(∀  (C:World),(∀ _:Env,(∃ b5 H G,C.cell? (e.add 0)=some (L b5 H G)∧Calls prog 204 ⟨[L d c b,L b5 H G]⟩ C fun d7 e6 =>
 ∃ b6 K J b7,d7=.returned (.tuple ⟨[L b6 K J,I b7]⟩)∧retD a e6 fun e7 =>
 R (.returned (.tuple ⟨[L b6 K J,I b7]⟩)) e7))→a0 C)→(∃ f7 M c9,q.cell? (e.add 0)=some (L f7 M c9)∧br (decide ((1024:Int) < (M))) (retD a q fun e8 =>
 R (.returned (.tuple ⟨[L none 0 0,I 4]⟩)) e8) (∃ b8 O N,q.cell? (e.add 0)=some (L b8 O N)∧Calls prog 142 ⟨[L b8 O N,.func (.func 203) #[] #[]]⟩ q fun d8 a4 =>
 ∃ b9,d8=.returned (B b9)∧br b9 (retD a a4 fun e9 =>
 R (.returned (.tuple ⟨[L none 0 0,I 4]⟩)) e9) (a0 a4))))))))→Z k g f l z)→(∃ c5,h.cell? (v.add 1)=some (I c5)∧br (decide (c5 < 0)) (R (.returned (.tuple ⟨[L none 0 0,I 2]⟩)) h) (∃ c6,h.cell? (v.add 1)=some (I c6)∧br (decide ((4096:Int) < c6)) (R (.returned (.tuple ⟨[L none 0 0,I 2]⟩)) h) (Z x p o y h)))))→d1 x p o y h)→(Calls prog 197 ⟨[L n j i]⟩ f9 fun e2 a6 =>
 ∃ c7,e2=.returned (I c7)∧br (decide (c7≠0)) (R (.returned (.tuple ⟨[L none 0 0,I 1]⟩)) a6) (Calls prog 198 ⟨[L d c b]⟩ a6 fun e3 a7 =>
 ∃ c8,e3=.returned (I c8)∧br (decide (c8≠0)) (R (.returned (.tuple ⟨[L none 0 0,I 1]⟩)) a7) (d1 none 0 0 0 a7)))
theorem qtq {d e i g f c b a R w} (h:qqa d e i g f c b a R w):Calls prog qic ⟨[.agg ⟨[S d,I e]⟩,L i g f,L c b a]⟩ w R:=qb Tryz.func159 (Eq.mpr (by kernel_rfl:fnV _ _ qrp _ _ _=_) h)
def qfc:Ann:=F
def qe8:Ann:=.one F
def qmp (x:Option Addr) (o:Nat) (n:Nat) (G:Option Addr) (E:Nat) (D:Nat) (H:Int) (u:Option Addr) (C:Fn) (z:Array Value) (A:Array Value) (c:Int) (d:Int) (e:Int) (f:List UInt8) (g:Int) (h:Bool) (i:List UInt8) (l:Nat) (Kn Kr Kx:World→World→Prop) (w:World):Prop :=
 al w 268 [I 0,.int .u8 0,I 0,S [],I 0,B false,S []] fun b F =>
 stL F b 0 [I c,.int .u8 d,I e,S f,I g,B h,S i] fun p =>
 Ext w p∧∀ a:World,Upd l p a→(∃ q,a.cell? (b.add 0)=some (I q)∧∃ r,a.cell? (b.add 1)=some (.int .u8 r)∧∃ s,a.cell? (b.add 2)=some (I s)∧∃ t,a.cell? (b.add 3)=some (S t)∧∃ j,a.cell? (b.add 4)=some (I j)∧∃ k,a.cell? (b.add 5)=some (B k)∧∃ m,a.cell? (b.add 6)=some (S m)∧Calls prog 201 ⟨[.pointer u,.agg ⟨[I q,.int .u8 r,I s,S t,I j,B k,S m]⟩]⟩ a fun v y =>
 v=.returned (.tuple ⟨[]⟩)∧(Kn a y))
theorem qm0 (base:Env) (c:Option Addr) (b:Nat) (a:Nat) (q:Option Addr) (p:Nat) (o:Nat) (r:Int) (s:Option Addr) (f:Fn) (d:Array Value) (e:Array Value) (g:Int) (h:Int) (i:Int) (j:List UInt8) (k:Int) (m:Bool) (n:List UInt8) (l:Nat) (Kn Kr Kx:World→World→Prop) (w:World):fragV prog 70 qfc qe8 (cdAt Tryz.f159 [1,1,1,1,1,1,1,1,0,1,2,5]) (cdAt Tryz.f159 [1,1,1,1,1,1,1,1,0,1,2,6]) l 0 Kn Kr Kx (updPs [51] [.agg ⟨[I g,.int .u8 h,I i,S j,I k,B m,S n]⟩] (upd (upd (upd (upd (upd base 50 (.func f d e)) 12 (.pointer s)) 7 (I r)) 6 (L q p o)) 2 (L c b a))) w=qmp c b a q p o r s f d e g h i j k m n l Kn Kr Kx w:=by kernel_rfl
theorem qm8:cdAt Tryz.f159 [1,1,1,1,1,1,1,1,0,1,2]=.rangeFunc (Operand.tmp 50) #[51] (cdAt Tryz.f159 [1,1,1,1,1,1,1,1,0,1,2,5]) (cdAt Tryz.f159 [1,1,1,1,1,1,1,1,0,1,2,6]):=by kernel_rfl
def qcr:Ann:=T F (T (T F (.one (.loop 524080 [(8,.one (.int .i64))] (T F (T (T F F) (T (.one (T F (T F (T (T F F) F)))) F)))))) (T F F))
def qcp (r:Option Addr) (c:Nat) (u:Nat) (p:Fn) (l:Array Value) (m:Array Value) (R:Ending→World→Prop) (w:World):Prop :=
 ∃ (k:Int→World→Nat→Prop),(∃ t,k 0 w t)∧∀ a b q,k a b q→∀ _:Env,(br (decide ((a:Int) < ((c:Int)))) (idx r c a 3 fun n =>
 ∃ s,b.cell? (n.add 0)=some (I s)∧∃ h,b.cell? (n.add 1)=some (I h)∧∃ i e d,b.cell? (n.add 2)=some (L i e d)∧CallV prog (.func p l m) [.agg ⟨[I s,I h,L i e d]⟩] b fun o g =>
 ∃ j,o=.returned (B j)∧br j (R (.returned (I a)) g) (∃ f,f < q∧k (i64.wrap (a + 1)) g f)) (R (.returned (.int .i64 ((-1)))) b))
theorem qcv {f d c e a b R w} (h:qcp f d c e a b R w):Calls prog qan ⟨[L f d c,.func e a b]⟩ w R:=qb Tryz.func160 (Eq.mpr (by kernel_rfl:fnV _ _ qcr _ _ _=_) h)
def qri:Ann:=T F (T F F)
def qp3 (i:Int) (j:Int) (k:Option Addr) (f:Nat) (e:Nat) (b:Option Addr) (R:Ending→World→Prop) (w:World):Prop :=
 al w 123 [I i,I j,L k f e] fun h a =>
 ∃ l,a.cell? (h.add 0)=some (I l)∧(dr b fun n =>
 ∃ m,a.cell? n=some (I m)∧br (decide (l≤m)) (dr b fun g =>
 ∃ c,a.cell? g=some (I c)∧∃ d,a.cell? (h.add 1)=some (I d)∧R (.returned (.bool (decide (c < d)))) a) (R (.returned (B false)) a))
theorem qtj {d e f c b a R w} (h:qp3 d e f c b a R w):Calls prog quu ⟨[.agg ⟨[I d,I e,L f c b]⟩,.pointer a]⟩ w R:=qb Tryz.func161 (Eq.mpr (by kernel_rfl:fnV _ _ qri _ _ _=_) h)
def qrs:Ann:=T F (T F F)
def qqd (c:Option Addr) (b:Nat) (a:Nat) (d:Int) (R:Ending→World→Prop) (w:World):Prop :=
 al w 27 [L c b a] fun e g =>
 al g 3 [I d] fun f h =>
 R (.returned (.func (.func 205) ⟨[]⟩ ⟨[.pointer (some e),.pointer (some f)]⟩)) h
theorem qtt {c b a d R w} (h:qqd c b a d R w):Calls prog qu2 ⟨[L c b a,I d]⟩ w R:=qb Tryz.func162 (Eq.mpr (by kernel_rfl:fnV _ _ qrs _ _ _=_) h)
def qk0:Ann:=T F (T F F)
def qkb (l:Option Addr) (g:Nat) (f:Nat) (m:Option Addr) (i:Nat) (h:Nat) (j:Option Addr) (R:Ending→World→Prop) (w:World):Prop :=
 al w 179 [L l g f,L m i h] fun r k =>
 ∃ o c b,k.cell? (r.add 0)=some (L o c b)∧(dr j fun s =>
 ∃ p e d,k.cell? s=some (L p e d)∧Calls prog 30 ⟨[L o c b,L p e d]⟩ k fun q n =>
 ∃ a,q=.returned (B a)∧R (.returned (B a)) n)
theorem qlt {f b a g d c e R w} (h:qkb f b a g d c e R w):Calls prog ql3 ⟨[.agg ⟨[L f b a,L g d c]⟩,.pointer e]⟩ w R:=qb Tryz.func163 (Eq.mpr (by kernel_rfl:fnV _ _ qk0 _ _ _=_) h)
def q12:Ann:=T F (T (T F (T (T F F) F)) (T F (T (T F (.one (.loop 17179867188 [(4,.one (.int .i64))] (T (T F (T F F)) (T (.one (T F (T F (T (T F F) F)))) F))))) (T F F))))
def q1n (c:List UInt8) (R:Ending→World→Prop) (w:World):Prop :=
 br (decide ((65536:Int) < ((List.length c:Int)))) (R (.returned (I 4)) w) (Calls prog 210 ⟨[S c]⟩ w fun q s =>
 ∃ o i p,q=.returned (L o i p)∧∃ (e:Int→World→Nat→Prop),(∃ r,e 0 s r)∧∀ a k j,e a k j→∀ _:Env,(br (decide ((a:Int) < ((List.length c:Int)))) (sidx c a fun l =>
 Calls prog 137 ⟨[.int .u8 ((l.toNat:Int))]⟩ k fun m b =>
 ∃ d,m=.returned (I d)∧br (decide (d=0)) (R (.returned (I 11)) b) (br (decide (d=2)) (idx o i a 1 fun n =>
 ∃ h,b.cell? n=some (B h)∧br (!h) (R (.returned (I 11)) b) (∃ f,f < j∧e (i64.wrap (a + 1)) b f)) (∃ g,g < j∧e (i64.wrap (a + 1)) b g))) (R (.returned (I 0)) k)))
theorem q4n {a R w} (h:q1n a R w):Calls prog qu1 ⟨[S a]⟩ w R:=qb Tryz.func179 (Eq.mpr (by kernel_rfl:fnV _ _ q12 _ _ _=_) h)
def qun:Ann:=T F (T F (T (T F (.one (.loop 16777016 [(3,.one (.int .i64)),(8,.one (.int .i64))] (T F (T (T F F) (T (.one (T F (T F (T F (T F F))))) F)))))) (T F F)))
def qsx (j:List UInt8) (R:Ending→World→Prop) (w:World):Prop :=
 ∃ (c:Int→Int→World→Nat→Prop),(∃ n,c 0 0 w n)∧∀ b a k f,c b a k f→∀ _:Env,(br (decide ((a:Int) < ((List.length j:Int)))) (sidx j a fun l =>
 Calls prog 91 ⟨[.int .u8 ((l.toNat:Int))]⟩ k fun m d =>
 ∃ e,m=.returned (I e)∧br (decide (e=1)) (∃ g,g < f∧c (i64.wrap (b + 1)) (i64.wrap (a + 1)) d g) (br (decide (e=3)) (∃ h,h < f∧c (i64.wrap (b + 1)) (i64.wrap (a + 1)) d h) (∃ i,i < f∧c b (i64.wrap (a + 1)) d i))) (R (.returned (I b)) k))
theorem qwq {a R w} (h:qsx a R w):Calls prog qj3 ⟨[S a]⟩ w R:=qb Tryz.func181 (Eq.mpr (by kernel_rfl:fnV _ _ qun _ _ _=_) h)
def qpb:Ann:=T F (T F F)
def qoj (b:List UInt8) (a:List UInt8) (R:Ending→World→Prop) (w:World):Prop :=
 Calls prog 212 ⟨[S b,S a]⟩ w fun e f =>
 ∃ c d,e=.returned (.tuple ⟨[S c,B d]⟩)∧(R (.returned (.tuple ⟨[S c,B d]⟩)) f)
theorem qq6 {b a R w} (h:qoj b a R w):Calls prog qhh ⟨[S b,S a]⟩ w R:=qb Tryz.func182 (Eq.mpr (by kernel_rfl:fnV _ _ qpb _ _ _=_) h)
def qce:Ann:=T F (T (T F (.one (.loop 524080 [(8,.one (.int .i64))] (T F (T (T F F) (T (.one (T F (T F (T (T F F) F)))) F)))))) (T F F))
def qca (s:Option Addr) (d:Nat) (v:Nat) (q:Fn) (n:Array Value) (o:Array Value) (R:Ending→World→Prop) (w:World):Prop :=
 ∃ (m:Int→World→Nat→Prop),(∃ u,m 0 w u)∧∀ a b r,m a b r→∀ _:Env,(br (decide ((a:Int) < ((d:Int)))) (idx s d a 6 fun c =>
 ∃ t,b.cell? (c.add 0)=some (S t)∧∃ g,b.cell? (c.add 1)=some (S g)∧∃ h,b.cell? (c.add 2)=some (S h)∧∃ i,b.cell? (c.add 3)=some (I i)∧∃ j,b.cell? (c.add 4)=some (I j)∧∃ k,b.cell? (c.add 5)=some (S k)∧CallV prog (.func q n o) [.agg ⟨[S t,S g,S h,I i,I j,S k]⟩] b fun p f =>
 ∃ l,p=.returned (B l)∧br l (R (.returned (I a)) f) (∃ e,e < r∧m (i64.wrap (a + 1)) f e)) (R (.returned (.int .i64 ((-1)))) b))
theorem qal {f d c e a b R w} (h:qca f d c e a b R w):Calls prog qcj ⟨[L f d c,.func e a b]⟩ w R:=qb Tryz.func183 (Eq.mpr (by kernel_rfl:fnV _ _ qce _ _ _=_) h)
def qyl:Ann:=T F (.cut 2097124 [] (T F (T (T F F) F)) (T F (T F F)))
def qxz (a:List UInt8) (R:Ending→World→Prop) (w:World):Prop :=
 ∀ (e:World→Prop),(∀  (l:World),(∀ _:Env,(ssl a 1 (i64.wrap (((List.length a:Int)) - 1)) fun p =>
 Calls prog 213 ⟨[S p]⟩ l fun o b =>
 ∃ c m,o=.returned (.tuple ⟨[I c,m]⟩)∧(ifc m fun n =>
 br n (br (decide ((1:Int)≤c)) (br (decide (c≤64)) (Calls prog 180 ⟨[I c]⟩ b fun h k =>
 ∃ d,h=.returned (S d)∧(sadd ([91]) d fun i =>
 sadd i ([93]) fun j =>
 R (.returned (.bool (decide ((a:List UInt8)=j)))) k)) (R (.returned (B false)) b)) (R (.returned (B false)) b)) (R (.returned (B false)) b))))→e l)→(br (decide ((((List.length a:Int)):Int) < 3)) (R (.returned (B false)) w) (sidx a 0 fun f =>
 br (decide ((((f.toNat:Int)):Int)≠91)) (R (.returned (B false)) w) (sidx a (i64.wrap (((List.length a:Int)) - 1)) fun g =>
 br (decide ((((g.toNat:Int)):Int)≠93)) (R (.returned (B false)) w) (e w))))
theorem q0j {a R w} (h:qxz a R w):Calls prog qnx ⟨[S a]⟩ w R:=qb Tryz.func184 (Eq.mpr (by kernel_rfl:fnV _ _ qyl _ _ _=_) h)
def qwx:Ann:=T F (T (T F (T (T F F) F)) (T F (T F F)))
def qvm (a:List UInt8) (R:Ending→World→Prop) (w:World):Prop :=
 br (decide ((((List.length a:Int)):Int)≠1)) (R (.returned (B false)) w) (sidx a 0 fun d =>
 Calls prog 91 ⟨[.int .u8 ((d.toNat:Int))]⟩ w fun e c =>
 ∃ b,e=.returned (I b)∧br (decide (b=5)) (R (.returned (B true)) c) (R (.returned (.bool (decide (b=4)))) c))
theorem qx9 {a R w} (h:qvm a R w):Calls prog qla ⟨[S a]⟩ w R:=qb Tryz.func185 (Eq.mpr (by kernel_rfl:fnV _ _ qwx _ _ _=_) h)
def qrn:Ann:=T F (T F F)
def qp8 (a:List UInt8) (b:List UInt8) (c:List UInt8) (d:Int) (e:Int) (f:List UInt8) (R:Ending→World→Prop) (w:World):Prop :=
 al w 117 [S a,S b,S c,I d,I e,S f] fun i g =>
 ∃ h,g.cell? (i.add 4)=some (I h)∧(R (.returned (.bool (decide (((bitA .i64 h 10):Int)=0)))) g)
theorem qto {a b c d e f R w} (h:qp8 a b c d e f R w):Calls prog qia ⟨[.agg ⟨[S a,S b,S c,I d,I e,S f]⟩]⟩ w R:=qb Tryz.func186 (Eq.mpr (by kernel_rfl:fnV _ _ qrn _ _ _=_) h)
def qww:Ann:=T F (T (T F (.one (.loop 32716 [(6,.one (.int .i64))] (T F (T (T F F) (T (.one (T F (T F (T (T F F) F)))) F)))))) (T F F))
def qvl (b:List UInt8) (R:Ending→World→Prop) (w:World):Prop :=
 ∃ (f:Int→World→Nat→Prop),(∃ k,f 0 w k)∧∀ a c g,f a c g→∀ _:Env,(br (decide ((a:Int) < ((List.length b:Int)))) (sidx b a fun i =>
 Calls prog 214 ⟨[.int .u8 ((i.toNat:Int))]⟩ c fun j h =>
 ∃ e,j=.returned (B e)∧br (!e) (R (.returned (B false)) h) (∃ d,d < g∧f (i64.wrap (a + 1)) h d)) (br (decide ((b:List UInt8)≠([]))) (R (.returned (.bool (decide ((((List.length b:Int)):Int)≤64)))) c) (R (.returned (B false)) c)))
theorem qx8 {a R w} (h:qvl a R w):Calls prog qk9 ⟨[S a]⟩ w R:=qb Tryz.func187 (Eq.mpr (by kernel_rfl:fnV _ _ qww _ _ _=_) h)
def qt8:Ann:=T F (T F F)
def qsh (a:List UInt8) (R:Ending→World→Prop) (w:World):Prop :=
 br (decide ((a:List UInt8)=([]))) (R (.returned (B true)) w) (Calls prog 140 ⟨[S a]⟩ w fun c d =>
 ∃ b,c=.returned (B b)∧R (.returned (B b)) d)
theorem qwc {a R w} (h:qsh a R w):Calls prog qjo ⟨[S a]⟩ w R:=qb Tryz.func188 (Eq.mpr (by kernel_rfl:fnV _ _ qt8 _ _ _=_) h)
def qbk:Ann:=T F (T F F)
def qbi (f:Option Addr) (d:Nat) (c:Nat) (e:Fn) (a:Array Value) (b:Array Value) (R:Ending→World→Prop) (w:World):Prop :=
 Calls prog 215 ⟨[L f d c,.func e a b]⟩ w fun h i =>
 ∃ g,h=.returned (I g)∧(R (.returned (.bool (decide ((0:Int)≤g)))) i)
theorem qbt {f d c e a b R w} (h:qbi f d c e a b R w):Calls prog qbz ⟨[L f d c,.func e a b]⟩ w R:=qb Tryz.func189 (Eq.mpr (by kernel_rfl:fnV _ _ qbk _ _ _=_) h)
def qno:Ann:=T F (T F F)
def qfu (c:Option Addr) (a:Nat) (b:Nat) (R:Ending→World→Prop) (w:World):Prop :=
 R (.returned (.bool (decide ((1024:Int) < ((a:Int)))))) w
theorem qo3 {c b a R w} (h:qfu c b a R w):Calls prog qpj ⟨[L c b a]⟩ w R:=qb Tryz.func190 (Eq.mpr (by kernel_rfl:fnV _ _ qno _ _ _=_) h)
def qws:Ann:=T F (T F F)
def qvh (e:Option Addr) (b:Nat) (a:Nat) (f:Option Addr) (d:Nat) (c:Nat) (R:Ending→World→Prop) (w:World):Prop :=
 Calls prog 216 ⟨[L e b a,L f d c,.func (.func 217) #[] #[]]⟩ w fun h i =>
 ∃ g,h=.returned (B g)∧(R (.returned (B g)) i)
theorem qx6 {e b a f d c R w} (h:qvh e b a f d c R w):Calls prog qgf ⟨[L e b a,L f d c]⟩ w R:=qb Tryz.func191 (Eq.mpr (by kernel_rfl:fnV _ _ qws _ _ _=_) h)
def qb7:Ann:=T F (T F F)
def qb2 (f:Option Addr) (d:Nat) (c:Nat) (e:Fn) (a:Array Value) (b:Array Value) (R:Ending→World→Prop) (w:World):Prop :=
 Calls prog 160 ⟨[L f d c,.func e a b]⟩ w fun h i =>
 ∃ g,h=.returned (I g)∧(R (.returned (.bool (decide ((0:Int)≤g)))) i)
theorem qcd {f d c e a b R w} (h:qb2 f d c e a b R w):Calls prog qak ⟨[L f d c,.func e a b]⟩ w R:=qb Tryz.func192 (Eq.mpr (by kernel_rfl:fnV _ _ qb7 _ _ _=_) h)
def qo6:Ann:=T F (T F F)
def qoe (k:Int) (l:Int) (m:Option Addr) (h:Nat) (g:Nat) (e:Option Addr) (f:Option Addr) (R:Ending→World→Prop) (w:World):Prop :=
 al w 123 [I k,I l,L m h g] fun j a =>
 ∃ n,a.cell? (j.add 0)=some (I n)∧(dr e fun o =>
 ∃ b,a.cell? o=some (I b)∧br (decide (n≤b)) (dr f fun i =>
 ∃ c,a.cell? i=some (I c)∧∃ d,a.cell? (j.add 1)=some (I d)∧R (.returned (.bool (decide (c≤d)))) a) (R (.returned (B false)) a))
theorem qq1 {e f g d c a b R w} (h:qoe e f g d c a b R w):Calls prog qr6 ⟨[.agg ⟨[I e,I f,L g d c]⟩,.pointer a,.pointer b]⟩ w R:=qb Tryz.func193 (Eq.mpr (by kernel_rfl:fnV _ _ qo6 _ _ _=_) h)
def qfk:Ann:=T F (T (T F (.one (.loop 524080 [(8,.one (.int .i64))] (T F (T (T F F) (T (.one (T F (T F (T (T F F) F)))) F)))))) (T F F))
def qff (o:Option Addr) (b:Nat) (s:Nat) (m:Fn) (j:Array Value) (k:Array Value) (R:Ending→World→Prop) (w:World):Prop :=
 ∃ (i:Int→World→Nat→Prop),(∃ q,i 0 w q)∧∀ a c n,i a c n→∀ _:Env,(br (decide ((a:Int) < ((b:Int)))) (idx o b a 1 fun r =>
 ∃ p h g,c.cell? r=some (L p h g)∧CallV prog (.func m j k) [L p h g] c fun l e =>
 ∃ f,l=.returned (B f)∧br f (R (.returned (I a)) e) (∃ d,d < n∧i (i64.wrap (a + 1)) e d)) (R (.returned (.int .i64 ((-1)))) c))
theorem qfz {f d c e a b R w} (h:qff f d c e a b R w):Calls prog qf9 ⟨[L f d c,.func e a b]⟩ w R:=qb Tryz.func194 (Eq.mpr (by kernel_rfl:fnV _ _ qfk _ _ _=_) h)
def qr0:Ann:=T F (T F F)
def qg3 (f:Option Addr) (c:Nat) (i:Nat) (d:Option Addr) (e:Option Addr) (R:Ending→World→Prop) (w:World):Prop :=
 drw w fun a =>
 dr d fun j =>
 ∃ g,a.cell? j=some (I g)∧(idx f c g 1 fun k =>
 ∃ h,a.cell? k=some (I h)∧dr e fun l =>
 ∃ b,a.cell? l=some (I b)∧R (.returned (.bool (decide (h=b)))) a)
theorem qt1 {e b a c d R w} (h:qg3 e b a c d R w):Calls prog qu9 ⟨[L e b a,.pointer c,.pointer d]⟩ w R:=qb Tryz.func195 (Eq.mpr (by kernel_rfl:fnV _ _ qr0 _ _ _=_) h)
def qez:Ann:=T F (T (T F (.one (.loop 524080 [(8,.one (.int .i64))] (T F (T (T F F) (T (.one (T F (T F (T (T F F) F)))) F)))))) (T F F))
def qer (m:Option Addr) (b:Nat) (q:Nat) (k:Fn) (h:Array Value) (i:Array Value) (R:Ending→World→Prop) (w:World):Prop :=
 ∃ (g:Int→World→Nat→Prop),(∃ o,g 0 w o)∧∀ a c l,g a c l→∀ _:Env,(br (decide ((a:Int) < ((b:Int)))) (idx m b a 1 fun p =>
 ∃ n,c.cell? p=some (.int .u8 n)∧CallV prog (.func k h i) [.int .u8 n] c fun j e =>
 ∃ f,j=.returned (B f)∧br f (R (.returned (I a)) e) (∃ d,d < l∧g (i64.wrap (a + 1)) e d)) (R (.returned (.int .i64 ((-1)))) c))
theorem qfh {f d c e a b R w} (h:qer f d c e a b R w):Calls prog qbx ⟨[L f d c,.func e a b]⟩ w R:=qb Tryz.func196 (Eq.mpr (by kernel_rfl:fnV _ _ qez _ _ _=_) h)
def qrm:Ann:=T F (T F (T F (T (T F (.one (.rf [0,2,4,10] 0))) (T (T F (.one (.rf [0,2,28] 0))) (T (T F (T (T F F) F)) (T F F))))))
def qp7 (d:Option Addr) (b:Nat) (a:Nat) (R:Ending→World→Prop) (w:World):Prop :=
 al w 41 [I 0] fun c a8 =>
 al a8 3 [I 0] fun Z a9 =>
 stL a9 Z 0 [I 4096] fun b0 =>
 al b0 39 [.nilFunc] fun a0 b1 =>
 stL b1 a0 0 [.func (.func 218) ⟨[]⟩ ⟨[.pointer (some Z)]⟩] fun b2 =>
 Calls prog 219 ⟨[L d b a]⟩ b2 fun U a1 =>
 ∃ D n o,U=.returned (.func D n o)∧(∀ k:Env,RFw prog none 39 (cdAt Tryz.f197 [1,1,1,0,1,2]) (upd (upd (upd (upd k 10 (.func D n o)) 4 (.pointer (some a0))) 2 (.pointer (some c))) 0 (L d b a)) [] a1 0 (fun e h =>
 Calls prog 219 ⟨[L d b a]⟩ h fun X a5 =>
 ∃ K r s,X=.returned (.func K r s)∧∀ m:Env,RFw prog none 39 (cdAt Tryz.f197 [1,1,1,1,0,1,2]) (upd (upd (upd m 28 (.func K r s)) 2 (.pointer (some c))) 0 (L d b a)) e a5 0 (fun g j =>
 Calls prog 221 ⟨[L d b a]⟩ j fun Y y =>
 ∃ M,Y=.returned (S M)∧br (decide ((65536:Int) < ((List.length M:Int)))) (stL y c 0 [I 4] fun a6 =>
 retD g a6 fun z =>
 ∃ N,z.cell? c=some (I N)∧R (.returned (I N)) z) (stL y c 0 [I 0] fun a7 =>
 retD g a7 fun A =>
 ∃ O,A.cell? c=some (I O)∧R (.returned (I O)) A)) (fun g j =>
 retD g j fun B =>
 ∃ Q,B.cell? c=some (I Q)∧R (.returned (I Q)) B) (fun g j =>
 False)) (fun e h =>
 retD e h fun C =>
 ∃ T,C.cell? c=some (I T)∧R (.returned (I T)) C) (fun e h =>
 Calls prog 219 ⟨[L d b a]⟩ h fun V a2 =>
 ∃ E p q,V=.returned (.func E p q)∧∀ l:Env,RFw prog none 39 (cdAt Tryz.f197 [1,1,1,1,0,1,2]) (upd (upd (upd l 28 (.func E p q)) 2 (.pointer (some c))) 0 (L d b a)) e a2 0 (fun f i =>
 Calls prog 221 ⟨[L d b a]⟩ i fun W t =>
 ∃ F,W=.returned (S F)∧br (decide ((65536:Int) < ((List.length F:Int)))) (stL t c 0 [I 4] fun a3 =>
 retD f a3 fun u =>
 ∃ G,u.cell? c=some (I G)∧R (.returned (I G)) u) (stL t c 0 [I 0] fun a4 =>
 retD f a4 fun v =>
 ∃ H,v.cell? c=some (I H)∧R (.returned (I H)) v)) (fun f i =>
 retD f i fun x =>
 ∃ J,x.cell? c=some (I J)∧R (.returned (I J)) x) (fun f i =>
 False)))
theorem qtn {c b a R w} (h:qp7 c b a R w):Calls prog qh9 ⟨[L c b a]⟩ w R:=qb Tryz.func197 (Eq.mpr (by kernel_rfl:fnV _ _ qrm _ _ _=_) h)
def qfb:Ann:=F
def qe7:Ann:=.one (T F (T (T F F) F))
def qmo (N:Option Addr) (M:Nat) (K:Nat) (d:Option Addr) (c:Option Addr) (E:Fn) (x:Array Value) (y:Array Value) (h:Int) (i:List UInt8) (j:Int) (k:Option Addr) (f:Nat) (e:Nat) (m:Int) (n:Bool) (l:Nat) (Kn Kr Kx:World→World→Prop) (w:World):Prop :=
 al w 281 [I 0,S [],I 0,L none 0 0,I 0,B false] fun g F =>
 stL F g 0 [I h,S i,I j,L k f e,I m,B n] fun r =>
 Ext w r∧∀ a:World,Upd l r a→(dr c fun A =>
 ∃ s o p,a.cell? A=some (.func s o p)∧CallV prog (.func s o p) [] a fun z b =>
 ∃ t,z=.returned (B t)∧br (!t) (dr d fun C =>
 stL b C 0 [I 4] fun G =>
 Kr a G) (∃ u,b.cell? (g.add 4)=some (I u)∧br (decide ((16:Int)≤u)) (∃ J q v,b.cell? ((g.add 0).add 3)=some (L J q v)∧br (decide ((0:Int) < (q))) (dr d fun D =>
 stL b D 0 [I 4] fun H =>
 Kr a H) (Kn a b)) (Kn a b)))
theorem qmz (base:Env) (q:Option Addr) (o:Nat) (n:Nat) (p:Option Addr) (a:Option Addr) (f:Fn) (b:Array Value) (c:Array Value) (g:Int) (h:List UInt8) (i:Int) (j:Option Addr) (e:Nat) (d:Nat) (k:Int) (m:Bool) (l:Nat) (Kn Kr Kx:World→World→Prop) (w:World):fragV prog 39 qfb qe7 (cdAt Tryz.f197 [1,1,1,0,1,2,5]) (cdAt Tryz.f197 [1,1,1,0,1,2,6]) l 0 Kn Kr Kx (updPs [11] [.agg ⟨[I g,S h,I i,L j e d,I k,B m]⟩] (upd (upd (upd (upd base 10 (.func f b c)) 4 (.pointer a)) 2 (.pointer p)) 0 (L q o n))) w=qmo q o n p a f b c g h i j e d k m l Kn Kr Kx w:=by kernel_rfl
theorem qm7:cdAt Tryz.f197 [1,1,1,0,1,2]=.rangeFunc (Operand.tmp 10) #[11] (cdAt Tryz.f197 [1,1,1,0,1,2,5]) (cdAt Tryz.f197 [1,1,1,0,1,2,6]):=by kernel_rfl
def qfa:Ann:=F
def qe6:Ann:=.one (T F (T F (T (T F F) F)))
def qmn (J:Option Addr) (H:Nat) (G:Nat) (o:Option Addr) (D:Fn) (z:Array Value) (A:Array Value) (e:Int) (f:List UInt8) (g:Int) (h:Option Addr) (d:Nat) (c:Nat) (i:Int) (j:Bool) (l:Nat) (Kn Kr Kx:World→World→Prop) (w:World):Prop :=
 al w 281 [I 0,S [],I 0,L none 0 0,I 0,B false] fun b E =>
 stL E b 0 [I e,S f,I g,L h d c,I i,B j] fun p =>
 Ext w p∧∀ a:World,Upd l p a→(∃ r,a.cell? (b.add 0)=some (I r)∧∃ s,a.cell? (b.add 1)=some (S s)∧∃ t,a.cell? (b.add 2)=some (I t)∧∃ u m k,a.cell? (b.add 3)=some (L u m k)∧∃ v,a.cell? (b.add 4)=some (I v)∧∃ x,a.cell? (b.add 5)=some (B x)∧Calls prog 220 ⟨[.agg ⟨[I r,S s,I t,L u m k,I v,B x]⟩]⟩ a fun C q =>
 ∃ n,C=.returned (I n)∧br (decide (n≠0)) (dr o fun y =>
 stL q y 0 [I n] fun F =>
 Kr a F) (Kn a q))
theorem qmy (base:Env) (p:Option Addr) (n:Nat) (m:Nat) (o:Option Addr) (e:Fn) (a:Array Value) (b:Array Value) (f:Int) (g:List UInt8) (h:Int) (i:Option Addr) (d:Nat) (c:Nat) (j:Int) (k:Bool) (l:Nat) (Kn Kr Kx:World→World→Prop) (w:World):fragV prog 39 qfa qe6 (cdAt Tryz.f197 [1,1,1,1,0,1,2,5]) (cdAt Tryz.f197 [1,1,1,1,0,1,2,6]) l 0 Kn Kr Kx (updPs [29] [.agg ⟨[I f,S g,I h,L i d c,I j,B k]⟩] (upd (upd (upd base 28 (.func e a b)) 2 (.pointer o)) 0 (L p n m))) w=qmn p n m o e a b f g h i d c j k l Kn Kr Kx w:=by kernel_rfl
theorem qm6:cdAt Tryz.f197 [1,1,1,1,0,1,2]=.rangeFunc (Operand.tmp 28) #[29] (cdAt Tryz.f197 [1,1,1,1,0,1,2,5]) (cdAt Tryz.f197 [1,1,1,1,0,1,2,6]):=by kernel_rfl
def qui:Ann:=T F (T (T F (T (T F F) F)) (T (T F (.one (.loop 2095156 [(11,.one (.int .i64))] (T F (T (T F F) (T (.one (T F (T F (T F (T (T F F) F))))) F)))))) (T F F)))
def qsr (c:Option Addr) (a:Nat) (m:Nat) (R:Ending→World→Prop) (w:World):Prop :=
 br (decide ((64:Int) < ((a:Int)))) (R (.returned (I 4)) w) (∃ (l:Int→World→Nat→Prop),(∃ t,l 0 w t)∧∀ b f o,l b f o→∀ _:Env,(br (decide ((b:Int) < ((a:Int)))) (idx c a b 2 fun p =>
 ∃ r,f.cell? (p.add 0)=some (S r)∧∃ s,f.cell? (p.add 1)=some (S s)∧al f 285 [S [],S []] fun d q =>
 stL q d 0 [S r,S s] fun e =>
 ∃ j,e.cell? (d.add 0)=some (S j)∧∃ k,e.cell? (d.add 1)=some (S k)∧Calls prog 222 ⟨[.agg ⟨[S j,S k]⟩]⟩ e fun n i =>
 ∃ g,n=.returned (I g)∧br (decide (g≠0)) (R (.returned (I g)) i) (∃ h,h < o∧l (i64.wrap (b + 1)) i h)) (R (.returned (I 0)) f)))
theorem qwm {c b a R w} (h:qsr c b a R w):Calls prog qjz ⟨[L c b a]⟩ w R:=qb Tryz.func198 (Eq.mpr (by kernel_rfl:fnV _ _ qui _ _ _=_) h)
def qrl:Ann:=T F (T (T F (T (T F F) F)) (.cut 129072 [(4,.one (.int .i64)),(5,.one (.int .i64))] (T F (T (T F F) F)) (T F (T (T F (.one (.rf [3,4,5,6,18] 0))) (T F F)))))
def qp6 (m:Option Addr) (j:Nat) (i:Nat) (h:Int) (R:Ending→World→Prop) (w:World):Prop :=
 al w 3 [I h] fun t F =>
 Calls prog 197 ⟨[L m j i]⟩ F fun E f =>
 ∃ D,E=.returned (I D)∧(br (decide (D≠0)) (R (.returned (.tuple ⟨[I 0,I 1]⟩)) f) (∀ (u:Int→Int→World→Prop),(∀ (d:Int) (c:Int) (n:World),(∀ _:Env,(al n 3 [I 0] fun e x =>
 stL x e 0 [I 0] fun y =>
 Calls prog 219 ⟨[L m j i]⟩ y fun v z =>
 ∃ o k l,v=.returned (.func o k l)∧∀ g:Env,RFw prog none 28 (cdAt Tryz.f199 [1,1,1,1,0,1,2]) (upd (upd (upd (upd (upd g 18 (.func o k l)) 6 (.pointer (some e))) 5 (I c)) 4 (I d)) 3 (.pointer (some t))) [] z 0 (fun a b =>
 ∃ q,b.cell? e=some (I q)∧retD a b fun B =>
 R (.returned (.tuple ⟨[I q,I 0]⟩)) B) (fun a b =>
 retD a b fun C =>
 R (.returned (.tuple ⟨[I d,I c]⟩)) C) (fun a b =>
 ∃ p,b.cell? e=some (I p)∧retD a b fun A =>
 R (.returned (.tuple ⟨[I p,I 0]⟩)) A)))→u d c n)→(∃ r,f.cell? t=some (I r)∧br (decide (r < 1)) (R (.returned (.tuple ⟨[I 0,I 8]⟩)) f) (∃ s,f.cell? t=some (I s)∧br (decide ((11:Int) < s)) (R (.returned (.tuple ⟨[I 0,I 8]⟩)) f) (u 0 0 f)))))
theorem qtm {d c b a R w} (h:qp6 d c b a R w):Calls prog qh8 ⟨[L d c b,I a]⟩ w R:=qb Tryz.func199 (Eq.mpr (by kernel_rfl:fnV _ _ qrl _ _ _=_) h)
def qe9:Ann:=F
def qe5:Ann:=.one (T F (T F F))
def qmm (b:Option Addr) (A:Int) (C:Int) (e:Option Addr) (x:Fn) (r:Array Value) (s:Array Value) (f:Int) (g:List UInt8) (h:Int) (i:Option Addr) (d:Nat) (c:Nat) (j:Int) (k:Bool) (l:Nat) (Kn Kr Kx:World→World→Prop) (w:World):Prop :=
 al w 281 [I 0,S [],I 0,L none 0 0,I 0,B false] fun m y =>
 stL y m 0 [I f,S g,I h,L i d c,I j,B k] fun n =>
 Ext w n∧∀ a:World,Upd l n a→(∃ o,a.cell? ((m.add 0).add 0)=some (I o)∧dr b fun t =>
 ∃ p,a.cell? t=some (I p)∧br (decide (o=p)) (dr e fun u =>
 ∃ q,a.cell? u=some (I q)∧dr e fun v =>
 stL a v 0 [.int .i64 (i64.wrap (q + 1))] fun z =>
 Kn a z) (Kn a a))
theorem qmx (base:Env) (a:Option Addr) (n:Int) (o:Int) (p:Option Addr) (f:Fn) (b:Array Value) (c:Array Value) (g:Int) (h:List UInt8) (i:Int) (j:Option Addr) (e:Nat) (d:Nat) (k:Int) (m:Bool) (l:Nat) (Kn Kr Kx:World→World→Prop) (w:World):fragV prog 28 qe9 qe5 (cdAt Tryz.f199 [1,1,1,1,0,1,2,5]) (cdAt Tryz.f199 [1,1,1,1,0,1,2,6]) l 0 Kn Kr Kx (updPs [19] [.agg ⟨[I g,S h,I i,L j e d,I k,B m]⟩] (upd (upd (upd (upd (upd base 18 (.func f b c)) 6 (.pointer p)) 5 (I o)) 4 (I n)) 3 (.pointer a))) w=qmm a n o p f b c g h i j e d k m l Kn Kr Kx w:=by kernel_rfl
theorem qm5:cdAt Tryz.f199 [1,1,1,1,0,1,2]=.rangeFunc (Operand.tmp 18) #[19] (cdAt Tryz.f199 [1,1,1,1,0,1,2,5]) (cdAt Tryz.f199 [1,1,1,1,0,1,2,6]):=by kernel_rfl
def qua:Ann:=T F (T F F)
def qsj (a:List UInt8) (b:Int) (e:Option Addr) (d:Nat) (c:Nat) (R:Ending→World→Prop) (w:World):Prop :=
 al w 115 [S a,I b] fun f h =>
 al h 224 [L e d c] fun g i =>
 R (.returned (.func (.func 223) ⟨[]⟩ ⟨[.pointer (some f),.pointer (some g)]⟩)) i
theorem qwe {a b e d c R w} (h:qsj a b e d c R w):Calls prog qjq ⟨[.agg ⟨[S a,I b]⟩,L e d c]⟩ w R:=qb Tryz.func200 (Eq.mpr (by kernel_rfl:fnV _ _ qua _ _ _=_) h)
def qjh:Ann:=T F (T F (.one (T F (T F (T F (T (T F (T F (.cut 128849018896 [(4,.one (.int .i64))] (T F (T F F)) (T F F)))) (T F F)))))))
def qi3 (a:Option Addr) (f3:Int) (f4:Int) (f5:Int) (f6:List UInt8) (f7:Int) (f8:Bool) (f9:List UInt8) (R:Ending→World→Prop) (w:World):Prop :=
 al w 268 [I f3,.int .u8 f4,I f5,S f6,I f7,B f8,S f9] fun b d =>
 ∃ n,d.cell? (b.add 0)=some (I n)∧(br (decide (n=1)) (∃ q,d.cell? (b.add 0)=some (I q)∧∃ r,d.cell? (b.add 1)=some (.int .u8 r)∧∃ s,d.cell? (b.add 2)=some (I s)∧∃ t,d.cell? (b.add 3)=some (S t)∧∃ u,d.cell? (b.add 4)=some (I u)∧∃ v,d.cell? (b.add 5)=some (B v)∧∃ x,d.cell? (b.add 6)=some (S x)∧Calls prog 225 ⟨[.pointer a,.agg ⟨[I q,.int .u8 r,I s,S t,I u,B v,S x]⟩]⟩ d fun a3 d1 =>
 a3=.returned (.tuple ⟨[]⟩)∧R (.returned (.tuple ⟨[]⟩)) d1) (br (decide (n=6)) (Calls prog 202 ⟨[.pointer a]⟩ d fun a4 l =>
 a4=.returned (.tuple ⟨[]⟩)∧∀ (h:Int→World→Prop),(∀ (f:Int) (e:World),(∀ _:Env,(∃ y,e.cell? (b.add 0)=some (I y)∧∃ z,e.cell? (b.add 1)=some (.int .u8 z)∧∃ A,e.cell? (b.add 2)=some (I A)∧∃ C,e.cell? (b.add 3)=some (S C)∧∃ D,e.cell? (b.add 4)=some (I D)∧∃ E,e.cell? (b.add 5)=some (B E)∧∃ F,e.cell? (b.add 6)=some (S F)∧Calls prog 226 ⟨[.pointer a,.agg ⟨[I y,.int .u8 z,I A,S C,I D,B E,S F]⟩,I f]⟩ e fun a5 d2 =>
 a5=.returned (.tuple ⟨[]⟩)∧drw d2 fun g =>
 (Calls prog 227 ⟨[.pointer a]⟩ g fun a6 o =>
 ∃ G,a6=.returned (.pointer G)∧∃ H,o.cell? (b.add 2)=some (I H)∧((Calls prog 180 ⟨[I H]⟩ o fun a7 d3 =>
 ∃ J,a7=.returned (S J)∧(sadd ([91]) J fun c5 =>
 sadd c5 ([93]) fun c6 =>
 dr G fun b3 =>
 (stL d3 (b3.add 0) 0 [S c6] fun d4 =>
 R (.returned (.tuple ⟨[]⟩)) d4)∧True))∧True))∧((Calls prog 227 ⟨[.pointer a]⟩ g fun a8 p =>
 ∃ K,a8=.returned (.pointer K)∧∃ L,p.cell? (b.add 2)=some (I L)∧((Calls prog 180 ⟨[I L]⟩ p fun a9 d5 =>
 ∃ M,a9=.returned (S M)∧(sadd ([91]) M fun c7 =>
 sadd c7 ([93]) fun c8 =>
 dr K fun b4 =>
 (stL d5 (b4.add 0) 0 [S c8] fun d6 =>
 R (.returned (.tuple ⟨[]⟩)) d6)∧True))∧True))∧(∃ N,g.cell? (b.add 2)=some (I N)∧((Calls prog 227 ⟨[.pointer a]⟩ g fun b0 d7 =>
 ∃ O,b0=.returned (.pointer O)∧((Calls prog 180 ⟨[I N]⟩ d7 fun b1 d8 =>
 ∃ Q,b1=.returned (S Q)∧(sadd ([91]) Q fun c9 =>
 sadd c9 ([93]) fun d0 =>
 dr O fun b5 =>
 (stL d8 (b5.add 0) 0 [S d0] fun d9 =>
 R (.returned (.tuple ⟨[]⟩)) d9)∧True))∧True))∧True))∧True)∧True))→h f e)→(∃ T,l.cell? (b.add 5)=some (B T)∧br T (h (bitO .i64 2 1) l) (h 2 l))) (Calls prog 202 ⟨[.pointer a]⟩ d fun b2 e0 =>
 b2=.returned (.tuple ⟨[]⟩)∧drw e0 fun c =>
 dr a fun b6 =>
 ∃ U,c.cell? (b6.add 5)=some (B U)∧br U ((dr a fun b7 =>
 (stL c (b7.add 4) 0 [B false] fun e1 =>
 dr a fun b8 =>
 (stL e1 (b8.add 5) 0 [B true] fun e2 =>
 R (.returned (.tuple ⟨[]⟩)) e2)∧True)∧True)∧(dr a fun i =>
 ((stL c (i.add 4) 0 [B false] fun e3 =>
 dr a fun b9 =>
 (stL e3 (b9.add 5) 0 [B true] fun e4 =>
 R (.returned (.tuple ⟨[]⟩)) e4)∧True)∧True)∧(((stL c (i.add 4) 0 [B false] fun e5 =>
 dr a fun c0 =>
 (stL e5 (c0.add 5) 0 [B true] fun e6 =>
 R (.returned (.tuple ⟨[]⟩)) e6)∧True)∧True)∧(stL c (i.add 4) 0 [B false] fun e7 =>
 dr a fun c1 =>
 (stL e7 (c1.add 5) 0 [B true] fun e8 =>
 R (.returned (.tuple ⟨[]⟩)) e8)∧True)∧True)∧True)∧True) ((∃ V,c.cell? (b.add 0)=some (I V)∧dr a fun c2 =>
 (stL c (c2.add 4) 0 [B false] fun e9 =>
 dr a fun c3 =>
 (stL e9 (c3.add 5) 0 [.bool (decide (V=5))] fun f0 =>
 R (.returned (.tuple ⟨[]⟩)) f0)∧True)∧True)∧(dr a fun j =>
 (∃ W,c.cell? (b.add 0)=some (I W)∧((stL c (j.add 4) 0 [B false] fun f1 =>
 dr a fun c4 =>
 (stL f1 (c4.add 5) 0 [.bool (decide (W=5))] fun f2 =>
 R (.returned (.tuple ⟨[]⟩)) f2)∧True)∧True))∧((∃ X,c.cell? (b.add 0)=some (I X)∧((stL c (j.add 4) 0 [B false] fun a0 =>
 dr a fun Y =>
 (stL a0 (Y.add 5) 0 [.bool (decide (X=5))] fun a1 =>
 R (.returned (.tuple ⟨[]⟩)) a1)∧True)∧True))∧(stL c (j.add 4) 0 [B false] fun k =>
 ∃ m,k.cell? (b.add 0)=some (I m)∧dr a fun Z =>
 (stL k (Z.add 5) 0 [.bool (decide (m=5))] fun a2 =>
 R (.returned (.tuple ⟨[]⟩)) a2)∧True)∧True)∧True)∧True))))
theorem qb4 {a b c d e f g i R w} (h:qi3 a b c d e f g i R w):Calls prog qem ⟨[.pointer a,.agg ⟨[I b,.int .u8 c,I d,S e,I f,B g,S i]⟩]⟩ w R:=qb Tryz.func201 (Eq.mpr (by kernel_rfl:fnV _ _ qjh _ _ _=_) h)
def qjg:Ann:=.cut 16380 [] (T F (T F F)) (T F F)
def qi2 (a:Option Addr) (R:Ending→World→Prop) (w:World):Prop :=
 ∀ (c:World→Prop),(∀  (J:World),(∀ _:Env,(dr a fun U =>
 stL J (U.add 3) 0 [B false] fun X =>
 dr a fun V =>
 Calls prog 228 ⟨[.pointer (some (V.add 1))]⟩ X fun T Y =>
 T=.returned (.tuple ⟨[]⟩)∧R (.returned (.tuple ⟨[]⟩)) Y))→c J)→(dr a fun W =>
 ∃ e,w.cell? (W.add 3)=some (B e)∧br e (drw w fun b =>
 (Calls prog 227 ⟨[.pointer a]⟩ b fun n D =>
 ∃ f,n=.returned (.pointer f)∧dr a fun v =>
 (Calls prog 89 ⟨[.pointer (some (v.add 1))]⟩ D fun o E =>
 ∃ g,o=.returned (S g)∧dr f fun x =>
 (stL E (x.add 0) 0 [S g] fun F =>
 c F)∧True)∧True)∧((Calls prog 227 ⟨[.pointer a]⟩ b fun p G =>
 ∃ h,p=.returned (.pointer h)∧dr a fun y =>
 (Calls prog 89 ⟨[.pointer (some (y.add 1))]⟩ G fun q H =>
 ∃ i,q=.returned (S i)∧dr h fun z =>
 (stL H (z.add 0) 0 [S i] fun I =>
 c I)∧True)∧True)∧(dr a fun d =>
 (Calls prog 227 ⟨[.pointer a]⟩ b fun r K =>
 ∃ j,r=.returned (.pointer j)∧((Calls prog 89 ⟨[.pointer (some (d.add 1))]⟩ K fun s L =>
 ∃ k,s=.returned (S k)∧dr j fun A =>
 (stL L (A.add 0) 0 [S k] fun M =>
 c M)∧True)∧True))∧((Calls prog 227 ⟨[.pointer a]⟩ b fun t N =>
 ∃ l,t=.returned (.pointer l)∧((Calls prog 89 ⟨[.pointer (some (d.add 1))]⟩ N fun u O =>
 ∃ m,u=.returned (S m)∧dr l fun C =>
 (stL O (C.add 0) 0 [S m] fun Q =>
 c Q)∧True)∧True))∧True)∧True)∧True)∧True) (c w))
theorem qef {a R w} (h:qi2 a R w):Calls prog qav ⟨[.pointer a]⟩ w R:=qb Tryz.func202 (Eq.mpr (by kernel_rfl:fnV _ _ qjg _ _ _=_) h)
def qni:Ann:=T F (T F F)
def qmd (a:List UInt8) (b:List UInt8) (c:List UInt8) (d:Int) (e:Int) (f:List UInt8) (R:Ending→World→Prop) (w:World):Prop :=
 al w 117 [S a,S b,S c,I d,I e,S f] fun i g =>
 ∃ h,g.cell? (i.add 0)=some (S h)∧(R (.returned (.bool (decide ((64:Int) < ((List.length h:Int)))))) g)
theorem qox {a b c d e f R w} (h:qmd a b c d e f R w):Calls prog qc5 ⟨[.agg ⟨[S a,S b,S c,I d,I e,S f]⟩]⟩ w R:=qb Tryz.func203 (Eq.mpr (by kernel_rfl:fnV _ _ qni _ _ _=_) h)
def qkz:Ann:=T F (T (T F (.one (.loop 281474976709104 [(11,.one (.int .i64))] (T F (T (T F F) (T (.one (T F (T F (T (T F (T F F)) (T F (T (T F (T (T F F) F)) F)))))) F)))))) (T F F))
def qka (h:Option Addr) (g:Nat) (f:Nat) (d:Option Addr) (b:Nat) (z:Nat) (R:Ending→World→Prop) (w:World):Prop :=
 ∃ (k:Int→World→Nat→Prop),(∃ K,k 0 w K)∧∀ a l A,k a l A→∀ _:Env,(br (decide ((a:Int) < ((b:Int)))) (idx d b a 6 fun M =>
 ∃ J,l.cell? (M.add 0)=some (S J)∧idx d b a 6 fun E =>
 stL l (E.add 1) 0 [S J] fun c =>
 idx d b a 6 fun e =>
 ∃ p,c.cell? (e.add 0)=some (S p)∧∃ q,c.cell? (e.add 1)=some (S q)∧∃ r,c.cell? (e.add 2)=some (S r)∧∃ s,c.cell? (e.add 3)=some (I s)∧∃ t,c.cell? (e.add 4)=some (I t)∧∃ u,c.cell? (e.add 5)=some (S u)∧Calls prog 186 ⟨[.agg ⟨[S p,S q,S r,I s,I t,S u]⟩]⟩ c fun C i =>
 ∃ v,C=.returned (B v)∧br (!v) (∃ m,m < A∧k (i64.wrap (a + 1)) i m) (idx d b a 6 fun F =>
 ∃ x,i.cell? (F.add 0)=some (S x)∧Calls prog 229 ⟨[L h g f,S x]⟩ i fun D o =>
 ∃ y j,D=.returned (.tuple ⟨[S y,I j]⟩)∧br (decide (j≠0)) (R (.returned (.tuple ⟨[L none 0 0,I j]⟩)) o) (idx d b a 6 fun G =>
 stL o (G.add 1) 0 [S y] fun H =>
 ∃ n,n < A∧k (i64.wrap (a + 1)) H n))) (R (.returned (.tuple ⟨[L d b z,I 0]⟩)) l))
theorem qls {c b a f e d R w} (h:qka c b a f e d R w):Calls prog qfd ⟨[L c b a,L f e d]⟩ w R:=qb Tryz.func204 (Eq.mpr (by kernel_rfl:fnV _ _ qkz _ _ _=_) h)
def qnj:Ann:=T F (.one (.loop 33554224 [(8,.one (.int .i64))] (T F (T (T F F) (T (.one (T F (T F (T F F)))) F)))))
def qme (h:Fn) (f:Array Value) (g:Array Value) (H:Option Addr) (J:Option Addr) (R:Ending→World→Prop) (w:World):Prop :=
 dr H fun U =>
 ∃ Q i T,w.cell? U=some (L Q i T)∧(∃ (j:Int→World→Nat→Prop),(∃ M,j 0 w M)∧∀ c e G,j c e G→∀ _:Env,(br (decide ((c:Int) < (i))) (idx Q i c 7 fun d =>
 ∃ n,e.cell? (d.add 0)=some (S n)∧∃ o,e.cell? (d.add 1)=some (I o)∧∃ p,e.cell? (d.add 2)=some (I p)∧∃ q,e.cell? (d.add 3)=some (I q)∧∃ r,e.cell? (d.add 4)=some (B r)∧∃ s,e.cell? (d.add 5)=some (B s)∧∃ t,e.cell? (d.add 6)=some (S t)∧al e 36 [S [],I 0,I 0,I 0,B false,B false,S []] fun b O =>
 stL O b 0 [S n,I o,I p,I q,B r,B s,S t] fun a =>
 ∃ u,a.cell? (b.add 2)=some (I u)∧dr J fun N =>
 ∃ v,a.cell? N=some (I v)∧br (decide (u=v)) (∃ x,a.cell? (b.add 0)=some (S x)∧∃ y,a.cell? (b.add 1)=some (I y)∧∃ z,a.cell? (b.add 2)=some (I z)∧∃ A,a.cell? (b.add 3)=some (I A)∧∃ C,a.cell? (b.add 4)=some (B C)∧∃ D,a.cell? (b.add 5)=some (B D)∧∃ E,a.cell? (b.add 6)=some (S E)∧CallV prog (.func h f g) [I c,.agg ⟨[S x,I y,I z,I A,B C,B D,S E]⟩] a fun K m =>
 ∃ F,K=.returned (B F)∧br (!F) (R (.returned (.tuple ⟨[]⟩)) m) (∃ k,k < G∧j (i64.wrap (c + 1)) m k)) (∃ l,l < G∧j (i64.wrap (c + 1)) a l)) (R (.returned (.tuple ⟨[]⟩)) e)))
theorem qoy {c a b d e R w} (h:qme c a b d e R w):Calls prog qc6 ⟨[.func c a b,.pointer d,.pointer e]⟩ w R:=qb Tryz.func205 (Eq.mpr (by kernel_rfl:fnV _ _ qnj _ _ _=_) h)
end Go.Proofs
