/- Written by program: for each function its verification condition, that it is the code's (by the kernel), and that it gives the call. -/
import Derived.Test.YtkecgnlelgdndaaGreatDoorFn
set_option linter.all false
set_option maxRecDepth 100000
namespace Go.Proofs
open Go Go.Sh Go.Proofs.Tryz IntKind
def qn1:Ann:=T F (T F (T (T F (T (T F F) F)) (T (T F (T F (T (T F F) F))) (T F (T (T F (.one (.loop 40564819207303340847893428831872 [(7,.one (.slice)),(30,.one (.int .i64))] (T F (T (T F F) (T (.one (T F (T F (T F (.one (T F (T F (T F (T (T F (T (T (.cut 27670116110564327424 [(64,.one (.bool))] F (T (T F F) F)) F) F)) (.one F)))))))))) F)))))) (T F (T (T F (T F (T (T F F) F))) (T F F))))))))
def qmv (p4:List UInt8) (R:Ending→World→Prop) (w:World):Prop :=
 Calls prog 161 ⟨[S p4]⟩ w fun r3 p7 =>
 ∃ n6 c0 i7 n7,r3=.returned (.tuple ⟨[L n6 c0 i7,I n7]⟩)∧(br (decide (n7≠0)) (R (.returned (.tuple ⟨[L none 0 0,I n7]⟩)) p7) (Calls prog 162 ⟨[L n6 c0 i7]⟩ p7 fun r4 q5 =>
 ∃ n8,r4=.returned (I n8)∧br (decide (n8≠0)) (R (.returned (.tuple ⟨[L none 0 0,I n8]⟩)) q5) (al q5 56 [I 0,S [],I 0,L none 0 0] fun r5 p5 =>
 ∃ (e:Option Addr→Nat→Nat→Int→World→Nat→Prop),(∃ o5,e (some r5) 1 1 0 p5 o5)∧∀ b a c d j f,e b a c d j f→∀ _:Env,(br (decide ((d:Int) < (c0))) (idx n6 c0 d 4 fun b5 =>
 ∃ h2,j.cell? (b5.add 0)=some (I h2)∧∃ h3,j.cell? (b5.add 1)=some (S h3)∧∃ h4,j.cell? (b5.add 2)=some (S h4)∧∃ h5,j.cell? (b5.add 3)=some (I h5)∧al j 202 [I 0,S [],S [],I 0] fun g p6 =>
 stL p6 g 0 [I h2,S h3,S h4,I h5] fun h =>
 ∃ f0,h.cell? (g.add 0)=some (I f0)∧br (decide (f0=2)) (∃ h6,h.cell? (g.add 0)=some (I h6)∧∃ h7,h.cell? (g.add 1)=some (S h7)∧∃ h8,h.cell? (g.add 2)=some (S h8)∧∃ h9,h.cell? (g.add 3)=some (I h9)∧Calls prog 163 ⟨[.agg ⟨[I h6,S h7,S h8,I h9]⟩]⟩ h fun o3 p8 =>
 ∃ i0 i1 i2 i3 f2 f1,o3=.returned (.agg ⟨[I i0,S i1,I i2,L i3 f2 f1]⟩)∧al p8 56 [I i0,S i1,I i2,L i3 f2 f1] fun o6 p9 =>
 app prog [43,43] 43 (L b a c) (.slice (some o6) 1 1) p9 fun n9 j8 j7 q0 =>
 ∃ g5,g5 < f∧e n9 j8 j7 (i64.wrap (d + 1)) q0 g5) (br (decide (f0=3)) (br (decide ((0:Int) < (i64.wrap (((a:Int)) - 1)))) (∀ (c1:Bool→World→Prop),(∀ (G:Bool) (e7:World),(∀ _:Env,(br G (drw e7 fun m =>
 idx b a (i64.wrap ((i64.wrap (((a:Int)) - 1)) - 1)) 4 fun o7 =>
 ∃ i4 a9 f3,m.cell? (o7.add 3)=some (L i4 a9 f3)∧idx b a (i64.wrap (((a:Int)) - 1)) 4 fun b6 =>
 ∃ i5,m.cell? (b6.add 0)=some (I i5)∧∃ i6,m.cell? (b6.add 1)=some (S i6)∧∃ i8,m.cell? (b6.add 2)=some (I i8)∧∃ i9 f5 f4,m.cell? (b6.add 3)=some (L i9 f5 f4)∧((al m 56 [I 0,S [],I 0,L none 0 0] fun o8 q1 =>
 (app prog [43,43] 43 (L i4 a9 f3) (.slice (some o8) 1 1) q1 fun g4 c2 j9 q2 =>
 idx b a (i64.wrap ((i64.wrap (((a:Int)) - 1)) - 1)) 4 fun o9 =>
 (stL q2 (o9.add 3) 0 [L g4 c2 j9] fun q3 =>
 idx g4 c2 (a9) 4 fun p0 =>
 stL q3 p0 0 [I i5,S i6,I i8,L i9 f5 f4] fun q4 =>
 sls b c 0 (i64.wrap (((a:Int)) - 1)) 4 fun o0 k1 k0 =>
 ∃ g6,g6 < f∧e o0 k1 k0 (i64.wrap (d + 1)) q4 g6)∧True)∧True)∧True)) (drw e7 fun n =>
 idx b a (i64.wrap ((i64.wrap (((a:Int)) - 1)) - 1)) 4 fun p1 =>
 ∃ j0 f7 f6,n.cell? (p1.add 3)=some (L j0 f7 f6)∧idx b a (i64.wrap (((a:Int)) - 1)) 4 fun b7 =>
 ∃ j1,n.cell? (b7.add 0)=some (I j1)∧∃ j2,n.cell? (b7.add 1)=some (S j2)∧∃ j3,n.cell? (b7.add 2)=some (I j3)∧∃ j4 f9 f8,n.cell? (b7.add 3)=some (L j4 f9 f8)∧((al n 56 [I j1,S j2,I j3,L j4 f9 f8] fun p2 q6 =>
 (app prog [43,43] 43 (L j0 f7 f6) (.slice (some p2) 1 1) q6 fun o1 k3 k2 q7 =>
 idx b a (i64.wrap ((i64.wrap (((a:Int)) - 1)) - 1)) 4 fun p3 =>
 (stL q7 (p3.add 3) 0 [L o1 k3 k2] fun q8 =>
 sls b c 0 (i64.wrap (((a:Int)) - 1)) 4 fun o2 k5 k4 =>
 ∃ g7,g7 < f∧e o2 k5 k4 (i64.wrap (d + 1)) q8 g7)∧True)∧True)∧True))))→c1 G e7)→(drw h fun q9 =>
 (al q9 4 [B false] fun l g9 =>
 (stL g9 l 0 [B true] fun r0 =>
 (stL r0 l 0 [B false] fun h0 =>
 ∃ j5,h0.cell? l=some (B j5)∧(c1 j5 h0))∧True)∧(stL g9 l 0 [B false] fun r1 =>
 (stL r1 l 0 [B true] fun h1 =>
 ∃ j6,h1.cell? l=some (B j6)∧(c1 j6 h1))∧True)∧True)∧True)) (∃ g8,g8 < f∧e b a c (i64.wrap (d + 1)) h g8)) (drw h fun i =>
 idx b a (i64.wrap (((a:Int)) - 1)) 4 fun d9 =>
 ∃ H,i.cell? (g.add 0)=some (I H)∧∃ J,i.cell? (g.add 1)=some (S J)∧∃ K,i.cell? (g.add 2)=some (S K)∧∃ M,i.cell? (g.add 3)=some (I M)∧((∃ g0 k b0,i.cell? (d9.add 3)=some (L g0 k b0)∧((Calls prog 163 ⟨[.agg ⟨[I H,S J,S K,I M]⟩]⟩ i fun o4 r2 =>
 ∃ g1 g2 g3 U t s,o4=.returned (.agg ⟨[I g1,S g2,I g3,L U t s]⟩)∧((al r2 56 [I 0,S [],I 0,L none 0 0] fun l0 l5 =>
 (app prog [43,43] 43 (L g0 k b0) (.slice (some l0) 1 1) l5 fun N o b1 e0 =>
 idx N o (k) 4 fun d1 =>
 idx b a (i64.wrap (((a:Int)) - 1)) 4 fun d2 =>
 (stL e0 d1 0 [I g1,S g2,I g3,L U t s] fun l6 =>
 (stL l6 (d2.add 3) 0 [L N o b1] fun l7 =>
 ∃ c3,c3 < f∧e b a c (i64.wrap (d + 1)) l7 c3)∧True)∧(stL e0 (d2.add 3) 0 [L N o b1] fun l8 =>
 (stL l8 d1 0 [I g1,S g2,I g3,L U t s] fun l9 =>
 ∃ c4,c4 < f∧e b a c (i64.wrap (d + 1)) l9 c4)∧True)∧True)∧True)∧True))∧(al i 56 [I 0,S [],I 0,L none 0 0] fun l1 m0 =>
 (Calls prog 163 ⟨[.agg ⟨[I H,S J,S K,I M]⟩]⟩ m0 fun k6 m1 =>
 ∃ V W X Y v u,k6=.returned (.agg ⟨[I V,S W,I X,L Y v u]⟩)∧((app prog [43,43] 43 (L g0 k b0) (.slice (some l1) 1 1) m1 fun O p b2 e1 =>
 idx O p (k) 4 fun d3 =>
 idx b a (i64.wrap (((a:Int)) - 1)) 4 fun d4 =>
 (stL e1 d3 0 [I V,S W,I X,L Y v u] fun m2 =>
 (stL m2 (d4.add 3) 0 [L O p b2] fun m3 =>
 ∃ c5,c5 < f∧e b a c (i64.wrap (d + 1)) m3 c5)∧True)∧(stL e1 (d4.add 3) 0 [L O p b2] fun m4 =>
 (stL m4 d3 0 [I V,S W,I X,L Y v u] fun m5 =>
 ∃ c6,c6 < f∧e b a c (i64.wrap (d + 1)) m5 c6)∧True)∧True)∧True))∧True)∧True))∧(Calls prog 163 ⟨[.agg ⟨[I H,S J,S K,I M]⟩]⟩ i fun k7 e2 =>
 ∃ Z a0 a1 a2 y x,k7=.returned (.agg ⟨[I Z,S a0,I a1,L a2 y x]⟩)∧∃ e8 z b8,e2.cell? (d9.add 3)=some (L e8 z b8)∧((al e2 56 [I 0,S [],I 0,L none 0 0] fun l2 m6 =>
 (app prog [43,43] 43 (L e8 z b8) (.slice (some l2) 1 1) m6 fun Q q b3 e3 =>
 idx Q q (z) 4 fun d5 =>
 idx b a (i64.wrap (((a:Int)) - 1)) 4 fun d6 =>
 (stL e3 d5 0 [I Z,S a0,I a1,L a2 y x] fun m7 =>
 (stL m7 (d6.add 3) 0 [L Q q b3] fun m8 =>
 ∃ c7,c7 < f∧e b a c (i64.wrap (d + 1)) m8 c7)∧True)∧(stL e3 (d6.add 3) 0 [L Q q b3] fun m9 =>
 (stL m9 d5 0 [I Z,S a0,I a1,L a2 y x] fun n0 =>
 ∃ c8,c8 < f∧e b a c (i64.wrap (d + 1)) n0 c8)∧True)∧True)∧True)∧True))∧(al i 56 [I 0,S [],I 0,L none 0 0] fun l3 n1 =>
 (Calls prog 163 ⟨[.agg ⟨[I H,S J,S K,I M]⟩]⟩ n1 fun k8 e4 =>
 ∃ a3 a4 a5 a6 C A,k8=.returned (.agg ⟨[I a3,S a4,I a5,L a6 C A]⟩)∧∃ e9 D b9,e4.cell? (d9.add 3)=some (L e9 D b9)∧((app prog [43,43] 43 (L e9 D b9) (.slice (some l3) 1 1) e4 fun T r b4 e5 =>
 idx T r (D) 4 fun d7 =>
 idx b a (i64.wrap (((a:Int)) - 1)) 4 fun d8 =>
 (stL e5 d7 0 [I a3,S a4,I a5,L a6 C A] fun n2 =>
 (stL n2 (d8.add 3) 0 [L T r b4] fun n3 =>
 ∃ c9,c9 < f∧e b a c (i64.wrap (d + 1)) n3 c9)∧True)∧(stL e5 (d8.add 3) 0 [L T r b4] fun n4 =>
 (stL n4 d7 0 [I a3,S a4,I a5,L a6 C A] fun n5 =>
 ∃ d0,d0 < f∧e b a c (i64.wrap (d + 1)) n5 d0)∧True)∧True)∧True))∧True)∧True)))) (idx b a 0 4 fun l4 =>
 ∃ a7 F E,j.cell? (l4.add 3)=some (L a7 F E)∧Calls prog 71 ⟨[L a7 F E]⟩ j fun k9 e6 =>
 ∃ a8,k9=.returned (I a8)∧br (decide (a8≠0)) (R (.returned (.tuple ⟨[L none 0 0,I a8]⟩)) e6) (R (.returned (.tuple ⟨[L a7 F E,I 0]⟩)) e6))))))
theorem qp5 {a R w} (h:qmv a R w):Calls prog qgm ⟨[S a]⟩ w R:=qe Tryz.func107 (Eq.mpr (by kernel_rfl:fnV _ _ qn1 _ _ _=_) h)
def qqi:Ann:=T F (T F F)
def qoq (g:List UInt8) (h:Option Addr) (e:Nat) (d:Nat) (R:Ending→World→Prop) (w:World):Prop :=
 al w 45 [S g,L h e d] fun f c =>
 ∃ i,c.cell? (f.add 0)=some (S i)∧(∃ j b a,c.cell? (f.add 1)=some (L j b a)∧Calls prog 42 ⟨[.agg ⟨[S i,L j b a]⟩]⟩ c fun l m =>
 ∃ k,l=.returned (I k)∧R (.returned (.bool (decide (k≠0)))) m)
theorem qss {c d b a R w} (h:qoq c d b a R w):Calls prog qeb ⟨[.agg ⟨[S c,L d b a]⟩]⟩ w R:=qe Tryz.func108 (Eq.mpr (by kernel_rfl:fnV _ _ qqi _ _ _=_) h)
def an_slices_IndexFunc_of_api_Witness_api_Witness:Ann:=T F (T (T F (.one (.loop 524080 [(8,.one (.int .i64))] (T F (T (T F F) (T (.one (T F (T F (T (T F F) F)))) F)))))) (T F F))
def sh_slices_IndexFunc_of_api_Witness_api_Witness (q:Option Addr) (b:Nat) (t:Nat) (n:Fn) (k:Array Value) (l:Array Value) (R:Ending→World→Prop) (w:World):Prop :=
 ∃ (j:Int→World→Nat→Prop),(∃ s,j 0 w s)∧∀ a c o,j a c o→∀ _:Env,(br (decide ((a:Int) < ((b:Int)))) (idx q b a 2 fun p =>
 ∃ r,c.cell? (p.add 0)=some (S r)∧∃ h e d,c.cell? (p.add 1)=some (L h e d)∧CallV prog (.func n k l) [.agg ⟨[S r,L h e d]⟩] c fun m g =>
 ∃ i,m=.returned (B i)∧br i (R (.returned (I a)) g) (∃ f,f < o∧j (i64.wrap (a + 1)) g f)) (R (.returned (.int .i64 ((-1)))) c))
theorem c_slices_IndexFunc_of_api_Witness_api_Witness {f d c e a b R w} (h:sh_slices_IndexFunc_of_api_Witness_api_Witness f d c e a b R w):Calls prog F_slices_IndexFunc_of_api_Witness_api_Witness ⟨[L f d c,.func e a b]⟩ w R:=qe Tryz.func117 (Eq.mpr (by kernel_rfl:fnV _ _ an_slices_IndexFunc_of_api_Witness_api_Witness _ _ _=_) h)
def qkl:Ann:=T F (T F (T F F))
def qjl (a:Option Addr) (R:Ending→World→Prop) (w:World):Prop :=
 dr a fun e =>
 ∃ c,w.cell? e=some (I c)∧(dr a fun f =>
 stL w f 0 [.int .i64 (i64.wrap (c - 1))] fun b =>
 dr a fun g =>
 ∃ d,b.cell? g=some (I d)∧R (.returned (.bool (decide ((0:Int)≤d)))) b)
theorem qlq {a R w} (h:qjl a R w):Calls prog qe6 ⟨[.pointer a]⟩ w R:=qe Tryz.func118 (Eq.mpr (by kernel_rfl:fnV _ _ qkl _ _ _=_) h)
def qlt:Ann:=T F (T F F)
def qlh (c:Option Addr) (b:Nat) (a:Nat) (R:Ending→World→Prop) (w:World):Prop :=
 al w 43 [L c b a] fun d e =>
 R (.returned (.func (.func 171) ⟨[]⟩ ⟨[.pointer (some d)]⟩)) e
theorem qnn {c b a R w} (h:qlh c b a R w):Calls prog qfv ⟨[L c b a]⟩ w R:=qe Tryz.func119 (Eq.mpr (by kernel_rfl:fnV _ _ qlt _ _ _=_) h)
def qn0:Ann:=T F (T F (.cut 65284 [] (T F (T (T F F) F)) (T F (T F (T (.one (.cut 9007199246352384 [(23,.one (.bool))] F (T (T F F) (.cut 4722357475670390472704 [(53,.one (.bool))] F (T (T F F) (.cut 4830980911975647053611008 [(72,.one (.bool))] F (T (T F F) (.cut 1298074209798003628674107383480320 [(82,.one (.bool))] (.cut 4946924453863062582897672192 [(82,.one (.bool))] F (T F F)) (T (T F F) (.cut 43556141667805908689605042618642248761344 [(110,.one (.bool))] (.cut 331008924731595261318819140987781120 [(110,.one (.bool))] F (T F (.cut 20936639007827058705142093823497732096 [(110,.one (.bool))] F (T F F)))) (T (T F F) (.cut 11106816456299431447444547186572914421923840 [(135,.one (.bool))] F (T (T F F) (T F (T (T F F) F))))))))))))))) (T F F))))))
def qmu (f6:Int) (f7:List UInt8) (f8:Int) (f9:Option Addr) (e6:Nat) (e5:Nat) (g0:Int) (g1:Bool) (R:Ending→World→Prop) (w:World):Prop :=
 al w 159 [I f6,S f7,I f8,L f9 e6 e5,I g0,B g1] fun F N =>
 ∃ g9,N.cell? ((F.add 0).add 0)=some (I g9)∧(∃ a3,N.cell? ((F.add 0).add 1)=some (S a3)∧∃ a4,N.cell? ((F.add 0).add 2)=some (I a4)∧∃ a5 U T,N.cell? ((F.add 0).add 3)=some (L a5 U T)∧al N 56 [I 0,S [],I 0,L none 0 0] fun a g2 =>
 stL g2 a 0 [I g9,S a3,I a4,L a5 U T] fun A =>
 ∀ (a2:World→Prop),(∀  (j:World),(∀ _:Env,(∃ a6,j.cell? (a.add 0)=some (I a6)∧idx (some (⟨0,0,none⟩)) 12 a6 4 fun D =>
 ∃ a7,j.cell? (D.add 0)=some (S a7)∧∃ a8,j.cell? (D.add 1)=some (B a8)∧∃ a9,j.cell? (D.add 2)=some (B a9)∧∃ b0,j.cell? (D.add 3)=some (B b0)∧al j 211 [S [],B false,B false,B false] fun c g3 =>
 stL g3 c 0 [S a7,B a8,B a9,B b0] fun b =>
 ∃ V,b.cell? (a.add 0)=some (I V)∧∀ (e:Bool→World→Prop),(∀ (v:Bool) (d:World),(∀ _:Env,(br v (R (.returned (I 8)) d) (∀ (m:Bool→World→Prop),(∀ (x:Bool) (r:World),(∀ _:Env,(br x (R (.returned (I 5)) r) (∀ (G:Bool→World→Prop),(∀ (y:Bool) (s:World),(∀ _:Env,(br y (R (.returned (I 11)) s) (∀ (n:Bool→World→Prop),(∀ (z:Bool) (t:World),(∀ _:Env,(br z (R (.returned (I 14)) t) (∀ (o:Bool→World→Prop),(∀ (p:Bool) (u:World),(∀ _:Env,(br p (R (.returned (I 2)) u) (∀ (H:Bool→World→Prop),(∀ (q:Bool) (k:World),(∀ _:Env,(br q (R (.returned (I 10)) k) (∃ b1,k.cell? (a.add 0)=some (I b1)∧br (decide (b1=4)) (∃ b2,k.cell? (F.add 4)=some (I b2)∧br (decide ((0:Int) < b2)) (R (.returned (I 12)) k) (R (.returned (I 0)) k)) (R (.returned (I 0)) k))))→H q k)→(∃ b3,u.cell? (a.add 0)=some (I b3)∧br (decide (b3=1)) (∃ b4,u.cell? (F.add 5)=some (B b4)∧(H b4 u)) (H false u)))))→o p u)→(∀ (J:Bool→World→Prop),(∀ (g:Bool) (C:World),(∀ _:Env,(br g (o g C) (∀ (K:Bool→World→Prop),(∀ (h:Bool) (l:World),(∀ _:Env,(br h (o h l) (∃ b5,l.cell? (c.add 2)=some (B b5)∧br b5 (br (!(decide (V=6))) (∃ b6,l.cell? (a.add 2)=some (I b6)∧(o (decide ((8:Int) < b6)) l)) (o false l)) (o false l))))→K h l)→(br (decide (V=6)) (∃ b7,C.cell? (a.add 2)=some (I b7)∧(K (decide ((64:Int) < b7)) C)) (K false C)))))→J g C)→(∃ b8,t.cell? (c.add 2)=some (B b8)∧br b8 (∃ b9,t.cell? (a.add 2)=some (I b9)∧(J (decide (b9 < 1)) t)) (J false t))))))→n z t)→(∀ (M:Bool→World→Prop),(∀ (i:Bool) (f:World),(∀ _:Env,(br i (n i f) (∃ c0,f.cell? (c.add 1)=some (B c0)∧br c0 (∃ c1,f.cell? (a.add 0)=some (I c1)∧br (decide (c1≠1)) (∃ c2,f.cell? (a.add 0)=some (I c2)∧br (decide (c2≠10)) (∃ c3,f.cell? (a.add 1)=some (S c3)∧Calls prog 90 ⟨[S c3]⟩ f fun f3 g4 =>
 ∃ c4,f3=.returned (B c4)∧(n (!c4) g4)) (n false f)) (n false f)) (n false f))))→M i f)→(∃ c5,s.cell? (a.add 0)=some (I c5)∧br (decide (c5=10)) (∃ c6,s.cell? (a.add 1)=some (S c6)∧Calls prog 174 ⟨[S c6]⟩ s fun f4 g5 =>
 ∃ c7,f4=.returned (B c7)∧(M (!c7) g5)) (M false s))))))→G y s)→(∃ c8,r.cell? (a.add 0)=some (I c8)∧br (decide (c8=1)) (∃ c9,r.cell? (a.add 1)=some (S c9)∧Calls prog 173 ⟨[S c9]⟩ r fun f5 g6 =>
 ∃ d0,f5=.returned (I d0)∧(G (decide (d0≠0)) g6)) (G false r)))))→m x r)→(∃ d1,d.cell? (a.add 0)=some (I d1)∧br (decide (d1=1)) (∃ d2,d.cell? (a.add 1)=some (S d2)∧br (decide (d2=([]))) (m true d) (∃ d3,d.cell? (c.add 3)=some (B d3)∧br d3 (∃ g7 W e8,d.cell? (a.add 3)=some (L g7 W e8)∧(m (decide (((W):Int)=0)) d)) (m false d))) (∃ d4,d.cell? (c.add 3)=some (B d4)∧br d4 (∃ g8 X e9,d.cell? (a.add 3)=some (L g8 X e9)∧(m (decide (((X):Int)=0)) d)) (m false d))))))→e v d)→(∃ d5,b.cell? (c.add 1)=some (B d5)∧br (!d5) (∃ d6,b.cell? (a.add 1)=some (S d6)∧br (decide (d6≠([]))) (e true b) (∃ d7,b.cell? (c.add 2)=some (B d7)∧br (!d7) (∃ d8,b.cell? (a.add 2)=some (I d8)∧br (decide (d8≠0)) (e true b) (∃ d9,b.cell? (c.add 3)=some (B d9)∧br (!d9) (∃ h0 Y f0,b.cell? (a.add 3)=some (L h0 Y f0)∧(e (decide ((0:Int) < (Y))) b)) (e false b))) (∃ e0,b.cell? (c.add 3)=some (B e0)∧br (!e0) (∃ h1 Z f1,b.cell? (a.add 3)=some (L h1 Z f1)∧(e (decide ((0:Int) < (Z))) b)) (e false b)))) (∃ e1,b.cell? (c.add 2)=some (B e1)∧br (!e1) (∃ e2,b.cell? (a.add 2)=some (I e2)∧br (decide (e2≠0)) (e true b) (∃ e3,b.cell? (c.add 3)=some (B e3)∧br (!e3) (∃ h2 a0 f2,b.cell? (a.add 3)=some (L h2 a0 f2)∧(e (decide ((0:Int) < (a0))) b)) (e false b))) (∃ e4,b.cell? (c.add 3)=some (B e4)∧br (!e4) (∃ e7 E a1,b.cell? (a.add 3)=some (L e7 E a1)∧(e (decide ((0:Int) < (E))) b)) (e false b))))))→a2 j)→(∃ O,A.cell? (a.add 0)=some (I O)∧br (decide (O < 1)) (R (.returned (I 8)) A) (∃ Q,A.cell? (a.add 0)=some (I Q)∧br (decide ((11:Int) < Q)) (R (.returned (I 8)) A) (a2 A))))
theorem qp4 {c d e f b a g i R w} (h:qmu c d e f b a g i R w):Calls prog qgl ⟨[.agg ⟨[I c,S d,I e,L f b a,I g,B i]⟩]⟩ w R:=qe Tryz.func120 (Eq.mpr (by kernel_rfl:fnV _ _ qn0 _ _ _=_) h)
def qlv:Ann:=T F (T F (T F (T F (T F (T F F)))))
def qlj (h:Option Addr) (e:Nat) (d:Nat) (R:Ending→World→Prop) (w:World):Prop :=
 al w 116 [.pointer none,L none 0 0] fun i n =>
 al n 188 [.nilFunc] fun f o =>
 stL o f 0 [.func (.func 175) ⟨[]⟩ ⟨[.pointer (some i),.pointer (some f)]⟩] fun k =>
 ∃ l b c,k.cell? f=some (.func l b c)∧(CallV prog (.func l b c) [L h e d] k fun m p =>
 m=.returned (.tuple ⟨[]⟩)∧Calls prog 132 ⟨[.pointer (some i)]⟩ p fun g j =>
 ∃ a,g=.returned (S a)∧R (.returned (S a)) j)
theorem qnp {c b a R w} (h:qlj c b a R w):Calls prog qfw ⟨[L c b a]⟩ w R:=qe Tryz.func121 (Eq.mpr (by kernel_rfl:fnV _ _ qlv _ _ _=_) h)
def qvm:Ann:=T F (T F (T F (T F F)))
def qus (p:Option Addr) (m:Nat) (l:Nat) (c:Fn) (a:Array Value) (b:Array Value) (R:Ending→World→Prop) (w:World):Prop :=
 al w 164 [.func c a b] fun v x =>
 al x 108 [.nilFunc] fun n y =>
 stL y n 0 [.func (.func 177) ⟨[]⟩ ⟨[.pointer (some v),.pointer (some n)]⟩] fun s =>
 ∃ t j k,s.cell? n=some (.func t j k)∧(CallV prog (.func t j k) [L p m l] s fun u q =>
 ∃ h e d,u=.returned (L h e d)∧Calls prog 179 ⟨[L h e d]⟩ q fun o r =>
 ∃ i g f,o=.returned (L i g f)∧R (.returned (L i g f)) r)
theorem qki {f e d c a b R w} (h:qus f e d c a b R w):Calls prog qf0 ⟨[L f e d,.func c a b]⟩ w R:=qe Tryz.func122 (Eq.mpr (by kernel_rfl:fnV _ _ qvm _ _ _=_) h)
def qn9:Ann:=T F (T (T F (T (T F F) F)) (T F F))
def qm3 (D:Int) (E:List UInt8) (F:Int) (G:Option Addr) (v:Nat) (u:Nat) (e:Fn) (b:Array Value) (c:Array Value) (t:Option Addr) (R:Ending→World→Prop) (w:World):Prop :=
 al w 56 [I D,S E,I F,L G v u] fun d a =>
 ∃ C,a.cell? (d.add 0)=some (I C)∧(∃ l,a.cell? (d.add 2)=some (I l)∧dr t fun z =>
 ∃ m,a.cell? z=some (I m)∧br (decide (((decide (C=8)):Bool)=(decide (l≤m)))) (CallV prog (.func e b c) [] a fun x A =>
 ∃ n g f,x=.returned (L n g f)∧R (.returned (L n g f)) A) (∃ o,a.cell? (d.add 0)=some (I o)∧∃ p,a.cell? (d.add 1)=some (S p)∧∃ q,a.cell? (d.add 2)=some (I q)∧∃ r i h,a.cell? (d.add 3)=some (L r i h)∧Calls prog 124 ⟨[.agg ⟨[I o,S p,I q,L r i h]⟩]⟩ a fun y B =>
 ∃ s k j,y=.returned (L s k j)∧R (.returned (L s k j)) B))
theorem qqd {g i j k f e c a b d R w} (h:qm3 g i j k f e c a b d R w):Calls prog qrq ⟨[.agg ⟨[I g,S i,I j,L k f e]⟩,.func c a b,.pointer d]⟩ w R:=qe Tryz.func123 (Eq.mpr (by kernel_rfl:fnV _ _ qn9 _ _ _=_) h)
def qyx:Ann:=T F (T F (T (T F (.one (.rf [2,3,7] 0))) (T F F)))
def qwy (z:Int) (A:List UInt8) (B:Int) (C:Option Addr) (q:Nat) (p:Nat) (R:Ending→World→Prop) (w:World):Prop :=
 al w 56 [I z,S A,I B,L C q p] fun D E =>
 al E 43 [L none 0 0] fun o x =>
 ∃ y n m,x.cell? (D.add 3)=some (L y n m)∧(Calls prog 98 ⟨[L y n m]⟩ x fun r s =>
 ∃ j d e,r=.returned (.func j d e)∧∀ c:Env,RFw prog none 29 (cdAt Tryz.f124 [1,1,0,1,2]) (upd (upd (upd c 7 (.func j d e)) 3 (.pointer (some o))) 2 (L none 0 0)) [] s 0 (fun a b =>
 ∃ l i h,b.cell? o=some (L l i h)∧retD a b fun u =>
 R (.returned (L l i h)) u) (fun a b =>
 retD a b fun v =>
 R (.returned (L none 0 0)) v) (fun a b =>
 ∃ k g f,b.cell? o=some (L k g f)∧retD a b fun t =>
 R (.returned (L k g f)) t))
theorem q0q {c d e f b a R w} (h:qwy c d e f b a R w):Calls prog qmm ⟨[.agg ⟨[I c,S d,I e,L f b a]⟩]⟩ w R:=qe Tryz.func124 (Eq.mpr (by kernel_rfl:fnV _ _ qyx _ _ _=_) h)
def qgg:Ann:=F
def qge:Ann:=.one (.cut 4193792 [(21,.one (.bool))] F (T F F))
def qr8 (a0:Option Addr) (O:Nat) (N:Nat) (c:Option Addr) (a1:Fn) (Q:Array Value) (T:Array Value) (v:Int) (x:List UInt8) (y:Int) (z:Option Addr) (o:Nat) (n:Nat) (l:Nat) (Kn Kr Kx:World→World→Prop) (w:World):Prop :=
 al w 56 [I 0,S [],I 0,L none 0 0] fun b U =>
 stL U b 0 [I v,S x,I y,L z o n] fun B =>
 Ext w B∧∀ a:World,Upd l B a→(∀ (j:Bool→World→Prop),(∀ (e:Bool) (p:World),(∀ _:Env,(br e (drw p fun d =>
 dr c fun H =>
 ∃ D g q,d.cell? H=some (L D g q)∧∃ r,d.cell? (b.add 0)=some (I r)∧∃ s,d.cell? (b.add 1)=some (S s)∧∃ t,d.cell? (b.add 2)=some (I t)∧∃ u i h,d.cell? (b.add 3)=some (L u i h)∧((al d 56 [I 0,S [],I 0,L none 0 0] fun J V =>
 (app prog [43,43] 43 (L D g q) (.slice (some J) 1 1) V fun k f m C =>
 idx k f (g) 4 fun A =>
 (stL C A 0 [I r,S s,I t,L u i h] fun W =>
 (dr c fun K =>
 stL W K 0 [L k f m] fun X =>
 Kn a X)∧True)∧(dr c fun M =>
 stL C M 0 [L k f m] fun Y =>
 (stL Y A 0 [I r,S s,I t,L u i h] fun Z =>
 Kn a Z)∧True)∧True)∧True)∧True)) (Kn a p)))→j e p)→(∃ E,a.cell? (b.add 0)=some (I E)∧br (decide (E=2)) (j true a) (∃ F,a.cell? (b.add 0)=some (I F)∧br (decide (F=3)) (j true a) (∃ G,a.cell? (b.add 0)=some (I G)∧(j (decide (G=4)) a)))))
theorem qsk (base:Env) (h:Option Addr) (c:Nat) (b:Nat) (a:Option Addr) (i:Fn) (d:Array Value) (e:Array Value) (j:Int) (k:List UInt8) (m:Int) (n:Option Addr) (g:Nat) (f:Nat) (l:Nat) (Kn Kr Kx:World→World→Prop) (w:World):fragV prog 29 qgg qge (cdAt Tryz.f124 [1,1,0,1,2,5]) (cdAt Tryz.f124 [1,1,0,1,2,6]) l 0 Kn Kr Kx (updPs [8] [.agg ⟨[I j,S k,I m,L n g f]⟩] (upd (upd (upd base 7 (.func i d e)) 3 (.pointer a)) 2 (L h c b))) w=qr8 h c b a i d e j k m n g f l Kn Kr Kx w:=by kernel_rfl
theorem qsr:cdAt Tryz.f124 [1,1,0,1,2]=.rangeFunc (Operand.tmp 7) #[8] (cdAt Tryz.f124 [1,1,0,1,2,5]) (cdAt Tryz.f124 [1,1,0,1,2,6]):=by kernel_rfl
def qyj:Ann:=T F (T (T F (.one (.loop 2147483200 [(9,.one (.int .i64))] (T F (T (T F F) (T (.one (T F (.cut 67100672 [] (T F (.one (T F (T F (T F (T F F)))))) F))) F)))))) (T F F))
def qwk (J:List UInt8) (K:Int) (O:Option Addr) (i:Nat) (Y:Nat) (R:Ending→World→Prop) (w:World):Prop :=
 al w 51 [S J,I K] fun d Z =>
 al Z 51 [S [],I 0] fun M a0 =>
 ∃ (H:Int→World→Nat→Prop),(∃ Q,H 0 a0 Q)∧∀ c a p,H c a p→∀ _:Env,(br (decide ((c:Int) < ((i:Int)))) (idx O i c 4 fun g =>
 ∃ r,a.cell? (g.add 0)=some (I r)∧∃ s,a.cell? (g.add 1)=some (S s)∧∃ t,a.cell? (g.add 2)=some (I t)∧∃ u l k,a.cell? (g.add 3)=some (L u l k)∧al a 56 [I 0,S [],I 0,L none 0 0] fun h T =>
 stL T h 0 [I r,S s,I t,L u l k] fun b =>
 ∀ (f:World→Prop),(∀  (e:World),(∀ _:Env,(∃ v,e.cell? (d.add 0)=some (S v)∧∃ x,e.cell? (d.add 1)=some (I x)∧∃ y n m,e.cell? (h.add 3)=some (L y n m)∧Calls prog 125 ⟨[.agg ⟨[S v,I x]⟩,L y n m]⟩ e fun N U =>
 ∃ z A,N=.returned (.agg ⟨[S z,I A]⟩)∧stL U d 0 [S z,I A] fun V =>
 ∃ q,q < p∧H (i64.wrap (c + 1)) V q))→f e)→(∃ o,b.cell? (h.add 0)=some (I o)∧br (decide (o=3)) (∃ B,b.cell? (h.add 1)=some (S B)∧stL b d 0 [S B,I 0] fun W =>
 f W) (br (decide (o=2)) (∃ C,b.cell? (d.add 1)=some (I C)∧stL b (d.add 1) 0 [.int .i64 (i64.wrap (C + 1))] fun X =>
 f X) (f b)))) (∃ D,a.cell? (d.add 0)=some (S D)∧∃ E,a.cell? (d.add 1)=some (I E)∧stL a M 0 [S D,I E] fun j =>
 ∃ F,j.cell? (M.add 0)=some (S F)∧∃ G,j.cell? (M.add 1)=some (I G)∧R (.returned (.agg ⟨[S F,I G]⟩)) j))
theorem q0d {a b e d c R w} (h:qwk a b e d c R w):Calls prog ql9 ⟨[.agg ⟨[S a,I b]⟩,L e d c]⟩ w R:=qe Tryz.func125 (Eq.mpr (by kernel_rfl:fnV _ _ qyj _ _ _=_) h)
def qqs:Ann:=T F (T (.one (.cut 4088 [(3,.one (.bool))] F (T (T F F) (.cut 8384512 [(12,.one (.bool))] F (T (T F F) (.cut 17171480576 [(23,.one (.bool))] F (T (T F F) (T F (T (T F F) F))))))))) (T F F))
def qo0 (F:List UInt8) (G:List UInt8) (R:Ending→World→Prop) (w:World):Prop :=
 al w 91 [S F,S G] fun b j =>
 ∀ (z:Bool→World→Prop),(∀ (h:Bool) (f:World),(∀ _:Env,(br h (R (.returned (I 5)) f) (∀ (A:Bool→World→Prop),(∀ (d:Bool) (e:World),(∀ _:Env,(br d (R (.returned (I 4)) e) (∀ (g:Bool→World→Prop),(∀ (c:Bool) (a:World),(∀ _:Env,(br c (R (.returned (I 11)) a) (∃ k,a.cell? (b.add 1)=some (S k)∧∃ l,a.cell? (b.add 0)=some (S l)∧br (decide ((((List.length l:Int)):Int) < ((List.length k:Int)))) (R (.returned (I 24)) a) (∃ m,a.cell? (b.add 1)=some (S m)∧∃ n,a.cell? (b.add 0)=some (S n)∧br (decide ((((List.length m:Int)):Int)=((List.length n:Int)))) (∃ o,a.cell? (b.add 1)=some (S o)∧∃ p,a.cell? (b.add 0)=some (S p)∧br (!(Op.bytesLess o p)) (R (.returned (I 24)) a) (R (.returned (I 0)) a)) (R (.returned (I 0)) a)))))→g c a)→(∃ q,e.cell? (b.add 0)=some (S q)∧Calls prog 180 ⟨[S q]⟩ e fun C i =>
 ∃ r,C=.returned (B r)∧br (!r) (g true i) (∃ s,i.cell? (b.add 1)=some (S s)∧Calls prog 180 ⟨[S s]⟩ i fun D E =>
 ∃ t,D=.returned (B t)∧(g (!t) E))))))→A d e)→(∃ u,f.cell? (b.add 0)=some (S u)∧br (decide ((64:Int) < ((List.length u:Int)))) (A true f) (∃ v,f.cell? (b.add 1)=some (S v)∧(A (decide ((64:Int) < ((List.length v:Int)))) f))))))→z h f)→(∃ x,j.cell? (b.add 0)=some (S x)∧br (decide (x=([]))) (z true j) (∃ y,j.cell? (b.add 1)=some (S y)∧(z (decide (y=([]))) j)))
theorem qs2 {a b R w} (h:qo0 a b R w):Calls prog qh3 ⟨[.agg ⟨[S a,S b]⟩]⟩ w R:=qe Tryz.func126 (Eq.mpr (by kernel_rfl:fnV _ _ qqs _ _ _=_) h)
def qlx:Ann:=T F (T F (T F (T F F)))
def qll (c:Fn) (a:Array Value) (b:Array Value) (l:Option Addr) (m:Option Addr) (R:Ending→World→Prop) (w:World):Prop :=
 al w 166 [.func c a b] fun A n =>
 dr l fun q =>
 ∃ y,n.cell? (q.add 0)=some (S y)∧(∃ z,n.cell? (q.add 1)=some (I z)∧al n 123 [I 0,.int .u8 0,I 0,S [],I 0,B false,S []] fun r s =>
 stL s r 0 [I 0,.int .u8 0,I 0,S y,I z,B false,S []] fun t =>
 al t 89 [.nilFunc] fun d u =>
 stL u d 0 [.func (.func 128) ⟨[]⟩ ⟨[.pointer (some r),.pointer (some A),.pointer (some d)]⟩] fun e =>
 ∃ j f g,e.cell? d=some (.func j f g)∧dr m fun p =>
 ∃ k i h,e.cell? p=some (L k i h)∧CallV prog (.func j f g) [L k i h] e fun o v =>
 ∃ x,o=.returned (B x)∧R (.returned (.tuple ⟨[]⟩)) v)
theorem qnr {c a b d e R w} (h:qll c a b d e R w):Calls prog qbr ⟨[.func c a b,.pointer d,.pointer e]⟩ w R:=qe Tryz.func127 (Eq.mpr (by kernel_rfl:fnV _ _ qlx _ _ _=_) h)
def qje:Ann:=T F (T (T F (.one (.loop 9903520314283042199192987552 [(13,.one (.int .i64))] (T F (T (T F F) (T (.one (T F (.cut 8257536 [] F (T F (.one (T F (T F (T F (T F (T F (T (T F (.one (.loop 19340451930592631972692256 [(71,.one (.int .i64))] (T F (T (T F F) (T (.one (T F (T F (T F (T (T F F) F))))) F)))))) (.cut 290142196707511001929482240 [(84,.one (.bool))] (T F (T F (T F (T F F)))) (T (T F (T (T F F) F)) (T F (.cut 17112760320 [] F (.cut 1082331758592 [] (T F (T F F)) (T F (T F (T F (T (T F F) F)))))))))))))))))))) F)))))) (T F F))
def qi8 (i5:Option Addr) (H:Nat) (k3:Nat) (a:Option Addr) (Q:Option Addr) (h1:Option Addr) (R:Ending→World→Prop) (w:World):Prop :=
 ∃ (n:Int→World→Nat→Prop),(∃ k4,n 0 w k4)∧∀ c t p,n c t p→∀ _:Env,(br (decide ((c:Int) < ((H:Int)))) (idx i5 H c 4 fun x =>
 ∃ c5,t.cell? (x.add 0)=some (I c5)∧∃ c6,t.cell? (x.add 1)=some (S c6)∧∃ c7,t.cell? (x.add 2)=some (I c7)∧∃ c8 a7 a6,t.cell? (x.add 3)=some (L c8 a7 a6)∧al t 56 [I 0,S [],I 0,L none 0 0] fun d j6 =>
 stL j6 d 0 [I c5,S c6,I c7,L c8 a7 a6] fun j7 =>
 ∀ (u:World→Prop),(∀  (e:World),(∀ _:Env,(∃ h,e.cell? (d.add 0)=some (I h)∧br (decide (h=2)) (dr a fun i7 =>
 ∃ c9,e.cell? ((i7.add 3).add 1)=some (I c9)∧dr a fun i8 =>
 stL e ((i8.add 3).add 1) 0 [.int .i64 (i64.wrap (c9 + 1))] fun j8 =>
 ∃ b6,b6 < p∧n (i64.wrap (c + 1)) j8 b6) (br (decide (h=3)) (∃ d0,e.cell? (d.add 1)=some (S d0)∧dr a fun i9 =>
 stL e (i9.add 3) 0 [S d0,I 0] fun j9 =>
 ∃ b7,b7 < p∧n (i64.wrap (c + 1)) j9 b7) (br (decide (h=1)) (∃ d1,e.cell? (d.add 1)=some (S d1)∧∃ (E:Int→World→Nat→Prop),(∃ i6,E 0 e i6)∧∀ f y b8,E f y b8→∀ _:Env,(br (decide ((f:Int) < ((List.length d1:Int)))) (∃ d2,y.cell? (d.add 1)=some (S d2)∧(sidx d2 f fun i1 =>
 dr a fun j0 =>
 stL y (j0.add 1) 0 [.int .u8 ((i1.toNat:Int))] fun g =>
 dr Q fun j1 =>
 ∃ d3 a8 a9,g.cell? j1=some (.func d3 a8 a9)∧dr a fun j =>
 ∃ d4,g.cell? (j.add 0)=some (I d4)∧∃ d5,g.cell? (j.add 1)=some (.int .u8 d5)∧∃ d6,g.cell? (j.add 2)=some (I d6)∧∃ d7,g.cell? (j.add 3)=some (S d7)∧∃ d8,g.cell? (j.add 4)=some (I d8)∧∃ d9,g.cell? (j.add 5)=some (B d9)∧∃ e0,g.cell? (j.add 6)=some (S e0)∧CallV prog (.func d3 a8 a9) [.agg ⟨[I d4,.int .u8 d5,I d6,S d7,I d8,B d9,S e0]⟩] g fun i2 c2 =>
 ∃ e1,i2=.returned (B e1)∧br (!e1) (R (.returned (B false)) c2) (∃ b9,b9 < b8∧E (i64.wrap (f + 1)) c2 b9))) (∃ c0,c0 < p∧n (i64.wrap (c + 1)) y c0))) (∀ (v:Bool→World→Prop),(∀ (r:Bool) (b:World),(∀ _:Env,(br r (dr Q fun j2 =>
 ∃ e2 b0 b1,b.cell? j2=some (.func e2 b0 b1)∧dr a fun k =>
 ∃ e3,b.cell? (k.add 0)=some (I e3)∧∃ e4,b.cell? (k.add 1)=some (.int .u8 e4)∧∃ e5,b.cell? (k.add 2)=some (I e5)∧∃ e6,b.cell? (k.add 3)=some (S e6)∧∃ e7,b.cell? (k.add 4)=some (I e7)∧∃ e8,b.cell? (k.add 5)=some (B e8)∧∃ e9,b.cell? (k.add 6)=some (S e9)∧CallV prog (.func e2 b0 b1) [.agg ⟨[I e3,.int .u8 e4,I e5,S e6,I e7,B e8,S e9]⟩] b fun i3 c3 =>
 ∃ f0,i3=.returned (B f0)∧br (!f0) (R (.returned (B false)) c3) (∃ c1,c1 < p∧n (i64.wrap (c + 1)) c3 c1)) (dr a fun l =>
 ∃ f1,b.cell? (l.add 0)=some (I f1)∧∃ f2,b.cell? (l.add 1)=some (.int .u8 f2)∧∃ f3,b.cell? (l.add 2)=some (I f3)∧∃ f4,b.cell? (l.add 3)=some (S f4)∧∃ f5,b.cell? (l.add 4)=some (I f5)∧∃ f6,b.cell? (l.add 5)=some (B f6)∧∃ f7,b.cell? (l.add 6)=some (S f7)∧al b 123 [I 0,.int .u8 0,I 0,S [],I 0,B false,S []] fun q k0 =>
 stL k0 q 0 [I f1,.int .u8 f2,I f3,S f4,I f5,B f6,S f7] fun z =>
 ∀ (F:World→Prop),(∀  (s:World),(∀ _:Env,(∀ (G:World→Prop),(∀  (A:World),(∀ _:Env,(dr h1 fun j3 =>
 ∃ f8 b2 b3,A.cell? j3=some (.func f8 b2 b3)∧∃ f9 b5 b4,A.cell? (d.add 3)=some (L f9 b5 b4)∧CallV prog (.func f8 b2 b3) [L f9 b5 b4] A fun i4 k1 =>
 ∃ C,i4=.returned (B C)∧drw k1 fun m =>
 ∃ D,m.cell? (q.add 5)=some (B D)∧((∃ g0,m.cell? (q.add 6)=some (S g0)∧dr a fun j4 =>
 (stL m (j4.add 5) 0 [B D] fun k2 =>
 dr a fun j5 =>
 (stL k2 (j5.add 6) 0 [S g0] fun c4 =>
 br (!C) (R (.returned (B false)) c4) (∃ J,J < p∧n (i64.wrap (c + 1)) c4 J))∧True)∧True)∧(dr a fun N =>
 (∃ X,m.cell? (q.add 6)=some (S X)∧((stL m (N.add 5) 0 [B D] fun h2 =>
 dr a fun g1 =>
 (stL h2 (g1.add 6) 0 [S X] fun T =>
 br (!C) (R (.returned (B false)) T) (∃ K,K < p∧n (i64.wrap (c + 1)) T K))∧True)∧True))∧(stL m (N.add 5) 0 [B D] fun U =>
 ∃ Y,U.cell? (q.add 6)=some (S Y)∧dr a fun g2 =>
 (stL U (g2.add 6) 0 [S Y] fun V =>
 br (!C) (R (.returned (B false)) V) (∃ M,M < p∧n (i64.wrap (c + 1)) V M))∧True)∧True)∧True)))→G A)→(∃ Z,s.cell? (d.add 0)=some (I Z)∧br (decide (Z=11)) (∃ a0,s.cell? (d.add 1)=some (S a0)∧dr a fun g3 =>
 stL s (g3.add 6) 0 [S a0] fun h3 =>
 G h3) (G s))))→F s)→(dr a fun g4 =>
 ∃ a1,z.cell? (g4.add 5)=some (B a1)∧br a1 (dr a fun g5 =>
 stL z (g5.add 5) 0 [B true] fun h4 =>
 F h4) (∃ a2,z.cell? (d.add 0)=some (I a2)∧dr a fun g6 =>
 stL z (g6.add 5) 0 [.bool (decide (a2=7))] fun h5 =>
 F h5)))))→v r b)→(br (decide (h=6)) (v (decide (h=6)) e) (br (decide (h=5)) (v (decide (h=5)) e) (v (decide (h=4)) e))))))))→u e)→(drw j7 fun i =>
 ∃ o,i.cell? (d.add 0)=some (I o)∧((∃ a3,i.cell? (d.add 2)=some (I a3)∧dr a fun g7 =>
 (stL i (g7.add 0) 0 [I o] fun h6 =>
 dr a fun g8 =>
 (stL h6 (g8.add 2) 0 [I a3] fun h7 =>
 u h7)∧True)∧True)∧(dr a fun O =>
 (∃ a4,i.cell? (d.add 2)=some (I a4)∧((stL i (O.add 0) 0 [I o] fun h8 =>
 dr a fun g9 =>
 (stL h8 (g9.add 2) 0 [I a4] fun h9 =>
 u h9)∧True)∧True))∧(stL i (O.add 0) 0 [I o] fun W =>
 ∃ a5,W.cell? (d.add 2)=some (I a5)∧dr a fun h0 =>
 (stL W (h0.add 2) 0 [I a5] fun i0 =>
 u i0)∧True)∧True)∧True))) (R (.returned (B true)) t))
theorem qkf {f b a c d e R w} (h:qi8 f b a c d e R w):Calls prog qeu ⟨[L f b a,.pointer c,.pointer d,.pointer e]⟩ w R:=qe Tryz.func128 (Eq.mpr (by kernel_rfl:fnV _ _ qje _ _ _=_) h)
def qg2:Ann:=T F (T F (.cut 112 [(4,.one (.int .i64))] (T F (T F F)) (.one (.cut 4290772992 [(22,.one (.bool))] F (T (T F F) (T F (T (T F (T F F)) (T F (T (T F F) (T F (T F F)))))))))))
def qgz (a:Option Addr) (g5:Int) (g6:Int) (g7:Int) (g8:List UInt8) (g9:Int) (h0:Bool) (h1:List UInt8) (R:Ending→World→Prop) (w:World):Prop :=
 al w 123 [I g5,.int .u8 g6,I g7,S g8,I g9,B h0,S h1] fun b l =>
 ∀ (j:Int→World→Prop),(∀ (c:Int) (g:World),(∀ _:Env,(∀ (k:Bool→World→Prop),(∀ (f:Bool) (i:World),(∀ _:Env,(br f (Calls prog 131 ⟨[.pointer a]⟩ i fun c4 y =>
 ∃ u,c4=.returned (.pointer u)∧dr u fun d6 =>
 ∃ J,y.cell? (d6.add 4)=some (I J)∧dr u fun d7 =>
 stL y (d7.add 4) 0 [.int .i64 (bitO .i64 J c)] fun f1 =>
 drw f1 fun z =>
 dr a fun d8 =>
 ∃ K,z.cell? (b.add 1)=some (.int .u8 K)∧((Calls prog 182 ⟨[.pointer (some (d8.add 1)),.int .u8 K]⟩ z fun c5 f2 =>
 ∃ g3,c5=.returned (g3)∧R (.returned (.tuple ⟨[]⟩)) f2)∧True)) (∃ L,i.cell? (b.add 1)=some (.int .u8 L)∧Calls prog 183 ⟨[.int .u8 L]⟩ i fun c6 d =>
 ∃ M,c6=.returned (B M)∧br M (∃ N,d.cell? (b.add 0)=some (I N)∧∃ O,d.cell? (b.add 1)=some (.int .u8 O)∧∃ Q,d.cell? (b.add 2)=some (I Q)∧∃ T,d.cell? (b.add 3)=some (S T)∧∃ U,d.cell? (b.add 4)=some (I U)∧∃ V,d.cell? (b.add 5)=some (B V)∧∃ W,d.cell? (b.add 6)=some (S W)∧Calls prog 130 ⟨[.pointer a,.agg ⟨[I N,.int .u8 O,I Q,S T,I U,B V,S W]⟩,I c]⟩ d fun c7 f3 =>
 c7=.returned (.tuple ⟨[]⟩)∧dr a fun d9 =>
 stL f3 (d9.add 3) 0 [B true] fun f4 =>
 drw f4 fun A =>
 dr a fun e0 =>
 ∃ X,A.cell? (b.add 1)=some (.int .u8 X)∧((Calls prog 182 ⟨[.pointer (some (e0.add 1)),.int .u8 X]⟩ A fun c8 f5 =>
 ∃ g4,c8=.returned (g4)∧R (.returned (.tuple ⟨[]⟩)) f5)∧True)) (∃ Y,d.cell? (b.add 1)=some (.int .u8 Y)∧Calls prog 184 ⟨[.int .u8 Y]⟩ d fun c9 C =>
 ∃ Z,c9=.returned (I Z)∧br (decide (Z=6)) (Calls prog 82 ⟨[.pointer a]⟩ C fun d0 f6 =>
 d0=.returned (.tuple ⟨[]⟩)∧dr a fun e1 =>
 stL f6 (e1.add 4) 0 [B false] fun f7 =>
 R (.returned (.tuple ⟨[]⟩)) f7) (Calls prog 82 ⟨[.pointer a]⟩ C fun d1 e =>
 d1=.returned (.tuple ⟨[]⟩)∧∃ a0,e.cell? (b.add 0)=some (I a0)∧∃ a1,e.cell? (b.add 1)=some (.int .u8 a1)∧∃ a2,e.cell? (b.add 2)=some (I a2)∧∃ a3,e.cell? (b.add 3)=some (S a3)∧∃ a4,e.cell? (b.add 4)=some (I a4)∧∃ a5,e.cell? (b.add 5)=some (B a5)∧∃ a6,e.cell? (b.add 6)=some (S a6)∧Calls prog 130 ⟨[.pointer a,.agg ⟨[I a0,.int .u8 a1,I a2,S a3,I a4,B a5,S a6]⟩,.int .i64 (bitO .i64 c 8)]⟩ e fun d2 f8 =>
 d2=.returned (.tuple ⟨[]⟩)∧drw f8 fun h =>
 (Calls prog 131 ⟨[.pointer a]⟩ h fun d3 D =>
 ∃ a7,d3=.returned (.pointer a7)∧∃ a8,D.cell? (b.add 1)=some (.int .u8 a8)∧((al D 5 [.int .u8 a8] fun e2 E =>
 (b2s prog E (some e2) 1 1 fun e8 =>
 dr a7 fun e3 =>
 (stL E (e3.add 0) 0 [S e8] fun f9 =>
 R (.returned (.tuple ⟨[]⟩)) f9)∧True)∧True)∧True))∧((Calls prog 131 ⟨[.pointer a]⟩ h fun d4 F =>
 ∃ a9,d4=.returned (.pointer a9)∧∃ b0,F.cell? (b.add 1)=some (.int .u8 b0)∧((al F 5 [.int .u8 b0] fun e4 G =>
 (b2s prog G (some e4) 1 1 fun e9 =>
 dr a9 fun e5 =>
 (stL G (e5.add 0) 0 [S e9] fun g0 =>
 R (.returned (.tuple ⟨[]⟩)) g0)∧True)∧True)∧True))∧(∃ v,h.cell? (b.add 1)=some (.int .u8 v)∧((Calls prog 131 ⟨[.pointer a]⟩ h fun d5 g1 =>
 ∃ b1,d5=.returned (.pointer b1)∧((al g1 5 [.int .u8 v] fun e6 H =>
 (b2s prog H (some e6) 1 1 fun f0 =>
 dr b1 fun e7 =>
 (stL H (e7.add 0) 0 [S f0] fun g2 =>
 R (.returned (.tuple ⟨[]⟩)) g2)∧True)∧True)∧True))∧(al h 5 [.int .u8 v] fun x n =>
 (Calls prog 131 ⟨[.pointer a]⟩ n fun b2 m =>
 ∃ o,b2=.returned (.pointer o)∧((b2s prog m (some x) 1 1 fun b8 =>
 dr o fun b5 =>
 (stL m (b5.add 0) 0 [S b8] fun c0 =>
 R (.returned (.tuple ⟨[]⟩)) c0)∧True)∧True))∧(b2s prog n (some x) 1 1 fun b9 =>
 (Calls prog 131 ⟨[.pointer a]⟩ n fun b3 c1 =>
 ∃ p,b3=.returned (.pointer p)∧dr p fun b6 =>
 (stL c1 (b6.add 0) 0 [S b9] fun c2 =>
 R (.returned (.tuple ⟨[]⟩)) c2)∧True)∧True)∧True)∧True))∧True)∧True)))))→k f i)→(dr a fun b7 =>
 ∃ q,g.cell? (b7.add 3)=some (B q)∧br q (∃ r,g.cell? (b.add 1)=some (.int .u8 r)∧Calls prog 181 ⟨[.int .u8 r]⟩ g fun b4 c3 =>
 ∃ s,b4=.returned (B s)∧(k s c3)) (k false g))))→j c g)→(∃ t,l.cell? (b.add 5)=some (B t)∧br t (j 1 l) (j 0 l))
theorem qhj {a b c d e f g i R w} (h:qgz a b c d e f g i R w):Calls prog qc0 ⟨[.pointer a,.agg ⟨[I b,.int .u8 c,I d,S e,I f,B g,S i]⟩]⟩ w R:=qe Tryz.func129 (Eq.mpr (by kernel_rfl:fnV _ _ qg2 _ _ _=_) h)
def qf2:Ann:=T F (.cut 1048516 [(2,.one (.int .i64))] (T F (T F F)) (.cut 66060292 [(2,.one (.int .i64))] (T F (T F F)) (T F F)))
def qf1 (c:Option Addr) (T:Int) (U:Int) (V:Int) (W:List UInt8) (X:Int) (Y:Bool) (Z:List UInt8) (b:Int) (R:Ending→World→Prop) (w:World):Prop :=
 al w 123 [I T,.int .u8 U,I V,S W,I X,B Y,S Z] fun j e =>
 ∀ (g:Int→World→Prop),(∀ (a:Int) (h:World),(∀ _:Env,(∀ (i:Int→World→Prop),(∀ (d:Int) (n:World),(∀ _:Env,(drw n fun f =>
 dr c fun z =>
 ∃ o l k,f.cell? (z.add 0)=some (L o l k)∧∃ p,f.cell? ((j.add 3).add 0)=some (S p)∧∃ q,f.cell? ((j.add 3).add 1)=some (I q)∧∃ r,f.cell? (j.add 6)=some (S r)∧((al f 69 [S [],S [],S p,I q,I d,S r] fun A J =>
 (app prog [40,40] 40 (L o l k) (.slice (some A) 1 1) J fun y v u K =>
 dr c fun C =>
 (stL K (C.add 0) 0 [L y v u] fun M =>
 dr c fun D =>
 stL M (D.add 4) 0 [B true] fun N =>
 dr c fun E =>
 stL N (E.add 5) 0 [B false] fun O =>
 R (.returned (.tuple ⟨[]⟩)) O)∧True)∧True)∧True)))→i d n)→(dr c fun F =>
 ∃ s,h.cell? (F.add 5)=some (B s)∧br s (i (bitO .i64 a 4) h) (i a h))))→g a h)→(dr c fun G =>
 ∃ t,e.cell? (G.add 4)=some (B t)∧br t (dr c fun H =>
 ∃ Q m x,e.cell? (H.add 0)=some (L Q m x)∧br (decide ((0:Int) < (m))) (g (bitO .i64 b 16) e) (g b e)) (g b e))
theorem qg1 {b c d e f g i j a R w} (h:qf1 b c d e f g i j a R w):Calls prog qcn ⟨[.pointer b,.agg ⟨[I c,.int .u8 d,I e,S f,I g,B i,S j]⟩,I a]⟩ w R:=qe Tryz.func130 (Eq.mpr (by kernel_rfl:fnV _ _ qf2 _ _ _=_) h)
def qg3:Ann:=T F (T F F)
def qch (a:Option Addr) (R:Ending→World→Prop) (w:World):Prop :=
 drw w fun d =>
 dr a fun h =>
 ∃ e b f,d.cell? (h.add 0)=some (L e b f)∧(dr a fun i =>
 ∃ k c g,d.cell? (i.add 0)=some (L k c g)∧idx e b (i64.wrap ((c) - 1)) 6 fun j =>
 R (.returned (.pointer (some j))) d)
theorem qhk {a R w} (h:qch a R w):Calls prog qc1 ⟨[.pointer a]⟩ w R:=qe Tryz.func131 (Eq.mpr (by kernel_rfl:fnV _ _ qg3 _ _ _=_) h)
def qho:Ann:=T F F
def qhc (a:Option Addr) (R:Ending→World→Prop) (w:World):Prop :=
 dr a fun b =>
 stL w (b.add 0) 0 [.pointer none] fun d =>
 dr a fun c =>
 stL d (c.add 1) 0 [L none 0 0] fun e =>
 R (.returned (.tuple ⟨[]⟩)) e
theorem qij {a R w} (h:qhc a R w):Calls prog qdk ⟨[.pointer a]⟩ w R:=qe Tryz.func133 (Eq.mpr (by kernel_rfl:fnV _ _ qho _ _ _=_) h)
def qbv:Ann:=T F (T (T F (.one (.loop 524080 [(8,.one (.int .i64))] (T F (T (T F F) (T (.one (T F (T F (T (T F F) F)))) F)))))) (T F F))
def qbt (s:Option Addr) (d:Nat) (v:Nat) (q:Fn) (n:Array Value) (o:Array Value) (R:Ending→World→Prop) (w:World):Prop :=
 ∃ (m:Int→World→Nat→Prop),(∃ u,m 0 w u)∧∀ a b r,m a b r→∀ _:Env,(br (decide ((a:Int) < ((d:Int)))) (idx s d a 6 fun c =>
 ∃ t,b.cell? (c.add 0)=some (S t)∧∃ g,b.cell? (c.add 1)=some (S g)∧∃ h,b.cell? (c.add 2)=some (S h)∧∃ i,b.cell? (c.add 3)=some (I i)∧∃ j,b.cell? (c.add 4)=some (I j)∧∃ k,b.cell? (c.add 5)=some (S k)∧CallV prog (.func q n o) [.agg ⟨[S t,S g,S h,I i,I j,S k]⟩] b fun p f =>
 ∃ l,p=.returned (B l)∧br l (R (.returned (I a)) f) (∃ e,e < r∧m (i64.wrap (a + 1)) f e)) (R (.returned (.int .i64 ((-1)))) b))
theorem qb0 {f d c e a b R w} (h:qbt f d c e a b R w):Calls prog qb1 ⟨[L f d c,.func e a b]⟩ w R:=qe Tryz.func134 (Eq.mpr (by kernel_rfl:fnV _ _ qbv _ _ _=_) h)
def qn5:Ann:=T F (T F F)
def qmz (a:List UInt8) (b:List UInt8) (c:List UInt8) (d:Int) (e:Int) (f:List UInt8) (R:Ending→World→Prop) (w:World):Prop :=
 al w 69 [S a,S b,S c,I d,I e,S f] fun i g =>
 ∃ h,g.cell? (i.add 4)=some (I h)∧(R (.returned (.bool (decide (((bitA .i64 h 10):Int)=0)))) g)
theorem qp8 {a b c d e f R w} (h:qmz a b c d e f R w):Calls prog qgp ⟨[.agg ⟨[S a,S b,S c,I d,I e,S f]⟩]⟩ w R:=qe Tryz.func135 (Eq.mpr (by kernel_rfl:fnV _ _ qn5 _ _ _=_) h)
def qjg:Ann:=T F (T F (T (T F (T (T F F) F)) (T F F)))
def qja (c:Option Addr) (b:Nat) (a:Nat) (g:List UInt8) (R:Ending→World→Prop) (w:World):Prop :=
 Calls prog 185 ⟨[L c b a,S g]⟩ w fun k e =>
 ∃ h d i f,k=.returned (.tuple ⟨[L h d i,I f]⟩)∧(br (decide (f≠0)) (R (.returned (.tuple ⟨[S [],I f]⟩)) e) (idx h d (i64.wrap ((d) - 1)) 1 fun l =>
 ∃ j,e.cell? l=some (S j)∧R (.returned (.tuple ⟨[S j,I 0]⟩)) e))
theorem qkh {c b a d R w} (h:qja c b a d R w):Calls prog qev ⟨[L c b a,S d]⟩ w R:=qe Tryz.func136 (Eq.mpr (by kernel_rfl:fnV _ _ qjg _ _ _=_) h)
def q0w:Ann:=T F (T (T F (T (T F F) F)) (T (T F (T (T F F) F)) (T F F)))
def qzp (f:Option Addr) (e:Nat) (d:Nat) (a:Int) (b:Int) (R:Ending→World→Prop) (w:World):Prop :=
 Calls prog 94 ⟨[L f e d]⟩ w fun h c =>
 ∃ g,h=.returned (I g)∧(br (decide (g≠0)) (R (.returned (I 1)) c) (br (decide ((a:Int) < b)) (R (.returned (I 13)) c) (br (decide ((8:Int) < a)) (R (.returned (I 13)) c) (R (.returned (I 0)) c))))
theorem q4b {e d c b a R w} (h:qzp e d c b a R w):Calls prog qrb ⟨[L e d c,I b,I a]⟩ w R:=qe Tryz.func137 (Eq.mpr (by kernel_rfl:fnV _ _ q0w _ _ _=_) h)
def q01:Ann:=T F (T F (T (T F (.one (.loop 1180591620717411303288 [(3,.one (.slice)),(4,.one (.int .i64))] (T (T F (T F F)) (T (.one (T F (.cut 66846720 [] (T F (T F F)) (.cut 17112760320 [] (T F (T F F)) (T (T F (.cut 4503530907893760 [(51,.one (.bool))] F (T (T F F) F))) F))))) F))))) (T F F)))
def qzu (a6:Option Addr) (q:Nat) (b9:Nat) (R:Ending→World→Prop) (w:World):Prop :=
 al w 56 [] fun c1 c2 =>
 ∃ (n:Option Addr→Nat→Nat→Int→World→Nat→Prop),(∃ c0,n (some c1) 0 0 0 c2 c0)∧∀ b a d f k C,n b a d f k C→∀ _:Env,(br (decide ((f:Int) < ((q:Int)))) (idx a6 q f 4 fun m =>
 ∃ G,k.cell? (m.add 0)=some (I G)∧∃ H,k.cell? (m.add 1)=some (S H)∧∃ J,k.cell? (m.add 2)=some (I J)∧∃ K t s,k.cell? (m.add 3)=some (L K t s)∧al k 56 [I 0,S [],I 0,L none 0 0] fun c b2 =>
 stL b2 c 0 [I G,S H,I J,L K t s] fun i =>
 ∀ (o:World→Prop),(∀  (j:World),(∀ _:Env,(∀ (p:World→Prop),(∀  (g:World),(∀ _:Env,(∀ (l:Bool→World→Prop),(∀ (h:Bool) (e:World),(∀ _:Env,(br h (drw e fun r =>
 idx b a (i64.wrap (((a:Int)) - 1)) 4 fun a7 =>
 ∃ M,r.cell? (a7.add 1)=some (S M)∧∃ N,r.cell? (c.add 1)=some (S N)∧(sadd M N fun b1 =>
 idx b a (i64.wrap (((a:Int)) - 1)) 4 fun a8 =>
 (stL r (a8.add 1) 0 [S b1] fun b3 =>
 ∃ D,D < C∧n b a d (i64.wrap (f + 1)) b3 D)∧True)) (∃ O,e.cell? (c.add 0)=some (I O)∧∃ Q,e.cell? (c.add 1)=some (S Q)∧∃ T,e.cell? (c.add 2)=some (I T)∧∃ U v u,e.cell? (c.add 3)=some (L U v u)∧al e 56 [I O,S Q,I T,L U v u] fun a9 b4 =>
 app prog [43,43] 43 (L b a d) (.slice (some a9) 1 1) b4 fun a4 a2 a1 b5 =>
 ∃ E,E < C∧n a4 a2 a1 (i64.wrap (f + 1)) b5 E)))→l h e)→(∃ V,g.cell? (c.add 0)=some (I V)∧br (decide (V=1)) (br (decide ((0:Int) < ((a:Int)))) (idx b a (i64.wrap (((a:Int)) - 1)) 4 fun b0 =>
 ∃ W,g.cell? (b0.add 0)=some (I W)∧(l (decide (W=1)) g)) (l false g)) (l false g))))→p g)→(∃ b8 x a3,j.cell? (c.add 3)=some (L b8 x a3)∧br (decide ((0:Int) < (x))) (∃ X z y,j.cell? (c.add 3)=some (L X z y)∧Calls prog 138 ⟨[L X z y]⟩ j fun a5 b6 =>
 ∃ Y B A,a5=.returned (L Y B A)∧stL b6 (c.add 3) 0 [L Y B A] fun b7 =>
 p b7) (p j))))→o j)→(∃ Z,i.cell? (c.add 0)=some (I Z)∧br (decide (Z=1)) (∃ a0,i.cell? (c.add 1)=some (S a0)∧br (decide (a0=([]))) (∃ F,F < C∧n b a d (i64.wrap (f + 1)) i F) (o i)) (o i))) (R (.returned (L b a d)) k))
theorem qqc {c b a R w} (h:qzu c b a R w):Calls prog qin ⟨[L c b a]⟩ w R:=qe Tryz.func138 (Eq.mpr (by kernel_rfl:fnV _ _ q01 _ _ _=_) h)
def qvf:Ann:=T F (T F (T (T F (.one (.loop 1329227995784915872903807060280344448 [(7,.one (.slice)),(8,.one (.int .i64))] (T (T F (T F F)) (T (.one (T F (.one (.cut 17163091968 [(24,.one (.bool))] F (T F (.cut 562400197607424 [(39,.one (.bool))] F (T F (.cut 295075847585314897920 [(56,.one (.bool))] F (T (.one F) (T F (T F (T F (T F (.cut 2595989972942385285590061076709376 [(97,.one (.bool))] F (T (.one F) F))))))))))))))) F))))) (T F F)))
def qul (n9:Option Addr) (V:Nat) (p6:Nat) (f:Int) (b:Bool) (R:Ending→World→Prop) (w:World):Prop :=
 ∃ (j:Option Addr→Nat→Nat→Int→World→Nat→Prop),(∃ p7,j none 0 0 0 w p7)∧∀ e d c h v p,j e d c h v p→∀ _:Env,(br (decide ((h:Int) < ((V:Int)))) (idx n9 V h 4 fun E =>
 ∃ g8,v.cell? (E.add 0)=some (I g8)∧∃ g9,v.cell? (E.add 1)=some (S g9)∧∃ h0,v.cell? (E.add 2)=some (I h0)∧∃ h1 b9 b8,v.cell? (E.add 3)=some (L h1 b9 b8)∧al v 56 [I 0,S [],I 0,L none 0 0] fun a o0 =>
 stL o0 a 0 [I g8,S g9,I h0,L h1 b9 b8] fun F =>
 ∀ (T:Bool→World→Prop),(∀ (q:Bool) (l:World),(∀ _:Env,(br q (∃ h2 c1 c0,l.cell? (a.add 3)=some (L h2 c1 c0)∧Calls prog 186 ⟨[L h2 c1 c0]⟩ l fun m9 o1 =>
 ∃ h3 c3 c2,m9=.returned (L h3 c3 c2)∧app prog [43,43] 43 (L e d c) (L h3 c3 c2) o1 fun m3 k4 k3 o2 =>
 ∃ g2,g2 < p∧j m3 k4 k3 (i64.wrap (h + 1)) o2 g2) (∀ (U:Bool→World→Prop),(∀ (r:Bool) (i:World),(∀ _:Env,(br r (∃ h4 c5 c4,i.cell? (a.add 3)=some (L h4 c5 c4)∧Calls prog 139 ⟨[L h4 c5 c4,I f,B b]⟩ i fun n0 o3 =>
 ∃ h5 c7 c6,n0=.returned (L h5 c7 c6)∧app prog [43,43] 43 (L e d c) (L h5 c7 c6) o3 fun m4 k6 k5 o4 =>
 ∃ g3,g3 < p∧j m4 k6 k5 (i64.wrap (h + 1)) o4 g3) (∀ (C:Bool→World→Prop),(∀ (s:Bool) (g:World),(∀ _:Env,(br s (drw g fun m =>
 ∃ c8 y x,m.cell? (a.add 3)=some (L c8 y x)∧((∃ h6,m.cell? (a.add 0)=some (I h6)∧∃ h7,m.cell? (a.add 1)=some (S h7)∧∃ h8,m.cell? (a.add 2)=some (I h8)∧∃ h9 d0 c9,m.cell? (a.add 3)=some (L h9 d0 c9)∧((Calls prog 139 ⟨[L c8 y x,I f,B b]⟩ m fun n1 o5 =>
 ∃ i0 d2 d1,n1=.returned (L i0 d2 d1)∧((Calls prog 187 ⟨[.agg ⟨[I h6,S h7,I h8,L h9 d0 c9]⟩,L i0 d2 d1]⟩ o5 fun n2 o6 =>
 ∃ i1 d4 d3,n2=.returned (L i1 d4 d3)∧((app prog [43,43] 43 (L e d c) (L i1 d4 d3) o6 fun m5 k8 k7 o7 =>
 ∃ g4,g4 < p∧j m5 k8 k7 (i64.wrap (h + 1)) o7 g4)∧True))∧True))∧True))∧(Calls prog 139 ⟨[L c8 y x,I f,B b]⟩ m fun n3 u =>
 ∃ i2 d6 d5,n3=.returned (L i2 d6 d5)∧∃ i3,u.cell? (a.add 0)=some (I i3)∧∃ i4,u.cell? (a.add 1)=some (S i4)∧∃ i5,u.cell? (a.add 2)=some (I i5)∧∃ i6 d8 d7,u.cell? (a.add 3)=some (L i6 d8 d7)∧((Calls prog 187 ⟨[.agg ⟨[I i3,S i4,I i5,L i6 d8 d7]⟩,L i2 d6 d5]⟩ u fun n4 o8 =>
 ∃ i7 e0 d9,n4=.returned (L i7 e0 d9)∧((app prog [43,43] 43 (L e d c) (L i7 e0 d9) o8 fun m6 l0 k9 o9 =>
 ∃ g5,g5 < p∧j m6 l0 k9 (i64.wrap (h + 1)) o9 g5)∧True))∧True))∧True)) (∃ i8,g.cell? (a.add 0)=some (I i8)∧br (decide (i8=8)) (∃ i9 e2 e1,g.cell? (a.add 3)=some (L i9 e2 e1)∧Calls prog 186 ⟨[L i9 e2 e1]⟩ g fun n5 p0 =>
 ∃ j0 e4 e3,n5=.returned (L j0 e4 e3)∧app prog [43,43] 43 (L e d c) (L j0 e4 e3) p0 fun m7 l2 l1 p1 =>
 ∃ g6,g6 < p∧j m7 l2 l1 (i64.wrap (h + 1)) p1 g6) (∃ j1,g.cell? (a.add 0)=some (I j1)∧br (decide (j1=9)) (∃ j2 e6 e5,g.cell? (a.add 3)=some (L j2 e6 e5)∧Calls prog 139 ⟨[L j2 e6 e5,I f,B b]⟩ g fun n6 p2 =>
 ∃ j3 e8 e7,n6=.returned (L j3 e8 e7)∧app prog [43,43] 43 (L e d c) (L j3 e8 e7) p2 fun m8 l4 l3 p3 =>
 ∃ g7,g7 < p∧j m8 l4 l3 (i64.wrap (h + 1)) p3 g7) (∀ (D:Bool→World→Prop),(∀ (t:Bool) (n:World),(∀ _:Env,(br t (drw n fun o =>
 ∃ e9 A z,o.cell? (a.add 3)=some (L e9 A z)∧((∃ j4,o.cell? (a.add 0)=some (I j4)∧∃ j5,o.cell? (a.add 1)=some (S j5)∧∃ j6,o.cell? (a.add 2)=some (I j6)∧∃ j7 f1 f0,o.cell? (a.add 3)=some (L j7 f1 f0)∧((Calls prog 139 ⟨[L e9 A z,I f,B b]⟩ o fun n7 p4 =>
 ∃ j8 f3 f2,n7=.returned (L j8 f3 f2)∧((Calls prog 187 ⟨[.agg ⟨[I j4,S j5,I j6,L j7 f1 f0]⟩,L j8 f3 f2]⟩ p4 fun n8 p5 =>
 ∃ j9 f5 f4,n8=.returned (L j9 f5 f4)∧((app prog [43,43] 43 (L e d c) (L j9 f5 f4) p5 fun k0 f7 f6 l8 =>
 ∃ W,W < p∧j k0 f7 f6 (i64.wrap (h + 1)) l8 W)∧True))∧True))∧True))∧(Calls prog 139 ⟨[L e9 A z,I f,B b]⟩ o fun l5 k =>
 ∃ Z H G,l5=.returned (L Z H G)∧∃ a0,k.cell? (a.add 0)=some (I a0)∧∃ a1,k.cell? (a.add 1)=some (S a1)∧∃ a2,k.cell? (a.add 2)=some (I a2)∧∃ a3 K J,k.cell? (a.add 3)=some (L a3 K J)∧((Calls prog 187 ⟨[.agg ⟨[I a0,S a1,I a2,L a3 K J]⟩,L Z H G]⟩ k fun l6 l9 =>
 ∃ a4 N M,l6=.returned (L a4 N M)∧((app prog [43,43] 43 (L e d c) (L a4 N M) l9 fun k1 f9 f8 m0 =>
 ∃ X,X < p∧j k1 f9 f8 (i64.wrap (h + 1)) m0 X)∧True))∧True))∧True)) (∃ a5,n.cell? (a.add 0)=some (I a5)∧∃ a6,n.cell? (a.add 1)=some (S a6)∧∃ a7,n.cell? (a.add 2)=some (I a7)∧∃ a8 Q O,n.cell? (a.add 3)=some (L a8 Q O)∧al n 56 [I a5,S a6,I a7,L a8 Q O] fun l7 m1 =>
 app prog [43,43] 43 (L e d c) (.slice (some l7) 1 1) m1 fun k2 g1 g0 m2 =>
 ∃ Y,Y < p∧j k2 g1 g0 (i64.wrap (h + 1)) m2 Y)))→D t n)→(∃ a9,g.cell? (a.add 0)=some (I a9)∧br (decide (a9=7)) (D true g) (∃ b0,g.cell? (a.add 0)=some (I b0)∧br (decide (b0=10)) (D true g) (∃ b1,g.cell? (a.add 0)=some (I b1)∧(D (decide (b1=11)) g)))))))))→C s g)→(∃ b2,i.cell? (a.add 0)=some (I b2)∧br (decide (b2=8)) (C b i) (∃ b3,i.cell? (a.add 0)=some (I b3)∧br (decide (b3=9)) (C b i) (C false i))))))→U r i)→(∃ b4,l.cell? (a.add 0)=some (I b4)∧br (decide (b4=8)) (∃ b5,l.cell? (a.add 2)=some (I b5)∧(U (decide (b5≤f)) l)) (U false l)))))→T q l)→(∃ b6,F.cell? (a.add 0)=some (I b6)∧br (decide (b6=9)) (∃ b7,F.cell? (a.add 2)=some (I b7)∧(T (decide (b7≤f)) F)) (T false F))) (R (.returned (L e d c)) v))
theorem qya {e d c b a R w} (h:qul e d c b a R w):Calls prog qkw ⟨[L e d c,I b,B a]⟩ w R:=qe Tryz.func139 (Eq.mpr (by kernel_rfl:fnV _ _ qvf _ _ _=_) h)
def qqy:Ann:=T F (T F (T (T F (.one (.loop 16777016 [(3,.one (.int .i64)),(8,.one (.int .i64))] (T F (T (T F F) (T (.one (T F (T F (T F (T F F))))) F)))))) (T F F)))
def qo7 (j:List UInt8) (R:Ending→World→Prop) (w:World):Prop :=
 ∃ (c:Int→Int→World→Nat→Prop),(∃ n,c 0 0 w n)∧∀ b a k f,c b a k f→∀ _:Env,(br (decide ((a:Int) < ((List.length j:Int)))) (sidx j a fun l =>
 Calls prog 184 ⟨[.int .u8 ((l.toNat:Int))]⟩ k fun m d =>
 ∃ e,m=.returned (I e)∧br (decide (e=1)) (∃ g,g < f∧c (i64.wrap (b + 1)) (i64.wrap (a + 1)) d g) (br (decide (e=3)) (∃ h,h < f∧c (i64.wrap (b + 1)) (i64.wrap (a + 1)) d h) (∃ i,i < f∧c b (i64.wrap (a + 1)) d i))) (R (.returned (I b)) k))
theorem qs8 {a R w} (h:qo7 a R w):Calls prog qh8 ⟨[S a]⟩ w R:=qe Tryz.func140 (Eq.mpr (by kernel_rfl:fnV _ _ qqy _ _ _=_) h)
def qkk:Ann:=T F (.one (.loop 16777112 [(7,.one (.int .i64))] (T F (T (T F F) (T (.one (T F (T F (T F F)))) F)))))
def qjk (g:Fn) (c:Array Value) (d:Array Value) (y:Option Addr) (R:Ending→World→Prop) (w:World):Prop :=
 dr y fun F =>
 ∃ C k D,w.cell? F=some (L C k D)∧(∃ (l:Int→World→Nat→Prop),(∃ E,l 0 w E)∧∀ a b x,l a b x→∀ _:Env,(br (decide ((a:Int) < (k))) (idx C k a 4 fun e =>
 ∃ p,b.cell? (e.add 0)=some (I p)∧∃ q,b.cell? (e.add 1)=some (S q)∧∃ r,b.cell? (e.add 2)=some (I r)∧∃ s j i,b.cell? (e.add 3)=some (L s j i)∧al b 56 [I 0,S [],I 0,L none 0 0] fun h A =>
 stL A h 0 [I p,S q,I r,L s j i] fun f =>
 ∃ t,f.cell? (h.add 0)=some (I t)∧br (decide (t=4)) (∃ u,f.cell? (h.add 1)=some (S u)∧CallV prog (.func g c d) [S u,I a] f fun z o =>
 ∃ v,z=.returned (B v)∧br (!v) (R (.returned (.tuple ⟨[]⟩)) o) (∃ m,m < x∧l (i64.wrap (a + 1)) o m)) (∃ n,n < x∧l (i64.wrap (a + 1)) f n)) (R (.returned (.tuple ⟨[]⟩)) b)))
theorem qlp {c a b d R w} (h:qjk c a b d R w):Calls prog qaj ⟨[.func c a b,.pointer d]⟩ w R:=qe Tryz.func141 (Eq.mpr (by kernel_rfl:fnV _ _ qkk _ _ _=_) h)
def qyq:Ann:=T F (.cut 262116 [] (T F (T (T F F) F)) (.cut 133955596 [] (T F (T F (T (T F F) F))) (T (T F (.one (.loop 274743689236 [(4,.one (.int .i64))] (T (T F (T F F)) (T (.one (T F (T (T F F) F))) F))))) (T F F))))
def qwr (a:List UInt8) (R:Ending→World→Prop) (w:World):Prop :=
 ∀ (m:World→Prop),(∀  (u:World),(∀ _:Env,(∀ (k:World→Prop),(∀  (v:World),(∀ _:Env,(∃ (j:Int→World→Nat→Prop),(∃ s,j 0 v s)∧∀ b l t,j b l t→∀ _:Env,(br (decide ((b:Int) < ((List.length a:Int)))) (sidx a b fun n =>
 Calls prog 166 ⟨[.int .u8 ((n.toNat:Int))]⟩ l fun p f =>
 ∃ h,p=.returned (I h)∧br (decide ((4:Int) < h)) (R (.returned (B false)) f) (∃ e,e < t∧j (i64.wrap (b + 1)) f e)) (R (.returned (B true)) l))))→k v)→(sidx a 0 fun o =>
 Calls prog 166 ⟨[.int .u8 ((o.toNat:Int))]⟩ u fun q c =>
 ∃ d,q=.returned (I d)∧br (decide (d≠1)) (br (decide (d≠3)) (R (.returned (B false)) c) (k c)) (k c))))→m u)→(br (decide ((((List.length a:Int)):Int) < 1)) (R (.returned (B false)) w) (br (decide ((64:Int) < ((List.length a:Int)))) (R (.returned (B false)) w) (Calls prog 192 ⟨[S a]⟩ w fun r g =>
 ∃ i,r=.returned (I i)∧br (decide (i≠0)) (R (.returned (B false)) g) (m g))))
theorem q0k {a R w} (h:qwr a R w):Calls prog qmg ⟨[S a]⟩ w R:=qe Tryz.func149 (Eq.mpr (by kernel_rfl:fnV _ _ qyq _ _ _=_) h)
def qvh:Ann:=T F (T F (T (T F (.one (.loop 16777208 [(3,.one (.int .i64)),(4,.one (.int .i64))] (T (T F (T F F)) (T (.one (T F (T F (T F F)))) F))))) (T F F)))
def qun (j:List UInt8) (R:Ending→World→Prop) (w:World):Prop :=
 ∃ (c:Int→Int→World→Nat→Prop),(∃ n,c 0 0 w n)∧∀ b a k f,c b a k f→∀ _:Env,(br (decide ((a:Int) < ((List.length j:Int)))) (sidx j a fun l =>
 Calls prog 166 ⟨[.int .u8 ((l.toNat:Int))]⟩ k fun m d =>
 ∃ e,m=.returned (I e)∧br (decide (e=1)) (∃ g,g < f∧c (i64.wrap (b + 1)) (i64.wrap (a + 1)) d g) (br (decide (e=3)) (∃ h,h < f∧c (i64.wrap (b + 1)) (i64.wrap (a + 1)) d h) (∃ i,i < f∧c b (i64.wrap (a + 1)) d i))) (R (.returned (I b)) k))
theorem qyc {a R w} (h:qun a R w):Calls prog qky ⟨[S a]⟩ w R:=qe Tryz.func150 (Eq.mpr (by kernel_rfl:fnV _ _ qvh _ _ _=_) h)
end Go.Proofs
