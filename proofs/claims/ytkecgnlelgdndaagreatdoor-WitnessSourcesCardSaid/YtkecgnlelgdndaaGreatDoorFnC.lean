/- A part of the proof. -/
import Derived.Test.YtkecgnlelgdndaaGreatDoorFn
set_option linter.all false
set_option maxRecDepth 100000
namespace Go.Proofs
open Go Go.Sh Go.Proofs.Tryz IntKind
def qi5:Ann:=T F (T (T F (.one (.loop 281474976709104 [(11,.one (.int .i64))] (T F (T (T F F) (T (.one (T F (T F (T (T F (T F F)) (T F (T (T F (T (T F F) F)) F)))))) F)))))) (T F F))
def qiw (h:OA) (g:Nat) (f:Nat) (d:OA) (b:Nat) (z:Nat) (R:EP) (w:World):Prop :=
 ∃ (k:Int→World→Nat→Prop),(∃ J,k 0 w J)∧∀ a l A,k a l A→∀ _:Env,(br (decide ((a:Int) < ((b:Int)))) (idx d b a 6 fun K =>
 ∃ H,ce l K 0 (S H)∧idx d b a 6 fun D =>
 stL l (D.add 1) 0 [S H] fun c =>
 idx d b a 6 fun e =>
 ∃ p,ce c e 0 (S p)∧∃ q,ce c e 1 (S q)∧∃ r,ce c e 2 (S r)∧∃ s,ce c e 3 (I s)∧∃ t,ce c e 4 (I t)∧∃ u,ce c e 5 (S u)∧Cp 135 [.agg ⟨[S p,S q,S r,I s,I t,S u]⟩] c fun B i =>
 ∃ v,rB B v∧br (!v) (∃ m,m < A∧k (i64.wrap (a + 1)) i m) (idx d b a 6 fun E =>
 ∃ x,ce i E 0 (S x)∧Cp 136 [L h g f,S x] i fun C o =>
 ∃ y j,rV C (.tuple ⟨[S y,I j]⟩)∧br (decide (j≠0)) (R (rt (.tuple ⟨[L none 0 0,I j]⟩)) o) (idx d b a 6 fun F =>
 stL o (F.add 1) 0 [S y] fun G =>
 ∃ n,n < A∧k (i64.wrap (a + 1)) G n))) (R (rt (.tuple ⟨[L d b z,I 0]⟩)) l))
theorem qjw {c b a f e d R w} (h:qiw c b a f e d R w):Calls prog qei ⟨[L c b a,L f e d]⟩ w R:=qc Tryz.func85 (Eq.mpr (by kernel_rfl:fnV _ _ qi5 _ _ _=_) h)
def q35:Ann:=T F (T (T F (T F (T (T F F) F))) (T F F))
def q2k (f:OA) (c:Nat) (b:Nat) (a:Int) (R:EP) (w:World):Prop :=
 Cp 137 [L f c b,I a,I 0] w fun n l =>
 ∃ j,rI n j∧(br (decide (j≠0)) (R (rt (.tuple ⟨[L none 0 0,I j]⟩)) l) (Cp 139 [L f c b,I a,B false] l fun o q =>
 ∃ m i h,rV o (L m i h)∧Cp 138 [L m i h] q fun p k =>
 ∃ g e d,rV p (L g e d)∧R (rt (.tuple ⟨[L g e d,I 0]⟩)) k))
theorem qrs {d c b a R w} (h:q2k d c b a R w):Calls prog qi8 ⟨[L d c b,I a]⟩ w R:=qc Tryz.func86 (Eq.mpr (by kernel_rfl:fnV _ _ q35 _ _ _=_) h)
def q8w:Ann:=T F (T (T F (.one (.loop 2199023255520 [(5,.one (.int .i64))] (T (T F (T F F)) (T (.one (.cut 16773120 [] (T F (T F F)) (.cut 17163091968 [] (T F (T F F)) F))) F))))) (T F F))
def q6k (N:LU) (O:Int) (f:OA) (c:Nat) (W:Nat) (R:EP) (w:World):Prop :=
 al w 51 [S N,I O] fun d X =>
 al X 51 [S [],I 0] fun E Y =>
 ∃ (D:Int→World→Nat→Prop),(∃ G,D 0 Y G)∧∀ b a m,D b a m→∀ _:Env,(br (decide ((b:Int) < ((c:Int)))) (∀ (h:WP),(∀ (e:World),(∀ _:Env,(∀ (i:WP),(∀ (o:World),(∀ _:Env,(drw o fun g =>
 ∃ p,ce g d 0 (S p)∧∃ q,ce g d 1 (I q)∧idx f c b 4 fun H =>
 ∃ r l k,ce g H 3 (L r l k)∧((Cp 87 [.agg ⟨[S p,I q]⟩,L r l k] g fun F Q =>
 ∃ s t,rV F (.agg ⟨[S s,I t]⟩)∧((stL Q d 0 [S s,I t] fun T =>
 ∃ n,n < m∧D (i64.wrap (b + 1)) T n)∧True))∧True)))→i o)→(idx f c b 4 fun J =>
 ∃ u,ce e J 0 (I u)∧br (decide (u=2)) (∃ v,ce e d 1 (I v)∧stL e (d.add 1) 0 [.int .i64 (i64.wrap (v + 1))] fun U =>
 i U) (i e))))→h e)→(idx f c b 4 fun K =>
 ∃ x,ce a K 0 (I x)∧br (decide (x=3)) (idx f c b 4 fun M =>
 ∃ y,ce a M 1 (S y)∧stL a d 0 [S y,I 0] fun V =>
 h V) (h a))) (∃ z,ce a d 0 (S z)∧∃ A,ce a d 1 (I A)∧stL a E 0 [S z,I A] fun j =>
 ∃ B,ce j E 0 (S B)∧∃ C,ce j E 1 (I C)∧R (rt (.agg ⟨[S B,I C]⟩)) j))
theorem c_ref16_move {d e c b a R w} (h:q6k d e c b a R w):Calls prog qvx ⟨[.agg ⟨[S d,I e]⟩,L c b a]⟩ w R:=qc Tryz.func87 (Eq.mpr (by kernel_rfl:fnV _ _ q8w _ _ _=_) h)
def qvb:Ann:=T F (T F F)
def qtw (a:LU) (R:EP) (w:World):Prop :=
 br (decide ((a:LU)≠([]))) (br (decide ((((List.length a:Int)):Int)≤16)) (Cp 140 [S a] w fun c d =>
 ∃ b,rI c b∧R (rt (.bool (decide (b=((List.length a:Int)))))) d) (R (rt (B false)) w)) (R (rt (B false)) w)
theorem qw8 {a R w} (h:qtw a R w):Calls prog qjp ⟨[S a]⟩ w R:=qc Tryz.func90 (Eq.mpr (by kernel_rfl:fnV _ _ qvb _ _ _=_) h)
def qpb:Ann:=T F (T F F)
def qn1 (c:OA) (b:Nat) (a:Nat) (R:EP) (w:World):Prop :=
 al w 43 [L c b a] fun d e =>
 R (rt (.func (.func 141) ⟨[]⟩ ⟨[.pointer (some d)]⟩)) e
theorem qrg {c b a R w} (h:qn1 c b a R w):Calls prog qgy ⟨[L c b a]⟩ w R:=qc Tryz.func91 (Eq.mpr (by kernel_rfl:fnV _ _ qpb _ _ _=_) h)
def q1a:Ann:=T F (T F F)
def qyy (a:LU) (R:EP) (w:World):Prop :=
 br (decide ((((List.length a:Int)):Int)≤16)) (Cp 149 [S a] w fun e b =>
 ∃ c,rB e c∧br c (Cp 150 [S a] b fun f g =>
 ∃ d,rI f d∧R (rt (.bool (decide (d=((List.length a:Int)))))) g) (R (rt (B false)) b)) (R (rt (B false)) w)
theorem q3m {a R w} (h:qyy a R w):Calls prog qnp ⟨[S a]⟩ w R:=qc Tryz.func93 (Eq.mpr (by kernel_rfl:fnV _ _ q1a _ _ _=_) h)
def q4c:Ann:=T F (T (T F (T F (T (T F F) F))) (T (T F (T F (T (T F F) F))) (T (T F (T (T F F) F)) (T F F))))
def q2r (c:OA) (b:Nat) (a:Nat) (R:EP) (w:World):Prop :=
 Cp 105 [L c b a,I 16,I 4096] w fun k h =>
 ∃ m n j,rV k (.tuple ⟨[I m,I n,B j]⟩)∧(br (!j) (R (rt (I 4)) h) (Cp 151 [L c b a,B false] h fun l i =>
 ∃ f,rI l f∧br (decide (f≠0)) (R (rt (I f)) i) (Cp 152 [L c b a] i fun g d =>
 ∃ e,rV g (S e)∧br (decide ((65536:Int) < ((List.length e:Int)))) (R (rt (I 4)) d) (R (rt (I 0)) d))))
theorem q8i {c b a R w} (h:q2r c b a R w):Calls prog qs8 ⟨[L c b a]⟩ w R:=qc Tryz.func94 (Eq.mpr (by kernel_rfl:fnV _ _ q4c _ _ _=_) h)
def q00:Ann:=T F (T (T F (.one (.loop 16380 [(3,.one (.int .i64))] (T (T F (T F F)) (T (.one (T F (T (T F F) F))) F))))) (T F F))
def qyn (c:LU) (R:EP) (w:World):Prop :=
 ∃ (d:Int→World→Nat→Prop),(∃ h,d 0 w h)∧∀ a b e,d a b e→∀ _:Env,(br (decide ((a:Int) < ((List.length c:Int)))) (sidx c a fun g =>
 br (decide ((((g.toNat:Int)):Int)≠32)) (R (rt (B false)) b) (∃ f,f < e∧d (i64.wrap (a + 1)) b f)) (R (rt (B true)) b))
theorem q3c {a R w} (h:qyn a R w):Calls prog qnf ⟨[S a]⟩ w R:=qc Tryz.func95 (Eq.mpr (by kernel_rfl:fnV _ _ q00 _ _ _=_) h)
def qxn:Ann:=T F (T F F)
def qjf (d:OA) (c:Nat) (b:Nat) (a:Int) (R:EP) (w:World):Prop :=
 Cp 72 [L d c b,.int .i64 (i64.wrap (a - 1))] w fun m p =>
 ∃ k g f,rV m (L k g f)∧(Cp 72 [L d c b,I a] p fun n q =>
 ∃ l i h,rV n (L l i h)∧Cp 32 [L k g f,L l i h] q fun o j =>
 ∃ e,rB o e∧R (rt (.bool (!e))) j)
theorem q0u {d c b a R w} (h:qjf d c b a R w):Calls prog ql0 ⟨[L d c b,I a]⟩ w R:=qc Tryz.func96 (Eq.mpr (by kernel_rfl:fnV _ _ qxn _ _ _=_) h)
def q87:Ann:=T F (T F F)
def q6u (c:OA) (b:Nat) (a:Nat) (R:EP) (w:World):Prop :=
 al w 43 [L c b a] fun d e =>
 R (rt (.func (.func 153) ⟨[]⟩ ⟨[.pointer (some d)]⟩)) e
theorem c_hands_walk {c b a R w} (h:q6u c b a R w):Calls prog qwa ⟨[L c b a]⟩ w R:=qc Tryz.func98 (Eq.mpr (by kernel_rfl:fnV _ _ q87 _ _ _=_) h)
def qpp:Ann:=T F (T F F)
def qof (g:Int) (h:LU) (i:Int) (j:OA) (c:Nat) (b:Nat) (R:EP) (w:World):Prop :=
 al w 56 [I g,S h,I i,L j c b] fun d a =>
 ∃ e,ce a d 0 (I e)∧(br (decide (e=8)) (R (rt (B true)) a) (∃ f,ce a d 0 (I f)∧R (rt (.bool (decide (f=9)))) a))
theorem qrv {c d e f b a R w} (h:qof c d e f b a R w):Calls prog qg9 ⟨[.agg ⟨[I c,S d,I e,L f b a]⟩]⟩ w R:=qc Tryz.func99 (Eq.mpr (by kernel_rfl:fnV _ _ qpp _ _ _=_) h)
def q82:Ann:=T F (T F (T (T F (.one (.loop 576460752303423424 [(9,.one (.int .i64)),(10,.one (.int .i64)),(11,.one (.int .i64))] (T (T F (T F F)) (T (.one (T F (T (T F (T (T F F) F)) (T (T F (T F F)) (T (T F (T (T F F) F)) (T F (T (T F (T (T F F) F)) (T F F)))))))) F))))) (T F F)))
def q6q (l:OA) (g:Nat) (C:Nat) (b:Int) (e:Int) (R:EP) (w:World):Prop :=
 ∃ (k:Int→Int→Int→World→Nat→Prop),(∃ x,k 0 0 0 w x)∧∀ d a c f t,k d a c f t→∀ _:Env,(br (decide ((c:Int) < ((g:Int)))) (br (decide ((e:Int) < (i64.wrap (d + 1)))) (R (rt (.tuple ⟨[I 0,I 0,B false]⟩)) f) (idx l g c 4 fun y =>
 ∃ A h u,ce f y 3 (L A h u)∧br (decide (((h):Int)=0)) (∃ m,m < t∧k (i64.wrap (d + 1)) a (i64.wrap (c + 1)) f m) (br (decide ((b:Int)=0)) (R (rt (.tuple ⟨[I 0,I 0,B false]⟩)) f) (idx l g c 4 fun z =>
 ∃ p j i,ce f z 3 (L p j i)∧Cp 105 [L p j i,.int .i64 (i64.wrap (b - 1)),.int .i64 (i64.wrap (e - (i64.wrap (d + 1))))] f fun v o =>
 ∃ q r s,rV v (.tuple ⟨[I q,I r,B s]⟩)∧br (!s) (R (rt (.tuple ⟨[I 0,I 0,B false]⟩)) o) (∃ n,n < t∧k (i64.wrap ((i64.wrap (d + 1)) + q)) ((max a (i64.wrap (r + 1)))) (i64.wrap (c + 1)) o n))))) (R (rt (.tuple ⟨[I d,I a,B true]⟩)) f))
theorem c_ref10_size {e d c a b R w} (h:q6q e d c a b R w):Calls prog qv3 ⟨[L e d c,I a,I b]⟩ w R:=qc Tryz.func105 (Eq.mpr (by kernel_rfl:fnV _ _ q82 _ _ _=_) h)
def q84:Ann:=T F (T (T F (.one (.loop 8796093022192 [(5,.one (.int .i64))] (T (T F (T F F)) (T (.one (T F (T F (T (T F F) F)))) F))))) (T F F))
def q6s (e:OA) (d:Nat) (z:Nat) (a:Int) (R:EP) (w:World):Prop :=
 ∃ (k:Int→World→Nat→Prop),(∃ A,k 0 w A)∧∀ b c t,k b c t→∀ _:Env,(br (decide ((b:Int) < ((d:Int)))) (idx e d b 4 fun C =>
 ∃ j,ce c C 1 (S j)∧br (decide ((a:Int)=0)) (R (rt (B true)) c) (br (decide ((60:Int) < ((List.length j:Int)))) (br (decide ((((List.length j:Int)):Int)≤65536)) (R (rt (B true)) c) (br (decide ((65540:Int) < ((List.length j:Int)))) (R (rt (B true)) c) (idx e d b 4 fun x =>
 ∃ p g f,ce c x 3 (L p g f)∧Cp 106 [L p g f,.int .i64 (i64.wrap (a - 1))] c fun u n =>
 ∃ q,rB u q∧br q (R (rt (B true)) n) (∃ l,l < t∧k (i64.wrap (b + 1)) n l)))) (br (decide ((65540:Int) < ((List.length j:Int)))) (R (rt (B true)) c) (idx e d b 4 fun y =>
 ∃ r i h,ce c y 3 (L r i h)∧Cp 106 [L r i h,.int .i64 (i64.wrap (a - 1))] c fun v o =>
 ∃ s,rB v s∧br s (R (rt (B true)) o) (∃ m,m < t∧k (i64.wrap (b + 1)) o m))))) (R (rt (B false)) c))
theorem c_ref10_long {d c b a R w} (h:q6s d c b a R w):Calls prog qv5 ⟨[L d c b,I a]⟩ w R:=qc Tryz.func106 (Eq.mpr (by kernel_rfl:fnV _ _ q84 _ _ _=_) h)
def qpf:Ann:=T F (T F (T (T F (T (T F F) F)) (T (T F (T F (T (T F F) F))) (T F (T (T F (.one (.loop 40564819207303340847893428831872 [(7,.one (.slice)),(30,.one (.int .i64))] (T F (T (T F F) (T (.one (T F (T F (T F (.one (T F (T F (T F (T (T F (T (T (.cut 27670116110564327424 [(64,.one (.bool))] F (T (T F F) F)) F) F)) (.one F)))))))))) F)))))) (T F (T (T F (T F (T (T F F) F))) (T F F))))))))
def qn5 (p4:LU) (R:EP) (w:World):Prop :=
 Cp 161 [S p4] w fun r3 p7 =>
 ∃ n6 c0 i7 n7,rV r3 (.tuple ⟨[L n6 c0 i7,I n7]⟩)∧(br (decide (n7≠0)) (R (rt (.tuple ⟨[L none 0 0,I n7]⟩)) p7) (Cp 162 [L n6 c0 i7] p7 fun r4 q5 =>
 ∃ n8,rI r4 n8∧br (decide (n8≠0)) (R (rt (.tuple ⟨[L none 0 0,I n8]⟩)) q5) (al q5 56 [I 0,S [],I 0,L none 0 0] fun r5 p5 =>
 ∃ (e:OA→Nat→Nat→Int→World→Nat→Prop),(∃ o5,e (some r5) 1 1 0 p5 o5)∧∀ b a c d j f,e b a c d j f→∀ _:Env,(br (decide ((d:Int) < (c0))) (idx n6 c0 d 4 fun b5 =>
 ∃ h2,ce j b5 0 (I h2)∧∃ h3,ce j b5 1 (S h3)∧∃ h4,ce j b5 2 (S h4)∧∃ h5,ce j b5 3 (I h5)∧al j 202 [I 0,S [],S [],I 0] fun g p6 =>
 stL p6 g 0 [I h2,S h3,S h4,I h5] fun h =>
 ∃ f0,ce h g 0 (I f0)∧br (decide (f0=2)) (∃ h6,ce h g 0 (I h6)∧∃ h7,ce h g 1 (S h7)∧∃ h8,ce h g 2 (S h8)∧∃ h9,ce h g 3 (I h9)∧Cp 163 [.agg ⟨[I h6,S h7,S h8,I h9]⟩] h fun o3 p8 =>
 ∃ i0 i1 i2 i3 f2 f1,rV o3 (.agg ⟨[I i0,S i1,I i2,L i3 f2 f1]⟩)∧al p8 56 [I i0,S i1,I i2,L i3 f2 f1] fun o6 p9 =>
 app prog [43,43] 43 (L b a c) (.slice (some o6) 1 1) p9 fun n9 j8 j7 q0 =>
 ∃ g5,g5 < f∧e n9 j8 j7 (i64.wrap (d + 1)) q0 g5) (br (decide (f0=3)) (br (decide ((0:Int) < (i64.wrap (((a:Int)) - 1)))) (∀ (c1:Bool→World→Prop),(∀ (G:Bool) (e7:World),(∀ _:Env,(br G (drw e7 fun m =>
 idx b a (i64.wrap ((i64.wrap (((a:Int)) - 1)) - 1)) 4 fun o7 =>
 ∃ i4 a9 f3,ce m o7 3 (L i4 a9 f3)∧idx b a (i64.wrap (((a:Int)) - 1)) 4 fun b6 =>
 ∃ i5,ce m b6 0 (I i5)∧∃ i6,ce m b6 1 (S i6)∧∃ i8,ce m b6 2 (I i8)∧∃ i9 f5 f4,ce m b6 3 (L i9 f5 f4)∧((al m 56 [I 0,S [],I 0,L none 0 0] fun o8 q1 =>
 (app prog [43,43] 43 (L i4 a9 f3) (.slice (some o8) 1 1) q1 fun g4 c2 j9 q2 =>
 idx b a (i64.wrap ((i64.wrap (((a:Int)) - 1)) - 1)) 4 fun o9 =>
 (stL q2 (o9.add 3) 0 [L g4 c2 j9] fun q3 =>
 idx g4 c2 (a9) 4 fun p0 =>
 stL q3 p0 0 [I i5,S i6,I i8,L i9 f5 f4] fun q4 =>
 sls b c 0 (i64.wrap (((a:Int)) - 1)) 4 fun o0 k1 k0 =>
 ∃ g6,g6 < f∧e o0 k1 k0 (i64.wrap (d + 1)) q4 g6)∧True)∧True)∧True)) (drw e7 fun n =>
 idx b a (i64.wrap ((i64.wrap (((a:Int)) - 1)) - 1)) 4 fun p1 =>
 ∃ j0 f7 f6,ce n p1 3 (L j0 f7 f6)∧idx b a (i64.wrap (((a:Int)) - 1)) 4 fun b7 =>
 ∃ j1,ce n b7 0 (I j1)∧∃ j2,ce n b7 1 (S j2)∧∃ j3,ce n b7 2 (I j3)∧∃ j4 f9 f8,ce n b7 3 (L j4 f9 f8)∧((al n 56 [I j1,S j2,I j3,L j4 f9 f8] fun p2 q6 =>
 (app prog [43,43] 43 (L j0 f7 f6) (.slice (some p2) 1 1) q6 fun o1 k3 k2 q7 =>
 idx b a (i64.wrap ((i64.wrap (((a:Int)) - 1)) - 1)) 4 fun p3 =>
 (stL q7 (p3.add 3) 0 [L o1 k3 k2] fun q8 =>
 sls b c 0 (i64.wrap (((a:Int)) - 1)) 4 fun o2 k5 k4 =>
 ∃ g7,g7 < f∧e o2 k5 k4 (i64.wrap (d + 1)) q8 g7)∧True)∧True)∧True))))→c1 G e7)→(drw h fun q9 =>
 (al q9 4 [B false] fun l g9 =>
 (stL g9 l 0 [B true] fun r0 =>
 (stL r0 l 0 [B false] fun h0 =>
 ∃ j5,cf h0 l (B j5)∧(c1 j5 h0))∧True)∧(stL g9 l 0 [B false] fun r1 =>
 (stL r1 l 0 [B true] fun h1 =>
 ∃ j6,cf h1 l (B j6)∧(c1 j6 h1))∧True)∧True)∧True)) (∃ g8,g8 < f∧e b a c (i64.wrap (d + 1)) h g8)) (drw h fun i =>
 idx b a (i64.wrap (((a:Int)) - 1)) 4 fun d9 =>
 ∃ H,ce i g 0 (I H)∧∃ J,ce i g 1 (S J)∧∃ K,ce i g 2 (S K)∧∃ M,ce i g 3 (I M)∧((∃ g0 k b0,ce i d9 3 (L g0 k b0)∧((Cp 163 [.agg ⟨[I H,S J,S K,I M]⟩] i fun o4 r2 =>
 ∃ g1 g2 g3 U t s,rV o4 (.agg ⟨[I g1,S g2,I g3,L U t s]⟩)∧((al r2 56 [I 0,S [],I 0,L none 0 0] fun l0 l5 =>
 (app prog [43,43] 43 (L g0 k b0) (.slice (some l0) 1 1) l5 fun N o b1 e0 =>
 idx N o (k) 4 fun d1 =>
 idx b a (i64.wrap (((a:Int)) - 1)) 4 fun d2 =>
 (stL e0 d1 0 [I g1,S g2,I g3,L U t s] fun l6 =>
 (stL l6 (d2.add 3) 0 [L N o b1] fun l7 =>
 ∃ c3,c3 < f∧e b a c (i64.wrap (d + 1)) l7 c3)∧True)∧(stL e0 (d2.add 3) 0 [L N o b1] fun l8 =>
 (stL l8 d1 0 [I g1,S g2,I g3,L U t s] fun l9 =>
 ∃ c4,c4 < f∧e b a c (i64.wrap (d + 1)) l9 c4)∧True)∧True)∧True)∧True))∧(al i 56 [I 0,S [],I 0,L none 0 0] fun l1 m0 =>
 (Cp 163 [.agg ⟨[I H,S J,S K,I M]⟩] m0 fun k6 m1 =>
 ∃ V W X Y v u,rV k6 (.agg ⟨[I V,S W,I X,L Y v u]⟩)∧((app prog [43,43] 43 (L g0 k b0) (.slice (some l1) 1 1) m1 fun O p b2 e1 =>
 idx O p (k) 4 fun d3 =>
 idx b a (i64.wrap (((a:Int)) - 1)) 4 fun d4 =>
 (stL e1 d3 0 [I V,S W,I X,L Y v u] fun m2 =>
 (stL m2 (d4.add 3) 0 [L O p b2] fun m3 =>
 ∃ c5,c5 < f∧e b a c (i64.wrap (d + 1)) m3 c5)∧True)∧(stL e1 (d4.add 3) 0 [L O p b2] fun m4 =>
 (stL m4 d3 0 [I V,S W,I X,L Y v u] fun m5 =>
 ∃ c6,c6 < f∧e b a c (i64.wrap (d + 1)) m5 c6)∧True)∧True)∧True))∧True)∧True))∧(Cp 163 [.agg ⟨[I H,S J,S K,I M]⟩] i fun k7 e2 =>
 ∃ Z a0 a1 a2 y x,rV k7 (.agg ⟨[I Z,S a0,I a1,L a2 y x]⟩)∧∃ e8 z b8,ce e2 d9 3 (L e8 z b8)∧((al e2 56 [I 0,S [],I 0,L none 0 0] fun l2 m6 =>
 (app prog [43,43] 43 (L e8 z b8) (.slice (some l2) 1 1) m6 fun Q q b3 e3 =>
 idx Q q (z) 4 fun d5 =>
 idx b a (i64.wrap (((a:Int)) - 1)) 4 fun d6 =>
 (stL e3 d5 0 [I Z,S a0,I a1,L a2 y x] fun m7 =>
 (stL m7 (d6.add 3) 0 [L Q q b3] fun m8 =>
 ∃ c7,c7 < f∧e b a c (i64.wrap (d + 1)) m8 c7)∧True)∧(stL e3 (d6.add 3) 0 [L Q q b3] fun m9 =>
 (stL m9 d5 0 [I Z,S a0,I a1,L a2 y x] fun n0 =>
 ∃ c8,c8 < f∧e b a c (i64.wrap (d + 1)) n0 c8)∧True)∧True)∧True)∧True))∧(al i 56 [I 0,S [],I 0,L none 0 0] fun l3 n1 =>
 (Cp 163 [.agg ⟨[I H,S J,S K,I M]⟩] n1 fun k8 e4 =>
 ∃ a3 a4 a5 a6 C A,rV k8 (.agg ⟨[I a3,S a4,I a5,L a6 C A]⟩)∧∃ e9 D b9,ce e4 d9 3 (L e9 D b9)∧((app prog [43,43] 43 (L e9 D b9) (.slice (some l3) 1 1) e4 fun T r b4 e5 =>
 idx T r (D) 4 fun d7 =>
 idx b a (i64.wrap (((a:Int)) - 1)) 4 fun d8 =>
 (stL e5 d7 0 [I a3,S a4,I a5,L a6 C A] fun n2 =>
 (stL n2 (d8.add 3) 0 [L T r b4] fun n3 =>
 ∃ c9,c9 < f∧e b a c (i64.wrap (d + 1)) n3 c9)∧True)∧(stL e5 (d8.add 3) 0 [L T r b4] fun n4 =>
 (stL n4 d7 0 [I a3,S a4,I a5,L a6 C A] fun n5 =>
 ∃ d0,d0 < f∧e b a c (i64.wrap (d + 1)) n5 d0)∧True)∧True)∧True))∧True)∧True)))) (idx b a 0 4 fun l4 =>
 ∃ a7 F E,ce j l4 3 (L a7 F E)∧Cp 71 [L a7 F E] j fun k9 e6 =>
 ∃ a8,rI k9 a8∧br (decide (a8≠0)) (R (rt (.tuple ⟨[L none 0 0,I a8]⟩)) e6) (R (rt (.tuple ⟨[L a7 F E,I 0]⟩)) e6))))))
theorem qrk {a R w} (h:qn5 a R w):Calls prog qg2 ⟨[S a]⟩ w R:=qc Tryz.func107 (Eq.mpr (by kernel_rfl:fnV _ _ qpf _ _ _=_) h)
def qr1:Ann:=T F (T F F)
def qp4 (g:LU) (h:OA) (e:Nat) (d:Nat) (R:EP) (w:World):Prop :=
 al w 45 [S g,L h e d] fun f c =>
 ∃ i,ce c f 0 (S i)∧(∃ j b a,ce c f 1 (L j b a)∧Cp 42 [.agg ⟨[S i,L j b a]⟩] c fun l m =>
 ∃ k,rI l k∧R (rt (.bool (decide (k≠0)))) m)
theorem qui {c d b a R w} (h:qp4 c d b a R w):Calls prog qen ⟨[.agg ⟨[S c,L d b a]⟩]⟩ w R:=qc Tryz.func108 (Eq.mpr (by kernel_rfl:fnV _ _ qr1 _ _ _=_) h)
def qxh:Ann:=T F (T (T F (T F (T (T F F) F))) (T F (T F (T F F))))
def qwl (d:OA) (c:Nat) (b:Nat) (a:Int) (R:EP) (w:World):Prop :=
 Cp 137 [L d c b,I a,I 1] w fun s p =>
 ∃ k,rI s k∧(br (decide (k≠0)) (R (rt (.tuple ⟨[B false,I k]⟩)) p) (Cp 86 [L d c b,.int .i64 (i64.wrap (a - 1))] p fun t u =>
 ∃ r j i v,rV t (.tuple ⟨[L r j i,I v]⟩)∧Cp 86 [L d c b,I a] u fun l n =>
 ∃ g f e q,rV l (.tuple ⟨[L g f e,I q]⟩)∧Cp 44 [L r j i,L g f e] n fun m o =>
 ∃ h,rB m h∧R (rt (.tuple ⟨[.bool (!h),I 0]⟩)) o))
theorem q0o {d c b a R w} (h:qwl d c b a R w):Calls prog qlu ⟨[L d c b,I a]⟩ w R:=qc Tryz.func110 (Eq.mpr (by kernel_rfl:fnV _ _ qxh _ _ _=_) h)
def q33:Ann:=T F (T (T F (T (T F F) F)) (T (T F (.one (.loop 18446744073709551164 [(3,.one (.int .i64))] (T (T F (T F F)) (T (.one (T F (.cut 2113929220 [] (T F (T (T F F) F)) (.cut 547608330244 [] (T F (T (T F F) F)) (.cut 140187732541444 [] (T F (T (T F F) F)) (T F (T (T F F) F))))))) F))))) (T F F)))
def q2i (d:OA) (a:Nat) (u:Nat) (R:EP) (w:World):Prop :=
 br (decide ((64:Int) < ((a:Int)))) (R (rt (I 4)) w) (∃ (i:Int→World→Nat→Prop),(∃ A,i 0 w A)∧∀ c v t,i c v t→∀ _:Env,(br (decide ((c:Int) < ((a:Int)))) (drw v fun h =>
 idx d a c 2 fun B =>
 ∃ f,ce h B 0 (S f)∧idx d a c 2 fun z =>
 ∃ b,ce h z 1 (S b)∧∀ (j:WP),(∀ (g:World),(∀ _:Env,(∀ (k:WP),(∀ (o:World),(∀ _:Env,(∀ (l:WP),(∀ (e:World),(∀ _:Env,(br (decide ((((List.length f:Int)):Int) < ((List.length b:Int)))) (R (rt (I 24)) e) (br (decide ((((List.length b:Int)):Int)=((List.length f:Int)))) (br (!(Op.bytesLess b f)) (R (rt (I 24)) e) (∃ m,m < t∧i (i64.wrap (c + 1)) e m)) (∃ n,n < t∧i (i64.wrap (c + 1)) e n))))→l e)→(Cp 165 [S f] o fun x p =>
 ∃ r,rB x r∧br (!r) (R (rt (I 11)) p) (Cp 165 [S b] p fun y q =>
 ∃ s,rB y s∧br (!s) (R (rt (I 11)) q) (l q)))))→k o)→(br (decide ((64:Int) < ((List.length f:Int)))) (R (rt (I 4)) g) (br (decide ((64:Int) < ((List.length b:Int)))) (R (rt (I 4)) g) (k g)))))→j g)→(br (decide (f=([]))) (R (rt (I 5)) h) (br (decide (b=([]))) (R (rt (I 5)) h) (j h)))) (R (rt (I 0)) v)))
theorem q8b {c b a R w} (h:q2i c b a R w):Calls prog qs2 ⟨[L c b a]⟩ w R:=qc Tryz.func111 (Eq.mpr (by kernel_rfl:fnV _ _ q33 _ _ _=_) h)
def q30:Ann:=T F (T F F)
def q2f (a:LU) (R:EP) (w:World):Prop :=
 br (decide ((a:LU)=([]))) (R (rt (B true)) w) (Cp 93 [S a] w fun c d =>
 ∃ b,rB c b∧R (rt (B b)) d)
theorem q78 {a R w} (h:q2f a R w):Calls prog qsz ⟨[S a]⟩ w R:=qc Tryz.func112 (Eq.mpr (by kernel_rfl:fnV _ _ q30 _ _ _=_) h)
def q3z:Ann:=T F (T F (T F (T (T F (.one (.loop 10633823966279326983230456482242754560 [(11,.one (.slice)),(12,.one (.bool)),(13,.one (.int .i64))] (T (T F (T F F)) (T (.one (T F (T F (.one (T F (T (T F (.one (.loop 2475870633837794810507855872 [(11,.one (.slice)),(15,.one (.int .i64))] (T (T F (T F F)) (T (.one F) F))))) (T F (T F (T F (T F (T F (T F (.cut 72692156019487586799426948609081344 [(113,.one (.bool))] (T F (T F F)) (T F (T F (.cut 266288037888 [(16,.one (.str))] (T F (T F F)) (.cut 9006924377751552 [(17,.one (.slice)),(18,.one (.ptr)),(19,.one (.bool))] F (.cut 135107988821116928 [(11,.one (.slice))] F F)))))))))))))))))) F))))) (T F F))))
def q2e (h1:LU) (h2:Int) (i8:OA) (a3:Nat) (k6:Nat) (n:Bool) (v:LU) (R:EP) (w:World):Prop :=
 al w 51 [S h1,I h2] fun t k7 =>
 al k7 51 [S [],I 0] fun h5 k8 =>
 ∃ (j:OA→Nat→Nat→Bool→Int→World→Nat→Prop),(∃ i9,j none 0 0 false 0 k8 i9)∧∀ d c b a e y o,j d c b a e y o→∀ _:Env,(br (decide ((e:Int) < ((a3:Int)))) (idx i8 a3 e 4 fun M =>
 ∃ e1,ce y M 0 (I e1)∧∃ e2,ce y M 1 (S e2)∧∃ e3,ce y M 2 (I e3)∧∃ e4 c3 c2,ce y M 3 (L e4 c3 c2)∧al y 56 [I 0,S [],I 0,L none 0 0] fun h j4 =>
 stL j4 h 0 [I e1,S e2,I e3,L e4 c3 c2] fun i =>
 ∃ u,ce i h 0 (I u)∧br (decide (u=1)) (∃ (X:OA→Nat→Nat→Int→World→Nat→Prop),(∃ j0,X d c b 0 i j0)∧∀ x s r E N c7,X x s r E N c7→∀ _:Env,(∃ e5,ce N h 1 (S e5)∧br (decide ((E:Int) < ((List.length e5:Int)))) (drw N fun O =>
 ∃ e6,ce O h 1 (S e6)∧(sidx e6 E fun i7 =>
 ∃ e7,ce O t 0 (S e7)∧∃ e8,ce O t 1 (I e8)∧((al O 206 [.int .u8 ((i7.toNat:Int)),I 0,B false,B n,S v,S e7,I e8] fun j1 j5 =>
 (app prog [149,149] 149 (L x s r) (.slice (some j1) 1 1) j5 fun i2 g2 g1 j6 =>
 ∃ c8,c8 < c7∧X i2 g2 g1 (i64.wrap (E + 1)) j6 c8)∧True)∧True))) (∃ c9,c9 < o∧j x s r a (i64.wrap (e + 1)) N c9))) (br (decide (u=6)) (∃ e9,ce i h 2 (I e9)∧∃ f0,ce i t 0 (S f0)∧∃ f1,ce i t 1 (I f1)∧al i 206 [.int .u8 0,I e9,B false,B n,S v,S f0,I f1] fun j2 j7 =>
 app prog [149,149] 149 (L d c b) (.slice (some j2) 1 1) j7 fun i3 g4 g3 j8 =>
 ∃ d0,d0 < o∧j i3 g4 g3 a (i64.wrap (e + 1)) j8 d0) (br (decide (u=2)) (∃ f2,ce i t 1 (I f2)∧stL i (t.add 1) 0 [.int .i64 (i64.wrap (f2 + 1))] fun j9 =>
 ∃ d1,d1 < o∧j d c b a (i64.wrap (e + 1)) j9 d1) (br (decide (u=3)) (∃ f3,ce i h 1 (S f3)∧stL i t 0 [S f3,I 0] fun k0 =>
 ∃ d2,d2 < o∧j d c b a (i64.wrap (e + 1)) k0 d2) (∀ (Y:Bool→World→Prop),(∀ (D:Bool) (z:World),(∀ _:Env,(br D (∃ f4,ce z h 0 (I f4)∧al z 206 [.int .u8 0,I 0,.bool (decide (f4=5)),B false,S [],S [],I 0] fun j3 k1 =>
 app prog [149,149] 149 (L d c b) (.slice (some j3) 1 1) k1 fun i4 g6 g5 k2 =>
 ∃ d3,d3 < o∧j i4 g6 g5 a (i64.wrap (e + 1)) k2 d3) (∀ (Z:LU→World→Prop),(∀ (p:LU) (A:World),(∀ _:Env,(∀ (a0:OA→Nat→Nat→OA→Bool→World→Prop),(∀ (q:OA) (m:Nat) (l:Nat) (F:OA) (a2:Bool) (e0:World),(∀ _:Env,(∀ (a1:OA→Nat→Nat→World→Prop),(∀ (k:OA) (g:Nat) (f:Nat) (C:World),(∀ _:Env,(br a (∃ d4,d4 < o∧j k g f true (i64.wrap (e + 1)) C d4) (br a2 (∃ d5,d5 < o∧j k g f true (i64.wrap (e + 1)) C d5) (∃ f5,ce C h 0 (I f5)∧br (decide (f5=8)) (∃ d6,d6 < o∧j k g f true (i64.wrap (e + 1)) C d6) (∃ f6,ce C h 0 (I f6)∧∃ d7,d7 < o∧j k g f (decide (f6=9)) (i64.wrap (e + 1)) C d7)))))→a1 k g f C)→(drw e0 fun Q =>
 (app prog [149,149] 149 (L d c b) (L q m l) Q fun i5 g8 g7 a6 =>
 dr F fun d8 =>
 ∃ f7,ce a6 d8 0 (S f7)∧∃ f8,ce a6 d8 1 (I f8)∧((stL a6 t 0 [S f7,I f8] fun k3 =>
 a1 i5 g8 g7 k3)∧True))∧(dr F fun d9 =>
 ∃ f9,ce Q d9 0 (S f9)∧∃ g0,ce Q d9 1 (I g0)∧((app prog [149,149] 149 (L d c b) (L q m l) Q fun i6 h0 g9 k4 =>
 (stL k4 t 0 [S f9,I g0] fun k5 =>
 a1 i6 h0 g9 k5)∧True)∧True))∧True)))→a0 q m l F a2 e0)→(∃ c4,ce A t 0 (S c4)∧∃ c5,ce A t 1 (I c5)∧∃ c6 K J,ce A h 3 (L c6 K J)∧br n (Cp 113 [.agg ⟨[S c4,I c5]⟩,L c6 K J,B true,S p] A fun h3 h6 =>
 ∃ a7 U T a8 a9 b0,rV h3 (.tuple ⟨[L a7 U T,.agg ⟨[S a8,I a9]⟩,B b0]⟩)∧al h6 51 [S [],I 0] fun a4 h7 =>
 stL h7 a4 0 [S a8,I a9] fun h8 =>
 a0 a7 U T (some a4) b0 h8) (∃ b1,ce A h 0 (I b1)∧Cp 113 [.agg ⟨[S c4,I c5]⟩,L c6 K J,.bool (decide (b1=7)),S p] A fun h4 h9 =>
 ∃ b2 W V b3 b4 b5,rV h4 (.tuple ⟨[L b2 W V,.agg ⟨[S b3,I b4]⟩,B b5]⟩)∧al h9 51 [S [],I 0] fun a5 i0 =>
 stL i0 a5 0 [S b3,I b4] fun i1 =>
 a0 b2 W V (some a5) b5 i1))))→Z p A)→(∃ b6,ce z h 0 (I b6)∧br (decide (b6=11)) (∃ b7,ce z h 1 (S b7)∧(Z b7 z)) (Z v z)))))→Y D z)→(br (decide (u=5)) (Y (decide (u=5)) i) (Y (decide (u=4)) i))))))) (drw y fun G =>
 ∃ b8,ce G t 0 (S b8)∧∃ b9,ce G t 1 (I b9)∧((stL G h5 0 [S b8,I b9] fun H =>
 ∃ c0,ce H h5 0 (S c0)∧∃ c1,ce H h5 1 (I c1)∧R (rt (.tuple ⟨[L d c b,.agg ⟨[S c0,I c1]⟩,B a]⟩)) H)∧True)))
theorem q77 {c d g f e a b R w} (h:q2e c d g f e a b R w):Calls prog qsy ⟨[.agg ⟨[S c,I d]⟩,L g f e,B a,S b]⟩ w R:=qc Tryz.func113 (Eq.mpr (by kernel_rfl:fnV _ _ q3z _ _ _=_) h)
def q04:Ann:=T F (T F (T F (T (T F (.one (.loop 730750818665451459101842416358141509827966271480 [(3,.one (.slice)),(4,.one (.bool)),(5,.one (.bool)),(6,.one (.int .i64))] (T (T F (T F F)) (.one (T F (T (.cut 133693440 [(26,.one (.bool))] F (T (T F (T F F)) F)) (T (.cut 8778913153024 [(42,.one (.bool))] F (T (T F (T F F)) F)) (T F (T F (T F (.cut 680564733841876926926744711263909053952 [(9,.one (.bool)),(10,.one (.int .i64))] (.one (T F (T F (T F (T (T F (.one (.loop 680564733841876624695294311206242747904 [(9,.one (.bool)),(10,.one (.int .i64))] (.cut 20282409301420215520289957609472 [] (T F (T F F)) (.one (.cut 166133217063510832442551935283757056 [] (.one F) (T F F))))))) F))))) (.cut 21097506749098184734729225660769629110272 [] (T F (T F F)) (.cut 675120215971141911511335221144628131528704 [] (T F (T F F)) (.cut 712926948065525858555969993528727306894311424 [] (.cut 43904592109607164309898445349276461714898944 [(144,.one (.bool))] F (T F F)) (T F (T F (T F F)))))))))))))))))) (T F F))))
def qyr (x:OA) (j:Nat) (j6:Nat) (R:EP) (w:World):Prop :=
 ∃ (N:OA→Nat→Nat→Bool→Bool→Int→World→Nat→Prop),(∃ j7,N none 0 0 false false 0 w j7)∧∀ h d f l i g o Z,N h d f l i g o Z→∀ _:Env,(br (decide ((g:Int) < ((j:Int)))) (idx x j g 7 fun m =>
 ∃ c8,ce o m 0 (.int .u8 c8)∧∃ c9,ce o m 1 (I c9)∧∃ d0,ce o m 2 (B d0)∧∃ d1,ce o m 3 (B d1)∧∃ d2,ce o m 4 (S d2)∧∃ d3,ce o m 5 (S d3)∧∃ d4,ce o m 6 (I d4)∧al o 206 [.int .u8 0,I 0,B false,B false,S [],S [],I 0] fun e i5 =>
 stL i5 e 0 [.int .u8 c8,I c9,B d0,B d1,S d2,S d3,I d4] fun E =>
 ∀ (O:Bool→World→Prop),(∀ (y:Bool) (r:World),(∀ _:Env,(br y (drw r fun a5 =>
 br i (∃ c1,c1 < Z∧N h d f false true (i64.wrap (g + 1)) a5 c1) (∃ d5,ce a5 e 2 (B d5)∧∃ c2,c2 < Z∧N h d f false d5 (i64.wrap (g + 1)) a5 c2)) (∀ (Q:Bool→World→Prop),(∀ (z:Bool) (s:World),(∀ _:Env,(br z (∃ c3,c3 < Z∧N h d f false i (i64.wrap (g + 1)) s c3) (∃ d6,s.cell? ((e.add 5).add 0)=some (S d6)∧∃ d7,s.cell? ((e.add 5).add 1)=some (I d7)∧∃ d8,ce s e 4 (S d8)∧al s 69 [S [],S [],S [],I 0,I 0,S []] fun a i6 =>
 stL i6 a 0 [S [],S [],S d6,I d7,I 0,S d8] fun t =>
 ∃ M,ce t e 3 (B M)∧∀ (p:Bool→Int→World→Prop),(∀ (k:Bool) (a1:Int) (F:World),(∀ _:Env,(∀ (T:WP),(∀ (G:World),(∀ _:Env,(∀ (U:WP),(∀ (a6:World),(∀ _:Env,(∀ (V:WP),(∀ (a7:World),(∀ _:Env,(∃ d9,ce a7 a 0 (S d9)∧stL a7 (a.add 1) 0 [S d9] fun n =>
 ∃ e0,ce n a 0 (S e0)∧∃ e1,ce n a 1 (S e1)∧∃ e2,ce n a 2 (S e2)∧∃ e3,ce n a 3 (I e3)∧∃ e4,ce n a 4 (I e4)∧∃ e5,ce n a 5 (S e5)∧al n 69 [S e0,S e1,S e2,I e3,I e4,S e5] fun i0 i7 =>
 app prog [40,40] 40 (L h d f) (.slice (some i0) 1 1) i7 fun h6 f6 f5 i8 =>
 ∃ c4,c4 < Z∧N h6 f6 f5 true false (i64.wrap (g + a1)) i8 c4))→V a7)→(∀ (W:Bool→World→Prop),(∀ (q:Bool) (H:World),(∀ _:Env,(br q (∃ e6,ce H a 4 (I e6)∧stL H (a.add 4) 0 [.int .i64 (i64.wrap (e6 + 16))] fun i9 =>
 V i9) (V H)))→W q H)→(br l (W (decide ((0:Int) < ((d:Int)))) a6) (W false a6)))))→U a6)→(br i (∃ e7,ce G a 4 (I e7)∧stL G (a.add 4) 0 [.int .i64 (i64.wrap (e7 + 4))] fun j0 =>
 U j0) (U G))))→T G)→(br k (∃ e8,ce F a 4 (I e8)∧stL F (a.add 4) 0 [.int .i64 (i64.wrap (e8 + 1))] fun j1 =>
 T j1) (T F))))→p k a1 F)→(∃ e9,ce t e 1 (I e9)∧br (decide ((0:Int) < e9)) (∃ f0,ce t e 1 (I f0)∧Cp 59 [I f0] t fun h7 j2 =>
 ∃ f1,rV h7 (S f1)∧(sadd ([91]) f1 fun i2 =>
 sadd i2 ([93]) fun i3 =>
 stL j2 (a.add 0) 0 [S i3] fun j3 =>
 stL j3 (a.add 4) 0 [I 2] fun j4 =>
 p M 1 j4)) (∃ f2,ce t e 0 (.int .u8 f2)∧Cp 167 [.int .u8 f2] t fun h8 J =>
 ∃ f3,rB h8 f3∧br f3 (∃ f4,ce J e 0 (.int .u8 f4)∧al J 5 [.int .u8 f4] fun i1 c6 =>
 b2s prog c6 (some i1) 1 1 fun i4 =>
 stL c6 (a.add 0) 0 [S i4] fun j5 =>
 ∃ (D:Bool→Int→World→Nat→Prop),(∃ h9,D M 1 j5 h9)∧∀ b c u a0,D b c u a0→∀ _:Env,(∀ (c0:WP),(∀ (c7:World),(∀ _:Env,(∀ (X:WP),(∀ (K:World),(∀ _:Env,(br b (∃ c5,c5 < a0∧D true (i64.wrap (c + 1)) K c5) (idx x j (i64.wrap (g + c)) 7 fun f9 =>
 ∃ a8,ce K f9 3 (B a8)∧∃ Y,Y < a0∧D a8 (i64.wrap (c + 1)) K Y)))→X K)→(drw c7 fun v =>
 idx x j (i64.wrap (g + c)) 7 fun g0 =>
 ∃ C,ce v g0 0 (.int .u8 C)∧((∃ a9,ce v a 0 (S a9)∧((al v 5 [.int .u8 C] fun g1 a2 =>
 (b2s prog a2 (some g1) 1 1 fun g6 =>
 sadd a9 g6 fun g7 =>
 (stL a2 (a.add 0) 0 [S g7] fun h1 =>
 X h1)∧True)∧True)∧True))∧(al v 5 [.int .u8 C] fun g2 A =>
 (b2s prog A (some g2) 1 1 fun g8 =>
 ∃ b0,ce A a 0 (S b0)∧(sadd b0 g8 fun g9 =>
 (stL A (a.add 0) 0 [S g9] fun h2 =>
 X h2)∧True))∧True)∧True))))→c0 c7)→(br (decide (((i64.wrap (g + c)):Int) < ((j:Int)))) (idx x j (i64.wrap (g + c)) 7 fun g3 =>
 ∃ b1,ce u g3 0 (.int .u8 b1)∧br (decide (b1≠0)) (idx x j (i64.wrap (g + c)) 7 fun g4 =>
 ∃ b2,ce u g4 0 (.int .u8 b2)∧Cp 168 [.int .u8 b2] u fun f7 a3 =>
 ∃ b3,rB f7 b3∧br b3 (c0 a3) (p b c a3)) (p b c u)) (p b c u)))) (∃ b4,ce J e 0 (.int .u8 b4)∧al J 5 [.int .u8 b4] fun g5 a4 =>
 b2s prog a4 (some g5) 1 1 fun h0 =>
 stL a4 (a.add 0) 0 [S h0] fun h3 =>
 stL h3 (a.add 4) 0 [I 8] fun h4 =>
 p M 1 h4))))))→Q z s)→(∃ b5,ce r e 0 (.int .u8 b5)∧br (decide (b5≠0)) (∃ b6,ce r e 0 (.int .u8 b6)∧Cp 166 [.int .u8 b6] r fun f8 h5 =>
 ∃ b7,rI f8 b7∧(Q (decide (b7=6)) h5)) (Q false r)))))→O y r)→(∃ b8,ce E e 0 (.int .u8 b8)∧br (decide (b8=0)) (∃ b9,ce E e 1 (I b9)∧(O (decide (b9=0)) E)) (O false E))) (R (rt (L h d f)) o))
theorem q3g {c b a R w} (h:qyr c b a R w):Calls prog qnj ⟨[L c b a]⟩ w R:=qc Tryz.func114 (Eq.mpr (by kernel_rfl:fnV _ _ q04 _ _ _=_) h)
def q03:Ann:=T F (T (T F (T (T F F) F)) (T (T F (.one (.loop 1048460 [(3,.one (.int .i64))] (T (T F (T F F)) (T (.one (T F (T (T F F) F))) F))))) (T F F)))
def qyq (e:OA) (a:Nat) (i:Nat) (R:EP) (w:World):Prop :=
 br (decide ((1024:Int) < ((a:Int)))) (R (rt (I 4)) w) (∃ (d:Int→World→Nat→Prop),(∃ j,d 0 w j)∧∀ b c f,d b c f→∀ _:Env,(br (decide ((b:Int) < ((a:Int)))) (idx e a b 6 fun k =>
 ∃ h,ce c k 0 (S h)∧br (decide ((64:Int) < ((List.length h:Int)))) (R (rt (I 4)) c) (∃ g,g < f∧d (i64.wrap (b + 1)) c g)) (R (rt (I 0)) c)))
theorem q3f {c b a R w} (h:qyq c b a R w):Calls prog qni ⟨[L c b a]⟩ w R:=qc Tryz.func115 (Eq.mpr (by kernel_rfl:fnV _ _ q03 _ _ _=_) h)
def qsf:Ann:=T F (T F (T (T F (.one (.loop 549755813872 [(6,.one (.slice)),(7,.one (.int .i64))] (T (T F (T F F)) (T (.one (T F (.cut 34357642800 [] (T F (T (T F (T (T F (T (T F F) F)) F)) F)) F))) F))))) (T F F)))
def qqi (l:OA) (i:Nat) (h:Nat) (Z:OA) (n:Nat) (a6:Nat) (R:EP) (w:World):Prop :=
 ∃ (T:OA→Nat→Nat→Int→World→Nat→Prop),(∃ a7,T none 0 0 0 w a7)∧∀ f d c j g a0,T f d c j g a0→∀ _:Env,(br (decide ((j:Int) < ((n:Int)))) (idx Z n j 6 fun k =>
 ∃ s,ce g k 0 (S s)∧∃ t,ce g k 1 (S t)∧∃ u,ce g k 2 (S u)∧∃ v,ce g k 3 (I v)∧∃ x,ce g k 4 (I x)∧∃ y,ce g k 5 (S y)∧al g 69 [S [],S [],S [],I 0,I 0,S []] fun a a2 =>
 stL a2 a 0 [S s,S t,S u,I v,I x,S y] fun e =>
 ∀ (m:WP),(∀ (b:World),(∀ _:Env,(∃ z,ce b a 0 (S z)∧∃ A,ce b a 1 (S A)∧∃ B,ce b a 2 (S B)∧∃ C,ce b a 3 (I C)∧∃ D,ce b a 4 (I D)∧∃ E,ce b a 5 (S E)∧al b 69 [S z,S A,S B,I C,I D,S E] fun a1 a3 =>
 app prog [40,40] 40 (L f d c) (.slice (some a1) 1 1) a3 fun W V U a4 =>
 ∃ q,q < a0∧T W V U (i64.wrap (j + 1)) a4 q))→m b)→(∃ F,ce e a 0 (S F)∧∃ G,ce e a 1 (S G)∧∃ H,ce e a 2 (S H)∧∃ J,ce e a 3 (I J)∧∃ K,ce e a 4 (I K)∧∃ M,ce e a 5 (S M)∧Cp 169 [.agg ⟨[S F,S G,S H,I J,I K,S M]⟩] e fun X o =>
 ∃ N,rB X N∧br N (∃ O,ce o a 0 (S O)∧Cp 170 [L l i h,S O] o fun Y r =>
 ∃ Q p,rV Y (.tuple ⟨[S Q,I p]⟩)∧br (decide (p≠0)) (R (rt (.tuple ⟨[L none 0 0,I p]⟩)) r) (stL r (a.add 1) 0 [S Q] fun a5 =>
 m a5)) (m o))) (R (rt (.tuple ⟨[L f d c,I 0]⟩)) g))
theorem qux {c b a f e d R w} (h:qqi c b a f e d R w):Calls prog qin ⟨[L c b a,L f e d]⟩ w R:=qc Tryz.func116 (Eq.mpr (by kernel_rfl:fnV _ _ qsf _ _ _=_) h)
def an_slices_IndexFunc_of_api_Witness_api_Witness:Ann:=T F (T (T F (.one (.loop 524080 [(8,.one (.int .i64))] (T F (T (T F F) (T (.one (T F (T F (T (T F F) F)))) F)))))) (T F F))
def sh_slices_IndexFunc_of_api_Witness_api_Witness (q:OA) (b:Nat) (t:Nat) (n:Fn) (k:Array Value) (l:Array Value) (R:EP) (w:World):Prop :=
 ∃ (j:Int→World→Nat→Prop),(∃ s,j 0 w s)∧∀ a c o,j a c o→∀ _:Env,(br (decide ((a:Int) < ((b:Int)))) (idx q b a 2 fun p =>
 ∃ r,ce c p 0 (S r)∧∃ h e d,ce c p 1 (L h e d)∧CallV prog (.func n k l) [.agg ⟨[S r,L h e d]⟩] c fun m g =>
 ∃ i,rB m i∧br i (R (rt (I a)) g) (∃ f,f < o∧j (i64.wrap (a + 1)) g f)) (R (rt (.int .i64 ((-1)))) c))
theorem c_slices_IndexFunc_of_api_Witness_api_Witness {f d c e a b R w} (h:sh_slices_IndexFunc_of_api_Witness_api_Witness f d c e a b R w):Calls prog F_slices_IndexFunc_of_api_Witness_api_Witness ⟨[L f d c,.func e a b]⟩ w R:=qc Tryz.func117 (Eq.mpr (by kernel_rfl:fnV _ _ an_slices_IndexFunc_of_api_Witness_api_Witness _ _ _=_) h)
def qlc:Ann:=T F (T F (T F F))
def qj7 (a:OA) (R:EP) (w:World):Prop :=
 dr a fun e =>
 ∃ c,cf w e (I c)∧(dr a fun f =>
 stL w f 0 [.int .i64 (i64.wrap (c - 1))] fun b =>
 dr a fun g =>
 ∃ d,cf b g (I d)∧R (rt (.bool (decide ((0:Int)≤d)))) b)
theorem qms {a R w} (h:qj7 a R w):Calls prog qfg ⟨[.pointer a]⟩ w R:=qc Tryz.func118 (Eq.mpr (by kernel_rfl:fnV _ _ qlc _ _ _=_) h)
def qmv:Ann:=T F (T F F)
def qmj (c:OA) (b:Nat) (a:Nat) (R:EP) (w:World):Prop :=
 al w 43 [L c b a] fun d e =>
 R (rt (.func (.func 171) ⟨[]⟩ ⟨[.pointer (some d)]⟩)) e
theorem qo0 {c b a R w} (h:qmj c b a R w):Calls prog qga ⟨[L c b a]⟩ w R:=qc Tryz.func119 (Eq.mpr (by kernel_rfl:fnV _ _ qmv _ _ _=_) h)
def qpe:Ann:=T F (T F (.cut 65284 [] (T F (T (T F F) F)) (T F (T F (T (.one (.cut 9007199246352384 [(23,.one (.bool))] F (T (T F F) (.cut 4722357475670390472704 [(53,.one (.bool))] F (T (T F F) (.cut 4830980911975647053611008 [(72,.one (.bool))] F (T (T F F) (.cut 1298074209798003628674107383480320 [(82,.one (.bool))] (.cut 4946924453863062582897672192 [(82,.one (.bool))] F (T F F)) (T (T F F) (.cut 43556141667805908689605042618642248761344 [(110,.one (.bool))] (.cut 331008924731595261318819140987781120 [(110,.one (.bool))] F (T F (.cut 20936639007827058705142093823497732096 [(110,.one (.bool))] F (T F F)))) (T (T F F) (.cut 11106816456299431447444547186572914421923840 [(135,.one (.bool))] F (T (T F F) (T F (T (T F F) F))))))))))))))) (T F F))))))
def qn4 (f6:Int) (f7:LU) (f8:Int) (f9:OA) (e6:Nat) (e5:Nat) (g0:Int) (g1:Bool) (R:EP) (w:World):Prop :=
 al w 159 [I f6,S f7,I f8,L f9 e6 e5,I g0,B g1] fun F N =>
 ∃ g9,N.cell? ((F.add 0).add 0)=some (I g9)∧(∃ a3,N.cell? ((F.add 0).add 1)=some (S a3)∧∃ a4,N.cell? ((F.add 0).add 2)=some (I a4)∧∃ a5 U T,N.cell? ((F.add 0).add 3)=some (L a5 U T)∧al N 56 [I 0,S [],I 0,L none 0 0] fun a g2 =>
 stL g2 a 0 [I g9,S a3,I a4,L a5 U T] fun A =>
 ∀ (a2:WP),(∀ (j:World),(∀ _:Env,(∃ a6,ce j a 0 (I a6)∧idx (some (⟨0,0,none⟩)) 12 a6 4 fun D =>
 ∃ a7,ce j D 0 (S a7)∧∃ a8,ce j D 1 (B a8)∧∃ a9,ce j D 2 (B a9)∧∃ b0,ce j D 3 (B b0)∧al j 211 [S [],B false,B false,B false] fun c g3 =>
 stL g3 c 0 [S a7,B a8,B a9,B b0] fun b =>
 ∃ V,ce b a 0 (I V)∧∀ (e:Bool→World→Prop),(∀ (v:Bool) (d:World),(∀ _:Env,(br v (R (rt (I 8)) d) (∀ (m:Bool→World→Prop),(∀ (x:Bool) (r:World),(∀ _:Env,(br x (R (rt (I 5)) r) (∀ (G:Bool→World→Prop),(∀ (y:Bool) (s:World),(∀ _:Env,(br y (R (rt (I 11)) s) (∀ (n:Bool→World→Prop),(∀ (z:Bool) (t:World),(∀ _:Env,(br z (R (rt (I 14)) t) (∀ (o:Bool→World→Prop),(∀ (p:Bool) (u:World),(∀ _:Env,(br p (R (rt (I 2)) u) (∀ (H:Bool→World→Prop),(∀ (q:Bool) (k:World),(∀ _:Env,(br q (R (rt (I 10)) k) (∃ b1,ce k a 0 (I b1)∧br (decide (b1=4)) (∃ b2,ce k F 4 (I b2)∧br (decide ((0:Int) < b2)) (R (rt (I 12)) k) (R (rt (I 0)) k)) (R (rt (I 0)) k))))→H q k)→(∃ b3,ce u a 0 (I b3)∧br (decide (b3=1)) (∃ b4,ce u F 5 (B b4)∧(H b4 u)) (H false u)))))→o p u)→(∀ (J:Bool→World→Prop),(∀ (g:Bool) (C:World),(∀ _:Env,(br g (o g C) (∀ (K:Bool→World→Prop),(∀ (h:Bool) (l:World),(∀ _:Env,(br h (o h l) (∃ b5,ce l c 2 (B b5)∧br b5 (br (!(decide (V=6))) (∃ b6,ce l a 2 (I b6)∧(o (decide ((8:Int) < b6)) l)) (o false l)) (o false l))))→K h l)→(br (decide (V=6)) (∃ b7,ce C a 2 (I b7)∧(K (decide ((64:Int) < b7)) C)) (K false C)))))→J g C)→(∃ b8,ce t c 2 (B b8)∧br b8 (∃ b9,ce t a 2 (I b9)∧(J (decide (b9 < 1)) t)) (J false t))))))→n z t)→(∀ (M:Bool→World→Prop),(∀ (i:Bool) (f:World),(∀ _:Env,(br i (n i f) (∃ c0,ce f c 1 (B c0)∧br c0 (∃ c1,ce f a 0 (I c1)∧br (decide (c1≠1)) (∃ c2,ce f a 0 (I c2)∧br (decide (c2≠10)) (∃ c3,ce f a 1 (S c3)∧Cp 90 [S c3] f fun f3 g4 =>
 ∃ c4,rB f3 c4∧(n (!c4) g4)) (n false f)) (n false f)) (n false f))))→M i f)→(∃ c5,ce s a 0 (I c5)∧br (decide (c5=10)) (∃ c6,ce s a 1 (S c6)∧Cp 174 [S c6] s fun f4 g5 =>
 ∃ c7,rB f4 c7∧(M (!c7) g5)) (M false s))))))→G y s)→(∃ c8,ce r a 0 (I c8)∧br (decide (c8=1)) (∃ c9,ce r a 1 (S c9)∧Cp 173 [S c9] r fun f5 g6 =>
 ∃ d0,rI f5 d0∧(G (decide (d0≠0)) g6)) (G false r)))))→m x r)→(∃ d1,ce d a 0 (I d1)∧br (decide (d1=1)) (∃ d2,ce d a 1 (S d2)∧br (decide (d2=([]))) (m true d) (∃ d3,ce d c 3 (B d3)∧br d3 (∃ g7 W e8,ce d a 3 (L g7 W e8)∧(m (decide (((W):Int)=0)) d)) (m false d))) (∃ d4,ce d c 3 (B d4)∧br d4 (∃ g8 X e9,ce d a 3 (L g8 X e9)∧(m (decide (((X):Int)=0)) d)) (m false d))))))→e v d)→(∃ d5,ce b c 1 (B d5)∧br (!d5) (∃ d6,ce b a 1 (S d6)∧br (decide (d6≠([]))) (e true b) (∃ d7,ce b c 2 (B d7)∧br (!d7) (∃ d8,ce b a 2 (I d8)∧br (decide (d8≠0)) (e true b) (∃ d9,ce b c 3 (B d9)∧br (!d9) (∃ h0 Y f0,ce b a 3 (L h0 Y f0)∧(e (decide ((0:Int) < (Y))) b)) (e false b))) (∃ e0,ce b c 3 (B e0)∧br (!e0) (∃ h1 Z f1,ce b a 3 (L h1 Z f1)∧(e (decide ((0:Int) < (Z))) b)) (e false b)))) (∃ e1,ce b c 2 (B e1)∧br (!e1) (∃ e2,ce b a 2 (I e2)∧br (decide (e2≠0)) (e true b) (∃ e3,ce b c 3 (B e3)∧br (!e3) (∃ h2 a0 f2,ce b a 3 (L h2 a0 f2)∧(e (decide ((0:Int) < (a0))) b)) (e false b))) (∃ e4,ce b c 3 (B e4)∧br (!e4) (∃ e7 E a1,ce b a 3 (L e7 E a1)∧(e (decide ((0:Int) < (E))) b)) (e false b))))))→a2 j)→(∃ O,ce A a 0 (I O)∧br (decide (O < 1)) (R (rt (I 8)) A) (∃ Q,ce A a 0 (I Q)∧br (decide ((11:Int) < Q)) (R (rt (I 8)) A) (a2 A))))
theorem qrj {c d e f b a g i R w} (h:qn4 c d e f b a g i R w):Calls prog qg1 ⟨[.agg ⟨[I c,S d,I e,L f b a,I g,B i]⟩]⟩ w R:=qc Tryz.func120 (Eq.mpr (by kernel_rfl:fnV _ _ qpe _ _ _=_) h)
def qmx:Ann:=T F (T F (T F (T F (T F (T F F)))))
def qml (h:OA) (e:Nat) (d:Nat) (R:EP) (w:World):Prop :=
 al w 116 [.pointer none,L none 0 0] fun i n =>
 al n 188 [.nilFunc] fun f o =>
 stL o f 0 [.func (.func 175) ⟨[]⟩ ⟨[.pointer (some i),.pointer (some f)]⟩] fun k =>
 ∃ l b c,cf k f (.func l b c)∧(CallV prog (.func l b c) [L h e d] k fun m p =>
 m=.returned (.tuple ⟨[]⟩)∧Cp 132 [.pointer (some i)] p fun g j =>
 ∃ a,rV g (S a)∧R (rt (S a)) j)
theorem qo2 {c b a R w} (h:qml c b a R w):Calls prog qgb ⟨[L c b a]⟩ w R:=qc Tryz.func121 (Eq.mpr (by kernel_rfl:fnV _ _ qmx _ _ _=_) h)
def qxo:Ann:=T F (T F (T F (T F F)))
def qwr (p:OA) (m:Nat) (l:Nat) (c:Fn) (a:Array Value) (b:Array Value) (R:EP) (w:World):Prop :=
 al w 164 [.func c a b] fun v x =>
 al x 108 [.nilFunc] fun n y =>
 stL y n 0 [.func (.func 177) ⟨[]⟩ ⟨[.pointer (some v),.pointer (some n)]⟩] fun s =>
 ∃ t j k,cf s n (.func t j k)∧(CallV prog (.func t j k) [L p m l] s fun u q =>
 ∃ h e d,rV u (L h e d)∧Cp 179 [L h e d] q fun o r =>
 ∃ i g f,rV o (L i g f)∧R (rt (L i g f)) r)
theorem qk8 {f e d c a b R w} (h:qwr f e d c a b R w):Calls prog qgg ⟨[L f e d,.func c a b]⟩ w R:=qc Tryz.func122 (Eq.mpr (by kernel_rfl:fnV _ _ qxo _ _ _=_) h)
def qpo:Ann:=T F (T (T F (T (T F F) F)) (T F F))
def qoe (D:Int) (E:LU) (F:Int) (G:OA) (v:Nat) (u:Nat) (e:Fn) (b:Array Value) (c:Array Value) (t:OA) (R:EP) (w:World):Prop :=
 al w 56 [I D,S E,I F,L G v u] fun d a =>
 ∃ C,ce a d 0 (I C)∧(∃ l,ce a d 2 (I l)∧dr t fun z =>
 ∃ m,cf a z (I m)∧br (decide (((decide (C=8)):Bool)=(decide (l≤m)))) (CallV prog (.func e b c) [] a fun x A =>
 ∃ n g f,rV x (L n g f)∧R (rt (L n g f)) A) (∃ o,ce a d 0 (I o)∧∃ p,ce a d 1 (S p)∧∃ q,ce a d 2 (I q)∧∃ r i h,ce a d 3 (L r i h)∧Cp 124 [.agg ⟨[I o,S p,I q,L r i h]⟩] a fun y B =>
 ∃ s k j,rV y (L s k j)∧R (rt (L s k j)) B))
theorem qru {g i j k f e c a b d R w} (h:qoe g i j k f e c a b d R w):Calls prog qti ⟨[.agg ⟨[I g,S i,I j,L k f e]⟩,.func c a b,.pointer d]⟩ w R:=qc Tryz.func123 (Eq.mpr (by kernel_rfl:fnV _ _ qpo _ _ _=_) h)
def q1g:Ann:=T F (T F (T (T F (.one (.rf [2,3,7] 0))) (T F F)))
def qy4 (z:Int) (A:LU) (B:Int) (C:OA) (q:Nat) (p:Nat) (R:EP) (w:World):Prop :=
 al w 56 [I z,S A,I B,L C q p] fun D E =>
 al E 43 [L none 0 0] fun o x =>
 ∃ y n m,ce x D 3 (L y n m)∧(Cp 98 [L y n m] x fun r s =>
 ∃ j d e,rV r (.func j d e)∧∀ c:Env,RFw prog none 29 (cdAt Tryz.f124 [1,1,0,1,2]) (upd (upd (upd c 7 (.func j d e)) 3 (.pointer (some o))) 2 (L none 0 0)) [] s 0 (fun a b =>
 ∃ l i h,cf b o (L l i h)∧retD a b fun u =>
 R (rt (L l i h)) u) (fun a b =>
 retD a b fun v =>
 R (rt (L none 0 0)) v) (fun a b =>
 ∃ k g f,cf b o (L k g f)∧retD a b fun t =>
 R (rt (L k g f)) t))
theorem q3r {c d e f b a R w} (h:qy4 c d e f b a R w):Calls prog qnu ⟨[.agg ⟨[I c,S d,I e,L f b a]⟩]⟩ w R:=qc Tryz.func124 (Eq.mpr (by kernel_rfl:fnV _ _ q1g _ _ _=_) h)
def qgw:Ann:=F
def qgu:Ann:=.one (.cut 4193792 [(21,.one (.bool))] F (T F F))
def qtz (a0:OA) (O:Nat) (N:Nat) (c:OA) (a1:Fn) (Q:Array Value) (T:Array Value) (v:Int) (x:LU) (y:Int) (z:OA) (o:Nat) (n:Nat) (l:Nat) (Kn Kr Kx:World→World→Prop) (w:World):Prop :=
 al w 56 [I 0,S [],I 0,L none 0 0] fun b U =>
 stL U b 0 [I v,S x,I y,L z o n] fun B =>
 Ext w B∧∀ a:World,Upd l B a→(∀ (j:Bool→World→Prop),(∀ (e:Bool) (p:World),(∀ _:Env,(br e (drw p fun d =>
 dr c fun H =>
 ∃ D g q,cf d H (L D g q)∧∃ r,ce d b 0 (I r)∧∃ s,ce d b 1 (S s)∧∃ t,ce d b 2 (I t)∧∃ u i h,ce d b 3 (L u i h)∧((al d 56 [I 0,S [],I 0,L none 0 0] fun J V =>
 (app prog [43,43] 43 (L D g q) (.slice (some J) 1 1) V fun k f m C =>
 idx k f (g) 4 fun A =>
 (stL C A 0 [I r,S s,I t,L u i h] fun W =>
 (dr c fun K =>
 stL W K 0 [L k f m] fun X =>
 Kn a X)∧True)∧(dr c fun M =>
 stL C M 0 [L k f m] fun Y =>
 (stL Y A 0 [I r,S s,I t,L u i h] fun Z =>
 Kn a Z)∧True)∧True)∧True)∧True)) (Kn a p)))→j e p)→(∃ E,ce a b 0 (I E)∧br (decide (E=2)) (j true a) (∃ F,ce a b 0 (I F)∧br (decide (F=3)) (j true a) (∃ G,ce a b 0 (I G)∧(j (decide (G=4)) a)))))
theorem qua (base:Env) (h:OA) (c:Nat) (b:Nat) (a:OA) (i:Fn) (d:Array Value) (e:Array Value) (j:Int) (k:LU) (m:Int) (n:OA) (g:Nat) (f:Nat) (l:Nat) (Kn Kr Kx:World→World→Prop) (w:World):fragV prog 29 qgw qgu (cdAt Tryz.f124 [1,1,0,1,2,5]) (cdAt Tryz.f124 [1,1,0,1,2,6]) l 0 Kn Kr Kx (updPs [8] [.agg ⟨[I j,S k,I m,L n g f]⟩] (upd (upd (upd base 7 (.func i d e)) 3 (.pointer a)) 2 (L h c b))) w=qtz h c b a i d e j k m n g f l Kn Kr Kx w:=by kernel_rfl
theorem quh:cdAt Tryz.f124 [1,1,0,1,2]=.rangeFunc (Operand.tmp 7) #[8] (cdAt Tryz.f124 [1,1,0,1,2,5]) (cdAt Tryz.f124 [1,1,0,1,2,6]):=by kernel_rfl
def q0x:Ann:=T F (T (T F (.one (.loop 2147483200 [(9,.one (.int .i64))] (T F (T (T F F) (T (.one (T F (.cut 67100672 [] (T F (.one (T F (T F (T F (T F F)))))) F))) F)))))) (T F F))
def qyk (J:LU) (K:Int) (O:OA) (i:Nat) (Y:Nat) (R:EP) (w:World):Prop :=
 al w 51 [S J,I K] fun d Z =>
 al Z 51 [S [],I 0] fun M a0 =>
 ∃ (H:Int→World→Nat→Prop),(∃ Q,H 0 a0 Q)∧∀ c a p,H c a p→∀ _:Env,(br (decide ((c:Int) < ((i:Int)))) (idx O i c 4 fun g =>
 ∃ r,ce a g 0 (I r)∧∃ s,ce a g 1 (S s)∧∃ t,ce a g 2 (I t)∧∃ u l k,ce a g 3 (L u l k)∧al a 56 [I 0,S [],I 0,L none 0 0] fun h T =>
 stL T h 0 [I r,S s,I t,L u l k] fun b =>
 ∀ (f:WP),(∀ (e:World),(∀ _:Env,(∃ v,ce e d 0 (S v)∧∃ x,ce e d 1 (I x)∧∃ y n m,ce e h 3 (L y n m)∧Cp 125 [.agg ⟨[S v,I x]⟩,L y n m] e fun N U =>
 ∃ z A,rV N (.agg ⟨[S z,I A]⟩)∧stL U d 0 [S z,I A] fun V =>
 ∃ q,q < p∧H (i64.wrap (c + 1)) V q))→f e)→(∃ o,ce b h 0 (I o)∧br (decide (o=3)) (∃ B,ce b h 1 (S B)∧stL b d 0 [S B,I 0] fun W =>
 f W) (br (decide (o=2)) (∃ C,ce b d 1 (I C)∧stL b (d.add 1) 0 [.int .i64 (i64.wrap (C + 1))] fun X =>
 f X) (f b)))) (∃ D,ce a d 0 (S D)∧∃ E,ce a d 1 (I E)∧stL a M 0 [S D,I E] fun j =>
 ∃ F,ce j M 0 (S F)∧∃ G,ce j M 1 (I G)∧R (rt (.agg ⟨[S F,I G]⟩)) j))
theorem q29 {a b e d c R w} (h:qyk a b e d c R w):Calls prog qnc ⟨[.agg ⟨[S a,I b]⟩,L e d c]⟩ w R:=qc Tryz.func125 (Eq.mpr (by kernel_rfl:fnV _ _ q0x _ _ _=_) h)
def qsb:Ann:=T F (T (.one (.cut 4088 [(3,.one (.bool))] F (T (T F F) (.cut 8384512 [(12,.one (.bool))] F (T (T F F) (.cut 17171480576 [(23,.one (.bool))] F (T (T F F) (T F (T (T F F) F))))))))) (T F F))
def qqe (E:LU) (F:LU) (R:EP) (w:World):Prop :=
 al w 91 [S E,S F] fun b j =>
 ∀ (z:Bool→World→Prop),(∀ (h:Bool) (f:World),(∀ _:Env,(br h (R (rt (I 5)) f) (∀ (A:Bool→World→Prop),(∀ (d:Bool) (e:World),(∀ _:Env,(br d (R (rt (I 4)) e) (∀ (g:Bool→World→Prop),(∀ (c:Bool) (a:World),(∀ _:Env,(br c (R (rt (I 11)) a) (∃ k,ce a b 1 (S k)∧∃ l,ce a b 0 (S l)∧br (decide ((((List.length l:Int)):Int) < ((List.length k:Int)))) (R (rt (I 24)) a) (∃ m,ce a b 1 (S m)∧∃ n,ce a b 0 (S n)∧br (decide ((((List.length m:Int)):Int)=((List.length n:Int)))) (∃ o,ce a b 1 (S o)∧∃ p,ce a b 0 (S p)∧br (!(Op.bytesLess o p)) (R (rt (I 24)) a) (R (rt (I 0)) a)) (R (rt (I 0)) a)))))→g c a)→(∃ q,ce e b 0 (S q)∧Cp 180 [S q] e fun B i =>
 ∃ r,rB B r∧br (!r) (g true i) (∃ s,ce i b 1 (S s)∧Cp 180 [S s] i fun C D =>
 ∃ t,rB C t∧(g (!t) D))))))→A d e)→(∃ u,ce f b 0 (S u)∧br (decide ((64:Int) < ((List.length u:Int)))) (A true f) (∃ v,ce f b 1 (S v)∧(A (decide ((64:Int) < ((List.length v:Int)))) f))))))→z h f)→(∃ x,ce j b 0 (S x)∧br (decide (x=([]))) (z true j) (∃ y,ce j b 1 (S y)∧(z (decide (y=([]))) j)))
theorem qut {a b R w} (h:qqe a b R w):Calls prog qik ⟨[.agg ⟨[S a,S b]⟩]⟩ w R:=qc Tryz.func126 (Eq.mpr (by kernel_rfl:fnV _ _ qsb _ _ _=_) h)
def qmz:Ann:=T F (T F (T F (T F F)))
def qmn (c:Fn) (a:Array Value) (b:Array Value) (l:OA) (m:OA) (R:EP) (w:World):Prop :=
 al w 166 [.func c a b] fun A n =>
 dr l fun q =>
 ∃ y,ce n q 0 (S y)∧(∃ z,ce n q 1 (I z)∧al n 123 [I 0,.int .u8 0,I 0,S [],I 0,B false,S []] fun r s =>
 stL s r 0 [I 0,.int .u8 0,I 0,S y,I z,B false,S []] fun t =>
 al t 89 [.nilFunc] fun d u =>
 stL u d 0 [.func (.func 128) ⟨[]⟩ ⟨[.pointer (some r),.pointer (some A),.pointer (some d)]⟩] fun e =>
 ∃ j f g,cf e d (.func j f g)∧dr m fun p =>
 ∃ k i h,cf e p (L k i h)∧CallV prog (.func j f g) [L k i h] e fun o v =>
 ∃ x,rB o x∧R (rt (.tuple ⟨[]⟩)) v)
theorem qo4 {c a b d e R w} (h:qmn c a b d e R w):Calls prog qbz ⟨[.func c a b,.pointer d,.pointer e]⟩ w R:=qc Tryz.func127 (Eq.mpr (by kernel_rfl:fnV _ _ qmz _ _ _=_) h)
end Go.Proofs