/- A part of the proof. -/
import Derived.Test.YtkecgnlelgdndaaGreatDoorFn
set_option linter.all false
set_option maxRecDepth 100000
namespace Go.Proofs
open Go Go.Sh Go.Proofs.Tryz IntKind
def an_law16_WitnessSources:Ann:=T F (.cut 2146959424 [] (T F (T (T F F) F)) (T F (T F (T F (T F (.cut 2361180989635008921664 [] (T F (T (T F F) F)) (T F (T F (T F F)))))))))
def sh_law16_WitnessSources (g:OA) (c:Nat) (b:Nat) (f:OA) (e:Nat) (d:Nat) (a:LU) (R:EP) (w:World):Prop :=
 ∀ (a8:WP),(∀ (d0:World),(∀ _:Env,(Cp 14 [L g c b] d0 fun d6 d7 =>
 ∃ d4 a7 a6 d5,rV d6 (.tuple ⟨[L d4 a7 a6,I d5]⟩)∧Cp 15 [L g c b] d7 fun a9 c4 =>
 ∃ F m l G,rV a9 (.tuple ⟨[L F m l,I G]⟩)∧Cp 16 [L g c b] c4 fun b0 c5 =>
 ∃ H o n J,rV b0 (.tuple ⟨[L H o n,I J]⟩)∧Cp 17 [L g c b] c5 fun b1 c6 =>
 ∃ K q p M,rV b1 (.tuple ⟨[L K q p,I M]⟩)∧∀ (A:WP),(∀ (C:World),(∀ _:Env,(Cp 20 [L g c b,L f e d,S a] C fun b2 c7 =>
 ∃ N s r O u t Q,rV b2 (.tuple ⟨[L N s r,L O u t,I Q]⟩)∧Cp 21 [L g c b,L f e d,S a] c7 fun b3 c8 =>
 ∃ T x v U z y V,rV b3 (.tuple ⟨[L T x v,L U z y,I V]⟩)∧Cp 19 [L N s r,L T x v] c8 fun b4 D =>
 ∃ W,rB b4 W∧br W (Cp 22 [L O u t,L U z y,.func (.func 23) #[] #[]] D fun b5 h =>
 ∃ X,rB b5 X∧br X (br (decide (Q=V)) (Cp 13 [] h fun b6 c9 =>
 ∃ Y,rB b6 Y∧R (rt (B Y)) c9) (R (rt (B false)) h)) (R (rt (B false)) h)) (R (rt (B false)) D)))→A C)→(Cp 18 [L d4 a7 a6,L F m l] c6 fun b7 i =>
 ∃ Z,rB b7 Z∧br (!Z) (R (rt (B false)) i) (br (decide (d5≠G)) (R (rt (B false)) i) (Cp 19 [L H o n,L K q p] i fun b8 j =>
 ∃ a0,rB b8 a0∧br (!a0) (R (rt (B false)) j) (br (decide (J≠M)) (R (rt (B false)) j) (A j)))))))→a8 d0)→(Cp 11 [L g c b] w fun b9 E =>
 ∃ a1,rB b9 a1∧br a1 (Cp 13 [] E fun c0 d1 =>
 ∃ a2,rB c0 a2∧R (rt (B a2)) d1) (Cp 12 [L f e d] E fun c1 k =>
 ∃ a3,rB c1 a3∧br a3 (Cp 13 [] k fun c2 d2 =>
 ∃ a4,rB c2 a4∧R (rt (B a4)) d2) (br (decide ((30:Int) < ((List.length a:Int)))) (Cp 13 [] k fun c3 d3 =>
 ∃ a5,rB c3 a5∧R (rt (B a5)) d3) (a8 k))))
theorem c_law16_WitnessSources {g f e d c b a R w} (h:sh_law16_WitnessSources g f e d c b a R w):Calls prog F_law16_WitnessSources ⟨[L g f e,L d c b,S a]⟩ w R:=qc Tryz.func3 (Eq.mpr (by kernel_rfl:fnV _ _ an_law16_WitnessSources _ _ _=_) h)
def q3x:Ann:=T F (T (T F (T (T F F) F)) (T (T F (.one (.loop 140737488355212 [(3,.one (.int .i64))] (T (T F (T F F)) (T (.one (T F (T (T F F) F))) F))))) (T F F)))
def q2c (d:OA) (a:Nat) (u:Nat) (R:EP) (w:World):Prop :=
 br (decide ((35:Int) < ((a:Int)))) (R (rt (B true)) w) (∃ (f:Int→World→Nat→Prop),(∃ v,f 0 w v)∧∀ c g n,f c g n→∀ _:Env,(br (decide ((c:Int) < ((a:Int)))) (idx d a c 2 fun x =>
 ∃ s m l,ce g x 1 (L s m l)∧Cp 55 [L s m l] g fun t b =>
 ∃ j,rB t j∧br j (R (rt (B true)) b) (idx d a c 2 fun p =>
 ∃ k,ce b p 0 (S k)∧br (decide ((20:Int) < ((List.length k:Int)))) (R (rt (B true)) b) (br (decide ((4:Int) < ((a:Int)))) (br (decide ((((a:Int)):Int)≤32)) (R (rt (B true)) b) (idx d a c 2 fun q =>
 ∃ r e o,ce b q 1 (L r e o)∧br (decide ((0:Int) < (e))) (R (rt (B true)) b) (∃ h,h < n∧f (i64.wrap (c + 1)) b h))) (∃ i,i < n∧f (i64.wrap (c + 1)) b i)))) (R (rt (B false)) g)))
theorem q75 {c b a R w} (h:q2c c b a R w):Calls prog qsw ⟨[L c b a]⟩ w R:=qc Tryz.func11 (Eq.mpr (by kernel_rfl:fnV _ _ q3x _ _ _=_) h)
def qj2:Ann:=T F (T (T F (T (T F F) F)) (T (T F (.one (.loop 140737488355212 [(3,.one (.int .i64))] (T (T F (T F F)) (T (.one (T F (T (T F F) F))) F))))) (T F F)))
def qjv (d:OA) (a:Nat) (n:Nat) (R:EP) (w:World):Prop :=
 br (decide ((4099:Int) < ((a:Int)))) (R (rt (B true)) w) (∃ (e:Int→World→Nat→Prop),(∃ o,e 0 w o)∧∀ c b l,e c b l→∀ _:Env,(br (decide ((c:Int) < ((a:Int)))) (idx d a c 2 fun p =>
 ∃ m,ce b p 0 (S m)∧br (decide ((30:Int) < ((List.length m:Int)))) (R (rt (B true)) b) (idx d a c 2 fun q =>
 ∃ i,ce b q 1 (S i)∧br (decide ((30:Int) < ((List.length i:Int)))) (R (rt (B true)) b) (br (decide ((8:Int) < ((a:Int)))) (br (decide ((((a:Int)):Int)≤4096)) (R (rt (B true)) b) (idx d a c 2 fun h =>
 ∃ j,ce b h 0 (S j)∧∃ k,ce b h 1 (S k)∧br (!(decide (j=([]))&&(decide (k=([]))&&true))) (R (rt (B true)) b) (∃ f,f < l∧e (i64.wrap (c + 1)) b f))) (∃ g,g < l∧e (i64.wrap (c + 1)) b g)))) (R (rt (B false)) b)))
theorem qk7 {c b a R w} (h:qjv c b a R w):Calls prog qe7 ⟨[L c b a]⟩ w R:=qc Tryz.func12 (Eq.mpr (by kernel_rfl:fnV _ _ qj2 _ _ _=_) h)
def q4l:Ann:=T F (T F (T F (T F (T F (.cut 4611685880988434433 [] (T F (T (T F F) F)) (T F F))))))
def q20  (R:EP) (w:World):Prop :=
 Cp 56 [] w fun f8 g1 =>
 ∃ f3 f4 X W,rV f8 (.agg ⟨[S f3,L f4 X W]⟩)∧(al g1 45 [S f3,L f4 X W] fun g0 g2 =>
 Cp 14 [.slice (some g0) 1 1] g2 fun f9 g3 =>
 ∃ f7 a7 a6 C,rV f9 (.tuple ⟨[L f7 a7 a6,I C]⟩)∧Cp 56 [] g3 fun b3 d8 =>
 ∃ D E f e,rV b3 (.agg ⟨[S D,L E f e]⟩)∧Cp 25 [.agg ⟨[S D,L E f e]⟩] d8 fun b4 d9 =>
 ∃ F h g G,rV b4 (.tuple ⟨[L F h g,I G]⟩)∧Cp 56 [] d9 fun b5 e0 =>
 ∃ H J j i,rV b5 (.agg ⟨[S H,L J j i]⟩)∧al e0 45 [S H,L J j i] fun c4 e1 =>
 Cp 20 [.slice (some c4) 1 1,L none 0 0,S [111,110,101]] e1 fun b6 e2 =>
 ∃ K l k d a a8 M,rV b6 (.tuple ⟨[L K l k,L d a a8,I M]⟩)∧al e2 9 [S [111,110,101],S [116,104,114,101,101]] fun c5 e3 =>
 Cp 35 [S [65],.slice (some c5) 2 2] e3 fun b7 e4 =>
 ∃ N O n m,rV b7 (.agg ⟨[S N,L O n m]⟩)∧al e4 9 [S [116,119,111],S [116,104,114,101,101]] fun c6 e5 =>
 Cp 35 [S [66],.slice (some c6) 2 2] e5 fun b8 e6 =>
 ∃ Q T p o,rV b8 (.agg ⟨[S Q,L T p o]⟩)∧al e6 45 [S N,L O n m,S Q,L T p o] fun c7 e7 =>
 Cp 16 [.slice (some c7) 2 2] e7 fun b9 c =>
 ∃ U r q V,rV b9 (.tuple ⟨[L U r q,I V]⟩)∧∀ (x:WP),(∀ (y:World),(∀ _:Env,(al y 65 [S [65,42],I 0,I 0,S [65,49],I 0,I 1] fun c8 e8 =>
 Cp 57 [L f7 a7 a6,.slice (some c8) 2 2] e8 fun c0 z =>
 ∃ Y,rB c0 Y∧br Y (al z 9 [S [111,110,101],S [116,119,111]] fun c9 e9 =>
 Cp 19 [L F h g,.slice (some c9) 2 2] e9 fun c1 A =>
 ∃ Z,rB c1 Z∧br Z (al A 9 [S [65,42],S [65,49]] fun d0 f0 =>
 Cp 19 [L K l k,.slice (some d0) 2 2] f0 fun c2 b =>
 ∃ a0,rB c2 a0∧br a0 (idx d a 0 1 fun d1 =>
 ∃ a1 s a9,cf b d1 (L a1 s a9)∧idx a1 s 0 6 fun d2 =>
 ∃ a2,ce b d2 0 (S a2)∧br (decide (a2=([100,101]))) (idx d a 1 1 fun d3 =>
 ∃ a3 t b0,cf b d3 (L a3 t b0)∧idx a3 t 0 6 fun d4 =>
 ∃ a4,ce b d4 0 (S a4)∧br (decide (a4=([100,101,117,115]))) (al b 9 [S [111,110,101],S [116,119,111],S [116,104,114,101,101]] fun d5 f1 =>
 Cp 19 [L U r q,.slice (some d5) 3 3] f1 fun c3 f2 =>
 ∃ a5,rB c3 a5∧R (rt (B a5)) f2) (R (rt (B false)) b)) (R (rt (B false)) b)) (R (rt (B false)) b)) (R (rt (B false)) A)) (R (rt (B false)) z)))→x y)→(br (decide ((((max (max (max C G) M) V)):Int)≠0)) (R (rt (B false)) c) (br (decide (((a):Int)≠2)) (R (rt (B false)) c) (idx d a 0 1 fun d6 =>
 ∃ f5 u b1,cf c d6 (L f5 u b1)∧br (decide (((u):Int)≠1)) (R (rt (B false)) c) (idx d a 1 1 fun d7 =>
 ∃ f6 v b2,cf c d7 (L f6 v b2)∧br (decide (((v):Int)≠1)) (R (rt (B false)) c) (x c))))))
theorem q8r {R w} (h:q20  R w):Calls prog qjc ⟨[]⟩ w R:=qc Tryz.func13 (Eq.mpr (by kernel_rfl:fnV _ _ q4l _ _ _=_) h)
def qr2:Ann:=T F (T (T F (T F (T (T F F) F))) (T F (T (T F (.one (.loop 9444732965739286236140 [(5,.one (.slice)),(22,.one (.int .i64))] (T F (T (T F F) (T (.one (T F (T F (T (T F (T (T F F) F)) (T (T F (T (T F F) F)) (T F (T F (.one (.loop 4722294425275607287840 [(5,.one (.slice)),(56,.one (.int .i64))] (T F (T (T F F) (T (.one (T F (.one F))) F)))))))))))) F)))))) (T F (T (T F (.one (.loop 309409451957619154401378316 [(76,.one (.int .i64))] (T F (T (T F F) (T (.one (T F (T (T F (T (T F F) F)) F))) F)))))) (T (T F (T (T F F) F)) (T F F)))))))
def qp5 (H:OA) (p:Nat) (c0:Nat) (R:EP) (w:World):Prop :=
 Cp 58 [L H p c0] w fun f6 e5 =>
 ∃ c3,rI f6 c3∧(br (decide (c3≠0)) (R (rt (.tuple ⟨[L none 0 0,I c3]⟩)) e5) (∃ (F:OA→Nat→Nat→Int→World→Nat→Prop),(∃ d1,F none 0 0 0 e5 d1)∧∀ g b h a y c1,F g b h a y c1→∀ _:Env,(br (decide ((a:Int) < ((p:Int)))) (idx H p a 2 fun T =>
 ∃ W,ce y T 0 (S W)∧∃ X A z,ce y T 1 (L X A z)∧al y 45 [S [],L none 0 0] fun k e2 =>
 stL e2 k 0 [S W,L X A z] fun U =>
 ∃ Y D C,ce U k 1 (L Y D C)∧Cp 45 [L Y D C] U fun c8 m =>
 ∃ Z l c2 E,rV c8 (.tuple ⟨[L Z l c2,I E]⟩)∧br (decide (E≠0)) (R (rt (.tuple ⟨[L none 0 0,I E]⟩)) m) (br (decide (((l):Int)=0)) (∃ a0,ce m k 0 (S a0)∧al m 65 [S a0,I a,I 0] fun d4 e3 =>
 app prog [27,27] 27 (L g b h) (.slice (some d4) 1 1) e3 fun c4 b3 b2 e4 =>
 ∃ J,J < c1∧F c4 b3 b2 (i64.wrap (a + 1)) e4 J) (∃ a1,ce m k 0 (S a1)∧(sadd a1 ([42]) fun d9 =>
 al m 65 [S d9,I a,I 0] fun d5 e6 =>
 app prog [27,27] 27 (L g b h) (.slice (some d5) 1 1) e6 fun c5 b5 b4 e7 =>
 ∃ (q:OA→Nat→Nat→Int→World→Nat→Prop),(∃ d2,q c5 b5 b4 0 e7 d2)∧∀ f e d c r t,q f e d c r t→∀ _:Env,(br (decide ((c:Int) < (l))) (idx Z l c 1 fun d6 =>
 ∃ o,cf r d6 (I o)∧drw r fun x =>
 (∃ a2,ce x k 0 (S a2)∧((Cp 59 [I o] x fun c9 e8 =>
 ∃ a3,rV c9 (S a3)∧(sadd a2 a3 fun e0 =>
 (al e8 65 [S e0,I a,I o] fun d7 e9 =>
 (app prog [27,27] 27 (L f e d) (.slice (some d7) 1 1) e9 fun c6 b7 b6 f0 =>
 ∃ K,K < t∧q c6 b7 b6 (i64.wrap (c + 1)) f0 K)∧True)∧True))∧True))∧(Cp 59 [I o] x fun d0 V =>
 ∃ a4,rV d0 (S a4)∧∃ a5,ce V k 0 (S a5)∧(sadd a5 a4 fun e1 =>
 (al V 65 [S e1,I a,I o] fun d8 f1 =>
 (app prog [27,27] 27 (L f e d) (.slice (some d8) 1 1) f1 fun c7 b9 b8 f2 =>
 ∃ M,M < t∧q c7 b9 b8 (i64.wrap (c + 1)) f2 M)∧True)∧True))∧True) (∃ N,N < c1∧F f e d (i64.wrap (a + 1)) r N)))))) (mkm y fun G f3 =>
 ∃ (s:Int→World→Nat→Prop),(∃ d3,s 0 f3 d3)∧∀ i j O,s i j O→∀ _:Env,(br (decide ((i:Int) < ((b:Int)))) (idx g b i 3 fun u =>
 ∃ a6,ce j u 0 (S a6)∧∃ a7,ce j u 1 (I a7)∧∃ a8,ce j u 2 (I a8)∧al j 65 [S [],I 0,I 0] fun v f4 =>
 stL f4 v 0 [S a6,I a7,I a8] fun n =>
 ∃ a9,ce n v 0 (S a9)∧∃ b0,lkAt prog 95 (.map (some G)) (S a9) n (B b0)∧br b0 (R (rt (.tuple ⟨[L none 0 0,I 7]⟩)) n) (∃ b1,ce n v 0 (S b1)∧(mupd prog 95 (.map (some G)) (S b1) (B true) n fun f5 =>
 ∃ Q,Q < O∧s (i64.wrap (i + 1)) f5 Q))) (br (decide ((32:Int) < ((b:Int)))) (R (rt (.tuple ⟨[L none 0 0,I 4]⟩)) j) (R (rt (.tuple ⟨[L g b h,I 0]⟩)) j)))))))
theorem quj {c b a R w} (h:qp5 c b a R w):Calls prog qib ⟨[L c b a]⟩ w R:=qc Tryz.func14 (Eq.mpr (by kernel_rfl:fnV _ _ qr2 _ _ _=_) h)
def qxd:Ann:=T F (T (T F (T F (T (T F F) F))) (T F (T (T F (.one (.loop 309485009821345068724519904 [(5,.one (.slice)),(6,.one (.int .i64))] (T (T F (T F F)) (T (.one (T F (T (T F (T (T F F) F)) (T F (T F (.one (.loop 309485009677229880648925728 [(5,.one (.slice)),(9,.one (.int .i64))] (T (T F (T F F)) (T (.one F) F))))))))) F))))) (T (T F (.one (.loop 1298073905148697085787555357527052 [(10,.one (.int .i64))] (T (T F (T F F)) (T (.one (T F (.one (.loop 1298054407593078341048225696319500 [(11,.one (.int .i64))] (T (T F (T F F)) (T (.one (T F (T (T F F) F))) F)))))) F))))) (T (T F (T (T F F) F)) (T F F))))))
def qwh (m:OA) (f:Nat) (a5:Nat) (R:EP) (w:World):Prop :=
 Cp 60 [L m f a5] w fun d9 d3 =>
 ∃ a7,rI d9 a7∧(br (decide (a7≠0)) (R (rt (.tuple ⟨[L none 0 0,I a7]⟩)) d3) (al d3 65 [] fun e0 e1 =>
 ∃ (C:OA→Nat→Nat→Int→World→Nat→Prop),(∃ b2,C (some e0) 0 0 0 e1 b2)∧∀ c a d b o x,C c a d b o x→∀ _:Env,(br (decide ((b:Int) < ((f:Int)))) (idx m f b 2 fun b6 =>
 ∃ N B A,ce o b6 1 (L N B A)∧Cp 61 [L N B A] o fun b1 p =>
 ∃ s i a6 d8,rV b1 (.tuple ⟨[L s i a6,I d8]⟩)∧br (decide (((i):Int)=0)) (idx m f b 2 fun b7 =>
 ∃ O,ce p b7 0 (S O)∧al p 65 [S O,I b,I 0] fun b8 d1 =>
 app prog [27,27] 27 (L c a d) (.slice (some b8) 1 1) d1 fun a8 a0 Z d2 =>
 ∃ D,D < x∧C a8 a0 Z (i64.wrap (b + 1)) d2 D) (idx m f b 2 fun b9 =>
 ∃ Q,ce p b9 0 (S Q)∧(sadd Q ([42]) fun c8 =>
 al p 65 [S c8,I b,I 0] fun c0 d4 =>
 app prog [27,27] 27 (L c a d) (.slice (some c0) 1 1) d4 fun a9 a2 a1 d5 =>
 ∃ (t:OA→Nat→Nat→Int→World→Nat→Prop),(∃ b3,t a9 a2 a1 0 d5 b3)∧∀ k h g e y E,t k h g e y E→∀ _:Env,(br (decide ((e:Int) < (i))) (drw y fun n =>
 idx m f b 2 fun c1 =>
 ∃ T,ce n c1 0 (S T)∧idx s i e 1 fun c2 =>
 ∃ U,cf n c2 (I U)∧idx s i e 1 fun c3 =>
 ∃ V,cf n c3 (I V)∧(ssl ([48,49,50,51,52,53,54,55,56,57]) U (i64.wrap (V + 1)) fun c9 =>
 sadd T c9 fun d0 =>
 idx s i e 1 fun c4 =>
 ∃ W,cf n c4 (I W)∧((al n 65 [S d0,I b,I W] fun c5 d6 =>
 (app prog [27,27] 27 (L k h g) (.slice (some c5) 1 1) d6 fun b0 a4 a3 d7 =>
 ∃ F,F < E∧t b0 a4 a3 (i64.wrap (e + 1)) d7 F)∧True)∧True))) (∃ G,G < x∧C k h g (i64.wrap (b + 1)) y G))))) (∃ (u:Int→World→Nat→Prop),(∃ b4,u 0 o b4)∧∀ j q H,u j q H→∀ _:Env,(br (decide ((j:Int) < ((a:Int)))) (∃ (v:Int→World→Nat→Prop),(∃ b5,v 0 q b5)∧∀ l z J,v l z J→∀ _:Env,(br (decide ((l:Int) < j)) (drw z fun r =>
 idx c a j 3 fun c6 =>
 ∃ X,ce r c6 0 (S X)∧idx c a l 3 fun c7 =>
 ∃ Y,ce r c7 0 (S Y)∧br (decide (X=Y)) (R (rt (.tuple ⟨[L none 0 0,I 7]⟩)) r) (∃ K,K < J∧v (i64.wrap (l + 1)) r K)) (∃ M,M < H∧u (i64.wrap (j + 1)) z M))) (br (decide ((32:Int) < ((a:Int)))) (R (rt (.tuple ⟨[L none 0 0,I 4]⟩)) q) (R (rt (.tuple ⟨[L c a d,I 0]⟩)) q)))))))
theorem q0k {c b a R w} (h:qwh c b a R w):Calls prog qlq ⟨[L c b a]⟩ w R:=qc Tryz.func15 (Eq.mpr (by kernel_rfl:fnV _ _ qxd _ _ _=_) h)
def qxb:Ann:=T F (T (T F (T F (T (T F F) F))) (T F (T F (T (T F (.one (.loop 140737421249280 [(26,.one (.int .i64))] (T F (T (T F F) (T (.one (T F (T F (T F (T F (.one (.loop 69818988365824 [(39,.one (.int .i64))] (T F (T (T F F) (T (.one (T F F)) F)))))))))) F)))))) (T (T (T F F) (T (T F F) F)) (T F (T F (T F (T F (T (.one (.loop 2361174234235568066572 [(12,.one (.slice))] (T (T (T F F) (T F F)) (.one (T F (T (T F (T (T F F) F)) (T F F))))))) (T F F)))))))))))
def qwf (z:OA) (h:Nat) (a4:Nat) (R:EP) (w:World):Prop :=
 Cp 58 [L z h a4] w fun d3 c3 =>
 ∃ a5,rI d3 a5∧(br (decide (a5≠0)) (R (rt (.tuple ⟨[L none 0 0,I a5]⟩)) c3) (al c3 96 [L none 0 0] fun y d4 =>
 mkm d4 fun a3 d5 =>
 ∃ (Y:Int→World→Nat→Prop),(∃ b1,Y 0 d5 b1)∧∀ b f A,Y b f A→∀ _:Env,(br (decide ((b:Int) < ((h:Int)))) (idx z h b 2 fun H =>
 ∃ O,ce f H 0 (S O)∧∃ Q p o,ce f H 1 (L Q p o)∧al f 45 [S [],L none 0 0] fun J b9 =>
 stL b9 J 0 [S O,L Q p o] fun M =>
 ∃ T r q,ce M J 1 (L T r q)∧Cp 62 [L T r q] M fun a9 N =>
 ∃ s g t,rV a9 (L s g t)∧∃ U v u,cf N y (L U v u)∧al N 31 [L s g t] fun b6 c0 =>
 app prog [96,96] 96 (L U v u) (.slice (some b6) 1 1) c0 fun a6 a0 Z c1 =>
 stL c1 y 0 [L a6 a0 Z] fun c2 =>
 ∃ (l:Int→World→Nat→Prop),(∃ b2,l 0 c2 b2)∧∀ c j C,l c j C→∀ _:Env,(br (decide ((c:Int) < (g))) (idx s g c 1 fun b7 =>
 ∃ V,cf j b7 (S V)∧(mupd prog 95 (.map (some a3)) (S V) (B true) j fun c4 =>
 ∃ D,D < C∧l (i64.wrap (c + 1)) c4 D)) (∃ E,E < A∧Y (i64.wrap (b + 1)) j E))) (mlenV f (.map (some a3)) fun b4 =>
 br (decide ((64:Int) < b4)) (R (rt (.tuple ⟨[L none 0 0,I 4]⟩)) f) (mkm f fun a8 c5 =>
 al c5 95 [.map none] fun i c6 =>
 stL c6 i 0 [.map (some a8)] fun c7 =>
 al c7 98 [.nilFunc] fun K c8 =>
 stL c8 K 0 [.func (.func 63) ⟨[]⟩ ⟨[.pointer (some y),.pointer (some i)]⟩] fun c9 =>
 ∃ (m:OA→Nat→Nat→World→Nat→Prop),(∃ b3,m none 0 0 c9 b3)∧∀ e a d k F,m e a d k F→∀ _:Env,(mlenV k (.map (some a3)) fun b5 =>
 br (decide ((((a:Int)):Int) < b5)) (CallV prog (.func (.func 64) ⟨[]⟩ ⟨[.pointer (some y),.pointer (some i),.pointer (some K)]⟩) [] k fun b0 n =>
 ∃ x W,rV b0 (.tuple ⟨[S x,B W]⟩)∧br (!W) (R (rt (.tuple ⟨[L none 0 0,I 15]⟩)) n) (∃ X,cf n i (X)∧(mupd prog 95 X (S x) (B true) n fun d0 =>
 al d0 9 [S x] fun b8 d1 =>
 app prog [31,31] 31 (L e a d) (.slice (some b8) 1 1) d1 fun a7 a2 a1 d2 =>
 ∃ G,G < F∧m a7 a2 a1 d2 G))) (R (rt (.tuple ⟨[L e a d,I 0]⟩)) k)))))))
theorem q0i {c b a R w} (h:qwf c b a R w):Calls prog qll ⟨[L c b a]⟩ w R:=qc Tryz.func16 (Eq.mpr (by kernel_rfl:fnV _ _ qxb _ _ _=_) h)
def q3w:Ann:=T F (T (T F (T F (T (T F F) F))) (T F (T (T F (.one (.loop 17592185782624 [(5,.one (.slice)),(6,.one (.int .i64))] (T (T F (T F F)) (T (.one (T F (.one (.loop 17590038561056 [(5,.one (.slice)),(31,.one (.int .i64))] (T F (T (T F F) (T (.one (T F (T F (T F F)))) F))))))) F))))) (T (T F (T (T F F) F)) (T F (T (.one (.loop 77371252455054792204488204 [(9,.one (.slice))] (T (T F (T F F)) (.one (T F (T (T F (.one (.loop 151115655394234608913408 [(10,.one (.int .i64)),(11,.one (.int .i64))] (T (T F (T F F)) (T (.one (T F (T F F))) F))))) (T (T F (T (T F F) F)) F))))))) (T F F)))))))
def q2b (x:OA) (m:Nat) (y:Nat) (R:EP) (w:World):Prop :=
 Cp 60 [L x m y] w fun d5 c9 =>
 ∃ a9,rI d5 a9∧(br (decide (a9≠0)) (R (rt (.tuple ⟨[L none 0 0,I a9]⟩)) c9) (al c9 9 [] fun d6 d7 =>
 ∃ (a3:OA→Nat→Nat→Int→World→Nat→Prop),(∃ b6,a3 (some d6) 0 0 0 d7 b6)∧∀ k a o s p F,a3 k a o s p F→∀ _:Env,(br (decide ((s:Int) < ((m:Int)))) (idx x m s 2 fun c0 =>
 ∃ V D C,ce p c0 1 (L V D C)∧Cp 65 [L V D C] p fun b2 c8 =>
 ∃ W q a8,rV b2 (L W q a8)∧∃ (r:OA→Nat→Nat→Int→World→Nat→Prop),(∃ b7,r k a o 0 c8 b7)∧∀ g d c j u z,r g d c j u z→∀ _:Env,(br (decide ((j:Int) < (q))) (idx W q j 1 fun c1 =>
 ∃ E,cf u c1 (S E)∧Cp 66 [L g d c,S E] u fun b3 T =>
 ∃ X,rI b3 X∧br (decide (X < 0)) (al T 9 [S E] fun c2 d0 =>
 app prog [31,31] 31 (L g d c) (.slice (some c2) 1 1) d0 fun b0 a5 a4 d1 =>
 ∃ G,G < z∧r b0 a5 a4 (i64.wrap (j + 1)) d1 G) (∃ H,H < z∧r g d c (i64.wrap (j + 1)) T H)) (∃ J,J < F∧a3 g d c (i64.wrap (s + 1)) u J))) (br (decide ((64:Int) < ((a:Int)))) (R (rt (.tuple ⟨[L none 0 0,I 4]⟩)) p) (al p 9 [] fun c3 d2 =>
 ∃ (v:OA→Nat→Nat→World→Nat→Prop),(∃ b8,v (some c3) 0 0 d2 b8)∧∀ i b f A K,v i b f A K→∀ _:Env,(br (decide ((((b:Int)):Int) < ((a:Int)))) (∃ (n:Int→Int→World→Nat→Prop),(∃ b9,n ((-1)) (i64.wrap (((a:Int)) - 1)) A b9)∧∀ e h l t,n e h l t→∀ _:Env,(br (decide ((0:Int)≤h)) (idx k a h 1 fun c4 =>
 ∃ Y,cf l c4 (S Y)∧Cp 66 [L i b f,S Y] l fun b4 B =>
 ∃ Z,rI b4 Z∧br (decide (Z < 0)) (idx k a h 1 fun c5 =>
 ∃ a0,cf B c5 (S a0)∧Cp 67 [L x m y,L i b f,S a0] B fun b5 U =>
 ∃ a1,rB b5 a1∧br a1 (∃ M,M < t∧n h (i64.wrap (h - 1)) U M) (∃ N,N < t∧n e (i64.wrap (h - 1)) U N)) (∃ O,O < t∧n e (i64.wrap (h - 1)) B O)) (br (decide ((e:Int) < 0)) (R (rt (.tuple ⟨[L none 0 0,I 15]⟩)) l) (idx k a e 1 fun c6 =>
 ∃ a2,cf l c6 (S a2)∧al l 9 [S a2] fun c7 d3 =>
 app prog [31,31] 31 (L i b f) (.slice (some c7) 1 1) d3 fun b1 a7 a6 d4 =>
 ∃ Q,Q < K∧v b1 a7 a6 d4 Q)))) (R (rt (.tuple ⟨[L i b f,I 0]⟩)) A)))))))
theorem q74 {c b a R w} (h:q2b c b a R w):Calls prog qsv ⟨[L c b a]⟩ w R:=qc Tryz.func17 (Eq.mpr (by kernel_rfl:fnV _ _ q3w _ _ _=_) h)
def qm2:Ann:=T F (T (T F (T (T F F) F)) (T (T F (.one (.loop 67106864 [(5,.one (.int .i64))] (T (T F (T F F)) (T (.one (T F (T (T F F) F))) F))))) (T F F)))
def qfd (p:OA) (c:Nat) (s:Nat) (q:OA) (d:Nat) (t:Nat) (R:EP) (w:World):Prop :=
 br (decide ((((c:Int)):Int)≠((d:Int)))) (R (rt (B false)) w) (∃ (m:Int→World→Nat→Prop),(∃ u,m 0 w u)∧∀ a o r,m a o r→∀ _:Env,(br (decide ((a:Int) < ((c:Int)))) (drw o fun b =>
 idx p c a 3 fun n =>
 ∃ g,ce b n 0 (S g)∧∃ h,ce b n 1 (I h)∧∃ i,ce b n 2 (I i)∧idx q d a 3 fun e =>
 ∃ j,ce b e 0 (S j)∧∃ k,ce b e 1 (I k)∧∃ l,ce b e 2 (I l)∧br (!(decide (g=j)&&(decide (h=k)&&(decide (i=l)&&true)))) (R (rt (B false)) b) (∃ f,f < r∧m (i64.wrap (a + 1)) b f)) (R (rt (B true)) o)))
theorem qo7 {e b a f d c R w} (h:qfd e b a f d c R w):Calls prog qgf ⟨[L e b a,L f d c]⟩ w R:=qc Tryz.func18 (Eq.mpr (by kernel_rfl:fnV _ _ qm2 _ _ _=_) h)
def qd4:Ann:=T F (T (T F (T (T F F) F)) (T (T F (.one (.loop 67100720 [(13,.one (.int .i64))] (T F (T (T F F) (T (.one (T F (T F (T (T F F) F)))) F)))))) (T F F)))
def qdz (i:OA) (b:Nat) (n:Nat) (j:OA) (c:Nat) (o:Nat) (R:EP) (w:World):Prop :=
 br (decide ((((b:Int)):Int)≠((c:Int)))) (R (rt (B false)) w) (∃ (h:Int→World→Nat→Prop),(∃ p,h 0 w p)∧∀ a k l,h a k l→∀ _:Env,(br (decide ((a:Int) < ((b:Int)))) (drw k fun d =>
 idx i b a 1 fun q =>
 ∃ f,cf d q (S f)∧idx j c a 1 fun m =>
 ∃ g,cf d m (S g)∧br (decide (f≠g)) (R (rt (B false)) d) (∃ e,e < l∧h (i64.wrap (a + 1)) d e)) (R (rt (B true)) k)))
theorem qel {e b a f d c R w} (h:qdz e b a f d c R w):Calls prog qbq ⟨[L e b a,L f d c]⟩ w R:=qc Tryz.func19 (Eq.mpr (by kernel_rfl:fnV _ _ qd4 _ _ _=_) h)
def qu4:Ann:=T F (T F (T (T F (T (T F F) F)) (T F (T F (T (T F (.one (.loop 604462909807314050996672 [(11,.one (.slice)),(12,.one (.slice)),(29,.one (.int .i64))] (T F (T (T F F) (T (.one (T F (T (T F (T F F)) (.cut 72048797945135104 [(15,.one (.slice)),(16,.one (.ptr)),(17,.one (.int .i64))] F (T (T F (T (T F F) F)) (T F (T (T F (T (T F F) F)) F))))))) F)))))) (T (T F (T (T F F) F)) (T F F)))))))
def qtp (z:OA) (q:Nat) (d0:Nat) (x:OA) (s:Nat) (r:Nat) (f:LU) (R:EP) (w:World):Prop :=
 Cp 14 [L z q d0] w fun f8 e7 =>
 ∃ f6 V f7 d1,rV f8 (.tuple ⟨[L f6 V f7,I d1]⟩)∧(br (decide (d1≠0)) (R (rt (.tuple ⟨[L none 0 0,L none 0 0,I d1]⟩)) e7) (∃ (Y:OA→Nat→Nat→OA→Nat→Nat→Int→World→Nat→Prop),(∃ d9,Y none 0 0 none 0 0 0 e7 d9)∧∀ h c e d b a g l A,Y h c e d b a g l A→∀ _:Env,(br (decide ((g:Int) < (V))) (idx f6 V g 3 fun B =>
 ∃ a6,ce l B 0 (S a6)∧∃ a7,ce l B 1 (I a7)∧∃ a8,ce l B 2 (I a8)∧al l 65 [S [],I 0,I 0] fun n e3 =>
 stL e3 n 0 [S a6,I a7,I a8] fun C =>
 ∃ a9,ce C n 1 (I a9)∧idx z q a9 2 fun e0 =>
 ∃ b0 F E,ce C e0 1 (L b0 F E)∧Cp 62 [L b0 F E] C fun d4 e4 =>
 ∃ b1 H G,rV d4 (L b1 H G)∧Cp 34 [L b1 H G,S f] e4 fun d5 a5 =>
 ∃ b2,rB d5 b2∧br (!b2) (∃ Z,Z < A∧Y h c e d b a (i64.wrap (g + 1)) a5 Z) (∀ (y:OA→Nat→Nat→OA→Int→World→Prop),(∀ (k:OA) (j:Nat) (i:Nat) (v:OA) (p:Int) (o:World),(∀ _:Env,(br (decide ((p:Int)≠0)) (R (rt (.tuple ⟨[L none 0 0,L none 0 0,I p]⟩)) o) (dr v fun a1 =>
 ∃ b3,ce o a1 0 (S b3)∧∃ b4,ce o a1 1 (I b4)∧Cp 36 [.agg ⟨[S b3,I b4]⟩,L k j i,L x s r] o fun d6 D =>
 ∃ b5 K J M,rV d6 (.tuple ⟨[L b5 K J,I M]⟩)∧br (decide (M≠0)) (R (rt (.tuple ⟨[L none 0 0,L none 0 0,I M]⟩)) D) (∃ b6,ce D n 0 (S b6)∧al D 9 [S b6] fun e1 e5 =>
 app prog [31,31] 31 (L h c e) (.slice (some e1) 1 1) e5 fun d2 c7 c6 e6 =>
 al e6 40 [L b5 K J] fun e2 e8 =>
 app prog [36,36] 36 (L d b a) (.slice (some e2) 1 1) e8 fun d3 c9 c8 e9 =>
 ∃ a0,a0 < A∧Y d2 c7 c6 d3 c9 c8 (i64.wrap (g + 1)) e9 a0))))→y k j i v p o)→(drw a5 fun m =>
 ∃ b7,ce m n 1 (I b7)∧idx z q b7 2 fun a2 =>
 ∃ N,ce m a2 0 (S N)∧∃ O u t,ce m a2 1 (L O u t)∧∃ Q,ce m n 2 (I Q)∧((Cp 27 [.agg ⟨[S N,L O u t]⟩,S f,I Q] m fun d7 f0 =>
 ∃ b8 U T b9 c0 c1,rV d7 (.tuple ⟨[L b8 U T,.agg ⟨[S b9,I c0]⟩,I c1]⟩)∧((al f0 51 [S [],I 0] fun a3 f1 =>
 (stL f1 a3 0 [S b9,I c0] fun f2 =>
 y b8 U T (some a3) c1 f2)∧True)∧True))∧(al m 51 [S [],I 0] fun a4 f3 =>
 (Cp 27 [.agg ⟨[S N,L O u t]⟩,S f,I Q] f3 fun d8 f4 =>
 ∃ c2 X W c3 c4 c5,rV d8 (.tuple ⟨[L c2 X W,.agg ⟨[S c3,I c4]⟩,I c5]⟩)∧((stL f4 a4 0 [S c3,I c4] fun f5 =>
 y c2 X W (some a4) c5 f5)∧True))∧True)∧True)))) (br (decide ((((c:Int)):Int)=0)) (R (rt (.tuple ⟨[L none 0 0,L none 0 0,I 6]⟩)) l) (R (rt (.tuple ⟨[L h c e,L d b a,I 0]⟩)) l)))))
theorem qw3 {g f e d c b a R w} (h:qtp g f e d c b a R w):Calls prog qjj ⟨[L g f e,L d c b,S a]⟩ w R:=qc Tryz.func20 (Eq.mpr (by kernel_rfl:fnV _ _ qu4 _ _ _=_) h)
def q01:Ann:=T F (T F (T (T F (T (T F F) F)) (T F (T F (T F (T (T F (.one (.loop 18014394214539264 [(13,.one (.bool)),(14,.one (.int .i64))] (T (T F (T F F)) (T (.one F) F))))) (T (T F (T (T F F) F)) (T (T F (.one (.loop 1298074214633706835075030048545216 [(11,.one (.slice)),(12,.one (.slice)),(15,.one (.int .i64))] (T (T F (T F F)) (T (.one (T F (T (T F (T F F)) (.cut 309409451957619154402279424 [(17,.one (.slice)),(18,.one (.ptr))] F (T F (T (T F (T (T F F) F)) (T F F))))))) F))))) (T F F)))))))))
def qyo (E:OA) (r:Nat) (e2:Nat) (C:OA) (t:Nat) (s:Nat) (a:LU) (R:EP) (w:World):Prop :=
 Cp 15 [L E r e2] w fun i2 g8 =>
 ∃ X n h9 e3,rV i2 (.tuple ⟨[L X n h9,I e3]⟩)∧(br (decide (e3≠0)) (R (rt (.tuple ⟨[L none 0 0,L none 0 0,I e3]⟩)) g8) (al g8 9 [] fun i3 i4 =>
 al i4 40 [] fun f5 g3 =>
 ∃ (x:Bool→Int→World→Nat→Prop),(∃ f3,x false 0 g3 f3)∧∀ g j m F,x g j m F→∀ _:Env,(br (decide ((j:Int) < (n))) (br g (∃ a8,a8 < F∧x true (i64.wrap (j + 1)) m a8) (idx X n j 3 fun f6 =>
 ∃ b8,ce m f6 1 (I b8)∧idx E r b8 2 fun f7 =>
 ∃ b9 K J,ce m f7 1 (L b9 K J)∧Cp 65 [L b9 K J] m fun e6 g4 =>
 ∃ c0 N M,rV e6 (L c0 N M)∧Cp 66 [L c0 N M,S a] g4 fun e7 g5 =>
 ∃ c1,rI e7 c1∧∃ a9,a9 < F∧x (decide ((0:Int)≤c1)) (i64.wrap (j + 1)) g5 a9)) (br (!g) (R (rt (.tuple ⟨[L none 0 0,L none 0 0,I 6]⟩)) m) (∃ (y:OA→Nat→Nat→OA→Nat→Nat→Int→World→Nat→Prop),(∃ f4,y (some i3) 0 0 (some f5) 0 0 0 m f4)∧∀ d c b i f e h p G,y d c b i f e h p G→∀ _:Env,(br (decide ((h:Int) < (n))) (idx X n h 3 fun f8 =>
 ∃ c2,ce p f8 1 (I c2)∧idx E r c2 2 fun b2 =>
 ∃ c3,ce p b2 0 (S c3)∧∃ c4 Q O,ce p b2 1 (L c4 Q O)∧al p 45 [S [],L none 0 0] fun A g6 =>
 stL g6 A 0 [S c3,L c4 Q O] fun b6 =>
 ∃ c5 U T,ce b6 A 1 (L c5 U T)∧Cp 65 [L c5 U T] b6 fun e8 g7 =>
 ∃ c6 W V,rV e8 (L c6 W V)∧Cp 66 [L c6 W V,S a] g7 fun e9 b7 =>
 ∃ c7,rI e9 c7∧br (decide (c7 < 0)) (∃ b0,b0 < G∧y d c b i f e (i64.wrap (h + 1)) b7 b0) (∀ (D:OA→Nat→Nat→OA→World→Prop),(∀ (o:OA) (l:Nat) (k:Nat) (z:OA) (B:World),(∀ _:Env,(dr z fun b3 =>
 ∃ c8,ce B b3 0 (S c8)∧∃ c9,ce B b3 1 (I c9)∧Cp 68 [.agg ⟨[S c8,I c9]⟩,L o l k,L C t s] B fun f0 H =>
 ∃ d0 Z Y a0,rV f0 (.tuple ⟨[L d0 Z Y,I a0]⟩)∧br (decide (a0≠0)) (R (rt (.tuple ⟨[L none 0 0,L none 0 0,I a0]⟩)) H) (idx X n h 3 fun f9 =>
 ∃ d1,ce H f9 0 (S d1)∧al H 9 [S d1] fun g0 g9 =>
 app prog [31,31] 31 (L d c b) (.slice (some g0) 1 1) g9 fun e4 d9 d8 h0 =>
 al h0 40 [L d0 Z Y] fun g1 h1 =>
 app prog [36,36] 36 (L i f e) (.slice (some g1) 1 1) h1 fun e5 e1 e0 h2 =>
 ∃ b1,b1 < G∧y e4 d9 d8 e5 e1 e0 (i64.wrap (h + 1)) h2 b1)))→D o l k z B)→(drw b7 fun q =>
 ∃ a1,ce q A 0 (S a1)∧∃ a2 v u,ce q A 1 (L a2 v u)∧idx X n h 3 fun g2 =>
 ∃ a3,ce q g2 2 (I a3)∧((Cp 39 [.agg ⟨[S a1,L a2 v u]⟩,S a,I a3] q fun f1 h3 =>
 ∃ d2 a5 a4 d3 d4 i0,rV f1 (.tuple ⟨[L d2 a5 a4,.agg ⟨[S d3,I d4]⟩,I i0]⟩)∧((al h3 51 [S [],I 0] fun b4 h4 =>
 (stL h4 b4 0 [S d3,I d4] fun h5 =>
 D d2 a5 a4 (some b4) h5)∧True)∧True))∧(al q 51 [S [],I 0] fun b5 h6 =>
 (Cp 39 [.agg ⟨[S a1,L a2 v u]⟩,S a,I a3] h6 fun f2 h7 =>
 ∃ d5 a7 a6 d6 d7 i1,rV f2 (.tuple ⟨[L d5 a7 a6,.agg ⟨[S d6,I d7]⟩,I i1]⟩)∧((stL h7 b5 0 [S d6,I d7] fun h8 =>
 D d5 a7 a6 (some b5) h8)∧True))∧True)∧True)))) (R (rt (.tuple ⟨[L d c b,L i f e,I 0]⟩)) p)))))))
theorem q3d {g f e d c b a R w} (h:qyo g f e d c b a R w):Calls prog qng ⟨[L g f e,L d c b,S a]⟩ w R:=qc Tryz.func21 (Eq.mpr (by kernel_rfl:fnV _ _ q01 _ _ _=_) h)
def qan:Ann:=T F (T (T F (T (T F F) F)) (T (T F (.one (.loop 4294837184 [(17,.one (.int .i64))] (T F (T (T F F) (T (.one (T F (T F (T F (T (T F F) F))))) F)))))) (T F F)))
def qam (r:OA) (b:Nat) (x:Nat) (s:OA) (c:Nat) (y:Nat) (q:Fn) (i:Array Value) (j:Array Value) (R:EP) (w:World):Prop :=
 br (decide ((((b:Int)):Int)≠((c:Int)))) (R (rt (B false)) w) (∃ (p:Int→World→Nat→Prop),(∃ z,p 0 w z)∧∀ a d u,p a d u→∀ _:Env,(br (decide ((a:Int) < ((b:Int)))) (idx r b a 1 fun A =>
 ∃ m f e,cf d A (L m f e)∧idx s c a 1 fun v =>
 ∃ n h g,cf d v (L n h g)∧CallV prog (.func q i j) [L m f e,L n h g] d fun t l =>
 ∃ o,rB t o∧br (!o) (R (rt (B false)) l) (∃ k,k < u∧p (i64.wrap (a + 1)) l k)) (R (rt (B true)) d)))
theorem qao {i d c j f e g a b R w} (h:qam i d c j f e g a b R w):Calls prog qy ⟨[L i d c,L j f e,.func g a b]⟩ w R:=qc Tryz.func22 (Eq.mpr (by kernel_rfl:fnV _ _ qan _ _ _=_) h)
def qpn:Ann:=T F (T (T F (T (T F F) F)) (T (T F (.one (.loop 67106864 [(5,.one (.int .i64))] (T (T F (T F F)) (T (.one (T F (T (T F F) F))) F))))) (T F F)))
def qod (v:OA) (d:Nat) (z:Nat) (x:OA) (f:Nat) (A:Nat) (R:EP) (w:World):Prop :=
 br (decide ((((d:Int)):Int)≠((f:Int)))) (R (rt (B false)) w) (∃ (t:Int→World→Nat→Prop),(∃ C,t 0 w C)∧∀ c u y,t c u y→∀ _:Env,(br (decide ((c:Int) < ((d:Int)))) (drw u fun a =>
 idx v d c 6 fun e =>
 ∃ h,ce a e 0 (S h)∧∃ i,ce a e 1 (S i)∧∃ j,ce a e 2 (S j)∧∃ k,ce a e 3 (I k)∧∃ l,ce a e 4 (I l)∧∃ m,ce a e 5 (S m)∧idx x f c 6 fun b =>
 ∃ n,ce a b 0 (S n)∧∃ o,ce a b 1 (S o)∧∃ p,ce a b 2 (S p)∧∃ q,ce a b 3 (I q)∧∃ r,ce a b 4 (I r)∧∃ s,ce a b 5 (S s)∧br (!(decide (h=n)&&(decide (i=o)&&((decide (j=p)&&(decide (k=q)&&true))&&(decide (l=r)&&(decide (m=s)&&true)))))) (R (rt (B false)) a) (∃ g,g < y∧t (i64.wrap (c + 1)) a g)) (R (rt (B true)) u)))
theorem qrr {e b a f d c R w} (h:qod e b a f d c R w):Calls prog qdw ⟨[L e b a,L f d c]⟩ w R:=qc Tryz.func23 (Eq.mpr (by kernel_rfl:fnV _ _ qpn _ _ _=_) h)
def qpc:Ann:=T F (T (T F (T (T F F) F)) (T F F))
def qn2 (p:LU) (q:OA) (m:Nat) (l:Nat) (R:EP) (w:World):Prop :=
 al w 45 [S p,L q m l] fun i j =>
 ∃ r,ce j i 0 (S r)∧(∃ s h g,ce j i 1 (L s h g)∧Cp 42 [.agg ⟨[S r,L s h g]⟩] j fun u k =>
 ∃ t,rI u t∧br (decide (t≠0)) (R (rt (.tuple ⟨[L none 0 0,I 1]⟩)) k) (∃ e b a,ce k i 1 (L e b a)∧Cp 62 [L e b a] k fun n o =>
 ∃ f d c,rV n (L f d c)∧R (rt (.tuple ⟨[L f d c,I 0]⟩)) o))
theorem qrh {c d b a R w} (h:qn2 c d b a R w):Calls prog qgz ⟨[.agg ⟨[S c,L d b a]⟩]⟩ w R:=qc Tryz.func25 (Eq.mpr (by kernel_rfl:fnV _ _ qpc _ _ _=_) h)
def q4m:Ann:=T F (T (T F (T (T F F) F)) (.cut 32304 [] (T F (T (T F F) F)) (T F F)))
def q21 (g:OA) (c:Nat) (b:Nat) (a:Int) (R:EP) (w:World):Prop :=
 Cp 71 [L g c b] w fun l f =>
 ∃ k,rI l k∧(br (decide (k≠0)) (R (rt (.tuple ⟨[L none 0 0,I 1]⟩)) f) (∀ (i:WP),(∀ (j:World),(∀ _:Env,(Cp 72 [L g c b,I a] j fun m n =>
 ∃ h e d,rV m (L h e d)∧R (rt (.tuple ⟨[L h e d,I 0]⟩)) n))→i j)→(br (decide ((a:Int) < 0)) (R (rt (.tuple ⟨[L none 0 0,I 13]⟩)) f) (br (decide ((8:Int) < a)) (R (rt (.tuple ⟨[L none 0 0,I 13]⟩)) f) (i f)))))
theorem q8s {d c b a R w} (h:q21 d c b a R w):Calls prog qtj ⟨[L d c b,I a]⟩ w R:=qc Tryz.func26 (Eq.mpr (by kernel_rfl:fnV _ _ q4m _ _ _=_) h)
def q0z:Ann:=T F (T (.one (T F (T (T F F) (.cut 66584576 [(19,.one (.bool))] F (T (T F F) F))))) (T F (T (T F (T (T F F) F)) (T F (T (T F (T (T F F) F)) (T F F))))))
def qym (c4:LU) (c5:OA) (b5:Nat) (b4:Nat) (d:LU) (b:Int) (R:EP) (w:World):Prop :=
 al w 45 [S c4,L c5 b5 b4] fun b2 c7 =>
 al c7 51 [S [],I 0] fun a b3 =>
 ∃ c6,ce b3 b2 0 (S c6)∧(∃ J t s,ce b3 b2 1 (L J t s)∧Cp 42 [.agg ⟨[S c6,L J t s]⟩] b3 fun b6 k =>
 ∃ K,rI b6 K∧br (decide (K≠0)) (stL k a 0 [S [],I 0] fun l =>
 ∃ M,ce l a 0 (S M)∧∃ N,ce l a 1 (I N)∧R (rt (.tuple ⟨[L none 0 0,.agg ⟨[S M,I N]⟩,I 1]⟩)) l) (∀ (j:Bool→World→Prop),(∀ (e:Bool) (h:World),(∀ _:Env,(br e (stL h a 0 [S [],I 0] fun m =>
 ∃ O,ce m a 0 (S O)∧∃ Q,ce m a 1 (I Q)∧R (rt (.tuple ⟨[L none 0 0,.agg ⟨[S O,I Q]⟩,I 13]⟩)) m) (∃ T v u,ce h b2 1 (L T v u)∧Cp 26 [L T v u,I b] h fun b7 G =>
 ∃ U y x z,rV b7 (.tuple ⟨[L U y x,I z]⟩)∧br (decide (z≠0)) (stL G a 0 [S [],I 0] fun n =>
 ∃ V,ce n a 0 (S V)∧∃ W,ce n a 1 (I W)∧R (rt (.tuple ⟨[L none 0 0,.agg ⟨[S V,I W]⟩,I z]⟩)) n) (Cp 73 [L U y x,S d] G fun b8 c1 =>
 ∃ A g f X Y Z,rV b8 (.tuple ⟨[L A g f,.agg ⟨[S X,I Y]⟩,B Z]⟩)∧al c1 51 [S [],I 0] fun c c2 =>
 stL c2 c 0 [S X,I Y] fun H =>
 br (!Z) (stL H a 0 [S [],I 0] fun o =>
 ∃ a0,ce o a 0 (S a0)∧∃ a1,ce o a 1 (I a1)∧R (rt (.tuple ⟨[L none 0 0,.agg ⟨[S a0,I a1]⟩,I 6]⟩)) o) (drw H fun i =>
 (Cp 74 [L A g f] i fun b9 p =>
 ∃ a2 D C,rV b9 (L a2 D C)∧∃ a3,ce p c 0 (S a3)∧∃ a4,ce p c 1 (I a4)∧((stL p a 0 [S a3,I a4] fun q =>
 ∃ a5,ce q a 0 (S a5)∧∃ a6,ce q a 1 (I a6)∧R (rt (.tuple ⟨[L a2 D C,.agg ⟨[S a5,I a6]⟩,I 0]⟩)) q)∧True))∧(∃ a7,ce i c 0 (S a7)∧∃ a8,ce i c 1 (I a8)∧((Cp 74 [L A g f] i fun c0 c3 =>
 ∃ a9 F E,rV c0 (L a9 F E)∧((stL c3 a 0 [S a7,I a8] fun r =>
 ∃ b0,ce r a 0 (S b0)∧∃ b1,ce r a 1 (I b1)∧R (rt (.tuple ⟨[L a9 F E,.agg ⟨[S b0,I b1]⟩,I 0]⟩)) r)∧True))∧True))∧True)))))→j e h)→(br (decide ((b:Int) < 0)) (j true k) (j (decide ((8:Int) < b)) k))))
theorem q3b {e f d c a b R w} (h:qym e f d c a b R w):Calls prog qne ⟨[.agg ⟨[S e,L f d c]⟩,S a,I b]⟩ w R:=qc Tryz.func27 (Eq.mpr (by kernel_rfl:fnV _ _ q0z _ _ _=_) h)
def qr6:Ann:=T F (T F F)
def qp9 (e:OA) (b:Nat) (a:Nat) (f:OA) (d:Nat) (c:Nat) (R:EP) (w:World):Prop :=
 Cp 75 [L e b a,L f d c,.func (.func 76) #[] #[]] w fun h i =>
 ∃ g,rB h g∧(R (rt (B g)) i)
theorem qun {e b a f d c R w} (h:qp9 e b a f d c R w):Calls prog qie ⟨[L e b a,L f d c]⟩ w R:=qc Tryz.func32 (Eq.mpr (by kernel_rfl:fnV _ _ qr6 _ _ _=_) h)
def qd2:Ann:=T F (T (T F (.one (.loop 524080 [(8,.one (.int .i64))] (T F (T (T F F) (T (.one (T F (T F (T (T F F) F)))) F)))))) (T F F))
def qdx (g:OA) (b:Nat) (l:Nat) (h:LU) (R:EP) (w:World):Prop :=
 ∃ (e:Int→World→Nat→Prop),(∃ j,e 0 w j)∧∀ a c f,e a c f→∀ _:Env,(br (decide ((a:Int) < ((b:Int)))) (idx g b a 1 fun k =>
 ∃ i,cf c k (S i)∧br (decide ((h:LU)=i)) (R (rt (I a)) c) (∃ d,d < f∧e (i64.wrap (a + 1)) c d)) (R (rt (.int .i64 ((-1)))) c))
theorem qej {c b a d R w} (h:qdx c b a d R w):Calls prog qep ⟨[L c b a,S d]⟩ w R:=qc Tryz.func33 (Eq.mpr (by kernel_rfl:fnV _ _ qd2 _ _ _=_) h)
def qc2:Ann:=T F (T F F)
def qcx (c:OA) (b:Nat) (a:Nat) (d:LU) (R:EP) (w:World):Prop :=
 Cp 33 [L c b a,S d] w fun f g =>
 ∃ e,rI f e∧(R (rt (.bool (decide ((0:Int)≤e)))) g)
theorem qdc {c b a d R w} (h:qcx c b a d R w):Calls prog qba ⟨[L c b a,S d]⟩ w R:=qc Tryz.func34 (Eq.mpr (by kernel_rfl:fnV _ _ qc2 _ _ _=_) h)
def qu7:Ann:=T F (T F (T (T F (.one (.loop 16773248 [(12,.one (.int .i64))] (T F (T (T F F) (T (.one (T F F)) F)))))) (T F F)))
def qts (d:LU) (e:OA) (b:Nat) (z:Nat) (R:EP) (w:World):Prop :=
 al w 45 [S [],L none 0 0] fun A J =>
 al J 45 [S [],L none 0 0] fun f K =>
 stL K f 0 [S d,L none 0 0] fun M =>
 ∃ (v:Int→World→Nat→Prop),(∃ C,v 0 M C)∧∀ a c n,v a c n→∀ _:Env,(br (decide ((a:Int) < ((b:Int)))) (idx e b a 1 fun D =>
 ∃ p,cf c D (S p)∧∃ q i h,ce c f 1 (L q i h)∧al c 56 [I 4,S p,I 0,L none 0 0] fun E F =>
 app prog [43,43] 43 (L q i h) (.slice (some E) 1 1) F fun B y x G =>
 stL G (f.add 1) 0 [L B y x] fun H =>
 ∃ o,o < n∧v (i64.wrap (a + 1)) H o) (∃ r,ce c f 0 (S r)∧∃ s k j,ce c f 1 (L s k j)∧stL c A 0 [S r,L s k j] fun g =>
 ∃ t,ce g A 0 (S t)∧∃ u m l,ce g A 1 (L u m l)∧R (rt (.agg ⟨[S t,L u m l]⟩)) g))
theorem qw6 {c d b a R w} (h:qts c d b a R w):Calls prog qjn ⟨[S c,L d b a]⟩ w R:=qc Tryz.func35 (Eq.mpr (by kernel_rfl:fnV _ _ qu7 _ _ _=_) h)
def qpl:Ann:=T F (.cut 4178112 [(6,.one (.slice)),(7,.one (.int .i64))] (T F (T (T F F) F)) (.cut 1069547712 [(6,.one (.slice)),(7,.one (.int .i64))] (T F (T (T F F) F)) (T (T F (T (T F F) F)) (T F (T F (T (T F (T (T F F) F)) (T F (T (T F (.one (.rf [2,6,7,12,50] 0))) (T F (.cut 18410715276690587840 [] (T F (T (T F F) F)) (T F F)))))))))))
def qob (s:LU) (t:Int) (n:OA) (j:Nat) (i:Nat) (d:OA) (c:Nat) (b:Nat) (R:EP) (w:World):Prop :=
 al w 51 [S s,I t] fun v f9 =>
 ∀ (d1:OA→Nat→Nat→Int→World→Prop),(∀ (x:OA) (p:Nat) (o:Nat) (y:Int) (h:World),(∀ _:Env,(∀ (Z:OA→Nat→Nat→Int→World→Prop),(∀ (k:OA) (g:Nat) (f:Nat) (l:Int) (z:World),(∀ _:Env,(∃ a8,ce z v 0 (S a8)∧Cp 78 [S a8] z fun d2 a2 =>
 ∃ a9,rB d2 a9∧br (!a9) (R (rt (.tuple ⟨[L none 0 0,I 14]⟩)) a2) (Cp 79 [L n j i,I 8] a2 fun d3 e4 =>
 ∃ b0 f5,rV d3 (.tuple ⟨[I b0,I f5]⟩)∧Cp 79 [L n j i,I 9] e4 fun d4 a3 =>
 ∃ b1 f6,rV d4 (.tuple ⟨[I b1,I f6]⟩)∧br (decide ((0:Int) < (i64.wrap (b0 + b1)))) (R (rt (.tuple ⟨[L none 0 0,I 13]⟩)) a3) (al a3 118 [L none 0 0,.pointer none,L none 0 0,B false,B false,B false] fun e A =>
 ∃ b2,ce A v 0 (S b2)∧∃ b3,ce A v 1 (I b3)∧Cp 80 [.agg ⟨[S b2,I b3]⟩,L n j i] A fun d5 e5 =>
 ∃ b4 E F,rV d5 (.func b4 E F)∧∀ u:Env,RFw prog none 70 (cdAt Tryz.f36 [1,1,1,1,1,1,1,1,0,1,2]) (upd (upd (upd (upd (upd u 50 (.func b4 E F)) 12 (.pointer (some e))) 7 (I l)) 6 (L k g f)) 2 (L d c b)) [] e5 0 (fun a m =>
 Cp 82 [.pointer (some e)] m fun d9 r =>
 d9=.returned (.tuple ⟨[]⟩)∧∀ (a1:WP),(∀ (D:World),(∀ _:Env,(∃ c0 T Q,ce D e 0 (L c0 T Q)∧Cp 85 [L d c b,L c0 T Q] D fun e0 f0 =>
 ∃ c1 V U c2,rV e0 (.tuple ⟨[L c1 V U,I c2]⟩)∧retD a f0 fun f1 =>
 R (rt (.tuple ⟨[L c1 V U,I c2]⟩)) f1))→a1 D)→(∃ f8 W d0,ce r e 0 (L f8 W d0)∧br (decide ((1024:Int) < (W))) (retD a r fun f2 =>
 R (rt (.tuple ⟨[L none 0 0,I 4]⟩)) f2) (∃ c3 Y X,ce r e 0 (L c3 Y X)∧Cp 83 [L c3 Y X,.func (.func 84) #[] #[]] r fun e1 a5 =>
 ∃ c4,rB e1 c4∧br c4 (retD a a5 fun f3 =>
 R (rt (.tuple ⟨[L none 0 0,I 4]⟩)) f3) (a1 a5)))) (fun a m =>
 retD a m fun f4 =>
 R (rt (.tuple ⟨[L k g f,I l]⟩)) f4) (fun a m =>
 Cp 82 [.pointer (some e)] m fun d6 q =>
 d6=.returned (.tuple ⟨[]⟩)∧∀ (a0:WP),(∀ (C:World),(∀ _:Env,(∃ b5 H G,ce C e 0 (L b5 H G)∧Cp 85 [L d c b,L b5 H G] C fun d7 e6 =>
 ∃ b6 K J b7,rV d7 (.tuple ⟨[L b6 K J,I b7]⟩)∧retD a e6 fun e7 =>
 R (rt (.tuple ⟨[L b6 K J,I b7]⟩)) e7))→a0 C)→(∃ f7 M c9,ce q e 0 (L f7 M c9)∧br (decide ((1024:Int) < (M))) (retD a q fun e8 =>
 R (rt (.tuple ⟨[L none 0 0,I 4]⟩)) e8) (∃ b8 O N,ce q e 0 (L b8 O N)∧Cp 83 [L b8 O N,.func (.func 84) #[] #[]] q fun d8 a4 =>
 ∃ b9,rB d8 b9∧br b9 (retD a a4 fun e9 =>
 R (rt (.tuple ⟨[L none 0 0,I 4]⟩)) e9) (a0 a4))))))))→Z k g f l z)→(∃ c5,ce h v 1 (I c5)∧br (decide (c5 < 0)) (R (rt (.tuple ⟨[L none 0 0,I 2]⟩)) h) (∃ c6,ce h v 1 (I c6)∧br (decide ((4096:Int) < c6)) (R (rt (.tuple ⟨[L none 0 0,I 2]⟩)) h) (Z x p o y h)))))→d1 x p o y h)→(Cp 71 [L n j i] f9 fun e2 a6 =>
 ∃ c7,rI e2 c7∧br (decide (c7≠0)) (R (rt (.tuple ⟨[L none 0 0,I 1]⟩)) a6) (Cp 77 [L d c b] a6 fun e3 a7 =>
 ∃ c8,rI e3 c8∧br (decide (c8≠0)) (R (rt (.tuple ⟨[L none 0 0,I 1]⟩)) a7) (d1 none 0 0 0 a7)))
theorem qrp {d e i g f c b a R w} (h:qob d e i g f c b a R w):Calls prog qg7 ⟨[.agg ⟨[S d,I e]⟩,L i g f,L c b a]⟩ w R:=qc Tryz.func36 (Eq.mpr (by kernel_rfl:fnV _ _ qpl _ _ _=_) h)
def qeh:Ann:=F
def qed:Ann:=.one F
def qkf (x:OA) (o:Nat) (n:Nat) (G:OA) (E:Nat) (D:Nat) (H:Int) (u:OA) (C:Fn) (z:Array Value) (A:Array Value) (c:Int) (d:Int) (e:Int) (f:LU) (g:Int) (h:Bool) (i:LU) (l:Nat) (Kn Kr Kx:World→World→Prop) (w:World):Prop :=
 al w 123 [I 0,.int .u8 0,I 0,S [],I 0,B false,S []] fun b F =>
 stL F b 0 [I c,.int .u8 d,I e,S f,I g,B h,S i] fun p =>
 Ext w p∧∀ a:World,Upd l p a→(∃ q,ce a b 0 (I q)∧∃ r,ce a b 1 (.int .u8 r)∧∃ s,ce a b 2 (I s)∧∃ t,ce a b 3 (S t)∧∃ j,ce a b 4 (I j)∧∃ k,ce a b 5 (B k)∧∃ m,ce a b 6 (S m)∧Cp 81 [.pointer u,.agg ⟨[I q,.int .u8 r,I s,S t,I j,B k,S m]⟩] a fun v y =>
 v=.returned (.tuple ⟨[]⟩)∧(Kn a y))
theorem qks (base:Env) (c:OA) (b:Nat) (a:Nat) (q:OA) (p:Nat) (o:Nat) (r:Int) (s:OA) (f:Fn) (d:Array Value) (e:Array Value) (g:Int) (h:Int) (i:Int) (j:LU) (k:Int) (m:Bool) (n:LU) (l:Nat) (Kn Kr Kx:World→World→Prop) (w:World):fragV prog 70 qeh qed (cdAt Tryz.f36 [1,1,1,1,1,1,1,1,0,1,2,5]) (cdAt Tryz.f36 [1,1,1,1,1,1,1,1,0,1,2,6]) l 0 Kn Kr Kx (updPs [51] [.agg ⟨[I g,.int .u8 h,I i,S j,I k,B m,S n]⟩] (upd (upd (upd (upd (upd base 50 (.func f d e)) 12 (.pointer s)) 7 (I r)) 6 (L q p o)) 2 (L c b a))) w=qkf c b a q p o r s f d e g h i j k m n l Kn Kr Kx w:=by kernel_rfl
theorem qk2:cdAt Tryz.f36 [1,1,1,1,1,1,1,1,0,1,2]=.rangeFunc (Operand.tmp 50) #[51] (cdAt Tryz.f36 [1,1,1,1,1,1,1,1,0,1,2,5]) (cdAt Tryz.f36 [1,1,1,1,1,1,1,1,0,1,2,6]):=by kernel_rfl
def q8y:Ann:=T F (T (T F (T (T F F) F)) (T (.cut 8257536 [(22,.one (.bool))] F (T (T F F) F)) (T (T F (T (T F F) F)) (T F (T (T F (T (T F F) F)) (T F (.cut 576456354256914432 [(11,.one (.int .i64))] (.one (.loop 576456354256914432 [(11,.one (.int .i64))] (T (T F (T F F)) (.one F)))) (T F (.cut 37776626019947948019712 [(12,.one (.int .i64))] (.one (.loop 37776626019947948019712 [(12,.one (.int .i64))] (T (T F (T F F)) (.one F)))) (T F F))))))))))
def q6m (e1:LU) (e2:OA) (c5:Nat) (c4:Nat) (e:LU) (f:Int) (R:EP) (w:World):Prop :=
 al w 45 [S e1,L e2 c5 c4] fun M e4 =>
 al e4 51 [S [],I 0] fun d c3 =>
 ∃ e3,ce c3 M 0 (S e3)∧(∃ Y C B,ce c3 M 1 (L Y C B)∧Cp 43 [.agg ⟨[S e3,L Y C B]⟩] c3 fun c8 t =>
 ∃ Z,rI c8 Z∧br (decide (Z≠0)) (stL t d 0 [S [],I 0] fun u =>
 ∃ a0,ce u d 0 (S a0)∧∃ a1,ce u d 1 (I a1)∧R (rt (.tuple ⟨[L none 0 0,.agg ⟨[S a0,I a1]⟩,I 1]⟩)) u) (∀ (q:Bool→World→Prop),(∀ (j:Bool) (o:World),(∀ _:Env,(br j (stL o d 0 [S [],I 0] fun v =>
 ∃ a2,ce v d 0 (S a2)∧∃ a3,ce v d 1 (I a3)∧R (rt (.tuple ⟨[L none 0 0,.agg ⟨[S a2,I a3]⟩,I 13]⟩)) v) (∃ a4 E D,ce o M 1 (L a4 E D)∧Cp 65 [L a4 E D] o fun c9 d8 =>
 ∃ a5 G F,rV c9 (L a5 G F)∧Cp 66 [L a5 G F,S e] d8 fun d0 x =>
 ∃ a6,rI d0 a6∧br (decide (a6 < 0)) (stL x d 0 [S [],I 0] fun y =>
 ∃ a7,ce y d 0 (S a7)∧∃ a8,ce y d 1 (I a8)∧R (rt (.tuple ⟨[L none 0 0,.agg ⟨[S a7,I a8]⟩,I 6]⟩)) y) (∃ a9 J H,ce x M 1 (L a9 J H)∧Cp 86 [L a9 J H,I f] x fun d1 V =>
 ∃ i g l K,rV d1 (.tuple ⟨[L i g l,I K]⟩)∧br (decide (K≠0)) (stL V d 0 [S [],I 0] fun z =>
 ∃ b0,ce z d 0 (S b0)∧∃ b1,ce z d 1 (I b1)∧R (rt (.tuple ⟨[L none 0 0,.agg ⟨[S b0,I b1]⟩,I K]⟩)) z) (∀ (N:Int→World→Prop),(∀ (b:Int) (W:World),(∀ _:Env,(∀ (r:Int→World→Prop),(∀ (n:Int) (X:World),(∀ _:Env,(drw X fun d9 =>
 sls i l (i64.wrap (b + 1)) n 4 fun c6 c0 b9 =>
 sls i l 0 b 4 fun c7 c2 c1 =>
 (Cp 87 [.agg ⟨[S [],I 0]⟩,L c7 c2 c1] d9 fun d2 e0 =>
 ∃ b2 b3,rV d2 (.agg ⟨[S b2,I b3]⟩)∧((stL e0 d 0 [S b2,I b3] fun A =>
 ∃ b4,ce A d 0 (S b4)∧∃ b5,ce A d 1 (I b5)∧R (rt (.tuple ⟨[L c6 c0 b9,.agg ⟨[S b4,I b5]⟩,I 0]⟩)) A)∧True))∧True))→r n X)→(∃ (p:Int→World→Nat→Prop),(∃ d3,p (i64.wrap (b + 1)) W d3)∧∀ c k O,p c k O→∀ _:Env,(br (decide ((c:Int) < (g))) (idx i g c 4 fun d5 =>
 ∃ b6,ce k d5 0 (I b6)∧br (decide (b6≠4)) (∃ Q,Q < O∧p (i64.wrap (c + 1)) k Q) (r c k)) (r c k)))))→N b W)→(∃ (m:Int→World→Nat→Prop),(∃ d4,m 0 V d4)∧∀ a h s,m a h s→∀ _:Env,(idx i g a 4 fun d6 =>
 ∃ b7,ce h d6 0 (I b7)∧br (decide (b7≠4)) (∃ T,T < s∧m (i64.wrap (a + 1)) h T) (idx i g a 4 fun d7 =>
 ∃ b8,ce h d7 1 (S b8)∧br (decide (b8≠e)) (∃ U,U < s∧m (i64.wrap (a + 1)) h U) (N a h)))))))))→q j o)→(br (decide ((f:Int) < 0)) (q true t) (q (decide ((8:Int) < f)) t))))
theorem c_ref16_Part {e f d c a b R w} (h:q6m e f d c a b R w):Calls prog qvz ⟨[.agg ⟨[S e,L f d c]⟩,S a,I b]⟩ w R:=qc Tryz.func39 (Eq.mpr (by kernel_rfl:fnV _ _ q8y _ _ _=_) h)
end Go.Proofs