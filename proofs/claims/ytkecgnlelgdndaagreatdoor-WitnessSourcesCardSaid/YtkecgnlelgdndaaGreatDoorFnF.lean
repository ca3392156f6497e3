/- A part of the proof. -/
import Derived.Test.YtkecgnlelgdndaaGreatDoorFn
set_option linter.all false
set_option maxRecDepth 100000
namespace Go.Proofs
open Go Go.Sh Go.Proofs.Tryz IntKind
def q31:Ann:=T F (T (T F (T (T F F) F)) (T (T F (T (T F F) F)) (T (T F (T (T F F) F)) (T F F))))
def q2g (c:OA) (b:Nat) (a:Nat) (d:LU) (R:EP) (w:World):Prop :=
 Cp 111 [L c b a] w fun i e =>
 ∃ g,rI i g∧(br (decide (g≠0)) (R (rt (I 1)) e) (br (decide ((64:Int) < ((List.length d:Int)))) (R (rt (I 4)) e) (Cp 165 [S d] e fun j f =>
 ∃ h,rB j h∧br (!h) (R (rt (I 11)) f) (R (rt (I 0)) f))))
theorem q79 {c b a d R w} (h:q2g c b a d R w):Calls prog qs0 ⟨[L c b a,S d]⟩ w R:=qc Tryz.func248 (Eq.mpr (by kernel_rfl:fnV _ _ q31 _ _ _=_) h)
def q80:Ann:=T F (T (T F (.one (.loop 34359738352 [(6,.one (.int .i64))] (T (T F (T F F)) (T (.one (T F (.one (.loop 34359722160 [(7,.one (.int .i64))] (T (T F (T F F)) (T (.one (T F (T (T F F) F))) F)))))) F))))) (T F F))
def q6o (b:OA) (a:Nat) (s:Nat) (g:LU) (R:EP) (w:World):Prop :=
 ∃ (q:Int→World→Nat→Prop),(∃ C,q 0 w C)∧∀ c t y,q c t y→∀ _:Env,(br (decide ((c:Int) < ((List.length g:Int)))) (∃ (r:Int→World→Nat→Prop),(∃ x,r 0 t x)∧∀ d e h,r d e h→∀ _:Env,(br (decide ((d:Int) < ((a:Int)))) (idx b a d 2 fun z =>
 ∃ l,ce e z 0 (S l)∧Cp 271 [S g,S l,I c] e fun u f =>
 ∃ m,rB u m∧br m (idx b a d 2 fun k =>
 ∃ n,ce f k 0 (S n)∧∃ o,ce f k 1 (S o)∧Cp 272 [.agg ⟨[S n,S o]⟩,S g,I c] f fun v A =>
 ∃ p,rV v (S p)∧R (rt (.tuple ⟨[S p,B true]⟩)) A) (∃ i,i < h∧r (i64.wrap (d + 1)) f i)) (∃ j,j < y∧q (i64.wrap (c + 1)) e j))) (R (rt (.tuple ⟨[S g,B false]⟩)) t))
theorem c_ref14_step {c b a d R w} (h:q6o c b a d R w):Calls prog qv1 ⟨[L c b a,S d]⟩ w R:=qc Tryz.func249 (Eq.mpr (by kernel_rfl:fnV _ _ q80 _ _ _=_) h)
def qle:Ann:=T F (T F (.one (.loop 137438953464 [(3,.one (.int .i64)),(4,.one (.int .i64))] (T (T F (T F F)) (T (.one (.cut 268433408 [] (T F (T F F)) (T (T F (T F F)) F))) F)))))
def qj9 (h:Fn) (e:Array Value) (f:Array Value) (c:OA) (R:EP) (w:World):Prop :=
 ∃ (k:Int→Int→World→Nat→Prop),(∃ J,k 0 1 w J)∧∀ a b d y,k a b d y→∀ _:Env,(dr c fun K =>
 ∃ p,cf d K (S p)∧br (decide ((b:Int)≤((List.length p:Int)))) (∀ (g:WP),(∀ (i:World),(∀ _:Env,(dr c fun D =>
 ∃ q,cf i D (S q)∧(ssl q a b fun H =>
 CallV prog (.func h e f) [I a,S H] i fun A n =>
 ∃ r,rB A r∧br (!r) (R (rt (.tuple ⟨[]⟩)) n) (∃ l,l < y∧k b (i64.wrap (b + 1)) n l))))→g i)→(dr c fun E =>
 ∃ s,cf d E (S s)∧br (decide ((b:Int) < ((List.length s:Int)))) (dr c fun F =>
 ∃ t,cf d F (S t)∧(sidx t b fun z =>
 Cp 184 [.int .u8 ((z.toNat:Int))] d fun B j =>
 ∃ u,rI B u∧br (decide (u=2)) (dr c fun G =>
 ∃ v,cf j G (S v)∧Cp 251 [S v,I a,I b] j fun C o =>
 ∃ x,rB C x∧br x (∃ m,m < y∧k a (i64.wrap (b + 1)) o m) (g o)) (g j))) (g d))) (R (rt (.tuple ⟨[]⟩)) d))
theorem qmu {c a b d R w} (h:qj9 c a b d R w):Calls prog qbk ⟨[.func c a b,.pointer d]⟩ w R:=qc Tryz.func250 (Eq.mpr (by kernel_rfl:fnV _ _ qle _ _ _=_) h)
def qxp:Ann:=T F (T F F)
def qws (c:LU) (a:Int) (b:Int) (R:EP) (w:World):Prop :=
 sidx c a fun f =>
 Cp 184 [.int .u8 ((f.toNat:Int))] w fun g d =>
 ∃ e,rI g e∧(br (decide (e=1)) (R (rt (.bool (decide ((a:Int) < b)))) d) (R (rt (B false)) d))
theorem q0v {c a b R w} (h:qws c a b R w):Calls prog ql1 ⟨[S c,I a,I b]⟩ w R:=qc Tryz.func251 (Eq.mpr (by kernel_rfl:fnV _ _ qxp _ _ _=_) h)
def qd3:Ann:=T F (T (T F (.one (.loop 524080 [(8,.one (.int .i64))] (T F (T (T F F) (T (.one (T F (T F (T (T F F) F)))) F)))))) (T F F))
def qdy (m:OA) (b:Nat) (q:Nat) (k:Fn) (h:Array Value) (i:Array Value) (R:EP) (w:World):Prop :=
 ∃ (g:Int→World→Nat→Prop),(∃ o,g 0 w o)∧∀ a c l,g a c l→∀ _:Env,(br (decide ((a:Int) < ((b:Int)))) (idx m b a 1 fun p =>
 ∃ n,cf c p (.int .u8 n)∧CallV prog (.func k h i) [.int .u8 n] c fun j e =>
 ∃ f,rB j f∧br f (R (rt (I a)) e) (∃ d,d < l∧g (i64.wrap (a + 1)) e d)) (R (rt (.int .i64 ((-1)))) c))
theorem qek {f d c e a b R w} (h:qdy f d c e a b R w):Calls prog qbp ⟨[L f d c,.func e a b]⟩ w R:=qc Tryz.func252 (Eq.mpr (by kernel_rfl:fnV _ _ qd3 _ _ _=_) h)
def qu5:Ann:=T F (T (T F (.one (.rf [1,4,5,9] 0))) (T F F))
def qtq (h:OA) (d:Nat) (c:Nat) (e:LU) (R:EP) (w:World):Prop :=
 al w 9 [S []] fun f C =>
 al C 4 [B false] fun g D =>
 Cp 274 [L h d c,S e] D fun A E =>
 ∃ z s t,rV A (.func z s t)∧(∀ i:Env,RFw prog none 13 (cdAt Tryz.f254 [1,0,1,2]) (upd (upd (upd (upd i 9 (.func z s t)) 5 (.pointer (some g))) 4 (.pointer (some f))) 1 (S e)) [] E 0 (fun a b =>
 stL b f 0 [S e] fun x =>
 stL x g 0 [B false] fun y =>
 retD a y fun k =>
 ∃ o,cf k f (S o)∧∃ p,cf k g (B p)∧R (rt (.tuple ⟨[S o,B p]⟩)) k) (fun a b =>
 retD a b fun l =>
 ∃ q,cf l f (S q)∧∃ r,cf l g (B r)∧R (rt (.tuple ⟨[S q,B r]⟩)) l) (fun a b =>
 stL b f 0 [S e] fun u =>
 stL u g 0 [B false] fun v =>
 retD a v fun j =>
 ∃ m,cf j f (S m)∧∃ n,cf j g (B n)∧R (rt (.tuple ⟨[S m,B n]⟩)) j))
theorem qw4 {c b a d R w} (h:qtq c b a d R w):Calls prog qjm ⟨[L c b a,S d]⟩ w R:=qc Tryz.func254 (Eq.mpr (by kernel_rfl:fnV _ _ qu5 _ _ _=_) h)
def qff:Ann:=F
def qfe:Ann:=.one (T F F)
def qol (m:LU) (c:OA) (d:OA) (k:Fn) (g:Array Value) (h:Array Value) (a:LU) (l:Nat) (Kn Kr Kx:World→World→Prop) (w:World):Prop :=
 Ext w w∧∀ b:World,Upd l w b→(dr c fun e =>
 stL b e 0 [S a] fun i =>
 dr d fun f =>
 stL i f 0 [B true] fun j =>
 Kr b j)
theorem qov (base:Env) (g:LU) (d:OA) (e:OA) (f:Fn) (b:Array Value) (c:Array Value) (a:LU) (l:Nat) (Kn Kr Kx:World→World→Prop) (w:World):fragV prog 13 qff qfe (cdAt Tryz.f254 [1,0,1,2,5]) (cdAt Tryz.f254 [1,0,1,2,6]) l 0 Kn Kr Kx (updPs [10] [S a] (upd (upd (upd (upd base 9 (.func f b c)) 5 (.pointer e)) 4 (.pointer d)) 1 (S g))) w=qol g d e f b c a l Kn Kr Kx w:=by kernel_rfl
theorem qoz:cdAt Tryz.f254 [1,0,1,2]=.rangeFunc (Operand.tmp 9) #[10] (cdAt Tryz.f254 [1,0,1,2,5]) (cdAt Tryz.f254 [1,0,1,2,6]):=by kernel_rfl
def q4g:Ann:=T F (T F (T F F))
def q2v  (R:EP) (w:World):Prop :=
 Cp 275 [I 8] w fun g j =>
 ∃ e a b,rV g (.func e a b)∧(Cp 275 [I 64] j fun h k =>
 ∃ f c d,rV h (.func f c d)∧al k 262 [S [97,98],B false,.func (.func 174) #[] #[],S [97,100,100],B false,.func e a b,S [100,101,108],B false,.func e a b,S [103,97,112],B true,.func f c d,S [108,98],B true,.func (.func 276) #[] #[],S [110,97,109,101],B false,.func (.func 90) #[] #[],S [112,98],B true,.func (.func 90) #[] #[],S [115,101,99],B true,.func (.func 90) #[] #[],S [117,110,99,108,101,97,114],B false,.func (.func 276) #[] #[],S [118],B true,.func (.func 276) #[] #[]] fun i l =>
 R (rt (.slice (some i) 10 10)) l)
theorem q8m {R w} (h:q2v  R w):Calls prog qtb ⟨[]⟩ w R:=qc Tryz.func261 (Eq.mpr (by kernel_rfl:fnV _ _ q4g _ _ _=_) h)
def an_ref14_at:Ann:=T F (T F F)
def qyu (c:LU) (b:LU) (a:Int) (R:EP) (w:World):Prop :=
 br (decide (((i64.wrap (a + ((List.length b:Int)))):Int)≤((List.length c:Int)))) (ssl c a (i64.wrap (a + ((List.length b:Int)))) fun d =>
 R (rt (.bool (decide ((d:LU)=b)))) w) (R (rt (B false)) w)
theorem c_ref14_at {c b a R w} (h:qyu c b a R w):Calls prog q52 ⟨[S c,S b,I a]⟩ w R:=qc Tryz.func271 (Eq.mpr (by kernel_rfl:fnV _ _ an_ref14_at _ _ _=_) h)
def qxe:Ann:=T F (T F F)
def qwi (f:LU) (g:LU) (a:LU) (b:Int) (R:EP) (w:World):Prop :=
 al w 91 [S f,S g] fun e m =>
 drw m fun d =>
 ssl a 0 b fun l =>
 ∃ k,ce d e 1 (S k)∧(sadd l k fun h =>
 ∃ c,ce d e 0 (S c)∧(ssl a (i64.wrap (b + ((List.length c:Int)))) (List.length a:Int) fun i =>
 sadd h i fun j =>
 R (rt (S j)) d))
theorem q0l {b c d a R w} (h:qwi b c d a R w):Calls prog qlr ⟨[.agg ⟨[S b,S c]⟩,S d,I a]⟩ w R:=qc Tryz.func272 (Eq.mpr (by kernel_rfl:fnV _ _ qxe _ _ _=_) h)
def qm1:Ann:=T F (T F F)
def qmp (c:OA) (b:Nat) (a:Nat) (d:LU) (R:EP) (w:World):Prop :=
 al w 23 [L c b a] fun e g =>
 al g 9 [S d] fun f h =>
 R (rt (.func (.func 282) ⟨[]⟩ ⟨[.pointer (some f),.pointer (some e)]⟩)) h
theorem qo6 {c b a d R w} (h:qmp c b a d R w):Calls prog qge ⟨[L c b a,S d]⟩ w R:=qc Tryz.func274 (Eq.mpr (by kernel_rfl:fnV _ _ qm1 _ _ _=_) h)
def qxl:Ann:=T F (T F F)
def qwp (a:Int) (R:EP) (w:World):Prop :=
 al w 3 [I a] fun b c =>
 R (rt (.func (.func 284) ⟨[]⟩ ⟨[.pointer (some b)]⟩)) c
theorem q0s {a R w} (h:qwp a R w):Calls prog qly ⟨[I a]⟩ w R:=qc Tryz.func275 (Eq.mpr (by kernel_rfl:fnV _ _ qxl _ _ _=_) h)
def q4i:Ann:=T F (T F F)
def q2x (a:LU) (R:EP) (w:World):Prop :=
 R (rt (.bool (decide ((a:LU)=([]))))) w
theorem q8o {a R w} (h:q2x a R w):Calls prog qtd ⟨[S a]⟩ w R:=qc Tryz.func276 (Eq.mpr (by kernel_rfl:fnV _ _ q4i _ _ _=_) h)
def qj0:Ann:=T F (.one (.loop 35184372087248 [(11,.one (.int .i64))] (T F (T (T F F) (T (.one (T F (T F (.one (.loop 17592185979328 [(16,.one (.int .i64))] (T F (T (T F F) (T (.one (T F (T F (T F (T F F))))) F)))))))) F)))))
def qjt (j:Fn) (f:Array Value) (g:Array Value) (d:OA) (G:OA) (R:EP) (w:World):Prop :=
 dr d fun a2 =>
 ∃ a1,cf w a2 (S a1)∧(∃ (F:Int→World→Nat→Prop),(∃ K,F 0 w K)∧∀ b o N,F b o N→∀ _:Env,(br (decide ((b:Int) < ((List.length a1:Int)))) (dr G fun O =>
 ∃ u e H,cf o O (L u e H)∧∃ (h:Int→World→Nat→Prop),(∃ M,h 0 o M)∧∀ a c k,h a c k→∀ _:Env,(br (decide ((a:Int) < (e))) (idx u e a 2 fun s =>
 ∃ v,ce c s 0 (S v)∧∃ x,ce c s 1 (S x)∧al c 91 [S [],S []] fun l Y =>
 stL Y l 0 [S v,S x] fun Z =>
 drw Z fun m =>
 dr d fun Q =>
 ∃ n,cf m Q (S n)∧(ssl n b (List.length n:Int) fun U =>
 ∃ y,ce m l 0 (S y)∧((Cp 283 [S U,S y] m fun I a0 =>
 ∃ z A,rV I (.tuple ⟨[S z,B A]⟩)∧drw a0 fun i =>
 br A (dr d fun T =>
 ∃ C,cf i T (S C)∧(ssl C 0 b fun V =>
 ∃ D,ce i l 1 (S D)∧(sadd V D fun W =>
 sadd W z fun X =>
 (CallV prog (.func j f g) [S X] i fun J t =>
 ∃ E,rB J E∧br (!E) (R (rt (.tuple ⟨[]⟩)) t) (∃ p,p < k∧h (i64.wrap (a + 1)) t p))∧True))) ((∃ q,q < k∧h (i64.wrap (a + 1)) i q)∧True))∧True))) (∃ r,r < N∧F (i64.wrap (b + 1)) c r))) (R (rt (.tuple ⟨[]⟩)) o)))
theorem qk5 {c a b d e R w} (h:qjt c a b d e R w):Calls prog qbe ⟨[.func c a b,.pointer d,.pointer e]⟩ w R:=qc Tryz.func282 (Eq.mpr (by kernel_rfl:fnV _ _ qj0 _ _ _=_) h)
def qm0:Ann:=T F (T F F)
def qmo (b:LU) (a:LU) (R:EP) (w:World):Prop :=
 Cp 288 [S b,S a] w fun e f =>
 ∃ c d,rV e (.tuple ⟨[S c,B d]⟩)∧(R (rt (.tuple ⟨[S c,B d]⟩)) f)
theorem qo5 {b a R w} (h:qmo b a R w):Calls prog qgd ⟨[S b,S a]⟩ w R:=qc Tryz.func283 (Eq.mpr (by kernel_rfl:fnV _ _ qm0 _ _ _=_) h)
def qsh:Ann:=T F (T F (T F F))
def qql (c:LU) (e:OA) (R:EP) (w:World):Prop :=
 Cp 210 [S c] w fun k a =>
 ∃ b h,rV k (.tuple ⟨[I b,h]⟩)∧(ifc h fun j =>
 br j (br (decide ((1:Int)≤b)) (dr e fun l =>
 ∃ i,cf a l (I i)∧br (decide (b≤i)) (Cp 59 [I b] a fun f g =>
 ∃ d,rV f (S d)∧R (rt (.bool (decide (d=c)))) g) (R (rt (B false)) a)) (R (rt (B false)) a)) (R (rt (B false)) a))
theorem quz {b a R w} (h:qql b a R w):Calls prog qip ⟨[S b,.pointer a]⟩ w R:=qc Tryz.func284 (Eq.mpr (by kernel_rfl:fnV _ _ qsh _ _ _=_) h)
def qdr:Ann:=T F (T (T F (T (T F F) F)) (T F F))
def qdi (b:LU) (a:LU) (R:EP) (w:World):Prop :=
 Cp 230 [S b,S a] w fun e c =>
 ∃ d,rB e d∧(br (!d) (R (rt (.tuple ⟨[S b,B false]⟩)) c) (ssl b ((List.length a:Int)) (List.length b:Int) fun f =>
 R (rt (.tuple ⟨[S f,B true]⟩)) c))
theorem qd1 {b a R w} (h:qdi b a R w):Calls prog qd5 ⟨[S b,S a]⟩ w R:=qc Tryz.func288 (Eq.mpr (by kernel_rfl:fnV _ _ qdr _ _ _=_) h)
end Go.Proofs