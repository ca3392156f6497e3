/- The contracts of the functions that the law reaches, one after the other, and at the end the law's card. -/
import Derived.Test.YtkecgnlelgdndaaGreatDoorLawD
import Derived.Laws.Runes
import Derived.Laws.RangeString
import Derived.Laws.Strings3
import Derived.Scope
import Derived.WalkMore
import Derived.LoopN
import Derived.WalkSmall
import Derived.Deep.QuietTactic
import Derived.BigQuiet
import Derived.Lib.IndexAny
import Derived.Lib.IndexBytes
import Derived.Deep.LoopGhost
import Derived.Lib.OthersKept
import Derived.Laws.RangeAny
import Derived.Lib.SmallJoins
import Derived.Carry
import Derived.ChangeSame
import Derived.RowKit
import Derived.OpenShut
import Derived.Test.YtkecgnlelgdndaaGreatDoorCards
import Derived.Test.YtkecgnlelgdndaaGreatDoorTie
import Derived.Deep.DeepHandedRow
import Derived.Lib.LaidTab
import Derived.Lib.LaidU8
import Derived.WalkKit
import Derived.ProofKit
import Derived.Laws.IdiomStrings
set_option linter.all false
set_option maxRecDepth 1000000
namespace Go.Proofs
open Go Go.Sh Go.RowKit Go.Lib Go.Proofs.Tryz IntKind
set_option maxHeartbeats 4000000 in
theorem q5b (s:ByteArray) (r:Int) (w:World) (h1:128≤r) (h2:r≠65533) (hv:Go.validRune r=false) :
  Calls prog 224 #[.string s,.int .i32 r] w fun e w'=>e=.returned (.int .i64 (-1))∧w'=w:=by
 have hv':Lib.validRune r=false:=hv
 go_enter Tryz.func224,Tryz.ntmps224
 go_wp2_with (go_at_call 255;refine (Tryz.utf8_ValidRune _ _).mono ?_;rintro e w' ⟨rfl,hw⟩;rw [hw,hv'])
 go_ret
 exact ⟨rfl,rfl⟩
theorem q6w (r:Int) (h1:128≤r) (hv:Go.validRune r=true):(∃ x y:UInt8,128≤y.toNat∧Utf8.encode r=⟨#[x,y]⟩)∨(∃ x y z:UInt8,Utf8.encode r=⟨#[x,y,z]⟩)∨(∃ x y z u:UInt8,Utf8.encode r=⟨#[x,y,z,u]⟩):=by
 have hv:Utf8.valid r=true:=by rw [validRune_eq];exact hv
 have hc:¬ r.toNat < 128:=by omega
 unfold Utf8.encode
 simp only [hv,if_true,hc,if_false]
 split
 ·exact .inl ⟨_,_,by simp;omega,rfl⟩
 ·split
  ·exact .inr (.inl ⟨_,_,_,rfl⟩)
  ·exact .inr (.inr ⟨_,_,_,_,rfl⟩)
section
variable (r:Int) (w:World) (h1:128≤r) (h2:r≠65533) (hv':Lib.validRune r=true)
set_option maxHeartbeats 4000000 in
include h1 h2 hv' in
theorem q49 (x y:UInt8) (hy:128≤y.toNat) (he:Utf8.encode r=⟨#[x,y]⟩) :
  Calls prog 224 #[.string ⟨#[32,47]⟩,.int .i32 r] w fun e w'=>e=.returned (.int .i64 (-1))∧∃ n,w'=w.drewN n:=by
 have hcv:∀ w,(convert 21 9 (.int .i32 r)).run prog w=.ok (.string ⟨#[x,y]⟩) w:=fun w=>by rw [← he];exact run_convert_int_string w 21 9 .i32 r (by rw [Tryz.underlying21];rfl) Tryz.underlying9
 have hne:¬ ((47:Int)=(y.toNat:Int)):=by omega
 have hwr:i64.wrap 2=2:=rfl
 have hsz:(⟨#[32,47]⟩:ByteArray).size=2:=rfl
 have hib:Lib.indexByte (ByteArray.extract ⟨#[32,47]⟩ 2 2).data.toList ((y.toNat:Int)).toNat.toUInt8=-1:=rfl
 go_enter Tryz.func224,Tryz.ntmps224
 go_wp2_with (go_at_call 255;refine (Tryz.utf8_ValidRune _ _).mono ?_;rintro e w' ⟨rfl,hw⟩;rw [hw,hv'])
 subst hw
 go_step3
 go_wp2
 refine wp_loop_rounds 1 ?_
 rw [rounds_succ]
 go_wp2
 go_step3
 go_wp2_with fail
 go_quiet (fail)
 go_wp2_with fail
 go_quiet (first | (go_at_call 220;refine (Tryz.strings_IndexByte _ _ _).mono ?_;rintro e w'' ⟨rfl,rfl⟩;exact ⟨rfl,_,rfl⟩))
 go_wp2
 ·simp only [Exit.noGoto,Exit.inBlock,Exit.then]
  go_ret
  exact ⟨rfl,_,rfl⟩
 ·exfalso
  have hh:((47:Int) != (y.toNat:Int))=false:=by assumption
  simp at hh
  omega
set_option maxHeartbeats 4000000 in
include h1 h2 hv' in
theorem qy5 (x y z:UInt8) (he:Utf8.encode r=⟨#[x,y,z]⟩) :
  Calls prog 224 #[.string ⟨#[32,47]⟩,.int .i32 r] w fun e w'=>e=.returned (.int .i64 (-1))∧w'=w:=by
 have hcv:∀ w,(convert 21 9 (.int .i32 r)).run prog w=.ok (.string ⟨#[x,y,z]⟩) w:=fun w=>by rw [← he];exact run_convert_int_string w 21 9 .i32 r (by rw [Tryz.underlying21];rfl) Tryz.underlying9
 go_enter Tryz.func224,Tryz.ntmps224
 go_wp2_with (go_at_call 255;refine (Tryz.utf8_ValidRune _ _).mono ?_;rintro e w' ⟨rfl,hw⟩;rw [hw,hv'])
 subst hw
 go_step3
 go_wp2
 refine wp_loop_rounds 1 ?_
 rw [rounds_succ]
 go_wp2
 simp only [Exit.noGoto,Exit.inBlock]
 go_ret
 exact ⟨rfl,rfl⟩
set_option maxHeartbeats 4000000 in
include h1 h2 hv' in
theorem q1g (x y z u:UInt8) (he:Utf8.encode r=⟨#[x,y,z,u]⟩) :
  Calls prog 224 #[.string ⟨#[32,47]⟩,.int .i32 r] w fun e w'=>e=.returned (.int .i64 (-1))∧w'=w:=by
 have hcv:∀ w,(convert 21 9 (.int .i32 r)).run prog w=.ok (.string ⟨#[x,y,z,u]⟩) w:=fun w=>by rw [← he];exact run_convert_int_string w 21 9 .i32 r (by rw [Tryz.underlying21];rfl) Tryz.underlying9
 go_enter Tryz.func224,Tryz.ntmps224
 go_wp2_with (go_at_call 255;refine (Tryz.utf8_ValidRune _ _).mono ?_;rintro e w' ⟨rfl,hw⟩;rw [hw,hv'])
 subst hw
 go_step3
 go_wp2
 refine wp_loop_rounds 1 ?_
 rw [rounds_succ]
 go_wp2
 simp only [Exit.noGoto,Exit.inBlock]
 go_ret
 exact ⟨rfl,rfl⟩
end
set_option maxHeartbeats 4000000 in
theorem q5a (w:World):Calls prog 224 #[.string ⟨#[32,47]⟩,.int .i32 65533] w fun e w'=>e=.returned (.int .i64 (-1))∧∃ pos,w'=w.iter ⟨#[32,47]⟩ pos:=by
 go_enter Tryz.func224,Tryz.ntmps224
 have k0:=fun ty=>run_next_ascii (P:=prog) w ⟨#[32,47]⟩ 0 ty (by decide) (by decide)
 have k1:=fun ty=>run_next_ascii (P:=prog) w ⟨#[32,47]⟩ 1 ty (by decide) (by decide)
 have k2:=run_next_end (P:=prog) w ⟨#[32,47]⟩ 2
 have e0:((⟨#[32,47]⟩:ByteArray)[0]'(by decide)).toNat=32:=rfl
 have e1:((⟨#[32,47]⟩:ByteArray)[1]'(by decide)).toNat=47:=rfl
 rw [e0] at k0
 rw [e1] at k1
 go_wp2
 refine wp_loop_rounds 3 ?_
 rw [rounds_succ]
 go_wp2
 rw [rounds_succ]
 go_wp2
 rw [rounds_succ]
 go_wp2
 go_ret
 exact ⟨rfl,_,rfl⟩
theorem q5c (r:Int) (w:World) (h1:128≤r) (h3:r≤2147483647):Calls prog 224 #[.string ⟨#[32,47]⟩,.int .i32 r] w fun e w'=>e=.returned (.int .i64 (-1))∧Below w.heap.size w w':=by
 by_cases h2:r=65533
 ·subst h2
  refine (q5a w).mono ?_
  rintro e w' ⟨he,pos,rfl⟩
  exact ⟨he,(Below.refl _ _).alloc (Nat.le_refl _) _⟩
 ·cases hv:Go.validRune r with
  | false =>
   refine (q5b ⟨#[32,47]⟩ r w h1 h2 hv).mono ?_
   rintro e w' ⟨he,rfl⟩
   exact ⟨he,Below.refl _ _⟩
  | true =>
   rcases q6w r h1 hv with ⟨x,y,hy,he⟩ | ⟨x,y,z,he⟩ | ⟨x,y,z,u,he⟩
   ·refine (q49 r w h1 h2 hv x y hy he).mono ?_
    rintro e w' ⟨he,n,rfl⟩
    exact ⟨he,Go.below_drewN (Below.refl _ _) n⟩
   ·refine (qy5 r w h1 h2 hv x y z he).mono ?_
    rintro e w' ⟨he,rfl⟩
    exact ⟨he,Below.refl _ _⟩
   ·refine (q1g r w h1 h2 hv x y z u he).mono ?_
    rintro e w' ⟨he,rfl⟩
    exact ⟨he,Below.refl _ _⟩
theorem q85 (s:ByteArray) (pos:Nat) (h:pos < s.size) (ha:128≤(s[pos]'h).toNat):∃ n,(Utf8.decode s pos).2=n∧1≤n∧pos + n≤s.size∧∀ k,k < n→128≤(s.get! (pos + k)).toNat:=by
 have hg:=get_at s pos h
 have hn:¬ (s[pos]'h).toNat < 128:=by omega
 have one:∃ n,(1:Nat)=n∧1≤n∧pos + n≤s.size∧∀ k,k < n→128≤(s.get! (pos + k)).toNat :=
  ⟨1,rfl,Nat.le_refl _,by omega,by
   intro k hk
   have hk0:k=0:=by omega
   subst hk0
   rw [hg];exact ha⟩
 simp only [Utf8.decode,hg,hn,if_false]
 split
 ·rename_i h1
  simp only [Bool.and_eq_true,decide_eq_true_eq,beq_iff_eq] at h1
  split
  ·refine ⟨2,rfl,by omega,by omega,fun k hk=>?_⟩
   rcases (by omega:k=0∨k=1) with rfl | rfl
   ·rw [hg];exact ha
   ·omega
  ·exact one
 ·split
  ·rename_i h1
   simp only [Bool.and_eq_true,decide_eq_true_eq,beq_iff_eq] at h1
   split
   ·refine ⟨3,rfl,by omega,by omega,fun k hk=>?_⟩
    rcases (by omega:k=0∨k=1∨k=2) with rfl | rfl | rfl
    ·rw [hg];exact ha
    ·omega
    ·omega
   ·exact one
  ·split
   ·rename_i h1
    simp only [Bool.and_eq_true,decide_eq_true_eq,beq_iff_eq] at h1
    split
    ·refine ⟨4,rfl,by omega,by omega,fun k hk=>?_⟩
     rcases (by omega:k=0∨k=1∨k=2∨k=3) with rfl | rfl | rfl | rfl
     ·rw [hg];exact ha
     ·omega
     ·omega
     ·omega
    ·exact one
   ·exact one
theorem noany_span {s:ByteArray} {i n:Nat} (h:Lib.NoAny s.data.toList [32,47] i) (hn:i + n≤s.size) (hs:∀ k,k < n→128≤(s.get! (i + k)).toNat):Lib.NoAny s.data.toList [32,47] (i + n):=by
 intro j b hj hb
 by_cases hji:j < i
 ·exact h j b hji hb
 ·have hk:=hs (j - i) (by omega)
  have hjs:j < s.size:=by omega
  have e:s.get! (i + (j - i))=b:=by
   rw [show i + (j - i)=j by omega]
   have h1:=Lib.data_getElem? s j hjs
   rw [h1] at hb
   rw [← Option.some.inj hb]
   have:=get_at s j hjs
   rwa [Nat.add_zero] at this
  rw [e] at hk
  have h1:b≠32:=by rintro rfl;exact absurd hk (by decide)
  have h2:b≠47:=by rintro rfl;exact absurd hk (by decide)
  simp [h1,h2]
set_option maxHeartbeats 8000000 in
theorem q1i (s:ByteArray) (w:World) (h8:s.size≤8) :
  Calls prog 234 #[.string s,.string ⟨#[32,47]⟩] w fun e w'=>e=.returned (.int .i64 (Lib.indexAny s.data.toList [32,47]))∧Below w.heap.size w w':=by
 have h8z:decide ((8:Int) < (s.size:Int))=false:=decide_eq_false (by omega)
 go_enter Tryz.func234,Tryz.ntmps234
 go_wp2_with (go_at_call 260;refine (Tryz.strings_shouldUseASCIISet _ _).mono ?_;rintro e w' ⟨rfl,hw⟩;rw [hw,h8z])
 subst hw
 go_loopg [9,10] s.size (fun gf _ _ wx=>∃ pos:Nat,wx.heap[w'.heap.size]? = some (.stringIter s pos)∧Below w'.heap.size w' wx∧Aside (Lib.NoAny s.data.toList [32,47] pos∧pos≤s.size)∧s.size≤pos + gf)
 case atStart=>exact ⟨0,World.iter_heap w' s 0,(Below.refl _ w').alloc (Nat.le_refl _) _,⟨Lib.NoAny.zero _ _,Nat.zero_le _⟩,by omega⟩
 case round =>
  obtain ⟨pos,hit,hbw,HN,hfu⟩:=hrel
  by_cases hps:pos < s.size
  ·obtain ⟨g',rfl⟩:∃ g',gk=g' + 1:=⟨gk - 1,by omega⟩
   have hnx:∀ ty,(Instr.next (.pointer (some ⟨w'.heap.size,0,none⟩)) true ty).run prog wr=_:=fun ty=>Lib.run_next_any_at wr w'.heap.size s pos ty hit hps
   have hle:=decode_le s pos
   have HA:Aside ((s[pos]'hps).toNat < 128→Utf8.decode s pos=((s[pos]'hps).toNat,1)):=decode_ascii s pos hps
   have HB:Aside (128≤(s[pos]'hps).toNat→128≤(Utf8.decode s pos).1∧∃ n,(Utf8.decode s pos).2=n∧1≤n∧pos + n≤s.size∧∀ k,k < n→128≤(s.get! (pos + k)).toNat):=fun ha=>⟨(decode_high s pos hps ha).1,q85 s pos hps ha⟩
   obtain ⟨R,hR⟩:∃ R,(Utf8.decode s pos).1=R:=⟨_,rfl⟩
   obtain ⟨K,hK⟩:∃ K,(Utf8.decode s pos).2=K:=⟨_,rfl⟩
   rw [hR,hK] at hnx
   rw [hR] at hle
   have hit2:=Lib.iterAt_heap wr w'.heap.size s pos (pos + K) hit
   have hbw2:=Lib.below_iterAt hbw (k:=w'.heap.size) (Nat.le_refl _) s (pos + K)
   obtain ⟨W,hWd⟩:∃ W,wr.iterAt w'.heap.size s (pos + K)=W:=⟨_,rfl⟩
   rw [hWd] at hnx hit2 hbw2
   have hltW:w'.heap.size < W.heap.size:=(Array.getElem?_eq_some_iff.1 hit2).1
   obtain ⟨x,hx⟩:∃ x:UInt8,s[pos]'hps=x:=⟨_,rfl⟩
   have Hx:Aside (s.data.toList[pos]? = some x):=by rw [← hx];exact Lib.data_getElem? s pos hps
   by_cases hx128:x.toNat < 128
   ·have hd:=HA.out (by rw [hx];exact hx128)
    rw [hx] at hd
    obtain rfl:x.toNat=R:=by rw [← hR,hd]
    obtain rfl:1=K:=by rw [← hK,hd]
    clear HA HB hR hK hx hWd
    have hcon:=Lib.contains_iff_indexByte [32,47] x
    have hback:((x.toNat:Int)).toNat.toUInt8=x:=by simp
    have c0:Calls prog 224 #[.string ⟨#[32,47]⟩,.int .i32 (x.toNat:Int)] W fun e w'=>e=.returned (.int .i64 (Lib.indexByte [32,47] x))∧w'=W:=by
     refine (Tryz.strings_IndexRune_ascii ⟨#[32,47]⟩ _ W (by omega) (by omega)).mono ?_
     rintro e w' ⟨rfl,hw⟩
     rw [hback];exact ⟨rfl,hw⟩
    cases hin:([32,47]:List UInt8).contains x
    ·rw [hin] at hcon
     have hlt:¬ ((0:Int)≤Lib.indexByte [32,47] x):=of_decide_eq_false hcon.symm
     have HS:Aside (Lib.NoAny s.data.toList [32,47] (pos + 1)):=HN.out.1.succ Hx.out hin
     clear hcon hin
     generalize Lib.indexByte [32,47] x=q at c0 hlt
     go_wp2_with (go_at_call 224;refine c0.mono ?_;rintro e W' ⟨rfl,hbc⟩;rw [hbc])
     go_roundg g'
     case measure=>omega
     case rel=>exact ⟨pos + 1,hit2,hbw2,⟨HS.out,by omega⟩,by omega⟩
    ·rw [hin] at hcon
     have hge:(0:Int)≤Lib.indexByte [32,47] x:=of_decide_eq_true hcon.symm
     have HS:Aside (Lib.indexAny s.data.toList [32,47]=pos):=Lib.indexAny_hit HN.out.1 Hx.out hin
     clear hcon hin
     generalize Lib.indexByte [32,47] x=q at c0 hge
     go_wp2_with (go_at_call 224;refine c0.mono ?_;rintro e W' ⟨rfl,hbc⟩;rw [hbc])
     go_ret
     exact ⟨by rw [HS.out];rfl,hbw2⟩
   ·obtain ⟨h128,n,hn,hn1,hn2,hn3⟩:=HB.out (by rw [hx];omega)
    rw [hR] at h128
    rw [hK] at hn
    subst hn
    have HS:Aside (Lib.NoAny s.data.toList [32,47] (pos + K)):=noany_span HN.out.1 hn2 hn3
    clear HA HB hR hK hx hWd hn3
    have c0:=q5c (R:Int) W (by omega) (by omega)
    go_wp2_with (go_at_call 224;refine c0.mono ?_;rintro e W' ⟨rfl,hbc⟩)
    go_roundg g'
    case measure=>omega
    case rel=>exact ⟨pos + K,(hbc.block _ hltW).trans hit2,hbw2.trans (hbc.mono hbw2.size),⟨HS.out,hn2⟩,by omega⟩
  ·have hnx:∀ ty,(Instr.next (.pointer (some ⟨w'.heap.size,0,none⟩)) true ty).run prog wr=_:=fun ty=>Lib.run_next_end_at wr w'.heap.size s pos ty hit hps
   go_wp2
   go_ret
   refine ⟨?_,hbw⟩
   obtain ⟨h1,h2⟩:=HN.out
   have hp:pos=s.data.toList.length:=by rw [← Lib.size_eq];omega
   rw [hp] at h1
   rw [Lib.indexAny_none h1];rfl
theorem q5d {R:Ending→World→Prop} {w:World} (s:List UInt8) (hs:s.length≤4000000000) (h:∀ w',Ext w w'→R (.returned (.int .i64 (Lib.indexAny s [32,47]))) w') :
  Calls prog qq6 ⟨[.string ⟨⟨s⟩⟩,.string ⟨⟨[32,47]⟩⟩]⟩ w R:=by
 have hz:(⟨⟨s⟩⟩:ByteArray).size=s.length:=rfl
 by_cases h8:s.length≤8
 ·refine (q1i ⟨⟨s⟩⟩ w (by rw [hz];exact h8)).mono ?_
  rintro e w' ⟨rfl,hb⟩
  exact h w' hb
 ·refine (Tryz.strings_IndexAny_long (fun w=>(Tryz.zeroValue180 w).trans (by rw [show Tryz.zeroCells180=Array.replicate 256 (.bool false) by kernel_rfl])) ⟨⟨s⟩⟩ ⟨⟨[32,47]⟩⟩ w (by decide) (by rw [hz];omega) (by rw [hz];omega) (by decide) ?_).mono ?_
  ·intro j b hb
   have:b∈([32,47]:List UInt8):=List.mem_of_getElem? hb
   simp only [List.mem_cons,List.not_mem_nil,or_false] at this
   rcases this with rfl | rfl <;> decide
  ·rintro e w' ⟨rfl,rfl⟩
   exact h _ (((Below.refl _ _).alloc (Nat.le_refl _) _).alloc (((Below.refl w.heap.size w).alloc (Nat.le_refl _) _).size) _)
end Go.Proofs
namespace Go.Proofs
open Go Go.Sh Go.RowKit Go.Proofs.Tryz IntKind
def Mk (w:World):Prop:=(∃ m,w.cell? ⟨qcm,0,none⟩=some (.int .i64 m))∧(∃ t p,w.cell? ⟨qof,0,none⟩=some (.iface t p))∧(∃ t p,w.cell? ⟨qq4,0,none⟩=some (.iface t p))
theorem qp {w w':World} {a:Addr} {v:Value} (h:w.cell? a=some v) (he:Ext w w'):w'.cell? a=some v:=by
 rw [he.cell (World.block_lt_of_cell? w _ h)];exact h
theorem Mk.ext {w w':World} (h:Mk w) (he:Ext w w'):Mk w':=by
 obtain ⟨⟨m,h1⟩,⟨t,p,h2⟩,⟨t',p',h3⟩⟩:=h
 exact ⟨⟨m,qp h1 he⟩,⟨t,p,qp h2 he⟩,⟨t',p',qp h3 he⟩⟩
theorem ifc_nil {K:Bool→Prop} (h:K true):ifc .nilIface K:=h
theorem ifc_some {K:Bool→Prop} {t:TypeId} {v:Value} (h:K false):ifc (.iface t v) K:=h
variable {R:Ending→World→Prop} {w:World}
theorem qjx (s:List UInt8) (hs:s.length≤1000000000000) (b most:Nat) (hm:most≤64) (hb:w.cell? ⟨b,0,none⟩=some (.int .i64 most)) (hM:Mk w)
  (h:∀ w',Ext w w'→R (.returned (.bool (numV most s))) w'):Calls prog qh6 ⟨[.string ⟨⟨s⟩⟩,.pointer (some ⟨b,0,none⟩)]⟩ w R:=by
 apply qs6
 have hz:(⟨⟨s⟩⟩:ByteArray).size=s.length:=rfl
 obtain ⟨_,⟨t,p,h2⟩,⟨t',p',h3⟩⟩:=hM
 have bad:(∀ v,Lib.atoiAll s≠.ok v)→∀ w',Ext w w'→R (.returned (.bool false)) w':=by
  intro hv w' he
  have:numV most s=false:=by
   rw [Bool.eq_false_iff]
   intro hn
   obtain ⟨n,ha,_⟩:=(qpe hm s).1 hn
   exact hv _ ha
  rw [← this];exact h w' he
 cases ha:Lib.atoiAll s
 ·rename_i v
  refine (Tryz.strconv_Atoi_ok ⟨⟨s⟩⟩ (by rw [hz];omega) v ha w).mono ?_
  rintro e w4 ⟨rfl,hw⟩
  have he:Ext w w4:=by
   rcases hw with rfl | ⟨t,rfl⟩
   ·exact Below.refl _ _
   ·exact Joins.below_bytesWorld _ _ _ _ (Nat.le_refl _)
  refine ⟨v,.nilIface,rfl,?_⟩
  have no:(∀ n:Nat,v=n→1≤n→n≤most→Lib.decDigits n≠s)→R (.returned (.bool false)) w4:=by
   intro hn
   have:numV most s=false:=by
    rw [Bool.eq_false_iff]
    intro hh
    obtain ⟨n,ha',h1,h2,h3⟩:=(qpe hm s).1 hh
    rw [ha] at ha'
    injection ha' with ha'
    exact hn n ha' h1 h2 h3
   rw [← this];exact h w4 he
  refine ifc_nil ?_
  simp only [br_t]
  refine qd (fun g=>dr_ok ⟨_,qp hb he,qd (fun g2=>?_) (fun g2=>?_)⟩) (fun g=>?_)
  ·obtain ⟨n,rfl⟩:∃ n:Nat,v=n:=⟨v.toNat,by omega⟩
   refine (Tryz.strconv_Itoa_small n (by omega) w4).mono ?_
   rintro _ _ ⟨rfl,rfl⟩
   refine ⟨_,rfl,?_⟩
   have e:decide (Lib.decDigits n=s)=numV most s:=by
    rw [Bool.eq_iff_iff,qpe hm,decide_eq_true_eq]
    constructor
    ·intro hd;exact ⟨n,ha,by omega,by omega,hd⟩
    ·rintro ⟨k,ha',_,_,hd⟩
     rw [ha] at ha'
     injection ha' with ha'
     have:n=k:=by omega
     rw [this];exact hd
   show R (.returned (.bool (decide (Lib.decDigits n=s)))) _
   rw [e];exact h _ he
  ·exact no fun n hn _ h2=>by omega
  ·exact no fun n hn h1 _=>by omega
 ·refine (Tryz.strconv_Atoi_syntax ⟨⟨s⟩⟩ (by rw [hz];omega) ha _ w h2 (.inr ⟨_,_,rfl⟩)).mono ?_
  rintro e w4 ⟨N,rfl,_,_,he⟩
  refine ⟨_,_,rfl,?_⟩
  refine ifc_some ?_
  simp only [br_f]
  exact bad (fun v hv=>by rw [ha] at hv;cases hv) w4 he
 ·refine (Tryz.strconv_Atoi_range ⟨⟨s⟩⟩ (by rw [hz];omega) ha _ w h3 (.inr ⟨_,_,rfl⟩)).mono ?_
  rintro e w4 ⟨N,rfl,_,_,he⟩
  refine ⟨_,_,rfl,?_⟩
  refine ifc_some ?_
  simp only [br_f]
  exact bad (fun v hv=>by rw [ha] at hv;cases hv) w4 he
theorem val_call {nm:List UInt8} {x:TagV} {b8 b64:Nat} (ht:tagAt b8 b64 nm=some x) (B8:Blk w b8 [.int .i64 8] 3) (B64:Blk w b64 [.int .i64 64] 3) (hM:Mk w) (v:List UInt8) (hv:v.length≤1000000000)
  (h:∀ w',Ext w w'→R (.returned (.bool (valB nm v))) w'):CallV prog (.func x.f x.fa x.fb) [.string ⟨⟨v⟩⟩] w R:=by
 have hm:=List.mem_of_find?_eq_some ht
 have hn:x.nm=nm:=by simpa using List.find?_some ht
 have c8:w.cell? ⟨b8,0,none⟩=some (.int .i64 ((8:Nat):Int)):=by rw [B8.cell];rfl
 have c64:w.cell? ⟨b64,0,none⟩=some (.int .i64 ((64:Nat):Int)):=by rw [B64.cell];rfl
 simp only [tagsV,List.mem_cons,List.not_mem_nil,or_false] at hm
 rcases hm with rfl | rfl | rfl | rfl | rfl | rfl | rfl | rfl | rfl | rfl <;> subst hn
 ·exact ⟨by kernel_rfl,qy4 v fun w' he=>h w' he⟩
 ·exact ⟨by kernel_rfl,qjx v (by omega) b8 8 (by omega) c8 hM fun w' he=>h w' he⟩
 ·exact ⟨by kernel_rfl,qjx v (by omega) b8 8 (by omega) c8 hM fun w' he=>h w' he⟩
 ·exact ⟨by kernel_rfl,qjx v (by omega) b64 64 (by omega) c64 hM fun w' he=>h w' he⟩
 ·exact ⟨by kernel_rfl,qxg v (h w (Below.refl _ _))⟩
 ·exact ⟨by kernel_rfl,qea v (h w (Below.refl _ _))⟩
 ·exact ⟨by kernel_rfl,qea v (h w (Below.refl _ _))⟩
 ·exact ⟨by kernel_rfl,qea v (h w (Below.refl _ _))⟩
 ·exact ⟨by kernel_rfl,qxg v (h w (Below.refl _ _))⟩
 ·exact ⟨by kernel_rfl,qxg v (h w (Below.refl _ _))⟩
theorem q96 {b8 b64:Nat} {nm:List UInt8} {x:TagV} (h:tagAt b8 b64 nm=some x):qcd nm=true∧x.em=qga nm:=by
 have hm:=List.mem_of_find?_eq_some h
 have hn:x.nm=nm:=by simpa using List.find?_some h
 simp only [tagsV,List.mem_cons,List.not_mem_nil,or_false] at hm
 rcases hm with rfl | rfl | rfl | rfl | rfl | rfl | rfl | rfl | rfl | rfl <;> subst hn <;> exact ⟨by kernel_rfl,by kernel_rfl⟩
theorem q2w {nm:List UInt8} (h:∀ b8 b64,tagAt b8 b64 nm=none):qcd nm=false:=by
 have h0:=h 0 0
 unfold tagAt at h0
 rw [List.find?_eq_none] at h0
 unfold qcd
 rw [decide_eq_false_iff_not]
 intro hm
 have:nm∈(tagsV 0 0).map (·.nm):=hm
 obtain ⟨x,hx,hxn⟩:=List.mem_map.1 this
 exact h0 x hx (decide_eq_true hxn)
theorem qw4 (x:Lx) (hk:x.k=3∨qcd x.nm=true) (hv:x.vl.length≤1000000000) (hM:Mk w) (h:∀ w',Ext w w'→R (.returned (.bool (qbu x))) w'):Calls prog qg4 ⟨[aggX x]⟩ w R:=by
 apply q0m
 refine qh fun b5 w6 hb5 B5 e6 s6=>?_
 obtain ⟨c0,c1,c2,c3⟩:=blk4x B5
 refine ⟨_,c0,qd (fun g=>⟨_,c2,?_⟩) (fun g=>⟨_,c1,?_⟩)⟩
 ·have e:qbu x=decide (x.vl=[]):=by unfold qbu;rw [if_pos g]
  rw [← e];exact h w6 e6
 ·refine qxw x.nm (fun b8 b64 w11 t hb8 hb64 B8 B64 ht e11=>⟨_,_,_,_,rfl,?_⟩) (fun w11 hn e11=>?_)
  ·refine qw (by simp) (by intro u hu;simp only [List.mem_cons,List.not_mem_nil,or_false] at hu;rcases hu with rfl | rfl | rfl <;> rfl) fun b16 w18 hb16 B16 e18 s18=>?_
   obtain ⟨y0,y1,y2⟩:=blk3 B16
   refine ⟨_,_,_,y2,_,qp (qp c2 e11) e18,?_⟩
   have E18:=qb (qb e6 e11) e18
   refine val_call ht (B8.ext e18) (B64.ext e18) (hM.ext E18) x.vl hv fun w22 e22=>⟨_,rfl,?_⟩
   have e:qbu x=valB x.nm x.vl:=by unfold qbu;rw [if_neg g]
   rw [← e];exact h w22 (qb E18 e22)
  ·exfalso
   rcases hk with hk | hk
   ·exact g hk
   ·rw [q2w hn] at hk;cases hk
theorem q5y (x:Lx) (h:∀ w',Ext w w'→R (.returned (.int .i64 (qbz x))) w'):Calls prog qkz ⟨[aggX x]⟩ w R:=by
 apply qyd
 refine qh fun b5 w6 hb5 B5 e6 s6=>?_
 obtain ⟨c0,c1,c2,c3⟩:=blk4x B5
 unfold qbz at h
 refine ⟨_,c0,qd (fun g=>⟨_,c1,qd (fun g1=>?_) (fun g1=>⟨_,c2,qd (fun g2=>?_) (fun g2=>⟨_,c2,?_⟩)⟩)⟩) (fun g=>?_)⟩
 ·have:=h w6 e6;rwa [if_pos g,if_pos g1] at this
 ·have:=h w6 e6;rwa [if_pos g,if_neg g1,if_pos g2] at this
 ·refine qlg x.vl fun w12 e12=>⟨_,rfl,qd (fun g3=>?_) (fun g3=>?_)⟩
  ·have:=h w12 (qb e6 e12);rwa [if_pos g,if_neg g1,if_neg g2,if_pos g3] at this
  ·have:=h w12 (qb e6 e12);rwa [if_pos g,if_neg g1,if_neg g2,if_neg g3] at this
 ·intro K hK
  have kT:(x.k=2∨x.k=3∨x.k=4)→K true w6:=by
   intro hk
   refine hK _ _ fun _=>?_
   show br true _ _
   rw [br_t]
   refine ⟨_,c1,qxw x.nm (fun b8 b64 w19 t hb8 hb64 B8 B64 ht e19=>⟨_,_,_,_,rfl,?_⟩) (fun w19 hn e19=>⟨_,_,_,_,rfl,?_⟩)⟩
   ·refine qw (by simp) (by intro u hu;simp only [List.mem_cons,List.not_mem_nil,or_false] at hu;rcases hu with rfl | rfl | rfl <;> rfl) fun b24 w26 hb24 B24 e26 s26=>?_
    obtain ⟨y0,y1,y2⟩:=blk3 B24
    obtain ⟨t1,t2⟩:=q96 ht
    have E:=qb (qb e6 e19) e26
    have hr:=h w26 E
    rw [if_neg g,if_pos hk] at hr
    simp only [Bool.not_true,br_f]
    refine ⟨_,y1,_,qp (qp c0 e19) e26,qd (fun g3=>?_) (fun g3=>?_)⟩
    ·rw [if_neg (fun hh=>g3 (by rw [t2];exact hh.2))] at hr;exact hr
    ·rw [if_pos ⟨t1,by rw [← t2];exact Classical.not_not.1 g3⟩] at hr;exact hr
   ·refine qw (by simp) (by intro u hu;simp only [List.mem_cons,List.not_mem_nil,or_false] at hu;rcases hu with rfl | rfl | rfl <;> rfl) fun b24 w26 hb24 B24 e26 s26=>?_
    simp only [Bool.not_false,br_t]
    have hr:=h w26 (qb (qb e6 e19) e26)
    rw [if_neg g,if_pos hk,if_neg (fun hh=>by rw [q2w hn] at hh;cases hh.1)] at hr
    exact hr
  refine qd (fun g2=>?_) (fun g2=>qd (fun g3=>?_) (fun g3=>?_))
  ·rw [decide_eq_true g2];exact kT (.inl g2)
  ·rw [decide_eq_true g3];exact kT (.inr (.inl g3))
  ·by_cases g4:x.k=4
   ·rw [decide_eq_true g4];exact kT (.inr (.inr g4))
   ·rw [decide_eq_false g4]
    refine hK _ _ fun _=>?_
    show br false _ _
    rw [br_f]
    have hr:=h w6 e6
    rw [if_neg g,if_neg (by omega)] at hr
    exact hr
end Go.Proofs
namespace Go.Sh
open Go Go.RowKit Go.ChangeShapes
section
variable {H:Type} {enc:TypeId × Value→H} {P:Program} {W W':World}
theorem qok {sp:Nat→Bool}:∀ {ts:List TypeId} {vs:List Value} {ds:List (DataW H)} {ps:List MemPlace},DataW.TrodAll enc P W 0 sp true ts vs ds ps→(∀ p∈ps,W.sameAt W' p)→DataW.TrodAll enc P W' 0 sp true ts vs ds ps
 | [],[],[],_,h,_=>h
 | _ :: _,_ :: _,_ :: _,_,⟨p,q,⟨n,hn⟩,h2,e⟩,hs =>
  ⟨p,q,⟨n,DataW.trod_carry n _ _ _ hn fun x hx=>hs x (by rw [e];exact List.mem_append_left _ hx)⟩,qok h2 (fun x hx=>hs x (by rw [e];exact List.mem_append_right _ hx)),e⟩
 | [],[],_ :: _,_,h,_=>h.elim
 | [],_ :: _,_,_,h,_=>h.elim
 | _ :: _,[],_,_,h,_=>h.elim
 | _ :: _,_ :: _,[],_,h,_=>h.elim
theorem qol (hl:laidOutB P=true):∀ {ts:List TypeId} {vs:List Value} {ds:List (DataW H)} {ps:List MemPlace},(∀ t∈ts,P.readableRec t=true∧t < P.types.size)→DataW.TrodAll enc P W 0 (fun _=>true) true ts vs ds ps→Below W.heap.size W W'→(∀ x∈ps,x.block < W.heap.size) →
  DataW.TrodAll enc P W' 0 (fun b=>decide (b < W.heap.size)) true ts vs ds ps
 | [],[],[],_,_,h,_,_=>h
 | _ :: _,_ :: _,_ :: _,_,ht,⟨p,q,h1,h2,e⟩,hb,hlt =>
  ⟨p,q,Below.trod hl (ht _ (by simp)).1 (ht _ (by simp)).2 h1 hb (fun x hx=>hlt x (by rw [e];exact List.mem_append_left _ hx)),
   qol hl (fun t h=>ht t (List.mem_cons_of_mem _ h)) h2 hb (fun x hx=>hlt x (by rw [e];exact List.mem_append_right _ hx)),e⟩
 | [],[],_ :: _,_,_,h,_,_=>h.elim
 | [],_ :: _,_,_,_,h,_,_=>h.elim
 | _ :: _,[],_,_,_,h,_,_=>h.elim
 | _ :: _,_ :: _,[],_,_,h,_,_=>h.elim
theorem post_ext {f:Func} {s:ChangeSpec} {apart fresh handsOn again:Bool} {args:Array Value} {ds gs:List (DataW H)} {before:List MemPlace} {tb:TypeId} (hl:laidOutB P=true) (hts:∀ t∈f.params.toList,P.readableRec t=true∧t < P.types.size) (hres:f.resultTypes=#[tb]) (htb:P.underlying tb=some .bool) (hvars:s.vars=[])
  (hW:DataW.Whole enc P f.params.toList s.vars apart W args.toList ds gs before) (hfn:s.fn H (ds++gs)={ results:=[.lit (.bool true)],args:=ds }) (he:Ext W W') :
  s.post enc P f apart fresh handsOn again W args (.bool true) W':=by
 have hlt:=hW.lt
 have hW0:=hW
 obtain ⟨p,q,h1,h2,hpq,hz,hn⟩:=hW0
 rw [hvars] at h2
 obtain ⟨hg,hq⟩:=trodVars_none h2
 subst hg hq
 simp only [List.append_nil] at hpq
 subst hpq
 have hbool:∀ (b:Nat) (sp:Nat→Bool) (hd:Bool),DataW.TrodAll enc P W' b sp hd f.resultTypes.toList ((Value.bool true).resultList f.resultTypes.size) [.lit (.bool true)] []:=by
  intro b sp hd
  rw [hres]
  exact trodAll_mk1 (shut_bool htb true)
 refine ⟨ds,[],before,[],before,[],hW,?_,?_,?_,he.frame _,fun _=>⟨ok_one hres rfl (okWide_bool_mk htb true),[.lit (.bool true)]++ds,[],[]++before,⟨[]++before,[],?_,?_,by simp,?_,?_⟩,?_⟩⟩
 ·rw [hfn];exact hbool _ _ _
 ·rw [hfn];exact qol hl hts h1 he hlt
 ·rw [hfn,hvars];rfl
 ·exact trodAll_append (qok h1 fun x hx=>he.same (hlt x hx)) (hbool _ _ _)
 ·rw [hvars];rfl
 ·intro b off hp
  simp only [List.nil_append] at hp
  rw [he.frozen (hlt _ hp)]
  exact hz b off hp
 ·intro ha;simpa using hn ha
 ·intro x hx _;simpa using hx
end
end Go.Sh
namespace Go.Proofs.YtkecgnlelgdndaaGreatDoor
open Go Go.Sh Go.RowKit Go.ChangeShapes Go.WideShapes Go.ChangeAt Go.Proofs.Tryz IntKind
theorem own:ownKnob Tryz.prog.godebug=none:=by kernel_rfl
theorem laidOut:laidOutB prog=true:=by kernel_rfl
theorem form_row {W:World} {m:Nat} {cs:List Value} {x:DataW Unit × List MemPlace} {tag:List UInt8} {a b c:Bool} (h:DataW.trod (fun _=>()) prog W 0 (fun _=>true) false m 211 cs=some x)
  (hx:x.1=.agg [.lit (.string tag),.lit (.bool a),.lit (.bool b),.lit (.bool c)]):cs=[.string ⟨⟨tag⟩⟩,.bool a,.bool b,.bool c]:=by
 have h96:Tryz.prog.cellsOf 211=4:=by kernel_rfl
 have h9:Tryz.prog.cellsOf 9=1:=by kernel_rfl
 have h4:Tryz.prog.cellsOf 4=1:=by kernel_rfl
 obtain ⟨xs,n,rfl,rfl,hl,hxl,hf⟩:=DataW.trod_struct Tryz.underlying211 h
 rw [h96] at hl
 obtain ⟨v0,v1,v2,v3,rfl⟩:=len4 hl
 obtain ⟨y0,y1,y2,y3,rfl⟩:=len4 (show xs.length=4 from hxl)
 simp only [List.map_cons,List.map_nil,DataW.agg.injEq,List.cons.injEq,and_true] at hx
 obtain ⟨z0,z1,z2,z3⟩:=hx
 have g0:=hf 0 _ rfl
 have g1:=hf 1 _ rfl
 have g2:=hf 2 _ rfl
 have g3:=hf 3 _ rfl
 obtain ⟨t,e0,f0,_⟩:=DataW.trod_string Tryz.underlying9 g0
 obtain ⟨b1,e1,f1⟩:=DataW.trod_bool Tryz.underlying4 g1
 obtain ⟨b2,e2,f2⟩:=DataW.trod_bool Tryz.underlying4 g2
 obtain ⟨b3,e3,f3⟩:=DataW.trod_bool Tryz.underlying4 g3
 simp [h9,h4] at e0 e1 e2 e3
 subst e0 e1 e2 e3
 try simp at f0 f1 f2 f3
 rw [f0] at z0
 rw [f1] at z1
 rw [f2] at z2
 rw [f3] at z3
 simp at z0 z1 z2 z3
 subst z0 z1 z2 z3
 rfl
theorem forms_of {W : World} (h : Go.Lib.VarReads prog W "apograph/transcript.forms" Rows.laid_apograph_transcript_forms) : Forms W := by
 obtain ⟨g4,t4,cs,f4,p4,hg,ht,hvar,hd⟩:=h
 have hg0 : Tryz.prog.globalNamed "apograph/transcript.forms" = some qk := by kernel_rfl
 have ht0:(Tryz.prog.globals[qk]?).map (·.type)=some 212:=by kernel_rfl
 obtain rfl:=Option.some.inj (hg0.symm.trans hg)
 obtain rfl:=Option.some.inj (ht0.symm.trans ht)
 have h96:Tryz.prog.cellsOf 211=4:=by kernel_rfl
 have h97:Tryz.prog.cellsOf 212=48:=by kernel_rfl
 obtain ⟨xs,m,rfl,hx,hl,hxl,hall⟩:=DataW.trod_array Tryz.underlying212 hd
 rw [h97] at hl
 rw [h96] at hall
 simp only [Prod.mk.injEq,Rows.laid_apograph_transcript_forms,DataW.agg.injEq] at hx
 obtain ⟨hm,_⟩:=hx
 have chunk:∀ i,i < 12→(cs.toList.drop (i * 4)).take 4=(formsCells.drop (i * 4)).take 4:=by
  intro i hi
  have hh:=hall i hi
  have hxi:(xs[i]?).map (·.1)=_:=(List.getElem?_map (f:=(·.1)) (l:=xs) (i:=i)).symm.trans (by rw [← hm])
  rw [List.getElem?_eq_getElem (by omega)] at hh hxi
  simp only [Option.map_some] at hxi
  rcases (by omega:i=0∨i=1∨i=2∨i=3∨i=4∨i=5∨i=6∨i=7∨i=8∨i=9∨i=10∨i=11) with rfl | rfl | rfl | rfl | rfl | rfl | rfl | rfl | rfl | rfl | rfl | rfl <;>
   exact form_row hh (Option.some.inj hxi)
 have hsz:qk < W.heap.size:=by
  simp only [World.var?,hg0,Option.bind_some] at hvar
  split at hvar
  ·rename_i hh;exact (Array.getElem?_eq_some_iff.1 hh).1
  ·cases hvar
 refine ⟨hsz,fun j v hj=>?_⟩
 have hj48:j < 48:=by have:=(List.getElem?_eq_some_iff.1 hj).1;exact this
 rw [World.var?_cell hg0 hvar j]
 have hc:=chunk (j / 4) (by omega)
 have e:∀ l:List Value,l[j]? = ((l.drop (j / 4 * 4)).take 4)[j - j / 4 * 4]?:=fun l=>by
  rw [List.getElem?_take,if_pos (by omega),List.getElem?_drop]
  congr 1;omega
 rw [← Array.getElem?_toList,e,hc,← e];exact hj
noncomputable def flatV:Nat→DataW Unit→List Value
 | n + 1,.agg l=>l.flatMap (flatV n)
 | _,.lit (.int k n)=>[.int k n]
 | _,.lit (.bool b)=>[.bool b]
 | _,.lit (.string s)=>[.string ⟨s.toArray⟩]
 | _,_=>[]
theorem trod_iface {P:Program} {W:World} {fuel:Nat} {t:TypeId} {cs:List Value} {ms:Array (String × TypeId)} {nm:String} {d:DataW Unit} {p:List MemPlace} (hu:P.underlying t=some (.interface ms)) (h:DataW.trod (fun _=>()) P W 0 (fun _=>true) false fuel t cs=some (.iface nm d,p)):∃ u v,cs=[.iface u v]:=by
 cases fuel with
 | zero=>simp [DataW.trod] at h
 | succ n =>
  unfold DataW.trod at h
  rw [hu] at h
  split at h <;> simp_all
theorem err_of {W:World} {n:String} {nm:String} {d:DataW Unit} {g:Nat} {ti:TypeId} {ms:Array (String × TypeId)} (h:Go.Lib.VarReads prog W n (.iface nm d)) (hg:Tryz.prog.globalNamed n=some g) (ht:(Tryz.prog.globals[g]?).map (·.type)=some ti) (hi:Tryz.prog.underlying ti=some (.interface ms)) :
  ∃ t p,W.cell? ⟨g,0,none⟩=some (.iface t p):=by
 obtain ⟨g',t',cs,fuel,p,hg',ht',hv,hd⟩:=h
 obtain rfl:=Option.some.inj (hg.symm.trans hg')
 obtain rfl:=Option.some.inj (ht.symm.trans ht')
 obtain ⟨u,v,hc⟩:=trod_iface hi hd
 refine ⟨u,v,?_⟩
 rw [World.var?_cell hg hv 0]
 have:=congrArg (fun l=>l[0]?) hc
 simpa using this
theorem max_of {W:World} (hSh:W.ShapedOpen prog):∃ m,W.cell? ⟨qcm,0,none⟩=some (.int .i64 m):=Tryz.laysM219.s1_3 W hSh
theorem mk_of {W : World} (e1 : Go.Lib.VarReads prog W "strconv.ErrSyntax" Rows.laid_strconv_ErrSyntax) (e2 : Go.Lib.VarReads prog W "strconv.ErrRange" Rows.laid_strconv_ErrRange) (hSh : W.ShapedOpen prog) : Mk W :=
 ⟨max_of hSh,err_of e1 (by kernel_rfl) (by kernel_rfl) Tryz.underlying193,err_of e2 (by kernel_rfl) (by kernel_rfl) Tryz.underlying193⟩
noncomputable def putG (h:Array Obj) (g:Nat) (cs:List Value):Array Obj:=h.modify g fun
 | .cells _ t frozen=>.cells ⟨cs⟩ t frozen
 | o=>o
noncomputable def layOne (h:Array Obj) (g:Nat) (d:DataW Unit):Array Obj:=match d with
 | .iface _ (.ptr (.agg [.lit (.string t)]))=>putG (h.push (.cells ⟨[.string ⟨t.toArray⟩]⟩ 312 (0,0))) g [.iface 310 (.pointer (some ⟨h.size,0,none⟩))]
 | d=>putG h g (flatV 5 d)
noncomputable def layAll (laid:List (String × DataW Unit)) (h:Array Obj):Array Obj :=
 laid.foldl (fun h x=>match Tryz.prog.globalNamed x.1 with
  | some g=>layOne h g x.2
  | none=>h) h
noncomputable def q8y (laid:List (String × DataW Unit)) (os:Os):World :=
 { World.holding prog os ⟨#[],#[],[]⟩ with heap:=layAll laid (World.holding prog os ⟨#[],#[],[]⟩).heap }
end Go.Proofs.YtkecgnlelgdndaaGreatDoor
namespace Go.Proofs
open Go Go.Sh Go.RowKit Go.Proofs.Tryz IntKind
inductive Am where
 | ch (c:UInt8) (p:Ps) (u:Bool) (nm:List UInt8)
 | gap (n:Int) (p:Ps) (u:Bool) (nm:List UInt8)
 | brk (v:Bool)
structure Nc where
 x:Nn
 u:Bool
 nm:List UInt8
def qhe:Fo→Bool→List UInt8→List Nc
 | .nil,_,_=>[]
 | .cons k t n ps r,u,nm=>⟨⟨k,t,n,ps⟩,u,nm⟩ :: (qhe ps (u||decide (k=7)) (if k=11 then t else nm)++qhe r u nm)
def amT (t:List UInt8) (p:Ps) (u:Bool) (nm:List UInt8):List Am:=t.map fun c=>.ch c p u nm
def amN (p:Ps) (x:Nc):List Am :=
 if x.x.k=1 then amT x.x.t p x.u x.nm else if x.x.k=6 then [.gap x.x.n p x.u x.nm] else if x.x.k=4∨x.x.k=5 then [.brk (decide (x.x.k=5))] else []
def amsL:Ps→List Nc→List Am
 | _,[]=>[]
 | p,x :: l=>amN p x++amsL (posN p x.x).1 l
def amsF (p:Ps) (f:Fo) (u:Bool) (nm:List UInt8):List Am:=amsL p (qhe f u nm)
theorem qsf:∀ (f:Fo) (u:Bool) (nm:List UInt8),(qhe f u nm).map (·.x)=qo f
 | .nil,_,_=>rfl
 | .cons k t n ps r,u,nm=>by simp only [qhe,qo,List.map_cons,List.map_append,qsf ps,qsf r]
theorem amsL_app:∀ (l:List Nc) (p:Ps) (m:List Nc),amsL p (l++m)=amsL p l++amsL (endL p (l.map (·.x))) m
 | [],_,_=>rfl
 | x :: l,p,m=>by simp only [List.cons_append,amsL,List.map_cons,endL,amsL_app l,List.append_assoc]
theorem qyz (p:Ps) (k t n ps r) (u:Bool) (nm:List UInt8):amsF p (.cons k t n ps r) u nm =
  amN p ⟨⟨k,t,n,ps⟩,u,nm⟩++(amsF (posN p ⟨k,t,n,ps⟩).1 ps (u||decide (k=7)) (if k=11 then t else nm)++amsF (endL (posN p ⟨k,t,n,ps⟩).1 (qo ps)) r u nm):=by
 unfold amsF
 rw [qhe,amsL,amsL_app,qsf]
structure Tok where
 t:List UInt8
 m:List UInt8
 p:Ps
 g:Int
 a:List UInt8
def encTk:Enc Tok:=⟨fun x=>[.string ⟨⟨x.t⟩⟩,.string ⟨⟨x.m⟩⟩,.string ⟨⟨x.p.1⟩⟩,.int .i64 x.p.2,.int .i64 x.g,.string ⟨⟨x.a⟩⟩],6,fun _=>rfl,by decide,by intro x v hv;simp only [List.mem_cons,List.not_mem_nil,or_false] at hv;rcases hv with rfl | rfl | rfl | rfl | rfl | rfl <;> rfl⟩
def innC (c:UInt8):Bool:=letB c||(decide (kd c=2)||decide (kd c=4))
def inA:Am→Bool
 | .ch c _ _ _=>innC c
 | _=>false
def chA:Am→List UInt8
 | .ch c _ _ _=>[c]
 | _=>[]
def unA:Am→Bool
 | .ch _ _ u _=>u
 | .gap _ _ u _=>u
 | .brk _=>false
def flI (u j v:Bool) (base:Int):Int:=base + (if u then 1 else 0) + (if v then 4 else 0) + (if j then 16 else 0)
def gapT (n:Int):List UInt8:=91 :: (Lib.decDigits n.toNat++[93])
theorem qj7 {α:Type} (p:α→Bool):∀ l:List α,(l.dropWhile p).length≤l.length
 | []=>by simp
 | x :: l=>by
  have:=qj7 p l
  rw [List.dropWhile_cons]
  split
  ·simp only [List.length_cons];omega
  ·exact Nat.le_refl _
def divF (j v:Bool):List Am→List Tok
 | []=>[]
 | .brk b :: r=>divF false (v||b) r
 | .gap n p u nm :: r=>⟨gapT n,[],p,flI u j v 2,nm⟩ :: divF true false r
 | .ch c p u nm :: r =>
  if kd c=6 then divF false v r
  else if letB c=true then ⟨c :: (r.takeWhile inA).flatMap chA,[],p,flI (u||(r.takeWhile inA).any unA) j v 0,nm⟩ :: divF true false (r.dropWhile inA)
  else ⟨[c],[],p,flI u j v 8,nm⟩ :: divF true false r
 termination_by l=>l.length
 decreasing_by
  all_goals simp only [List.length_cons]
  all_goals first | omega | (have:=qj7 inA r;omega)
structure Bs where
 out:List Tok
 cur:Option (Tok × List UInt8)
 j:Bool
 v:Bool
def shut (b:Bs):List Tok:=match b.cur with
 | none=>b.out
 | some (t,w)=>b.out++[{ t with t:=w }]
def orU (g:Int) (u:Bool):Int:=if u=true∧g % 2=0 then g + 1 else g
def addB (b:Bs):Am→Bs
 | .ch c p u nm=>match b.cur,innC c with
  | some (t,w),true=>⟨b.out,some ({ t with g:=orU t.g u },w++[c]),b.j,b.v⟩
  | _,_ =>
   if letB c=true then ⟨shut b,some (⟨[],[],p,flI u b.j b.v 0,nm⟩,[c]),true,false⟩
   else if kd c=6 then ⟨shut b,none,false,b.v⟩
   else ⟨shut b++[⟨[c],[],p,flI u b.j b.v 8,nm⟩],none,true,false⟩
 | .gap n p u nm=>⟨shut b++[⟨gapT n,[],p,flI u b.j b.v 2,nm⟩],none,true,false⟩
 | .brk x=>⟨shut b,none,false,b.v||x⟩
def bs0:Bs:=⟨[],none,false,false⟩
theorem orU_orU (g:Int) (u v:Bool):orU (orU g u) v=orU g (u||v):=by
 unfold orU
 cases u <;> cases v
 ·simp
 ·simp
 ·simp
 ·by_cases h:g % 2=0
  ·simp only [h,and_self,if_true,Bool.or_self]
   rw [if_neg (by omega)]
  ·simp [h]
theorem orU_fl (u u' j v:Bool) (base:Int) (hb:base % 2=0):orU (flI u j v base) u'=flI (u||u') j v base:=by
 unfold orU flI
 cases u <;> cases u' <;> cases j <;> cases v <;> simp <;> omega
theorem space_let {c:UInt8} (h:kd c=6):letB c=false:=by unfold letB;rw [h];rfl
theorem q3s {c:UInt8} (h:letB c=true):innC c=true:=by unfold innC;rw [h];rfl
theorem qih:∀ (l:List Am) (b:Bs),shut (l.foldl addB b)=match b.cur with
  | none=>b.out++divF b.j b.v l
  | some (t,w)=>b.out++{ t with g:=orU t.g ((l.takeWhile inA).any unA),t:=w++(l.takeWhile inA).flatMap chA } :: divF b.j b.v (l.dropWhile inA)
 | [],⟨out,none,j,v⟩=>by simp [shut,divF]
 | [],⟨out,some (t,w),j,v⟩=>by simp [shut,divF,orU]
 | .brk x :: r,⟨out,none,j,v⟩=>by
  rw [List.foldl_cons,qih r]
  show out++divF false (v||x) r=_
  rw [divF]
 | .brk x :: r,⟨out,some (t,w),j,v⟩=>by
  rw [List.foldl_cons,qih r]
  have e:inA (.brk x)=false:=rfl
  simp only [List.takeWhile_cons,List.dropWhile_cons,e,Bool.false_eq_true,if_false]
  rw [divF]
  simp [addB,shut,orU]
 | .gap n p u nm :: r,⟨out,none,j,v⟩=>by
  rw [List.foldl_cons,qih r,divF]
  simp [addB,shut]
 | .gap n p u nm :: r,⟨out,some (t,w),j,v⟩=>by
  rw [List.foldl_cons,qih r]
  have e:inA (.gap n p u nm)=false:=rfl
  simp only [List.takeWhile_cons,List.dropWhile_cons,e,Bool.false_eq_true,if_false]
  rw [divF]
  simp [addB,shut,orU]
 | .ch c p u nm :: r,⟨out,none,j,v⟩=>by
  rw [List.foldl_cons,qih r,divF]
  by_cases hl:letB c=true
  ·have h6:¬ kd c=6:=fun h=>by rw [space_let h] at hl;cases hl
   simp only [addB,hl,h6,if_true,if_false,shut]
   rw [orU_fl _ _ _ _ _ rfl]
   rfl
  ·by_cases h6:kd c=6
   ·simp [addB,hl,h6,shut]
   ·simp [addB,hl,h6,shut]
 | .ch c p u nm :: r,⟨out,some (t,w),j,v⟩=>by
  rw [List.foldl_cons,qih r]
  by_cases hi:innC c=true
  ·have e:inA (.ch c p u nm)=true:=hi
   simp only [List.takeWhile_cons,List.dropWhile_cons,e,if_true]
   have h1:orU (orU t.g u) ((r.takeWhile inA).any unA)=orU t.g (u||(r.takeWhile inA).any unA):=orU_orU _ _ _
   simp [addB,hi,chA,unA,h1]
  ·have e:inA (.ch c p u nm)=false:=by show innC c=false;simpa using hi
   have hl:¬ letB c=true:=fun h=>hi (q3s h)
   simp only [List.takeWhile_cons,List.dropWhile_cons,e,Bool.false_eq_true,if_false]
   rw [divF]
   by_cases h6:kd c=6
   ·simp [addB,hi,hl,h6,shut,orU]
   ·simp [addB,hi,hl,h6,shut,orU]
theorem fold_tok (l:List Am):shut (l.foldl addB bs0)=divF false false l:=by rw [qih];rfl
def mkS (b:Bool):List UInt8→Bool
 | []=>true
 | c :: r=>!decide (kd c=0)&&(if kd c=2 then b&&mkS true r else mkS (decide (kd c=1)) r)
theorem mkS_at:∀ (t a:List UInt8) (b:Bool),(b=true↔∃ i,a.length=i + 1∧(kA a i=1∨rtB a i=true))→(mkS b t=true↔∀ j,a.length≤j→j < (a++t).length→okAt (a++t) j=true)
 | [],a,b,_=>by simp [mkS];intro j h1 h2;omega
 | c :: r,a,b,hb=>by
  have e:a++c :: r=(a++[c])++r:=by simp
  have hk:kA (a++c :: r) a.length=kd c:=by simp [kA]
  have hr:∀ s,rtB (a++c :: s) a.length=(decide (kd c=2)&&b):=by
   intro s
   have hk':kA (a++c :: s) a.length=kd c:=by simp [kA]
   cases hz:a.length with
   | zero =>
    have:b=false:=by
     cases hbb:b with
     | false=>rfl
     | true=>obtain ⟨i,h,_⟩:=hb.1 hbb;omega
    rw [this];simp [rtB]
   | succ i =>
    rw [hz] at hk'
    rw [rtB,hk',q8z (by omega),rtB_left (by omega)]
    have hbb:b=(kA a i == 1||rtB a i):=by
     rw [Bool.eq_iff_iff,hb]
     constructor
     ·rintro ⟨i',h1,h2⟩
      have:i'=i:=by omega
      subst this;simpa using h2
     ·intro h;exact ⟨i,hz,by simpa using h⟩
    rw [← hbb]
    by_cases h2:kd c=2 <;> simp [h2]
  have hok:okAt (a++c :: r) a.length=true↔kd c≠0∧(kd c=2→b=true):=by
   unfold okAt;rw [hk,hr]
   by_cases h0:kd c=0 <;> by_cases h2:kd c=2 <;> simp [h0,h2]
  have ih:=mkS_at r (a++[c]) (decide (kd c=1)||(decide (kd c=2)&&b)) (by
   have hk1:kA (a++[c]) a.length=kd c:=by simp [kA]
   constructor
   ·intro h
    refine ⟨a.length,by simp,?_⟩
    rw [hk1,hr []]
    simpa using h
   ·rintro ⟨i,h1,h2⟩
    have:i=a.length:=by simpa using h1.symm
    subst this
    rw [hk1,hr []] at h2
    simpa using h2)
  rw [← e] at ih
  have hsplit:(∀ j,a.length≤j→j < (a++c :: r).length→okAt (a++c :: r) j=true)↔okAt (a++c :: r) a.length=true∧∀ j,(a++[c]).length≤j→j < (a++c :: r).length→okAt (a++c :: r) j=true:=by
   constructor
   ·intro h;exact ⟨h _ (Nat.le_refl _) (by simp),fun j h1 h2=>h j (by simp at h1;omega) h2⟩
   ·rintro ⟨h1,h2⟩ j h3 h4
    by_cases hj:j=a.length
    ·rw [hj];exact h1
    ·exact h2 j (by simp;omega) h4
  rw [hsplit,hok,← ih,mkS]
  by_cases h0:kd c=0
  ·simp [h0]
  ·by_cases h2:kd c=2
   ·cases b <;> simp [h2]
   ·simp [h0,h2]
theorem mkS_ok (s:List UInt8):mkS false s=qda s:=by
 rw [Bool.eq_iff_iff,mkS_at s [] false (by simp)]
 simp [qda]
theorem checkC_mk {s:List UInt8}:qa8 s=0↔s.length≤65536∧mkS false s=true:=by
 rw [qpx,mkS_ok]
 by_cases h:65536 < s.length
 ·rw [if_pos h]
  constructor
  ·intro hh;cases hh
  ·intro hh;have:=hh.1;omega
 ·by_cases h2:qda s=true
  ·simp [h,h2];omega
  ·simp [h,h2]
def plOk (p:Ps):Prop:=0≤p.2∧(p.1=[]∨qaa p.1=true)
def okA (b:Bool):List Am→Prop
 | []=>True
 | .ch c p _ nm :: r=>kd c≠0∧(kd c=2→b=true)∧plOk p∧(nm=[]∨qaa nm=true)∧okA (decide (kd c=1)||decide (kd c=2)) r
 | .gap n p _ nm :: r=>(1≤n∧n≤64)∧plOk p∧(nm=[]∨qaa nm=true)∧okA false r
 | .brk _ :: r=>okA false r
theorem okA_mono:∀ {l:List Am} {b:Bool},okA false l→okA b l
 | [],_,_=>trivial
 | .ch c p _ nm :: r,b,⟨h1,h2,h3⟩=>⟨h1,fun h=>absurd (h2 h) (by decide),h3⟩
 | .gap n p _ nm :: r,_,h=>h
 | .brk _ :: r,_,h=>h
theorem qxd:∀ {l m:List Am} {b:Bool},okA b l→okA false m→okA b (l++m)
 | [],_,_,_,h=>okA_mono h
 | .ch c p _ nm :: r,m,b,⟨h1,h2,h3,h4,h5⟩,h=>⟨h1,h2,h3,h4,qxd h5 h⟩
 | .gap n p _ nm :: r,m,_,⟨h1,h2,h3,h4⟩,h=>⟨h1,h2,h3,qxd h4 h⟩
 | .brk _ :: r,m,_,h1,h=>qxd (l:=r) h1 h
theorem q3m {p:Ps} {u:Bool} {nm:List UInt8} (hp:plOk p) (hn:nm=[]∨qaa nm=true):∀ {t:List UInt8} {b:Bool},mkS b t=true→okA b (amT t p u nm)
 | [],_,_=>trivial
 | c :: r,b,h=>by
  unfold mkS at h
  rw [Bool.and_eq_true] at h
  have h0:kd c≠0:=by simpa using h.1
  refine ⟨h0,fun h2=>?_,hp,hn,?_⟩
  ·have:=h.2;rw [if_pos h2,Bool.and_eq_true] at this;exact this.1
  ·have:=h.2
   by_cases h2:kd c=2
   ·rw [if_pos h2,Bool.and_eq_true] at this
    simp only [h2];exact q3m hp hn this.2
   ·rw [if_neg h2] at this
    simp only [h2,decide_false,Bool.or_false];exact q3m hp hn this
theorem qf6 {k:Int} {t:List UInt8} {n:Int} {ps:Fo} {w:Bool} (h:qy k t n ps false w=0) :
  1≤k∧k≤11∧(k=1→t≠[]∧qa8 t=0)∧(k=3∨k=4∨k=11→qaa t=true)∧(k=6→1≤n∧n≤64)∧(k < 7→ps=.nil)∧(7≤k→ps≠.nil):=by
 unfold qy at h
 split at h
 ·cases h
 rename_i h1
 split at h
 ·cases h
 rename_i h2
 simp only [not_or,not_and] at h1 h2
 obtain ⟨a1,a2,a3,a4,a5⟩:=h1
 refine ⟨by omega,by omega,fun hk=>?_,fun hk=>?_,fun hk=>?_,fun hk=>?_,fun hk=>?_⟩
 ·rw [if_pos hk] at h
  refine ⟨h2.1 hk,?_⟩
  by_cases hc:qa8 t=0
  ·exact hc
  ·rw [if_pos hc] at h;cases h
 ·rw [if_neg (by omega),if_pos hk] at h
  cases hi:qaa t with
  | true=>rfl
  | false=>rw [if_pos hi] at h;cases h
 ·rw [if_neg (by omega),if_neg (by omega),if_neg (by omega),if_pos hk] at h
  by_cases hn:n < 1∨64 < n
  ·rw [if_pos hn] at h;cases h
  ·omega
 ·have hp:qx k=false:=by unfold qx;exact decide_eq_false (by omega)
  exact Fo.eq_nil_of_len (by
   rcases Nat.eq_zero_or_pos ps.len with h0 | h0
   ·exact h0
   ·exact absurd hp (a5 h0))
 ·have hp:qx k=true:=by unfold qx;exact decide_eq_true (by omega)
  intro hh
  subst hh
  exact h2.2 hp rfl
theorem posN_ok {k t n ps} {w:Bool} {p:Ps} (h:qy k t n ps false w=0) (hp:plOk p):plOk (posN p ⟨k,t,n,ps⟩).1:=by
 have hf:=qf6 h
 unfold posN
 split
 ·exact hp
 ·split
  ·exact hp
  ·split
   ·rename_i h3;exact ⟨Int.le_refl _,.inr (hf.2.2.2.1 (.inl h3))⟩
   ·split
    ·exact ⟨by have:=hp.1;show (0:Int)≤p.2 + 1;omega,hp.2⟩
    ·exact hp
theorem q83:∀ {f:Fo} {w:Bool} {p:Ps},okF w f→plOk p→plOk (endL p (qo f))
 | .nil,_,_,_,hp=>hp
 | .cons k t n ps r,w,p,⟨h1,h2,h3⟩,hp=>by
  rw [qo,endL,qpv]
  exact q83 h3 (q83 h2 (posN_ok h1 hp))
theorem q3o:∀ {f:Fo} {w:Bool} {p:Ps} {u:Bool} {nm:List UInt8},okF w f→plOk p→(nm=[]∨qaa nm=true)→okA false (amsF p f u nm)
 | .nil,_,_,_,_,_,_,_=>trivial
 | .cons k t n ps r,w,p,u,nm,⟨h1,h2,h3⟩,hp,hn=>by
  obtain ⟨f1,f2,f3,f4,f5,f6,f7⟩:=qf6 h1
  rw [qyz]
  have hp1:=posN_ok h1 hp
  refine qxd ?_ (qxd (q3o h2 hp1 ?_) (q3o h3 (q83 h2 hp1) hn))
  ·unfold amN
   simp only
   split
   ·rename_i hk;exact q3m hp hn (checkC_mk.1 (f3 hk).2).2
   ·split
    ·rename_i hk;exact ⟨f5 hk,hp,hn,trivial⟩
    ·split
     ·exact trivial
     ·exact trivial
  ·split
   ·rename_i hk;exact .inr (f4 (.inr (.inr hk)))
   ·exact hn
theorem okA_run:∀ {l:List Am} {b:Bool},okA b l→mkS b ((l.takeWhile inA).flatMap chA)=true∧okA false (l.dropWhile inA)∧∀ c∈(l.takeWhile inA).flatMap chA,innC c=true
 | [],_,_=>⟨rfl,trivial,fun c h=>by cases h⟩
 | .gap n p u nm :: r,b,h=>by
  have e:inA (.gap n p u nm)=false:=rfl
  simp only [List.takeWhile_cons,List.dropWhile_cons,e,Bool.false_eq_true,if_false]
  exact ⟨rfl,h,fun c h=>by cases h⟩
 | .brk v :: r,b,h=>by
  have e:inA (.brk v)=false:=rfl
  simp only [List.takeWhile_cons,List.dropWhile_cons,e,Bool.false_eq_true,if_false]
  exact ⟨rfl,h,fun c h=>by cases h⟩
 | .ch c p u nm :: r,b,h=>by
  by_cases hi:innC c=true
  ·have e:inA (.ch c p u nm)=true:=hi
   simp only [List.takeWhile_cons,List.dropWhile_cons,e,if_true,List.flatMap_cons]
   obtain ⟨h1,h2,h3,h4,h5⟩:=h
   obtain ⟨i1,i2,i3⟩:=okA_run h5
   refine ⟨?_,i2,fun d hd=>?_⟩
   ·show mkS b (c :: _)=true
    rw [mkS]
    by_cases k2:kd c=2
    ·rw [if_pos k2,h2 k2]
     simp only [k2,decide_true,Bool.or_true] at i1
     simp [k2,i1]
    ·rw [if_neg k2]
     simp only [k2,decide_false,Bool.or_false] at i1
     simp [h1,i1]
   ·rcases List.mem_cons.1 hd with rfl | hd
    ·exact hi
    ·exact i3 d hd
  ·have e:inA (.ch c p u nm)=false:=by show innC c=false;simpa using hi
   simp only [List.takeWhile_cons,List.dropWhile_cons,e,Bool.false_eq_true,if_false]
   refine ⟨rfl,?_,fun c h=>by cases h⟩
   obtain ⟨h1,h2,h3⟩:=h
   refine ⟨h1,fun h=>?_,h3⟩
   exact absurd (show innC c=true by unfold innC;rw [h];simp) hi
def secs:Fo→List (List UInt8)
 | .nil=>[]
 | .cons k t _ _ r=>(if k=4 then [t] else [])++secs r
def secsI:Fo→Nat→List (List UInt8 × Nat)
 | .nil,_=>[]
 | .cons k t _ _ r,i=>(if k=4 then [(t,i)] else [])++secsI r (i + 1)
theorem qc8:∀ (f:Fo) (i:Nat),(secsI f i).map (·.1)=secs f
 | .nil,_=>rfl
 | .cons k t n ps r,i=>by
  rw [secsI,secs,List.map_append,qc8 r (i + 1)]
  congr 1
  split <;> rfl
theorem qe8:∀ f g:Fo,secs (f.app g)=secs f++secs g
 | .nil,g=>rfl
 | .cons k t n ps r,g=>by rw [Fo.cons_app,secs,secs,qe8 r g,List.append_assoc]
theorem qwz:∀ (f g:Fo) (i:Nat),secsI (f.app g) i=secsI f i++secsI g (i + f.len)
 | .nil,g,i=>rfl
 | .cons k t n ps r,g,i=>by
  rw [Fo.cons_app,secsI,secsI,qwz r g (i + 1),List.append_assoc,Fo.len_cons]
  congr 3;omega
theorem qk6 (f:Fo):(secs f).length≤f.len:=by
 induction f with
 | nil=>exact Nat.le_refl _
 | cons k t n ps r _ ih =>
  rw [secs,List.length_append,Fo.len_cons]
  split <;> simp <;> omega
theorem sec_within {k:Int} {t:List UInt8} {n:Int} {ps:Fo} (h:qy k t n ps false true=0):k≠4:=by
 intro hk
 subst hk
 unfold qy at h
 split at h
 ·cases h
 split at h
 ·cases h
 split at h
 ·rename_i hh;revert hh;decide
 split at h
 ·split at h
  ·cases h
  ·split at h
   ·cases h
   ·rename_i hh;exact hh ⟨rfl,rfl⟩
 ·rename_i hh;exact hh (.inr (.inl rfl))
theorem sec_node {t:List UInt8} {n:Int} {ps:Fo} {w:Bool} (h:qy 4 t n ps false w=0):n=0∧ps=.nil∧qaa t=true:=by
 obtain ⟨_,_,_,h4,_,h6,_⟩:=qf6 h
 refine ⟨?_,h6 (by decide),h4 (.inr (.inl rfl))⟩
 unfold qy at h
 split at h
 ·cases h
 ·rename_i hh
  by_cases hn:n=0
  ·exact hn
  ·exact absurd (.inr (.inr (.inr (.inl ⟨hn,rfl⟩)))) hh
theorem qm7:∀ {f:Fo},okF true f→secs f=[]
 | .nil,_=>rfl
 | .cons k t n ps r,h=>by rw [secs,if_neg (sec_within h.1),qm7 h.2.2];rfl
theorem q53 {k:Int} {t:List UInt8} {n:Int} {ps:Fo} (h:k≠4):secs (partF k t n ps)=[]:=by
 unfold partF
 split
 ·rfl
 ·unfold Fo.one;rw [secs,if_neg h];rfl
theorem qtq (hand:Int):∀ {f:Fo},okF false f→secs (qm f hand false)=secs f
 | .nil,_=>rfl
 | .cons k t n ps r,h=>by
  have h1:=qm7 (qkj h.2.1)
  have h2:=qm7 (qr9 hand false h.2.1)
  rw [qm,qe8,qtq hand h.2.2,secs]
  congr 1
  split
  ·rename_i hh;rw [h1,if_neg (by omega)]
  split
  ·rename_i hh;rw [h2,if_neg (by omega)]
  split
  ·rename_i hh;rw [q53 (by omega),if_neg (by omega)]
  split
  ·rename_i hh;rw [h1,if_neg (by omega)]
  split
  ·rename_i hh;rw [h2,if_neg (by omega)]
  split
  ·rename_i hh;rw [q53 (by omega),if_neg (by omega)]
  ·unfold Fo.one;rw [secs];simp [secs]
theorem secs_consM (k:Int) (t:List UInt8) (n:Int) (ps r:Fo):secs (consM k t n ps r)=(if k=4 then [t] else [])++secs r:=by
 unfold consM
 by_cases hk:k=1
 ·subst hk
  have e:∀ t:List UInt8,(if (1:Int)=4 then [t] else [])=([]:List (List UInt8)):=fun _=>if_neg (by decide)
  rw [if_pos rfl,e,List.nil_append]
  split
  ·rfl
  ·split
   ·simp [secs]
   ·split
    ·rename_i h1
     subst h1
     simp [secs]
    ·simp [secs]
 ·rw [if_neg hk,secs]
theorem q1x:∀ f:Fo,secs (q2a f)=secs f
 | .nil=>rfl
 | .cons k t n ps r=>by rw [q2a,secs_consM,q1x r,secs]
theorem secs_stF {f:Fo} (h:okF false f) (hand:Int):secs (stF f hand)=secs f:=by
 unfold stF
 rw [mergeF_eq,q1x,qtq hand h]
theorem q1w {f:Fo}:okF false f→∀ s∈secs f,qaa s=true:=by
 induction f with
 | nil=>intro _ s hs;cases hs
 | cons k t n ps r _ ih =>
  intro h s hs
  rw [secs] at hs
  rcases List.mem_append.1 hs with h1 | h1
  ·split at h1
   ·rename_i hk
    rw [List.mem_singleton.1 h1]
    subst hk
    exact (sec_node h.1).2.2
   ·cases h1
  ·exact ih h.2.2 s h1
def cutS:Fo→List UInt8→Option (Fo × Fo)
 | .nil,_=>none
 | .cons k t n ps r,s=>if k=4∧t=s then some (.nil,r) else (cutS r s).map fun p=>(.cons k t n ps p.1,p.2)
def bodyF:Fo→Fo
 | .nil=>.nil
 | .cons k t n ps r=>if k=4 then .nil else .cons k t n ps (bodyF r)
def fromS:Fo→Fo
 | .nil=>.nil
 | .cons k t n ps r=>if k=4 then .cons k t n ps r else fromS r
theorem qer:∀ f:Fo,(bodyF f).app (fromS f)=f
 | .nil=>rfl
 | .cons k t n ps r=>by
  rw [bodyF,fromS]
  split
  ·rfl
  ·rw [Fo.cons_app,qer r]
theorem qx1:∀ {f:Fo} {s:List UInt8},s∉secs f→cutS f s=none
 | .nil,_,_=>rfl
 | .cons k t n ps r,s,h=>by
  rw [secs,List.mem_append,not_or] at h
  rw [cutS,if_neg,qx1 h.2];· rfl
  rintro ⟨h1,h2⟩
  exact h.1 (by rw [if_pos h1,h2];simp)
theorem qv3:∀ {f:Fo} {s:List UInt8} {a b:Fo},cutS f s=some (a,b)→∃ n ps,f=a.app (.cons 4 s n ps b)∧s∉secs a
 | .nil,_,_,_,h=>by cases h
 | .cons k t n ps r,s,a,b,h=>by
  rw [cutS] at h
  split at h
  ·rename_i hk
   simp only [Option.some.injEq,Prod.mk.injEq] at h
   obtain ⟨rfl,rfl⟩:=h
   obtain ⟨rfl,rfl⟩:=hk
   exact ⟨n,ps,rfl,by simp [secs]⟩
  ·rename_i hk
   cases hc:cutS r s with
   | none=>rw [hc] at h;cases h
   | some p =>
    obtain ⟨a',b'⟩:=p
    rw [hc] at h
    simp only [Option.map_some,Option.some.injEq,Prod.mk.injEq] at h
    obtain ⟨rfl,rfl⟩:=h
    obtain ⟨n',ps',h1,h2⟩:=qv3 hc
    refine ⟨n',ps',by rw [Fo.cons_app,← h1],?_⟩
    rw [secs,List.mem_append,not_or]
    refine ⟨fun hm=>?_,h2⟩
    split at hm
    ·rename_i h4;exact hk ⟨h4,(List.mem_singleton.1 hm).symm⟩
    ·cases hm
theorem cutS_pre:∀ {pre r:Fo} {s:List UInt8},s∉secs pre→cutS (pre.app r) s=(cutS r s).map fun p=>(pre.app p.1,p.2)
 | .nil,r,s,_=>by
  rw [Fo.nil_app]
  cases cutS r s <;> rfl
 | .cons k t n ps p,r,s,h=>by
  rw [secs,List.mem_append,not_or] at h
  rw [Fo.cons_app,cutS,if_neg,cutS_pre h.2]
  ·cases cutS r s <;> rfl
  ·rintro ⟨h1,h2⟩
   exact h.1 (by rw [if_pos h1,h2];simp)
theorem cutS_some {f:Fo} {s:List UInt8} (h:s∈secs f):∃ a b,cutS f s=some (a,b):=by
 induction f with
 | nil=>cases h
 | cons k t n ps r _ ih =>
  rw [cutS]
  split
  ·exact ⟨_,_,rfl⟩
  ·rename_i hk
   rw [secs] at h
   rcases List.mem_append.1 h with h1 | h1
   ·split at h1
    ·rename_i h4;exact absurd ⟨h4,(List.mem_singleton.1 h1).symm⟩ hk
    ·cases h1
   ·obtain ⟨a,b,e⟩:=ih h1
    exact ⟨_,_,by rw [e];rfl⟩
def bodyS (f:Fo) (s:List UInt8):Fo:=match cutS f s with
 | some (_,b)=>bodyF b
 | none=>.nil
def preS (f:Fo) (s:List UInt8):Fo:=match cutS f s with
 | some (a,_)=>a
 | none=>.nil
structure FineW (f:Fo):Prop where
 size:f.size≤40
 tl:tlen f≤2600
 depth:f.depth≤16
 ok:okF false f
 m:mgd false f
abbrev Wt:=List UInt8 × Fo
def spc (t:List UInt8):Bool:=t.all fun c=>decide (c=32)
def hdr:Fo→Int
 | .nil=>0
 | .cons k t _ _ r=>if k=4 then 0 else if k=3∨k=2∨(k=1∧spc t=true) then hdr r else 10
def witE (x:Wt):Int:=if qaa x.1=false∨14 < x.1.length then 14 else if qak x.2≠0 then 1 else if (secs x.2).Nodup then hdr x.2 else 7
def qiu (x:Wt):Bool:=qnh x.2||decide (20 < x.1.length)
section
attribute [local irreducible] World.shape?
theorem conv_to1 {w:World} {b:Nat} {j:TypeInfo} (hj:Tryz.prog.info? 116=some j) (hjs:j.size=2) (hsh:w.shape? b=some (118,6)) :
  (convert 113 252 (.pointer (some ⟨b,1,none⟩))).run prog w=.ok (.pointer (some ⟨b,1,none⟩)) w:=by
 simp [convert,run_underlying Tryz.underlying113,run_underlying Tryz.underlying252]
 conv=>lhs;whnf
 simp [qvx,qvw,hsh,cellsIn,sizeOf,typeInfo,hj,hjs]
theorem conv_from1 {w:World} {b:Nat} {j:TypeInfo} (hj:Tryz.prog.info? 116=some j) (hsh:w.shape? b=some (118,6)) :
  (convert 252 113 (.pointer (some ⟨b,1,none⟩))).run prog w=.ok (.pointer (some ⟨b,1,none⟩)) w:=by
 have hl:liesAt prog Tryz.prog.depth 118 (6 / Tryz.prog.cellsOf 118) 1 116 1=true:=by kernel_rfl
 simp [convert,run_underlying Tryz.underlying113,run_underlying Tryz.underlying252]
 conv=>lhs;whnf
 simp [qvx,qvw,hsh,sizeOf,typeInfo,hj,variablesAt,hl]
end
theorem qx3 (b:Nat) (w:World) (h0:w.cell? ⟨b,1,none⟩=some (.pointer (some ⟨b,1,none⟩))) :
  Calls prog 200 #[.pointer (some ⟨b,1,none⟩)] w fun e w'=>e=.returned (.tuple #[])∧w'=w:=by
 obtain ⟨j,hj,_⟩:=Option.map_eq_some_iff.1 (show (Tryz.prog.info? 116).map (·.size)=some 2 by kernel_rfl)
 go_enter Tryz.func200,Tryz.ntmps200
 go_wp2
 rw [Lib.run_neq_ptr_same w _ Tryz.underlying113 hj]
 go_wp2
 go_end0
 exact ⟨rfl,rfl⟩
theorem qu0 (b:Nat) (w:World) (h0:w.cell? ⟨b,1,none⟩=some (.pointer none)) (hsh:w.shape? b=some (118,6)) (hfz:w.frozen? ⟨b,1,none⟩=false) :
  Calls prog 200 #[.pointer (some ⟨b,1,none⟩)] w fun e w'=>e=.returned (.tuple #[])∧w'=w.setCell ⟨b,1,none⟩ (.pointer (some ⟨b,1,none⟩)):=by
 obtain ⟨j,hj,hjs⟩:=Option.map_eq_some_iff.1 (show (Tryz.prog.info? 116).map (·.size)=some 2 by kernel_rfl)
 go_enter Tryz.func200,Tryz.ntmps200
 go_wp2
 rw [conv_to1 hj hjs hsh]
 simp only [Result.andThen]
 rw [Oper.upon_value]
 go_wp2
 rw [run_callFunc_extern Tryz.func227 (by kernel_rfl) (by kernel_rfl) (by kernel_rfl) (e:=Extern.AbiNoEscape.same) (by kernel_rfl)]
 rw [Lib.run_noEscape]
 simp only [Result.andThen]
 rw [Oper.upon_value]
 go_wp2
 rw [conv_from1 hj hsh]
 simp only [Result.andThen]
 rw [Oper.upon_value]
 go_wp2
 go_end0
 exact ⟨rfl,rfl⟩
theorem freeze_chg (w:World) (g:Nat) (n:Nat):Chg (fun k=>k=g) w (w.freeze ⟨g,0,none⟩ n):=by
 unfold World.freeze
 split
 ·exact Chg.refl _ _
 ·exact ⟨rfl,rfl,rfl,by simp,fun k _ hk=>by simp only [Array.getElem?_modify];rw [if_neg (fun e=>hk e.symm)]⟩
set_option maxHeartbeats 1000000 in
theorem q7j (b g cap:Nat) (cur:Array Value) (l:List UInt8) (w:World) (h0:l≠[]) (h1:w.cell? ⟨b,2,none⟩=some (.slice (some ⟨g,0,none⟩) l.length cap)) (hg:w.heap[g]? = some (.cells cur 5 (0,0)))
  (hnc:l.length≤cap) (hcm:cap≤maxLen) (hcs:cur.size=cap) (htake:cur.toList.take l.length=Lib.byteCells l) :
  Calls prog 132 #[.pointer (some ⟨b,1,none⟩)] w fun e w'=>e=.returned (.string ⟨l.toArray⟩)∧Chg (fun k=>k=g) w w':=by
 have hl0:l.length≠0:=by simpa using h0
 have c1:w.drew.cell? ⟨b,2,none⟩=some (.slice (some ⟨g,0,none⟩) l.length cap):=h1
 have hSD:(Builtin.unsafeSliceData_ #[114] 216 #[.slice (some ⟨g,0,none⟩) l.length cap]).run prog w.drew=.ok (.pointer (some ⟨g,0,none⟩)) w.drew :=
  Lib.run_unsafeSliceData_row _ _ _ _ _ _ (by omega)
 have hUS:(Builtin.unsafeString_ #[216,3] 9 #[.pointer (some ⟨g,0,none⟩),.int .i64 l.length]).run prog w.drew=.ok (.string ⟨l.toArray⟩) (w.drew.freeze ⟨g,0,none⟩ l.length):=by
  refine Lib.run_unsafeString_row w.drew 216 3 9 5 Tryz.underlying216 (by kernel_rfl) g cur.size (by have hg':w.drew.heap[g]? = some (.cells cur 5 (0,0)):=hg;simp [World.shape?,hg']) l h0 (by omega) (by unfold maxLen at hcm;omega) ?_
  intro j x hx
  have hj:j < l.length:=(List.getElem?_eq_some_iff.1 hx).1
  have hc:w.drew.cell? ⟨g,j,none⟩=cur[j]?:=by
   have hg':w.drew.heap[g]? = some (.cells cur 5 (0,0)):=hg
   simp [World.cell?,hg']
  rw [qg,Nat.zero_add,hc]
  have:(cur.toList.take l.length)[j]? = some (.int .u8 x.toNat):=by rw [htake];simp [Lib.byteCells,hx]
  rw [List.getElem?_take,if_pos hj] at this
  simpa using this
 have mixed:Tryz.prog.follows .mixedOrders=true:=by kernel_rfl
 go_enter Tryz.func132,Tryz.ntmps132
 go_wp2
 go_region_o
 all_goals (go_wp2;go_ret;exact ⟨rfl,(Chg.drew w).trans (freeze_chg w.drew g _)⟩)
abbrev qnv (oa:Option Addr) (on oc:Nat) (p:Value) (wa:Option Addr) (wl wc:Nat) (op j v:Bool):List Value:=[.slice oa on oc,p,.slice wa wl wc,.bool op,.bool j,.bool v]
structure BsAt (w:World) (b:Nat) (oa wa:Option Addr) (l:List Tok) (s:List UInt8) (op j v:Bool) (p:Value) (oc wc:Nat):Prop where
 blk:Blk w b (qnv oa l.length oc p wa s.length wc op j v) 118
 p:p=.pointer none∨p=.pointer (some ⟨b,1,none⟩)
 out:OwnL encTk w (b + 1) 69 oa l.length oc l
 word:Owns w (b + 1) 5 1 wa s.length wc (Lib.byteCells s)
section
variable {w w':World} {b:Nat} {oa wa:Option Addr} {l:List Tok} {s:List UInt8} {op j v:Bool} {p:Value} {oc wc:Nat} {R:Ending→World→Prop}
theorem BsAt.apart (h:BsAt w b oa wa l s op j v p oc wc):∀ k,bk oa k→¬ bk wa k:=by
 intro k h1 h2
 rcases h.out.2 with ho | ⟨g,cap,cur,e1,e2,e3,_⟩
 ·simp at ho;rw [ho.1.1] at h1;simp [bk] at h1
 rcases h.word.2 with hw | ⟨g',cap',cur',f1,f2,f3,_⟩
 ·simp at hw;rw [hw.1.1] at h2;simp [bk] at h2
 have q1:oa=some ⟨g,0,none⟩:=by simpa using (Value.slice.inj e1).1
 have q2:wa=some ⟨g',0,none⟩:=by simpa using (Value.slice.inj f1).1
 rw [q1] at h1
 rw [q2] at h2
 simp [bk] at h1 h2
 subst h1
 subst h2
 rw [e3] at f3
 simp at f3
theorem BsAt.bkO (h:BsAt w b oa wa l s op j v p oc wc) {k:Nat} (hk:bk oa k):b < k∧k < w.heap.size:=by have:=h.out.bk hk;omega
theorem BsAt.bkW (h:BsAt w b oa wa l s op j v p oc wc) {k:Nat} (hk:bk wa k):b < k∧k < w.heap.size:=by have:=h.word.bk hk;omega
theorem BsAt.lt (h:BsAt w b oa wa l s op j v p oc wc):b < w.heap.size:=h.blk.lt
theorem BsAt.chg {S:Nat→Prop} (h:BsAt w b oa wa l s op j v p oc wc) (hc:Chg S w w') (h1:¬ S b) (h2:∀ k,bk oa k→¬ S k) (h3:∀ k,bk wa k→¬ S k):BsAt w' b oa wa l s op j v p oc wc :=
 ⟨hc.blk h.blk h1,h.p,h.out.chg hc h2,h.word.chg hc h3⟩
theorem BsAt.ext (h:BsAt w b oa wa l s op j v p oc wc) (hc:Ext w w'):BsAt w' b oa wa l s op j v p oc wc :=
 h.chg (S:=fun _=>False) (.of_ext hc) (fun h=>h) (fun _ _ h=>h) (fun _ _ h=>h)
theorem BsAt.cells (h:BsAt w b oa wa l s op j v p oc wc):w.cell? ((⟨b,0,none⟩:Addr).add 0)=some (.slice oa l.length oc)∧w.cell? ((⟨b,0,none⟩:Addr).add 3)=some (.bool op)∧w.cell? ((⟨b,0,none⟩:Addr).add 4)=some (.bool j)∧w.cell? ((⟨b,0,none⟩:Addr).add 5)=some (.bool v):=by
 simp only [qg,h.blk.cell];exact ⟨rfl,rfl,rfl,rfl⟩
theorem qcf {w:World} {b i:Nat} {T:TypeId} {cs:List Value} {u:Value} (hb:Blk w b cs T) (hi:i < cs.length) (hu:u.oneCell'=true) {K:World→Prop}
  (h:∀ w',Blk w' b (cs.set i u) T→Chg (fun k=>k=b) w w'→w'.heap.size=w.heap.size→K w'):stL w ((⟨b,0,none⟩:Addr).add i) 0 [u] K:=by
 rw [qg]
 refine qae hb (by simp;omega) (by intro x hx;rw [List.mem_singleton.1 hx];exact hu) fun w' b1 x2 x3 x4 x5 x6=>?_
 have e:putAt cs (0 + i + 0) [u]=cs.set i u:=by rw [Nat.zero_add,Nat.add_zero];rfl
 rw [e] at b1
 exact h w' b1 ⟨x4,x5,x6,by omega,fun j _ hj=>x2 j hj⟩ x3
theorem BsAt.setOp (h:BsAt w b oa wa l s op j v p oc wc) (op':Bool) {K:World→Prop} (hk:∀ w',BsAt w' b oa wa l s op' j v p oc wc→Chg (fun k=>k=b) w w'→w'.heap.size=w.heap.size→K w'):stL w ((⟨b,0,none⟩:Addr).add 3) 0 [.bool op'] K :=
 qcf h.blk (by simp) rfl fun w' b1 hc hs=>hk w' ⟨b1,h.p,h.out.chg hc fun k hk hh=>by have:=h.bkO hk;omega,h.word.chg hc fun k hk hh=>by have:=h.bkW hk;omega⟩ hc hs
theorem BsAt.setJ (h:BsAt w b oa wa l s op j v p oc wc) (j':Bool) {K:World→Prop} (hk:∀ w',BsAt w' b oa wa l s op j' v p oc wc→Chg (fun k=>k=b) w w'→w'.heap.size=w.heap.size→K w'):stL w ((⟨b,0,none⟩:Addr).add 4) 0 [.bool j'] K :=
 qcf h.blk (by simp) rfl fun w' b1 hc hs=>hk w' ⟨b1,h.p,h.out.chg hc fun k hk hh=>by have:=h.bkO hk;omega,h.word.chg hc fun k hk hh=>by have:=h.bkW hk;omega⟩ hc hs
theorem BsAt.setV (h:BsAt w b oa wa l s op j v p oc wc) (v':Bool) {K:World→Prop} (hk:∀ w',BsAt w' b oa wa l s op j v' p oc wc→Chg (fun k=>k=b) w w'→w'.heap.size=w.heap.size→K w'):stL w ((⟨b,0,none⟩:Addr).add 5) 0 [.bool v'] K :=
 qcf h.blk (by simp) rfl fun w' b1 hc hs=>hk w' ⟨b1,h.p,h.out.chg hc fun k hk hh=>by have:=h.bkO hk;omega,h.word.chg hc fun k hk hh=>by have:=h.bkW hk;omega⟩ hc hs
theorem slT_tok:SlT prog 40 69 6 80 (.agg #[.string ⟨#[]⟩,.string ⟨#[]⟩,.string ⟨#[]⟩,.int .i64 0,.int .i64 0,.string ⟨#[]⟩]):=⟨by kernel_rfl,by kernel_rfl,rfl,by decide⟩
theorem qko (h:BsAt w b oa wa l s op j v p oc wc) (c:UInt8) (hlen:s.length≤1000000000)
  (hk:∀ wa' wc' w',BsAt w' b oa wa' l (s++[c]) op j v (.pointer (some ⟨b,1,none⟩)) oc wc'→Chg (fun k=>k=b∨bk wa k) w w'→(∀ k,bk wa' k→bk wa k∨w.heap.size≤k)→R (.returned .nilIface) w') :
  Calls prog qcc ⟨[.pointer (some ⟨b,1,none⟩),.int .u8 (c.toNat:Int)]⟩ w R:=by
 apply qfo
 have hbl:=h.lt
 have main:∀ w1,BsAt w1 b oa wa l s op j v (.pointer (some ⟨b,1,none⟩)) oc wc→Chg (· = b) w w1→w1.heap.size=w.heap.size →
   (dr (some ⟨b,1,none⟩) fun p5 =>
 ∃ (x6:Option Addr) (x6n:Nat) (x6c:Nat),World.cell? w1 (p5.add 1)=some (.slice x6 x6n x6c)∧(al w1 5 [.int .u8 (c.toNat:Int)] fun p7 w8 =>
 app prog [114,114] 114 (.slice x6 x6n x6c) (.slice (some p7) 1 1) w8 fun a9 a9n a9c w10 =>
 dr (some ⟨b,1,none⟩) fun p11 =>
 stL w10 (p11.add 1) 0 [.slice a9 a9n a9c] fun w12 =>
 R (.returned (.nilIface)) w12)):=by
  intro w1 q1 q3 q4
  refine dr_ok ⟨wa,s.length,wc,by rw [qg,q1.blk.cell];rfl,?_⟩
  refine qfd q99 q1.word (by have:=q1.lt;omega) [.int .u8 (c.toNat:Int)] rfl (by intro u hu;rw [List.mem_singleton.1 hu];rfl) (by omega) (by omega) fun a' c'' w2 ho hc hn=>dr_ok ?_
  have q5:=hc.blk q1.blk (fun hh=>by have:=q1.bkW hh;omega)
  have e:s.length + 1=(s++[c]).length:=by simp
  have eb:Lib.byteCells (s++[c])=Lib.byteCells s++[.int .u8 (c.toNat:Int)]:=by simp [Lib.byteCells]
  have q6:=q1.out.chg hc fun k hk hh=>q1.apart k hk hh
  rw [qg]
  refine qae q5 (by simp) (by simp [Value.oneCell']) fun w3 r1 r2 r3 r4 r5 r6=>?_
  have hw23:Chg (· = b) w2 w3:=⟨r4,r5,r6,by omega,fun k _ hk=>r2 k hk⟩
  have hnb':∀ k,bk a' k→¬ k=b:=fun k hk he=>by have:=(ho.bk hk).1;omega
  refine hk a' c'' w3 ⟨?_,.inr rfl,q6.chg hw23 fun k hk he=>by have:=q1.bkO hk;omega,?_⟩ ?_ (fun k hk=>(hn k hk).imp id (by omega))
  ·rw [← e];exact r1
  ·rw [← e,eb];exact ho.chg hw23 hnb'
  ·exact ((q3.mono fun k _ h=>.inl h).trans (hc.mono fun k _ h=>.inr h)).trans (hw23.mono fun k _ h=>.inl h)
 rcases h.p with rfl | rfl
 ·refine (qu0 b w (by rw [h.blk.cell];rfl) (by simp [World.shape?,show w.heap[b]? = _ from h.blk]) (h.blk.frozen 1)).mono ?_
  rintro e w' ⟨rfl,rfl⟩
  have hset:=h.blk.set 1 (.pointer (some ⟨b,1,none⟩))
  have hc:Chg (· = b) w (w.setCell ⟨b,1,none⟩ (.pointer (some ⟨b,1,none⟩))) :=
   ⟨rfl,rfl,rfl,by simp,fun k _ hk=>by simp only [World.setCell,Array.getElem?_modify];rw [if_neg (fun e=>hk e.symm)]⟩
  exact ⟨rfl,main _ ⟨hset,.inr rfl,h.out.chg hc fun k hk he=>by have:=h.bkO hk;omega,h.word.chg hc fun k hk he=>by have:=h.bkW hk;omega⟩ hc (by simp)⟩
 ·refine (qx3 b w (by rw [h.blk.cell];rfl)).mono ?_
  rintro e w' ⟨rfl,rfl⟩
  exact ⟨rfl,main _ h (Chg.refl _ _) rfl⟩
end
section
variable {α:Type} {E:Enc α}
theorem row_set1 {x x':α} {f:Nat} {u:Value} (hf:f < E.size) (hu:E.enc x'=(E.enc x).set f u):∀ {l:List α} {i:Nat},l[i]? = some x→(E.row l).set (i * E.size + f) u=E.row (l.set i x')
 | [],i,h=>by simp at h
 | y :: l,0,h=>by
  obtain rfl:y=x:=by simpa using h
  rw [qf9,Nat.zero_mul,Nat.zero_add,List.set_append_left _ _ (by rw [E.len];exact hf),List.set_cons_zero,qf9,hu]
 | y :: l,i + 1,h=>by
  have h':l[i]? = some x:=by simpa using h
  rw [qf9,List.set_append_right _ _ (by rw [E.len,Nat.add_mul];omega),List.set_cons_succ,qf9,← row_set1 hf hu h',E.len]
  congr 2
  rw [Nat.add_mul];omega
theorem OwnL.storeCell {w:World} {B:Nat} {e:TypeId} {a:Option Addr} {n c:Nat} {l:List α} (h:OwnL E w B e a n c l) {i:Nat} {x:α} (hx:l[i]? = some x) :
  ∃ g,a=some ⟨g,0,none⟩∧(∀ K:Addr→Prop,K ⟨g,i * E.size,none⟩→idx a n (i:Int) E.size K)∧(∀ j v,(E.enc x)[j]? = some v→w.cell? ⟨g,i * E.size + j,none⟩=some v) ∧
   ∀ (f:Nat) (u:Value) (x':α) (K:World→Prop),f < E.size→u.oneCell'=true→E.enc x'=(E.enc x).set f u→(∀ w',OwnL E w' B e a n c (l.set i x')→Chg (bk a) w w'→w'.heap.size=w.heap.size→K w')→stL w ⟨g,i * E.size + f,none⟩ 0 [u] K:=by
 have hl:=h.length
 have hi:i < n:=by rw [← hl];exact (List.getElem?_eq_some_iff.1 hx).1
 have hrd:=h.out.get hx
 rcases h.2 with h1 | ⟨g,cap,cur,e1,e2,e3,e4,e5,e6,e7⟩
 ·omega
 obtain ⟨rfl,_,rfl⟩:a=some ⟨g,0,none⟩∧True∧c=cap:=by simpa using e1
 have hB:Blk w g cur.toList e:=e3
 have hcl:cur.toList.length=c * E.size:=by simpa using e6
 have hcur:cur.toList=E.row l++cur.toList.drop (n * E.size):=by rw [← e7,List.take_append_drop]
 have hin:i * E.size + E.size≤n * E.size:=by
  have:(i + 1) * E.size≤n * E.size:=Nat.mul_le_mul_right _ hi
  rwa [Nat.add_mul,Nat.one_mul] at this
 have hnc:n * E.size≤c * E.size:=Nat.mul_le_mul_right _ e4
 refine ⟨g,rfl,fun K hK=>⟨by omega,by omega,?_⟩,fun j v hj=>?_,fun f u x' K hf h1 hu hK=>?_⟩
 ·show K _
  rw [qg,Int.toNat_natCast,Nat.zero_add];exact hK
 ·have hjl:j < E.size:=by have:=(List.getElem?_eq_some_iff.1 hj).1;rw [E.len] at this;exact this
  rw [hB.cell,hcur,List.getElem?_append_left (by rw [qc9,hl];omega),q8g hx hjl];exact hj
 refine qae hB (by simp only [List.length_cons,List.length_nil];omega) (by intro y hy;rw [List.mem_singleton.1 hy];exact h1) fun w' b1 b2 b3 b4 b5 b6=>?_
 have hc:Chg (bk (some (⟨g,0,none⟩:Addr))) w w':=⟨b4,b5,b6,by omega,fun k' _ hk=>b2 k' fun e=>hk (by simp [bk,e])⟩
 have hp:putAt cur.toList (i * E.size + f + 0) [u]=E.row (l.set i x')++cur.toList.drop (n * E.size):=by
  show cur.toList.set (i * E.size + f + 0) u=_
  rw [Nat.add_zero]
  conv=>lhs;rw [hcur]
  rw [List.set_append_left _ _ (by rw [qc9,hl];omega),row_set1 hf hu hx]
 rw [hp] at b1
 refine hK w' ⟨by rw [qc9,List.length_set,hl],.inr ⟨g,c,⟨_⟩,rfl,e2,b1,e4,e5,?_,?_⟩⟩ hc b3
 ·show (E.row (l.set i x')++cur.toList.drop (n * E.size)).length=c * E.size
  rw [List.length_append,List.length_drop,hcl,qc9,List.length_set,hl];omega
 ·show List.take (n * E.size) (E.row (l.set i x')++_)=_
  rw [List.take_append_of_le_length (by rw [qc9,List.length_set,hl];exact Nat.le_refl _),List.take_of_length_le (by rw [qc9,List.length_set,hl];exact Nat.le_refl _)]
end
section
variable {w w':World} {b:Nat} {oa wa:Option Addr} {l:List Tok} {s:List UInt8} {op j v:Bool} {p:Value} {oc wc:Nat} {R:Ending→World→Prop}
theorem qfl {t:Tok} (h:BsAt w b oa wa (l++[t]) s op j v p oc wc) (hl:l.length≤1000000000) (hk:∀ g w',oa=some ⟨g,0,none⟩→BsAt w' b oa wa (l++[t]) s op j v p oc wc→Ext w w'→R (.returned (.pointer (some ⟨g,l.length * 6,none⟩))) w') :
  Calls prog qc1 ⟨[.pointer (some ⟨b,0,none⟩)]⟩ w R:=by
 apply qhk
 unfold qch drw
 have ed:=qs w
 have h:=h.ext ed
 generalize w.drew=wd at *
 have hx:(l++[t])[l.length]? = some t:=by simp
 obtain ⟨g,rfl,hq,_⟩:=OwnL.storeCell h.out hx
 have e:i64.wrap ((((l++[t]).length:Nat):Int) - 1)=(l.length:Int):=by
  rw [List.length_append,List.length_singleton,qu (by omega)];omega
 refine dr_ok ⟨_,_,_,h.cells.1,dr_ok ⟨_,_,_,h.cells.1,?_⟩⟩
 rw [e]
 exact hq _ (hk g wd rfl h ed)
theorem BsAt.last {t:Tok} (h:BsAt w b oa wa (l++[t]) s op j v p oc wc) {g:Nat} (hg:oa=some ⟨g,0,none⟩) :
  w.cell? ((⟨g,l.length * 6,none⟩:Addr).add 4)=some (.int .i64 t.g) ∧
  (∀ (u:List UInt8) (K:World→Prop),(∀ w',BsAt w' b oa wa (l++[{ t with t:=u }]) s op j v p oc wc→Chg (bk oa) w w'→K w')→stL w ((⟨g,l.length * 6,none⟩:Addr).add 0) 0 [.string ⟨⟨u⟩⟩] K) ∧
  (∀ (u:Int) (K:World→Prop),(∀ w',BsAt w' b oa wa (l++[{ t with g:=u }]) s op j v p oc wc→Chg (bk oa) w w'→K w')→stL w ((⟨g,l.length * 6,none⟩:Addr).add 4) 0 [.int .i64 u] K):=by
 have hx:(l++[t])[l.length]? = some t:=by simp
 obtain ⟨g',hg',_,hc,hs⟩:=OwnL.storeCell h.out hx
 have:g'=g:=by rw [hg] at hg';simpa using hg'.symm
 subst this
 have hset:∀ t':Tok,(l++[t]).set l.length t'=l++[t']:=fun t'=>by rw [List.set_append_right _ _ (Nat.le_refl _)];simp
 have fin:∀ (t':Tok) (w':World),OwnL encTk w' (b + 1) 69 oa (l++[t]).length oc (l++[t'])→Chg (bk oa) w w'→BsAt w' b oa wa (l++[t']) s op j v p oc wc:=by
  intro t' w' ho hcg
  have e:(l++[t']).length=(l++[t]).length:=by simp
  refine ⟨?_,h.p,by rw [e];exact ho,h.word.chg hcg fun k hk hh=>h.apart k hh hk⟩
  rw [e]
  exact hcg.blk h.blk fun hh=>by have:=h.bkO hh;omega
 refine ⟨?_,fun u K hK=>?_,fun u K hK=>?_⟩
 ·rw [qg];exact hc 4 _ rfl
 ·rw [qg]
  refine hs 0 _ { t with t:=u } K (by decide) rfl rfl fun w' ho hcg hsz=>hK w' ?_ hcg
  rw [hset] at ho
  exact fin _ _ ho hcg
 ·rw [qg]
  refine hs 4 _ { t with g:=u } K (by decide) rfl rfl fun w' ho hcg hsz=>hK w' ?_ hcg
  rw [hset] at ho
  exact fin _ _ ho hcg
def stFl (flags:Int) (j v:Bool):Int:=if v=true then bitO .i64 (if j=true then bitO .i64 flags 16 else flags) 4 else if j=true then bitO .i64 flags 16 else flags
theorem OwnL.app1 {α:Type} {E:Enc α} {P:Program} {t ty e:TypeId} {bytes:Nat} {z:Value} (hT:SlT P t e E.size bytes z) {w:World} {B:Nat} {a:Option Addr} {n c:Nat} {l:List α} (h:OwnL E w B e a n c l) (hB:B≤w.heap.size) {b':Nat} {e':TypeId} {x:α} (hb:Blk w b' (E.enc x) e')
  (hlen:n + 1≤4611686018427387904) (hbytes:(n + 1) * bytes≤140737488355328) {K:Option Addr→Nat→Nat→World→Prop}
  (hk:∀ a' c'' w',OwnL E w' B e a' (n + 1) c'' (l++[x])→Chg (bk a) w w'→(∀ k,bk a' k→bk a k∨w.heap.size≤k)→K a' (n + 1) c'' w') :
  app P [t,t] ty (.slice a n c) (.slice (some ⟨b',0,none⟩) 1 1) w K :=
 qv5 (S:=fun _=>True) hT h hB (E.enc x) (by rw [E.len,Nat.one_mul]) (.inr ⟨b',0,rfl,trivial,hb.lt,fun j u hj=>by rw [Nat.zero_add,hb.cell];exact hj⟩) (E.one x) hlen hbytes
  fun a' c'' w' ho hc hn=>hk a' c'' w' (by unfold OwnL;rw [q3d];exact ho) hc hn
theorem BsAt.mkOut {oa0:Option Addr} {on0 oc0:Nat} (hbk:Blk w b (qnv oa0 on0 oc0 p wa s.length wc op j v) 118) (hp:p=.pointer none∨p=.pointer (some ⟨b,1,none⟩)) {oa':Option Addr} {oc':Nat} {l':List Tok} (ho:OwnL encTk w (b + 1) 69 oa' l'.length oc' l')
  (hw:Owns w (b + 1) 5 1 wa s.length wc (Lib.byteCells s)) {K:World→Prop}
  (hk:∀ w',BsAt w' b oa' wa l' s op j v p oc' wc→Chg (fun k=>k=b) w w'→w'.heap.size=w.heap.size→K w'):stL w ((⟨b,0,none⟩:Addr).add 0) 0 [.slice oa' l'.length oc'] K :=
 qcf hbk (by simp) rfl fun w' b1 hc hs=>hk w' ⟨b1,hp,ho.chg hc fun k hk hh=>by have:=(ho.bk hk).1;omega,hw.chg hc fun k hk hh=>by have:=(hw.bk hk).1;omega⟩ hc hs
theorem qji (h:BsAt w b oa wa l s op j v p oc wc) (hl:l.length≤1000000000) (hj:j=true→l≠[]) (x2 x3 x4:Int) (q:Ps) (u:Bool) (nm:List UInt8) (flags:Int)
  (hk:∀ oa' oc' w',BsAt w' b oa' wa (l++[⟨[],[],q,stFl flags j v,nm⟩]) s op true false p oc' wc→Chg (fun k=>k=b∨bk oa k) w w'→(∀ k,bk oa' k→bk oa k∨w.heap.size≤k)→R (.returned (.tuple ⟨[]⟩)) w') :
  Calls prog qcn ⟨[.pointer (some ⟨b,0,none⟩),.agg ⟨[.int .i64 x2,.int .u8 x3,.int .i64 x4,.string ⟨⟨q.1⟩⟩,.int .i64 q.2,.bool u,.string ⟨⟨nm⟩⟩]⟩,.int .i64 flags]⟩ w R:=by
 apply qg1
 refine qh fun b10 w11 hb10 B10 e11 s11=>?_
 have h11:=h.ext e11
 have hbl:=h.lt
 intro K12 hK12
 have k12:K12 (if j=true then bitO .i64 flags 16 else flags) w11:=by
  refine hK12 _ _ fun _=>?_
  intro K15 hK15
  have k15:K15 (stFl flags j v) w11:=by
   refine hK15 _ _ fun _=>?_
   unfold drw
   have ed:=qs w11
   have h12:=h11.ext ed
   have B12:=B10.ext ed
   have zd:w11.drew.heap.size=w11.heap.size:=rfl
   have E12:=qb e11 ed
   generalize w11.drew=wd at *
   have c3:∀ i v,[Value.int .i64 x2,.int .u8 x3,.int .i64 x4,.string ⟨⟨q.1⟩⟩,.int .i64 q.2,.bool u,.string ⟨⟨nm⟩⟩][i]? = some v→wd.cell? ⟨b10,i,none⟩=some v:=fun i v hi=>by rw [B12.cell];exact hi
   refine dr_ok ⟨_,_,_,h12.cells.1,q.1,by rw [qg,qg];exact c3 3 _ rfl,q.2,by rw [qg,qg];exact c3 4 _ rfl,nm,by rw [qg];exact c3 6 _ rfl,?_,trivial⟩
   refine qh fun b24 w25 hb24 B24 e25 s25=>⟨?_,trivial⟩
   have h25:=h12.ext e25
   have E25:=qb E12 e25
   have z25:=E25.size
   have B24':Blk w25 b24 (encTk.enc ⟨[],[],q,stFl flags j v,nm⟩) 69:=B24
   refine OwnL.app1 (P:=prog) slT_tok h25.out (by have:=h25.lt;omega) B24' (by omega) (by omega) fun a' c'' w27 ho hcg hn=>dr_ok ⟨?_,trivial⟩
   have e:l.length + 1=(l++[(⟨[],[],q,stFl flags j v,nm⟩:Tok)]).length:=by simp
   rw [e] at ho ⊢
   have hb27:=hcg.blk h25.blk fun hh=>by have:=h25.bkO hh;omega
   refine BsAt.mkOut hb27 h.p ho (h25.word.chg hcg fun k hk hh=>h25.apart k hh hk) fun w29 h29 c29 s29=>dr_ok ?_
   refine h29.setJ true fun w31 h31 c31 s31=>dr_ok ?_
   refine h31.setV false fun w33 h33 c33 s33=>?_
   refine hk a' c'' w33 h33 ?_ fun k hk=>(hn k hk).imp id fun hh=>by omega
   exact (((((Chg.of_ext E25).trans (hcg.mono fun k _ hk=>.inr hk)).trans (c29.mono fun k _ hk=>.inl hk)).trans (c31.mono fun k _ hk=>.inl hk)).trans (c33.mono fun k _ hk=>.inl hk))
  refine dr_ok ⟨_,h11.cells.2.2.2,ql (fun g=>?_) (fun g=>?_)⟩
  ·have e:stFl flags j v=bitO .i64 (if j=true then bitO .i64 flags 16 else flags) 4:=by unfold stFl;rw [if_pos g]
   rw [← e];exact k15
  ·have e:stFl flags j v=if j=true then bitO .i64 flags 16 else flags:=by unfold stFl;rw [if_neg (by rw [g];decide)]
   rw [← e];exact k15
 refine dr_ok ⟨_,h11.cells.2.2.1,ql (fun g=>dr_ok ⟨_,_,_,h11.cells.1,qd (fun _=>?_) (fun g0=>?_)⟩) (fun g=>?_)⟩
 ·rw [if_pos g] at k12;exact k12
 ·have:=List.length_pos_iff.2 (hj g)
  omega
 ·rw [if_neg (by rw [g];decide)] at k12;exact k12
theorem qy2 {wl:Nat} (hb:Blk w b (qnv oa l.length oc p wa wl wc op j v) 118) (ho:OwnL encTk w (b + 1) 69 oa l.length oc l) (hk:∀ w',BsAt w' b oa none l [] op j v (.pointer none) oc 0→Chg (fun k=>k=b) w w'→R (.returned (.tuple ⟨[]⟩)) w') :
  Calls prog qdk ⟨[.pointer (some ⟨b,1,none⟩)]⟩ w R:=by
 apply qij
 have e1:((⟨b,1,none⟩:Addr).add 0)=(⟨b,0,none⟩:Addr).add 1:=by simp only [qg]
 have e2:((⟨b,1,none⟩:Addr).add 1)=(⟨b,0,none⟩:Addr).add 2:=by simp only [qg]
 refine dr_ok ?_
 rw [e1]
 refine qcf hb (by simp) rfl fun w3 b3 c3 s3=>dr_ok ?_
 rw [e2]
 refine qcf b3 (by simp) rfl fun w5 b5 c5 s5=>?_
 have hb':∀ k,bk oa k→¬ k=b:=fun k hk hh=>by have:=(ho.bk hk).1;omega
 refine hk w5 ⟨b5,.inl rfl,(ho.chg c3 hb').chg c5 hb',Owns.nil _ _ _ _⟩ (c3.trans c5)
theorem q31 {t:Tok} (h:BsAt w b oa wa (l++[t]) s true j v p oc wc) (hl:l.length≤1000000000) (hs:s≠[])
  (hk:∀ w',BsAt w' b oa none (l++[{ t with t:=s }]) [] false j v (.pointer none) oc 0→Chg (fun k=>k=b∨bk oa k∨bk wa k) w w'→R (.returned (.tuple ⟨[]⟩)) w') :
  Calls prog qay ⟨[.pointer (some ⟨b,0,none⟩)]⟩ w R:=by
 apply qdd
 have hbl:=h.lt
 intro K2 hK2
 have k2:∀ w3 wl,Blk w3 b (qnv oa (l++[t]).length oc p wa wl wc true j v) 118→OwnL encTk w3 (b + 1) 69 oa (l++[t]).length oc (l++[{ t with t:=s }])→Chg (fun k=>k=b∨bk oa k∨bk wa k) w w3→K2 w3:=by
  intro w3 wl q1 q2 q3
  refine hK2 _ fun _=>dr_ok ?_
  refine qcf q1 (by simp) rfl fun w5 b5 c5 s5=>dr_ok ?_
  have hb':∀ k,bk oa k→¬ k=b:=fun k hk hh=>by have:=(q2.bk hk).1;omega
  have e:(l++[t]).length=(l++[({ t with t:=s }:Tok)]).length:=by simp
  rw [qg]
  refine qy2 (l:=l++[{ t with t:=s }]) (wl:=wl) (op:=false) (by rw [← e];exact b5) (by rw [← e];exact q2.chg c5 hb') fun w' q4 c6=>⟨rfl,?_⟩
  exact hk w' q4 ((q3.trans (c5.mono fun k _ hk=>.inl hk)).trans (c6.mono fun k _ hk=>.inl hk))
 have hsl:0 < s.length:=List.length_pos_iff.2 hs
 have str:∀ v1 (oa1:Option Addr) (l1:List Tok),BsAt v1 b oa1 wa l1 s true j v p oc wc→∀ R':Ending→World→Prop,(∀ w',Blk w' b (qnv oa1 l1.length oc p wa s.length wc true j v) 118→OwnL encTk w' (b + 1) 69 oa1 l1.length oc l1→Chg (bk wa) v1 w'→R' (.returned (.string ⟨⟨s⟩⟩)) w') →
   Calls prog 132 ⟨[.pointer (some ⟨b,1,none⟩)]⟩ v1 R':=by
  intro v1 oa1 l1 hv R' hR
  rcases hv.word.2 with h1 | ⟨g,cap,cur,e1,e2,e3,e4,e5,e6,e7⟩
  ·omega
  obtain ⟨hwa,_,hcap⟩:wa=some ⟨g,0,none⟩∧True∧wc=cap:=by simpa using e1
  have c2:v1.cell? ⟨b,2,none⟩=some (.slice (some ⟨g,0,none⟩) s.length cap):=by rw [hv.blk.cell,← hwa,← hcap];rfl
  have e6':cur.size=cap:=by simpa using e6
  have e7':cur.toList.take s.length=Lib.byteCells s:=by simpa using e7
  refine (q7j b g cap cur s v1 hs c2 e3 e4 e5 e6' e7').mono ?_
  rintro e w' ⟨rfl,hc⟩
  have hc':Chg (bk wa) v1 w':=hc.mono fun k _ hk=>by rw [hwa,hk];simp [bk]
  exact hR w' (hc'.blk hv.blk fun hh=>by have:=hv.bkW hh;omega) (hv.out.chg hc' fun k hk hh=>hv.apart k hk hh) hc'
 unfold drw
 have ed:=qs w
 have h':=h.ext ed
 have cd:Chg (fun k=>k=b∨bk oa k∨bk wa k) w w.drew:=.of_ext ed
 generalize w.drew=wd at *
 -- the text is written
 have wr:∀ (v1:World) (g:Nat),oa=some ⟨g,0,none⟩→Blk v1 b (qnv oa (l++[t]).length oc p wa s.length wc true j v) 118→OwnL encTk v1 (b + 1) 69 oa (l++[t]).length oc (l++[t])→Chg (fun k=>k=b∨bk oa k∨bk wa k) w v1 →
   stL v1 ((⟨g,l.length * 6,none⟩:Addr).add 0) 0 [.string ⟨⟨s⟩⟩] fun w20=>K2 w20:=by
  intro v1 g hg q1 q2 q3
  have hx:(l++[t])[l.length]? = some t:=by simp
  obtain ⟨g',hg',_,_,hst⟩:=OwnL.storeCell q2 hx
  have:g'=g:=by rw [hg] at hg';simpa using hg'.symm
  subst this
  rw [qg]
  refine hst 0 _ { t with t:=s } _ (by decide) rfl rfl fun w' ho hcg hsz=>?_
  have hset:(l++[t]).set l.length { t with t:=s } = l++[{ t with t:=s }]:=by rw [List.set_append_right _ _ (Nat.le_refl _)];simp
  rw [hset] at ho
  exact k2 w' _ (hcg.blk q1 fun hh=>by have:=(q2.bk hh).1;omega) ho (q3.trans (hcg.mono fun k _ hk=>.inr (.inl hk)))
 have c3:=h.cells.2.1
 refine dr_ok ⟨_,c3,?_⟩
 simp only [br_t]
 have way1:Calls prog 131 ⟨[.pointer (some ⟨b,0,none⟩)]⟩ wd fun (e12:Ending) (w13:World)=>∃ (x14:Option Addr),e12=.returned (.pointer x14)∧(dr (some (⟨b,0,none⟩:Addr)) fun p15=>(Calls prog 132 ⟨[.pointer (some (p15.add 1))]⟩ w13 fun (e16:Ending) (w17:World) =>
   ∃ (x18:List UInt8),e16=.returned (.string ⟨⟨x18⟩⟩)∧(dr x14 fun p19=>(stL w17 (p19.add 0) 0 [.string ⟨⟨x18⟩⟩] fun w20=>K2 w20)∧True))∧True):=by
  refine qfl h' (by omega) fun g w13 hg h13 e13=>⟨_,rfl,dr_ok ⟨?_,trivial⟩⟩
  rw [qg]
  refine str w13 oa _ h13 _ fun w17 b17 o17 c17=>⟨_,rfl,dr_ok ⟨?_,trivial⟩⟩
  exact wr w17 g hg b17 o17 ((cd.trans (.of_ext e13)).trans (c17.mono fun k _ hk=>.inr (.inr hk)))
 have way2:Calls prog 131 ⟨[.pointer (some ⟨b,0,none⟩)]⟩ wd fun (e12:Ending) (w13:World)=>∃ (x14:Option Addr),e12=.returned (.pointer x14)∧((Calls prog 132 ⟨[.pointer (some ((⟨b,0,none⟩:Addr).add 1))]⟩ w13 fun (e16:Ending) (w17:World) =>
   ∃ (x18:List UInt8),e16=.returned (.string ⟨⟨x18⟩⟩)∧(dr x14 fun p19=>(stL w17 (p19.add 0) 0 [.string ⟨⟨x18⟩⟩] fun w20=>K2 w20)∧True))∧True):=by
  refine qfl h' (by omega) fun g w13 hg h13 e13=>⟨_,rfl,?_,trivial⟩
  rw [qg]
  refine str w13 oa _ h13 _ fun w17 b17 o17 c17=>⟨_,rfl,dr_ok ⟨?_,trivial⟩⟩
  exact wr w17 g hg b17 o17 ((cd.trans (.of_ext e13)).trans (c17.mono fun k _ hk=>.inr (.inr hk)))
 exact ⟨way1,⟨way1,dr_ok ⟨way2,⟨way2,trivial⟩,trivial⟩,trivial⟩,trivial⟩
theorem q30 (h:BsAt w b oa wa l s false j v p oc wc) (hk:∀ w',BsAt w' b oa none l [] false j v (.pointer none) oc 0→Chg (fun k=>k=b∨bk oa k∨bk wa k) w w'→R (.returned (.tuple ⟨[]⟩)) w') :
  Calls prog qay ⟨[.pointer (some ⟨b,0,none⟩)]⟩ w R:=by
 apply qdd
 intro K2 hK2
 refine dr_ok ⟨_,h.cells.2.1,?_⟩
 simp only [br_f]
 refine hK2 _ fun _=>dr_ok ?_
 refine h.setOp false fun w5 h5 c5 s5=>dr_ok ?_
 rw [qg]
 refine qy2 h5.blk h5.out fun w' q4 c6=>⟨rfl,?_⟩
 exact hk w' q4 ((c5.mono fun k _ hk=>.inl hk).trans (c6.mono fun k _ hk=>.inl hk))
end
def FnRow (w:World) (B b n t:Nat) (f:Nat→Int):Prop:=∃ L:List Int,OwnL Sh.encI w B 3 (some ⟨b,0,none⟩) n n L∧∀ j,j < t→L[j]? = some (f j)
theorem FnRow.chg {S:Nat→Prop} {w w':World} {B b n t:Nat} {f:Nat→Int} (h:FnRow w B b n t f) (hc:Chg S w w') (hS:¬ S b):FnRow w' B b n t f:=by
 obtain ⟨L,h1,h2⟩:=h
 exact ⟨L,h1.chg hc fun k hk hs=>hS (by simp [bk] at hk;subst hk;exact hs),h2⟩
theorem FnRow.any {w:World} {B b n t:Nat} {f g:Nat→Int} (h:FnRow w B b n t f):FnRow w B b n 0 g:=by
 obtain ⟨L,h1,h2⟩:=h
 exact ⟨L,h1,fun j hj=>by omega⟩
def slV (m:Nat) (r:Nat):Value:=.slice (some ⟨r,0,none⟩) m m
def Mt (w:World) (B bd n m:Nat) (c:Nat→Nat) (t:Nat) (D:Nat→Nat→Int):Prop :=
 ∃ rs:List Nat,rs.length=t∧t≤n∧rs.Nodup∧Blk w bd (rs.map (slV m)++List.replicate (n - t) (.slice none 0 0)) 74∧B≤bd∧∀ (i r:Nat),rs[i]? = some r→r≠bd∧r < w.heap.size∧FnRow w B r m (c i) (D i)
section
variable {w w':World} {B bd n m t:Nat} {c:Nat→Nat} {D:Nat→Nat→Int}
theorem Mt.row (h:Mt w B bd n m c t D) {i:Nat} (hi:i < t) :
  ∃ r,(∀ K:Addr→Prop,(∀ p,w.cell? p=some (.slice (some ⟨r,0,none⟩) m m)→K p)→idx (some ⟨bd,0,none⟩) n (i:Int) 1 K)∧FnRow w B r m (c i) (D i) ∧
   ∀ (w':World) (k:Nat),FnRow w' B r m k (D i)→Chg (fun j=>j=r) w w'→Mt w' B bd n m (fun j=>if j=i then k else c j) t D:=by
 obtain ⟨rs,h1,h2,h3,h4,h5,h6⟩:=h
 have hr:rs[i]? = some rs[i]:=List.getElem?_eq_getElem (by omega)
 obtain ⟨g1,g1',g2⟩:=h6 i _ hr
 refine ⟨rs[i],fun K hK=>⟨by omega,by omega,?_⟩,g2,fun w' k hk hc=>?_⟩
 ·refine dr_ok (hK _ ?_)
  rw [qg,h4.cell,List.getElem?_append_left (by simp;omega)]
  simp [slV]
 ·have:=hc.size
  refine ⟨rs,h1,h2,h3,hc.blk h4 (fun e=>g1 e.symm),h5,fun j r hj=>⟨(h6 j r hj).1,by have:=(h6 j r hj).2.1;omega,?_⟩⟩
  by_cases hji:j=i
  ·subst hji
   dsimp only
   rw [if_pos rfl]
   rw [hr] at hj
   cases hj;exact hk
  ·dsimp only
   rw [if_neg hji]
   refine (h6 j r hj).2.2.chg hc fun e=>hji ?_
   have hjl:=(List.getElem?_eq_some_iff.1 hj).1
   have:rs[j]=rs[i]:=by have:=(List.getElem?_eq_some_iff.1 hj).2;rw [this,e]
   rcases Nat.lt_trichotomy j i with hlt | he' | hlt
   ·exact absurd this (List.pairwise_iff_getElem.1 h3 j i hjl (by omega) hlt)
   ·exact he'
   ·exact absurd this.symm (List.pairwise_iff_getElem.1 h3 i j (by omega) hjl hlt)
end
theorem b2s_intro {w:World} {B:Nat} {a:Option Addr} {n c:Nat} {l:List UInt8} {K:List UInt8→Prop} (h:Owns w B 5 1 a n c (Lib.byteCells l)) (hK:K l):b2s prog w a n c K:=by
 have hl:l.length=n:=by have:=h.1;simpa [Lib.byteCells] using this
 refine ⟨l,?_,hK⟩
 by_cases hn:0 < n
 ·obtain ⟨g,rfl,_,hc⟩:=h.cell hn
  have:=run_convert_bytes_back (P:=prog) w 114 9 5 ⟨g,0,none⟩ c l (by kernel_rfl) (by kernel_rfl) (by kernel_rfl) (fun j hj=>by rw [qg,Nat.zero_add];exact hc j _ (by simp [Lib.byteCells,hj]))
  rw [run_convert_bytes_string w 114 9 5 _ _ _ (by kernel_rfl) (by kernel_rfl) (by kernel_rfl),hl] at this
  exact this
 ·have hl0:l=[]:=List.eq_nil_of_length_eq_zero (by omega)
  subst hl0
  obtain rfl:n=0:=by omega
  cases a with
  | none=>simp [Conv.bytesToString];rfl
  | some p =>
   have:=run_convert_bytes_back (P:=prog) w 114 9 5 p c [] (by kernel_rfl) (by kernel_rfl) (by kernel_rfl) (fun j hj=>by simp at hj)
   rw [run_convert_bytes_string w 114 9 5 _ _ _ (by kernel_rfl) (by kernel_rfl) (by kernel_rfl)] at this
   exact this
end Go.Proofs
