/- Proved: whatever the input, WitnessTokens returns true, and the input reads as it did. No condition stands ahead of it. -/
import Derived.Test.YtkecgnlelgdndaaGreatDoorLawK
import Derived.Test.YtkecgnlelgdndaaGreatDoorCards
import Derived.Test.YtkecgnlelgdndaaGreatDoorTie
import Derived.Deep.DeepHandedRow
import Derived.Lib.LaidTab
import Derived.WalkKit
import Derived.ProofKit
import Derived.ChangeMaps5
set_option linter.all false
set_option maxRecDepth 100000
namespace Go.Proofs.YtkecgnlelgdndaaGreatDoor
open Go Go.Sh Go.RowKit Go.ChangeShapes Go.WideShapes Go.ChangeAt Go.Proofs.Tryz IntKind
namespace WitnessTokens
theorem rec_rws:Tryz.prog.readableRec 23=true∧23 < Tryz.prog.types.size:=⟨by kernel_rfl,of_decide_eq_true (by kernel_rfl)⟩
theorem rec_str:Tryz.prog.readableRec 9=true∧9 < Tryz.prog.types.size:=⟨by kernel_rfl,of_decide_eq_true (by kernel_rfl)⟩
theorem rec_wits:Tryz.prog.readableRec 22=true∧22 < Tryz.prog.types.size:=⟨by kernel_rfl,of_decide_eq_true (by kernel_rfl)⟩
theorem contract (H:Type) (enc:TypeId × Value→H) (W:World) (base:Nat) (args:Array Value) (ds gs:List (DataW H)) (before:List MemPlace)
  (hval:∀ (j:Nat) t v,Tryz.f6.params[j]? = some t→args[j]? = some v→Value.okWide prog W .any base t v)
  (hW:DataW.Whole enc prog Tryz.f6.params.toList Rows.witnessTokensSpec.vars false W args.toList ds gs before) (hL:laidMetH prog Rows.witnessTokensRow.laid W) (hSh:W.ShapedOpen prog) :
  Calls prog 6 args W fun e W'=>∃ v,e=.returned v∧Rows.witnessTokensSpec.post enc prog Tryz.f6 false true false false W args v W':=by
 have hW':=hW
 obtain ⟨p,q,hA0,hV,rfl,hfz,hnd⟩:=hW
 have hA:DataW.TrodAll enc prog W 0 (fun _=>true) true Tryz.f6.params.toList args.toList ds p:=hA0
 rw [Tryz.params6] at hA hval
 obtain ⟨v0,vs0,d0,ds0,p0,q0,hargs,rfl,rfl,h0,r0⟩:=trodAll_cons hA
 obtain ⟨v1,vs1,d1,ds1,p1,q1,rfl,rfl,rfl,h1,r1⟩:=trodAll_cons r0
 obtain ⟨v2,vs2,d2,ds2,p2,q2,rfl,rfl,rfl,h2,r2⟩:=trodAll_cons r1
 obtain ⟨rfl,rfl,rfl⟩:=trodAll_nil r2
 obtain rfl:args=#[v0,v1,v2]:=by cases args;simp_all
 obtain ⟨rfl,rfl⟩:=trodVars_none hV
 obtain ⟨fuel0,hf0⟩:=h0
 obtain ⟨a0,n0,c0,L0,hc0,hsl0⟩:=qyr fuel0 _ _ hf0
 obtain ⟨fuel1,hf1⟩:=h1
 obtain ⟨a1,n1,c1,L1,hc1,hsl1⟩:=open_rws fuel1 _ _ hf1
 obtain ⟨t2,rfl,rfl,rfl,ws2⟩:=ChangeMaps.open_string Tryz.underlying9 (hval 2 9 v2 rfl rfl) h2
 obtain ⟨b0,m0,e0,rfl⟩:=okWide_slice Tryz.underlying22 (hval 0 22 v0 rfl rfl)
 obtain ⟨rfl,rfl,rfl⟩:b0=a0∧m0=n0∧e0=c0:=by simpa [Value.cells] using hc0
 obtain ⟨b1,m1,e1,rfl⟩:=okWide_slice Tryz.underlying23 (hval 1 23 v1 rfl rfl)
 obtain ⟨rfl,rfl,rfl⟩:b1=a1∧m1=n1∧e1=c1:=by simpa [Value.cells] using hc1
 refine (Go.Proofs.WitnessTokens_spec L0 L1 t2.data.toList  (qra (Go.Lib.laidMet.reads (show laidMet prog Rows.witnessTokensRow.laid W from hL) (.tail _ (.tail _ (.tail _ (.tail _ (.tail _ (.tail _ (.head _))))))))) (mk_of (Go.Lib.laidMet.reads (show laidMet prog Rows.witnessTokensRow.laid W from hL) (.tail _ (.tail _ (.tail _ (.tail _ (.tail _ (.head _))))))) (Go.Lib.laidMet.reads (show laidMet prog Rows.witnessTokensRow.laid W from hL) (.tail _ (.tail _ (.tail _ (.tail _ (.head _)))))) hSh) hsl0 hsl1 fun w' he=>?_)
 exact ⟨_,rfl,qqv qy4 (by rw [Tryz.params6];intro t ht;simp only [List.mem_cons,List.not_mem_nil,or_false] at ht;rcases ht with rfl | rfl | rfl <;> first | exact rec_rws | exact rec_str | exact rec_wits) (by kernel_rfl) Tryz.underlying4 rfl hW' rfl he⟩
noncomputable def laidWorld (os:Os):World:=qgw Rows.witnessTokensRow.laid os
theorem laid_met (os:Os):laidMet prog Rows.witnessTokensRow.laid ((laidWorld os).forCall (fun _ _=>0) ⟨#[],#[.slice none 0 0,.slice none 0 0,.string ⟨⟨[]⟩⟩],[]⟩).memory :=
 laidMet_of_run' 8 (by kernel_rfl) (by kernel_rfl)
theorem reads (os:Os) {H:Type} (enc:TypeId × Value→H):∃ places,DataW.whole enc prog ((laidWorld os).forCall (fun _ _=>0) ⟨#[],#[.slice none 0 0,.slice none 0 0,.string ⟨⟨[]⟩⟩],[]⟩).memory Tryz.f6.params.toList Rows.witnessTokensSpec.vars false (#[.slice none 0 0,.slice none 0 0,.string ⟨⟨[]⟩⟩]:Array Value).toList 8=some ([.nil,.nil,.lit (.string [])],[],places) :=
 ⟨[],by kernel_rfl⟩
theorem lifted (os:Os) (started:os.Started) (H:Type) (enc:TypeId × Value→H) (F:Stop.Interp) :
  ReturnsInHanded {} Tryz.checked os 6 .any ((OpenSpec.ofChange Rows.witnessTokensSpec).preRow enc prog Tryz.f6 Rows.witnessTokensRow.domain false Rows.witnessTokensRow.laid) (((OpenSpec.ofChange Rows.witnessTokensSpec).at F).post enc prog Tryz.f6 false true false false):=by
 obtain ⟨places,hx⟩:=reads os enc
 refine returnsInHanded_of_row (C:=Tryz.checked) (s:=OpenSpec.ofChange Rows.witnessTokensSpec) own started (by kernel_rfl) Tryz.func6
  (witness_row_at (enc:=enc) (C:=Tryz.checked) false (laidWorld os) #[.slice none 0 0,.slice none 0 0,.string ⟨⟨[]⟩⟩] rfl (by kernel_rfl) (by kernel_rfl) (by kernel_rfl)
   (OpenSpec.preRow_of_cond 8 hx (by kernel_rfl) (fun k hk=>by cases hk) (by kernel_rfl) (laid_met os))) ?_
 intro W base args ds gs before hval hW _ _ hZ hL hSh _
 exact contract H enc W base args ds gs before hval hW hL hSh
end WitnessTokens
end Go.Proofs.YtkecgnlelgdndaaGreatDoor
