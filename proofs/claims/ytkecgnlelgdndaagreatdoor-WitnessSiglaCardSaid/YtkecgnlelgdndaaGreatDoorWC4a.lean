/- Proved: whatever the input, WitnessSigla returns true, and the input reads as it did. No condition stands ahead of it. -/
import Derived.Test.YtkecgnlelgdndaaGreatDoorLawK
import Derived.Test.YtkecgnlelgdndaaGreatDoorCards
import Derived.Test.YtkecgnlelgdndaaGreatDoorTie
import Derived.Deep.DeepHandedRow
import Derived.Lib.LaidTab
import Derived.WalkKit
import Derived.ProofKit
import Derived.ChangeMaps5
set_option linter.all false
set_option maxRecDepth 100000
namespace Go.Proofs.YtkecgnlelgdndaaGreatDoor
open Go Go.Sh Go.RowKit Go.ChangeShapes Go.WideShapes Go.ChangeAt Go.Proofs.Tryz IntKind
namespace WitnessSigla
theorem rec_wits:Tryz.prog.readableRec 22=true∧22 < Tryz.prog.types.size:=⟨by kernel_rfl,of_decide_eq_true (by kernel_rfl)⟩
theorem contract (H:Type) (enc:TypeId × Value→H) (W:World) (base:Nat) (args:Array Value) (ds gs:List (DataW H)) (before:List MemPlace)
  (hval:∀ (j:Nat) t v,Tryz.f8.params[j]? = some t→args[j]? = some v→Value.okWide prog W .any base t v)
  (hW:DataW.Whole enc prog Tryz.f8.params.toList Rows.witnessSiglaSpec.vars false W args.toList ds gs before) (hL:laidMetH prog Rows.witnessSiglaRow.laid W) (hSh:W.ShapedOpen prog) :
  Calls prog 8 args W fun e W'=>∃ v,e=.returned v∧Rows.witnessSiglaSpec.post enc prog Tryz.f8 false true false false W args v W':=by
 have hW':=hW
 obtain ⟨p,q,hA0,hV,rfl,hfz,hnd⟩:=hW
 have hA:DataW.TrodAll enc prog W 0 (fun _=>true) true Tryz.f8.params.toList args.toList ds p:=hA0
 rw [Tryz.params8] at hA hval
 obtain ⟨v0,vs0,d0,ds0,p0,q0,hargs,rfl,rfl,h0,r0⟩:=trodAll_cons hA
 obtain ⟨rfl,rfl,rfl⟩:=trodAll_nil r0
 obtain rfl:args=#[v0]:=by cases args;simp_all
 obtain ⟨rfl,rfl⟩:=trodVars_none hV
 obtain ⟨fuel0,hf0⟩:=h0
 obtain ⟨a0,n0,c0,L0,hc0,hsl0⟩:=qyr fuel0 _ _ hf0
 obtain ⟨b0,m0,e0,rfl⟩:=okWide_slice Tryz.underlying22 (hval 0 22 v0 rfl rfl)
 obtain ⟨rfl,rfl,rfl⟩:b0=a0∧m0=n0∧e0=c0:=by simpa [Value.cells] using hc0
 refine (Go.Proofs.WitnessSigla_spec L0  (qra (Go.Lib.laidMet.reads (show laidMet prog Rows.witnessSiglaRow.laid W from hL) (.tail _ (.tail _ (.tail _ (.tail _ (.tail _ (.tail _ (.head _))))))))) (mk_of (Go.Lib.laidMet.reads (show laidMet prog Rows.witnessSiglaRow.laid W from hL) (.tail _ (.tail _ (.tail _ (.tail _ (.tail _ (.head _))))))) (Go.Lib.laidMet.reads (show laidMet prog Rows.witnessSiglaRow.laid W from hL) (.tail _ (.tail _ (.tail _ (.tail _ (.head _)))))) hSh) hsl0 fun w' he=>?_)
 exact ⟨_,rfl,qqv qy4 (by rw [Tryz.params8];intro t ht;simp only [List.mem_cons,List.not_mem_nil,or_false] at ht;subst ht;first | exact rec_wits) (by kernel_rfl) Tryz.underlying4 rfl hW' rfl he⟩
noncomputable def laidWorld (os:Os):World:=qgw Rows.witnessSiglaRow.laid os
theorem laid_met (os:Os):laidMet prog Rows.witnessSiglaRow.laid ((laidWorld os).forCall (fun _ _=>0) ⟨#[],#[.slice none 0 0],[]⟩).memory :=
 laidMet_of_run' 8 (by kernel_rfl) (by kernel_rfl)
theorem reads (os:Os) {H:Type} (enc:TypeId × Value→H):∃ places,DataW.whole enc prog ((laidWorld os).forCall (fun _ _=>0) ⟨#[],#[.slice none 0 0],[]⟩).memory Tryz.f8.params.toList Rows.witnessSiglaSpec.vars false (#[.slice none 0 0]:Array Value).toList 8=some ([.nil],[],places) :=
 ⟨[],by kernel_rfl⟩
theorem lifted (os:Os) (started:os.Started) (H:Type) (enc:TypeId × Value→H) (F:Stop.Interp) :
  ReturnsInHanded {} Tryz.checked os 8 .any ((OpenSpec.ofChange Rows.witnessSiglaSpec).preRow enc prog Tryz.f8 Rows.witnessSiglaRow.domain false Rows.witnessSiglaRow.laid) (((OpenSpec.ofChange Rows.witnessSiglaSpec).at F).post enc prog Tryz.f8 false true false false):=by
 obtain ⟨places,hx⟩:=reads os enc
 refine returnsInHanded_of_row (C:=Tryz.checked) (s:=OpenSpec.ofChange Rows.witnessSiglaSpec) own started (by kernel_rfl) Tryz.func8
  (witness_row_at (enc:=enc) (C:=Tryz.checked) false (laidWorld os) #[.slice none 0 0] rfl (by kernel_rfl) (by kernel_rfl) (by kernel_rfl)
   (OpenSpec.preRow_of_cond 8 hx (by kernel_rfl) (fun k hk=>by cases hk) (by kernel_rfl) (laid_met os))) ?_
 intro W base args ds gs before hval hW _ _ hZ hL hSh _
 exact contract H enc W base args ds gs before hval hW hL hSh
end WitnessSigla
end Go.Proofs.YtkecgnlelgdndaaGreatDoor
