/- Proved: whatever the input, WitnessPositions returns true, and the input reads as it did. No condition stands ahead of it. -/
import Derived.Test.YtkecgnlelgdndaaGreatDoorLawK
import Derived.Test.YtkecgnlelgdndaaGreatDoorCards
import Derived.Test.YtkecgnlelgdndaaGreatDoorTie
import Derived.Deep.DeepHandedRow
import Derived.Lib.LaidTab
import Derived.WalkKit
import Derived.Lib.SmallJoins
import Derived.ProofKit
import Derived.ChangeMaps5
set_option linter.all false
set_option maxRecDepth 100000
namespace Go.Proofs.YtkecgnlelgdndaaGreatDoor
open Go Go.Sh Go.RowKit Go.ChangeShapes Go.WideShapes Go.ChangeAt Go.Proofs.Tryz IntKind
namespace WitnessPositions
theorem rec_u8:Tryz.prog.readableRec 5=true∧5 < Tryz.prog.types.size:=⟨by kernel_rfl,of_decide_eq_true (by kernel_rfl)⟩
theorem rec_wit:Tryz.prog.readableRec 45=true∧45 < Tryz.prog.types.size:=⟨by kernel_rfl,of_decide_eq_true (by kernel_rfl)⟩
theorem contract (H:Type) (enc:TypeId × Value→H) (W:World) (base:Nat) (args:Array Value) (ds gs:List (DataW H)) (before:List MemPlace)
  (hval:∀ (j:Nat) t v,Tryz.f10.params[j]? = some t→args[j]? = some v→Value.okWide prog W .any base t v)
  (hW:DataW.Whole enc prog Tryz.f10.params.toList Rows.witnessPositionsSpec.vars false W args.toList ds gs before) (hL:laidMetH prog Rows.witnessPositionsRow.laid W) (hSh:W.ShapedOpen prog) :
  Calls prog 10 args W fun e W'=>∃ v,e=.returned v∧Rows.witnessPositionsSpec.post enc prog Tryz.f10 false true false false W args v W':=by
 have hW':=hW
 obtain ⟨p,q,hA0,hV,rfl,hfz,hnd⟩:=hW
 have hA:DataW.TrodAll enc prog W 0 (fun _=>true) true Tryz.f10.params.toList args.toList ds p:=hA0
 rw [Tryz.params10] at hA hval
 obtain ⟨v0,vs0,d0,ds0,p0,q0,hargs,rfl,rfl,h0,r0⟩:=trodAll_cons hA
 obtain ⟨v1,vs1,d1,ds1,p1,q1,rfl,rfl,rfl,h1,r1⟩:=trodAll_cons r0
 obtain ⟨rfl,rfl,rfl⟩:=trodAll_nil r1
 obtain rfl:args=#[v0,v1]:=by cases args;simp_all
 obtain ⟨rfl,rfl⟩:=trodVars_none hV
 obtain ⟨c0a,c0b,y0a,y0b,m0p,rfl,rfl,rfl,hy0a,hy0b⟩:=Go.Joins.open_agg2 Tryz.underlying45 (by kernel_rfl) (by kernel_rfl) (hval 0 45 v0 rfl rfl) h0
 obtain ⟨t0,e0a,_,_⟩:=DataW.trod_string Tryz.underlying9 hy0a
 obtain ⟨a0,n0,c0,f0,e0b,hsl0⟩:=open_nodes _ _ _ hy0b
 obtain rfl:n0=f0.len:=hsl0.1
 simp at e0a e0b
 subst e0a e0b
 obtain ⟨x1,rfl,rfl,rfl,wf1⟩:=open_int (k:=.u8) Tryz.underlying5 (hval 1 5 v1 rfl rfl) h1
 have hx1:0≤x1∧x1 < 256:=u8_wf wf1
 refine (Go.Proofs.WitnessPositions_spec (t0.data.toList,f0) x1 hx1 (forms_of (Go.Lib.laidMet.reads (show laidMet prog Rows.witnessPositionsRow.laid W from hL) (.tail _ (.tail _ (.tail _ (.tail _ (.tail _ (.tail _ (.head _))))))))) (mk_of (Go.Lib.laidMet.reads (show laidMet prog Rows.witnessPositionsRow.laid W from hL) (.tail _ (.tail _ (.tail _ (.tail _ (.tail _ (.head _))))))) (Go.Lib.laidMet.reads (show laidMet prog Rows.witnessPositionsRow.laid W from hL) (.tail _ (.tail _ (.tail _ (.tail _ (.head _)))))) hSh) hsl0 fun w' he=>?_)
 exact ⟨_,rfl,post_ext laidOut (by rw [Tryz.params10];intro t ht;simp only [List.mem_cons,List.not_mem_nil,or_false] at ht;rcases ht with rfl | rfl <;> first | exact rec_u8 | exact rec_wit) (by kernel_rfl) Tryz.underlying4 rfl hW' rfl he⟩
noncomputable def laidWorld (os:Os):World:=laidWorldOf Rows.witnessPositionsRow.laid os
theorem laid_met (os:Os):laidMet prog Rows.witnessPositionsRow.laid ((laidWorld os).forCall (fun _ _=>0) ⟨#[],#[.agg #[.string ⟨⟨[]⟩⟩,.slice none 0 0],.int .u8 0],[]⟩).memory :=
 laidMet_of_run' 8 (by kernel_rfl) (by kernel_rfl)
theorem reads (os:Os) {H:Type} (enc:TypeId × Value→H):∃ places,DataW.whole enc prog ((laidWorld os).forCall (fun _ _=>0) ⟨#[],#[.agg #[.string ⟨⟨[]⟩⟩,.slice none 0 0],.int .u8 0],[]⟩).memory Tryz.f10.params.toList Rows.witnessPositionsSpec.vars false (#[.agg #[.string ⟨⟨[]⟩⟩,.slice none 0 0],.int .u8 0]:Array Value).toList 8=some ([.agg [.lit (.string []),.nil],.lit (.int .u8 0)],[],places) :=
 ⟨[],by kernel_rfl⟩
theorem lifted (os:Os) (started:os.Started) (H:Type) (enc:TypeId × Value→H) (F:Stop.Interp) :
  ReturnsInHanded {} Tryz.checked os 10 .any ((OpenSpec.ofChange Rows.witnessPositionsSpec).preRow enc prog Tryz.f10 Rows.witnessPositionsRow.domain false Rows.witnessPositionsRow.laid) (((OpenSpec.ofChange Rows.witnessPositionsSpec).at F).post enc prog Tryz.f10 false true false false):=by
 obtain ⟨places,hx⟩:=reads os enc
 refine returnsInHanded_of_row (C:=Tryz.checked) (s:=OpenSpec.ofChange Rows.witnessPositionsSpec) own started (by kernel_rfl) Tryz.func10
  (witness_row_at (enc:=enc) (C:=Tryz.checked) false (laidWorld os) #[.agg #[.string ⟨⟨[]⟩⟩,.slice none 0 0],.int .u8 0] rfl (by kernel_rfl) (by kernel_rfl) (by kernel_rfl)
   (OpenSpec.preRow_of_cond 8 hx (by kernel_rfl) (fun k hk=>by cases hk) (by kernel_rfl) (laid_met os))) ?_
 intro W base args ds gs before hval hW _ _ hZ hL hSh _
 exact contract H enc W base args ds gs before hval hW hL hSh
end WitnessPositions
end Go.Proofs.YtkecgnlelgdndaaGreatDoor
