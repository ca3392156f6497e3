/- Proved: whatever the input, WitnessParts returns true, and the input reads as it did. No condition stands ahead of it. -/
import Derived.Test.YtkecgnlelgdndaaGreatDoorLawJ
import Derived.Test.YtkecgnlelgdndaaGreatDoorCards
import Derived.Test.YtkecgnlelgdndaaGreatDoorTie
import Derived.Deep.DeepHandedRow
import Derived.Lib.LaidTab
import Derived.WalkKit
import Derived.Lib.SmallJoins
import Derived.ProofKit
import Derived.ChangeMaps5
set_option linter.all false
set_option maxRecDepth 100000
namespace Go.Proofs.YtkecgnlelgdndaaGreatDoor
open Go Go.Sh Go.RowKit Go.ChangeShapes Go.WideShapes Go.ChangeAt Go.Proofs.Tryz IntKind
namespace WitnessParts
theorem rec_int:Tryz.prog.readableRec 3=true∧3 < Tryz.prog.types.size:=⟨by kernel_rfl,of_decide_eq_true (by kernel_rfl)⟩
theorem rec_srcs:Tryz.prog.readableRec 27=true∧27 < Tryz.prog.types.size:=⟨by kernel_rfl,of_decide_eq_true (by kernel_rfl)⟩
theorem rec_str:Tryz.prog.readableRec 9=true∧9 < Tryz.prog.types.size:=⟨by kernel_rfl,of_decide_eq_true (by kernel_rfl)⟩
theorem rec_wit:Tryz.prog.readableRec 45=true∧45 < Tryz.prog.types.size:=⟨by kernel_rfl,of_decide_eq_true (by kernel_rfl)⟩
theorem contract (H:Type) (enc:TypeId × Value→H) (W:World) (base:Nat) (args:Array Value) (ds gs:List (DataW H)) (before:List MemPlace)
  (hval:∀ (j:Nat) t v,Tryz.f7.params[j]? = some t→args[j]? = some v→Value.okWide prog W .any base t v)
  (hW:DataW.Whole enc prog Tryz.f7.params.toList Rows.witnessPartsSpec.vars false W args.toList ds gs before) (hL:laidMetH prog Rows.witnessPartsRow.laid W) (hSh:W.ShapedOpen prog) :
  Calls prog 7 args W fun e W'=>∃ v,e=.returned v∧Rows.witnessPartsSpec.post enc prog Tryz.f7 false true false false W args v W':=by
 have hW':=hW
 obtain ⟨p,q,hA0,hV,rfl,hfz,hnd⟩:=hW
 have hA:DataW.TrodAll enc prog W 0 (fun _=>true) true Tryz.f7.params.toList args.toList ds p:=hA0
 rw [Tryz.params7] at hA hval
 obtain ⟨v0,vs0,d0,ds0,p0,q0,hargs,rfl,rfl,h0,r0⟩:=trodAll_cons hA
 obtain ⟨v1,vs1,d1,ds1,p1,q1,rfl,rfl,rfl,h1,r1⟩:=trodAll_cons r0
 obtain ⟨v2,vs2,d2,ds2,p2,q2,rfl,rfl,rfl,h2,r2⟩:=trodAll_cons r1
 obtain ⟨v3,vs3,d3,ds3,p3,q3,rfl,rfl,rfl,h3,r3⟩:=trodAll_cons r2
 obtain ⟨v4,vs4,d4,ds4,p4,q4,rfl,rfl,rfl,h4,r4⟩:=trodAll_cons r3
 obtain ⟨rfl,rfl,rfl⟩:=trodAll_nil r4
 obtain rfl:args=#[v0,v1,v2,v3,v4]:=by cases args;simp_all
 obtain ⟨rfl,rfl⟩:=trodVars_none hV
 obtain ⟨c0a,c0b,y0a,y0b,m0p,rfl,rfl,rfl,hy0a,hy0b⟩:=Go.Joins.open_agg2 Tryz.underlying45 (by kernel_rfl) (by kernel_rfl) (hval 0 45 v0 rfl rfl) h0
 obtain ⟨t0,e0a,_,_⟩:=DataW.trod_string Tryz.underlying9 hy0a
 obtain ⟨a0,n0,c0,f0,e0b,hsl0⟩:=open_nodes _ _ _ hy0b
 obtain rfl:n0=f0.len:=hsl0.1
 simp at e0a e0b
 subst e0a e0b
 obtain ⟨t1,rfl,rfl,rfl,ws1⟩:=ChangeMaps.open_string Tryz.underlying9 (hval 1 9 v1 rfl rfl) h1
 obtain ⟨x2,rfl,rfl,rfl,wf2⟩:=open_int (k:=.i64) Tryz.underlying3 (hval 2 3 v2 rfl rfl) h2
 obtain ⟨fuel3,hf3⟩:=h3
 obtain ⟨a3,n3,c3,L3,hc3,hsl3⟩:=open_srcs fuel3 _ _ hf3
 obtain ⟨t4,rfl,rfl,rfl,ws4⟩:=ChangeMaps.open_string Tryz.underlying9 (hval 4 9 v4 rfl rfl) h4
 obtain ⟨b3,m3,e3,rfl⟩:=okWide_slice Tryz.underlying27 (hval 3 27 v3 rfl rfl)
 obtain ⟨rfl,rfl,rfl⟩:b3=a3∧m3=n3∧e3=c3:=by simpa [Value.cells] using hc3
 refine (Go.Proofs.WitnessParts_spec (t0.data.toList,f0) t1.data.toList x2 L3 t4.data.toList  (forms_of (Go.Lib.laidMet.reads (show laidMet prog Rows.witnessPartsRow.laid W from hL) (.tail _ (.tail _ (.tail _ (.tail _ (.tail _ (.tail _ (.head _))))))))) (mk_of (Go.Lib.laidMet.reads (show laidMet prog Rows.witnessPartsRow.laid W from hL) (.tail _ (.tail _ (.tail _ (.tail _ (.tail _ (.head _))))))) (Go.Lib.laidMet.reads (show laidMet prog Rows.witnessPartsRow.laid W from hL) (.tail _ (.tail _ (.tail _ (.tail _ (.head _)))))) hSh) hsl0 hsl3 fun w' he=>?_)
 exact ⟨_,rfl,post_ext laidOut (by rw [Tryz.params7];intro t ht;simp only [List.mem_cons,List.not_mem_nil,or_false] at ht;rcases ht with rfl | rfl | rfl | rfl | rfl <;> first | exact rec_int | exact rec_srcs | exact rec_str | exact rec_wit) (by kernel_rfl) Tryz.underlying4 rfl hW' rfl he⟩
noncomputable def laidWorld (os:Os):World:=q8y Rows.witnessPartsRow.laid os
theorem laid_met (os:Os):laidMet prog Rows.witnessPartsRow.laid ((laidWorld os).forCall (fun _ _=>0) ⟨#[],#[.agg #[.string ⟨⟨[]⟩⟩,.slice none 0 0],.string ⟨⟨[]⟩⟩,.int .i64 0,.slice none 0 0,.string ⟨⟨[]⟩⟩],[]⟩).memory :=
 laidMet_of_run' 8 (by kernel_rfl) (by kernel_rfl)
theorem reads (os:Os) {H:Type} (enc:TypeId × Value→H):∃ places,DataW.whole enc prog ((laidWorld os).forCall (fun _ _=>0) ⟨#[],#[.agg #[.string ⟨⟨[]⟩⟩,.slice none 0 0],.string ⟨⟨[]⟩⟩,.int .i64 0,.slice none 0 0,.string ⟨⟨[]⟩⟩],[]⟩).memory Tryz.f7.params.toList Rows.witnessPartsSpec.vars false (#[.agg #[.string ⟨⟨[]⟩⟩,.slice none 0 0],.string ⟨⟨[]⟩⟩,.int .i64 0,.slice none 0 0,.string ⟨⟨[]⟩⟩]:Array Value).toList 8=some ([.agg [.lit (.string []),.nil],.lit (.string []),.lit (.int .i64 0),.nil,.lit (.string [])],[],places) :=
 ⟨[],by kernel_rfl⟩
theorem lifted (os:Os) (started:os.Started) (H:Type) (enc:TypeId × Value→H) (F:Stop.Interp) :
  ReturnsInHanded {} Tryz.checked os 7 .any ((OpenSpec.ofChange Rows.witnessPartsSpec).preRow enc prog Tryz.f7 Rows.witnessPartsRow.domain false Rows.witnessPartsRow.laid) (((OpenSpec.ofChange Rows.witnessPartsSpec).at F).post enc prog Tryz.f7 false true false false):=by
 obtain ⟨places,hx⟩:=reads os enc
 refine returnsInHanded_of_row (C:=Tryz.checked) (s:=OpenSpec.ofChange Rows.witnessPartsSpec) own started (by kernel_rfl) Tryz.func7
  (witness_row_at (enc:=enc) (C:=Tryz.checked) false (laidWorld os) #[.agg #[.string ⟨⟨[]⟩⟩,.slice none 0 0],.string ⟨⟨[]⟩⟩,.int .i64 0,.slice none 0 0,.string ⟨⟨[]⟩⟩] rfl (by kernel_rfl) (by kernel_rfl) (by kernel_rfl)
   (OpenSpec.preRow_of_cond 8 hx (by kernel_rfl) (fun k hk=>by cases hk) (by kernel_rfl) (laid_met os))) ?_
 intro W base args ds gs before hval hW _ _ hZ hL hSh _
 exact contract H enc W base args ds gs before hval hW hL hSh
end WitnessParts
end Go.Proofs.YtkecgnlelgdndaaGreatDoor
