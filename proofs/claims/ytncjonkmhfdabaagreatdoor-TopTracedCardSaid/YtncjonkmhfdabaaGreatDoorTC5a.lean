/- Proved: whatever the input, TopTraced returns true, and the input reads as it did. No condition stands ahead of it. -/
import Derived.Test.YtncjonkmhfdabaaGreatDoorLawI
import Derived.JoinedCond
set_option linter.all false
set_option maxRecDepth 20000
namespace Go.Proofs.YtncjonkmhfdabaaGreatDoor
open Go Go.Sh Go.RowKit Go.ChangeShapes Go.WideShapes Go.ChangeAt Go.Proofs.Tryz IntKind
namespace TopTraced
theorem k3:Tryz.prog.cellsOf 3=1:=by kernel_rfl
theorem k9:Tryz.prog.cellsOf 9=1:=by kernel_rfl
theorem k23:Tryz.prog.cellsOf 23=1:=by kernel_rfl
theorem k40:Tryz.prog.cellsOf 40=1:=by kernel_rfl
theorem k59:Tryz.prog.cellsOf 59=1:=by kernel_rfl
theorem k60:Tryz.prog.cellsOf 60=1:=by kernel_rfl
theorem k62:Tryz.prog.cellsOf 62=4:=by kernel_rfl
theorem k68:Tryz.prog.cellsOf 68=4:=by kernel_rfl
theorem k112:Tryz.prog.cellsOf 112=1:=by kernel_rfl
theorem k115:Tryz.prog.cellsOf 115=2:=by kernel_rfl
theorem k117:Tryz.prog.cellsOf 117=6:=by kernel_rfl
theorem b3:0 < Tryz.prog.bytesOf 3:=of_decide_eq_true (by kernel_rfl)
theorem b9:0 < Tryz.prog.bytesOf 9:=of_decide_eq_true (by kernel_rfl)
theorem b40:0 < Tryz.prog.bytesOf 40:=of_decide_eq_true (by kernel_rfl)
theorem b68:0 < Tryz.prog.bytesOf 68:=of_decide_eq_true (by kernel_rfl)
theorem b112:0 < Tryz.prog.bytesOf 112:=of_decide_eq_true (by kernel_rfl)
theorem b117:0 < Tryz.prog.bytesOf 117:=of_decide_eq_true (by kernel_rfl)
section
variable {H:Type} {enc:TypeId × Value→H} {w:World} {base:Nat} {sp:Nat→Bool} {hd:Bool}
theorem el_dc:∀ (n:Nat) (cs:List Value) (y:DataW H × List MemPlace),(∀ m∈y.1.weights prog 68,m≤reachBytes)→cs.length=Tryz.prog.cellsOf 68→DataW.trod enc prog w base sp hd n 68 cs=some y→∃ x:Dc,True∧vDc.C (fun _=>True) w x cs:=by
 intro m cs y hz hl h
 obtain ⟨xs,n,rfl,rfl,_,hxl,hf⟩:=DataW.trod_struct Tryz.underlying68 h
 rw [k68] at hl
 obtain ⟨v0,v1,v2,v3,rfl⟩:=l4 hl
 obtain ⟨y0,y1,y2,y3,rfl⟩:=l4 (show xs.length=4 from hxl)
 have g0:DataW.trod enc prog w base sp hd n 3 (([v0,v1,v2,v3].drop 0).take (Tryz.prog.cellsOf 3))=some y0:=hf 0 _ rfl
 have g1:DataW.trod enc prog w base sp hd n 9 (([v0,v1,v2,v3].drop 1).take (Tryz.prog.cellsOf 9))=some y1:=hf 1 _ rfl
 have g2:DataW.trod enc prog w base sp hd n 3 (([v0,v1,v2,v3].drop 2).take (Tryz.prog.cellsOf 3))=some y2:=hf 2 _ rfl
 have g3:DataW.trod enc prog w base sp hd n 9 (([v0,v1,v2,v3].drop 3).take (Tryz.prog.cellsOf 9))=some y3:=hf 3 _ rfl
 rw [k3] at g0 g2
 rw [k9] at g1 g3
 obtain ⟨t0,e0,_⟩:=DataW.trod_int Tryz.underlying3 g0
 obtain ⟨t1,e1,_,_⟩:=DataW.trod_string Tryz.underlying9 g1
 obtain ⟨t2,e2,_⟩:=DataW.trod_int Tryz.underlying3 g2
 obtain ⟨t3,e3,_,_⟩:=DataW.trod_string Tryz.underlying9 g3
 simp at e0 e1 e2 e3
 subst e0 e1 e2 e3
 exact ⟨⟨t0,t1.data.toList,t2,t3.data.toList⟩,trivial,rfl⟩
theorem el_tk:∀ (n:Nat) (cs:List Value) (y:DataW H × List MemPlace),(∀ m∈y.1.weights prog 117,m≤reachBytes)→cs.length=Tryz.prog.cellsOf 117→DataW.trod enc prog w base sp hd n 117 cs=some y→∃ x:Tok,True∧vTk.C (fun _=>True) w x cs:=by
 intro m cs y hz hl h
 obtain ⟨xs,n,rfl,rfl,_,hxl,hf⟩:=DataW.trod_struct Tryz.underlying117 h
 rw [k117] at hl
 obtain ⟨v0,v1,v2,v3,v4,v5,rfl⟩:=l6 hl
 obtain ⟨y0,y1,y2,y3,y4,rfl⟩:=l5 (show xs.length=5 from hxl)
 have g0:DataW.trod enc prog w base sp hd n 9 (([v0,v1,v2,v3,v4,v5].drop 0).take (Tryz.prog.cellsOf 9))=some y0:=hf 0 _ rfl
 have g1:DataW.trod enc prog w base sp hd n 9 (([v0,v1,v2,v3,v4,v5].drop 1).take (Tryz.prog.cellsOf 9))=some y1:=hf 1 _ rfl
 have g2:DataW.trod enc prog w base sp hd n 115 (([v0,v1,v2,v3,v4,v5].drop 2).take (Tryz.prog.cellsOf 115))=some y2:=hf 2 _ rfl
 have g3:DataW.trod enc prog w base sp hd n 3 (([v0,v1,v2,v3,v4,v5].drop 4).take (Tryz.prog.cellsOf 3))=some y3:=hf 3 _ rfl
 have g4:DataW.trod enc prog w base sp hd n 9 (([v0,v1,v2,v3,v4,v5].drop 5).take (Tryz.prog.cellsOf 9))=some y4:=hf 4 _ rfl
 rw [k9] at g0 g1 g4
 rw [k115] at g2
 rw [k3] at g3
 obtain ⟨t0,e0,_,_⟩:=DataW.trod_string Tryz.underlying9 g0
 obtain ⟨t1,e1,_,_⟩:=DataW.trod_string Tryz.underlying9 g1
 obtain ⟨m3,e3,_,_⟩:=DataW.trod_int (k:=.i64) Tryz.underlying3 g3
 obtain ⟨t4,e4,_,_⟩:=DataW.trod_string Tryz.underlying9 g4
 obtain ⟨zs,n2,rfl,rfl,_,hzl,hf2⟩:=DataW.trod_struct Tryz.underlying115 g2
 obtain ⟨z0,z1,rfl⟩:=l2 (show zs.length=2 from hzl)
 have q0:DataW.trod enc prog w base sp hd n2 9 (([v2,v3].drop 0).take (Tryz.prog.cellsOf 9))=some z0:=hf2 0 _ rfl
 have q1:DataW.trod enc prog w base sp hd n2 3 (([v2,v3].drop 1).take (Tryz.prog.cellsOf 3))=some z1:=hf2 1 _ rfl
 rw [k9] at q0
 rw [k3] at q1
 obtain ⟨t2,e2,_,_⟩:=DataW.trod_string Tryz.underlying9 q0
 obtain ⟨m2,e5,_,_⟩:=DataW.trod_int (k:=.i64) Tryz.underlying3 q1
 simp at e0 e1 e2 e3 e4 e5
 subst e0 e1 e2 e3 e4 e5
 exact ⟨⟨t0.data.toList,t1.data.toList,(t2.data.toList,m2),m3,t4.data.toList⟩,trivial,rfl⟩
end
theorem contract (H:Type) (enc:TypeId × Value→H) (W:World) (base:Nat) (args:Array Value) (ds gs:List (DataW H)) (before:List MemPlace)
  (hval:∀ (j:Nat) t v,Tryz.f4.params[j]? = some t→args[j]? = some v→Value.okWide prog W .any base t v)
  (hW:DataW.Whole enc prog Tryz.f4.params.toList Rows.topTracedSpec.vars false W args.toList ds gs before) (hZ:(DataW.weightsEach prog (Tryz.f4.params.toList++(OpenSpec.ofChange Rows.topTracedSpec).bare.plain.varTypes prog) (ds++gs)).all (·≤reachBytes)=true) (hL:laidMetH prog Rows.topTracedRow.laid W) (hSh:W.ShapedOpen prog) :
  Calls prog 4 args W fun e W'=>∃ v,e=.returned v∧Rows.topTracedSpec.post enc prog Tryz.f4 false true false false W args v W':=by
 have hW':=hW
 obtain ⟨p,q,hA0,hV,rfl,hfz,hnd⟩:=hW
 have hA:DataW.TrodAll enc prog W 0 (fun _=>true) true Tryz.f4.params.toList args.toList ds p:=hA0
 rw [Tryz.params4] at hA hval hZ
 obtain ⟨v0,vs0,d0,ds0,p0,q0,hargs,rfl,rfl,h0,r0⟩:=trodAll_cons hA
 obtain ⟨v1,vs1,d1,ds1,p1,q1,rfl,rfl,rfl,h1,r1⟩:=trodAll_cons r0
 obtain ⟨v2,vs2,d2,ds2,p2,q2,rfl,rfl,rfl,h2,r2⟩:=trodAll_cons r1
 obtain ⟨rfl,rfl,rfl⟩:=trodAll_nil r2
 obtain rfl:args=#[v0,v1,v2]:=by cases args;simp_all
 obtain ⟨rfl,rfl⟩:=trodVars_none hV
 have z0:∀ m∈d0.weights prog 62,m≤reachBytes:=fun m hm=>by
  have:=List.all_eq_true.1 hZ m (DataW.weights_mem_each (j:=0) (t:=62) (d:=d0) rfl rfl m hm)
  simpa using this
 have z1:∀ m∈d1.weights prog 63,m≤reachBytes:=fun m hm=>by
  have:=List.all_eq_true.1 hZ m (DataW.weights_mem_each (j:=1) (t:=63) (d:=d1) rfl rfl m hm)
  simpa using this
 obtain ⟨cs,rfl,hsz⟩:=okWide_struct Tryz.underlying62 (hval 0 62 v0 rfl rfl)
 obtain ⟨fuel,hf⟩:=h0
 obtain ⟨xs,n,rfl,hx,hl,hxl,hfs⟩:=DataW.trod_struct Tryz.underlying62 hf
 obtain ⟨y0,y1,y2,y3,rfl⟩:=l4 (show xs.length=4 from hxl)
 simp only [Prod.mk.injEq] at hx
 obtain ⟨rfl,_⟩:=hx
 have zs:∀ m∈y1.1.weights prog 23,m≤reachBytes:=fun m hm=>z0 m (by simp only [DataW.weights,Tryz.underlying62];exact DataW.weights_mem_each (j:=1) (t:=23) (d:=y1.1) rfl rfl m hm)
 have zt:∀ m∈y2.1.weights prog 59,m≤reachBytes:=fun m hm=>z0 m (by simp only [DataW.weights,Tryz.underlying62];exact DataW.weights_mem_each (j:=2) (t:=59) (d:=y2.1) rfl rfl m hm)
 have zc:∀ m∈y3.1.weights prog 60,m≤reachBytes:=fun m hm=>z0 m (by simp only [DataW.weights,Tryz.underlying62];exact DataW.weights_mem_each (j:=3) (t:=60) (d:=y3.1) rfl rfl m hm)
 obtain ⟨l⟩:=cs
 have hll:l.length=4:=by rw [← k62,← hsz];rfl
 obtain ⟨u0,u1,u2,u3,rfl⟩:=l4 hll
 have g0:DataW.trod enc prog W 0 (fun _=>true) true n 9 (([u0,u1,u2,u3].drop 0).take (Tryz.prog.cellsOf 9))=some y0:=hfs 0 _ rfl
 have g1:DataW.trod enc prog W 0 (fun _=>true) true n 23 (([u0,u1,u2,u3].drop 1).take (Tryz.prog.cellsOf 23))=some y1:=hfs 1 _ rfl
 have g2:DataW.trod enc prog W 0 (fun _=>true) true n 59 (([u0,u1,u2,u3].drop 2).take (Tryz.prog.cellsOf 59))=some y2:=hfs 2 _ rfl
 have g3:DataW.trod enc prog W 0 (fun _=>true) true n 60 (([u0,u1,u2,u3].drop 3).take (Tryz.prog.cellsOf 60))=some y3:=hfs 3 _ rfl
 rw [k9] at g0
 rw [k23] at g1
 rw [k59] at g2
 rw [k60] at g3
 obtain ⟨t0,e0,_,_⟩:=DataW.trod_string Tryz.underlying9 g0
 obtain ⟨sa,sn,sc,S,e1,hsc,hS,hSl,_⟩:=qs3 (V:=vS) Tryz.underlying23 k9 b9 (el_str Tryz.underlying9) _ _ _ zs g1
 obtain ⟨ta,tn,tc,T,e2,_,hT,hTl,_⟩:=qs3 (V:=vTs) Tryz.underlying59 k112 b112 (el_sl (V:=vTk) Tryz.underlying112 k117 b117 el_tk) _ _ _ zt g2
 obtain ⟨ca,cn,cc,C,e3,_,hC,hCl,_⟩:=qs3 (V:=vIs) Tryz.underlying60 k40 b40 (el_sl (V:=vI) Tryz.underlying40 k3 b3 (el_int Tryz.underlying3)) _ _ _ zc g3
 simp at e0 e1 e2 e3
 subst e0 e1 e2 e3
 obtain ⟨a1,n1,c1,rfl⟩:=okWide_slice Tryz.underlying63 (hval 1 63 v1 rfl rfl)
 obtain ⟨fuel1,hf1⟩:=h1
 obtain ⟨da,dn,dc,D,e4,_,hD,hDl,_⟩:=qs3 (V:=vDc) Tryz.underlying63 k68 b68 el_dc _ _ _ z1 hf1
 cases e4
 obtain ⟨x1,rfl,rfl,rfl,wf1⟩:=open_int (k:=.u8) Tryz.underlying5 (hval 2 5 v2 rfl rfl) h2
 have hx1:0≤x1∧x1 < 256:=u8_wf wf1
 obtain ⟨lead,rfl⟩:∃ lead:Nat,x1=lead:=⟨x1.toNat,by omega⟩
 have hsn:sn=S.length:=hS.1
 have htn:tn=T.length:=hT.1
 have hcn:cn=C.length:=hC.1
 have up:∀ {a b:Nat},a=b→b≤140737488355328→a≤4611686018427387904:=fun h1 h2=>by omega
 refine (Go.Proofs.TopTraced_spec (S:=fun _=>True) (S3:=fun _=>True) (v:=⟨(sa,sn,sc),(ta,tn,tc),(ca,cn,cc)⟩) (x:=⟨t0.data.toList,S,T,C⟩) ⟨hS,hsc,hT,hC⟩ hD (up hsn hSl) (up htn hTl) (up hcn hCl) (by omega)
  (forms_of (Go.Lib.laidMet.reads (show laidMet prog Rows.topTracedRow.laid W from hL) (.tail _ (.tail _ (.tail _ (.tail _ (.tail _ (.head _)))))))) (mk_of (Go.Lib.laidMet.reads (show laidMet prog Rows.topTracedRow.laid W from hL) (.tail _ (.tail _ (.tail _ (.tail _ (.head _)))))) (Go.Lib.laidMet.reads (show laidMet prog Rows.topTracedRow.laid W from hL) (.tail _ (.tail _ (.tail _ (.head _))))) hSh) fun w' he=>?_)
 exact ⟨_,rfl,post_ext laidOut (by rw [Tryz.params4];intro t ht;simp only [List.mem_cons,List.not_mem_nil,or_false] at ht;rcases ht with rfl | rfl | rfl <;> first | exact rec62 | exact rec63 | exact rec5) (by kernel_rfl) Tryz.underlying4 rfl hW' rfl he⟩
noncomputable def laidWorld (os:Os):World:=q7t Rows.topTracedRow.laid os
theorem laid_met (os:Os):laidMet prog Rows.topTracedRow.laid ((laidWorld os).forCall (fun _ _=>0) ⟨#[],#[.agg #[.string ⟨⟨[]⟩⟩,.slice none 0 0,.slice none 0 0,.slice none 0 0],.slice none 0 0,.int .u8 0],[]⟩).memory :=
 laidMet_of_run' 8 (by kernel_rfl) (by kernel_rfl)
theorem reads (os:Os) {H:Type} (enc:TypeId × Value→H):∃ places,DataW.whole enc prog ((laidWorld os).forCall (fun _ _=>0) ⟨#[],#[.agg #[.string ⟨⟨[]⟩⟩,.slice none 0 0,.slice none 0 0,.slice none 0 0],.slice none 0 0,.int .u8 0],[]⟩).memory Tryz.f4.params.toList Rows.topTracedSpec.vars false (#[.agg #[.string ⟨⟨[]⟩⟩,.slice none 0 0,.slice none 0 0,.slice none 0 0],.slice none 0 0,.int .u8 0]:Array Value).toList 8=some ([.agg [.lit (.string []),.nil,.nil,.nil],.nil,.lit (.int .u8 0)],[],places) :=
 ⟨[],by kernel_rfl⟩
end TopTraced
end Go.Proofs.YtncjonkmhfdabaaGreatDoor
