/- A calculus of verification conditions over the model's code, and its soundness: what a function's condition gives is a theorem on its calls. -/
import Derived.CallsIn
import Derived.Below
import Derived.WalkKit
import Derived.WalkSpells
import Derived.Laws.StructEq
import Derived.RangeFuncSeq
set_option linter.all false
namespace Go.Sh
open Go
abbrev Env:=Nat→Value
def upd (e:Env) (d:Nat) (v:Value):Env:=fun t=>match Nat.beq t d with | true=>v | false=>e t
def put (e:Env) (d:Option Nat) (v:Value):Env:=match d with | none=>e | some d=>upd e d v
def ev (e:Env):Operand→Value
 | .tmp t=>e t
 | .const v=>v
 | .global g=>.pointer (some ⟨g,0,none⟩)
 | .func f=>.func (.func f) #[] #[]
inductive Atom where
 | bool | int (k:IntKind) | str | slice | ptr | fn | any
inductive Sh1 where
 | one (a:Atom) | agg (l:List Atom)
inductive Shp where
 | s (x:Sh1) | tup (l:List Sh1)
def exA:Atom→(Value→Prop)→Prop
 | .bool,K=>∃ b:Bool,K (.bool b)
 | .int k,K=>∃ n:Int,K (.int k n)
 | .str,K=>∃ l:List UInt8,K (.string ⟨⟨l⟩⟩)
 | .slice,K=>∃ (a:Option Addr) (n c:Nat),K (.slice a n c)
 | .ptr,K=>∃ a:Option Addr,K (.pointer a)
 | .fn,K=>∃ (f:Fn) (a b:Array Value),K (.func f a b)
 | .any,K=>∃ v:Value,K v
def exL:List Atom→(List Value→Prop)→Prop
 | [],K=>K []
 | a :: l,K=>exA a fun v=>exL l fun vs=>K (v :: vs)
def ex1:Sh1→(Value→Prop)→Prop
 | .one a,K=>exA a K
 | .agg l,K=>exL l fun vs=>K (.agg ⟨vs⟩)
def exT:List Sh1→(List Value→Prop)→Prop
 | [],K=>K []
 | s :: l,K=>ex1 s fun v=>exT l fun vs=>K (v :: vs)
def exS:Shp→(Value→Prop)→Prop
 | .s x,K=>ex1 x K
 | .tup l,K=>exT l fun vs=>K (.tuple ⟨vs⟩)
theorem exA_elim {a:Atom} {K:Value→Prop} (h:exA a K):∃ v,K v:=by
 cases a with
 | slice=>obtain ⟨x,n,c,hk⟩:=h;exact ⟨_,hk⟩
 | fn=>obtain ⟨x,n,c,hk⟩:=h;exact ⟨_,hk⟩
 | bool=>obtain ⟨x,hk⟩:=h;exact ⟨_,hk⟩
 | int k=>obtain ⟨x,hk⟩:=h;exact ⟨_,hk⟩
 | str=>obtain ⟨x,hk⟩:=h;exact ⟨_,hk⟩
 | ptr=>obtain ⟨x,hk⟩:=h;exact ⟨_,hk⟩
 | any=>obtain ⟨x,hk⟩:=h;exact ⟨_,hk⟩
theorem exL_elim:∀ {l:List Atom} {K:List Value→Prop},exL l K→∃ v,K v
 | [],_,h=>⟨_,h⟩
 | _ :: _,_,h=>by
  obtain ⟨v,h⟩:=exA_elim h
  obtain ⟨vs,h⟩:=exL_elim h
  exact ⟨_,h⟩
theorem qv1 {s:Sh1} {K:Value→Prop} (h:ex1 s K):∃ v,K v:=by
 cases s with
 | one a=>exact exA_elim h
 | agg l=>obtain ⟨vs,h⟩:=exL_elim h;exact ⟨_,h⟩
theorem exT_elim:∀ {l:List Sh1} {K:List Value→Prop},exT l K→∃ v,K v
 | [],_,h=>⟨_,h⟩
 | _ :: _,_,h=>by
  obtain ⟨v,h⟩:=qv1 h
  obtain ⟨vs,h⟩:=exT_elim h
  exact ⟨_,h⟩
theorem exS_elim {s:Shp} {K:Value→Prop} (h:exS s K):∃ v,K v:=by
 cases s with
 | s x=>exact qv1 h
 | tup l=>obtain ⟨vs,h⟩:=exT_elim h;exact ⟨_,h⟩
def atomOf:TypeDesc→Atom
 | .bool=>.bool | .int k=>.int k | .string=>.str | .slice _=>.slice | .pointer _=>.ptr | .func _ _ _=>.fn | _=>.any
def repeatL (n:Nat) (l:List Atom):List Atom:=match n with | 0=>[] | n + 1=>l++repeatL n l
def qj9 (P:Program):Nat→TypeId→List Atom
 | 0,_=>[]
 | fuel + 1,T=>match P.underlying T with
  | some (.struct fs)=>fs.toList.flatMap fun f=>qj9 P fuel f.type
  | some (.array n e)=>repeatL n (qj9 P fuel e)
  | some d=>[match atomOf d with | .fn=>.any | a=>a]
  | none=>[]
def sh1Of (P:Program) (T:TypeId):Sh1 :=
 match P.underlying T with
 | some (.struct _)=>.agg (qj9 P 8 T)
 | some (.array _ _)=>.agg (qj9 P 8 T)
 | some d=>.one (atomOf d)
 | none=>.one .any
def shpOf (P:Program) (T:TypeId):Shp :=
 match P.info? T with
 | some { desc:=.tuple es,.. }=>.tup (es.toList.map (sh1Of P))
 | _=>.s (sh1Of P T)
def qxo (P:Program) (T:TypeId):Bool :=
 match P.underlying T with
 | some (.struct _)=>true
 | some (.array _ _)=>true
 | _=>false
def br (g:Bool) (A B:Prop):Prop:=match g with | true=>A | false=>B
def dr (a:Option Addr) (K:Addr→Prop):Prop:=match a with | some x=>K x | none=>False
def idx (a:Option Addr) (n:Nat) (i:Int) (sz:Nat) (K:Addr→Prop):Prop:=0≤i∧i < n∧dr a fun p=>K (p.add (i.toNat * sz))
def sidx (l:List UInt8) (i:Int) (K:UInt8→Prop):Prop:=0≤i∧∃ b,l[i.toNat]? = some b∧K b
def ssl (l:List UInt8) (lo hi:Int) (K:List UInt8→Prop):Prop:=0≤lo∧lo≤hi∧hi≤l.length∧K ((l.take hi.toNat).drop lo.toNat)
def slA (a:Option Addr) (c l sz:Nat):Option Addr:=if c=l then a else a.map fun p=>p.add (l * sz)
def sls (a:Option Addr) (c:Nat) (lo hi:Int) (sz:Nat) (K:Option Addr→Nat→Nat→Prop):Prop :=
 0≤lo∧lo≤hi∧hi≤c∧K (slA a c lo.toNat sz) (hi.toNat - lo.toNat) (c - lo.toNat)
def sls3 (a:Option Addr) (c:Nat) (lo hi mx:Int) (sz:Nat) (K:Option Addr→Nat→Nat→Prop):Prop :=
 0≤lo∧lo≤hi∧hi≤mx∧mx≤c∧K (slA a mx.toNat lo.toNat sz) (hi.toNat - lo.toNat) (mx.toNat - lo.toNat)
def sadd (a b:List UInt8) (K:List UInt8→Prop):Prop:=a.length + b.length≤9223372036854775807∧K (a++b)
def idiv (b:Int) (A:Prop):Prop:=b≠0∧A
def ldA (w:World) (p:Addr):Atom→(Value→Prop)→Prop
 | .bool,K=>∃ b:Bool,w.cell? p=some (.bool b)∧K (.bool b)
 | .int k,K=>∃ n:Int,w.cell? p=some (.int k n)∧K (.int k n)
 | .str,K=>∃ l:List UInt8,w.cell? p=some (.string ⟨⟨l⟩⟩)∧K (.string ⟨⟨l⟩⟩)
 | .slice,K=>∃ (a:Option Addr) (n c:Nat),w.cell? p=some (.slice a n c)∧K (.slice a n c)
 | .ptr,K=>∃ a:Option Addr,w.cell? p=some (.pointer a)∧K (.pointer a)
 | .fn,K=>∃ (f:Fn) (a b:Array Value),w.cell? p=some (.func f a b)∧K (.func f a b)
 | .any,K=>∃ v:Value,w.cell? p=some v∧K v
def ldL (w:World) (p:Addr):Nat→List Atom→(List Value→Prop)→Prop
 | _,[],K=>K []
 | i,a :: l,K=>ldA w (p.add i) a fun v=>ldL w p (i + 1) l fun vs=>K (v :: vs)
def ld1 (w:World) (p:Addr):Sh1→(Value→Prop)→Prop
 | .one a,K=>ldA w p a K
 | .agg l,K=>ldL w p 0 l fun vs=>K (.agg ⟨vs⟩)
def st (w:World) (p:Addr) (v:Value) (K:World→Prop):Prop :=
 (∃ u,w.cell? p=some u)∧w.frozen? p=false∧v.oneCell'=true∧K (w.setCell p v)
def stL (w:World) (p:Addr):Nat→List Value→(World→Prop)→Prop
 | _,[],K=>K w
 | i,v :: vs,K=>st w (p.add i) v fun w'=>stL w' p (i + 1) vs K
def al (w:World) (T:TypeId) (cs:List Value) (K:Addr→World→Prop):Prop :=
 K ⟨w.heap.size,0,none⟩ (w.alloc (.cells ⟨cs⟩ T))
def app (P:Program) (ts:List TypeId) (ty:TypeId) (s x:Value) (w:World) (K:Option Addr→Nat→Nat→World→Prop):Prop :=
 ∃ a n c w',(Builtin.append_ ⟨ts⟩ ty #[s,x]).run P w=.ok (.slice a n c) w'∧K a n c w'
def clr (P:Program) (ts:List TypeId) (ty:TypeId) (args:List Value) (w:World) (K:World→Prop):Prop :=
 ∃ w',(Builtin.clear_ ⟨ts⟩ ty ⟨args⟩).run P w=.ok (.tuple ⟨[]⟩) w'∧K w'
def cpy (P:Program) (ts:List TypeId) (ty:TypeId) (args:List Value) (w:World) (K:Int→World→Prop):Prop :=
 ∃ (n:Int) (w':World),(Builtin.copy_ ⟨ts⟩ ty ⟨args⟩).run P w=.ok (.int .i64 n) w'∧K n w'
def mdel (P:Program) (ts:List TypeId) (ty:TypeId) (args:List Value) (w:World) (K:World→Prop):Prop :=
 ∃ w',(Builtin.delete_ ⟨ts⟩ ty ⟨args⟩).run P w=.ok (.tuple ⟨[]⟩) w'∧K w'
def mks (w:World) (elem:TypeId) (bytes:Nat) (zero:List Value) (l c:Int) (K:Addr→World→Prop):Prop :=
 0≤l∧l≤c∧bytes * c≤140737488355328 ∧
  K ⟨w.heap.size,0,none⟩ (w.alloc (.cells ⟨(List.replicate c.toNat zero).flatten⟩ elem))
def mkm (w:World) (K:Nat→World→Prop):Prop:=K w.heap.size (w.alloc (.map #[] 0))
def mupd (P:Program) (T:TypeId) (m k v:Value) (w:World) (K:World→Prop):Prop:=∃ w',(Instr.mapUpdate T m k v).run P w=.ok () w'∧K w'
def lkAt (P:Program) (T:TypeId) (m k:Value) (w:World) (v:Value):Prop:=(Instr.lookup T m k false).run P w=.ok v w
def lkAt2 (P:Program) (T:TypeId) (m k:Value) (w:World) (v:Value) (b:Bool):Prop:=(Instr.lookup T m k true).run P w=.ok (.tuple ⟨[v,.bool b]⟩) w
def b2s (P:Program) (w:World) (a:Option Addr) (n c:Nat) (K:List UInt8→Prop):Prop :=
 ∃ l:List UInt8,(Conv.bytesToString (.slice a n c)).run P w=.ok (.string ⟨⟨l⟩⟩) w∧K l
def s2b (P:Program) (w:World) (elem:TypeId) (l:List UInt8) (K:Option Addr→Nat→Nat→World→Prop):Prop :=
 ∃ a n c w',(Conv.stringToBytes elem ⟨⟨l⟩⟩).run P w=.ok (.slice a n c) w'∧K a n c w'
def putAt (cs:List Value) (off:Nat):List Value→List Value
 | []=>cs
 | v :: vs=>putAt (cs.set off v) (off + 1) vs
def fillL (place:Nat→Option (Nat × Nat)):List Value→List (Nat × Value)→Option (List Value)
 | cs,[]=>some cs
 | cs,(i,v) :: rest =>
  match place i with
  | none=>none
  | some (off,size) =>
   match (Nat.beq v.cells.toList.length size&&Nat.ble (off + size) cs.length) with
   | true=>fillL place (putAt cs off v.cells.toList) rest
   | false=>none
def qb5 (P:Program) (T:TypeId):Option (List Value) :=
 match P.info? T with
 | some i=>match i.zero with
  | some z=>some z.cells.toList
  | none=>none
 | none=>none
def bitA (k:IntKind) (a b:Int):Int:=k.wrap (((BitVec.ofInt k.bits a &&& BitVec.ofInt k.bits b).toNat:Nat):Int)
def bitO (k:IntKind) (a b:Int):Int:=k.wrap (((BitVec.ofInt k.bits a ||| BitVec.ofInt k.bits b).toNat:Nat):Int)
def bitX (k:IntKind) (a b:Int):Int:=k.wrap (((BitVec.ofInt k.bits a ^^^ BitVec.ofInt k.bits b).toNat:Nat):Int)
def bitN (k:IntKind) (a b:Int):Int:=k.wrap (((BitVec.ofInt k.bits a &&& ~~~BitVec.ofInt k.bits b).toNat:Nat):Int)
def shR (k:IntKind) (a b:Int):Int:=a.fdiv (2 ^ min b.toNat k.bits)
def shL (k:IntKind) (a b:Int):Int:=k.wrap (a * 2 ^ min b.toNat k.bits)
def shf (b:Int) (A:Prop):Prop:=0≤b∧A
def binR (op:BinOp) (x y:Value) (K:Value→Prop):Prop :=
 match x,y with
 | .int k a,.int k' b =>
  match decide (k=k'),op with
  | true,.add=>K (.int k (k.wrap (a + b)))
  | true,.sub=>K (.int k (k.wrap (a - b)))
  | true,.mul=>K (.int k (k.wrap (a * b)))
  | true,.quo=>idiv b (K (.int k (k.wrap (a.tdiv b))))
  | true,.rem=>idiv b (K (.int k (a.tmod b)))
  | true,.eql=>K (.bool (decide (a=b)))
  | true,.neq=>K (.bool (decide (a≠b)))
  | true,.lss=>K (.bool (decide (a < b)))
  | true,.leq=>K (.bool (decide (a≤b)))
  | true,.gtr=>K (.bool (decide (b < a)))
  | true,.geq=>K (.bool (decide (b≤a)))
  | true,.and=>K (.int k (bitA k a b))
  | true,.or=>K (.int k (bitO k a b))
  | true,.xor=>K (.int k (bitX k a b))
  | true,.andNot=>K (.int k (bitN k a b))
  | _,.shr=>shf b (K (.int k (shR k a b)))
  | _,.shl=>shf b (K (.int k (shL k a b)))
  | _,_=>False
 | .string a,.string b =>
  match op with
  | .add=>sadd a.data.toList b.data.toList fun l=>K (.string ⟨⟨l⟩⟩)
  | .eql=>K (.bool (decide (a.data.toList=b.data.toList)))
  | .neq=>K (.bool (decide (a.data.toList≠b.data.toList)))
  | .lss=>K (.bool (Op.bytesLess a.data.toList b.data.toList))
  | .leq=>K (.bool (Op.bytesLess a.data.toList b.data.toList||decide (a.data.toList=b.data.toList)))
  | .gtr=>K (.bool (!(Op.bytesLess a.data.toList b.data.toList||decide (a.data.toList=b.data.toList))))
  | .geq=>K (.bool (!Op.bytesLess a.data.toList b.data.toList))
  | _=>False
 | _,_=>False
def cmpR (d:Option TypeDesc) (op:BinOp) (x y:Value) (K:Value→Prop):Prop :=
 match d,x,y with
 | some .bool,.bool a,.bool b =>
  match op with
  | .eql=>K (.bool (decide (a=b)))
  | .neq=>K (.bool (decide (a≠b)))
  | _=>False
 | some (.slice _),.slice a _ _,.slice none _ _ =>
  match op with
  | .eql=>K (.bool a.isNone)
  | .neq=>K (.bool (!a.isNone))
  | _=>False
 | some (.pointer _),.pointer a,.pointer none =>
  match op with
  | .eql=>K (.bool a.isNone)
  | .neq=>K (.bool (!a.isNone))
  | _=>False
 | _,_,_=>False
end Go.Sh
namespace Go.Sh
open Go
def optI (ρ:Operand→Value) (o:Option Operand) (d:Int) (K:Int→Prop):Prop :=
 match o with
 | none=>K d
 | some x=>match ρ x with
  | .int _ i=>K i
  | _=>False
def foldI (f:Int→Int→Int) (k:IntKind) (acc:Int):List Value→(Value→Prop)→Prop
 | [],K=>K (.int k acc)
 | .int _ y :: vs,K=>foldI f k (f acc y) vs K
 | _ :: _,_=>False
def fieldOff (P:Program) (s:TypeId) (f:Nat):Option Nat :=
 match P.underlying s with
 | some (.struct fs)=>match fs.toList[f]? with
  | some fd=>match P.cellsOf fd.type with
   | 0=>none
   | _ + 1=>some fd.offset
  | none=>none
 | _=>none
def qlf (P:Program):List Field→Option (List (Nat × Nat))
 | []=>some []
 | f :: fs=>match P.info? f.type with
  | none=>none
  | some i=>match qlf P fs with
   | none=>none
   | some r=>some ((f.offset,i.size) :: r)
def q81 (P:Program) (s:TypeId):Option (Nat→Option (Nat × Nat)) :=
 match P.underlying s with
 | some (.struct fs)=>match qlf P fs.toList with
  | some pl=>some fun i=>pl[i]?
  | none=>none
 | some (.array _ e)=>match P.info? e with
  | some ie=>some fun i=>some (i * ie.size,ie.size)
  | none=>none
 | _=>none
def fieldTy (P:Program) (s:TypeId) (f:Nat):Option (Nat × TypeId) :=
 match P.underlying s with
 | some (.struct fs)=>match fs.toList[f]? with
  | some fd=>some (fd.offset,fd.type)
  | none=>none
 | _=>none
def qpm (P:Program) (T:TypeId):Option Bool:=match P.underlying T with | some _=>some (qxo P T) | none=>none
def qb8 (P:Program) (T:TypeId):Bool:=match P.info? T with | some _=>true | none=>false
def partL (P:Program) (T:TypeId) (cs:List Value) (off:Nat):Option Value :=
 match qpm P T,qb8 P T with
 | some true,true=>some (.agg ⟨(cs.drop off).take (P.cellsOf T)⟩)
 | some false,_=>cs[off]?
 | _,_=>none
def eqFs (P:Program) (g:TypeId→Value→Value→Option Bool):List Field→List Value→List Value→Option Bool
 | [],_,_=>some true
 | f :: fs, xs, ys => match decide (f.name = "_") with
  | true=>none
  | false=>match partL P f.type xs f.offset,partL P f.type ys f.offset with
   | some a,some b=>match g f.type a b,eqFs P g fs xs ys with
    | some r,some s=>some (r&&s)
    | _,_=>none
   | _,_=>none
def eqT (P:Program):Nat→TypeId→Value→Value→Option Bool
 | 0,_,_,_=>none
 | d + 1,T,x,y=>match P.underlying T,x,y with
  | some .bool,.bool a,.bool b=>some (decide (a=b))
  | some (.int _),.int k a,.int k' b=>match decide (k=k') with
   | true=>some (decide (a=b))
   | false=>none
  | some .string,.string a,.string b=>some (decide (a.data.toList=b.data.toList))
  | some (.struct fs),.agg xs,.agg ys=>match P.stoodInHeld T with
   | false=>eqFs P (eqT P d) fs.toList xs.toList ys.toList
   | true=>none
  | _,_,_=>none
def aggR (P:Program) (T:TypeId) (op:BinOp) (x y:Value) (K:Value→Prop):Prop :=
 match P.eqGuardType P.depth T,eqT P 4 T x y,op with
 | false,some r,.eql=>K (.bool r)
 | false,some r,.neq=>K (.bool (!r))
 | _,_,_=>False
def nilC (y:Operand):Bool:=match y with
 | .const .nilIface=>true
 | _=>false
def ifc (v:Value) (K:Bool→Prop):Prop:=match v with
 | .nilIface=>K true
 | .iface _ _=>K false
 | _=>False
def pureR (P:Program) (ρ:Operand→Value) (op:Op) (K:Value→Prop):Prop :=
 match op with
 | .move x=>K (ρ x)
 | .assign x=>K (ρ x)
 | .pick c a b=>match ρ c with
  | .bool t=>br t (K (ρ a)) (K (ρ b))
  | _=>False
 | .extract t i=>match ρ t with
  | .tuple vs=>match vs.toList[i]? with
   | some v=>K v
   | none=>False
  | _=>False
 | .unOp .not _ x=>match ρ x with
  | .bool b=>K (.bool (!b))
  | _=>False
 | .unOp .neg _ x=>match ρ x with
  | .int k n=>K (.int k (k.wrap (0 - n)))
  | _=>False
 | .binOp op T x y _=>match nilC y with
  | true=>match ρ y,P.underlying T,op with
   | .nilIface,some (.interface _),.eql=>ifc (ρ x) fun b=>K (.bool b)
   | .nilIface,some (.interface _),.neq=>ifc (ρ x) fun b=>K (.bool (!b))
   | _,_,_=>False
  | false=>match ρ x,ρ y with
   | .int k a,.int k' b=>binR op (.int k a) (.int k' b) K
   | .string a,.string b=>binR op (.string a) (.string b) K
   | .agg a,.agg b=>aggR P T op (.agg a) (.agg b) K
   | a,b=>cmpR (P.underlying T) op a b K
 | .fieldAddr s x f=>match fieldOff P s f with
  | some off=>match ρ x with
   | .pointer a=>dr a fun p=>K (.pointer (some (p.add off)))
   | _=>False
  | none=>False
 | .indexAddr T x i=>match P.underlying T,ρ x,ρ i with
  | some (.slice el),.slice a n _,.int _ i=>match qb8 P el with
   | true=>idx a n i (P.cellsOf el) fun p=>K (.pointer (some p))
   | false=>False
  | some (.array len el),.pointer a,.int _ i=>match qb8 P el with
   | true=>idx a len i (P.cellsOf el) fun p=>K (.pointer (some p))
   | false=>False
  | _,_,_=>False
 | .index T x i=>match P.underlying T,ρ x,ρ i with
  | some .string,.string s,.int _ i=>sidx s.data.toList i fun b=>K (.int .u8 b.toNat)
  | _,_,_=>False
 | .slice T x lo hi none=>match P.underlying T,ρ x with
  | some .string,.string s=>optI ρ lo 0 fun l=>optI ρ hi s.data.toList.length fun h=>ssl s.data.toList l h fun t=>K (.string ⟨⟨t⟩⟩)
  | some (.slice el),.slice a n c=>match qb8 P el with
   | true=>optI ρ lo 0 fun l=>optI ρ hi n fun h=>sls a c l h (P.cellsOf el) fun a' n' c'=>K (.slice a' n' c')
   | false=>False
  | some (.array len el),.pointer a=>match qb8 P el with
   | true=>dr a fun p=>optI ρ lo 0 fun l=>optI ρ hi len fun h=>sls (some p) len l h (P.cellsOf el) fun a' n' c'=>K (.slice a' n' c')
   | false=>False
  | _,_=>False
 | .slice T x lo (some hi) (some mx)=>match P.underlying T,ρ x,ρ hi,ρ mx with
  | some (.slice el),.slice a _ c,.int _ h,.int _ m=>match qb8 P el with
   | true=>optI ρ lo 0 fun l=>sls3 a c l h m (P.cellsOf el) fun a' n' c'=>K (.slice a' n' c')
   | false=>False
  | _,_,_,_=>False
 | .build T parts=>match qb5 P T,q81 P T with
  | some z,some pl=>match fillL pl z (parts.toList.map fun p=>(p.1,ρ p.2)) with
   | some cs=>K (.agg ⟨cs⟩)
   | none=>False
  | _,_=>False
 | .field T x f=>match fieldTy P T f,ρ x with
  | some (off,ty),.agg cs=>match qpm P ty,qb8 P ty with
   | some true,true=>K (.agg ⟨(cs.toList.drop off).take (P.cellsOf ty)⟩)
   | some false,_=>match cs.toList[off]? with
    | some v=>K v
    | none=>False
   | _,_=>False
  | _,_=>False
 | .makeFunc fn first cap=>K (.func fn ⟨first.toList.map ρ⟩ ⟨cap.toList.map ρ⟩)
 | .nilCheck x=>match ρ x with
  | .pointer a=>dr a fun p=>K (.pointer (some p))
  | _=>False
 | .convert s d x=>match P.underlying s,P.underlying d,ρ x with
  | some (.int _),some (.int k),.int _ n=>K (.int k (k.wrap n))
  | some .string,some .string,.string s=>K (.string s)
  | some (.int _),some .string,.int _ n=>K (.string ⟨⟨(Utf8.encode n).data.toList⟩⟩)
  | _,_,_=>False
 | .makeInterface T x=>match P.underlying T with
  | some (.interface _)=>False
  | some _=>K (.iface T (ρ x))
  | none=>False
 | .call c=>match c.callee with
  | .builtin .len=>match c.args.toList,c.argTypes.toList with
   | [x],[t]=>match P.underlying t,ρ x with
    | some .string,.string s=>K (.int .i64 s.data.toList.length)
    | some (.slice _),.slice _ n _=>K (.int .i64 n)
    | some (.array n _),_=>K (.int .i64 n)
    | _,_=>False
   | _,_=>False
  | .builtin .cap=>match c.args.toList,c.argTypes.toList with
   | [x],[t]=>match P.underlying t,ρ x with
    | some (.slice _),.slice _ _ n=>K (.int .i64 n)
    | _,_=>False
   | _,_=>False
  | .builtin .max=>match c.args.toList.map ρ with
   | .int k x :: vs=>foldI (fun a b=>max a b) k x vs K
   | _=>False
  | .builtin .min=>match c.args.toList.map ρ with
   | .int k x :: vs=>foldI (fun a b=>min a b) k x vs K
   | _=>False
  | _=>False
 | _=>False
def Pure1 (P:Program) (ρ:Operand→Value) (o:Oper) (K:Value→Prop):Prop :=
 ∃ v,K v∧∀ w,(execOp ρ o).run P w=.ok (.value v) w
theorem qdb {a:Option Addr} {K:Addr→Prop} (h:dr a K):∃ p,a=some p∧K p:=by
 cases a with
 | none=>exact h.elim
 | some p=>exact ⟨p,rfl,h⟩
theorem qpl (P:Program) (T:TypeId) (w:World) (h:(P.underlying T).isSome=true):(isAgg T).run P w=.ok (qxo P T) w:=by
 unfold isAgg qxo
 simp [underlying]
 cases hu:P.underlying T with
 | none=>simp [hu] at h
 | some d=>simp;cases d <;> rfl
theorem qg7 (s:ByteArray):s.toList=s.data.toList:=by
 exact ByteArray.toList_eq s
theorem ba_eta (s:ByteArray):(⟨⟨s.data.toList⟩⟩:ByteArray)=s:=by cases s;rfl
theorem ba_append (a b:ByteArray):(⟨⟨a.data.toList++b.data.toList⟩⟩:ByteArray)=a++b:=by
 apply ByteArray.ext;simp [ByteArray.data_append]
section
variable {P:Program} {ρ:Operand→Value} {K:Value→Prop}
theorem qta {α:Type} [BEq α] [LawfulBEq α] [DecidableEq α] (a b:α):(a == b)=decide (a=b):=by
 by_cases h:a=b <;> simp [h]
theorem bne_dec {α:Type} [BEq α] [LawfulBEq α] [DecidableEq α] (a b:α):(a != b)=decide (a≠b):=by
 by_cases h:a=b <;> simp [h,bne]
theorem q2f {op:BinOp} {T:TypeId} {x y:Operand} (a b:Value) (h:binR op a b K) :
  ∃ v,K v∧∀ w,((do eqGuard op T x y a b;binOp op T a b):Sem Value).run P w=.ok v w:=by
 unfold binR at h
 split at h
 ·rename_i k a k' b
  by_cases hk:k=k'
  ·subst hk
   simp only [decide_true] at h
   cases op <;> simp only [idiv,shf] at h <;> first
    | exact h.elim
    | (refine ⟨_,h,fun w=>?_⟩;simp [go_sem,binOp,Op.intArith,Op.intCmp];done)
    | (refine ⟨_,h,fun w=>?_⟩;simp only [eqGuard,binOp,Op.intBits,Sem.run_bind,Sem.run_pure,Bool.not_true,Bool.not_false,Bool.false_eq_true,if_false,if_true,ite_self,Result.andThen_ok,ne_eq,not_true_eq_false];rfl)
    | (obtain ⟨h1,h2⟩:=h;refine ⟨_,h2,fun w=>?_⟩;simp only [eqGuard,binOp,Op.shift,Sem.run_bind,Sem.run_pure,Bool.not_true,Bool.not_false,Bool.false_eq_true,if_false,if_true,ite_self,Result.andThen_ok,if_neg (show ¬ b < 0 by omega)];rfl)
    | (refine ⟨_,h,fun w=>?_⟩;simp only [go_sem,binOp,Op.intCmp,qta,bne_dec];simp;done)
    | (obtain ⟨h1,h2⟩:=h;refine ⟨_,h2,fun w=>?_⟩;simp [go_sem,binOp,Op.intDiv,h1];done)
    | trace "BAD"
  ·cases op <;> simp only [hk,decide_false,shf] at h <;> first
    | exact h.elim
    | (obtain ⟨h1,h2⟩:=h;refine ⟨_,h2,fun w=>?_⟩;simp only [eqGuard,binOp,Op.shift,Sem.run_bind,Sem.run_pure,Bool.not_true,Bool.not_false,Bool.false_eq_true,if_false,if_true,ite_self,Result.andThen_ok,if_neg (show ¬ b < 0 by omega)];rfl)
    | trace "BAD3"
 ·rename_i a b
  cases op <;> simp only [sadd] at h <;> first
   | exact h.elim
   | (refine ⟨_,h,fun w=>?_⟩;simp [go_sem,binOp,Op.stringOp,qg7];done)
   | (refine ⟨_,h,fun w=>?_⟩;simp only [go_sem,binOp,Op.stringOp,qg7,qta,decide_not];simp;done)
   | (obtain ⟨h1,h2⟩:=h;refine ⟨_,h2,fun w=>?_⟩;simp only [go_sem,binOp,Op.stringOp,ba_append];rw [if_neg (by simp [IntKind.max,IntKind.bits,IntKind.signed] at *;omega)];rfl)
   | trace "BAD2"
 ·exact h.elim
theorem quv (d:Nat) (w:World) (t e:TypeId) (a:Option Addr) (n c n' c':Nat) (h:P.underlying t=some (.slice e)) :
  (Op.equalIn (d + 1) t (.slice a n c) (.slice none n' c')).run P w=.ok a.isNone w:=by
 cases a <;> simp [Op.equalIn,run_underlying h]
theorem qz9 (d:Nat) (w:World) (t e:TypeId) (a:Option Addr) (h:P.underlying t=some (.pointer e)) :
  (Op.equalIn (d + 1) t (.pointer a) (.pointer none)).run P w=.ok a.isNone w:=by
 cases a <;> simp [Op.equalIn,run_underlying h]
theorem qek {t:TypeId} {a b:Value} {r:Bool} {w:World} (h:(Op.equalIn (9999 + 1) t a b).run P w=.ok r w):(Op.equal t a b).run P w=.ok r w:=h
theorem cmpR_sound {op:BinOp} {T:TypeId} {x y:Operand} (a b:Value) (h:cmpR (P.underlying T) op a b K) :
  ∃ v,K v∧∀ w,((do eqGuard op T x y a b;binOp op T a b):Sem Value).run P w=.ok v w:=by
 unfold cmpR at h
 split at h
 ·rename_i a b hT
  cases op <;> simp only at h <;> first
   | exact h.elim
   | (refine ⟨_,h,fun w=>?_⟩;simp only [go_sem,binOp,Sem.run_bind,Sem.run_pure,Result.andThen_ok,run_equal_bool w T a b hT,qta];first | done | (simp;done))
 ·rename_i el a n c n' c' hT
  cases op <;> simp only at h <;> first
   | exact h.elim
   | (refine ⟨_,h,fun w=>?_⟩;simp only [eqGuard,binOp,Sem.run_bind,Sem.run_pure,Bool.not_true,Bool.not_false,Bool.false_eq_true,if_false,if_true,ite_self,Result.andThen_ok];rw [qek (quv 9999 w T _ a n c n' c' hT)];rfl)
 ·rename_i el a hT
  cases op <;> simp only at h <;> first
   | exact h.elim
   | (refine ⟨_,h,fun w=>?_⟩;simp only [eqGuard,binOp,Sem.run_bind,Sem.run_pure,Bool.not_true,Bool.not_false,Bool.false_eq_true,if_false,if_true,ite_self,Result.andThen_ok];rw [qek (qz9 9999 w T _ a hT)];rfl)
 ·exact h.elim
theorem q3c (d:Nat) (w:World) (t:TypeId) {ms} (h:P.underlying t=some (.interface ms)):(Op.equalIn (d + 1) t .nilIface .nilIface).run P w=.ok true w:=by
 simp [Op.equalIn,run_underlying h]
theorem q0a (d:Nat) (w:World) (t u:TypeId) (v:Value) {ms} (h:P.underlying t=some (.interface ms)):(Op.equalIn (d + 1) t (.iface u v) .nilIface).run P w=.ok false w:=by
 simp [Op.equalIn,run_underlying h]
theorem q6r {op:BinOp} {T:TypeId} {x y:Operand} (hy:nilC y=true) {ms} (hT:P.underlying T=some (.interface ms)) (a:Value) :
  (op=.eql→ifc a (fun b=>K (.bool b))→∃ v,K v∧∀ w,((do eqGuard op T x y a .nilIface;binOp op T a .nilIface):Sem Value).run P w=.ok v w) ∧
  (op=.neq→ifc a (fun b=>K (.bool (!b)))→∃ v,K v∧∀ w,((do eqGuard op T x y a .nilIface;binOp op T a .nilIface):Sem Value).run P w=.ok v w):=by
 obtain rfl:y=.const .nilIface:=by
  unfold nilC at hy
  split at hy
  ·rfl
  ·cases hy
 have e1:∀ w,(Op.equalIn (9999 + 1) T .nilIface .nilIface).run P w=.ok true w:=fun w=>q3c 9999 w T hT
 have e2:∀ t v w,(Op.equalIn (9999 + 1) T (.iface t v) .nilIface).run P w=.ok false w:=fun t v w=>q0a 9999 w T t v hT
 constructor
 ·rintro rfl h
  unfold ifc at h
  split at h
  ·refine ⟨_,h,fun w=>?_⟩
   simp only [eqGuard,binOp,Sem.run_bind,Sem.run_pure,Bool.not_true,Bool.not_false,Bool.false_eq_true,if_false,if_true,ite_self,Result.andThen_ok,Bool.or_true]
   rw [qek (e1 w)];rfl
  ·refine ⟨_,h,fun w=>?_⟩
   simp only [eqGuard,binOp,Sem.run_bind,Sem.run_pure,Bool.not_true,Bool.not_false,Bool.false_eq_true,if_false,if_true,ite_self,Result.andThen_ok]
   rw [qek (e2 _ _ w)];rfl
  ·exact h.elim
 ·rintro rfl h
  unfold ifc at h
  split at h
  ·refine ⟨_,h,fun w=>?_⟩
   simp only [eqGuard,binOp,Sem.run_bind,Sem.run_pure,Bool.not_true,Bool.not_false,Bool.false_eq_true,if_false,if_true,ite_self,Result.andThen_ok,Bool.or_true]
   rw [qek (e1 w)];rfl
  ·refine ⟨_,h,fun w=>?_⟩
   simp only [eqGuard,binOp,Sem.run_bind,Sem.run_pure,Bool.not_true,Bool.not_false,Bool.false_eq_true,if_false,if_true,ite_self,Result.andThen_ok]
   rw [qek (e2 _ _ w)];rfl
  ·exact h.elim
theorem q2b {T:TypeId} {b:Bool} (h:qpm P T=some b) (w:World):(isAgg T).run P w=.ok b w:=by
 unfold qpm at h
 split at h
 ·rename_i d hd
  have:=qpl P T w (by rw [hd];rfl)
  simp only [Option.some.injEq] at h
  rw [this,h]
 ·cases h
theorem q6l {T:TypeId} {cs:Array Value} {off:Nat} {v:Value} (h:partL P T cs.toList off=some v) (w:World):(part T cs off).run P w=.ok v w:=by
 unfold partL at h
 split at h
 ·rename_i h1 h2
  have hsz:(sizeOf T).run P w=.ok (P.cellsOf T) w:=by
   unfold qb8 at h2
   cases hi:P.info? T with
   | none=>rw [hi] at h2;cases h2
   | some i=>simp [sizeOf,typeInfo,hi,Program.cellsOf]
  simp only [Option.some.injEq] at h
  have e:(⟨(cs.toList.drop off).take (P.cellsOf T)⟩:Array Value)=cs.extract off (off + P.cellsOf T):=by
   apply Array.ext';simp
  rw [← h,e]
  simp [part,q2b h1 w,hsz]
 ·rename_i h1
  have hv:cs[off]? = some v:=by simpa using h
  simp [part,q2b h1 w,hv]
 ·cases h
theorem eqFs_run {d:Nat} {g:TypeId→Value→Value→Option Bool} (hg:∀ T x y r,g T x y=some r→∀ w,(Op.equalIn d T x y).run P w=.ok r w) {xs ys:Array Value} (w:World) :
  ∀ {fs:List Field} {r:Bool},eqFs P g fs xs.toList ys.toList=some r→(Op.eqFields d xs ys fs).run P w=.ok r w
 | [],r,h=>by simp only [eqFs,Option.some.injEq] at h;subst h;rfl
 | f :: fs,r,h=>by
  rw [eqFs] at h
  split at h
  ·cases h
  ·rename_i hn
   split at h
   ·rename_i a b ha hb
    split at h
    ·rename_i r1 r2 h1 h2
     simp only [Option.some.injEq] at h
     subst h
     have hr:=eqFs_run hg w h2
     have hn' : f.name ≠ "_" := of_decide_eq_false hn
     simp only [Op.eqFields,hn',ne_eq,not_false_eq_true,if_true,Sem.run_bind,q6l ha w,q6l hb w,hg _ _ _ _ h1 w,Result.andThen_ok]
     cases r1
     ·simp
     ·simpa using hr
    ·cases h
   ·cases h
theorem q82:∀ {d n:Nat} {T:TypeId} {x y:Value} {r:Bool},eqT P d T x y=some r→d≤n→∀ w,(Op.equalIn n T x y).run P w=.ok r w
 | 0,_,_,_,_,_,h,_,_=>by cases h
 | d + 1,0,_,_,_,_,_,hn,_=>by omega
 | d + 1,n + 1,T,x,y,r,h,hn,w=>by
  unfold eqT at h
  split at h
  ·rename_i a b hT
   simp only [Option.some.injEq] at h
   rw [run_equalIn_bool w n T a b hT,← h,qta]
  ·rename_i q k a k' b hT
   split at h
   ·rename_i hk
    have hk:=of_decide_eq_true hk
    subst hk
    simp only [Option.some.injEq] at h
    rw [run_equalIn_int w n T k q a b hT,← h,qta]
   ·cases h
  ·rename_i a b hT
   simp only [Option.some.injEq] at h
   rw [run_equalIn_string w n T a b hT,← h,ByteArray.toList_eq,ByteArray.toList_eq,qta]
  ·rename_i fs xs ys hT
   cases hs:P.stoodInHeld T
   ·rw [hs] at h
    have hf:P.fieldsOf T=fs:=by simp [Program.fieldsOf,hT]
    rw [run_equalIn_struct w n T xs ys (by rw [hf];exact hT) hs,hf]
    exact eqFs_run (fun T x y r hr w=>q82 hr (by omega) w) w h
   ·rw [hs] at h;cases h
  ·cases h
theorem aggR_sound {op:BinOp} {T:TypeId} {x y:Operand} (a b:Array Value) (h:aggR P T op (.agg a) (.agg b) K) :
  ∃ v,K v∧∀ w,((do eqGuard op T x y (.agg a) (.agg b);binOp op T (.agg a) (.agg b)):Sem Value).run P w=.ok v w:=by
 unfold aggR at h
 split at h
 ·rename_i r hg hr
  refine ⟨_,h,fun w=>?_⟩
  have:=qek (q82 hr (show 4≤9999 + 1 by decide) w)
  simp [eqGuard,hg,binOp,this]
 ·rename_i r hg hr
  refine ⟨_,h,fun w=>?_⟩
  have:=qek (q82 hr (show 4≤9999 + 1 by decide) w)
  simp [eqGuard,hg,binOp,this]
 ·exact h.elim
theorem pure_bin {op:BinOp} {T U:TypeId} {x y:Operand} (h:∃ v,K v∧∀ w,((do eqGuard op T x y (ρ x) (ρ y);binOp op T (ρ x) (ρ y)):Sem Value).run P w=.ok v w)
  (o:Oper) (ho:o.op=.binOp op T x y U):Pure1 P ρ o K:=by
 obtain ⟨v,hk,hr⟩:=h
 refine ⟨v,hk,fun w=>?_⟩
 have:=hr w
 simp only [execOp,ho,Sem.run_bind] at this ⊢
 cases hg:(eqGuard op T x y (ρ x) (ρ y)).run P w with
 | ok u w1 =>
  rw [hg] at this
  simp only [Result.andThen_ok] at this ⊢
  rw [this];rfl
 | halt hh w1=>rw [hg] at this;simp at this
theorem qni (f:Int→Int→Int) (g:Value→Value→Sem Value) (hg:∀ k x y k',g (.int k x) (.int k' y)=pure (.int k (f x y))) (k:IntKind) :
  ∀ (vs:List Value) (acc:Int),foldI f k acc vs K→∃ v,K v∧∀ w,(vs.foldlM g (.int k acc)).run P w=.ok v w
 | [],acc,h=>⟨_,h,fun w=>rfl⟩
 | v :: vs,acc,h=>by
  cases v <;> simp only [foldI] at h
  rename_i k' y
  obtain ⟨v,hv,hr⟩:=qni f g hg k vs (f acc y) h
  refine ⟨v,hv,fun w=>?_⟩
  rw [List.foldlM_cons,hg]
  exact hr w
end
end Go.Sh
namespace Go.Sh
open Go
theorem q6e (vs:List Value):∀ (cs:List Value) (off:Nat),(putAt cs off vs).length=cs.length:=by
 induction vs with
 | nil=>intro cs off;rfl
 | cons v vs ih=>intro cs off;rw [putAt,ih];simp
theorem qxu (vs:List Value):∀ (cs:Array Value) (off i:Nat),
  (vs.zipIdx i).foldl (fun cs (p:Value × Nat)=>cs.setIfInBounds (off + p.2) p.1) cs=⟨putAt cs.toList (off + i) vs⟩:=by
 induction vs with
 | nil=>intro cs off i;rfl
 | cons v vs ih =>
  intro cs off i
  rw [List.zipIdx_cons,List.foldl_cons,ih,putAt]
  simp [Nat.add_assoc]
theorem q80 (place:Nat→Option (Nat × Nat)):∀ (parts:List (Nat × Value)) (cs cs':List Value),fillL place cs parts=some cs' →
  Instr.fill place ⟨cs⟩ parts=some ⟨cs'⟩
 | [],cs,cs',h=>by simp only [fillL,Option.some.injEq] at h;subst h;rfl
 | (i,v) :: rest,cs,cs',h=>by
  rw [fillL] at h
  rw [Instr.fill]
  cases hp:place i with
  | none=>rw [hp] at h;exact absurd h (by simp)
  | some q =>
   obtain ⟨off,size⟩:=q
   rw [hp] at h
   simp only at h ⊢
   split at h
   ·rename_i hc
    simp only [Bool.and_eq_true,Nat.ble_eq] at hc
    have h1:v.cells.size=size:=Nat.eq_of_beq_eq_true hc.1
    have h2:off + v.cells.size≤cs.length:=by rw [h1];exact hc.2
    rw [if_neg (by simp [h1];omega)]
    have:=q80 place rest _ _ h
    rw [← this]
    congr 1
    have e:=qxu v.cells.toList ⟨cs⟩ off 0
    simp only [Nat.add_zero] at e
    rw [← e,← Array.foldl_toList]
    simp [Array.toList_zipIdx]
   ·exact absurd h (by simp)
section
variable {P:Program} {ρ:Operand→Value} {K:Value→Prop}
theorem qk8 {o:Option Operand} {d:Int} {K:Int→Prop} (h:optI ρ o d K) :
  (o=none∧K d)∨(∃ x k i,o=some x∧ρ x=.int k i∧K i):=by
 cases o with
 | none=>exact .inl ⟨rfl,h⟩
 | some x =>
  simp only [optI] at h
  split at h
  ·rename_i k i hx;exact .inr ⟨x,k,i,rfl,hx,h⟩
  ·exact h.elim
theorem qac {w:World} {k:IntKind} {i:Int} {y:Nat} {code:BoundsCode} (h:0≤i∧i≤y):(Instr.sliceBound (.int k i) y code).run P w=.ok i.toNat w:=by
 simp [Instr.sliceBound,asIntOf,h]
theorem qr6 {lo hi:Option Operand} {len cap:Nat} {b:Bool} {K:Int→Int→Prop}
  (h:optI ρ lo 0 fun l=>optI ρ hi len fun h=>(0≤l∧l≤h∧h≤cap)∧K l h) :
  ∃ l h:Int,(0≤l∧l≤h∧h≤cap)∧K l h∧∀ w,(Instr.sliceBounds b len cap (lo.map ρ) (hi.map ρ) none).run P w=.ok (l.toNat,h.toNat,cap) w:=by
 rcases qk8 h with ⟨rfl,h1⟩ | ⟨x,k,i,rfl,hx,h1⟩
 ·rcases qk8 h1 with ⟨rfl,h2⟩ | ⟨y,k',j,rfl,hy,h2⟩
  ·exact ⟨0,len,h2.1,h2.2,fun w=>by simp [Instr.sliceBounds]⟩
  ·refine ⟨0,j,h2.1,h2.2,fun w=>?_⟩
   have hb:0≤j∧j≤cap:=⟨by omega,h2.1.2.2⟩
   simp [Instr.sliceBounds,hy,qac hb]
 ·rcases qk8 h1 with ⟨rfl,h2⟩ | ⟨y,k',j,rfl,hy,h2⟩
  ·refine ⟨i,len,h2.1,h2.2,fun w=>?_⟩
   have hb:0≤i∧i≤len:=⟨by omega,h2.1.2.1⟩
   simp [Instr.sliceBounds,hx,qac hb]
  ·refine ⟨i,j,h2.1,h2.2,fun w=>?_⟩
   have hb:0≤j∧j≤cap:=⟨by omega,h2.1.2.2⟩
   have hb':0≤i∧i≤(j.toNat:Int):=⟨by omega,by omega⟩
   simp [Instr.sliceBounds,hx,hy,qac hb,qac hb']
theorem q8e {lo:Option Operand} {len cap:Nat} {h m:Int} {kh km:IntKind} {b:Bool} {K:Int→Prop}
  (hh:optI ρ lo 0 fun l=>(0≤l∧l≤h∧h≤m∧m≤cap)∧K l) :
  ∃ l:Int,(0≤l∧l≤h∧h≤m∧m≤cap)∧K l∧∀ w,(Instr.sliceBounds b len cap (lo.map ρ) (some (.int kh h)) (some (.int km m))).run P w=.ok (l.toNat,h.toNat,m.toNat) w:=by
 rcases qk8 hh with ⟨rfl,h1⟩ | ⟨x,k,i,rfl,hx,h1⟩
 ·refine ⟨0,h1.1,h1.2,fun w=>?_⟩
  obtain ⟨a1,a2,a3,a4⟩:=h1.1
  have e1:0≤m∧m≤cap:=⟨by omega,a4⟩
  have e2:0≤h∧h≤(m.toNat:Int):=⟨by omega,by omega⟩
  simp [Instr.sliceBounds,qac e1,qac e2]
 ·refine ⟨i,h1.1,h1.2,fun w=>?_⟩
  obtain ⟨a1,a2,a3,a4⟩:=h1.1
  have e1:0≤m∧m≤cap:=⟨by omega,a4⟩
  have e2:0≤h∧h≤(m.toNat:Int):=⟨by omega,by omega⟩
  have e3:0≤i∧i≤(h.toNat:Int):=⟨by omega,by omega⟩
  simp [Instr.sliceBounds,hx,qac e1,qac e2,qac e3]
theorem qfm {o:Option Operand} {d:Int} {K K':Int→Prop} (h:optI ρ o d K) (hk:∀ i,K i→K' i):optI ρ o d K':=by
 cases o with
 | none=>exact hk _ h
 | some x =>
  simp only [optI] at h ⊢
  split at h
  ·exact hk _ h
  ·exact h
theorem qfk {T:TypeId} {z:List Value} (h:qb5 P T=some z) (w:World):∃ v,v.cells.toList=z∧(zeroValue T).run P w=.ok v w:=by
 unfold qb5 at h
 cases hi:P.info? T with
 | none=>rw [hi] at h;cases h
 | some i =>
  rw [hi] at h
  simp only at h
  cases hz:i.zero with
  | none=>rw [hz] at h;cases h
  | some v =>
   rw [hz] at h
   simp only [Option.some.injEq] at h
   exact ⟨v,h,by simp [zeroValue,typeInfo,hi,hz]⟩
theorem qa7 {T:TypeId} (h:qb8 P T=true) (w:World):(sizeOf T).run P w=.ok (P.cellsOf T) w:=by
 unfold qb8 at h
 cases hi:P.info? T with
 | none=>rw [hi] at h;cases h
 | some i=>simp [sizeOf,typeInfo,hi,Program.cellsOf]
end
end Go.Sh
namespace Go.Sh
open Go
section
variable {P:Program} {ρ:Operand→Value} {K:Value→Prop}
theorem qxx:∀ (fs:List Field) (pl:List (Nat × Nat)),qlf P fs=some pl→fs.mapM (fun f=>(P.info? f.type).map fun i=>(f.offset,i.size))=some pl
 | [],pl,h=>by simp only [qlf] at h;exact h
 | f :: fs,pl,h=>by
  rw [qlf] at h
  cases hi:P.info? f.type with
  | none=>rw [hi] at h;cases h
  | some i =>
   rw [hi] at h
   simp only at h
   cases hr:qlf P fs with
   | none=>rw [hr] at h;cases h
   | some r =>
    rw [hr] at h
    simp only [Option.some.injEq] at h
    simp [hi,qxx fs r hr,h]
theorem built_of {T:TypeId} {z cs:List Value} {pl:Nat→Option (Nat × Nat)} {parts:List (Nat × Value)} (hz:qb5 P T=some z) (hpl:q81 P T=some pl)
  (hf:fillL pl z parts=some cs):P.built T parts=some ⟨cs⟩:=by
 unfold qb5 at hz
 cases hi:P.info? T with
 | none=>rw [hi] at hz;cases hz
 | some i =>
  rw [hi] at hz
  simp only at hz
  cases hzz:i.zero with
  | none=>rw [hzz] at hz;cases hz
  | some v =>
   rw [hzz] at hz
   simp only [Option.some.injEq] at hz
   have hv:v.cells=⟨z⟩:=by apply Array.ext';rw [hz]
   have:=q80 _ _ _ _ hf
   unfold q81 at hpl
   split at hpl
   ·rename_i fs hu
    split at hpl
    ·rename_i pl' hp
     simp only [Option.some.injEq] at hpl
     subst hpl
     simp [Program.built,hi,hu,hzz,qxx _ _ hp,hv,this]
    ·cases hpl
   ·rename_i n e hu
    split at hpl
    ·rename_i ie hie
     simp only [Option.some.injEq] at hpl
     subst hpl
     simp [Program.built,hi,hu,hzz,hie,hv,this]
    ·cases hpl
   ·cases hpl
theorem qne {T:TypeId} {b:Bool} (h:qpm P T=some b):(P.underlying T).isSome=true∧qxo P T=b:=by
 unfold qpm at h
 split at h
 ·rename_i d hd;rw [hd];exact ⟨rfl,by simpa using h⟩
 ·cases h
theorem q8k (o:Oper) (h:pureR P ρ o.op K):Pure1 P ρ o K:=by
 unfold Pure1
 cases ho:o.op <;> rw [ho] at h <;> simp only [pureR] at h
 case move x=>exact ⟨_,h,fun w=>by simp [execOp,ho]⟩
 case assign x=>exact ⟨_,h,fun w=>by simp [execOp,ho]⟩
 case pick c a b =>
  split at h
  ·rename_i t ht
   cases t with
   | true=>exact ⟨_,h,fun w=>by simp [execOp,ho,ht,asBool]⟩
   | false=>exact ⟨_,h,fun w=>by simp [execOp,ho,ht,asBool]⟩
  ·exact h.elim
 case extract t i =>
  split at h
  ·rename_i vs hv
   split at h
   ·rename_i v hi
    exact ⟨_,h,fun w=>by simp [execOp,ho,hv,Instr.extract];rw [show vs[i]? = some v by simpa using hi];rfl⟩
   ·exact h.elim
  ·exact h.elim
 case unOp u t x =>
  cases u <;> simp only at h
  ·split at h
   ·rename_i k n hx;exact ⟨_,h,fun w=>by simp [execOp,ho,hx,Op.unary,Op.intArith]⟩
   ·exact h.elim
  ·split at h
   ·rename_i b hx;exact ⟨_,h,fun w=>by simp [execOp,ho,hx,Op.unary]⟩
   ·exact h.elim
 case binOp op T x y U =>
  refine pure_bin ?_ o ho
  split at h
  ·rename_i hn
   split at h
   ·rename_i ms hy hT
    rw [hy];exact (q6r hn hT _).1 rfl h
   ·rename_i ms hy hT
    rw [hy];exact (q6r hn hT _).2 rfl h
   ·exact h.elim
  split at h
  ·rename_i k a k' b hx hy
   rw [hx,hy];exact q2f _ _ h
  ·rename_i a b hx hy
   rw [hx,hy];exact q2f _ _ h
  ·rename_i a b hx hy
   rw [hx,hy];exact aggR_sound _ _ h
  ·exact cmpR_sound _ _ h
 case fieldAddr s x f =>
  split at h
  ·rename_i off hoff
   split at h
   ·rename_i a ha
    obtain ⟨p,rfl,hk⟩:=qdb h
    refine ⟨_,hk,fun w=>?_⟩
    unfold fieldOff at hoff
    split at hoff
    ·rename_i fs hu
     split at hoff
     ·rename_i fd hfd
      split at hoff
      ·cases hoff
      ·rename_i n hn
       simp only [Option.some.injEq] at hoff
       subst hoff
       have hsz:(sizeOf fd.type).run P w=.ok (n + 1) w:=by
        unfold Program.cellsOf at hn
        cases hi:P.info? fd.type with
        | none=>simp [hi] at hn
        | some i=>simp [hi] at hn;simp [sizeOf,typeInfo,hi,hn]
       simp [execOp,ho,ha,Instr.fieldAt,underlying,hu,show fs[f]? = some fd by simpa using hfd,Instr.sureAddr,fieldPlace,hsz]
     ·cases hoff
    ·cases hoff
   ·exact h.elim
  ·exact h.elim
 case indexAddr T x i =>
  split at h
  ·rename_i el a n c k ii hT hx hi
   split at h
   ·rename_i hel
    obtain ⟨h0,h1,h2⟩:=h
    obtain ⟨p,rfl,hk⟩:=qdb h2
    refine ⟨_,hk,fun w=>?_⟩
    simp [execOp,ho,hx,hi,Instr.indexAt,asIntOf,underlying,hT,h0,h1,qa7 hel]
   ·exact h.elim
  ·rename_i len el a k ii hT hx hi
   split at h
   ·rename_i hel
    obtain ⟨h0,h1,h2⟩:=h
    obtain ⟨p,rfl,hk⟩:=qdb h2
    refine ⟨_,hk,fun w=>?_⟩
    simp [execOp,ho,hx,hi,Instr.indexAt,asIntOf,underlying,hT,h0,h1,qa7 hel,Instr.sureAddr]
   ·exact h.elim
  ·exact h.elim
 case index T x i =>
  split at h
  ·rename_i s k ii hT hx hi
   obtain ⟨h0,b,hb,hk⟩:=h
   refine ⟨_,hk,fun w=>?_⟩
   have hlt:ii.toNat < s.size:=by
    have:=(List.getElem?_eq_some_iff.1 hb).1
    simpa using this
   have hb':s[ii.toNat]? = some b:=by
    rw [ByteArray.getElem?_lt' s _ hlt]
    have:=(List.getElem?_eq_some_iff.1 hb).2
    simp at this
    exact congrArg some this
   simp [execOp,ho,hx,hi,Instr.index,asIntOf,underlying,hT,h0,hb']
  ·exact h.elim
 case slice T x lo hi mx =>
  cases mx with
  | some mx =>
   cases hi with
   | none=>exact h.elim
   | some hi =>
    simp only at h
    split at h
    ·rename_i el a n c kh hh km mm hT hx hhi hmx
     split at h
     ·rename_i hel
      obtain ⟨l,hb,hk,hr⟩:=q8e (P:=P) (ρ:=ρ) (lo:=lo) (len:=n) (cap:=c) (b:=true) (h:=hh) (m:=mm) (kh:=kh) (km:=km)
       (K:=fun l=>K (.slice (slA a mm.toNat l.toNat (P.cellsOf el)) (hh.toNat - l.toNat) (mm.toNat - l.toNat)))
       (qfm h fun l h=>by simpa [sls3,and_assoc] using h)
      refine ⟨_,hk,fun w=>?_⟩
      simp [execOp,ho,hx,hhi,hmx,Instr.sliceAt,Instr.slice,underlying,hT,hr,qa7 hel,slA]
     ·exact h.elim
    ·exact h.elim
  | none =>
   simp only at h
   split at h
   ·rename_i s hT hx
    obtain ⟨l,hh,hb,hk,hr⟩:=qr6 (P:=P) (ρ:=ρ) (lo:=lo) (hi:=hi) (len:=s.size) (cap:=s.size) (b:=false)
     (K:=fun l h=>K (.string ⟨⟨(s.data.toList.take h.toNat).drop l.toNat⟩⟩))
     (qfm h fun l h=>qfm h fun u h=>by simpa [ssl,and_assoc] using h)
    refine ⟨_,hk,fun w=>?_⟩
    have e:(⟨⟨(s.data.toList.take hh.toNat).drop l.toNat⟩⟩:ByteArray)=s.extract l.toNat hh.toNat:=by
     apply ByteArray.ext
     rw [ByteArray.data_extract]
     apply Array.ext'
     simp [List.extract_eq_take_drop,List.drop_take]
    rw [e]
    simp [execOp,ho,hx,Instr.sliceAt,Instr.slice,underlying,hT,hr]
   ·rename_i el a n c hT hx
    split at h
    ·rename_i hel
     obtain ⟨l,hh,hb,hk,hr⟩:=qr6 (P:=P) (ρ:=ρ) (lo:=lo) (hi:=hi) (len:=n) (cap:=c) (b:=true)
      (K:=fun l h=>K (.slice (slA a c l.toNat (P.cellsOf el)) (h.toNat - l.toNat) (c - l.toNat)))
      (qfm h fun l h=>qfm h fun u h=>by simpa [sls,and_assoc] using h)
     refine ⟨_,hk,fun w=>?_⟩
     simp [execOp,ho,hx,Instr.sliceAt,Instr.slice,underlying,hT,hr,qa7 hel,slA]
    ·exact h.elim
   ·rename_i len el a hT hx
    split at h
    ·rename_i hel
     obtain ⟨p,rfl,h3⟩:=qdb h
     clear h
     obtain ⟨l,hh,hb,hk,hr⟩:=qr6 (P:=P) (ρ:=ρ) (lo:=lo) (hi:=hi) (len:=len) (cap:=len) (b:=false)
      (K:=fun l h=>K (.slice (slA (some p) len l.toNat (P.cellsOf el)) (h.toNat - l.toNat) (len - l.toNat)))
      (qfm h3 fun l h=>qfm h fun u h=>by simpa [sls,and_assoc] using h)
     refine ⟨_,hk,fun w=>?_⟩
     simp [execOp,ho,hx,Instr.sliceAt,underlying,hT,hr,qa7 hel,slA,Instr.sureAddr]
     split <;> rfl
    ·exact h.elim
   ·exact h.elim
 case build T parts =>
  split at h
  ·rename_i z pl hz hpl
   split at h
   ·rename_i cs hf
    refine ⟨_,h,fun w=>?_⟩
    have hpm:(parts.map fun (x:Nat × Operand)=>(x.1,ρ x.2)).toList=parts.toList.map fun p=>(p.1,ρ p.2):=by simp
    have hb:=built_of (P:=P) hz hpl (hpm ▸ hf)
    have:=run_build w T (parts.map fun (x:Nat × Operand)=>(x.1,ρ x.2)) _ hb
    simp [execOp,ho,this]
   ·exact h.elim
  ·exact h.elim
 case field T x f =>
  split at h
  ·rename_i off ty cs hty hx
   unfold fieldTy at hty
   split at hty
   ·rename_i fs hu
    split at hty
    ·rename_i fd hfd
     simp only [Option.some.injEq,Prod.mk.injEq] at hty
     obtain ⟨rfl,rfl⟩:=hty
     have hfd':fs[f]? = some fd:=by simpa using hfd
     split at h
     ·rename_i h1 h2
      refine ⟨_,h,fun w=>?_⟩
      obtain ⟨hun,hb⟩:=qne h1
      have e:(⟨(cs.toList.drop fd.offset).take (P.cellsOf fd.type)⟩:Array Value)=cs.extract fd.offset (fd.offset + P.cellsOf fd.type):=by
       apply Array.ext';simp
      simp [execOp,ho,hx,Instr.field,underlying,hu,hfd',part,qpl P _ _ hun,hb,qa7 h2,asAgg,e]
     ·rename_i h1
      split at h
      ·rename_i v hv
       refine ⟨_,h,fun w=>?_⟩
       obtain ⟨hun,hb⟩:=qne h1
       have hv':cs[fd.offset]? = some v:=by simpa using hv
       simp [execOp,ho,hx,Instr.field,underlying,hu,hfd',part,qpl P _ _ hun,hb,asAgg,hv']
      ·exact h.elim
     ·exact h.elim
    ·cases hty
   ·cases hty
  ·exact h.elim
 case makeFunc fn first cap =>
  refine ⟨_,h,fun w=>?_⟩
  have e1:Array.map ρ first=⟨first.toList.map ρ⟩:=by apply Array.ext';simp
  have e2:Array.map ρ cap=⟨cap.toList.map ρ⟩:=by apply Array.ext';simp
  simp [execOp,ho,Instr.makeFunc,e1,e2]
 case nilCheck x =>
  split at h
  ·rename_i a ha
   obtain ⟨p,rfl,hk⟩:=qdb h
   exact ⟨_,hk,fun w=>by simp [execOp,ho,ha]⟩
  ·exact h.elim
 case convert s d x =>
  split at h
  ·rename_i k k' k'' n hs hd hx
   exact ⟨_,h,fun w=>by simp [execOp,ho,hx,convert,underlying,hs,hd,Conv.intToInt]⟩
  ·rename_i t hs hd hx
   exact ⟨_,h,fun w=>by simp [execOp,ho,hx,convert,underlying,hs,hd]⟩
  ·rename_i k k' n hs hd hx
   exact ⟨_,h,fun w=>by simp only [ba_eta];simp [execOp,ho,hx,convert,underlying,hs,hd,Conv.intToString]⟩
  ·exact h.elim
 case makeInterface T x =>
  split at h
  ·exact h.elim
  ·rename_i d hd hT
   refine ⟨_,h,fun w=>?_⟩
   cases d <;> first
    | (exact (hd _ rfl).elim)
    | (exact absurd hT (hd _))
    | simp [execOp,ho,Instr.makeInterface,underlying,hT]
  ·exact h.elim
 case call c =>
  split at h
  ·rename_i hc
   split at h
   ·rename_i x t hargs hts
    have ha:c.args=#[x]:=by apply Array.ext';simpa using hargs
    have ht:c.argTypes=#[t]:=by apply Array.ext';simpa using hts
    split at h
    ·rename_i s hT hx
     exact ⟨_,h,fun w=>by simp [execOp,ho,resolve,hc,ha,ht,hx,invoke,builtin,Builtin.len_,underlying,hT,goInt]⟩
    ·rename_i el a n c hT hx
     exact ⟨_,h,fun w=>by simp [execOp,ho,resolve,hc,ha,ht,hx,invoke,builtin,Builtin.len_,underlying,hT,goInt]⟩
    ·rename_i n e hT
     exact ⟨_,h,fun w=>by simp [execOp,ho,resolve,hc,ha,ht,invoke,builtin,Builtin.len_,underlying,hT,goInt]⟩
    ·exact h.elim
   ·exact h.elim
  ·rename_i hc
   split at h
   ·rename_i x t hargs hts
    have ha:c.args=#[x]:=by apply Array.ext';simpa using hargs
    have ht:c.argTypes=#[t]:=by apply Array.ext';simpa using hts
    split at h
    ·rename_i el a n c hT hx
     exact ⟨_,h,fun w=>by simp [execOp,ho,resolve,hc,ha,ht,hx,invoke,builtin,Builtin.cap_,underlying,hT,goInt]⟩
    ·exact h.elim
   ·exact h.elim
  ·rename_i hc
   split at h
   ·rename_i k x vs hargs
    obtain ⟨v,hk,hr⟩:=qni (P:=P) _ Builtin.max2 (fun k x y k'=>by simp only [Builtin.max2];congr 2;omega) k vs x h
    have ha:(c.args.map ρ).toList=.int k x :: vs:=by simpa using hargs
    exact ⟨v,hk,fun w=>by simp [execOp,ho,resolve,hc,invoke,builtin,Builtin.max_,hargs,hr]⟩
   ·exact h.elim
  ·rename_i hc
   split at h
   ·rename_i k x vs hargs
    obtain ⟨v,hk,hr⟩:=qni (P:=P) _ Builtin.min2 (fun k x y k'=>by simp only [Builtin.min2];congr 2;omega) k vs x h
    exact ⟨v,hk,fun w=>by simp [execOp,ho,resolve,hc,invoke,builtin,Builtin.min_,hargs,hr]⟩
   ·exact h.elim
  ·exact h.elim
 all_goals exact h.elim
end
end Go.Sh
namespace Go.Sh
open Go
def Fr (r:Option Nat):Fence:={ Fence.wide with round:=r }
def okFn (P:Program) (g:FuncId):Bool :=
 match P.funcs[g]? with
 | some fn => (match fn.name == "runtime.NumGoroutine" with | true => false | false => fn.body.isSome)
 | none=>false
def YieldP (P:Program) (l:Nat) (args:List Value) (w:World) (R:Ending→World→Prop):Prop:=YieldAt Fence.wide 0 P l ⟨args⟩ w R
def CallV (P:Program) (f:Value) (args:List Value) (w:World) (R:Ending→World→Prop):Prop :=
 match f with
 | .func (.func g) first cap=>okFn P g=true∧Calls P g ⟨first.toList++(args++cap.toList)⟩ w R
 | .func (.yield l) first _=>YieldP P l (first.toList++args) w R
 | _=>False
def stR (P:Program) (ρ:Operand→Value) (op:Op) (ty:TypeId) (w:World) (next:Value→World→Prop):Prop :=
 match op with
 | .load T a=>match ρ a,qpm P T,Nat.beq (qj9 P 8 T).length (P.cellsOf T),qb8 P T with
  | .pointer a,some _,true,true=>dr a fun p=>ld1 w p (sh1Of P T) fun v=>next v w
  | _,_,_,_=>False
 | .store T a x=>match ρ a,qb8 P T,Nat.beq (ρ x).cells.toList.length (P.cellsOf T) with
  | .pointer a,true,true=>dr a fun p=>stL w p 0 (ρ x).cells.toList fun w'=>next undef w'
  | _,_,_=>False
 | .alloc T=>match qb5 P T with
  | some z=>al w T z fun p w'=>next (.pointer (some p)) w'
  | none=>False
 | .box T x=>al w T (ρ x).cells.toList fun p w'=>next (.pointer (some p)) w'
 | .buildSlice T len parts=>match P.underlying T with
  | some (.slice el)=>match qb5 P el,qb8 P el,Nat.ble (len * P.cellsOf el) 16777216,Nat.blt 0 (P.cellsOf el) with
   | some z,true,true,true=>match Nat.beq z.length (P.cellsOf el) with
    | true=>match fillL (fun i=>some (i * P.cellsOf el,P.cellsOf el)) (List.replicate len z).flatten (parts.toList.map fun p=>(p.1,ρ p.2)) with
     | some cs=>al w el cs fun p w'=>next (.slice (some p) len len) w'
     | none=>False
    | false=>False
   | _,_,_,_=>False
  | _=>False
 | .makeSlice T l c=>match P.underlying T,ρ l,ρ c with
  | some (.slice el),.int .i64 l,.int .i64 c=>match qb5 P el,qb8 P el,(Nat.blt 0 (P.cellsOf el)&&Nat.blt 0 (P.bytesOf el)) with
   | some z,true,true=>match Nat.beq z.length (P.cellsOf el) with
    | true=>mks w el (P.bytesOf el) z l c fun p w'=>next (.slice (some p) l.toNat c.toNat) w'
    | false=>False
   | _,_,_=>False
  | _,_,_=>False
 | .makeMap T r=>match r with
  | none=>mkm w fun b w'=>next (.map (some b)) w'
  | some x=>match P.underlying T,ρ x with
   | some (.map _ _),.int _ _=>mkm w fun b w'=>next (.map (some b)) w'
   | _,_=>False
 | .mapUpdate T m k v=>mupd P T (ρ m) (ρ k) (ρ v) w fun w'=>next undef w'
 | .lookup T x i ok=>match P.underlying T,ok with
  | some (.map _ e),false=>ex1 (sh1Of P e) fun v=>lkAt P T (ρ x) (ρ i) w v∧next v w
  | some (.map _ e),true=>ex1 (sh1Of P e) fun v=>∃ b:Bool,lkAt2 P T (ρ x) (ρ i) w v b∧next (.tuple ⟨[v,.bool b]⟩) w
  | _,_=>False
 | .convert s d x=>match P.underlying s,P.underlying d,ρ x with
  | some (.slice el),some .string,.slice a n c=>match P.underlying el with
   | some (.int .u8)=>b2s P w a n c fun l=>next (.string ⟨⟨l⟩⟩) w
   | _=>False
  | some .string,some (.slice el),.string t=>match P.underlying el with
   | some (.int .u8)=>s2b P w el t.data.toList fun a n c w'=>next (.slice a n c) w'
   | _=>False
  | _,_,_=>pureR P ρ op fun v=>next v w
 | .call c=>match c.callee with
  | .value (.func g)=>match okFn P g with
   | true=>Calls P g ⟨c.args.toList.map ρ⟩ w fun en w'=>exS (shpOf P ty) fun v=>en=.returned v∧next v w'
   | false=>False
  | .value f=>CallV P (ρ f) (c.args.toList.map ρ) w fun en w'=>exS (shpOf P ty) fun v=>en=.returned v∧next v w'
  | .builtin .append=>match c.args.toList.map ρ with
   | [s,x]=>app P c.argTypes.toList ty s x w fun a n k w'=>next (.slice a n k) w'
   | _=>False
  | .builtin .clear=>clr P c.argTypes.toList ty (c.args.toList.map ρ) w fun w'=>next (.tuple ⟨[]⟩) w'
  | .builtin .copy=>cpy P c.argTypes.toList ty (c.args.toList.map ρ) w fun n w'=>next (.int .i64 n) w'
  | .builtin .delete=>mdel P c.argTypes.toList ty (c.args.toList.map ρ) w fun w'=>next (.tuple ⟨[]⟩) w'
  | _=>pureR P ρ op fun v=>next v w
 | _=>pureR P ρ op fun v=>next v w
def qai:Op→Bool | .defer _=>true | _=>false
def Does (P:Program) (r:Option Nat) (ρ:Operand→Value) (o:Oper) (w:World) (next:Value→World→Prop):Prop :=
 ∀ (a:Act) (Nx:Act→World→Prop) (Q:Exit→Act→World→Prop),(∀ v w',next v w'→Nx (a.put o.dst v) w') →
  o.uponIn (Fr r) 0 P a Nx Q ((o.semAt r ρ).run P w)
section
variable {P:Program} {r:Option Nat} {ρ:Operand→Value} {o:Oper} {w:World} {next:Value→World→Prop}
theorem Does.value {v:Value} {w':World} (hd:qai o.op=false) (h:(execOp ρ o).run P w=.ok (.value v) w') (hn:next v w'):Does P r ρ o w next:=by
 intro a Nx Q hx
 rw [Oper.semAt_eq _ _ _ (fun c hc=>by rw [hc] at hd;cases hd),h]
 exact hx _ _ hn
theorem Does.skip {w':World} (hd:qai o.op=false) (h:(execOp ρ o).run P w=.ok .skip w') (hn:next undef w'):Does P r ρ o w next:=by
 intro a Nx Q hx
 rw [Oper.semAt_eq _ _ _ (fun c hc=>by rw [hc] at hd;cases hd),h]
 exact hx _ _ hn
theorem Does.enter {f:FuncId} {args:Array Value} {w':World} {S:Shp} (hd:qai o.op=false) (h:(execOp ρ o).run P w=.ok (.enter f args) w')
  (hn:Calls P f args w' fun en w''=>exS S fun v=>en=.returned v∧next v w''):Does P r ρ o w next:=by
 intro a Nx Q hx
 rw [Oper.semAt_eq _ _ _ (fun c hc=>by rw [hc] at hd;cases hd),h]
 refine ⟨fun hh=>by simp [Fr,Fence.wide] at hh,?_⟩
 show CallsIn Fence.wide 0 P f args w' _
 refine (callsIn_wide.2 hn).mono ?_
 intro e w'' he
 obtain ⟨v,rfl,hv⟩:=exS_elim he
 exact hx _ _ hv
theorem Does.yield {l:Nat} {args:Array Value} {S:Shp} (hd:qai o.op=false) (h:(execOp ρ o).run P w=(Instr.yield l args).run P w)
  (hn:YieldAt Fence.wide 0 P l args w fun en w''=>exS S fun v=>en=.returned v∧next v w''):Does P r ρ o w next:=by
 intro a Nx Q hx
 obtain ⟨fn,tmps,assign,body,hy,hr⟩:=hn
 rw [Oper.semAt_eq _ _ _ (fun c hc=>by rw [hc] at hd;cases hd),h,hy]
 refine ⟨fun hh=>by simp [Fr,Fence.wide] at hh,?_⟩
 show RoundIn Fence.wide 0 P l fn tmps assign body w _
 refine hr.mono ?_
 intro e w'' he
 obtain ⟨v,rfl,hv⟩:=exS_elim he
 exact hx _ _ hv
theorem Does.pure (hd:qai o.op=false) (h:pureR P ρ o.op fun v=>next v w):Does P r ρ o w next:=by
 obtain ⟨v,hk,hr⟩:=q8k o h
 exact Does.value hd (hr w) hk
end
end Go.Sh
namespace Go.Sh
open Go
theorem q2n (z:List Value) (k:Nat) (hk:z.length=k) (hpos:0 < k):∀ n:Nat,(List.range (n * k)).map (fun i=>z.toArray[i % k]!)=(List.replicate n z).flatten
 | 0=>by simp
 | n + 1=>by
  rw [Nat.succ_mul,List.range_add,List.map_append,q2n z k hk hpos n,List.replicate_succ',List.flatten_append]
  congr 1
  simp only [List.map_map,List.flatten_singleton]
  apply List.ext_getElem
  ·simp [hk]
  ·intro i h1 h2
   simp only [List.length_map,List.length_range] at h1
   have:(n * k + i) % k=i:=by rw [Nat.mul_comm,Nat.mul_add_mod];exact Nat.mod_eq_of_lt h1
   have h3:i < z.length:=by omega
   simp [this,h3]
theorem q6p {w:World} {p:Addr} {a:Atom} {K:Value→Prop} (h:ldA w p a K):∃ v,w.cell? p=some v∧K v:=by
 cases a with
 | slice=>obtain ⟨x,n,c,h1,hk⟩:=h;exact ⟨_,h1,hk⟩
 | fn=>obtain ⟨x,n,c,h1,hk⟩:=h;exact ⟨_,h1,hk⟩
 | bool=>obtain ⟨x,h1,hk⟩:=h;exact ⟨_,h1,hk⟩
 | int k=>obtain ⟨x,h1,hk⟩:=h;exact ⟨_,h1,hk⟩
 | str=>obtain ⟨x,h1,hk⟩:=h;exact ⟨_,h1,hk⟩
 | ptr=>obtain ⟨x,h1,hk⟩:=h;exact ⟨_,h1,hk⟩
 | any=>obtain ⟨x,h1,hk⟩:=h;exact ⟨_,h1,hk⟩
theorem q6o {w:World} {p:Addr}:∀ {l:List Atom} {i:Nat} {K:List Value→Prop},ldL w p i l K →
  ∃ vs,vs.length=l.length∧(∀ j v,vs[j]? = some v→w.cell? (p.add (i + j))=some v)∧K vs
 | [],i,K,h=>⟨[],rfl,fun j v hj=>by simp at hj,h⟩
 | a :: l,i,K,h=>by
  obtain ⟨v,h1,h2⟩:=q6p h
  obtain ⟨vs,h3,h4,h5⟩:=q6o h2
  refine ⟨v :: vs,by simp [h3],fun j u hj=>?_,h5⟩
  cases j with
  | zero=>simp at hj;subst hj;exact h1
  | succ j =>
   have:=h4 j u (by simpa using hj)
   rw [show i + (j + 1)=i + 1 + j by omega];exact this
theorem ql5 {P:Program} {p:Addr}:∀ {vs:List Value} {w:World} {i:Nat} {K:World→Prop},stL w p i vs K →
  ∃ w',(storeCells p vs i).run P w=.ok () w'∧K w'
 | [],w,i,K,h=>⟨w,rfl,h⟩
 | v :: vs,w,i,K,h=>by
  obtain ⟨⟨u,hu⟩,hf,ho,hk⟩:=h
  obtain ⟨w',hr,hk'⟩:=ql5 (P:=P) hk
  refine ⟨w',?_,hk'⟩
  rw [storeCells]
  simp only [Sem.run_bind]
  have:(store (p.add i) v).run P w=.ok () (w.setCell (p.add i) v):=by
   rw [run_store P w _ _ _ ho,hu];simp [hf]
  rw [this]
  exact hr
section
variable {P:Program} {r:Option Nat} {ρ:Operand→Value} {w:World} {next:Value→World→Prop}
theorem qeo {g:FuncId} (args:Array Value) (w:World) (h:okFn P g=true):(callFunc g args).run P w=.ok (.enter g args) w:=by
 unfold okFn at h
 unfold callFunc
 simp only [Sem.run_bind,run_program,Result.andThen_ok]
 cases hf:P.funcs[g]? with
 | none=>rw [hf] at h;cases h
 | some fn =>
  rw [hf] at h
  simp only at h ⊢
  split at h
  ·cases h
  ·rename_i hn
   rw [if_neg (by simp [hn])]
   have:fn.body.isNone=false:=by cases hb:fn.body <;> simp_all
   simp [this]
theorem ld_run {T:TypeId} {p:Addr} {b:Bool} {K:Value→Prop} (hag:qpm P T=some b) (hl:Nat.beq (qj9 P 8 T).length (P.cellsOf T)=true) (hi:qb8 P T=true)
  (h:ld1 w p (sh1Of P T) K):∃ v,(loadVar T p).run P w=.ok v w∧K v:=by
 obtain ⟨hun,hb⟩:=qne hag
 have hl':=Nat.eq_of_beq_eq_true hl
 unfold loadVar
 simp only [Sem.run_bind,qpl P T w hun,Result.andThen_ok]
 have hcase:(qxo P T=true∧sh1Of P T=.agg (qj9 P 8 T))∨(qxo P T=false∧∃ a,sh1Of P T=.one a):=by
  unfold qxo sh1Of
  cases hu:P.underlying T with
  | none=>rw [hu] at hun;cases hun
  | some d=>cases d <;> simp
 rcases hcase with ⟨h1,h2⟩ | ⟨h1,a,h2⟩
 ·rw [h1,if_pos rfl]
  rw [h2] at h
  obtain ⟨vs,h3,h4,h5⟩:=q6o h
  have hc:=run_loadCells_list (P:=P) (w:=w) p vs (fun j v hj=>by have:=h4 j v hj;rwa [Nat.zero_add] at this)
  rw [h3,hl'] at hc
  refine ⟨_,?_,h5⟩
  simp only [Sem.run_bind,qa7 hi,Result.andThen_ok,hc,Sem.run_pure]
 ·rw [h1,if_neg (by simp)]
  rw [h2] at h
  obtain ⟨v,h3,h4⟩:=q6p h
  exact ⟨v,by simp [run_load,h3],h4⟩
theorem q5v (hρ:∀ f,ρ (.func f)=.func (.func f) #[] #[]) (o:Oper) (h:stR P ρ o.op o.type w next):Does P r ρ o w next:=by
 cases ho:o.op <;> rw [ho] at h
 case load T a =>
  simp only [stR] at h
  split at h
  ·rename_i a' b ha hag hl hi
   obtain ⟨p,rfl,h1⟩:=qdb h
   obtain ⟨v,hr,hk⟩:=ld_run hag hl hi h1
   exact Does.value (by simp [ho,qai]) (by simp [execOp,ho,Instr.loadAt,ha,Instr.sureAddr,hr]) hk
  ·exact h.elim
 case store T a x =>
  simp only [stR] at h
  split at h
  ·rename_i a' ha hi hl
   obtain ⟨p,rfl,h1⟩:=qdb h
   obtain ⟨w',hr,hk⟩:=ql5 (P:=P) h1
   have hl':(ρ x).cells.size=P.cellsOf T:=Nat.eq_of_beq_eq_true hl
   exact Does.skip (by simp [ho,qai]) (by simp [execOp,ho,Instr.storeAt,ha,Instr.sureAddr,storeVar,qa7 hi,hl',hr]) hk
  ·exact h.elim
 case alloc T =>
  simp only [stR] at h
  split at h
  ·rename_i z hz
   obtain ⟨v,hv,hr⟩:=qfk hz w
   have hv':v.cells=⟨z⟩:=by apply Array.ext';rw [hv]
   exact Does.value (by simp [ho,qai]) (by simp [execOp,ho,Instr.alloc,hr,newVar,newRow,hv']) h
  ·exact h.elim
 case box T x =>
  simp only [stR] at h
  exact Does.value (by simp [ho,qai]) (by simp [execOp,ho,Instr.box,newVar,newRow]) h
 case buildSlice T len parts =>
  simp only [stR] at h
  split at h
  ·rename_i el hT
   split at h
   ·rename_i z hz hi hle hpos
    split at h
    ·rename_i hzl
     split at h
     ·rename_i cs hf
      obtain ⟨v,hv,hr⟩:=qfk hz w
      have hz0:=Nat.eq_of_beq_eq_true hzl
      have hpos':0 < P.cellsOf el:=by simpa [Nat.blt_eq] using hpos
      have hle':len * P.cellsOf el≤16777216:=by simpa [Nat.ble_eq] using hle
      have e1:Array.map (fun i=>v.cells[i % v.cells.size]!) (Array.range (len * P.cellsOf el))=⟨(List.replicate len z).flatten⟩:=by
       have hv':v.cells=⟨z⟩:=by apply Array.ext';rw [hv]
       have:=q2n z (P.cellsOf el) hz0 hpos' len
       apply Array.ext'
       rw [← this,hv']
       simp [hz0]
      have hfe:=q80 _ _ _ _ hf
      rw [← e1] at hfe
      have hmm:(parts.toList.map fun p=>(p.1,ρ p.2))=(Array.map (fun (x:Nat × Operand)=>(x.1,ρ x.2)) parts).toList:=by simp
      refine Does.value (by simp [ho,qai]) (v:=.slice (some ⟨w.heap.size,0,none⟩) len len) (w':=w.alloc (.cells ⟨cs⟩ el)) ?_ h
      simp only [execOp,ho,Instr.buildSlice,Sem.run_bind,run_underlying hT,qa7 hi,Result.andThen_ok,if_neg (show ¬ len * P.cellsOf el > 2 ^ 24 by omega),Sem.run_pure]
      by_cases h0:len * P.cellsOf el=0
      ·rw [if_pos h0]
       rw [h0] at hfe
       have hr0:Array.range 0=#[]:=by simp
       simp only [hr0,List.map_toArray,List.map_nil,Array.map_empty] at hfe
       simp [h0,hr0,hfe,newRow]
      ·rw [if_neg h0]
       simp only [Sem.run_bind,hr,Result.andThen_ok,Sem.run_pure]
       rw [← hmm,hfe]
       simp [newRow]
     ·exact h.elim
    ·exact h.elim
   ·exact h.elim
  ·exact h.elim
 case makeSlice T l c =>
  simp only [stR] at h
  split at h
  ·rename_i el l' c' hT hl hc
   split at h
   ·rename_i z hz hi hpos
    split at h
    ·rename_i hzl
     obtain ⟨h0,h1,h2,h3⟩:=h
     obtain ⟨v,hv,hr⟩:=qfk hz w
     have hz0:=Nat.eq_of_beq_eq_true hzl
     simp only [Bool.and_eq_true] at hpos
     have hpos':0 < P.cellsOf el:=by simpa [Nat.blt_eq] using hpos.1
     have hb':0 < P.bytesOf el:=by simpa [Nat.blt_eq] using hpos.2
     have hc47:c'≤140737488355328:=by
      have:(1:Int) * c'≤(P.bytesOf el:Int) * c':=Int.mul_le_mul_of_nonneg_right (by omega) (by omega)
      omega
     have hwl:IntKind.i64.wrap l'=l':=IntWalk.i64_in _ (by omega)
     have hwc:IntKind.i64.wrap c'=c':=IntWalk.i64_in _ (by omega)
     have hti:∃ i,(typeInfo el).run P w=.ok i w∧i.bytes=P.bytesOf el:=by
      unfold qb8 at hi
      cases hinf:P.info? el with
      | none=>rw [hinf] at hi;cases hi
      | some i=>exact ⟨i,by simp [typeInfo,hinf],by simp [Program.bytesOf,hinf]⟩
     obtain ⟨i,hti,hib⟩:=hti
     have hv':v.cells=⟨z⟩:=by apply Array.ext';rw [hv]
     have e1:Array.map (fun i=>v.cells[i % v.cells.size]!) (Array.range (c'.toNat * P.cellsOf el))=⟨(List.replicate c'.toNat z).flatten⟩:=by
      have:=q2n z (P.cellsOf el) hz0 hpos' c'.toNat
      apply Array.ext'
      rw [← this,hv']
      simp [hz0]
     have hnot:¬ ((decide (c' < 0)||decide ((i.bytes:Int) * c' > 2 ^ 48)||decide (l' < 0)||decide (l' > c'))=true):=by
      rw [hib]
      simp only [Bool.or_eq_true,decide_eq_true_eq]
      omega
     refine Does.value (by simp [ho,qai]) (v:=.slice (some ⟨w.heap.size,0,none⟩) l'.toNat c'.toNat) (w':=w.alloc (.cells ⟨(List.replicate c'.toNat z).flatten⟩ el)) ?_ h3
     simp only [execOp,ho,Instr.makeSlice,Sem.run_bind,run_underlying hT,Result.andThen_ok,hl,hc,asInt,asIntOf,Sem.run_pure,hti,hwl,hwc]
     rw [if_neg (by simpa using hnot)]
     simp only [Sem.run_bind,run_askRoom,Result.andThen_ok,qa7 hi,Sem.run_pure]
     by_cases h0':c'.toNat * P.cellsOf el=0
     ·rw [if_pos h0',← e1,h0']
      have hr0:Array.range 0=#[]:=by simp
      simp [hr0,newRow]
     ·rw [if_neg h0']
      simp only [Sem.run_bind,hr,Result.andThen_ok,Sem.run_pure]
      rw [← e1]
      simp [newRow]
    ·exact h.elim
   ·exact h.elim
  ·exact h.elim
 case makeMap T r =>
  simp only [stR] at h
  cases r with
  | none=>exact Does.value (by simp [ho,qai]) (by simp [execOp,ho,Instr.makeMap]) h
  | some x =>
   simp only at h
   split at h
   ·rename_i k e q n hT hx
    exact Does.value (by simp [ho,qai]) (by simp [execOp,ho,Instr.makeMap,underlying,hT,hx,asInt,asIntOf]) h
   ·exact h.elim
 case mapUpdate T m k v =>
  simp only [stR] at h
  obtain ⟨w',hr,hk⟩:=h
  exact Does.skip (by simp [ho,qai]) (by simp [execOp,ho,hr]) hk
 case lookup T x i ok =>
  simp only [stR] at h
  split at h
  ·obtain ⟨v,hv⟩:=qv1 h
   exact Does.value (by simp [ho,qai]) (by have:=hv.1;unfold lkAt at this;simp [execOp,ho,this]) hv.2
  ·obtain ⟨v,b,hv⟩:=qv1 h
   exact Does.value (by simp [ho,qai]) (by have:=hv.1;unfold lkAt2 at this;simp [execOp,ho,this]) hv.2
  ·exact h.elim
 case convert s d x =>
  simp only [stR] at h
  split at h
  ·rename_i el a n c hs hd hx
   split at h
   ·rename_i hel
    obtain ⟨l,hr,hk⟩:=h
    exact Does.value (by simp [ho,qai]) (by simp [execOp,ho,convert,hx,underlying,hs,hd,hel,hr]) hk
   ·exact h.elim
  ·rename_i el t hs hd hx
   split at h
   ·rename_i hel
    obtain ⟨a,n,c,w',hr,hk⟩:=h
    rw [ba_eta] at hr
    exact Does.value (by simp [ho,qai]) (by simp [execOp,ho,convert,hx,underlying,hs,hd,hel,hr]) hk
   ·exact h.elim
  ·exact Does.pure (by simp [ho,qai]) (by rw [ho];exact h)
 case call c =>
  simp only [stR] at h
  split at h
  ·rename_i g hc
   split at h
   ·rename_i hok
    refine Does.enter (by simp [ho,qai]) ?_ h
    have e:Array.map ρ c.args=⟨c.args.toList.map ρ⟩:=by apply Array.ext';simp
    have e2:ρ (.func g)=ρ (.func g):=rfl
    simp only [execOp,ho,resolve,hc,hρ,Deferred.ofValue,Sem.run_bind,Sem.run_pure,Result.andThen_ok,invoke,e]
    have:=qeo (P:=P) ⟨c.args.toList.map ρ⟩ w hok
    simp [this]
   ·exact h.elim
  ·rename_i f hc1 hc
   have e:Array.map ρ c.args=⟨c.args.toList.map ρ⟩:=by apply Array.ext';simp
   unfold CallV at h
   split at h
   ·rename_i g first cap hv
    obtain ⟨hok,h⟩:=h
    refine Does.enter (by simp [ho,qai]) ?_ h
    have e3:first++(⟨c.args.toList.map ρ⟩:Array Value)++cap=⟨first.toList++(c.args.toList.map ρ++cap.toList)⟩:=by apply Array.ext';simp
    simp only [execOp,ho,resolve,hc,hv,Deferred.ofValue,Sem.run_bind,Sem.run_pure,Result.andThen_ok,invoke,e,e3]
    exact qeo _ w hok
   ·rename_i l first cap hv
    refine Does.yield (by simp [ho,qai]) ?_ h
    have e3:first++(⟨c.args.toList.map ρ⟩:Array Value)=⟨first.toList++c.args.toList.map ρ⟩:=by apply Array.ext';simp
    simp only [execOp,ho,resolve,hc,hv,Deferred.ofValue,Sem.run_bind,Sem.run_pure,Result.andThen_ok,invoke,e,e3]
   ·exact h.elim
  ·rename_i hc
   split at h
   ·rename_i s x hargs
    obtain ⟨a,n,k,w',hr,hk⟩:=h
    have e1:(⟨c.argTypes.toList⟩:Array TypeId)=c.argTypes:=by apply Array.ext';rfl
    have e2:Array.map ρ c.args=#[s,x]:=by apply Array.ext';simpa using hargs
    rw [e1] at hr
    exact Does.value (by simp [ho,qai]) (by simp [execOp,ho,resolve,hc,invoke,builtin,e2,hr]) hk
   ·exact h.elim
  ·rename_i hc
   obtain ⟨w',hr,hk⟩:=h
   have e1:(⟨c.argTypes.toList⟩:Array TypeId)=c.argTypes:=by apply Array.ext';rfl
   have e2:Array.map ρ c.args=⟨c.args.toList.map ρ⟩:=by apply Array.ext';simp
   rw [e1,← e2] at hr
   exact Does.value (by simp [ho,qai]) (by simp [execOp,ho,resolve,hc,invoke,builtin,hr]) hk
  ·rename_i hc
   obtain ⟨n,w',hr,hk⟩:=h
   have e1:(⟨c.argTypes.toList⟩:Array TypeId)=c.argTypes:=by apply Array.ext';rfl
   have e2:Array.map ρ c.args=⟨c.args.toList.map ρ⟩:=by apply Array.ext';simp
   rw [e1,← e2] at hr
   exact Does.value (by simp [ho,qai]) (by simp [execOp,ho,resolve,hc,invoke,builtin,hr]) hk
  ·rename_i hc
   obtain ⟨w',hr,hk⟩:=h
   have e1:(⟨c.argTypes.toList⟩:Array TypeId)=c.argTypes:=by apply Array.ext';rfl
   have e2:Array.map ρ c.args=⟨c.args.toList.map ρ⟩:=by apply Array.ext';simp
   rw [e1,← e2] at hr
   exact Does.value (by simp [ho,qai]) (by simp [execOp,ho,resolve,hc,invoke,builtin,hr]) hk
  ·exact Does.pure (by simp [ho,qai]) (by rw [ho];exact h)
 case defer c=>exact absurd h (by simp [stR,pureR])
 all_goals exact Does.pure (by simp [ho,qai]) (by rw [ho];exact h)
end
end Go.Sh
namespace Go.Sh
open Go
def q14 (op:Op):List Nat:=op.operands.toList.filterMap fun | .tmp t=>some t | _=>none
theorem ev_congr {e e':Env} {x:Operand} (h:∀ t,x=.tmp t→e t=e' t):ev e x=ev e' x:=by
 cases x with
 | tmp t=>exact h t rfl
 | _=>rfl
def Keeps (w w':World):Prop:=∀ p u,w.cell? p=some u→w'.cell? p=some u
theorem Keeps.refl (w:World):Keeps w w:=fun _ _ h=>h
theorem Keeps.trans {a b c:World} (h:Keeps a b) (k:Keeps b c):Keeps a c:=fun p u x=>k p u (h p u x)
theorem Keeps.alloc (w:World) (o:Obj):Keeps w (w.alloc o):=fun p u h=>by
 rw [World.cell?_alloc_lt];exact h;exact World.block_lt_of_cell? w p h
section
variable {P:Program} {ρ ρ':Operand→Value}
theorem q84 {a:Option Addr} {K K':Addr→Prop} (h:dr a K) (hk:∀ p,K p→K' p):dr a K':=by
 cases a with
 | none=>exact h
 | some p=>exact hk p h
def PureV (P:Program) (ρ:Operand→Value) (op:Op) (v:Value):Prop:=∀ K:Value→Prop,K v→pureR P ρ op K
theorem ifc_det {K:Value→Prop} {v:Value} (f:Bool→Value) (h:ifc v fun b=>K (f b)):∃ u,K u∧∀ K':Value→Prop,K' u→ifc v fun b=>K' (f b):=by
 cases v <;> first | exact ⟨_,h,fun _ hk=>hk⟩ | exact h.elim
theorem binR_det {op:BinOp} {a b:Value} {K:Value→Prop} (h:binR op a b K):∃ v,K v∧∀ K':Value→Prop,K' v→binR op a b K':=by
 unfold binR at h ⊢
 split at h
 ·split at h <;> first
   | exact ⟨_,h,fun _ hk=>hk⟩
   | exact ⟨_,h.2,fun _ hk=>⟨h.1,hk⟩⟩
   | exact h.elim
 ·split at h <;> first
   | exact ⟨_,h,fun _ hk=>hk⟩
   | exact ⟨_,h.2,fun _ hk=>⟨h.1,hk⟩⟩
   | exact h.elim
 ·exact h.elim
theorem cmpR_det {d:Option TypeDesc} {op:BinOp} {a b:Value} {K:Value→Prop} (h:cmpR d op a b K):∃ v,K v∧∀ K':Value→Prop,K' v→cmpR d op a b K':=by
 unfold cmpR at h ⊢
 split at h
 ·split at h <;> first | exact ⟨_,h,fun _ hk=>hk⟩ | exact h.elim
 ·split at h <;> first | exact ⟨_,h,fun _ hk=>hk⟩ | exact h.elim
 ·split at h <;> first | exact ⟨_,h,fun _ hk=>hk⟩ | exact h.elim
 ·exact h.elim
theorem aggR_det {T:TypeId} {op:BinOp} {a b:Value} {K:Value→Prop} (h:aggR P T op a b K):∃ v,K v∧∀ K':Value→Prop,K' v→aggR P T op a b K':=by
 unfold aggR at h ⊢
 split at h
 ·exact ⟨_,h,fun _ hk=>hk⟩
 ·exact ⟨_,h,fun _ hk=>hk⟩
 ·exact h.elim
theorem qxv {f:Int→Int→Int} {k:IntKind} {K:Value→Prop}:∀ {vs:List Value} {acc:Int},foldI f k acc vs K→∃ v,K v∧∀ K':Value→Prop,K' v→foldI f k acc vs K'
 | [],_,h=>⟨_,h,fun _ hk=>hk⟩
 | v :: vs,acc,h=>by
  cases v <;> simp only [foldI] at h ⊢
  exact qxv h
theorem qig {o:Option Operand} {d:Int} {K:Int→Prop} (h:optI ρ o d K):∃ i,K i∧∀ K':Int→Prop,K' i→optI ρ o d K':=by
 cases o with
 | none=>exact ⟨_,h,fun _ hk=>hk⟩
 | some x =>
  simp only [optI] at h ⊢
  split at h
  ·exact ⟨_,h,fun _ hk=>hk⟩
  ·exact h.elim
theorem q6f {op:Op} {K:Value→Prop} (h:pureR P ρ op K):∃ v,K v∧PureV P ρ op v:=by
 unfold PureV
 cases op <;> simp only [pureR] at h ⊢
 case move x=>exact ⟨_,h,fun _ hk=>hk⟩
 case assign x=>exact ⟨_,h,fun _ hk=>hk⟩
 case pick c a b =>
  split at h
  ·rename_i t ht
   cases t
   ·exact ⟨_,h,fun _ hk=>hk⟩
   ·exact ⟨_,h,fun _ hk=>hk⟩
  ·exact h.elim
 case extract t i =>
  split at h
  ·split at h
   ·exact ⟨_,h,fun _ hk=>hk⟩
   ·exact h.elim
  ·exact h.elim
 case unOp u t x =>
  cases u <;> simp only at h ⊢
  ·split at h
   ·exact ⟨_,h,fun _ hk=>hk⟩
   ·exact h.elim
  ·split at h
   ·exact ⟨_,h,fun _ hk=>hk⟩
   ·exact h.elim
 case binOp op T x y U =>
  split at h
  ·split at h
   ·exact ifc_det (fun b=>.bool b) h
   ·exact ifc_det (fun b=>.bool (!b)) h
   ·exact h.elim
  split at h
  ·exact binR_det h
  ·exact binR_det h
  ·exact aggR_det h
  ·exact cmpR_det h
 case fieldAddr s x f =>
  split at h
  ·split at h
   ·obtain ⟨p,rfl,hk⟩:=qdb h
    exact ⟨_,hk,fun _ hk=>hk⟩
   ·exact h.elim
  ·exact h.elim
 case indexAddr T x i =>
  split at h
  ·split at h
   ·obtain ⟨h0,h1,h2⟩:=h
    obtain ⟨p,hp,hk⟩:=qdb h2
    exact ⟨_,hk,fun _ hk=>⟨h0,h1,by rw [hp];exact hk⟩⟩
   ·exact h.elim
  ·split at h
   ·obtain ⟨h0,h1,h2⟩:=h
    obtain ⟨p,hp,hk⟩:=qdb h2
    exact ⟨_,hk,fun _ hk=>⟨h0,h1,by rw [hp];exact hk⟩⟩
   ·exact h.elim
  ·exact h.elim
 case index T x i =>
  split at h
  ·obtain ⟨h0,b,hb,hk⟩:=h
   exact ⟨_,hk,fun _ hk=>⟨h0,b,hb,hk⟩⟩
  ·exact h.elim
 case slice T x lo hi mx =>
  cases mx with
  | some mx =>
   cases hi with
   | none=>exact h.elim
   | some hi =>
    simp only at h ⊢
    split at h
    ·split at h
     ·obtain ⟨l,h1,d1⟩:=qig h
      obtain ⟨a,b,c,d,e⟩:=h1
      exact ⟨_,e,fun _ hk=>by refine d1 _ ?_;exact ⟨a,b,c,d,hk⟩⟩
     ·exact h.elim
    ·exact h.elim
  | none =>
   simp only at h ⊢
   split at h
   ·obtain ⟨l,h1,d1⟩:=qig h
    obtain ⟨r,h2,d2⟩:=qig h1
    obtain ⟨a,b,c,d⟩:=h2
    exact ⟨_,d,fun _ hk=>by refine d1 _ ?_;refine d2 _ ?_;exact ⟨a,b,c,hk⟩⟩
   ·split at h
    ·obtain ⟨l,h1,d1⟩:=qig h
     obtain ⟨r,h2,d2⟩:=qig h1
     obtain ⟨a,b,c,d⟩:=h2
     exact ⟨_,d,fun _ hk=>by refine d1 _ ?_;refine d2 _ ?_;exact ⟨a,b,c,hk⟩⟩
    ·exact h.elim
   ·split at h
    ·obtain ⟨p,hp,h⟩:=qdb h
     obtain ⟨l,h1,d1⟩:=qig h
     obtain ⟨r,h2,d2⟩:=qig h1
     obtain ⟨a,b,c,d⟩:=h2
     exact ⟨_,d,fun _ hk=>by rw [hp];simp only [dr];refine d1 _ ?_;refine d2 _ ?_;exact ⟨a,b,c,hk⟩⟩
    ·exact h.elim
   ·exact h.elim
 case build T parts =>
  split at h
  ·split at h
   ·exact ⟨_,h,fun _ hk=>hk⟩
   ·exact h.elim
  ·exact h.elim
 case field T x f =>
  split at h
  ·split at h
   ·exact ⟨_,h,fun _ hk=>hk⟩
   ·split at h
    ·exact ⟨_,h,fun _ hk=>hk⟩
    ·exact h.elim
   ·exact h.elim
  ·exact h.elim
 case makeFunc fn first cap=>exact ⟨_,h,fun _ hk=>hk⟩
 case nilCheck x =>
  split at h
  ·obtain ⟨p,hp,hk⟩:=qdb h
   exact ⟨_,hk,fun _ hk=>by rw [hp];exact hk⟩
  ·exact h.elim
 case convert s d x =>
  split at h
  ·exact ⟨_,h,fun _ hk=>hk⟩
  ·exact ⟨_,h,fun _ hk=>hk⟩
  ·exact ⟨_,h,fun _ hk=>hk⟩
  ·exact h.elim
 case makeInterface T x =>
  split at h
  ·exact h.elim
  ·exact ⟨_,h,fun _ hk=>hk⟩
  ·exact h.elim
 case call c =>
  split at h
  ·split at h
   ·split at h
    ·exact ⟨_,h,fun _ hk=>hk⟩
    ·exact ⟨_,h,fun _ hk=>hk⟩
    ·exact ⟨_,h,fun _ hk=>hk⟩
    ·exact h.elim
   ·exact h.elim
  ·split at h
   ·split at h
    ·exact ⟨_,h,fun _ hk=>hk⟩
    ·exact h.elim
   ·exact h.elim
  ·split at h
   ·exact qxv h
   ·exact h.elim
  ·split at h
   ·exact qxv h
   ·exact h.elim
  ·exact h.elim
 all_goals exact h.elim
theorem qla {l:List Operand} (h:∀ x∈l,ρ x=ρ' x):l.map ρ = l.map ρ':=List.map_congr_left h
theorem qw8 {l:List (Nat × Operand)} (h:∀ x∈l,ρ x.2=ρ' x.2):(l.map fun p=>(p.1,ρ p.2))=l.map fun p=>(p.1,ρ' p.2) :=
 List.map_congr_left fun x hx=>by rw [h x hx]
theorem qse {o:Option Operand} {d:Int} {K:Int→Prop} (h:∀ x,o=some x→ρ x=ρ' x):optI ρ o d K=optI ρ' o d K:=by
 cases o with
 | none=>rfl
 | some x=>simp only [optI,h x rfl]
theorem q8l {op:Op} {K:Value→Prop} (h:∀ x∈op.operands.toList,ρ x=ρ' x):pureR P ρ op K=pureR P ρ' op K:=by
 cases op <;> simp only [Op.operands] at h
 case build T parts =>
  have:=qw8 (ρ:=ρ) (ρ':=ρ') (l:=parts.toList) (fun x hx=>h x.2 (by simp;exact ⟨x.1,by simpa using hx⟩))
  simp only [pureR,this]
 case makeFunc fn first cap =>
  have h1:=qla (ρ:=ρ) (ρ':=ρ') (l:=first.toList) (fun x hx=>h x (by simp at hx ⊢;exact .inl hx))
  have h2:=qla (ρ:=ρ) (ρ':=ρ') (l:=cap.toList) (fun x hx=>h x (by simp at hx ⊢;exact .inr hx))
  simp only [pureR,h1,h2]
 case slice T x lo hi mx =>
  have h0:=h x (by simp)
  have h1:∀ y,lo=some y→ρ y=ρ' y:=fun y hy=>h y (by simp [hy])
  have h2:∀ y,hi=some y→ρ y=ρ' y:=fun y hy=>h y (by simp [hy])
  cases mx with
  | some m =>
   have h3:=h m (by simp)
   cases hi with
   | none=>rfl
   | some u=>simp only [pureR,h0,h2 u rfl,h3,qse h1]
  | none=>simp only [pureR,h0,qse h1,qse h2]
 case call c =>
  have h1:=qla (ρ:=ρ) (ρ':=ρ') (l:=c.args.toList) (fun x hx=>h x (by simp [Call.operands] at hx ⊢;exact .inr hx))
  have h2:∀ x,c.args.toList=[x]→ρ x=ρ' x:=fun x hx=>h x (by simp [Call.operands];right;simpa using (show x∈c.args.toList by rw [hx];simp))
  simp only [pureR,h1]
  split
  ·split
   ·rename_i hx _;rw [h2 _ hx]
   ·rfl
  ·split
   ·rename_i hx _;rw [h2 _ hx]
   ·rfl
  all_goals rfl
 case unOp u t x=>cases u <;> simp only [pureR,h x (by simp)]
 case pick c a b=>simp only [pureR,h c (by simp),h a (by simp),h b (by simp)]
 all_goals first
  | rfl
  | (simp only [pureR];rw [h _ (by simp)];done)
  | (simp only [pureR];rw [h _ (by simp),h _ (by simp)];done)
  | skip
theorem exA_mono {a:Atom} {K K':Value→Prop} (h:exA a K) (hk:∀ v,K v→K' v):exA a K':=by
 cases a with
 | slice=>obtain ⟨x,n,c,h1⟩:=h;exact ⟨x,n,c,hk _ h1⟩
 | fn=>obtain ⟨x,n,c,h1⟩:=h;exact ⟨x,n,c,hk _ h1⟩
 | bool=>obtain ⟨x,h1⟩:=h;exact ⟨x,hk _ h1⟩
 | int k=>obtain ⟨x,h1⟩:=h;exact ⟨x,hk _ h1⟩
 | str=>obtain ⟨x,h1⟩:=h;exact ⟨x,hk _ h1⟩
 | ptr=>obtain ⟨x,h1⟩:=h;exact ⟨x,hk _ h1⟩
 | any=>obtain ⟨x,h1⟩:=h;exact ⟨x,hk _ h1⟩
theorem exL_mono:∀ {l:List Atom} {K K':List Value→Prop},exL l K→(∀ v,K v→K' v)→exL l K'
 | [],_,_,h,hk=>hk _ h
 | _ :: _,_,_,h,hk=>exA_mono h fun _ h1=>exL_mono h1 fun _ h2=>hk _ h2
theorem qv0 {s:Sh1} {K K':Value→Prop} (h:ex1 s K) (hk:∀ v,K v→K' v):ex1 s K':=by
 cases s with
 | one a=>exact exA_mono h hk
 | agg l=>exact exL_mono h fun _ h=>hk _ h
theorem exT_mono:∀ {l:List Sh1} {K K':List Value→Prop},exT l K→(∀ v,K v→K' v)→exT l K'
 | [],_,_,h,hk=>hk _ h
 | _ :: _,_,_,h,hk=>qv0 h fun _ h1=>exT_mono h1 fun _ h2=>hk _ h2
theorem exS_mono {s:Shp} {K K':Value→Prop} (h:exS s K) (hk:∀ v,K v→K' v):exS s K':=by
 cases s with
 | s x=>exact qv0 h hk
 | tup l=>exact exT_mono h fun _ h=>hk _ h
theorem ldA_det {w:World} {p:Addr} {a:Atom} {K:Value→Prop} (h:ldA w p a K):∃ v,K v∧∀ w' (K':Value→Prop),Keeps w w'→K' v→ldA w' p a K':=by
 cases a with
 | slice=>obtain ⟨x,n,c,h0,h1⟩:=h;exact ⟨_,h1,fun w' K' hw hk=>⟨x,n,c,hw _ _ h0,hk⟩⟩
 | fn=>obtain ⟨x,n,c,h0,h1⟩:=h;exact ⟨_,h1,fun w' K' hw hk=>⟨x,n,c,hw _ _ h0,hk⟩⟩
 | bool=>obtain ⟨x,h0,h1⟩:=h;exact ⟨_,h1,fun w' K' hw hk=>⟨x,hw _ _ h0,hk⟩⟩
 | int k=>obtain ⟨x,h0,h1⟩:=h;exact ⟨_,h1,fun w' K' hw hk=>⟨x,hw _ _ h0,hk⟩⟩
 | str=>obtain ⟨x,h0,h1⟩:=h;exact ⟨_,h1,fun w' K' hw hk=>⟨x,hw _ _ h0,hk⟩⟩
 | ptr=>obtain ⟨x,h0,h1⟩:=h;exact ⟨_,h1,fun w' K' hw hk=>⟨x,hw _ _ h0,hk⟩⟩
 | any=>obtain ⟨x,h0,h1⟩:=h;exact ⟨_,h1,fun w' K' hw hk=>⟨x,hw _ _ h0,hk⟩⟩
theorem ldL_det {w:World} {p:Addr}:∀ {l:List Atom} {i:Nat} {K:List Value→Prop},ldL w p i l K →
  ∃ v,K v∧∀ w' (K':List Value→Prop),Keeps w w'→K' v→ldL w' p i l K'
 | [],_,_,h=>⟨_,h,fun _ _ _ hk=>hk⟩
 | _ :: _,_,_,h=>by
  obtain ⟨v,h1,d1⟩:=ldA_det h
  obtain ⟨vs,h2,d2⟩:=ldL_det h1
  exact ⟨_,h2,fun w' K' hw hk=>d1 w' _ hw (d2 w' _ hw hk)⟩
theorem ld1_det {w:World} {p:Addr} {s:Sh1} {K:Value→Prop} (h:ld1 w p s K):∃ v,K v∧∀ w' (K':Value→Prop),Keeps w w'→K' v→ld1 w' p s K':=by
 cases s with
 | one a=>exact ldA_det h
 | agg l =>
  obtain ⟨v,h1,d1⟩:=ldL_det h
  exact ⟨_,h1,fun w' K' hw hk=>d1 w' _ hw hk⟩
theorem ld1_mono {w:World} {p:Addr} {s:Sh1} {K K':Value→Prop} (h:ld1 w p s K) (hk:∀ v,K v→K' v):ld1 w p s K':=by
 obtain ⟨v,h1,d⟩:=ld1_det h
 exact d w K' (Keeps.refl w) (hk v h1)
theorem qk7 {op:Op} {K K':Value→Prop} (h:pureR P ρ op K) (hk:∀ v,K v→K' v):pureR P ρ op K':=by
 obtain ⟨v,h1,d⟩:=q6f h
 exact d K' (hk v h1)
theorem q97 {p:Addr}:∀ {vs:List Value} {w:World} {i:Nat} {K K':World→Prop},stL w p i vs K→(∀ w',K w'→K' w')→stL w p i vs K'
 | [],_,_,_,_,h,hk=>hk _ h
 | _ :: _,_,_,_,_,h,hk=>⟨h.1,h.2.1,h.2.2.1,q97 h.2.2.2 hk⟩
theorem qbh {f:Value} {args:List Value} {w:World} {R R':Ending→World→Prop} (h:CallV P f args w R) (hr:∀ e w',R e w'→R' e w'):CallV P f args w R':=by
 unfold CallV at h ⊢
 split at h
 ·exact ⟨h.1,h.2.mono hr⟩
 ·obtain ⟨a,b,c,d,h1,h2⟩:=h
  exact ⟨a,b,c,d,h1,h2.mono hr⟩
 ·exact h
theorem qon {op:Op} {ty:TypeId} {w:World} {next next':Value→World→Prop} (h:stR P ρ op ty w next) (hn:∀ v w',next v w'→next' v w'):stR P ρ op ty w next':=by
 cases op
 case load T a =>
  simp only [stR] at h ⊢
  split at h
  ·exact q84 h fun p hp=>ld1_mono hp fun v hv=>hn _ _ hv
  ·exact h.elim
 case store T a x =>
  simp only [stR] at h ⊢
  split at h
  ·exact q84 h fun p hp=>q97 hp fun v hv=>hn _ _ hv
  ·exact h.elim
 case alloc T =>
  simp only [stR] at h ⊢
  split at h
  ·exact hn _ _ h
  ·exact h.elim
 case box T x=>exact hn _ _ h
 case buildSlice T len parts =>
  simp only [stR] at h ⊢
  split at h
  ·split at h
   ·split at h
    ·split at h
     ·exact hn _ _ h
     ·exact h.elim
    ·exact h.elim
   ·exact h.elim
  ·exact h.elim
 case makeSlice T l c =>
  simp only [stR] at h ⊢
  split at h
  ·split at h
   ·split at h
    ·exact ⟨h.1,h.2.1,h.2.2.1,hn _ _ h.2.2.2⟩
    ·exact h.elim
   ·exact h.elim
  ·exact h.elim
 case makeMap T r =>
  simp only [stR] at h ⊢
  split at h
  ·exact hn _ _ h
  ·split at h
   ·exact hn _ _ h
   ·exact h.elim
 case mapUpdate T m k v =>
  simp only [stR] at h ⊢
  obtain ⟨w',h1,h2⟩:=h
  exact ⟨w',h1,hn _ _ h2⟩
 case lookup T x i ok =>
  simp only [stR] at h ⊢
  split at h
  ·exact qv0 h fun v hv=>⟨hv.1,hn _ _ hv.2⟩
  ·exact qv0 h fun v ⟨b,hv⟩=>⟨b,hv.1,hn _ _ hv.2⟩
  ·exact h.elim
 case convert s d x =>
  simp only [stR] at h ⊢
  split at h
  ·split at h
   ·obtain ⟨l,h1,h2⟩:=h;exact ⟨l,h1,hn _ _ h2⟩
   ·exact h.elim
  ·split at h
   ·obtain ⟨a,n,c,w',h1,h2⟩:=h;exact ⟨a,n,c,w',h1,hn _ _ h2⟩
   ·exact h.elim
  ·exact qk7 h fun v=>hn _ _
 case call c =>
  simp only [stR] at h ⊢
  split at h
  ·split at h
   ·exact h.mono fun e w' he=>exS_mono he fun v hv=>⟨hv.1,hn _ _ hv.2⟩
   ·exact h.elim
  ·exact qbh h fun e w' he=>exS_mono he fun v hv=>⟨hv.1,hn _ _ hv.2⟩
  ·split at h
   ·obtain ⟨a,n,k,w',h1,h2⟩:=h;exact ⟨a,n,k,w',h1,hn _ _ h2⟩
   ·exact h.elim
  ·obtain ⟨w',h1,h2⟩:=h;exact ⟨w',h1,hn _ _ h2⟩
  ·obtain ⟨n,w',h1,h2⟩:=h;exact ⟨n,w',h1,hn _ _ h2⟩
  ·obtain ⟨w',h1,h2⟩:=h;exact ⟨w',h1,hn _ _ h2⟩
  ·exact qk7 h fun v=>hn _ _
 all_goals (simp only [stR] at h ⊢;exact qk7 h fun v=>hn _ _)
end
end Go.Sh
