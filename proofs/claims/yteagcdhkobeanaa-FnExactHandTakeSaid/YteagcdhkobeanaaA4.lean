/- From the model's code to the compact code: the type table, and the compiler of operations, regions, code and functions. -/
import Derived.Test.YteagcdhkobeanaaA3
namespace Go.Proofs.Yteagcdhkobeanaa.A
open Go

inductive TK where
 | bool
 | int (k:IntKind)
 | str
 | slice (e:TypeId) (tag:Nat)
 | struct (fs:List (Nat×Nat×Bool))
 | other
structure TI where
 sz:Nat
 bytes:Nat
 agg:Bool
 zero:Option (List Cell)
 k:TK

def valIs:Cell→Value→Bool
 | .bool a,.bool b=>a==b
 | .int k a,.int k' b=>decide (k=k')&&a==b
 | .str a,.string b=>decide (a=b)
 | .nil,.slice none 0 0=>true
 | .nilp,.pointer none=>true
 | _,_=>false
def valsAre:List Cell→List Value→Bool
 | [],[]=>true
 | x::xs,y::ys=>valIs x y&&valsAre xs ys
 | _,_=>false
def fieldIs (P:Program):List (Nat×Nat×Bool)→List Field→Bool
 | [],[]=>true
 | (o,n,g)::r,f::fs=>f.offset==o&&P.cellsOf f.type==n&& !(n==0)&&(P.info? f.type).isSome&&(g==match P.underlying f.type with | some (.struct _) | some (.array _ _)=>true | _=>false)&&(P.underlying f.type).isSome&&fieldIs P r fs
 | _,_=>false
def TI.okB (P:Program) (ET SZ:Nat→Nat) (t:TypeId) (ti:TI):Bool:=
 (match P.info? t with
 | none=>false
 | some i=>i.size==ti.sz&&i.bytes==ti.bytes&&(match ti.zero,i.zero with
   | none,_=>true
   | some z,some v=>valsAre z v.cells.toList&&z.length==ti.sz
   | some _,none=>false))&&
 (match P.underlying t with
 | none=>false
 | some d=>(ti.agg==match d with | .struct _ | .array _ _=>true | _=>false)&&
   match ti.k,d with
   | .bool,.bool=>true
   | .int k,.int k'=>decide (k=k')
   | .str,.string=>true
   | .slice e tag,.slice e'=>e==e'&& !(tag==0)&&ET tag==e&&(match P.info? e with | some i=>i.size==SZ tag&& !(SZ tag==0)&&(!(i.bytes==0))&&(match i.zero with | some z=>z.cells.size==i.size | none=>false) | none=>false)
   | .struct fs,.struct fields=>fieldIs P fs fields.toList
   | .other,_=>true
   | _,_=>false)

/-- What the compiler knows: types, functions' numbers, types of structs that are compared cell by cell. -/
structure CC where
 T:List (TypeId×TI)
 F:List (FuncId×Nat)
 eqT:List (TypeId×List EK)
 adds:List FuncId

def constCell? :Value→Option Cell
 | .bool b=>some (.bool b)
 | .int k n=>some (.int k n)
 | .string s=>some (.str s)
 | .slice none 0 0=>some .nil
 | .pointer none=>some .nilp
 | _=>none

variable (c:CC)
def compX:Operand→Option Opd
 | .tmp t=>some (.t t)
 | .const v=>(constCell? v).map .k
 | .func f=>(lk c.F f).map fun g=> .k (.fn g [])
 | .global _=>none
def compXs:List Operand→Option (List Opd)
 | []=>some []
 | x::r=>(compX c x).bind fun a=>(compXs r).bind fun l=>some (a::l)
def compParts:List (Nat×Operand)→Option (List (Nat×Opd))
 | []=>some []
 | (i,x)::r=>(compX c x).bind fun a=>(compParts r).bind fun l=>some ((i,a)::l)
def compFields (fs:List (Nat×Nat×Bool)):List (Nat×Operand)→Option (List (Nat×Nat×Opd))
 | []=>some []
 | (i,x)::r=>(compX c x).bind fun a=>(fs[i]?).bind fun f=>(compFields fs r).bind fun l=>some ((f.1,f.2.1,a)::l)
def compCaps:List Operand→Option (List Nat)
 | []=>some []
 | .tmp t::r=>(compCaps r).bind fun l=>some (t::l)
 | _::_=>none
def compO:Option Operand→Option (Option Opd)
 | none=>some none
 | some x=>(compX c x).map some

def isLogic:BinOp→Bool
 | .add | .sub | .mul | .quo | .rem | .and | .or | .xor | .andNot | .eql | .neq | .lss | .leq | .gtr | .geq | .shl | .shr=>true

def compCall (esc:Bool) (d:Option Nat) (cl:Call):Option RO:=
 match cl.callee with
 | .value (.func f)=>if c.adds.contains f then match d,cl.args.toList with
  | some d,[x,y,z]=>(compX c x).bind fun x=>(compX c y).bind fun y=>(compX c z).bind fun z=>some (.add d x y z)
  | _,_=>none
   else (lk c.F f).bind fun g=>(compXs c cl.args.toList).bind fun xs=>some (.call d g xs esc)
 | .value (.tmp t)=>(compXs c cl.args.toList).bind fun xs=>some (.calv d (.t t) xs esc)
 | .builtin .len=>match d,cl.args.toList,cl.argTypes.toList with
   | some d,[x],[t]=>(lk c.T t).bind fun ti=>match ti.k with
     | .slice _ _=>(compX c x).map (.len d)
     | .str=>(compX c x).map (.slen d)
     | _=>none
   | _,_,_=>none
 | .builtin .append=>match d,cl.args.toList,cl.argTypes.toList with
   | some d,[x,y],[t,t']=>if t=t' then (lk c.T t).bind fun ti=>match ti.k with
     | .slice e tag=>(lk c.T e).bind fun te=>(compX c x).bind fun a=>(compX c y).bind fun b=>some (.app d tag te.bytes a b)
     | _=>none else none
   | _,_,_=>none
 | _=>none

/-- esc: the slots whose variables lie in the heap; q: calls are to leave what was there alone. -/
def compOp (esc:List Nat) (q:Bool) (dst:Option Nat) (op:Op):Option RO:=
 match dst,op with
 | some d,.move x | some d,.assign x=>(compX c x).map (.mov d)
 | some d,.pick a x y=>(compX c a).bind fun a=>(compX c x).bind fun x=>(compX c y).bind fun y=>some (.pick d a x y)
 | some d,.alloc t=>(lk c.T t).bind fun ti=>ti.zero.bind fun z=>some (if esc.contains d then .new d z else .loc d z)
 | some d,.box _ x=>(compX c x).bind fun x=>some (if esc.contains d then .newb d x else .locb d x)
 | some d,.build t parts=>(lk c.T t).bind fun ti=>ti.zero.bind fun z=>match ti.k with
   | .struct fs=>(compFields c fs parts.toList).bind fun ps=>some (.build d z ps)
   | _=>none
 | some d,.buildSlice t len parts=>(lk c.T t).bind fun ti=>match ti.k with
   | .slice e tag=>(lk c.T e).bind fun te=>te.zero.bind fun z=>if len*te.sz≤4096 then (compParts c parts.toList).bind fun ps=>some (.lit d tag len z ps) else none
   | _=>none
 | some d,.load t (.tmp a)=>(lk c.T t).bind fun ti=>some (.load d a ti.sz ti.agg)
 | none,.store t (.tmp a) x=>(lk c.T t).bind fun ti=>(compX c x).bind fun x=>some (.store a ti.sz x)
 | some d,.fieldAddr t (.tmp a) f=>(lk c.T t).bind fun ti=>match ti.k with
   | .struct fs=>(fs[f]?).bind fun x=>some (.fad d a x.1)
   | _=>none
 | some d,.field t x f=>(lk c.T t).bind fun ti=>match ti.k with
   | .struct fs=>(fs[f]?).bind fun y=>(compX c x).bind fun x=>some (.fld d x y.1 y.2.1 y.2.2)
   | _=>none
 | some d,.indexAddr t x i=>(lk c.T t).bind fun ti=>match ti.k with
   | .slice _ tag=>(compX c x).bind fun x=>(compX c i).bind fun i=>some (.idx d tag x i)
   | _=>none
 | some d,.index t x i=>(lk c.T t).bind fun ti=>match ti.k with
   | .str=>(compX c x).bind fun x=>(compX c i).bind fun i=>some (.sidx d x i)
   | _=>none
 | some d,.binOp b t x y _=>(lk c.T t).bind fun ti=>(compX c x).bind fun x=>(compX c y).bind fun y=>match ti.k,b with
   | .int _,_ | .str,_=>some (.bin d b x y)
   | .bool,.eql=>some (.beq d false x y)
   | .bool,.neq=>some (.beq d true x y)
   | .struct _,.eql=>(lk c.eqT t).map fun ks=> .eqs d false ks x y
   | .struct _,.neq=>(lk c.eqT t).map fun ks=> .eqs d true ks x y
   | _,_=>none
 | some d,.unOp .not _ x=>(compX c x).map (.not d)
 | some d,.convert s t x=>(lk c.T s).bind fun ts=>(lk c.T t).bind fun tt=>match ts.k,tt.k with
   | .int _,.int k=>(compX c x).map (.conv d k)
   | _,_=>none
 | some d,.makeFunc (.func f) first captured=>if first.isEmpty then (lk c.F f).bind fun g=>(compCaps captured.toList).bind fun l=>some (.mkf d g l) else none
 | some d,.makeSlice t l m=>(lk c.T t).bind fun ti=>match ti.k with
   | .slice e tag=>(lk c.T e).bind fun te=>te.zero.bind fun z=>(compX c l).bind fun l=>(compX c m).bind fun m=>some (.mks d tag te.bytes z l m)
   | _=>none
 | some d,.slice t x lo hi none=>(lk c.T t).bind fun ti=>(compX c x).bind fun x=>(compO c lo).bind fun lo=>(compO c hi).bind fun hi=>match ti.k with
   | .slice _ tag=>some (.cut d tag x lo hi)
   | .str=>some (.scut d x lo hi)
   | _=>none
 | some d,.extract x i=>(compX c x).map fun x=> .ext d x i
 | some d,.nilCheck x=>(compX c x).map (.nilc d)
 | d,.call cl=>compCall c q d cl
 | _,_=>none

def compGuard (ops:Array Oper):Option (Nat×Bool)→Option (Option (Nat×Bool))
 | none=>some none
 | some (j,want)=>((ops[j]?).bind (·.dst)).map fun t=>some (t,want)
def inB (nt:Nat):Option Nat→Bool
 | none=>true
 | some d=>decide (d<nt)
def compOps (esc:List Nat) (q:Bool) (nt:Nat) (ops:Array Oper):List Oper→Option (List RG)
 | []=>some []
 | o::r=>if inB nt o.dst then (compOp c esc q o.dst o.op).bind fun op=>(compGuard ops o.guard).bind fun g=>(compOps esc q nt ops r).bind fun l=>some (⟨g,op⟩::l) else none

/-! ### regions whose order is drawn: a list of places, such that earlier ones may be taken ahead -/
def opdT:Opd→List Nat
 | .t n=>[n]
 | .k _=>[]
def RO.uses:RO→List Nat
 | .mov _ x | .locb _ x | .newb _ x | .not _ x | .conv _ _ x | .ext _ x _ | .len _ x | .slen _ x | .nilc _ x | .fld _ x _ _ _=>opdT x
 | .pick _ a x y | .add _ a x y=>opdT a++opdT x++opdT y
 | .loc _ _ | .new _ _=>[]
 | .build _ _ ps=>ps.flatMap fun p=>opdT p.2.2
 | .lit _ _ _ _ ps=>ps.flatMap fun p=>opdT p.2
 | .load _ a _ _ | .lld _ a _ _=>[a]
 | .store a _ x=>a::opdT x
 | .fad _ a _=>[a]
 | .idx _ _ x i | .sidx _ x i | .bin _ _ x i | .beq _ _ x i | .eqs _ _ _ x i | .mks _ _ _ _ x i | .app _ _ _ x i=>opdT x++opdT i
 | .mkf _ _ l=>l
 | .cut _ _ x lo hi | .scut _ x lo hi=>opdT x++(lo.map opdT).getD []++(hi.map opdT).getD []
 | .call _ _ xs _=>xs.flatMap opdT
 | .calv _ x xs _=>opdT x++xs.flatMap opdT
 | .chk _=>[]
 | .own _=>[]
 | .lst a _ x=>a::opdT x
 | .esc d=>[d]
def RG.uses (g:RG):List Nat:=(match g.guard with | some (t,_)=>[t] | none=>[])++g.op.uses
/-- 0: over temporaries alone · 1: a variable of one's own is made · 2: reads memory · 3: makes memory, leaves the old alone · 4: anything else -/
def RO.cls:RO→Nat
 | .mov .. | .pick .. | .build .. | .fld .. | .idx .. | .sidx .. | .bin .. | .beq .. | .eqs .. | .not .. | .conv .. | .mkf .. | .cut .. | .scut .. | .ext .. | .len .. | .slen .. | .nilc .. | .add .. =>0
 | .loc .. | .locb .. =>1
 | .load .. =>2
 | .new .. | .newb .. | .lit .. | .mks .. =>3
 | .call _ _ _ true | .calv _ _ _ true=>3
 | .lst .. =>5
 | .lld .. | .fad .. =>6
 | .call _ _ _ false | .calv _ _ _ false=>7
 | _=>4
/-- The variable of one's own that a store goes to. -/
def lsAt:RO→Option Nat
 | .lst a _ _=>some a
 | _=>none
/-- Stores to these addresses are stores to variables of one's own. -/
def toLs (ow:List Nat):RO→RO
 | .store a n x=>bif ow.contains a then .lst a n x else .store a n x
 | o=>o
/-- A read of a variable of one's own. -/
def toLl:RO→RO
 | .load d a n g=> .lld d a n g
 | o=>o
def lsOk (ow:List Nat) (p o:RG):Bool:=match lsAt o.op with
 | some a=>ow.contains a&&(!(p.uses.contains a)&& !(p.op.cls==4))
 | none=>false
/-- p stands ahead of o in the list; o may also be done first. (ow: addresses that alone are held of their variables.) -/
def mayFirst (ow:List Nat) (p o:RG):Bool:=
 (match p.op.dst with | some d=> !(o.uses.contains d)&& !(o.op.dst==some d) | none=>true)&&
 (match o.op.dst with | some d=> !(p.uses.contains d) | none=>true)&&
 (match p.op.cls,o.op.cls with
 | _,5=>lsOk ow p o
 | 0,_=>true
 | _,0=>true
 | 1,1=>true
 | 1,2=>true
 | 1,3=>true
 | 2,2=>true
 | 2,3=>true
 | 3,1=>true
 | 1,6=>true
 | 2,6=>true
 | 6,2=>true
 | 6,6=>true
 | 6,3=>true
 | 6,7=>true
 | 1,7=>true
 | _,_=>false)

def isChk:RO→Bool
 | .chk _=>true
 | .own _=>true
 | .esc _=>true
 | _=>false
def pairB {α:Type} (R:α→α→Bool):List α→Bool
 | []=>true
 | x::r=>r.all (R x)&&pairB R r
/-- L is an order in which each comes behind what binds it. -/
def topoB (md:Region.Mode) (ops:Array Oper):List Nat→List Nat→Bool
 | _,[]=>true
 | seen,i::r=>(match ops[i]? with | some o=>o.after.all fun e=> !Region.binds md e||seen.contains e.on | none=>false)&&topoB md ops (i::seen) r
def topoA (md:Region.Mode) (ops:Array Oper) (L:List Nat):Bool:=(List.range ops.size).all (fun i=>L.contains i)&&topoB md ops [] L
def directs (ops:Array Oper) (i:Nat):List Nat:=match ops[i]? with
 | some o=>(o.after.toList.filter (Region.binds .any)).map (·.on)
 | none=>[]
def joinN:List Nat→List Nat→List Nat
 | [],b=>b
 | x::r,b=>bif memN x b then joinN r b else joinN r (x::b)
def ancs (ops:Array Oper):List (Nat×List Nat)→List Nat→List (Nat×List Nat)
 | acc,[]=>acc
 | acc,i::r=>ancs ops ((i,(directs ops i).foldl (fun l d=>joinN ((lk acc d).getD []) l) (joinN (directs ops i) []))::acc) r
def ancOf (anc:List (Nat×List Nat)) (i:Nat):List Nat:=(lk anc i).getD []
def ancOk (ops:Array Oper) (anc:List (Nat×List Nat)) (i:Nat):Bool:=(ancOf anc i).all fun j=>(directs ops i).contains j||(directs ops i).any fun d=>(ancOf anc d).contains j
def slotsOf:List (Nat×RG)→List Nat
 | []=>[]
 | x::r=>if x.2.op.cls=1 then (match x.2.op.dst with | some d=>d::slotsOf r | none=>slotsOf r) else slotsOf r
def keepsB (ow:List Nat) (g:RG):Bool:=ow.all fun a=>(!(g.op.dst==some a)||g.op.cls==1)&&(!(g.uses.contains a)||lsAt g.op==some a)
def ownG:List Nat→List RG
 | []=>[]
 | a::r=>[⟨none,.own (a::r)⟩]
def escG (l:List Nat):List RG:=l.map fun d=>⟨none,.esc d⟩
def drawOk (ops:Array Oper) (od og ow:List Nat) (l:List (Nat×RG)):Bool:=
 let anc:=ancs ops [] od
 pairB (fun i j=> !(i==j)) od&&topoA .any ops od&&topoA .text ops (List.range ops.size)&&topoA .gc ops og&&od.all (fun i=>decide (i<ops.size))&&
 od.all (ancOk ops anc)&&
 pairB (fun x y=>(ancOf anc y.1).contains x.1||mayFirst ow x.2 y.2) l&&
 pairB (fun x y=> !(x.2.op.cls==1)|| !(y.2.op.cls==1)|| !(x.2.op.dst==y.2.op.dst)) l&&
 l.all (fun x=> !isChk x.2.op&&keepsB ow x.2)&&decide (od.length≤ops.size)

def anns {α:Type}:List α→Option (α×List α)
 | []=>none
 | a::r=>some (a,r)
def compDraw (esc ow nq:List Nat) (nt:Nat) (ops:Array Oper):List Nat→Option (List (Nat×RG))
 | []=>some []
 | i::r=>(ops[i]?).bind fun o=>if inB nt o.dst then (compOp c esc (!(nq.contains i)) o.dst o.op).bind fun op=>(compGuard ops o.guard).bind fun g=>(compDraw esc ow nq nt ops r).bind fun l=>some ((i,⟨g,toLs ow (bif nq.contains i then toLl op else op)⟩)::l) else none
/-- Code, with the annotations of its loops (what lives at their heads), in the order of the text. -/
def compC (esc:List Nat) (nt:Nat):Code→List (List Nat)→Option (RC×List (List Nat))
 | .skip,an=>some (.skip,an)
 | .region _ ops false,an=>(compOps c esc false nt ops ops.toList).bind fun l=>some (.reg l,an)
 | .seq a b,an=>(compC esc nt a an).bind fun x=>(compC esc nt b x.2).bind fun y=>some (.seq x.1 y.1,y.2)
 | .cond k a b,an=>(compX c k).bind fun k=>(compC esc nt a an).bind fun x=>(compC esc nt b x.2).bind fun y=>some (.cond k x.1 y.1,y.2)
 | .block id b,an=>(compC esc nt b an).bind fun x=>some (.block id x.1,x.2)
 | .region _ ops true,an=>match an with
   | od::og::ow::nq::r=>(compDraw c (esc.filter fun d=> !(ow.contains d)) ow nq nt ops od).bind fun l=>if drawOk ops od og ow l then some (.reg (⟨none,.chk (slotsOf l)⟩::(ownG ow++(l.map (·.2)++escG (ow.filter fun d=>esc.contains d)))),r) else none
   | _=>none
 | .loop b,an=>match an with
   | []=>none
   | l::r=>(compC esc nt b r).bind fun x=>some (.loop l x.1,x.2)
 | .exit id,an=>some (.exit id,an)
 | .ret,an=>some (.ret,an)
 | _,_=>none
def compR:List ResultVar→Option (List RR)
 | []=>some []
 | .tmp t::r=>(compR r).bind fun l=>some (.tmp t::l)
 | .cell a t::r=>(lk c.T t).bind fun ti=>(compR r).bind fun l=>some (.cell a ti.sz ti.agg::l)
def compF (esc:List Nat) (an:List (List Nat)) (nargs:Nat) (f:Func):Option RF:=
 match f.body with
 | none=>none
 | some b=>if nargs≤f.ntmps then (compC c esc f.ntmps b an).bind fun x=>(compR c f.results.toList).bind fun r=>some ⟨nargs,r,x.1⟩ else none
end Go.Proofs.Yteagcdhkobeanaa.A
