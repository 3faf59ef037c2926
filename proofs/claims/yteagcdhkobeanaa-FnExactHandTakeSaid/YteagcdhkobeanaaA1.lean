/- An abstract interpreter of the model's code, definitions: values, a heap of rows with a write floor, compact code, its deterministic run, and the run's equations. Nothing here speaks of a given program. -/
import GoSem.Step
namespace Go.Proofs.Yteagcdhkobeanaa.A
open Go

inductive Cell where
 | bool (b:Bool)
 | int (k:IntKind) (n:Int)
 | str (s:ByteArray)
 | sl (tag id off len:Nat)
 | nil
 | ptr (id i j:Nat)
 | nilp
 | fn (f:Nat) (caps:List (Nat×Nat×Nat))

inductive V where
 | c (x:Cell)
 | agg (cs:List Cell)
 | tup (vs:List V)

instance:Inhabited Cell:=⟨.nil⟩
instance:Inhabited V:=⟨.c .nil⟩

/-- The heap: rows of elements, an element being its cells. Ids below the floor may not be written. -/
structure Heap where
 next:Nat
 floor:Nat
 get:Nat→Option (List (List Cell))

def Heap.push (h:Heap) (rows:List (List Cell)):Heap:=
 {h with next:=h.next+1,get:=fun i=>if i=h.next then some rows else h.get i}
def Heap.put (h:Heap) (id:Nat) (rows:List (List Cell)):Heap:=
 {h with get:=fun i=>if i=id then some rows else h.get i}
def Heap.kill (h:Heap) (id:Nat):Heap:=
 {h with get:=fun i=>if i=id then none else h.get i}

inductive Opd where
 | t (n:Nat)
 | k (c:Cell)

/-- The kinds of cells that are compared. -/
inductive EK where
 | b
 | i (k:IntKind)
 | s

inductive RO where
 | mov (d:Nat) (x:Opd)
 | pick (d:Nat) (c x y:Opd)
 | loc (d:Nat) (init:List Cell)
 | locb (d:Nat) (x:Opd)
 | new (d:Nat) (init:List Cell)
 | newb (d:Nat) (x:Opd)
 | build (d:Nat) (init:List Cell) (parts:List (Nat×Nat×Opd))
 | lit (d:Nat) (tag len:Nat) (init:List Cell) (parts:List (Nat×Opd))
 | load (d:Nat) (a:Nat) (n:Nat) (agg:Bool)
 | store (a:Nat) (n:Nat) (x:Opd)
 | fad (d:Nat) (a:Nat) (off:Nat)
 | fld (d:Nat) (x:Opd) (off n:Nat) (agg:Bool)
 | idx (d:Nat) (tag:Nat) (x i:Opd)
 | sidx (d:Nat) (x i:Opd)
 | bin (d:Nat) (op:BinOp) (x y:Opd)
 | beq (d:Nat) (neg:Bool) (x y:Opd)
 | eqs (d:Nat) (neg:Bool) (ks:List EK) (x y:Opd)
 | not (d:Nat) (x:Opd)
 | conv (d:Nat) (k:IntKind) (x:Opd)
 | mkf (d:Nat) (f:Nat) (caps:List Nat)
 | mks (d:Nat) (tag bytes:Nat) (init:List Cell) (len cap:Opd)
 | cut (d:Nat) (tag:Nat) (x:Opd) (lo hi:Option Opd)
 | scut (d:Nat) (x:Opd) (lo hi:Option Opd)
 | ext (d:Nat) (x:Opd) (i:Nat)
 | len (d:Nat) (x:Opd)
 | slen (d:Nat) (x:Opd)
 | app (d:Nat) (tag bytes:Nat) (x y:Opd)
 | nilc (d:Nat) (x:Opd)
 | add (d:Nat) (x y z:Opd)
 | call (d:Option Nat) (f:Nat) (xs:List Opd) (quiet:Bool)
 | calv (d:Option Nat) (x:Opd) (xs:List Opd) (quiet:Bool)
 | chk (slots:List Nat)
 | own (as:List Nat)
 | lst (a:Nat) (n:Nat) (x:Opd)
 | esc (d:Nat)
 | lld (d:Nat) (a:Nat) (n:Nat) (agg:Bool)

structure RG where
 guard:Option (Nat×Bool)
 op:RO

inductive RC where
 | skip
 | reg (ops:List RG)
 | seq (a b:RC)
 | cond (c:Opd) (x y:RC)
 | block (id:Nat) (b:RC)
 | loop (live:List Nat) (b:RC)
 | exit (id:Nat)
 | ret

inductive RR where
 | tmp (t:Nat)
 | cell (a:Nat) (n:Nat) (agg:Bool)

structure RF where
 nargs:Nat
 res:List RR
 body:RC

structure St where
 env:List (Nat×V)
 adr:List (Nat×Nat×Nat)
 loc:List (Nat×List Cell)
 hp:Heap

inductive Ex where
 | normal
 | exit (id:Nat)
 | ret

/-! ### look-ups -/
def lk {α:Type}:List (Nat×α)→Nat→Option α
 | [],_=>none
 | (s,v)::r,t=>bif s==t then some v else lk r t
def drop {α:Type}:List (Nat×α)→Nat→List (Nat×α)
 | [],_=>[]
 | (s,v)::r,t=>bif s==t then drop r t else (s,v)::drop r t
/-- Addresses of the local slot k are forgotten. -/
def forget:List (Nat×Nat×Nat)→Nat→List (Nat×Nat×Nat)
 | [],_=>[]
 | (s,k,o)::r,t=>bif k==t then drop (forget r t) s else (s,k,o)::forget r t
def keep {α:Type} (e:List (Nat×α)):List Nat→List (Nat×α)
 | []=>[]
 | t::r=>match lk e t with
   | some v=>(t,v)::keep e r
   | none=>keep e r

def cut? (cs:List Cell) (off n:Nat):Option (List Cell):=if off+n≤cs.length then some ((cs.drop off).take n) else none
def splice? (cs:List Cell) (off:Nat) (new:List Cell):Option (List Cell):=
 if off+new.length≤cs.length then some (cs.take off++new++cs.drop (off+new.length)) else none
def mkV (agg:Bool) (cs:List Cell):Option V:=
 match agg,cs with
 | true,cs=>some (.agg cs)
 | false,[c]=>some (.c c)
 | false,_=>none
def V.cells? :V→Option (List Cell)
 | .c x=>some [x]
 | .agg cs=>some cs
 | .tup _=>none

def ev (e:List (Nat×V)):Opd→Option V
 | .t n=>lk e n
 | .k c=>some (.c c)
def evs (e:List (Nat×V)):List Opd→Option (List V)
 | []=>some []
 | x::r=>(ev e x).bind fun v=>(evs e r).bind fun vs=>some (v::vs)
def evc (e:List (Nat×V)) (x:Opd):Option Cell:=match ev e x with | some (.c c)=>some c | _=>none
def evi (e:List (Nat×V)) (x:Opd):Option Int:=match ev e x with | some (.c (.int _ n))=>some n | _=>none

def bndF (e:List (Nat×V)) (x:Option Opd) (dflt:Int):Option Int:=match x with | some y=>evi e y | none=>some dflt

def St.set (s:St) (d:Nat) (v:V):St:={s with env:=(d,v)::s.env,adr:=drop s.adr d}
def St.unset (s:St) (d:Nat):St:={s with env:=drop s.env d,adr:=drop s.adr d}

/-! ### scalars -/
def Cell.val? :Cell→Option Value
 | .bool b=>some (.bool b)
 | .int k n=>some (.int k n)
 | .str s=>some (.string s)
 | _=>none
def valCell? :Value→Option Cell
 | .bool b=>some (.bool b)
 | .int k n=>some (.int k n)
 | .string s=>some (.str s)
 | _=>none
def pureCell (s:Sem Value):Option Cell:=match s with | .pure v=>valCell? v | _=>none
def binF (op:BinOp) (x y:Cell):Option Cell:=
 match op,x,y with
 | .shl,.int k a,.int yk b | .shr,.int k a,.int yk b=>pureCell (Op.shift op k a yk b)
 | _,.int k a,.int k' b=>
   if k≠k' then none else
   match op with
   | .add=>some (.int k (k.wrap (a+b)))
   | .sub=>some (.int k (k.wrap (a-b)))
   | .mul=>some (.int k (k.wrap (a*b)))
   | .quo=>if b=0 then none else some (.int k (k.wrap (a.tdiv b)))
   | .rem=>if b=0 then none else some (.int k (a.tmod b))
   | .eql=>some (.bool (a==b))
   | .neq=>some (.bool (a !=b))
   | .lss=>some (.bool (decide (a<b)))
   | .leq=>some (.bool (decide (a≤b)))
   | .gtr=>some (.bool (decide (a>b)))
   | .geq=>some (.bool (decide (a≥b)))
   | .and | .or | .xor | .andNot=>pureCell (Op.intBits op k a b)
   | _=>none
 | _,.str a,.str b=>pureCell (Op.stringOp op a b)
 | _,_,_=>none
/-- Scalars compared, for structs. -/
def eqK:EK→Cell→Cell→Option Bool
 | .b,.bool a,.bool b=>some (a==b)
 | .i k,.int k1 a,.int k2 b=>if k1=k∧k2=k then some (a==b) else none
 | .s,.str a,.str b=>some (a==b)
 | _,_,_=>none
def cellsEq? :List EK→List Cell→List Cell→Option Bool
 | [],[],[]=>some true
 | k::ks,x::xs,y::ys=>(eqK k x y).bind fun b=>bif b then cellsEq? ks xs ys else some false
 | _,_,_=>none

/-! ### rows -/
def rowOf (h:Heap) (id i:Nat):Option (List Cell):=(h.get id).bind fun rows=>rows[i]?
def loadP (h:Heap) (id i j n:Nat):Option (List Cell):=(rowOf h id i).bind fun r=>cut? r j n
def storeP (h:Heap) (id i j:Nat) (new:List Cell):Option Heap:=
 if h.floor≤id then (h.get id).bind fun rows=>(rows[i]?).bind fun r=>(splice? r j new).bind fun r'=>some (h.put id (rows.set i r')) else none
/-- The elements that a slice shows. -/
def rowsOf (h:Heap):Cell→Option (List (List Cell))
 | .nil=>some []
 | .sl _ id off len=>(h.get id).bind fun rows=>if off+len≤rows.length then some ((rows.drop off).take len) else none
 | _=>none
def isTag (tag:Nat):Cell→Bool
 | .nil=>true
 | .sl z _ _ _=>z==tag
 | _=>false
/-- append(a, b...): a is nil or shows all of a row above the floor; the row that it was is no more. -/
def appF (h:Heap) (tag bytes:Nat) (a b:Cell):Option (Cell×Heap):=
 if isTag tag b=true then
  (rowsOf h b).bind fun new=>
  match a with
  | .nil=>if new.length=0 then some (.nil,h)
   else if new.length*bytes≤140737488355328 then some (.sl tag h.next 0 new.length,h.push new) else none
  | .sl z id off len=>(h.get id).bind fun rows=>
    if z=tag∧off=0∧len=rows.length∧h.floor≤id∧(len+new.length)*bytes≤140737488355328 then
     some (.sl tag h.next 0 (len+new.length),(h.kill id).push (rows++new)) else none
  | _=>none
 else none
def fills (sz:Nat):List (List Cell)→List (Nat×List Cell)→Option (List (List Cell))
 | rows,[]=>some rows
 | rows,(i,cs)::r=>if i<rows.length∧cs.length=sz then fills sz (rows.set i cs) r else none
def builds:List Cell→List (Nat×Nat×List Cell)→Option (List Cell)
 | cs,[]=>some cs
 | cs,(off,n,new)::r=>if new.length=n then (splice? cs off new).bind fun cs'=>builds cs' r else none
def evParts (e:List (Nat×V)):List (Nat×Opd)→Option (List (Nat×List Cell))
 | []=>some []
 | (i,x)::r=>(ev e x).bind fun v=>v.cells?.bind fun cs=>(evParts e r).bind fun ps=>some ((i,cs)::ps)
def evParts3 (e:List (Nat×V)):List (Nat×Nat×Opd)→Option (List (Nat×Nat×List Cell))
 | []=>some []
 | (i,n,x)::r=>(ev e x).bind fun v=>v.cells?.bind fun cs=>(evParts3 e r).bind fun ps=>some ((i,n,cs)::ps)
def evPtrs (e:List (Nat×V)):List Nat→Option (List (Nat×Nat×Nat))
 | []=>some []
 | t::r=>match lk e t with
   | some (.c (.ptr a b c))=>(evPtrs e r).bind fun ps=>some ((a,b,c)::ps)
   | _=>none

/-- What the run needs of functions: an answer and the heap behind. -/
abbrev CallF:=Nat→List V→Heap→Option (V×Heap)

def doCall (C:CallF) (f:Nat) (vs:List V) (quiet:Bool) (h:Heap):Option (V×Heap):=
 bif quiet then (C f vs {h with floor:=h.next}).bind fun r=>some (r.1,{r.2 with floor:=h.floor})
 else C f vs h
def St.setO (s:St) (d:Option Nat) (v:V):St:=match d with | some d=>s.set d v | none=>s

def memN (x:Nat):List Nat→Bool
 | []=>false
 | y::r=>bif x==y then true else memN x r
/-- No address of these slots is held. -/
def noSlot (l:List Nat):List (Nat×Nat×Nat)→Bool
 | []=>true
 | (_,k,_)::r=>bif memN k l then false else noSlot l r

/-- These addresses alone are held of their variables. -/
def ownK (a k:Nat):List (Nat×Nat×Nat)→Bool
 | []=>true
 | (x,j,_)::r=>bif j==k then (bif x==a then ownK a k r else false) else ownK a k r
def ownP (adr:List (Nat×Nat×Nat)) (a:Nat):Option (Nat×Nat)→Bool
 | some p=>ownK a p.1 adr
 | none=>true
def ownS (adr:List (Nat×Nat×Nat)):List Nat→Bool
 | []=>true
 | a::r=>bif ownP adr a (lk adr a) then ownS adr r else false

def opF (C:CallF) (s:St):RO→Option St
 | .own l=>bif ownS s.adr l then some s else none
 | .lst a n x=>(ev s.env x).bind fun v=>v.cells?.bind fun new=>
   if new.length=n then
    match lk s.adr a with
    | some (k,off)=>(lk s.loc k).bind fun cs=>(splice? cs off new).bind fun cs'=>some {s with loc:=(k,cs')::drop s.loc k}
    | none=>none
   else none
 | .lld d a n agg=>match lk s.adr a with
   | some (k,off)=>(lk s.loc k).bind fun cs=>(cut? cs off n).bind fun x=>(mkV agg x).bind fun v=>some (s.set d v)
   | none=>none
 | .esc d=>match lk s.adr d with
   | some (k,0)=>bif ownK d k s.adr then (lk s.loc k).bind fun cs=>some (({s with loc:=drop s.loc k,hp:=s.hp.push [cs]}:St).set d (.c (.ptr s.hp.next 0 0))) else none
   | _=>none
 | .chk l=>bif noSlot l s.adr then some s else none
 | .mov d x=>(ev s.env x).bind fun v=>some (s.set d v)
 | .pick d c x y=>match evc s.env c with
   | some (.bool b)=>(ev s.env (bif b then x else y)).bind fun v=>some (s.set d v)
   | _=>none
 | .loc d init=>some {s with env:=drop s.env d,adr:=(d,d,0)::forget (drop s.adr d) d,loc:=(d,init)::drop s.loc d}
 | .locb d x=>(ev s.env x).bind fun v=>v.cells?.bind fun cs=>
  some {s with env:=drop s.env d,adr:=(d,d,0)::forget (drop s.adr d) d,loc:=(d,cs)::drop s.loc d}
 | .new d init=>some ({s with hp:=s.hp.push [init]}.set d (.c (.ptr s.hp.next 0 0)))
 | .newb d x=>(ev s.env x).bind fun v=>v.cells?.bind fun cs=>some ({s with hp:=s.hp.push [cs]}.set d (.c (.ptr s.hp.next 0 0)))
 | .build d init parts=>(evParts3 s.env parts).bind fun ps=>(builds init ps).bind fun cs=>some (s.set d (.agg cs))
 | .lit d tag len init parts=>(evParts s.env parts).bind fun ps=>(fills init.length (List.replicate len init) ps).bind fun rows=>
  some ({s with hp:=s.hp.push rows}.set d (.c (.sl tag s.hp.next 0 len)))
 | .load d a n agg=>
   match lk s.adr a with
   | some (k,off)=>(lk s.loc k).bind fun cs=>(cut? cs off n).bind fun x=>(mkV agg x).bind fun v=>some (s.set d v)
   | none=>match lk s.env a with
     | some (.c (.ptr id i j))=>(loadP s.hp id i j n).bind fun x=>(mkV agg x).bind fun v=>some (s.set d v)
     | _=>none
 | .store a n x=>(ev s.env x).bind fun v=>v.cells?.bind fun new=>
   if new.length=n then
    match lk s.adr a with
    | some (k,off)=>(lk s.loc k).bind fun cs=>(splice? cs off new).bind fun cs'=>some {s with loc:=(k,cs')::drop s.loc k}
    | none=>match lk s.env a with
      | some (.c (.ptr id i j))=>(storeP s.hp id i j new).bind fun h=>some {s with hp:=h}
      | _=>none
   else none
 | .fad d a off=>
   match lk s.adr a with
   | some (k,o)=>some {s with env:=drop s.env d,adr:=(d,k,o+off)::drop s.adr d}
   | none=>match lk s.env a with
     | some (.c (.ptr id i j))=>some (s.set d (.c (.ptr id i (j+off))))
     | _=>none
 | .fld d x off n agg=>match ev s.env x with
   | some (.agg cs)=>(cut? cs off n).bind fun y=>(mkV agg y).bind fun v=>some (s.set d v)
   | _=>none
 | .idx d tag x i=>match evc s.env x,evi s.env i with
   | some (.sl z id off len),some n=>if z=tag∧0≤n∧n<len then some (s.set d (.c (.ptr id (off+n.toNat) 0))) else none
   | _,_=>none
 | .sidx d x i=>match evc s.env x,evi s.env i with
   | some (.str b),some n=>if 0≤n then (b[n.toNat]?).bind fun c=>some (s.set d (.c (.int .u8 c.toNat))) else none
   | _,_=>none
 | .bin d op x y=>(evc s.env x).bind fun a=>(evc s.env y).bind fun b=>(binF op a b).bind fun c=>some (s.set d (.c c))
 | .beq d neg x y=>match evc s.env x,evc s.env y with
   | some (.bool a),some (.bool b)=>some (s.set d (.c (.bool (neg ^^ (a==b)))))
   | _,_=>none
 | .eqs d neg ks x y=>match ev s.env x,ev s.env y with
   | some (.agg a),some (.agg b)=>if a.length=ks.length∧b.length=ks.length then (cellsEq? ks a b).bind fun r=>some (s.set d (.c (.bool (neg ^^ r)))) else none
   | _,_=>none
 | .not d x=>match evc s.env x with
   | some (.bool b)=>some (s.set d (.c (.bool (!b))))
   | _=>none
 | .conv d k x=>(evi s.env x).bind fun n=>some (s.set d (.c (.int k (k.wrap n))))
 | .mkf d f caps=>(evPtrs s.env caps).bind fun ps=>some (s.set d (.c (.fn f ps)))
 | .mks d tag bytes init len cap=>match evi s.env len,evi s.env cap with
   | some l,some c=>if 0≤l∧l≤c∧c*bytes≤140737488355328∧c≤140737488355328 then
    some ({s with hp:=s.hp.push (List.replicate l.toNat init)}.set d (.c (.sl tag s.hp.next 0 l.toNat))) else none
   | _,_=>none
 | .cut d tag x lo hi=>
   match evc s.env x with
   | some (.sl z id off len)=>
     match bndF s.env lo 0,bndF s.env hi len with
     | some l,some h=>if z=tag∧0≤l∧l≤h∧h≤len then some (s.set d (.c (.sl tag id (off+l.toNat) (h.toNat-l.toNat)))) else none
     | _,_=>none
   | some .nil=>
     match bndF s.env lo 0,bndF s.env hi 0 with
     | some l,some h=>if l=0∧h=0 then some (s.set d (.c .nil)) else none
     | _,_=>none
   | _=>none
 | .scut d x lo hi=>
   match evc s.env x with
   | some (.str b)=>
     match bndF s.env lo 0,bndF s.env hi b.size with
     | some l,some h=>if 0≤l∧l≤h∧h≤b.size then some (s.set d (.c (.str (b.extract l.toNat h.toNat)))) else none
     | _,_=>none
   | _=>none
 | .ext d x i=>match ev s.env x with
   | some (.tup vs)=>(vs[i]?).bind fun v=>some (s.set d v)
   | _=>none
 | .len d x=>match evc s.env x with
   | some (.sl _ _ _ n)=>some (s.set d (.c (.int .i64 n)))
   | some .nil=>some (s.set d (.c (.int .i64 0)))
   | _=>none
 | .slen d x=>match evc s.env x with
   | some (.str b)=>some (s.set d (.c (.int .i64 b.size)))
   | _=>none
 | .app d tag bytes x y=>
   (evc s.env x).bind fun a=>(evc s.env y).bind fun b=>(appF s.hp tag bytes a b).bind fun r=>some ({s with hp:=r.2}.set d (.c r.1))
 | .nilc d x=>match evc s.env x with
   | some (.ptr a b c)=>some (s.set d (.c (.ptr a b c)))
   | some (.fn f ps)=>some (s.set d (.c (.fn f ps)))
   | _=>none
 | .add d x y z=>match evc s.env x,evc s.env y,evc s.env z with
   | some (.int .u64 a),some (.int .u64 b),some (.int .u64 k)=>
     if 0≤a∧0≤b∧0≤k∧k≤1 then some (s.set d (.tup [.c (.int .u64 ((a+b+k)%18446744073709551616)),.c (.int .u64 ((a+b+k) / 18446744073709551616))])) else none
   | _,_,_=>none
 | .call d f xs quiet=>(evs s.env xs).bind fun vs=>(doCall C f vs quiet s.hp).bind fun r=>some ({s with hp:=r.2}.setO d r.1)
 | .calv d x xs quiet=>match evc s.env x with
   | some (.fn f ps)=>(evs s.env xs).bind fun vs=>(doCall C f (vs++ps.map fun p=>V.c (.ptr p.1 p.2.1 p.2.2)) quiet s.hp).bind fun r=>some ({s with hp:=r.2}.setO d r.1)
   | _=>none

def RO.dst:RO→Option Nat
 | .mov d _ | .pick d _ _ _ | .loc d _ | .locb d _ | .new d _ | .newb d _ | .build d _ _ | .lit d _ _ _ _ | .load d _ _ _ | .lld d _ _ _ | .fad d _ _ | .fld d _ _ _ _
 | .idx d _ _ _ | .sidx d _ _ | .bin d _ _ _ | .beq d _ _ _ | .eqs d _ _ _ _ | .not d _ | .conv d _ _ | .mkf d _ _ | .mks d _ _ _ _ _ | .cut d _ _ _ _ | .scut d _ _ _ | .ext d _ _
 | .len d _ | .slen d _ | .app d _ _ _ _ | .nilc d _ | .add d _ _ _=>some d
 | .store _ _ _ | .chk _ | .own _ | .lst _ _ _ | .esc _=>none
 | .call d _ _ _ | .calv d _ _ _=>d
def St.skipO (s:St):Option Nat→St
 | some d=>s.set d (.tup [])
 | none=>s

def regF (C:CallF):List RG→St→Option St
 | [],s=>some s
 | g::r,s=>
   match g.guard with
   | none=>(opF C s g.op).bind fun s'=>regF C r s'
   | some (t,want)=>match lk s.env t with
     | some (.c (.bool b))=>bif b==want then (opF C s g.op).bind fun s'=>regF C r s' else regF C r (s.skipO g.op.dst)
     | some (.tup [])=>regF C r (s.skipO g.op.dst)
     | _=>none

def St.prune (s:St) (live:List Nat):St:={s with env:=keep s.env live,adr:=keep s.adr live,loc:=keep s.loc live}

def codeF (C:CallF) (L:List Nat→RC→St→Option (Ex×St)):RC→St→Option (Ex×St)
 | .skip,s=>some (.normal,s)
 | .reg ops,s=>(regF C ops s).bind fun s'=>some (.normal,s')
 | .seq a b,s=>(codeF C L a s).bind fun r=>match r.1 with
   | .normal=>codeF C L b r.2
   | e=>some (e,r.2)
 | .cond c x y,s=>match evc s.env c with
   | some (.bool b)=>bif b then codeF C L x s else codeF C L y s
   | _=>none
 | .block id b,s=>(codeF C L b s).bind fun r=>match r.1 with
   | .exit i=>bif i==id then some (.normal,r.2) else some (.exit i,r.2)
   | e=>some (e,r.2)
 | .loop live b,s=>L live b (s.prune live)
 | .exit id,s=>some (.exit id,s)
 | .ret,s=>some (.ret,s)

def resF (s:St):List RR→Option (List V)
 | []=>some []
 | .tmp t::r=>match lk s.env t with
   | some (.c x)=>(resF s r).bind fun vs=>some (.c x::vs)
   | some (.agg cs)=>(resF s r).bind fun vs=>some (.agg cs::vs)
   | _=>none
 | .cell a n agg::r=>(match lk s.adr a with
  | some (k,off)=>(lk s.loc k).bind fun cs=>(cut? cs off n).bind fun x=>mkV agg x
  | none=>none).bind fun v=>(resF s r).bind fun vs=>some (v::vs)
def tupV:List V→V
 | [v]=>v
 | vs=> .tup vs
def number {α:Type}:Nat→List α→List (Nat×α)
 | _,[]=>[]
 | i,v::r=>(i,v)::number (i+1) r

def funF (C:CallF) (L:List Nat→RC→St→Option (Ex×St)) (f:RF) (vs:List V) (h:Heap):Option (V×Heap):=
 if vs.length=f.nargs then
  (codeF C L f.body {env:=number 0 vs,adr:=[],loc:=[],hp:=h}).bind fun r=>
   match r.1 with
   | .exit _=>none
   | _=>(resF r.2 f.res).bind fun vs=>some (tupV vs,r.2.hp)
 else none

mutual
/-- The run with so much fuel: calls, and loops. F: the functions; Z: the primitives' answers. -/
def callN (F:Nat→Option RF) (Z:CallF):Nat→CallF
 | 0,_,_,_=>none
 | n+1,f,vs,h=>match F f with
   | some rf=>funF (callN F Z n) (loopN F Z n) rf vs h
   | none=>Z f vs h
def loopN (F:Nat→Option RF) (Z:CallF):Nat→List Nat→RC→St→Option (Ex×St)
 | 0,_,_,_=>none
 | n+1,live,b,s=>(codeF (callN F Z n) (loopN F Z n) b s).bind fun r=>match r.1 with
   | .normal=>loopN F Z n live b (r.2.prune live)
   | e=>some (e,r.2)
end
end Go.Proofs.Yteagcdhkobeanaa.A
