/- Equations that run compact code step by step, one path at a time. -/
import Derived.Test.YteagcdhkobeanaaA2
namespace Go.Proofs.Yteagcdhkobeanaa.A
open Go

section
variable (C:CallF) (L:List Nat→RC→St→Option (Ex×St))

/-- A guarded operation, the guard being read. -/
def gF (w:Bool) (op:RO) (r:List RG) (s:St):Option V→Option St
 | some (.c (.bool b))=>bif b==w then (opF C s op).bind (regF C r) else regF C r (s.skipO op.dst)
 | some (.tup [])=>regF C r (s.skipO op.dst)
 | _=>none
theorem regF_nil (s:St):regF C [] s=some s:=rfl
theorem regF_one (op:RO) (r:List RG) (s:St):regF C (⟨none,op⟩::r) s=(opF C s op).bind (regF C r):=rfl
theorem regF_grd (t:Nat) (w:Bool) (op:RO) (r:List RG) (s:St):regF C (⟨some (t,w),op⟩::r) s=gF C w op r s (lk s.env t):=by
 rw[regF]
 dsimp only
 split<;>simp_all[gF]
theorem gF_tt (op:RO) (r:List RG) (s:St):gF C true op r s (some (.c (.bool true)))=(opF C s op).bind (regF C r):=rfl
theorem gF_ff (op:RO) (r:List RG) (s:St):gF C false op r s (some (.c (.bool false)))=(opF C s op).bind (regF C r):=rfl
theorem gF_tf (op:RO) (r:List RG) (s:St):gF C true op r s (some (.c (.bool false)))=regF C r (s.skipO op.dst):=rfl
theorem gF_ft (op:RO) (r:List RG) (s:St):gF C false op r s (some (.c (.bool true)))=regF C r (s.skipO op.dst):=rfl
theorem gF_u (w:Bool) (op:RO) (r:List RG) (s:St):gF C w op r s (some (.tup []))=regF C r (s.skipO op.dst):=rfl
theorem gF_if (w:Bool) (op:RO) (r:List RG) (s:St) (b:Bool):gF C w op r s (some (.c (.bool b)))=if b=w then gF C w op r s (some (.c (.bool w))) else gF C w op r s (some (.c (.bool (!w)))):=by
 cases b<;>cases w<;>rfl

/-! ### operations -/
def setR (s:St) (d:Nat):Option V→Option St
 | some v=>some (s.set d v)
 | none=>none
def cellR (s:St) (d:Nat):Option Cell→Option St
 | some v=>some (s.set d (.c v))
 | none=>none
def pickR (s:St) (d:Nat) (x y:Opd):Option V→Option St
 | some (.c (.bool b))=>setR s d (ev s.env (bif b then x else y))
 | _=>none
theorem setR_some (s:St) (d:Nat) (v:V):setR s d (some v)=some (s.set d v):=rfl
theorem cellR_some (s:St) (d:Nat) (v:Cell):cellR s d (some v)=some (s.set d (.c v)):=rfl
theorem pickR_t (s:St) (d:Nat) (x y:Opd):pickR s d x y (some (.c (.bool true)))=setR s d (ev s.env x):=rfl
theorem pickR_f (s:St) (d:Nat) (x y:Opd):pickR s d x y (some (.c (.bool false)))=setR s d (ev s.env y):=rfl
theorem pickR_if (s:St) (d:Nat) (x y:Opd) (b:Bool):pickR s d x y (some (.c (.bool b)))=if b=true then pickR s d x y (some (.c (.bool true))) else pickR s d x y (some (.c (.bool false))):=by cases b<;>rfl
theorem set_eq (env:List (Nat×V)) (adr loc) (hp:Heap) (d:Nat) (v:V):St.set ⟨env,adr,loc,hp⟩ d v=⟨(d,v)::env,drop adr d,loc,hp⟩:=rfl
theorem unset_eq (env:List (Nat×V)) (adr loc) (hp:Heap) (d:Nat):St.skipO ⟨env,adr,loc,hp⟩ (some d)=⟨(d,.tup [])::env,drop adr d,loc,hp⟩:=rfl
theorem skip_none (s:St):St.skipO s none=s:=rfl
theorem ev_t (e:List (Nat×V)) (n:Nat):ev e (.t n)=lk e n:=rfl
theorem ev_k (e:List (Nat×V)) (c:Cell):ev e (.k c)=some (.c c):=rfl
theorem op_own (env:List (Nat×V)) (adr loc) (hp:Heap) (l:List Nat):opF C ⟨env,adr,loc,hp⟩ (.own l)=bif ownS adr l then some ⟨env,adr,loc,hp⟩ else none:=rfl
theorem ownP_s (adr:List (Nat×Nat×Nat)) (a:Nat) (p:Nat×Nat):ownP adr a (some p)=ownK a p.1 adr:=rfl
theorem ownP_n (adr:List (Nat×Nat×Nat)) (a:Nat):ownP adr a none=true:=rfl
theorem op_chk (env:List (Nat×V)) (adr loc) (hp:Heap) (l:List Nat):opF C ⟨env,adr,loc,hp⟩ (.chk l)=bif noSlot l adr then some ⟨env,adr,loc,hp⟩ else none:=rfl
theorem op_mov (s:St) (d:Nat) (x:Opd):opF C s (.mov d x)=setR s d (ev s.env x):=by
 rw[opF];cases ev s.env x<;>rfl
theorem op_pick (s:St) (d:Nat) (c x y:Opd):opF C s (.pick d c x y)=pickR s d x y (ev s.env c):=by
 rw[opF];unfold evc
 cases h:ev s.env c with
 | none=>rfl
 | some v=>cases v with
   | c k=>cases k<;>first | rfl | (rename_i b;cases b<;>simp only[pickR]<;>(try cases ev s.env _)<;>rfl)
   | agg _=>rfl
   | tup _=>rfl
theorem op_loc (env:List (Nat×V)) (adr loc) (hp:Heap) (d:Nat) (init:List Cell):opF C ⟨env,adr,loc,hp⟩ (.loc d init)=some ⟨drop env d,(d,d,0)::forget (drop adr d) d,(d,init)::drop loc d,hp⟩:=rfl
def locbR (s:St) (d:Nat):Option V→Option St
 | some (.c x)=>some ⟨drop s.env d,(d,d,0)::forget (drop s.adr d) d,(d,[x])::drop s.loc d,s.hp⟩
 | some (.agg cs)=>some ⟨drop s.env d,(d,d,0)::forget (drop s.adr d) d,(d,cs)::drop s.loc d,s.hp⟩
 | _=>none
theorem locbR_c (env:List (Nat×V)) (adr loc) (hp:Heap) (d:Nat) (x:Cell):locbR ⟨env,adr,loc,hp⟩ d (some (.c x))=some ⟨drop env d,(d,d,0)::forget (drop adr d) d,(d,[x])::drop loc d,hp⟩:=rfl
theorem locbR_a (env:List (Nat×V)) (adr loc) (hp:Heap) (d:Nat) (x:List Cell):locbR ⟨env,adr,loc,hp⟩ d (some (.agg x))=some ⟨drop env d,(d,d,0)::forget (drop adr d) d,(d,x)::drop loc d,hp⟩:=rfl
theorem op_locb (s:St) (d:Nat) (x:Opd):opF C s (.locb d x)=locbR s d (ev s.env x):=by
 rw[opF]
 cases h:ev s.env x with
 | none=>rfl
 | some v=>cases v<;>rfl
theorem op_new (env:List (Nat×V)) (adr loc) (hp:Heap) (d:Nat) (init:List Cell):opF C ⟨env,adr,loc,hp⟩ (.new d init)=some ⟨(d,.c (.ptr hp.next 0 0))::env,drop adr d,loc,hp.push [init]⟩:=rfl
def newbR (s:St) (d:Nat):Option V→Option St
 | some (.c x)=>some ⟨(d,.c (.ptr s.hp.next 0 0))::s.env,drop s.adr d,s.loc,s.hp.push [[x]]⟩
 | some (.agg x)=>some ⟨(d,.c (.ptr s.hp.next 0 0))::s.env,drop s.adr d,s.loc,s.hp.push [x]⟩
 | _=>none
theorem newbR_c (env:List (Nat×V)) (adr loc) (hp:Heap) (d:Nat) (x:Cell):newbR ⟨env,adr,loc,hp⟩ d (some (.c x))=some ⟨(d,.c (.ptr hp.next 0 0))::env,drop adr d,loc,hp.push [[x]]⟩:=rfl
theorem newbR_a (env:List (Nat×V)) (adr loc) (hp:Heap) (d:Nat) (x:List Cell):newbR ⟨env,adr,loc,hp⟩ d (some (.agg x))=some ⟨(d,.c (.ptr hp.next 0 0))::env,drop adr d,loc,hp.push [x]⟩:=rfl
theorem op_newb (s:St) (d:Nat) (x:Opd):opF C s (.newb d x)=newbR s d (ev s.env x):=by
 rw[opF]
 cases h:ev s.env x with
 | none=>rfl
 | some v=>cases v<;>rfl
/-- What is laid out of cells that were found. -/
def mkR (agg:Bool):Option (List Cell)→Option V
 | none=>none
 | some cs=>mkV agg cs
theorem mkR_a (cs:List Cell):mkR true (some cs)=some (.agg cs):=rfl
theorem mkR_c (c:Cell):mkR false (some [c])=some (.c c):=rfl
/-- A cut that is in bounds. -/
theorem cut_eq (cs:List Cell) (off n:Nat) (h:off+n≤cs.length):cut? cs off n=some ((cs.drop off).take n):=if_pos h
def loadR (s:St) (d a n:Nat) (agg:Bool):Option (Nat×Nat)→Option St
 | some (k,off)=>match lk s.loc k with
   | some cs=>setR s d (mkR agg (cut? cs off n))
   | none=>none
 | none=>match lk s.env a with
   | some (.c (.ptr id i j))=>setR s d (mkR agg (loadP s.hp id i j n))
   | _=>none
def loadL (s:St) (d off n:Nat) (agg:Bool):Option (List Cell)→Option St
 | some cs=>setR s d (mkR agg (cut? cs off n))
 | none=>none
def loadH (s:St) (d n:Nat) (agg:Bool):Option V→Option St
 | some (.c (.ptr id i j))=>setR s d (mkR agg (loadP s.hp id i j n))
 | _=>none
theorem loadR_l (s:St) (d a n:Nat) (agg:Bool) (k off:Nat):loadR s d a n agg (some (k,off))=loadL s d off n agg (lk s.loc k):=by
 simp only[loadR];cases lk s.loc k<;>rfl
theorem loadL_s (s:St) (d off n:Nat) (agg:Bool) (cs:List Cell):loadL s d off n agg (some cs)=setR s d (mkR agg (cut? cs off n)):=rfl
theorem loadR_h (s:St) (d a n:Nat) (agg:Bool):loadR s d a n agg none=loadH s d n agg (lk s.env a):=by
 simp only[loadR]
 cases lk s.env a with
 | none=>rfl
 | some v=>cases v with
   | c x=>cases x<;>rfl
   | agg _=>rfl
   | tup _=>rfl
theorem loadH_s (s:St) (d n:Nat) (agg:Bool) (id i j:Nat):loadH s d n agg (some (.c (.ptr id i j)))=setR s d (mkR agg (loadP s.hp id i j n)):=rfl
theorem op_load (s:St) (d a n:Nat) (agg:Bool):opF C s (.load d a n agg)=loadR s d a n agg (lk s.adr a):=by
 have hm: ∀o:Option (List Cell),(o.bind fun x=>(mkV agg x).bind fun v=>some (s.set d v))=setR s d (mkR agg o):=by
  intro o
  cases o with
  | none=>rfl
  | some cs=>simp only[mkR,Option.bind_some];cases mkV agg cs<;>rfl
 rw[opF]
 cases lk s.adr a with
 | none=>simp only[loadR,hm];rfl
 | some p=>obtain ⟨k,off⟩:=p;simp only[loadR];cases lk s.loc k with
   | none=>rfl
   | some cs=>simp only[Option.bind_some,hm]
def lldR (s:St) (d n:Nat) (agg:Bool):Option (Nat×Nat)→Option St
 | some (k,off)=>loadL s d off n agg (lk s.loc k)
 | none=>none
theorem lldR_l (s:St) (d n:Nat) (agg:Bool) (k off:Nat):lldR s d n agg (some (k,off))=loadL s d off n agg (lk s.loc k):=rfl
theorem op_lld (s:St) (d a n:Nat) (agg:Bool):opF C s (.lld d a n agg)=lldR s d n agg (lk s.adr a):=by
 have hm: ∀o:Option (List Cell),(o.bind fun x=>(mkV agg x).bind fun v=>some (s.set d v))=setR s d (mkR agg o):=by
  intro o
  cases o with
  | none=>rfl
  | some cs=>simp only[mkR,Option.bind_some];cases mkV agg cs<;>rfl
 rw[opF]
 cases lk s.adr a with
 | none=>rfl
 | some p=>obtain ⟨k,off⟩:=p;simp only[lldR];cases lk s.loc k with
   | none=>rfl
   | some cs=>simp only[Option.bind_some,hm,loadL]
def vcells:Option V→Option (List Cell)
 | some (.c x)=>some [x]
 | some (.agg cs)=>some cs
 | _=>none
theorem vcells_c (x:Cell):vcells (some (.c x))=some [x]:=rfl
theorem vcells_a (x:List Cell):vcells (some (.agg x))=some x:=rfl
def putL (s:St) (k:Nat):Option (List Cell)→Option St
 | some cs=>some ⟨s.env,s.adr,(k,cs)::drop s.loc k,s.hp⟩
 | none=>none
theorem putL_s (env:List (Nat×V)) (adr loc) (hp:Heap) (k:Nat) (cs:List Cell):putL ⟨env,adr,loc,hp⟩ k (some cs)=some ⟨env,adr,(k,cs)::drop loc k,hp⟩:=rfl
def putH (s:St):Option Heap→Option St
 | some h=>some ⟨s.env,s.adr,s.loc,h⟩
 | none=>none
theorem putH_s (env:List (Nat×V)) (adr loc) (hp h:Heap):putH ⟨env,adr,loc,hp⟩ (some h)=some ⟨env,adr,loc,h⟩:=rfl
def spl (off:Nat) (new:List Cell):Option (List Cell)→Option (List Cell)
 | some cs=>splice? cs off new
 | none=>none
theorem spl_s (off:Nat) (new cs:List Cell):spl off new (some cs)=splice? cs off new:=rfl
def stoH (s:St) (new:List Cell):Option V→Option St
 | some (.c (.ptr id i j))=>putH s (storeP s.hp id i j new)
 | _=>none
theorem stoH_s (s:St) (new:List Cell) (id i j:Nat):stoH s new (some (.c (.ptr id i j)))=putH s (storeP s.hp id i j new):=rfl
def stoA (s:St) (a:Nat) (new:List Cell):Option (Nat×Nat)→Option St
 | some (k,off)=>putL s k (spl off new (lk s.loc k))
 | none=>stoH s new (lk s.env a)
theorem stoA_l (s:St) (a:Nat) (new:List Cell) (k off:Nat):stoA s a new (some (k,off))=putL s k (spl off new (lk s.loc k)):=rfl
theorem stoA_h (s:St) (a:Nat) (new:List Cell):stoA s a new none=stoH s new (lk s.env a):=rfl
def stoR (s:St) (a n:Nat):Option (List Cell)→Option St
 | some new=>if new.length=n then stoA s a new (lk s.adr a) else none
 | none=>none
theorem stoR_s (s:St) (a n:Nat) (new:List Cell):stoR s a n (some new)=if new.length=n then stoA s a new (lk s.adr a) else none:=rfl
theorem op_store (s:St) (a n:Nat) (x:Opd):opF C s (.store a n x)=stoR s a n (vcells (ev s.env x)):=by
 rw[opF]
 have h1: ∀new:List Cell,(match lk s.adr a with
  | some (k,off)=>(lk s.loc k).bind fun cs=>(splice? cs off new).bind fun cs'=>some {s with loc:=(k,cs')::drop s.loc k}
  | none=>match lk s.env a with
    | some (.c (.ptr id i j))=>(storeP s.hp id i j new).bind fun h=>some {s with hp:=h}
    | _=>none)=stoA s a new (lk s.adr a):=by
  intro new
  cases lk s.adr a with
  | some p=>obtain ⟨k,off⟩:=p;simp only[stoA];cases lk s.loc k with
    | none=>rfl
    | some cs=>simp only[Option.bind_some,spl];cases splice? cs off new<;>rfl
  | none=>simp only[stoA];cases lk s.env a with
    | none=>rfl
    | some v=>cases v with
      | c x=>cases x<;>first | rfl | (simp only[stoH];cases storeP s.hp _ _ _ new<;>rfl)
      | agg _=>rfl
      | tup _=>rfl
 cases ev s.env x with
 | none=>rfl
 | some v=>cases v with
   | c x=>simp only[Option.bind_some,V.cells?,vcells,stoR];rw[←h1];rfl
   | agg x=>simp only[Option.bind_some,V.cells?,vcells,stoR];rw[←h1];rfl
   | tup _=>rfl
def lstA (s:St) (new:List Cell):Option (Nat×Nat)→Option St
 | some (k,off)=>putL s k (spl off new (lk s.loc k))
 | none=>none
theorem lstA_l (s:St) (new:List Cell) (k off:Nat):lstA s new (some (k,off))=putL s k (spl off new (lk s.loc k)):=rfl
def lstR (s:St) (a n:Nat):Option (List Cell)→Option St
 | some new=>if new.length=n then lstA s new (lk s.adr a) else none
 | none=>none
theorem lstR_s (s:St) (a n:Nat) (new:List Cell):lstR s a n (some new)=if new.length=n then lstA s new (lk s.adr a) else none:=rfl
theorem op_lst (s:St) (a n:Nat) (x:Opd):opF C s (.lst a n x)=lstR s a n (vcells (ev s.env x)):=by
 rw[opF]
 have h1: ∀new:List Cell,(match lk s.adr a with
  | some (k,off)=>(lk s.loc k).bind fun cs=>(splice? cs off new).bind fun cs'=>some {s with loc:=(k,cs')::drop s.loc k}
  | none=>none)=lstA s new (lk s.adr a):=by
  intro new
  cases lk s.adr a with
  | some p=>obtain ⟨k,off⟩:=p;simp only[lstA];cases lk s.loc k with
    | none=>rfl
    | some cs=>simp only[Option.bind_some,spl];cases splice? cs off new<;>rfl
  | none=>rfl
 cases ev s.env x with
 | none=>rfl
 | some v=>cases v with
   | c x=>simp only[Option.bind_some,V.cells?,vcells,lstR];rw[←h1];rfl
   | agg x=>simp only[Option.bind_some,V.cells?,vcells,lstR];rw[←h1];rfl
   | tup _=>rfl
def escL (s:St) (d k:Nat):Option (List Cell)→Option St
 | some cs=>some ⟨(d,.c (.ptr s.hp.next 0 0))::s.env,drop s.adr d,drop s.loc k,s.hp.push [cs]⟩
 | none=>none
theorem escL_s (env:List (Nat×V)) (adr loc) (hp:Heap) (d k:Nat) (cs:List Cell):escL ⟨env,adr,loc,hp⟩ d k (some cs)=some ⟨(d,.c (.ptr hp.next 0 0))::env,drop adr d,drop loc k,hp.push [cs]⟩:=rfl
def escR (s:St) (d:Nat):Option (Nat×Nat)→Option St
 | some (k,0)=>bif ownK d k s.adr then escL s d k (lk s.loc k) else none
 | _=>none
theorem escR_s (env:List (Nat×V)) (adr loc) (hp:Heap) (d k:Nat):escR ⟨env,adr,loc,hp⟩ d (some (k,0))=bif ownK d k adr then escL ⟨env,adr,loc,hp⟩ d k (lk loc k) else none:=rfl
theorem op_esc (s:St) (d:Nat):opF C s (.esc d)=escR s d (lk s.adr d):=by
 rw[opF]
 cases lk s.adr d with
 | none=>rfl
 | some p=>
   obtain ⟨k,o⟩:=p
   cases o with
   | zero=>
     simp only[escR]
     cases ownK d k s.adr with
     | false=>rfl
     | true=>simp only[cond_true];cases lk s.loc k<;>rfl
   | succ o=>rfl
def fadH (s:St) (d off:Nat):Option V→Option St
 | some (.c (.ptr id i j))=>some (s.set d (.c (.ptr id i (j+off))))
 | _=>none
theorem fadH_s (s:St) (d off:Nat) (id i j:Nat):fadH s d off (some (.c (.ptr id i j)))=some (s.set d (.c (.ptr id i (j+off)))):=rfl
def fadR (s:St) (d a off:Nat):Option (Nat×Nat)→Option St
 | some (k,o)=>some ⟨drop s.env d,(d,k,o+off)::drop s.adr d,s.loc,s.hp⟩
 | none=>fadH s d off (lk s.env a)
theorem fadR_l (env:List (Nat×V)) (adr loc) (hp:Heap) (d a off k o:Nat):fadR ⟨env,adr,loc,hp⟩ d a off (some (k,o))=some ⟨drop env d,(d,k,o+off)::drop adr d,loc,hp⟩:=rfl
theorem fadR_h (s:St) (d a off:Nat):fadR s d a off none=fadH s d off (lk s.env a):=rfl
theorem op_fad (s:St) (d a off:Nat):opF C s (.fad d a off)=fadR s d a off (lk s.adr a):=by
 rw[opF]
 cases lk s.adr a with
 | some p=>rfl
 | none=>simp only[fadR];cases lk s.env a with
   | none=>rfl
   | some v=>cases v with
     | c x=>cases x<;>rfl
     | agg _=>rfl
     | tup _=>rfl
def fldR (s:St) (d off n:Nat) (agg:Bool):Option V→Option St
 | some (.agg cs)=>setR s d (mkR agg (cut? cs off n))
 | _=>none
theorem fldR_s (s:St) (d off n:Nat) (agg:Bool) (cs:List Cell):fldR s d off n agg (some (.agg cs))=setR s d (mkR agg (cut? cs off n)):=rfl
theorem op_fld (s:St) (d:Nat) (x:Opd) (off n:Nat) (agg:Bool):opF C s (.fld d x off n agg)=fldR s d off n agg (ev s.env x):=by
 rw[opF]
 cases ev s.env x with
 | none=>rfl
 | some v=>cases v with
   | agg cs=>simp only[fldR];cases h:cut? cs off n with
     | none=>rfl
     | some y=>simp only[Option.bind_some,mkR];cases mkV agg y<;>rfl
   | c _=>rfl
   | tup _=>rfl
def cellOf:Option V→Option Cell
 | some (.c x)=>some x
 | _=>none
theorem cellOf_c (x:Cell):cellOf (some (.c x))=some x:=rfl
theorem evc_eq (e:List (Nat×V)) (x:Opd):evc e x=cellOf (ev e x):=by
 unfold evc;cases ev e x with
 | none=>rfl
 | some v=>cases v<;>rfl
def intOf:Option V→Option Int
 | some (.c (.int _ n))=>some n
 | _=>none
theorem intOf_c (k:IntKind) (n:Int):intOf (some (.c (.int k n)))=some n:=rfl
theorem evi_eq (e:List (Nat×V)) (x:Opd):evi e x=intOf (ev e x):=by
 unfold evi;cases ev e x with
 | none=>rfl
 | some v=>cases v with
   | c x=>cases x<;>rfl
   | agg _=>rfl
   | tup _=>rfl
def bin2 (op:BinOp):Option Cell→Option Cell→Option Cell
 | some a,some b=>binF op a b
 | _,_=>none
theorem bin2_s (op:BinOp) (a b:Cell):bin2 op (some a) (some b)=binF op a b:=rfl
theorem op_bin (s:St) (d:Nat) (op:BinOp) (x y:Opd):opF C s (.bin d op x y)=cellR s d (bin2 op (cellOf (ev s.env x)) (cellOf (ev s.env y))):=by
 rw[opF,evc_eq,evc_eq]
 cases cellOf (ev s.env x) with
 | none=>rfl
 | some a=>cases cellOf (ev s.env y) with
   | none=>rfl
   | some b=>simp only[Option.bind_some,bin2];cases binF op a b<;>rfl
theorem b_add (k:IntKind) (a b:Int):binF .add (.int k a) (.int k b)=some (.int k (k.wrap (a+b))):=by simp[binF]
theorem b_sub (k:IntKind) (a b:Int):binF .sub (.int k a) (.int k b)=some (.int k (k.wrap (a-b))):=by simp[binF]
theorem b_mul (k:IntKind) (a b:Int):binF .mul (.int k a) (.int k b)=some (.int k (k.wrap (a*b))):=by simp[binF]
theorem b_eql (k:IntKind) (a b:Int):binF .eql (.int k a) (.int k b)=some (.bool (a==b)):=by simp[binF]
theorem b_neq (k:IntKind) (a b:Int):binF .neq (.int k a) (.int k b)=some (.bool (a !=b)):=by simp[binF]
theorem b_lss (k:IntKind) (a b:Int):binF .lss (.int k a) (.int k b)=some (.bool (decide (a<b))):=by simp[binF]
theorem b_leq (k:IntKind) (a b:Int):binF .leq (.int k a) (.int k b)=some (.bool (decide (a≤b))):=by simp[binF]
theorem b_gtr (k:IntKind) (a b:Int):binF .gtr (.int k a) (.int k b)=some (.bool (decide (b<a))):=by simp[binF]
theorem b_geq (k:IntKind) (a b:Int):binF .geq (.int k a) (.int k b)=some (.bool (decide (b≤a))):=by simp[binF]
def beqR (neg:Bool):Option Cell→Option Cell→Option Cell
 | some (.bool a),some (.bool b)=>some (.bool (neg ^^ (a==b)))
 | _,_=>none
theorem beqR_t (a b:Bool):beqR true (some (.bool a)) (some (.bool b))=some (.bool (a !=b)):=by cases a<;>cases b<;>rfl
theorem beqR_f (a b:Bool):beqR false (some (.bool a)) (some (.bool b))=some (.bool (a==b)):=by cases a<;>cases b<;>rfl
theorem op_beq (s:St) (d:Nat) (neg:Bool) (x y:Opd):opF C s (.beq d neg x y)=cellR s d (beqR neg (cellOf (ev s.env x)) (cellOf (ev s.env y))):=by
 rw[opF,evc_eq,evc_eq]
 cases cellOf (ev s.env x) with
 | none=>rfl
 | some a=>cases a<;>first | rfl | (cases cellOf (ev s.env y) with
   | none=>rfl
   | some b=>cases b<;>rfl)
def notR:Option Cell→Option Cell
 | some (.bool b)=>some (.bool (!b))
 | _=>none
theorem notR_s (b:Bool):notR (some (.bool b))=some (.bool (!b)):=rfl
theorem op_not (s:St) (d:Nat) (x:Opd):opF C s (.not d x)=cellR s d (notR (cellOf (ev s.env x))):=by
 rw[opF,evc_eq]
 cases cellOf (ev s.env x) with
 | none=>rfl
 | some a=>cases a<;>rfl
def convR (k:IntKind):Option Int→Option Cell
 | some n=>some (.int k (k.wrap n))
 | none=>none
theorem convR_s (k:IntKind) (n:Int):convR k (some n)=some (.int k (k.wrap n)):=rfl
theorem op_conv (s:St) (d:Nat) (k:IntKind) (x:Opd):opF C s (.conv d k x)=cellR s d (convR k (intOf (ev s.env x))):=by
 rw[opF,evi_eq];cases intOf (ev s.env x)<;>rfl
def lenR:Option Cell→Option Cell
 | some (.sl _ _ _ n)=>some (.int .i64 n)
 | some .nil=>some (.int .i64 0)
 | _=>none
theorem lenR_s (t i o n:Nat):lenR (some (.sl t i o n))=some (.int .i64 n):=rfl
theorem lenR_n:lenR (some .nil)=some (.int .i64 0):=rfl
theorem op_len (s:St) (d:Nat) (x:Opd):opF C s (.len d x)=cellR s d (lenR (cellOf (ev s.env x))):=by
 rw[opF,evc_eq]
 cases cellOf (ev s.env x) with
 | none=>rfl
 | some a=>cases a<;>rfl
def idxR (tag:Nat):Option Cell→Option Int→Option Cell
 | some (.sl z id off len),some n=>if z=tag∧0≤n∧n<len then some (.ptr id (off+n.toNat) 0) else none
 | _,_=>none
theorem idxR_s (tag id off len:Nat) (n:Int):idxR tag (some (.sl tag id off len)) (some n)=if 0≤n∧n<len then some (.ptr id (off+n.toNat) 0) else none:=by simp[idxR]
theorem op_idx (s:St) (d tag:Nat) (x i:Opd):opF C s (.idx d tag x i)=cellR s d (idxR tag (cellOf (ev s.env x)) (intOf (ev s.env i))):=by
 rw[opF,evc_eq,evi_eq]
 cases cellOf (ev s.env x) with
 | none=>rfl
 | some a=>cases a<;>first | rfl | (cases intOf (ev s.env i) with
   | none=>rfl
   | some b=>simp only[idxR];split<;>rfl)
def extR (s:St) (d i:Nat):Option V→Option St
 | some (.tup vs)=>setR s d vs[i]?
 | _=>none
theorem extR_s (s:St) (d i:Nat) (vs:List V):extR s d i (some (.tup vs))=setR s d vs[i]? :=rfl
theorem op_ext (s:St) (d:Nat) (x:Opd) (i:Nat):opF C s (.ext d x i)=extR s d i (ev s.env x):=by
 rw[opF]
 cases ev s.env x with
 | none=>rfl
 | some v=>cases v with
   | tup vs=>simp only[extR];cases vs[i]? <;>rfl
   | c _=>rfl
   | agg _=>rfl
def nilcR:Option Cell→Option Cell
 | some (.ptr a b c)=>some (.ptr a b c)
 | some (.fn f ps)=>some (.fn f ps)
 | _=>none
theorem nilcR_p (a b c:Nat):nilcR (some (.ptr a b c))=some (.ptr a b c):=rfl
theorem nilcR_f (f:Nat) (ps):nilcR (some (.fn f ps))=some (.fn f ps):=rfl
theorem op_nilc (s:St) (d:Nat) (x:Opd):opF C s (.nilc d x)=cellR s d (nilcR (cellOf (ev s.env x))):=by
 rw[opF,evc_eq]
 cases cellOf (ev s.env x) with
 | none=>rfl
 | some a=>cases a<;>rfl
def eqsR (neg:Bool) (ks:List EK):Option V→Option V→Option Cell
 | some (.agg a),some (.agg b)=>if a.length=ks.length∧b.length=ks.length then (cellsEq? ks a b).bind fun r=>some (.bool (neg ^^ r)) else none
 | _,_=>none
theorem op_eqs (s:St) (d:Nat) (neg:Bool) (ks:List EK) (x y:Opd):opF C s (.eqs d neg ks x y)=cellR s d (eqsR neg ks (ev s.env x) (ev s.env y)):=by
 rw[opF]
 cases ev s.env x with
 | none=>rfl
 | some v=>cases v with
   | agg a=>cases ev s.env y with
     | none=>rfl
     | some w=>cases w with
       | agg b=>simp only[eqsR];split
                ·cases cellsEq? ks a b<;>rfl
                ·rfl
       | c _=>rfl
       | tup _=>rfl
   | c _=>rfl
   | tup _=>rfl
def mkfR (s:St) (d f:Nat):Option (List (Nat×Nat×Nat))→Option St
 | some ps=>some (s.set d (.c (.fn f ps)))
 | none=>none
theorem mkfR_s (s:St) (d f:Nat) (ps):mkfR s d f (some ps)=some (s.set d (.c (.fn f ps))):=rfl
theorem op_mkf (s:St) (d f:Nat) (caps:List Nat):opF C s (.mkf d f caps)=mkfR s d f (evPtrs s.env caps):=by
 rw[opF];cases evPtrs s.env caps<;>rfl
def appR (s:St) (d tag bytes:Nat):Option Cell→Option Cell→Option St
 | some a,some b=>match appF s.hp tag bytes a b with
   | some r=>some {s with env:=(d,.c r.1)::s.env,adr:=drop s.adr d,hp:=r.2}
   | none=>none
 | _,_=>none
def appS (s:St) (d:Nat):Option (Cell×Heap)→Option St
 | some (c,h)=>some ⟨(d,.c c)::s.env,drop s.adr d,s.loc,h⟩
 | none=>none
theorem appS_s (env:List (Nat×V)) (adr loc) (hp:Heap) (d:Nat) (c:Cell) (h:Heap):appS ⟨env,adr,loc,hp⟩ d (some (c,h))=some ⟨(d,.c c)::env,drop adr d,loc,h⟩:=rfl
theorem appR_s (s:St) (d tag bytes:Nat) (a b:Cell):appR s d tag bytes (some a) (some b)=appS s d (appF s.hp tag bytes a b):=by
 simp only[appR];cases appF s.hp tag bytes a b<;>rfl
theorem op_app (s:St) (d tag bytes:Nat) (x y:Opd):opF C s (.app d tag bytes x y)=appR s d tag bytes (cellOf (ev s.env x)) (cellOf (ev s.env y)):=by
 rw[opF,evc_eq,evc_eq]
 cases cellOf (ev s.env x) with
 | none=>rfl
 | some a=>cases cellOf (ev s.env y) with
   | none=>rfl
   | some b=>simp only[Option.bind_some,appR];cases appF s.hp tag bytes a b<;>rfl
def litR (s:St) (d tag len:Nat):Option (List (List Cell))→Option St
 | some rows=>some ⟨(d,.c (.sl tag s.hp.next 0 len))::s.env,drop s.adr d,s.loc,s.hp.push rows⟩
 | none=>none
theorem litR_s (env:List (Nat×V)) (adr loc) (hp:Heap) (d tag len:Nat) (rows:List (List Cell)):litR ⟨env,adr,loc,hp⟩ d tag len (some rows)=some ⟨(d,.c (.sl tag hp.next 0 len))::env,drop adr d,loc,hp.push rows⟩:=rfl
def fillsO (sz:Nat) (rows:List (List Cell)):Option (List (Nat×List Cell))→Option (List (List Cell))
 | some ps=>fills sz rows ps
 | none=>none
theorem fillsO_s (sz:Nat) (rows:List (List Cell)) (ps:List (Nat×List Cell)):fillsO sz rows (some ps)=fills sz rows ps:=rfl
theorem op_lit (s:St) (d tag len:Nat) (init:List Cell) (parts:List (Nat×Opd)):opF C s (.lit d tag len init parts)=litR s d tag len (fillsO init.length (List.replicate len init) (evParts s.env parts)):=by
 rw[opF]
 cases evParts s.env parts with
 | none=>rfl
 | some ps=>simp only[Option.bind_some,fillsO];cases fills init.length (List.replicate len init) ps<;>rfl
def consP (i:Nat):Option (List Cell)→Option (List (Nat×List Cell))→Option (List (Nat×List Cell))
 | some cs,some ps=>some ((i,cs)::ps)
 | _,_=>none
theorem consP_s (i:Nat) (cs:List Cell) (ps:List (Nat×List Cell)):consP i (some cs) (some ps)=some ((i,cs)::ps):=rfl
theorem evParts_nil (e:List (Nat×V)):evParts e []=some []:=rfl
theorem evParts_cons (e:List (Nat×V)) (i:Nat) (x:Opd) (r:List (Nat×Opd)):evParts e ((i,x)::r)=consP i (vcells (ev e x)) (evParts e r):=by
 rw[evParts]
 cases ev e x with
 | none=>rfl
 | some v=>cases v with
   | tup _=>rfl
   | c x=>simp only[Option.bind_some,V.cells?,vcells];cases evParts e r<;>rfl
   | agg x=>simp only[Option.bind_some,V.cells?,vcells];cases evParts e r<;>rfl
def aggR (s:St) (d:Nat):Option (List Cell)→Option St
 | some cs=>some (s.set d (.agg cs))
 | none=>none
theorem aggR_s (s:St) (d:Nat) (cs:List Cell):aggR s d (some cs)=some (s.set d (.agg cs)):=rfl
def buildsO (init:List Cell):Option (List (Nat×Nat×List Cell))→Option (List Cell)
 | some ps=>builds init ps
 | none=>none
theorem buildsO_s (init:List Cell) (ps:List (Nat×Nat×List Cell)):buildsO init (some ps)=builds init ps:=rfl
theorem op_build (s:St) (d:Nat) (init:List Cell) (parts:List (Nat×Nat×Opd)):opF C s (.build d init parts)=aggR s d (buildsO init (evParts3 s.env parts)):=by
 rw[opF]
 cases evParts3 s.env parts with
 | none=>rfl
 | some ps=>simp only[Option.bind_some,buildsO];cases builds init ps<;>rfl
def consP3 (i n:Nat):Option (List Cell)→Option (List (Nat×Nat×List Cell))→Option (List (Nat×Nat×List Cell))
 | some cs,some ps=>some ((i,n,cs)::ps)
 | _,_=>none
theorem consP3_s (i n:Nat) (cs:List Cell) (ps:List (Nat×Nat×List Cell)):consP3 i n (some cs) (some ps)=some ((i,n,cs)::ps):=rfl
theorem evParts3_nil (e:List (Nat×V)):evParts3 e []=some []:=rfl
theorem evParts3_cons (e:List (Nat×V)) (i n:Nat) (x:Opd) (r:List (Nat×Nat×Opd)):evParts3 e ((i,n,x)::r)=consP3 i n (vcells (ev e x)) (evParts3 e r):=by
 rw[evParts3]
 cases ev e x with
 | none=>rfl
 | some v=>cases v with
   | tup _=>rfl
   | c x=>simp only[Option.bind_some,V.cells?,vcells];cases evParts3 e r<;>rfl
   | agg x=>simp only[Option.bind_some,V.cells?,vcells];cases evParts3 e r<;>rfl

def sidxR:Option Cell→Option Int→Option Cell
 | some (.str b),some n=>if 0≤n then (b[n.toNat]?).map fun c=> .int .u8 c.toNat else none
 | _,_=>none
theorem sidxR_s (b:ByteArray) (n:Int):sidxR (some (.str b)) (some n)=if 0≤n then (b[n.toNat]?).map fun c=> .int .u8 c.toNat else none:=rfl
theorem op_sidx (s:St) (d:Nat) (x i:Opd):opF C s (.sidx d x i)=cellR s d (sidxR (cellOf (ev s.env x)) (intOf (ev s.env i))):=by
 rw[opF,evc_eq,evi_eq]
 cases cellOf (ev s.env x) with
 | none=>rfl
 | some a=>cases a with
   | str b=>cases intOf (ev s.env i) with
     | none=>rfl
     | some n=>
       simp only[sidxR]
       split
       ·cases b[n.toNat]? <;>rfl
       ·rfl
   | _=>rfl
def bndO (e:List (Nat×V)):Option Opd→Option (Option Int)
 | none=>some none
 | some y=>match intOf (ev e y) with
   | some n=>some (some n)
   | none=>none
theorem bndO_n (e:List (Nat×V)):bndO e none=some none:=rfl
def someI:Option Int→Option (Option Int)
 | some n=>some (some n)
 | none=>none
theorem someI_s (n:Int):someI (some n)=some (some n):=rfl
theorem bndO_s (e:List (Nat×V)) (y:Opd):bndO e (some y)=someI (intOf (ev e y)):=by
 simp only[bndO];cases intOf (ev e y)<;>rfl
theorem bndF_eq (e:List (Nat×V)) (x:Option Opd) (n:Int):bndF e x n=(bndO e x).map fun o=>o.getD n:=by
 cases x with
 | none=>rfl
 | some y=>simp only[bndF,bndO,evi_eq];cases intOf (ev e y)<;>rfl
def cutR (tag:Nat):Option Cell→Option (Option Int)→Option (Option Int)→Option Cell
 | some (.sl z id off len),some lo,some hi=>if z=tag∧0≤lo.getD 0∧lo.getD 0≤hi.getD len∧hi.getD len≤len then some (.sl tag id (off+(lo.getD 0).toNat) ((hi.getD len).toNat-(lo.getD 0).toNat)) else none
 | some .nil,some lo,some hi=>if lo.getD 0=0∧hi.getD 0=0 then some .nil else none
 | _,_,_=>none
theorem cutR_s (tag id off len:Nat) (lo hi:Option Int):cutR tag (some (.sl tag id off len)) (some lo) (some hi)=if 0≤lo.getD 0∧lo.getD 0≤hi.getD len∧hi.getD len≤len then some (.sl tag id (off+(lo.getD 0).toNat) ((hi.getD len).toNat-(lo.getD 0).toNat)) else none:=by simp[cutR]
theorem cutR_n (tag:Nat) (lo hi:Option Int):cutR tag (some .nil) (some lo) (some hi)=if lo.getD 0=0∧hi.getD 0=0 then some .nil else none:=rfl
theorem op_cut (s:St) (d tag:Nat) (x:Opd) (lo hi:Option Opd):opF C s (.cut d tag x lo hi)=cellR s d (cutR tag (cellOf (ev s.env x)) (bndO s.env lo) (bndO s.env hi)):=by
 rw[opF,evc_eq]
 cases cellOf (ev s.env x) with
 | none=>rfl
 | some a=>cases a<;>first | rfl | (simp only[bndF_eq];cases bndO s.env lo with
   | none=>rfl
   | some l=>cases bndO s.env hi with
     | none=>rfl
     | some h=>simp only[Option.map_some,cutR];split<;>rfl)
def scutR:Option Cell→Option (Option Int)→Option (Option Int)→Option Cell
 | some (.str b),some lo,some hi=>if 0≤lo.getD 0∧lo.getD 0≤hi.getD b.size∧hi.getD b.size≤b.size then some (.str (b.extract (lo.getD 0).toNat (hi.getD b.size).toNat)) else none
 | _,_,_=>none
theorem op_scut (s:St) (d:Nat) (x:Opd) (lo hi:Option Opd):opF C s (.scut d x lo hi)=cellR s d (scutR (cellOf (ev s.env x)) (bndO s.env lo) (bndO s.env hi)):=by
 rw[opF,evc_eq]
 cases cellOf (ev s.env x) with
 | none=>rfl
 | some a=>cases a<;>first | rfl | (simp only[bndF_eq];cases bndO s.env lo with
   | none=>rfl
   | some l=>cases bndO s.env hi with
     | none=>rfl
     | some h=>simp only[Option.map_some,scutR];split<;>rfl)
def slenR:Option Cell→Option Cell
 | some (.str b)=>some (.int .i64 b.size)
 | _=>none
theorem slenR_s (b:ByteArray):slenR (some (.str b))=some (.int .i64 b.size):=rfl
theorem op_slen (s:St) (d:Nat) (x:Opd):opF C s (.slen d x)=cellR s d (slenR (cellOf (ev s.env x))):=by
 rw[opF,evc_eq]
 cases cellOf (ev s.env x) with
 | none=>rfl
 | some a=>cases a<;>rfl
def addR:Option Cell→Option Cell→Option Cell→Option V
 | some (.int .u64 a),some (.int .u64 b),some (.int .u64 k)=>
   if 0≤a∧0≤b∧0≤k∧k≤1 then some (.tup [.c (.int .u64 ((a+b+k)%18446744073709551616)),.c (.int .u64 ((a+b+k) / 18446744073709551616))]) else none
 | _,_,_=>none
theorem addR_s (a b k:Int):addR (some (.int .u64 a)) (some (.int .u64 b)) (some (.int .u64 k))=
 if 0≤a∧0≤b∧0≤k∧k≤1 then some (.tup [.c (.int .u64 ((a+b+k)%18446744073709551616)),.c (.int .u64 ((a+b+k) / 18446744073709551616))]) else none:=rfl
theorem op_add (s:St) (d:Nat) (x y z:Opd):opF C s (.add d x y z)=setR s d (addR (cellOf (ev s.env x)) (cellOf (ev s.env y)) (cellOf (ev s.env z))):=by
 rw[opF,evc_eq,evc_eq,evc_eq]
 split
 ·rename_i h1 h2 h3
  rw[h1,h2,h3,addR_s]
  split<;>rfl
 ·rename_i hn
  unfold addR
  split
  ·rename_i h1 h2 h3;exact absurd h3 (hn _ _ _ h1 h2)
  ·rfl
def mksR (s:St) (d tag bytes:Nat) (init:List Cell):Option Int→Option Int→Option St
 | some l,some c=>if 0≤l∧l≤c∧c*bytes≤140737488355328∧c≤140737488355328 then
  some ⟨(d,.c (.sl tag s.hp.next 0 l.toNat))::s.env,drop s.adr d,s.loc,s.hp.push (List.replicate l.toNat init)⟩ else none
 | _,_=>none
theorem mksR_s (env:List (Nat×V)) (adr loc) (hp:Heap) (d tag bytes:Nat) (init:List Cell) (l c:Int):mksR ⟨env,adr,loc,hp⟩ d tag bytes init (some l) (some c)=if 0≤l∧l≤c∧c*bytes≤140737488355328∧c≤140737488355328 then
 some ⟨(d,.c (.sl tag hp.next 0 l.toNat))::env,drop adr d,loc,hp.push (List.replicate l.toNat init)⟩ else none:=rfl
theorem op_mks (s:St) (d tag bytes:Nat) (init:List Cell) (len cap:Opd):opF C s (.mks d tag bytes init len cap)=mksR s d tag bytes init (intOf (ev s.env len)) (intOf (ev s.env cap)):=by
 rw[opF,evi_eq,evi_eq]
 cases intOf (ev s.env len) with
 | none=>rfl
 | some a=>cases intOf (ev s.env cap)<;>rfl

/-! ### calls -/
def retG (s:St) (d:Option Nat):V×Heap→Option St:=fun r=>some ({s with hp:=r.2}.setO d r.1)
theorem retG_s (env:List (Nat×V)) (adr loc) (hp:Heap) (d:Nat) (v:V) (h:Heap):retG ⟨env,adr,loc,hp⟩ (some d) (v,h)=some ⟨(d,v)::env,drop adr d,loc,h⟩:=rfl
theorem retG_n (env:List (Nat×V)) (adr loc) (hp:Heap) (v:V) (h:Heap):retG ⟨env,adr,loc,hp⟩ none (v,h)=some ⟨env,adr,loc,h⟩:=rfl
def callG (s:St) (d:Option Nat) (f:Nat):List V→Option St:=fun vs=>(C f vs s.hp).bind (retG s d)
theorem callG_s (s:St) (d:Option Nat) (f:Nat) (vs:List V):callG C s d f vs=(C f vs s.hp).bind (retG s d):=rfl
theorem op_call (s:St) (d:Option Nat) (f:Nat) (xs:List Opd):opF C s (.call d f xs false)=(evs s.env xs).bind (callG C s d f):=rfl
def retQ (s:St) (d:Option Nat):V×Heap→Option St:=fun r=>some ({s with hp:={r.2 with floor:=s.hp.floor}}.setO d r.1)
theorem retQ_s (env:List (Nat×V)) (adr loc) (hp:Heap) (d:Nat) (v:V) (h:Heap):retQ ⟨env,adr,loc,hp⟩ (some d) (v,h)=some ⟨(d,v)::env,drop adr d,loc,{h with floor:=hp.floor}⟩:=rfl
def callQ (s:St) (d:Option Nat) (f:Nat):List V→Option St:=fun vs=>(C f vs {s.hp with floor:=s.hp.next}).bind (retQ s d)
theorem callQ_s (s:St) (d:Option Nat) (f:Nat) (vs:List V):callQ C s d f vs=(C f vs {s.hp with floor:=s.hp.next}).bind (retQ s d):=rfl
theorem op_callQ (s:St) (d:Option Nat) (f:Nat) (xs:List Opd):opF C s (.call d f xs true)=(evs s.env xs).bind (callQ C s d f):=by
 rw[opF]
 cases evs s.env xs with
 | none=>rfl
 | some vs=>simp only[Option.bind_some,doCall,cond_true,callQ];cases C f vs {s.hp with floor:=s.hp.next}<;>rfl
theorem evs_nil (e:List (Nat×V)):evs e []=some []:=rfl
def consV:Option V→Option (List V)→Option (List V)
 | some v,some vs=>some (v::vs)
 | _,_=>none
theorem consV_s (v:V) (vs:List V):consV (some v) (some vs)=some (v::vs):=rfl
theorem evs_cons (e:List (Nat×V)) (x:Opd) (r:List Opd):evs e (x::r)=consV (ev e x) (evs e r):=by
 rw[evs]
 cases ev e x with
 | none=>rfl
 | some v=>simp only[Option.bind_some];cases evs e r<;>rfl

def capV (ps:List (Nat×Nat×Nat)):List V:=ps.map fun p=>V.c (.ptr p.1 p.2.1 p.2.2)
theorem capV_nil:capV []=[]:=rfl
theorem capV_cons (a b c:Nat) (r:List (Nat×Nat×Nat)):capV ((a,b,c)::r)=V.c (.ptr a b c)::capV r:=rfl
def calvG (s:St) (d:Option Nat):Option Cell→List V→Option St
 | some (.fn f ps),vs=>callG C s d f (vs++capV ps)
 | _,_=>none
theorem calvG_s (s:St) (d:Option Nat) (f:Nat) (ps) (vs:List V):calvG C s d (some (.fn f ps)) vs=callG C s d f (vs++capV ps):=rfl
theorem op_calv (s:St) (d:Option Nat) (x:Opd) (xs:List Opd):opF C s (.calv d x xs false)=(evs s.env xs).bind (calvG C s d (cellOf (ev s.env x))):=by
 rw[opF,evc_eq]
 cases cellOf (ev s.env x) with
 | none=>cases evs s.env xs<;>rfl
 | some a=>cases a<;>first | rfl | (cases evs s.env xs<;>rfl)
def calvQ (s:St) (d:Option Nat):Option Cell→List V→Option St
 | some (.fn f ps),vs=>callQ C s d f (vs++capV ps)
 | _,_=>none
theorem calvQ_s (s:St) (d:Option Nat) (f:Nat) (ps) (vs:List V):calvQ C s d (some (.fn f ps)) vs=callQ C s d f (vs++capV ps):=rfl
theorem op_calvQ (s:St) (d:Option Nat) (x:Opd) (xs:List Opd):opF C s (.calv d x xs true)=(evs s.env xs).bind (calvQ C s d (cellOf (ev s.env x))):=by
 rw[opF,evc_eq]
 cases cellOf (ev s.env x) with
 | none=>cases evs s.env xs<;>rfl
 | some a=>cases a<;>first | (cases evs s.env xs<;>rfl) | (cases evs s.env xs with
   | none=>rfl
   | some vs=>simp only[Option.bind_some,doCall,cond_true,calvQ,callQ,capV];cases C _ _ {s.hp with floor:=s.hp.next}<;>rfl)

/-! ### code -/
def thenC (b:RC):Option (Ex×St)→Option (Ex×St)
 | some (.normal,s)=>codeF C L b s
 | some (e,s)=>some (e,s)
 | none=>none
theorem thenC_n (b:RC) (s:St):thenC C L b (some (.normal,s))=codeF C L b s:=rfl
theorem thenC_r (b:RC) (s:St):thenC C L b (some (.ret,s))=some (.ret,s):=rfl
theorem thenC_e (b:RC) (i:Nat) (s:St):thenC C L b (some (.exit i,s))=some (.exit i,s):=rfl
theorem code_skip (s:St):codeF C L .skip s=some (.normal,s):=rfl
theorem code_ret (s:St):codeF C L .ret s=some (.ret,s):=rfl
theorem code_exit (i:Nat) (s:St):codeF C L (.exit i) s=some (.exit i,s):=rfl
def normC:Option St→Option (Ex×St)
 | some s=>some (.normal,s)
 | none=>none
theorem normC_s (s:St):normC (some s)=some (.normal,s):=rfl
theorem code_reg (ops:List RG) (s:St):codeF C L (.reg ops) s=normC (regF C ops s):=by
 rw[codeF];cases regF C ops s<;>rfl
theorem code_seq (a b:RC) (s:St):codeF C L (.seq a b) s=thenC C L b (codeF C L a s):=by
 rw[codeF]
 cases codeF C L a s with
 | none=>rfl
 | some r=>obtain ⟨e,s'⟩:=r;cases e<;>rfl
def condC (x y:RC) (s:St):Option V→Option (Ex×St)
 | some (.c (.bool b))=>bif b then codeF C L x s else codeF C L y s
 | _=>none
theorem condC_t (x y:RC) (s:St):condC C L x y s (some (.c (.bool true)))=codeF C L x s:=rfl
theorem condC_f (x y:RC) (s:St):condC C L x y s (some (.c (.bool false)))=codeF C L y s:=rfl
theorem condC_if (x y:RC) (s:St) (b:Bool):condC C L x y s (some (.c (.bool b)))=if b=true then condC C L x y s (some (.c (.bool true))) else condC C L x y s (some (.c (.bool false))):=by cases b<;>rfl
theorem code_cond (c:Opd) (x y:RC) (s:St):codeF C L (.cond c x y) s=condC C L x y s (ev s.env c):=by
 rw[codeF];unfold evc
 cases ev s.env c with
 | none=>rfl
 | some v=>cases v with
   | c k=>cases k<;>rfl
   | agg _=>rfl
   | tup _=>rfl
def blockC (id:Nat):Option (Ex×St)→Option (Ex×St)
 | some (.exit i,s)=>bif i==id then some (.normal,s) else some (.exit i,s)
 | some (e,s)=>some (e,s)
 | none=>none
theorem blockC_n (id:Nat) (s:St):blockC id (some (.normal,s))=some (.normal,s):=rfl
theorem blockC_r (id:Nat) (s:St):blockC id (some (.ret,s))=some (.ret,s):=rfl
theorem blockC_e (id i:Nat) (s:St):blockC id (some (.exit i,s))=bif i==id then some (.normal,s) else some (.exit i,s):=rfl
theorem code_block (id:Nat) (b:RC) (s:St):codeF C L (.block id b) s=blockC id (codeF C L b s):=by
 rw[codeF]
 cases codeF C L b s with
 | none=>rfl
 | some r=>obtain ⟨e,s'⟩:=r;cases e<;>rfl
theorem code_loop (live:List Nat) (b:RC) (s:St):codeF C L (.loop live b) s=L live b (s.prune live):=rfl
theorem prune_eq (env:List (Nat×V)) (adr loc) (hp:Heap) (live:List Nat):St.prune ⟨env,adr,loc,hp⟩ live=⟨keep env live,keep adr live,keep loc live,hp⟩:=rfl
def keepO {α:Type} (t:Nat) (r:List (Nat×α)):Option α→List (Nat×α)
 | some v=>(t,v)::r
 | none=>r
theorem keepO_s {α:Type} (t:Nat) (r:List (Nat×α)) (v:α):keepO t r (some v)=(t,v)::r:=rfl
theorem keepO_n {α:Type} (t:Nat) (r:List (Nat×α)):keepO t r none=r:=rfl
theorem keep_nil {α:Type} (e:List (Nat×α)):keep e []=[]:=rfl
theorem keep_cons {α:Type} (e:List (Nat×α)) (t:Nat) (r:List Nat):keep e (t::r)=keepO t (keep e r) (lk e t):=by
 rw[keep];cases lk e t<;>rfl
/-- What the loop does behind one turn. -/
def loopC (live:List Nat) (b:RC):Option (Ex×St)→Option (Ex×St)
 | some (.normal,s)=>L live b (s.prune live)
 | some (e,s)=>some (e,s)
 | none=>none
theorem loopC_n (live:List Nat) (b:RC) (s:St):loopC L live b (some (.normal,s))=L live b (s.prune live):=rfl
theorem loopC_r (live:List Nat) (b:RC) (s:St):loopC L live b (some (.ret,s))=some (.ret,s):=rfl
theorem loopC_e (live:List Nat) (b:RC) (i:Nat) (s:St):loopC L live b (some (.exit i,s))=some (.exit i,s):=rfl

/-! ### functions -/
def endR (rs:List RR):Option (Ex×St)→Option (V×Heap)
 | some (.exit _,_)=>none
 | some (_,s)=>(resF s rs).bind fun vs=>some (tupV vs,s.hp)
 | none=>none
def outR (h:Heap):Option (List V)→Option (V×Heap)
 | some vs=>some (tupV vs,h)
 | none=>none
theorem outR_1 (h:Heap) (v:V):outR h (some [v])=some (v,h):=rfl
theorem outR_2 (h:Heap) (v w:V) (vs:List V):outR h (some (v::w::vs))=some (.tup (v::w::vs),h):=rfl
theorem outR_0 (h:Heap):outR h (some [])=some (.tup [],h):=rfl
theorem endR_n (rs:List RR) (s:St):endR rs (some (.normal,s))=outR s.hp (resF s rs):=by
 simp only[endR];cases resF s rs<;>rfl
theorem endR_r (rs:List RR) (s:St):endR rs (some (.ret,s))=outR s.hp (resF s rs):=by
 simp only[endR];cases resF s rs<;>rfl
theorem res_nil (s:St):resF s []=some []:=rfl
def resV:Option V→Option (List V)→Option (List V)
 | some (.c x),some vs=>some (.c x::vs)
 | some (.agg x),some vs=>some (.agg x::vs)
 | _,_=>none
theorem resV_c (x:Cell) (vs:List V):resV (some (.c x)) (some vs)=some (.c x::vs):=rfl
theorem resV_a (x:List Cell) (vs:List V):resV (some (.agg x)) (some vs)=some (.agg x::vs):=rfl
theorem res_tmp (s:St) (t:Nat) (r:List RR):resF s (.tmp t::r)=resV (lk s.env t) (resF s r):=by
 rw[resF]
 cases lk s.env t with
 | none=>rfl
 | some v=>cases v with
   | c x=>simp only;cases resF s r<;>rfl
   | agg x=>simp only;cases resF s r<;>rfl
   | tup x=>rfl
def resL (agg:Bool) (off n:Nat):Option (List Cell)→Option V
 | some cs=>mkR agg (cut? cs off n)
 | none=>none
theorem resL_s (agg:Bool) (off n:Nat) (cs:List Cell):resL agg off n (some cs)=mkR agg (cut? cs off n):=rfl
def resA (s:St) (agg:Bool) (n:Nat):Option (Nat×Nat)→Option V
 | some (k,off)=>resL agg off n (lk s.loc k)
 | none=>none
theorem resA_s (s:St) (agg:Bool) (n k off:Nat):resA s agg n (some (k,off))=resL agg off n (lk s.loc k):=rfl
theorem res_cell (s:St) (a n:Nat) (agg:Bool) (r:List RR):resF s (.cell a n agg::r)=consV (resA s agg n (lk s.adr a)) (resF s r):=by
 rw[resF]
 cases lk s.adr a with
 | none=>rfl
 | some p=>
   obtain ⟨k,off⟩:=p
   simp only[resA]
   cases lk s.loc k with
   | none=>rfl
   | some cs=>
     simp only[Option.bind_some,resL]
     cases cut? cs off n with
     | none=>rfl
     | some x=>simp only[Option.bind_some,mkR];cases mkV agg x with
       | none=>rfl
       | some v=>simp only[Option.bind_some];cases resF s r<;>rfl
end
section
variable (F:Nat→Option RF) (Z:CallF)
theorem loop_run (live:List Nat) (b:RC) (s:St):loop F Z live b s=loopC (loop F Z) live b (codeF (call F Z) (loop F Z) b s):=by
 rw[loop_eq]
 cases codeF (call F Z) (loop F Z) b s with
 | none=>rfl
 | some r=>obtain ⟨e,s'⟩:=r;cases e<;>rfl
theorem call_run {f:Nat} {n:Nat} {res:List RR} {body:RC} (hf:F f=some ⟨n,res,body⟩) (vs:List V) (h:Heap) (hn:vs.length=n):
 call F Z f vs h=endR res (codeF (call F Z) (loop F Z) body ⟨number 0 vs,[],[],h⟩):=by
 rw[call_fun F Z hf,funF,if_pos hn]
 dsimp only
 cases codeF (call F Z) (loop F Z) body ⟨number 0 vs,[],[],h⟩ with
 | none=>rfl
 | some r=>obtain ⟨e,s'⟩:=r;cases e<;>first | rfl | (simp only[Option.bind_some,endR])
end
theorem heap_eta (h:Heap):(⟨h.next,h.floor,h.get⟩:Heap)=h:=by cases h;rfl
theorem bindS {α β:Type} (a:α) (f:α→Option β):(some a).bind f=f a:=by simp
theorem condT {α:Type} (a b:α):cond true a b=a:=by simp
theorem condF {α:Type} (a b:α):cond false a b=b:=by simp
theorem fin_bool {a b:Bool} {h:Heap} (e:a=true↔b=true):some (V.c (.bool a),h)=some (V.c (.bool b),h):=by rw[Bool.eq_iff_iff.2 e]
end Go.Proofs.Yteagcdhkobeanaa.A
