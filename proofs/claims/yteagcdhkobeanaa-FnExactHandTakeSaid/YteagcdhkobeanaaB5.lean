/- From a law of the abstract run to the machine: arguments that read as data, and what is left behind. -/
import Derived.Test.YteagcdhkobeanaaB4
import Derived.WideShapes
import Derived.Carry
import Derived.ChangeOld
namespace Go.Proofs.Yteagcdhkobeanaa.A
open Go Go.RowKit

def Cfg.at (K:Cfg) (O:Nat):Cfg:={K with O:=O}
def argOf (s:Sh) (cs:List Cell):V:=match s with
 | .struct _=> .agg cs
 | _=>match cs with
   | [c]=> .c c
   | _=> .agg cs
def ArgsWf (h:Heap) (n:Nat):List Sh→List V→Prop
 | [],[]=>True
 | s::ss,v::vs=>(∃cs,v=argOf s cs∧Wf h n s cs)∧ArgsWf h n ss vs
 | _,_=>False
theorem ArgsWf.mono {h h':Heap} (hx:HExt h h') {n:Nat}: ∀{ss:List Sh} {vs:List V},ArgsWf h n ss vs→ArgsWf h' n ss vs
 | [],[],_=>trivial
 | _::_,_::_,⟨⟨cs,h1,h2⟩,h3⟩=>⟨⟨cs,h1,h2.mono hx⟩,h3.mono hx⟩

section
variable {H:Type} {enc:TypeId×Value→H} {W:World} {K:Cfg}

theorem cells_single {x:Cell} {u v:Value} {μ:Mu} (h:u.cells= #[u]) (r:All2 (Cell.R0 μ) [x] v.cells.toList) (hv:v=u):x.R0 μ v:=by
 subst hv
 rw[h] at r
 exact r.1
theorem lift_args {base n:Nat}: ∀(ts:List TypeId) (ss:List Sh) (vs:List Value) (ds:List (DataW H)) (p:List MemPlace),All2 (fun t s=>shIs K.P K.ET K.SZ n t s=true) ts ss→
 (∀(j:Nat) t v,ts[j]? =some t→vs[j]? =some v→Value.okWide K.P W .any base t v)→DataW.TrodAll enc K.P W 0 (fun _=>true) true ts vs ds p→
 ∀(h:Heap) (μ:Mu),RO_ K.SZ μ h W→ ∃(h':Heap) (μ':Mu) (avs:List V),HExt h h'∧Ext μ μ'∧RO_ K.SZ μ' h' W∧(∀O,h'.next≤O→All2 (V.R (K.at O) μ') avs vs)∧ArgsWf h' n ss avs
 | [],[],[],[],p,_,_,_,h,μ,R=>⟨h,μ,[],HExt.refl _,Ext.refl _,R,fun _ _=>trivial,trivial⟩
 | t::ts,s::ss,v::vs,d::ds,p,⟨hs,hss⟩,hval,⟨p1,q1,⟨m,ht⟩,hts,_⟩,h,μ,R=>by
   obtain ⟨h1,μ1,cells,r1,r2,r3,r4,r5⟩:=build K.P K.ET K.SZ n m t s v.cells.toList (d,p1) hs ht h μ R
   obtain ⟨h2,μ2,avs,t1,t2,t3,t4,t5⟩:=lift_args ts ss vs ds q1 hss (fun j t v hj hv=>hval (j+1) t v (by simpa using hj) (by simpa using hv)) hts h1 μ1 r3
   refine ⟨h2,μ2,argOf s cells::avs,r1.trans t1,r2.trans t2,t3,fun O hO=>⟨?_,t4 O hO⟩,⟨cells,rfl,r5.mono t1⟩,t5⟩
   have hok:=hval 0 t v rfl rfl
   have r4':All2 (Cell.R (K.at O) μ2) cells v.cells.toList:=r4.imp fun x u hx=>Cell.R0.r (K:=K.at O) t3 hO (hx.ext t2)
   cases n with
   | zero=>simp[shIs] at hs
   | succ n=>
     simp only[shIs] at hs
     split at hs
     ·cases hs
     ·rename_i dsc hd
      split at hs
      ·obtain ⟨b,rfl⟩:=WideShapes.okWide_bool hd hok
       obtain ⟨b',hc⟩:=r5
       subst hc;exact r4'.1
      ·obtain ⟨b,rfl⟩:=WideShapes.okWide_int hd hok
       obtain ⟨b',hc,_⟩:=r5
       subst hc;exact r4'.1
      ·obtain ⟨b,rfl⟩:=WideShapes.okWide_string hd hok
       obtain ⟨b',hc,_⟩:=r5
       subst hc;exact r4'.1
      ·obtain ⟨a,len,cap,rfl⟩:=WideShapes.okWide_slice hd hok
       rcases r5 with hc | ⟨id,rows,hc,_⟩<;>subst hc<;>exact r4'.1
      ·obtain ⟨cs,rfl,_⟩:=WideShapes.okWide_struct hd hok
       exact ⟨cs,rfl,r4'⟩
      ·cases hs
 | [],_::_,_,_,_,h,_,_,_,_,_=>h.elim
 | _::_,[],_,_,_,h,_,_,_,_,_=>h.elim
 | [],[],_::_,_,_,_,_,h,_,_,_=>h.elim
 | [],[],[],_::_,_,_,_,h,_,_,_=>h.elim
 | _::_,_::_,[],_,_,_,_,h,_,_,_=>h.elim
 | _::_,_::_,_::_,[],_,_,_,h,_,_,_=>h.elim

def emptyH:Heap:={next:=0,floor:=0,get:=fun _=>none}

/-- A law that the abstract run tells true, the machine tells true, and nothing that was there has turned. -/
theorem law_calls {c:CC} {F:Nat→Option RF} {Z:CallF} (hP: ∀O,ProgOk (K.at O) c F Z) {g fid n base:Nat} (hg:K.G g=some fid) {ts:List TypeId} {ss:List Sh} (hs:All2 (fun t s=>shIs K.P K.ET K.SZ n t s=true) ts ss)
 (hlaw: ∀(h:Heap) (avs:List V),h.floor=h.next→ArgsWf h n ss avs→ ∃h',call F Z g avs h=some (.c (.bool true),h'))
 {args:Array Value} {ds:List (DataW H)} {p:List MemPlace} (hval: ∀(j:Nat) t v,ts[j]? =some t→args[j]? =some v→Value.okWide K.P W .any base t v) (hA:DataW.TrodAll enc K.P W 0 (fun _=>true) true ts args.toList ds p):
 Calls K.P fid args W fun e W'=>e= .returned (.bool true)∧Below W.heap.size W W':=by
 obtain ⟨h,μ,avs,_,_,R,hR,hwf⟩:=lift_args (K:=K) ts ss args.toList ds p hs (fun j t v hj hv=>hval j t v hj (by simpa using hv)) hA emptyH (fun _=>none)
  ⟨fun id l hm=>(nomatch hm),fun id l rows hm=>(nomatch hm),fun _ _=>rfl⟩
 have hx:HExt h {h with floor:=h.next}:=⟨Nat.le_refl _,fun _ _=>rfl⟩
 obtain ⟨h',hrun⟩:=hlaw {h with floor:=h.next} avs rfl (hwf.mono hx)
 have S:=sound (hP h.next) g avs {h with floor:=h.next} _ h' hrun fid hg μ W args ((RO_.hr (K:=K.at h.next) R (Nat.le_refl _)).floor _) (Nat.le_refl _) (Nat.le_refl _) (hR h.next (Nat.le_refl _))
 refine S.mono ?_
 rintro e W' ⟨v,μ',rfl,h1,_,_,h4,_,_⟩
 refine ⟨by rw[show v= .bool true from h1],h4.os,h4.tape,h4.output,h4.size,fun k hk=>h4.same k hk ?_⟩
 rintro (hb | ⟨id,l,rows,q1,q2,_⟩)
 ·omega
 ·have:=(R.dom id l q2).1
  have q1':h.next≤id:=q1
  omega

/-- The arguments read behind the call as before. -/
theorem trodAll_below {P:Program} (hl:laidOutB P=true) {W':World} (hb:Below W.heap.size W W'): ∀(ts:List TypeId) (vs:List Value) (ds:List (DataW H)) (p:List MemPlace),(ts.all fun t=>P.readableRec t&&decide (t<P.types.size))=true→
 DataW.TrodAll enc P W 0 (fun _=>true) true ts vs ds p→(∀x∈p,x.block<W.heap.size)→DataW.TrodAll enc P W' 0 (fun b=>decide (b<W.heap.size)) true ts vs ds p
 | [],[],[],p,_,h,_=>h
 | t::ts,v::vs,d::ds,p,hr,⟨p1,q1,h1,h2,h3⟩,hlt=>by
   simp only[List.all_cons,Bool.and_eq_true,decide_eq_true_eq] at hr
   subst h3
   exact ⟨p1,q1,Below.trod hl hr.1.1 hr.1.2 h1 hb (fun x hx=>hlt x (by simp[hx])),trodAll_below hl hb ts vs ds q1 (by simpa using hr.2) h2 (fun x hx=>hlt x (by simp[hx])),rfl⟩
 | [],_::_,_,_,_,h,_=>h.elim
 | [],[],_::_,_,_,h,_=>h.elim
 | _::_,[],_,_,_,h,_=>h.elim
 | _::_,_::_,[],_,_,h,_=>h.elim
end

/-! ### arguments, one behind the other -/
theorem ArgsWf.nil {h:Heap} {n:Nat} {avs:List V} (w:ArgsWf h n [] avs):avs=[]:=by
 cases avs with
 | nil=>rfl
 | cons _ _=>exact w.elim
theorem ArgsWf.struct {h:Heap} {n:Nat} {fs:List (Nat×Sh)} {ss:List Sh} {avs:List V} (w:ArgsWf h n (.struct fs::ss) avs): ∃cs rest,avs= .agg cs::rest∧Wf h n (.struct fs) cs∧ArgsWf h n ss rest:=by
 cases avs with
 | nil=>exact w.elim
 | cons v r=>
   obtain ⟨⟨cs,h1,h2⟩,h3⟩:=w
   exact ⟨cs,r,by rw[h1];rfl,h2,h3⟩
theorem ArgsWf.int {h:Heap} {n:Nat} {k:IntKind} {ss:List Sh} {avs:List V} (w:ArgsWf h (n+1) (.int k::ss) avs): ∃x rest,avs= .c (.int k x)::rest∧(Lit.int k x).wf=true∧ArgsWf h (n+1) ss rest:=by
 cases avs with
 | nil=>exact w.elim
 | cons v r=>
   obtain ⟨⟨cs,h1,⟨x,h2,hx⟩⟩,h3⟩:=w
   subst h2
   exact ⟨x,r,by rw[h1];rfl,hx,h3⟩
theorem ArgsWf.bool {h:Heap} {n:Nat} {ss:List Sh} {avs:List V} (w:ArgsWf h (n+1) (.bool::ss) avs): ∃x rest,avs= .c (.bool x)::rest∧ArgsWf h (n+1) ss rest:=by
 cases avs with
 | nil=>exact w.elim
 | cons v r=>
   obtain ⟨⟨cs,h1,⟨x,h2⟩⟩,h3⟩:=w
   subst h2
   exact ⟨x,r,by rw[h1];rfl,h3⟩
theorem ArgsWf.slice {h:Heap} {n tag sz:Nat} {e:Sh} {ss:List Sh} {avs:List V} (w:ArgsWf h (n+1) (.slice tag sz e::ss) avs): ∃x rest,avs= .c x::rest∧Wf h (n+1) (.slice tag sz e) [x]∧ArgsWf h (n+1) ss rest:=by
 cases avs with
 | nil=>exact w.elim
 | cons v r=>
   obtain ⟨⟨cs,h1,h2⟩,h3⟩:=w
   rcases h2 with h2 | ⟨id,rows,h2,h4⟩
   ·subst h2;exact ⟨.nil,r,by rw[h1];rfl,.inl rfl,h3⟩
   ·subst h2;exact ⟨_,r,by rw[h1];rfl,.inr ⟨id,rows,rfl,h4⟩,h3⟩
end Go.Proofs.Yteagcdhkobeanaa.A
