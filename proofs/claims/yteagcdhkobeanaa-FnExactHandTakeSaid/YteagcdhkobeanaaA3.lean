/- The relation between the abstract run's states and the machine's, and how memory's steps keep it. -/
import Derived.Test.YteagcdhkobeanaaA2
import Derived.Calls
import Derived.Below
import Derived.Maps.AppendAt
import Derived.Laws.CopyRow
import Derived.Laws.Rows
namespace Go.Proofs.Yteagcdhkobeanaa.A
open Go

structure Loc where
 blk:Nat
 base:Nat
 tag:Nat
 sz:Nat
 csz:Nat
abbrev Mu:=Nat→Option Loc

/-- What is fixed for a program: the functions' numbers; for each tag the element's type and its cells; the first own id. -/
structure Cfg where
 P:Program
 G:Nat→Option FuncId
 ET:Nat→TypeId
 SZ:Nat→Nat
 O:Nat

def All2 {α β:Type} (R:α→β→Prop):List α→List β→Prop
 | [],[]=>True
 | x::xs,y::ys=>R x y∧All2 R xs ys
 | _,_=>False
theorem All2.imp {α β:Type} {R S:α→β→Prop} (h: ∀x y,R x y→S x y): ∀{xs:List α} {ys:List β},All2 R xs ys→All2 S xs ys
 | [],[],_=>trivial
 | _::_,_::_,⟨a,b⟩=>⟨h _ _ a,b.imp h⟩
theorem All2.length {α β:Type} {R:α→β→Prop}: ∀{xs:List α} {ys:List β},All2 R xs ys→xs.length=ys.length
 | [],[],_=>rfl
 | _::_,_::_,⟨_,b⟩=>by simp[b.length]
theorem All2.get {α β:Type} {R:α→β→Prop}: ∀{xs:List α} {ys:List β},All2 R xs ys→ ∀(i:Nat) x,xs[i]? =some x→ ∃y,ys[i]? =some y∧R x y
 | [],[],_,i,x,h=>by simp at h
 | _::_,y::_,⟨a,b⟩,0,x,h=>by simp at h;subst h;exact ⟨y,rfl,a⟩
 | _::_,_::_,⟨a,b⟩,i+1,x,h=>by simpa using b.get i x (by simpa using h)
theorem All2.of_get {α β:Type} {R:α→β→Prop}: ∀{xs:List α} {ys:List β},xs.length=ys.length→(∀(i:Nat) x,xs[i]? =some x→ ∃y,ys[i]? =some y∧R x y)→All2 R xs ys
 | [],[],_,_=>trivial
 | x::xs,y::ys,hl,h=>by
   obtain ⟨z,hz,r⟩:=h 0 x rfl
   simp at hz;subst hz
   exact ⟨r,All2.of_get (by simpa using hl) (fun i u hu=>by simpa using h (i+1) u (by simpa using hu))⟩
theorem All2.append {α β:Type} {R:α→β→Prop}: ∀{xs xs':List α} {ys ys':List β},All2 R xs ys→All2 R xs' ys'→All2 R (xs++xs') (ys++ys')
 | [],_,[],_,_,h=>h
 | _::_,_,_::_,_,⟨a,b⟩,h=>⟨a,b.append h⟩
theorem All2.drop {α β:Type} {R:α→β→Prop}: ∀(n:Nat) {xs:List α} {ys:List β},All2 R xs ys→All2 R (xs.drop n) (ys.drop n)
 | 0,_,_,h=>h
 | _+1,[],[],_=>by simp[All2]
 | n+1,_::_,_::_,⟨_,b⟩=>b.drop n
theorem All2.take {α β:Type} {R:α→β→Prop}: ∀(n:Nat) {xs:List α} {ys:List β},All2 R xs ys→All2 R (xs.take n) (ys.take n)
 | 0,_,_,_=>by simp[All2]
 | _+1,[],[],_=>by simp[All2]
 | n+1,_::_,_::_,⟨a,b⟩=>⟨a,b.take n⟩

variable (K:Cfg)

def ptrR (μ:Mu) (p:Nat×Nat×Nat) (v:Value):Prop:= ∃l,μ p.1=some l∧v= .pointer (some ⟨l.blk,l.base+p.2.1*l.sz+p.2.2,none⟩)
def Cell.R (μ:Mu):Cell→Value→Prop
 | .bool b,v=>v= .bool b
 | .int k n,v=>v= .int k n
 | .str s,v=>v= .string s
 | .nil,v=>v= .slice none 0 0
 | .nilp,v=>v= .pointer none
 | .sl tag id off len,v=> ∃l a cap,μ id=some l∧l.tag=tag∧tag≠0∧v= .slice (some a) len cap∧len≤cap∧cap≤maxLen∧
  ((a=⟨l.blk,l.base+off*l.sz,none⟩∧(off+cap)*l.sz≤l.csz∧(off=0→l.csz=cap*l.sz))∨(len=0∧(off≠0∨id<K.O)))
 | .ptr id i j,v=>ptrR μ (id,i,j) v
 | .fn f caps,v=> ∃fid ws,K.G f=some fid∧v= .func (.func fid) #[] ws∧All2 (ptrR μ) caps ws.toList
def V.R1 (μ:Mu):V→Value→Prop
 | .c x,v=>x.R K μ v
 | .agg cs,v=> ∃arr,v= .agg arr∧All2 (Cell.R K μ) cs arr.toList
 | .tup _,_=>False
def V.R (μ:Mu):V→Value→Prop
 | .c x,v=>x.R K μ v
 | .agg cs,v=> ∃arr,v= .agg arr∧All2 (Cell.R K μ) cs arr.toList
 | .tup vs,v=> ∃arr,v= .tuple arr∧All2 (V.R1 K μ) vs arr.toList

def Ext (μ μ':Mu):Prop:= ∀id l,μ id=some l→μ' id=some l
theorem Ext.refl (μ:Mu):Ext μ μ:=fun _ _ h=>h
theorem Ext.trans {a b c:Mu} (h:Ext a b) (k:Ext b c):Ext a c:=fun id l e=>k id l (h id l e)
/-- Nothing of what is new stands below n. -/
structure ExtN (n:Nat) (μ μ':Mu):Prop where
 ext:Ext μ μ'
 new: ∀id l,μ' id=some l→μ id=some l∨n≤id
theorem ExtN.refl (n:Nat) (μ:Mu):ExtN n μ μ:=⟨Ext.refl μ,fun _ _ h=> .inl h⟩
theorem ExtN.trans {n m:Nat} {a b c:Mu} (h:ExtN n a b) (k:ExtN m b c) (hnm:n≤m):ExtN n a c:=
 ⟨h.ext.trans k.ext,fun id l e=>by
   rcases k.new id l e with q | q
   ·exact h.new id l q
   ·exact .inr (Nat.le_trans hnm q)⟩
variable {K}
theorem ptrR.ext {μ μ':Mu} (h:Ext μ μ') {p:Nat×Nat×Nat} {v:Value} (r:ptrR μ p v):ptrR μ' p v:=by
 obtain ⟨l,a,b⟩:=r;exact ⟨l,h _ _ a,b⟩
theorem Cell.R.ext {μ μ':Mu} (h:Ext μ μ') {c:Cell} {v:Value} (r:c.R K μ v):c.R K μ' v:=by
 cases c with
 | sl tag id off len=>obtain ⟨l,a,cap,e,r⟩:=r;exact ⟨l,a,cap,h _ _ e,r⟩
 | ptr id i j=>exact ptrR.ext h r
 | fn f caps=>obtain ⟨fid,ws,e,r,s⟩:=r;exact ⟨fid,ws,e,r,s.imp fun _ _=>ptrR.ext h⟩
 | _=>exact r
theorem V.R1.ext {μ μ':Mu} (h:Ext μ μ') {c:V} {v:Value} (r:c.R1 K μ v):c.R1 K μ' v:=by
 cases c with
 | c x=>exact Cell.R.ext h r
 | agg cs=>obtain ⟨arr,e,r⟩:=r;exact ⟨arr,e,r.imp fun _ _=>Cell.R.ext h⟩
 | tup vs=>exact r
theorem V.R.ext {μ μ':Mu} (h:Ext μ μ') {c:V} {v:Value} (r:c.R K μ v):c.R K μ' v:=by
 cases c with
 | c x=>exact Cell.R.ext h r
 | agg cs=>obtain ⟨arr,e,r⟩:=r;exact ⟨arr,e,r.imp fun _ _=>Cell.R.ext h⟩
 | tup vs=>obtain ⟨arr,e,r⟩:=r;exact ⟨arr,e,r.imp fun _ _=>V.R1.ext h⟩
theorem V.R1.r {μ:Mu} {c:V} {v:Value} (r:c.R1 K μ v):c.R K μ v:=by
 cases c with
 | c x=>exact r
 | agg cs=>exact r
 | tup vs=>exact r.elim
/-- A related cell is one cell. -/
theorem Cell.R.one {μ:Mu} {c:Cell} {v:Value} (r:c.R K μ v):v.oneCell'=true:=by
 cases c with
 | sl tag id off len=>obtain ⟨l,a,cap,_,_,_,e,_⟩:=r;rw[e];rfl
 | ptr id i j=>obtain ⟨l,_,e⟩:=r;rw[e];rfl
 | fn f caps=>obtain ⟨fid,ws,_,e,_⟩:=r;rw[e];rfl
 | _=>rw[show _=_ from r];rfl
theorem Cell.R.cells {μ:Mu} {c:Cell} {v:Value} (r:c.R K μ v):v.cells= #[v]:=by
 have:=r.one
 cases v<;>simp_all[Value.oneCell',Value.cells]
theorem V.R.cells {μ:Mu} {x:V} {v:Value} {cs:List Cell} (r:x.R K μ v) (h:x.cells? =some cs):All2 (Cell.R K μ) cs v.cells.toList:=by
 cases x with
 | c x=>injection h with h;subst h;rw[Cell.R.cells (show x.R K μ v from r)];exact ⟨r,trivial⟩
 | agg ds=>injection h with h;subst h;obtain ⟨arr,e,r⟩:=r;rw[e];exact r
 | tup vs=>cases h

variable (K)
structure HR (μ:Mu) (h:Heap) (w:World):Prop where
 dom: ∀id l,μ id=some l→id<h.next∧(l.tag≠0→l.sz=K.SZ l.tag)
 cells: ∀id l rows,μ id=some l→h.get id=some rows→ ∀(i:Nat) r,rows[i]? =some r→r.length=l.sz∧ ∃c e fr,w.heap[l.blk]? =some (.cells c e fr)∧
  ∀(j:Nat) x,r[j]? =some x→ ∃v,c[l.base+i*l.sz+j]? =some v∧x.R K μ v
 own: ∀id l rows,K.O≤id→μ id=some l→h.get id=some rows→l.base=0∧(∃c e,w.heap[l.blk]? =some (.cells c e (0,0))∧c.size=l.csz∧(l.tag≠0→e=K.ET l.tag))∧rows.length*l.sz≤l.csz
 inj: ∀id id' l l' rows rows',K.O≤id→id≠id'→μ id=some l→μ id'=some l'→h.get id=some rows→h.get id'=some rows'→(K.O≤id'∨rows'≠[])→l.blk≠l'.blk
 top: ∀id,h.next≤id→h.get id=none

/-- What lies outside A is as it was. -/
structure Fr (A:Nat→Prop) (w w':World):Prop where
 os:w'.os=w.os
 tape:w'.tape=w.tape
 output:w'.output=w.output
 size:w.heap.size≤w'.heap.size
 drawn:w.drawn≤w'.drawn
 same: ∀b,b<w.heap.size→ ¬A b→w'.heap[b]? =w.heap[b]?
variable {K}
theorem Fr.refl (A:Nat→Prop) (w:World):Fr A w w:=⟨rfl,rfl,rfl,Nat.le_refl _,Nat.le_refl _,fun _ _ _=>rfl⟩
theorem Fr.trans {A:Nat→Prop} {a b c:World} (h:Fr A a b) (k:Fr A b c):Fr A a c:=
 ⟨k.os.trans h.os,k.tape.trans h.tape,k.output.trans h.output,Nat.le_trans h.size k.size,Nat.le_trans h.drawn k.drawn,fun x hx hA=>(k.same x (Nat.lt_of_lt_of_le hx h.size) hA).trans (h.same x hx hA)⟩
theorem Fr.mono {A A':Nat→Prop} {a b:World} (h:Fr A a b) (hA: ∀x,x<a.heap.size→A x→A' x):Fr A' a b:=⟨h.os,h.tape,h.output,h.size,h.drawn,fun x hx n=>h.same x hx (fun y=>n (hA x hx y))⟩
theorem Fr.drew (A:Nat→Prop) (w:World) (n:Nat) (hn:w.drawn≤n):Fr A w {w with drawn:=n}:=⟨rfl,rfl,rfl,Nat.le_refl _,hn,fun _ _ _=>rfl⟩
theorem Fr.alloc (A:Nat→Prop) (w:World) (o:Obj):Fr A w (w.alloc o):=
 ⟨rfl,rfl,rfl,by simp,Nat.le_refl _,fun b hb _=>by simp only[World.alloc,Array.getElem?_push];rw[if_neg (by omega)]⟩
theorem Fr.setRow (A:Nat→Prop) (w:World) (g:Nat) (c:Array Value) (h:A g):Fr A w (w.setRow g c):=
 ⟨rfl,rfl,rfl,by simp[World.setRow],Nat.le_refl _,fun b _ n=>by
  have:g≠b:=fun e=>n (e▸h)
  simp only[World.setRow,Array.getElem?_modify];rw[if_neg this]⟩

/-- The heap's relation lives on where the blocks that matter are as they were. -/
theorem HR.keep {μ:Mu} {h:Heap} {w w':World} (H:HR K μ h w) (hs: ∀id l rows,μ id=some l→h.get id=some rows→(K.O≤id∨rows≠[])→w'.heap[l.blk]? =w.heap[l.blk]?):HR K μ h w' where
 dom:=H.dom
 cells:=fun id l rows hm hg i r hr=>by
  obtain ⟨h1,c,e,fr,h2,h3⟩:=H.cells id l rows hm hg i r hr
  exact ⟨h1,c,e,fr,by rw[hs id l rows hm hg (.inr (fun he=>by subst he;simp at hr))];exact h2,h3⟩
 own:=fun id l rows ho hm hg=>by
  obtain ⟨h1,⟨c,e,h2⟩,h3⟩:=H.own id l rows ho hm hg
  exact ⟨h1,⟨c,e,by rw[hs id l rows hm hg (.inl ho)];exact h2⟩,h3⟩
 inj:=H.inj
 top:=H.top
theorem HR.lt {μ:Mu} {h:Heap} {w:World} (H:HR K μ h w) {id:Nat} {l:Loc} {rows:List (List Cell)} (hm:μ id=some l) (hg:h.get id=some rows) (ho:K.O≤id∨rows≠[]):l.blk<w.heap.size:=by
 rcases ho with ho | ho
 ·obtain ⟨_,⟨c,e,h2,_⟩,_⟩:=H.own id l rows ho hm hg
  exact (Array.getElem?_eq_some_iff.1 h2).1
 ·cases rows with
  | nil=>exact absurd rfl ho
  | cons r rs=>
    obtain ⟨_,c,e,fr,h2,_⟩:=H.cells id l _ hm hg 0 r rfl
    exact (Array.getElem?_eq_some_iff.1 h2).1
theorem HR.floor {μ:Mu} {h:Heap} {w:World} (H:HR K μ h w) (n:Nat):HR K μ {h with floor:=n} w:=⟨H.dom,H.cells,H.own,H.inj,H.top⟩

def Mu.push (μ:Mu) (id:Nat) (l:Loc):Mu:=fun i=>if i=id then some l else μ i
theorem Mu.push_ext {μ:Mu} {h:Heap} {w:World} (H:HR K μ h w) (l:Loc):Ext μ (μ.push h.next l):=fun id l' e=>by
 have:=(H.dom id l' e).1
 simp only[Mu.push];rw[if_neg (by omega)];exact e
theorem Mu.push_new (μ:Mu) (id:Nat) (l:Loc):μ.push id l id=some l:=by simp[Mu.push]

/-- The cells of rows, one behind the other. -/
def RowsR (μ:Mu) (rows:List (List Cell)) (sz:Nat) (c:Array Value):Prop:=
 ∀(i:Nat) r,rows[i]? =some r→r.length=sz∧ ∀(j:Nat) x,r[j]? =some x→ ∃v,c[i*sz+j]? =some v∧x.R K μ v

/-- A new row of one's own. -/
theorem HR.push {μ:Mu} {h:Heap} {w:World} (H:HR K μ h w) (c:Array Value) (e:TypeId) (tag sz:Nat) (rows:List (List Cell))
 (htag:tag≠0→sz=K.SZ tag∧e=K.ET tag) (hr:RowsR (K:=K) μ rows sz c) (hl:rows.length*sz≤c.size):
 HR K (μ.push h.next ⟨w.heap.size,0,tag,sz,c.size⟩) (h.push rows) (w.alloc (.cells c e)):=by
 have hx:Ext μ (μ.push h.next ⟨w.heap.size,0,tag,sz,c.size⟩):=Mu.push_ext H _
 have hnew:(w.alloc (.cells c e)).heap[w.heap.size]? =some (.cells c e (0,0)):=by
  show (w.heap.push _)[w.heap.size]? =_
  simp
 have hold: ∀b,b<w.heap.size→(w.alloc (.cells c e)).heap[b]? =w.heap[b]? :=fun b hb=>by
  simp only[World.alloc,Array.getElem?_push];rw[if_neg (by omega)]
 constructor
 ·intro id l hm
  simp only[Mu.push] at hm
  split at hm
  ·rename_i he;subst he;injection hm with hm;subst hm
   exact ⟨by simp[Heap.push],fun ht=>(htag ht).1⟩
  ·have:=H.dom id l hm
   exact ⟨by simp only[Heap.push];omega,this.2⟩
 ·intro id l rows' hm hg i r hi
  simp only[Mu.push] at hm
  simp only[Heap.push] at hg
  split at hm
  ·rename_i he;subst he;injection hm with hm;subst hm
   rw[if_pos rfl] at hg;injection hg with hg;subst hg
   obtain ⟨h1,h2⟩:=hr i r hi
   refine ⟨h1,c,e,(0,0),hnew,fun j x hj=> ?_⟩
   obtain ⟨v,h3,h4⟩:=h2 j x hj
   exact ⟨v,by simpa using h3,h4.ext hx⟩
  ·rename_i he
   rw[if_neg he] at hg
   obtain ⟨h1,c',e',fr,h2,h3⟩:=H.cells id l rows' hm hg i r hi
   refine ⟨h1,c',e',fr,by rw[hold _ (Array.getElem?_eq_some_iff.1 h2).1];exact h2,fun j x hj=> ?_⟩
   obtain ⟨v,h4,h5⟩:=h3 j x hj
   exact ⟨v,h4,h5.ext hx⟩
 ·intro id l rows' ho hm hg
  simp only[Mu.push] at hm
  simp only[Heap.push] at hg
  split at hm
  ·rename_i he;subst he;injection hm with hm;subst hm
   rw[if_pos rfl] at hg;injection hg with hg;subst hg
   exact ⟨rfl,⟨c,e,hnew,rfl,fun ht=>(htag ht).2⟩,hl⟩
  ·rename_i he
   rw[if_neg he] at hg
   obtain ⟨h1,⟨c',e',h2,h3⟩,h4⟩:=H.own id l rows' ho hm hg
   exact ⟨h1,⟨c',e',by rw[hold _ (Array.getElem?_eq_some_iff.1 h2).1];exact h2,h3⟩,h4⟩
 ·intro id id' l l' rows1 rows2 ho hne hm hm' hg hg' hor
  simp only[Mu.push] at hm hm'
  simp only[Heap.push] at hg hg'
  split at hm
  ·rename_i he;subst he;injection hm with hm;subst hm
   rw[if_neg (Ne.symm hne)] at hm' hg'
   have:=H.lt hm' hg' hor
   show w.heap.size≠l'.blk
   omega
  ·rename_i he
   rw[if_neg he] at hg
   split at hm'
   ·rename_i he';subst he';injection hm' with hm';subst hm'
    have:=H.lt hm hg (.inl ho)
    show l.blk≠w.heap.size
    omega
   ·rename_i he'
    rw[if_neg he'] at hg'
    exact H.inj id id' l l' rows1 rows2 ho hne hm hm' hg hg' hor
 ·intro id hid
  simp only[Heap.push] at hid ⊢
  rw[if_neg (by omega)];exact H.top id (by omega)

theorem HR.kill {μ:Mu} {h:Heap} {w:World} (H:HR K μ h w) (k:Nat):HR K μ (h.kill k) w:=by
 have hk: ∀id rows,(h.kill k).get id=some rows→h.get id=some rows:=by
  intro id rows hg
  simp only[Heap.kill] at hg
  split at hg
  ·cases hg
  ·exact hg
 exact ⟨H.dom,fun id l rows hm hg=>H.cells id l rows hm (hk _ _ hg),fun id l rows ho hm hg=>H.own id l rows ho hm (hk _ _ hg),
  fun id id' l l' r r' ho hne hm hm' hg hg' hor=>H.inj id id' l l' r r' ho hne hm hm' (hk _ _ hg) (hk _ _ hg') hor,fun id hid=>by
   simp only[Heap.kill];split
   ·rfl
   ·exact H.top id hid⟩

/-- A row in a block that is new, or was that of k: what append leaves. -/
theorem HR.pushK {μ:Mu} {h:Heap} {w w':World} (H:HR K μ h w) {k g:Nat} {c:Array Value} {e:TypeId} {tag sz:Nat} {rows:List (List Cell)} (htag:tag≠0→sz=K.SZ tag∧e=K.ET tag)
 (hb:w'.heap[g]? =some (.cells c e (0,0))) (hfar: ∀id l rows,id≠k→μ id=some l→h.get id=some rows→(K.O≤id∨rows≠[])→l.blk≠g∧w'.heap[l.blk]? =w.heap[l.blk]?)
 (hr:RowsR (K:=K) μ rows sz c) (hl:rows.length*sz≤c.size):
 HR K (μ.push h.next ⟨g,0,tag,sz,c.size⟩) ((h.kill k).push rows) w':=by
 have hx:Ext μ (μ.push h.next ⟨g,0,tag,sz,c.size⟩):=Mu.push_ext H _
 have hget: ∀{id' rows'},id'≠h.next→((h.kill k).push rows).get id'=some rows'→id'≠k∧h.get id'=some rows':=by
  intro id' rows' hn hg'
  rw[show ((h.kill k).push rows).get id'=if id'=h.next then some rows else if id'=k then none else h.get id' from rfl,if_neg hn] at hg'
  split at hg'
  ·cases hg'
  ·rename_i hne;exact ⟨hne,hg'⟩
 have hnx:((h.kill k).push rows).get h.next=some rows:=by simp[Heap.push,Heap.kill]
 constructor
 ·intro id' l' hm'
  simp only[Mu.push] at hm'
  split at hm'
  ·rename_i hi;subst hi;injection hm' with hm';subst hm'
   exact ⟨by simp[Heap.push,Heap.kill],fun ht=>(htag ht).1⟩
  ·have:=H.dom id' l' hm'
   exact ⟨by simp only[Heap.push,Heap.kill];omega,this.2⟩
 ·intro id' l' rows' hm' hg' i r hi
  simp only[Mu.push] at hm'
  split at hm'
  ·rename_i hi';subst hi';injection hm' with hm';subst hm'
   rw[hnx] at hg';injection hg' with hg';subst hg'
   obtain ⟨h1,h2⟩:=hr i r hi
   refine ⟨h1,c,e,(0,0),hb,fun j x hj=> ?_⟩
   obtain ⟨v,h3,h4⟩:=h2 j x hj
   exact ⟨v,by rw[Nat.zero_add];exact h3,h4.ext hx⟩
  ·rename_i hn
   obtain ⟨hne,hg0⟩:=hget hn hg'
   obtain ⟨h1,c',e',fr,h2,h3⟩:=H.cells id' l' rows' hm' hg0 i r hi
   refine ⟨h1,c',e',fr,by rw[(hfar id' l' rows' hne hm' hg0 (.inr (fun he=>by subst he;simp at hi))).2];exact h2,fun j x hj=> ?_⟩
   obtain ⟨v,h4,h5⟩:=h3 j x hj
   exact ⟨v,h4,h5.ext hx⟩
 ·intro id' l' rows' ho' hm' hg'
  simp only[Mu.push] at hm'
  split at hm'
  ·rename_i hi';subst hi';injection hm' with hm';subst hm'
   rw[hnx] at hg';injection hg' with hg';subst hg'
   exact ⟨rfl,⟨c,e,hb,rfl,fun ht=>(htag ht).2⟩,hl⟩
  ·rename_i hn
   obtain ⟨hne,hg0⟩:=hget hn hg'
   obtain ⟨h1,⟨c',e',h2,h3⟩,h4⟩:=H.own id' l' rows' ho' hm' hg0
   exact ⟨h1,⟨c',e',by rw[(hfar id' l' rows' hne hm' hg0 (.inl ho')).2];exact h2,h3⟩,h4⟩
 ·intro i1 i2 l1 l2 r1 r2 ho1 hne hm1 hm2 hg1 hg2 hor
  simp only[Mu.push] at hm1 hm2
  split at hm1
  ·rename_i he1;subst he1;injection hm1 with hm1;subst hm1
   rw[if_neg (Ne.symm hne)] at hm2
   obtain ⟨hne2,hg0⟩:=hget (Ne.symm hne) hg2
   exact Ne.symm (hfar i2 l2 r2 hne2 hm2 hg0 hor).1
  ·rename_i hn1
   obtain ⟨hne1,hg0⟩:=hget hn1 hg1
   split at hm2
   ·rename_i he2;subst he2;injection hm2 with hm2;subst hm2
    exact (hfar i1 l1 r1 hne1 hm1 hg0 (.inl ho1)).1
   ·rename_i hn2
    obtain ⟨hne2,hg0'⟩:=hget hn2 hg2
    exact H.inj i1 i2 l1 l2 r1 r2 ho1 hne hm1 hm2 hg0 hg0' hor
 ·intro id hid
  have hid':h.next+1≤id:=hid
  rw[show ((h.kill k).push rows).get id=if id=h.next then some rows else if id=k then none else h.get id from rfl,if_neg (by omega),H.top id (by omega)]
  split<;>rfl
theorem Heap.push_kill_next (h:Heap) (rows:List (List Cell)):(h.kill h.next).push rows=h.push rows:=by
 simp only[Heap.push,Heap.kill,Heap.mk.injEq,true_and]
 funext i
 split
 ·rfl
 ·rfl

/-- A row of one's own is written. -/
theorem HR.write {μ:Mu} {h:Heap} {w:World} (H:HR K μ h w) {id:Nat} {l:Loc} {rows:List (List Cell)} {c c':Array Value} {e:TypeId} {i:Nat} {r':List Cell} (ho:K.O≤id) (hm:μ id=some l) (hg:h.get id=some rows)
 (hb:w.heap[l.blk]? =some (.cells c e (0,0))) (hcs:c'.size=c.size) (hi:i<rows.length) (hl:r'.length=l.sz)
 (hnew: ∀(j:Nat) x,r'[j]? =some x→ ∃v,c'[i*l.sz+j]? =some v∧x.R K μ v)
 (hold: ∀k,(k<i*l.sz∨i*l.sz+l.sz≤k)→c'[k]? =c[k]?):
 HR K μ (h.put id (rows.set i r')) (w.setRow l.blk c'):=by
 have hbase:=(H.own id l rows ho hm hg).1
 have hb':(w.setRow l.blk c').heap[l.blk]? =some (.cells c' e (0,0)):=setRow_heap w l.blk c c' e (0,0) hb
 have hfar: ∀b,b≠l.blk→(w.setRow l.blk c').heap[b]? =w.heap[b]? :=fun b hne=>by
  simp only[World.setRow,Array.getElem?_modify];rw[if_neg (Ne.symm hne)]
 have hget: ∀{id' rows'},id'≠id→(h.put id (rows.set i r')).get id'=some rows'→h.get id'=some rows':=by
  intro id' rows' hne hg'
  simp only[Heap.put] at hg'
  rwa [if_neg hne] at hg'
 have hgi:(h.put id (rows.set i r')).get id=some (rows.set i r'):=by simp[Heap.put]
 constructor
 ·exact H.dom
 ·intro id' l' rows' hm' hg' k r hk
  by_cases hne:id'=id
  ·subst hne
   rw[hm] at hm';injection hm' with hm';subst hm'
   rw[hgi] at hg';injection hg' with hg';subst hg'
   rw[List.getElem?_set] at hk
   split at hk
   ·rename_i hik;subst hik
    injection hk with hk;subst hk
    refine ⟨hl,c',e,(0,0),hb',fun j x hj=> ?_⟩
    obtain ⟨v,h3,h4⟩:=hnew j x hj
    exact ⟨v,by rw[hbase,Nat.zero_add];exact h3,h4⟩
   ·rename_i hik
    obtain ⟨h1,c0,e0,fr,h2,h3⟩:=H.cells id' l rows hm hg k r hk
    rw[hb] at h2;injection h2 with h2;injection h2 with q1 q2 q3;subst q1;subst q2;subst q3
    refine ⟨h1,c',e,(0,0),hb',fun j x hj=> ?_⟩
    obtain ⟨v,h4,h5⟩:=h3 j x hj
    have hjl:j<l.sz:=by
     have:=(List.getElem?_eq_some_iff.1 hj).1
     omega
    refine ⟨v,?_,h5⟩
    rw[hbase,Nat.zero_add] at h4 ⊢
    rw[hold _ ?_];exact h4
    rcases Nat.lt_or_gt_of_ne hik with hlt | hlt
    ·right
     have:(i+1)*l.sz≤k*l.sz:=Nat.mul_le_mul_right _ hlt
     rw[Nat.add_mul,Nat.one_mul] at this
     omega
    ·left
     have:(k+1)*l.sz≤i*l.sz:=Nat.mul_le_mul_right _ hlt
     rw[Nat.add_mul,Nat.one_mul] at this
     omega
  ·have hg0:=hget hne hg'
   obtain ⟨h1,c0,e0,fr,h2,h3⟩:=H.cells id' l' rows' hm' hg0 k r hk
   refine ⟨h1,c0,e0,fr,?_,h3⟩
   rw[hfar _ (Ne.symm (H.inj id id' l l' rows rows' ho (Ne.symm hne) hm hm' hg hg0 (.inr (fun he=>by subst he;simp at hk))))]
   exact h2
 ·intro id' l' rows' ho' hm' hg'
  by_cases hne:id'=id
  ·subst hne
   rw[hm] at hm';injection hm' with hm';subst hm'
   rw[hgi] at hg';injection hg' with hg';subst hg'
   obtain ⟨h1,⟨c0,e0,h2,h3,h4⟩,h5⟩:=H.own id' l rows ho hm hg
   rw[hb] at h2;injection h2 with h2;injection h2 with q1 q2 q3;subst q1;subst q2
   exact ⟨h1,⟨c',e,hb',by omega,h4⟩,by simpa using h5⟩
  ·have hg0:=hget hne hg'
   obtain ⟨h1,⟨c0,e0,h2,h3⟩,h5⟩:=H.own id' l' rows' ho' hm' hg0
   refine ⟨h1,⟨c0,e0,?_,h3⟩,h5⟩
   rw[hfar _ (Ne.symm (H.inj id id' l l' rows rows' ho (Ne.symm hne) hm hm' hg hg0 (.inl ho')))]
   exact h2
 ·intro i1 i2 l1 l2 r1 r2 ho1 hne hm1 hm2 hg1 hg2 hor
  have get': ∀{q r},(h.put id (rows.set i r')).get q=some r→(∃r0,h.get q=some r0∧(r≠[]→r0≠[])):=by
   intro q r hq
   by_cases hqe:q=id
   ·subst hqe
    rw[hgi] at hq;injection hq with hq;subst hq
    exact ⟨rows,hg,fun hr he=>by subst he;simp at hr⟩
   ·exact ⟨r,hget hqe hq,fun h=>h⟩
  obtain ⟨s1,hs1,_⟩:=get' hg1
  obtain ⟨s2,hs2,hne2⟩:=get' hg2
  exact H.inj i1 i2 l1 l2 s1 s2 ho1 hne hm1 hm2 hs1 hs2 (hor.imp (fun h=>h) (fun h=>hne2 h))
 ·intro q hq
  have hq':h.next≤q:=hq
  have:=(H.dom id l hm).1
  simp only[Heap.put];rw[if_neg (by omega)];exact H.top q hq'

/-! ### an activation's state -/
variable (K)
structure SE (μ:Mu) (lam:Nat→Option Nat) (E:Nat) (A:Nat→Prop) (nt:Nat) (s:St) (a:Act) (w:World):Prop where
 nts:a.tmps.size=nt
 dfr:a.defers=[]
 env: ∀t v,lk s.env t=some v→v.R K μ (a.tmps.getD t undef)
 adr: ∀t k o,lk s.adr t=some (k,o)→ ∃b,lam k=some b∧a.tmps.getD t undef= .pointer (some ⟨b,o,none⟩)
 loc: ∀k cs,lk s.loc k=some cs→ ∃b c e,lam k=some b∧w.heap[b]? =some (.cells c e (0,0))∧All2 (Cell.R K μ) cs c.toList
 lamE: ∀k b,lam k=some b→E≤b∧b<w.heap.size
 lamInj: ∀k k' b,lam k=some b→lam k'=some b→k=k'
 lamOwn: ∀k b id l rows,lam k=some b→μ id=some l→s.hp.get id=some rows→(K.O≤id∨rows≠[])→l.blk≠b
 hp:HR K μ s.hp w
 wr: ∀id l rows,s.hp.floor≤id→μ id=some l→s.hp.get id=some rows→A l.blk
 fl:K.O≤s.hp.floor∧s.hp.floor≤s.hp.next
 big: ∀b,E≤b→A b

/-- What may be written in a call: what is new, and what lies above the floor. -/
def WA (μ:Mu) (h:Heap) (w:World) (b:Nat):Prop:=w.heap.size≤b∨ ∃id l rows,h.floor≤id∧μ id=some l∧h.get id=some rows∧l.blk=b
structure Step (h h':Heap):Prop where
 next:h.next≤h'.next
 floor:h'.floor=h.floor
 below: ∀id,id<h.floor→id<h.next→h'.get id=h.get id
 dead: ∀id,id<h.next→h.get id=none→h'.get id=none
 top:(∀id,h.next≤id→h.get id=none)→ ∀id,h'.next≤id→h'.get id=none
def CallOut (μ:Mu) (h h':Heap) (w:World) (r:V) (e:Ending) (w':World):Prop:=
 ∃v μ',e= .returned v∧r.R K μ' v∧HR K μ' h' w'∧ExtN h.next μ μ'∧Fr (WA μ h w) w w'∧Step h h'∧
  ∀id l rows,h.floor≤id→μ' id=some l→h'.get id=some rows→WA μ h w l.blk
/-- What the abstract calls tell, the machine does. -/
def CallSound (C:CallF):Prop:= ∀f vs h r h',C f vs h=some (r,h')→ ∀fid,K.G f=some fid→ ∀μ w (args:Array Value),HR K μ h w→K.O≤h.floor→h.floor≤h.next→
 All2 (V.R K μ) vs args.toList→Calls K.P fid args w (CallOut K μ h h' w r)
end Go.Proofs.Yteagcdhkobeanaa.A
