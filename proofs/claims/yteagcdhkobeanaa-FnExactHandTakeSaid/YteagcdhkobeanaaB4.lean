/- Data that came in, as an abstract heap: whatever reads as data of a plain type lies in a heap of rows. -/
import Derived.Test.YteagcdhkobeanaaB3
import GoSem.ClaimJoined
import Derived.ChangeArms
namespace Go.Proofs.Yteagcdhkobeanaa.A
open Go

inductive Sh where
 | bool
 | int (k:IntKind)
 | str
 | slice (tag sz:Nat) (e:Sh)
 | struct (fs:List (Nat×Sh))

/-- Fields one behind the other, from offset o on. -/
def shFields (P:Program) (R:TypeId→Sh→Bool):Nat→List (Nat×Sh)→List Field→Bool
 | _,[],[]=>true
 | o,(n,s)::r,f::fs=>f.offset==o&&P.cellsOf f.type==n&&R f.type s&&shFields P R (o+n) r fs
 | _,_,_=>false
def shSum:List (Nat×Sh)→Nat
 | []=>0
 | (n,_)::r=>n+shSum r
def shIs (P:Program) (ET SZ:Nat→Nat):Nat→TypeId→Sh→Bool
 | 0,_,_=>false
 | n+1,t,s=>match P.underlying t with
   | none=>false
   | some d=>match s,d with
     | .bool,.bool=>true
     | .int k,.int k'=>decide (k=k')
     | .str,.string=>true
     | .slice tag sz e,.slice t'=> !(tag==0)&& !(sz==0)&&ET tag==t'&&SZ tag==sz&&P.cellsOf t'==sz&&shIs P ET SZ n t' e
     | .struct fs,.struct fields=>P.cellsOf t==shSum fs&&shFields P (shIs P ET SZ n) 0 fs fields.toList
     | _,_=>false

def WfFs (W:Sh→List Cell→Prop):List (Nat×Sh)→List Cell→Prop
 | [],cs=>cs=[]
 | (n,s)::r,cs=> ∃a b,cs=a++b∧a.length=n∧W s a∧WfFs W r b
/-- Cells that are of a shape, in a heap. -/
def Wf (h:Heap):Nat→Sh→List Cell→Prop
 | 0,_,_=>False
 | n+1,s,cs=>match s with
   | .bool=> ∃b,cs=[.bool b]
   | .int k=> ∃x,cs=[.int k x]∧(Lit.int k x).wf=true
   | .str=> ∃b,cs=[.str b]∧b.size≤maxLen
   | .slice tag sz e=>cs=[.nil]∨ ∃id rows,cs=[.sl tag id 0 rows.length]∧id<h.next∧h.get id=some rows∧rows.length≤maxLen∧ ∀r,r∈rows→r.length=sz∧Wf h n e r
   | .struct fs=>WfFs (Wf h n) fs cs

def HExt (h h':Heap):Prop:=h.next≤h'.next∧ ∀id,id<h.next→h'.get id=h.get id
theorem HExt.refl (h:Heap):HExt h h:=⟨Nat.le_refl _,fun _ _=>rfl⟩
theorem HExt.trans {a b c:Heap} (h:HExt a b) (k:HExt b c):HExt a c:=⟨Nat.le_trans h.1 k.1,fun id hi=>(k.2 id (Nat.lt_of_lt_of_le hi h.1)).trans (h.2 id hi)⟩
theorem WfFs.mono {W W':Sh→List Cell→Prop} (hW: ∀s cs,W s cs→W' s cs): ∀{fs:List (Nat×Sh)} {cs:List Cell},WfFs W fs cs→WfFs W' fs cs
 | [],_,h=>h
 | (_,_)::_,_,⟨a,b,h1,h2,h3,h4⟩=>⟨a,b,h1,h2,hW _ _ h3,h4.mono hW⟩
theorem Wf.mono {h h':Heap} (hx:HExt h h'): ∀(n:Nat) {s:Sh} {cs:List Cell},Wf h n s cs→Wf h' n s cs
 | 0,_,_,w=>w.elim
 | n+1,s,cs,w=>by
   cases s with
   | slice tag sz e=>
     rcases w with w | ⟨id,rows,h1,h2,h3,h4,h5⟩
     ·exact .inl w
     ·exact .inr ⟨id,rows,h1,Nat.lt_of_lt_of_le h2 hx.1,(hx.2 id h2).trans h3,h4,fun r hr=>⟨(h5 r hr).1,Wf.mono hx n (h5 r hr).2⟩⟩
   | struct fs=>exact WfFs.mono (fun s cs=>Wf.mono hx n) w
   | _=>exact w

/-- Cells that came in. -/
def Cell.R0 (μ:Mu):Cell→Value→Prop
 | .bool b,v=>v= .bool b
 | .int k n,v=>v= .int k n
 | .str s,v=>v= .string s
 | .nil,v=>v= .slice none 0 0
 | .sl tag id off len,v=> ∃l a cap,μ id=some l∧l.tag=tag∧tag≠0∧v= .slice (some a) len cap∧len≤cap∧cap≤maxLen∧
  ((a=⟨l.blk,l.base+off*l.sz,none⟩∧(off+cap)*l.sz≤l.csz∧(off=0→l.csz=cap*l.sz))∨len=0)
 | _,_=>False
theorem Cell.R0.ext {μ μ':Mu} (h:Ext μ μ') {c:Cell} {v:Value} (r:c.R0 μ v):c.R0 μ' v:=by
 cases c with
 | sl tag id off len=>obtain ⟨l,a,cap,e,r⟩:=r;exact ⟨l,a,cap,h _ _ e,r⟩
 | _=>exact r
/-- The relation of rows that are only read. -/
structure RO_ (SZ:Nat→Nat) (μ:Mu) (h:Heap) (w:World):Prop where
 dom: ∀id l,μ id=some l→id<h.next∧(l.tag≠0→l.sz=SZ l.tag)
 cells: ∀id l rows,μ id=some l→h.get id=some rows→ ∀(i:Nat) r,rows[i]? =some r→r.length=l.sz∧ ∃c e fr,w.heap[l.blk]? =some (.cells c e fr)∧
  ∀(j:Nat) x,r[j]? =some x→ ∃v,c[l.base+i*l.sz+j]? =some v∧x.R0 μ v
 top: ∀id,h.next≤id→h.get id=none
theorem Cell.R0.r {K:Cfg} {μ:Mu} {h:Heap} {w:World} (R:RO_ K.SZ μ h w) (hO:h.next≤K.O) {c:Cell} {v:Value} (r:c.R0 μ v):c.R K μ v:=by
 cases c with
 | sl tag id off len=>
   obtain ⟨l,a,cap,e,h1,h2,h3,h4,h5,h6⟩:=r
   refine ⟨l,a,cap,e,h1,h2,h3,h4,h5,h6.imp (fun h=>h) fun hz=>⟨hz,.inr ?_⟩⟩
   have:=(R.dom _ _ e).1;omega
 | ptr _ _ _=>exact r.elim
 | nilp=>exact r.elim
 | fn _ _=>exact r.elim
 | _=>exact r
theorem RO_.hr {K:Cfg} {μ:Mu} {h:Heap} {w:World} (R:RO_ K.SZ μ h w) (hO:h.next≤K.O):HR K μ h w where
 dom:=R.dom
 cells:=fun id l rows hm hg i r hi=>by
  obtain ⟨h1,c,e,fr,h2,h3⟩:=R.cells id l rows hm hg i r hi
  refine ⟨h1,c,e,fr,h2,fun j x hj=> ?_⟩
  obtain ⟨v,h4,h5⟩:=h3 j x hj
  exact ⟨v,h4,h5.r R hO⟩
 own:=fun id l rows ho hm _=>by have:=(R.dom id l hm).1;omega
 inj:=fun id id' l l' rows rows' ho _ hm _ _ _ _=>by have:=(R.dom id l hm).1;omega
 top:=R.top

section
variable {H:Type} {enc:TypeId×Value→H} {w:World}

theorem mapM_some {α β:Type} {f:α→Option β}: ∀{l:List α} {ys:List β},l.mapM f=some ys→All2 (fun x y=>f x=some y) l ys
 | [],ys,h=>by simp at h;subst h;trivial
 | x::l,ys,h=>by
   simp only[List.mapM_cons,Option.bind_eq_bind,Option.pure_def] at h
   obtain ⟨y,h1,h⟩:=Option.bind_eq_some_iff.1 h
   obtain ⟨r,h2,h⟩:=Option.bind_eq_some_iff.1 h
   injection h with h;subst h
   exact ⟨h1,mapM_some h2⟩
theorem cells?_get {a:Addr} {n:Nat} {cs:List Value} (h:w.cells? 0 a n=some cs):cs.length=n∧ ∀(j:Nat) v,cs[j]? =some v→w.cell? (a.add j)=some v:=by
 unfold World.cells? at h
 rw[if_pos (Nat.zero_le _)] at h
 have:=mapM_some h
 refine ⟨by have:=this.length;simpa using this.symm,fun j v hj=> ?_⟩
 have hl:=this.length
 simp only[List.length_range] at hl
 have hjl:j<n:=by have:=(List.getElem?_eq_some_iff.1 hj).1;omega
 obtain ⟨y,h1,h2⟩:=this.get j j (by simp[hjl])
 rw[hj] at h1;injection h1 with h1;subst h1;exact h2
theorem cell_block {a:Addr} {v:Value} (h:w.cell? a=some v): ∃c e fr,w.heap[a.block]? =some (.cells c e fr)∧c[a.off]? =some v∧a.spot=none:=by
 unfold World.cell? at h
 split at h
 ·rename_i c e fr hb
  split at h
  ·cases h
  ·rename_i hs
   exact ⟨c,e,fr,hb,h,by simpa using hs⟩
 ·cases h

/-- What one reading builds. -/
def Built (SZ:Nat→Nat) (w:World) (h h':Heap) (μ μ':Mu) (n:Nat) (s:Sh) (cells:List Cell) (cs:List Value):Prop:=
 HExt h h'∧Ext μ μ'∧RO_ SZ μ' h' w∧All2 (Cell.R0 μ') cells cs∧Wf h' n s cells
theorem RO_.push {SZ:Nat→Nat} {μ:Mu} {h:Heap} (R:RO_ SZ μ h w) (l:Loc) (rows:List (List Cell)) (hs:l.tag≠0→l.sz=SZ l.tag)
 (hc: ∀(i:Nat) r,rows[i]? =some r→r.length=l.sz∧ ∃c e fr,w.heap[l.blk]? =some (.cells c e fr)∧ ∀(j:Nat) x,r[j]? =some x→ ∃v,c[l.base+i*l.sz+j]? =some v∧x.R0 μ v):
 Ext μ (μ.push h.next l)∧RO_ SZ (μ.push h.next l) (h.push rows) w:=by
 have hx:Ext μ (μ.push h.next l):=fun id l' e=>by
  have:=(R.dom id l' e).1
  simp only[Mu.push];rw[if_neg (by omega)];exact e
 refine ⟨hx,⟨?_,?_,?_⟩⟩
 ·intro id l' hm
  simp only[Mu.push] at hm
  split at hm
  ·rename_i he;subst he;injection hm with hm;subst hm
   exact ⟨by simp[Heap.push],hs⟩
  ·have:=R.dom id l' hm
   exact ⟨by simp only[Heap.push];omega,this.2⟩
 ·intro id l' rows' hm hg i r hi
  simp only[Mu.push] at hm
  simp only[Heap.push] at hg
  split at hm
  ·rename_i he;subst he;injection hm with hm;subst hm
   rw[if_pos rfl] at hg;injection hg with hg;subst hg
   obtain ⟨h1,c,e,fr,h2,h3⟩:=hc i r hi
   exact ⟨h1,c,e,fr,h2,fun j x hj=>by obtain ⟨v,h4,h5⟩:=h3 j x hj;exact ⟨v,h4,h5.ext hx⟩⟩
  ·rename_i he
   rw[if_neg he] at hg
   obtain ⟨h1,c,e,fr,h2,h3⟩:=R.cells id l' rows' hm hg i r hi
   exact ⟨h1,c,e,fr,h2,fun j x hj=>by obtain ⟨v,h4,h5⟩:=h3 j x hj;exact ⟨v,h4,h5.ext hx⟩⟩
 ·intro id hid
  have hid':h.next+1≤id:=hid
  simp only[Heap.push];rw[if_neg (by omega)];exact R.top id (by omega)
theorem HExt.push (h:Heap) (rows:List (List Cell)):HExt h (h.push rows):=
 ⟨by simp[Heap.push],fun id hi=>by simp only[Heap.push];rw[if_neg (by omega)]⟩

theorem build (P:Program) (ET SZ:Nat→Nat): ∀(n:Nat) (m:Nat) (t:TypeId) (s:Sh) (cs:List Value) (x:DataW H×List MemPlace),shIs P ET SZ n t s=true→DataW.trod enc P w 0 (fun _=>true) true m t cs=some x→
 ∀(h:Heap) (μ:Mu),RO_ SZ μ h w→ ∃h' μ' cells,Built SZ w h h' μ μ' n s cells cs:=by
 intro n
 induction n with
 | zero=>intro m t s cs x hs;simp[shIs] at hs
 | succ n ih=>
   intro m t s cs x hs ht h μ R
   simp only[shIs] at hs
   split at hs
   ·cases hs
   ·rename_i d hd
    split at hs
    ·obtain ⟨b,rfl,_⟩:=DataW.trod_bool hd ht
     exact ⟨h,μ,[.bool b],HExt.refl _,Ext.refl _,R,⟨rfl,trivial⟩,b,rfl⟩
    ·rename_i k k'
     have hk:k=k':=of_decide_eq_true hs
     subst hk
     obtain ⟨b,rfl,_,hw⟩:=DataW.trod_int hd ht
     exact ⟨h,μ,[.int k b],HExt.refl _,Ext.refl _,R,⟨rfl,trivial⟩,b,rfl,hw⟩
    ·obtain ⟨b,rfl,_,hw⟩:=DataW.trod_string hd ht
     exact ⟨h,μ,[.str b],HExt.refl _,Ext.refl _,R,⟨rfl,trivial⟩,b,rfl,hw⟩
    ·rename_i tag sz e t'
     simp only[Bool.and_eq_true,Bool.not_eq_true',beq_eq_false_iff_ne,beq_iff_eq] at hs
     obtain ⟨⟨⟨⟨⟨s1,s2⟩,s3⟩,s4⟩,s5⟩,s6⟩:=hs
     rcases DataW.trod_slice hd ht with ⟨rfl,_⟩ | ⟨a,len,cap,elems,rest,m',_,rfl,_,_,hlc,hcm,hel,hget,_,_⟩
     ·exact ⟨h,μ,[.nil],HExt.refl _,Ext.refl _,R,⟨rfl,trivial⟩,.inl rfl⟩
     ·have each: ∀i,i<len→ ∃vs,w.cells? 0 (a.add (i*sz)) sz=some vs∧ ∃y,DataW.trod enc P w 0 (fun _=>true) true m' t' vs=some y:=by
       intro i hi
       have:=hget i hi
       rw[s5,List.getElem?_eq_getElem (by omega)] at this
       obtain ⟨vs,q1,q2⟩:=Option.bind_eq_some_iff.1 this
       exact ⟨vs,q1,_,q2⟩
      have rowsB: ∀k,k≤len→ ∃(h':Heap) (μ':Mu) (rows:List (List Cell)),HExt h h'∧Ext μ μ'∧RO_ SZ μ' h' w∧rows.length=k∧ ∀(i:Nat) r,rows[i]? =some r→r.length=sz∧Wf h' n e r∧ ∃vs,w.cells? 0 (a.add (i*sz)) sz=some vs∧All2 (Cell.R0 μ') r vs:=by
       intro k
       induction k with
       | zero=>intro _;exact ⟨h,μ,[],HExt.refl _,Ext.refl _,R,rfl,fun i r hi=>by simp at hi⟩
       | succ k ihk=>
         intro hk
         obtain ⟨h1,μ1,rows,q1,q2,q3,q4,q5⟩:=ihk (by omega)
         obtain ⟨vs,q6,y,q7⟩:=each k (by omega)
         obtain ⟨h2,μ2,cells,r1,r2,r3,r4,r5⟩:=ih m' t' e vs y s6 q7 h1 μ1 q3
         refine ⟨h2,μ2,rows++[cells],q1.trans r1,q2.trans r2,r3,by simp[q4],?_⟩
         intro i r hi
         rw[List.getElem?_append] at hi
         split at hi
         ·obtain ⟨p1,p2,vs',p3,p4⟩:=q5 i r hi
          exact ⟨p1,p2.mono r1,vs',p3,p4.imp fun _ _=>Cell.R0.ext r2⟩
         ·rename_i hil
          have:i=k:=by have:=(List.getElem?_eq_some_iff.1 hi).1;simp at this;omega
          subst this
          rw[q4,Nat.sub_self] at hi
          simp at hi;subst hi
          exact ⟨by rw[r4.length];exact (cells?_get q6).1,r5,vs,q6,r4⟩
      obtain ⟨h1,μ1,rows,q1,q2,q3,q4,q5⟩:=rowsB len (Nat.le_refl _)
      obtain ⟨l,hl⟩: ∃l:Loc,l=⟨a.block,a.off,tag,sz,cap*sz⟩:=⟨_,rfl⟩
      have hspot: ∀(i:Nat) r,rows[i]? =some r→a.spot=none:=by
       intro i r hi
       have hlen:0<rows.length:=by have:=(List.getElem?_eq_some_iff.1 hi).1;omega
       obtain ⟨r0,hr0⟩: ∃r0,rows[0]? =some r0:=⟨rows[0],by simp⟩
       obtain ⟨p1,_,vs,p2,p3⟩:=q5 0 r0 hr0
       obtain ⟨g1,g2⟩:=cells?_get p2
       have:0<vs.length:=by omega
       have hc:=g2 0 vs[0] (by simp)
       obtain ⟨_,_,_,_,_,hs⟩:=cell_block hc
       simpa[Addr.add] using hs
      have hpush:=RO_.push q3 l rows (by intro _;rw[hl];exact s4.symm) (by
       intro i r hi
       obtain ⟨p1,_,vs,p2,p3⟩:=q5 i r hi
       obtain ⟨g1,g2⟩:=cells?_get p2
       have ha:a=⟨a.block,a.off,none⟩:=by have:=hspot i r hi;cases a;simp_all
       have hv0:0<vs.length:=by omega
       have hc0:=g2 0 vs[0] (by simp)
       rw[ha,addr_add,addr_add] at hc0
       obtain ⟨c,el,fr,b1,b2,_⟩:=cell_block hc0
       refine ⟨by rw[hl];exact p1,c,el,fr,by rw[hl];exact b1,fun j x hj=> ?_⟩
       obtain ⟨v,b3,b4⟩:=p3.get j x hj
       have hcj:=g2 j v b3
       rw[ha,addr_add,addr_add] at hcj
       obtain ⟨c',el',fr',b5,b6,_⟩:=cell_block hcj
       rw[b1] at b5;injection b5 with b5;injection b5 with b5 _ _;subst b5
       exact ⟨v,by rw[hl];exact b6,b4⟩)
      refine ⟨h1.push rows,μ1.push h1.next l,[.sl tag h1.next 0 rows.length],q1.trans (HExt.push _ _),q2.trans hpush.1,hpush.2,⟨⟨l,a,cap,Mu.push_new _ _ _,by rw[hl],s1,by rw[q4],by omega,hcm,?_⟩,trivial⟩,.inr ⟨h1.next,rows,rfl,by simp[Heap.push],by simp[Heap.push],by omega,?_⟩⟩
      ·rcases Nat.eq_zero_or_pos rows.length with h0 | h0
       ·exact .inr h0
       ·left
        obtain ⟨r0,hr0⟩: ∃r0,rows[0]? =some r0:=⟨rows[0],by simp⟩
        have hs:=hspot 0 r0 hr0
        rw[hl]
        refine ⟨by cases a;simp_all,by simp,fun _=>rfl⟩
      ·intro r hr
       obtain ⟨i,hi,rfl⟩:=List.mem_iff_getElem.1 hr
       obtain ⟨p1,p2,_⟩:=q5 i _ (List.getElem?_eq_getElem hi)
       exact ⟨p1,p2.mono (HExt.push _ _)⟩
    ·rename_i fs fields
     simp only[Bool.and_eq_true,beq_iff_eq] at hs
     obtain ⟨s1,s2⟩:=hs
     obtain ⟨xs,m',_,_,hlen,hxl,hget⟩:=DataW.trod_struct hd ht
     have parts: ∀(fs:List (Nat×Sh)) (fl:List Field) (o:Nat),shFields P (shIs P ET SZ n) o fs fl=true→o+shSum fs≤cs.length→
      (∀f,f∈fl→ ∃y,DataW.trod enc P w 0 (fun _=>true) true m' f.type ((cs.drop f.offset).take (P.cellsOf f.type))=some y)→
      ∀(h:Heap) (μ:Mu),RO_ SZ μ h w→ ∃h' μ' cells,HExt h h'∧Ext μ μ'∧RO_ SZ μ' h' w∧All2 (Cell.R0 μ') cells ((cs.drop o).take (shSum fs))∧WfFs (Wf h' n) fs cells:=by
      intro fs
      induction fs with
      | nil=>
        intro fl o hf hle hy h μ R
        exact ⟨h,μ,[],HExt.refl _,Ext.refl _,R,by simp[shSum,All2],rfl⟩
      | cons p fs ihf=>
        intro fl o hf hle hy h μ R
        obtain ⟨k,s⟩:=p
        cases fl with
        | nil=>simp[shFields] at hf
        | cons f fl=>
          simp only[shFields,Bool.and_eq_true,beq_iff_eq] at hf
          obtain ⟨⟨⟨f1,f2⟩,f3⟩,f4⟩:=hf
          simp only[shSum] at hle
          obtain ⟨y,hy1⟩:=hy f (by simp)
          rw[f1,f2] at hy1
          obtain ⟨h1,μ1,c1,r1,r2,r3,r4,r5⟩:=ih m' f.type s _ y f3 hy1 h μ R
          obtain ⟨h2,μ2,c2,t1,t2,t3,t4,t5⟩:=ihf fl (o+k) f4 (by omega) (fun g hg=>hy g (by simp[hg])) h1 μ1 r3
          refine ⟨h2,μ2,c1++c2,r1.trans t1,r2.trans t2,t3,?_,c1,c2,rfl,?_,r5.mono t1,t5⟩
          ·have:(cs.drop o).take (shSum ((k,s)::fs))=(cs.drop o).take k++(cs.drop (o+k)).take (shSum fs):=by
            simp only[shSum]
            rw[List.take_add,List.drop_drop]
           rw[this]
           exact (r4.imp fun _ _=>Cell.R0.ext t2).append t4
          ·rw[r4.length];simp;omega
     obtain ⟨h1,μ1,cells,r1,r2,r3,r4,r5⟩:=parts fs fields.toList 0 s2 (by omega) (fun f hf=>by
      obtain ⟨i,hi,rfl⟩:=List.mem_iff_getElem.1 hf
      have:=hget i fields.toList[i] (by simp)
      rw[List.getElem?_eq_getElem (by simp at hi;omega)] at this
      exact ⟨_,this⟩) h μ R
     refine ⟨h1,μ1,cells,r1,r2,r3,?_,r5⟩
     simpa[←s1,←hlen] using r4
    ·cases hs
end
end Go.Proofs.Yteagcdhkobeanaa.A
