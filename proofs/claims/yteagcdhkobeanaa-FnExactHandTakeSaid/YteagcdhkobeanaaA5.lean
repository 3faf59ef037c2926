/- The steps of one operation keep the relation: the lemmas on states. -/
import Derived.Test.YteagcdhkobeanaaA4
namespace Go.Proofs.Yteagcdhkobeanaa.A
open Go
variable {K:Cfg}

theorem lk_drop {α:Type}: ∀(e:List (Nat×α)) (d t:Nat) (v:α),lk (drop e d) t=some v→t≠d∧lk e t=some v
 | [],_,_,_,h=>by simp[drop,lk] at h
 | (s,u)::r,d,t,v,h=>by
   simp only[drop] at h
   cases hs:(s==d) with
   | true=>
     rw[hs,cond_true] at h
     obtain ⟨h1,h2⟩:=lk_drop r d t v h
     refine ⟨h1,?_⟩
     have:s=d:=by simpa using hs
     simp only[lk]
     rw[show (s==t)=false by simp;omega];exact h2
   | false=>
     rw[hs,cond_false] at h
     simp only[lk] at h ⊢
     cases ht:(s==t) with
     | true=>
       rw[ht] at h
       have h1:s=t:=by simpa using ht
       have h2:s≠d:=by simpa using hs
       exact ⟨by omega,h⟩
     | false=>rw[ht,cond_false] at h;rw[cond_false];exact lk_drop r d t v h
theorem lk_mem {α:Type}: ∀(e:List (Nat×α)) (t:Nat) (v:α),lk e t=some v→(t,v)∈e
 | [],_,_,h=>by simp[lk] at h
 | (s,u)::r,t,v,h=>by
   simp only[lk] at h
   cases ht:(s==t) with
   | true=>rw[ht,cond_true] at h;injection h with h;have:s=t:=by simpa using ht
           subst this;subst h;simp
   | false=>rw[ht,cond_false] at h;exact List.mem_cons_of_mem _ (lk_mem r t v h)
theorem mem_drop {α:Type}: ∀(e:List (Nat×α)) (d:Nat) (x:Nat×α),x∈drop e d→x∈e∧x.1≠d
 | [],_,_,h=>by simp[drop] at h
 | (s,u)::r,d,x,h=>by
   simp only[drop] at h
   cases hs:(s==d) with
   | true=>rw[hs,cond_true] at h;have:=mem_drop r d x h;exact ⟨List.mem_cons_of_mem _ this.1,this.2⟩
   | false=>
     rw[hs,cond_false] at h
     rcases List.mem_cons.1 h with h | h
     ·subst h;exact ⟨by simp,by simpa using hs⟩
     ·have:=mem_drop r d x h;exact ⟨List.mem_cons_of_mem _ this.1,this.2⟩
theorem lk_forget: ∀(e:List (Nat×Nat×Nat)) (d t:Nat) (x:Nat×Nat),lk (forget e d) t=some x→lk e t=some x∧x.1≠d
 | [],_,_,_,h=>by simp[forget,lk] at h
 | (s,k,o)::r,d,t,x,h=>by
   simp only[forget] at h
   cases hs:(k==d) with
   | true=>
     rw[hs,cond_true] at h
     obtain ⟨h1,h2⟩:=lk_drop _ _ _ _ h
     have:=lk_forget r d t x h2
     refine ⟨?_,this.2⟩
     simp only[lk]
     rw[show (s==t)=false by simpa using Ne.symm h1];exact this.1
   | false=>
     rw[hs,cond_false] at h
     simp only[lk] at h ⊢
     cases ht:(s==t) with
     | true=>rw[ht] at h;injection h with h;subst h;exact ⟨rfl,by simpa using hs⟩
     | false=>rw[ht] at h;exact lk_forget r d t x h
theorem lk_keep {α:Type} (e:List (Nat×α)): ∀(l:List Nat) (x:Nat×α),x∈keep e l→lk e x.1=some x.2
 | [],_,h=>by simp[keep] at h
 | t::r,x,h=>by
   simp only[keep] at h
   split at h
   ·rename_i v hv
    rcases List.mem_cons.1 h with h | h
    ·subst h;exact hv
    ·exact lk_keep e r x h
   ·exact lk_keep e r x h

section
variable {μ:Mu} {lam:Nat→Option Nat} {E:Nat} {A:Nat→Prop} {nt:Nat} {s:St} {a:Act} {w:World}

theorem SE.adr' (S:SE K μ lam E A nt s a w) {t k o:Nat} (h:lk s.adr t=some (k,o)): ∃b,lam k=some b∧a.tmps.getD t undef= .pointer (some ⟨b,o,none⟩):=S.adr _ _ _ h
theorem SE.loc' (S:SE K μ lam E A nt s a w) {k:Nat} {cs:List Cell} (h:lk s.loc k=some cs): ∃b c e,lam k=some b∧w.heap[b]? =some (.cells c e (0,0))∧All2 (Cell.R K μ) cs c.toList:=S.loc _ _ h

theorem put_self {a:Act} {d:Nat} (v:Value) (h:d<a.tmps.size):(a.put (some d) v).tmps.getD d undef=v:=by
 simp[Act.put,h]
theorem put_other {a:Act} {d t:Nat} (v:Value) (h:t≠d):(a.put (some d) v).tmps.getD t undef=a.tmps.getD t undef:=by
 simp only[Act.put,Array.getD_eq_getD_getElem?]
 rw[Array.getElem?_setIfInBounds]
 rw[if_neg (Ne.symm h)]
theorem put_size {a:Act} {d:Option Nat} (v:Value):(a.put d v).tmps.size=a.tmps.size:=by cases d<;>simp[Act.put]
theorem put_defers {a:Act} {d:Option Nat} (v:Value):(a.put d v).defers=a.defers:=by cases d<;>rfl

/-- Temporary d takes a value. -/
theorem SE.set (S:SE K μ lam E A nt s a w) {d:Nat} (hd:d<nt) {v:V} {u:Value} (r:v.R K μ u):SE K μ lam E A nt (s.set d v) (a.put (some d) u) w:=
 {S with
  nts:=by rw[put_size];exact S.nts
  dfr:=by rw[put_defers];exact S.dfr
  env:=fun t x hx=>by
   simp only[St.set,lk] at hx
   cases ht:(d==t) with
   | true=>
     rw[ht,cond_true] at hx;injection hx with hx
     have:d=t:=by simpa using ht
     subst this;subst hx;rw[put_self _ (by rw[S.nts];exact hd)];exact r
   | false=>
     rw[ht,cond_false] at hx
     rw[put_other _ (by simp at ht;omega)];exact S.env t x hx
  adr:=fun t k o hx=>by
   obtain ⟨h1,h2⟩:=lk_drop _ _ _ _ hx
   rw[put_other _ h1];exact S.adr t k o h2}
/-- Temporary d takes a value of which nothing is kept. -/
theorem SE.unset (S:SE K μ lam E A nt s a w) {d:Nat} {u:Value}:SE K μ lam E A nt (s.unset d) (a.put (some d) u) w:=
 {S with
  nts:=by rw[put_size];exact S.nts
  dfr:=by rw[put_defers];exact S.dfr
  env:=fun t x hx=>by
   obtain ⟨h1,h2⟩:=lk_drop _ _ _ _ hx
   rw[put_other _ h1];exact S.env t x h2
  adr:=fun t k o hx=>by
   obtain ⟨h1,h2⟩:=lk_drop _ _ _ _ hx
   rw[put_other _ h1];exact S.adr t k o h2}
/-- An address of a variable of one's own. -/
theorem SE.setAdr (S:SE K μ lam E A nt s a w) {d k o b:Nat} (hd:d<nt) (hk:lam k=some b):SE K μ lam E A nt {s with env:=drop s.env d,adr:=(d,k,o)::drop s.adr d} (a.put (some d) (.pointer (some ⟨b,o,none⟩))) w:=
 {S.unset (d:=d) (u:= .pointer (some ⟨b,o,none⟩)) with
  adr:=fun t k' o' hx=>by
   simp only[lk] at hx
   cases ht:(d==t) with
   | true=>
     rw[ht] at hx;injection hx with hx;injection hx with h1 h2
     have:d=t:=by simpa using ht
     subst this;subst h1;subst h2;exact ⟨b,hk,put_self _ (by rw[S.nts];exact hd)⟩
   | false=>rw[ht] at hx;exact (S.unset (d:=d) (u:= .pointer (some ⟨b,o,none⟩))).adr t k' o' hx}
theorem SE.skipO (S:SE K μ lam E A nt s a w) (d:Option Nat) (hd:inB nt d=true):SE K μ lam E A nt (s.skipO d) (a.put d undef) w:=by
 cases d with
 | none=>exact S
 | some d=>exact S.set (of_decide_eq_true hd) ⟨#[],rfl,trivial⟩
theorem SE.prune (S:SE K μ lam E A nt s a w) (l:List Nat):SE K μ lam E A nt (s.prune l) a w:=
 {S with
  env:=fun t v h=>S.env t v (lk_keep _ _ _ (lk_mem _ _ _ h))
  adr:=fun t k o h=>S.adr t k o (lk_keep _ _ _ (lk_mem _ _ _ h))
  loc:=fun k cs h=>S.loc k cs (lk_keep _ _ _ (lk_mem _ _ _ h))}

/-- The world goes on, the old blocks (but those that are told otherwise) as they were. -/
theorem SE.move (S:SE K μ lam E A nt s a w) {μ':Mu} {h':Heap} {w':World} (hx:Ext μ μ') (H:HR K μ' h' w') (hsz:w.heap.size≤w'.heap.size)
 (hfl:h'.floor=s.hp.floor∧s.hp.next≤h'.next)
 (hloc: ∀k b,lam k=some b→w'.heap[b]? =w.heap[b]?)
 (hown: ∀k b id l rows,lam k=some b→μ' id=some l→h'.get id=some rows→(K.O≤id∨rows≠[])→l.blk≠b)
 (hwr: ∀id l rows,h'.floor≤id→μ' id=some l→h'.get id=some rows→A l.blk):SE K μ' lam E A nt {s with hp:=h'} a w':=
 {nts:=S.nts
  dfr:=S.dfr
  env:=fun t v h=>(S.env t v h).ext hx
  adr:=S.adr
  loc:=fun k cs hx'=>by
   obtain ⟨b,c,e,h1,h2,h3⟩:=S.loc k cs hx'
   exact ⟨b,c,e,h1,by rw[hloc _ _ h1];exact h2,h3.imp fun _ _=>Cell.R.ext hx⟩
  lamE:=fun k b h=>⟨(S.lamE k b h).1,Nat.lt_of_lt_of_le (S.lamE k b h).2 hsz⟩
  lamInj:=S.lamInj
  lamOwn:=hown
  hp:=H
  wr:=hwr
  fl:=⟨by show K.O≤h'.floor;rw[hfl.1];exact S.fl.1,by show h'.floor≤h'.next;rw[hfl.1];exact Nat.le_trans S.fl.2 hfl.2⟩
  big:=S.big}
/-- Draws alone. -/
theorem SE.drew (S:SE K μ lam E A nt s a w) (n:Nat):SE K μ lam E A nt s a {w with drawn:=n}:=
 {S with hp:=⟨S.hp.dom,S.hp.cells,S.hp.own,S.hp.inj,S.hp.top⟩}

/-- A new row of one's own. -/
theorem SE.push (S:SE K μ lam E A nt s a w) (c:Array Value) (e:TypeId) (tag sz:Nat) (rows:List (List Cell))
 (htag:tag≠0→sz=K.SZ tag∧e=K.ET tag) (hr:RowsR (K:=K) μ rows sz c) (hl:rows.length*sz≤c.size) (hE:E≤w.heap.size):
 SE K (μ.push s.hp.next ⟨w.heap.size,0,tag,sz,c.size⟩) lam E A nt {s with hp:=s.hp.push rows} a (w.alloc (.cells c e)):=by
 have hx:Ext μ (μ.push s.hp.next ⟨w.heap.size,0,tag,sz,c.size⟩):=Mu.push_ext S.hp _
 refine S.move hx (S.hp.push c e tag sz rows htag hr hl) (by simp) ⟨rfl,by simp[Heap.push]⟩ ?_ ?_ ?_
 ·intro k b hk
  have:=(S.lamE k b hk).2
  simp only[World.alloc,Array.getElem?_push];rw[if_neg (by omega)]
 ·intro k b id l rows' hk hm hg hor
  simp only[Mu.push] at hm
  simp only[Heap.push] at hg
  split at hm
  ·injection hm with hm;subst hm
   have:=(S.lamE k b hk).2
   show w.heap.size≠b
   omega
  ·rename_i he
   rw[if_neg he] at hg
   exact S.lamOwn k b id l rows' hk hm hg hor
 ·intro id l rows' hf hm hg
  simp only[Mu.push] at hm
  simp only[Heap.push] at hg hf
  split at hm
  ·injection hm with hm;subst hm
   exact S.big _ hE
  ·rename_i he
   rw[if_neg he] at hg
   exact S.wr id l rows' hf hm hg

/-- A variable of one's own is made. -/
theorem Mu.push_new' {μ:Mu} {n:Nat} {l:Loc} {h:Ext μ (μ.push n l)}:ExtN n μ (μ.push n l):=
 ⟨h,fun id l' e=>by
   simp only[Mu.push] at e
   split at e
   ·rename_i he;exact .inr (by omega)
   ·exact .inl e⟩
theorem SE.mkLoc (S:SE K μ lam E A nt s a w) {d:Nat} (hd:d<nt) (c:Array Value) (e:TypeId) (cs:List Cell) (hr:All2 (Cell.R K μ) cs c.toList) (hE:E≤w.heap.size):
 SE K μ (fun k=>if k=d then some w.heap.size else lam k) E A nt
  {s with env:=drop s.env d,adr:=(d,d,0)::forget (drop s.adr d) d,loc:=(d,cs)::drop s.loc d} (a.put (some d) (.pointer (some ⟨w.heap.size,0,none⟩))) (w.alloc (.cells c e)):=by
 have hold: ∀b,b<w.heap.size→(w.alloc (.cells c e)).heap[b]? =w.heap[b]? :=fun b hb=>by
  simp only[World.alloc,Array.getElem?_push];rw[if_neg (by omega)]
 have hnew:(w.alloc (.cells c e)).heap[w.heap.size]? =some (.cells c e (0,0)):=by
  show (w.heap.push _)[w.heap.size]? =_
  simp
 have hlow: ∀k b,lam k=some b→b<w.heap.size:=fun k b h=>(S.lamE k b h).2
 constructor
 ·rw[put_size];exact S.nts
 ·rw[put_defers];exact S.dfr
 ·intro t v h
  obtain ⟨h1,h2⟩:=lk_drop _ _ _ _ h
  rw[put_other _ h1];exact S.env t v h2
 ·intro t k o hx
  simp only[lk] at hx
  cases ht:(d==t) with
  | true=>
    rw[ht] at hx;injection hx with hx;injection hx with h1 h2
    have:d=t:=by simpa using ht
    subst this;subst h1;subst h2
    exact ⟨w.heap.size,by simp,put_self _ (by rw[S.nts];exact hd)⟩
  | false=>
    rw[ht] at hx
    obtain ⟨h1,h2⟩:=lk_forget _ _ _ _ hx
    obtain ⟨h3,h4⟩:=lk_drop _ _ _ _ h1
    obtain ⟨b,h5,h6⟩:=S.adr t k o h4
    exact ⟨b,by rw[if_neg h2];exact h5,by rw[put_other _ h3];exact h6⟩
 ·intro k cs' hx
  simp only[lk] at hx
  cases ht:(d==k) with
  | true=>
    rw[ht] at hx;injection hx with hx
    have:d=k:=by simpa using ht
    subst this;subst hx;exact ⟨w.heap.size,c,e,by simp,hnew,hr⟩
  | false=>
    rw[ht] at hx
    obtain ⟨h3,h4⟩:=lk_drop _ _ _ _ hx
    obtain ⟨b,c',e',h5,h6,h7⟩:=S.loc k cs' h4
    exact ⟨b,c',e',by rw[if_neg h3];exact h5,by rw[hold _ (hlow _ _ h5)];exact h6,h7⟩
 ·intro k b h
  split at h
  ·injection h with h;subst h;exact ⟨hE,by simp⟩
  ·have:=S.lamE k b h;exact ⟨this.1,by simp;omega⟩
 ·intro k k' b h h'
  split at h
  ·rename_i e1;injection h with h;subst h
   split at h'
   ·rename_i e2;rw[e1,e2]
   ·have:=hlow _ _ h';omega
  ·split at h'
   ·rename_i e2;injection h' with h';subst h'
    have:=hlow _ _ h;omega
   ·exact S.lamInj k k' b h h'
 ·intro k b id l rows h hm hg hor
  split at h
  ·injection h with h;subst h
   have:=S.hp.lt hm hg hor;omega
  ·exact S.lamOwn k b id l rows h hm hg hor
 ·exact S.hp.keep fun id l rows hm hg hor=>hold _ (S.hp.lt hm hg hor)
 ·exact S.wr
 ·exact S.fl
 ·exact S.big

/-- A variable of one's own is written. -/
theorem SE.setLoc (S:SE K μ lam E A nt s a w) {k b:Nat} {c c':Array Value} {e:TypeId} (hk:lam k=some b) (hb:w.heap[b]? =some (.cells c e (0,0))) (cs':List Cell) (hr:All2 (Cell.R K μ) cs' c'.toList):
 SE K μ lam E A nt {s with loc:=(k,cs')::drop s.loc k} a (w.setRow b c'):=by
 have hfar: ∀g,g≠b→(w.setRow b c').heap[g]? =w.heap[g]? :=fun g hne=>by
  simp only[World.setRow,Array.getElem?_modify];rw[if_neg (Ne.symm hne)]
 have hsz:(w.setRow b c').heap.size=w.heap.size:=by simp[World.setRow]
 constructor
 ·exact S.nts
 ·exact S.dfr
 ·exact S.env
 ·exact S.adr
 ·intro k' cs hx
  simp only[lk] at hx
  cases ht:(k==k') with
  | true=>
    rw[ht] at hx;injection hx with hx
    have:k=k':=by simpa using ht
    subst this;subst hx;exact ⟨b,c',e,hk,setRow_heap w b c c' e (0,0) hb,hr⟩
  | false=>
    rw[ht] at hx
    obtain ⟨h3,h4⟩:=lk_drop _ _ _ _ hx
    obtain ⟨b',c1,e1,h5,h6,h7⟩:=S.loc k' cs h4
    exact ⟨b',c1,e1,h5,by rw[hfar _ (fun he=>h3 (S.lamInj _ _ _ (he▸h5) hk))];exact h6,h7⟩
 ·intro k' b' h;rw[hsz];exact S.lamE k' b' h
 ·exact S.lamInj
 ·exact S.lamOwn
 ·exact S.hp.keep fun id l rows hm hg hor=>hfar _ (S.lamOwn k b id l rows hk hm hg hor)
 ·exact S.wr
 ·exact S.fl
 ·exact S.big

/-- A row of one's own is written. -/
theorem SE.storeP (S:SE K μ lam E A nt s a w) {id:Nat} {l:Loc} {rows:List (List Cell)} {c c':Array Value} {e:TypeId} {i:Nat} {r':List Cell} (hf:s.hp.floor≤id) (hm:μ id=some l) (hg:s.hp.get id=some rows)
 (hb:w.heap[l.blk]? =some (.cells c e (0,0))) (hcs:c'.size=c.size) (hi:i<rows.length) (hl:r'.length=l.sz)
 (hnew: ∀(j:Nat) x,r'[j]? =some x→ ∃v,c'[i*l.sz+j]? =some v∧x.R K μ v)
 (hold: ∀k,(k<i*l.sz∨i*l.sz+l.sz≤k)→c'[k]? =c[k]?):
 SE K μ lam E A nt {s with hp:=s.hp.put id (rows.set i r')} a (w.setRow l.blk c'):=by
 have ho:K.O≤id:=Nat.le_trans S.fl.1 hf
 have hgo: ∀{q r},(s.hp.put id (rows.set i r')).get q=some r→ ∃r0,s.hp.get q=some r0∧(r≠[]→r0≠[]):=by
  intro q r hq
  simp only[Heap.put] at hq
  split at hq
  ·rename_i hqe;subst hqe
   injection hq with hq;subst hq
   exact ⟨rows,hg,fun hr he=>by subst he;simp at hr⟩
  ·exact ⟨r,hq,fun h=>h⟩
 refine S.move (Ext.refl μ) (S.hp.write ho hm hg hb hcs hi hl hnew hold) (by simp[World.setRow]) ⟨rfl,Nat.le_refl _⟩ ?_ ?_ ?_
 ·intro k b hk
  have:=S.lamOwn k b id l rows hk hm hg (.inl ho)
  simp only[World.setRow,Array.getElem?_modify];rw[if_neg this]
 ·intro k b q l' r hk hm' hq hor
  obtain ⟨r0,h0,h1⟩:=hgo hq
  exact S.lamOwn k b q l' r0 hk hm' h0 (hor.imp (fun h=>h) h1)
 ·intro q l' r hq hm' hg'
  obtain ⟨r0,h0,_⟩:=hgo hg'
  exact S.wr q l' r0 hq hm' h0

/-- What append leaves. -/
theorem SE.pushK (S:SE K μ lam E A nt s a w) {w':World} {k g:Nat} {c:Array Value} {e:TypeId} {tag sz:Nat} {rows:List (List Cell)} (htag:tag≠0→sz=K.SZ tag∧e=K.ET tag)
 (hb:w'.heap[g]? =some (.cells c e (0,0))) (hfar: ∀id l rows,id≠k→μ id=some l→s.hp.get id=some rows→(K.O≤id∨rows≠[])→l.blk≠g∧w'.heap[l.blk]? =w.heap[l.blk]?)
 (hsz:w.heap.size≤w'.heap.size) (hg:A g) (hlam: ∀k b,lam k=some b→b≠g∧w'.heap[b]? =w.heap[b]?)
 (hr:RowsR (K:=K) μ rows sz c) (hl:rows.length*sz≤c.size):
 SE K (μ.push s.hp.next ⟨g,0,tag,sz,c.size⟩) lam E A nt {s with hp:=(s.hp.kill k).push rows} a w':=by
 have hgo: ∀{q r},q≠s.hp.next→((s.hp.kill k).push rows).get q=some r→s.hp.get q=some r:=by
  intro q r hn hq
  rw[show ((s.hp.kill k).push rows).get q=if q=s.hp.next then some rows else if q=k then none else s.hp.get q from rfl,if_neg hn] at hq
  split at hq
  ·cases hq
  ·exact hq
 refine S.move (Mu.push_ext S.hp _) (S.hp.pushK htag hb hfar hr hl) hsz ⟨rfl,by simp[Heap.push,Heap.kill]⟩ (fun k b hk=>(hlam k b hk).2) ?_ ?_
 ·intro k b q l' r hk hm' hq hor
  simp only[Mu.push] at hm'
  split at hm'
  ·injection hm' with hm';subst hm'
   exact Ne.symm (hlam k b hk).1
  ·rename_i hn
   exact S.lamOwn k b q l' r hk hm' (hgo hn hq) hor
 ·intro q l' r hq hm' hg'
  simp only[Mu.push] at hm'
  split at hm'
  ·injection hm' with hm';subst hm'
   exact hg
  ·rename_i hn
   exact S.wr q l' r hq hm' (hgo hn hg')

/-- A call has come back. -/
theorem SE.called (S:SE K μ lam E A nt s a w) {μ':Mu} {h h':Heap} {w':World} (hh:h.next=s.hp.next∧h.get=s.hp.get∧s.hp.floor≤h.floor) (hx:ExtN h.next μ μ') (H:HR K μ' h' w') (F:Fr (WA μ h w) w w') (T:Step h h')
 (hn: ∀id l rows,h.floor≤id→μ' id=some l→h'.get id=some rows→WA μ h w l.blk) (hfn:h.floor≤h.next) (hE:E≤w.heap.size):
 SE K μ' lam E A nt {s with hp:={h' with floor:=s.hp.floor}} a w':=by
 have wa: ∀{b},WA μ h w b→A b:=by
  intro b hb
  rcases hb with hb | ⟨id,l,rows,h1,h2,h3,h4⟩
  ·exact S.big b (Nat.le_trans hE hb)
  ·rw[←h4];rw[hh.2.1] at h3;exact S.wr id l rows (Nat.le_trans hh.2.2 h1) h2 h3
 have wl: ∀{k b},lam k=some b→ ¬WA μ h w b:=by
  intro k b hk hb
  rcases hb with hb | ⟨id,l,rows,h1,h2,h3,h4⟩
  ·have:=(S.lamE k b hk).2;omega
  ·rw[hh.2.1] at h3
   exact S.lamOwn k b id l rows hk h2 h3 (.inl (Nat.le_trans S.fl.1 (Nat.le_trans hh.2.2 h1))) h4
 have low: ∀{id l},id<h.floor→μ' id=some l→μ id=some l:=by
  intro id l h1 h2
  rcases hx.new id l h2 with q | q
  ·exact q
  ·omega
 have old: ∀{id l rows},id<h.floor→μ' id=some l→h'.get id=some rows→s.hp.get id=some rows:=by
  intro id l rows h1 h2 h3
  rw[T.below id h1 (by rw[hh.1];exact (S.hp.dom _ _ (low h1 h2)).1),hh.2.1] at h3
  exact h3
 refine S.move hx.ext (H.floor _) F.size ⟨rfl,by rw[←hh.1];exact T.next⟩ ?_ ?_ ?_
 ·intro k b hk
  exact F.same b (S.lamE k b hk).2 (wl hk)
 ·intro k b id l rows hk hm hg hor he
  rcases Nat.lt_or_ge id h.floor with hlt | hge
  ·exact S.lamOwn k b id l rows hk (low hlt hm) (old hlt hm hg) hor he
  ·exact wl hk (he▸hn id l rows hge hm hg)
 ·intro id l rows hf hm hg
  rcases Nat.lt_or_ge id h.floor with hlt | hge
  ·exact S.wr id l rows hf (low hlt hm) (old hlt hm hg)
  ·exact wa (hn id l rows hge hm hg)
end
end Go.Proofs.Yteagcdhkobeanaa.A
