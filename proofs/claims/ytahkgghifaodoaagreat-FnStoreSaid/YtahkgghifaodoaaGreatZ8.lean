/- slices.SortFunc as a primitive, at pairs of an int and a uint64, under a function that compares the first and then the second. -/
import Derived.Test.YtahkgghifaodoaaGreatZ7
import Derived.Shelf.SlSortCmp.NoneTotal
namespace Go.Proofs.YtahkgghifaodoaaGreat.A
open Go Go.Shelf
set_option linter.unusedSimpArgs false
set_option linter.unusedVariables false
def cmp2 (x y:Int×Int):Int:=if x.1<y.1 then -1 else if y.1<x.1 then 1 else if x.2<y.2 then -1 else if y.2<x.2 then 1 else 0
def enc2 (x:Int×Int):List Cell:=[.int .i64 x.1,.int .u64 x.2]
def val2 (x:Int×Int):List Value:=[.int .i64 x.1,.int .u64 x.2]
def dec2:List Cell→Option (Int×Int)
 | [.int .i64 a,.int .u64 b]=>some (a,b)
 | _=>none
def decs2:List (List Cell)→Option (List (Int×Int))
 | []=>some []
 | r::rs=>(dec2 r).bind fun x=>(decs2 rs).bind fun xs=>some (x::xs)
def sort2 (xs:List (Int×Int)):List (Int×Int):=xs.mergeSort fun x y=> !(ltOf cmp2) y x
/-- The row is sorted in its place. -/
def sortF (tag f:Nat):PrimF:=fun vs h=>match vs with
 | [.c .nil,.c (.fn g [])]=>if g=f then some (.tup [],h) else none
 | [.c (.sl z id off len),.c (.fn g [])]=>if g=f∧z=tag∧off=0 then (h.get id).bind fun rows=>
     if rows.length=len∧h.floor≤id∧len<4611686018427387904 then (decs2 rows).bind fun xs=>some (.tup [],h.put id ((sort2 xs).map enc2)) else none else none
 | _=>none
theorem dec2_eq {r:List Cell} {x:Int×Int} (h:dec2 r=some x):r=enc2 x:=by
 unfold dec2 at h
 split at h
 ·injection h with h;subst h;rfl
 ·cases h
theorem decs2_eq: ∀{rows:List (List Cell)} {xs:List (Int×Int)},decs2 rows=some xs→rows=xs.map enc2
 | [],xs,h=>by injection h with h;subst h;rfl
 | r::rs,xs,h=>by
   obtain ⟨x,h1,h2⟩:=Option.bind_eq_some_iff.1 h
   obtain ⟨ys,h3,h4⟩:=Option.bind_eq_some_iff.1 h2
   injection h4 with h4;subst h4
   rw[List.map_cons,dec2_eq h1,decs2_eq h3]
theorem sort2_perm (xs:List (Int×Int)):(sort2 xs).Perm xs:=List.mergeSort_perm xs _
theorem sort2_len (xs:List (Int×Int)):(sort2 xs).length=xs.length:=(sort2_perm xs).length_eq
theorem lt2 (x y:Int×Int):ltOf cmp2 x y=decide (x.1<y.1∨(x.1=y.1∧x.2<y.2)):=by
 unfold ltOf cmp2
 by_cases h1:x.1<y.1
 ·simp[h1]
 ·by_cases h2:y.1<x.1
  ·simp[h1,h2];omega
  ·have he:x.1=y.1:=by omega
   by_cases h3:x.2<y.2
   ·simp[he,h3]
   ·by_cases h4:y.2<x.2<;>simp[he,h3,h4]
theorem swo2:Sort.SWO (ltOf cmp2) where
 irrefl x:=by rw[lt2];simp
 trans x y z h1 h2:=by rw[lt2] at *;simp at *;omega
 ntrans x y z h1 h2:=by rw[lt2] at *;simp at *;omega
theorem tot2 (x y:Int×Int) (h1:ltOf cmp2 x y=false) (h2:ltOf cmp2 y x=false):x=y:=by
 rw[lt2] at h1 h2
 simp at h1 h2
 obtain ⟨a,b⟩:=x
 obtain ⟨c,d⟩:=y
 simp at h1 h2 ⊢
 omega
theorem step_put {h:Heap} {id:Nat} {rows rows':List (List Cell)} (hf:h.floor≤id) (hg:h.get id=some rows):Step h (h.put id rows') where
 next:=Nat.le_refl _
 floor:=rfl
 below:=fun j h1 _=>by rw[show (h.put id rows').get j=if j=id then some rows' else h.get j from rfl,if_neg (by omega)]
 dead:=fun j h1 h2=>by
  rw[show (h.put id rows').get j=if j=id then some rows' else h.get j from rfl,if_neg (by rintro rfl;rw[hg] at h2;cases h2)]
  exact h2
 top:=fun ht j hj=>by
  rw[show (h.put id rows').get j=if j=id then some rows' else h.get j from rfl]
  split
  ·rename_i e;subst e
   rw[ht j hj] at hg;cases hg
  ·exact ht j hj
theorem step_sort (tag f:Nat):StepP (sortF tag f):=by
 intro vs h r e hf
 unfold sortF at e
 split at e
 ·split at e
  ·injection e with e;subst e
   exact Step.refl _
  ·cases e
 ·split at e
  ·obtain ⟨rows,e1,e2⟩:=Option.bind_eq_some_iff.1 e
   split at e2
   ·rename_i hc
    obtain ⟨xs,e3,e4⟩:=Option.bind_eq_some_iff.1 e2
    injection e4 with e4;subst e4
    exact step_put hc.2.1 e1
   ·cases e2
  ·cases e
 ·cases e
section
variable {K:Cfg} {μ:Mu} {h h':Heap} {w w':World}
theorem HR.put (H:HR K μ h w) {id:Nat} {l:Loc} {rows rows':List (List Cell)} (hid:K.O≤id) (hm:μ id=some l) (hg:h.get id=some rows) {c':Array Value} {e:TypeId} (hb:w'.heap[l.blk]? =some (.cells c' e (0,0)))
 (hsz:c'.size=l.csz) (he:l.tag≠0→e=K.ET l.tag) (hR:RowsR (K:=K) μ rows' l.sz c') (hl:rows'.length*l.sz≤l.csz) (hfar: ∀b,b<w.heap.size→b≠l.blk→w'.heap[b]? =w.heap[b]?):HR K μ (h.put id rows') w':=by
 have hget: ∀j,(h.put id rows').get j=if j=id then some rows' else h.get j:=fun _=>rfl
 obtain ⟨hbase,_,_⟩:=H.own id l rows hid hm hg
 have far: ∀id' l' rows2,id'≠id→μ id'=some l'→h.get id'=some rows2→(K.O≤id'∨rows2≠[])→w'.heap[l'.blk]? =w.heap[l'.blk]? :=fun id' l' rows2 hne hm' hg' hor=>
  hfar _ (H.lt hm' hg' hor) fun q=>H.inj id id' l l' rows rows2 hid (Ne.symm hne) hm hm' hg hg' hor q.symm
 constructor
 ·exact H.dom
 ·intro id' l' rows2 hm' hg' i r hi
  rw[hget] at hg'
  split at hg'
  ·rename_i q;subst q
   injection hg' with hg';subst hg'
   rw[hm] at hm';injection hm' with hm';subst hm'
   obtain ⟨p1,p2⟩:=hR i r hi
   exact ⟨p1,c',e,(0,0),hb,fun j x hj=>by rw[hbase,Nat.zero_add];exact p2 j x hj⟩
  ·rename_i q
   obtain ⟨h1,c,e2,fr,h2,h3⟩:=H.cells id' l' rows2 hm' hg' i r hi
   exact ⟨h1,c,e2,fr,by rw[far id' l' rows2 q hm' hg' (.inr (fun he=>by subst he;simp at hi))];exact h2,h3⟩
 ·intro id' l' rows2 ho hm' hg'
  rw[hget] at hg'
  split at hg'
  ·rename_i q;subst q
   injection hg' with hg';subst hg'
   rw[hm] at hm';injection hm' with hm';subst hm'
   exact ⟨hbase,⟨c',e,hb,hsz,he⟩,hl⟩
  ·rename_i q
   obtain ⟨h1,⟨c,e2,h2⟩,h3⟩:=H.own id' l' rows2 ho hm' hg'
   exact ⟨h1,⟨c,e2,by rw[far id' l' rows2 q hm' hg' (.inl ho)];exact h2⟩,h3⟩
 ·intro id1 id2 l1 l2 rows1 rows2 ho hne hm1 hm2 hg1 hg2 hor
  rw[hget] at hg1 hg2
  have g1: ∃r1,h.get id1=some r1:=by
   split at hg1
   ·rename_i q;subst q;exact ⟨rows,hg⟩
   ·exact ⟨_,hg1⟩
  obtain ⟨r1,g1⟩:=g1
  split at hg2
  ·rename_i q;subst q
   exact H.inj id1 id2 l1 l2 r1 rows ho hne hm1 hm2 g1 hg (.inl hid)
  ·exact H.inj id1 id2 l1 l2 r1 rows2 ho hne hm1 hm2 g1 hg2 hor
 ·intro j hj
  rw[hget]
  split
  ·rename_i q;subst q
   have:=(H.dom j l hm).1
   have hj':h.next≤j:=hj
   omega
  ·exact H.top j hj
theorem sw_blk {α:Type} [Inhabited α] (enc:α→List Value) (k:Nat) (w:World) (blk n:Nat) (d:Array α) (os:Array Obj) {cur:Array Value} {e:TypeId} {fr:Nat×Nat} (hb:w.heap[blk]? =some (.cells cur e fr)):
 (sortWorldK enc k w blk 0 n d os).heap[blk]? =some (.cells (Sort.putCells _root_.id 0 (Sort.flatK enc k d) cur) e fr):=by
 have hlt:=(Array.getElem?_eq_some_iff.1 hb).1
 show ((w.heap.modify blk (Sort.onCells (Sort.putCells _root_.id 0 (Sort.flatK enc k d))))++os)[blk]? =_
 rw[Array.getElem?_append,if_pos (by simpa using hlt),Array.getElem?_modify,if_pos rfl,hb]
 rfl
theorem sw_far {α:Type} [Inhabited α] (enc:α→List Value) (k:Nat) (w:World) (blk n:Nat) (d:Array α) (os:Array Obj) {b:Nat} (hlt:b<w.heap.size) (hne:b≠blk):
 (sortWorldK enc k w blk 0 n d os).heap[b]? =w.heap[b]? :=by
 show ((w.heap.modify blk (Sort.onCells (Sort.putCells _root_.id 0 (Sort.flatK enc k d))))++os)[b]? =_
 rw[Array.getElem?_append,if_pos (by simpa using hlt),Array.getElem?_modify,if_neg (Ne.symm hne)]
theorem all2l {R:V→Value→Prop} {a b:V} {l:List Value} (h:All2 R [a,b] l): ∃x y,l=[x,y]∧R a x∧R b y:=by
 match l,h with
 | [x,y],h=>exact ⟨x,y,rfl,h.1,h.2.1⟩
 | [_],h=>exact h.2.elim
 | _::_::_::_,h=>exact h.2.2.elim
theorem flat2 (xs:List (Int×Int)) {i j:Nat} (hi:i<xs.length) (hj:j<2):(Sort.flatK val2 2 xs.toArray)[i*2+j]? =(val2 xs[i])[j]? :=by
 have hlt:i*2+j<(Sort.flatK val2 2 xs.toArray).size:=by rw[Sort.size_flatK];simp;omega
 have h1:(i*2+j) / 2=i:=by omega
 have h2:(i*2+j)%2=j:=by omega
 rw[Array.getElem?_eq_getElem hlt,←getElem!_pos (Sort.flatK val2 2 xs.toArray) _ hlt,Sort.get_flatK _ _ _ _ (by simp;omega),h1,h2,getElem!_pos xs.toArray i (by simpa using hi)]
 simp only[List.getElem_toArray]
 match j,hj with
 | 0,_=>rfl
 | 1,_=>rfl
theorem sort_sound {ρ:Ren} {tag f g:Nat} (hk:K.SZ tag=2) (L:SlLaysF0.n6 K.P ρ) (aE: ∀w,(isAgg (ρ.t 24)).run K.P w= .ok true w) (zE: ∀w,(Go.sizeOf (ρ.t 24)).run K.P w= .ok 2 w) (hG:K.G f=some g)
 (eg: ∀args w,(callFunc g args).run K.P w= .ok (.enter g args) w)
 (hcmp: ∀(x y:Int×Int) W,Calls K.P g #[.agg (val2 x).toArray,.agg (val2 y).toArray] W fun e w'=>e= .returned (.int .i64 (cmp2 x y))∧ ∃q os',w'=Sort.grow (W.drewN q) os'):PrimOk K (ρ.f 6) (sortF tag f):=by
 intro vs h r h' e μ w args H hO hfl ha
 have same: ∀{E:Ending} {w':World},E= .returned (.tuple #[])∧w'=w→CallOut K μ h h w (.tup []) E w':=by
  rintro E w' ⟨rfl,rfl⟩
  exact ⟨_,μ,rfl,⟨#[],rfl,trivial⟩,H,ExtN.refl _ _,Fr.refl _ _,Step.refl _,fun id l rows h1 h2 h3=> .inr ⟨id,l,rows,h1,h2,h3,rfl⟩⟩
 unfold sortF at e
 split at e
 ·rename_i g'
  split at e
  ·rename_i hg'
   subst hg'
   simp only[Option.some.injEq,Prod.mk.injEq] at e
   obtain ⟨rfl,rfl⟩:=e
   obtain ⟨a0,a1,hargs,r0,r1⟩:=all2l ha
   have hargs':args= #[a0,a1]:=by apply Array.ext';simpa using hargs
   subst hargs'
   have h0:a0= .slice none 0 0:=r0
   subst h0
   exact (AnyF.slices_SortFunc_none L none 0 a1 w).mono fun _ _=>same
  ·cases e
 ·rename_i z id off len g'
  split at e
  ·rename_i hc
   obtain ⟨rfl,rfl,rfl⟩:=hc
   obtain ⟨rows,e1,e2⟩:=Option.bind_eq_some_iff.1 e
   clear e
   split at e2
   ·rename_i hc
    obtain ⟨hrl,hf,hlen⟩:=hc
    obtain ⟨xs,e3,e4⟩:=Option.bind_eq_some_iff.1 e2
    simp only[Option.some.injEq,Prod.mk.injEq] at e4
    obtain ⟨rfl,rfl⟩:=e4
    have hrows:=decs2_eq e3
    subst hrows
    have hxl:xs.length=len:=by simpa using hrl
    obtain ⟨a0,a1,hargs,r0,r1⟩:=all2l ha
    have hargs':args= #[a0,a1]:=by apply Array.ext';simpa using hargs
    subst hargs'
    obtain ⟨fid,ws,s1,rfl,s2⟩: ∃fid ws,K.G g'=some fid∧a1= .func (.func fid) #[] ws∧All2 (ptrR μ) [] ws.toList:=r1
    rw[hG] at s1;injection s1 with s1;subst s1
    have hws:ws= #[]:=by
     apply Array.ext'
     cases hl:ws.toList with
     | nil=>rfl
     | cons a b=>rw[hl] at s2;exact s2.elim
    subst hws
    obtain ⟨l,cap,cur,n1,rfl,n2,n3,n4,n5,htag,n6,n7,n8,_⟩:=own_slice H hO (show (Cell.sl z id 0 len).R K μ a0 from r0) hf e1 (by simpa using hxl) (by omega)
    by_cases h0:len=0
    ·have hx0:xs=[]:=List.eq_nil_of_length_eq_zero (by omega)
     subst hx0
     have hput:h.put id ((sort2 []).map enc2)=h:=by
      cases h
      simp only[Heap.put,Heap.mk.injEq,true_and]
      funext j
      split
      ·rename_i q;subst q
       rw[show (sort2 []).map enc2=[] from by simp[sort2]]
       exact e1.symm
      ·rfl
     rw[hput]
     subst h0
     exact (AnyF.slices_SortFunc_none L _ cap _ w).mono fun _ _=>same
    ·rw[hk] at n5 n6 n7 n8
     have hid:K.O≤id:=Nat.le_trans hO hf
     obtain ⟨o1,⟨cur',el,o2,o3,o4⟩,o5⟩:=H.own id l _ hid n1 e1
     rw[n4] at o2;injection o2 with o2;injection o2 with o2 o2e _;subst o2;subst o2e
     have ltag:l.tag=z:=by
      obtain ⟨l2,_,_,q1,q2,_⟩:=r0
      rw[n1] at q1;injection q1 with q1;subst q1;exact q2
     have lsz:l.sz=2:=by rw[←hk,←ltag];exact (H.dom _ _ n1).2 (by rw[ltag];exact htag)
     have hblk:l.blk<w.heap.size:=(Array.getElem?_eq_some_iff.1 n4).1
     have hH:Sort.HoldsK val2 2 w l.blk 0 xs.toArray:=by
      intro j hj
      rw[Sort.size_flatK] at hj
      simp only[List.size_toArray] at hj
      refine ⟨?_,by simp[World.frozen?,n4]⟩
      have hi:j / 2<xs.length:=by omega
      obtain ⟨p1,p2⟩:=n6 (j / 2) (enc2 xs[j / 2]) (by simp[List.getElem?_map,List.getElem?_eq_getElem hi])
      have hfj:(Sort.flatK val2 2 xs.toArray)[j]? =(val2 xs[j / 2])[j%2]? :=by
       have:=flat2 xs hi (Nat.mod_lt j (by omega:2>0))
       rwa [show j / 2*2+j%2=j from by omega] at this
      have hjz:j<(Sort.flatK val2 2 xs.toArray).size:=by rw[Sort.size_flatK];simpa using hj
      have hv: ∀c u v,(enc2 xs[j / 2])[j%2]? =some c→(val2 xs[j / 2])[j%2]? =some v→c.R K μ u→u=v:=by
       intro c u v h1 h2 h3
       have:j%2=0∨j%2=1:=by omega
       rcases this with q | q<;>rw[q] at h1 h2<;>simp only[enc2,val2,List.getElem?_cons_zero,List.getElem?_cons_succ,Option.some.injEq] at h1 h2<;>subst h1<;>subst h2<;>exact h3
      obtain ⟨c,hc⟩: ∃c,(enc2 xs[j / 2])[j%2]? =some c:=⟨_,List.getElem?_eq_getElem (l:=enc2 xs[j / 2]) (Nat.mod_lt j (by omega:2>0))⟩
      obtain ⟨v,hv'⟩: ∃v,(val2 xs[j / 2])[j%2]? =some v:=⟨_,List.getElem?_eq_getElem (l:=val2 xs[j / 2]) (Nat.mod_lt j (by omega:2>0))⟩
      obtain ⟨u,h1,h2⟩:=p2 _ c hc
      rw[show j / 2*2+j%2=j from by omega,List.getElem?_take,if_pos (by omega),Array.getElem?_toList] at h1
      have he:=hv c u v hc hv' h2
      subst he
      rw[getElem!_pos _ j hjz]
      rw[hv',Array.getElem?_eq_getElem hjz] at hfj
      injection hfj with hfj
      rw[hfj]
      simp[World.cell?,n4,h1]
     have hcon:=AnyQ.slices_SortFunc_total L 2 aE zE val2 (fun _=>rfl) (fun x v hv=>by simp[val2] at hv;rcases hv with rfl | rfl<;>rfl) cmp2 swo2 g #[] l.blk 0 cap xs.toArray w eg (fun _ _ _ _ x y=>hcmp x y _) hH hblk (by simpa[hxl] using hlen) tot2
     simp only[List.size_toArray,hxl] at hcon
     refine hcon.mono ?_
     rintro E w' ⟨rfl,n,os,rfl⟩
     have hs2:(xs.mergeSort fun x y=> !(ltOf cmp2) y x)=sort2 xs:=rfl
     rw[hs2]
     have hb':=sw_blk val2 2 w l.blk n (sort2 xs).toArray os n4
     have hsl:(sort2 xs).length=len:=by rw[sort2_len,hxl]
     have hpc: ∀t,t<len*2→t<cur.size→(Sort.putCells _root_.id 0 (Sort.flatK val2 2 (sort2 xs).toArray) cur)[t]? =(Sort.flatK val2 2 (sort2 xs).toArray)[t]? :=by
      intro t ht hc
      have hfz:t<(Sort.flatK val2 2 (sort2 xs).toArray).size:=by rw[Sort.size_flatK];simpa[hsl] using ht
      simp only[Sort.putCells,Array.getElem?_mapIdx]
      rw[Array.getElem?_eq_getElem hc,Option.map_some,if_pos ⟨by omega,by omega⟩,Nat.sub_zero,Array.getElem?_eq_getElem hfz,getElem!_pos _ t hfz]
      rfl
     have hcz:len*2≤cur.size:=by rw[n5];exact Nat.mul_le_mul_right _ n2
     have hR:RowsR (K:=K) μ ((sort2 xs).map enc2) l.sz (Sort.putCells _root_.id 0 (Sort.flatK val2 2 (sort2 xs).toArray) cur):=by
      intro i r hi
      rw[List.getElem?_map] at hi
      obtain ⟨y,hy,rfl⟩:=Option.map_eq_some_iff.1 hi
      obtain ⟨hil,hy⟩:=List.getElem?_eq_some_iff.1 hy
      refine ⟨by rw[lsz];rfl,fun j x hj=> ?_⟩
      have hj2:j<2:=(List.getElem?_eq_some_iff.1 hj).1
      rw[lsz,hpc _ (by omega) (by omega),flat2 _ hil hj2,hy]
      match j,hj2 with
      | 0,_=>injection hj with hj;subst hj;exact ⟨_,rfl,rfl⟩
      | 1,_=>injection hj with hj;subst hj;exact ⟨_,rfl,rfl⟩
     have hpz:(Sort.putCells _root_.id 0 (Sort.flatK val2 2 (sort2 xs).toArray) cur).size=cur.size:=by simp[Sort.putCells]
     have hfar: ∀b,b<w.heap.size→b≠l.blk→(sortWorldK val2 2 w l.blk 0 n (sort2 xs).toArray os).heap[b]? =w.heap[b]? :=fun b h1 h2=>sw_far val2 2 w l.blk n _ os h1 h2
     refine ⟨_,μ,rfl,⟨#[],rfl,trivial⟩,H.put hid n1 e1 hb' (hpz.trans o3) (fun _=>by rw[ltag]) hR (by rw[List.length_map,hsl,lsz,←o3];exact hcz) hfar,ExtN.refl _ _,⟨rfl,rfl,rfl,?_,?_,fun b h1 h2=> ?_⟩,step_put hf e1,fun id' l' rows' h1 h2 h3=> ?_⟩
     ·exact size_sortWorldK_c val2 2 w l.blk 0 n _ os
     ·show w.drawn≤w.drawn+n
      omega
     ·exact hfar b h1 fun q=>h2 (.inr ⟨id,l,_,hf,n1,e1,q.symm⟩)
     ·have h3':(if id'=id then some ((sort2 xs).map enc2) else h.get id')=some rows':=h3
      split at h3'
      ·rename_i q;subst q
       exact .inr ⟨id',l',_,h1,h2,e1,rfl⟩
      ·exact .inr ⟨id',l',rows',h1,h2,h3',rfl⟩
   ·cases e2
  ·cases e
 ·cases e
end
end Go.Proofs.YtahkgghifaodoaaGreat.A
