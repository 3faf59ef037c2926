/- slices.SortFunc as a primitive, at pairs of an int and a uint64, under a function that compares the first and then the second. -/
import Derived.Test.YtjaideekkbpalaaGreatZ7
import Derived.Shelf.SlSortCmp.NoneTotal
namespace Go.Proofs.YtjaideekkbpalaaGreat.A
open Go Go.Shelf
set_option linter.unusedSimpArgs false
set_option linter.unusedVariables false
def cmp2 (x y:Int×Int):Int:=if x.1<y.1 then -1 else if y.1<x.1 then 1 else if x.2<y.2 then -1 else if y.2<x.2 then 1 else 0
def sort2 (xs:List (Int×Int)):List (Int×Int):=xs.mergeSort fun x y=> !(ltOf cmp2) y x
theorem sort2_perm (xs:List (Int×Int)):(sort2 xs).Perm xs:=List.mergeSort_perm xs _
theorem lt2 (x y:Int×Int):ltOf cmp2 x y=decide (x.1<y.1∨(x.1=y.1∧x.2<y.2)):=by
 unfold ltOf cmp2
 by_cases h1:x.1<y.1
 ·simp[h1]
 ·by_cases h2:y.1<x.1
  ·simp[h1,h2];omega
  ·have he:x.1=y.1:=by omega
   by_cases h3:x.2<y.2
   ·simp[he,h3]
   ·by_cases h4:y.2<x.2<;>simp[he,h3,h4]
theorem swo2:Sort.SWO (ltOf cmp2) where
 irrefl x:=by rw[lt2];simp
 trans x y z h1 h2:=by rw[lt2] at *;simp at *;omega
 ntrans x y z h1 h2:=by rw[lt2] at *;simp at *;omega
theorem tot2 (x y:Int×Int) (h1:ltOf cmp2 x y=false) (h2:ltOf cmp2 y x=false):x=y:=by
 rw[lt2] at h1 h2
 simp at h1 h2
 obtain ⟨a,b⟩:=x
 obtain ⟨c,d⟩:=y
 simp at h1 h2 ⊢
 omega
section
variable {K:Cfg} {μ:Mu} {h h':Heap} {w w':World}
theorem HR.put (H:HR K μ h w) {id:Nat} {l:Loc} {rows rows':List (List Cell)} (hid:K.O≤id) (hm:μ id=some l) (hg:h.get id=some rows) {c':Array Value} {e:TypeId} (hb:w'.heap[l.blk]? =some (.cells c' e (0,0)))
 (hsz:c'.size=l.csz) (he:l.tag≠0→e=K.ET l.tag) (hR:RowsR (K:=K) μ rows' l.sz c') (hl:rows'.length*l.sz≤l.csz) (hfar: ∀b,b<w.heap.size→b≠l.blk→w'.heap[b]? =w.heap[b]?):HR K μ (h.put id rows') w':=by
 have hget: ∀j,(h.put id rows').get j=if j=id then some rows' else h.get j:=fun _=>rfl
 obtain ⟨hbase,_,_⟩:=H.own id l rows hid hm hg
 have far: ∀id' l' rows2,id'≠id→μ id'=some l'→h.get id'=some rows2→(K.O≤id'∨rows2≠[])→w'.heap[l'.blk]? =w.heap[l'.blk]? :=fun id' l' rows2 hne hm' hg' hor=>
  hfar _ (H.lt hm' hg' hor) fun q=>H.inj id id' l l' rows rows2 hid (Ne.symm hne) hm hm' hg hg' hor q.symm
 constructor
 ·exact H.dom
 ·intro id' l' rows2 hm' hg' i r hi
  rw[hget] at hg'
  split at hg'
  ·rename_i q;subst q
   injection hg' with hg';subst hg'
   rw[hm] at hm';injection hm' with hm';subst hm'
   obtain ⟨p1,p2⟩:=hR i r hi
   exact ⟨p1,c',e,(0,0),hb,fun j x hj=>by rw[hbase,Nat.zero_add];exact p2 j x hj⟩
  ·rename_i q
   obtain ⟨h1,c,e2,fr,h2,h3⟩:=H.cells id' l' rows2 hm' hg' i r hi
   exact ⟨h1,c,e2,fr,by rw[far id' l' rows2 q hm' hg' (.inr (fun he=>by subst he;simp at hi))];exact h2,h3⟩
 ·intro id' l' rows2 ho hm' hg'
  rw[hget] at hg'
  split at hg'
  ·rename_i q;subst q
   injection hg' with hg';subst hg'
   rw[hm] at hm';injection hm' with hm';subst hm'
   exact ⟨hbase,⟨c',e,hb,hsz,he⟩,hl⟩
  ·rename_i q
   obtain ⟨h1,⟨c,e2,h2⟩,h3⟩:=H.own id' l' rows2 ho hm' hg'
   exact ⟨h1,⟨c,e2,by rw[far id' l' rows2 q hm' hg' (.inl ho)];exact h2⟩,h3⟩
 ·intro id1 id2 l1 l2 rows1 rows2 ho hne hm1 hm2 hg1 hg2 hor
  rw[hget] at hg1 hg2
  have g1: ∃r1,h.get id1=some r1:=by
   split at hg1
   ·rename_i q;subst q;exact ⟨rows,hg⟩
   ·exact ⟨_,hg1⟩
  obtain ⟨r1,g1⟩:=g1
  split at hg2
  ·rename_i q;subst q
   exact H.inj id1 id2 l1 l2 r1 rows ho hne hm1 hm2 g1 hg (.inl hid)
  ·exact H.inj id1 id2 l1 l2 r1 rows2 ho hne hm1 hm2 g1 hg2 hor
 ·intro j hj
  rw[hget]
  split
  ·rename_i q;subst q
   have:=(H.dom j l hm).1
   have hj':h.next≤j:=hj
   omega
  ·exact H.top j hj
end
end Go.Proofs.YtjaideekkbpalaaGreat.A
