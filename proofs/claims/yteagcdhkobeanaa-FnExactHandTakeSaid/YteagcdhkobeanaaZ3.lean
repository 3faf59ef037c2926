/- What a primitive leaves of a row: from the machine's words to the abstract heap's. -/
import Derived.Test.YteagcdhkobeanaaZ2
import Derived.Test.YteagcdhkobeanaaB3
namespace Go.Proofs.Yteagcdhkobeanaa.A
open Go
set_option linter.unusedSimpArgs false
set_option linter.unusedVariables false
variable {K:Cfg} {μ:Mu} {h:Heap} {w w':World}
/-- A row of one's own was turned, or is new. -/
theorem rowOut (H:HR K μ h w) (hO:K.O≤h.floor) (hfl:h.floor≤h.next) {k tag:Nat} {rows':List (List Cell)} {v':Value} {vals:List Value} {own:Option Nat} (h2:tag≠0)
 (hk:(k=h.next∧own=none)∨ ∃l rows,h.floor≤k∧μ k=some l∧h.get k=some rows∧own=some l.blk)
 (hvals: ∀(i:Nat) r,rows'[i]? =some r→r.length=K.SZ tag∧ ∀(j:Nat) x,r[j]? =some x→ ∃u,vals[i*K.SZ tag+j]? =some u∧x.R K μ u)
 {base:Nat} (hown:w'.ownsRow base (K.ET tag) (K.SZ tag) v' rows'.length vals) (hnn:v'≠ .slice none 0 0) (hg:w.grownBy w' own) (hdr:w.drawn≤w'.drawn)
 (hblk:(v'.ownBlock=own∧own≠none)∨ ∃g,v'.ownBlock=some g∧w.heap.size≤g):
 CallOut K μ h ((h.kill k).push rows') w (.c (.sl tag h.next 0 rows'.length)) (.returned v') w':=by
 rcases hown.2 with ⟨hv,_⟩ | ⟨g,cap,cur,hv,hbg,hb,hc1,hc2,hc3,hc4⟩
 ·exact absurd hv hnn
 have hg':v'.ownBlock=some g:=by rw[hv];rfl
 have hrows:RowsR (K:=K) μ rows' (K.SZ tag) cur:=by
  intro i r hi
  obtain ⟨p1,p2⟩:=hvals i r hi
  refine ⟨p1,fun j x hj=> ?_⟩
  obtain ⟨u,p3,p4⟩:=p2 j x hj
  rw[←hc4,List.getElem?_take] at p3
  split at p3
  ·exact ⟨u,by simpa using p3,p4⟩
  ·cases p3
 have hll:rows'.length*K.SZ tag≤cur.size:=by rw[hc3];exact Nat.mul_le_mul_right _ hc1
 have hfar: ∀id l rows,id≠k→μ id=some l→h.get id=some rows→(K.O≤id∨rows≠[])→l.blk≠g∧w'.heap[l.blk]? =w.heap[l.blk]? :=by
  intro id l rows hne hm hgt hor
  have hlt:=H.lt hm hgt hor
  have hno:some l.blk≠own:=by
   rcases hk with ⟨_,rfl⟩ | ⟨lk',rk,f1,f2,f3,rfl⟩
   ·simp
   ·intro hq
    injection hq with hq
    exact H.inj k id lk' l rk rows (Nat.le_trans hO f1) (Ne.symm hne) f2 hm f3 hgt hor hq.symm
  refine ⟨fun hq=> ?_,hg.block _ hlt hno⟩
  rcases hblk with ⟨q1,_⟩ | ⟨g2,q1,q2⟩
  ·exact hno (by rw[hq,←hg',q1])
  ·rw[hg'] at q1;injection q1 with q1;omega
 have HH:=H.pushK (k:=k) (g:=g) (c:=cur) (e:=K.ET tag) (tag:=tag) (sz:=K.SZ tag) (rows:=rows') (fun _=>⟨rfl,rfl⟩) hb hfar hrows hll
 have hx:Ext μ (μ.push h.next ⟨g,0,tag,K.SZ tag,cur.size⟩):=Mu.push_ext H _
 have hWAg:WA μ h w g:=by
  rcases hblk with ⟨q1,q2⟩ | ⟨g2,q1,q2⟩
  ·rcases hk with ⟨_,hn⟩ | ⟨lk',rk,f1,f2,f3,f4⟩
   ·exact absurd hn q2
   ·rw[hg',f4] at q1;injection q1 with q1
    exact .inr ⟨k,lk',rk,f1,f2,f3,q1.symm⟩
  ·rw[hg'] at q1;injection q1 with q1;exact .inl (by omega)
 refine ⟨v',_,rfl,⟨_,_,cap,Mu.push_new _ _ _,rfl,h2,hv,hc1,hc2,.inl ⟨by simp,by simp[hc3],fun _=>hc3⟩⟩,HH,Mu.push_new' (h:=hx),⟨hg.os,hg.tape,hg.output,hg.size,hdr,fun b hb' hA=>hg.block b hb' fun hq=>hA ?_⟩,⟨?_,rfl,?_,?_,?_⟩,?_⟩
 ·rcases hk with ⟨_,rfl⟩ | ⟨lk',rk,f1,f2,f3,rfl⟩
  ·cases hq
  ·injection hq with hq;exact .inr ⟨k,lk',rk,f1,f2,f3,hq.symm⟩
 ·simp only[Heap.push,Heap.kill];omega
 ·intro id h1 h3
  have hne:id≠k:=by
   rcases hk with ⟨rfl,_⟩ | ⟨lk',rk,f1,f2,f3,_⟩<;>omega
  rw[show ((h.kill k).push rows').get id=if id=h.next then some rows' else if id=k then none else h.get id from rfl,if_neg (by omega),if_neg hne]
 ·intro id h1 h3
  rw[show ((h.kill k).push rows').get id=if id=h.next then some rows' else if id=k then none else h.get id from rfl,if_neg (by omega)]
  split
  ·rfl
  ·exact h3
 ·intro ht id hid
  have hid':h.next+1≤id:=hid
  rw[show ((h.kill k).push rows').get id=if id=h.next then some rows' else if id=k then none else h.get id from rfl,if_neg (by omega)]
  split
  ·rfl
  ·exact ht id (by omega)
 ·intro id l rows h1 hm hgt
  rw[show ((h.kill k).push rows').get id=if id=h.next then some rows' else if id=k then none else h.get id from rfl] at hgt
  simp only[Mu.push] at hm
  split at hgt
  ·rename_i he
   rw[if_pos he] at hm
   injection hm with hm
   subst hm
   exact hWAg
  ·rename_i he
   rw[if_neg he] at hm
   split at hgt
   ·cases hgt
   ·exact .inr ⟨id,l,rows,h1,hm,hgt,rfl⟩
end Go.Proofs.Yteagcdhkobeanaa.A
