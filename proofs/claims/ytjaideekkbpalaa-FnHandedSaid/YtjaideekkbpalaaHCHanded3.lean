/- The functions that the statement reaches, part 3: bodies and what they compute. No condition. -/
import Derived.Test.YtjaideekkbpalaaHCHanded2
import Derived.Test.YtjaideekkbpalaaD
import Derived.Test.YtjaideekkbpalaaA1
namespace Go.Proofs.Ytjaideekkbpalaa.A
open Go
set_option linter.unusedSimpArgs false
set_option linter.unusedVariables false
structure SGood (s:Store):Prop where
 good:s.Good
 ok:s.Ok
theorem SGood.small {s:Store} (w:SGood s):s.Small:=by
 refine ⟨by have:=w.good.len;omega,fun a ha=> ?_⟩
 have g:=(w.good.sh a ha).1
 exact ⟨by have:=g.bl;show a.book.list.length≤_;omega,by have:=g.fl;omega⟩
theorem Shard.renew_ok {x:Shard} (ok:x.Ok) {e:Int} (he:0≤e∧e≤1000000):(Shard.renew e x).Ok:=by
 unfold Shard.renew
 cases x.state==0
 ·exact ok
 ·exact ⟨ok.lo,ok.hi,ok.state,⟨by show _≤e;omega,by show e≤_;omega⟩,ok.book,ok.finished⟩
theorem Store.renew_ok {s:Store} {e:Int} (hg: -9223372036854775808≤s.group∧s.group≤9223372036854775807) (he:0≤e∧e≤1000000) (hx: ∀x,x∈s.shards→x.Ok):(s.renew e).Ok where
 group:=hg
 seen:=⟨by show _≤e;omega,by show e≤_;omega⟩
 shards:=fun x hxm=>by
  obtain ⟨y,hy,rfl⟩:=List.mem_map.1 hxm
  exact Shard.renew_ok (hx y hy) he
theorem SGood.renew {s:Store} (w:SGood s) (e:Int):SGood (renewStore s e).1:=by
 refine ⟨renewStore_good w.good,?_⟩
 unfold renewStore
 cases hn:s.next e with
 | false=>exact w.ok
 | true=>
   have h:=(Store.next_iff s e).1 hn
   have:=w.good.one h.2.1
   exact Store.renew_ok w.ok.group ⟨by omega,h.2.2⟩ w.ok.shards
theorem SGood.freeze {s:Store} (w:SGood s) (lo e:Int):SGood (freezeShard s lo e).1:=by
 refine ⟨freezeShard_good w.good,?_⟩
 unfold freezeShard
 cases hn:s.next e with
 | false=>exact w.ok
 | true=>
   by_cases h0:0≤findAt s.shards lo 0
   ·have h:=(Store.next_iff s e).1 hn
    have he:=w.good.one h.2.1
    obtain ⟨i,e1,hi,_⟩:=findI_at h0
    have e2:findAt s.shards lo 0=(i:Int):=e1
    rw[decide_eq_true h0,e2]
    simp only[Bool.and_self,cond_true,Int.toNat_natCast]
    refine Store.renew_ok (s:=s.frozen i e) w.ok.group ⟨by omega,h.2.2⟩ fun x hx=> ?_
    rcases mem_set hx with hx | rfl
    ·exact w.ok.shards x hx
    ·have:=w.ok.shards _ (List.getElem_mem hi)
     rw[Shard.at_get hi]
     exact ⟨this.lo,this.hi,by simp,⟨by simp only;omega,by simp only;omega⟩,this.book,this.finished⟩
   ·rw[decide_eq_false h0];exact w.ok
theorem Shard.within_ok {x:Shard} (ok:x.Ok) {lo hi e:Int} (hl:0≤lo∧lo≤18446744073709551615) (hh:0≤hi∧hi≤18446744073709551615) (he: -9223372036854775808≤e∧e≤9223372036854775807):(x.within lo hi e).Ok:=
 ⟨hl,hh,ok.state,he,⟨fun a ha=>ok.book.list a (List.mem_filter.1 ha).1⟩,fun f hf=>ok.finished f (List.mem_filter.1 hf).1⟩
theorem SGood.cut {s:Store} (w:SGood s) {a:Int} (ha:0≤a∧a≤18446744073709551615) (e:Int):SGood (cutShard s a e).1:=by
 refine ⟨cutShard_good w.good,?_⟩
 cases h:(cutShard s a e).2 with
 | false=>rw[cut_same h];exact w.ok
 | true=>
   obtain ⟨hn,k,hk,e2,h1,h2,h3,h4,h5,hc⟩:=cut_when h
   rw[hc]
   have hx:=(Store.next_iff s e).1 hn
   have he:=w.good.one hx.2.1
   have ox:=w.ok.shards _ (List.getElem_mem hk)
   have o1:=ox.lo
   refine Store.renew_ok (s:=s.cutAt k a e) w.ok.group ⟨by omega,hx.2.2⟩ fun x hxm=> ?_
   simp only[Store.cutAt,List.mem_append,List.mem_cons,List.not_mem_nil,or_false] at hxm
   rcases hxm with (hxm | hxm | hxm) | hxm
   ·exact w.ok.shards x (List.mem_of_mem_take hxm)
   ·rw[hxm,Shard.at_get hk]
    exact Shard.within_ok ox ox.lo ⟨by omega,by omega⟩ ⟨by omega,by omega⟩
   ·rw[hxm,Shard.at_get hk]
    exact Shard.within_ok ox ha ox.hi ⟨by omega,by omega⟩
   ·exact w.ok.shards x (List.mem_of_mem_drop hxm)
theorem SGood.join {s:Store} (w:SGood s) (a e:Int):SGood (joinShard s a e).1:=by
 refine ⟨joinShard_good w.good,?_⟩
 cases h:(joinShard s a e).2 with
 | false=>rw[join_same h];exact w.ok
 | true=>
   obtain ⟨hn,j,hj,e2,h1,h2,h3,h4,h5,hc⟩:=join_when h
   rw[hc]
   have hx:=(Store.next_iff s e).1 hn
   have he:=w.good.one hx.2.1
   have hj':j<s.shards.length:=by omega
   have op:=w.ok.shards _ (List.getElem_mem hj')
   have oq:=w.ok.shards _ (List.getElem_mem hj)
   refine Store.renew_ok (s:=s.joinWith j (Shard.join s.shards[j] s.shards[j+1])) w.ok.group ⟨by omega,hx.2.2⟩ fun x hxm=> ?_
   have hxm:x∈(s.shards.set j (Shard.join s.shards[j] s.shards[j+1])).eraseIdx (j+1):=hxm
   have hxm:=(List.eraseIdx_sublist _ _).subset hxm
   rcases mem_set hxm with hxm | rfl
   ·exact w.ok.shards x hxm
   ·exact ⟨op.lo,oq.hi,op.state,op.epoch,⟨fun a ha=>by
     rcases List.mem_append.1 ha with ha | ha
     ·exact op.book.list a ha
     ·exact oq.book.list a ha⟩,fun f hf=>by
     have hf:f∈sortFins (s.shards[j].finished++s.shards[j+1].finished):=hf
     rw[(sortFins_perm _).mem_iff,List.mem_append] at hf
     rcases hf with hf | hf
     ·exact op.finished f hf
     ·exact oq.finished f hf⟩
theorem SGood.done {s:Store} (w:SGood s) {q:Request} (okq:q.Ok):SGood (doStore s q).1:=by
 refine ⟨doStore_good w.good w.ok okq,?_⟩
 rcases doStore_when (q:=q) w.good with ⟨h,_⟩ | ⟨i,hi,_,hp,d,h⟩
 ·rw[h];exact w.ok
 ·rw[h]
  have gx:=(w.good.sh _ (List.getElem_mem hi)).1
  have ox:=w.ok.shards _ (List.getElem_mem hi)
  refine ⟨w.ok.group,w.ok.seen,fun x hx=> ?_⟩
  rcases mem_set hx with hx | rfl
  ·exact w.ok.shards x hx
  ·refine ⟨ox.lo,ox.hi,ox.state,ox.epoch,⟨fun a ha=> ?_⟩,fun f hf=> ?_⟩
   ·rcases doBook_mem ((bookOk_iff _).2 ⟨gx.srt,gx.fine,gx.bl⟩) ox.book.list okq ha with h1 | h1
    ·exact ox.book.list a h1
    ·exact h1.2.2.1
   ·have hf:f∈(bif q.ends&& !decide (q.fin∈s.shards[i].finished) then sortFins (s.shards[i].finished++[q.fin]) else s.shards[i].finished):=hf
    cases hc:(q.ends&& !decide (q.fin∈s.shards[i].finished)) with
    | false=>rw[hc] at hf;exact ox.finished f hf
    | true=>
      rw[hc] at hf
      simp only[cond_true,(sortFins_perm _).mem_iff,List.mem_append,List.mem_singleton] at hf
      rcases hf with hf | rfl
      ·exact ox.finished f hf
      ·exact ⟨okq.tx,okq.id⟩
theorem seen_renew (s:Store) (e:Int):(renewStore s e).1.seen=s.seen∨(renewStore s e).1.seen=e:=by
 unfold renewStore
 cases s.next e
 ·exact .inl rfl
 ·exact .inr rfl
theorem seen_freeze (s:Store) (lo e:Int):(freezeShard s lo e).1.seen=s.seen∨(freezeShard s lo e).1.seen=e:=by
 unfold freezeShard
 cases (s.next e&&decide (0≤findAt s.shards lo 0))
 ·exact .inl rfl
 ·exact .inr rfl
theorem seen_cut (s:Store) (a e:Int):(cutShard s a e).1.seen=s.seen∨(cutShard s a e).1.seen=e:=by
 cases h:(cutShard s a e).2 with
 | false=>rw[cut_same h];exact .inl rfl
 | true=>
   obtain ⟨_,_,_,_,_,_,_,_,_,hc⟩:=cut_when h
   rw[hc];exact .inr rfl
theorem seen_join (s:Store) (a e:Int):(joinShard s a e).1.seen=s.seen∨(joinShard s a e).1.seen=e:=by
 cases h:(joinShard s a e).2 with
 | false=>rw[join_same h];exact .inl rfl
 | true=>
   obtain ⟨_,_,_,_,_,_,_,_,_,hc⟩:=join_when h
   rw[hc];exact .inr rfl
theorem seen_do {s:Store} (g:s.Good) (q:Request):(doStore s q).1.seen=s.seen:=by
 rcases doStore_when (q:=q) g with ⟨h,_⟩ | ⟨i,hi,_,hp,d,h⟩<;>rw[h]
theorem len_do {s:Store} (g:s.Good) (q:Request):(doStore s q).1.shards.length=s.shards.length:=by
 rcases doStore_when (q:=q) g with ⟨h,_⟩ | ⟨i,hi,_,hp,d,h⟩<;>rw[h]
 exact List.length_set
theorem len_renew (s:Store) (e:Int):(renewStore s e).1.shards.length=s.shards.length:=by
 unfold renewStore
 cases s.next e
 ·rfl
 ·exact List.length_map _
theorem len_freeze (s:Store) (lo e:Int):(freezeShard s lo e).1.shards.length=s.shards.length:=by
 unfold freezeShard
 cases (s.next e&&decide (0≤findAt s.shards lo 0))
 ·rfl
 ·show ((s.shards.set _ _).map _).length=_
  rw[List.length_map,List.length_set]
theorem len_cut (s:Store) (a e:Int):s.shards.length≤(cutShard s a e).1.shards.length:=by
 cases h:(cutShard s a e).2 with
 | false=>rw[cut_same h];exact Nat.le_refl _
 | true=>
   obtain ⟨_,k,hk,_,_,_,_,_,_,hc⟩:=cut_when h
   rw[hc]
   show s.shards.length≤((s.cutAt k a e).shards.map _).length
   rw[List.length_map]
   simp only[Store.cutAt,List.length_append,List.length_take,List.length_drop,List.length_cons,List.length_nil]
   omega
theorem len_join (s:Store) (a e:Int) (h0:0<s.shards.length):0<(joinShard s a e).1.shards.length:=by
 cases h:(joinShard s a e).2 with
 | false=>rw[join_same h];exact h0
 | true=>
   obtain ⟨_,j,hj,_,_,_,_,_,_,hc⟩:=join_when h
   rw[hc]
   show 0<((s.joinWith j _).shards.map _).length
   rw[List.length_map,joinWith_shards hj]
   simp only[List.length_append,List.length_cons]
   omega
end Go.Proofs.Ytjaideekkbpalaa.A
namespace Go.Proofs.Ytjaideekkbpalaa.A
open Go
set_option linter.unusedSimpArgs false
set_option linter.unusedVariables false
def Shard.All (P:Account→Prop) (Q:Fin→Prop) (x:Shard):Prop:=(∀a,a∈x.book.list→P a)∧ ∀f,f∈x.finished→Q f
def Store.All (P:Account→Prop) (Q:Fin→Prop) (s:Store):Prop:= ∀x,x∈s.shards→x.All P Q
section
variable {P:Account→Prop} {Q:Fin→Prop} {s:Store}
theorem Store.All.renew' (w:s.All P Q) (e:Int):(s.renew e).All P Q:=fun x hx=>by
 obtain ⟨y,hy,rfl⟩:=List.mem_map.1 (show x∈s.shards.map (Shard.renew e) from hx)
 unfold Shard.All
 rw[Shard.renew_book,Shard.renew_fin]
 exact w y hy
theorem Store.All.renew (w:s.All P Q) (e:Int):(renewStore s e).1.All P Q:=by
 unfold renewStore
 cases s.next e with
 | false=>exact w
 | true=>exact w.renew' e
theorem Store.All.freeze (w:s.All P Q) (lo e:Int):(freezeShard s lo e).1.All P Q:=by
 unfold freezeShard
 cases hn:s.next e with
 | false=>exact w
 | true=>
   by_cases h0:0≤findAt s.shards lo 0
   ·obtain ⟨i,e1,hi,_⟩:=findI_at h0
    have e2:findAt s.shards lo 0=(i:Int):=e1
    rw[decide_eq_true h0,e2]
    simp only[Bool.and_self,cond_true,Int.toNat_natCast]
    refine Store.All.renew' (s:=s.frozen i e) (fun x hx=> ?_) e
    rcases mem_set hx with hx | rfl
    ·exact w x hx
    ·rw[Shard.at_get hi]
     have:=w _ (List.getElem_mem hi)
     exact ⟨this.1,this.2⟩
   ·rw[decide_eq_false h0];exact w
theorem Shard.All.within {x:Shard} (w:x.All P Q) (lo hi e:Int):(x.within lo hi e).All P Q:=
 ⟨fun a ha=>w.1 a (List.mem_filter.1 ha).1,fun f hf=>w.2 f (List.mem_filter.1 hf).1⟩
theorem Store.All.cut (w:s.All P Q) (a e:Int):(cutShard s a e).1.All P Q:=by
 cases h:(cutShard s a e).2 with
 | false=>rw[cut_same h];exact w
 | true=>
   obtain ⟨hn,k,hk,e2,h1,h2,h3,h4,h5,hc⟩:=cut_when h
   rw[hc]
   have ox:=w _ (List.getElem_mem hk)
   refine Store.All.renew' (s:=s.cutAt k a e) (fun x hxm=> ?_) e
   simp only[Store.cutAt,List.mem_append,List.mem_cons,List.not_mem_nil,or_false] at hxm
   rcases hxm with (hxm | hxm | hxm) | hxm
   ·exact w x (List.mem_of_mem_take hxm)
   ·rw[hxm,Shard.at_get hk];exact ox.within _ _ _
   ·rw[hxm,Shard.at_get hk];exact ox.within _ _ _
   ·exact w x (List.mem_of_mem_drop hxm)
theorem Store.All.join (w:s.All P Q) (a e:Int):(joinShard s a e).1.All P Q:=by
 cases h:(joinShard s a e).2 with
 | false=>rw[join_same h];exact w
 | true=>
   obtain ⟨hn,j,hj,e2,h1,h2,h3,h4,h5,hc⟩:=join_when h
   rw[hc]
   have hj':j<s.shards.length:=by omega
   have op:=w _ (List.getElem_mem hj')
   have oq:=w _ (List.getElem_mem hj)
   refine Store.All.renew' (s:=s.joinWith j (Shard.join s.shards[j] s.shards[j+1])) (fun x hxm=> ?_) e
   have hxm:x∈(s.shards.set j (Shard.join s.shards[j] s.shards[j+1])).eraseIdx (j+1):=hxm
   have hxm:=(List.eraseIdx_sublist _ _).subset hxm
   rcases mem_set hxm with hxm | rfl
   ·exact w x hxm
   ·exact ⟨fun a ha=>by
     rcases List.mem_append.1 ha with ha | ha
     ·exact op.1 a ha
     ·exact oq.1 a ha,fun f hf=>by
     have hf:f∈sortFins (s.shards[j].finished++s.shards[j+1].finished):=hf
     rw[(sortFins_perm _).mem_iff,List.mem_append] at hf
     rcases hf with hf | hf
     ·exact op.2 f hf
     ·exact oq.2 f hf⟩
theorem Store.All.done (w:s.All P Q) (g:SGood s) {q:Request} (okq:q.Ok) (hP: ∀a:Account,a.tx=0∨a.tx=q.tx→P a) (hQ:q.ends=true→Q q.fin):(doStore s q).1.All P Q:=by
 rcases doStore_when (q:=q) g.good with ⟨h,_⟩ | ⟨i,hi,_,hp,d,h⟩
 ·rw[h];exact w
 ·rw[h]
  have gx:=(g.good.sh _ (List.getElem_mem hi)).1
  have ox:=g.ok.shards _ (List.getElem_mem hi)
  have wx:=w _ (List.getElem_mem hi)
  intro x hx
  rcases mem_set hx with hx | rfl
  ·exact w x hx
  ·refine ⟨fun a ha=> ?_,fun f hf=> ?_⟩
   ·rcases doBook_mem ((bookOk_iff _).2 ⟨gx.srt,gx.fine,gx.bl⟩) ox.book.list okq ha with h1 | h1
    ·exact wx.1 a h1
    ·exact hP a (by rcases h1.2.2.2 with h2 | h2<;>simp[h2])
   ·have hf:f∈(bif q.ends&& !decide (q.fin∈s.shards[i].finished) then sortFins (s.shards[i].finished++[q.fin]) else s.shards[i].finished):=hf
    cases hc:(q.ends&& !decide (q.fin∈s.shards[i].finished)) with
    | false=>rw[hc] at hf;exact wx.2 f hf
    | true=>
      rw[hc] at hf
      simp only[Bool.and_eq_true] at hc
      simp only[cond_true,(sortFins_perm _).mem_iff,List.mem_append,List.mem_singleton] at hf
      rcases hf with hf | rfl
      ·exact wx.2 f hf
      ·exact hQ hc.1
end
abbrev Store.Low (n:Int) (s:Store):Prop:=s.All (fun a=>a.tx<900) fun f=>f.tx<n
end Go.Proofs.Ytjaideekkbpalaa.A
namespace Go.Proofs.Ytjaideekkbpalaa.A
open Go
set_option linter.unusedSimpArgs false
set_option linter.unusedVariables false
theorem wrapI_in' (z:Int): -9223372036854775808≤IntKind.i64.wrap z∧IntKind.i64.wrap z≤9223372036854775807:=by
 show -9223372036854775808≤(if (true&&decide (z%18446744073709551616≥9223372036854775808))=true then z%18446744073709551616-18446744073709551616 else z%18446744073709551616)∧(if (true&&decide (z%18446744073709551616≥9223372036854775808))=true then z%18446744073709551616-18446744073709551616 else z%18446744073709551616)≤_
 simp only[Bool.true_and,decide_eq_true_eq]
 split<;>omega
theorem SlR.oneDr {α:Type} {R:Rel α} {tag k:Nat} {h:Heap} {x:Cell} {xs:List α} {fp:List Nat} (w:SlR tag R h x xs fp) (hk:k∉fp) {i:Nat} (hi:i<xs.length):
 ∃r f,(∀h',Dr k h h'→ ∀j n,loadP h' x.sid i j n=cut? r j n)∧R h r xs[i] f∧ ∀id,id∈f→id∈fp:=by
 rcases w with ⟨_,⟨rfl,rfl,_⟩ | ⟨id,rows,fps,rfl,h1,h3,rfl,h2⟩⟩
 ·exact absurd hi (Nat.not_lt_zero _)
 ·obtain ⟨r,f,q1,q2,q3⟩:=h2.at i hi
  refine ⟨r,f,fun h' d j n=> ?_,q3,fun id' hid=>List.mem_cons_of_mem _ (List.mem_flatten.2 ⟨f,List.mem_of_getElem? q2,hid⟩)⟩
  have hd:=d.get id h3 (fun e=>hk (by simp[e]))
  simp[loadP,rowOf,Cell.sid,hd,h1,q1]
section
variable {F:Nat→Option RF} {Z:CallF} {h0 h:Heap} {k:Nat} {x y:Cell} {code:List Int} {rows:List (List Cell)} {cs:List Cell} {fp:List Nat} {s:Store}
set_option maxHeartbeats 4000000 in
set_option maxRecDepth 8000 in
theorem l13DrawRequest_c (hS:Has F tS01d) (hS10:Has F tS10) (hS13:Has F tS13) (c:Cur h k x code) (v:Store.RI h cs s fp) (hk:k∉fp) (w:SGood s) (lw:s.Low 900):
 ∃(q:Request) (h':Heap),call F Z 393 [.c (.ptr k 0 0),.agg cs] h=some (.agg q.enc,h')∧(q.Ok∧q.tx<900)∧Dr k h h'∧Cur h' k x code:=by
 obtain ⟨l1,l2,l3⟩:=Store.lenI v
 obtain ⟨r1,h1,e1,hr1,d1,c1⟩:=pick_lit (Z:=Z) hS c [0,0,2,2,2,3,4,4,5,5,6,7,8,1] (by simp) (by simp)
 obtain ⟨r2,h2,e2,r20,r2n,_,m2,c2⟩:=l01Below_c (Z:=Z) hS c1 4
 have r2l:=r2n (by omega)
 have hw2:IntKind.i64.wrap (1+r2)=1+r2:=wrapI _ (by omega) (by omega)
 obtain ⟨r3,h3,e3,hr3,d3,c3⟩:=l10DrawId_c (Z:=Z) hS hS10 c2
 obtain ⟨r4,h4,e4,hr4,m4,c4⟩:=l10DrawAmount_c (Z:=Z) hS hS10 c3
 have dr4:=((d1.trans m2.dr).trans d3).trans m4.dr
 have v4:=Store.okI.dr v dr4 hk
 have e5:=l13Find_run (Z:=Z) hS13 v4 r3
 have eI:=l01In_run (F:=F) (Z:=Z) hS r1 6 7 h4
 simp only[List.map_cons,List.map_nil,int_enc,List.length_cons,List.length_nil,Nat.zero_add,Nat.reduceAdd] at e1
 have hr1b: -9223372036854775808≤r1∧r1≤9223372036854775807:=by
  simp only[List.mem_cons,List.not_mem_nil,or_false] at hr1
  omega
 have hlx:1+r2<900:=by omega
 have htx: -9223372036854775808≤1+r2∧1+r2≤9223372036854775807:=by omega
 have wI: ∀z:Int,-9223372036854775808≤IntKind.i64.wrap z∧IntKind.i64.wrap z≤9223372036854775807:=wrapI_in'
 have z0: -9223372036854775808≤(0:Int)∧(0:Int)≤9223372036854775807:=by omega
 rw[call_run F Z (hS13.lk (g:=393) rfl) _ _ rfl]
 obtain ⟨z,p,rfl,hp,w4⟩:=v4
 subst hp
 rcases w4.found (fun t=>decide (t.lo≤r3)&&decide (r3≤t.hi)) with q | ⟨i,q,hi,hpi,_⟩
 ·change findId s.shards r3= -1 at q
  rw[q] at e5
  have g0: ¬(-1:Int)≥0:=by omega
  obtain ⟨r6,h6,e6,_,_,_,m6,c6⟩:=l01Below_c (Z:=Z) hS c4 30
  cases q0:(r6==0) with
  | true=>
    obtain ⟨r7,h7,e7,_,_,_,m7,c7⟩:=l01Below_c (Z:=Z) hS c6 3
    simp only[rn,RO.dst,lk,drop,Nat.reduceBEq,Nat.reduceAdd,Nat.reduceLeDiff,↓reduceIte,reduceCtorEq,List.replicate_succ,List.replicate_zero,fills,and_self,List.set_cons_zero,List.set_cons_succ,Nat.reduceLT,Nat.zero_lt_succ,Nat.zero_lt_one,l1,l2,l3,e1,e2,hw2,e3,e4,e5,g0,e6,q0,e7]
    exact ⟨⟨_,r1,r3,r4,(1+r2)⟩,_,rfl,⟨⟨wI _,hr1b,hr3,hr4,htx⟩,hlx⟩,((dr4).trans m6.dr).trans m7.dr,c7⟩
  | false=>
  cases q1:(r6==1) with
  | true=>
    obtain ⟨r7,h7,e7,hr7,m7,c7⟩:=pick_lit (Z:=Z) hS c6 [-1,9] (by simp) (by simp)
    simp only[List.map_cons,List.map_nil,int_enc,List.length_cons,List.length_nil,Nat.zero_add,Nat.reduceAdd] at e7
    simp only[rn,RO.dst,lk,drop,Nat.reduceBEq,Nat.reduceAdd,Nat.reduceLeDiff,↓reduceIte,reduceCtorEq,List.replicate_succ,List.replicate_zero,fills,and_self,List.set_cons_zero,List.set_cons_succ,Nat.reduceLT,Nat.zero_lt_succ,Nat.zero_lt_one,l1,l2,l3,e1,e2,hw2,e3,e4,e5,g0,e6,q0,q1,e7]
    refine ⟨⟨0,r7,r3,r4,(1+r2)⟩,_,rfl,⟨⟨z0,?_,hr3,hr4,htx⟩,hlx⟩,((dr4).trans m6.dr).trans m7,c7⟩
    simp only[List.mem_cons,List.not_mem_nil,or_false] at hr7
    show -9223372036854775808≤r7∧r7≤9223372036854775807
    omega
  | false=>
  cases q2:(r6==2) with
  | true=>
    obtain ⟨r7,h7,e7,r70,r7n,_,m7,c7⟩:=l01Below_c (Z:=Z) hS c6 2
    simp only[rn,RO.dst,lk,drop,Nat.reduceBEq,Nat.reduceAdd,Nat.reduceLeDiff,↓reduceIte,reduceCtorEq,List.replicate_succ,List.replicate_zero,fills,and_self,List.set_cons_zero,List.set_cons_succ,Nat.reduceLT,Nat.zero_lt_succ,Nat.zero_lt_one,l1,l2,l3,e1,e2,hw2,e3,e4,e5,g0,e6,q0,q1,q2,e7]
    exact ⟨⟨0,r1,r3,r4,_⟩,_,rfl,⟨⟨z0,hr1b,hr3,hr4,wI _⟩,(by have:=r7n (by omega);show IntKind.i64.wrap (r7-1)<900;rw[wrapI _ (by omega) (by omega)];omega)⟩,((dr4).trans m6.dr).trans m7.dr,c7⟩
  | false=>
    simp only[rn,RO.dst,lk,drop,Nat.reduceBEq,Nat.reduceAdd,Nat.reduceLeDiff,↓reduceIte,reduceCtorEq,List.replicate_succ,List.replicate_zero,fills,and_self,List.set_cons_zero,List.set_cons_succ,Nat.reduceLT,Nat.zero_lt_succ,Nat.zero_lt_one,l1,l2,l3,e1,e2,hw2,e3,e4,e5,g0,e6,q0,q1,q2]
    exact ⟨⟨0,r1,r3,r4,(1+r2)⟩,_,rfl,⟨⟨z0,hr1b,hr3,hr4,htx⟩,hlx⟩,(dr4).trans m6.dr,c6⟩
 change findId s.shards r3=(i:Int) at q
 rw[q] at e5
 have g0:(i:Int)≥0:=by omega
 have okX:=w.ok.shards _ (List.getElem_mem hi)
 have hep:=okX.epoch
 have hzi:=w4.idx hi
 obtain ⟨r,f0,hall,hR,hin⟩:=w4.oneDr hk hi
 have hld:=hall h4 (Dr.refl k h4)
 obtain ⟨xb,pb,xf,pf,rfl,rfl,wb,wf⟩:=hR
 have hbl:=wb.len
 have hkb:k∉pb:=fun hc=>hk (hin k (List.mem_append_left _ hc))
 cases hI:inR r1 6 7 with
 | false=>
   rw[hI] at eI
   obtain ⟨r6,h6,e6,_,_,_,m6,c6⟩:=l01Below_c (Z:=Z) hS c4 30
   cases q0:(r6==0) with
   | true=>
     obtain ⟨r7,h7,e7,_,_,_,m7,c7⟩:=l01Below_c (Z:=Z) hS c6 3
     simp only[rn,RO.dst,lk,drop,Nat.reduceBEq,Nat.reduceAdd,Nat.reduceLeDiff,↓reduceIte,reduceCtorEq,List.replicate_succ,List.replicate_zero,fills,and_self,List.set_cons_zero,List.set_cons_succ,Nat.reduceLT,Nat.zero_lt_succ,Nat.zero_lt_one,l1,l2,l3,e1,e2,hw2,e3,e4,e5,g0,hzi,hld,eI,e6,q0,e7]
     exact ⟨⟨_,r1,r3,r4,(1+r2)⟩,_,rfl,⟨⟨wI _,hr1b,hr3,hr4,htx⟩,hlx⟩,((dr4).trans m6.dr).trans m7.dr,c7⟩
   | false=>
   cases q1:(r6==1) with
   | true=>
     obtain ⟨r7,h7,e7,hr7,m7,c7⟩:=pick_lit (Z:=Z) hS c6 [-1,9] (by simp) (by simp)
     simp only[List.map_cons,List.map_nil,int_enc,List.length_cons,List.length_nil,Nat.zero_add,Nat.reduceAdd] at e7
     simp only[rn,RO.dst,lk,drop,Nat.reduceBEq,Nat.reduceAdd,Nat.reduceLeDiff,↓reduceIte,reduceCtorEq,List.replicate_succ,List.replicate_zero,fills,and_self,List.set_cons_zero,List.set_cons_succ,Nat.reduceLT,Nat.zero_lt_succ,Nat.zero_lt_one,l1,l2,l3,e1,e2,hw2,e3,e4,e5,g0,hzi,hld,eI,e6,q0,q1,e7]
     refine ⟨⟨s.shards[i].epoch,r7,r3,r4,(1+r2)⟩,_,rfl,⟨⟨hep,?_,hr3,hr4,htx⟩,hlx⟩,((dr4).trans m6.dr).trans m7,c7⟩
     simp only[List.mem_cons,List.not_mem_nil,or_false] at hr7
     show -9223372036854775808≤r7∧r7≤9223372036854775807
     omega
   | false=>
   cases q2:(r6==2) with
   | true=>
     obtain ⟨r7,h7,e7,r70,r7n,_,m7,c7⟩:=l01Below_c (Z:=Z) hS c6 2
     simp only[rn,RO.dst,lk,drop,Nat.reduceBEq,Nat.reduceAdd,Nat.reduceLeDiff,↓reduceIte,reduceCtorEq,List.replicate_succ,List.replicate_zero,fills,and_self,List.set_cons_zero,List.set_cons_succ,Nat.reduceLT,Nat.zero_lt_succ,Nat.zero_lt_one,l1,l2,l3,e1,e2,hw2,e3,e4,e5,g0,hzi,hld,eI,e6,q0,q1,q2,e7]
     exact ⟨⟨s.shards[i].epoch,r1,r3,r4,_⟩,_,rfl,⟨⟨hep,hr1b,hr3,hr4,wI _⟩,(by have:=r7n (by omega);show IntKind.i64.wrap (r7-1)<900;rw[wrapI _ (by omega) (by omega)];omega)⟩,((dr4).trans m6.dr).trans m7.dr,c7⟩
   | false=>
     simp only[rn,RO.dst,lk,drop,Nat.reduceBEq,Nat.reduceAdd,Nat.reduceLeDiff,↓reduceIte,reduceCtorEq,List.replicate_succ,List.replicate_zero,fills,and_self,List.set_cons_zero,List.set_cons_succ,Nat.reduceLT,Nat.zero_lt_succ,Nat.zero_lt_one,l1,l2,l3,e1,e2,hw2,e3,e4,e5,g0,hzi,hld,eI,e6,q0,q1,q2]
     exact ⟨⟨s.shards[i].epoch,r1,r3,r4,(1+r2)⟩,_,rfl,⟨⟨hep,hr1b,hr3,hr4,htx⟩,hlx⟩,(dr4).trans m6.dr,c6⟩
 | true=>
 rw[hI] at eI
 obtain ⟨b5,h5,e5b,m5,c5⟩:=l01Once_c (Z:=Z) hS c4 2
 cases b5 with
 | false=>
   obtain ⟨r6,h6,e6,_,_,_,m6,c6⟩:=l01Below_c (Z:=Z) hS c5 30
   cases q0:(r6==0) with
   | true=>
     obtain ⟨r7,h7,e7,_,_,_,m7,c7⟩:=l01Below_c (Z:=Z) hS c6 3
     simp only[rn,RO.dst,lk,drop,Nat.reduceBEq,Nat.reduceAdd,Nat.reduceLeDiff,↓reduceIte,reduceCtorEq,List.replicate_succ,List.replicate_zero,fills,and_self,List.set_cons_zero,List.set_cons_succ,Nat.reduceLT,Nat.zero_lt_succ,Nat.zero_lt_one,l1,l2,l3,e1,e2,hw2,e3,e4,e5,g0,hzi,hld,eI,e5b,e6,q0,e7]
     exact ⟨⟨_,r1,r3,r4,(1+r2)⟩,_,rfl,⟨⟨wI _,hr1b,hr3,hr4,htx⟩,hlx⟩,((dr4.trans m5.dr).trans m6.dr).trans m7.dr,c7⟩
   | false=>
   cases q1:(r6==1) with
   | true=>
     obtain ⟨r7,h7,e7,hr7,m7,c7⟩:=pick_lit (Z:=Z) hS c6 [-1,9] (by simp) (by simp)
     simp only[List.map_cons,List.map_nil,int_enc,List.length_cons,List.length_nil,Nat.zero_add,Nat.reduceAdd] at e7
     simp only[rn,RO.dst,lk,drop,Nat.reduceBEq,Nat.reduceAdd,Nat.reduceLeDiff,↓reduceIte,reduceCtorEq,List.replicate_succ,List.replicate_zero,fills,and_self,List.set_cons_zero,List.set_cons_succ,Nat.reduceLT,Nat.zero_lt_succ,Nat.zero_lt_one,l1,l2,l3,e1,e2,hw2,e3,e4,e5,g0,hzi,hld,eI,e5b,e6,q0,q1,e7]
     refine ⟨⟨s.shards[i].epoch,r7,r3,r4,(1+r2)⟩,_,rfl,⟨⟨hep,?_,hr3,hr4,htx⟩,hlx⟩,((dr4.trans m5.dr).trans m6.dr).trans m7,c7⟩
     simp only[List.mem_cons,List.not_mem_nil,or_false] at hr7
     show -9223372036854775808≤r7∧r7≤9223372036854775807
     omega
   | false=>
   cases q2:(r6==2) with
   | true=>
     obtain ⟨r7,h7,e7,r70,r7n,_,m7,c7⟩:=l01Below_c (Z:=Z) hS c6 2
     simp only[rn,RO.dst,lk,drop,Nat.reduceBEq,Nat.reduceAdd,Nat.reduceLeDiff,↓reduceIte,reduceCtorEq,List.replicate_succ,List.replicate_zero,fills,and_self,List.set_cons_zero,List.set_cons_succ,Nat.reduceLT,Nat.zero_lt_succ,Nat.zero_lt_one,l1,l2,l3,e1,e2,hw2,e3,e4,e5,g0,hzi,hld,eI,e5b,e6,q0,q1,q2,e7]
     exact ⟨⟨s.shards[i].epoch,r1,r3,r4,_⟩,_,rfl,⟨⟨hep,hr1b,hr3,hr4,wI _⟩,(by have:=r7n (by omega);show IntKind.i64.wrap (r7-1)<900;rw[wrapI _ (by omega) (by omega)];omega)⟩,((dr4.trans m5.dr).trans m6.dr).trans m7.dr,c7⟩
   | false=>
     simp only[rn,RO.dst,lk,drop,Nat.reduceBEq,Nat.reduceAdd,Nat.reduceLeDiff,↓reduceIte,reduceCtorEq,List.replicate_succ,List.replicate_zero,fills,and_self,List.set_cons_zero,List.set_cons_succ,Nat.reduceLT,Nat.zero_lt_succ,Nat.zero_lt_one,l1,l2,l3,e1,e2,hw2,e3,e4,e5,g0,hzi,hld,eI,e5b,e6,q0,q1,q2]
     exact ⟨⟨s.shards[i].epoch,r1,r3,r4,(1+r2)⟩,_,rfl,⟨⟨hep,hr1b,hr3,hr4,htx⟩,hlx⟩,(dr4.trans m5.dr).trans m6.dr,c6⟩
 | true=>
 have dr5:=dr4.trans m5.dr
 have wb5:=wb.dr (Fl.ok _) m5.dr hkb
 have hzs:=hall h5 m5.dr
 have smb:s.shards[i].book.list.length≤40:=(w.good.sh _ (List.getElem_mem hi)).1.bl
 simp only[rn,RO.dst,lk,drop,Nat.reduceBEq,Nat.reduceAdd,Nat.reduceLeDiff,↓reduceIte,reduceCtorEq,List.replicate_succ,List.replicate_zero,fills,and_self,List.set_cons_zero,List.set_cons_succ,Nat.reduceLT,Nat.zero_lt_succ,Nat.zero_lt_one,l1,l2,l3,e1,e2,hw2,e3,e4,e5,g0,hzi,hld,eI,e5b]
 obtain ⟨s',⟨id',tx',hs',hid',htx'⟩,lp⟩:=loop_goes (F:=F) (Z:=Z) (live:=[0,3,4,5,6,7]) (b:=r393L0) s.shards[i].book.list.length (fun n st=> ∃id' tx',st=⟨[(0,.c (.ptr k 0 0)),(6,.c (.int .i64 (i:Nat))),(7,.c (.int .i64 (n:Nat)))],[(3,3,0),(4,4,0),(5,5,0)],[(3,[.int .i64 s.group,.int .i64 s.seen,z]),(4,[.int .i64 0,.int .i64 0,.int .u64 0,.int .u64 0,.int .i64 0]),(5,[.int .i64 s.shards[i].epoch,.int .i64 r1,.int .u64 id',.int .u64 r4,.int .i64 tx'])],h5⟩∧
  (0≤id'∧id'≤18446744073709551615)∧((-9223372036854775808≤tx'∧tx'≤9223372036854775807)∧tx'<900)) (fun n st hn ⟨id',tx',hs',hid',htx'⟩=>by
  subst hs'
  have hlt:(n:Int)<s.shards[i].book.list.length:=by omega
  have hws:=wrapS n (by omega)
  have hbi:=wb5.idx hn
  have hbl2:=wb5.load hn
  have oka:=okX.book.list _ (List.getElem_mem hn)
  have lwa:=(lw _ (List.getElem_mem hi)).1 _ (List.getElem_mem hn)
  simp only[Account.enc] at hbl2
  rw[loop_run]
  conv in (codeF _ _ r393L0 _)=>unfold r393L0
  generalize s.shards[i].book.list[n]=a at *
  cases ht:(a.tx !=0) with
  | true=>
    simp only[rn,RO.dst,lk,drop,Nat.reduceBEq,Nat.reduceAdd,Nat.reduceLeDiff,↓reduceIte,reduceCtorEq,hzi,hzs,hbl,hlt,hbi,hbl2,ht,hws]
    exact ⟨_,⟨_,_,rfl,oka.id,oka.tx,lwa⟩,rfl⟩
  | false=>
    simp only[rn,RO.dst,lk,drop,Nat.reduceBEq,Nat.reduceAdd,Nat.reduceLeDiff,↓reduceIte,reduceCtorEq,hzi,hzs,hbl,hlt,hbi,hbl2,ht,hws]
    exact ⟨_,⟨_,_,rfl,hid',htx'⟩,rfl⟩) (s:=⟨[(0,.c (.ptr k 0 0)),(6,.c (.int .i64 (i:Nat))),(7,.c (.int .i64 (0:Nat)))],[(3,3,0),(4,4,0),(5,5,0)],[(3,[.int .i64 s.group,.int .i64 s.seen,z]),(4,[.int .i64 0,.int .i64 0,.int .u64 0,.int .u64 0,.int .i64 0]),(5,[.int .i64 s.shards[i].epoch,.int .i64 r1,.int .u64 r3,.int .u64 r4,.int .i64 (1+r2)])],h5⟩) ⟨_,_,rfl,hr3,htx,hlx⟩
 subst hs'
 simp only[show ((0:Nat):Int)=0 from rfl] at lp
 have hlt: ¬(s.shards[i].book.list.length:Int)<s.shards[i].book.list.length:=by omega
 rw[lp,loop_run]
 conv in (codeF _ _ r393L0 _)=>unfold r393L0
 obtain ⟨r6,h6,e6,_,_,_,m6,c6⟩:=l01Below_c (Z:=Z) hS c5 30
 cases q0:(r6==0) with
 | true=>
   obtain ⟨r7,h7,e7,_,_,_,m7,c7⟩:=l01Below_c (Z:=Z) hS c6 3
   simp only[rn,RO.dst,lk,drop,Nat.reduceBEq,Nat.reduceAdd,Nat.reduceLeDiff,↓reduceIte,reduceCtorEq,List.replicate_succ,List.replicate_zero,fills,and_self,List.set_cons_zero,List.set_cons_succ,Nat.reduceLT,Nat.zero_lt_succ,Nat.zero_lt_one,hzi,hzs,hbl,hlt,e6,q0,e7]
   exact ⟨⟨_,r1,id',r4,tx'⟩,_,rfl,⟨⟨wI _,hr1b,hid',hr4,htx'.1⟩,htx'.2⟩,((dr5).trans m6.dr).trans m7.dr,c7⟩
 | false=>
 cases q1:(r6==1) with
 | true=>
   obtain ⟨r7,h7,e7,hr7,m7,c7⟩:=pick_lit (Z:=Z) hS c6 [-1,9] (by simp) (by simp)
   simp only[List.map_cons,List.map_nil,int_enc,List.length_cons,List.length_nil,Nat.zero_add,Nat.reduceAdd] at e7
   simp only[rn,RO.dst,lk,drop,Nat.reduceBEq,Nat.reduceAdd,Nat.reduceLeDiff,↓reduceIte,reduceCtorEq,List.replicate_succ,List.replicate_zero,fills,and_self,List.set_cons_zero,List.set_cons_succ,Nat.reduceLT,Nat.zero_lt_succ,Nat.zero_lt_one,hzi,hzs,hbl,hlt,e6,q0,q1,e7]
   refine ⟨⟨s.shards[i].epoch,r7,id',r4,tx'⟩,_,rfl,⟨⟨hep,?_,hid',hr4,htx'.1⟩,htx'.2⟩,((dr5).trans m6.dr).trans m7,c7⟩
   simp only[List.mem_cons,List.not_mem_nil,or_false] at hr7
   show -9223372036854775808≤r7∧r7≤9223372036854775807
   omega
 | false=>
 cases q2:(r6==2) with
 | true=>
   obtain ⟨r7,h7,e7,r70,r7n,_,m7,c7⟩:=l01Below_c (Z:=Z) hS c6 2
   simp only[rn,RO.dst,lk,drop,Nat.reduceBEq,Nat.reduceAdd,Nat.reduceLeDiff,↓reduceIte,reduceCtorEq,List.replicate_succ,List.replicate_zero,fills,and_self,List.set_cons_zero,List.set_cons_succ,Nat.reduceLT,Nat.zero_lt_succ,Nat.zero_lt_one,hzi,hzs,hbl,hlt,e6,q0,q1,q2,e7]
   exact ⟨⟨s.shards[i].epoch,r1,id',r4,_⟩,_,rfl,⟨⟨hep,hr1b,hid',hr4,wI _⟩,(by have:=r7n (by omega);show IntKind.i64.wrap (r7-1)<900;rw[wrapI _ (by omega) (by omega)];omega)⟩,((dr5).trans m6.dr).trans m7.dr,c7⟩
 | false=>
   simp only[rn,RO.dst,lk,drop,Nat.reduceBEq,Nat.reduceAdd,Nat.reduceLeDiff,↓reduceIte,reduceCtorEq,List.replicate_succ,List.replicate_zero,fills,and_self,List.set_cons_zero,List.set_cons_succ,Nat.reduceLT,Nat.zero_lt_succ,Nat.zero_lt_one,hzi,hzs,hbl,hlt,e6,q0,q1,q2]
   exact ⟨⟨s.shards[i].epoch,r1,id',r4,tx'⟩,_,rfl,⟨⟨hep,hr1b,hid',hr4,htx'.1⟩,htx'.2⟩,(dr5).trans m6.dr,c6⟩
end
end Go.Proofs.Ytjaideekkbpalaa.A
namespace Go.Proofs.Ytjaideekkbpalaa.A
open Go
set_option linter.unusedSimpArgs false
set_option linter.unusedVariables false
section
variable {F:Nat→Option RF} {Z:CallF} {h:Heap} {k:Nat} {x:Cell} {code:List Int}
theorem drawAt_c (hS:Has F tS01d) (hS11:Has F tS11) (c:Cur h k x code): ∃r h',call F Z 271 [.c (.ptr k 0 0)] h=some (.c (.int .u64 r),h')∧(0≤r∧r≤18446744073709551615)∧Dr k h h'∧Cur h' k x code:=by
 have o:=On.push h [[.int .u64 0],[.int .u64 1],[.int .u64 2],[.int .u64 6],[.int .u64 10],[.int .u64 101],[.int .u64 9223372036854775808],[.int .u64 18446744073709551615],[.int .u64 18446744073709551614],[.int .u64 50]]
 obtain ⟨r1,h1,e1,r0,rnn,_,m1,c1⟩:=l01Below_c (Z:=Z) hS (c.on o) 10
 have hlt:=rnn (by omega)
 obtain ⟨j,rfl⟩: ∃j:Nat,r1=(j:Int):=⟨r1.toNat,by omega⟩
 have hj:j<10:=by omega
 have hg:h1.get h.next=some [[.int .u64 0],[.int .u64 1],[.int .u64 2],[.int .u64 6],[.int .u64 10],[.int .u64 101],[.int .u64 9223372036854775808],[.int .u64 18446744073709551615],[.int .u64 18446744073709551614],[.int .u64 50]]:=by
  rw[m1.get _ (by have:=c.fl.2;simp;omega)];simp[Heap.push]
 have hid:idxR 13 (some (.sl 13 h.next 0 10)) (some (j:Int))=some (.ptr h.next j 0):=by rw[idxR_s,if_pos (by omega)];simp
 obtain ⟨v,hv,hvr⟩: ∃v:Int,loadP h1 h.next j 0 1=some [.int .u64 v]∧(0≤v∧v≤18446744073709551615):=by
  match j,hj with
  | 0,_=>exact ⟨0,by simp[loadP,rowOf,hg,cut?],by omega⟩
  | 1,_=>exact ⟨1,by simp[loadP,rowOf,hg,cut?],by omega⟩
  | 2,_=>exact ⟨2,by simp[loadP,rowOf,hg,cut?],by omega⟩
  | 3,_=>exact ⟨6,by simp[loadP,rowOf,hg,cut?],by omega⟩
  | 4,_=>exact ⟨10,by simp[loadP,rowOf,hg,cut?],by omega⟩
  | 5,_=>exact ⟨101,by simp[loadP,rowOf,hg,cut?],by omega⟩
  | 6,_=>exact ⟨9223372036854775808,by simp[loadP,rowOf,hg,cut?],by omega⟩
  | 7,_=>exact ⟨18446744073709551615,by simp[loadP,rowOf,hg,cut?],by omega⟩
  | 8,_=>exact ⟨18446744073709551614,by simp[loadP,rowOf,hg,cut?],by omega⟩
  | 9,_=>exact ⟨50,by simp[loadP,rowOf,hg,cut?],by omega⟩
 rw[call_run F Z (hS11.lk (g:=271) rfl) _ _ rfl]
 simp only[rn,RO.dst,lk,drop,Nat.reduceBEq,Nat.reduceAdd,Nat.reduceLeDiff,↓reduceIte,reduceCtorEq,List.replicate_succ,List.replicate_zero,fills,and_self,List.set_cons_zero,List.set_cons_succ,Nat.reduceLT,Nat.zero_lt_succ,Nat.zero_lt_one,e1,hid,hv]
 exact ⟨_,_,rfl,hvr,(o.dr k).trans m1.dr,c1⟩
end
end Go.Proofs.Ytjaideekkbpalaa.A
namespace Go.Proofs.Ytjaideekkbpalaa.A
open Go
set_option linter.unusedSimpArgs false
set_option linter.unusedVariables false
section
variable {F:Nat→Option RF} {Z:CallF} {h:Heap} {x:Cell} {xs:List Fin} {fp:List Nat}
theorem foldl_next {α β:Type} {f:β→α→β} {b:β} {xs:List α} {i:Nat} (hi:i<xs.length):(xs.take (i+1)).foldl f b=f ((xs.take i).foldl f b) xs[i]:=by
 rw[List.take_add_one,List.getElem?_eq_getElem hi,List.foldl_append];rfl
theorem addStep_len (f:Fin) (put:Bool): ∀(xs:List Fin) (b:List Fin×Bool),(xs.foldl (addStep f) b).1.length≤b.1.length+2*xs.length
 | [],b=>by simp
 | x::xs,b=>by
   rw[List.foldl_cons]
   have:=addStep_len f put xs (addStep f b x)
   have h2:(addStep f b x).1.length≤b.1.length+2:=by
    unfold addStep
    cases (!b.2&&decide (flt f x))<;>simp
   simp only[List.length_cons]
   omega
set_option maxHeartbeats 1000000 in
theorem l13AddFin_c (hS13:Has F tS13) (hf:h.floor≤h.next) (w:SlR 9 (Fl Fin.enc) h x xs fp) (hl:xs.length≤1048576) (f:Fin):
 ∃y g fq,call F Z 374 [.c x,.agg f.enc] h=some (.c y,g)∧On h g∧SlR 9 (Fl Fin.enc) g y (addFin xs f) fq∧Fre h fq:=by
 have hwl:=w.len
 have e1:=fun h' (w':SlR 9 (Fl Fin.enc) h' x xs fp)=>l13Has_run (F:=F) (Z:=Z) hS13 w' f
 have e2:=e1 _ (w.on (Fl.ok _) (On.push h []))
 have e3:=fun b (h:Heap)=>l13Before_run (F:=F) (Z:=Z) hS13 f b h
 rw[call_run F Z (hS13.lk (g:=374) rfl) _ _ rfl]
 simp only[Fin.enc] at e2
 simp only[rn,RO.dst,lk,drop,Nat.reduceBEq,Nat.reduceAdd,Nat.reduceLeDiff,↓reduceIte,reduceCtorEq,Fin.enc,List.replicate_zero,fills,e2]
 obtain ⟨s',⟨y,g,hs,a⟩,lp⟩:=loop_goes (F:=F) (Z:=Z) (live:=[0,3,5,6,7]) (b:=r374L0) xs.length (fun i st=> ∃y g,st=⟨[(0,.c x),(5,.c y),(6,.c (.bool ((xs.take i).foldl (addStep f) ([],decide (f∈xs))).2)),(7,.c (.int .i64 (i:Nat)))],[(3,3,0)],[(3,f.enc)],g⟩∧Acc 9 h g y (((xs.take i).foldl (addStep f) ([],decide (f∈xs))).1.map Fin.enc)) (fun i st hi' ⟨y,g,hs,a⟩=>by
  subst hs
  have hlt:(i:Int)<xs.length:=by omega
  have hws:=wrapS i (by omega)
  have hxi:=w.idx hi'
  have hld2: ∀G,On h G→ ∀j n,loadP G x.sid i j n=cut? xs[i].enc j n:=fun G o=>(w.on (Fl.ok _) o).load hi'
  have hnx:=foldl_next (f:=addStep f) (b:=([],decide (f∈xs))) hi'
  have hlen:=addStep_len f true (xs.take i) ([],decide (f∈xs))
  rw[List.length_take] at hlen
  rw[hnx]
  generalize (xs.take i).foldl (addStep f) ([],decide (f∈xs))=st at *
  obtain ⟨rows,put⟩:=st
  dsimp only at a ⊢
  replace hlen:rows.length≤2*min i xs.length:=by simpa using hlen
  rw[loop_run]
  conv in (codeF _ _ r374L0 _)=>unfold r374L0
  have e4:=fun h=>e3 xs[i] h
  generalize xs[i]=b at *
  have hst:addStep f (rows,put) b=bif !put&&decide (flt f b) then (rows++[f]++[b],true) else (rows++[b],put):=rfl
  rw[hst]
  rw[cmp_flt] at e4
  obtain ⟨t,d⟩:=b
  obtain ⟨t',d'⟩:=f
  simp only[Fin.enc] at e4
  have a1:=a.one_eq hf (bytes:=16) (by rw[List.length_map];omega) (Fin.enc ⟨t,d⟩)
  have a2:=a.one hf (by rw[List.length_map];omega) (Fin.enc ⟨t,d⟩)
  have b1:=a.one_eq hf (bytes:=16) (by rw[List.length_map];omega) (Fin.enc ⟨t',d'⟩)
  have b2:=a.one hf (by rw[List.length_map];omega) (Fin.enc ⟨t',d'⟩)
  have hld3:=hld2 _ b2.on
  have hld:=hld2 _ a.on
  have b3:=b2.one_eq hf (bytes:=16) (by rw[List.length_append,List.length_map];simp;omega) (Fin.enc ⟨t,d⟩)
  have b4:=b2.one hf (by rw[List.length_append,List.length_map];simp;omega) (Fin.enc ⟨t,d⟩)
  simp only[Fin.enc] at a1 a2 b1 b2 b3 b4 hld hld3
  cases put with
  | true=>
    simp only[rn,RO.dst,lk,drop,Nat.reduceBEq,Nat.reduceAdd,Nat.reduceLeDiff,↓reduceIte,reduceCtorEq,hwl,hlt,hxi,hld,Fin.enc,List.replicate_succ,List.replicate_zero,fills,and_self,Nat.zero_lt_one,List.set_cons_zero,a1,hws]
    exact ⟨_,⟨_,_,rfl,by simpa[Fin.enc] using a2⟩,rfl⟩
  | false=>
    by_cases hb:flt ⟨t',d'⟩ ⟨t,d⟩
    ·simp only[decide_eq_true hb] at e4
     simp only[hb]
     simp only[rn,RO.dst,lk,drop,Nat.reduceBEq,Nat.reduceAdd,Nat.reduceLeDiff,↓reduceIte,reduceCtorEq,hwl,hlt,hxi,hld,Fin.enc,e4,List.replicate_succ,List.replicate_zero,fills,and_self,Nat.zero_lt_one,List.set_cons_zero,b1,hld3,b3,hws]
     exact ⟨_,⟨_,_,rfl,by simpa[Fin.enc] using b4⟩,rfl⟩
    ·simp only[decide_eq_false hb] at e4
     simp only[hb]
     simp only[rn,RO.dst,lk,drop,Nat.reduceBEq,Nat.reduceAdd,Nat.reduceLeDiff,↓reduceIte,reduceCtorEq,hwl,hlt,hxi,hld,Fin.enc,e4,List.replicate_succ,List.replicate_zero,fills,and_self,Nat.zero_lt_one,List.set_cons_zero,a1,hws]
     exact ⟨_,⟨_,_,rfl,by simpa[Fin.enc] using a2⟩,rfl⟩) (s:=⟨[(0,.c x),(5,.c (.sl 9 h.next 0 0)),(6,.c (.bool (decide (f∈xs)))),(7,.c (.int .i64 (0:Nat)))],[(3,3,0)],[(3,f.enc)],h.push []⟩) ⟨_,_,rfl,Acc.lit0 (On.refl h)⟩
 subst hs
 rw[List.take_length] at a
 have hlt: ¬(xs.length:Int)<xs.length:=by omega
 have hlen:=addStep_len f true xs ([],decide (f∈xs))
 simp only[show ((0:Nat):Int)=0 from rfl,Fin.enc,List.take_length] at lp
 rw[lp,loop_run]
 conv in (codeF _ _ r374L0 _)=>unfold r374L0
 simp only[List.length_nil,Nat.zero_add] at hlen
 cases hp:(xs.foldl (addStep f) ([],decide (f∈xs))).2 with
 | true=>
   have hr:addFin xs f=(xs.foldl (addStep f) ([],decide (f∈xs))).1:=by simp[addFin,hp]
   rw[hr]
   obtain ⟨o1,fy,wy,fyr⟩:=a.flat (enc:=Fin.enc)
   simp only[rn,RO.dst,lk,drop,Nat.reduceBEq,Nat.reduceAdd,Nat.reduceLeDiff,↓reduceIte,reduceCtorEq,hwl,hlt]
   exact ⟨_,_,_,rfl,o1,wy,fyr⟩
 | false=>
   have hr:addFin xs f=(xs.foldl (addStep f) ([],decide (f∈xs))).1++[f]:=by simp[addFin,hp]
   rw[hr]
   have b1:=a.one_eq hf (bytes:=16) (by rw[List.length_map];omega) f.enc
   have b2:=a.one hf (by rw[List.length_map];omega) f.enc
   rw[show (xs.foldl (addStep f) ([],decide (f∈xs))).1.map Fin.enc++[f.enc]=((xs.foldl (addStep f) ([],decide (f∈xs))).1++[f]).map Fin.enc from by simp] at b2
   obtain ⟨o1,fy,wy,fyr⟩:=b2.flat (enc:=Fin.enc)
   simp only[Fin.enc] at b1 o1 wy
   simp only[rn,RO.dst,lk,drop,Nat.reduceBEq,Nat.reduceAdd,Nat.reduceLeDiff,↓reduceIte,reduceCtorEq,hwl,hlt,List.replicate_succ,List.replicate_zero,fills,and_self,Nat.zero_lt_one,List.set_cons_zero,b1]
   exact ⟨_,_,_,rfl,o1,wy,fyr⟩
theorem l13AddFin_q (hS13:Has F tS13) (w:SlR 9 (Fl Fin.enc) h x xs fp) (hl:xs.length≤1048576) (f:Fin):
 ∃y h' g fq,call F Z 374 [.c x,.agg f.enc] ⟨h.next,h.next,h.get⟩=some (.c y,h')∧Heap.mk h'.next h.floor h'.get=g∧On h g∧SlR 9 (Fl Fin.enc) g y (addFin xs f) fq∧Fre h fq:=by
 obtain ⟨y,h',fq,e1,o,u,f⟩:=l13AddFin_c (Z:=Z) (h:=⟨h.next,h.next,h.get⟩) hS13 (Nat.le_refl _) (w.up (Fl.ok _) h.next) hl f
 exact ⟨y,h',_,fq,e1,rfl,⟨⟨o.ext.1,o.ext.2⟩,rfl⟩,u.up (Fl.ok _) h.floor,⟨f.lo,f.nd⟩⟩
end
end Go.Proofs.Ytjaideekkbpalaa.A
namespace Go.Proofs.Ytjaideekkbpalaa.A
open Go
set_option linter.unusedSimpArgs false
set_option linter.unusedVariables false
section
variable {F:Nat→Option RF} {Z:CallF} {h:Heap} {cs:List Cell} {fp:List Nat} {s:Store}
theorem Store.side_wrap {s:Store} {a:Int} {j:Nat} (g:s.good=true) (ok:s.Ok) (hj:j+1<s.shards.length) (hl:(Shard.at_ s.shards (j+1)).lo=a) (ha:0≤a∧a≤18446744073709551615):1≤a∧IntKind.u64.wrap (a-1)=a-1:=by
 have h1:=(Store.side g hj).2.2
 have h2:=(ok.shards _ (List.getElem_mem (show j<s.shards.length by omega)))
 rw[←Shard.at_get (show j<s.shards.length by omega)] at h2
 have h3:=h2.hi
 have:1≤a:=by omega
 exact ⟨this,wrapU _ (by omega) (by omega)⟩
set_option maxHeartbeats 4000000 in
theorem sJoinShard_c (k:KS F) (hf:h.floor≤h.next) (v:Store.RI h cs s fp) (a e:Int) (ha:0≤a∧a≤18446744073709551615) (ok:s.Ok) (sm:s.Small):
 ∃cs' h' fq,call F Z 364 [.agg cs,.c (.int .u64 a),.c (.int .i64 e)] h=some (.tup [.agg cs',.c (.bool (joinShard s a e).2)],h')∧On h h'∧Store.RI h' cs' (joinShard s a e).1 fq∧Fre h fq:=by
 obtain ⟨l1,l2,l3⟩:=Store.lenI v
 obtain ⟨cs1,h1,fr,e1,o1,v1,f1⟩:=l13Copy_c (Z:=Z) k hf v sm
 obtain ⟨m1,m2,m3⟩:=Store.lenI v1
 have e2:=l13Next_run (Z:=Z) k v ok e
 have e3:=l13At_run (Z:=Z) k.s13 v a 0
 rw[call_run F Z (k.s13.lk (g:=364) rfl) _ _ rfl]
 cases hn:s.next e with
 | false=>
   rw[hn] at e2
   rw[join_no hn]
   simp only[rn,RO.dst,lk,drop,Nat.reduceBEq,Nat.reduceAdd,Nat.reduceLeDiff,↓reduceIte,reduceCtorEq,l1,l2,l3,m1,m2,m3,e1,e2,e3]
   exact ⟨_,_,_,rfl,o1,v1,f1⟩
 | true=>
   rw[hn] at e2
   obtain ⟨x,p,rfl,hp,w⟩:=v
   subst hp
   rcases w.found (fun t=>(t.lo==a)&&(t.state==0)) with q | ⟨j,q,hj,hpj,hx,_,_,hld⟩
   ·change findAt s.shards a 0= -1 at q
    rw[join_away (by omega)]
    rw[q] at e3
    simp only[rn,RO.dst,lk,drop,Nat.reduceBEq,Nat.reduceAdd,Nat.reduceLeDiff,↓reduceIte,reduceCtorEq,l1,l2,l3,m1,m2,m3,e1,e2,e3,Int.reduceLT,Int.reduceNeg]
    exact ⟨_,_,_,rfl,o1,v1,f1⟩
   change findAt s.shards a 0=(j:Int) at q
   rw[q] at e3
   cases j with
   | zero=>
     rw[join_away (by omega)]
     have g0:((0:Nat):Int)<1:=by omega
     simp only[rn,RO.dst,lk,drop,Nat.reduceBEq,Nat.reduceAdd,Nat.reduceLeDiff,↓reduceIte,reduceCtorEq,l1,l2,l3,m1,m2,m3,e1,e2,e3,g0]
     exact ⟨_,_,_,rfl,o1,v1,f1⟩
   | succ j=>
   rw[join_if hn q]
   have g0: ¬((j+1:Nat):Int)<1:=by omega
   have hwl:=w.len
   have hwe:=w.le2
   have hgood:s.good=true:=by
    simp only[Store.next,Bool.and_eq_true] at hn
    exact hn.1
   have hs:=Store.side hgood hj
   have hpj':=hpj
   simp only[Bool.and_eq_true,beq_iff_eq] at hpj'
   obtain ⟨ha1,hw⟩:=Store.side_wrap hgood ok hj hpj'.1 ha
   have hw1:IntKind.i64.wrap (((j+1:Nat):Int)-1)=(j:Int):=by
    rw[wrapI _ (by omega) (by omega)];omega
   have hxj:=w.idx (show j<s.shards.length by omega)
   obtain ⟨r0,f0,hld0,hR0,_⟩:=w.atR (show j<s.shards.length by omega)
   obtain ⟨r2,f2,hld2,hR2,_⟩:=w.atR hj
   have hR0':=hR0
   have hR2':=hR2
   obtain ⟨xb,pb,xf,pf,rfl,hfe,wb,wf⟩:=hR0
   obtain ⟨yb,qb,yf,qf,rfl,hge,ub,uf⟩:=hR2
   by_cases c1:(Shard.at_ s.shards j).state=0
   case neg=>
    have c1':((Shard.at_ s.shards j).state==0)=false:=by simpa using c1
    have c1n:((Shard.at_ s.shards j).state !=0)=true:=by simpa using c1
    rw[c1']
    simp only[Bool.false_and,cond_false]
    simp only[rn,RO.dst,lk,drop,Nat.reduceBEq,Nat.reduceAdd,Nat.reduceLeDiff,↓reduceIte,reduceCtorEq,l1,l2,l3,m1,m2,m3,e1,e2,e3,g0,hw1,hxj,hld0,c1n]
    exact ⟨_,_,_,rfl,o1,v1,f1⟩
   have c1':((Shard.at_ s.shards j).state==0)=true:=by simpa using c1
   have c1n:((Shard.at_ s.shards j).state !=0)=false:=by simpa using c1
   by_cases c2:(Shard.at_ s.shards j).hi=a-1
   case neg=>
    have c2':((Shard.at_ s.shards j).hi==a-1)=false:=by simpa using c2
    have c2n:((Shard.at_ s.shards j).hi !=a-1)=true:=by simpa using c2
    rw[c2',c1']
    simp only[Bool.and_false,cond_false]
    simp only[rn,RO.dst,lk,drop,Nat.reduceBEq,Nat.reduceAdd,Nat.reduceLeDiff,↓reduceIte,reduceCtorEq,l1,l2,l3,m1,m2,m3,e1,e2,e3,g0,hw1,hxj,hld0,c1n,hw,c2n]
    exact ⟨_,_,_,rfl,o1,v1,f1⟩
   have c2':((Shard.at_ s.shards j).hi==a-1)=true:=by simpa using c2
   have c2n:((Shard.at_ s.shards j).hi !=a-1)=false:=by simpa using c2
   rw[c1',c2']
   simp only[Bool.and_true,cond_true]
   have smp:=Store.at_small sm (show j<s.shards.length by omega)
   have smq:=Store.at_small sm hj
   have hbl:=wb.len;have hfl:=wf.len;have gbl:=ub.len;have gfl:=uf.len
   have hx1:=w.idx hj
   simp only[rn,RO.dst,lk,drop,Nat.reduceBEq,Nat.reduceAdd,Nat.reduceLeDiff,↓reduceIte,reduceCtorEq,l1,l2,l3,e2,e3,g0,hw1,hxj,hld0,c1n,hw,c2n,hx1,hld2,hbl,hfl,gbl,gfl]
   have sp1:(Shard.at_ s.shards j).book.list.length≤1048576:=smp.1
   have sp2:(Shard.at_ s.shards j).finished.length≤1048576:=smp.2
   have sq1:(Shard.at_ s.shards (j+1)).book.list.length≤1048576:=smq.1
   have sq2:(Shard.at_ s.shards (j+1)).finished.length≤1048576:=smq.2
   have w1:IntKind.i64.wrap (((Shard.at_ s.shards j).book.list.length:Int)+((Shard.at_ s.shards (j+1)).book.list.length:Int))=((Shard.at_ s.shards j).book.list.length:Int)+((Shard.at_ s.shards (j+1)).book.list.length:Int):=wrapI _ (by omega) (by omega)
   have w2:IntKind.i64.wrap (((Shard.at_ s.shards j).finished.length:Int)+((Shard.at_ s.shards (j+1)).finished.length:Int))=((Shard.at_ s.shards j).finished.length:Int)+((Shard.at_ s.shards (j+1)).finished.length:Int):=wrapI _ (by omega) (by omega)
   by_cases c3:((Shard.at_ s.shards j).book.list.length:Int)+((Shard.at_ s.shards (j+1)).book.list.length:Int)>40
   ·have hj0:Shard.joins (Shard.at_ s.shards j) (Shard.at_ s.shards (j+1))=false:=by
     simp only[Shard.joins,List.length_append,Bool.and_eq_false_iff,decide_eq_false_iff_not];left;omega
    rw[hj0]
    simp only[cond_false]
    simp only[rn,RO.dst,lk,drop,Nat.reduceBEq,Nat.reduceAdd,Nat.reduceLeDiff,↓reduceIte,reduceCtorEq,w1,c3,l1,l2,l3,e1,m1,m2,m3]
    exact ⟨_,_,_,rfl,o1,v1,f1⟩
   by_cases c4:((Shard.at_ s.shards j).finished.length:Int)+((Shard.at_ s.shards (j+1)).finished.length:Int)>60
   ·have hj0:Shard.joins (Shard.at_ s.shards j) (Shard.at_ s.shards (j+1))=false:=by
     simp only[Shard.joins,List.length_append,Bool.and_eq_false_iff,decide_eq_false_iff_not];right;omega
    rw[hj0]
    simp only[cond_false]
    simp only[rn,RO.dst,lk,drop,Nat.reduceBEq,Nat.reduceAdd,Nat.reduceLeDiff,↓reduceIte,reduceCtorEq,w1,w2,c3,c4,hfl,gfl,l1,l2,l3,e1,m1,m2,m3]
    exact ⟨_,_,_,rfl,o1,v1,f1⟩
   have hj1:Shard.joins (Shard.at_ s.shards j) (Shard.at_ s.shards (j+1))=true:=by
    simp only[Shard.joins,List.length_append,Bool.and_eq_true,decide_eq_true_eq];omega
   rw[hj1]
   simp only[cond_true]
   obtain ⟨cs4,h4,ft,e4,o4,u4,f4⟩:=l13CopyShard_c (Z:=Z) k.s10 k.s13 hf hR0' smp
   obtain ⟨b4,pb4,f4c,pf4,rfl,hq4,wb4,wf4⟩:=u4
   subst hq4
   clear e1 o1 v1 f1 m1 m2 m3 e2 e3
   simp only[rn,RO.dst,lk,drop,Nat.reduceBEq,Nat.reduceAdd,Nat.reduceLeDiff,↓reduceIte,reduceCtorEq,w1,w2,c3,c4,hfl,gfl,e4]
   obtain ⟨n4a,n4b,n4c⟩:=List.nodup_append.1 f4.nd
   obtain ⟨s',⟨y,g,fy,hs',ay,wz,dz⟩,lp⟩:=loop_goes (F:=F) (Z:=Z) (live:=[2,3,6,8,10,11,12]) (b:=r364L2) (Shard.at_ s.shards (j+1)).book.list.length (fun i st=> ∃y g fy,st=⟨[(2,.c (.int .i64 e)),(8,.c (.int .i64 ((j+1:Nat):Int))),(12,.c (.int .i64 (i:Nat)))],[(3,3,0),(6,6,0),(10,10,0),(11,11,0)],
    [(3,[.int .i64 s.group,.int .i64 s.seen,x]),(6,[.int .i64 0,.int .i64 0,.nil]),(10,[.int .u64 (Shard.at_ s.shards (j+1)).lo,.int .u64 (Shard.at_ s.shards (j+1)).hi,.int .i64 (Shard.at_ s.shards (j+1)).state,.int .i64 (Shard.at_ s.shards (j+1)).epoch,yb,yf]),(11,[.int .u64 (Shard.at_ s.shards j).lo,.int .u64 (Shard.at_ s.shards (j+1)).hi,.int .i64 (Shard.at_ s.shards j).state,.int .i64 e,y,f4c])],g⟩∧
    AccM (Fl Account.enc) 11 h g y ((Shard.at_ s.shards j).book.list++(Shard.at_ s.shards (j+1)).book.list.take i) fy∧SlR 9 (Fl Fin.enc) g f4c (Shard.at_ s.shards j).finished pf4∧ ∀id,id∈pf4→id∉fy) (fun i st hi ⟨y,g,fy,hs',ay,wz,dz⟩=>by
    subst hs'
    have hlt:(i:Int)<(Shard.at_ s.shards (j+1)).book.list.length:=by omega
    have hws:=wrapS i (by omega)
    have hxi:=ub.idx hi
    have hld:=(ub.on (Fl.ok _) ay.on).load hi
    have hln:((Shard.at_ s.shards j).book.list++(Shard.at_ s.shards (j+1)).book.list.take i).length≤2097152:=by
     rw[List.length_append,List.length_take];omega
    have htk:(Shard.at_ s.shards (j+1)).book.list.take (i+1)=(Shard.at_ s.shards (j+1)).book.list.take i++[(Shard.at_ s.shards (j+1)).book.list[i]]:=by
     rw[List.take_add_one,List.getElem?_eq_getElem hi];rfl
    rw[htk,←List.append_assoc]
    generalize (Shard.at_ s.shards (j+1)).book.list[i]=b at *
    obtain ⟨y',g',f',e5,a5,n1,n2,n3⟩:=ay.one (Fl.ok _) hf (bytes:=40) (by omega) (by omega) (On.refl g) (cs:=b.enc) (t:=b) (fq:=[]) ⟨rfl,rfl⟩ (Fre.nil _) (fun _ h=>nomatch h)
    have wlt:=wz.lt (Fl.ok _)
    simp only[Account.enc] at hld e5
    rw[loop_run]
    conv in (codeF _ _ r364L2 _)=>unfold r364L2
    simp only[rn,RO.dst,lk,drop,Nat.reduceBEq,Nat.reduceAdd,Nat.reduceLeDiff,↓reduceIte,reduceCtorEq,gbl,hlt,hxi,hld,List.replicate_succ,List.replicate_zero,fills,and_self,Nat.zero_lt_one,List.set_cons_zero,e5,hws]
    exact ⟨_,⟨_,_,_,rfl,a5,wz.mv (Fl.ok _) n1 fun id hid=>n3 id (wlt id hid) (dz id hid),fun id h1 h2=>by
     rcases n2 id h2 with h3 | h3 | h3
     ·exact dz id h1 h3
     ·cases h3
     ·have:=wlt id h1;omega⟩,rfl⟩) (s:=⟨[(2,.c (.int .i64 e)),(8,.c (.int .i64 ((j+1:Nat):Int))),(12,.c (.int .i64 (0:Nat)))],[(3,3,0),(6,6,0),(10,10,0),(11,11,0)],
     [(3,[.int .i64 s.group,.int .i64 s.seen,x]),(6,[.int .i64 0,.int .i64 0,.nil]),(10,[.int .u64 (Shard.at_ s.shards (j+1)).lo,.int .u64 (Shard.at_ s.shards (j+1)).hi,.int .i64 (Shard.at_ s.shards (j+1)).state,.int .i64 (Shard.at_ s.shards (j+1)).epoch,yb,yf]),(11,[.int .u64 (Shard.at_ s.shards j).lo,.int .u64 (Shard.at_ s.shards (j+1)).hi,.int .i64 (Shard.at_ s.shards j).state,.int .i64 e,b4,f4c])],h4⟩)
     ⟨_,_,_,rfl,⟨o4,by simpa using wb4,⟨fun id hid=>f4.lo id (List.mem_append_left _ hid),n4a⟩⟩,wf4,fun id h1 h2=>n4c id h2 id h1 rfl⟩
   subst hs'
   simp only[show ((0:Nat):Int)=0 from rfl] at lp
   have hlt: ¬((Shard.at_ s.shards (j+1)).book.list.length:Int)<(Shard.at_ s.shards (j+1)).book.list.length:=by omega
   rw[lp,loop_run]
   conv in (codeF _ _ r364L2 _)=>unfold r364L2
   simp only[rn,RO.dst,lk,drop,Nat.reduceBEq,Nat.reduceAdd,Nat.reduceLeDiff,↓reduceIte,reduceCtorEq,gbl,hlt]
   clear lp
   rw[List.take_length] at ay
   have hng:=ay.on.ext.1
   have hfg:=ay.on.le hf
   have uf2:=uf.on (Fl.ok _) ay.on
   have nodA:=Shard.apart_fins hs.1 hs.2.1 hs.2.2
   have hfold: ∀i,i≤(Shard.at_ s.shards (j+1)).finished.length→((Shard.at_ s.shards (j+1)).finished.take i).foldl addFin (Shard.at_ s.shards j).finished=sortFins ((Shard.at_ s.shards j).finished++(Shard.at_ s.shards (j+1)).finished.take i):=fun i _=>by
    refine addFins (Shard.good_sorted hs.1) ?_
    exact nodA.sublist ((List.take_sublist _ _).append_left _)
   obtain ⟨s',⟨z,g2,fz,hs',og,wz2,fz2,dz2⟩,lp⟩:=loop_goes (F:=F) (Z:=Z) (live:=[2,3,6,8,10,11,13]) (b:=r364L1) (Shard.at_ s.shards (j+1)).finished.length (fun i st=> ∃z g2 fz,st=⟨[(2,.c (.int .i64 e)),(8,.c (.int .i64 ((j+1:Nat):Int))),(13,.c (.int .i64 (i:Nat)))],[(3,3,0),(6,6,0),(10,10,0),(11,11,0)],[(3,[.int .i64 s.group,.int .i64 s.seen,x]),(6,[.int .i64 0,.int .i64 0,.nil]),(10,[.int .u64 (Shard.at_ s.shards (j+1)).lo,.int .u64 (Shard.at_ s.shards (j+1)).hi,.int .i64 (Shard.at_ s.shards (j+1)).state,.int .i64 (Shard.at_ s.shards (j+1)).epoch,yb,yf]),(11,[.int .u64 (Shard.at_ s.shards j).lo,.int .u64 (Shard.at_ s.shards (j+1)).hi,.int .i64 (Shard.at_ s.shards j).state,.int .i64 e,y,z])],g2⟩∧
    On g g2∧SlR 9 (Fl Fin.enc) g2 z (((Shard.at_ s.shards (j+1)).finished.take i).foldl addFin (Shard.at_ s.shards j).finished) fz∧Fre h fz∧ ∀id,id∈fz→id∉fy) (fun i st hi ⟨z,g2,fz,hs',og,wz2,fz2,dz2⟩=>by
    subst hs'
    have hlt:(i:Int)<(Shard.at_ s.shards (j+1)).finished.length:=by omega
    have hws:=wrapS i (by omega)
    have hxi:=uf.idx hi
    have hld:=(uf2.on (Fl.ok _) og).load hi
    have hnx:=foldl_next (f:=addFin) (b:=(Shard.at_ s.shards j).finished) hi
    have hlen:(((Shard.at_ s.shards (j+1)).finished.take i).foldl addFin (Shard.at_ s.shards j).finished).length≤1048576:=by
     rw[hfold i (by omega),sortFins_len,List.length_append,List.length_take];omega
    obtain ⟨z',h',g',fq',e5,hg5,o5,w5,f5⟩:=l13AddFin_q (Z:=Z) k.s13 wz2 hlen (Shard.at_ s.shards (j+1)).finished[i]
    rw[←hnx] at w5
    generalize (Shard.at_ s.shards (j+1)).finished[i]=b at *
    have hylt:=ay.sh.lt (Fl.ok _)
    have hn2:=og.ext.1
    simp only[Fin.enc] at hld e5
    rw[loop_run]
    conv in (codeF _ _ r364L1 _)=>unfold r364L1
    simp only[rn,RO.dst,lk,drop,Nat.reduceBEq,Nat.reduceAdd,Nat.reduceLeDiff,↓reduceIte,reduceCtorEq,gfl,hlt,hxi,hld,e5,hg5,hws]
    exact ⟨_,⟨_,_,_,rfl,og.trans o5,w5,⟨fun id hid=>by have:=f5.lo id hid;have:=ay.on.ext.1;omega,f5.nd⟩,fun id h1 h2=>by
     have:=f5.lo id h1;have:=hylt id h2;omega⟩,rfl⟩) (s:=⟨[(2,.c (.int .i64 e)),(8,.c (.int .i64 ((j+1:Nat):Int))),(13,.c (.int .i64 (0:Nat)))],[(3,3,0),(6,6,0),(10,10,0),(11,11,0)],[(3,[.int .i64 s.group,.int .i64 s.seen,x]),(6,[.int .i64 0,.int .i64 0,.nil]),(10,[.int .u64 (Shard.at_ s.shards (j+1)).lo,.int .u64 (Shard.at_ s.shards (j+1)).hi,.int .i64 (Shard.at_ s.shards (j+1)).state,.int .i64 (Shard.at_ s.shards (j+1)).epoch,yb,yf]),(11,[.int .u64 (Shard.at_ s.shards j).lo,.int .u64 (Shard.at_ s.shards (j+1)).hi,.int .i64 (Shard.at_ s.shards j).state,.int .i64 e,y,f4c])],g⟩) ⟨_,_,_,rfl,On.refl g,by simpa using wz,⟨fun id hid=>f4.lo id (List.mem_append_right _ hid),n4b⟩,dz⟩
   subst hs'
   simp only[show ((0:Nat):Int)=0 from rfl] at lp
   have hlt: ¬((Shard.at_ s.shards (j+1)).finished.length:Int)<(Shard.at_ s.shards (j+1)).finished.length:=by omega
   rw[lp,loop_run]
   conv in (codeF _ _ r364L1 _)=>unfold r364L1
   simp only[rn,RO.dst,lk,drop,Nat.reduceBEq,Nat.reduceAdd,Nat.reduceLeDiff,↓reduceIte,reduceCtorEq,gfl,hlt]
   clear lp
   rw[hfold _ (Nat.le_refl _),List.take_length] at wz2
   have hY:Shard.RI g2 [.int .u64 (Shard.at_ s.shards j).lo,.int .u64 (Shard.at_ s.shards (j+1)).hi,.int .i64 (Shard.at_ s.shards j).state,.int .i64 e,y,z] {Shard.join (Shard.at_ s.shards j) (Shard.at_ s.shards (j+1)) with epoch:=e} (fy++fz):=
    ⟨y,fy,z,fz,rfl,rfl,ay.sh.on (Fl.ok _) og,wz2⟩
   have hYf:Fre h (fy++fz):=⟨fun id hid=>by
    rcases List.mem_append.1 hid with h1 | h1
    ·exact ay.fr.lo id h1
    ·exact fz2.lo id h1,List.nodup_append.2 ⟨ay.fr.nd,fz2.nd,fun a1 h1 b1 h2 e=>by subst e;exact dz2 a1 h2 h1⟩⟩
   have og2:=ay.on.trans og
   have hYlt:=Shard.okI.lt hY
   have w2':=w.on Shard.okI og2
   generalize hYd:({Shard.join (Shard.at_ s.shards j) (Shard.at_ s.shards (j+1)) with epoch:=e}:Shard)=Y at hY
   clear wz2 wz wf4 wb4 uf2 ub uf wb wf ay hld0 hld2 hR0' hR2' hld
   have h8:s.shards.length≤8:=Store.next_len hn
   have hslen: ∀i,(((s.shards.set j Y).take i).eraseIdx (j+1)).length≤8:=fun i=>by
    refine Nat.le_trans (List.length_eraseIdx_le _ _) ?_
    rw[List.length_take,List.length_set];omega
   obtain ⟨s',⟨y3,g3,f3,hs',a3,ap3⟩,lp⟩:=loop_goes (F:=F) (Z:=Z) (live:=[2,3,6,8,11,14,15]) (b:=r364L0) s.shards.length (fun i st=> ∃y3 g3 f3,st=⟨[(2,.c (.int .i64 e)),(8,.c (.int .i64 ((j+1:Nat):Int))),(15,.c (.int .i64 (i:Nat)))],[(3,3,0),(6,6,0),(11,11,0),(14,14,0)],[(3,[.int .i64 s.group,.int .i64 s.seen,x]),(6,[.int .i64 0,.int .i64 0,.nil]),(11,[.int .u64 (Shard.at_ s.shards j).lo,.int .u64 (Shard.at_ s.shards (j+1)).hi,.int .i64 (Shard.at_ s.shards j).state,.int .i64 e,y,z]),(14,[.int .i64 s.group,.int .i64 e,y3])],g3⟩∧
    AccM Shard.RI 16 h g3 y3 (((s.shards.set j Y).take i).eraseIdx (j+1)) f3∧(i≤j→AccM Shard.RI 16 g2 g3 y3 (((s.shards.set j Y).take i).eraseIdx (j+1)) f3)) (fun i st hi ⟨y3,g3,f3,hs',a3,ap3⟩=>by
    subst hs'
    have hl3:(i:Int)<s.shards.length:=by omega
    have hws:=wrapS i (by omega)
    have hxi:=w.idx hi
    have hsl:=hslen i
    have hi':i<(s.shards.set j Y).length:=by rw[List.length_set];exact hi
    rw[loop_run]
    conv in (codeF _ _ r364L0 _)=>unfold r364L0
    by_cases hij:i=j
    ·subst hij
     have ap:=ap3 (Nat.le_refl _)
     obtain ⟨y',g',fp',e5,a5,_⟩:=a3.one (g:=g3) Shard.okI hf (bytes:=80) (by omega) (by omega) (On.refl g3) (Shard.okI.on hY ap.on) ⟨hYf.lo,hYf.nd⟩ (ap.old (On.refl g2) hYlt)
     have hnx:=erase_next (xs:=s.shards.set i Y) (i:=i) (k:=i+1) hi' (by omega)
     rw[List.getElem_set_self] at hnx
     rw[←hnx] at a5
     have hself:((i:Int)==(i:Int))=true:=by simp
     simp only[rn,RO.dst,lk,drop,Nat.reduceBEq,Nat.reduceAdd,Nat.reduceLeDiff,↓reduceIte,reduceCtorEq,hwl,hl3,hw1,hself,List.replicate_succ,List.replicate_zero,fills,and_self,Nat.zero_lt_one,List.set_cons_zero,e5,hws]
     exact ⟨_,⟨_,_,_,rfl,a5,fun hc=>by omega⟩,rfl⟩
    have hne:((i:Int)==(j:Int))=false:=by
     have: ¬(i:Int)=(j:Int):=by omega
     simpa using this
    by_cases hij2:i=j+1
    ·subst hij2
     have hsk:=erase_skip hi'
     rw[←hsk] at a3
     have hself:(((j+1:Nat):Int) !=((j+1:Nat):Int))=false:=by simp
     simp only[rn,RO.dst,lk,drop,Nat.reduceBEq,Nat.reduceAdd,Nat.reduceLeDiff,↓reduceIte,reduceCtorEq,hwl,hl3,hw1,hne,hself,hws]
     exact ⟨_,⟨_,_,_,rfl,a3,fun hc=>by omega⟩,rfl⟩
    ·have hne2:((i:Int) !=((j+1:Nat):Int))=true:=by
      have: ¬(i:Int)=((j+1:Nat):Int):=by omega
      simpa using this
     have hnx:=erase_next (xs:=s.shards.set j Y) (i:=i) (k:=j+1) hi' hij2
     rw[List.getElem_set_ne (fun e=>hij e.symm)] at hnx
     obtain ⟨r,f,hld,hR,_⟩:=(w.on Shard.okI a3.on).one hi
     obtain ⟨r1,r2,r3⟩:=Shard.lenI hR
     obtain ⟨cs',h',g1,fr,e1,hg1,o1,u1,f1,c1⟩:=l13CopyShard_q (Z:=Z) k.s10 k.s13 hR (sm.2 _ (List.getElem_mem hi))
     by_cases hle:i≤j
     ·obtain ⟨y',g',fp',e2,a2⟩:=(ap3 hle).next (og2.le hf) (by omega) o1 u1 f1
      rw[←hnx] at a2
      simp only[rn,RO.dst,lk,drop,Nat.reduceBEq,Nat.reduceAdd,Nat.reduceLeDiff,↓reduceIte,reduceCtorEq,hwl,hl3,hxi,hw1,hne,hne2,hld,r1,r2,r3,e1,hg1,List.replicate_succ,List.replicate_zero,fills,and_self,Nat.zero_lt_one,c1,List.set_cons_zero,e2,hws]
      exact ⟨_,⟨_,_,_,rfl,a2.base og2,fun _=>a2⟩,rfl⟩
     ·obtain ⟨y',g',fp',e2,a2⟩:=a3.next hf (by omega) o1 u1 f1
      rw[←hnx] at a2
      simp only[rn,RO.dst,lk,drop,Nat.reduceBEq,Nat.reduceAdd,Nat.reduceLeDiff,↓reduceIte,reduceCtorEq,hwl,hl3,hxi,hw1,hne,hne2,hld,r1,r2,r3,e1,hg1,List.replicate_succ,List.replicate_zero,fills,and_self,Nat.zero_lt_one,c1,List.set_cons_zero,e2,hws]
      exact ⟨_,⟨_,_,_,rfl,a2,fun hc=>by omega⟩,rfl⟩) (s:=⟨[(2,.c (.int .i64 e)),(8,.c (.int .i64 ((j+1:Nat):Int))),(15,.c (.int .i64 (0:Nat)))],[(3,3,0),(6,6,0),(11,11,0),(14,14,0)],[(3,[.int .i64 s.group,.int .i64 s.seen,x]),(6,[.int .i64 0,.int .i64 0,.nil]),(11,[.int .u64 (Shard.at_ s.shards j).lo,.int .u64 (Shard.at_ s.shards (j+1)).hi,.int .i64 (Shard.at_ s.shards j).state,.int .i64 e,y,z]),(14,[.int .i64 s.group,.int .i64 e,.nil])],g2⟩) ⟨_,_,_,rfl,by simpa using AccM.none Shard.RI 16 og2,fun _=>by simpa using AccM.nil Shard.RI 16 g2⟩
   subst hs'
   simp only[show ((0:Nat):Int)=0 from rfl] at lp
   have hlt: ¬(s.shards.length:Int)<s.shards.length:=by omega
   have htl:(s.shards.set j Y).take s.shards.length=s.shards.set j Y:=by
    rw[List.take_of_length_le (by rw[List.length_set];exact Nat.le_refl _)]
   rw[htl] at a3
   have smY:Y.Small:=by rw[←hYd];exact Shard.join_small hj1
   obtain ⟨cs5,h5,f5,e5,o5,v5,r5⟩:=l13Renew_c (Z:=Z) k (s:=⟨s.group,e,(s.joinWith j Y).shards⟩) (a3.on.le hf) ⟨y3,_,rfl,rfl,a3.sh⟩ (Store.joinWith_small sm j smY) e
   have hre:(⟨s.group,e,(s.joinWith j Y).shards⟩:Store).renew e=(s.joinWith j (Shard.join (Shard.at_ s.shards j) (Shard.at_ s.shards (j+1)))).renew e:=by
    refine Eq.trans (rfl:_=(s.joinWith j Y).renew e) (Store.join_renew ?_)
    rw[←hYd]
    simp only[Shard.renew,Shard.join,c1',cond_true]
   rw[hre] at v5
   obtain ⟨n1,n2,n3⟩:=Store.lenI v5
   rw[lp,loop_run]
   conv in (codeF _ _ r364L0 _)=>unfold r364L0
   simp only[rn,RO.dst,lk,drop,Nat.reduceBEq,Nat.reduceAdd,Nat.reduceLeDiff,↓reduceIte,reduceCtorEq,hwl,hlt,e5,n1,n2,n3]
   exact ⟨_,_,_,rfl,a3.on.trans o5,v5,⟨fun id hid=>Nat.le_trans a3.on.ext.1 (r5.lo id hid),r5.nd⟩⟩
end
end Go.Proofs.Ytjaideekkbpalaa.A
namespace Go.Proofs.Ytjaideekkbpalaa.A
open Go
set_option linter.unusedSimpArgs false
set_option linter.unusedVariables false
section
variable {F:Nat→Option RF} {Z:CallF} {h:Heap} {x:Cell} {xs:List Account} {fp:List Nat}
set_option maxHeartbeats 1000000 in
theorem sLockDebit_c (hS10:Has F tS10) (hf:h.floor≤h.next) (w:SlR 11 (Fl Account.enc) h x xs fp) (id m tx:Int) (hm:0≤m∧m≤18446744073709551615) (hok: ∀t,t∈xs→t.Ok) (sm:xs.length≤1048576):
 ∃y h' fq,call F Z 388 [.agg [x],.c (.int .u64 id),.c (.int .u64 m),.c (.int .i64 tx)] h=some (.tup [.agg [y],.c (.int .i64 (bookTx xs id tx (lockDF m tx)).2)],h')∧On h h'∧SlR 11 (Fl Account.enc) h' y (bookTx xs id tx (lockDF m tx)).1 fq∧Fre h fq:=by
 have e1:=l10Of_run (Z:=Z) hS10 w id tx hok
 obtain ⟨y,h2,fq,e2,o2,w2,f2⟩:=l10Copy_c (Z:=Z) hS10 hf w sm
 have z0:((0:Int) !=0)=false:=rfl
 have z1:((1:Int) !=0)=true:=rfl
 have z2:((2:Int) !=0)=true:=rfl
 rw[call_run F Z (hS10.lk (g:=388) rfl) _ _ rfl]
 by_cases ht:tx<1
 ·rw[of_tx ht] at e1
  rw[btx_bad ht]
  simp only[Account.enc,Account.none_] at e1
  simp only[rn,RO.dst,lk,drop,Nat.reduceBEq,Nat.reduceAdd,Nat.reduceLeDiff,↓reduceIte,reduceCtorEq,z0,z1,z2,e1,e2]
  exact ⟨_,_,_,rfl,o2,w2,f2⟩
 rw[btx_do ht]
 cases hb:bookOk xs with
 | false=>
   rw[of_bad hb] at e1
   rw[do_bad hb]
   simp only[Account.enc,Account.none_] at e1
   simp only[rn,RO.dst,lk,drop,Nat.reduceBEq,Nat.reduceAdd,Nat.reduceLeDiff,↓reduceIte,reduceCtorEq,z0,z1,z2,e1,e2]
   exact ⟨_,_,_,rfl,o2,w2,f2⟩
 | true=>
   rcases acc_found hb id with ⟨q1,_⟩ | ⟨i,q1,_,_,hi,q5⟩
   ·rw[of_none hb ht q1] at e1
    rw[do_none hb q1]
    simp only[Account.enc,Account.none_] at e1
    simp only[rn,RO.dst,lk,drop,Nat.reduceBEq,Nat.reduceAdd,Nat.reduceLeDiff,↓reduceIte,reduceCtorEq,z0,z1,z2,e1,e2]
    exact ⟨_,_,_,rfl,o2,w2,f2⟩
   ·rw[of_at hb ht q1] at e1
    rw[do_at hb q1]
    have hfin:=book_fine hb hi
    rw[Account.at_get hi] at e1 q5 hfin ⊢
    have hoki:=hok _ (List.getElem_mem hi)
    have hbal:=hoki.bal
    have hh:=hoki.hold
    have hdu:=hoki.due
    simp only[Account.fine,Bool.and_eq_true,decide_eq_true_eq] at hfin
    have hfl:=hfin.1
    clear hfin hoki
    obtain ⟨z,h3,fr,e3,o3,w3,f3⟩:=l10With_c (Z:=Z) hS10 hf w sm ⟨xs[i].id,xs[i].bal-m,m,xs[i].due,tx⟩
    rw[with_set hb hi (a:=⟨xs[i].id,xs[i].bal-m,m,xs[i].due,tx⟩) rfl] at w3
    simp only[Account.enc] at e1 e3
    generalize xs[i]=a at *
    by_cases c1:a.tx=0
    ·have c1':(a.tx !=0)=false:=by simpa using c1
     by_cases c2:m≤a.bal
     ·have hd:lockDF m tx a=(0,{a with bal:=a.bal-m,hold:=m,tx:=tx}):=by simp[lockDF,c1,c2]
      have htx:(tx== -1)=false:=by simp;omega
      have hw:IntKind.u64.wrap (a.bal-m)=a.bal-m:=wrapU _ (by omega) (by omega)
      have c3: ¬m>a.bal:=by omega
      rw[hd]
      simp only[beq_self_eq_true,cond_true,htx,cond_false]
      simp only[rn,RO.dst,lk,drop,Nat.reduceBEq,Nat.reduceAdd,Nat.reduceLeDiff,↓reduceIte,reduceCtorEq,z0,z1,z2,e1,hw,c1',c3,e3]
      exact ⟨_,_,_,rfl,o3,w3,f3⟩
     ·have hd:lockDF m tx a=(4,a):=by simp[lockDF,c1,c2]
      have c3:m>a.bal:=by omega
      rw[hd]
      have h0:((4:Int)==0)=false:=rfl
      simp only[h0,cond_false]
      simp only[rn,RO.dst,lk,drop,Nat.reduceBEq,Nat.reduceAdd,Nat.reduceLeDiff,↓reduceIte,reduceCtorEq,z0,z1,z2,e1,c1',c3,e2]
      exact ⟨_,_,_,rfl,o2,w2,f2⟩
    ·have c1':(a.tx !=0)=true:=by simpa using c1
     have hd:lockDF m tx a=(6,a):=by simp[lockDF,c1]
     rw[hd]
     have h0:((6:Int)==0)=false:=rfl
     simp only[h0,cond_false]
     simp only[rn,RO.dst,lk,drop,Nat.reduceBEq,Nat.reduceAdd,Nat.reduceLeDiff,↓reduceIte,reduceCtorEq,z0,z1,z2,e1,c1',e2]
     exact ⟨_,_,_,rfl,o2,w2,f2⟩
set_option maxHeartbeats 1000000 in
theorem sLockCredit_c (hS10:Has F tS10) (hf:h.floor≤h.next) (w:SlR 11 (Fl Account.enc) h x xs fp) (id m tx:Int) (hm:0≤m∧m≤18446744073709551615) (hok: ∀t,t∈xs→t.Ok) (sm:xs.length≤1048576):
 ∃y h' fq,call F Z 389 [.agg [x],.c (.int .u64 id),.c (.int .u64 m),.c (.int .i64 tx)] h=some (.tup [.agg [y],.c (.int .i64 (bookTx xs id tx (lockCF m tx)).2)],h')∧On h h'∧SlR 11 (Fl Account.enc) h' y (bookTx xs id tx (lockCF m tx)).1 fq∧Fre h fq:=by
 have e1:=l10Of_run (Z:=Z) hS10 w id tx hok
 obtain ⟨y,h2,fq,e2,o2,w2,f2⟩:=l10Copy_c (Z:=Z) hS10 hf w sm
 have z0:((0:Int) !=0)=false:=rfl
 have z1:((1:Int) !=0)=true:=rfl
 have z2:((2:Int) !=0)=true:=rfl
 rw[call_run F Z (hS10.lk (g:=389) rfl) _ _ rfl]
 by_cases ht:tx<1
 ·rw[of_tx ht] at e1
  rw[btx_bad ht]
  simp only[Account.enc,Account.none_] at e1
  simp only[rn,RO.dst,lk,drop,Nat.reduceBEq,Nat.reduceAdd,Nat.reduceLeDiff,↓reduceIte,reduceCtorEq,z0,z1,z2,e1,e2]
  exact ⟨_,_,_,rfl,o2,w2,f2⟩
 rw[btx_do ht]
 cases hb:bookOk xs with
 | false=>
   rw[of_bad hb] at e1
   rw[do_bad hb]
   simp only[Account.enc,Account.none_] at e1
   simp only[rn,RO.dst,lk,drop,Nat.reduceBEq,Nat.reduceAdd,Nat.reduceLeDiff,↓reduceIte,reduceCtorEq,z0,z1,z2,e1,e2]
   exact ⟨_,_,_,rfl,o2,w2,f2⟩
 | true=>
   rcases acc_found hb id with ⟨q1,_⟩ | ⟨i,q1,_,_,hi,q5⟩
   ·rw[of_none hb ht q1] at e1
    rw[do_none hb q1]
    simp only[Account.enc,Account.none_] at e1
    simp only[rn,RO.dst,lk,drop,Nat.reduceBEq,Nat.reduceAdd,Nat.reduceLeDiff,↓reduceIte,reduceCtorEq,z0,z1,z2,e1,e2]
    exact ⟨_,_,_,rfl,o2,w2,f2⟩
   ·rw[of_at hb ht q1] at e1
    rw[do_at hb q1]
    have hfin:=book_fine hb hi
    rw[Account.at_get hi] at e1 q5 hfin ⊢
    have hoki:=hok _ (List.getElem_mem hi)
    have hbal:=hoki.bal
    have hh:=hoki.hold
    have hdu:=hoki.due
    simp only[Account.fine,Bool.and_eq_true,decide_eq_true_eq] at hfin
    have hfl:=hfin.1
    clear hfin hoki
    obtain ⟨z,h3,fr,e3,o3,w3,f3⟩:=l10With_c (Z:=Z) hS10 hf w sm ⟨xs[i].id,xs[i].bal,xs[i].hold,m,tx⟩
    rw[with_set hb hi (a:=⟨xs[i].id,xs[i].bal,xs[i].hold,m,tx⟩) rfl] at w3
    have hws:IntKind.u64.wrap (18446744073709551615-xs[i].bal)=18446744073709551615-xs[i].bal:=wrapU _ (by omega) (by omega)
    simp only[Account.enc] at e1 e3
    generalize xs[i]=a at *
    by_cases c1:a.tx=0
    ·have c1':(a.tx !=0)=false:=by simpa using c1
     by_cases c2:a.bal+m≤18446744073709551615
     ·have hd:lockCF m tx a=(0,{a with due:=m,tx:=tx}):=by simp[lockCF,c1,c2]
      have htx:(tx== -1)=false:=by simp;omega
      have c3: ¬m>18446744073709551615-a.bal:=by omega
      rw[hd]
      simp only[beq_self_eq_true,cond_true,htx,cond_false]
      simp only[rn,RO.dst,lk,drop,Nat.reduceBEq,Nat.reduceAdd,Nat.reduceLeDiff,↓reduceIte,reduceCtorEq,z0,z1,z2,e1,hws,c1',c3,e3]
      exact ⟨_,_,_,rfl,o3,w3,f3⟩
     ·have hd:lockCF m tx a=(5,a):=by simp[lockCF,c1,c2]
      have c3:m>18446744073709551615-a.bal:=by omega
      rw[hd]
      have h0:((5:Int)==0)=false:=rfl
      simp only[h0,cond_false]
      simp only[rn,RO.dst,lk,drop,Nat.reduceBEq,Nat.reduceAdd,Nat.reduceLeDiff,↓reduceIte,reduceCtorEq,z0,z1,z2,e1,hws,c1',c3,e2]
      exact ⟨_,_,_,rfl,o2,w2,f2⟩
    ·have c1':(a.tx !=0)=true:=by simpa using c1
     have hd:lockCF m tx a=(6,a):=by simp[lockCF,c1]
     rw[hd]
     have h0:((6:Int)==0)=false:=rfl
     simp only[h0,cond_false]
     simp only[rn,RO.dst,lk,drop,Nat.reduceBEq,Nat.reduceAdd,Nat.reduceLeDiff,↓reduceIte,reduceCtorEq,z0,z1,z2,e1,c1',e2]
     exact ⟨_,_,_,rfl,o2,w2,f2⟩
set_option maxHeartbeats 1000000 in
theorem sSettleHold_c (hS10:Has F tS10) (hf:h.floor≤h.next) (w:SlR 11 (Fl Account.enc) h x xs fp) (id tx:Int) (hok: ∀t,t∈xs→t.Ok) (sm:xs.length≤1048576):
 ∃y h' fq,call F Z 390 [.agg [x],.c (.int .u64 id),.c (.int .i64 tx)] h=some (.tup [.agg [y],.c (.int .i64 (bookTx xs id tx (settleF id tx)).2)],h')∧On h h'∧SlR 11 (Fl Account.enc) h' y (bookTx xs id tx (settleF id tx)).1 fq∧Fre h fq:=by
 have e1:=l10Of_run (Z:=Z) hS10 w id tx hok
 obtain ⟨y,h2,fq,e2,o2,w2,f2⟩:=l10Copy_c (Z:=Z) hS10 hf w sm
 have z0:((0:Int) !=0)=false:=rfl
 have z1:((1:Int) !=0)=true:=rfl
 have z2:((2:Int) !=0)=true:=rfl
 rw[call_run F Z (hS10.lk (g:=390) rfl) _ _ rfl]
 by_cases ht:tx<1
 ·rw[of_tx ht] at e1
  rw[btx_bad ht]
  simp only[Account.enc,Account.none_] at e1
  simp only[rn,RO.dst,lk,drop,Nat.reduceBEq,Nat.reduceAdd,Nat.reduceLeDiff,↓reduceIte,reduceCtorEq,z0,z1,z2,e1,e2]
  exact ⟨_,_,_,rfl,o2,w2,f2⟩
 rw[btx_do ht]
 cases hb:bookOk xs with
 | false=>
   rw[of_bad hb] at e1
   rw[do_bad hb]
   simp only[Account.enc,Account.none_] at e1
   simp only[rn,RO.dst,lk,drop,Nat.reduceBEq,Nat.reduceAdd,Nat.reduceLeDiff,↓reduceIte,reduceCtorEq,z0,z1,z2,e1,e2]
   exact ⟨_,_,_,rfl,o2,w2,f2⟩
 | true=>
   rcases acc_found hb id with ⟨q1,_⟩ | ⟨i,q1,_,_,hi,q5⟩
   ·rw[of_none hb ht q1] at e1
    rw[do_none hb q1]
    simp only[Account.enc,Account.none_] at e1
    simp only[rn,RO.dst,lk,drop,Nat.reduceBEq,Nat.reduceAdd,Nat.reduceLeDiff,↓reduceIte,reduceCtorEq,z0,z1,z2,e1,e2]
    exact ⟨_,_,_,rfl,o2,w2,f2⟩
   ·rw[of_at hb ht q1] at e1
    rw[do_at hb q1]
    have hfin:=book_fine hb hi
    rw[Account.at_get hi] at e1 q5 hfin ⊢
    have hoki:=hok _ (List.getElem_mem hi)
    have hbal:=hoki.bal
    have hh:=hoki.hold
    have hdu:=hoki.due
    simp only[Account.fine,Bool.and_eq_true,decide_eq_true_eq] at hfin
    have hfl:=hfin.1
    clear hfin hoki
    obtain ⟨z,h3,fr,e3,o3,w3,f3⟩:=l10With_c (Z:=Z) hS10 hf w sm ⟨id,xs[i].bal+xs[i].due,0,0,0⟩
    rw[with_set hb hi (a:=⟨id,xs[i].bal+xs[i].due,0,0,0⟩) q5.symm] at w3
    have hw:IntKind.u64.wrap (xs[i].bal+xs[i].due)=xs[i].bal+xs[i].due:=wrapU _ (by omega) (by omega)
    simp only[Account.enc] at e1 e3
    generalize xs[i]=a at *
    by_cases c1:a.tx=tx
    ·have c1':(a.tx !=tx)=false:=by simpa using c1
     have hd:settleF id tx a=(0,⟨id,a.bal+a.due,0,0,0⟩):=by simp[settleF,c1]
     have htx:((0:Int)== -1)=false:=rfl
     rw[hd]
     simp only[beq_self_eq_true,cond_true,htx,cond_false]
     simp only[rn,RO.dst,lk,drop,Nat.reduceBEq,Nat.reduceAdd,Nat.reduceLeDiff,↓reduceIte,reduceCtorEq,z0,z1,z2,e1,hw,c1',e3]
     exact ⟨_,_,_,rfl,o3,w3,f3⟩
    ·have c1':(a.tx !=tx)=true:=by simpa using c1
     have hd:settleF id tx a=(7,a):=by simp[settleF,c1]
     rw[hd]
     have h0:((7:Int)==0)=false:=rfl
     simp only[h0,cond_false]
     simp only[rn,RO.dst,lk,drop,Nat.reduceBEq,Nat.reduceAdd,Nat.reduceLeDiff,↓reduceIte,reduceCtorEq,z0,z1,z2,e1,c1',e2]
     exact ⟨_,_,_,rfl,o2,w2,f2⟩
set_option maxHeartbeats 1000000 in
theorem sReleaseHold_c (hS10:Has F tS10) (hf:h.floor≤h.next) (w:SlR 11 (Fl Account.enc) h x xs fp) (id tx:Int) (hok: ∀t,t∈xs→t.Ok) (sm:xs.length≤1048576):
 ∃y h' fq,call F Z 391 [.agg [x],.c (.int .u64 id),.c (.int .i64 tx)] h=some (.tup [.agg [y],.c (.int .i64 (bookTx xs id tx (releaseF id tx)).2)],h')∧On h h'∧SlR 11 (Fl Account.enc) h' y (bookTx xs id tx (releaseF id tx)).1 fq∧Fre h fq:=by
 have e1:=l10Of_run (Z:=Z) hS10 w id tx hok
 obtain ⟨y,h2,fq,e2,o2,w2,f2⟩:=l10Copy_c (Z:=Z) hS10 hf w sm
 have z0:((0:Int) !=0)=false:=rfl
 have z1:((1:Int) !=0)=true:=rfl
 have z2:((2:Int) !=0)=true:=rfl
 rw[call_run F Z (hS10.lk (g:=391) rfl) _ _ rfl]
 by_cases ht:tx<1
 ·rw[of_tx ht] at e1
  rw[btx_bad ht]
  simp only[Account.enc,Account.none_] at e1
  simp only[rn,RO.dst,lk,drop,Nat.reduceBEq,Nat.reduceAdd,Nat.reduceLeDiff,↓reduceIte,reduceCtorEq,z0,z1,z2,e1,e2]
  exact ⟨_,_,_,rfl,o2,w2,f2⟩
 rw[btx_do ht]
 cases hb:bookOk xs with
 | false=>
   rw[of_bad hb] at e1
   rw[do_bad hb]
   simp only[Account.enc,Account.none_] at e1
   simp only[rn,RO.dst,lk,drop,Nat.reduceBEq,Nat.reduceAdd,Nat.reduceLeDiff,↓reduceIte,reduceCtorEq,z0,z1,z2,e1,e2]
   exact ⟨_,_,_,rfl,o2,w2,f2⟩
 | true=>
   rcases acc_found hb id with ⟨q1,_⟩ | ⟨i,q1,_,_,hi,q5⟩
   ·rw[of_none hb ht q1] at e1
    rw[do_none hb q1]
    simp only[Account.enc,Account.none_] at e1
    simp only[rn,RO.dst,lk,drop,Nat.reduceBEq,Nat.reduceAdd,Nat.reduceLeDiff,↓reduceIte,reduceCtorEq,z0,z1,z2,e1,e2]
    exact ⟨_,_,_,rfl,o2,w2,f2⟩
   ·rw[of_at hb ht q1] at e1
    rw[do_at hb q1]
    have hfin:=book_fine hb hi
    rw[Account.at_get hi] at e1 q5 hfin ⊢
    have hoki:=hok _ (List.getElem_mem hi)
    have hbal:=hoki.bal
    have hh:=hoki.hold
    have hdu:=hoki.due
    simp only[Account.fine,Bool.and_eq_true,decide_eq_true_eq] at hfin
    have hfl:=hfin.1
    clear hfin hoki
    obtain ⟨z,h3,fr,e3,o3,w3,f3⟩:=l10With_c (Z:=Z) hS10 hf w sm ⟨id,xs[i].bal+xs[i].hold,0,0,0⟩
    rw[with_set hb hi (a:=⟨id,xs[i].bal+xs[i].hold,0,0,0⟩) q5.symm] at w3
    have hw:IntKind.u64.wrap (xs[i].bal+xs[i].hold)=xs[i].bal+xs[i].hold:=wrapU _ (by omega) (by omega)
    simp only[Account.enc] at e1 e3
    generalize xs[i]=a at *
    by_cases c1:a.tx=tx
    ·have c1':(a.tx !=tx)=false:=by simpa using c1
     have hd:releaseF id tx a=(0,⟨id,a.bal+a.hold,0,0,0⟩):=by simp[releaseF,c1]
     have htx:((0:Int)== -1)=false:=rfl
     rw[hd]
     simp only[beq_self_eq_true,cond_true,htx,cond_false]
     simp only[rn,RO.dst,lk,drop,Nat.reduceBEq,Nat.reduceAdd,Nat.reduceLeDiff,↓reduceIte,reduceCtorEq,z0,z1,z2,e1,hw,c1',e3]
     exact ⟨_,_,_,rfl,o3,w3,f3⟩
    ·have c1':(a.tx !=tx)=true:=by simpa using c1
     have hd:releaseF id tx a=(7,a):=by simp[releaseF,c1]
     rw[hd]
     have h0:((7:Int)==0)=false:=rfl
     simp only[h0,cond_false]
     simp only[rn,RO.dst,lk,drop,Nat.reduceBEq,Nat.reduceAdd,Nat.reduceLeDiff,↓reduceIte,reduceCtorEq,z0,z1,z2,e1,c1',e2]
     exact ⟨_,_,_,rfl,o2,w2,f2⟩
end
end Go.Proofs.Ytjaideekkbpalaa.A
namespace Go.Proofs.Ytjaideekkbpalaa.A
open Go
set_option linter.unusedSimpArgs false
set_option linter.unusedVariables false
section
variable {F:Nat→Option RF} {Z:CallF} {h:Heap} {xs:List Shard}
theorem row_set {h6:Heap} {y:Cell} {fr:List Nat} {i n:Nat} (o:On h h6) (hf:h.floor≤h.next) (w:SlR 16 Shard.RI h6 y xs fr) (f:Fre h fr) (hi:i<xs.length) {yb zf:Cell} {l:List Account} {fs:List Fin} {fb fz:List Nat}
 (u:SlR 11 (Fl Account.enc) h6 yb l fb) (v:SlR 9 (Fl Fin.enc) h6 zf fs fz) (nd:(fb++fz).Nodup) (hd: ∀id,id∈fb++fz→n≤id) (hn: ∀id,id∈fr→id<n) (hh:h.next≤n):
 ∃g fq,storeP h6 y.sid i 0 [.int .u64 xs[i].lo,.int .u64 xs[i].hi,.int .i64 xs[i].state,.int .i64 xs[i].epoch,yb,zf]=some g∧On h g∧Fre h fq∧
  SlR 16 Shard.RI g y (xs.set i ⟨xs[i].lo,xs[i].hi,xs[i].state,xs[i].epoch,⟨l⟩,fs⟩) fq∧SlR 11 (Fl Account.enc) g yb l fb:=by
 obtain ⟨r,f1,rows,hR,hin,nf1,hs,hns,hsl,hg,hr,hil,_,fin⟩:=w.turnF Shard.okI f.nd hi
 obtain ⟨xb,pb,xf,pf,rfl,rfl,wb,wf⟩:=hR
 have hfl:h6.floor≤y.sid:=by rw[o.fl];exact Nat.le_trans hf (f.lo _ hs)
 have hst:=storeP_at (h:=h6) (id:=y.sid) (i:=i) (j:=0) (new:=[.int .u64 xs[i].lo,.int .u64 xs[i].hi,.int .i64 xs[i].state,.int .i64 xs[i].epoch,yb,zf]) hfl hg hr rfl
 have hne: ∀id,id∈fb++fz→id≠y.sid:=fun id hid e=>by
  subst e;have:=hd _ hid;have:=hn _ hs;omega
 have u2:=u.mv (h':=h6.put y.sid (rows.set i [.int .u64 xs[i].lo,.int .u64 xs[i].hi,.int .i64 xs[i].state,.int .i64 xs[i].epoch,yb,zf])) (Fl.ok _) (Nat.le_refl _) fun id hid=>put_ne _ (hne id (List.mem_append_left _ hid))
 have v2:=v.mv (h':=h6.put y.sid (rows.set i [.int .u64 xs[i].lo,.int .u64 xs[i].hi,.int .i64 xs[i].state,.int .i64 xs[i].epoch,yb,zf])) (Fl.ok _) (Nat.le_refl _) fun id hid=>put_ne _ (hne id (List.mem_append_right _ hid))
 obtain ⟨fq,w4,nq,sub⟩:=fin (h6.put y.sid (rows.set i [.int .u64 xs[i].lo,.int .u64 xs[i].hi,.int .i64 xs[i].state,.int .i64 xs[i].epoch,yb,zf])) [.int .u64 xs[i].lo,.int .u64 xs[i].hi,.int .i64 xs[i].state,.int .i64 xs[i].epoch,yb,zf] ⟨xs[i].lo,xs[i].hi,xs[i].state,xs[i].epoch,⟨l⟩,fs⟩ (fb++fz) (Nat.le_refl _)
  (fun id h1 h2 h4=>put_ne _ h2) (by simp[Heap.put]) ⟨yb,fb,zf,fz,rfl,rfl,u2,v2⟩ nd (fun id hid=> .inr fun hc=>by have:=hd _ hid;have:=hn _ hc;omega)
 refine ⟨_,fq,hst,o.turned (Mk.put _ _ _) ⟨fun id hid=>by simp only[List.mem_singleton] at hid;subst hid;exact f.lo _ hs,by simp⟩,⟨fun id hid=> ?_,nq⟩,w4,u2⟩
 rcases sub id hid with h1 | h1
 ·exact f.lo id h1
 ·have:=hd _ h1;omega
end
def SDoStoreAt (F:Nat→Option RF) (Z:CallF) (h:Heap) (cs:List Cell) (s:Store) (q:Request):Prop:=
 ∃cs' h' fq,call F Z 381 [.agg cs,.agg q.enc] h=some (.tup [.agg cs',.c (.int .i64 (doStore s q).2.1),.c (.int .u64 (doStore s q).2.2)],h')∧On h h'∧Store.RI h' cs' (doStore s q).1 fq∧Fre h fq
end Go.Proofs.Ytjaideekkbpalaa.A
namespace Go.Proofs.Ytjaideekkbpalaa.A
open Go
set_option linter.unusedSimpArgs false
set_option linter.unusedVariables false
section
variable {F:Nat→Option RF} {Z:CallF} {h:Heap} {cs:List Cell} {fp:List Nat} {s:Store}
set_option maxHeartbeats 4000000 in
set_option maxRecDepth 8000 in
theorem sdo_op0 (k:KS F) (hf:h.floor≤h.next) (v:Store.RI h cs s fp) (qe qi qa qt:Int) (okq:(⟨qe,0,qi,qa,qt⟩:Request).Ok) (ok:s.Ok) (sm:s.Small):
 SDoStoreAt F Z h cs s ⟨qe,0,qi,qa,qt⟩:=by
 unfold SDoStoreAt
 obtain ⟨l1,l2,l3⟩:=Store.lenI v
 obtain ⟨cs1,h1,fr,e1,o1,v1,f1⟩:=l13Copy_c (Z:=Z) k hf v sm
 have vh:=Store.okI.on v o1
 have e2:=sStoreOk_run (Z:=Z) k vh ok
 have e3:=l13Find_run (Z:=Z) k.s13 vh qi
 have eI:=fun (lo hi:Int) (h:Heap)=>l01In_run (F:=F) (Z:=Z) k.s01 0 lo hi h
 simp only[inR] at eI
 obtain ⟨y,p,rfl,hp,w⟩:=v1
 subst hp
 rw[call_run F Z (k.s13.lk (g:=381) rfl) _ _ rfl]
 simp only[Request.enc]
 cases hg:s.good with
 | false=>
   rw[hg] at e2
   rw[dost_bad (by simp[hg])]
   simp only[rn,RO.dst,lk,drop,Nat.reduceBEq,Nat.reduceAdd,Nat.reduceLeDiff,↓reduceIte,reduceCtorEq,Bool.and_self,Bool.and_true,Bool.true_and,Bool.and_false,Bool.false_and,Int.reduceLT,Int.reduceLE,Int.reduceGT,Int.reduceGE,Int.reduceBEq,Int.reduceBNe,Int.reduceEq,Int.reduceNe,Int.reduceNeg,l1,l2,l3,e1,e2]
   exact ⟨_,_,_,rfl,o1,⟨y,_,rfl,rfl,w⟩,f1⟩
 | true=>
 rw[hg] at e2
 have hin:(s.good&&inR (⟨qe,0,qi,qa,qt⟩:Request).op 0 8)=true:=by rw[hg];rfl
 obtain ⟨x,p,rfl,hp,wx⟩:=vh
 subst hp
 rcases wx.found (fun t=>decide (t.lo≤qi)&&decide (qi≤t.hi)) with q | ⟨i,q,hi,hpi,_⟩
 ·change findId s.shards qi= -1 at q
  rw[dost_away hin q]
  rw[q] at e3
  simp only[rn,RO.dst,lk,drop,Nat.reduceBEq,Nat.reduceAdd,Nat.reduceLeDiff,↓reduceIte,reduceCtorEq,Bool.and_self,Bool.and_true,Bool.true_and,Bool.and_false,Bool.false_and,Int.reduceLT,Int.reduceLE,Int.reduceGT,Int.reduceGE,Int.reduceBEq,Int.reduceBNe,Int.reduceEq,Int.reduceNe,Int.reduceNeg,l1,l2,l3,e1,e2,e3,eI]
  exact ⟨_,_,_,rfl,o1,⟨y,_,rfl,rfl,w⟩,f1⟩
 change findId s.shards qi=(i:Int) at q
 rw[q] at e3
 rw[dost_at hin q,Shard.at_get hi]
 have g0: ¬(i:Int)<0:=by omega
 have hxi:=wx.idx hi
 have hyi:=w.idx hi
 have okX:=ok.shards _ (List.getElem_mem hi)
 have smX:=sm.2 _ (List.getElem_mem hi)
 have smf:s.shards[i].finished.length≤1048576:=smX.2
 have smb:s.shards[i].book.list.length≤1048576:=smX.1
 have hgd:s.shards[i].good=true:=by
  have:=Store.fit_at hg hi
  simp only[Store.fits,Bool.and_eq_true,Shard.at_get hi] at this
  exact this.1
 have hso:=Shard.good_sorted hgd
 have hbk:bookOk s.shards[i].book.list=true:=by
  simp only[Bool.and_eq_true,Shard.good,Shard.head] at hgd
  exact hgd.1.2.2.2.1
 obtain ⟨r,fx,hld,hR0,_⟩:=wx.one hi
 obtain ⟨cs4,h4,ft,e4,o4,u4,f4⟩:=l13CopyShard_c (Z:=Z) k.s10 k.s13 (o1.le hf) hR0 smX
 obtain ⟨xb,pb,xf,pf,rfl,rfl,wb,wf⟩:=hR0
 obtain ⟨b4,pb4,f4c,pf4,rfl,hq4,wb4,wf4⟩:=u4
 subst hq4
 obtain ⟨n4a,n4b,n4c⟩:=List.nodup_append.1 f4.nd
 have o04:=o1.trans o4
 have o4h:=o04.le
 have w4:=w.on Shard.okI o4
 have lt4:=w4.lt Shard.okI
 have lt4f:=wf4.lt (Fl.ok _)
 have eC:=l13Has_run (F:=F) (Z:=Z) k.s13 wf4 ⟨qt,qi⟩
 simp only[Fin.enc] at eC
 have hlen:=wf4.len
 cases cA:(s.shards[i].epoch !=qe) with
 | true=>
   have cA':(s.shards[i].epoch==qe)=false:=by simpa using cA
   have hR:refuse s.shards[i] ⟨qe,0,qi,qa,qt⟩=9:=by simp[refuse,inR,Request.ends,Request.fin,cA']
   rw[hR]
   simp only[show ((9:Int)==0)=false from rfl,cond_false]
   simp only[rn,RO.dst,lk,drop,Nat.reduceBEq,Nat.reduceAdd,Nat.reduceLeDiff,↓reduceIte,reduceCtorEq,Bool.and_self,Bool.and_true,Bool.true_and,Bool.and_false,Bool.false_and,Int.reduceLT,Int.reduceLE,Int.reduceGT,Int.reduceGE,Int.reduceBEq,Int.reduceBNe,Int.reduceEq,Int.reduceNe,Int.reduceNeg,l1,l2,l3,e1,e2,e3,eI,hxi,hld,e4,eC,hlen,g0,cA]
   exact ⟨_,_,_,rfl,o04,⟨y,_,rfl,rfl,w4⟩,f1⟩
 | false=>
 have cA':(s.shards[i].epoch==qe)=true:=by simpa using cA
 cases cB:(s.shards[i].state==1) with
 | true=>
   have hR:refuse s.shards[i] ⟨qe,0,qi,qa,qt⟩=10:=by simp[refuse,inR,Request.ends,Request.fin,cA',cB]
   rw[hR]
   simp only[show ((10:Int)==0)=false from rfl,cond_false]
   simp only[rn,RO.dst,lk,drop,Nat.reduceBEq,Nat.reduceAdd,Nat.reduceLeDiff,↓reduceIte,reduceCtorEq,Bool.and_self,Bool.and_true,Bool.true_and,Bool.and_false,Bool.false_and,Int.reduceLT,Int.reduceLE,Int.reduceGT,Int.reduceGE,Int.reduceBEq,Int.reduceBNe,Int.reduceEq,Int.reduceNe,Int.reduceNeg,l1,l2,l3,e1,e2,e3,eI,hxi,hld,e4,eC,hlen,g0,cA,cB]
   exact ⟨_,_,_,rfl,o04,⟨y,_,rfl,rfl,w4⟩,f1⟩
 | false=>
 have hR:refuse s.shards[i] ⟨qe,0,qi,qa,qt⟩=0:=by simp[refuse,inR,Request.ends,Request.fin,cA',cB]
 rw[hR]
 simp only[beq_self_eq_true,cond_true]
 obtain ⟨yb,h5,fb,e5,o5,u5,f5⟩:=sOpenAccount_c (Z:=Z) k.s10 (o4h hf) wb4 qi okX.book.list smb
 have ltb:=u5.lt (Fl.ok _)
 have hA:doShard s.shards[i] ⟨qe,0,qi,qa,qt⟩=⟨s.shards[i].lo,s.shards[i].hi,s.shards[i].state,s.shards[i].epoch,⟨(doBook s.shards[i].book.list ⟨qe,0,qi,qa,qt⟩).1⟩,s.shards[i].finished⟩:=by simp[doShard,Request.ends,Request.fin,cA',cB]
 obtain ⟨g,fq,st,og,fg,w7,u7⟩:=row_set (h:=h) (o04.trans o5) hf (w4.on Shard.okI o5) f1 hi u5 (wf4.on (Fl.ok _) o5) (List.nodup_append.2 ⟨f5.nd,n4b,fun a ha b hb e=>by subst e;have:=f5.lo a ha;have:=lt4f a hb;omega⟩) (fun id hid=>by
  rcases List.mem_append.1 hid with h1 | h1
  ·have:=f5.lo id h1;have:=o4.ext.1;omega
  ·exact f4.lo id (List.mem_append_right _ h1)) (n:=h1.next) (w.lt Shard.okI) o1.ext.1
 rw[hA]
 have eA:=l10Find_run (F:=F) (Z:=Z) k.s10 u7 qi
 rcases val_cases (a:=qi) (doBook_srt hbk ⟨qe,0,qi,qa,qt⟩) with ⟨v1,v2⟩ | ⟨v1,v2,v3,v4⟩ | ⟨v1,j,v2,v3,v4,v5,v6⟩
 ·have v1':((doBook s.shards[i].book.list ⟨qe,0,qi,qa,qt⟩).2==0)=false:=by simpa using v1
  rw[v2]
  change ((openBook s.shards[i].book.list qi).2==0)=false at v1'
  simp only[rn,RO.dst,lk,drop,Nat.reduceBEq,Nat.reduceAdd,Nat.reduceLeDiff,↓reduceIte,reduceCtorEq,Bool.and_self,Bool.and_true,Bool.true_and,Bool.and_false,Bool.false_and,Int.reduceLT,Int.reduceLE,Int.reduceGT,Int.reduceGE,Int.reduceBEq,Int.reduceBNe,Int.reduceEq,Int.reduceNe,Int.reduceNeg,l1,l2,l3,e1,e2,e3,eI,hxi,hld,e4,eC,hlen,g0,cA,cB,e5,hyi,st,eA,v1']
  exact ⟨_,_,_,rfl,og,⟨y,_,rfl,rfl,w7⟩,fg⟩
 ·have v1':((doBook s.shards[i].book.list ⟨qe,0,qi,qa,qt⟩).2==0)=true:=by simpa using v1
  rw[v4]
  change ((openBook s.shards[i].book.list qi).2==0)=true at v1'
  change accAt (openBook s.shards[i].book.list qi).1 qi= -1 at v3
  rw[v3] at eA
  simp only[rn,RO.dst,lk,drop,Nat.reduceBEq,Nat.reduceAdd,Nat.reduceLeDiff,↓reduceIte,reduceCtorEq,Bool.and_self,Bool.and_true,Bool.true_and,Bool.and_false,Bool.false_and,Int.reduceLT,Int.reduceLE,Int.reduceGT,Int.reduceGE,Int.reduceBEq,Int.reduceBNe,Int.reduceEq,Int.reduceNe,Int.reduceNeg,l1,l2,l3,e1,e2,e3,eI,hxi,hld,e4,eC,hlen,g0,cA,cB,e5,hyi,st,eA,v1']
  exact ⟨_,_,_,rfl,og,⟨y,_,rfl,rfl,w7⟩,fg⟩
 ·have v1':((doBook s.shards[i].book.list ⟨qe,0,qi,qa,qt⟩).2==0)=true:=by simpa using v1
  rw[v6,Account.at_get v5]
  change ((openBook s.shards[i].book.list qi).2==0)=true at v1'
  change accAt (openBook s.shards[i].book.list qi).1 qi=(j:Int) at v4
  have g1:(j:Int)≥0:=by omega
  rw[v4] at eA
  have hx:=u7.idx v5
  have hl:=u7.load v5
  simp only[Account.enc] at hl
  simp only[rn,RO.dst,lk,drop,Nat.reduceBEq,Nat.reduceAdd,Nat.reduceLeDiff,↓reduceIte,reduceCtorEq,Bool.and_self,Bool.and_true,Bool.true_and,Bool.and_false,Bool.false_and,Int.reduceLT,Int.reduceLE,Int.reduceGT,Int.reduceGE,Int.reduceBEq,Int.reduceBNe,Int.reduceEq,Int.reduceNe,Int.reduceNeg,l1,l2,l3,e1,e2,e3,eI,hxi,hld,e4,eC,hlen,g0,cA,cB,e5,hyi,st,eA,v1',g1,hx,hl]
  exact ⟨_,_,_,rfl,og,⟨y,_,rfl,rfl,w7⟩,fg⟩
set_option maxHeartbeats 4000000 in
set_option maxRecDepth 8000 in
theorem sdo_op1 (k:KS F) (hf:h.floor≤h.next) (v:Store.RI h cs s fp) (qe qi qa qt:Int) (okq:(⟨qe,1,qi,qa,qt⟩:Request).Ok) (ok:s.Ok) (sm:s.Small):
 SDoStoreAt F Z h cs s ⟨qe,1,qi,qa,qt⟩:=by
 unfold SDoStoreAt
 obtain ⟨l1,l2,l3⟩:=Store.lenI v
 obtain ⟨cs1,h1,fr,e1,o1,v1,f1⟩:=l13Copy_c (Z:=Z) k hf v sm
 have vh:=Store.okI.on v o1
 have e2:=sStoreOk_run (Z:=Z) k vh ok
 have e3:=l13Find_run (Z:=Z) k.s13 vh qi
 have eI:=fun (lo hi:Int) (h:Heap)=>l01In_run (F:=F) (Z:=Z) k.s01 1 lo hi h
 simp only[inR] at eI
 obtain ⟨y,p,rfl,hp,w⟩:=v1
 subst hp
 rw[call_run F Z (k.s13.lk (g:=381) rfl) _ _ rfl]
 simp only[Request.enc]
 cases hg:s.good with
 | false=>
   rw[hg] at e2
   rw[dost_bad (by simp[hg])]
   simp only[rn,RO.dst,lk,drop,Nat.reduceBEq,Nat.reduceAdd,Nat.reduceLeDiff,↓reduceIte,reduceCtorEq,Bool.and_self,Bool.and_true,Bool.true_and,Bool.and_false,Bool.false_and,Int.reduceLT,Int.reduceLE,Int.reduceGT,Int.reduceGE,Int.reduceBEq,Int.reduceBNe,Int.reduceEq,Int.reduceNe,Int.reduceNeg,l1,l2,l3,e1,e2]
   exact ⟨_,_,_,rfl,o1,⟨y,_,rfl,rfl,w⟩,f1⟩
 | true=>
 rw[hg] at e2
 have hin:(s.good&&inR (⟨qe,1,qi,qa,qt⟩:Request).op 0 8)=true:=by rw[hg];rfl
 obtain ⟨x,p,rfl,hp,wx⟩:=vh
 subst hp
 rcases wx.found (fun t=>decide (t.lo≤qi)&&decide (qi≤t.hi)) with q | ⟨i,q,hi,hpi,_⟩
 ·change findId s.shards qi= -1 at q
  rw[dost_away hin q]
  rw[q] at e3
  simp only[rn,RO.dst,lk,drop,Nat.reduceBEq,Nat.reduceAdd,Nat.reduceLeDiff,↓reduceIte,reduceCtorEq,Bool.and_self,Bool.and_true,Bool.true_and,Bool.and_false,Bool.false_and,Int.reduceLT,Int.reduceLE,Int.reduceGT,Int.reduceGE,Int.reduceBEq,Int.reduceBNe,Int.reduceEq,Int.reduceNe,Int.reduceNeg,l1,l2,l3,e1,e2,e3,eI]
  exact ⟨_,_,_,rfl,o1,⟨y,_,rfl,rfl,w⟩,f1⟩
 change findId s.shards qi=(i:Int) at q
 rw[q] at e3
 rw[dost_at hin q,Shard.at_get hi]
 have g0: ¬(i:Int)<0:=by omega
 have hxi:=wx.idx hi
 have hyi:=w.idx hi
 have okX:=ok.shards _ (List.getElem_mem hi)
 have smX:=sm.2 _ (List.getElem_mem hi)
 have smf:s.shards[i].finished.length≤1048576:=smX.2
 have smb:s.shards[i].book.list.length≤1048576:=smX.1
 have hgd:s.shards[i].good=true:=by
  have:=Store.fit_at hg hi
  simp only[Store.fits,Bool.and_eq_true,Shard.at_get hi] at this
  exact this.1
 have hso:=Shard.good_sorted hgd
 have hbk:bookOk s.shards[i].book.list=true:=by
  simp only[Bool.and_eq_true,Shard.good,Shard.head] at hgd
  exact hgd.1.2.2.2.1
 obtain ⟨r,fx,hld,hR0,_⟩:=wx.one hi
 obtain ⟨cs4,h4,ft,e4,o4,u4,f4⟩:=l13CopyShard_c (Z:=Z) k.s10 k.s13 (o1.le hf) hR0 smX
 obtain ⟨xb,pb,xf,pf,rfl,rfl,wb,wf⟩:=hR0
 obtain ⟨b4,pb4,f4c,pf4,rfl,hq4,wb4,wf4⟩:=u4
 subst hq4
 obtain ⟨n4a,n4b,n4c⟩:=List.nodup_append.1 f4.nd
 have o04:=o1.trans o4
 have o4h:=o04.le
 have w4:=w.on Shard.okI o4
 have lt4:=w4.lt Shard.okI
 have lt4f:=wf4.lt (Fl.ok _)
 have eC:=l13Has_run (F:=F) (Z:=Z) k.s13 wf4 ⟨qt,qi⟩
 simp only[Fin.enc] at eC
 have hlen:=wf4.len
 cases cA:(s.shards[i].epoch !=qe) with
 | true=>
   have cA':(s.shards[i].epoch==qe)=false:=by simpa using cA
   have hR:refuse s.shards[i] ⟨qe,1,qi,qa,qt⟩=9:=by simp[refuse,inR,Request.ends,Request.fin,cA']
   rw[hR]
   simp only[show ((9:Int)==0)=false from rfl,cond_false]
   simp only[rn,RO.dst,lk,drop,Nat.reduceBEq,Nat.reduceAdd,Nat.reduceLeDiff,↓reduceIte,reduceCtorEq,Bool.and_self,Bool.and_true,Bool.true_and,Bool.and_false,Bool.false_and,Int.reduceLT,Int.reduceLE,Int.reduceGT,Int.reduceGE,Int.reduceBEq,Int.reduceBNe,Int.reduceEq,Int.reduceNe,Int.reduceNeg,l1,l2,l3,e1,e2,e3,eI,hxi,hld,e4,eC,hlen,g0,cA]
   exact ⟨_,_,_,rfl,o04,⟨y,_,rfl,rfl,w4⟩,f1⟩
 | false=>
 have cA':(s.shards[i].epoch==qe)=true:=by simpa using cA
 cases cB:(s.shards[i].state==1) with
 | true=>
   have hR:refuse s.shards[i] ⟨qe,1,qi,qa,qt⟩=10:=by simp[refuse,inR,Request.ends,Request.fin,cA',cB]
   rw[hR]
   simp only[show ((10:Int)==0)=false from rfl,cond_false]
   simp only[rn,RO.dst,lk,drop,Nat.reduceBEq,Nat.reduceAdd,Nat.reduceLeDiff,↓reduceIte,reduceCtorEq,Bool.and_self,Bool.and_true,Bool.true_and,Bool.and_false,Bool.false_and,Int.reduceLT,Int.reduceLE,Int.reduceGT,Int.reduceGE,Int.reduceBEq,Int.reduceBNe,Int.reduceEq,Int.reduceNe,Int.reduceNeg,l1,l2,l3,e1,e2,e3,eI,hxi,hld,e4,eC,hlen,g0,cA,cB]
   exact ⟨_,_,_,rfl,o04,⟨y,_,rfl,rfl,w4⟩,f1⟩
 | false=>
 have hR:refuse s.shards[i] ⟨qe,1,qi,qa,qt⟩=0:=by simp[refuse,inR,Request.ends,Request.fin,cA',cB]
 rw[hR]
 simp only[beq_self_eq_true,cond_true]
 obtain ⟨yb,h5,fb,e5,o5,u5,f5⟩:=sCloseAccount_c (Z:=Z) k.s10 (o4h hf) wb4 qi okX.book.list smb
 have ltb:=u5.lt (Fl.ok _)
 have hA:doShard s.shards[i] ⟨qe,1,qi,qa,qt⟩=⟨s.shards[i].lo,s.shards[i].hi,s.shards[i].state,s.shards[i].epoch,⟨(doBook s.shards[i].book.list ⟨qe,1,qi,qa,qt⟩).1⟩,s.shards[i].finished⟩:=by simp[doShard,Request.ends,Request.fin,cA',cB]
 obtain ⟨g,fq,st,og,fg,w7,u7⟩:=row_set (h:=h) (o04.trans o5) hf (w4.on Shard.okI o5) f1 hi u5 (wf4.on (Fl.ok _) o5) (List.nodup_append.2 ⟨f5.nd,n4b,fun a ha b hb e=>by subst e;have:=f5.lo a ha;have:=lt4f a hb;omega⟩) (fun id hid=>by
  rcases List.mem_append.1 hid with h1 | h1
  ·have:=f5.lo id h1;have:=o4.ext.1;omega
  ·exact f4.lo id (List.mem_append_right _ h1)) (n:=h1.next) (w.lt Shard.okI) o1.ext.1
 rw[hA]
 have eA:=l10Find_run (F:=F) (Z:=Z) k.s10 u7 qi
 rcases val_cases (a:=qi) (doBook_srt hbk ⟨qe,1,qi,qa,qt⟩) with ⟨v1,v2⟩ | ⟨v1,v2,v3,v4⟩ | ⟨v1,j,v2,v3,v4,v5,v6⟩
 ·have v1':((doBook s.shards[i].book.list ⟨qe,1,qi,qa,qt⟩).2==0)=false:=by simpa using v1
  rw[v2]
  change ((bookDo s.shards[i].book.list qi closeF).2==0)=false at v1'
  simp only[rn,RO.dst,lk,drop,Nat.reduceBEq,Nat.reduceAdd,Nat.reduceLeDiff,↓reduceIte,reduceCtorEq,Bool.and_self,Bool.and_true,Bool.true_and,Bool.and_false,Bool.false_and,Int.reduceLT,Int.reduceLE,Int.reduceGT,Int.reduceGE,Int.reduceBEq,Int.reduceBNe,Int.reduceEq,Int.reduceNe,Int.reduceNeg,l1,l2,l3,e1,e2,e3,eI,hxi,hld,e4,eC,hlen,g0,cA,cB,e5,hyi,st,eA,v1']
  exact ⟨_,_,_,rfl,og,⟨y,_,rfl,rfl,w7⟩,fg⟩
 ·have v1':((doBook s.shards[i].book.list ⟨qe,1,qi,qa,qt⟩).2==0)=true:=by simpa using v1
  rw[v4]
  change ((bookDo s.shards[i].book.list qi closeF).2==0)=true at v1'
  change accAt (bookDo s.shards[i].book.list qi closeF).1 qi= -1 at v3
  rw[v3] at eA
  simp only[rn,RO.dst,lk,drop,Nat.reduceBEq,Nat.reduceAdd,Nat.reduceLeDiff,↓reduceIte,reduceCtorEq,Bool.and_self,Bool.and_true,Bool.true_and,Bool.and_false,Bool.false_and,Int.reduceLT,Int.reduceLE,Int.reduceGT,Int.reduceGE,Int.reduceBEq,Int.reduceBNe,Int.reduceEq,Int.reduceNe,Int.reduceNeg,l1,l2,l3,e1,e2,e3,eI,hxi,hld,e4,eC,hlen,g0,cA,cB,e5,hyi,st,eA,v1']
  exact ⟨_,_,_,rfl,og,⟨y,_,rfl,rfl,w7⟩,fg⟩
 ·have v1':((doBook s.shards[i].book.list ⟨qe,1,qi,qa,qt⟩).2==0)=true:=by simpa using v1
  rw[v6,Account.at_get v5]
  change ((bookDo s.shards[i].book.list qi closeF).2==0)=true at v1'
  change accAt (bookDo s.shards[i].book.list qi closeF).1 qi=(j:Int) at v4
  have g1:(j:Int)≥0:=by omega
  rw[v4] at eA
  have hx:=u7.idx v5
  have hl:=u7.load v5
  simp only[Account.enc] at hl
  simp only[rn,RO.dst,lk,drop,Nat.reduceBEq,Nat.reduceAdd,Nat.reduceLeDiff,↓reduceIte,reduceCtorEq,Bool.and_self,Bool.and_true,Bool.true_and,Bool.and_false,Bool.false_and,Int.reduceLT,Int.reduceLE,Int.reduceGT,Int.reduceGE,Int.reduceBEq,Int.reduceBNe,Int.reduceEq,Int.reduceNe,Int.reduceNeg,l1,l2,l3,e1,e2,e3,eI,hxi,hld,e4,eC,hlen,g0,cA,cB,e5,hyi,st,eA,v1',g1,hx,hl]
  exact ⟨_,_,_,rfl,og,⟨y,_,rfl,rfl,w7⟩,fg⟩
set_option maxHeartbeats 4000000 in
set_option maxRecDepth 8000 in
theorem sdo_op2 (k:KS F) (hf:h.floor≤h.next) (v:Store.RI h cs s fp) (qe qi qa qt:Int) (okq:(⟨qe,2,qi,qa,qt⟩:Request).Ok) (ok:s.Ok) (sm:s.Small):
 SDoStoreAt F Z h cs s ⟨qe,2,qi,qa,qt⟩:=by
 unfold SDoStoreAt
 obtain ⟨l1,l2,l3⟩:=Store.lenI v
 obtain ⟨cs1,h1,fr,e1,o1,v1,f1⟩:=l13Copy_c (Z:=Z) k hf v sm
 have vh:=Store.okI.on v o1
 have e2:=sStoreOk_run (Z:=Z) k vh ok
 have e3:=l13Find_run (Z:=Z) k.s13 vh qi
 have eI:=fun (lo hi:Int) (h:Heap)=>l01In_run (F:=F) (Z:=Z) k.s01 2 lo hi h
 simp only[inR] at eI
 obtain ⟨y,p,rfl,hp,w⟩:=v1
 subst hp
 rw[call_run F Z (k.s13.lk (g:=381) rfl) _ _ rfl]
 simp only[Request.enc]
 cases hg:s.good with
 | false=>
   rw[hg] at e2
   rw[dost_bad (by simp[hg])]
   simp only[rn,RO.dst,lk,drop,Nat.reduceBEq,Nat.reduceAdd,Nat.reduceLeDiff,↓reduceIte,reduceCtorEq,Bool.and_self,Bool.and_true,Bool.true_and,Bool.and_false,Bool.false_and,Int.reduceLT,Int.reduceLE,Int.reduceGT,Int.reduceGE,Int.reduceBEq,Int.reduceBNe,Int.reduceEq,Int.reduceNe,Int.reduceNeg,l1,l2,l3,e1,e2]
   exact ⟨_,_,_,rfl,o1,⟨y,_,rfl,rfl,w⟩,f1⟩
 | true=>
 rw[hg] at e2
 have hin:(s.good&&inR (⟨qe,2,qi,qa,qt⟩:Request).op 0 8)=true:=by rw[hg];rfl
 obtain ⟨x,p,rfl,hp,wx⟩:=vh
 subst hp
 rcases wx.found (fun t=>decide (t.lo≤qi)&&decide (qi≤t.hi)) with q | ⟨i,q,hi,hpi,_⟩
 ·change findId s.shards qi= -1 at q
  rw[dost_away hin q]
  rw[q] at e3
  simp only[rn,RO.dst,lk,drop,Nat.reduceBEq,Nat.reduceAdd,Nat.reduceLeDiff,↓reduceIte,reduceCtorEq,Bool.and_self,Bool.and_true,Bool.true_and,Bool.and_false,Bool.false_and,Int.reduceLT,Int.reduceLE,Int.reduceGT,Int.reduceGE,Int.reduceBEq,Int.reduceBNe,Int.reduceEq,Int.reduceNe,Int.reduceNeg,l1,l2,l3,e1,e2,e3,eI]
  exact ⟨_,_,_,rfl,o1,⟨y,_,rfl,rfl,w⟩,f1⟩
 change findId s.shards qi=(i:Int) at q
 rw[q] at e3
 rw[dost_at hin q,Shard.at_get hi]
 have g0: ¬(i:Int)<0:=by omega
 have hxi:=wx.idx hi
 have hyi:=w.idx hi
 have okX:=ok.shards _ (List.getElem_mem hi)
 have smX:=sm.2 _ (List.getElem_mem hi)
 have smf:s.shards[i].finished.length≤1048576:=smX.2
 have smb:s.shards[i].book.list.length≤1048576:=smX.1
 have hgd:s.shards[i].good=true:=by
  have:=Store.fit_at hg hi
  simp only[Store.fits,Bool.and_eq_true,Shard.at_get hi] at this
  exact this.1
 have hso:=Shard.good_sorted hgd
 have hbk:bookOk s.shards[i].book.list=true:=by
  simp only[Bool.and_eq_true,Shard.good,Shard.head] at hgd
  exact hgd.1.2.2.2.1
 obtain ⟨r,fx,hld,hR0,_⟩:=wx.one hi
 obtain ⟨cs4,h4,ft,e4,o4,u4,f4⟩:=l13CopyShard_c (Z:=Z) k.s10 k.s13 (o1.le hf) hR0 smX
 obtain ⟨xb,pb,xf,pf,rfl,rfl,wb,wf⟩:=hR0
 obtain ⟨b4,pb4,f4c,pf4,rfl,hq4,wb4,wf4⟩:=u4
 subst hq4
 obtain ⟨n4a,n4b,n4c⟩:=List.nodup_append.1 f4.nd
 have o04:=o1.trans o4
 have o4h:=o04.le
 have w4:=w.on Shard.okI o4
 have lt4:=w4.lt Shard.okI
 have lt4f:=wf4.lt (Fl.ok _)
 have eC:=l13Has_run (F:=F) (Z:=Z) k.s13 wf4 ⟨qt,qi⟩
 simp only[Fin.enc] at eC
 have hlen:=wf4.len
 cases cA:(s.shards[i].epoch !=qe) with
 | true=>
   have cA':(s.shards[i].epoch==qe)=false:=by simpa using cA
   have hR:refuse s.shards[i] ⟨qe,2,qi,qa,qt⟩=9:=by simp[refuse,inR,Request.ends,Request.fin,cA']
   rw[hR]
   simp only[show ((9:Int)==0)=false from rfl,cond_false]
   simp only[rn,RO.dst,lk,drop,Nat.reduceBEq,Nat.reduceAdd,Nat.reduceLeDiff,↓reduceIte,reduceCtorEq,Bool.and_self,Bool.and_true,Bool.true_and,Bool.and_false,Bool.false_and,Int.reduceLT,Int.reduceLE,Int.reduceGT,Int.reduceGE,Int.reduceBEq,Int.reduceBNe,Int.reduceEq,Int.reduceNe,Int.reduceNeg,l1,l2,l3,e1,e2,e3,eI,hxi,hld,e4,eC,hlen,g0,cA]
   exact ⟨_,_,_,rfl,o04,⟨y,_,rfl,rfl,w4⟩,f1⟩
 | false=>
 have cA':(s.shards[i].epoch==qe)=true:=by simpa using cA
 cases cB:(s.shards[i].state==1) with
 | true=>
   have hR:refuse s.shards[i] ⟨qe,2,qi,qa,qt⟩=10:=by simp[refuse,inR,Request.ends,Request.fin,cA',cB]
   rw[hR]
   simp only[show ((10:Int)==0)=false from rfl,cond_false]
   simp only[rn,RO.dst,lk,drop,Nat.reduceBEq,Nat.reduceAdd,Nat.reduceLeDiff,↓reduceIte,reduceCtorEq,Bool.and_self,Bool.and_true,Bool.true_and,Bool.and_false,Bool.false_and,Int.reduceLT,Int.reduceLE,Int.reduceGT,Int.reduceGE,Int.reduceBEq,Int.reduceBNe,Int.reduceEq,Int.reduceNe,Int.reduceNeg,l1,l2,l3,e1,e2,e3,eI,hxi,hld,e4,eC,hlen,g0,cA,cB]
   exact ⟨_,_,_,rfl,o04,⟨y,_,rfl,rfl,w4⟩,f1⟩
 | false=>
 have hR:refuse s.shards[i] ⟨qe,2,qi,qa,qt⟩=0:=by simp[refuse,inR,Request.ends,Request.fin,cA',cB]
 rw[hR]
 simp only[beq_self_eq_true,cond_true]
 obtain ⟨yb,h5,fb,e5,o5,u5,f5⟩:=sDeposit_c (Z:=Z) k.s10 (o4h hf) wb4 qi qa okq.amount okX.book.list smb
 have ltb:=u5.lt (Fl.ok _)
 have hA:doShard s.shards[i] ⟨qe,2,qi,qa,qt⟩=⟨s.shards[i].lo,s.shards[i].hi,s.shards[i].state,s.shards[i].epoch,⟨(doBook s.shards[i].book.list ⟨qe,2,qi,qa,qt⟩).1⟩,s.shards[i].finished⟩:=by simp[doShard,Request.ends,Request.fin,cA',cB]
 obtain ⟨g,fq,st,og,fg,w7,u7⟩:=row_set (h:=h) (o04.trans o5) hf (w4.on Shard.okI o5) f1 hi u5 (wf4.on (Fl.ok _) o5) (List.nodup_append.2 ⟨f5.nd,n4b,fun a ha b hb e=>by subst e;have:=f5.lo a ha;have:=lt4f a hb;omega⟩) (fun id hid=>by
  rcases List.mem_append.1 hid with h1 | h1
  ·have:=f5.lo id h1;have:=o4.ext.1;omega
  ·exact f4.lo id (List.mem_append_right _ h1)) (n:=h1.next) (w.lt Shard.okI) o1.ext.1
 rw[hA]
 have eA:=l10Find_run (F:=F) (Z:=Z) k.s10 u7 qi
 rcases val_cases (a:=qi) (doBook_srt hbk ⟨qe,2,qi,qa,qt⟩) with ⟨v1,v2⟩ | ⟨v1,v2,v3,v4⟩ | ⟨v1,j,v2,v3,v4,v5,v6⟩
 ·have v1':((doBook s.shards[i].book.list ⟨qe,2,qi,qa,qt⟩).2==0)=false:=by simpa using v1
  rw[v2]
  change ((bookDo s.shards[i].book.list qi (depF qa)).2==0)=false at v1'
  simp only[rn,RO.dst,lk,drop,Nat.reduceBEq,Nat.reduceAdd,Nat.reduceLeDiff,↓reduceIte,reduceCtorEq,Bool.and_self,Bool.and_true,Bool.true_and,Bool.and_false,Bool.false_and,Int.reduceLT,Int.reduceLE,Int.reduceGT,Int.reduceGE,Int.reduceBEq,Int.reduceBNe,Int.reduceEq,Int.reduceNe,Int.reduceNeg,l1,l2,l3,e1,e2,e3,eI,hxi,hld,e4,eC,hlen,g0,cA,cB,e5,hyi,st,eA,v1']
  exact ⟨_,_,_,rfl,og,⟨y,_,rfl,rfl,w7⟩,fg⟩
 ·have v1':((doBook s.shards[i].book.list ⟨qe,2,qi,qa,qt⟩).2==0)=true:=by simpa using v1
  rw[v4]
  change ((bookDo s.shards[i].book.list qi (depF qa)).2==0)=true at v1'
  change accAt (bookDo s.shards[i].book.list qi (depF qa)).1 qi= -1 at v3
  rw[v3] at eA
  simp only[rn,RO.dst,lk,drop,Nat.reduceBEq,Nat.reduceAdd,Nat.reduceLeDiff,↓reduceIte,reduceCtorEq,Bool.and_self,Bool.and_true,Bool.true_and,Bool.and_false,Bool.false_and,Int.reduceLT,Int.reduceLE,Int.reduceGT,Int.reduceGE,Int.reduceBEq,Int.reduceBNe,Int.reduceEq,Int.reduceNe,Int.reduceNeg,l1,l2,l3,e1,e2,e3,eI,hxi,hld,e4,eC,hlen,g0,cA,cB,e5,hyi,st,eA,v1']
  exact ⟨_,_,_,rfl,og,⟨y,_,rfl,rfl,w7⟩,fg⟩
 ·have v1':((doBook s.shards[i].book.list ⟨qe,2,qi,qa,qt⟩).2==0)=true:=by simpa using v1
  rw[v6,Account.at_get v5]
  change ((bookDo s.shards[i].book.list qi (depF qa)).2==0)=true at v1'
  change accAt (bookDo s.shards[i].book.list qi (depF qa)).1 qi=(j:Int) at v4
  have g1:(j:Int)≥0:=by omega
  rw[v4] at eA
  have hx:=u7.idx v5
  have hl:=u7.load v5
  simp only[Account.enc] at hl
  simp only[rn,RO.dst,lk,drop,Nat.reduceBEq,Nat.reduceAdd,Nat.reduceLeDiff,↓reduceIte,reduceCtorEq,Bool.and_self,Bool.and_true,Bool.true_and,Bool.and_false,Bool.false_and,Int.reduceLT,Int.reduceLE,Int.reduceGT,Int.reduceGE,Int.reduceBEq,Int.reduceBNe,Int.reduceEq,Int.reduceNe,Int.reduceNeg,l1,l2,l3,e1,e2,e3,eI,hxi,hld,e4,eC,hlen,g0,cA,cB,e5,hyi,st,eA,v1',g1,hx,hl]
  exact ⟨_,_,_,rfl,og,⟨y,_,rfl,rfl,w7⟩,fg⟩
end
end Go.Proofs.Ytjaideekkbpalaa.A
namespace Go.Proofs.Ytjaideekkbpalaa.A
open Go
set_option linter.unusedSimpArgs false
set_option linter.unusedVariables false
section
variable {F:Nat→Option RF} {Z:CallF} {h:Heap} {cs:List Cell} {fp:List Nat} {s:Store}
set_option maxHeartbeats 4000000 in
set_option maxRecDepth 8000 in
theorem sdo_op3 (k:KS F) (hf:h.floor≤h.next) (v:Store.RI h cs s fp) (qe qi qa qt:Int) (okq:(⟨qe,3,qi,qa,qt⟩:Request).Ok) (ok:s.Ok) (sm:s.Small):
 SDoStoreAt F Z h cs s ⟨qe,3,qi,qa,qt⟩:=by
 unfold SDoStoreAt
 obtain ⟨l1,l2,l3⟩:=Store.lenI v
 obtain ⟨cs1,h1,fr,e1,o1,v1,f1⟩:=l13Copy_c (Z:=Z) k hf v sm
 have vh:=Store.okI.on v o1
 have e2:=sStoreOk_run (Z:=Z) k vh ok
 have e3:=l13Find_run (Z:=Z) k.s13 vh qi
 have eI:=fun (lo hi:Int) (h:Heap)=>l01In_run (F:=F) (Z:=Z) k.s01 3 lo hi h
 simp only[inR] at eI
 obtain ⟨y,p,rfl,hp,w⟩:=v1
 subst hp
 rw[call_run F Z (k.s13.lk (g:=381) rfl) _ _ rfl]
 simp only[Request.enc]
 cases hg:s.good with
 | false=>
   rw[hg] at e2
   rw[dost_bad (by simp[hg])]
   simp only[rn,RO.dst,lk,drop,Nat.reduceBEq,Nat.reduceAdd,Nat.reduceLeDiff,↓reduceIte,reduceCtorEq,Bool.and_self,Bool.and_true,Bool.true_and,Bool.and_false,Bool.false_and,Int.reduceLT,Int.reduceLE,Int.reduceGT,Int.reduceGE,Int.reduceBEq,Int.reduceBNe,Int.reduceEq,Int.reduceNe,Int.reduceNeg,l1,l2,l3,e1,e2]
   exact ⟨_,_,_,rfl,o1,⟨y,_,rfl,rfl,w⟩,f1⟩
 | true=>
 rw[hg] at e2
 have hin:(s.good&&inR (⟨qe,3,qi,qa,qt⟩:Request).op 0 8)=true:=by rw[hg];rfl
 obtain ⟨x,p,rfl,hp,wx⟩:=vh
 subst hp
 rcases wx.found (fun t=>decide (t.lo≤qi)&&decide (qi≤t.hi)) with q | ⟨i,q,hi,hpi,_⟩
 ·change findId s.shards qi= -1 at q
  rw[dost_away hin q]
  rw[q] at e3
  simp only[rn,RO.dst,lk,drop,Nat.reduceBEq,Nat.reduceAdd,Nat.reduceLeDiff,↓reduceIte,reduceCtorEq,Bool.and_self,Bool.and_true,Bool.true_and,Bool.and_false,Bool.false_and,Int.reduceLT,Int.reduceLE,Int.reduceGT,Int.reduceGE,Int.reduceBEq,Int.reduceBNe,Int.reduceEq,Int.reduceNe,Int.reduceNeg,l1,l2,l3,e1,e2,e3,eI]
  exact ⟨_,_,_,rfl,o1,⟨y,_,rfl,rfl,w⟩,f1⟩
 change findId s.shards qi=(i:Int) at q
 rw[q] at e3
 rw[dost_at hin q,Shard.at_get hi]
 have g0: ¬(i:Int)<0:=by omega
 have hxi:=wx.idx hi
 have hyi:=w.idx hi
 have okX:=ok.shards _ (List.getElem_mem hi)
 have smX:=sm.2 _ (List.getElem_mem hi)
 have smf:s.shards[i].finished.length≤1048576:=smX.2
 have smb:s.shards[i].book.list.length≤1048576:=smX.1
 have hgd:s.shards[i].good=true:=by
  have:=Store.fit_at hg hi
  simp only[Store.fits,Bool.and_eq_true,Shard.at_get hi] at this
  exact this.1
 have hso:=Shard.good_sorted hgd
 have hbk:bookOk s.shards[i].book.list=true:=by
  simp only[Bool.and_eq_true,Shard.good,Shard.head] at hgd
  exact hgd.1.2.2.2.1
 obtain ⟨r,fx,hld,hR0,_⟩:=wx.one hi
 obtain ⟨cs4,h4,ft,e4,o4,u4,f4⟩:=l13CopyShard_c (Z:=Z) k.s10 k.s13 (o1.le hf) hR0 smX
 obtain ⟨xb,pb,xf,pf,rfl,rfl,wb,wf⟩:=hR0
 obtain ⟨b4,pb4,f4c,pf4,rfl,hq4,wb4,wf4⟩:=u4
 subst hq4
 obtain ⟨n4a,n4b,n4c⟩:=List.nodup_append.1 f4.nd
 have o04:=o1.trans o4
 have o4h:=o04.le
 have w4:=w.on Shard.okI o4
 have lt4:=w4.lt Shard.okI
 have lt4f:=wf4.lt (Fl.ok _)
 have eC:=l13Has_run (F:=F) (Z:=Z) k.s13 wf4 ⟨qt,qi⟩
 simp only[Fin.enc] at eC
 have hlen:=wf4.len
 cases cA:(s.shards[i].epoch !=qe) with
 | true=>
   have cA':(s.shards[i].epoch==qe)=false:=by simpa using cA
   have hR:refuse s.shards[i] ⟨qe,3,qi,qa,qt⟩=9:=by simp[refuse,inR,Request.ends,Request.fin,cA']
   rw[hR]
   simp only[show ((9:Int)==0)=false from rfl,cond_false]
   simp only[rn,RO.dst,lk,drop,Nat.reduceBEq,Nat.reduceAdd,Nat.reduceLeDiff,↓reduceIte,reduceCtorEq,Bool.and_self,Bool.and_true,Bool.true_and,Bool.and_false,Bool.false_and,Int.reduceLT,Int.reduceLE,Int.reduceGT,Int.reduceGE,Int.reduceBEq,Int.reduceBNe,Int.reduceEq,Int.reduceNe,Int.reduceNeg,l1,l2,l3,e1,e2,e3,eI,hxi,hld,e4,eC,hlen,g0,cA]
   exact ⟨_,_,_,rfl,o04,⟨y,_,rfl,rfl,w4⟩,f1⟩
 | false=>
 have cA':(s.shards[i].epoch==qe)=true:=by simpa using cA
 cases cB:(s.shards[i].state==1) with
 | true=>
   have hR:refuse s.shards[i] ⟨qe,3,qi,qa,qt⟩=10:=by simp[refuse,inR,Request.ends,Request.fin,cA',cB]
   rw[hR]
   simp only[show ((10:Int)==0)=false from rfl,cond_false]
   simp only[rn,RO.dst,lk,drop,Nat.reduceBEq,Nat.reduceAdd,Nat.reduceLeDiff,↓reduceIte,reduceCtorEq,Bool.and_self,Bool.and_true,Bool.true_and,Bool.and_false,Bool.false_and,Int.reduceLT,Int.reduceLE,Int.reduceGT,Int.reduceGE,Int.reduceBEq,Int.reduceBNe,Int.reduceEq,Int.reduceNe,Int.reduceNeg,l1,l2,l3,e1,e2,e3,eI,hxi,hld,e4,eC,hlen,g0,cA,cB]
   exact ⟨_,_,_,rfl,o04,⟨y,_,rfl,rfl,w4⟩,f1⟩
 | false=>
 have hR:refuse s.shards[i] ⟨qe,3,qi,qa,qt⟩=0:=by simp[refuse,inR,Request.ends,Request.fin,cA',cB]
 rw[hR]
 simp only[beq_self_eq_true,cond_true]
 obtain ⟨yb,h5,fb,e5,o5,u5,f5⟩:=sWithdraw_c (Z:=Z) k.s10 (o4h hf) wb4 qi qa okq.amount okX.book.list smb
 have ltb:=u5.lt (Fl.ok _)
 have hA:doShard s.shards[i] ⟨qe,3,qi,qa,qt⟩=⟨s.shards[i].lo,s.shards[i].hi,s.shards[i].state,s.shards[i].epoch,⟨(doBook s.shards[i].book.list ⟨qe,3,qi,qa,qt⟩).1⟩,s.shards[i].finished⟩:=by simp[doShard,Request.ends,Request.fin,cA',cB]
 obtain ⟨g,fq,st,og,fg,w7,u7⟩:=row_set (h:=h) (o04.trans o5) hf (w4.on Shard.okI o5) f1 hi u5 (wf4.on (Fl.ok _) o5) (List.nodup_append.2 ⟨f5.nd,n4b,fun a ha b hb e=>by subst e;have:=f5.lo a ha;have:=lt4f a hb;omega⟩) (fun id hid=>by
  rcases List.mem_append.1 hid with h1 | h1
  ·have:=f5.lo id h1;have:=o4.ext.1;omega
  ·exact f4.lo id (List.mem_append_right _ h1)) (n:=h1.next) (w.lt Shard.okI) o1.ext.1
 rw[hA]
 have eA:=l10Find_run (F:=F) (Z:=Z) k.s10 u7 qi
 rcases val_cases (a:=qi) (doBook_srt hbk ⟨qe,3,qi,qa,qt⟩) with ⟨v1,v2⟩ | ⟨v1,v2,v3,v4⟩ | ⟨v1,j,v2,v3,v4,v5,v6⟩
 ·have v1':((doBook s.shards[i].book.list ⟨qe,3,qi,qa,qt⟩).2==0)=false:=by simpa using v1
  rw[v2]
  change ((bookDo s.shards[i].book.list qi (witF qa)).2==0)=false at v1'
  simp only[rn,RO.dst,lk,drop,Nat.reduceBEq,Nat.reduceAdd,Nat.reduceLeDiff,↓reduceIte,reduceCtorEq,Bool.and_self,Bool.and_true,Bool.true_and,Bool.and_false,Bool.false_and,Int.reduceLT,Int.reduceLE,Int.reduceGT,Int.reduceGE,Int.reduceBEq,Int.reduceBNe,Int.reduceEq,Int.reduceNe,Int.reduceNeg,l1,l2,l3,e1,e2,e3,eI,hxi,hld,e4,eC,hlen,g0,cA,cB,e5,hyi,st,eA,v1']
  exact ⟨_,_,_,rfl,og,⟨y,_,rfl,rfl,w7⟩,fg⟩
 ·have v1':((doBook s.shards[i].book.list ⟨qe,3,qi,qa,qt⟩).2==0)=true:=by simpa using v1
  rw[v4]
  change ((bookDo s.shards[i].book.list qi (witF qa)).2==0)=true at v1'
  change accAt (bookDo s.shards[i].book.list qi (witF qa)).1 qi= -1 at v3
  rw[v3] at eA
  simp only[rn,RO.dst,lk,drop,Nat.reduceBEq,Nat.reduceAdd,Nat.reduceLeDiff,↓reduceIte,reduceCtorEq,Bool.and_self,Bool.and_true,Bool.true_and,Bool.and_false,Bool.false_and,Int.reduceLT,Int.reduceLE,Int.reduceGT,Int.reduceGE,Int.reduceBEq,Int.reduceBNe,Int.reduceEq,Int.reduceNe,Int.reduceNeg,l1,l2,l3,e1,e2,e3,eI,hxi,hld,e4,eC,hlen,g0,cA,cB,e5,hyi,st,eA,v1']
  exact ⟨_,_,_,rfl,og,⟨y,_,rfl,rfl,w7⟩,fg⟩
 ·have v1':((doBook s.shards[i].book.list ⟨qe,3,qi,qa,qt⟩).2==0)=true:=by simpa using v1
  rw[v6,Account.at_get v5]
  change ((bookDo s.shards[i].book.list qi (witF qa)).2==0)=true at v1'
  change accAt (bookDo s.shards[i].book.list qi (witF qa)).1 qi=(j:Int) at v4
  have g1:(j:Int)≥0:=by omega
  rw[v4] at eA
  have hx:=u7.idx v5
  have hl:=u7.load v5
  simp only[Account.enc] at hl
  simp only[rn,RO.dst,lk,drop,Nat.reduceBEq,Nat.reduceAdd,Nat.reduceLeDiff,↓reduceIte,reduceCtorEq,Bool.and_self,Bool.and_true,Bool.true_and,Bool.and_false,Bool.false_and,Int.reduceLT,Int.reduceLE,Int.reduceGT,Int.reduceGE,Int.reduceBEq,Int.reduceBNe,Int.reduceEq,Int.reduceNe,Int.reduceNeg,l1,l2,l3,e1,e2,e3,eI,hxi,hld,e4,eC,hlen,g0,cA,cB,e5,hyi,st,eA,v1',g1,hx,hl]
  exact ⟨_,_,_,rfl,og,⟨y,_,rfl,rfl,w7⟩,fg⟩
set_option maxHeartbeats 4000000 in
set_option maxRecDepth 8000 in
theorem sdo_op4 (k:KS F) (hf:h.floor≤h.next) (v:Store.RI h cs s fp) (qe qi qa qt:Int) (okq:(⟨qe,4,qi,qa,qt⟩:Request).Ok) (ok:s.Ok) (sm:s.Small):
 SDoStoreAt F Z h cs s ⟨qe,4,qi,qa,qt⟩:=by
 unfold SDoStoreAt
 obtain ⟨l1,l2,l3⟩:=Store.lenI v
 obtain ⟨cs1,h1,fr,e1,o1,v1,f1⟩:=l13Copy_c (Z:=Z) k hf v sm
 have vh:=Store.okI.on v o1
 have e2:=sStoreOk_run (Z:=Z) k vh ok
 have e3:=l13Find_run (Z:=Z) k.s13 vh qi
 have eI:=fun (lo hi:Int) (h:Heap)=>l01In_run (F:=F) (Z:=Z) k.s01 4 lo hi h
 simp only[inR] at eI
 obtain ⟨y,p,rfl,hp,w⟩:=v1
 subst hp
 rw[call_run F Z (k.s13.lk (g:=381) rfl) _ _ rfl]
 simp only[Request.enc]
 cases hg:s.good with
 | false=>
   rw[hg] at e2
   rw[dost_bad (by simp[hg])]
   simp only[rn,RO.dst,lk,drop,Nat.reduceBEq,Nat.reduceAdd,Nat.reduceLeDiff,↓reduceIte,reduceCtorEq,Bool.and_self,Bool.and_true,Bool.true_and,Bool.and_false,Bool.false_and,Int.reduceLT,Int.reduceLE,Int.reduceGT,Int.reduceGE,Int.reduceBEq,Int.reduceBNe,Int.reduceEq,Int.reduceNe,Int.reduceNeg,l1,l2,l3,e1,e2]
   exact ⟨_,_,_,rfl,o1,⟨y,_,rfl,rfl,w⟩,f1⟩
 | true=>
 rw[hg] at e2
 have hin:(s.good&&inR (⟨qe,4,qi,qa,qt⟩:Request).op 0 8)=true:=by rw[hg];rfl
 obtain ⟨x,p,rfl,hp,wx⟩:=vh
 subst hp
 rcases wx.found (fun t=>decide (t.lo≤qi)&&decide (qi≤t.hi)) with q | ⟨i,q,hi,hpi,_⟩
 ·change findId s.shards qi= -1 at q
  rw[dost_away hin q]
  rw[q] at e3
  simp only[rn,RO.dst,lk,drop,Nat.reduceBEq,Nat.reduceAdd,Nat.reduceLeDiff,↓reduceIte,reduceCtorEq,Bool.and_self,Bool.and_true,Bool.true_and,Bool.and_false,Bool.false_and,Int.reduceLT,Int.reduceLE,Int.reduceGT,Int.reduceGE,Int.reduceBEq,Int.reduceBNe,Int.reduceEq,Int.reduceNe,Int.reduceNeg,l1,l2,l3,e1,e2,e3,eI]
  exact ⟨_,_,_,rfl,o1,⟨y,_,rfl,rfl,w⟩,f1⟩
 change findId s.shards qi=(i:Int) at q
 rw[q] at e3
 rw[dost_at hin q,Shard.at_get hi]
 have g0: ¬(i:Int)<0:=by omega
 have hxi:=wx.idx hi
 have hyi:=w.idx hi
 have okX:=ok.shards _ (List.getElem_mem hi)
 have smX:=sm.2 _ (List.getElem_mem hi)
 have smf:s.shards[i].finished.length≤1048576:=smX.2
 have smb:s.shards[i].book.list.length≤1048576:=smX.1
 have hgd:s.shards[i].good=true:=by
  have:=Store.fit_at hg hi
  simp only[Store.fits,Bool.and_eq_true,Shard.at_get hi] at this
  exact this.1
 have hso:=Shard.good_sorted hgd
 have hbk:bookOk s.shards[i].book.list=true:=by
  simp only[Bool.and_eq_true,Shard.good,Shard.head] at hgd
  exact hgd.1.2.2.2.1
 obtain ⟨r,fx,hld,hR0,_⟩:=wx.one hi
 obtain ⟨cs4,h4,ft,e4,o4,u4,f4⟩:=l13CopyShard_c (Z:=Z) k.s10 k.s13 (o1.le hf) hR0 smX
 obtain ⟨xb,pb,xf,pf,rfl,rfl,wb,wf⟩:=hR0
 obtain ⟨b4,pb4,f4c,pf4,rfl,hq4,wb4,wf4⟩:=u4
 subst hq4
 obtain ⟨n4a,n4b,n4c⟩:=List.nodup_append.1 f4.nd
 have o04:=o1.trans o4
 have o4h:=o04.le
 have w4:=w.on Shard.okI o4
 have lt4:=w4.lt Shard.okI
 have lt4f:=wf4.lt (Fl.ok _)
 have eC:=l13Has_run (F:=F) (Z:=Z) k.s13 wf4 ⟨qt,qi⟩
 simp only[Fin.enc] at eC
 have hlen:=wf4.len
 cases cA:(s.shards[i].epoch !=qe) with
 | true=>
   have cA':(s.shards[i].epoch==qe)=false:=by simpa using cA
   have hR:refuse s.shards[i] ⟨qe,4,qi,qa,qt⟩=9:=by simp[refuse,inR,Request.ends,Request.fin,cA']
   rw[hR]
   simp only[show ((9:Int)==0)=false from rfl,cond_false]
   simp only[rn,RO.dst,lk,drop,Nat.reduceBEq,Nat.reduceAdd,Nat.reduceLeDiff,↓reduceIte,reduceCtorEq,Bool.and_self,Bool.and_true,Bool.true_and,Bool.and_false,Bool.false_and,Int.reduceLT,Int.reduceLE,Int.reduceGT,Int.reduceGE,Int.reduceBEq,Int.reduceBNe,Int.reduceEq,Int.reduceNe,Int.reduceNeg,l1,l2,l3,e1,e2,e3,eI,hxi,hld,e4,eC,hlen,g0,cA]
   exact ⟨_,_,_,rfl,o04,⟨y,_,rfl,rfl,w4⟩,f1⟩
 | false=>
 have cA':(s.shards[i].epoch==qe)=true:=by simpa using cA
 cases cB:(s.shards[i].state==1) with
 | true=>
   have hR:refuse s.shards[i] ⟨qe,4,qi,qa,qt⟩=10:=by simp[refuse,inR,Request.ends,Request.fin,cA',cB]
   rw[hR]
   simp only[show ((10:Int)==0)=false from rfl,cond_false]
   simp only[rn,RO.dst,lk,drop,Nat.reduceBEq,Nat.reduceAdd,Nat.reduceLeDiff,↓reduceIte,reduceCtorEq,Bool.and_self,Bool.and_true,Bool.true_and,Bool.and_false,Bool.false_and,Int.reduceLT,Int.reduceLE,Int.reduceGT,Int.reduceGE,Int.reduceBEq,Int.reduceBNe,Int.reduceEq,Int.reduceNe,Int.reduceNeg,l1,l2,l3,e1,e2,e3,eI,hxi,hld,e4,eC,hlen,g0,cA,cB]
   exact ⟨_,_,_,rfl,o04,⟨y,_,rfl,rfl,w4⟩,f1⟩
 | false=>
 by_cases cC:qt<1
 ·have hR:refuse s.shards[i] ⟨qe,4,qi,qa,qt⟩=11:=by simp[refuse,inR,Request.ends,Request.fin,cA',cB,cC]
  rw[hR]
  simp only[show ((11:Int)==0)=false from rfl,cond_false]
  simp only[rn,RO.dst,lk,drop,Nat.reduceBEq,Nat.reduceAdd,Nat.reduceLeDiff,↓reduceIte,reduceCtorEq,Bool.and_self,Bool.and_true,Bool.true_and,Bool.and_false,Bool.false_and,Int.reduceLT,Int.reduceLE,Int.reduceGT,Int.reduceGE,Int.reduceBEq,Int.reduceBNe,Int.reduceEq,Int.reduceNe,Int.reduceNeg,l1,l2,l3,e1,e2,e3,eI,hxi,hld,e4,eC,hlen,g0,cA,cB,cC]
  exact ⟨_,_,_,rfl,o04,⟨y,_,rfl,rfl,w4⟩,f1⟩
 by_cases cD:(⟨qt,qi⟩:Fin)∈s.shards[i].finished
 ·have hR:refuse s.shards[i] ⟨qe,4,qi,qa,qt⟩=12:=by simp[refuse,inR,Request.ends,Request.fin,cA',cB,cC,cD]
  rw[hR]
  simp only[show ((12:Int)==0)=false from rfl,cond_false]
  simp only[rn,RO.dst,lk,drop,Nat.reduceBEq,Nat.reduceAdd,Nat.reduceLeDiff,↓reduceIte,reduceCtorEq,Bool.and_self,Bool.and_true,Bool.true_and,Bool.and_false,Bool.false_and,Int.reduceLT,Int.reduceLE,Int.reduceGT,Int.reduceGE,Int.reduceBEq,Int.reduceBNe,Int.reduceEq,Int.reduceNe,Int.reduceNeg,l1,l2,l3,e1,e2,e3,eI,hxi,hld,e4,eC,hlen,g0,cA,cB,cC,cD]
  exact ⟨_,_,_,rfl,o04,⟨y,_,rfl,rfl,w4⟩,f1⟩
 have hR:refuse s.shards[i] ⟨qe,4,qi,qa,qt⟩=0:=by simp[refuse,inR,Request.ends,Request.fin,cA',cB,cC,cD]
 rw[hR]
 simp only[beq_self_eq_true,cond_true]
 obtain ⟨yb,h5,fb,e5,o5,u5,f5⟩:=sLockDebit_c (Z:=Z) k.s10 (o4h hf) wb4 qi qa qt okq.amount okX.book.list smb
 have ltb:=u5.lt (Fl.ok _)
 have hA:doShard s.shards[i] ⟨qe,4,qi,qa,qt⟩=⟨s.shards[i].lo,s.shards[i].hi,s.shards[i].state,s.shards[i].epoch,⟨(doBook s.shards[i].book.list ⟨qe,4,qi,qa,qt⟩).1⟩,s.shards[i].finished⟩:=by simp[doShard,Request.ends,Request.fin,cA',cB,cC,cD]
 obtain ⟨g,fq,st,og,fg,w7,u7⟩:=row_set (h:=h) (o04.trans o5) hf (w4.on Shard.okI o5) f1 hi u5 (wf4.on (Fl.ok _) o5) (List.nodup_append.2 ⟨f5.nd,n4b,fun a ha b hb e=>by subst e;have:=f5.lo a ha;have:=lt4f a hb;omega⟩) (fun id hid=>by
  rcases List.mem_append.1 hid with h1 | h1
  ·have:=f5.lo id h1;have:=o4.ext.1;omega
  ·exact f4.lo id (List.mem_append_right _ h1)) (n:=h1.next) (w.lt Shard.okI) o1.ext.1
 rw[hA]
 have eA:=l10Find_run (F:=F) (Z:=Z) k.s10 u7 qi
 rcases val_cases (a:=qi) (doBook_srt hbk ⟨qe,4,qi,qa,qt⟩) with ⟨v1,v2⟩ | ⟨v1,v2,v3,v4⟩ | ⟨v1,j,v2,v3,v4,v5,v6⟩
 ·have v1':((doBook s.shards[i].book.list ⟨qe,4,qi,qa,qt⟩).2==0)=false:=by simpa using v1
  rw[v2]
  change ((bookTx s.shards[i].book.list qi qt (lockDF qa qt)).2==0)=false at v1'
  simp only[rn,RO.dst,lk,drop,Nat.reduceBEq,Nat.reduceAdd,Nat.reduceLeDiff,↓reduceIte,reduceCtorEq,Bool.and_self,Bool.and_true,Bool.true_and,Bool.and_false,Bool.false_and,Int.reduceLT,Int.reduceLE,Int.reduceGT,Int.reduceGE,Int.reduceBEq,Int.reduceBNe,Int.reduceEq,Int.reduceNe,Int.reduceNeg,l1,l2,l3,e1,e2,e3,eI,hxi,hld,e4,eC,hlen,g0,cA,cB,cC,cD,e5,hyi,st,eA,v1']
  exact ⟨_,_,_,rfl,og,⟨y,_,rfl,rfl,w7⟩,fg⟩
 ·have v1':((doBook s.shards[i].book.list ⟨qe,4,qi,qa,qt⟩).2==0)=true:=by simpa using v1
  rw[v4]
  change ((bookTx s.shards[i].book.list qi qt (lockDF qa qt)).2==0)=true at v1'
  change accAt (bookTx s.shards[i].book.list qi qt (lockDF qa qt)).1 qi= -1 at v3
  rw[v3] at eA
  simp only[rn,RO.dst,lk,drop,Nat.reduceBEq,Nat.reduceAdd,Nat.reduceLeDiff,↓reduceIte,reduceCtorEq,Bool.and_self,Bool.and_true,Bool.true_and,Bool.and_false,Bool.false_and,Int.reduceLT,Int.reduceLE,Int.reduceGT,Int.reduceGE,Int.reduceBEq,Int.reduceBNe,Int.reduceEq,Int.reduceNe,Int.reduceNeg,l1,l2,l3,e1,e2,e3,eI,hxi,hld,e4,eC,hlen,g0,cA,cB,cC,cD,e5,hyi,st,eA,v1']
  exact ⟨_,_,_,rfl,og,⟨y,_,rfl,rfl,w7⟩,fg⟩
 ·have v1':((doBook s.shards[i].book.list ⟨qe,4,qi,qa,qt⟩).2==0)=true:=by simpa using v1
  rw[v6,Account.at_get v5]
  change ((bookTx s.shards[i].book.list qi qt (lockDF qa qt)).2==0)=true at v1'
  change accAt (bookTx s.shards[i].book.list qi qt (lockDF qa qt)).1 qi=(j:Int) at v4
  have g1:(j:Int)≥0:=by omega
  rw[v4] at eA
  have hx:=u7.idx v5
  have hl:=u7.load v5
  simp only[Account.enc] at hl
  simp only[rn,RO.dst,lk,drop,Nat.reduceBEq,Nat.reduceAdd,Nat.reduceLeDiff,↓reduceIte,reduceCtorEq,Bool.and_self,Bool.and_true,Bool.true_and,Bool.and_false,Bool.false_and,Int.reduceLT,Int.reduceLE,Int.reduceGT,Int.reduceGE,Int.reduceBEq,Int.reduceBNe,Int.reduceEq,Int.reduceNe,Int.reduceNeg,l1,l2,l3,e1,e2,e3,eI,hxi,hld,e4,eC,hlen,g0,cA,cB,cC,cD,e5,hyi,st,eA,v1',g1,hx,hl]
  exact ⟨_,_,_,rfl,og,⟨y,_,rfl,rfl,w7⟩,fg⟩
set_option maxHeartbeats 4000000 in
set_option maxRecDepth 8000 in
theorem sdo_op5 (k:KS F) (hf:h.floor≤h.next) (v:Store.RI h cs s fp) (qe qi qa qt:Int) (okq:(⟨qe,5,qi,qa,qt⟩:Request).Ok) (ok:s.Ok) (sm:s.Small):
 SDoStoreAt F Z h cs s ⟨qe,5,qi,qa,qt⟩:=by
 unfold SDoStoreAt
 obtain ⟨l1,l2,l3⟩:=Store.lenI v
 obtain ⟨cs1,h1,fr,e1,o1,v1,f1⟩:=l13Copy_c (Z:=Z) k hf v sm
 have vh:=Store.okI.on v o1
 have e2:=sStoreOk_run (Z:=Z) k vh ok
 have e3:=l13Find_run (Z:=Z) k.s13 vh qi
 have eI:=fun (lo hi:Int) (h:Heap)=>l01In_run (F:=F) (Z:=Z) k.s01 5 lo hi h
 simp only[inR] at eI
 obtain ⟨y,p,rfl,hp,w⟩:=v1
 subst hp
 rw[call_run F Z (k.s13.lk (g:=381) rfl) _ _ rfl]
 simp only[Request.enc]
 cases hg:s.good with
 | false=>
   rw[hg] at e2
   rw[dost_bad (by simp[hg])]
   simp only[rn,RO.dst,lk,drop,Nat.reduceBEq,Nat.reduceAdd,Nat.reduceLeDiff,↓reduceIte,reduceCtorEq,Bool.and_self,Bool.and_true,Bool.true_and,Bool.and_false,Bool.false_and,Int.reduceLT,Int.reduceLE,Int.reduceGT,Int.reduceGE,Int.reduceBEq,Int.reduceBNe,Int.reduceEq,Int.reduceNe,Int.reduceNeg,l1,l2,l3,e1,e2]
   exact ⟨_,_,_,rfl,o1,⟨y,_,rfl,rfl,w⟩,f1⟩
 | true=>
 rw[hg] at e2
 have hin:(s.good&&inR (⟨qe,5,qi,qa,qt⟩:Request).op 0 8)=true:=by rw[hg];rfl
 obtain ⟨x,p,rfl,hp,wx⟩:=vh
 subst hp
 rcases wx.found (fun t=>decide (t.lo≤qi)&&decide (qi≤t.hi)) with q | ⟨i,q,hi,hpi,_⟩
 ·change findId s.shards qi= -1 at q
  rw[dost_away hin q]
  rw[q] at e3
  simp only[rn,RO.dst,lk,drop,Nat.reduceBEq,Nat.reduceAdd,Nat.reduceLeDiff,↓reduceIte,reduceCtorEq,Bool.and_self,Bool.and_true,Bool.true_and,Bool.and_false,Bool.false_and,Int.reduceLT,Int.reduceLE,Int.reduceGT,Int.reduceGE,Int.reduceBEq,Int.reduceBNe,Int.reduceEq,Int.reduceNe,Int.reduceNeg,l1,l2,l3,e1,e2,e3,eI]
  exact ⟨_,_,_,rfl,o1,⟨y,_,rfl,rfl,w⟩,f1⟩
 change findId s.shards qi=(i:Int) at q
 rw[q] at e3
 rw[dost_at hin q,Shard.at_get hi]
 have g0: ¬(i:Int)<0:=by omega
 have hxi:=wx.idx hi
 have hyi:=w.idx hi
 have okX:=ok.shards _ (List.getElem_mem hi)
 have smX:=sm.2 _ (List.getElem_mem hi)
 have smf:s.shards[i].finished.length≤1048576:=smX.2
 have smb:s.shards[i].book.list.length≤1048576:=smX.1
 have hgd:s.shards[i].good=true:=by
  have:=Store.fit_at hg hi
  simp only[Store.fits,Bool.and_eq_true,Shard.at_get hi] at this
  exact this.1
 have hso:=Shard.good_sorted hgd
 have hbk:bookOk s.shards[i].book.list=true:=by
  simp only[Bool.and_eq_true,Shard.good,Shard.head] at hgd
  exact hgd.1.2.2.2.1
 obtain ⟨r,fx,hld,hR0,_⟩:=wx.one hi
 obtain ⟨cs4,h4,ft,e4,o4,u4,f4⟩:=l13CopyShard_c (Z:=Z) k.s10 k.s13 (o1.le hf) hR0 smX
 obtain ⟨xb,pb,xf,pf,rfl,rfl,wb,wf⟩:=hR0
 obtain ⟨b4,pb4,f4c,pf4,rfl,hq4,wb4,wf4⟩:=u4
 subst hq4
 obtain ⟨n4a,n4b,n4c⟩:=List.nodup_append.1 f4.nd
 have o04:=o1.trans o4
 have o4h:=o04.le
 have w4:=w.on Shard.okI o4
 have lt4:=w4.lt Shard.okI
 have lt4f:=wf4.lt (Fl.ok _)
 have eC:=l13Has_run (F:=F) (Z:=Z) k.s13 wf4 ⟨qt,qi⟩
 simp only[Fin.enc] at eC
 have hlen:=wf4.len
 cases cA:(s.shards[i].epoch !=qe) with
 | true=>
   have cA':(s.shards[i].epoch==qe)=false:=by simpa using cA
   have hR:refuse s.shards[i] ⟨qe,5,qi,qa,qt⟩=9:=by simp[refuse,inR,Request.ends,Request.fin,cA']
   rw[hR]
   simp only[show ((9:Int)==0)=false from rfl,cond_false]
   simp only[rn,RO.dst,lk,drop,Nat.reduceBEq,Nat.reduceAdd,Nat.reduceLeDiff,↓reduceIte,reduceCtorEq,Bool.and_self,Bool.and_true,Bool.true_and,Bool.and_false,Bool.false_and,Int.reduceLT,Int.reduceLE,Int.reduceGT,Int.reduceGE,Int.reduceBEq,Int.reduceBNe,Int.reduceEq,Int.reduceNe,Int.reduceNeg,l1,l2,l3,e1,e2,e3,eI,hxi,hld,e4,eC,hlen,g0,cA]
   exact ⟨_,_,_,rfl,o04,⟨y,_,rfl,rfl,w4⟩,f1⟩
 | false=>
 have cA':(s.shards[i].epoch==qe)=true:=by simpa using cA
 cases cB:(s.shards[i].state==1) with
 | true=>
   have hR:refuse s.shards[i] ⟨qe,5,qi,qa,qt⟩=10:=by simp[refuse,inR,Request.ends,Request.fin,cA',cB]
   rw[hR]
   simp only[show ((10:Int)==0)=false from rfl,cond_false]
   simp only[rn,RO.dst,lk,drop,Nat.reduceBEq,Nat.reduceAdd,Nat.reduceLeDiff,↓reduceIte,reduceCtorEq,Bool.and_self,Bool.and_true,Bool.true_and,Bool.and_false,Bool.false_and,Int.reduceLT,Int.reduceLE,Int.reduceGT,Int.reduceGE,Int.reduceBEq,Int.reduceBNe,Int.reduceEq,Int.reduceNe,Int.reduceNeg,l1,l2,l3,e1,e2,e3,eI,hxi,hld,e4,eC,hlen,g0,cA,cB]
   exact ⟨_,_,_,rfl,o04,⟨y,_,rfl,rfl,w4⟩,f1⟩
 | false=>
 by_cases cC:qt<1
 ·have hR:refuse s.shards[i] ⟨qe,5,qi,qa,qt⟩=11:=by simp[refuse,inR,Request.ends,Request.fin,cA',cB,cC]
  rw[hR]
  simp only[show ((11:Int)==0)=false from rfl,cond_false]
  simp only[rn,RO.dst,lk,drop,Nat.reduceBEq,Nat.reduceAdd,Nat.reduceLeDiff,↓reduceIte,reduceCtorEq,Bool.and_self,Bool.and_true,Bool.true_and,Bool.and_false,Bool.false_and,Int.reduceLT,Int.reduceLE,Int.reduceGT,Int.reduceGE,Int.reduceBEq,Int.reduceBNe,Int.reduceEq,Int.reduceNe,Int.reduceNeg,l1,l2,l3,e1,e2,e3,eI,hxi,hld,e4,eC,hlen,g0,cA,cB,cC]
  exact ⟨_,_,_,rfl,o04,⟨y,_,rfl,rfl,w4⟩,f1⟩
 by_cases cD:(⟨qt,qi⟩:Fin)∈s.shards[i].finished
 ·have hR:refuse s.shards[i] ⟨qe,5,qi,qa,qt⟩=12:=by simp[refuse,inR,Request.ends,Request.fin,cA',cB,cC,cD]
  rw[hR]
  simp only[show ((12:Int)==0)=false from rfl,cond_false]
  simp only[rn,RO.dst,lk,drop,Nat.reduceBEq,Nat.reduceAdd,Nat.reduceLeDiff,↓reduceIte,reduceCtorEq,Bool.and_self,Bool.and_true,Bool.true_and,Bool.and_false,Bool.false_and,Int.reduceLT,Int.reduceLE,Int.reduceGT,Int.reduceGE,Int.reduceBEq,Int.reduceBNe,Int.reduceEq,Int.reduceNe,Int.reduceNeg,l1,l2,l3,e1,e2,e3,eI,hxi,hld,e4,eC,hlen,g0,cA,cB,cC,cD]
  exact ⟨_,_,_,rfl,o04,⟨y,_,rfl,rfl,w4⟩,f1⟩
 have hR:refuse s.shards[i] ⟨qe,5,qi,qa,qt⟩=0:=by simp[refuse,inR,Request.ends,Request.fin,cA',cB,cC,cD]
 rw[hR]
 simp only[beq_self_eq_true,cond_true]
 obtain ⟨yb,h5,fb,e5,o5,u5,f5⟩:=sLockCredit_c (Z:=Z) k.s10 (o4h hf) wb4 qi qa qt okq.amount okX.book.list smb
 have ltb:=u5.lt (Fl.ok _)
 have hA:doShard s.shards[i] ⟨qe,5,qi,qa,qt⟩=⟨s.shards[i].lo,s.shards[i].hi,s.shards[i].state,s.shards[i].epoch,⟨(doBook s.shards[i].book.list ⟨qe,5,qi,qa,qt⟩).1⟩,s.shards[i].finished⟩:=by simp[doShard,Request.ends,Request.fin,cA',cB,cC,cD]
 obtain ⟨g,fq,st,og,fg,w7,u7⟩:=row_set (h:=h) (o04.trans o5) hf (w4.on Shard.okI o5) f1 hi u5 (wf4.on (Fl.ok _) o5) (List.nodup_append.2 ⟨f5.nd,n4b,fun a ha b hb e=>by subst e;have:=f5.lo a ha;have:=lt4f a hb;omega⟩) (fun id hid=>by
  rcases List.mem_append.1 hid with h1 | h1
  ·have:=f5.lo id h1;have:=o4.ext.1;omega
  ·exact f4.lo id (List.mem_append_right _ h1)) (n:=h1.next) (w.lt Shard.okI) o1.ext.1
 rw[hA]
 have eA:=l10Find_run (F:=F) (Z:=Z) k.s10 u7 qi
 rcases val_cases (a:=qi) (doBook_srt hbk ⟨qe,5,qi,qa,qt⟩) with ⟨v1,v2⟩ | ⟨v1,v2,v3,v4⟩ | ⟨v1,j,v2,v3,v4,v5,v6⟩
 ·have v1':((doBook s.shards[i].book.list ⟨qe,5,qi,qa,qt⟩).2==0)=false:=by simpa using v1
  rw[v2]
  change ((bookTx s.shards[i].book.list qi qt (lockCF qa qt)).2==0)=false at v1'
  simp only[rn,RO.dst,lk,drop,Nat.reduceBEq,Nat.reduceAdd,Nat.reduceLeDiff,↓reduceIte,reduceCtorEq,Bool.and_self,Bool.and_true,Bool.true_and,Bool.and_false,Bool.false_and,Int.reduceLT,Int.reduceLE,Int.reduceGT,Int.reduceGE,Int.reduceBEq,Int.reduceBNe,Int.reduceEq,Int.reduceNe,Int.reduceNeg,l1,l2,l3,e1,e2,e3,eI,hxi,hld,e4,eC,hlen,g0,cA,cB,cC,cD,e5,hyi,st,eA,v1']
  exact ⟨_,_,_,rfl,og,⟨y,_,rfl,rfl,w7⟩,fg⟩
 ·have v1':((doBook s.shards[i].book.list ⟨qe,5,qi,qa,qt⟩).2==0)=true:=by simpa using v1
  rw[v4]
  change ((bookTx s.shards[i].book.list qi qt (lockCF qa qt)).2==0)=true at v1'
  change accAt (bookTx s.shards[i].book.list qi qt (lockCF qa qt)).1 qi= -1 at v3
  rw[v3] at eA
  simp only[rn,RO.dst,lk,drop,Nat.reduceBEq,Nat.reduceAdd,Nat.reduceLeDiff,↓reduceIte,reduceCtorEq,Bool.and_self,Bool.and_true,Bool.true_and,Bool.and_false,Bool.false_and,Int.reduceLT,Int.reduceLE,Int.reduceGT,Int.reduceGE,Int.reduceBEq,Int.reduceBNe,Int.reduceEq,Int.reduceNe,Int.reduceNeg,l1,l2,l3,e1,e2,e3,eI,hxi,hld,e4,eC,hlen,g0,cA,cB,cC,cD,e5,hyi,st,eA,v1']
  exact ⟨_,_,_,rfl,og,⟨y,_,rfl,rfl,w7⟩,fg⟩
 ·have v1':((doBook s.shards[i].book.list ⟨qe,5,qi,qa,qt⟩).2==0)=true:=by simpa using v1
  rw[v6,Account.at_get v5]
  change ((bookTx s.shards[i].book.list qi qt (lockCF qa qt)).2==0)=true at v1'
  change accAt (bookTx s.shards[i].book.list qi qt (lockCF qa qt)).1 qi=(j:Int) at v4
  have g1:(j:Int)≥0:=by omega
  rw[v4] at eA
  have hx:=u7.idx v5
  have hl:=u7.load v5
  simp only[Account.enc] at hl
  simp only[rn,RO.dst,lk,drop,Nat.reduceBEq,Nat.reduceAdd,Nat.reduceLeDiff,↓reduceIte,reduceCtorEq,Bool.and_self,Bool.and_true,Bool.true_and,Bool.and_false,Bool.false_and,Int.reduceLT,Int.reduceLE,Int.reduceGT,Int.reduceGE,Int.reduceBEq,Int.reduceBNe,Int.reduceEq,Int.reduceNe,Int.reduceNeg,l1,l2,l3,e1,e2,e3,eI,hxi,hld,e4,eC,hlen,g0,cA,cB,cC,cD,e5,hyi,st,eA,v1',g1,hx,hl]
  exact ⟨_,_,_,rfl,og,⟨y,_,rfl,rfl,w7⟩,fg⟩
end
end Go.Proofs.Ytjaideekkbpalaa.A
namespace Go.Proofs.Ytjaideekkbpalaa.A
open Go
set_option linter.unusedSimpArgs false
set_option linter.unusedVariables false
section
variable {F:Nat→Option RF} {Z:CallF} {h:Heap} {cs:List Cell} {fp:List Nat} {s:Store}
set_option maxHeartbeats 4000000 in
set_option maxRecDepth 8000 in
theorem sdo_op6 (k:KS F) (hf:h.floor≤h.next) (v:Store.RI h cs s fp) (qe qi qa qt:Int) (okq:(⟨qe,6,qi,qa,qt⟩:Request).Ok) (ok:s.Ok) (sm:s.Small):
 SDoStoreAt F Z h cs s ⟨qe,6,qi,qa,qt⟩:=by
 unfold SDoStoreAt
 obtain ⟨l1,l2,l3⟩:=Store.lenI v
 obtain ⟨cs1,h1,fr,e1,o1,v1,f1⟩:=l13Copy_c (Z:=Z) k hf v sm
 have vh:=Store.okI.on v o1
 have e2:=sStoreOk_run (Z:=Z) k vh ok
 have e3:=l13Find_run (Z:=Z) k.s13 vh qi
 have eI:=fun (lo hi:Int) (h:Heap)=>l01In_run (F:=F) (Z:=Z) k.s01 6 lo hi h
 simp only[inR] at eI
 obtain ⟨y,p,rfl,hp,w⟩:=v1
 subst hp
 rw[call_run F Z (k.s13.lk (g:=381) rfl) _ _ rfl]
 simp only[Request.enc]
 cases hg:s.good with
 | false=>
   rw[hg] at e2
   rw[dost_bad (by simp[hg])]
   simp only[rn,RO.dst,lk,drop,Nat.reduceBEq,Nat.reduceAdd,Nat.reduceLeDiff,↓reduceIte,reduceCtorEq,Bool.and_self,Bool.and_true,Bool.true_and,Bool.and_false,Bool.false_and,Int.reduceLT,Int.reduceLE,Int.reduceGT,Int.reduceGE,Int.reduceBEq,Int.reduceBNe,Int.reduceEq,Int.reduceNe,Int.reduceNeg,l1,l2,l3,e1,e2]
   exact ⟨_,_,_,rfl,o1,⟨y,_,rfl,rfl,w⟩,f1⟩
 | true=>
 rw[hg] at e2
 have hin:(s.good&&inR (⟨qe,6,qi,qa,qt⟩:Request).op 0 8)=true:=by rw[hg];rfl
 obtain ⟨x,p,rfl,hp,wx⟩:=vh
 subst hp
 rcases wx.found (fun t=>decide (t.lo≤qi)&&decide (qi≤t.hi)) with q | ⟨i,q,hi,hpi,_⟩
 ·change findId s.shards qi= -1 at q
  rw[dost_away hin q]
  rw[q] at e3
  simp only[rn,RO.dst,lk,drop,Nat.reduceBEq,Nat.reduceAdd,Nat.reduceLeDiff,↓reduceIte,reduceCtorEq,Bool.and_self,Bool.and_true,Bool.true_and,Bool.and_false,Bool.false_and,Int.reduceLT,Int.reduceLE,Int.reduceGT,Int.reduceGE,Int.reduceBEq,Int.reduceBNe,Int.reduceEq,Int.reduceNe,Int.reduceNeg,l1,l2,l3,e1,e2,e3,eI]
  exact ⟨_,_,_,rfl,o1,⟨y,_,rfl,rfl,w⟩,f1⟩
 change findId s.shards qi=(i:Int) at q
 rw[q] at e3
 rw[dost_at hin q,Shard.at_get hi]
 have g0: ¬(i:Int)<0:=by omega
 have hxi:=wx.idx hi
 have hyi:=w.idx hi
 have okX:=ok.shards _ (List.getElem_mem hi)
 have smX:=sm.2 _ (List.getElem_mem hi)
 have smf:s.shards[i].finished.length≤1048576:=smX.2
 have smb:s.shards[i].book.list.length≤1048576:=smX.1
 have hgd:s.shards[i].good=true:=by
  have:=Store.fit_at hg hi
  simp only[Store.fits,Bool.and_eq_true,Shard.at_get hi] at this
  exact this.1
 have hso:=Shard.good_sorted hgd
 have hbk:bookOk s.shards[i].book.list=true:=by
  simp only[Bool.and_eq_true,Shard.good,Shard.head] at hgd
  exact hgd.1.2.2.2.1
 obtain ⟨r,fx,hld,hR0,_⟩:=wx.one hi
 obtain ⟨cs4,h4,ft,e4,o4,u4,f4⟩:=l13CopyShard_c (Z:=Z) k.s10 k.s13 (o1.le hf) hR0 smX
 obtain ⟨xb,pb,xf,pf,rfl,rfl,wb,wf⟩:=hR0
 obtain ⟨b4,pb4,f4c,pf4,rfl,hq4,wb4,wf4⟩:=u4
 subst hq4
 obtain ⟨n4a,n4b,n4c⟩:=List.nodup_append.1 f4.nd
 have o04:=o1.trans o4
 have o4h:=o04.le
 have w4:=w.on Shard.okI o4
 have lt4:=w4.lt Shard.okI
 have lt4f:=wf4.lt (Fl.ok _)
 have eC:=l13Has_run (F:=F) (Z:=Z) k.s13 wf4 ⟨qt,qi⟩
 simp only[Fin.enc] at eC
 have hlen:=wf4.len
 cases cA:(s.shards[i].epoch !=qe) with
 | true=>
   have cA':(s.shards[i].epoch==qe)=false:=by simpa using cA
   have hR:refuse s.shards[i] ⟨qe,6,qi,qa,qt⟩=9:=by simp[refuse,inR,Request.ends,Request.fin,cA']
   rw[hR]
   simp only[show ((9:Int)==0)=false from rfl,cond_false]
   simp only[rn,RO.dst,lk,drop,Nat.reduceBEq,Nat.reduceAdd,Nat.reduceLeDiff,↓reduceIte,reduceCtorEq,Bool.and_self,Bool.and_true,Bool.true_and,Bool.and_false,Bool.false_and,Int.reduceLT,Int.reduceLE,Int.reduceGT,Int.reduceGE,Int.reduceBEq,Int.reduceBNe,Int.reduceEq,Int.reduceNe,Int.reduceNeg,l1,l2,l3,e1,e2,e3,eI,hxi,hld,e4,eC,hlen,g0,cA]
   exact ⟨_,_,_,rfl,o04,⟨y,_,rfl,rfl,w4⟩,f1⟩
 | false=>
 have cA':(s.shards[i].epoch==qe)=true:=by simpa using cA
 cases cB:(s.shards[i].state==1) with
 | true=>
   have hR:refuse s.shards[i] ⟨qe,6,qi,qa,qt⟩=10:=by simp[refuse,inR,Request.ends,Request.fin,cA',cB]
   rw[hR]
   simp only[show ((10:Int)==0)=false from rfl,cond_false]
   simp only[rn,RO.dst,lk,drop,Nat.reduceBEq,Nat.reduceAdd,Nat.reduceLeDiff,↓reduceIte,reduceCtorEq,Bool.and_self,Bool.and_true,Bool.true_and,Bool.and_false,Bool.false_and,Int.reduceLT,Int.reduceLE,Int.reduceGT,Int.reduceGE,Int.reduceBEq,Int.reduceBNe,Int.reduceEq,Int.reduceNe,Int.reduceNeg,l1,l2,l3,e1,e2,e3,eI,hxi,hld,e4,eC,hlen,g0,cA,cB]
   exact ⟨_,_,_,rfl,o04,⟨y,_,rfl,rfl,w4⟩,f1⟩
 | false=>
 by_cases cC:qt<1
 ·have hR:refuse s.shards[i] ⟨qe,6,qi,qa,qt⟩=11:=by simp[refuse,inR,Request.ends,Request.fin,cA',cB,cC]
  rw[hR]
  simp only[show ((11:Int)==0)=false from rfl,cond_false]
  simp only[rn,RO.dst,lk,drop,Nat.reduceBEq,Nat.reduceAdd,Nat.reduceLeDiff,↓reduceIte,reduceCtorEq,Bool.and_self,Bool.and_true,Bool.true_and,Bool.and_false,Bool.false_and,Int.reduceLT,Int.reduceLE,Int.reduceGT,Int.reduceGE,Int.reduceBEq,Int.reduceBNe,Int.reduceEq,Int.reduceNe,Int.reduceNeg,l1,l2,l3,e1,e2,e3,eI,hxi,hld,e4,eC,hlen,g0,cA,cB,cC]
  exact ⟨_,_,_,rfl,o04,⟨y,_,rfl,rfl,w4⟩,f1⟩
 by_cases cD:(⟨qt,qi⟩:Fin)∈s.shards[i].finished
 ·have hR:refuse s.shards[i] ⟨qe,6,qi,qa,qt⟩=0:=by simp[refuse,inR,Request.ends,Request.fin,cA',cB,cC,cD]
  rw[hR]
  simp only[beq_self_eq_true,cond_true]
  obtain ⟨yb,h5,fb,e5,o5,u5,f5⟩:=sSettleHold_c (Z:=Z) k.s10 (o4h hf) wb4 qi qt okX.book.list smb
  have ltb:=u5.lt (Fl.ok _)
  have hA:doShard s.shards[i] ⟨qe,6,qi,qa,qt⟩=⟨s.shards[i].lo,s.shards[i].hi,s.shards[i].state,s.shards[i].epoch,⟨(doBook s.shards[i].book.list ⟨qe,6,qi,qa,qt⟩).1⟩,addFin s.shards[i].finished ⟨qt,qi⟩⟩:=by
   rw[addFin_in cD]
   simp[doShard,Request.ends,Request.fin,cA',cB,cC,cD]
  obtain ⟨zf,h6,fz,e6,o6,u6,f6⟩:=l13AddFin_c (Z:=Z) k.s13 (o5.le (o4h hf)) (wf4.on (Fl.ok _) o5) smf ⟨qt,qi⟩
  simp only[Fin.enc] at e6
  obtain ⟨g,fq,st,og,fg,w7,u7⟩:=row_set (h:=h) ((o04.trans o5).trans o6) hf ((w4.on Shard.okI o5).on Shard.okI o6) f1 hi (u5.on (Fl.ok _) o6) u6 (List.nodup_append.2 ⟨f5.nd,f6.nd,fun a ha b hb e=>by subst e;have:=f6.lo a hb;have:=ltb a ha;omega⟩) (fun id hid=>by
   have:=o5.ext.1
   rcases List.mem_append.1 hid with h1 | h1
   ·have:=f5.lo id h1;omega
   ·have:=f6.lo id h1;omega) (n:=h4.next) lt4
   (Nat.le_trans o1.ext.1 o4.ext.1)
  rw[hA]
  have eA:=l10Find_run (F:=F) (Z:=Z) k.s10 u7 qi
  rcases val_cases (a:=qi) (doBook_srt hbk ⟨qe,6,qi,qa,qt⟩) with ⟨v1,v2⟩ | ⟨v1,v2,v3,v4⟩ | ⟨v1,j,v2,v3,v4,v5,v6⟩
  ·have v1':((doBook s.shards[i].book.list ⟨qe,6,qi,qa,qt⟩).2==0)=false:=by simpa using v1
   rw[v2]
   change ((bookTx s.shards[i].book.list qi qt (settleF qi qt)).2==0)=false at v1'
   simp only[rn,RO.dst,lk,drop,Nat.reduceBEq,Nat.reduceAdd,Nat.reduceLeDiff,↓reduceIte,reduceCtorEq,Bool.and_self,Bool.and_true,Bool.true_and,Bool.and_false,Bool.false_and,Int.reduceLT,Int.reduceLE,Int.reduceGT,Int.reduceGE,Int.reduceBEq,Int.reduceBNe,Int.reduceEq,Int.reduceNe,Int.reduceNeg,l1,l2,l3,e1,e2,e3,eI,hxi,hld,e4,eC,hlen,g0,cA,cB,cC,cD,e5,e6,hyi,st,eA,v1']
   exact ⟨_,_,_,rfl,og,⟨y,_,rfl,rfl,w7⟩,fg⟩
  ·have v1':((doBook s.shards[i].book.list ⟨qe,6,qi,qa,qt⟩).2==0)=true:=by simpa using v1
   rw[v4]
   change ((bookTx s.shards[i].book.list qi qt (settleF qi qt)).2==0)=true at v1'
   change accAt (bookTx s.shards[i].book.list qi qt (settleF qi qt)).1 qi= -1 at v3
   rw[v3] at eA
   simp only[rn,RO.dst,lk,drop,Nat.reduceBEq,Nat.reduceAdd,Nat.reduceLeDiff,↓reduceIte,reduceCtorEq,Bool.and_self,Bool.and_true,Bool.true_and,Bool.and_false,Bool.false_and,Int.reduceLT,Int.reduceLE,Int.reduceGT,Int.reduceGE,Int.reduceBEq,Int.reduceBNe,Int.reduceEq,Int.reduceNe,Int.reduceNeg,l1,l2,l3,e1,e2,e3,eI,hxi,hld,e4,eC,hlen,g0,cA,cB,cC,cD,e5,e6,hyi,st,eA,v1']
   exact ⟨_,_,_,rfl,og,⟨y,_,rfl,rfl,w7⟩,fg⟩
  ·have v1':((doBook s.shards[i].book.list ⟨qe,6,qi,qa,qt⟩).2==0)=true:=by simpa using v1
   rw[v6,Account.at_get v5]
   change ((bookTx s.shards[i].book.list qi qt (settleF qi qt)).2==0)=true at v1'
   change accAt (bookTx s.shards[i].book.list qi qt (settleF qi qt)).1 qi=(j:Int) at v4
   have g1:(j:Int)≥0:=by omega
   rw[v4] at eA
   have hx:=u7.idx v5
   have hl:=u7.load v5
   simp only[Account.enc] at hl
   simp only[rn,RO.dst,lk,drop,Nat.reduceBEq,Nat.reduceAdd,Nat.reduceLeDiff,↓reduceIte,reduceCtorEq,Bool.and_self,Bool.and_true,Bool.true_and,Bool.and_false,Bool.false_and,Int.reduceLT,Int.reduceLE,Int.reduceGT,Int.reduceGE,Int.reduceBEq,Int.reduceBNe,Int.reduceEq,Int.reduceNe,Int.reduceNeg,l1,l2,l3,e1,e2,e3,eI,hxi,hld,e4,eC,hlen,g0,cA,cB,cC,cD,e5,e6,hyi,st,eA,v1',g1,hx,hl]
   exact ⟨_,_,_,rfl,og,⟨y,_,rfl,rfl,w7⟩,fg⟩
 cases cE:((s.shards[i].finished.length:Int)==60) with
 | true=>
   have hR:refuse s.shards[i] ⟨qe,6,qi,qa,qt⟩=13:=by simp[refuse,inR,Request.ends,Request.fin,cA',cB,cC,cD,cE]
   rw[hR]
   simp only[show ((13:Int)==0)=false from rfl,cond_false]
   simp only[rn,RO.dst,lk,drop,Nat.reduceBEq,Nat.reduceAdd,Nat.reduceLeDiff,↓reduceIte,reduceCtorEq,Bool.and_self,Bool.and_true,Bool.true_and,Bool.and_false,Bool.false_and,Int.reduceLT,Int.reduceLE,Int.reduceGT,Int.reduceGE,Int.reduceBEq,Int.reduceBNe,Int.reduceEq,Int.reduceNe,Int.reduceNeg,l1,l2,l3,e1,e2,e3,eI,hxi,hld,e4,eC,hlen,g0,cA,cB,cC,cD,cE]
   exact ⟨_,_,_,rfl,o04,⟨y,_,rfl,rfl,w4⟩,f1⟩
 | false=>
 have hR:refuse s.shards[i] ⟨qe,6,qi,qa,qt⟩=0:=by simp[refuse,inR,Request.ends,Request.fin,cA',cB,cC,cD,cE]
 rw[hR]
 simp only[beq_self_eq_true,cond_true]
 obtain ⟨yb,h5,fb,e5,o5,u5,f5⟩:=sSettleHold_c (Z:=Z) k.s10 (o4h hf) wb4 qi qt okX.book.list smb
 have ltb:=u5.lt (Fl.ok _)
 have hA:doShard s.shards[i] ⟨qe,6,qi,qa,qt⟩=⟨s.shards[i].lo,s.shards[i].hi,s.shards[i].state,s.shards[i].epoch,⟨(doBook s.shards[i].book.list ⟨qe,6,qi,qa,qt⟩).1⟩,addFin s.shards[i].finished ⟨qt,qi⟩⟩:=by
  rw[addFin_sort hso cD]
  simp[doShard,Request.ends,Request.fin,cA',cB,cC,cD,cE]
 obtain ⟨zf,h6,fz,e6,o6,u6,f6⟩:=l13AddFin_c (Z:=Z) k.s13 (o5.le (o4h hf)) (wf4.on (Fl.ok _) o5) smf ⟨qt,qi⟩
 simp only[Fin.enc] at e6
 obtain ⟨g,fq,st,og,fg,w7,u7⟩:=row_set (h:=h) ((o04.trans o5).trans o6) hf ((w4.on Shard.okI o5).on Shard.okI o6) f1 hi (u5.on (Fl.ok _) o6) u6 (List.nodup_append.2 ⟨f5.nd,f6.nd,fun a ha b hb e=>by subst e;have:=f6.lo a hb;have:=ltb a ha;omega⟩) (fun id hid=>by
  have:=o5.ext.1
  rcases List.mem_append.1 hid with h1 | h1
  ·have:=f5.lo id h1;omega
  ·have:=f6.lo id h1;omega) (n:=h4.next) lt4
  (Nat.le_trans o1.ext.1 o4.ext.1)
 rw[hA]
 have eA:=l10Find_run (F:=F) (Z:=Z) k.s10 u7 qi
 rcases val_cases (a:=qi) (doBook_srt hbk ⟨qe,6,qi,qa,qt⟩) with ⟨v1,v2⟩ | ⟨v1,v2,v3,v4⟩ | ⟨v1,j,v2,v3,v4,v5,v6⟩
 ·have v1':((doBook s.shards[i].book.list ⟨qe,6,qi,qa,qt⟩).2==0)=false:=by simpa using v1
  rw[v2]
  change ((bookTx s.shards[i].book.list qi qt (settleF qi qt)).2==0)=false at v1'
  simp only[rn,RO.dst,lk,drop,Nat.reduceBEq,Nat.reduceAdd,Nat.reduceLeDiff,↓reduceIte,reduceCtorEq,Bool.and_self,Bool.and_true,Bool.true_and,Bool.and_false,Bool.false_and,Int.reduceLT,Int.reduceLE,Int.reduceGT,Int.reduceGE,Int.reduceBEq,Int.reduceBNe,Int.reduceEq,Int.reduceNe,Int.reduceNeg,l1,l2,l3,e1,e2,e3,eI,hxi,hld,e4,eC,hlen,g0,cA,cB,cC,cD,cE,e5,e6,hyi,st,eA,v1']
  exact ⟨_,_,_,rfl,og,⟨y,_,rfl,rfl,w7⟩,fg⟩
 ·have v1':((doBook s.shards[i].book.list ⟨qe,6,qi,qa,qt⟩).2==0)=true:=by simpa using v1
  rw[v4]
  change ((bookTx s.shards[i].book.list qi qt (settleF qi qt)).2==0)=true at v1'
  change accAt (bookTx s.shards[i].book.list qi qt (settleF qi qt)).1 qi= -1 at v3
  rw[v3] at eA
  simp only[rn,RO.dst,lk,drop,Nat.reduceBEq,Nat.reduceAdd,Nat.reduceLeDiff,↓reduceIte,reduceCtorEq,Bool.and_self,Bool.and_true,Bool.true_and,Bool.and_false,Bool.false_and,Int.reduceLT,Int.reduceLE,Int.reduceGT,Int.reduceGE,Int.reduceBEq,Int.reduceBNe,Int.reduceEq,Int.reduceNe,Int.reduceNeg,l1,l2,l3,e1,e2,e3,eI,hxi,hld,e4,eC,hlen,g0,cA,cB,cC,cD,cE,e5,e6,hyi,st,eA,v1']
  exact ⟨_,_,_,rfl,og,⟨y,_,rfl,rfl,w7⟩,fg⟩
 ·have v1':((doBook s.shards[i].book.list ⟨qe,6,qi,qa,qt⟩).2==0)=true:=by simpa using v1
  rw[v6,Account.at_get v5]
  change ((bookTx s.shards[i].book.list qi qt (settleF qi qt)).2==0)=true at v1'
  change accAt (bookTx s.shards[i].book.list qi qt (settleF qi qt)).1 qi=(j:Int) at v4
  have g1:(j:Int)≥0:=by omega
  rw[v4] at eA
  have hx:=u7.idx v5
  have hl:=u7.load v5
  simp only[Account.enc] at hl
  simp only[rn,RO.dst,lk,drop,Nat.reduceBEq,Nat.reduceAdd,Nat.reduceLeDiff,↓reduceIte,reduceCtorEq,Bool.and_self,Bool.and_true,Bool.true_and,Bool.and_false,Bool.false_and,Int.reduceLT,Int.reduceLE,Int.reduceGT,Int.reduceGE,Int.reduceBEq,Int.reduceBNe,Int.reduceEq,Int.reduceNe,Int.reduceNeg,l1,l2,l3,e1,e2,e3,eI,hxi,hld,e4,eC,hlen,g0,cA,cB,cC,cD,cE,e5,e6,hyi,st,eA,v1',g1,hx,hl]
  exact ⟨_,_,_,rfl,og,⟨y,_,rfl,rfl,w7⟩,fg⟩
end
end Go.Proofs.Ytjaideekkbpalaa.A
namespace Go.Proofs.Ytjaideekkbpalaa.A
open Go
set_option linter.unusedSimpArgs false
set_option linter.unusedVariables false
section
variable {F:Nat→Option RF} {Z:CallF} {h:Heap} {cs:List Cell} {fp:List Nat} {s:Store}
set_option maxHeartbeats 4000000 in
set_option maxRecDepth 8000 in
theorem sdo_op7 (k:KS F) (hf:h.floor≤h.next) (v:Store.RI h cs s fp) (qe qi qa qt:Int) (okq:(⟨qe,7,qi,qa,qt⟩:Request).Ok) (ok:s.Ok) (sm:s.Small):
 SDoStoreAt F Z h cs s ⟨qe,7,qi,qa,qt⟩:=by
 unfold SDoStoreAt
 obtain ⟨l1,l2,l3⟩:=Store.lenI v
 obtain ⟨cs1,h1,fr,e1,o1,v1,f1⟩:=l13Copy_c (Z:=Z) k hf v sm
 have vh:=Store.okI.on v o1
 have e2:=sStoreOk_run (Z:=Z) k vh ok
 have e3:=l13Find_run (Z:=Z) k.s13 vh qi
 have eI:=fun (lo hi:Int) (h:Heap)=>l01In_run (F:=F) (Z:=Z) k.s01 7 lo hi h
 simp only[inR] at eI
 obtain ⟨y,p,rfl,hp,w⟩:=v1
 subst hp
 rw[call_run F Z (k.s13.lk (g:=381) rfl) _ _ rfl]
 simp only[Request.enc]
 cases hg:s.good with
 | false=>
   rw[hg] at e2
   rw[dost_bad (by simp[hg])]
   simp only[rn,RO.dst,lk,drop,Nat.reduceBEq,Nat.reduceAdd,Nat.reduceLeDiff,↓reduceIte,reduceCtorEq,Bool.and_self,Bool.and_true,Bool.true_and,Bool.and_false,Bool.false_and,Int.reduceLT,Int.reduceLE,Int.reduceGT,Int.reduceGE,Int.reduceBEq,Int.reduceBNe,Int.reduceEq,Int.reduceNe,Int.reduceNeg,l1,l2,l3,e1,e2]
   exact ⟨_,_,_,rfl,o1,⟨y,_,rfl,rfl,w⟩,f1⟩
 | true=>
 rw[hg] at e2
 have hin:(s.good&&inR (⟨qe,7,qi,qa,qt⟩:Request).op 0 8)=true:=by rw[hg];rfl
 obtain ⟨x,p,rfl,hp,wx⟩:=vh
 subst hp
 rcases wx.found (fun t=>decide (t.lo≤qi)&&decide (qi≤t.hi)) with q | ⟨i,q,hi,hpi,_⟩
 ·change findId s.shards qi= -1 at q
  rw[dost_away hin q]
  rw[q] at e3
  simp only[rn,RO.dst,lk,drop,Nat.reduceBEq,Nat.reduceAdd,Nat.reduceLeDiff,↓reduceIte,reduceCtorEq,Bool.and_self,Bool.and_true,Bool.true_and,Bool.and_false,Bool.false_and,Int.reduceLT,Int.reduceLE,Int.reduceGT,Int.reduceGE,Int.reduceBEq,Int.reduceBNe,Int.reduceEq,Int.reduceNe,Int.reduceNeg,l1,l2,l3,e1,e2,e3,eI]
  exact ⟨_,_,_,rfl,o1,⟨y,_,rfl,rfl,w⟩,f1⟩
 change findId s.shards qi=(i:Int) at q
 rw[q] at e3
 rw[dost_at hin q,Shard.at_get hi]
 have g0: ¬(i:Int)<0:=by omega
 have hxi:=wx.idx hi
 have hyi:=w.idx hi
 have okX:=ok.shards _ (List.getElem_mem hi)
 have smX:=sm.2 _ (List.getElem_mem hi)
 have smf:s.shards[i].finished.length≤1048576:=smX.2
 have smb:s.shards[i].book.list.length≤1048576:=smX.1
 have hgd:s.shards[i].good=true:=by
  have:=Store.fit_at hg hi
  simp only[Store.fits,Bool.and_eq_true,Shard.at_get hi] at this
  exact this.1
 have hso:=Shard.good_sorted hgd
 have hbk:bookOk s.shards[i].book.list=true:=by
  simp only[Bool.and_eq_true,Shard.good,Shard.head] at hgd
  exact hgd.1.2.2.2.1
 obtain ⟨r,fx,hld,hR0,_⟩:=wx.one hi
 obtain ⟨cs4,h4,ft,e4,o4,u4,f4⟩:=l13CopyShard_c (Z:=Z) k.s10 k.s13 (o1.le hf) hR0 smX
 obtain ⟨xb,pb,xf,pf,rfl,rfl,wb,wf⟩:=hR0
 obtain ⟨b4,pb4,f4c,pf4,rfl,hq4,wb4,wf4⟩:=u4
 subst hq4
 obtain ⟨n4a,n4b,n4c⟩:=List.nodup_append.1 f4.nd
 have o04:=o1.trans o4
 have o4h:=o04.le
 have w4:=w.on Shard.okI o4
 have lt4:=w4.lt Shard.okI
 have lt4f:=wf4.lt (Fl.ok _)
 have eC:=l13Has_run (F:=F) (Z:=Z) k.s13 wf4 ⟨qt,qi⟩
 simp only[Fin.enc] at eC
 have hlen:=wf4.len
 cases cA:(s.shards[i].epoch !=qe) with
 | true=>
   have cA':(s.shards[i].epoch==qe)=false:=by simpa using cA
   have hR:refuse s.shards[i] ⟨qe,7,qi,qa,qt⟩=9:=by simp[refuse,inR,Request.ends,Request.fin,cA']
   rw[hR]
   simp only[show ((9:Int)==0)=false from rfl,cond_false]
   simp only[rn,RO.dst,lk,drop,Nat.reduceBEq,Nat.reduceAdd,Nat.reduceLeDiff,↓reduceIte,reduceCtorEq,Bool.and_self,Bool.and_true,Bool.true_and,Bool.and_false,Bool.false_and,Int.reduceLT,Int.reduceLE,Int.reduceGT,Int.reduceGE,Int.reduceBEq,Int.reduceBNe,Int.reduceEq,Int.reduceNe,Int.reduceNeg,l1,l2,l3,e1,e2,e3,eI,hxi,hld,e4,eC,hlen,g0,cA]
   exact ⟨_,_,_,rfl,o04,⟨y,_,rfl,rfl,w4⟩,f1⟩
 | false=>
 have cA':(s.shards[i].epoch==qe)=true:=by simpa using cA
 cases cB:(s.shards[i].state==1) with
 | true=>
   have hR:refuse s.shards[i] ⟨qe,7,qi,qa,qt⟩=10:=by simp[refuse,inR,Request.ends,Request.fin,cA',cB]
   rw[hR]
   simp only[show ((10:Int)==0)=false from rfl,cond_false]
   simp only[rn,RO.dst,lk,drop,Nat.reduceBEq,Nat.reduceAdd,Nat.reduceLeDiff,↓reduceIte,reduceCtorEq,Bool.and_self,Bool.and_true,Bool.true_and,Bool.and_false,Bool.false_and,Int.reduceLT,Int.reduceLE,Int.reduceGT,Int.reduceGE,Int.reduceBEq,Int.reduceBNe,Int.reduceEq,Int.reduceNe,Int.reduceNeg,l1,l2,l3,e1,e2,e3,eI,hxi,hld,e4,eC,hlen,g0,cA,cB]
   exact ⟨_,_,_,rfl,o04,⟨y,_,rfl,rfl,w4⟩,f1⟩
 | false=>
 by_cases cC:qt<1
 ·have hR:refuse s.shards[i] ⟨qe,7,qi,qa,qt⟩=11:=by simp[refuse,inR,Request.ends,Request.fin,cA',cB,cC]
  rw[hR]
  simp only[show ((11:Int)==0)=false from rfl,cond_false]
  simp only[rn,RO.dst,lk,drop,Nat.reduceBEq,Nat.reduceAdd,Nat.reduceLeDiff,↓reduceIte,reduceCtorEq,Bool.and_self,Bool.and_true,Bool.true_and,Bool.and_false,Bool.false_and,Int.reduceLT,Int.reduceLE,Int.reduceGT,Int.reduceGE,Int.reduceBEq,Int.reduceBNe,Int.reduceEq,Int.reduceNe,Int.reduceNeg,l1,l2,l3,e1,e2,e3,eI,hxi,hld,e4,eC,hlen,g0,cA,cB,cC]
  exact ⟨_,_,_,rfl,o04,⟨y,_,rfl,rfl,w4⟩,f1⟩
 by_cases cD:(⟨qt,qi⟩:Fin)∈s.shards[i].finished
 ·have hR:refuse s.shards[i] ⟨qe,7,qi,qa,qt⟩=0:=by simp[refuse,inR,Request.ends,Request.fin,cA',cB,cC,cD]
  rw[hR]
  simp only[beq_self_eq_true,cond_true]
  obtain ⟨yb,h5,fb,e5,o5,u5,f5⟩:=sReleaseHold_c (Z:=Z) k.s10 (o4h hf) wb4 qi qt okX.book.list smb
  have ltb:=u5.lt (Fl.ok _)
  have hA:doShard s.shards[i] ⟨qe,7,qi,qa,qt⟩=⟨s.shards[i].lo,s.shards[i].hi,s.shards[i].state,s.shards[i].epoch,⟨(doBook s.shards[i].book.list ⟨qe,7,qi,qa,qt⟩).1⟩,addFin s.shards[i].finished ⟨qt,qi⟩⟩:=by
   rw[addFin_in cD]
   simp[doShard,Request.ends,Request.fin,cA',cB,cC,cD]
  obtain ⟨zf,h6,fz,e6,o6,u6,f6⟩:=l13AddFin_c (Z:=Z) k.s13 (o5.le (o4h hf)) (wf4.on (Fl.ok _) o5) smf ⟨qt,qi⟩
  simp only[Fin.enc] at e6
  obtain ⟨g,fq,st,og,fg,w7,u7⟩:=row_set (h:=h) ((o04.trans o5).trans o6) hf ((w4.on Shard.okI o5).on Shard.okI o6) f1 hi (u5.on (Fl.ok _) o6) u6 (List.nodup_append.2 ⟨f5.nd,f6.nd,fun a ha b hb e=>by subst e;have:=f6.lo a hb;have:=ltb a ha;omega⟩) (fun id hid=>by
   have:=o5.ext.1
   rcases List.mem_append.1 hid with h1 | h1
   ·have:=f5.lo id h1;omega
   ·have:=f6.lo id h1;omega) (n:=h4.next) lt4
   (Nat.le_trans o1.ext.1 o4.ext.1)
  rw[hA]
  have eA:=l10Find_run (F:=F) (Z:=Z) k.s10 u7 qi
  rcases val_cases (a:=qi) (doBook_srt hbk ⟨qe,7,qi,qa,qt⟩) with ⟨v1,v2⟩ | ⟨v1,v2,v3,v4⟩ | ⟨v1,j,v2,v3,v4,v5,v6⟩
  ·have v1':((doBook s.shards[i].book.list ⟨qe,7,qi,qa,qt⟩).2==0)=false:=by simpa using v1
   rw[v2]
   change ((bookTx s.shards[i].book.list qi qt (releaseF qi qt)).2==0)=false at v1'
   simp only[rn,RO.dst,lk,drop,Nat.reduceBEq,Nat.reduceAdd,Nat.reduceLeDiff,↓reduceIte,reduceCtorEq,Bool.and_self,Bool.and_true,Bool.true_and,Bool.and_false,Bool.false_and,Int.reduceLT,Int.reduceLE,Int.reduceGT,Int.reduceGE,Int.reduceBEq,Int.reduceBNe,Int.reduceEq,Int.reduceNe,Int.reduceNeg,l1,l2,l3,e1,e2,e3,eI,hxi,hld,e4,eC,hlen,g0,cA,cB,cC,cD,e5,e6,hyi,st,eA,v1']
   exact ⟨_,_,_,rfl,og,⟨y,_,rfl,rfl,w7⟩,fg⟩
  ·have v1':((doBook s.shards[i].book.list ⟨qe,7,qi,qa,qt⟩).2==0)=true:=by simpa using v1
   rw[v4]
   change ((bookTx s.shards[i].book.list qi qt (releaseF qi qt)).2==0)=true at v1'
   change accAt (bookTx s.shards[i].book.list qi qt (releaseF qi qt)).1 qi= -1 at v3
   rw[v3] at eA
   simp only[rn,RO.dst,lk,drop,Nat.reduceBEq,Nat.reduceAdd,Nat.reduceLeDiff,↓reduceIte,reduceCtorEq,Bool.and_self,Bool.and_true,Bool.true_and,Bool.and_false,Bool.false_and,Int.reduceLT,Int.reduceLE,Int.reduceGT,Int.reduceGE,Int.reduceBEq,Int.reduceBNe,Int.reduceEq,Int.reduceNe,Int.reduceNeg,l1,l2,l3,e1,e2,e3,eI,hxi,hld,e4,eC,hlen,g0,cA,cB,cC,cD,e5,e6,hyi,st,eA,v1']
   exact ⟨_,_,_,rfl,og,⟨y,_,rfl,rfl,w7⟩,fg⟩
  ·have v1':((doBook s.shards[i].book.list ⟨qe,7,qi,qa,qt⟩).2==0)=true:=by simpa using v1
   rw[v6,Account.at_get v5]
   change ((bookTx s.shards[i].book.list qi qt (releaseF qi qt)).2==0)=true at v1'
   change accAt (bookTx s.shards[i].book.list qi qt (releaseF qi qt)).1 qi=(j:Int) at v4
   have g1:(j:Int)≥0:=by omega
   rw[v4] at eA
   have hx:=u7.idx v5
   have hl:=u7.load v5
   simp only[Account.enc] at hl
   simp only[rn,RO.dst,lk,drop,Nat.reduceBEq,Nat.reduceAdd,Nat.reduceLeDiff,↓reduceIte,reduceCtorEq,Bool.and_self,Bool.and_true,Bool.true_and,Bool.and_false,Bool.false_and,Int.reduceLT,Int.reduceLE,Int.reduceGT,Int.reduceGE,Int.reduceBEq,Int.reduceBNe,Int.reduceEq,Int.reduceNe,Int.reduceNeg,l1,l2,l3,e1,e2,e3,eI,hxi,hld,e4,eC,hlen,g0,cA,cB,cC,cD,e5,e6,hyi,st,eA,v1',g1,hx,hl]
   exact ⟨_,_,_,rfl,og,⟨y,_,rfl,rfl,w7⟩,fg⟩
 cases cE:((s.shards[i].finished.length:Int)==60) with
 | true=>
   have hR:refuse s.shards[i] ⟨qe,7,qi,qa,qt⟩=13:=by simp[refuse,inR,Request.ends,Request.fin,cA',cB,cC,cD,cE]
   rw[hR]
   simp only[show ((13:Int)==0)=false from rfl,cond_false]
   simp only[rn,RO.dst,lk,drop,Nat.reduceBEq,Nat.reduceAdd,Nat.reduceLeDiff,↓reduceIte,reduceCtorEq,Bool.and_self,Bool.and_true,Bool.true_and,Bool.and_false,Bool.false_and,Int.reduceLT,Int.reduceLE,Int.reduceGT,Int.reduceGE,Int.reduceBEq,Int.reduceBNe,Int.reduceEq,Int.reduceNe,Int.reduceNeg,l1,l2,l3,e1,e2,e3,eI,hxi,hld,e4,eC,hlen,g0,cA,cB,cC,cD,cE]
   exact ⟨_,_,_,rfl,o04,⟨y,_,rfl,rfl,w4⟩,f1⟩
 | false=>
 have hR:refuse s.shards[i] ⟨qe,7,qi,qa,qt⟩=0:=by simp[refuse,inR,Request.ends,Request.fin,cA',cB,cC,cD,cE]
 rw[hR]
 simp only[beq_self_eq_true,cond_true]
 obtain ⟨yb,h5,fb,e5,o5,u5,f5⟩:=sReleaseHold_c (Z:=Z) k.s10 (o4h hf) wb4 qi qt okX.book.list smb
 have ltb:=u5.lt (Fl.ok _)
 have hA:doShard s.shards[i] ⟨qe,7,qi,qa,qt⟩=⟨s.shards[i].lo,s.shards[i].hi,s.shards[i].state,s.shards[i].epoch,⟨(doBook s.shards[i].book.list ⟨qe,7,qi,qa,qt⟩).1⟩,addFin s.shards[i].finished ⟨qt,qi⟩⟩:=by
  rw[addFin_sort hso cD]
  simp[doShard,Request.ends,Request.fin,cA',cB,cC,cD,cE]
 obtain ⟨zf,h6,fz,e6,o6,u6,f6⟩:=l13AddFin_c (Z:=Z) k.s13 (o5.le (o4h hf)) (wf4.on (Fl.ok _) o5) smf ⟨qt,qi⟩
 simp only[Fin.enc] at e6
 obtain ⟨g,fq,st,og,fg,w7,u7⟩:=row_set (h:=h) ((o04.trans o5).trans o6) hf ((w4.on Shard.okI o5).on Shard.okI o6) f1 hi (u5.on (Fl.ok _) o6) u6 (List.nodup_append.2 ⟨f5.nd,f6.nd,fun a ha b hb e=>by subst e;have:=f6.lo a hb;have:=ltb a ha;omega⟩) (fun id hid=>by
  have:=o5.ext.1
  rcases List.mem_append.1 hid with h1 | h1
  ·have:=f5.lo id h1;omega
  ·have:=f6.lo id h1;omega) (n:=h4.next) lt4
  (Nat.le_trans o1.ext.1 o4.ext.1)
 rw[hA]
 have eA:=l10Find_run (F:=F) (Z:=Z) k.s10 u7 qi
 rcases val_cases (a:=qi) (doBook_srt hbk ⟨qe,7,qi,qa,qt⟩) with ⟨v1,v2⟩ | ⟨v1,v2,v3,v4⟩ | ⟨v1,j,v2,v3,v4,v5,v6⟩
 ·have v1':((doBook s.shards[i].book.list ⟨qe,7,qi,qa,qt⟩).2==0)=false:=by simpa using v1
  rw[v2]
  change ((bookTx s.shards[i].book.list qi qt (releaseF qi qt)).2==0)=false at v1'
  simp only[rn,RO.dst,lk,drop,Nat.reduceBEq,Nat.reduceAdd,Nat.reduceLeDiff,↓reduceIte,reduceCtorEq,Bool.and_self,Bool.and_true,Bool.true_and,Bool.and_false,Bool.false_and,Int.reduceLT,Int.reduceLE,Int.reduceGT,Int.reduceGE,Int.reduceBEq,Int.reduceBNe,Int.reduceEq,Int.reduceNe,Int.reduceNeg,l1,l2,l3,e1,e2,e3,eI,hxi,hld,e4,eC,hlen,g0,cA,cB,cC,cD,cE,e5,e6,hyi,st,eA,v1']
  exact ⟨_,_,_,rfl,og,⟨y,_,rfl,rfl,w7⟩,fg⟩
 ·have v1':((doBook s.shards[i].book.list ⟨qe,7,qi,qa,qt⟩).2==0)=true:=by simpa using v1
  rw[v4]
  change ((bookTx s.shards[i].book.list qi qt (releaseF qi qt)).2==0)=true at v1'
  change accAt (bookTx s.shards[i].book.list qi qt (releaseF qi qt)).1 qi= -1 at v3
  rw[v3] at eA
  simp only[rn,RO.dst,lk,drop,Nat.reduceBEq,Nat.reduceAdd,Nat.reduceLeDiff,↓reduceIte,reduceCtorEq,Bool.and_self,Bool.and_true,Bool.true_and,Bool.and_false,Bool.false_and,Int.reduceLT,Int.reduceLE,Int.reduceGT,Int.reduceGE,Int.reduceBEq,Int.reduceBNe,Int.reduceEq,Int.reduceNe,Int.reduceNeg,l1,l2,l3,e1,e2,e3,eI,hxi,hld,e4,eC,hlen,g0,cA,cB,cC,cD,cE,e5,e6,hyi,st,eA,v1']
  exact ⟨_,_,_,rfl,og,⟨y,_,rfl,rfl,w7⟩,fg⟩
 ·have v1':((doBook s.shards[i].book.list ⟨qe,7,qi,qa,qt⟩).2==0)=true:=by simpa using v1
  rw[v6,Account.at_get v5]
  change ((bookTx s.shards[i].book.list qi qt (releaseF qi qt)).2==0)=true at v1'
  change accAt (bookTx s.shards[i].book.list qi qt (releaseF qi qt)).1 qi=(j:Int) at v4
  have g1:(j:Int)≥0:=by omega
  rw[v4] at eA
  have hx:=u7.idx v5
  have hl:=u7.load v5
  simp only[Account.enc] at hl
  simp only[rn,RO.dst,lk,drop,Nat.reduceBEq,Nat.reduceAdd,Nat.reduceLeDiff,↓reduceIte,reduceCtorEq,Bool.and_self,Bool.and_true,Bool.true_and,Bool.and_false,Bool.false_and,Int.reduceLT,Int.reduceLE,Int.reduceGT,Int.reduceGE,Int.reduceBEq,Int.reduceBNe,Int.reduceEq,Int.reduceNe,Int.reduceNeg,l1,l2,l3,e1,e2,e3,eI,hxi,hld,e4,eC,hlen,g0,cA,cB,cC,cD,cE,e5,e6,hyi,st,eA,v1',g1,hx,hl]
  exact ⟨_,_,_,rfl,og,⟨y,_,rfl,rfl,w7⟩,fg⟩
set_option maxHeartbeats 4000000 in
set_option maxRecDepth 8000 in
theorem sdo_op8 (k:KS F) (hf:h.floor≤h.next) (v:Store.RI h cs s fp) (qe qi qa qt:Int) (okq:(⟨qe,8,qi,qa,qt⟩:Request).Ok) (ok:s.Ok) (sm:s.Small):
 SDoStoreAt F Z h cs s ⟨qe,8,qi,qa,qt⟩:=by
 unfold SDoStoreAt
 obtain ⟨l1,l2,l3⟩:=Store.lenI v
 obtain ⟨cs1,h1,fr,e1,o1,v1,f1⟩:=l13Copy_c (Z:=Z) k hf v sm
 have vh:=Store.okI.on v o1
 have e2:=sStoreOk_run (Z:=Z) k vh ok
 have e3:=l13Find_run (Z:=Z) k.s13 vh qi
 have eI:=fun (lo hi:Int) (h:Heap)=>l01In_run (F:=F) (Z:=Z) k.s01 8 lo hi h
 simp only[inR] at eI
 obtain ⟨y,p,rfl,hp,w⟩:=v1
 subst hp
 rw[call_run F Z (k.s13.lk (g:=381) rfl) _ _ rfl]
 simp only[Request.enc]
 cases hg:s.good with
 | false=>
   rw[hg] at e2
   rw[dost_bad (by simp[hg])]
   simp only[rn,RO.dst,lk,drop,Nat.reduceBEq,Nat.reduceAdd,Nat.reduceLeDiff,↓reduceIte,reduceCtorEq,Bool.and_self,Bool.and_true,Bool.true_and,Bool.and_false,Bool.false_and,Int.reduceLT,Int.reduceLE,Int.reduceGT,Int.reduceGE,Int.reduceBEq,Int.reduceBNe,Int.reduceEq,Int.reduceNe,Int.reduceNeg,l1,l2,l3,e1,e2]
   exact ⟨_,_,_,rfl,o1,⟨y,_,rfl,rfl,w⟩,f1⟩
 | true=>
 rw[hg] at e2
 have hin:(s.good&&inR (⟨qe,8,qi,qa,qt⟩:Request).op 0 8)=true:=by rw[hg];rfl
 obtain ⟨x,p,rfl,hp,wx⟩:=vh
 subst hp
 rcases wx.found (fun t=>decide (t.lo≤qi)&&decide (qi≤t.hi)) with q | ⟨i,q,hi,hpi,_⟩
 ·change findId s.shards qi= -1 at q
  rw[dost_away hin q]
  rw[q] at e3
  simp only[rn,RO.dst,lk,drop,Nat.reduceBEq,Nat.reduceAdd,Nat.reduceLeDiff,↓reduceIte,reduceCtorEq,Bool.and_self,Bool.and_true,Bool.true_and,Bool.and_false,Bool.false_and,Int.reduceLT,Int.reduceLE,Int.reduceGT,Int.reduceGE,Int.reduceBEq,Int.reduceBNe,Int.reduceEq,Int.reduceNe,Int.reduceNeg,l1,l2,l3,e1,e2,e3,eI]
  exact ⟨_,_,_,rfl,o1,⟨y,_,rfl,rfl,w⟩,f1⟩
 change findId s.shards qi=(i:Int) at q
 rw[q] at e3
 rw[dost_at hin q,Shard.at_get hi]
 have g0: ¬(i:Int)<0:=by omega
 have hxi:=wx.idx hi
 have hyi:=w.idx hi
 have okX:=ok.shards _ (List.getElem_mem hi)
 have smX:=sm.2 _ (List.getElem_mem hi)
 have smf:s.shards[i].finished.length≤1048576:=smX.2
 have smb:s.shards[i].book.list.length≤1048576:=smX.1
 have hgd:s.shards[i].good=true:=by
  have:=Store.fit_at hg hi
  simp only[Store.fits,Bool.and_eq_true,Shard.at_get hi] at this
  exact this.1
 have hso:=Shard.good_sorted hgd
 have hbk:bookOk s.shards[i].book.list=true:=by
  simp only[Bool.and_eq_true,Shard.good,Shard.head] at hgd
  exact hgd.1.2.2.2.1
 obtain ⟨r,fx,hld,hR0,_⟩:=wx.one hi
 obtain ⟨cs4,h4,ft,e4,o4,u4,f4⟩:=l13CopyShard_c (Z:=Z) k.s10 k.s13 (o1.le hf) hR0 smX
 obtain ⟨xb,pb,xf,pf,rfl,rfl,wb,wf⟩:=hR0
 obtain ⟨b4,pb4,f4c,pf4,rfl,hq4,wb4,wf4⟩:=u4
 subst hq4
 obtain ⟨n4a,n4b,n4c⟩:=List.nodup_append.1 f4.nd
 have o04:=o1.trans o4
 have o4h:=o04.le
 have w4:=w.on Shard.okI o4
 have lt4:=w4.lt Shard.okI
 have lt4f:=wf4.lt (Fl.ok _)
 have eC:=l13Has_run (F:=F) (Z:=Z) k.s13 wf4 ⟨qt,qi⟩
 simp only[Fin.enc] at eC
 have hlen:=wf4.len
 cases cA:(s.shards[i].epoch !=qe) with
 | true=>
   have cA':(s.shards[i].epoch==qe)=false:=by simpa using cA
   have hR:refuse s.shards[i] ⟨qe,8,qi,qa,qt⟩=9:=by simp[refuse,inR,Request.ends,Request.fin,cA']
   rw[hR]
   simp only[show ((9:Int)==0)=false from rfl,cond_false]
   simp only[rn,RO.dst,lk,drop,Nat.reduceBEq,Nat.reduceAdd,Nat.reduceLeDiff,↓reduceIte,reduceCtorEq,Bool.and_self,Bool.and_true,Bool.true_and,Bool.and_false,Bool.false_and,Int.reduceLT,Int.reduceLE,Int.reduceGT,Int.reduceGE,Int.reduceBEq,Int.reduceBNe,Int.reduceEq,Int.reduceNe,Int.reduceNeg,l1,l2,l3,e1,e2,e3,eI,hxi,hld,e4,eC,hlen,g0,cA]
   exact ⟨_,_,_,rfl,o04,⟨y,_,rfl,rfl,w4⟩,f1⟩
 | false=>
 have cA':(s.shards[i].epoch==qe)=true:=by simpa using cA
 cases cB:(s.shards[i].state==1) with
 | true=>
   have hR:refuse s.shards[i] ⟨qe,8,qi,qa,qt⟩=0:=by simp[refuse,inR,Request.ends,Request.fin,cA',cB]
   rw[hR]
   simp only[beq_self_eq_true,cond_true]
   have hA:doShard s.shards[i] ⟨qe,8,qi,qa,qt⟩=⟨s.shards[i].lo,s.shards[i].hi,s.shards[i].state,s.shards[i].epoch,⟨(doBook s.shards[i].book.list ⟨qe,8,qi,qa,qt⟩).1⟩,s.shards[i].finished⟩:=by simp[doShard,Request.ends,Request.fin,cA',cB]
   have hD:doBook s.shards[i].book.list ⟨qe,8,qi,qa,qt⟩=(s.shards[i].book.list,bif decide (0≤accAt s.shards[i].book.list qi) then 0 else 2):=rfl
   obtain ⟨g,fq,st,og,fg,w7,u7⟩:=row_set (h:=h) o04 hf w4 f1 hi wb4 wf4 f4.nd (fun id hid=>f4.lo id hid) (n:=h1.next) (w.lt Shard.okI) o1.ext.1
   rw[hA]
   have eA:=l10Find_run (F:=F) (Z:=Z) k.s10 u7 qi
   have eF:=l10Find_run (F:=F) (Z:=Z) k.s10 wb4 qi
   rcases acc_found hbk qi with ⟨q1,_⟩ | ⟨j,q1,_,_,hj,_⟩
   ·have hv:doVal (doBook s.shards[i].book.list ⟨qe,8,qi,qa,qt⟩) qi=0:=by simp[doVal,hD,q1]
    have hc:(doBook s.shards[i].book.list ⟨qe,8,qi,qa,qt⟩).2=2:=by simp[hD,q1]
    rw[hv,hc]
    simp only[q1] at eA eF
    simp only[rn,RO.dst,lk,drop,Nat.reduceBEq,Nat.reduceAdd,Nat.reduceLeDiff,↓reduceIte,reduceCtorEq,Bool.and_self,Bool.and_true,Bool.true_and,Bool.and_false,Bool.false_and,Int.reduceLT,Int.reduceLE,Int.reduceGT,Int.reduceGE,Int.reduceBEq,Int.reduceBNe,Int.reduceEq,Int.reduceNe,Int.reduceNeg,l1,l2,l3,e1,e2,e3,eI,hxi,hld,e4,eC,hlen,g0,cA,cB,eF,hyi,st,eA]
    exact ⟨_,_,_,rfl,og,⟨y,_,rfl,rfl,w7⟩,fg⟩
   ·have hv:doVal (doBook s.shards[i].book.list ⟨qe,8,qi,qa,qt⟩) qi=s.shards[i].book.list[j].bal:=by simp[doVal,hD,q1,Account.at_get hj]
    have hc:(doBook s.shards[i].book.list ⟨qe,8,qi,qa,qt⟩).2=0:=by simp[hD,q1]
    rw[hv,hc]
    simp only[q1] at eA eF
    have g1: ¬(j:Int)<0:=by omega
    have g2:(j:Int)≥0:=by omega
    have hx:=u7.idx hj
    have hl:=u7.load hj
    simp only[Account.enc] at hl
    simp only[rn,RO.dst,lk,drop,Nat.reduceBEq,Nat.reduceAdd,Nat.reduceLeDiff,↓reduceIte,reduceCtorEq,Bool.and_self,Bool.and_true,Bool.true_and,Bool.and_false,Bool.false_and,Int.reduceLT,Int.reduceLE,Int.reduceGT,Int.reduceGE,Int.reduceBEq,Int.reduceBNe,Int.reduceEq,Int.reduceNe,Int.reduceNeg,l1,l2,l3,e1,e2,e3,eI,hxi,hld,e4,eC,hlen,g0,cA,cB,eF,hyi,st,eA,g1,g2,hx,hl]
    exact ⟨_,_,_,rfl,og,⟨y,_,rfl,rfl,w7⟩,fg⟩
 | false=>
 have hR:refuse s.shards[i] ⟨qe,8,qi,qa,qt⟩=0:=by simp[refuse,inR,Request.ends,Request.fin,cA',cB]
 rw[hR]
 simp only[beq_self_eq_true,cond_true]
 have hA:doShard s.shards[i] ⟨qe,8,qi,qa,qt⟩=⟨s.shards[i].lo,s.shards[i].hi,s.shards[i].state,s.shards[i].epoch,⟨(doBook s.shards[i].book.list ⟨qe,8,qi,qa,qt⟩).1⟩,s.shards[i].finished⟩:=by simp[doShard,Request.ends,Request.fin,cA',cB]
 have hD:doBook s.shards[i].book.list ⟨qe,8,qi,qa,qt⟩=(s.shards[i].book.list,bif decide (0≤accAt s.shards[i].book.list qi) then 0 else 2):=rfl
 obtain ⟨g,fq,st,og,fg,w7,u7⟩:=row_set (h:=h) o04 hf w4 f1 hi wb4 wf4 f4.nd (fun id hid=>f4.lo id hid) (n:=h1.next) (w.lt Shard.okI) o1.ext.1
 rw[hA]
 have eA:=l10Find_run (F:=F) (Z:=Z) k.s10 u7 qi
 have eF:=l10Find_run (F:=F) (Z:=Z) k.s10 wb4 qi
 rcases acc_found hbk qi with ⟨q1,_⟩ | ⟨j,q1,_,_,hj,_⟩
 ·have hv:doVal (doBook s.shards[i].book.list ⟨qe,8,qi,qa,qt⟩) qi=0:=by simp[doVal,hD,q1]
  have hc:(doBook s.shards[i].book.list ⟨qe,8,qi,qa,qt⟩).2=2:=by simp[hD,q1]
  rw[hv,hc]
  simp only[q1] at eA eF
  simp only[rn,RO.dst,lk,drop,Nat.reduceBEq,Nat.reduceAdd,Nat.reduceLeDiff,↓reduceIte,reduceCtorEq,Bool.and_self,Bool.and_true,Bool.true_and,Bool.and_false,Bool.false_and,Int.reduceLT,Int.reduceLE,Int.reduceGT,Int.reduceGE,Int.reduceBEq,Int.reduceBNe,Int.reduceEq,Int.reduceNe,Int.reduceNeg,l1,l2,l3,e1,e2,e3,eI,hxi,hld,e4,eC,hlen,g0,cA,cB,eF,hyi,st,eA]
  exact ⟨_,_,_,rfl,og,⟨y,_,rfl,rfl,w7⟩,fg⟩
 ·have hv:doVal (doBook s.shards[i].book.list ⟨qe,8,qi,qa,qt⟩) qi=s.shards[i].book.list[j].bal:=by simp[doVal,hD,q1,Account.at_get hj]
  have hc:(doBook s.shards[i].book.list ⟨qe,8,qi,qa,qt⟩).2=0:=by simp[hD,q1]
  rw[hv,hc]
  simp only[q1] at eA eF
  have g1: ¬(j:Int)<0:=by omega
  have g2:(j:Int)≥0:=by omega
  have hx:=u7.idx hj
  have hl:=u7.load hj
  simp only[Account.enc] at hl
  simp only[rn,RO.dst,lk,drop,Nat.reduceBEq,Nat.reduceAdd,Nat.reduceLeDiff,↓reduceIte,reduceCtorEq,Bool.and_self,Bool.and_true,Bool.true_and,Bool.and_false,Bool.false_and,Int.reduceLT,Int.reduceLE,Int.reduceGT,Int.reduceGE,Int.reduceBEq,Int.reduceBNe,Int.reduceEq,Int.reduceNe,Int.reduceNeg,l1,l2,l3,e1,e2,e3,eI,hxi,hld,e4,eC,hlen,g0,cA,cB,eF,hyi,st,eA,g1,g2,hx,hl]
  exact ⟨_,_,_,rfl,og,⟨y,_,rfl,rfl,w7⟩,fg⟩
end
end Go.Proofs.Ytjaideekkbpalaa.A
namespace Go.Proofs.Ytjaideekkbpalaa.A
open Go
set_option linter.unusedSimpArgs false
set_option linter.unusedVariables false
section
variable {F:Nat→Option RF} {Z:CallF} {h:Heap} {cs:List Cell} {fp:List Nat} {s:Store}
theorem op_cases' {o:Int} (h:inR o 0 8=true):o=0∨o=1∨o=2∨o=3∨o=4∨o=5∨o=6∨o=7∨o=8:=by
 simp only[inR,Bool.and_eq_true,decide_eq_true_eq] at h
 omega
theorem sdo_out (k:KS F) (hf:h.floor≤h.next) (v:Store.RI h cs s fp) {q:Request} (hin:inR q.op 0 8=false) (ok:s.Ok) (sm:s.Small):SDoStoreAt F Z h cs s q:=by
 unfold SDoStoreAt
 obtain ⟨l1,l2,l3⟩:=Store.lenI v
 obtain ⟨cs1,h1,fr,e1,o1,v1,f1⟩:=l13Copy_c (Z:=Z) k hf v sm
 have e2:=sStoreOk_run (Z:=Z) k (Store.okI.on v o1) ok
 have e3:=l01In_run (F:=F) (Z:=Z) k.s01 q.op 0 8 h1
 obtain ⟨m1,m2,m3⟩:=Store.lenI v1
 rw[call_run F Z (k.s13.lk (g:=381) rfl) _ _ rfl,dost_bad (by simp[hin])]
 rw[hin] at e3
 obtain ⟨qe,qo,qi,qa,qt⟩:=q
 simp only[Request.enc]
 cases hg:s.good with
 | false=>
   rw[hg] at e2
   simp only[rn,RO.dst,lk,drop,Nat.reduceBEq,Nat.reduceAdd,Nat.reduceLeDiff,↓reduceIte,reduceCtorEq,l1,l2,l3,m1,m2,m3,e1,e2]
   exact ⟨_,_,_,rfl,o1,v1,f1⟩
 | true=>
   rw[hg] at e2
   simp only[rn,RO.dst,lk,drop,Nat.reduceBEq,Nat.reduceAdd,Nat.reduceLeDiff,↓reduceIte,reduceCtorEq,l1,l2,l3,m1,m2,m3,e1,e2,e3]
   exact ⟨_,_,_,rfl,o1,v1,f1⟩
theorem sDoStore_c (k:KS F) (hf:h.floor≤h.next) (v:Store.RI h cs s fp) (q:Request) (okq:q.Ok) (ok:s.Ok) (sm:s.Small):
 ∃cs' h' fq,call F Z 381 [.agg cs,.agg q.enc] h=some (.tup [.agg cs',.c (.int .i64 (doStore s q).2.1),.c (.int .u64 (doStore s q).2.2)],h')∧On h h'∧Store.RI h' cs' (doStore s q).1 fq∧Fre h fq:=by
 show SDoStoreAt F Z h cs s q
 cases hin:inR q.op 0 8 with
 | false=>exact sdo_out k hf v hin ok sm
 | true=>
   obtain ⟨qe,qo,qi,qa,qt⟩:=q
   rcases op_cases' hin with h | h | h | h | h | h | h | h | h<;>(simp only at h;subst h)
   ·exact sdo_op0 k hf v qe qi qa qt okq ok sm
   ·exact sdo_op1 k hf v qe qi qa qt okq ok sm
   ·exact sdo_op2 k hf v qe qi qa qt okq ok sm
   ·exact sdo_op3 k hf v qe qi qa qt okq ok sm
   ·exact sdo_op4 k hf v qe qi qa qt okq ok sm
   ·exact sdo_op5 k hf v qe qi qa qt okq ok sm
   ·exact sdo_op6 k hf v qe qi qa qt okq ok sm
   ·exact sdo_op7 k hf v qe qi qa qt okq ok sm
   ·exact sdo_op8 k hf v qe qi qa qt okq ok sm
end
end Go.Proofs.Ytjaideekkbpalaa.A
namespace Go.Proofs.Ytjaideekkbpalaa.A
open Go
set_option linter.unusedSimpArgs false
set_option linter.unusedVariables false
theorem grp_renew (s:Store) (e:Int):(renewStore s e).1.group=s.group:=by
 unfold renewStore;cases s.next e<;>rfl
theorem grp_freeze (s:Store) (lo e:Int):(freezeShard s lo e).1.group=s.group:=by
 unfold freezeShard;cases (s.next e&&decide (0≤findAt s.shards lo 0))<;>rfl
theorem grp_cut (s:Store) (a e:Int):(cutShard s a e).1.group=s.group:=by
 cases h:(cutShard s a e).2 with
 | false=>rw[cut_same h]
 | true=>
   obtain ⟨_,_,_,_,_,_,_,_,_,hc⟩:=cut_when h
   rw[hc];rfl
theorem grp_join (s:Store) (a e:Int):(joinShard s a e).1.group=s.group:=by
 cases h:(joinShard s a e).2 with
 | false=>rw[join_same h]
 | true=>
   obtain ⟨_,_,_,_,_,_,_,_,_,hc⟩:=join_when h
   rw[hc];rfl
theorem grp_do {s:Store} (g:s.Good) (q:Request):(doStore s q).1.group=s.group:=by
 rcases doStore_when (q:=q) g with ⟨h,_⟩ | ⟨i,hi,_,hp,d,h⟩<;>rw[h]
structure Drawn (hb:Heap) (h:Heap) (k:Nat) (cs:List Cell) (s:Store) (fp:List Nat):Prop where
 ri:Store.RI h cs s fp
 fr:Fre hb fp
 far:k∉fp
 sg:SGood s
 pos:0<s.shards.length
 low:s.Low 900
theorem Drawn.dr {hb h h':Heap} {k:Nat} {cs:List Cell} {s:Store} {fp:List Nat} (w:Drawn hb h k cs s fp) (d:Dr k h h'):Drawn hb h' k cs s fp:=⟨Store.okI.dr w.ri d w.far,w.fr,w.far,w.sg,w.pos,w.low⟩
section
variable {F:Nat→Option RF} {Z:CallF} {hb h:Heap} {k:Nat} {x y:Cell} {code:List Int} {cs:List Cell} {fp:List Nat} {s:Store}
set_option maxHeartbeats 4000000 in
set_option maxRecDepth 8000 in
theorem l13DrawStep_c (K:KS F) (hS11:Has F tS11) (c:Cur h k x code) (hbn:hb.next≤h.next) (w:Drawn hb h k cs s fp) (hs:s.seen≤900000):
 ∃(s':Store) (cs':List Cell) (h':Heap) (fp':List Nat),call F Z 396 [.c (.ptr k 0 0),.agg cs] h=some (.agg cs',h')∧Drawn hb h' k cs' s' fp'∧s'.group=s.group∧(s'.seen=s.seen∨s'.seen=s.seen+1)∧Dr k h h'∧Cur h' k x code:=by
 obtain ⟨l1,l2,l3⟩:=Store.lenI w.ri
 have hsn:=w.sg.good.sn
 have hwn:IntKind.i64.wrap (s.seen+1)=s.seen+1:=wrapI _ (by omega) (by omega)
 have hpos:(s.shards.length:Int)>0:=by have:=w.pos;omega
 have h8:=w.sg.good.len
 obtain ⟨r1,h1,e1,r10,r1n,_,m1,c1⟩:=l01Below_c (Z:=Z) K.s01 c (s.shards.length:Nat)
 have r1l:=r1n (by omega)
 obtain ⟨n1,rfl⟩: ∃n:Nat,r1=(n:Int):=⟨r1.toNat,by omega⟩
 have hn1:n1<s.shards.length:=by omega
 have w1:=w.dr m1.dr
 obtain ⟨r5,h2,e5,r50,r5n,_,m2,c2⟩:=l01Below_c (Z:=Z) K.s01 c1 14
 have w2:=w1.dr m2.dr
 have dr2:=m1.dr.trans m2.dr
 obtain ⟨z,p,rfl,hp,wz⟩:=w.ri
 subst hp
 have hzl:=wz.len
 have hzi:=wz.idx hn1
 obtain ⟨r,f0,hall,hR,_⟩:=wz.oneDr w.far hn1
 obtain ⟨xb,pb,xf,pf,rfl,_,_,_⟩:=hR
 have hld:=hall h1 m1.dr
 have hloU:=(w.sg.ok.shards _ (List.getElem_mem hn1)).lo
 generalize s.shards[n1].lo=lo at *
 rw[call_run F Z (K.s13.lk (g:=396) rfl) _ _ rfl]
 have fin: ∀{s':Store} {cs':List Cell} {g h':Heap} {fp':List Nat},Dr k h g→Cur g k x code→On g h'→Store.RI h' cs' s' fp'→Fre g fp'→SGood s'→0<s'.shards.length→s'.Low 900→Drawn hb h' k cs' s' fp'∧Dr k h h'∧Cur h' k x code:=fun {s' cs' g h' fp'} d cg o v f sg ps lw=>
  ⟨⟨v,⟨fun id hid=>by have:=f.lo id hid;have:=d.next;omega,f.nd⟩,cg.far f,sg,ps,lw⟩,d.trans (o.dr k),cg.on o⟩
 cases q0:(r5==0) with
 | true=>
   obtain ⟨a,h3,e3,ha,d3,c3⟩:=drawAt_c (Z:=Z) K.s01 hS11 c2
   have w3:=w2.dr d3
   have dr3:=dr2.trans d3
   obtain ⟨cs',hq,fq,e4,o4,v4,f4⟩:=sCutShard_c (Z:=Z) (h:=⟨h3.next,h3.next,h3.get⟩) K (Nat.le_refl _) (Store.okI.up w3.ri h3.next) a (s.seen+1) ha w.sg.ok w.sg.small
   obtain ⟨g,hg⟩: ∃g,Heap.mk hq.next h3.floor hq.get=g:=⟨_,rfl⟩
   have og:On h3 g:=by rw[←hg];exact ⟨⟨o4.ext.1,o4.ext.2⟩,rfl⟩
   have vg:Store.RI g cs' (cutShard s a (s.seen+1)).1 fq:=by rw[←hg];exact Store.okI.up v4 h3.floor
   obtain ⟨m1',m2',m3'⟩:=Store.lenI vg
   obtain ⟨A,B,C⟩:=fin dr3 c3 og vg ⟨f4.lo,f4.nd⟩ (w.sg.cut ha _) (Nat.lt_of_lt_of_le w.pos (len_cut s a _)) (w.low.cut a _)
   simp only[rn,RO.dst,lk,drop,Nat.reduceBEq,Nat.reduceAdd,Nat.reduceLeDiff,↓reduceIte,reduceCtorEq,l1,l2,l3,hwn,hzl,hpos,e1,hzi,hld,e5,q0,e3,e4,hg,m1',m2',m3']
   exact ⟨_,_,_,_,rfl,A,grp_cut s a _,seen_cut s a _,B,C⟩
 | false=>
 cases q1:(r5==1) with
 | true=>
   obtain ⟨cs',h',fq,e4,o4,v4,f4⟩:=sJoinShard_c (Z:=Z) K c2.le w2.ri lo (s.seen+1) hloU w.sg.ok w.sg.small
   obtain ⟨m1',m2',m3'⟩:=Store.lenI v4
   obtain ⟨A,B,C⟩:=fin dr2 c2 o4 v4 f4 (w.sg.join lo _) (len_join s lo _ w.pos) (w.low.join lo _)
   simp only[rn,RO.dst,lk,drop,Nat.reduceBEq,Nat.reduceAdd,Nat.reduceLeDiff,↓reduceIte,reduceCtorEq,l1,l2,l3,hwn,hzl,hpos,e1,hzi,hld,e5,q0,q1,e4,m1',m2',m3']
   exact ⟨_,_,_,_,rfl,A,grp_join s lo _,seen_join s lo _,B,C⟩
 | false=>
 cases q2:(r5==2) with
 | true=>
   obtain ⟨cs',h',fq,e4,o4,v4,f4⟩:=sRenewStore_c (Z:=Z) K c2.le w2.ri (s.seen+1) w.sg.ok w.sg.small
   obtain ⟨m1',m2',m3'⟩:=Store.lenI v4
   obtain ⟨A,B,C⟩:=fin dr2 c2 o4 v4 f4 (w.sg.renew _) (by rw[len_renew];exact w.pos) (w.low.renew _)
   simp only[rn,RO.dst,lk,drop,Nat.reduceBEq,Nat.reduceAdd,Nat.reduceLeDiff,↓reduceIte,reduceCtorEq,l1,l2,l3,hwn,hzl,hpos,e1,hzi,hld,e5,q0,q1,q2,e4,m1',m2',m3']
   exact ⟨_,_,_,_,rfl,A,grp_renew s _,seen_renew s _,B,C⟩
 | false=>
 cases q3:(r5==3) with
 | true=>
   obtain ⟨b6,h3,e6,m3,c3⟩:=l01Once_c (Z:=Z) K.s01 c2 3
   have w3:=w2.dr m3.dr
   have dr3:=dr2.trans m3.dr
   cases b6 with
   | true=>
     obtain ⟨cs',h',fq,e4,o4,v4,f4⟩:=sFreezeShard_c (Z:=Z) K c3.le w3.ri lo (s.seen+1) w.sg.ok w.sg.small
     obtain ⟨m1',m2',m3'⟩:=Store.lenI v4
     obtain ⟨A,B,C⟩:=fin dr3 c3 o4 v4 f4 (w.sg.freeze lo _) (by rw[len_freeze];exact w.pos) (w.low.freeze lo _)
     simp only[rn,RO.dst,lk,drop,Nat.reduceBEq,Nat.reduceAdd,Nat.reduceLeDiff,↓reduceIte,reduceCtorEq,l1,l2,l3,hwn,hzl,hpos,e1,hzi,hld,e5,q0,q1,q2,q3,e6,e4,m1',m2',m3']
     exact ⟨_,_,_,_,rfl,A,grp_freeze s lo _,seen_freeze s lo _,B,C⟩
   | false=>
     simp only[rn,RO.dst,lk,drop,Nat.reduceBEq,Nat.reduceAdd,Nat.reduceLeDiff,↓reduceIte,reduceCtorEq,l1,l2,l3,hwn,hzl,hpos,e1,hzi,hld,e5,q0,q1,q2,q3,e6]
     exact ⟨_,_,_,_,rfl,w3,rfl,.inl rfl,dr3,c3⟩
 | false=>
   obtain ⟨q,h3,e3,⟨okq,hqt⟩,d3,c3⟩:=l13DrawRequest_c (Z:=Z) K.s01 K.s10 K.s13 c2 w2.ri w2.far w.sg w.low
   have w3:=w2.dr d3
   have dr3:=dr2.trans d3
   obtain ⟨cs',hq,fq,e4,o4,v4,f4⟩:=sDoStore_c (Z:=Z) (h:=⟨h3.next,h3.next,h3.get⟩) K (Nat.le_refl _) (Store.okI.up w3.ri h3.next) q okq w.sg.ok w.sg.small
   obtain ⟨g,hg⟩: ∃g,Heap.mk hq.next h3.floor hq.get=g:=⟨_,rfl⟩
   have og:On h3 g:=by rw[←hg];exact ⟨⟨o4.ext.1,o4.ext.2⟩,rfl⟩
   have vg:Store.RI g cs' (doStore s q).1 fq:=by rw[←hg];exact Store.okI.up v4 h3.floor
   obtain ⟨m1',m2',m3'⟩:=Store.lenI vg
   obtain ⟨A,B,C⟩:=fin dr3 c3 og vg ⟨f4.lo,f4.nd⟩ (w.sg.done okq) (by rw[len_do w.sg.good];exact w.pos) (w.low.done w.sg okq (fun a ha=>by rcases ha with ha | ha<;>rw[ha]<;>omega) fun _=>hqt)
   simp only[rn,RO.dst,lk,drop,Nat.reduceBEq,Nat.reduceAdd,Nat.reduceLeDiff,↓reduceIte,reduceCtorEq,l1,l2,l3,hwn,hzl,hpos,e1,hzi,hld,e5,q0,q1,q2,q3,e3,e4,hg,m1',m2',m3']
   exact ⟨_,_,_,_,rfl,A,grp_do w.sg.good q,.inl (seen_do w.sg.good q),B,C⟩
end
end Go.Proofs.Ytjaideekkbpalaa.A
namespace Go.Proofs.Ytjaideekkbpalaa.A
open Go
set_option linter.unusedSimpArgs false
set_option linter.unusedVariables false
structure Range where
 lo:Int
 hi:Int
 group:Int
 deriving DecidableEq
namespace Range
def enc (t:Range):List Cell:=[.int .u64 t.lo,.int .u64 t.hi,.int .i64 t.group]
theorem len (t:Range):t.enc.length=3:=rfl
theorem tak (t:Range):t.enc.take 3=t.enc:=rfl
def none_:Range:=⟨0,0,0⟩
structure Ok (t:Range):Prop where
 lo:0≤t.lo∧t.lo≤18446744073709551615
 hi:0≤t.hi∧t.hi≤18446744073709551615
 group: -9223372036854775808≤t.group∧t.group≤9223372036854775807
end Range
end Go.Proofs.Ytjaideekkbpalaa.A
namespace Go.Proofs.Ytjaideekkbpalaa.A
open Go
def tLRange:List (Nat×RF):=[]
end Go.Proofs.Ytjaideekkbpalaa.A
namespace Go.Proofs.Ytjaideekkbpalaa.A
open Go
set_option linter.unusedSimpArgs false
set_option linter.unusedVariables false
section
variable {F:Nat→Option RF} {Z:CallF} {h:Heap} {x y:Cell} {xs ys:List Range} {fp fq:List Nat}
def Range.zero:List Cell:=[.int .u64 0,.int .u64 0,.int .i64 0]
end
end Go.Proofs.Ytjaideekkbpalaa.A
namespace Go.Proofs.Ytjaideekkbpalaa.A
open Go
def tLChart:List (Nat×RF):=[]
end Go.Proofs.Ytjaideekkbpalaa.A
namespace Go.Proofs.Ytjaideekkbpalaa.A
open Go
set_option linter.unusedSimpArgs false
set_option linter.unusedVariables false
structure Chart where
 epoch:Int
 ranges:List Range
 moving:Bool
 lo:Int
 to:Int
 deriving DecidableEq
def Chart.RI:Rel Chart:=fun h cs t fp=> ∃x1 p1,cs=[.int .i64 t.epoch,x1,.bool t.moving,.int .u64 t.lo,.int .i64 t.to]∧fp=p1∧SlR 7 (Fl Range.enc) h x1 t.ranges p1
theorem Chart.okI:RelOk Chart.RI where
 lt:=by
  rintro h cs t fp ⟨x1,p1,rfl,rfl,w1⟩ id hid
  exact w1.lt (Fl.ok _) id hid
 mv:=by
  rintro h h' cs t fp ⟨x1,p1,rfl,rfl,w1⟩ hn hg
  exact ⟨x1,_,rfl,rfl,w1.mv (Fl.ok _) hn hg⟩
theorem Chart.lenI {h:Heap} {cs:List Cell} {t:Chart} {fp:List Nat} (v:Chart.RI h cs t fp):cs.length=5∧cs.take 5=cs∧cs.drop 5=[]:=by
 obtain ⟨x1,p1,rfl,_⟩:=v
 exact ⟨rfl,rfl,rfl⟩
namespace Chart
structure Ok (t:Chart):Prop where
 epoch: -9223372036854775808≤t.epoch∧t.epoch≤9223372036854775807
 ranges: ∀a,a∈t.ranges→a.Ok
 lo:0≤t.lo∧t.lo≤18446744073709551615
 to: -9223372036854775808≤t.to∧t.to≤9223372036854775807
def Small (t:Chart):Prop:=t.ranges.length≤1048576
end Chart
section
variable {F:Nat→Option RF} {Z:CallF} {h:Heap} {cs cs':List Cell} {t u:Chart} {fp fq:List Nat}
end
end Go.Proofs.Ytjaideekkbpalaa.A
namespace Go.Proofs.Ytjaideekkbpalaa.A
open Go
def tLibslicesIndexFuncimplRangeimplRange:List (Nat×RF):=[]
end Go.Proofs.Ytjaideekkbpalaa.A
namespace Go.Proofs.Ytjaideekkbpalaa.A
open Go
set_option linter.unusedSimpArgs false
set_option linter.unusedVariables false
def Range.at_ (xs:List Range) (i:Nat):Range:=xs[i]?.getD Range.none_
def Range.fits (xs:List Range) (i:Nat):Bool:=decide ((Range.at_ xs i).lo≤(Range.at_ xs i).hi)&&(inR (Range.at_ xs i).group 0 99&&(i==0||decide ((Range.at_ xs i).lo=(Range.at_ xs (i-1)).hi+1)))
def rangesOk (xs:List Range):Bool:=inR xs.length 1 24&&((Range.at_ xs 0).lo==0&&((Range.at_ xs (xs.length-1)).hi==18446744073709551615&&(List.range xs.length).all (Range.fits xs)))
section
variable {F:Nat→Option RF} {Z:CallF} {h:Heap} {x:Cell} {xs:List Range} {fp:List Nat}
end
end Go.Proofs.Ytjaideekkbpalaa.A
namespace Go.Proofs.Ytjaideekkbpalaa.A
open Go
set_option linter.unusedSimpArgs false
set_option linter.unusedVariables false
def findHi (xs:List Range) (id:Int):Int:=findI (fun r=>decide (id≤r.hi)) xs
def findCov (xs:List Range) (id:Int):Int:=findI (fun r=>decide (r.lo≤id)&&decide (id≤r.hi)) xs
section
variable {F:Nat→Option RF} {Z:CallF} {h:Heap} {x:Cell} {xs:List Range} {fp:List Nat}
end
end Go.Proofs.Ytjaideekkbpalaa.A
namespace Go.Proofs.Ytjaideekkbpalaa.A
open Go
set_option linter.unusedSimpArgs false
set_option linter.unusedVariables false
structure RangesFit (xs:List Range):Prop where
 pos:1≤xs.length
 few:xs.length≤24
 lo0:(Range.at_ xs 0).lo=0
 hiN:(Range.at_ xs (xs.length-1)).hi=18446744073709551615
 le: ∀i,i<xs.length→(Range.at_ xs i).lo≤(Range.at_ xs i).hi
 grp: ∀i,i<xs.length→0≤(Range.at_ xs i).group∧(Range.at_ xs i).group≤99
 next: ∀i,i+1<xs.length→(Range.at_ xs (i+1)).lo=(Range.at_ xs i).hi+1
theorem rangesOk_fit {xs:List Range} (h:rangesOk xs=true):RangesFit xs:=by
 simp only[rangesOk,Bool.and_eq_true,inR,decide_eq_true_eq,beq_iff_eq,List.all_eq_true,List.mem_range,Range.fits,Bool.or_eq_true] at h
 obtain ⟨⟨h1,h2⟩,h3,h4,h5⟩:=h
 exact ⟨by omega,by omega,h3,h4,fun i hi=>(h5 i hi).1,fun i hi=>(h5 i hi).2.1,fun i hi=>by
  rcases (h5 (i+1) hi).2.2 with h | h
  ·omega
  ·simpa using h⟩
theorem at_get {xs:List Range} {i:Nat} (hi:i<xs.length):Range.at_ xs i=xs[i]:=by simp[Range.at_,List.getElem?_eq_getElem hi]
theorem RangesFit.has {xs:List Range} (w:RangesFit xs) {id:Int} (h0:0≤id) (h1:id≤18446744073709551615):
 ∃i,i<xs.length∧findHi xs id=(i:Int)∧findCov xs id=(i:Int)∧(Range.at_ xs i).lo≤id∧id≤(Range.at_ xs i).hi:=by
 have hp:=w.pos
 cases hf:xs.findIdx? (fun r=>decide (id≤r.hi)) with
 | none=>
   rw[List.findIdx?_eq_none_iff] at hf
   have:=hf xs[xs.length-1] (List.getElem_mem (by omega))
   have hN:=w.hiN
   rw[at_get (by omega)] at hN
   simp at this
   omega
 | some i=>
   rw[List.findIdx?_eq_some_iff_getElem] at hf
   obtain ⟨hi,h2,h3⟩:=hf
   have h2':id≤(Range.at_ xs i).hi:=by rw[at_get hi];simpa using h2
   have hlo:(Range.at_ xs i).lo≤id:=by
    cases i with
    | zero=>rw[w.lo0];exact h0
    | succ i=>
      rw[w.next i hi]
      have:=h3 i (by omega)
      rw[at_get (by omega)]
      simp at this
      omega
   refine ⟨i,hi,?_,?_,hlo,h2'⟩
   ·have:xs.findIdx? (fun r=>decide (id≤r.hi))=some i:=List.findIdx?_eq_some_iff_getElem.2 ⟨hi,h2,h3⟩
    simp only[findHi,findI,this]
   ·have:xs.findIdx? (fun r=>decide (r.lo≤id)&&decide (id≤r.hi))=some i:=by
     rw[List.findIdx?_eq_some_iff_getElem]
     rw[at_get hi] at hlo h2'
     refine ⟨hi,by simp[hlo,h2'],fun j hj=> ?_⟩
     have:=h3 j hj
     simp at this ⊢
     intro _
     exact this
    simp only[findCov,findI,this]
end Go.Proofs.Ytjaideekkbpalaa.A
namespace Go.Proofs.Ytjaideekkbpalaa.A
open Go
def r70:RF:=
 ⟨2,[.tmp 4,.tmp 5],
 .seq (.reg [⟨none,.locb 2 (.t 0)⟩,
 ⟨none,.mov 4 (.k (.int .i64 0))⟩,
 ⟨none,.mov 5 (.k (.int .i64 0))⟩])
 (.seq (.seq (.reg [⟨none,.load 6 2 5 true⟩,
 ⟨none,.call (some 7) 106 [(.t 6)] false⟩,
 ⟨none,.not 8 (.t 7)⟩])
 (.cond (.t 8)
 (.seq (.reg [⟨none,.mov 4 (.k (.int .i64 (-1)))⟩,
 ⟨none,.mov 5 (.k (.int .i64 (-1)))⟩])
 (.ret))
 (.skip)))
 (.seq (.reg [⟨none,.chk []⟩,
 ⟨none,.mov 13 (.t 1)⟩,
 ⟨none,.fad 9 2 1⟩,
 ⟨none,.load 10 9 1 false⟩,
 ⟨none,.fad 11 2 1⟩,
 ⟨none,.load 12 11 1 false⟩,
 ⟨none,.fad 18 2 0⟩,
 ⟨none,.load 19 18 1 false⟩,
 ⟨none,.call (some 14) 107 [(.t 12),(.t 13)] true⟩,
 ⟨none,.idx 15 7 (.t 10) (.t 14)⟩,
 ⟨none,.fad 16 15 2⟩,
 ⟨none,.load 17 16 1 false⟩,
 ⟨none,.mov 4 (.t 17)⟩,
 ⟨none,.mov 5 (.t 19)⟩])
 (.ret)))⟩
def tI12:List (Nat×RF):=[(70,r70)]
end Go.Proofs.Ytjaideekkbpalaa.A
namespace Go.Proofs.Ytjaideekkbpalaa.A
open Go
def tS12:List (Nat×RF):=[]
end Go.Proofs.Ytjaideekkbpalaa.A
namespace Go.Proofs.Ytjaideekkbpalaa.A
open Go
set_option linter.unusedSimpArgs false
set_option linter.unusedVariables false
def Chart.of_ (c:Chart) (id:Int):Range:=Range.at_ c.ranges (findHi c.ranges id).toNat
def Chart.good (c:Chart):Bool:=inR c.epoch 1 1000000&&(rangesOk c.ranges&&(bif c.moving then (c.of_ c.lo).lo==c.lo&&(inR c.to 0 99&&c.to !=(c.of_ c.lo).group) else c.lo==0&&c.to==0))
theorem Chart.has {c:Chart} (hr:rangesOk c.ranges=true) {id:Int} (h0:0≤id) (h1:id≤18446744073709551615):
 ∃i,i<c.ranges.length∧findHi c.ranges id=(i:Int)∧findCov c.ranges id=(i:Int)∧c.of_ id=Range.at_ c.ranges i∧(Range.at_ c.ranges i).lo≤id∧id≤(Range.at_ c.ranges i).hi:=by
 obtain ⟨i,h1,h2,h3,h4,h5⟩:=(rangesOk_fit hr).has h0 h1
 exact ⟨i,h1,h2,h3,by simp[Chart.of_,h2],h4,h5⟩
section
variable {F:Nat→Option RF} {Z:CallF} {h:Heap} {cs cs':List Cell} {c d:Chart} {fp fq:List Nat}
end
end Go.Proofs.Ytjaideekkbpalaa.A
namespace Go.Proofs.Ytjaideekkbpalaa.A
open Go
set_option linter.unusedSimpArgs false
set_option linter.unusedVariables false
def Chart.moved (c d:Chart) (id:Int):Bool:=c.good&&(d.good&&(c.of_ id).group !=(d.of_ id).group)
section
variable {F:Nat→Option RF} {Z:CallF} {h:Heap} {cs cs':List Cell} {c d:Chart} {fp fq:List Nat}
end
end Go.Proofs.Ytjaideekkbpalaa.A
namespace Go.Proofs.Ytjaideekkbpalaa.A
open Go
set_option linter.unusedSimpArgs false
set_option linter.unusedVariables false
section
variable {xs:List Range} {a g:Int}
end
section
variable {F:Nat→Option RF} {Z:CallF} {h hp:Heap} {x:Cell} {xs:List Range} {fp:List Nat}
end
end Go.Proofs.Ytjaideekkbpalaa.A
namespace Go.Proofs.Ytjaideekkbpalaa.A
open Go
set_option linter.unusedSimpArgs false
set_option linter.unusedVariables false
section
variable {xs:List Range} {k:Int}
end
section
variable {F:Nat→Option RF} {Z:CallF} {h hp:Heap} {x:Cell} {xs:List Range} {fp:List Nat}
end
end Go.Proofs.Ytjaideekkbpalaa.A
namespace Go.Proofs.Ytjaideekkbpalaa.A
open Go
set_option linter.unusedSimpArgs false
set_option linter.unusedVariables false
section
variable {α:Type} {zs:List α} {p q:α}
end
section
variable {F:Nat→Option RF} {Z:CallF} {h hp:Heap} {x:Cell} {xs:List Range} {fp:List Nat}
end
end Go.Proofs.Ytjaideekkbpalaa.A
namespace Go.Proofs.Ytjaideekkbpalaa.A
open Go
set_option linter.unusedSimpArgs false
set_option linter.unusedVariables false
section
variable {xs:List Range} {r:Range}
end
section
variable {F:Nat→Option RF} {Z:CallF} {h hp:Heap} {x:Cell} {xs:List Range} {fp:List Nat}
theorem Acc.putRow {g:Heap} {y:Cell} {rows:List (List Cell)} (a:Acc 7 h g y rows) (hf:h.floor≤h.next) {k:Nat} (hk:k<rows.length):
 (∀j n,loadP g y.sid k j n=cut? rows[k] j n)∧idxR 7 (some y) (some (k:Int))=some (.ptr y.sid k 0)∧ ∀j new r',splice? rows[k] j new=some r'→ ∃g',storeP g y.sid k j new=some g'∧Acc 7 h g' y (rows.set k r'):=by
 obtain ⟨o,fp,w,f⟩:=a
 obtain ⟨r,f2,rws,hR,hs,hld,hself,hst,hl2,fin⟩:=w.putRow (Fl.ok _) f.nd (f.own o hf) hk
 obtain ⟨rfl,rfl⟩:=hR
 refine ⟨hld,w.idx hk,fun j new r' hs=> ?_⟩
 have h1:=hst rows[k] j new
 rw[hself,hs] at h1
 obtain ⟨u,m⟩:=fin r' r' ⟨rfl,rfl⟩
 exact ⟨_,h1,o.turned m f,fp,u,f⟩
end
end Go.Proofs.Ytjaideekkbpalaa.A
namespace Go.Proofs.Ytjaideekkbpalaa.A
open Go
set_option linter.unusedSimpArgs false
set_option linter.unusedVariables false
section
variable {F:Nat→Option RF} {Z:CallF} {h:Heap} {cs cs':List Cell} {c d:Chart} {fp fq:List Nat}
end
end Go.Proofs.Ytjaideekkbpalaa.A
namespace Go.Proofs.Ytjaideekkbpalaa.A
open Go
set_option linter.unusedSimpArgs false
set_option linter.unusedVariables false
section
variable {F:Nat→Option RF} {Z:CallF} {h:Heap} {cs cs':List Cell} {c d:Chart} {fp fq:List Nat}
end
end Go.Proofs.Ytjaideekkbpalaa.A
namespace Go.Proofs.Ytjaideekkbpalaa.A
open Go
set_option linter.unusedSimpArgs false
set_option linter.unusedVariables false
structure MapCmd where
 kind:Int
 at_:Int
 group:Int
 deriving DecidableEq
namespace MapCmd
def enc (t:MapCmd):List Cell:=[.int .i64 t.kind,.int .u64 t.at_,.int .i64 t.group]
theorem len (t:MapCmd):t.enc.length=3:=rfl
theorem tak (t:MapCmd):t.enc.take 3=t.enc:=rfl
def none_:MapCmd:=⟨0,0,0⟩
structure Ok (t:MapCmd):Prop where
 kind: -9223372036854775808≤t.kind∧t.kind≤9223372036854775807
 at_:0≤t.at_∧t.at_≤18446744073709551615
 group: -9223372036854775808≤t.group∧t.group≤9223372036854775807
end MapCmd
end Go.Proofs.Ytjaideekkbpalaa.A
namespace Go.Proofs.Ytjaideekkbpalaa.A
open Go
set_option linter.unusedSimpArgs false
set_option linter.unusedVariables false
def Chart.mv (c:Chart) (i:Nat):Bool:=c.moving&&((Range.at_ c.ranges i).lo==c.lo)
def Chart.fin (c:Chart) (p:List Range×Bool):Chart×Int:=bif p.2 then ({c with epoch:=c.epoch+1,ranges:=p.1},0) else (c,4)
end Go.Proofs.Ytjaideekkbpalaa.A
namespace Go.Proofs.Ytjaideekkbpalaa.A
open Go
set_option linter.unusedSimpArgs false
set_option linter.unusedVariables false
end Go.Proofs.Ytjaideekkbpalaa.A
namespace Go.Proofs.Ytjaideekkbpalaa.A
open Go
def r50L0:RC:=
 .seq (.seq (.reg [⟨none,.mov 6 (.t 5)⟩,
 ⟨none,.mov 7 (.t 0)⟩,
 ⟨none,.len 8 (.t 7)⟩,
 ⟨none,.bin 9 .lss (.t 6) (.t 8)⟩])
 (.cond (.t 9)
 (.skip)
 (.exit 0)))
 (.seq (.block 1 (.seq (.seq (.reg [⟨none,.mov 12 (.t 0)⟩,
 ⟨none,.mov 13 (.t 5)⟩,
 ⟨none,.idx 14 3 (.t 12) (.t 13)⟩,
 ⟨none,.fad 15 14 0⟩,
 ⟨none,.load 16 15 1 false⟩,
 ⟨none,.mov 17 (.t 1)⟩,
 ⟨none,.bin 18 .neq (.t 16) (.t 17)⟩])
 (.cond (.t 18)
 (.seq (.reg [⟨none,.mov 4 (.k (.int .i64 (-1)))⟩])
 (.ret))
 (.skip)))
 (.seq (.reg [⟨none,.mov 19 (.t 1)⟩,
 ⟨none,.bin 20 .add (.t 19) (.k (.int .i64 1))⟩,
 ⟨none,.mov 1 (.t 20)⟩])
 (.seq (.seq (.reg [⟨none,.mov 21 (.t 0)⟩,
 ⟨none,.mov 22 (.t 5)⟩,
 ⟨none,.idx 23 3 (.t 21) (.t 22)⟩,
 ⟨none,.fad 24 23 1⟩,
 ⟨none,.load 25 24 1 false⟩,
 ⟨none,.mov 26 (.t 1)⟩,
 ⟨none,.bin 27 .neq (.t 25) (.t 26)⟩])
 (.cond (.t 27)
 (.seq (.reg [⟨none,.mov 4 (.k (.int .i64 (-1)))⟩])
 (.ret))
 (.skip)))
 (.seq (.reg [⟨none,.mov 28 (.t 1)⟩,
 ⟨none,.bin 29 .add (.t 28) (.k (.int .i64 1))⟩,
 ⟨none,.mov 1 (.t 29)⟩])
 (.seq (.seq (.reg [⟨none,.mov 30 (.t 0)⟩,
 ⟨none,.mov 31 (.t 5)⟩,
 ⟨none,.idx 32 3 (.t 30) (.t 31)⟩,
 ⟨none,.fad 33 32 2⟩,
 ⟨none,.load 34 33 1 false⟩,
 ⟨none,.mov 35 (.t 1)⟩,
 ⟨none,.conv 36 .u64 (.t 35)⟩,
 ⟨none,.bin 37 .neq (.t 34) (.t 36)⟩])
 (.cond (.t 37)
 (.seq (.reg [⟨none,.mov 4 (.k (.int .i64 (-1)))⟩])
 (.ret))
 (.skip)))
 (.seq (.reg [⟨none,.mov 38 (.t 1)⟩,
 ⟨none,.bin 39 .add (.t 38) (.k (.int .i64 1))⟩,
 ⟨none,.mov 1 (.t 39)⟩])
 (.seq (.seq (.reg [⟨none,.mov 40 (.t 0)⟩,
 ⟨none,.mov 41 (.t 5)⟩,
 ⟨none,.idx 42 3 (.t 40) (.t 41)⟩,
 ⟨none,.fad 43 42 3⟩,
 ⟨none,.load 44 43 1 false⟩,
 ⟨none,.mov 45 (.t 1)⟩,
 ⟨none,.conv 46 .u64 (.t 45)⟩,
 ⟨none,.bin 47 .neq (.t 44) (.t 46)⟩])
 (.cond (.t 47)
 (.seq (.reg [⟨none,.mov 4 (.k (.int .i64 (-1)))⟩])
 (.ret))
 (.skip)))
 (.seq (.reg [⟨none,.mov 48 (.t 1)⟩,
 ⟨none,.bin 49 .add (.t 48) (.k (.int .i64 1))⟩,
 ⟨none,.mov 1 (.t 49)⟩])
 (.seq (.seq (.reg [⟨none,.mov 50 (.t 0)⟩,
 ⟨none,.mov 51 (.t 5)⟩,
 ⟨none,.idx 52 3 (.t 50) (.t 51)⟩,
 ⟨none,.fad 53 52 4⟩,
 ⟨none,.load 54 53 1 false⟩,
 ⟨none,.mov 55 (.t 1)⟩,
 ⟨none,.bin 56 .neq (.t 54) (.t 55)⟩])
 (.cond (.t 56)
 (.seq (.reg [⟨none,.mov 4 (.k (.int .i64 (-1)))⟩])
 (.ret))
 (.skip)))
 (.reg [⟨none,.mov 57 (.t 1)⟩,
 ⟨none,.bin 58 .add (.t 57) (.k (.int .i64 1))⟩,
 ⟨none,.mov 1 (.t 58)⟩])))))))))))
 (.reg [⟨none,.mov 10 (.t 5)⟩,
 ⟨none,.bin 11 .add (.t 10) (.k (.int .i64 1))⟩,
 ⟨none,.mov 5 (.t 11)⟩]))
def r50:RF:=
 ⟨2,[.tmp 4],
 .seq (.reg [⟨none,.mov 4 (.k (.int .i64 0))⟩])
 (.seq (.seq (.reg [⟨none,.mov 5 (.k (.int .i64 0))⟩])
 (.block 0 (.loop [0,1,5]
 r50L0)))
 (.seq (.reg [⟨none,.mov 59 (.t 1)⟩,
 ⟨none,.mov 4 (.t 59)⟩])
 (.ret)))⟩
def tLRequest:List (Nat×RF):=[(50,r50)]
end Go.Proofs.Ytjaideekkbpalaa.A
namespace Go.Proofs.Ytjaideekkbpalaa.A
open Go
set_option linter.unusedSimpArgs false
set_option linter.unusedVariables false
section
variable {F:Nat→Option RF} {Z:CallF} {h:Heap} {x y:Cell} {xs ys:List Request} {fp fq:List Nat}
def Request.zero:List Cell:=[.int .i64 0,.int .i64 0,.int .u64 0,.int .u64 0,.int .i64 0]
end
end Go.Proofs.Ytjaideekkbpalaa.A
namespace Go.Proofs.Ytjaideekkbpalaa.A
open Go
def tLClient:List (Nat×RF):=[]
end Go.Proofs.Ytjaideekkbpalaa.A
namespace Go.Proofs.Ytjaideekkbpalaa.A
open Go
set_option linter.unusedSimpArgs false
set_option linter.unusedVariables false
structure Client where
 id:Int
 seq:Int
 chart:Chart
 busy:Bool
 tries:Int
 ask:Request
 deriving DecidableEq
def Client.RI:Rel Client:=fun h cs t fp=> ∃x1 p1,cs=[.int .i64 t.id,.int .i64 t.seq,.int .i64 t.chart.epoch,x1,.bool t.chart.moving,.int .u64 t.chart.lo,.int .i64 t.chart.to,.bool t.busy,.int .i64 t.tries,.int .i64 t.ask.epoch,.int .i64 t.ask.op,.int .u64 t.ask.id,.int .u64 t.ask.amount,.int .i64 t.ask.tx]∧fp=p1∧SlR 7 (Fl Range.enc) h x1 t.chart.ranges p1
theorem Client.okI:RelOk Client.RI where
 lt:=by
  rintro h cs t fp ⟨x1,p1,rfl,rfl,w1⟩ id hid
  exact w1.lt (Fl.ok _) id hid
 mv:=by
  rintro h h' cs t fp ⟨x1,p1,rfl,rfl,w1⟩ hn hg
  exact ⟨x1,_,rfl,rfl,w1.mv (Fl.ok _) hn hg⟩
theorem Client.lenI {h:Heap} {cs:List Cell} {t:Client} {fp:List Nat} (v:Client.RI h cs t fp):cs.length=14∧cs.take 14=cs∧cs.drop 14=[]:=by
 obtain ⟨x1,p1,rfl,_⟩:=v
 exact ⟨rfl,rfl,rfl⟩
namespace Client
structure Ok (t:Client):Prop where
 id: -9223372036854775808≤t.id∧t.id≤9223372036854775807
 seq: -9223372036854775808≤t.seq∧t.seq≤9223372036854775807
 chart:t.chart.Ok
 tries: -9223372036854775808≤t.tries∧t.tries≤9223372036854775807
 ask:t.ask.Ok
def Small (t:Client):Prop:=t.chart.Small
end Client
section
variable {F:Nat→Option RF} {Z:CallF} {h:Heap} {cs cs':List Cell} {t u:Client} {fp fq:List Nat}
end
end Go.Proofs.Ytjaideekkbpalaa.A
namespace Go.Proofs.Ytjaideekkbpalaa.A
open Go
def tI16:List (Nat×RF):=[]
end Go.Proofs.Ytjaideekkbpalaa.A
namespace Go.Proofs.Ytjaideekkbpalaa.A
open Go
def tS16:List (Nat×RF):=[]
end Go.Proofs.Ytjaideekkbpalaa.A
namespace Go.Proofs.Ytjaideekkbpalaa.A
open Go
set_option linter.unusedSimpArgs false
set_option linter.unusedVariables false
def Client.good (c:Client):Bool:=inR c.id 1 999&&(inR c.seq 0 1000000&&(c.chart.good&&(bif c.busy then inR c.ask.op 0 8&&(c.ask.epoch==0&&(inR c.tries 1 6&&decide (0<c.seq))) else c.tries==0&&decide (c.ask=Request.none_))))
section
variable {F:Nat→Option RF} {Z:CallF} {h:Heap} {cs:List Cell} {c:Client} {fp:List Nat}
end
end Go.Proofs.Ytjaideekkbpalaa.A
namespace Go.Proofs.Ytjaideekkbpalaa.A
open Go
set_option linter.unusedSimpArgs false
set_option linter.unusedVariables false
section
variable {F:Nat→Option RF} {Z:CallF} {h:Heap} {cs:List Cell} {fp:List Nat}
variable {c:Chart}
end
end Go.Proofs.Ytjaideekkbpalaa.A
namespace Go.Proofs.Ytjaideekkbpalaa.A
open Go
section
variable {F:Nat→Option RF} {Z:CallF} {h hp:Heap} {x:Cell} {xs:List Range} {fp:List Nat}
end
end Go.Proofs.Ytjaideekkbpalaa.A
namespace Go.Proofs.Ytjaideekkbpalaa.A
open Go
set_option linter.unusedSimpArgs false
set_option linter.unusedVariables false
section
variable {F:Nat→Option RF} {Z:CallF} {h:Heap} {cs:List Cell} {c:Chart} {fp:List Nat}
end
end Go.Proofs.Ytjaideekkbpalaa.A
namespace Go.Proofs.Ytjaideekkbpalaa.A
open Go
set_option linter.unusedSimpArgs false
set_option linter.unusedVariables false
theorem Range.at_ok {xs:List Range} (h: ∀t,t∈xs→t.Ok) (i:Nat):(Range.at_ xs i).Ok:=by
 unfold Range.at_
 cases hx:xs[i]? with
 | none=>exact ⟨by simp[Range.none_],by simp[Range.none_],by simp[Range.none_]⟩
 | some t=>exact h t (List.mem_of_getElem? hx)
end Go.Proofs.Ytjaideekkbpalaa.A
namespace Go.Proofs.Ytjaideekkbpalaa.A
open Go
set_option linter.unusedSimpArgs false
set_option linter.unusedVariables false
section
variable {F:Nat→Option RF} {Z:CallF} {h g:Heap} {cs:List Cell} {c:Chart} {fp fq:List Nat} {x y:Cell} {qs:List MapCmd} {rows:List (List Cell)}
theorem Beside.start {x:Cell} {p:List Nat} (v:Chart.RI g cs c p) (o:On h g) (f:Fre h p):Beside Chart.RI 15 h (g.push []) (.sl 15 g.next 0 0) [] cs c p:=by
 have hlt:=Chart.okI.lt v
 refine ⟨Acc.lit0 o,Chart.okI.on v (On.push g []),f,?_⟩
 obtain ⟨fy,h1,h2⟩:=(Acc.lit0 (tag:=15) o).sh
 refine ⟨fy,h1,h2,fun id hid hy=> ?_⟩
 rcases h1.flat with ⟨_,_,h3⟩ | ⟨_,_,_,h3⟩
 ·rw[h3] at hy;cases hy
 ·rw[h3] at hy
  have:=hlt id hid
  simp[Cell.sid] at hy;omega
end
end Go.Proofs.Ytjaideekkbpalaa.A
namespace Go.Proofs.Ytjaideekkbpalaa.A
open Go
set_option linter.unusedSimpArgs false
set_option linter.unusedVariables false
def Tile:Int→List Range→Int→Prop
 | a,[],b=>a=b+1
 | a,r::rs,b=>r.lo=a∧r.lo≤r.hi∧(0≤r.group∧r.group≤99)∧Tile (r.hi+1) rs b
theorem Tile.le: ∀{a:Int} {xs:List Range} {b:Int},Tile a xs b→a≤b+1
 | _,[],_,h=>Int.le_of_eq h
 | _,r::rs,_,⟨h1,h2,_,h4⟩=>by have:=Tile.le h4;omega
theorem Tile.drop {xs:List Range} (w:RangesFit xs): ∀(n i:Nat),i+n=xs.length→Tile (if i=0 then 0 else (Range.at_ xs (i-1)).hi+1) (xs.drop i) 18446744073709551615
 | 0,i,h=>by
   have:=w.pos
   rw[List.drop_eq_nil_of_le (by omega),if_neg (by omega)]
   have hN:=w.hiN
   rw[show xs.length-1=i-1 by omega] at hN
   show _=_;omega
 | n+1,i,h=>by
   have hi:i<xs.length:=by omega
   rw[List.drop_eq_getElem_cons hi,←at_get hi]
   have ih:=Tile.drop w n (i+1) (by omega)
   rw[if_neg (by omega),Nat.add_sub_cancel] at ih
   refine ⟨?_,w.le i hi,w.grp i hi,ih⟩
   split
   ·rename_i h0;subst h0;exact w.lo0
   ·have:=w.next (i-1) (by omega)
    rw[show i-1+1=i by omega] at this
    exact this
theorem Tile.at_: ∀{xs:List Range} {a b:Int} (i:Nat),Tile a xs b→i<xs.length→(Range.at_ xs i).lo≤(Range.at_ xs i).hi∧(0≤(Range.at_ xs i).group∧(Range.at_ xs i).group≤99)∧(Range.at_ xs i).lo=(if i=0 then a else (Range.at_ xs (i-1)).hi+1)∧(i+1=xs.length→(Range.at_ xs i).hi=b)
 | [],_,_,_,_,hi=>absurd hi (Nat.not_lt_zero _)
 | r::rs,a,b,0,⟨h1,h2,h3,h4⟩,_=>⟨h2,h3,h1,fun hl=>by
    have:rs=[]:=List.eq_nil_of_length_eq_zero (by rw[List.length_cons] at hl;omega)
    subst this
    have h4:r.hi+1=b+1:=h4
    show r.hi=b;omega⟩
 | r::rs,a,b,i+1,⟨h1,h2,h3,h4⟩,hi=>by
   obtain ⟨q1,q2,q3,q4⟩:=Tile.at_ i h4 (by simpa using hi)
   refine ⟨q1,q2,?_,fun hl=>q4 (by rw[List.length_cons] at hl;omega)⟩
   rw[if_neg (by omega)]
   show (Range.at_ rs i).lo=_
   rw[q3]
   cases i with
   | zero=>rfl
   | succ i=>rfl
theorem Tile.ok {xs:List Range} (t:Tile 0 xs 18446744073709551615) (h2:xs.length≤24):rangesOk xs=true:=by
 have h1:1≤xs.length:=by
  cases xs with
  | nil=>have t:(0:Int)=18446744073709551615+1:=t;omega
  | cons r rs=>simp
 simp only[rangesOk,Bool.and_eq_true,inR,decide_eq_true_eq,beq_iff_eq,List.all_eq_true,List.mem_range,Range.fits,Bool.or_eq_true]
 refine ⟨by omega,?_,?_,fun i hi=> ?_⟩
 ·have:=(Tile.at_ 0 t (by omega)).2.2.1;simpa using this
 ·exact (Tile.at_ (xs.length-1) t (by omega)).2.2.2 (by omega)
 ·obtain ⟨q1,q2,q3,_⟩:=Tile.at_ i t hi
  refine ⟨q1,q2,?_⟩
  by_cases h0:i=0
  ·exact .inl h0
  ·rw[if_neg h0] at q3;exact .inr q3
def ownR (xs:List Range) (id:Int):Option Range:=xs.find? fun r=>decide (r.lo≤id)&&decide (id≤r.hi)
theorem own_cons (r:Range) (xs:List Range) (id:Int):ownR (r::xs) id=if r.lo≤id∧id≤r.hi then some r else ownR xs id:=by
 simp only[ownR,List.find?_cons]
 by_cases h:r.lo≤id∧id≤r.hi
 ·rw[if_pos h];simp[h.1,h.2]
 ·rw[if_neg h]
  have:(decide (r.lo≤id)&&decide (id≤r.hi))=false:=by
   rw[Bool.and_eq_false_iff];simp;omega
  rw[this]
theorem Tile.out: ∀{xs:List Range} {a b id:Int},Tile a xs b→ ¬(a≤id∧id≤b)→ownR xs id=none
 | [],_,_,_,_,_=>rfl
 | r::rs,a,b,id,⟨h1,h2,h3,h4⟩,h=>by
   have:=Tile.le h4
   rw[own_cons,if_neg (by omega),Tile.out h4 (by omega)]
theorem own_of {xs:List Range} (hr:rangesOk xs=true) {id:Int} (h0:0≤id) (h1:id≤18446744073709551615):ownR xs id=some (Range.at_ xs (findHi xs id).toNat):=by
 obtain ⟨i,hi,q1,q2,q3,q4⟩:=(rangesOk_fit hr).has h0 h1
 have hc:xs.findIdx? (fun r=>decide (r.lo≤id)&&decide (id≤r.hi))=some i:=by
  unfold findCov findI at q2
  split at q2
  ·rename_i j hj
   rw[hj];congr 1;omega
  ·omega
 rw[q1,Int.toNat_natCast]
 unfold ownR
 rw[List.findIdx?_eq_some_iff_getElem] at hc
 obtain ⟨hi',hc1,hc2⟩:=hc
 rw[List.find?_eq_some_iff_getElem]
 refine ⟨by rw[at_get hi];exact hc1,i,hi,(at_get hi).symm,fun j hj=> ?_⟩
 have:=hc2 j hj
 simp at this ⊢
 rcases Int.lt_or_le id xs[j].lo with h | h
 ·exact .inl h
 ·exact .inr (this h)
structure Swap (xs ys:List Range) (a b:Int) (f g:Int→Option Range):Prop where
 tile:Tile 0 ys 18446744073709551615
 inn: ∀id,a≤id→id≤b→ownR xs id=f id∧ownR ys id=g id
 out: ∀id,¬(a≤id∧id≤b)→ownR ys id=ownR xs id
end Go.Proofs.Ytjaideekkbpalaa.A
namespace Go.Proofs.Ytjaideekkbpalaa.A
open Go
set_option linter.unusedSimpArgs false
set_option linter.unusedVariables false
def U64 (id:Int):Prop:=0≤id∧id≤18446744073709551615
theorem Chart.own {xs:List Range} {c:Chart} (h:c.ranges=xs) (hr:rangesOk xs=true) {id:Int} (hi:U64 id):ownR xs id=some (c.of_ id):=by
 subst h;exact own_of hr hi.1 hi.2
structure Moves (c d:Chart) (x:Int) (q:MapCmd):Prop where
 good:d.good=true
 same:x≠0→d=c
 up:x=0→d.epoch=c.epoch+1
 grp: ∀id,U64 id→(d.of_ id).group=(c.of_ id).group∨(q.kind=3∧(d.of_ id).group=c.to)
section
variable {c:Chart} {q:MapCmd}
end
end Go.Proofs.Ytjaideekkbpalaa.A
namespace Go.Proofs.Ytjaideekkbpalaa.A
open Go
set_option linter.unusedSimpArgs false
set_option linter.unusedVariables false
section
variable {F:Nat→Option RF} {Z:CallF} {h0 h:Heap} {k:Nat} {x y:Cell} {code:List Int} {rows:List (List Cell)}
def Chart.one (g:Int):Chart:=⟨1,[⟨0,18446744073709551615,g⟩],false,0,0⟩
end
end Go.Proofs.Ytjaideekkbpalaa.A
namespace Go.Proofs.Ytjaideekkbpalaa.A
open Go
set_option linter.unusedSimpArgs false
set_option linter.unusedVariables false
def Shard.bare (lo hi e:Int):Shard:=⟨lo,hi,0,e,⟨[]⟩,[]⟩
def Shard.bareRow (lo hi e:Int):List Cell:=[.int .u64 lo,.int .u64 hi,.int .i64 0,.int .i64 e,.nil,.nil]
theorem Shard.bare_ri (h:Heap) (lo hi e:Int):Shard.RI h (Shard.bareRow lo hi e) (Shard.bare lo hi e) []:=
 ⟨.nil,[],.nil,[],rfl,rfl,⟨by simp[Shard.bare],.inl ⟨rfl,rfl,rfl⟩⟩,⟨by simp[Shard.bare],.inl ⟨rfl,rfl,rfl⟩⟩⟩
theorem Shard.bare_good {lo hi e:Int} (h1:lo≤hi) (h2:1≤e∧e≤1000000):(Shard.bare lo hi e).Good where
 lh:=h1
 st:= .inl rfl
 ep:=h2
 srt:=by simp[Shard.bare,Srt]
 fine:=fun a ha=>nomatch ha
 bl:=by simp[Shard.bare]
 fl:=by simp[Shard.bare]
 acc:=fun a ha=>nomatch ha
 fs:= .nil
 fin:=fun a ha=>nomatch ha
theorem Shard.bare_ok {lo hi e:Int} (h1:0≤lo∧lo≤18446744073709551615) (h2:0≤hi∧hi≤18446744073709551615) (h3:1≤e∧e≤1000000):(Shard.bare lo hi e).Ok:=
 ⟨h1,h2,⟨by simp[Shard.bare],by simp[Shard.bare]⟩,⟨by show _≤e;omega,by show e≤_;omega⟩,⟨fun a ha=>nomatch ha⟩,fun a ha=>nomatch ha⟩
def start3 (r e:Int):List Shard:=if r=0 then [Shard.bare 0 9 1,Shard.bare 50 9223372036854775808 e] else if r=1 then [Shard.bare 2 18446744073709551615 1] else [Shard.bare 0 18446744073709551615 e]
theorem start3_good {r e:Int} (he:1≤e∧e≤3):SGood ⟨1,e,start3 r e⟩∧0<(start3 r e).length:=by
 have b1:(Shard.bare 0 9 1).Good:=Shard.bare_good (by omega) (by omega)
 have b2:(Shard.bare 50 9223372036854775808 e).Good:=Shard.bare_good (by omega) (by omega)
 have b3:(Shard.bare 2 18446744073709551615 1).Good:=Shard.bare_good (by omega) (by omega)
 have b4:(Shard.bare 0 18446744073709551615 e).Good:=Shard.bare_good (by omega) (by omega)
 have k1:(Shard.bare 0 9 1).Ok:=Shard.bare_ok (by omega) (by omega) (by omega)
 have k2:(Shard.bare 50 9223372036854775808 e).Ok:=Shard.bare_ok (by omega) (by omega) (by omega)
 have k3:(Shard.bare 2 18446744073709551615 1).Ok:=Shard.bare_ok (by omega) (by omega) (by omega)
 have k4:(Shard.bare 0 18446744073709551615 e).Ok:=Shard.bare_ok (by omega) (by omega) (by omega)
 have hx: ∀x,x∈start3 r e→(x.Good∧x.epoch≤e)∧x.Ok:=by
  intro x hx
  unfold start3 at hx
  split at hx
  ·simp only[List.mem_cons,List.not_mem_nil,or_false] at hx
   rcases hx with rfl | rfl
   ·exact ⟨⟨b1,he.1⟩,k1⟩
   ·exact ⟨⟨b2,Int.le_refl _⟩,k2⟩
  ·split at hx<;>simp only[List.mem_cons,List.not_mem_nil,or_false] at hx<;>subst hx
   ·exact ⟨⟨b3,he.1⟩,k3⟩
   ·exact ⟨⟨b4,Int.le_refl _⟩,k4⟩
 have hl:(start3 r e).length≤8∧0<(start3 r e).length:=by
  unfold start3;split
  ·simp
  ·split<;>simp
 refine ⟨⟨⟨⟨by simp,by simp⟩,⟨by show 0≤e;omega,by show e≤_;omega⟩,hl.1,fun x h=>(hx x h).1,?_⟩,⟨⟨by simp,by simp⟩,⟨by show _≤e;omega,by show e≤_;omega⟩,fun x h=>(hx x h).2⟩⟩,hl.2⟩
 show (start3 r e).Pairwise _
 unfold start3;split
 ·simp[Shard.bare]
 ·split<;>simp
theorem start3_low (r e:Int):(⟨1,e,start3 r e⟩:Store).Low 900:=by
 intro x hx
 have hb: ∀lo hi e,(Shard.bare lo hi e).All (fun a=>a.tx<900) fun f=>f.tx<900:=fun lo hi e=>⟨fun a ha=>(nomatch ha),fun f hf=>(nomatch hf)⟩
 have hx:x∈start3 r e:=hx
 unfold start3 at hx
 split at hx
 ·simp only[List.mem_cons,List.not_mem_nil,or_false] at hx
  rcases hx with rfl | rfl<;>exact hb _ _ _
 ·split at hx<;>simp only[List.mem_cons,List.not_mem_nil,or_false] at hx<;>subst hx<;>exact hb _ _ _
theorem start3_ri (h:Heap) (r e:Int):SlR 16 Shard.RI (h.push ((start3 r e).map fun x=>Shard.bareRow x.lo x.hi x.epoch)) (.sl 16 h.next 0 (start3 r e).length) (start3 r e) [h.next]:=by
 have hl:(start3 r e).length≤maxLen:=by
  unfold start3 maxLen;split
  ·simp
  ·split<;>simp
 refine ⟨hl,.inr ⟨h.next,_,(start3 r e).map fun _=>[],rfl,push_get _ _,by rw[push_next];omega,by simp,?_⟩⟩
 unfold start3;split
 ·exact ⟨Shard.bare_ri _ _ _ _,Shard.bare_ri _ _ _ _,trivial⟩
 ·split<;>exact ⟨Shard.bare_ri _ _ _ _,trivial⟩
section
variable {F:Nat→Option RF} {Z:CallF} {h:Heap} {k:Nat} {x:Cell} {code:List Int}
set_option maxHeartbeats 1000000 in
theorem drawRight_turn {hb h:Heap} {k:Nat} {x:Cell} {cs:List Cell} {fp:List Nat} {s:Store} (K:KS F) (hS11:Has F tS11) (c:Cur h k x code) (hbn:hb.next≤h.next) (w:Drawn hb h k cs s fp) (hs:s.seen≤900000) (i:Int) (hi:0<i∧i≤1000):
 ∃(s':Store) (cs':List Cell) (h':Heap) (fp':List Nat),loop F Z [0,6,7,8] r392L0 ⟨[(0,.c (.ptr k 0 0)),(8,.c (.int .i64 i))],[(6,6,0),(7,7,0)],[(6,[.int .i64 0,.int .i64 0,.nil]),(7,cs)],h⟩=loop F Z [0,6,7,8] r392L0 ⟨[(0,.c (.ptr k 0 0)),(8,.c (.int .i64 (i-1)))],[(6,6,0),(7,7,0)],[(6,[.int .i64 0,.int .i64 0,.nil]),(7,cs')],h'⟩∧Drawn hb h' k cs' s' fp'∧s'.group=s.group∧(s'.seen=s.seen∨s'.seen=s.seen+1)∧Dr k h h'∧Cur h' k x code:=by
 have hws:IntKind.i64.wrap (i-1)=i-1:=wrapI _ (by omega) (by omega)
 obtain ⟨s',cs',h',fp',e,w',hg,hs',d,c'⟩:=l13DrawStep_c (Z:=Z) K hS11 c hbn w hs
 obtain ⟨l1,l2,l3⟩:=Store.lenI w.ri
 obtain ⟨m1,m2,m3⟩:=Store.lenI w'.ri
 have hpos:i>0:=hi.1
 refine ⟨s',cs',h',fp',?_,w',hg,hs',d,c'⟩
 rw[loop_run]
 conv in (codeF _ _ r392L0 _)=>unfold r392L0
 simp only[rn,RO.dst,lk,drop,Nat.reduceBEq,Nat.reduceAdd,Nat.reduceLeDiff,↓reduceIte,reduceCtorEq,hpos,l1,l2,l3,e,m1,m2,m3,hws]
set_option maxHeartbeats 1000000 in
theorem l13DrawRight_c (K:KS F) (hS11:Has F tS11) (c:Cur h k x code):
 ∃(s:Store) (cs:List Cell) (h':Heap) (fp:List Nat),call F Z 392 [.c (.ptr k 0 0),.c x,.c (.int .i64 1)] h=some (.agg cs,h')∧Drawn h h' k cs s fp∧s.group=1∧1≤s.seen∧s.seen≤100∧Dr k h h'∧Cur h' k x code:=by
 obtain ⟨r1,h1,e1,r10,r1n,_,m1,c1⟩:=l01Below_c (Z:=Z) K.s01 c 3
 have r1l:=r1n (by omega)
 have hw1:IntKind.i64.wrap (1+r1)=1+r1:=wrapI _ (by omega) (by omega)
 obtain ⟨r2,h2,e2,r20,r2n,_,m2,c2⟩:=l01Below_c (Z:=Z) K.s01 c1 4
 obtain ⟨g,hg⟩: ∃g,h2.push ((start3 r2 (1+r1)).map fun x=>Shard.bareRow x.lo x.hi x.epoch)=g:=⟨_,rfl⟩
 have og:On h2 g:=by rw[←hg];exact On.push _ _
 have c3:=c2.on og
 have d3:Dr k h g:=(m1.dr.trans m2.dr).trans (og.dr k)
 obtain ⟨sg0,ps0⟩:=start3_good (r:=r2) (e:=1+r1) (by omega)
 have w3:Drawn h g k [.int .i64 1,.int .i64 (1+r1),.sl 16 h2.next 0 (start3 r2 (1+r1)).length] ⟨1,1+r1,start3 r2 (1+r1)⟩ [h2.next]:=
  ⟨⟨_,_,rfl,rfl,by rw[←hg];exact start3_ri _ _ _⟩,⟨fun id hid=>by simp at hid;have:=(m1.dr.trans m2.dr).next;omega,by simp⟩,fun hm=>by simp at hm;have:=c2.fl.2;omega,sg0,ps0,start3_low _ _⟩
 obtain ⟨r4,e4,r4a,r4b⟩:=l01Size_c (Z:=Z) K.s01 c3.vw 20 (by omega)
 have hw4:IntKind.i64.wrap (6+r4)=6+r4:=wrapI _ (by omega) (by omega)
 obtain ⟨n,h5,e5,n0,nn,_,m5,c5⟩:=l01Below_c (Z:=Z) K.s01 c3 (6+r4)
 have hn:=nn (by omega)
 have hw5:IntKind.i64.wrap (6+n)=6+n:=wrapI _ (by omega) (by omega)
 obtain ⟨m,hm⟩: ∃m:Nat,6+n=(m:Int):=⟨(6+n).toNat,by omega⟩
 rw[hm] at hw5
 have w5:=w3.dr m5.dr
 have d5:=d3.trans m5.dr
 obtain ⟨s',⟨s,cs,g',fp,hs',w',h1',h2',h3',d',c'⟩,lp⟩:=loop_goes (F:=F) (Z:=Z) (live:=[0,6,7,8]) (b:=r392L0) m (fun i st=> ∃(s:Store) (cs:List Cell) (g':Heap) (fp:List Nat),st=⟨[(0,.c (.ptr k 0 0)),(8,.c (.int .i64 ((m:Int)-(i:Nat))))],[(6,6,0),(7,7,0)],[(6,[.int .i64 0,.int .i64 0,.nil]),(7,cs)],g'⟩∧Drawn h g' k cs s fp∧s.group=1∧1≤s.seen∧s.seen≤3+i∧Dr k h g'∧Cur g' k x code) (fun i st hi ⟨s,cs,g',fp,hs,w,h1,h2,h3,d,c⟩=>by
  subst hs
  obtain ⟨s',cs',g'',fp',eq,w',a1,a2,d',c'⟩:=drawRight_turn (F:=F) (Z:=Z) K hS11 c d.next w (by omega) ((m:Int)-(i:Nat)) (by omega)
  refine ⟨_,⟨s',cs',g'',fp',rfl,w',a1.trans h1,by omega,by push_cast;omega,d.trans d',c'⟩,?_⟩
  rw[eq,show (m:Int)-(i:Nat)-1=(m:Int)-((i+1:Nat):Int) by omega]) (s:=⟨[(0,.c (.ptr k 0 0)),(8,.c (.int .i64 ((m:Int)-((0:Nat):Int))))],[(6,6,0),(7,7,0)],[(6,[.int .i64 0,.int .i64 0,.nil]),(7,[.int .i64 1,.int .i64 (1+r1),.sl 16 h2.next 0 (start3 r2 (1+r1)).length])],h5⟩) ⟨_,_,_,_,rfl,w5,rfl,by show 1≤1+r1;omega,by show 1+r1≤_;push_cast;omega,d5,c5⟩
 subst hs'
 rw[show (m:Int)-((0:Nat):Int)=(m:Int) by omega] at lp
 obtain ⟨m1',m2',m3'⟩:=Store.lenI w'.ri
 have fin: ∃(s:Store) (cs':List Cell) (h':Heap) (fp:List Nat),some (V.agg cs,g')=some (V.agg cs',h')∧Drawn h h' k cs' s fp∧s.group=1∧1≤s.seen∧s.seen≤100∧Dr k h h'∧Cur h' k x code:=⟨_,_,_,_,rfl,w',h1',h2',by omega,d',c'⟩
 have last: ¬((m:Int)-(m:Int)>0):=by omega
 rw[call_run F Z (K.s13.lk (g:=392) rfl) _ _ rfl]
 cases q0:(r2==0) with
 | true=>
   have q:r2=0:=by simpa using q0
   simp only[q,start3,if_true,List.map_cons,List.map_nil,Shard.bareRow,Shard.bare,List.length_cons,List.length_nil,Nat.zero_add,Nat.reduceAdd] at hg lp
   simp only[rn,RO.dst,lk,drop,Nat.reduceBEq,Nat.reduceAdd,Nat.reduceLeDiff,↓reduceIte,reduceCtorEq,List.replicate_succ,List.replicate_zero,fills,and_self,List.set_cons_zero,List.set_cons_succ,Nat.reduceLT,Nat.zero_lt_succ,Nat.zero_lt_one,e1,hw1,e2,q0,hg,e4,hw4,e5,hw5,hm,lp]
   rw[loop_run]
   conv in (codeF _ _ r392L0 _)=>unfold r392L0
   simp only[rn,RO.dst,lk,drop,Nat.reduceBEq,Nat.reduceAdd,Nat.reduceLeDiff,↓reduceIte,reduceCtorEq,last,m1',m2',m3']
   exact fin
 | false=>
 have qn0: ¬r2=0:=by simpa using q0
 cases q1:(r2==1) with
 | true=>
   have q:r2=1:=by simpa using q1
   have q10: ¬(1:Int)=0:=by omega
   simp only[q,start3,q10,if_true,if_false,List.map_cons,List.map_nil,Shard.bareRow,Shard.bare,List.length_cons,List.length_nil,Nat.zero_add,Nat.reduceAdd] at hg lp
   simp only[rn,RO.dst,lk,drop,Nat.reduceBEq,Nat.reduceAdd,Nat.reduceLeDiff,↓reduceIte,reduceCtorEq,List.replicate_succ,List.replicate_zero,fills,and_self,List.set_cons_zero,List.set_cons_succ,Nat.reduceLT,Nat.zero_lt_succ,Nat.zero_lt_one,e1,hw1,e2,q0,q1,hg,e4,hw4,e5,hw5,hm,lp]
   rw[loop_run]
   conv in (codeF _ _ r392L0 _)=>unfold r392L0
   simp only[rn,RO.dst,lk,drop,Nat.reduceBEq,Nat.reduceAdd,Nat.reduceLeDiff,↓reduceIte,reduceCtorEq,last,m1',m2',m3']
   exact fin
 | false=>
   have qn1: ¬r2=1:=by simpa using q1
   simp only[start3,qn0,qn1,if_false,List.map_cons,List.map_nil,Shard.bareRow,Shard.bare,List.length_cons,List.length_nil,Nat.zero_add,Nat.reduceAdd] at hg lp
   simp only[rn,RO.dst,lk,drop,Nat.reduceBEq,Nat.reduceAdd,Nat.reduceLeDiff,↓reduceIte,reduceCtorEq,List.replicate_succ,List.replicate_zero,fills,and_self,List.set_cons_zero,List.set_cons_succ,Nat.reduceLT,Nat.zero_lt_succ,Nat.zero_lt_one,e1,hw1,e2,q0,q1,hg,e4,hw4,e5,hw5,hm,lp]
   rw[loop_run]
   conv in (codeF _ _ r392L0 _)=>unfold r392L0
   simp only[rn,RO.dst,lk,drop,Nat.reduceBEq,Nat.reduceAdd,Nat.reduceLeDiff,↓reduceIte,reduceCtorEq,last,m1',m2',m3']
   exact fin
end
end Go.Proofs.Ytjaideekkbpalaa.A
namespace Go.Proofs.Ytjaideekkbpalaa.A
open Go
set_option linter.unusedSimpArgs false
set_option linter.unusedVariables false
section
variable {h0 h h':Heap} {k tag:Nat} {x y:Cell} {code:List Int} {rows:List (List Cell)}
theorem Draw.keep {β:Type} {P:Rel β} (ok:RelOk P) {cs:List Cell} {b:β} {fq:List Nat} (w:Draw tag h0 h k x code y rows) (v:P h cs b fq) (hn:y.sid∉fq) (row:List Cell):
 P (catH (h.push [row]) y [row]) cs b fq:=by
 obtain ⟨fp,h1,h2,h3⟩:=w.sep
 have hp:=h1.on (Fl.ok _) (On.push h [row])
 have hm:h.next≤(catH (h.push [row]) y [row]).next:=Nat.le_trans (by simp[Heap.push]) (catH_next (h.push [row]) y [row])
 refine ok.mv v hm fun id hid=> ?_
 have hid':=ok.lt v id hid
 have hnf:id∉fp:=fun hm=>by
  rcases h1.flat with ⟨_,_,h4⟩ | ⟨_,_,_,h4⟩
  ·rw[h4] at hm;cases hm
  ·rw[h4] at hm;simp at hm;subst hm;exact hn hid
 rw[catH_keep hp [row] (by simp only[Heap.push];omega) hnf]
 simp only[Heap.push];rw[if_neg (by omega)]
end
section
variable {F:Nat→Option RF} {Z:CallF} {h0 h:Heap} {k:Nat} {x y:Cell} {code:List Int} {rows:List (List Cell)} {cs:List Cell} {fp:List Nat} {s:Store}
end
end Go.Proofs.Ytjaideekkbpalaa.A
namespace Go.Proofs.Ytjaideekkbpalaa.A
open Go
set_option linter.unusedSimpArgs false
set_option linter.unusedVariables false
section
variable {s:Store} {q:Request} {xs:List Account} {x:Shard}
end
end Go.Proofs.Ytjaideekkbpalaa.A
namespace Go.Proofs.Ytjaideekkbpalaa.A
open Go
set_option linter.unusedSimpArgs false
set_option linter.unusedVariables false
def sumI {α:Type} (f:α→Int):List α→Int
 | []=>0
 | a::r=>f a+sumI f r
section
variable {α:Type} (f:α→Int)
theorem sumI_app: ∀(xs ys:List α),sumI f (xs++ys)=sumI f xs+sumI f ys
 | [],ys=>by simp[sumI]
 | a::r,ys=>by
   simp only[List.cons_append,sumI,sumI_app r ys];omega
end
def Account.money (a:Account):Int:=a.bal+a.hold
def moneyOf (xs:List Account):Int:=sumI Account.money xs
def wHi (t:Int):Int:=t / 18446744073709551616
def wLo (t:Int):Int:=t%18446744073709551616
section
variable {F:Nat→Option RF} {Z:CallF} {h:Heap} {x:Cell} {xs:List Account} {fp:List Nat}
end
end Go.Proofs.Ytjaideekkbpalaa.A
namespace Go.Proofs.Ytjaideekkbpalaa.A
open Go
set_option linter.unusedSimpArgs false
set_option linter.unusedVariables false
def Shard.money (t:Shard):Int:=moneyOf t.book.list
def Store.money (s:Store):Int:=sumI Shard.money s.shards
section
variable {F:Nat→Option RF} {Z:CallF} {h:Heap} {cs:List Cell} {s:Store} {fp:List Nat} {x:Cell} {xs:List Shard}
end
end Go.Proofs.Ytjaideekkbpalaa.A
namespace Go.Proofs.Ytjaideekkbpalaa.A
open Go
set_option linter.unusedSimpArgs false
set_option linter.unusedVariables false
section
variable {s:Store} {q:Request} {xs:List Account} {x:Shard} {id tx:Int} {f:Act} {d:Int}
theorem sumI_set {α:Type} (f:α→Int): ∀(xs:List α) (i:Nat) (hi:i<xs.length) (y:α),sumI f (xs.set i y)=sumI f xs-f xs[i]+f y
 | [],_,hi,_=>absurd hi (Nat.not_lt_zero _)
 | a::r,0,_,y=>by simp only[List.set_cons_zero,sumI,List.getElem_cons_zero];omega
 | a::r,i+1,hi,y=>by
   have:=sumI_set f r i (by simpa using hi) y
   simp only[List.set_cons_succ,sumI,List.getElem_cons_succ,this];omega
theorem sumI_erase {α:Type} (f:α→Int): ∀(xs:List α) (i:Nat) (hi:i<xs.length),sumI f (xs.eraseIdx i)=sumI f xs-f xs[i]
 | [],_,hi=>absurd hi (Nat.not_lt_zero _)
 | a::r,0,_=>by simp only[List.eraseIdx_cons_zero,sumI,List.getElem_cons_zero];omega
 | a::r,i+1,hi=>by
   have:=sumI_erase f r i (by simpa using hi)
   simp only[List.eraseIdx_cons_succ,sumI,List.getElem_cons_succ,this];omega
def Request.puts (q:Request):Int:=if q.op=2 then q.amount else if q.op=3 then -q.amount else 0
end
end Go.Proofs.Ytjaideekkbpalaa.A
namespace Go.Proofs.Ytjaideekkbpalaa.A
open Go
set_option linter.unusedSimpArgs false
set_option linter.unusedVariables false
theorem findI_none {α:Type} {p:α→Bool} {xs:List α} (h: ∀a,a∈xs→p a=false):findI p xs= -1:=by
 have:xs.findIdx? p=none:=by rw[List.findIdx?_eq_none_iff];exact h
 unfold findI
 rw[this]
theorem sumI_map {α β:Type} (f:β→Int) (g:α→β): ∀xs:List α,sumI f (xs.map g)=sumI (fun x=>f (g x)) xs
 | []=>rfl
 | x::r=>by simp only[List.map_cons,sumI,sumI_map f g r]
end Go.Proofs.Ytjaideekkbpalaa.A
namespace Go.Proofs.Ytjaideekkbpalaa.A
open Go
def r2:RF:=
 ⟨1,[.cell 2 5 true],
 .seq (.reg [⟨none,.locb 1 (.t 0)⟩,
 ⟨none,.loc 2 [.int .u64 0,.int .i64 0,.int .i64 0,.int .i64 0,.int .i64 0]⟩])
 (.seq (.reg [⟨none,.loc 3 [.int .u64 0,.int .i64 0,.int .i64 0,.int .i64 0,.int .i64 0]⟩])
 (.seq (.reg [⟨none,.fad 4 1 0⟩,
 ⟨none,.load 5 4 1 false⟩,
 ⟨none,.fad 6 3 0⟩,
 ⟨none,.store 6 1 (.t 5)⟩])
 (.seq (.reg [⟨none,.fad 7 1 1⟩,
 ⟨none,.load 8 7 1 false⟩,
 ⟨none,.fad 9 3 1⟩,
 ⟨none,.store 9 1 (.t 8)⟩])
 (.seq (.reg [⟨none,.fad 10 1 2⟩,
 ⟨none,.load 11 10 1 false⟩,
 ⟨none,.fad 12 3 2⟩,
 ⟨none,.store 12 1 (.t 11)⟩])
 (.seq (.reg [⟨none,.fad 13 1 3⟩,
 ⟨none,.load 14 13 1 false⟩,
 ⟨none,.fad 15 3 3⟩,
 ⟨none,.store 15 1 (.t 14)⟩])
 (.seq (.reg [⟨none,.fad 16 1 4⟩,
 ⟨none,.load 17 16 1 false⟩,
 ⟨none,.fad 18 3 4⟩,
 ⟨none,.store 18 1 (.t 17)⟩])
 (.seq (.reg [⟨none,.load 19 3 5 true⟩,
 ⟨none,.store 2 5 (.t 19)⟩])
 (.ret))))))))⟩
def tLHand:List (Nat×RF):=[(2,r2)]
end Go.Proofs.Ytjaideekkbpalaa.A
namespace Go.Proofs.Ytjaideekkbpalaa.A
open Go
set_option linter.unusedSimpArgs false
set_option linter.unusedVariables false
section
variable {F:Nat→Option RF} {Z:CallF}
def handOk (lo from_ to epoch phase:Int):Bool:=inR from_ 0 99&&inR to 0 99&&(from_ !=to)&&inR epoch 1 999999&&inR phase 0 3
theorem isHand_run (hI11:AllT (fun x=>F x.1=some x.2) tI11) (hI15:AllT (fun x=>F x.1=some x.2) tI15) (a b c d e:Int) (h:Heap):
 call F Z 6 [.agg [.int .u64 a,.int .i64 b,.int .i64 c,.int .i64 d,.int .i64 e]] h=some (.c (.bool (handOk a b c d e)),h):=by
 rw[call_run F Z (hI15.lk (g:=6) rfl) _ _ rfl]
 simp only[rn,RO.dst,lk,drop,Nat.reduceBEq,Nat.reduceAdd,Nat.reduceLeDiff,↓reduceIte,reduceCtorEq,isGroupId_run hI11]
 (repeat' ((first | (rw[gF_if];split) | (rw[condC_if];split) | (rw[pickR_if];split))<;>(rename_i hh;(try simp only[Bool.not_eq_true,decide_eq_true_eq] at hh);simp only[hh,rn,RO.dst,lk,drop,Nat.reduceBEq,Nat.reduceAdd,Nat.reduceLeDiff,↓reduceIte,reduceCtorEq,isGroupId_run hI11])))<;>refine fin_bool ?_<;>simp_all[handOk,inR]<;>omega
end
end Go.Proofs.Ytjaideekkbpalaa.A
namespace Go.Proofs.Ytjaideekkbpalaa.A
open Go
set_option linter.unusedSimpArgs false
set_option linter.unusedVariables false
structure Hand where
 lo:Int
 from_:Int
 to:Int
 epoch:Int
 phase:Int
 deriving DecidableEq
namespace Hand
def enc (t:Hand):List Cell:=[.int .u64 t.lo,.int .i64 t.from_,.int .i64 t.to,.int .i64 t.epoch,.int .i64 t.phase]
theorem len (t:Hand):t.enc.length=5:=rfl
theorem tak (t:Hand):t.enc.take 5=t.enc:=rfl
def none_:Hand:=⟨0,0,0,0,0⟩
structure Ok (t:Hand):Prop where
 lo:0≤t.lo∧t.lo≤18446744073709551615
 from_: -9223372036854775808≤t.from_∧t.from_≤9223372036854775807
 to: -9223372036854775808≤t.to∧t.to≤9223372036854775807
 epoch: -9223372036854775808≤t.epoch∧t.epoch≤9223372036854775807
 phase: -9223372036854775808≤t.phase∧t.phase≤9223372036854775807
end Hand
end Go.Proofs.Ytjaideekkbpalaa.A
namespace Go.Proofs.Ytjaideekkbpalaa.A
open Go
set_option linter.unusedSimpArgs false
set_option linter.unusedVariables false
section
variable {F:Nat→Option RF} {Z:CallF} {h:Heap} {x y:Cell} {xs ys:List Hand} {fp fq:List Nat}
def Hand.zero:List Cell:=[.int .u64 0,.int .i64 0,.int .i64 0,.int .i64 0,.int .i64 0]
end
end Go.Proofs.Ytjaideekkbpalaa.A
namespace Go.Proofs.Ytjaideekkbpalaa.A
open Go
def tLHandMsg:List (Nat×RF):=[]
end Go.Proofs.Ytjaideekkbpalaa.A
namespace Go.Proofs.Ytjaideekkbpalaa.A
open Go
set_option linter.unusedSimpArgs false
set_option linter.unusedVariables false
structure HandMsg where
 step:Int
 lo:Int
 to:Int
 epoch:Int
 shard:Shard
 deriving DecidableEq
def HandMsg.RI:Rel HandMsg:=fun h cs t fp=> ∃x1 p1 x2 p2,cs=[.int .i64 t.step,.int .u64 t.lo,.int .i64 t.to,.int .i64 t.epoch,.int .u64 t.shard.lo,.int .u64 t.shard.hi,.int .i64 t.shard.state,.int .i64 t.shard.epoch,x1,x2]∧fp=p1++p2∧SlR 11 (Fl Account.enc) h x1 t.shard.book.list p1∧SlR 9 (Fl Fin.enc) h x2 t.shard.finished p2
theorem HandMsg.okI:RelOk HandMsg.RI where
 lt:=by
  rintro h cs t fp ⟨x1,p1,x2,p2,rfl,rfl,w1,w2⟩ id hid
  simp only[List.mem_append] at hid
  rcases hid with hid | hid
  ·exact w1.lt (Fl.ok _) id hid
  ·exact w2.lt (Fl.ok _) id hid
 mv:=by
  rintro h h' cs t fp ⟨x1,p1,x2,p2,rfl,rfl,w1,w2⟩ hn hg
  exact ⟨x1,_,x2,_,rfl,rfl,w1.mv (Fl.ok _) hn fun id hid=>hg id (by simp[hid]),w2.mv (Fl.ok _) hn fun id hid=>hg id (by simp[hid])⟩
theorem HandMsg.lenI {h:Heap} {cs:List Cell} {t:HandMsg} {fp:List Nat} (v:HandMsg.RI h cs t fp):cs.length=10∧cs.take 10=cs∧cs.drop 10=[]:=by
 obtain ⟨x1,p1,x2,p2,rfl,_⟩:=v
 exact ⟨rfl,rfl,rfl⟩
namespace HandMsg
structure Ok (t:HandMsg):Prop where
 step: -9223372036854775808≤t.step∧t.step≤9223372036854775807
 lo:0≤t.lo∧t.lo≤18446744073709551615
 to: -9223372036854775808≤t.to∧t.to≤9223372036854775807
 epoch: -9223372036854775808≤t.epoch∧t.epoch≤9223372036854775807
 shard:t.shard.Ok
def Small (t:HandMsg):Prop:=t.shard.Small
end HandMsg
section
variable {F:Nat→Option RF} {Z:CallF} {h:Heap} {cs cs':List Cell} {t u:HandMsg} {fp fq:List Nat}
end
end Go.Proofs.Ytjaideekkbpalaa.A
namespace Go.Proofs.Ytjaideekkbpalaa.A
open Go
set_option linter.unusedSimpArgs false
set_option linter.unusedVariables false
def Hand.ok (h:Hand):Bool:=handOk h.lo h.from_ h.to h.epoch h.phase
def Hand.sends (h:Hand):Int:=if h.phase=1 then h.epoch+1 else h.epoch
def Hand.done (h:Hand) (step lo epoch:Int):Hand×Bool:=if h.ok=true∧h.phase≠3∧step=h.phase∧lo=h.lo∧epoch=h.sends then ({h with phase:=h.phase+1},true) else (h,false)
def handEp (d e:Int):Int:=if e=1 then IntKind.i64.wrap (d+1) else d
section
variable {F:Nat→Option RF} {Z:CallF} {h:Heap} {cs:List Cell} {fp:List Nat} {m:HandMsg}
theorem handEpoch_run (hI15:Has F tI15) (a b c d e:Int) (h:Heap):call F Z 132 [.agg [.int .u64 a,.int .i64 b,.int .i64 c,.int .i64 d,.int .i64 e]] h=some (.c (.int .i64 (handEp d e)),h):=by
 rw[call_run F Z (hI15.lk (g:=132) rfl) _ _ rfl]
 simp only[rn,RO.dst,lk,drop,Nat.reduceBEq,Nat.reduceAdd,Nat.reduceLeDiff,↓reduceIte,reduceCtorEq]
 (repeat' ((first | (rw[gF_if];split) | (rw[condC_if];split) | (rw[pickR_if];split))<;>(rename_i hh;(try simp only[Bool.not_eq_true,decide_eq_true_eq] at hh);simp only[hh,rn,RO.dst,lk,drop,Nat.reduceBEq,Nat.reduceAdd,Nat.reduceLeDiff,↓reduceIte,reduceCtorEq])))<;>simp_all[handEp]
set_option maxHeartbeats 4000000 in
theorem handDone_run (hI11:Has F tI11) (hI15:Has F tI15) (a:Hand) (v:HandMsg.RI h cs m fp):call F Z 113 [.agg a.enc,.agg cs] h=some (.tup [.agg (a.done m.step m.lo m.epoch).1.enc,.c (.bool (a.done m.step m.lo m.epoch).2)],h):=by
 obtain ⟨x1,p1,x2,p2,rfl,rfl,w1,w2⟩:=v
 obtain ⟨lo,fr,to,ep,ph⟩:=a
 have hw:handOk lo fr to ep ph=true→IntKind.i64.wrap (ep+1)=ep+1∧IntKind.i64.wrap (ph+1)=ph+1:=fun hk=>by
  simp only[handOk,inR,Bool.and_eq_true,decide_eq_true_eq] at hk
  exact ⟨wrapI _ (by omega) (by omega),wrapI _ (by omega) (by omega)⟩
 rw[call_run F Z (hI15.lk (g:=113) rfl) _ _ rfl]
 simp only[Hand.enc,rn,RO.dst,lk,drop,Nat.reduceBEq,Nat.reduceAdd,Nat.reduceLeDiff,↓reduceIte,reduceCtorEq,isHand_run hI11 hI15,handEpoch_run hI15]
 clear w1 w2
 (repeat' ((first | (rw[gF_if];split) | (rw[condC_if];split) | (rw[pickR_if];split))<;>(rename_i hh;(try simp only[Bool.not_eq_true,decide_eq_true_eq] at hh);simp only[hh,rn,RO.dst,lk,drop,Nat.reduceBEq,Nat.reduceAdd,Nat.reduceLeDiff,↓reduceIte,reduceCtorEq,isHand_run hI11 hI15,handEpoch_run hI15])))
 all_goals clear hI11 hI15
 all_goals first
  | (simp_all[Hand.done,Hand.ok,Hand.sends,Hand.enc];done)
  | (simp_all[Hand.done,Hand.ok,Hand.sends,Hand.enc,handEp];done)
  | (simp_all[Hand.done,Hand.ok,Hand.sends,Hand.enc,handEp];split<;>simp_all;done)
end
end Go.Proofs.Ytjaideekkbpalaa.A
namespace Go.Proofs.Ytjaideekkbpalaa.A
open Go
set_option linter.unusedSimpArgs false
set_option linter.unusedVariables false
section
variable {F:Nat→Option RF} {Z:CallF} {h:Heap} {cs:List Cell} {t:HandMsg} {fp:List Nat}
end
end Go.Proofs.Ytjaideekkbpalaa.A
namespace Go.Proofs.Ytjaideekkbpalaa.A
open Go
set_option linter.unusedSimpArgs false
set_option linter.unusedVariables false
def HandMsg.none_:HandMsg:=⟨0,0,0,0,Shard.none_⟩
def handSend (a:Hand) (s:Store):HandMsg×Bool:=
 bif a.ok&& !(a.phase==3) then (bif a.phase==1 then (bif (exportShard s a.lo).2&&((exportShard s a.lo).1.epoch==a.epoch) then (⟨1,a.lo,a.to,a.epoch+1,(exportShard s a.lo).1⟩,true) else (HandMsg.none_,false)) else (⟨a.phase,a.lo,a.from_,a.epoch,Shard.none_⟩,true)) else (HandMsg.none_,false)
def handTake (s:Store) (m:HandMsg):Store×Bool:=bif m.to==s.group then (bif m.step==0 then freezeShard s m.lo m.epoch else bif m.step==1 then installShard s m.shard m.epoch else bif m.step==2 then retireShard s m.lo m.epoch else (s,false)) else (s,false)
theorem Shard.none_small:Shard.none_.Small:=by simp[Shard.none_,Shard.Small,Book.Small]
theorem handSend_small {s:Store} (sm:s.Small) (a:Hand):(handSend a s).1.Small:=by
 unfold handSend
 cases (a.ok&& !(a.phase==3))<;>simp only[cond_true,cond_false]
 ·exact Shard.none_small
 cases (a.phase==1)<;>simp only[cond_true,cond_false]
 ·exact Shard.none_small
 cases ((exportShard s a.lo).2&&((exportShard s a.lo).1.epoch==a.epoch))<;>simp only[cond_true,cond_false]
 ·exact Shard.none_small
 ·exact exportShard_small sm
theorem handTake_small {s:Store} (sm:s.Small) {m:HandMsg} (smm:m.Small):(handTake s m).1.Small:=by
 unfold handTake
 cases (m.to==s.group)<;>simp only[cond_true,cond_false]
 ·exact sm
 cases (m.step==0)<;>simp only[cond_true,cond_false]
 ·cases (m.step==1)<;>simp only[cond_true,cond_false]
  ·cases (m.step==2)<;>simp only[cond_true,cond_false]
   ·exact sm
   ·exact retireShard_small sm _ _
  ·exact installShard_small sm smm _
 ·exact freezeShard_small sm _ _
theorem Hand.ok_epoch {a:Hand} (h:a.ok=true):IntKind.i64.wrap (a.epoch+1)=a.epoch+1:=by
 simp only[Hand.ok,handOk,inR,Bool.and_eq_true,decide_eq_true_eq] at h
 exact wrapI _ (by omega) (by omega)
section
variable {F:Nat→Option RF} {Z:CallF} {h:Heap} {cs ds:List Cell} {fp fq:List Nat} {s:Store} {m:HandMsg}
theorem HandMsg.none_R (h:Heap):HandMsg.RI h [.int .i64 0,.int .u64 0,.int .i64 0,.int .i64 0,.int .u64 0,.int .u64 0,.int .i64 0,.int .i64 0,.nil,.nil] HandMsg.none_ []:=⟨.nil,[],.nil,[],rfl,rfl,SlR.nil _ _ _,SlR.nil _ _ _⟩
theorem send_bad {a:Hand} (h:a.ok=false):handSend a s=(HandMsg.none_,false):=by simp[handSend,h]
theorem send_over {a:Hand} (h:a.phase=3):handSend a s=(HandMsg.none_,false):=by simp[handSend,h]
theorem send_other {a:Hand} (h:a.ok=true) (h3: ¬a.phase=3) (h1: ¬a.phase=1):handSend a s=(⟨a.phase,a.lo,a.from_,a.epoch,Shard.none_⟩,true):=by
 have h3':(a.phase==3)=false:=by simpa using h3
 have h1':(a.phase==1)=false:=by simpa using h1
 simp[handSend,h,h1',h3']
theorem send_none {a:Hand} (h1:a.phase=1) (h2:(exportShard s a.lo).2=false):handSend a s=(HandMsg.none_,false):=by simp[handSend,h1,h2]
theorem send_old {a:Hand} (h1:a.phase=1) (h2: ¬(exportShard s a.lo).1.epoch=a.epoch):handSend a s=(HandMsg.none_,false):=by
 have h2':((exportShard s a.lo).1.epoch==a.epoch)=false:=by simpa using h2
 simp[handSend,h1,h2']
theorem send_yes {a:Hand} (h:a.ok=true) (h1:a.phase=1) (h2:(exportShard s a.lo).2=true) (h3:(exportShard s a.lo).1.epoch=a.epoch):handSend a s=(⟨1,a.lo,a.to,a.epoch+1,(exportShard s a.lo).1⟩,true):=by simp[handSend,h,h1,h2,h3]
set_option maxHeartbeats 1000000 in
theorem handSend_c (k:KI F) (hI15:Has F tI15) (hL:Has F tLibslicesIndexFuncimplShardimplShard) (hf:h.floor≤h.next) (a:Hand) (v:Store.RI h cs s fp) (ok:s.Ok) (sm:s.Small):
 ∃cs' h' fq,call F Z 331 [.agg a.enc,.agg cs] h=some (.tup [.agg cs',.c (.bool (handSend a s).2)],h')∧On h h'∧HandMsg.RI h' cs' (handSend a s).1 fq∧Fre h fq:=by
 obtain ⟨l1,l2,l3⟩:=Store.lenI v
 have e1:=isHand_run (Z:=Z) k.i11 hI15 a.lo a.from_ a.to a.epoch a.phase h
 obtain ⟨cs1,h1,fq,e2,o2,v2,f2⟩:=ExportShard_c (Z:=Z) k hL hf v a.lo ok sm
 have e3:=fun h=>handEpoch_run (Z:=Z) hI15 a.lo a.from_ a.to a.epoch a.phase h
 have hw:=fun (hh:a.ok=true)=>Hand.ok_epoch hh
 rw[call_run F Z (hI15.lk (g:=331) rfl) _ _ rfl]
 simp only[Hand.enc]
 cases ha:a.ok with
 | false=>
   rw[show handOk a.lo a.from_ a.to a.epoch a.phase=false from ha] at e1
   rw[send_bad ha]
   simp only[rn,RO.dst,lk,drop,Nat.reduceBEq,Nat.reduceAdd,Nat.reduceLeDiff,↓reduceIte,reduceCtorEq,l1,l2,l3,e1]
   exact ⟨_,_,_,rfl,On.refl h,HandMsg.none_R h,Fre.nil h⟩
 | true=>
   rw[show handOk a.lo a.from_ a.to a.epoch a.phase=true from ha] at e1
   by_cases h3:a.phase=3
   ·rw[send_over h3]
    have h3t:(a.phase==3)=true:=by simpa using h3
    simp only[rn,RO.dst,lk,drop,Nat.reduceBEq,Nat.reduceAdd,Nat.reduceLeDiff,↓reduceIte,reduceCtorEq,l1,l2,l3,e1,h3t]
    exact ⟨_,_,_,rfl,On.refl h,HandMsg.none_R h,Fre.nil h⟩
   have h3':(a.phase==3)=false:=by simpa using h3
   by_cases h1:a.phase=1
   ·have h1':(a.phase==1)=true:=by simpa using h1
    obtain ⟨m1,m2,m3⟩:=Shard.lenI v2
    have e3': ∀h,call F Z 132 [.agg [.int .u64 a.lo,.int .i64 a.from_,.int .i64 a.to,.int .i64 a.epoch,.int .i64 a.phase]] h=some (.c (.int .i64 (a.epoch+1)),h):=fun h=>by rw[e3 h];simp only[handEp];rw[if_pos h1,hw ha]
    cases hx:(exportShard s a.lo).2 with
    | false=>
      rw[hx] at e2
      rw[send_none h1 hx]
      simp only[rn,RO.dst,lk,drop,Nat.reduceBEq,Nat.reduceAdd,Nat.reduceLeDiff,↓reduceIte,reduceCtorEq,l1,l2,l3,e1,h3',h1',e3',e2,m1,m2,m3]
      exact ⟨_,_,_,rfl,o2,HandMsg.none_R _,Fre.nil h⟩
    | true=>
      rw[hx] at e2
      have v2':=v2
      obtain ⟨x1,p1,x2,p2,rfl,hq,w1,w2⟩:=v2'
      by_cases h4:(exportShard s a.lo).1.epoch=a.epoch
      ·have h4':((exportShard s a.lo).1.epoch !=a.epoch)=false:=by simpa using h4
       rw[send_yes ha h1 hx h4]
       simp only[rn,RO.dst,lk,drop,Nat.reduceBEq,Nat.reduceAdd,Nat.reduceLeDiff,↓reduceIte,reduceCtorEq,l1,l2,l3,e1,h3',h1',e3',e2,h4']
       rw[h1]
       exact ⟨_,_,_,rfl,o2,⟨x1,p1,x2,p2,rfl,hq,w1,w2⟩,f2⟩
      ·have h4':((exportShard s a.lo).1.epoch !=a.epoch)=true:=by simpa using h4
       rw[send_old h1 h4]
       simp only[rn,RO.dst,lk,drop,Nat.reduceBEq,Nat.reduceAdd,Nat.reduceLeDiff,↓reduceIte,reduceCtorEq,l1,l2,l3,e1,h3',h1',e3',e2,h4']
       exact ⟨_,_,_,rfl,o2,HandMsg.none_R _,Fre.nil h⟩
   ·have h1':(a.phase==1)=false:=by simpa using h1
    have e3': ∀h,call F Z 132 [.agg [.int .u64 a.lo,.int .i64 a.from_,.int .i64 a.to,.int .i64 a.epoch,.int .i64 a.phase]] h=some (.c (.int .i64 a.epoch),h):=fun h=>by rw[e3 h];simp only[handEp];rw[if_neg h1]
    rw[send_other ha h3 h1]
    simp only[rn,RO.dst,lk,drop,Nat.reduceBEq,Nat.reduceAdd,Nat.reduceLeDiff,↓reduceIte,reduceCtorEq,l1,l2,l3,e1,h3',h1',e3']
    exact ⟨_,_,_,rfl,On.refl h,⟨.nil,[],.nil,[],rfl,rfl,SlR.nil _ _ _,SlR.nil _ _ _⟩,Fre.nil h⟩
theorem HandSend_c (k:KI F) (hI15:Has F tI15) (hL:Has F tLibslicesIndexFuncimplShardimplShard) (hf:h.floor≤h.next) (a:Hand) (v:Store.RI h cs s fp) (ok:s.Ok) (sm:s.Small):
 ∃cs' h' fq,call F Z 304 [.agg a.enc,.agg cs] h=some (.tup [.agg cs',.c (.bool (handSend a s).2)],h')∧On h h'∧HandMsg.RI h' cs' (handSend a s).1 fq∧Fre h fq:=by
 obtain ⟨l1,l2,l3⟩:=Store.lenI v
 obtain ⟨cs1,h1,fq,e,o,u,f⟩:=handSend_c (Z:=Z) k hI15 hL hf a v ok sm
 obtain ⟨m1,m2,m3⟩:=HandMsg.lenI u
 rw[call_run F Z (hI15.lk (g:=304) rfl) _ _ rfl]
 simp only[Hand.enc] at e ⊢
 simp only[rn,RO.dst,lk,drop,Nat.reduceBEq,Nat.reduceAdd,Nat.reduceLeDiff,↓reduceIte,reduceCtorEq,l1,l2,l3,e,m1,m2,m3]
 exact ⟨_,_,_,rfl,o,u,f⟩
theorem HandMsg.shardI (u:HandMsg.RI h ds m fq): ∃x1 x2,ds=[.int .i64 m.step,.int .u64 m.lo,.int .i64 m.to,.int .i64 m.epoch,.int .u64 m.shard.lo,.int .u64 m.shard.hi,.int .i64 m.shard.state,.int .i64 m.shard.epoch,x1,x2]∧Shard.RI h [.int .u64 m.shard.lo,.int .u64 m.shard.hi,.int .i64 m.shard.state,.int .i64 m.shard.epoch,x1,x2] m.shard fq:=by
 obtain ⟨x1,p1,x2,p2,rfl,hq,w1,w2⟩:=u
 exact ⟨x1,x2,rfl,⟨x1,p1,x2,p2,rfl,hq,w1,w2⟩⟩
set_option maxHeartbeats 1000000 in
theorem handTake_c (k:KI F) (hI15:Has F tI15) (hL:Has F tLibslicesIndexFuncimplShardimplShard) (prd:PrimAt F Z 330 (delF 16)) (pri:PrimAt F Z 332 (insF 16 80)) (hf:h.floor≤h.next) (v:Store.RI h cs s fp) (u:HandMsg.RI h ds m fq) (ok:s.Ok) (sm:s.Small) (okm:m.Ok) (smm:m.Small):
 ∃cs' h' fq,call F Z 334 [.agg cs,.agg ds] h=some (.tup [.agg cs',.c (.bool (handTake s m).2)],h')∧On h h'∧Store.RI h' cs' (handTake s m).1 fq∧Fre h fq:=by
 obtain ⟨x1,x2,rfl,ux⟩:=HandMsg.shardI u
 obtain ⟨cs0,h0,f0,e0,o0,v0,r0⟩:=copyStore_c (Z:=Z) k hf v sm
 obtain ⟨cs1,h1,f1,e1,o1,v1,r1⟩:=FreezeShard_c (Z:=Z) k hL hf v m.lo m.epoch ok sm
 obtain ⟨cs2,h2,f2,e2,o2,v2,r2⟩:=InstallShard_c (Z:=Z) k pri hf v ux m.epoch ok sm okm.shard smm
 obtain ⟨cs3,h3,f3,e3,o3,v3,r3⟩:=RetireShard_c (Z:=Z) k hL prd hf v m.lo m.epoch ok sm
 obtain ⟨a01,a02,a03⟩:=Store.lenI v0
 obtain ⟨a11,a12,a13⟩:=Store.lenI v1
 obtain ⟨a21,a22,a23⟩:=Store.lenI v2
 obtain ⟨a31,a32,a33⟩:=Store.lenI v3
 rw[call_run F Z (hI15.lk (g:=334) rfl) _ _ rfl]
 obtain ⟨y,p,rfl,_⟩:=v
 by_cases c0:m.to=s.group
 ·have c0':(m.to !=s.group)=false:=by simpa using c0
  by_cases c1:m.step=0
  ·have c1':(m.step==0)=true:=by simpa using c1
   have hd:handTake s m=freezeShard s m.lo m.epoch:=by simp[handTake,c0,c1]
   rw[hd]
   simp only[rn,RO.dst,lk,drop,Nat.reduceBEq,Nat.reduceAdd,Nat.reduceLeDiff,↓reduceIte,reduceCtorEq,c0',c1',e1,a11,a12,a13]
   exact ⟨_,_,_,rfl,o1,v1,r1⟩
  have c1':(m.step==0)=false:=by simpa using c1
  by_cases c2:m.step=1
  ·have c2':(m.step==1)=true:=by simpa using c2
   have hd:handTake s m=installShard s m.shard m.epoch:=by simp[handTake,c0,c2]
   rw[hd]
   simp only[rn,RO.dst,lk,drop,Nat.reduceBEq,Nat.reduceAdd,Nat.reduceLeDiff,↓reduceIte,reduceCtorEq,c0',c1',c2',e2,a21,a22,a23]
   exact ⟨_,_,_,rfl,o2,v2,r2⟩
  have c2':(m.step==1)=false:=by simpa using c2
  by_cases c3:m.step=2
  ·have c3':(m.step==2)=true:=by simpa using c3
   have hd:handTake s m=retireShard s m.lo m.epoch:=by simp[handTake,c0,c3]
   rw[hd]
   simp only[rn,RO.dst,lk,drop,Nat.reduceBEq,Nat.reduceAdd,Nat.reduceLeDiff,↓reduceIte,reduceCtorEq,c0',c1',c2',c3',e3,a31,a32,a33]
   exact ⟨_,_,_,rfl,o3,v3,r3⟩
  have c3':(m.step==2)=false:=by simpa using c3
  have hd:handTake s m=(s,false):=by simp[handTake,c0,c1',c2',c3']
  rw[hd]
  simp only[rn,RO.dst,lk,drop,Nat.reduceBEq,Nat.reduceAdd,Nat.reduceLeDiff,↓reduceIte,reduceCtorEq,c0',c1',c2',c3',e0,a01,a02,a03]
  exact ⟨_,_,_,rfl,o0,v0,r0⟩
 ·have c0':(m.to !=s.group)=true:=by simpa using c0
  have hd:handTake s m=(s,false):=by
   have:(m.to==s.group)=false:=by simpa using c0
   simp[handTake,this]
  rw[hd]
  simp only[rn,RO.dst,lk,drop,Nat.reduceBEq,Nat.reduceAdd,Nat.reduceLeDiff,↓reduceIte,reduceCtorEq,c0',e0,a01,a02,a03]
  exact ⟨_,_,_,rfl,o0,v0,r0⟩
end
end Go.Proofs.Ytjaideekkbpalaa.A
namespace Go.Proofs.Ytjaideekkbpalaa.A
open Go
set_option linter.unusedSimpArgs false
set_option linter.unusedVariables false
theorem Shard.none_ok:Shard.none_.Ok:=by constructor<;>simp[Shard.none_];exact ⟨fun _ h=>(nomatch h)⟩
theorem Store.at_ok' {s:Store} (ok:s.Ok) (i:Nat):(Shard.at_ s.shards i).Ok:=by
 by_cases hi:i<s.shards.length
 ·exact Store.at_ok ok hi
 ·rw[Shard.at_,List.getElem?_eq_none (by omega)];exact Shard.none_ok
theorem Store.renewed_ok {s:Store} (ok:s.Ok) {e:Int} (he: -9223372036854775808≤e∧e≤9223372036854775807):(s.renew e).Ok:=by
 refine ⟨ok.group,he,fun a ha=> ?_⟩
 obtain ⟨t,ht,rfl⟩:=List.mem_map.1 (show a∈s.shards.map (Shard.renew e) from ha)
 have h:=ok.shards t ht
 unfold Shard.renew
 cases (t.state==0)
 ·exact h
 ·exact ⟨h.lo,h.hi,h.state,he,h.book,h.finished⟩
theorem freezeShard_ok {s:Store} (ok:s.Ok) (lo:Int) {e:Int} (he: -9223372036854775808≤e∧e≤9223372036854775807):(freezeShard s lo e).1.Ok:=by
 unfold freezeShard
 cases (s.next e&&decide (0≤findAt s.shards lo 0)) with
 | false=>exact ok
 | true=>
   refine Store.renewed_ok (s:=s.frozen (findAt s.shards lo 0).toNat e) ⟨ok.group,ok.seen,fun a ha=> ?_⟩ he
   rcases List.mem_or_eq_of_mem_set (show a∈s.shards.set _ _ from ha) with h | h
   ·exact ok.shards a h
   ·subst h
    have h:=Store.at_ok' ok (findAt s.shards lo 0).toNat
    exact ⟨h.lo,h.hi,by simp,he,h.book,h.finished⟩
theorem installShard_ok {s:Store} (ok:s.Ok) {x:Shard} (okx:x.Ok) {e:Int} (he: -9223372036854775808≤e∧e≤9223372036854775807):(installShard s x e).1.Ok:=by
 unfold installShard
 cases (installable s x e&& !(s.shards.any x.over)) with
 | false=>exact ok
 | true=>
   refine Store.renewed_ok (s:=s.plus x) ⟨ok.group,ok.seen,fun a ha=> ?_⟩ he
   simp only[Store.plus,List.mem_append,List.mem_singleton] at ha
   rcases ha with (ha | ha) | ha
   ·exact ok.shards a (List.mem_of_mem_take ha)
   ·subst ha;exact ⟨okx.lo,okx.hi,by simp[Shard.awake],okx.epoch,okx.book,okx.finished⟩
   ·exact ok.shards a (List.mem_of_mem_drop ha)
theorem retireShard_ok {s:Store} (ok:s.Ok) (lo e:Int):(retireShard s lo e).1.Ok:=by
 unfold retireShard
 cases (s.good&&(decide (0≤findAt s.shards lo 1)&&decide ((Shard.at_ s.shards (findAt s.shards lo 1).toNat).epoch=e))) with
 | false=>exact ok
 | true=>exact ⟨ok.group,ok.seen,fun a ha=>ok.shards a (List.mem_of_mem_eraseIdx (show a∈s.shards.eraseIdx _ from ha))⟩
theorem exportShard_ok {s:Store} (ok:s.Ok) (lo:Int):(exportShard s lo).1.Ok:=by
 unfold exportShard
 cases (s.good&&decide (0≤findAt s.shards lo 1)) with
 | false=>exact Shard.none_ok
 | true=>exact Store.at_ok' ok _
theorem HandMsg.none_ok:HandMsg.none_.Ok:=by
 refine ⟨by simp[HandMsg.none_],by simp[HandMsg.none_],by simp[HandMsg.none_],by simp[HandMsg.none_],Shard.none_ok⟩
theorem HandMsg.none_small:HandMsg.none_.Small:=Shard.none_small
theorem Hand.ok_in {a:Hand} (h:a.ok=true):(1≤a.epoch∧a.epoch≤999999)∧(0≤a.phase∧a.phase≤3):=by
 simp only[Hand.ok,handOk,inR,Bool.and_eq_true,decide_eq_true_eq] at h
 omega
theorem handSend_ok {a:Hand} (oka:a.Ok) {s:Store} (ok:s.Ok):(handSend a s).1.Ok:=by
 unfold handSend
 cases h0:(a.ok&& !(a.phase==3))<;>simp only[cond_true,cond_false]
 ·exact HandMsg.none_ok
 simp only[Bool.and_eq_true] at h0
 obtain ⟨h1,h2⟩:=Hand.ok_in h0.1
 cases (a.phase==1)<;>simp only[cond_true,cond_false]
 ·exact ⟨oka.phase,oka.lo,oka.from_,oka.epoch,Shard.none_ok⟩
 cases ((exportShard s a.lo).2&&((exportShard s a.lo).1.epoch==a.epoch))<;>simp only[cond_true,cond_false]
 ·exact HandMsg.none_ok
 ·exact ⟨by simp,oka.lo,oka.to,by show -9223372036854775808≤a.epoch+1∧a.epoch+1≤9223372036854775807;omega,exportShard_ok ok _⟩
theorem handTake_ok {s:Store} (ok:s.Ok) {m:HandMsg} (okm:m.Ok):(handTake s m).1.Ok:=by
 unfold handTake
 cases (m.to==s.group)<;>simp only[cond_true,cond_false]
 ·exact ok
 cases (m.step==0)<;>simp only[cond_true,cond_false]
 ·cases (m.step==1)<;>simp only[cond_true,cond_false]
  ·cases (m.step==2)<;>simp only[cond_true,cond_false]
   ·exact ok
   ·exact retireShard_ok ok _ _
  ·exact installShard_ok ok okm.shard okm.epoch
 ·exact freezeShard_ok ok _ okm.epoch
theorem Hand.done_ok {a:Hand} (oka:a.Ok) (st lo ep:Int):(a.done st lo ep).1.Ok:=by
 unfold Hand.done
 split
 ·rename_i h
  have h2:=(Hand.ok_in h.1).2
  exact ⟨oka.lo,oka.from_,oka.to,oka.epoch,by show -9223372036854775808≤a.phase+1∧a.phase+1≤9223372036854775807;omega⟩
 ·exact oka
structure Play where
 hd:Hand
 a:Store
 b:Store
 net:List HandMsg
def HandMsg.at_ (xs:List HandMsg) (i:Nat):HandMsg:=xs[i]?.getD HandMsg.none_
theorem HandMsg.at_get {xs:List HandMsg} {i:Nat} (hi:i<xs.length):HandMsg.at_ xs i=xs[i]:=by simp[HandMsg.at_,List.getElem?_eq_getElem hi]
def Play.puts (p:Play) (m:HandMsg):Play:=bif decide (p.net.length<40) then {p with net:=p.net++[m]} else p
def Play.sends (p:Play):Play:=bif (handSend p.hd p.a).2 then p.puts (handSend p.hd p.a).1 else p
def Play.loses (p:Play) (k:Nat):Play:={p with net:=p.net.eraseIdx k}
def Play.goes (p:Play) (x:Bool) (m:HandMsg):Play:=bif x then {p with hd:=(p.hd.done m.step m.lo m.epoch).1} else p
def Play.takes (p:Play) (m:HandMsg):Play:=
 bif m.to==p.hd.from_ then ({p with a:=(handTake p.a m).1}:Play).goes (handTake p.a m).2 m else ({p with b:=(handTake p.b m).1}:Play).goes (handTake p.b m).2 m
def place (o:Int):Nat:=((o-1).tdiv 3).toNat
def Play.step (p:Play) (o:Int):Play:=
 if o=0 then p.sends
 else if o<0∨p.net.length≤place o then p
 else if o.tmod 3=0 then p.puts (HandMsg.at_ p.net (place o))
 else if o.tmod 3=2 then p.loses (place o)
 else (p.loses (place o)).takes (HandMsg.at_ p.net (place o))
def playHand (h:Hand) (s t:Store) (ops:List Int):Hand×Store×Store:=
 bif h.ok&&(s.good&&(t.good&&(s.group==h.from_&&(t.group==h.to&&decide (ops.length≤200))))) then
  ((ops.foldl Play.step ⟨h,s,t,[]⟩).hd,(ops.foldl Play.step ⟨h,s,t,[]⟩).a,(ops.foldl Play.step ⟨h,s,t,[]⟩).b)
 else (h,s,t)
structure Play.Ok (p:Play):Prop where
 hd:p.hd.Ok
 a:p.a.Ok∧p.a.Small
 b:p.b.Ok∧p.b.Small
 net:p.net.length≤40∧ ∀m,m∈p.net→m.Ok∧m.Small
theorem Play.Ok.puts {p:Play} (w:p.Ok) {m:HandMsg} (hm:m.Ok∧m.Small):(p.puts m).Ok:=by
 unfold Play.puts
 by_cases hl:p.net.length<40
 ·simp only[hl,decide_true,cond_true]
  refine ⟨w.hd,w.a,w.b,by simp;omega,fun x hx=> ?_⟩
  rcases List.mem_append.1 hx with hx | hx
  ·exact w.net.2 x hx
  ·simp at hx;subst hx;exact hm
 ·simp only[hl,decide_false,cond_false];exact w
theorem Play.Ok.loses {p:Play} (w:p.Ok) (k:Nat):(p.loses k).Ok:=
 ⟨w.hd,w.a,w.b,Nat.le_trans (List.length_eraseIdx_le _ _) w.net.1,fun m hm=>w.net.2 m (List.mem_of_mem_eraseIdx hm)⟩
theorem Play.Ok.goes {p:Play} (w:p.Ok) (x:Bool) (m:HandMsg):(p.goes x m).Ok:=by
 unfold Play.goes
 cases x
 ·exact w
 ·exact ⟨Hand.done_ok w.hd _ _ _,w.a,w.b,w.net⟩
theorem Play.Ok.takes {p:Play} (w:p.Ok) {m:HandMsg} (hm:m.Ok∧m.Small):(p.takes m).Ok:=by
 have wa:({p with a:=(handTake p.a m).1}:Play).Ok:=⟨w.hd,⟨handTake_ok w.a.1 hm.1,handTake_small w.a.2 hm.2⟩,w.b,w.net⟩
 have wb:({p with b:=(handTake p.b m).1}:Play).Ok:=⟨w.hd,w.a,⟨handTake_ok w.b.1 hm.1,handTake_small w.b.2 hm.2⟩,w.net⟩
 unfold Play.takes
 cases (m.to==p.hd.from_) with
 | true=>exact wa.goes _ _
 | false=>exact wb.goes _ _
theorem Play.Ok.at_ {p:Play} (w:p.Ok) {k:Nat} (hk:k<p.net.length):(HandMsg.at_ p.net k).Ok∧(HandMsg.at_ p.net k).Small:=by
 rw[HandMsg.at_get hk];exact w.net.2 _ (List.getElem_mem hk)
theorem Play.Ok.step {p:Play} (w:p.Ok) (o:Int):(p.step o).Ok:=by
 unfold Play.step
 split
 ·unfold Play.sends
  cases (handSend p.hd p.a).2
  ·exact w
  ·exact w.puts ⟨handSend_ok w.hd w.a.1,handSend_small w.a.2 _⟩
 split
 ·exact w
 rename_i hk
 have hk:place o<p.net.length:=by omega
 split
 ·exact w.puts (w.at_ hk)
 split
 ·exact w.loses _
 ·exact (w.loses _).takes (w.at_ hk)
end Go.Proofs.Ytjaideekkbpalaa.A
namespace Go.Proofs.Ytjaideekkbpalaa.A
open Go
set_option linter.unusedSimpArgs false
set_option linter.unusedVariables false
theorem findI_is {α:Type} {p:α→Bool} {xs:List α} {i:Nat} (hi:i<xs.length) (hp:p xs[i]=true) (h: ∀j,(hj:j<xs.length)→p xs[j]=true→j=i):findI p xs=(i:Nat):=by
 have:xs.findIdx? p=some i:=by
  rw[List.findIdx?_eq_some_iff_getElem]
  refine ⟨hi,hp,fun j hj hc=> ?_⟩
  have:=h j (by omega) hc
  omega
 unfold findI
 rw[this]
theorem Store.Good.lt {s:Store} (g:s.Good) {i j:Nat} (hj:j<s.shards.length) (hij:i<j):s.shards[i].hi<s.shards[j].lo:=List.pairwise_iff_getElem.1 g.ord i j (by omega) hj hij
theorem Store.Good.lh {s:Store} (g:s.Good) {i:Nat} (hi:i<s.shards.length):s.shards[i].lo≤s.shards[i].hi:=(g.sh _ (List.getElem_mem hi)).1.lh
theorem Store.Good.one_of {s:Store} (g:s.Good) {i j:Nat} (hi:i<s.shards.length) (hj:j<s.shards.length) {a:Int} (h1:s.shards[i].lo≤a∧a≤s.shards[i].hi) (h2:s.shards[j].lo≤a∧a≤s.shards[j].hi):i=j:=by
 rcases Nat.lt_trichotomy i j with h | h | h
 ·have:=g.lt hj h;omega
 ·exact h
 ·have:=g.lt hi h;omega
theorem Store.Good.findAt_is {s:Store} (g:s.Good) {k:Nat} (hk:k<s.shards.length) {lo st:Int} (hl:s.shards[k].lo=lo) (h:s.shards[k].state=st):findAt s.shards lo st=(k:Nat):=by
 refine findI_is hk (by simp[hl,h]) fun j hj hp=> ?_
 simp only[Bool.and_eq_true,beq_iff_eq] at hp
 have h1:=g.lh hk
 have h2:=g.lh hj
 exact g.one_of (a:=lo) hj hk (by omega) (by omega)
theorem Store.Good.findAt_not {s:Store} (g:s.Good) {k:Nat} (hk:k<s.shards.length) {lo st:Int} (hl:s.shards[k].lo=lo) (h:s.shards[k].state≠st):findAt s.shards lo st= -1:=by
 refine findI_none fun a ha=> ?_
 obtain ⟨j,hj,rfl⟩:=List.mem_iff_getElem.1 ha
 by_cases hc:s.shards[j].lo=lo
 ·have h1:=g.lh hk
  have h2:=g.lh hj
  have:=g.one_of (a:=lo) hj hk (by omega) (by omega)
  subst this
  simp[h]
 ·simp[hc]
theorem Store.Good.findId_is {s:Store} (g:s.Good) {k:Nat} (hk:k<s.shards.length) {a:Int} (h:s.shards[k].lo≤a∧a≤s.shards[k].hi):findId s.shards a=(k:Nat):=by
 refine findI_is hk (by simp[h]) fun j hj hp=> ?_
 simp only[Bool.and_eq_true,decide_eq_true_eq] at hp
 exact g.one_of hj hk hp h
theorem retireShard_good {s:Store} (g:s.Good) (lo e:Int):(retireShard s lo e).1.Good:=by
 unfold retireShard
 cases (s.good&&(decide (0≤findAt s.shards lo 1)&&decide ((Shard.at_ s.shards (findAt s.shards lo 1).toNat).epoch=e)))
 ·exact g
 ·exact ⟨g.gr,g.sn,Nat.le_trans (List.length_eraseIdx_le _ _) g.len,fun x hx=>g.sh x (List.mem_of_mem_eraseIdx hx),g.ord.sublist (List.eraseIdx_sublist ..)⟩
theorem Shard.Good.awake {x:Shard} (g:x.Good):x.awake.Good:=⟨g.lh,.inl rfl,g.ep,g.srt,g.fine,g.bl,g.fl,g.acc,g.fs,g.fin⟩
theorem SGood.retire {s:Store} (w:SGood s) (lo e:Int):SGood (retireShard s lo e).1:=⟨retireShard_good w.good lo e,retireShard_ok w.ok lo e⟩
def Store.void (gr sn:Int):Store:=⟨gr,sn,[]⟩
theorem Store.void_good {gr sn:Int} (h:0≤gr∧gr≤99) (h2:0≤sn∧sn≤1000000):SGood (Store.void gr sn):=
 ⟨⟨h,h2,by simp[Store.void],fun x hx=>by simp[Store.void] at hx,by simp[Store.void]⟩,⟨by show _≤gr∧gr≤_;omega,by show _≤sn∧sn≤_;omega,fun x hx=>by simp[Store.void] at hx⟩⟩
theorem freeze_not {s:Store} (g:s.Good) {k:Nat} (hk:k<s.shards.length) (h:s.shards[k].state≠0) (e:Int):freezeShard s s.shards[k].lo e=(s,false):=by
 unfold freezeShard
 rw[g.findAt_not hk rfl h]
 simp
def Shard.cold (x:Shard) (e:Int):Shard:={x with state:=1,epoch:=e}
structure Froze (s f:Store) (k:Nat) (hk:k<s.shards.length) (e:Int):Prop where
 ok:freezeShard s s.shards[k].lo e=(f,true)
 good:f.Good
 seen:f.seen=e
 len:f.shards.length=s.shards.length
 hk:k<f.shards.length
 at_:f.shards[k]=s.shards[k].cold e
theorem freeze_is {s:Store} (g:s.Good) {k:Nat} (hk:k<s.shards.length) (h:s.shards[k].state=0) {e:Int} (he:s.seen<e∧e≤1000000):Froze s (freezeShard s s.shards[k].lo e).1 k hk e:=by
 have hn:s.next e=true:=(Store.next_iff s e).2 ⟨g,he⟩
 have hc:freezeShard s s.shards[k].lo e=((s.frozen k e).renew e,true):=by
  unfold freezeShard
  rw[g.findAt_is hk rfl h,hn]
  simp
 have hg:=freezeShard_good (lo:=s.shards[k].lo) (e:=e) g
 rw[hc] at hg ⊢
 have hl:((s.frozen k e).renew e).shards.length=s.shards.length:=by simp[Store.renew,Store.frozen]
 refine ⟨hc,hg,rfl,hl,by simp only;omega,?_⟩
 simp only[Store.renew,Store.frozen,List.getElem_map,List.getElem_set_self,Shard.at_get hk]
 rfl
theorem Froze.exports {s f:Store} {k:Nat} {hk:k<s.shards.length} {e:Int} (w:Froze s f k hk e):exportShard f s.shards[k].lo=(s.shards[k].cold e,true):=by
 unfold exportShard
 rw[w.good.findAt_is w.hk (lo:=s.shards[k].lo) (st:=1) (by rw[w.at_];rfl) (by rw[w.at_];rfl),(Store.good_iff _).2 w.good]
 simp only[Int.toNat_natCast,Shard.at_get w.hk,w.at_]
 simp
theorem Froze.retire {s f:Store} {k:Nat} {hk:k<s.shards.length} {e:Int} (w:Froze s f k hk e):retireShard f s.shards[k].lo e=(f.without k,true):=by
 unfold retireShard
 rw[w.good.findAt_is w.hk (lo:=s.shards[k].lo) (st:=1) (by rw[w.at_];rfl) (by rw[w.at_];rfl),(Store.good_iff _).2 w.good]
 simp only[Int.toNat_natCast,Shard.at_get w.hk,w.at_]
 simp[Shard.cold]
theorem erase_at {α:Type}: ∀(xs:List α) (k:Nat) (hk:k<xs.length) {x:α},x∈xs.eraseIdx k→ ∃j,∃hj:j<xs.length,j≠k∧xs[j]=x
 | a::r,0,_,x,h=>by
   obtain ⟨j,hj,rfl⟩:=List.mem_iff_getElem.1 (show x∈r from h)
   exact ⟨j+1,by simp;omega,by omega,rfl⟩
 | a::r,k+1,hk,x,h=>by
   rcases List.mem_cons.1 (show x∈a::r.eraseIdx k from h) with rfl | h
   ·exact ⟨0,by simp,by omega,rfl⟩
   ·obtain ⟨j,hj,hn,he⟩:=erase_at r k (by simp at hk;omega) h
    exact ⟨j+1,by simp;omega,by omega,he⟩
theorem Store.Good.gone {s:Store} (g:s.Good) {k:Nat} (hk:k<s.shards.length) (st:Int):findAt (s.without k).shards s.shards[k].lo st= -1:=by
 refine findI_none fun t ht=> ?_
 obtain ⟨j,hj,hn,rfl⟩:=erase_at s.shards k hk ht
 have:s.shards[j].lo≠s.shards[k].lo:=fun hc=>by
  have h1:=g.lh hj
  have h2:=g.lh hk
  exact hn (g.one_of (a:=s.shards[k].lo) hj hk (by omega) (by omega))
 simp[this]
theorem retire_gone {s:Store} {lo e:Int} (h:findAt s.shards lo 1= -1):retireShard s lo e=(s,false):=by
 unfold retireShard
 rw[h]
 simp
theorem export_gone {s:Store} {lo:Int} (h:findAt s.shards lo 1= -1):exportShard s lo=(Shard.none_,false):=by
 unfold exportShard
 rw[h]
 simp
theorem Froze.twice {s f:Store} {k:Nat} {hk:k<s.shards.length} {e:Int} (w:Froze s f k hk e) (e':Int):retireShard (f.without k) s.shards[k].lo e'=(f.without k,false):=by
 have hkf:=w.hk
 have h:=w.good.gone w.hk 1
 have hl:f.shards[k].lo=s.shards[k].lo:=by rw[w.at_];rfl
 rw[hl] at h
 exact retire_gone h
theorem Froze.left {s f:Store} {k:Nat} {hk:k<s.shards.length} {e:Int} (w:Froze s f k hk e):(f.without k).shards.length=s.shards.length-1∧(f.without k).Good:=by
 refine ⟨?_,?_⟩
 ·simp only[Store.without,List.length_eraseIdx,w.hk,if_true]
  have:=w.len
  omega
 ·have:=retireShard_good w.good s.shards[k].lo e
  rw[w.retire] at this
  exact this
theorem Froze.cold {s f:Store} {k:Nat} {hk:k<s.shards.length} {e:Int} (w:Froze s f k hk e) {q:Request} (hq:q.epoch=e) (hid:s.shards[k].lo≤q.id∧q.id≤s.shards[k].hi) (ho:0≤q.op∧q.op<8):(doStore f q).2.1=10:=by
 unfold doStore
 have hkf:=w.hk
 have hf:=w.good.findId_is w.hk (a:=q.id) (by rw[w.at_];exact hid)
 have hop:inR q.op 0 8=true:=by simp[inR];omega
 have h8:(q.op==8)=false:=by simp;omega
 have hr:refuse f.shards[k] q=10:=by
  rw[w.at_]
  unfold refuse Shard.cold
  simp[hq,h8]
 rw[(Store.good_iff _).2 w.good,hop,hf]
 simp[Shard.at_get w.hk,hr]
theorem Shard.cold_good {x:Shard} (g:x.Good) {e:Int} (he:1≤e∧e≤1000000):(x.cold e).Good:=⟨g.lh,.inr rfl,he,g.srt,g.fine,g.bl,g.fl,g.acc,g.fs,g.fin⟩
theorem install_void {gr sn:Int} (hg:0≤gr∧gr≤99) {x:Shard} (gx:x.Good) {e:Int} (hs:0≤sn∧sn≤e) (he:1≤e∧e<1000000):installShard (Store.void gr sn) (x.cold e) (e+1)=(⟨gr,e+1,[{x with state:=0,epoch:=e+1}]⟩,true):=by
 have hn:(Store.void gr sn).next (e+1)=true:=(Store.next_iff _ _).2 ⟨(Store.void_good hg (by omega)).good,by show sn<e+1;omega,by omega⟩
 have hx:=(Shard.good_iff _).2 (Shard.cold_good gx (e:=e) (by omega))
 have hlt:e<e+1:=by omega
 unfold installShard installable
 rw[hn,hx]
 simp[Store.void,Shard.cold,hlt,Store.plus,Store.spot,Store.renew,Shard.renew,Shard.awake]
theorem install_again {s:Store} {x:Shard} {e:Int} (h:e≤s.seen):installShard s x e=(s,false):=by
 have hn:s.next e=false:=by
  cases hc:s.next e with
  | false=>rfl
  | true=>have:=(Store.next_iff s e).1 hc;omega
 unfold installShard installable
 rw[hn]
 simp
end Go.Proofs.Ytjaideekkbpalaa.A
namespace Go.Proofs.Ytjaideekkbpalaa.A
open Go
set_option linter.unusedSimpArgs false
set_option linter.unusedVariables false
def Hand.at_ (h:Hand) (p:Int):Hand:={h with phase:=p}
structure Rail (h:Hand) (a0 a1 a3 b0 b2:Store) (m0 m1 m2:HandMsg):Prop where
 s0:handSend (h.at_ 0) a0=(m0,true)
 s1:handSend (h.at_ 1) a1=(m1,true)
 s2:handSend (h.at_ 2) a1=(m2,true)
 s3: ∀a,(handSend (h.at_ 3) a).2=false
 t0:handTake a0 m0=(a1,true)
 t01:handTake a1 m0=(a1,false)
 t03:handTake a3 m0=(a3,false)
 t1:handTake b0 m1=(b2,true)
 t12:handTake b2 m1=(b2,false)
 t2:handTake a1 m2=(a3,true)
 t23:handTake a3 m2=(a3,false)
 to0:(m0.to==h.from_)=true
 to1:(m1.to==h.from_)=false
 to2:(m2.to==h.from_)=true
 d0:(h.at_ 0).done m0.step m0.lo m0.epoch=(h.at_ 1,true)
 d1:(h.at_ 1).done m1.step m1.lo m1.epoch=(h.at_ 2,true)
 d2:(h.at_ 2).done m2.step m2.lo m2.epoch=(h.at_ 3,true)
inductive Stage (h:Hand) (a0 a1 a3 b0 b2:Store) (m0 m1 m2:HandMsg):Play→Prop
 | p0 (net):(∀m,m∈net→m=m0)→Stage h a0 a1 a3 b0 b2 m0 m1 m2 ⟨h.at_ 0,a0,b0,net⟩
 | p1 (net):(∀m,m∈net→m=m0∨m=m1)→Stage h a0 a1 a3 b0 b2 m0 m1 m2 ⟨h.at_ 1,a1,b0,net⟩
 | p2 (net):(∀m,m∈net→m=m0∨m=m1∨m=m2)→Stage h a0 a1 a3 b0 b2 m0 m1 m2 ⟨h.at_ 2,a1,b2,net⟩
 | p3 (net):(∀m,m∈net→m=m0∨m=m1∨m=m2)→Stage h a0 a1 a3 b0 b2 m0 m1 m2 ⟨h.at_ 3,a3,b2,net⟩
section
variable {h:Hand} {a0 a1 a3 b0 b2:Store} {m0 m1 m2:HandMsg}
theorem Stage.takes (r:Rail h a0 a1 a3 b0 b2 m0 m1 m2) {p:Play} (w:Stage h a0 a1 a3 b0 b2 m0 m1 m2 p) {m:HandMsg} (hm:m∈p.net) {net:List HandMsg} (hn: ∀x,x∈net→x∈p.net):
 Stage h a0 a1 a3 b0 b2 m0 m1 m2 (({p with net:=net}:Play).takes m):=by
 have f0: ∀q,(h.at_ q).from_=h.from_:=fun _=>rfl
 cases w with
 | p0 n hp=>
   rw[hp m hm]
   simp only[Play.takes,Play.goes,f0,r.to0,r.t0,cond_true,r.d0]
   exact .p1 _ fun x hx=> .inl (hp x (hn x hx))
 | p1 n hp=>
   rcases hp m hm with rfl | rfl
   ·simp only[Play.takes,Play.goes,f0,r.to0,r.t01,cond_true,cond_false]
    exact .p1 _ fun x hx=>hp x (hn x hx)
   ·simp only[Play.takes,Play.goes,f0,r.to1,r.t1,cond_true,cond_false,r.d1]
    exact .p2 _ fun x hx=>(hp x (hn x hx)).elim .inl fun h=> .inr (.inl h)
 | p2 n hp=>
   rcases hp m hm with rfl | rfl | rfl
   ·simp only[Play.takes,Play.goes,f0,r.to0,r.t01,cond_true,cond_false]
    exact .p2 _ fun x hx=>hp x (hn x hx)
   ·simp only[Play.takes,Play.goes,f0,r.to1,r.t12,cond_true,cond_false]
    exact .p2 _ fun x hx=>hp x (hn x hx)
   ·simp only[Play.takes,Play.goes,f0,r.to2,r.t2,cond_true,cond_false,r.d2]
    exact .p3 _ fun x hx=>hp x (hn x hx)
 | p3 n hp=>
   rcases hp m hm with rfl | rfl | rfl
   ·simp only[Play.takes,Play.goes,f0,r.to0,r.t03,cond_true,cond_false]
    exact .p3 _ fun x hx=>hp x (hn x hx)
   ·simp only[Play.takes,Play.goes,f0,r.to1,r.t12,cond_true,cond_false]
    exact .p3 _ fun x hx=>hp x (hn x hx)
   ·simp only[Play.takes,Play.goes,f0,r.to2,r.t23,cond_true,cond_false]
    exact .p3 _ fun x hx=>hp x (hn x hx)
theorem Stage.nets {p:Play} (w:Stage h a0 a1 a3 b0 b2 m0 m1 m2 p) {net:List HandMsg} (hn: ∀x,x∈net→x∈p.net):Stage h a0 a1 a3 b0 b2 m0 m1 m2 {p with net:=net}:=by
 cases w with
 | p0 n hp=>exact .p0 _ fun x hx=>hp x (hn x hx)
 | p1 n hp=>exact .p1 _ fun x hx=>hp x (hn x hx)
 | p2 n hp=>exact .p2 _ fun x hx=>hp x (hn x hx)
 | p3 n hp=>exact .p3 _ fun x hx=>hp x (hn x hx)
theorem Stage.puts {p:Play} (w:Stage h a0 a1 a3 b0 b2 m0 m1 m2 p) {m:HandMsg} (hm:m∈p.net):Stage h a0 a1 a3 b0 b2 m0 m1 m2 (p.puts m):=by
 unfold Play.puts
 cases decide (p.net.length<40)
 ·exact w
 ·exact w.nets fun x hx=>by
   rcases List.mem_append.1 hx with hx | hx
   ·exact hx
   ·rw[List.mem_singleton] at hx;rw[hx];exact hm
theorem Stage.sends (r:Rail h a0 a1 a3 b0 b2 m0 m1 m2) {p:Play} (w:Stage h a0 a1 a3 b0 b2 m0 m1 m2 p):Stage h a0 a1 a3 b0 b2 m0 m1 m2 p.sends:=by
 unfold Play.sends
 cases w with
 | p0 n hp=>
   simp only[r.s0,cond_true]
   unfold Play.puts
   cases decide (n.length<40)
   ·exact .p0 _ hp
   ·refine .p0 _ fun x hx=> ?_
    rcases List.mem_append.1 hx with hx | hx
    ·exact hp x hx
    ·exact List.mem_singleton.1 hx
 | p1 n hp=>
   simp only[r.s1,cond_true]
   unfold Play.puts
   cases decide (n.length<40)
   ·exact .p1 _ hp
   ·refine .p1 _ fun x hx=> ?_
    rcases List.mem_append.1 hx with hx | hx
    ·exact hp x hx
    ·exact .inr (List.mem_singleton.1 hx)
 | p2 n hp=>
   simp only[r.s2,cond_true]
   unfold Play.puts
   cases decide (n.length<40)
   ·exact .p2 _ hp
   ·refine .p2 _ fun x hx=> ?_
    rcases List.mem_append.1 hx with hx | hx
    ·exact hp x hx
    ·exact .inr (.inr (List.mem_singleton.1 hx))
 | p3 n hp=>
   simp only[r.s3,cond_false]
   exact .p3 _ hp
theorem Stage.step (r:Rail h a0 a1 a3 b0 b2 m0 m1 m2) {p:Play} (w:Stage h a0 a1 a3 b0 b2 m0 m1 m2 p) (o:Int):Stage h a0 a1 a3 b0 b2 m0 m1 m2 (p.step o):=by
 unfold Play.step
 split
 ·exact w.sends r
 ·split
  ·exact w
  ·rename_i hk
   have hl:place o<p.net.length:=by omega
   have hm:HandMsg.at_ p.net (place o)∈p.net:=by rw[HandMsg.at_get hl];exact List.getElem_mem hl
   have hs: ∀x,x∈p.net.eraseIdx (place o)→x∈p.net:=fun x hx=>List.mem_of_mem_eraseIdx hx
   split
   ·exact w.puts hm
   ·split
    ·exact w.nets hs
    ·exact w.takes r hm hs
theorem Stage.plays (r:Rail h a0 a1 a3 b0 b2 m0 m1 m2): ∀(ops:List Int) {p:Play},Stage h a0 a1 a3 b0 b2 m0 m1 m2 p→Stage h a0 a1 a3 b0 b2 m0 m1 m2 (ops.foldl Play.step p)
 | [],_,w=>w
 | o::ops,_,w=>Stage.plays r ops (w.step r o)
theorem round_is {hd:Hand} {a b:Store} {m:HandMsg} (hs:handSend hd a=(m,true)):[0,3,1,1].foldl Play.step ⟨hd,a,b,[]⟩=((⟨hd,a,b,[m]⟩:Play).takes m |>.loses 0).takes m:=by
 have hp: ∀(x:Play),(⟨hd,a,b,[m]⟩:Play).takes m=x→x.net=[m]:=fun x hx=>by
  subst hx
  unfold Play.takes Play.goes
  cases (m.to==hd.from_)<;>simp only[cond_true,cond_false]
  ·cases (handTake b m).2<;>rfl
  ·cases (handTake a m).2<;>rfl
 obtain ⟨x,hx⟩: ∃x,(⟨hd,a,b,[m]⟩:Play).takes m=x:=⟨_,rfl⟩
 have hn:=hp x hx
 have e1:(⟨hd,a,b,[]⟩:Play).step 0=⟨hd,a,b,[m]⟩:=by simp[Play.step,Play.sends,hs,Play.puts]
 have e2:(⟨hd,a,b,[m]⟩:Play).step 3=⟨hd,a,b,[m,m]⟩:=by
  have hpl:place 3=0:=rfl
  have ht:Int.tmod 3 3=0:=rfl
  simp[Play.step,hpl,ht,Play.puts,HandMsg.at_]
 have e3:(⟨hd,a,b,[m,m]⟩:Play).step 1=x:=by
  have hpl:place 1=0:=rfl
  have ht:Int.tmod 1 3=1:=rfl
  rw[←hx]
  simp[Play.step,hpl,ht,Play.loses,HandMsg.at_]
 have e4:x.step 1=(x.loses 0).takes m:=by
  have hpl:place 1=0:=rfl
  have ht:Int.tmod 1 3=1:=rfl
  simp[Play.step,hpl,ht,HandMsg.at_,hn]
 simp only[List.foldl_cons,List.foldl_nil,e1,e2,e3,e4,hx]
theorem Rail.round0 (r:Rail h a0 a1 a3 b0 b2 m0 m1 m2):[0,3,1,1].foldl Play.step ⟨h.at_ 0,a0,b0,[]⟩=⟨h.at_ 1,a1,b0,[]⟩:=by
 have f0: ∀q,(h.at_ q).from_=h.from_:=fun _=>rfl
 rw[round_is r.s0]
 simp only[Play.takes,Play.goes,f0,r.to0,r.t0,cond_true,r.d0,Play.loses,r.t01,cond_false,List.eraseIdx_cons_zero]
theorem Rail.round1 (r:Rail h a0 a1 a3 b0 b2 m0 m1 m2):[0,3,1,1].foldl Play.step ⟨h.at_ 1,a1,b0,[]⟩=⟨h.at_ 2,a1,b2,[]⟩:=by
 have f0: ∀q,(h.at_ q).from_=h.from_:=fun _=>rfl
 rw[round_is r.s1]
 simp only[Play.takes,Play.goes,f0,r.to1,r.t1,cond_true,r.d1,Play.loses,r.t12,cond_false,List.eraseIdx_cons_zero]
theorem Rail.round2 (r:Rail h a0 a1 a3 b0 b2 m0 m1 m2):[0,3,1,1].foldl Play.step ⟨h.at_ 2,a1,b2,[]⟩=⟨h.at_ 3,a3,b2,[]⟩:=by
 have f0: ∀q,(h.at_ q).from_=h.from_:=fun _=>rfl
 rw[round_is r.s2]
 simp only[Play.takes,Play.goes,f0,r.to2,r.t2,cond_true,r.d2,Play.loses,r.t23,cond_false,List.eraseIdx_cons_zero]
def handed:List Int:=[0,3,1,1,0,3,1,1,0,3,1,1]
theorem Rail.handed (r:Rail h a0 a1 a3 b0 b2 m0 m1 m2):A.handed.foldl Play.step ⟨h.at_ 0,a0,b0,[]⟩=⟨h.at_ 3,a3,b2,[]⟩:=by
 rw[show A.handed=[0,3,1,1]++[0,3,1,1]++[0,3,1,1] from rfl,List.foldl_append,List.foldl_append,r.round0,r.round1,r.round2]
end
theorem stay_step {h:Hand} {a b:Store} {m0:HandMsg} (hs:handSend h a=(m0,true)) (to:(m0.to==h.from_)=true) (t:handTake a m0=(a,false)) {net:List HandMsg} (hn: ∀m,m∈net→m=m0) (o:Int):
 ∃net',(⟨h,a,b,net⟩:Play).step o=⟨h,a,b,net'⟩∧ ∀m,m∈net'→m=m0:=by
 unfold Play.step
 split
 ·simp only[Play.sends,hs,cond_true,Play.puts]
  cases decide (net.length<40)
  ·exact ⟨_,rfl,hn⟩
  ·exact ⟨_,rfl,fun m hm=>by
    rcases List.mem_append.1 hm with hm | hm
    ·exact hn m hm
    ·exact List.mem_singleton.1 hm⟩
 ·split
  ·exact ⟨_,rfl,hn⟩
  ·rename_i hk
   have hl:place o<net.length:=by simp only at hk;omega
   have hm:HandMsg.at_ net (place o)=m0:=by rw[HandMsg.at_get hl];exact hn _ (List.getElem_mem hl)
   have hs': ∀x,x∈net.eraseIdx (place o)→x=m0:=fun x hx=>hn x (List.mem_of_mem_eraseIdx hx)
   simp only[hm]
   split
   ·simp only[Play.puts]
    cases decide (net.length<40)
    ·exact ⟨_,rfl,hn⟩
    ·exact ⟨_,rfl,fun m hm=>by
      rcases List.mem_append.1 hm with hm | hm
      ·exact hn m hm
      ·exact List.mem_singleton.1 hm⟩
   ·split
    ·exact ⟨_,rfl,hs'⟩
    ·simp only[Play.takes,Play.goes,Play.loses,to,t,cond_true,cond_false]
     exact ⟨_,rfl,hs'⟩
theorem stay_plays {h:Hand} {a b:Store} {m0:HandMsg} (hs:handSend h a=(m0,true)) (to:(m0.to==h.from_)=true) (t:handTake a m0=(a,false)): ∀(ops:List Int) {net:List HandMsg},(∀m,m∈net→m=m0)→
 ∃net',ops.foldl Play.step ⟨h,a,b,net⟩=⟨h,a,b,net'⟩
 | [],net,_=>⟨net,rfl⟩
 | o::ops,net,hn=>by
   obtain ⟨n1,e1,h1⟩:=stay_step (b:=b) hs to t hn o
   obtain ⟨n2,e2⟩:=stay_plays hs to t ops h1
   exact ⟨n2,by rw[List.foldl_cons,e1,e2]⟩
end Go.Proofs.Ytjaideekkbpalaa.A
namespace Go.Proofs.Ytjaideekkbpalaa.A
open Go
set_option linter.unusedSimpArgs false
set_option linter.unusedVariables false
def Store.atE (s:Store) (lo st epoch:Int):Bool:=decide (0≤findAt s.shards lo st)&&((Shard.at_ s.shards (findAt s.shards lo st).toNat).epoch==epoch)
def handHas (s:Store) (m:HandMsg):Bool:=s.good&&((m.to==s.group)&&(bif m.step==1 then s.atE m.lo 0 m.epoch else bif m.step==2 then decide (findId s.shards m.lo<0)&&decide (m.epoch≤s.seen) else bif m.step==0 then s.atE m.lo 1 m.epoch else false))
section
variable {F:Nat→Option RF} {Z:CallF} {h:Heap} {x:Cell} {xs:List Shard} {fp fq:List Nat} {cs ms:List Cell} {s:Store} {m:HandMsg}
end
end Go.Proofs.Ytjaideekkbpalaa.A
namespace Go.Proofs.Ytjaideekkbpalaa.A
open Go
set_option linter.unusedSimpArgs false
set_option linter.unusedVariables false
section
variable {F:Nat→Option RF} {Z:CallF} {h:Heap} {x y:Cell} {xs ys:List Store} {fp fq:List Nat}
end
end Go.Proofs.Ytjaideekkbpalaa.A
namespace Go.Proofs.Ytjaideekkbpalaa.A
open Go
def tLibslicesContainsFuncimplShardimplShard:List (Nat×RF):=[]
end Go.Proofs.Ytjaideekkbpalaa.A
namespace Go.Proofs.Ytjaideekkbpalaa.A
open Go
def tLibslicesContainsFuncimplStoreimplStore:List (Nat×RF):=[]
end Go.Proofs.Ytjaideekkbpalaa.A
namespace Go.Proofs.Ytjaideekkbpalaa.A
open Go
def tLibslicesIndexFuncimplStoreimplStore:List (Nat×RF):=[]
end Go.Proofs.Ytjaideekkbpalaa.A
namespace Go.Proofs.Ytjaideekkbpalaa.A
open Go
set_option linter.unusedSimpArgs false
set_option linter.unusedVariables false
structure KA (F:Nat→Option RF):Prop where
 i15:Has F tI15
 lt:Has F tLibslicesIndexFuncimplStoreimplStore
 lct:Has F tLibslicesContainsFuncimplStoreimplStore
structure KH (F:Nat→Option RF):Prop where
 i15:Has F tI15
 ls:Has F tLibslicesIndexFuncimplShardimplShard
 lcs:Has F tLibslicesContainsFuncimplShardimplShard
 lt:Has F tLibslicesIndexFuncimplStoreimplStore
 lct:Has F tLibslicesContainsFuncimplStoreimplStore
theorem KH.a {F:Nat→Option RF} (q:KH F):KA F:=⟨q.i15,q.lt,q.lct⟩
def areStores (l:List Store):Bool:=decide ((l.length:Int)≤40)&&l.all Store.good
def Shard.newer (x y:Shard):Bool:=decide (y.epoch>x.epoch)&&(decide (y.lo≤x.hi)&&decide (x.lo≤y.hi))
def liveOf (all:List Shard) (x:Shard):Int:=bif all.any x.newer then 0 else x.money
def liveTotal (l:List Store):Int×Int:=bif areStores l then (wHi (sumI (liveOf (l.flatMap Store.shards)) (l.flatMap Store.shards)),wLo (sumI (liveOf (l.flatMap Store.shards)) (l.flatMap Store.shards))) else (0,0)
section
variable {F:Nat→Option RF} {Z:CallF} {h:Heap} {x y:Cell} {l:List Store} {xs:List Shard} {fp fq:List Nat} {cs:List Cell}
end
end Go.Proofs.Ytjaideekkbpalaa.A
namespace Go.Proofs.Ytjaideekkbpalaa.A
open Go
set_option linter.unusedSimpArgs false
set_option linter.unusedVariables false
section
variable {F:Nat→Option RF} {Z:CallF} {h:Heap} {x y:Cell} {l:List Store} {xs:List Shard} {fp fq:List Nat} {cs:List Cell}
end
end Go.Proofs.Ytjaideekkbpalaa.A
namespace Go.Proofs.Ytjaideekkbpalaa.A
open Go
set_option linter.unusedSimpArgs false
set_option linter.unusedVariables false
section
variable {F:Nat→Option RF} {Z:CallF} {h:Heap} {x y:Cell} {l:List Store} {xs:List Shard} {fp fq:List Nat} {cs:List Cell}
end
end Go.Proofs.Ytjaideekkbpalaa.A
namespace Go.Proofs.Ytjaideekkbpalaa.A
open Go
set_option linter.unusedSimpArgs false
set_option linter.unusedVariables false
section
variable {F:Nat→Option RF} {Z:CallF} {h:Heap} {x:Cell} {xs:List Shard} {fp:List Nat}
end
namespace Store
end Store
section
variable {F:Nat→Option RF} {Z:CallF} {h:Heap} {cs:List Cell} {t:Store} {fp:List Nat}
end
end Go.Proofs.Ytjaideekkbpalaa.A
namespace Go.Proofs.Ytjaideekkbpalaa.A
open Go
set_option linter.unusedSimpArgs false
set_option linter.unusedVariables false
section
variable {F:Nat→Option RF} {Z:CallF} {h:Heap} {x:Cell} {xs:List Shard} {fp:List Nat}
end
section
variable {F:Nat→Option RF} {Z:CallF} {h:Heap} {cs:List Cell} {t:Store} {fp:List Nat}
end
section
variable {F:Nat→Option RF} {Z:CallF} {h:Heap} {x:Cell} {xs:List Store} {fp:List Nat}
end
end Go.Proofs.Ytjaideekkbpalaa.A
namespace Go.Proofs.Ytjaideekkbpalaa.A
open Go
set_option linter.unusedSimpArgs false
set_option linter.unusedVariables false
def Store.holds (s:Store) (id:Int):Bool:=decide (0≤findId s.shards id)&&((Shard.at_ s.shards (findId s.shards id).toNat).state==0)
def holdAt (l:List Store) (id:Int) (i:Nat):Bool:=match l[i]? with | some s=>s.holds id | none=>false
def holdersUp (l:List Store) (id:Int):Nat→List Int
 | 0=>[]
 | n+1=>if holdAt l id n then holdersUp l id n++[(n:Int)] else holdersUp l id n
def holders (l:List Store) (id:Int):List Int:=bif areStores l then holdersUp l id l.length else []
section
variable {F:Nat→Option RF} {Z:CallF} {h:Heap} {x:Cell} {l:List Store} {fp:List Nat} {id:Int}
theorem holds_no {s:Store} (h:findId s.shards id= -1):s.holds id=false:=by simp[Store.holds,h]
theorem holds_at {s:Store} {i:Nat} (h:findId s.shards id=(i:Int)):s.holds id=((Shard.at_ s.shards i).state==0):=by simp[Store.holds,h]
end
end Go.Proofs.Ytjaideekkbpalaa.A
