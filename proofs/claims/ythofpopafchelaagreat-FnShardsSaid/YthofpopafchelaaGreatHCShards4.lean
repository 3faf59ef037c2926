/- The functions that the statement reaches, part 4: bodies and what they compute. No condition. -/
import Derived.Test.YthofpopafchelaaGreatHCShards3
import Derived.Test.YthofpopafchelaaGreatD
namespace Go.Proofs.YthofpopafchelaaGreat.A
open Go
set_option linter.unusedSimpArgs false
set_option linter.unusedVariables false
section
variable {F:Nat→Option RF} {Z:CallF} {h:Heap} {cs:List Cell} {fp:List Nat} {s:Store}
theorem Cut.start (h:Heap) (hf:h.floor≤h.next) (lo hi a:Int) (z:List Cell) (hz:z.length=6):
 ∃g1 g2,storeP ((h.push [z]).push [z]) h.next 0 0 [.int .u64 lo,.int .u64 (a-1),.int .i64 0,.int .i64 0,.nil,.nil]=some g1∧storeP g1 (h.push [z]).next 0 0 [.int .u64 a,.int .u64 hi,.int .i64 0,.int .i64 0,.nil,.nil]=some g2∧
  (h.push [[.int .u64 lo,.int .u64 (a-1),.int .i64 0,.int .i64 0,.nil,.nil]]).push [[.int .u64 a,.int .u64 hi,.int .i64 0,.int .i64 0,.nil,.nil]]=g2∧
  Cut ((h.push [z]).push [z]) g2 h.next (h.push [z]).next lo hi a [] [] [] [] .nil .nil .nil .nil [] [] [] []:=by
 obtain ⟨z0,z1,z2,z3,z4,z5,rfl⟩: ∃a b c d e f,z=[a,b,c,d,e,f]:=by
  match z,hz with
  | [a,b,c,d,e,f],_=>exact ⟨a,b,c,d,e,f,rfl⟩
 have hn:(h.push [[z0,z1,z2,z3,z4,z5]]).next=h.next+1:=rfl
 have q1:((h.push [[z0,z1,z2,z3,z4,z5]]).push [[z0,z1,z2,z3,z4,z5]]).get h.next=some [[z0,z1,z2,z3,z4,z5]]:=by rw[push_ne _ (by rw[hn];omega)];simp[Heap.push]
 have hne:h.next≠h.next+1:=by omega
 have s1:=storeP_at (h:=(h.push [[z0,z1,z2,z3,z4,z5]]).push [[z0,z1,z2,z3,z4,z5]]) (id:=h.next) (i:=0) (j:=0) (new:=[.int .u64 lo,.int .u64 (a-1),.int .i64 0,.int .i64 0,.nil,.nil]) hf q1 rfl rfl
 have q2:(((h.push [[z0,z1,z2,z3,z4,z5]]).push [[z0,z1,z2,z3,z4,z5]]).put h.next [[.int .u64 lo,.int .u64 (a-1),.int .i64 0,.int .i64 0,.nil,.nil]]).get (h.next+1)=some [[z0,z1,z2,z3,z4,z5]]:=by
  rw[put_ne _ (by omega)];simp[Heap.push]
 have s2:=storeP_at (h:=((h.push [[z0,z1,z2,z3,z4,z5]]).push [[z0,z1,z2,z3,z4,z5]]).put h.next [[.int .u64 lo,.int .u64 (a-1),.int .i64 0,.int .i64 0,.nil,.nil]]) (id:=h.next+1) (i:=0) (j:=0) (new:=[.int .u64 a,.int .u64 hi,.int .i64 0,.int .i64 0,.nil,.nil]) (by show h.floor≤h.next+1;omega) q2 rfl rfl
 rw[hn]
 refine ⟨_,_,s1,s2,?_,?_⟩
 ·simp only[Heap.push,Heap.put,Heap.mk.injEq,true_and]
  funext i
  by_cases h1:i=h.next+1
  ·simp[h1]
  ·by_cases h2:i=h.next
   ·simp[h2]
   ·simp[h1,h2]
 exact {
  le:=Nat.le_refl _
  fl:=rfl
  hbf:=by show h.floor≤h.next+1+1;omega
  get:=fun id h1 h2 h3=>by rw[put_ne _ h3,put_ne _ h2]
  ne:=hne
  q1:=⟨hf,by show h.next<h.next+1+1;omega⟩
  q2:=⟨by show h.floor≤h.next+1;omega,by show h.next+1<h.next+1+1;omega⟩
  r1:=by rw[put_ne _ hne];exact put_eq _
  r2:=put_eq _
  s1:=SlR.nil _ _ _
  s2:=SlR.nil _ _ _
  t1:=SlR.nil _ _ _
  t2:=SlR.nil _ _ _
  l1:=fun _ h=>nomatch h
  l2:=fun _ h=>nomatch h
  m1:=fun _ h=>nomatch h
  m2:=fun _ h=>nomatch h
  n1:=List.nodup_nil
  n2:=List.nodup_nil
  k1:=List.nodup_nil
  k2:=List.nodup_nil
  d12:=fun _ h=>nomatch h
  d1a:=fun _ h=>nomatch h
  d1b:=fun _ h=>nomatch h
  d2a:=fun _ h=>nomatch h
  d2b:=fun _ h=>nomatch h
  dab:=fun _ h=>nomatch h}
set_option maxHeartbeats 4000000 in
theorem cut_join {hb g:Heap} {o1 o2:Nat} {y y1 y2 z1 z2:Cell} {f1 f2 e1 e2:List Nat} {a:Int} {k:Nat} (hk:k<s.shards.length) (h8:s.shards.length≤8)
 (c:Cut hb g o1 o2 (Shard.at_ s.shards k).lo (Shard.at_ s.shards k).hi a ((Shard.at_ s.shards k).book.list.filter (Account.low a)) ((Shard.at_ s.shards k).book.list.filter (Account.high a)) ((Shard.at_ s.shards k).finished.filter (Fin.low a)) ((Shard.at_ s.shards k).finished.filter (Fin.high a)) y1 y2 z1 z2 f1 f2 e1 e2)
 (w:SlR 16 Shard.RI g y s.shards fp) (ob:On h hb) (f:Fre h fp) (hfp: ∀id,id∈fp→id<o1∧id<o2∧id<hb.next) (ho1:h.next≤o1) (ho2:h.next≤o2) (hf:h.floor≤h.next):
 ∃gs z g3 fz,storeP g y.sid k 0 [.int .u64 (Shard.at_ s.shards k).lo,.int .u64 (a-1),.int .i64 0,.int .i64 0,y1,z1]=some gs∧(∀j n,loadP gs o2 0 j n=cut? [.int .u64 a,.int .u64 (Shard.at_ s.shards k).hi,.int .i64 0,.int .i64 0,y2,z2] j n)∧
  insF 16 80 [.c y,.c (.int .i64 ((k+1:Nat):Int)),.c (.sl 16 gs.next 0 1)] (gs.push [[.int .u64 a,.int .u64 (Shard.at_ s.shards k).hi,.int .i64 0,.int .i64 0,y2,z2]])=some (.c z,g3)∧
  SlR 16 Shard.RI g3 z (s.cut0 k a).shards fz∧On h g3∧Fre h fz:=by
 have og:On h g:=⟨⟨Nat.le_trans ob.ext.1 c.le,fun id hid=>by rw[c.get id (Nat.lt_of_lt_of_le hid ob.ext.1) (by omega) (by omega)];exact ob.ext.2 id hid⟩,c.fl.trans ob.fl⟩
 have hfg: ∀id,id∈fp→g.floor≤id:=fun id hid=>by rw[og.fl];exact Nat.le_trans hf (f.lo id hid)
 obtain ⟨r,fr,rows,hR,hin,nfr,hs,hns,hld,hst,fin⟩:=w.setRow Shard.okI f.nd hfg hk
 have hfe: ∀id,id∈f1++e1→hb.next≤id:=fun id hid=>by
  rcases List.mem_append.1 hid with h | h
  ·exact c.l1 id h
  ·exact c.m1 id h
 have v1:Shard.RI g [.int .u64 (Shard.at_ s.shards k).lo,.int .u64 (a-1),.int .i64 0,.int .i64 0,y1,z1] ((Shard.at_ s.shards k).one0 a) (f1++e1):=⟨y1,f1,z1,e1,rfl,rfl,c.s1,c.t1⟩
 have n1:(f1++e1).Nodup:=List.nodup_append.2 ⟨c.n1,c.k1,fun x hx y hy e=>c.d1a x hx (e▸hy)⟩
 obtain ⟨fp',w',nd',hsub⟩:=fin [.int .u64 (Shard.at_ s.shards k).lo,.int .u64 (a-1),.int .i64 0,.int .i64 0,y1,z1] ((Shard.at_ s.shards k).one0 a) (f1++e1) v1 n1 (fun id hid=> .inr fun hc=>by have:=hfe id hid;have:=(hfp id hc).2.2;omega)
 obtain ⟨q1,qf,rfl⟩: ∃q1 qf,r=[.int .u64 s.shards[k].lo,.int .u64 s.shards[k].hi,.int .i64 s.shards[k].state,.int .i64 s.shards[k].epoch,q1,qf]:=by
  obtain ⟨x1,_,x2,_,hr,_⟩:=hR
  exact ⟨x1,x2,hr⟩
 have hst':=hst 0 [.int .u64 (Shard.at_ s.shards k).lo,.int .u64 (a-1),.int .i64 0,.int .i64 0,y1,z1] [.int .u64 (Shard.at_ s.shards k).lo,.int .u64 (a-1),.int .i64 0,.int .i64 0,y1,z1] rfl
 generalize hgs:g.put y.sid (rows.set k [.int .u64 (Shard.at_ s.shards k).lo,.int .u64 (a-1),.int .i64 0,.int .i64 0,y1,z1])=gs at *
 have mk:Mk g gs [y.sid]:=by rw[←hgs];exact Mk.put _ _ _
 have hys:=hfp _ hs
 have hget: ∀id,id≠y.sid→gs.get id=g.get id:=fun id hid=>mk.get id (by simpa using hid)
 have v2:Shard.RI gs [.int .u64 a,.int .u64 (Shard.at_ s.shards k).hi,.int .i64 0,.int .i64 0,y2,z2] ((Shard.at_ s.shards k).two0 a) (f2++e2):=
  ⟨y2,f2,z2,e2,rfl,rfl,c.s2.mv (Fl.ok _) (by rw[mk.next];exact Nat.le_refl _) fun id hid=>hget id (by have:=c.l2 id hid;omega),c.t2.mv (Fl.ok _) (by rw[mk.next];exact Nat.le_refl _) fun id hid=>hget id (by have:=c.m2 id hid;omega)⟩
 have n2:(f2++e2).Nodup:=List.nodup_append.2 ⟨c.n2,c.k2,fun x hx y hy e=>c.d2b x hx (e▸hy)⟩
 obtain ⟨L,ndL⟩:=SlR.lit1 (tag:=16) Shard.okI v2 n2
 have o5:=On.push gs [[.int .u64 a,.int .u64 (Shard.at_ s.shards k).hi,.int .i64 0,.int .i64 0,y2,z2]]
 have w5:=w'.on Shard.okI o5
 have ogs:On h gs:=og.turned mk ⟨fun id hid=>by simp only[List.mem_singleton] at hid;subst hid;exact f.lo _ hs,by simp⟩
 have hlt2: ∀id,id∈f2++e2→hb.next≤id∧id<g.next:=fun id hid=>by
  rcases List.mem_append.1 hid with h | h
  ·exact ⟨c.l2 id h,c.s2.lt (Fl.ok _) id h⟩
  ·exact ⟨c.m2 id h,c.t2.lt (Fl.ok _) id h⟩
 have hlt': ∀id,id∈fp'→h.next≤id∧id<gs.next:=fun id hid=>by
  refine ⟨?_,w'.lt Shard.okI id hid⟩
  rcases hsub id hid with h1 | h1
  ·exact f.lo id h1
  ·exact Nat.le_trans ob.ext.1 (hfe id h1)
 have hdis: ∀id,id∈gs.next::(f2++e2)→id∉fp':=fun id hid hc=>by
  rcases List.mem_cons.1 hid with rfl | hid
  ·have:=(hlt' _ hc).2;omega
  ·rcases hsub id hc with h1 | h1
   ·have:=(hfp id h1).2.2;have:=(hlt2 id hid).1;omega
   ·rcases List.mem_append.1 hid with h2 | h2
    ·rcases List.mem_append.1 h1 with h1 | h1
     ·exact c.d12 id h1 h2
     ·exact c.d2a id h2 h1
    ·rcases List.mem_append.1 h1 with h1 | h1
     ·exact c.d1b id h1 h2
     ·exact c.dab id h1 h2
 have hL0: ∀id,id∈gs.next::(f2++e2)→h.next≤id:=fun id hid=>by
  rcases List.mem_cons.1 hid with rfl | hid
  ·exact ogs.ext.1
  ·exact Nat.le_trans ob.ext.1 (hlt2 id hid).1
 have o0:=ogs.trans o5
 obtain ⟨z,g3,fz,e3,w3,re⟩:=w5.ins Shard.okI nd' (fun id hid=>by rw[o0.fl];exact Nat.le_trans hf (hlt' id hid).1) L ndL (fun id hid=>by rw[o0.fl];exact Nat.le_trans hf (hL0 id hid)) hdis (by simp) (bytes:=80) (by simp;omega) (by simp[maxLen];omega) (i:=k+1) (by simp;omega)
 have fA:Fre h (fp'++gs.next::(f2++e2)):=⟨fun id hid=>by
  rcases List.mem_append.1 hid with h1 | h1
  ·exact (hlt' id h1).1
  ·exact hL0 id h1,List.nodup_append.2 ⟨nd',ndL,fun x hx y hy e=>hdis y hy (e▸hx)⟩⟩
 refine ⟨gs,z,g3,fz,hst',fun j n=> ?_,e3,w3,re.on o0 fA,re.fre o0 fA⟩
 exact loadP_row (rows:=[[.int .u64 a,.int .u64 (Shard.at_ s.shards k).hi,.int .i64 0,.int .i64 0,y2,z2]]) ((hget o2 (by omega)).trans c.r2) rfl j n
set_option maxHeartbeats 4000000 in
theorem CutShard_c (k:KI F) (hL:Has F tLibslicesIndexFuncimplShardimplShard) (pr:PrimAt F Z 332 (insF 16 80)) (hf:h.floor≤h.next) (v:Store.RI h cs s fp) (a e:Int) (ha:0≤a∧a≤18446744073709551615) (ok:s.Ok) (sm:s.Small):
 ∃cs' h' fq,call F Z 312 [.agg cs,.c (.int .u64 a),.c (.int .i64 e)] h=some (.tup [.agg cs',.c (.bool (cutShard s a e).2)],h')∧On h h'∧Store.RI h' cs' (cutShard s a e).1 fq∧Fre h fq:=by
 obtain ⟨l1,l2,l3⟩:=Store.lenI v
 obtain ⟨cs1,h1,fr,e1,o1,v1,f1⟩:=copyStore_c (Z:=Z) k hf v sm
 obtain ⟨h2,e2,o2⟩:=shardWith_on (Z:=Z) k.i13 hL (Store.okI.on v o1) a
 obtain ⟨h3,e3,o3⟩:=isNewEpoch_run (Z:=Z) k (Store.okI.on (Store.okI.on v o1) o2) ok e
 have o13:=(o1.trans o2).trans o3
 obtain ⟨y,p,rfl,hp,w⟩:=Store.okI.on (Store.okI.on v1 o2) o3
 subst hp
 rw[call_run F Z (k.i13.lk (g:=312) rfl) _ _ rfl]
 cases hn:s.next e with
 | false=>
   rw[hn] at e3
   rw[cut_no hn]
   simp only[rn,RO.dst,lk,drop,Nat.reduceBEq,Nat.reduceAdd,Nat.reduceLeDiff,↓reduceIte,reduceCtorEq,l1,l2,l3,e1,e2,e3]
   exact ⟨_,_,_,rfl,o13,⟨y,_,rfl,rfl,w⟩,f1⟩
 | true=>
   rw[hn] at e3
   have v3:=Store.okI.on v o13
   obtain ⟨x,p,rfl,hp,wx⟩:=v3
   subst hp
   rcases wx.found (fun t=>decide (t.lo≤a)&&decide (a≤t.hi)) with q | ⟨j,q,hj,hpj,hx,_,_,hld⟩
   ·change findId s.shards a= -1 at q
    rw[cut_away q]
    rw[q] at e2
    simp only[rn,RO.dst,lk,drop,Nat.reduceBEq,Nat.reduceAdd,Nat.reduceLeDiff,↓reduceIte,reduceCtorEq,l1,l2,l3,e1,e2,e3,Int.reduceLT,Int.reduceNeg]
    exact ⟨_,_,_,rfl,o13,⟨y,_,rfl,rfl,w⟩,f1⟩
   change findId s.shards a=(j:Int) at q
   rw[q] at e2
   rw[cut_if hn q]
   have g0: ¬(j:Int)<0:=by omega
   have hwl:=wx.len
   have hl8:=Store.next_len hn
   by_cases c1:(Shard.at_ s.shards j).state=0
   case neg=>
    have c1':((Shard.at_ s.shards j).state==0)=false:=by simpa using c1
    have c1n:((Shard.at_ s.shards j).state !=0)=true:=by simpa using c1
    rw[c1']
    simp only[Bool.false_and,cond_false]
    simp only[rn,RO.dst,lk,drop,Nat.reduceBEq,Nat.reduceAdd,Nat.reduceLeDiff,↓reduceIte,reduceCtorEq,l1,l2,l3,e1,e2,e3,g0,hx,hld,Shard.cells,c1n]
    exact ⟨_,_,_,rfl,o13,⟨y,_,rfl,rfl,w⟩,f1⟩
   have c1':((Shard.at_ s.shards j).state==0)=true:=by simpa using c1
   have c1n:((Shard.at_ s.shards j).state !=0)=false:=by simpa using c1
   by_cases c2:(Shard.at_ s.shards j).lo=a
   ·have c2':((Shard.at_ s.shards j).lo==a)=true:=by simpa using c2
    rw[c2']
    simp only[Bool.not_true,Bool.false_and,Bool.and_false,cond_false]
    simp only[rn,RO.dst,lk,drop,Nat.reduceBEq,Nat.reduceAdd,Nat.reduceLeDiff,↓reduceIte,reduceCtorEq,l1,l2,l3,e1,e2,e3,g0,hx,hld,Shard.cells,c1n,c2']
    exact ⟨_,_,_,rfl,o13,⟨y,_,rfl,rfl,w⟩,f1⟩
   have c2':((Shard.at_ s.shards j).lo==a)=false:=by simpa using c2
   cases c3:((s.shards.length:Int)==8) with
   | true=>
     simp only[Bool.not_true,Bool.and_false,cond_false]
     simp only[rn,RO.dst,lk,drop,Nat.reduceBEq,Nat.reduceAdd,Nat.reduceLeDiff,↓reduceIte,reduceCtorEq,l1,l2,l3,e1,e2,e3,g0,hx,hld,Shard.cells,c2',c1n,hwl,c3]
     exact ⟨_,_,_,rfl,o13,⟨y,_,rfl,rfl,w⟩,f1⟩
   | false=>
     rw[c1',c2']
     simp only[Bool.not_false,Bool.and_true,cond_true]
     have hpj':=hpj
     simp only[Bool.and_eq_true,decide_eq_true_eq] at hpj'
     have hw:IntKind.u64.wrap (a-1)=a-1:=by
      have:=ok.shards _ (List.getElem_mem hj)
      have h0:=this.lo
      rw[Shard.at_get hj] at hpj' c2
      exact wrapU _ (by omega) (by omega)
     have hgd:(Shard.at_ s.shards j).good=true:=by
      have hgs:s.good=true:=by
       simp only[Store.next,Bool.and_eq_true] at hn
       exact hn.1
      have:=Store.fit_at hgs hj
      simp only[Store.fits,Bool.and_eq_true] at this
      exact this.1
     obtain ⟨r,fx,hlr,hR,hfx⟩:=w.atR hj
     have hyi:=w.idx hj
     have smj:=Store.at_small sm hj
     obtain ⟨xb,pb,xf,pf,rfl,hfxe,wb,wf⟩:=hR
     have hlt3: ∀id,id∈fr→id<h3.next:=w.lt Shard.okI
     obtain ⟨g1,g2,s1,s2,hg2,c0⟩:=Cut.start h3 (o13.le hf) (Shard.at_ s.shards j).lo (Shard.at_ s.shards j).hi a [.int .u64 0,.int .u64 0,.int .i64 0,.int .i64 0,.nil,.nil] rfl
     have ohb:On h3 ((h3.push [[.int .u64 0,.int .u64 0,.int .i64 0,.int .i64 0,.nil,.nil]]).push [[.int .u64 0,.int .u64 0,.int .i64 0,.int .i64 0,.nil,.nil]]):=(On.push _ _).trans (On.push _ _)
     have hbl:=wb.len
     have hfl:=wf.len
     have hpb: ∀id,id∈pb→id∈fr:=fun id hid=>hfx id (by rw[hfxe];exact List.mem_append_left _ hid)
     have hpf: ∀id,id∈pf→id∈fr:=fun id hid=>hfx id (by rw[hfxe];exact List.mem_append_right _ hid)
     obtain ⟨sm1,sm2⟩:=smj
     have hpn:(h3.push [[.int .u64 0,.int .u64 0,.int .i64 0,.int .i64 0,.nil,.nil]]).next=h3.next+1:=rfl
     have hfrn: ∀id,id∈fr→id≠h3.next∧id≠(h3.push [[.int .u64 0,.int .u64 0,.int .i64 0,.int .i64 0,.nil,.nil]]).next:=fun id hid=>by have:=hlt3 id hid;rw[hpn];omega
     obtain ⟨g4,y1,y2,f4,f5,lp1,c4⟩:=cut_loop1 (F:=F) (Z:=Z) (e:=e) (k:=(j:Int)) (gr:=s.group) (sn:=s.seen) (y:=y) (wb.on (Fl.ok _) ohb) (fun id hid=>hfrn id (hpb id hid)) sm1 [.int .u64 (Shard.at_ s.shards j).lo,.int .u64 (Shard.at_ s.shards j).hi,.int .i64 (Shard.at_ s.shards j).state,.int .i64 (Shard.at_ s.shards j).epoch,xb,xf] c0
     obtain ⟨g5,z1,z2,f6,f7,lp2,c5⟩:=cut_loop2 (F:=F) (Z:=Z) (e:=e) (k:=(j:Int)) (gr:=s.group) (sn:=s.seen) (y:=y) (wf.on (Fl.ok _) ohb) (fun id hid=>hfrn id (hpf id hid)) sm2 c4
     have w5:SlR 16 Shard.RI g5 y s.shards fr:=w.mv Shard.okI (Nat.le_trans ohb.ext.1 c5.le) fun id hid=>by
      have h1:=hlt3 id hid
      have h2:=hfrn id hid
      rw[c5.get id (Nat.lt_of_lt_of_le h1 ohb.ext.1) h2.1 h2.2]
      exact ohb.ext.2 id h1
     obtain ⟨gs,z,g6,fz,e4,hl4,e5,w6,o6,f8⟩:=cut_join hj hl8 c5 w5 (o13.trans ohb) f1 (fun id hid=>by have:=hlt3 id hid;have h1:=ohb.ext.1;rw[hpn];omega) o13.ext.1 (by rw[hpn];have:=o13.ext.1;omega) hf
     obtain ⟨cs7,h7,e7,m7,v7⟩:=renewed_c (Z:=Z) k (s:=s.cut0 j a) ⟨z,_,rfl,rfl,w6⟩ f8.nd (f8.own o6 hf) e
     rw[Store.cut_renew hj hgd c1] at v7
     obtain ⟨n1,n2,n3⟩:=Store.lenI v7
     change call F Z 321 [.agg [.int .i64 s.group,.int .i64 s.seen,z],_] g6=_ at e7
     have hwj:=wrapS j (by omega)
     have hla:=c5.load1
     have hlt1: ¬((Shard.at_ s.shards j).book.list.length:Int)<(Shard.at_ s.shards j).book.list.length:=by omega
     have hlt2: ¬((Shard.at_ s.shards j).finished.length:Int)<(Shard.at_ s.shards j).finished.length:=by omega
     simp only[cutSt1,show ((0:Nat):Int)=0 from rfl] at lp1
     simp only[cutSt2,show ((0:Nat):Int)=0 from rfl] at lp2
     rw[hpn] at hl4
     simp only[push_next] at lp1 lp2
     simp only[rn,RO.dst,lk,drop,Nat.reduceBEq,Nat.reduceAdd,Nat.reduceLeDiff,↓reduceIte,reduceCtorEq,l1,l2,l3,e1,e2,e3,g0,hx,hld,Shard.cells,c2',c1n,hwl,c3,hyi,hlr,hw,hg2,push_next,hbl]
     rw[lp1,loop_run]
     conv in (codeF _ _ r312L1 _)=>unfold r312L1
     simp only[rn,RO.dst,lk,drop,Nat.reduceBEq,Nat.reduceAdd,Nat.reduceLeDiff,↓reduceIte,reduceCtorEq,hlt1,hfl]
     rw[lp2,loop_run]
     conv in (codeF _ _ r312L0 _)=>unfold r312L0
     simp only[rn,RO.dst,lk,drop,Nat.reduceBEq,Nat.reduceAdd,Nat.reduceLeDiff,↓reduceIte,reduceCtorEq,hlt2,hla,hyi,e4,hwj,hl4,List.replicate_succ,List.replicate_zero,fills,and_self,Nat.zero_lt_one,List.set_cons_zero,pr _ _,e5,e7,n1,n2,n3]
     exact ⟨_,_,_,rfl,o6.turned m7 f8,v7,f8⟩
end
end Go.Proofs.YthofpopafchelaaGreat.A
namespace Go.Proofs.YthofpopafchelaaGreat.A
open Go
set_option linter.unusedSimpArgs false
set_option linter.unusedVariables false
section
variable {F:Nat→Option RF} {Z:CallF} {h:Heap} {x:Cell} {code:List Int}
theorem big_run (hL:Has F tLaws) (w:Vw 19 byte_enc h x code):call F Z 144 [.c x] h=some (.c (.bool (decide ((code.length:Int)>1048576))),h):=by
 rw[call_run F Z (hL.lk (g:=144) rfl) _ _ rfl]
 simp only[rn,RO.dst,lk,drop,Nat.reduceBEq,Nat.reduceAdd,Nat.reduceLeDiff,↓reduceIte,reduceCtorEq,w.len]
end
end Go.Proofs.YthofpopafchelaaGreat.A
namespace Go.Proofs.YthofpopafchelaaGreat.A
open Go
set_option linter.unusedSimpArgs false
set_option linter.unusedVariables false
def Byte (b:Int):Prop:=0≤b∧b≤255
theorem Wf.areBytes {h:Heap} {n:Nat} {x:Cell} (w:Wf h (n+2) shUint8S [x]): ∃code:List Int,Vw 19 byte_enc h x code∧ ∀b,b∈code→Byte b:=by
 obtain ⟨xs,fp,v,q⟩:=SlR.ofWf (R:=Fl byte_enc) (A:=Byte) (fun r hr=>by
  obtain ⟨hl,z,rfl,hz⟩:=hr
  refine ⟨z,[],⟨rfl,rfl⟩,?_⟩
  simp only[Lit.wf,Bool.and_eq_true,decide_eq_true_eq] at hz
  exact hz) w
 exact ⟨xs,v.vw,q⟩
section
variable {F:Nat→Option RF} {Z:CallF} {h:Heap} {x:Cell} {code:List Int}
end
end Go.Proofs.YthofpopafchelaaGreat.A
