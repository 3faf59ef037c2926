/- The functions that the statement reaches, part 4: bodies and what they compute. No condition. -/
import Derived.Test.YtahkgghifaodoaaGreatHCOver3
import Derived.Test.YtahkgghifaodoaaGreatD
namespace Go.Proofs.YtahkgghifaodoaaGreat.A
open Go
set_option linter.unusedSimpArgs false
set_option linter.unusedVariables false
section
variable {F:Nat→Option RF} {Z:CallF} {h:Heap} {cs:List Cell} {fp:List Nat} {s:Store}
set_option maxHeartbeats 4000000 in
set_option maxRecDepth 8000 in
theorem do_op0 (k:KI F) (hL:Has F tLibslicesIndexFuncimplShardimplShard) (pri:PrimAt F Z 343 (insF 11 40)) (prd:PrimAt F Z 348 (delF 11)) (prs:PrimAt F Z 375 (sortF 9 267)) (hf:h.floor≤h.next) (v:Store.RI h cs s fp) (qe qi qa qt:Int) (okq:(⟨qe,0,qi,qa,qt⟩:Request).Ok) (ok:s.Ok) (sm:s.Small):
 DoStoreAt F Z h cs s ⟨qe,0,qi,qa,qt⟩:=by
 unfold DoStoreAt
 obtain ⟨l1,l2,l3⟩:=Store.lenI v
 obtain ⟨cs1,h1,fr,e1,o1,v1,f1⟩:=copyStore_c (Z:=Z) k hf v sm
 obtain ⟨h2,e2,o2⟩:=isStore_run (Z:=Z) k (Store.okI.on v o1) ok
 obtain ⟨h3,e3,o3⟩:=shardWith_on (Z:=Z) k.i13 hL (Store.okI.on (Store.okI.on v o1) o2) qi
 have o12:=o1.trans o2
 have o13:=o12.trans o3
 obtain ⟨y,p,rfl,hp,w12⟩:=Store.okI.on v1 o2
 subst hp
 have w:=w12.on Shard.okI o3
 rw[call_run F Z (k.i13.lk (g:=387) rfl) _ _ rfl]
 simp only[Request.enc]
 cases hg:s.good with
 | false=>
   rw[hg] at e2
   rw[dost_bad (by simp[hg])]
   simp only[rn,RO.dst,lk,drop,Nat.reduceBEq,Nat.reduceAdd,Nat.reduceLeDiff,↓reduceIte,reduceCtorEq,Int.reduceLT,Int.reduceLE,Int.reduceGT,Int.reduceGE,Int.reduceBEq,Int.reduceBNe,Int.reduceEq,Int.reduceNe,Int.reduceNeg,l1,l2,l3,e1,e2]
   exact ⟨_,_,_,rfl,o12,⟨y,_,rfl,rfl,w12⟩,f1⟩
 | true=>
 rw[hg] at e2
 have hin:(s.good&&inR (⟨qe,0,qi,qa,qt⟩:Request).op 0 8)=true:=by rw[hg];rfl
 have v3:=Store.okI.on v o13
 obtain ⟨x,p,rfl,hp,wx⟩:=v3
 subst hp
 rcases wx.found (fun t=>decide (t.lo≤qi)&&decide (qi≤t.hi)) with q | ⟨i,q,hi,hpi,_⟩
 ·change findId s.shards qi= -1 at q
  rw[dost_away hin q]
  rw[q] at e3
  simp only[rn,RO.dst,lk,drop,Nat.reduceBEq,Nat.reduceAdd,Nat.reduceLeDiff,↓reduceIte,reduceCtorEq,Int.reduceLT,Int.reduceLE,Int.reduceGT,Int.reduceGE,Int.reduceBEq,Int.reduceBNe,Int.reduceEq,Int.reduceNe,Int.reduceNeg,l1,l2,l3,e1,e2,e3]
  exact ⟨_,_,_,rfl,o13,⟨y,_,rfl,rfl,w⟩,f1⟩
 change findId s.shards qi=(i:Int) at q
 rw[q] at e3
 rw[dost_at hin q,Shard.at_get hi]
 have g0: ¬(i:Int)<0:=by omega
 have hyi:=w.idx hi
 have okX:=ok.shards _ (List.getElem_mem hi)
 have smX:=sm.2 _ (List.getElem_mem hi)
 have smf:s.shards[i].finished.length≤1048576:=smX.2
 have smb:s.shards[i].book.list.length≤1048576:=smX.1
 have hbk:bookOk s.shards[i].book.list=true:=by
  have:=Store.fit_at hg hi
  simp only[Store.fits,Bool.and_eq_true,Shard.at_get hi,Shard.good,Shard.head] at this
  exact this.1.1.2.2.2.1
 obtain ⟨xb,xf,pb,pf,rows,hgr,hrr,wb,wf,fin⟩:=row_book o13 hf w f1 hi
 have hld:=fun j n=>loadP_row hgr hrr j n
 have eC:=containsFin_run (F:=F) (Z:=Z) k.li k.lc (wf.up (Fl.ok _) h3.next) ⟨qt,qi⟩
 simp only[Fin.enc] at eC
 have hlen:=wf.len
 obtain ⟨yb,hq,fb,eB,oB,uB,dB⟩:=doBook_c (Z:=Z) (h:=⟨h3.next,h3.next,h3.get⟩) k.i10 k.i13 pri prd (Nat.le_refl _) (wb.up (Fl.ok _) h3.next) ⟨qe,0,qi,qa,qt⟩ okq okX.book.list smb hbk
 simp only[Request.enc] at eB
 obtain ⟨g1,hg1⟩: ∃g1,Heap.mk hq.next h3.floor hq.get=g1:=⟨_,rfl⟩
 have oB1:On h3 g1:=by rw[←hg1];exact ⟨⟨oB.ext.1,oB.ext.2⟩,rfl⟩
 have uB1:SlR 11 (Fl Account.enc) g1 yb (doBook s.shards[i].book.list ⟨qe,0,qi,qa,qt⟩).1 fb:=by rw[←hg1];exact uB.up (Fl.ok _) h3.floor
 have ndB:fb.Nodup:=by
  rcases dB with d | ⟨_,d⟩
  ·exact d.nd
  ·rw[d];exact wb.nodup
 obtain ⟨g2,fqs,rows2,st,og2,fq2,w2,u2,hg2,hr2⟩:=fin g1 yb _ fb oB1 uB1 ndB (by
  rcases dB with d | ⟨_,d⟩
  ·exact .inl ⟨d.lo,d.nd⟩
  ·exact .inr d)
 cases cA:(s.shards[i].epoch !=qe) with
 | true=>
   have cA':(s.shards[i].epoch==qe)=false:=by simpa using cA
   have hR:refuse s.shards[i] ⟨qe,0,qi,qa,qt⟩=9:=by simp[refuse,inR,Request.ends,Request.fin,cA']
   rw[hR]
   simp only[show ((9:Int)==0)=false from rfl,cond_false]
   simp only[rn,RO.dst,lk,drop,Nat.reduceBEq,Nat.reduceAdd,Nat.reduceLeDiff,↓reduceIte,reduceCtorEq,Int.reduceLT,Int.reduceLE,Int.reduceGT,Int.reduceGE,Int.reduceBEq,Int.reduceBNe,Int.reduceEq,Int.reduceNe,Int.reduceNeg,l1,l2,l3,e1,e2,e3,hyi,hld,eC,hlen,g0,cA]
   exact ⟨_,_,_,rfl,o13,⟨y,_,rfl,rfl,w⟩,f1⟩
 | false=>
 have cA':(s.shards[i].epoch==qe)=true:=by simpa using cA
 cases cB:(s.shards[i].state==1) with
 | true=>
   have hR:refuse s.shards[i] ⟨qe,0,qi,qa,qt⟩=10:=by simp[refuse,inR,Request.ends,Request.fin,cA',cB]
   rw[hR]
   simp only[show ((10:Int)==0)=false from rfl,cond_false]
   simp only[rn,RO.dst,lk,drop,Nat.reduceBEq,Nat.reduceAdd,Nat.reduceLeDiff,↓reduceIte,reduceCtorEq,Int.reduceLT,Int.reduceLE,Int.reduceGT,Int.reduceGE,Int.reduceBEq,Int.reduceBNe,Int.reduceEq,Int.reduceNe,Int.reduceNeg,l1,l2,l3,e1,e2,e3,hyi,hld,eC,hlen,g0,cA,cB]
   exact ⟨_,_,_,rfl,o13,⟨y,_,rfl,rfl,w⟩,f1⟩
 | false=>
 have hR:refuse s.shards[i] ⟨qe,0,qi,qa,qt⟩=0:=by simp[refuse,inR,Request.ends,Request.fin,cA',cB]
 rw[hR]
 simp only[beq_self_eq_true,cond_true]
 have hS:doShard s.shards[i] ⟨qe,0,qi,qa,qt⟩={s.shards[i] with book:=⟨(doBook s.shards[i].book.list ⟨qe,0,qi,qa,qt⟩).1⟩}:=by simp[doShard,Request.ends,Request.fin,cA',cB]
 rw[hS]
 have eA:=accountOf_run (Z:=Z) k.i10 u2 qi
 rcases val_cases (a:=qi) (doBook_srt hbk ⟨qe,0,qi,qa,qt⟩) with ⟨v1,v2⟩ | ⟨v1,v2,v3,v4⟩ | ⟨v1,j,v2,v3,v4,v5,v6⟩
 ·have v1':((doBook s.shards[i].book.list ⟨qe,0,qi,qa,qt⟩).2==0)=false:=by simpa using v1
  rw[v2]
  simp only[rn,RO.dst,lk,drop,Nat.reduceBEq,Nat.reduceAdd,Nat.reduceLeDiff,↓reduceIte,reduceCtorEq,Int.reduceLT,Int.reduceLE,Int.reduceGT,Int.reduceGE,Int.reduceBEq,Int.reduceBNe,Int.reduceEq,Int.reduceNe,Int.reduceNeg,l1,l2,l3,e1,e2,e3,hyi,hld,eC,hlen,g0,cA,cB,eB,hg1,st,eA,v1']
  exact ⟨_,_,_,rfl,og2,⟨y,_,rfl,rfl,w2⟩,fq2⟩
 ·have v1':((doBook s.shards[i].book.list ⟨qe,0,qi,qa,qt⟩).2==0)=true:=by simpa using v1
  rw[v4]
  rw[v2] at eA
  simp only[rn,RO.dst,lk,drop,Nat.reduceBEq,Nat.reduceAdd,Nat.reduceLeDiff,↓reduceIte,reduceCtorEq,Int.reduceLT,Int.reduceLE,Int.reduceGT,Int.reduceGE,Int.reduceBEq,Int.reduceBNe,Int.reduceEq,Int.reduceNe,Int.reduceNeg,l1,l2,l3,e1,e2,e3,hyi,hld,eC,hlen,g0,cA,cB,eB,hg1,st,eA,v1']
  exact ⟨_,_,_,rfl,og2,⟨y,_,rfl,rfl,w2⟩,fq2⟩
 ·have v1':((doBook s.shards[i].book.list ⟨qe,0,qi,qa,qt⟩).2==0)=true:=by simpa using v1
  rw[v6,Account.at_get v5]
  rw[v2,v3] at eA
  have hx:=u2.idx v5
  have hl:=u2.load v5
  simp only[Account.enc] at hl
  simp only[rn,RO.dst,lk,drop,Nat.reduceBEq,Nat.reduceAdd,Nat.reduceLeDiff,↓reduceIte,reduceCtorEq,Int.reduceLT,Int.reduceLE,Int.reduceGT,Int.reduceGE,Int.reduceBEq,Int.reduceBNe,Int.reduceEq,Int.reduceNe,Int.reduceNeg,l1,l2,l3,e1,e2,e3,hyi,hld,eC,hlen,g0,cA,cB,eB,hg1,st,eA,v1',hx,hl]
  exact ⟨_,_,_,rfl,og2,⟨y,_,rfl,rfl,w2⟩,fq2⟩
set_option maxHeartbeats 4000000 in
set_option maxRecDepth 8000 in
theorem do_op1 (k:KI F) (hL:Has F tLibslicesIndexFuncimplShardimplShard) (pri:PrimAt F Z 343 (insF 11 40)) (prd:PrimAt F Z 348 (delF 11)) (prs:PrimAt F Z 375 (sortF 9 267)) (hf:h.floor≤h.next) (v:Store.RI h cs s fp) (qe qi qa qt:Int) (okq:(⟨qe,1,qi,qa,qt⟩:Request).Ok) (ok:s.Ok) (sm:s.Small):
 DoStoreAt F Z h cs s ⟨qe,1,qi,qa,qt⟩:=by
 unfold DoStoreAt
 obtain ⟨l1,l2,l3⟩:=Store.lenI v
 obtain ⟨cs1,h1,fr,e1,o1,v1,f1⟩:=copyStore_c (Z:=Z) k hf v sm
 obtain ⟨h2,e2,o2⟩:=isStore_run (Z:=Z) k (Store.okI.on v o1) ok
 obtain ⟨h3,e3,o3⟩:=shardWith_on (Z:=Z) k.i13 hL (Store.okI.on (Store.okI.on v o1) o2) qi
 have o12:=o1.trans o2
 have o13:=o12.trans o3
 obtain ⟨y,p,rfl,hp,w12⟩:=Store.okI.on v1 o2
 subst hp
 have w:=w12.on Shard.okI o3
 rw[call_run F Z (k.i13.lk (g:=387) rfl) _ _ rfl]
 simp only[Request.enc]
 cases hg:s.good with
 | false=>
   rw[hg] at e2
   rw[dost_bad (by simp[hg])]
   simp only[rn,RO.dst,lk,drop,Nat.reduceBEq,Nat.reduceAdd,Nat.reduceLeDiff,↓reduceIte,reduceCtorEq,Int.reduceLT,Int.reduceLE,Int.reduceGT,Int.reduceGE,Int.reduceBEq,Int.reduceBNe,Int.reduceEq,Int.reduceNe,Int.reduceNeg,l1,l2,l3,e1,e2]
   exact ⟨_,_,_,rfl,o12,⟨y,_,rfl,rfl,w12⟩,f1⟩
 | true=>
 rw[hg] at e2
 have hin:(s.good&&inR (⟨qe,1,qi,qa,qt⟩:Request).op 0 8)=true:=by rw[hg];rfl
 have v3:=Store.okI.on v o13
 obtain ⟨x,p,rfl,hp,wx⟩:=v3
 subst hp
 rcases wx.found (fun t=>decide (t.lo≤qi)&&decide (qi≤t.hi)) with q | ⟨i,q,hi,hpi,_⟩
 ·change findId s.shards qi= -1 at q
  rw[dost_away hin q]
  rw[q] at e3
  simp only[rn,RO.dst,lk,drop,Nat.reduceBEq,Nat.reduceAdd,Nat.reduceLeDiff,↓reduceIte,reduceCtorEq,Int.reduceLT,Int.reduceLE,Int.reduceGT,Int.reduceGE,Int.reduceBEq,Int.reduceBNe,Int.reduceEq,Int.reduceNe,Int.reduceNeg,l1,l2,l3,e1,e2,e3]
  exact ⟨_,_,_,rfl,o13,⟨y,_,rfl,rfl,w⟩,f1⟩
 change findId s.shards qi=(i:Int) at q
 rw[q] at e3
 rw[dost_at hin q,Shard.at_get hi]
 have g0: ¬(i:Int)<0:=by omega
 have hyi:=w.idx hi
 have okX:=ok.shards _ (List.getElem_mem hi)
 have smX:=sm.2 _ (List.getElem_mem hi)
 have smf:s.shards[i].finished.length≤1048576:=smX.2
 have smb:s.shards[i].book.list.length≤1048576:=smX.1
 have hbk:bookOk s.shards[i].book.list=true:=by
  have:=Store.fit_at hg hi
  simp only[Store.fits,Bool.and_eq_true,Shard.at_get hi,Shard.good,Shard.head] at this
  exact this.1.1.2.2.2.1
 obtain ⟨xb,xf,pb,pf,rows,hgr,hrr,wb,wf,fin⟩:=row_book o13 hf w f1 hi
 have hld:=fun j n=>loadP_row hgr hrr j n
 have eC:=containsFin_run (F:=F) (Z:=Z) k.li k.lc (wf.up (Fl.ok _) h3.next) ⟨qt,qi⟩
 simp only[Fin.enc] at eC
 have hlen:=wf.len
 obtain ⟨yb,hq,fb,eB,oB,uB,dB⟩:=doBook_c (Z:=Z) (h:=⟨h3.next,h3.next,h3.get⟩) k.i10 k.i13 pri prd (Nat.le_refl _) (wb.up (Fl.ok _) h3.next) ⟨qe,1,qi,qa,qt⟩ okq okX.book.list smb hbk
 simp only[Request.enc] at eB
 obtain ⟨g1,hg1⟩: ∃g1,Heap.mk hq.next h3.floor hq.get=g1:=⟨_,rfl⟩
 have oB1:On h3 g1:=by rw[←hg1];exact ⟨⟨oB.ext.1,oB.ext.2⟩,rfl⟩
 have uB1:SlR 11 (Fl Account.enc) g1 yb (doBook s.shards[i].book.list ⟨qe,1,qi,qa,qt⟩).1 fb:=by rw[←hg1];exact uB.up (Fl.ok _) h3.floor
 have ndB:fb.Nodup:=by
  rcases dB with d | ⟨_,d⟩
  ·exact d.nd
  ·rw[d];exact wb.nodup
 obtain ⟨g2,fqs,rows2,st,og2,fq2,w2,u2,hg2,hr2⟩:=fin g1 yb _ fb oB1 uB1 ndB (by
  rcases dB with d | ⟨_,d⟩
  ·exact .inl ⟨d.lo,d.nd⟩
  ·exact .inr d)
 cases cA:(s.shards[i].epoch !=qe) with
 | true=>
   have cA':(s.shards[i].epoch==qe)=false:=by simpa using cA
   have hR:refuse s.shards[i] ⟨qe,1,qi,qa,qt⟩=9:=by simp[refuse,inR,Request.ends,Request.fin,cA']
   rw[hR]
   simp only[show ((9:Int)==0)=false from rfl,cond_false]
   simp only[rn,RO.dst,lk,drop,Nat.reduceBEq,Nat.reduceAdd,Nat.reduceLeDiff,↓reduceIte,reduceCtorEq,Int.reduceLT,Int.reduceLE,Int.reduceGT,Int.reduceGE,Int.reduceBEq,Int.reduceBNe,Int.reduceEq,Int.reduceNe,Int.reduceNeg,l1,l2,l3,e1,e2,e3,hyi,hld,eC,hlen,g0,cA]
   exact ⟨_,_,_,rfl,o13,⟨y,_,rfl,rfl,w⟩,f1⟩
 | false=>
 have cA':(s.shards[i].epoch==qe)=true:=by simpa using cA
 cases cB:(s.shards[i].state==1) with
 | true=>
   have hR:refuse s.shards[i] ⟨qe,1,qi,qa,qt⟩=10:=by simp[refuse,inR,Request.ends,Request.fin,cA',cB]
   rw[hR]
   simp only[show ((10:Int)==0)=false from rfl,cond_false]
   simp only[rn,RO.dst,lk,drop,Nat.reduceBEq,Nat.reduceAdd,Nat.reduceLeDiff,↓reduceIte,reduceCtorEq,Int.reduceLT,Int.reduceLE,Int.reduceGT,Int.reduceGE,Int.reduceBEq,Int.reduceBNe,Int.reduceEq,Int.reduceNe,Int.reduceNeg,l1,l2,l3,e1,e2,e3,hyi,hld,eC,hlen,g0,cA,cB]
   exact ⟨_,_,_,rfl,o13,⟨y,_,rfl,rfl,w⟩,f1⟩
 | false=>
 have hR:refuse s.shards[i] ⟨qe,1,qi,qa,qt⟩=0:=by simp[refuse,inR,Request.ends,Request.fin,cA',cB]
 rw[hR]
 simp only[beq_self_eq_true,cond_true]
 have hS:doShard s.shards[i] ⟨qe,1,qi,qa,qt⟩={s.shards[i] with book:=⟨(doBook s.shards[i].book.list ⟨qe,1,qi,qa,qt⟩).1⟩}:=by simp[doShard,Request.ends,Request.fin,cA',cB]
 rw[hS]
 have eA:=accountOf_run (Z:=Z) k.i10 u2 qi
 rcases val_cases (a:=qi) (doBook_srt hbk ⟨qe,1,qi,qa,qt⟩) with ⟨v1,v2⟩ | ⟨v1,v2,v3,v4⟩ | ⟨v1,j,v2,v3,v4,v5,v6⟩
 ·have v1':((doBook s.shards[i].book.list ⟨qe,1,qi,qa,qt⟩).2==0)=false:=by simpa using v1
  rw[v2]
  simp only[rn,RO.dst,lk,drop,Nat.reduceBEq,Nat.reduceAdd,Nat.reduceLeDiff,↓reduceIte,reduceCtorEq,Int.reduceLT,Int.reduceLE,Int.reduceGT,Int.reduceGE,Int.reduceBEq,Int.reduceBNe,Int.reduceEq,Int.reduceNe,Int.reduceNeg,l1,l2,l3,e1,e2,e3,hyi,hld,eC,hlen,g0,cA,cB,eB,hg1,st,eA,v1']
  exact ⟨_,_,_,rfl,og2,⟨y,_,rfl,rfl,w2⟩,fq2⟩
 ·have v1':((doBook s.shards[i].book.list ⟨qe,1,qi,qa,qt⟩).2==0)=true:=by simpa using v1
  rw[v4]
  rw[v2] at eA
  simp only[rn,RO.dst,lk,drop,Nat.reduceBEq,Nat.reduceAdd,Nat.reduceLeDiff,↓reduceIte,reduceCtorEq,Int.reduceLT,Int.reduceLE,Int.reduceGT,Int.reduceGE,Int.reduceBEq,Int.reduceBNe,Int.reduceEq,Int.reduceNe,Int.reduceNeg,l1,l2,l3,e1,e2,e3,hyi,hld,eC,hlen,g0,cA,cB,eB,hg1,st,eA,v1']
  exact ⟨_,_,_,rfl,og2,⟨y,_,rfl,rfl,w2⟩,fq2⟩
 ·have v1':((doBook s.shards[i].book.list ⟨qe,1,qi,qa,qt⟩).2==0)=true:=by simpa using v1
  rw[v6,Account.at_get v5]
  rw[v2,v3] at eA
  have hx:=u2.idx v5
  have hl:=u2.load v5
  simp only[Account.enc] at hl
  simp only[rn,RO.dst,lk,drop,Nat.reduceBEq,Nat.reduceAdd,Nat.reduceLeDiff,↓reduceIte,reduceCtorEq,Int.reduceLT,Int.reduceLE,Int.reduceGT,Int.reduceGE,Int.reduceBEq,Int.reduceBNe,Int.reduceEq,Int.reduceNe,Int.reduceNeg,l1,l2,l3,e1,e2,e3,hyi,hld,eC,hlen,g0,cA,cB,eB,hg1,st,eA,v1',hx,hl]
  exact ⟨_,_,_,rfl,og2,⟨y,_,rfl,rfl,w2⟩,fq2⟩
set_option maxHeartbeats 4000000 in
set_option maxRecDepth 8000 in
theorem do_op2 (k:KI F) (hL:Has F tLibslicesIndexFuncimplShardimplShard) (pri:PrimAt F Z 343 (insF 11 40)) (prd:PrimAt F Z 348 (delF 11)) (prs:PrimAt F Z 375 (sortF 9 267)) (hf:h.floor≤h.next) (v:Store.RI h cs s fp) (qe qi qa qt:Int) (okq:(⟨qe,2,qi,qa,qt⟩:Request).Ok) (ok:s.Ok) (sm:s.Small):
 DoStoreAt F Z h cs s ⟨qe,2,qi,qa,qt⟩:=by
 unfold DoStoreAt
 obtain ⟨l1,l2,l3⟩:=Store.lenI v
 obtain ⟨cs1,h1,fr,e1,o1,v1,f1⟩:=copyStore_c (Z:=Z) k hf v sm
 obtain ⟨h2,e2,o2⟩:=isStore_run (Z:=Z) k (Store.okI.on v o1) ok
 obtain ⟨h3,e3,o3⟩:=shardWith_on (Z:=Z) k.i13 hL (Store.okI.on (Store.okI.on v o1) o2) qi
 have o12:=o1.trans o2
 have o13:=o12.trans o3
 obtain ⟨y,p,rfl,hp,w12⟩:=Store.okI.on v1 o2
 subst hp
 have w:=w12.on Shard.okI o3
 rw[call_run F Z (k.i13.lk (g:=387) rfl) _ _ rfl]
 simp only[Request.enc]
 cases hg:s.good with
 | false=>
   rw[hg] at e2
   rw[dost_bad (by simp[hg])]
   simp only[rn,RO.dst,lk,drop,Nat.reduceBEq,Nat.reduceAdd,Nat.reduceLeDiff,↓reduceIte,reduceCtorEq,Int.reduceLT,Int.reduceLE,Int.reduceGT,Int.reduceGE,Int.reduceBEq,Int.reduceBNe,Int.reduceEq,Int.reduceNe,Int.reduceNeg,l1,l2,l3,e1,e2]
   exact ⟨_,_,_,rfl,o12,⟨y,_,rfl,rfl,w12⟩,f1⟩
 | true=>
 rw[hg] at e2
 have hin:(s.good&&inR (⟨qe,2,qi,qa,qt⟩:Request).op 0 8)=true:=by rw[hg];rfl
 have v3:=Store.okI.on v o13
 obtain ⟨x,p,rfl,hp,wx⟩:=v3
 subst hp
 rcases wx.found (fun t=>decide (t.lo≤qi)&&decide (qi≤t.hi)) with q | ⟨i,q,hi,hpi,_⟩
 ·change findId s.shards qi= -1 at q
  rw[dost_away hin q]
  rw[q] at e3
  simp only[rn,RO.dst,lk,drop,Nat.reduceBEq,Nat.reduceAdd,Nat.reduceLeDiff,↓reduceIte,reduceCtorEq,Int.reduceLT,Int.reduceLE,Int.reduceGT,Int.reduceGE,Int.reduceBEq,Int.reduceBNe,Int.reduceEq,Int.reduceNe,Int.reduceNeg,l1,l2,l3,e1,e2,e3]
  exact ⟨_,_,_,rfl,o13,⟨y,_,rfl,rfl,w⟩,f1⟩
 change findId s.shards qi=(i:Int) at q
 rw[q] at e3
 rw[dost_at hin q,Shard.at_get hi]
 have g0: ¬(i:Int)<0:=by omega
 have hyi:=w.idx hi
 have okX:=ok.shards _ (List.getElem_mem hi)
 have smX:=sm.2 _ (List.getElem_mem hi)
 have smf:s.shards[i].finished.length≤1048576:=smX.2
 have smb:s.shards[i].book.list.length≤1048576:=smX.1
 have hbk:bookOk s.shards[i].book.list=true:=by
  have:=Store.fit_at hg hi
  simp only[Store.fits,Bool.and_eq_true,Shard.at_get hi,Shard.good,Shard.head] at this
  exact this.1.1.2.2.2.1
 obtain ⟨xb,xf,pb,pf,rows,hgr,hrr,wb,wf,fin⟩:=row_book o13 hf w f1 hi
 have hld:=fun j n=>loadP_row hgr hrr j n
 have eC:=containsFin_run (F:=F) (Z:=Z) k.li k.lc (wf.up (Fl.ok _) h3.next) ⟨qt,qi⟩
 simp only[Fin.enc] at eC
 have hlen:=wf.len
 obtain ⟨yb,hq,fb,eB,oB,uB,dB⟩:=doBook_c (Z:=Z) (h:=⟨h3.next,h3.next,h3.get⟩) k.i10 k.i13 pri prd (Nat.le_refl _) (wb.up (Fl.ok _) h3.next) ⟨qe,2,qi,qa,qt⟩ okq okX.book.list smb hbk
 simp only[Request.enc] at eB
 obtain ⟨g1,hg1⟩: ∃g1,Heap.mk hq.next h3.floor hq.get=g1:=⟨_,rfl⟩
 have oB1:On h3 g1:=by rw[←hg1];exact ⟨⟨oB.ext.1,oB.ext.2⟩,rfl⟩
 have uB1:SlR 11 (Fl Account.enc) g1 yb (doBook s.shards[i].book.list ⟨qe,2,qi,qa,qt⟩).1 fb:=by rw[←hg1];exact uB.up (Fl.ok _) h3.floor
 have ndB:fb.Nodup:=by
  rcases dB with d | ⟨_,d⟩
  ·exact d.nd
  ·rw[d];exact wb.nodup
 obtain ⟨g2,fqs,rows2,st,og2,fq2,w2,u2,hg2,hr2⟩:=fin g1 yb _ fb oB1 uB1 ndB (by
  rcases dB with d | ⟨_,d⟩
  ·exact .inl ⟨d.lo,d.nd⟩
  ·exact .inr d)
 cases cA:(s.shards[i].epoch !=qe) with
 | true=>
   have cA':(s.shards[i].epoch==qe)=false:=by simpa using cA
   have hR:refuse s.shards[i] ⟨qe,2,qi,qa,qt⟩=9:=by simp[refuse,inR,Request.ends,Request.fin,cA']
   rw[hR]
   simp only[show ((9:Int)==0)=false from rfl,cond_false]
   simp only[rn,RO.dst,lk,drop,Nat.reduceBEq,Nat.reduceAdd,Nat.reduceLeDiff,↓reduceIte,reduceCtorEq,Int.reduceLT,Int.reduceLE,Int.reduceGT,Int.reduceGE,Int.reduceBEq,Int.reduceBNe,Int.reduceEq,Int.reduceNe,Int.reduceNeg,l1,l2,l3,e1,e2,e3,hyi,hld,eC,hlen,g0,cA]
   exact ⟨_,_,_,rfl,o13,⟨y,_,rfl,rfl,w⟩,f1⟩
 | false=>
 have cA':(s.shards[i].epoch==qe)=true:=by simpa using cA
 cases cB:(s.shards[i].state==1) with
 | true=>
   have hR:refuse s.shards[i] ⟨qe,2,qi,qa,qt⟩=10:=by simp[refuse,inR,Request.ends,Request.fin,cA',cB]
   rw[hR]
   simp only[show ((10:Int)==0)=false from rfl,cond_false]
   simp only[rn,RO.dst,lk,drop,Nat.reduceBEq,Nat.reduceAdd,Nat.reduceLeDiff,↓reduceIte,reduceCtorEq,Int.reduceLT,Int.reduceLE,Int.reduceGT,Int.reduceGE,Int.reduceBEq,Int.reduceBNe,Int.reduceEq,Int.reduceNe,Int.reduceNeg,l1,l2,l3,e1,e2,e3,hyi,hld,eC,hlen,g0,cA,cB]
   exact ⟨_,_,_,rfl,o13,⟨y,_,rfl,rfl,w⟩,f1⟩
 | false=>
 have hR:refuse s.shards[i] ⟨qe,2,qi,qa,qt⟩=0:=by simp[refuse,inR,Request.ends,Request.fin,cA',cB]
 rw[hR]
 simp only[beq_self_eq_true,cond_true]
 have hS:doShard s.shards[i] ⟨qe,2,qi,qa,qt⟩={s.shards[i] with book:=⟨(doBook s.shards[i].book.list ⟨qe,2,qi,qa,qt⟩).1⟩}:=by simp[doShard,Request.ends,Request.fin,cA',cB]
 rw[hS]
 have eA:=accountOf_run (Z:=Z) k.i10 u2 qi
 rcases val_cases (a:=qi) (doBook_srt hbk ⟨qe,2,qi,qa,qt⟩) with ⟨v1,v2⟩ | ⟨v1,v2,v3,v4⟩ | ⟨v1,j,v2,v3,v4,v5,v6⟩
 ·have v1':((doBook s.shards[i].book.list ⟨qe,2,qi,qa,qt⟩).2==0)=false:=by simpa using v1
  rw[v2]
  simp only[rn,RO.dst,lk,drop,Nat.reduceBEq,Nat.reduceAdd,Nat.reduceLeDiff,↓reduceIte,reduceCtorEq,Int.reduceLT,Int.reduceLE,Int.reduceGT,Int.reduceGE,Int.reduceBEq,Int.reduceBNe,Int.reduceEq,Int.reduceNe,Int.reduceNeg,l1,l2,l3,e1,e2,e3,hyi,hld,eC,hlen,g0,cA,cB,eB,hg1,st,eA,v1']
  exact ⟨_,_,_,rfl,og2,⟨y,_,rfl,rfl,w2⟩,fq2⟩
 ·have v1':((doBook s.shards[i].book.list ⟨qe,2,qi,qa,qt⟩).2==0)=true:=by simpa using v1
  rw[v4]
  rw[v2] at eA
  simp only[rn,RO.dst,lk,drop,Nat.reduceBEq,Nat.reduceAdd,Nat.reduceLeDiff,↓reduceIte,reduceCtorEq,Int.reduceLT,Int.reduceLE,Int.reduceGT,Int.reduceGE,Int.reduceBEq,Int.reduceBNe,Int.reduceEq,Int.reduceNe,Int.reduceNeg,l1,l2,l3,e1,e2,e3,hyi,hld,eC,hlen,g0,cA,cB,eB,hg1,st,eA,v1']
  exact ⟨_,_,_,rfl,og2,⟨y,_,rfl,rfl,w2⟩,fq2⟩
 ·have v1':((doBook s.shards[i].book.list ⟨qe,2,qi,qa,qt⟩).2==0)=true:=by simpa using v1
  rw[v6,Account.at_get v5]
  rw[v2,v3] at eA
  have hx:=u2.idx v5
  have hl:=u2.load v5
  simp only[Account.enc] at hl
  simp only[rn,RO.dst,lk,drop,Nat.reduceBEq,Nat.reduceAdd,Nat.reduceLeDiff,↓reduceIte,reduceCtorEq,Int.reduceLT,Int.reduceLE,Int.reduceGT,Int.reduceGE,Int.reduceBEq,Int.reduceBNe,Int.reduceEq,Int.reduceNe,Int.reduceNeg,l1,l2,l3,e1,e2,e3,hyi,hld,eC,hlen,g0,cA,cB,eB,hg1,st,eA,v1',hx,hl]
  exact ⟨_,_,_,rfl,og2,⟨y,_,rfl,rfl,w2⟩,fq2⟩
end
end Go.Proofs.YtahkgghifaodoaaGreat.A
namespace Go.Proofs.YtahkgghifaodoaaGreat.A
open Go
set_option linter.unusedSimpArgs false
set_option linter.unusedVariables false
section
variable {F:Nat→Option RF} {Z:CallF} {h:Heap} {cs:List Cell} {fp:List Nat} {s:Store}
set_option maxHeartbeats 4000000 in
set_option maxRecDepth 8000 in
theorem do_op3 (k:KI F) (hL:Has F tLibslicesIndexFuncimplShardimplShard) (pri:PrimAt F Z 343 (insF 11 40)) (prd:PrimAt F Z 348 (delF 11)) (prs:PrimAt F Z 375 (sortF 9 267)) (hf:h.floor≤h.next) (v:Store.RI h cs s fp) (qe qi qa qt:Int) (okq:(⟨qe,3,qi,qa,qt⟩:Request).Ok) (ok:s.Ok) (sm:s.Small):
 DoStoreAt F Z h cs s ⟨qe,3,qi,qa,qt⟩:=by
 unfold DoStoreAt
 obtain ⟨l1,l2,l3⟩:=Store.lenI v
 obtain ⟨cs1,h1,fr,e1,o1,v1,f1⟩:=copyStore_c (Z:=Z) k hf v sm
 obtain ⟨h2,e2,o2⟩:=isStore_run (Z:=Z) k (Store.okI.on v o1) ok
 obtain ⟨h3,e3,o3⟩:=shardWith_on (Z:=Z) k.i13 hL (Store.okI.on (Store.okI.on v o1) o2) qi
 have o12:=o1.trans o2
 have o13:=o12.trans o3
 obtain ⟨y,p,rfl,hp,w12⟩:=Store.okI.on v1 o2
 subst hp
 have w:=w12.on Shard.okI o3
 rw[call_run F Z (k.i13.lk (g:=387) rfl) _ _ rfl]
 simp only[Request.enc]
 cases hg:s.good with
 | false=>
   rw[hg] at e2
   rw[dost_bad (by simp[hg])]
   simp only[rn,RO.dst,lk,drop,Nat.reduceBEq,Nat.reduceAdd,Nat.reduceLeDiff,↓reduceIte,reduceCtorEq,Int.reduceLT,Int.reduceLE,Int.reduceGT,Int.reduceGE,Int.reduceBEq,Int.reduceBNe,Int.reduceEq,Int.reduceNe,Int.reduceNeg,l1,l2,l3,e1,e2]
   exact ⟨_,_,_,rfl,o12,⟨y,_,rfl,rfl,w12⟩,f1⟩
 | true=>
 rw[hg] at e2
 have hin:(s.good&&inR (⟨qe,3,qi,qa,qt⟩:Request).op 0 8)=true:=by rw[hg];rfl
 have v3:=Store.okI.on v o13
 obtain ⟨x,p,rfl,hp,wx⟩:=v3
 subst hp
 rcases wx.found (fun t=>decide (t.lo≤qi)&&decide (qi≤t.hi)) with q | ⟨i,q,hi,hpi,_⟩
 ·change findId s.shards qi= -1 at q
  rw[dost_away hin q]
  rw[q] at e3
  simp only[rn,RO.dst,lk,drop,Nat.reduceBEq,Nat.reduceAdd,Nat.reduceLeDiff,↓reduceIte,reduceCtorEq,Int.reduceLT,Int.reduceLE,Int.reduceGT,Int.reduceGE,Int.reduceBEq,Int.reduceBNe,Int.reduceEq,Int.reduceNe,Int.reduceNeg,l1,l2,l3,e1,e2,e3]
  exact ⟨_,_,_,rfl,o13,⟨y,_,rfl,rfl,w⟩,f1⟩
 change findId s.shards qi=(i:Int) at q
 rw[q] at e3
 rw[dost_at hin q,Shard.at_get hi]
 have g0: ¬(i:Int)<0:=by omega
 have hyi:=w.idx hi
 have okX:=ok.shards _ (List.getElem_mem hi)
 have smX:=sm.2 _ (List.getElem_mem hi)
 have smf:s.shards[i].finished.length≤1048576:=smX.2
 have smb:s.shards[i].book.list.length≤1048576:=smX.1
 have hbk:bookOk s.shards[i].book.list=true:=by
  have:=Store.fit_at hg hi
  simp only[Store.fits,Bool.and_eq_true,Shard.at_get hi,Shard.good,Shard.head] at this
  exact this.1.1.2.2.2.1
 obtain ⟨xb,xf,pb,pf,rows,hgr,hrr,wb,wf,fin⟩:=row_book o13 hf w f1 hi
 have hld:=fun j n=>loadP_row hgr hrr j n
 have eC:=containsFin_run (F:=F) (Z:=Z) k.li k.lc (wf.up (Fl.ok _) h3.next) ⟨qt,qi⟩
 simp only[Fin.enc] at eC
 have hlen:=wf.len
 obtain ⟨yb,hq,fb,eB,oB,uB,dB⟩:=doBook_c (Z:=Z) (h:=⟨h3.next,h3.next,h3.get⟩) k.i10 k.i13 pri prd (Nat.le_refl _) (wb.up (Fl.ok _) h3.next) ⟨qe,3,qi,qa,qt⟩ okq okX.book.list smb hbk
 simp only[Request.enc] at eB
 obtain ⟨g1,hg1⟩: ∃g1,Heap.mk hq.next h3.floor hq.get=g1:=⟨_,rfl⟩
 have oB1:On h3 g1:=by rw[←hg1];exact ⟨⟨oB.ext.1,oB.ext.2⟩,rfl⟩
 have uB1:SlR 11 (Fl Account.enc) g1 yb (doBook s.shards[i].book.list ⟨qe,3,qi,qa,qt⟩).1 fb:=by rw[←hg1];exact uB.up (Fl.ok _) h3.floor
 have ndB:fb.Nodup:=by
  rcases dB with d | ⟨_,d⟩
  ·exact d.nd
  ·rw[d];exact wb.nodup
 obtain ⟨g2,fqs,rows2,st,og2,fq2,w2,u2,hg2,hr2⟩:=fin g1 yb _ fb oB1 uB1 ndB (by
  rcases dB with d | ⟨_,d⟩
  ·exact .inl ⟨d.lo,d.nd⟩
  ·exact .inr d)
 cases cA:(s.shards[i].epoch !=qe) with
 | true=>
   have cA':(s.shards[i].epoch==qe)=false:=by simpa using cA
   have hR:refuse s.shards[i] ⟨qe,3,qi,qa,qt⟩=9:=by simp[refuse,inR,Request.ends,Request.fin,cA']
   rw[hR]
   simp only[show ((9:Int)==0)=false from rfl,cond_false]
   simp only[rn,RO.dst,lk,drop,Nat.reduceBEq,Nat.reduceAdd,Nat.reduceLeDiff,↓reduceIte,reduceCtorEq,Int.reduceLT,Int.reduceLE,Int.reduceGT,Int.reduceGE,Int.reduceBEq,Int.reduceBNe,Int.reduceEq,Int.reduceNe,Int.reduceNeg,l1,l2,l3,e1,e2,e3,hyi,hld,eC,hlen,g0,cA]
   exact ⟨_,_,_,rfl,o13,⟨y,_,rfl,rfl,w⟩,f1⟩
 | false=>
 have cA':(s.shards[i].epoch==qe)=true:=by simpa using cA
 cases cB:(s.shards[i].state==1) with
 | true=>
   have hR:refuse s.shards[i] ⟨qe,3,qi,qa,qt⟩=10:=by simp[refuse,inR,Request.ends,Request.fin,cA',cB]
   rw[hR]
   simp only[show ((10:Int)==0)=false from rfl,cond_false]
   simp only[rn,RO.dst,lk,drop,Nat.reduceBEq,Nat.reduceAdd,Nat.reduceLeDiff,↓reduceIte,reduceCtorEq,Int.reduceLT,Int.reduceLE,Int.reduceGT,Int.reduceGE,Int.reduceBEq,Int.reduceBNe,Int.reduceEq,Int.reduceNe,Int.reduceNeg,l1,l2,l3,e1,e2,e3,hyi,hld,eC,hlen,g0,cA,cB]
   exact ⟨_,_,_,rfl,o13,⟨y,_,rfl,rfl,w⟩,f1⟩
 | false=>
 have hR:refuse s.shards[i] ⟨qe,3,qi,qa,qt⟩=0:=by simp[refuse,inR,Request.ends,Request.fin,cA',cB]
 rw[hR]
 simp only[beq_self_eq_true,cond_true]
 have hS:doShard s.shards[i] ⟨qe,3,qi,qa,qt⟩={s.shards[i] with book:=⟨(doBook s.shards[i].book.list ⟨qe,3,qi,qa,qt⟩).1⟩}:=by simp[doShard,Request.ends,Request.fin,cA',cB]
 rw[hS]
 have eA:=accountOf_run (Z:=Z) k.i10 u2 qi
 rcases val_cases (a:=qi) (doBook_srt hbk ⟨qe,3,qi,qa,qt⟩) with ⟨v1,v2⟩ | ⟨v1,v2,v3,v4⟩ | ⟨v1,j,v2,v3,v4,v5,v6⟩
 ·have v1':((doBook s.shards[i].book.list ⟨qe,3,qi,qa,qt⟩).2==0)=false:=by simpa using v1
  rw[v2]
  simp only[rn,RO.dst,lk,drop,Nat.reduceBEq,Nat.reduceAdd,Nat.reduceLeDiff,↓reduceIte,reduceCtorEq,Int.reduceLT,Int.reduceLE,Int.reduceGT,Int.reduceGE,Int.reduceBEq,Int.reduceBNe,Int.reduceEq,Int.reduceNe,Int.reduceNeg,l1,l2,l3,e1,e2,e3,hyi,hld,eC,hlen,g0,cA,cB,eB,hg1,st,eA,v1']
  exact ⟨_,_,_,rfl,og2,⟨y,_,rfl,rfl,w2⟩,fq2⟩
 ·have v1':((doBook s.shards[i].book.list ⟨qe,3,qi,qa,qt⟩).2==0)=true:=by simpa using v1
  rw[v4]
  rw[v2] at eA
  simp only[rn,RO.dst,lk,drop,Nat.reduceBEq,Nat.reduceAdd,Nat.reduceLeDiff,↓reduceIte,reduceCtorEq,Int.reduceLT,Int.reduceLE,Int.reduceGT,Int.reduceGE,Int.reduceBEq,Int.reduceBNe,Int.reduceEq,Int.reduceNe,Int.reduceNeg,l1,l2,l3,e1,e2,e3,hyi,hld,eC,hlen,g0,cA,cB,eB,hg1,st,eA,v1']
  exact ⟨_,_,_,rfl,og2,⟨y,_,rfl,rfl,w2⟩,fq2⟩
 ·have v1':((doBook s.shards[i].book.list ⟨qe,3,qi,qa,qt⟩).2==0)=true:=by simpa using v1
  rw[v6,Account.at_get v5]
  rw[v2,v3] at eA
  have hx:=u2.idx v5
  have hl:=u2.load v5
  simp only[Account.enc] at hl
  simp only[rn,RO.dst,lk,drop,Nat.reduceBEq,Nat.reduceAdd,Nat.reduceLeDiff,↓reduceIte,reduceCtorEq,Int.reduceLT,Int.reduceLE,Int.reduceGT,Int.reduceGE,Int.reduceBEq,Int.reduceBNe,Int.reduceEq,Int.reduceNe,Int.reduceNeg,l1,l2,l3,e1,e2,e3,hyi,hld,eC,hlen,g0,cA,cB,eB,hg1,st,eA,v1',hx,hl]
  exact ⟨_,_,_,rfl,og2,⟨y,_,rfl,rfl,w2⟩,fq2⟩
set_option maxHeartbeats 4000000 in
set_option maxRecDepth 8000 in
theorem do_op4 (k:KI F) (hL:Has F tLibslicesIndexFuncimplShardimplShard) (pri:PrimAt F Z 343 (insF 11 40)) (prd:PrimAt F Z 348 (delF 11)) (prs:PrimAt F Z 375 (sortF 9 267)) (hf:h.floor≤h.next) (v:Store.RI h cs s fp) (qe qi qa qt:Int) (okq:(⟨qe,4,qi,qa,qt⟩:Request).Ok) (ok:s.Ok) (sm:s.Small):
 DoStoreAt F Z h cs s ⟨qe,4,qi,qa,qt⟩:=by
 unfold DoStoreAt
 obtain ⟨l1,l2,l3⟩:=Store.lenI v
 obtain ⟨cs1,h1,fr,e1,o1,v1,f1⟩:=copyStore_c (Z:=Z) k hf v sm
 obtain ⟨h2,e2,o2⟩:=isStore_run (Z:=Z) k (Store.okI.on v o1) ok
 obtain ⟨h3,e3,o3⟩:=shardWith_on (Z:=Z) k.i13 hL (Store.okI.on (Store.okI.on v o1) o2) qi
 have o12:=o1.trans o2
 have o13:=o12.trans o3
 obtain ⟨y,p,rfl,hp,w12⟩:=Store.okI.on v1 o2
 subst hp
 have w:=w12.on Shard.okI o3
 rw[call_run F Z (k.i13.lk (g:=387) rfl) _ _ rfl]
 simp only[Request.enc]
 cases hg:s.good with
 | false=>
   rw[hg] at e2
   rw[dost_bad (by simp[hg])]
   simp only[rn,RO.dst,lk,drop,Nat.reduceBEq,Nat.reduceAdd,Nat.reduceLeDiff,↓reduceIte,reduceCtorEq,Int.reduceLT,Int.reduceLE,Int.reduceGT,Int.reduceGE,Int.reduceBEq,Int.reduceBNe,Int.reduceEq,Int.reduceNe,Int.reduceNeg,l1,l2,l3,e1,e2]
   exact ⟨_,_,_,rfl,o12,⟨y,_,rfl,rfl,w12⟩,f1⟩
 | true=>
 rw[hg] at e2
 have hin:(s.good&&inR (⟨qe,4,qi,qa,qt⟩:Request).op 0 8)=true:=by rw[hg];rfl
 have v3:=Store.okI.on v o13
 obtain ⟨x,p,rfl,hp,wx⟩:=v3
 subst hp
 rcases wx.found (fun t=>decide (t.lo≤qi)&&decide (qi≤t.hi)) with q | ⟨i,q,hi,hpi,_⟩
 ·change findId s.shards qi= -1 at q
  rw[dost_away hin q]
  rw[q] at e3
  simp only[rn,RO.dst,lk,drop,Nat.reduceBEq,Nat.reduceAdd,Nat.reduceLeDiff,↓reduceIte,reduceCtorEq,Int.reduceLT,Int.reduceLE,Int.reduceGT,Int.reduceGE,Int.reduceBEq,Int.reduceBNe,Int.reduceEq,Int.reduceNe,Int.reduceNeg,l1,l2,l3,e1,e2,e3]
  exact ⟨_,_,_,rfl,o13,⟨y,_,rfl,rfl,w⟩,f1⟩
 change findId s.shards qi=(i:Int) at q
 rw[q] at e3
 rw[dost_at hin q,Shard.at_get hi]
 have g0: ¬(i:Int)<0:=by omega
 have hyi:=w.idx hi
 have okX:=ok.shards _ (List.getElem_mem hi)
 have smX:=sm.2 _ (List.getElem_mem hi)
 have smf:s.shards[i].finished.length≤1048576:=smX.2
 have smb:s.shards[i].book.list.length≤1048576:=smX.1
 have hbk:bookOk s.shards[i].book.list=true:=by
  have:=Store.fit_at hg hi
  simp only[Store.fits,Bool.and_eq_true,Shard.at_get hi,Shard.good,Shard.head] at this
  exact this.1.1.2.2.2.1
 obtain ⟨xb,xf,pb,pf,rows,hgr,hrr,wb,wf,fin⟩:=row_book o13 hf w f1 hi
 have hld:=fun j n=>loadP_row hgr hrr j n
 have eC:=containsFin_run (F:=F) (Z:=Z) k.li k.lc (wf.up (Fl.ok _) h3.next) ⟨qt,qi⟩
 simp only[Fin.enc] at eC
 have hlen:=wf.len
 obtain ⟨yb,hq,fb,eB,oB,uB,dB⟩:=doBook_c (Z:=Z) (h:=⟨h3.next,h3.next,h3.get⟩) k.i10 k.i13 pri prd (Nat.le_refl _) (wb.up (Fl.ok _) h3.next) ⟨qe,4,qi,qa,qt⟩ okq okX.book.list smb hbk
 simp only[Request.enc] at eB
 obtain ⟨g1,hg1⟩: ∃g1,Heap.mk hq.next h3.floor hq.get=g1:=⟨_,rfl⟩
 have oB1:On h3 g1:=by rw[←hg1];exact ⟨⟨oB.ext.1,oB.ext.2⟩,rfl⟩
 have uB1:SlR 11 (Fl Account.enc) g1 yb (doBook s.shards[i].book.list ⟨qe,4,qi,qa,qt⟩).1 fb:=by rw[←hg1];exact uB.up (Fl.ok _) h3.floor
 have ndB:fb.Nodup:=by
  rcases dB with d | ⟨_,d⟩
  ·exact d.nd
  ·rw[d];exact wb.nodup
 obtain ⟨g2,fqs,rows2,st,og2,fq2,w2,u2,hg2,hr2⟩:=fin g1 yb _ fb oB1 uB1 ndB (by
  rcases dB with d | ⟨_,d⟩
  ·exact .inl ⟨d.lo,d.nd⟩
  ·exact .inr d)
 cases cA:(s.shards[i].epoch !=qe) with
 | true=>
   have cA':(s.shards[i].epoch==qe)=false:=by simpa using cA
   have hR:refuse s.shards[i] ⟨qe,4,qi,qa,qt⟩=9:=by simp[refuse,inR,Request.ends,Request.fin,cA']
   rw[hR]
   simp only[show ((9:Int)==0)=false from rfl,cond_false]
   simp only[rn,RO.dst,lk,drop,Nat.reduceBEq,Nat.reduceAdd,Nat.reduceLeDiff,↓reduceIte,reduceCtorEq,Int.reduceLT,Int.reduceLE,Int.reduceGT,Int.reduceGE,Int.reduceBEq,Int.reduceBNe,Int.reduceEq,Int.reduceNe,Int.reduceNeg,l1,l2,l3,e1,e2,e3,hyi,hld,eC,hlen,g0,cA]
   exact ⟨_,_,_,rfl,o13,⟨y,_,rfl,rfl,w⟩,f1⟩
 | false=>
 have cA':(s.shards[i].epoch==qe)=true:=by simpa using cA
 cases cB:(s.shards[i].state==1) with
 | true=>
   have hR:refuse s.shards[i] ⟨qe,4,qi,qa,qt⟩=10:=by simp[refuse,inR,Request.ends,Request.fin,cA',cB]
   rw[hR]
   simp only[show ((10:Int)==0)=false from rfl,cond_false]
   simp only[rn,RO.dst,lk,drop,Nat.reduceBEq,Nat.reduceAdd,Nat.reduceLeDiff,↓reduceIte,reduceCtorEq,Int.reduceLT,Int.reduceLE,Int.reduceGT,Int.reduceGE,Int.reduceBEq,Int.reduceBNe,Int.reduceEq,Int.reduceNe,Int.reduceNeg,l1,l2,l3,e1,e2,e3,hyi,hld,eC,hlen,g0,cA,cB]
   exact ⟨_,_,_,rfl,o13,⟨y,_,rfl,rfl,w⟩,f1⟩
 | false=>
 by_cases cC:qt<1
 ·have hR:refuse s.shards[i] ⟨qe,4,qi,qa,qt⟩=11:=by simp[refuse,inR,Request.ends,Request.fin,cA',cB,cC]
  rw[hR]
  simp only[show ((11:Int)==0)=false from rfl,cond_false]
  simp only[rn,RO.dst,lk,drop,Nat.reduceBEq,Nat.reduceAdd,Nat.reduceLeDiff,↓reduceIte,reduceCtorEq,Int.reduceLT,Int.reduceLE,Int.reduceGT,Int.reduceGE,Int.reduceBEq,Int.reduceBNe,Int.reduceEq,Int.reduceNe,Int.reduceNeg,l1,l2,l3,e1,e2,e3,hyi,hld,eC,hlen,g0,cA,cB,cC]
  exact ⟨_,_,_,rfl,o13,⟨y,_,rfl,rfl,w⟩,f1⟩
 cases cD:decide ((⟨qt,qi⟩:Fin)∈s.shards[i].finished) with
 | true=>
   have cD':(⟨qt,qi⟩:Fin)∈s.shards[i].finished:=of_decide_eq_true cD
   have hR:refuse s.shards[i] ⟨qe,4,qi,qa,qt⟩=12:=by simp[refuse,inR,Request.ends,Request.fin,cA',cB,cC,cD']
   rw[hR]
   simp only[show ((12:Int)==0)=false from rfl,cond_false]
   simp only[rn,RO.dst,lk,drop,Nat.reduceBEq,Nat.reduceAdd,Nat.reduceLeDiff,↓reduceIte,reduceCtorEq,Int.reduceLT,Int.reduceLE,Int.reduceGT,Int.reduceGE,Int.reduceBEq,Int.reduceBNe,Int.reduceEq,Int.reduceNe,Int.reduceNeg,l1,l2,l3,e1,e2,e3,hyi,hld,eC,hlen,g0,cA,cB,cC,cD]
   exact ⟨_,_,_,rfl,o13,⟨y,_,rfl,rfl,w⟩,f1⟩
 | false=>
 have cD': ¬(⟨qt,qi⟩:Fin)∈s.shards[i].finished:=of_decide_eq_false cD
 have hR:refuse s.shards[i] ⟨qe,4,qi,qa,qt⟩=0:=by simp[refuse,inR,Request.ends,Request.fin,cA',cB,cC,cD']
 rw[hR]
 simp only[beq_self_eq_true,cond_true]
 have hS:doShard s.shards[i] ⟨qe,4,qi,qa,qt⟩={s.shards[i] with book:=⟨(doBook s.shards[i].book.list ⟨qe,4,qi,qa,qt⟩).1⟩}:=by simp[doShard,Request.ends,Request.fin,cA',cB,cC,cD']
 rw[hS]
 have eA:=accountOf_run (Z:=Z) k.i10 u2 qi
 rcases val_cases (a:=qi) (doBook_srt hbk ⟨qe,4,qi,qa,qt⟩) with ⟨v1,v2⟩ | ⟨v1,v2,v3,v4⟩ | ⟨v1,j,v2,v3,v4,v5,v6⟩
 ·have v1':((doBook s.shards[i].book.list ⟨qe,4,qi,qa,qt⟩).2==0)=false:=by simpa using v1
  rw[v2]
  simp only[rn,RO.dst,lk,drop,Nat.reduceBEq,Nat.reduceAdd,Nat.reduceLeDiff,↓reduceIte,reduceCtorEq,Int.reduceLT,Int.reduceLE,Int.reduceGT,Int.reduceGE,Int.reduceBEq,Int.reduceBNe,Int.reduceEq,Int.reduceNe,Int.reduceNeg,l1,l2,l3,e1,e2,e3,hyi,hld,eC,hlen,g0,cA,cB,cC,cD,eB,hg1,st,eA,v1']
  exact ⟨_,_,_,rfl,og2,⟨y,_,rfl,rfl,w2⟩,fq2⟩
 ·have v1':((doBook s.shards[i].book.list ⟨qe,4,qi,qa,qt⟩).2==0)=true:=by simpa using v1
  rw[v4]
  rw[v2] at eA
  simp only[rn,RO.dst,lk,drop,Nat.reduceBEq,Nat.reduceAdd,Nat.reduceLeDiff,↓reduceIte,reduceCtorEq,Int.reduceLT,Int.reduceLE,Int.reduceGT,Int.reduceGE,Int.reduceBEq,Int.reduceBNe,Int.reduceEq,Int.reduceNe,Int.reduceNeg,l1,l2,l3,e1,e2,e3,hyi,hld,eC,hlen,g0,cA,cB,cC,cD,eB,hg1,st,eA,v1']
  exact ⟨_,_,_,rfl,og2,⟨y,_,rfl,rfl,w2⟩,fq2⟩
 ·have v1':((doBook s.shards[i].book.list ⟨qe,4,qi,qa,qt⟩).2==0)=true:=by simpa using v1
  rw[v6,Account.at_get v5]
  rw[v2,v3] at eA
  have hx:=u2.idx v5
  have hl:=u2.load v5
  simp only[Account.enc] at hl
  simp only[rn,RO.dst,lk,drop,Nat.reduceBEq,Nat.reduceAdd,Nat.reduceLeDiff,↓reduceIte,reduceCtorEq,Int.reduceLT,Int.reduceLE,Int.reduceGT,Int.reduceGE,Int.reduceBEq,Int.reduceBNe,Int.reduceEq,Int.reduceNe,Int.reduceNeg,l1,l2,l3,e1,e2,e3,hyi,hld,eC,hlen,g0,cA,cB,cC,cD,eB,hg1,st,eA,v1',hx,hl]
  exact ⟨_,_,_,rfl,og2,⟨y,_,rfl,rfl,w2⟩,fq2⟩
set_option maxHeartbeats 4000000 in
set_option maxRecDepth 8000 in
theorem do_op5 (k:KI F) (hL:Has F tLibslicesIndexFuncimplShardimplShard) (pri:PrimAt F Z 343 (insF 11 40)) (prd:PrimAt F Z 348 (delF 11)) (prs:PrimAt F Z 375 (sortF 9 267)) (hf:h.floor≤h.next) (v:Store.RI h cs s fp) (qe qi qa qt:Int) (okq:(⟨qe,5,qi,qa,qt⟩:Request).Ok) (ok:s.Ok) (sm:s.Small):
 DoStoreAt F Z h cs s ⟨qe,5,qi,qa,qt⟩:=by
 unfold DoStoreAt
 obtain ⟨l1,l2,l3⟩:=Store.lenI v
 obtain ⟨cs1,h1,fr,e1,o1,v1,f1⟩:=copyStore_c (Z:=Z) k hf v sm
 obtain ⟨h2,e2,o2⟩:=isStore_run (Z:=Z) k (Store.okI.on v o1) ok
 obtain ⟨h3,e3,o3⟩:=shardWith_on (Z:=Z) k.i13 hL (Store.okI.on (Store.okI.on v o1) o2) qi
 have o12:=o1.trans o2
 have o13:=o12.trans o3
 obtain ⟨y,p,rfl,hp,w12⟩:=Store.okI.on v1 o2
 subst hp
 have w:=w12.on Shard.okI o3
 rw[call_run F Z (k.i13.lk (g:=387) rfl) _ _ rfl]
 simp only[Request.enc]
 cases hg:s.good with
 | false=>
   rw[hg] at e2
   rw[dost_bad (by simp[hg])]
   simp only[rn,RO.dst,lk,drop,Nat.reduceBEq,Nat.reduceAdd,Nat.reduceLeDiff,↓reduceIte,reduceCtorEq,Int.reduceLT,Int.reduceLE,Int.reduceGT,Int.reduceGE,Int.reduceBEq,Int.reduceBNe,Int.reduceEq,Int.reduceNe,Int.reduceNeg,l1,l2,l3,e1,e2]
   exact ⟨_,_,_,rfl,o12,⟨y,_,rfl,rfl,w12⟩,f1⟩
 | true=>
 rw[hg] at e2
 have hin:(s.good&&inR (⟨qe,5,qi,qa,qt⟩:Request).op 0 8)=true:=by rw[hg];rfl
 have v3:=Store.okI.on v o13
 obtain ⟨x,p,rfl,hp,wx⟩:=v3
 subst hp
 rcases wx.found (fun t=>decide (t.lo≤qi)&&decide (qi≤t.hi)) with q | ⟨i,q,hi,hpi,_⟩
 ·change findId s.shards qi= -1 at q
  rw[dost_away hin q]
  rw[q] at e3
  simp only[rn,RO.dst,lk,drop,Nat.reduceBEq,Nat.reduceAdd,Nat.reduceLeDiff,↓reduceIte,reduceCtorEq,Int.reduceLT,Int.reduceLE,Int.reduceGT,Int.reduceGE,Int.reduceBEq,Int.reduceBNe,Int.reduceEq,Int.reduceNe,Int.reduceNeg,l1,l2,l3,e1,e2,e3]
  exact ⟨_,_,_,rfl,o13,⟨y,_,rfl,rfl,w⟩,f1⟩
 change findId s.shards qi=(i:Int) at q
 rw[q] at e3
 rw[dost_at hin q,Shard.at_get hi]
 have g0: ¬(i:Int)<0:=by omega
 have hyi:=w.idx hi
 have okX:=ok.shards _ (List.getElem_mem hi)
 have smX:=sm.2 _ (List.getElem_mem hi)
 have smf:s.shards[i].finished.length≤1048576:=smX.2
 have smb:s.shards[i].book.list.length≤1048576:=smX.1
 have hbk:bookOk s.shards[i].book.list=true:=by
  have:=Store.fit_at hg hi
  simp only[Store.fits,Bool.and_eq_true,Shard.at_get hi,Shard.good,Shard.head] at this
  exact this.1.1.2.2.2.1
 obtain ⟨xb,xf,pb,pf,rows,hgr,hrr,wb,wf,fin⟩:=row_book o13 hf w f1 hi
 have hld:=fun j n=>loadP_row hgr hrr j n
 have eC:=containsFin_run (F:=F) (Z:=Z) k.li k.lc (wf.up (Fl.ok _) h3.next) ⟨qt,qi⟩
 simp only[Fin.enc] at eC
 have hlen:=wf.len
 obtain ⟨yb,hq,fb,eB,oB,uB,dB⟩:=doBook_c (Z:=Z) (h:=⟨h3.next,h3.next,h3.get⟩) k.i10 k.i13 pri prd (Nat.le_refl _) (wb.up (Fl.ok _) h3.next) ⟨qe,5,qi,qa,qt⟩ okq okX.book.list smb hbk
 simp only[Request.enc] at eB
 obtain ⟨g1,hg1⟩: ∃g1,Heap.mk hq.next h3.floor hq.get=g1:=⟨_,rfl⟩
 have oB1:On h3 g1:=by rw[←hg1];exact ⟨⟨oB.ext.1,oB.ext.2⟩,rfl⟩
 have uB1:SlR 11 (Fl Account.enc) g1 yb (doBook s.shards[i].book.list ⟨qe,5,qi,qa,qt⟩).1 fb:=by rw[←hg1];exact uB.up (Fl.ok _) h3.floor
 have ndB:fb.Nodup:=by
  rcases dB with d | ⟨_,d⟩
  ·exact d.nd
  ·rw[d];exact wb.nodup
 obtain ⟨g2,fqs,rows2,st,og2,fq2,w2,u2,hg2,hr2⟩:=fin g1 yb _ fb oB1 uB1 ndB (by
  rcases dB with d | ⟨_,d⟩
  ·exact .inl ⟨d.lo,d.nd⟩
  ·exact .inr d)
 cases cA:(s.shards[i].epoch !=qe) with
 | true=>
   have cA':(s.shards[i].epoch==qe)=false:=by simpa using cA
   have hR:refuse s.shards[i] ⟨qe,5,qi,qa,qt⟩=9:=by simp[refuse,inR,Request.ends,Request.fin,cA']
   rw[hR]
   simp only[show ((9:Int)==0)=false from rfl,cond_false]
   simp only[rn,RO.dst,lk,drop,Nat.reduceBEq,Nat.reduceAdd,Nat.reduceLeDiff,↓reduceIte,reduceCtorEq,Int.reduceLT,Int.reduceLE,Int.reduceGT,Int.reduceGE,Int.reduceBEq,Int.reduceBNe,Int.reduceEq,Int.reduceNe,Int.reduceNeg,l1,l2,l3,e1,e2,e3,hyi,hld,eC,hlen,g0,cA]
   exact ⟨_,_,_,rfl,o13,⟨y,_,rfl,rfl,w⟩,f1⟩
 | false=>
 have cA':(s.shards[i].epoch==qe)=true:=by simpa using cA
 cases cB:(s.shards[i].state==1) with
 | true=>
   have hR:refuse s.shards[i] ⟨qe,5,qi,qa,qt⟩=10:=by simp[refuse,inR,Request.ends,Request.fin,cA',cB]
   rw[hR]
   simp only[show ((10:Int)==0)=false from rfl,cond_false]
   simp only[rn,RO.dst,lk,drop,Nat.reduceBEq,Nat.reduceAdd,Nat.reduceLeDiff,↓reduceIte,reduceCtorEq,Int.reduceLT,Int.reduceLE,Int.reduceGT,Int.reduceGE,Int.reduceBEq,Int.reduceBNe,Int.reduceEq,Int.reduceNe,Int.reduceNeg,l1,l2,l3,e1,e2,e3,hyi,hld,eC,hlen,g0,cA,cB]
   exact ⟨_,_,_,rfl,o13,⟨y,_,rfl,rfl,w⟩,f1⟩
 | false=>
 by_cases cC:qt<1
 ·have hR:refuse s.shards[i] ⟨qe,5,qi,qa,qt⟩=11:=by simp[refuse,inR,Request.ends,Request.fin,cA',cB,cC]
  rw[hR]
  simp only[show ((11:Int)==0)=false from rfl,cond_false]
  simp only[rn,RO.dst,lk,drop,Nat.reduceBEq,Nat.reduceAdd,Nat.reduceLeDiff,↓reduceIte,reduceCtorEq,Int.reduceLT,Int.reduceLE,Int.reduceGT,Int.reduceGE,Int.reduceBEq,Int.reduceBNe,Int.reduceEq,Int.reduceNe,Int.reduceNeg,l1,l2,l3,e1,e2,e3,hyi,hld,eC,hlen,g0,cA,cB,cC]
  exact ⟨_,_,_,rfl,o13,⟨y,_,rfl,rfl,w⟩,f1⟩
 cases cD:decide ((⟨qt,qi⟩:Fin)∈s.shards[i].finished) with
 | true=>
   have cD':(⟨qt,qi⟩:Fin)∈s.shards[i].finished:=of_decide_eq_true cD
   have hR:refuse s.shards[i] ⟨qe,5,qi,qa,qt⟩=12:=by simp[refuse,inR,Request.ends,Request.fin,cA',cB,cC,cD']
   rw[hR]
   simp only[show ((12:Int)==0)=false from rfl,cond_false]
   simp only[rn,RO.dst,lk,drop,Nat.reduceBEq,Nat.reduceAdd,Nat.reduceLeDiff,↓reduceIte,reduceCtorEq,Int.reduceLT,Int.reduceLE,Int.reduceGT,Int.reduceGE,Int.reduceBEq,Int.reduceBNe,Int.reduceEq,Int.reduceNe,Int.reduceNeg,l1,l2,l3,e1,e2,e3,hyi,hld,eC,hlen,g0,cA,cB,cC,cD]
   exact ⟨_,_,_,rfl,o13,⟨y,_,rfl,rfl,w⟩,f1⟩
 | false=>
 have cD': ¬(⟨qt,qi⟩:Fin)∈s.shards[i].finished:=of_decide_eq_false cD
 have hR:refuse s.shards[i] ⟨qe,5,qi,qa,qt⟩=0:=by simp[refuse,inR,Request.ends,Request.fin,cA',cB,cC,cD']
 rw[hR]
 simp only[beq_self_eq_true,cond_true]
 have hS:doShard s.shards[i] ⟨qe,5,qi,qa,qt⟩={s.shards[i] with book:=⟨(doBook s.shards[i].book.list ⟨qe,5,qi,qa,qt⟩).1⟩}:=by simp[doShard,Request.ends,Request.fin,cA',cB,cC,cD']
 rw[hS]
 have eA:=accountOf_run (Z:=Z) k.i10 u2 qi
 rcases val_cases (a:=qi) (doBook_srt hbk ⟨qe,5,qi,qa,qt⟩) with ⟨v1,v2⟩ | ⟨v1,v2,v3,v4⟩ | ⟨v1,j,v2,v3,v4,v5,v6⟩
 ·have v1':((doBook s.shards[i].book.list ⟨qe,5,qi,qa,qt⟩).2==0)=false:=by simpa using v1
  rw[v2]
  simp only[rn,RO.dst,lk,drop,Nat.reduceBEq,Nat.reduceAdd,Nat.reduceLeDiff,↓reduceIte,reduceCtorEq,Int.reduceLT,Int.reduceLE,Int.reduceGT,Int.reduceGE,Int.reduceBEq,Int.reduceBNe,Int.reduceEq,Int.reduceNe,Int.reduceNeg,l1,l2,l3,e1,e2,e3,hyi,hld,eC,hlen,g0,cA,cB,cC,cD,eB,hg1,st,eA,v1']
  exact ⟨_,_,_,rfl,og2,⟨y,_,rfl,rfl,w2⟩,fq2⟩
 ·have v1':((doBook s.shards[i].book.list ⟨qe,5,qi,qa,qt⟩).2==0)=true:=by simpa using v1
  rw[v4]
  rw[v2] at eA
  simp only[rn,RO.dst,lk,drop,Nat.reduceBEq,Nat.reduceAdd,Nat.reduceLeDiff,↓reduceIte,reduceCtorEq,Int.reduceLT,Int.reduceLE,Int.reduceGT,Int.reduceGE,Int.reduceBEq,Int.reduceBNe,Int.reduceEq,Int.reduceNe,Int.reduceNeg,l1,l2,l3,e1,e2,e3,hyi,hld,eC,hlen,g0,cA,cB,cC,cD,eB,hg1,st,eA,v1']
  exact ⟨_,_,_,rfl,og2,⟨y,_,rfl,rfl,w2⟩,fq2⟩
 ·have v1':((doBook s.shards[i].book.list ⟨qe,5,qi,qa,qt⟩).2==0)=true:=by simpa using v1
  rw[v6,Account.at_get v5]
  rw[v2,v3] at eA
  have hx:=u2.idx v5
  have hl:=u2.load v5
  simp only[Account.enc] at hl
  simp only[rn,RO.dst,lk,drop,Nat.reduceBEq,Nat.reduceAdd,Nat.reduceLeDiff,↓reduceIte,reduceCtorEq,Int.reduceLT,Int.reduceLE,Int.reduceGT,Int.reduceGE,Int.reduceBEq,Int.reduceBNe,Int.reduceEq,Int.reduceNe,Int.reduceNeg,l1,l2,l3,e1,e2,e3,hyi,hld,eC,hlen,g0,cA,cB,cC,cD,eB,hg1,st,eA,v1',hx,hl]
  exact ⟨_,_,_,rfl,og2,⟨y,_,rfl,rfl,w2⟩,fq2⟩
end
end Go.Proofs.YtahkgghifaodoaaGreat.A
namespace Go.Proofs.YtahkgghifaodoaaGreat.A
open Go
set_option linter.unusedSimpArgs false
set_option linter.unusedVariables false
section
variable {F:Nat→Option RF} {Z:CallF} {h:Heap} {cs:List Cell} {fp:List Nat} {s:Store}
set_option maxHeartbeats 4000000 in
set_option maxRecDepth 8000 in
theorem do_op6 (k:KI F) (hL:Has F tLibslicesIndexFuncimplShardimplShard) (pri:PrimAt F Z 343 (insF 11 40)) (prd:PrimAt F Z 348 (delF 11)) (prs:PrimAt F Z 375 (sortF 9 267)) (hf:h.floor≤h.next) (v:Store.RI h cs s fp) (qe qi qa qt:Int) (okq:(⟨qe,6,qi,qa,qt⟩:Request).Ok) (ok:s.Ok) (sm:s.Small):
 DoStoreAt F Z h cs s ⟨qe,6,qi,qa,qt⟩:=by
 unfold DoStoreAt
 obtain ⟨l1,l2,l3⟩:=Store.lenI v
 obtain ⟨cs1,h1,fr,e1,o1,v1,f1⟩:=copyStore_c (Z:=Z) k hf v sm
 obtain ⟨h2,e2,o2⟩:=isStore_run (Z:=Z) k (Store.okI.on v o1) ok
 obtain ⟨h3,e3,o3⟩:=shardWith_on (Z:=Z) k.i13 hL (Store.okI.on (Store.okI.on v o1) o2) qi
 have o12:=o1.trans o2
 have o13:=o12.trans o3
 obtain ⟨y,p,rfl,hp,w12⟩:=Store.okI.on v1 o2
 subst hp
 have w:=w12.on Shard.okI o3
 rw[call_run F Z (k.i13.lk (g:=387) rfl) _ _ rfl]
 simp only[Request.enc]
 cases hg:s.good with
 | false=>
   rw[hg] at e2
   rw[dost_bad (by simp[hg])]
   simp only[rn,RO.dst,lk,drop,Nat.reduceBEq,Nat.reduceAdd,Nat.reduceLeDiff,↓reduceIte,reduceCtorEq,Int.reduceLT,Int.reduceLE,Int.reduceGT,Int.reduceGE,Int.reduceBEq,Int.reduceBNe,Int.reduceEq,Int.reduceNe,Int.reduceNeg,l1,l2,l3,e1,e2]
   exact ⟨_,_,_,rfl,o12,⟨y,_,rfl,rfl,w12⟩,f1⟩
 | true=>
 rw[hg] at e2
 have hin:(s.good&&inR (⟨qe,6,qi,qa,qt⟩:Request).op 0 8)=true:=by rw[hg];rfl
 have v3:=Store.okI.on v o13
 obtain ⟨x,p,rfl,hp,wx⟩:=v3
 subst hp
 rcases wx.found (fun t=>decide (t.lo≤qi)&&decide (qi≤t.hi)) with q | ⟨i,q,hi,hpi,_⟩
 ·change findId s.shards qi= -1 at q
  rw[dost_away hin q]
  rw[q] at e3
  simp only[rn,RO.dst,lk,drop,Nat.reduceBEq,Nat.reduceAdd,Nat.reduceLeDiff,↓reduceIte,reduceCtorEq,Int.reduceLT,Int.reduceLE,Int.reduceGT,Int.reduceGE,Int.reduceBEq,Int.reduceBNe,Int.reduceEq,Int.reduceNe,Int.reduceNeg,l1,l2,l3,e1,e2,e3]
  exact ⟨_,_,_,rfl,o13,⟨y,_,rfl,rfl,w⟩,f1⟩
 change findId s.shards qi=(i:Int) at q
 rw[q] at e3
 rw[dost_at hin q,Shard.at_get hi]
 have g0: ¬(i:Int)<0:=by omega
 have hyi:=w.idx hi
 have okX:=ok.shards _ (List.getElem_mem hi)
 have smX:=sm.2 _ (List.getElem_mem hi)
 have smf:s.shards[i].finished.length≤1048576:=smX.2
 have smb:s.shards[i].book.list.length≤1048576:=smX.1
 have hbk:bookOk s.shards[i].book.list=true:=by
  have:=Store.fit_at hg hi
  simp only[Store.fits,Bool.and_eq_true,Shard.at_get hi,Shard.good,Shard.head] at this
  exact this.1.1.2.2.2.1
 obtain ⟨xb,xf,pb,pf,rows,hgr,hrr,wb,wf,fin⟩:=row_book o13 hf w f1 hi
 have hld:=fun j n=>loadP_row hgr hrr j n
 have eC:=containsFin_run (F:=F) (Z:=Z) k.li k.lc (wf.up (Fl.ok _) h3.next) ⟨qt,qi⟩
 simp only[Fin.enc] at eC
 have hlen:=wf.len
 obtain ⟨yb,hq,fb,eB,oB,uB,dB⟩:=doBook_c (Z:=Z) (h:=⟨h3.next,h3.next,h3.get⟩) k.i10 k.i13 pri prd (Nat.le_refl _) (wb.up (Fl.ok _) h3.next) ⟨qe,6,qi,qa,qt⟩ okq okX.book.list smb hbk
 simp only[Request.enc] at eB
 obtain ⟨g1,hg1⟩: ∃g1,Heap.mk hq.next h3.floor hq.get=g1:=⟨_,rfl⟩
 have oB1:On h3 g1:=by rw[←hg1];exact ⟨⟨oB.ext.1,oB.ext.2⟩,rfl⟩
 have uB1:SlR 11 (Fl Account.enc) g1 yb (doBook s.shards[i].book.list ⟨qe,6,qi,qa,qt⟩).1 fb:=by rw[←hg1];exact uB.up (Fl.ok _) h3.floor
 have ndB:fb.Nodup:=by
  rcases dB with d | ⟨_,d⟩
  ·exact d.nd
  ·rw[d];exact wb.nodup
 obtain ⟨g2,fqs,rows2,st,og2,fq2,w2,u2,hg2,hr2⟩:=fin g1 yb _ fb oB1 uB1 ndB (by
  rcases dB with d | ⟨_,d⟩
  ·exact .inl ⟨d.lo,d.nd⟩
  ·exact .inr d)
 cases cA:(s.shards[i].epoch !=qe) with
 | true=>
   have cA':(s.shards[i].epoch==qe)=false:=by simpa using cA
   have hR:refuse s.shards[i] ⟨qe,6,qi,qa,qt⟩=9:=by simp[refuse,inR,Request.ends,Request.fin,cA']
   rw[hR]
   simp only[show ((9:Int)==0)=false from rfl,cond_false]
   simp only[rn,RO.dst,lk,drop,Nat.reduceBEq,Nat.reduceAdd,Nat.reduceLeDiff,↓reduceIte,reduceCtorEq,Int.reduceLT,Int.reduceLE,Int.reduceGT,Int.reduceGE,Int.reduceBEq,Int.reduceBNe,Int.reduceEq,Int.reduceNe,Int.reduceNeg,l1,l2,l3,e1,e2,e3,hyi,hld,eC,hlen,g0,cA]
   exact ⟨_,_,_,rfl,o13,⟨y,_,rfl,rfl,w⟩,f1⟩
 | false=>
 have cA':(s.shards[i].epoch==qe)=true:=by simpa using cA
 cases cB:(s.shards[i].state==1) with
 | true=>
   have hR:refuse s.shards[i] ⟨qe,6,qi,qa,qt⟩=10:=by simp[refuse,inR,Request.ends,Request.fin,cA',cB]
   rw[hR]
   simp only[show ((10:Int)==0)=false from rfl,cond_false]
   simp only[rn,RO.dst,lk,drop,Nat.reduceBEq,Nat.reduceAdd,Nat.reduceLeDiff,↓reduceIte,reduceCtorEq,Int.reduceLT,Int.reduceLE,Int.reduceGT,Int.reduceGE,Int.reduceBEq,Int.reduceBNe,Int.reduceEq,Int.reduceNe,Int.reduceNeg,l1,l2,l3,e1,e2,e3,hyi,hld,eC,hlen,g0,cA,cB]
   exact ⟨_,_,_,rfl,o13,⟨y,_,rfl,rfl,w⟩,f1⟩
 | false=>
 by_cases cC:qt<1
 ·have hR:refuse s.shards[i] ⟨qe,6,qi,qa,qt⟩=11:=by simp[refuse,inR,Request.ends,Request.fin,cA',cB,cC]
  rw[hR]
  simp only[show ((11:Int)==0)=false from rfl,cond_false]
  simp only[rn,RO.dst,lk,drop,Nat.reduceBEq,Nat.reduceAdd,Nat.reduceLeDiff,↓reduceIte,reduceCtorEq,Int.reduceLT,Int.reduceLE,Int.reduceGT,Int.reduceGE,Int.reduceBEq,Int.reduceBNe,Int.reduceEq,Int.reduceNe,Int.reduceNeg,l1,l2,l3,e1,e2,e3,hyi,hld,eC,hlen,g0,cA,cB,cC]
  exact ⟨_,_,_,rfl,o13,⟨y,_,rfl,rfl,w⟩,f1⟩
 cases cD:decide ((⟨qt,qi⟩:Fin)∈s.shards[i].finished) with
 | true=>
   have cD':(⟨qt,qi⟩:Fin)∈s.shards[i].finished:=of_decide_eq_true cD
   have hR:refuse s.shards[i] ⟨qe,6,qi,qa,qt⟩=0:=by simp[refuse,inR,Request.ends,Request.fin,cA',cB,cC,cD']
   rw[hR]
   simp only[beq_self_eq_true,cond_true]
   have hS:doShard s.shards[i] ⟨qe,6,qi,qa,qt⟩={s.shards[i] with book:=⟨(doBook s.shards[i].book.list ⟨qe,6,qi,qa,qt⟩).1⟩}:=by simp[doShard,Request.ends,Request.fin,cA',cB,cC,cD']
   rw[hS]
   have eA:=accountOf_run (Z:=Z) k.i10 u2 qi
   rcases val_cases (a:=qi) (doBook_srt hbk ⟨qe,6,qi,qa,qt⟩) with ⟨v1,v2⟩ | ⟨v1,v2,v3,v4⟩ | ⟨v1,j,v2,v3,v4,v5,v6⟩
   ·have v1':((doBook s.shards[i].book.list ⟨qe,6,qi,qa,qt⟩).2==0)=false:=by simpa using v1
    rw[v2]
    simp only[rn,RO.dst,lk,drop,Nat.reduceBEq,Nat.reduceAdd,Nat.reduceLeDiff,↓reduceIte,reduceCtorEq,Int.reduceLT,Int.reduceLE,Int.reduceGT,Int.reduceGE,Int.reduceBEq,Int.reduceBNe,Int.reduceEq,Int.reduceNe,Int.reduceNeg,l1,l2,l3,e1,e2,e3,hyi,hld,eC,hlen,g0,cA,cB,cC,cD,eB,hg1,st,eA,v1']
    exact ⟨_,_,_,rfl,og2,⟨y,_,rfl,rfl,w2⟩,fq2⟩
   ·have v1':((doBook s.shards[i].book.list ⟨qe,6,qi,qa,qt⟩).2==0)=true:=by simpa using v1
    rw[v4]
    rw[v2] at eA
    simp only[rn,RO.dst,lk,drop,Nat.reduceBEq,Nat.reduceAdd,Nat.reduceLeDiff,↓reduceIte,reduceCtorEq,Int.reduceLT,Int.reduceLE,Int.reduceGT,Int.reduceGE,Int.reduceBEq,Int.reduceBNe,Int.reduceEq,Int.reduceNe,Int.reduceNeg,l1,l2,l3,e1,e2,e3,hyi,hld,eC,hlen,g0,cA,cB,cC,cD,eB,hg1,st,eA,v1']
    exact ⟨_,_,_,rfl,og2,⟨y,_,rfl,rfl,w2⟩,fq2⟩
   ·have v1':((doBook s.shards[i].book.list ⟨qe,6,qi,qa,qt⟩).2==0)=true:=by simpa using v1
    rw[v6,Account.at_get v5]
    rw[v2,v3] at eA
    have hx:=u2.idx v5
    have hl:=u2.load v5
    simp only[Account.enc] at hl
    simp only[rn,RO.dst,lk,drop,Nat.reduceBEq,Nat.reduceAdd,Nat.reduceLeDiff,↓reduceIte,reduceCtorEq,Int.reduceLT,Int.reduceLE,Int.reduceGT,Int.reduceGE,Int.reduceBEq,Int.reduceBNe,Int.reduceEq,Int.reduceNe,Int.reduceNeg,l1,l2,l3,e1,e2,e3,hyi,hld,eC,hlen,g0,cA,cB,cC,cD,eB,hg1,st,eA,v1',hx,hl]
    exact ⟨_,_,_,rfl,og2,⟨y,_,rfl,rfl,w2⟩,fq2⟩
 | false=>
 have cD': ¬(⟨qt,qi⟩:Fin)∈s.shards[i].finished:=of_decide_eq_false cD
 cases cE:((s.shards[i].finished.length:Int)==60) with
 | true=>
   have cE':(s.shards[i].finished.length:Int)=60:=by simpa using cE
   have hR:refuse s.shards[i] ⟨qe,6,qi,qa,qt⟩=13:=by simp[refuse,inR,Request.ends,Request.fin,cA',cB,cC,cD',cE]
   rw[hR]
   simp only[show ((13:Int)==0)=false from rfl,cond_false]
   simp only[rn,RO.dst,lk,drop,Nat.reduceBEq,Nat.reduceAdd,Nat.reduceLeDiff,↓reduceIte,reduceCtorEq,Int.reduceLT,Int.reduceLE,Int.reduceGT,Int.reduceGE,Int.reduceBEq,Int.reduceBNe,Int.reduceEq,Int.reduceNe,Int.reduceNeg,l1,l2,l3,e1,e2,e3,hyi,hld,eC,hlen,g0,cA,cB,cC,cD,cE]
   exact ⟨_,_,_,rfl,o13,⟨y,_,rfl,rfl,w⟩,f1⟩
 | false=>
 have cE': ¬(s.shards[i].finished.length:Int)=60:=by simpa using cE
 have hR:refuse s.shards[i] ⟨qe,6,qi,qa,qt⟩=0:=by simp[refuse,inR,Request.ends,Request.fin,cA',cB,cC,cD',cE]
 rw[hR]
 simp only[beq_self_eq_true,cond_true]
 have hS:doShard s.shards[i] ⟨qe,6,qi,qa,qt⟩={s.shards[i] with book:=⟨(doBook s.shards[i].book.list ⟨qe,6,qi,qa,qt⟩).1⟩,finished:=sortFins (s.shards[i].finished++[⟨qt,qi⟩])}:=by simp[doShard,Request.ends,Request.fin,cA',cB,cC,cD',cE]
 rw[hS]
 have hi2:i<(s.shards.set i {s.shards[i] with book:=⟨(doBook s.shards[i].book.list ⟨qe,6,qi,qa,qt⟩).1⟩}).length:=by rw[List.length_set];exact hi
 obtain ⟨xf',g3,g4,g5,fq3,fb3,a1,a2,a3,a4,og5,ff5,w5,u5⟩:=row_fin og2 hf w2 fq2 hi2 (by rw[List.getElem_set_self];exact smf) hg2 (by rw[List.getElem_set_self];exact hr2) ⟨qt,qi⟩
 simp only[List.getElem_set_self,List.set_set,Fin.enc] at a1 a3 w5 u5
 have hl2:=fun j n=>loadP_row hg2 hr2 j n
 have eA:=accountOf_run (Z:=Z) k.i10 u5 qi
 rcases val_cases (a:=qi) (doBook_srt hbk ⟨qe,6,qi,qa,qt⟩) with ⟨v1,v2⟩ | ⟨v1,v2,v3,v4⟩ | ⟨v1,j,v2,v3,v4,v5,v6⟩
 ·have v1':((doBook s.shards[i].book.list ⟨qe,6,qi,qa,qt⟩).2==0)=false:=by simpa using v1
  rw[v2]
  simp only[rn,RO.dst,lk,drop,Nat.reduceBEq,Nat.reduceAdd,Nat.reduceLeDiff,↓reduceIte,reduceCtorEq,Int.reduceLT,Int.reduceLE,Int.reduceGT,Int.reduceGE,Int.reduceBEq,Int.reduceBNe,Int.reduceEq,Int.reduceNe,Int.reduceNeg,l1,l2,l3,e1,e2,e3,hyi,hld,eC,hlen,g0,cA,cB,cC,cD,cE,eB,hg1,st,hl2,List.replicate_succ,List.replicate_zero,fills,and_self,Nat.zero_lt_one,List.set_cons_zero,a1,a2,a3,prs _ _,a4,eA,v1']
  exact ⟨_,_,_,rfl,og5,⟨y,_,rfl,rfl,w5⟩,ff5⟩
 ·have v1':((doBook s.shards[i].book.list ⟨qe,6,qi,qa,qt⟩).2==0)=true:=by simpa using v1
  rw[v4]
  rw[v2] at eA
  simp only[rn,RO.dst,lk,drop,Nat.reduceBEq,Nat.reduceAdd,Nat.reduceLeDiff,↓reduceIte,reduceCtorEq,Int.reduceLT,Int.reduceLE,Int.reduceGT,Int.reduceGE,Int.reduceBEq,Int.reduceBNe,Int.reduceEq,Int.reduceNe,Int.reduceNeg,l1,l2,l3,e1,e2,e3,hyi,hld,eC,hlen,g0,cA,cB,cC,cD,cE,eB,hg1,st,hl2,List.replicate_succ,List.replicate_zero,fills,and_self,Nat.zero_lt_one,List.set_cons_zero,a1,a2,a3,prs _ _,a4,eA,v1']
  exact ⟨_,_,_,rfl,og5,⟨y,_,rfl,rfl,w5⟩,ff5⟩
 ·have v1':((doBook s.shards[i].book.list ⟨qe,6,qi,qa,qt⟩).2==0)=true:=by simpa using v1
  rw[v6,Account.at_get v5]
  rw[v2,v3] at eA
  have hx:=u5.idx v5
  have hl:=u5.load v5
  simp only[Account.enc] at hl
  simp only[rn,RO.dst,lk,drop,Nat.reduceBEq,Nat.reduceAdd,Nat.reduceLeDiff,↓reduceIte,reduceCtorEq,Int.reduceLT,Int.reduceLE,Int.reduceGT,Int.reduceGE,Int.reduceBEq,Int.reduceBNe,Int.reduceEq,Int.reduceNe,Int.reduceNeg,l1,l2,l3,e1,e2,e3,hyi,hld,eC,hlen,g0,cA,cB,cC,cD,cE,eB,hg1,st,hl2,List.replicate_succ,List.replicate_zero,fills,and_self,Nat.zero_lt_one,List.set_cons_zero,a1,a2,a3,prs _ _,a4,eA,v1',hx,hl]
  exact ⟨_,_,_,rfl,og5,⟨y,_,rfl,rfl,w5⟩,ff5⟩
end
end Go.Proofs.YtahkgghifaodoaaGreat.A
namespace Go.Proofs.YtahkgghifaodoaaGreat.A
open Go
set_option linter.unusedSimpArgs false
set_option linter.unusedVariables false
section
variable {F:Nat→Option RF} {Z:CallF} {h:Heap} {cs:List Cell} {fp:List Nat} {s:Store}
set_option maxHeartbeats 4000000 in
set_option maxRecDepth 8000 in
theorem do_op7 (k:KI F) (hL:Has F tLibslicesIndexFuncimplShardimplShard) (pri:PrimAt F Z 343 (insF 11 40)) (prd:PrimAt F Z 348 (delF 11)) (prs:PrimAt F Z 375 (sortF 9 267)) (hf:h.floor≤h.next) (v:Store.RI h cs s fp) (qe qi qa qt:Int) (okq:(⟨qe,7,qi,qa,qt⟩:Request).Ok) (ok:s.Ok) (sm:s.Small):
 DoStoreAt F Z h cs s ⟨qe,7,qi,qa,qt⟩:=by
 unfold DoStoreAt
 obtain ⟨l1,l2,l3⟩:=Store.lenI v
 obtain ⟨cs1,h1,fr,e1,o1,v1,f1⟩:=copyStore_c (Z:=Z) k hf v sm
 obtain ⟨h2,e2,o2⟩:=isStore_run (Z:=Z) k (Store.okI.on v o1) ok
 obtain ⟨h3,e3,o3⟩:=shardWith_on (Z:=Z) k.i13 hL (Store.okI.on (Store.okI.on v o1) o2) qi
 have o12:=o1.trans o2
 have o13:=o12.trans o3
 obtain ⟨y,p,rfl,hp,w12⟩:=Store.okI.on v1 o2
 subst hp
 have w:=w12.on Shard.okI o3
 rw[call_run F Z (k.i13.lk (g:=387) rfl) _ _ rfl]
 simp only[Request.enc]
 cases hg:s.good with
 | false=>
   rw[hg] at e2
   rw[dost_bad (by simp[hg])]
   simp only[rn,RO.dst,lk,drop,Nat.reduceBEq,Nat.reduceAdd,Nat.reduceLeDiff,↓reduceIte,reduceCtorEq,Int.reduceLT,Int.reduceLE,Int.reduceGT,Int.reduceGE,Int.reduceBEq,Int.reduceBNe,Int.reduceEq,Int.reduceNe,Int.reduceNeg,l1,l2,l3,e1,e2]
   exact ⟨_,_,_,rfl,o12,⟨y,_,rfl,rfl,w12⟩,f1⟩
 | true=>
 rw[hg] at e2
 have hin:(s.good&&inR (⟨qe,7,qi,qa,qt⟩:Request).op 0 8)=true:=by rw[hg];rfl
 have v3:=Store.okI.on v o13
 obtain ⟨x,p,rfl,hp,wx⟩:=v3
 subst hp
 rcases wx.found (fun t=>decide (t.lo≤qi)&&decide (qi≤t.hi)) with q | ⟨i,q,hi,hpi,_⟩
 ·change findId s.shards qi= -1 at q
  rw[dost_away hin q]
  rw[q] at e3
  simp only[rn,RO.dst,lk,drop,Nat.reduceBEq,Nat.reduceAdd,Nat.reduceLeDiff,↓reduceIte,reduceCtorEq,Int.reduceLT,Int.reduceLE,Int.reduceGT,Int.reduceGE,Int.reduceBEq,Int.reduceBNe,Int.reduceEq,Int.reduceNe,Int.reduceNeg,l1,l2,l3,e1,e2,e3]
  exact ⟨_,_,_,rfl,o13,⟨y,_,rfl,rfl,w⟩,f1⟩
 change findId s.shards qi=(i:Int) at q
 rw[q] at e3
 rw[dost_at hin q,Shard.at_get hi]
 have g0: ¬(i:Int)<0:=by omega
 have hyi:=w.idx hi
 have okX:=ok.shards _ (List.getElem_mem hi)
 have smX:=sm.2 _ (List.getElem_mem hi)
 have smf:s.shards[i].finished.length≤1048576:=smX.2
 have smb:s.shards[i].book.list.length≤1048576:=smX.1
 have hbk:bookOk s.shards[i].book.list=true:=by
  have:=Store.fit_at hg hi
  simp only[Store.fits,Bool.and_eq_true,Shard.at_get hi,Shard.good,Shard.head] at this
  exact this.1.1.2.2.2.1
 obtain ⟨xb,xf,pb,pf,rows,hgr,hrr,wb,wf,fin⟩:=row_book o13 hf w f1 hi
 have hld:=fun j n=>loadP_row hgr hrr j n
 have eC:=containsFin_run (F:=F) (Z:=Z) k.li k.lc (wf.up (Fl.ok _) h3.next) ⟨qt,qi⟩
 simp only[Fin.enc] at eC
 have hlen:=wf.len
 obtain ⟨yb,hq,fb,eB,oB,uB,dB⟩:=doBook_c (Z:=Z) (h:=⟨h3.next,h3.next,h3.get⟩) k.i10 k.i13 pri prd (Nat.le_refl _) (wb.up (Fl.ok _) h3.next) ⟨qe,7,qi,qa,qt⟩ okq okX.book.list smb hbk
 simp only[Request.enc] at eB
 obtain ⟨g1,hg1⟩: ∃g1,Heap.mk hq.next h3.floor hq.get=g1:=⟨_,rfl⟩
 have oB1:On h3 g1:=by rw[←hg1];exact ⟨⟨oB.ext.1,oB.ext.2⟩,rfl⟩
 have uB1:SlR 11 (Fl Account.enc) g1 yb (doBook s.shards[i].book.list ⟨qe,7,qi,qa,qt⟩).1 fb:=by rw[←hg1];exact uB.up (Fl.ok _) h3.floor
 have ndB:fb.Nodup:=by
  rcases dB with d | ⟨_,d⟩
  ·exact d.nd
  ·rw[d];exact wb.nodup
 obtain ⟨g2,fqs,rows2,st,og2,fq2,w2,u2,hg2,hr2⟩:=fin g1 yb _ fb oB1 uB1 ndB (by
  rcases dB with d | ⟨_,d⟩
  ·exact .inl ⟨d.lo,d.nd⟩
  ·exact .inr d)
 cases cA:(s.shards[i].epoch !=qe) with
 | true=>
   have cA':(s.shards[i].epoch==qe)=false:=by simpa using cA
   have hR:refuse s.shards[i] ⟨qe,7,qi,qa,qt⟩=9:=by simp[refuse,inR,Request.ends,Request.fin,cA']
   rw[hR]
   simp only[show ((9:Int)==0)=false from rfl,cond_false]
   simp only[rn,RO.dst,lk,drop,Nat.reduceBEq,Nat.reduceAdd,Nat.reduceLeDiff,↓reduceIte,reduceCtorEq,Int.reduceLT,Int.reduceLE,Int.reduceGT,Int.reduceGE,Int.reduceBEq,Int.reduceBNe,Int.reduceEq,Int.reduceNe,Int.reduceNeg,l1,l2,l3,e1,e2,e3,hyi,hld,eC,hlen,g0,cA]
   exact ⟨_,_,_,rfl,o13,⟨y,_,rfl,rfl,w⟩,f1⟩
 | false=>
 have cA':(s.shards[i].epoch==qe)=true:=by simpa using cA
 cases cB:(s.shards[i].state==1) with
 | true=>
   have hR:refuse s.shards[i] ⟨qe,7,qi,qa,qt⟩=10:=by simp[refuse,inR,Request.ends,Request.fin,cA',cB]
   rw[hR]
   simp only[show ((10:Int)==0)=false from rfl,cond_false]
   simp only[rn,RO.dst,lk,drop,Nat.reduceBEq,Nat.reduceAdd,Nat.reduceLeDiff,↓reduceIte,reduceCtorEq,Int.reduceLT,Int.reduceLE,Int.reduceGT,Int.reduceGE,Int.reduceBEq,Int.reduceBNe,Int.reduceEq,Int.reduceNe,Int.reduceNeg,l1,l2,l3,e1,e2,e3,hyi,hld,eC,hlen,g0,cA,cB]
   exact ⟨_,_,_,rfl,o13,⟨y,_,rfl,rfl,w⟩,f1⟩
 | false=>
 by_cases cC:qt<1
 ·have hR:refuse s.shards[i] ⟨qe,7,qi,qa,qt⟩=11:=by simp[refuse,inR,Request.ends,Request.fin,cA',cB,cC]
  rw[hR]
  simp only[show ((11:Int)==0)=false from rfl,cond_false]
  simp only[rn,RO.dst,lk,drop,Nat.reduceBEq,Nat.reduceAdd,Nat.reduceLeDiff,↓reduceIte,reduceCtorEq,Int.reduceLT,Int.reduceLE,Int.reduceGT,Int.reduceGE,Int.reduceBEq,Int.reduceBNe,Int.reduceEq,Int.reduceNe,Int.reduceNeg,l1,l2,l3,e1,e2,e3,hyi,hld,eC,hlen,g0,cA,cB,cC]
  exact ⟨_,_,_,rfl,o13,⟨y,_,rfl,rfl,w⟩,f1⟩
 cases cD:decide ((⟨qt,qi⟩:Fin)∈s.shards[i].finished) with
 | true=>
   have cD':(⟨qt,qi⟩:Fin)∈s.shards[i].finished:=of_decide_eq_true cD
   have hR:refuse s.shards[i] ⟨qe,7,qi,qa,qt⟩=0:=by simp[refuse,inR,Request.ends,Request.fin,cA',cB,cC,cD']
   rw[hR]
   simp only[beq_self_eq_true,cond_true]
   have hS:doShard s.shards[i] ⟨qe,7,qi,qa,qt⟩={s.shards[i] with book:=⟨(doBook s.shards[i].book.list ⟨qe,7,qi,qa,qt⟩).1⟩}:=by simp[doShard,Request.ends,Request.fin,cA',cB,cC,cD']
   rw[hS]
   have eA:=accountOf_run (Z:=Z) k.i10 u2 qi
   rcases val_cases (a:=qi) (doBook_srt hbk ⟨qe,7,qi,qa,qt⟩) with ⟨v1,v2⟩ | ⟨v1,v2,v3,v4⟩ | ⟨v1,j,v2,v3,v4,v5,v6⟩
   ·have v1':((doBook s.shards[i].book.list ⟨qe,7,qi,qa,qt⟩).2==0)=false:=by simpa using v1
    rw[v2]
    simp only[rn,RO.dst,lk,drop,Nat.reduceBEq,Nat.reduceAdd,Nat.reduceLeDiff,↓reduceIte,reduceCtorEq,Int.reduceLT,Int.reduceLE,Int.reduceGT,Int.reduceGE,Int.reduceBEq,Int.reduceBNe,Int.reduceEq,Int.reduceNe,Int.reduceNeg,l1,l2,l3,e1,e2,e3,hyi,hld,eC,hlen,g0,cA,cB,cC,cD,eB,hg1,st,eA,v1']
    exact ⟨_,_,_,rfl,og2,⟨y,_,rfl,rfl,w2⟩,fq2⟩
   ·have v1':((doBook s.shards[i].book.list ⟨qe,7,qi,qa,qt⟩).2==0)=true:=by simpa using v1
    rw[v4]
    rw[v2] at eA
    simp only[rn,RO.dst,lk,drop,Nat.reduceBEq,Nat.reduceAdd,Nat.reduceLeDiff,↓reduceIte,reduceCtorEq,Int.reduceLT,Int.reduceLE,Int.reduceGT,Int.reduceGE,Int.reduceBEq,Int.reduceBNe,Int.reduceEq,Int.reduceNe,Int.reduceNeg,l1,l2,l3,e1,e2,e3,hyi,hld,eC,hlen,g0,cA,cB,cC,cD,eB,hg1,st,eA,v1']
    exact ⟨_,_,_,rfl,og2,⟨y,_,rfl,rfl,w2⟩,fq2⟩
   ·have v1':((doBook s.shards[i].book.list ⟨qe,7,qi,qa,qt⟩).2==0)=true:=by simpa using v1
    rw[v6,Account.at_get v5]
    rw[v2,v3] at eA
    have hx:=u2.idx v5
    have hl:=u2.load v5
    simp only[Account.enc] at hl
    simp only[rn,RO.dst,lk,drop,Nat.reduceBEq,Nat.reduceAdd,Nat.reduceLeDiff,↓reduceIte,reduceCtorEq,Int.reduceLT,Int.reduceLE,Int.reduceGT,Int.reduceGE,Int.reduceBEq,Int.reduceBNe,Int.reduceEq,Int.reduceNe,Int.reduceNeg,l1,l2,l3,e1,e2,e3,hyi,hld,eC,hlen,g0,cA,cB,cC,cD,eB,hg1,st,eA,v1',hx,hl]
    exact ⟨_,_,_,rfl,og2,⟨y,_,rfl,rfl,w2⟩,fq2⟩
 | false=>
 have cD': ¬(⟨qt,qi⟩:Fin)∈s.shards[i].finished:=of_decide_eq_false cD
 cases cE:((s.shards[i].finished.length:Int)==60) with
 | true=>
   have cE':(s.shards[i].finished.length:Int)=60:=by simpa using cE
   have hR:refuse s.shards[i] ⟨qe,7,qi,qa,qt⟩=13:=by simp[refuse,inR,Request.ends,Request.fin,cA',cB,cC,cD',cE]
   rw[hR]
   simp only[show ((13:Int)==0)=false from rfl,cond_false]
   simp only[rn,RO.dst,lk,drop,Nat.reduceBEq,Nat.reduceAdd,Nat.reduceLeDiff,↓reduceIte,reduceCtorEq,Int.reduceLT,Int.reduceLE,Int.reduceGT,Int.reduceGE,Int.reduceBEq,Int.reduceBNe,Int.reduceEq,Int.reduceNe,Int.reduceNeg,l1,l2,l3,e1,e2,e3,hyi,hld,eC,hlen,g0,cA,cB,cC,cD,cE]
   exact ⟨_,_,_,rfl,o13,⟨y,_,rfl,rfl,w⟩,f1⟩
 | false=>
 have cE': ¬(s.shards[i].finished.length:Int)=60:=by simpa using cE
 have hR:refuse s.shards[i] ⟨qe,7,qi,qa,qt⟩=0:=by simp[refuse,inR,Request.ends,Request.fin,cA',cB,cC,cD',cE]
 rw[hR]
 simp only[beq_self_eq_true,cond_true]
 have hS:doShard s.shards[i] ⟨qe,7,qi,qa,qt⟩={s.shards[i] with book:=⟨(doBook s.shards[i].book.list ⟨qe,7,qi,qa,qt⟩).1⟩,finished:=sortFins (s.shards[i].finished++[⟨qt,qi⟩])}:=by simp[doShard,Request.ends,Request.fin,cA',cB,cC,cD',cE]
 rw[hS]
 have hi2:i<(s.shards.set i {s.shards[i] with book:=⟨(doBook s.shards[i].book.list ⟨qe,7,qi,qa,qt⟩).1⟩}).length:=by rw[List.length_set];exact hi
 obtain ⟨xf',g3,g4,g5,fq3,fb3,a1,a2,a3,a4,og5,ff5,w5,u5⟩:=row_fin og2 hf w2 fq2 hi2 (by rw[List.getElem_set_self];exact smf) hg2 (by rw[List.getElem_set_self];exact hr2) ⟨qt,qi⟩
 simp only[List.getElem_set_self,List.set_set,Fin.enc] at a1 a3 w5 u5
 have hl2:=fun j n=>loadP_row hg2 hr2 j n
 have eA:=accountOf_run (Z:=Z) k.i10 u5 qi
 rcases val_cases (a:=qi) (doBook_srt hbk ⟨qe,7,qi,qa,qt⟩) with ⟨v1,v2⟩ | ⟨v1,v2,v3,v4⟩ | ⟨v1,j,v2,v3,v4,v5,v6⟩
 ·have v1':((doBook s.shards[i].book.list ⟨qe,7,qi,qa,qt⟩).2==0)=false:=by simpa using v1
  rw[v2]
  simp only[rn,RO.dst,lk,drop,Nat.reduceBEq,Nat.reduceAdd,Nat.reduceLeDiff,↓reduceIte,reduceCtorEq,Int.reduceLT,Int.reduceLE,Int.reduceGT,Int.reduceGE,Int.reduceBEq,Int.reduceBNe,Int.reduceEq,Int.reduceNe,Int.reduceNeg,l1,l2,l3,e1,e2,e3,hyi,hld,eC,hlen,g0,cA,cB,cC,cD,cE,eB,hg1,st,hl2,List.replicate_succ,List.replicate_zero,fills,and_self,Nat.zero_lt_one,List.set_cons_zero,a1,a2,a3,prs _ _,a4,eA,v1']
  exact ⟨_,_,_,rfl,og5,⟨y,_,rfl,rfl,w5⟩,ff5⟩
 ·have v1':((doBook s.shards[i].book.list ⟨qe,7,qi,qa,qt⟩).2==0)=true:=by simpa using v1
  rw[v4]
  rw[v2] at eA
  simp only[rn,RO.dst,lk,drop,Nat.reduceBEq,Nat.reduceAdd,Nat.reduceLeDiff,↓reduceIte,reduceCtorEq,Int.reduceLT,Int.reduceLE,Int.reduceGT,Int.reduceGE,Int.reduceBEq,Int.reduceBNe,Int.reduceEq,Int.reduceNe,Int.reduceNeg,l1,l2,l3,e1,e2,e3,hyi,hld,eC,hlen,g0,cA,cB,cC,cD,cE,eB,hg1,st,hl2,List.replicate_succ,List.replicate_zero,fills,and_self,Nat.zero_lt_one,List.set_cons_zero,a1,a2,a3,prs _ _,a4,eA,v1']
  exact ⟨_,_,_,rfl,og5,⟨y,_,rfl,rfl,w5⟩,ff5⟩
 ·have v1':((doBook s.shards[i].book.list ⟨qe,7,qi,qa,qt⟩).2==0)=true:=by simpa using v1
  rw[v6,Account.at_get v5]
  rw[v2,v3] at eA
  have hx:=u5.idx v5
  have hl:=u5.load v5
  simp only[Account.enc] at hl
  simp only[rn,RO.dst,lk,drop,Nat.reduceBEq,Nat.reduceAdd,Nat.reduceLeDiff,↓reduceIte,reduceCtorEq,Int.reduceLT,Int.reduceLE,Int.reduceGT,Int.reduceGE,Int.reduceBEq,Int.reduceBNe,Int.reduceEq,Int.reduceNe,Int.reduceNeg,l1,l2,l3,e1,e2,e3,hyi,hld,eC,hlen,g0,cA,cB,cC,cD,cE,eB,hg1,st,hl2,List.replicate_succ,List.replicate_zero,fills,and_self,Nat.zero_lt_one,List.set_cons_zero,a1,a2,a3,prs _ _,a4,eA,v1',hx,hl]
  exact ⟨_,_,_,rfl,og5,⟨y,_,rfl,rfl,w5⟩,ff5⟩
set_option maxHeartbeats 4000000 in
set_option maxRecDepth 8000 in
theorem do_op8 (k:KI F) (hL:Has F tLibslicesIndexFuncimplShardimplShard) (pri:PrimAt F Z 343 (insF 11 40)) (prd:PrimAt F Z 348 (delF 11)) (prs:PrimAt F Z 375 (sortF 9 267)) (hf:h.floor≤h.next) (v:Store.RI h cs s fp) (qe qi qa qt:Int) (okq:(⟨qe,8,qi,qa,qt⟩:Request).Ok) (ok:s.Ok) (sm:s.Small):
 DoStoreAt F Z h cs s ⟨qe,8,qi,qa,qt⟩:=by
 unfold DoStoreAt
 obtain ⟨l1,l2,l3⟩:=Store.lenI v
 obtain ⟨cs1,h1,fr,e1,o1,v1,f1⟩:=copyStore_c (Z:=Z) k hf v sm
 obtain ⟨h2,e2,o2⟩:=isStore_run (Z:=Z) k (Store.okI.on v o1) ok
 obtain ⟨h3,e3,o3⟩:=shardWith_on (Z:=Z) k.i13 hL (Store.okI.on (Store.okI.on v o1) o2) qi
 have o12:=o1.trans o2
 have o13:=o12.trans o3
 obtain ⟨y,p,rfl,hp,w12⟩:=Store.okI.on v1 o2
 subst hp
 have w:=w12.on Shard.okI o3
 rw[call_run F Z (k.i13.lk (g:=387) rfl) _ _ rfl]
 simp only[Request.enc]
 cases hg:s.good with
 | false=>
   rw[hg] at e2
   rw[dost_bad (by simp[hg])]
   simp only[rn,RO.dst,lk,drop,Nat.reduceBEq,Nat.reduceAdd,Nat.reduceLeDiff,↓reduceIte,reduceCtorEq,Int.reduceLT,Int.reduceLE,Int.reduceGT,Int.reduceGE,Int.reduceBEq,Int.reduceBNe,Int.reduceEq,Int.reduceNe,Int.reduceNeg,l1,l2,l3,e1,e2]
   exact ⟨_,_,_,rfl,o12,⟨y,_,rfl,rfl,w12⟩,f1⟩
 | true=>
 rw[hg] at e2
 have hin:(s.good&&inR (⟨qe,8,qi,qa,qt⟩:Request).op 0 8)=true:=by rw[hg];rfl
 have v3:=Store.okI.on v o13
 obtain ⟨x,p,rfl,hp,wx⟩:=v3
 subst hp
 rcases wx.found (fun t=>decide (t.lo≤qi)&&decide (qi≤t.hi)) with q | ⟨i,q,hi,hpi,_⟩
 ·change findId s.shards qi= -1 at q
  rw[dost_away hin q]
  rw[q] at e3
  simp only[rn,RO.dst,lk,drop,Nat.reduceBEq,Nat.reduceAdd,Nat.reduceLeDiff,↓reduceIte,reduceCtorEq,Int.reduceLT,Int.reduceLE,Int.reduceGT,Int.reduceGE,Int.reduceBEq,Int.reduceBNe,Int.reduceEq,Int.reduceNe,Int.reduceNeg,l1,l2,l3,e1,e2,e3]
  exact ⟨_,_,_,rfl,o13,⟨y,_,rfl,rfl,w⟩,f1⟩
 change findId s.shards qi=(i:Int) at q
 rw[q] at e3
 rw[dost_at hin q,Shard.at_get hi]
 have g0: ¬(i:Int)<0:=by omega
 have hyi:=w.idx hi
 have okX:=ok.shards _ (List.getElem_mem hi)
 have smX:=sm.2 _ (List.getElem_mem hi)
 have smf:s.shards[i].finished.length≤1048576:=smX.2
 have smb:s.shards[i].book.list.length≤1048576:=smX.1
 have hbk:bookOk s.shards[i].book.list=true:=by
  have:=Store.fit_at hg hi
  simp only[Store.fits,Bool.and_eq_true,Shard.at_get hi,Shard.good,Shard.head] at this
  exact this.1.1.2.2.2.1
 obtain ⟨xb,xf,pb,pf,rows,hgr,hrr,wb,wf,fin⟩:=row_book o13 hf w f1 hi
 have hld:=fun j n=>loadP_row hgr hrr j n
 have eC:=containsFin_run (F:=F) (Z:=Z) k.li k.lc (wf.up (Fl.ok _) h3.next) ⟨qt,qi⟩
 simp only[Fin.enc] at eC
 have hlen:=wf.len
 obtain ⟨yb,hq,fb,eB,oB,uB,dB⟩:=doBook_c (Z:=Z) (h:=⟨h3.next,h3.next,h3.get⟩) k.i10 k.i13 pri prd (Nat.le_refl _) (wb.up (Fl.ok _) h3.next) ⟨qe,8,qi,qa,qt⟩ okq okX.book.list smb hbk
 simp only[Request.enc] at eB
 obtain ⟨g1,hg1⟩: ∃g1,Heap.mk hq.next h3.floor hq.get=g1:=⟨_,rfl⟩
 have oB1:On h3 g1:=by rw[←hg1];exact ⟨⟨oB.ext.1,oB.ext.2⟩,rfl⟩
 have uB1:SlR 11 (Fl Account.enc) g1 yb (doBook s.shards[i].book.list ⟨qe,8,qi,qa,qt⟩).1 fb:=by rw[←hg1];exact uB.up (Fl.ok _) h3.floor
 have ndB:fb.Nodup:=by
  rcases dB with d | ⟨_,d⟩
  ·exact d.nd
  ·rw[d];exact wb.nodup
 obtain ⟨g2,fqs,rows2,st,og2,fq2,w2,u2,hg2,hr2⟩:=fin g1 yb _ fb oB1 uB1 ndB (by
  rcases dB with d | ⟨_,d⟩
  ·exact .inl ⟨d.lo,d.nd⟩
  ·exact .inr d)
 cases cA:(s.shards[i].epoch !=qe) with
 | true=>
   have cA':(s.shards[i].epoch==qe)=false:=by simpa using cA
   have hR:refuse s.shards[i] ⟨qe,8,qi,qa,qt⟩=9:=by simp[refuse,inR,Request.ends,Request.fin,cA']
   rw[hR]
   simp only[show ((9:Int)==0)=false from rfl,cond_false]
   simp only[rn,RO.dst,lk,drop,Nat.reduceBEq,Nat.reduceAdd,Nat.reduceLeDiff,↓reduceIte,reduceCtorEq,Int.reduceLT,Int.reduceLE,Int.reduceGT,Int.reduceGE,Int.reduceBEq,Int.reduceBNe,Int.reduceEq,Int.reduceNe,Int.reduceNeg,l1,l2,l3,e1,e2,e3,hyi,hld,eC,hlen,g0,cA]
   exact ⟨_,_,_,rfl,o13,⟨y,_,rfl,rfl,w⟩,f1⟩
 | false=>
 have cA':(s.shards[i].epoch==qe)=true:=by simpa using cA
 cases cB:(s.shards[i].state==1) with
 | true=>
   have hR:refuse s.shards[i] ⟨qe,8,qi,qa,qt⟩=0:=by simp[refuse,inR,Request.ends,Request.fin,cA',cB]
   rw[hR]
   simp only[beq_self_eq_true,cond_true]
   have hS:doShard s.shards[i] ⟨qe,8,qi,qa,qt⟩={s.shards[i] with book:=⟨(doBook s.shards[i].book.list ⟨qe,8,qi,qa,qt⟩).1⟩}:=by simp[doShard,Request.ends,Request.fin,cA',cB]
   rw[hS]
   have eA:=accountOf_run (Z:=Z) k.i10 u2 qi
   rcases val_cases (a:=qi) (doBook_srt hbk ⟨qe,8,qi,qa,qt⟩) with ⟨v1,v2⟩ | ⟨v1,v2,v3,v4⟩ | ⟨v1,j,v2,v3,v4,v5,v6⟩
   ·have v1':((doBook s.shards[i].book.list ⟨qe,8,qi,qa,qt⟩).2==0)=false:=by simpa using v1
    rw[v2]
    simp only[rn,RO.dst,lk,drop,Nat.reduceBEq,Nat.reduceAdd,Nat.reduceLeDiff,↓reduceIte,reduceCtorEq,Int.reduceLT,Int.reduceLE,Int.reduceGT,Int.reduceGE,Int.reduceBEq,Int.reduceBNe,Int.reduceEq,Int.reduceNe,Int.reduceNeg,l1,l2,l3,e1,e2,e3,hyi,hld,eC,hlen,g0,cA,cB,eB,hg1,st,eA,v1']
    exact ⟨_,_,_,rfl,og2,⟨y,_,rfl,rfl,w2⟩,fq2⟩
   ·have v1':((doBook s.shards[i].book.list ⟨qe,8,qi,qa,qt⟩).2==0)=true:=by simpa using v1
    rw[v4]
    rw[v2] at eA
    simp only[rn,RO.dst,lk,drop,Nat.reduceBEq,Nat.reduceAdd,Nat.reduceLeDiff,↓reduceIte,reduceCtorEq,Int.reduceLT,Int.reduceLE,Int.reduceGT,Int.reduceGE,Int.reduceBEq,Int.reduceBNe,Int.reduceEq,Int.reduceNe,Int.reduceNeg,l1,l2,l3,e1,e2,e3,hyi,hld,eC,hlen,g0,cA,cB,eB,hg1,st,eA,v1']
    exact ⟨_,_,_,rfl,og2,⟨y,_,rfl,rfl,w2⟩,fq2⟩
   ·have v1':((doBook s.shards[i].book.list ⟨qe,8,qi,qa,qt⟩).2==0)=true:=by simpa using v1
    rw[v6,Account.at_get v5]
    rw[v2,v3] at eA
    have hx:=u2.idx v5
    have hl:=u2.load v5
    simp only[Account.enc] at hl
    simp only[rn,RO.dst,lk,drop,Nat.reduceBEq,Nat.reduceAdd,Nat.reduceLeDiff,↓reduceIte,reduceCtorEq,Int.reduceLT,Int.reduceLE,Int.reduceGT,Int.reduceGE,Int.reduceBEq,Int.reduceBNe,Int.reduceEq,Int.reduceNe,Int.reduceNeg,l1,l2,l3,e1,e2,e3,hyi,hld,eC,hlen,g0,cA,cB,eB,hg1,st,eA,v1',hx,hl]
    exact ⟨_,_,_,rfl,og2,⟨y,_,rfl,rfl,w2⟩,fq2⟩
 | false=>
 have hR:refuse s.shards[i] ⟨qe,8,qi,qa,qt⟩=0:=by simp[refuse,inR,Request.ends,Request.fin,cA',cB]
 rw[hR]
 simp only[beq_self_eq_true,cond_true]
 have hS:doShard s.shards[i] ⟨qe,8,qi,qa,qt⟩={s.shards[i] with book:=⟨(doBook s.shards[i].book.list ⟨qe,8,qi,qa,qt⟩).1⟩}:=by simp[doShard,Request.ends,Request.fin,cA',cB]
 rw[hS]
 have eA:=accountOf_run (Z:=Z) k.i10 u2 qi
 rcases val_cases (a:=qi) (doBook_srt hbk ⟨qe,8,qi,qa,qt⟩) with ⟨v1,v2⟩ | ⟨v1,v2,v3,v4⟩ | ⟨v1,j,v2,v3,v4,v5,v6⟩
 ·have v1':((doBook s.shards[i].book.list ⟨qe,8,qi,qa,qt⟩).2==0)=false:=by simpa using v1
  rw[v2]
  simp only[rn,RO.dst,lk,drop,Nat.reduceBEq,Nat.reduceAdd,Nat.reduceLeDiff,↓reduceIte,reduceCtorEq,Int.reduceLT,Int.reduceLE,Int.reduceGT,Int.reduceGE,Int.reduceBEq,Int.reduceBNe,Int.reduceEq,Int.reduceNe,Int.reduceNeg,l1,l2,l3,e1,e2,e3,hyi,hld,eC,hlen,g0,cA,cB,eB,hg1,st,eA,v1']
  exact ⟨_,_,_,rfl,og2,⟨y,_,rfl,rfl,w2⟩,fq2⟩
 ·have v1':((doBook s.shards[i].book.list ⟨qe,8,qi,qa,qt⟩).2==0)=true:=by simpa using v1
  rw[v4]
  rw[v2] at eA
  simp only[rn,RO.dst,lk,drop,Nat.reduceBEq,Nat.reduceAdd,Nat.reduceLeDiff,↓reduceIte,reduceCtorEq,Int.reduceLT,Int.reduceLE,Int.reduceGT,Int.reduceGE,Int.reduceBEq,Int.reduceBNe,Int.reduceEq,Int.reduceNe,Int.reduceNeg,l1,l2,l3,e1,e2,e3,hyi,hld,eC,hlen,g0,cA,cB,eB,hg1,st,eA,v1']
  exact ⟨_,_,_,rfl,og2,⟨y,_,rfl,rfl,w2⟩,fq2⟩
 ·have v1':((doBook s.shards[i].book.list ⟨qe,8,qi,qa,qt⟩).2==0)=true:=by simpa using v1
  rw[v6,Account.at_get v5]
  rw[v2,v3] at eA
  have hx:=u2.idx v5
  have hl:=u2.load v5
  simp only[Account.enc] at hl
  simp only[rn,RO.dst,lk,drop,Nat.reduceBEq,Nat.reduceAdd,Nat.reduceLeDiff,↓reduceIte,reduceCtorEq,Int.reduceLT,Int.reduceLE,Int.reduceGT,Int.reduceGE,Int.reduceBEq,Int.reduceBNe,Int.reduceEq,Int.reduceNe,Int.reduceNeg,l1,l2,l3,e1,e2,e3,hyi,hld,eC,hlen,g0,cA,cB,eB,hg1,st,eA,v1',hx,hl]
  exact ⟨_,_,_,rfl,og2,⟨y,_,rfl,rfl,w2⟩,fq2⟩
end
end Go.Proofs.YtahkgghifaodoaaGreat.A
namespace Go.Proofs.YtahkgghifaodoaaGreat.A
open Go
set_option linter.unusedSimpArgs false
set_option linter.unusedVariables false
theorem op_cases {o:Int} (h:inR o 0 8=true):o=0∨o=1∨o=2∨o=3∨o=4∨o=5∨o=6∨o=7∨o=8:=by
 simp only[inR,Bool.and_eq_true,decide_eq_true_eq] at h
 omega
section
variable {F:Nat→Option RF} {Z:CallF} {h:Heap} {cs:List Cell} {fp:List Nat} {s:Store}
theorem do_out (k:KI F) (hf:h.floor≤h.next) (v:Store.RI h cs s fp) {q:Request} (hin:inR q.op 0 8=false) (ok:s.Ok) (sm:s.Small):DoStoreAt F Z h cs s q:=by
 unfold DoStoreAt
 obtain ⟨l1,l2,l3⟩:=Store.lenI v
 obtain ⟨cs1,h1,fr,e1,o1,v1,f1⟩:=copyStore_c (Z:=Z) k hf v sm
 obtain ⟨h2,e2,o2⟩:=isStore_run (Z:=Z) k (Store.okI.on v o1) ok
 obtain ⟨m1,m2,m3⟩:=Store.lenI v1
 rw[call_run F Z (k.i13.lk (g:=387) rfl) _ _ rfl,dost_bad (by simp[hin])]
 obtain ⟨qe,qo,qi,qa,qt⟩:=q
 simp only[Request.enc]
 cases hg:s.good with
 | false=>
   rw[hg] at e2
   simp only[rn,RO.dst,lk,drop,Nat.reduceBEq,Nat.reduceAdd,Nat.reduceLeDiff,↓reduceIte,reduceCtorEq,l1,l2,l3,m1,m2,m3,e1,e2]
   exact ⟨_,_,_,rfl,o1.trans o2,Store.okI.on v1 o2,f1⟩
 | true=>
   rw[hg] at e2
   by_cases c1:qo<0
   ·simp only[rn,RO.dst,lk,drop,Nat.reduceBEq,Nat.reduceAdd,Nat.reduceLeDiff,↓reduceIte,reduceCtorEq,l1,l2,l3,m1,m2,m3,e1,e2,c1]
    exact ⟨_,_,_,rfl,o1.trans o2,Store.okI.on v1 o2,f1⟩
   ·have c2:qo>8:=by
     simp only[inR,Bool.and_eq_false_iff,decide_eq_false_iff_not] at hin
     omega
    simp only[rn,RO.dst,lk,drop,Nat.reduceBEq,Nat.reduceAdd,Nat.reduceLeDiff,↓reduceIte,reduceCtorEq,l1,l2,l3,m1,m2,m3,e1,e2,c1,c2]
    exact ⟨_,_,_,rfl,o1.trans o2,Store.okI.on v1 o2,f1⟩
theorem doStore_c (k:KI F) (hL:Has F tLibslicesIndexFuncimplShardimplShard) (pri:PrimAt F Z 343 (insF 11 40)) (prd:PrimAt F Z 348 (delF 11)) (prs:PrimAt F Z 375 (sortF 9 267)) (hf:h.floor≤h.next) (v:Store.RI h cs s fp) (q:Request) (okq:q.Ok) (ok:s.Ok) (sm:s.Small):DoStoreAt F Z h cs s q:=by
 cases hin:inR q.op 0 8 with
 | false=>exact do_out k hf v hin ok sm
 | true=>
   obtain ⟨qe,qo,qi,qa,qt⟩:=q
   rcases op_cases hin with h | h | h | h | h | h | h | h | h<;>(simp only at h;subst h)
   ·exact do_op0 k hL pri prd prs hf v qe qi qa qt okq ok sm
   ·exact do_op1 k hL pri prd prs hf v qe qi qa qt okq ok sm
   ·exact do_op2 k hL pri prd prs hf v qe qi qa qt okq ok sm
   ·exact do_op3 k hL pri prd prs hf v qe qi qa qt okq ok sm
   ·exact do_op4 k hL pri prd prs hf v qe qi qa qt okq ok sm
   ·exact do_op5 k hL pri prd prs hf v qe qi qa qt okq ok sm
   ·exact do_op6 k hL pri prd prs hf v qe qi qa qt okq ok sm
   ·exact do_op7 k hL pri prd prs hf v qe qi qa qt okq ok sm
   ·exact do_op8 k hL pri prd prs hf v qe qi qa qt okq ok sm
theorem DoStore_c (k:KI F) (hL:Has F tLibslicesIndexFuncimplShardimplShard) (pri:PrimAt F Z 343 (insF 11 40)) (prd:PrimAt F Z 348 (delF 11)) (prs:PrimAt F Z 375 (sortF 9 267)) (hf:h.floor≤h.next) (v:Store.RI h cs s fp) (q:Request) (okq:q.Ok) (ok:s.Ok) (sm:s.Small):
 ∃cs' h' fq,call F Z 382 [.agg cs,.agg q.enc] h=some (.tup [.agg cs',.c (.int .i64 (doStore s q).2.1),.c (.int .u64 (doStore s q).2.2)],h')∧On h h'∧Store.RI h' cs' (doStore s q).1 fq∧Fre h fq:=by
 obtain ⟨l1,l2,l3⟩:=Store.lenI v
 obtain ⟨cs',h',fq,e,o,v',f⟩:=doStore_c (Z:=Z) k hL pri prd prs hf v q okq ok sm
 obtain ⟨m1,m2,m3⟩:=Store.lenI v'
 rw[call_run F Z (k.i13.lk (g:=382) rfl) _ _ rfl]
 simp only[rn,RO.dst,lk,drop,Nat.reduceBEq,Nat.reduceAdd,Nat.reduceLeDiff,↓reduceIte,reduceCtorEq,l1,l2,l3,Request.len,Request.tak,e,m1,m2,m3]
 exact ⟨_,_,_,rfl,o,v',f⟩
end
end Go.Proofs.YtahkgghifaodoaaGreat.A
namespace Go.Proofs.YtahkgghifaodoaaGreat.A
open Go
set_option linter.unusedSimpArgs false
set_option linter.unusedVariables false
section
variable {F:Nat→Option RF} {Z:CallF} {h:Heap} {x:Cell} {code:List Int}
theorem big_run (hL:Has F tLaws) (w:Vw 19 byte_enc h x code):call F Z 144 [.c x] h=some (.c (.bool (decide ((code.length:Int)>1048576))),h):=by
 rw[call_run F Z (hL.lk (g:=144) rfl) _ _ rfl]
 simp only[rn,RO.dst,lk,drop,Nat.reduceBEq,Nat.reduceAdd,Nat.reduceLeDiff,↓reduceIte,reduceCtorEq,w.len]
end
end Go.Proofs.YtahkgghifaodoaaGreat.A
namespace Go.Proofs.YtahkgghifaodoaaGreat.A
open Go
set_option linter.unusedSimpArgs false
set_option linter.unusedVariables false
def Byte (b:Int):Prop:=0≤b∧b≤255
theorem Wf.areBytes {h:Heap} {n:Nat} {x:Cell} (w:Wf h (n+2) shUint8S [x]): ∃code:List Int,Vw 19 byte_enc h x code∧ ∀b,b∈code→Byte b:=by
 obtain ⟨xs,fp,v,q⟩:=SlR.ofWf (R:=Fl byte_enc) (A:=Byte) (fun r hr=>by
  obtain ⟨hl,z,rfl,hz⟩:=hr
  refine ⟨z,[],⟨rfl,rfl⟩,?_⟩
  simp only[Lit.wf,Bool.and_eq_true,decide_eq_true_eq] at hz
  exact hz) w
 exact ⟨xs,v.vw,q⟩
section
variable {F:Nat→Option RF} {Z:CallF} {h:Heap} {x:Cell} {code:List Int}
theorem at_byte (hL:Has F tLaws) (hb: ∀b,b∈code→Byte b) (hc:code.length≤1048576) {i:Int} (hi:0≤i∧i≤1000000): ∃r,Byte r∧ ∀h,Vw 19 byte_enc h x code→call F Z 177 [.c x,.c (.int .i64 i)] h=some (.c (.int .i64 r),h):=by
 obtain ⟨j,rfl⟩: ∃j:Nat,i=(j:Int):=⟨i.toNat,by omega⟩
 by_cases hlt:(j:Int)<code.length
 ·have hj:j<code.length:=by omega
  have hr:=hb _ (List.getElem_mem hj)
  refine ⟨code[j],hr,fun h w=> ?_⟩
  rw[call_run F Z (hL.lk (g:=177) rfl) _ _ rfl]
  simp only[rn,RO.dst,lk,drop,Nat.reduceBEq,Nat.reduceAdd,Nat.reduceLeDiff,↓reduceIte,reduceCtorEq,w.len,hlt,w.idx hj,w.load hj,byte_enc]
  rw[wrapI _ (by have:=hr.1;omega) (by have:=hr.2;omega)]
 ·refine ⟨((j:Int)*13+(code.length:Int)*5)%256,⟨by omega,by omega⟩,fun h w=> ?_⟩
  rw[call_run F Z (hL.lk (g:=177) rfl) _ _ rfl]
  simp only[rn,RO.dst,lk,drop,Nat.reduceBEq,Nat.reduceAdd,Nat.reduceLeDiff,↓reduceIte,reduceCtorEq,w.len,hlt,b_rem _ _ _ (show (256:Int)≠0 from by omega)]
  rw[wrapI ((j:Int)*13) (by omega) (by omega),wrapI ((code.length:Int)*5) (by omega) (by omega),wrapI _ (by omega) (by omega),Int.tmod_eq_emod_of_nonneg (by omega)]
end
end Go.Proofs.YtahkgghifaodoaaGreat.A
