/- The functions that the statement reaches, part 4: bodies and what they compute. No condition. -/
import Derived.Test.YtahkgghifaodoaaGreatHCStore3
import Derived.Test.YtahkgghifaodoaaGreatD
namespace Go.Proofs.YtahkgghifaodoaaGreat.A
open Go
set_option linter.unusedSimpArgs false
set_option linter.unusedVariables false
section
variable {s:Store} {q:Request} {xs:List Account} {x:Shard} {id tx:Int} {f:Act} {d:Int}
theorem sumI_set {α:Type} (f:α→Int): ∀(xs:List α) (i:Nat) (hi:i<xs.length) (y:α),sumI f (xs.set i y)=sumI f xs-f xs[i]+f y
 | [],_,hi,_=>absurd hi (Nat.not_lt_zero _)
 | a::r,0,_,y=>by simp only[List.set_cons_zero,sumI,List.getElem_cons_zero];omega
 | a::r,i+1,hi,y=>by
   have:=sumI_set f r i (by simpa using hi) y
   simp only[List.set_cons_succ,sumI,List.getElem_cons_succ,this];omega
theorem sumI_erase {α:Type} (f:α→Int): ∀(xs:List α) (i:Nat) (hi:i<xs.length),sumI f (xs.eraseIdx i)=sumI f xs-f xs[i]
 | [],_,hi=>absurd hi (Nat.not_lt_zero _)
 | a::r,0,_=>by simp only[List.eraseIdx_cons_zero,sumI,List.getElem_cons_zero];omega
 | a::r,i+1,hi=>by
   have:=sumI_erase f r i (by simpa using hi)
   simp only[List.eraseIdx_cons_succ,sumI,List.getElem_cons_succ,this];omega
theorem bookDo_same (h:(bookDo xs id f).2≠0):(bookDo xs id f).1=xs:=by
 cases g:bookOk xs with
 | false=>rw[do_bad g]
 | true=>
   rcases acc_found g id with ⟨q1,_⟩ | ⟨i,q1,_,_,hi,_⟩
   ·rw[do_none g q1]
   ·rw[do_at g q1] at h ⊢
    cases hc:((f (Account.at_ xs i)).1==0) with
    | false=>rfl
    | true=>
      rw[hc] at h
      cases hd:((f (Account.at_ xs i)).2.tx== -1)<;>rw[hd] at h<;>exact absurd rfl h
theorem bookDo_money (g:bookOk xs=true) (hf: ∀a:Account,a.fine=true→(f a).1=0→((f a).2.tx= -1∧a.money+d=0)∨((f a).2.tx≠ -1∧(f a).2.money=a.money+d)) (h:(bookDo xs id f).2=0):moneyOf (bookDo xs id f).1=moneyOf xs+d:=by
 rcases acc_found g id with ⟨q1,_⟩ | ⟨i,q1,_,_,hi,_⟩
 ·rw[do_none g q1] at h;exact absurd h (by simp)
 ·rw[do_at g q1,Account.at_get hi] at h ⊢
  have hfine:=((bookOk_iff xs).1 g).2.1 _ (List.getElem_mem hi)
  cases hc:((f xs[i]).1==0) with
  | false=>
    rw[hc] at h
    have h:(f xs[i]).1=0:=h
    rw[h] at hc;exact absurd hc (by simp)
  | true=>
    have hc0:(f xs[i]).1=0:=by simpa using hc
    rcases hf _ hfine hc0 with ⟨h1,h2⟩ | ⟨h1,h2⟩
    ·have h3:((f xs[i]).2.tx== -1)=true:=by simpa using h1
     rw[h3]
     show sumI Account.money (xs.eraseIdx i)=sumI Account.money xs+d
     rw[sumI_erase _ _ _ hi];omega
    ·have h3:((f xs[i]).2.tx== -1)=false:=by simpa using h1
     rw[h3]
     show sumI Account.money (xs.set i (f xs[i]).2)=sumI Account.money xs+d
     rw[sumI_set _ _ _ hi];omega
theorem bookTx_same (h:(bookTx xs id tx f).2≠0):(bookTx xs id tx f).1=xs:=by
 by_cases ht:tx<1
 ·rw[btx_bad ht]
 ·rw[btx_do ht] at h ⊢;exact bookDo_same h
theorem openBook_same (h:(openBook xs id).2≠0):(openBook xs id).1=xs:=by
 cases g:bookOk xs with
 | false=>rw[open_bad g]
 | true=>
   rcases acc_found g id with ⟨q1,_⟩ | ⟨i,q1,_⟩
   ·cases h3:((xs.length:Int)==40) with
    | true=>rw[open_full g q1 h3]
    | false=>rw[open_new g q1 h3] at h;exact absurd rfl h
   ·rw[open_there g q1]
theorem plusAcc_money (xs:List Account) (id:Int):moneyOf (plusAcc xs id)=moneyOf xs:=by
 unfold moneyOf plusAcc
 rw[sumI_app,sumI_app]
 have h:=sumI_app Account.money (xs.take (accGo xs id)) (xs.drop (accGo xs id))
 rw[List.take_append_drop] at h
 have h1:sumI Account.money [Account.new id]=0:=rfl
 omega
theorem openBook_money:moneyOf (openBook xs id).1=moneyOf xs:=by
 unfold openBook
 cases bookOk xs with
 | false=>rfl
 | true=>
   cases decide (0≤accAt xs id) with
   | true=>rfl
   | false=>
     cases ((xs.length:Int)==40) with
     | true=>rfl
     | false=>exact plusAcc_money xs id
theorem doBook_same (ho:inR q.op 0 8=true) (h:(doBook xs q).2≠0):(doBook xs q).1=xs:=by
 unfold doBook at h ⊢
 cases h0:(q.op==0)<;>rw[h0] at h<;>simp only[cond_true,cond_false] at h ⊢
 case true=>exact openBook_same h
 cases h1:(q.op==1)<;>rw[h1] at h<;>simp only[cond_true,cond_false] at h ⊢
 case true=>exact bookDo_same h
 cases h2:(q.op==2)<;>rw[h2] at h<;>simp only[cond_true,cond_false] at h ⊢
 case true=>exact bookDo_same h
 cases h3:(q.op==3)<;>rw[h3] at h<;>simp only[cond_true,cond_false] at h ⊢
 case true=>exact bookDo_same h
 cases h4:(q.op==4)<;>rw[h4] at h<;>simp only[cond_true,cond_false] at h ⊢
 case true=>exact bookTx_same h
 cases h5:(q.op==5)<;>rw[h5] at h<;>simp only[cond_true,cond_false] at h ⊢
 case true=>exact bookTx_same h
 cases h6:(q.op==6)<;>rw[h6] at h<;>simp only[cond_true,cond_false] at h ⊢
 case true=>exact bookTx_same h
 cases h7:(q.op==7)<;>rw[h7] at h<;>simp only[cond_true,cond_false] at h ⊢
 case true=>exact bookTx_same h
def Request.puts (q:Request):Int:=if q.op=2 then q.amount else if q.op=3 then -q.amount else 0
theorem doBook_money (g:bookOk xs=true) (ho:inR q.op 0 8=true) (h6:q.op≠6) (h:(doBook xs q).2=0):moneyOf (doBook xs q).1=moneyOf xs+q.puts:=by
 have fz: ∀a:Account,a.fine=true→a.tx=0→a.hold=0:=fun a ha ht=>((fine_parts ha).2.2 ht).1
 have ft: ∀a:Account,a.fine=true→0≤a.tx:=fun a ha=>(fine_parts ha).2.1
 have tx: ∀{f:Act} {d:Int},(bookTx xs q.id q.tx f).2=0→(1≤q.tx→ ∀a:Account,a.fine=true→(f a).1=0→((f a).2.tx= -1∧a.money+d=0)∨((f a).2.tx≠ -1∧(f a).2.money=a.money+d))→moneyOf (bookTx xs q.id q.tx f).1=moneyOf xs+d:=by
  intro f d h hf
  by_cases ht:q.tx<1
  ·rw[btx_bad ht] at h;exact absurd h (by simp)
  ·rw[btx_do ht] at h ⊢;exact bookDo_money g (hf (by omega)) h
 unfold doBook at h ⊢
 cases h0:(q.op==0)<;>rw[h0] at h<;>simp only[cond_true,cond_false] at h ⊢
 case true=>
  have e:q.op=0:=by simpa using h0
  rw[openBook_money];simp[Request.puts,e]
 cases h1:(q.op==1)<;>rw[h1] at h<;>simp only[cond_true,cond_false] at h ⊢
 case true=>
  have e:q.op=1:=by simpa using h1
  have hp:q.puts=0:=by simp[Request.puts,e]
  rw[hp]
  refine bookDo_money g (fun a ha h=> .inl ?_) h
  have hz:=fz a ha
  unfold closeF at h ⊢
  by_cases t:a.tx=0
  ·rw[if_pos t] at h ⊢
   by_cases b:a.bal=0
   ·rw[if_pos b] at h ⊢
    have:=hz t
    exact ⟨rfl,by simp only[Account.money];omega⟩
   ·rw[if_neg b] at h;exact absurd h (by simp)
  ·rw[if_neg t] at h;exact absurd h (by simp)
 cases h2:(q.op==2)<;>rw[h2] at h<;>simp only[cond_true,cond_false] at h ⊢
 case true=>
  have e:q.op=2:=by simpa using h2
  have hp:q.puts=q.amount:=by simp[Request.puts,e]
  rw[hp]
  refine bookDo_money g (fun a ha h=> .inr ?_) h
  unfold depF at h ⊢
  by_cases t:a.tx=0
  ·rw[if_pos t] at h ⊢
   by_cases b:a.bal+q.amount≤18446744073709551615
   ·rw[if_pos b] at h ⊢
    exact ⟨by simp only;omega,by simp only[Account.money];omega⟩
   ·rw[if_neg b] at h;exact absurd h (by simp)
  ·rw[if_neg t] at h;exact absurd h (by simp)
 cases h3:(q.op==3)<;>rw[h3] at h<;>simp only[cond_true,cond_false] at h ⊢
 case true=>
  have e:q.op=3:=by simpa using h3
  have hp:q.puts= -q.amount:=by simp[Request.puts,e]
  rw[hp]
  refine bookDo_money g (fun a ha h=> .inr ?_) h
  unfold witF at h ⊢
  by_cases t:a.tx=0
  ·rw[if_pos t] at h ⊢
   by_cases b:q.amount≤a.bal
   ·rw[if_pos b] at h ⊢
    exact ⟨by simp only;omega,by simp only[Account.money];omega⟩
   ·rw[if_neg b] at h;exact absurd h (by simp)
  ·rw[if_neg t] at h;exact absurd h (by simp)
 have n2:q.op≠2:=by simpa using h2
 have n3:q.op≠3:=by simpa using h3
 have hp:q.puts=0:=by simp[Request.puts,n2,n3]
 rw[hp]
 cases h4:(q.op==4)<;>rw[h4] at h<;>simp only[cond_true,cond_false] at h ⊢
 case true=>
  refine tx h fun ht a ha h=> .inr ?_
  have hz:=fz a ha
  unfold lockDF at h ⊢
  by_cases t:a.tx=0
  ·rw[if_pos t] at h ⊢
   by_cases b:q.amount≤a.bal
   ·rw[if_pos b] at h ⊢
    have:=hz t
    exact ⟨by simp only;omega,by simp only[Account.money];omega⟩
   ·rw[if_neg b] at h;exact absurd h (by simp)
  ·rw[if_neg t] at h;exact absurd h (by simp)
 cases h5:(q.op==5)<;>rw[h5] at h<;>simp only[cond_true,cond_false] at h ⊢
 case true=>
  refine tx h fun ht a ha h=> .inr ?_
  unfold lockCF at h ⊢
  by_cases t:a.tx=0
  ·rw[if_pos t] at h ⊢
   by_cases b:a.bal+q.amount≤18446744073709551615
   ·rw[if_pos b] at h ⊢
    exact ⟨by simp only;omega,by simp only[Account.money];omega⟩
   ·rw[if_neg b] at h;exact absurd h (by simp)
  ·rw[if_neg t] at h;exact absurd h (by simp)
 have e6:(q.op==6)=false:=by simpa using h6
 rw[e6] at h ⊢
 simp only[cond_false] at h ⊢
 cases h7:(q.op==7)<;>rw[h7] at h<;>simp only[cond_true,cond_false] at h ⊢
 case true=>
  refine tx h fun ht a ha h=> .inr ?_
  unfold releaseF at h ⊢
  by_cases t:a.tx=q.tx
  ·rw[if_pos t] at h ⊢
   exact ⟨by simp,by simp only[Account.money]⟩
  ·rw[if_neg t] at h;exact absurd h (by simp)
 omega
theorem store_case (g:SGood s) (okq:q.Ok):
 ((doStore s q).2.1≠0→(doStore s q).2.2=0∧(q.op≠6→q.op≠7→(doStore s q).1=s)∧(doStore s q).1.money=s.money)∧
 ((doStore s q).2.1=0→q.op≠6→(doStore s q).1.money=s.money+q.puts):=by
 rcases doStore_when (q:=q) g.good with ⟨h,h1,h2⟩ | ⟨i,hi,hf,hp,d,h⟩
 ·refine ⟨fun _=>⟨h2,fun _ _=>h,by rw[h]⟩,fun h0=>by omega⟩
 ·have gx:=(g.good.sh _ (List.getElem_mem hi)).1
  have gb:=(bookOk_iff _).2 ⟨gx.srt,gx.fine,gx.bl⟩
  have ho:inR q.op 0 8=true:=by have:=d.op;simp[inR];omega
  rw[h]
  have hm:(⟨s.group,s.seen,s.shards.set i (doShard s.shards[i] q)⟩:Store).money=s.money-moneyOf s.shards[i].book.list+moneyOf (doBook s.shards[i].book.list q).1:=by
   show sumI Shard.money (s.shards.set i _)=sumI Shard.money s.shards-_+_
   rw[sumI_set _ _ _ hi];rfl
  refine ⟨fun h0=>⟨?_,fun n6 n7=> ?_,?_⟩,fun h0 h6=> ?_⟩
  ·show doVal _ _=0
   have h0:(doBook s.shards[i].book.list q).2≠0:=h0
   have:((doBook s.shards[i].book.list q).2==0)=false:=by simpa using h0
   simp[doVal,this]
  ·have hb:=doBook_same ho h0
   have he:q.ends=false:=by simp[Request.ends,n6,n7]
   have hx:doShard s.shards[i] q=s.shards[i]:=by unfold doShard;rw[hb,he];rfl
   show (⟨s.group,s.seen,s.shards.set i (doShard s.shards[i] q)⟩:Store)=s
   rw[hx,List.set_getElem_self]
  ·show Store.money _=_
   rw[hm,doBook_same ho h0];omega
  ·show Store.money _=_
   rw[hm,doBook_money gb ho h6 h0];omega
theorem store_stale {e:Int} (he:e≠q.epoch) (h8:(doStore s q).2.1≠8) (h11:(doStore s q).2.1≠11) (h9:(doStore s q).2.1≠9):(doStore s {q with epoch:=e}).1=s∧(doStore s {q with epoch:=e}).2.1=9:=by
 cases hb:(s.good&&inR q.op 0 8) with
 | false=>rw[dost_bad hb] at h11;exact absurd rfl h11
 | true=>
   by_cases h0:0≤findId s.shards q.id
   ·obtain ⟨i,hi⟩: ∃i:Nat,findId s.shards q.id=(i:Int):=⟨(findId s.shards q.id).toNat,by omega⟩
    rw[dost_at hb hi] at h9
    have hep:(Shard.at_ s.shards i).epoch=q.epoch:=by
     cases hc:((Shard.at_ s.shards i).epoch==q.epoch) with
     | true=>simpa using hc
     | false=>
       have hr:refuse (Shard.at_ s.shards i) q=9:=by unfold refuse;rw[hc];rfl
       rw[hr] at h9
       exact absurd rfl h9
    have hr:refuse (Shard.at_ s.shards i) {q with epoch:=e}=9:=by
     have hc:((Shard.at_ s.shards i).epoch==e)=false:=by simpa[hep] using fun h=>he h.symm
     unfold refuse
     simp only[hc]
     rfl
    rw[dost_at (q:={q with epoch:=e}) hb hi,hr]
    exact ⟨rfl,rfl⟩
   ·have h1:findId s.shards q.id= -1:=by
     unfold findId findI at h0 ⊢
     split<;>rename_i h2
     ·rw[h2] at h0;exact absurd (by simp) h0
     ·rfl
    rw[dost_away hb h1] at h8;exact absurd rfl h8
theorem wrap_next (e:Int) (h: -9223372036854775808≤e∧e≤9223372036854775807):IntKind.i64.wrap (e+1)≠e:=by
 by_cases hm:e=9223372036854775807
 ·subst hm;decide
 ·rw[wrapI _ (by omega) (by omega)];omega
end
end Go.Proofs.YtahkgghifaodoaaGreat.A
namespace Go.Proofs.YtahkgghifaodoaaGreat.A
open Go
set_option linter.unusedSimpArgs false
set_option linter.unusedVariables false
theorem same_dec (x y:Int):(x==y)=decide (x=y):=by rw[Bool.eq_iff_iff];simp
theorem sameA_eqs (a b:Account):eqsR true [.i .u64,.i .u64,.i .u64,.i .u64,.i .i64] (some (.agg a.enc)) (some (.agg b.enc))=some (.bool (!decide (a=b))):=by
 obtain ⟨a1,a2,a3,a4,a5⟩:=a
 obtain ⟨b1,b2,b3,b4,b5⟩:=b
 have hc:cellsEq? [.i .u64,.i .u64,.i .u64,.i .u64,.i .i64] (Account.enc ⟨a1,a2,a3,a4,a5⟩) (Account.enc ⟨b1,b2,b3,b4,b5⟩)=some (decide ((⟨a1,a2,a3,a4,a5⟩:Account)=⟨b1,b2,b3,b4,b5⟩)):=by
  simp only[cellsEq?,eqK,Account.enc,same_dec]
  by_cases h1:a1=b1<;>by_cases h2:a2=b2<;>by_cases h3:a3=b3<;>by_cases h4:a4=b4<;>by_cases h5:a5=b5<;>simp[h1,h2,h3,h4,h5]
 simp only[eqsR,hc,Account.len,List.length_cons,List.length_nil,and_self,if_true,Option.bind_some,Bool.true_xor]
theorem sameF_eqs (a b:Fin):eqsR true [.i .i64,.i .u64] (some (.agg a.enc)) (some (.agg b.enc))=some (.bool (!decide (a=b))):=by
 obtain ⟨a1,a2⟩:=a
 obtain ⟨b1,b2⟩:=b
 have hc:cellsEq? [.i .i64,.i .u64] (Fin.enc ⟨a1,a2⟩) (Fin.enc ⟨b1,b2⟩)=some (decide ((⟨a1,a2⟩:Fin)=⟨b1,b2⟩)):=by
  simp only[cellsEq?,eqK,Fin.enc,same_dec]
  by_cases h1:a1=b1<;>by_cases h2:a2=b2<;>simp[h1,h2]
 simp only[eqsR,hc,Fin.len,List.length_cons,List.length_nil,and_self,if_true,Option.bind_some,Bool.true_xor]
section
variable {F:Nat→Option RF} {Z:CallF} {h:Heap} {cs cs':List Cell} {fp fq:List Nat}
theorem sameBook_r {t u:Book} (hLBook:Has F tLBook) (v:Book.RI h cs t fp) (v':Book.RI h cs' u fq):call F Z 397 [.agg cs,.agg cs'] h=some (.c (.bool (decide (t=u))),h):=by
 obtain ⟨x,p1,rfl,rfl,w⟩:=v
 obtain ⟨y,p1',rfl,rfl,v⟩:=v'
 obtain ⟨xs⟩:=t
 obtain ⟨ys⟩:=u
 simp only at w v
 have hw:=w.le2
 have hv:=v.le2
 have hq:decide ((⟨xs⟩:Book)=⟨ys⟩)=decide (xs=ys):=by simp
 rw[hq,call_run F Z (hLBook.lk (g:=397) rfl) _ _ rfl]
 simp only[rn,RO.dst,lk,drop,Nat.reduceBEq,Nat.reduceAdd,Nat.reduceLeDiff,↓reduceIte,reduceCtorEq,w.len,v.len]
 rw[condC_if]
 split
 ·rename_i hne
  have:xs≠ys:=by rintro rfl;simp at hne
  simp only[rn,RO.dst,lk,drop,Nat.reduceBEq,Nat.reduceAdd,Nat.reduceLeDiff,↓reduceIte,reduceCtorEq,this]
 ·rename_i he
  have he:xs.length=ys.length:=by simp at he;omega
  simp only[rn,RO.dst,lk,drop,Nat.reduceBEq,Nat.reduceAdd,Nat.reduceLeDiff,↓reduceIte,reduceCtorEq]
  have key:=loop_allN (F:=F) (Z:=Z) (live:=[2,3,5]) (b:=r397L0) xs.length (fun i=>⟨[(5,.c (.int .i64 (i:Nat)))],[(2,2,0),(3,3,0)],[(2,[x]),(3,[y])],h⟩) (fun i=>decide (xs[i]? =ys[i]?)) (fun s=>lk s.env 4=some (.c (.bool false))∧s.hp=h) fun i hi=>by
   have hi':i<ys.length:=by omega
   have hlt:(i:Int)<xs.length:=by omega
   have hl1:=w.load hi
   have hl2:=v.load hi'
   rw[loop_run]
   conv in (codeF _ _ r397L0 _)=>unfold r397L0
   simp only[rn,RO.dst,lk,drop,Nat.reduceBEq,Nat.reduceAdd,Nat.reduceLeDiff,↓reduceIte,reduceCtorEq,w.len,hlt,w.idx hi,v.idx hi',hl1,hl2,Account.len,Account.tak,sameA_eqs,wrapS i (by omega)]
   rw[List.getElem?_eq_getElem hi,List.getElem?_eq_getElem hi']
   by_cases hq:xs[i]=ys[i]
   ·simp only[rn,RO.dst,lk,drop,Nat.reduceBEq,Nat.reduceAdd,Nat.reduceLeDiff,↓reduceIte,reduceCtorEq,hq,wrapS i (by omega)]
    exact .inl ⟨by simp,rfl⟩
   ·simp only[rn,RO.dst,lk,drop,Nat.reduceBEq,Nat.reduceAdd,Nat.reduceLeDiff,↓reduceIte,reduceCtorEq,hq]
    exact .inr ⟨by simp[hq],_,rfl,rfl,rfl⟩
  rw[all_same he] at key
  rcases key with ⟨k1,k2⟩ | ⟨k1,s,k2,k3,k4⟩
  ·simp only[show ((0:Nat):Int)=0 from rfl] at k2
   rw[k2,loop_run]
   conv in (codeF _ _ r397L0 _)=>unfold r397L0
   have hlt: ¬(xs.length:Int)<xs.length:=by omega
   simp only[rn,RO.dst,lk,drop,Nat.reduceBEq,Nat.reduceAdd,Nat.reduceLeDiff,↓reduceIte,reduceCtorEq,w.len,hlt,k1]
  ·simp only[show ((0:Nat):Int)=0 from rfl] at k2
   rw[k2]
   simp only[rn,RO.dst,lk,drop,Nat.reduceBEq,Nat.reduceAdd,Nat.reduceLeDiff,↓reduceIte,reduceCtorEq,k3,k4,k1]
set_option maxHeartbeats 2000000 in
theorem sameShard_r {t u:Shard} (hLShard:Has F tLShard) (hLBook:Has F tLBook) (v:Shard.RI h cs t fp) (v':Shard.RI h cs' u fq):call F Z 394 [.agg cs,.agg cs'] h=some (.c (.bool (decide (t=u))),h):=by
 obtain ⟨x1,p1,x,p2,rfl,rfl,w1,w⟩:=v
 obtain ⟨y1,p1',y,p2',rfl,rfl,v1,v⟩:=v'
 obtain ⟨lo1,hi1,state1,epoch1,book1,xs⟩:=t
 obtain ⟨lo2,hi2,state2,epoch2,book2,ys⟩:=u
 simp only at w v w1 v1
 have hw:=w.le2
 have hv:=v.le2
 have e0:=sameBook_r (Z:=Z) hLBook (⟨x1,_,rfl,rfl,w1⟩:Book.RI h _ book1 _) (⟨y1,_,rfl,rfl,v1⟩:Book.RI h _ book2 _)
 rw[call_run F Z (hLShard.lk (g:=394) rfl) _ _ rfl]
 cases q1:(lo1 !=lo2) with
 | true=>
   have hne:lo1≠lo2:=by simpa using q1
   simp only[rn,RO.dst,lk,drop,Nat.reduceBEq,Nat.reduceAdd,Nat.reduceLeDiff,↓reduceIte,reduceCtorEq,q1]
   simp[hne]
 | false=>
 cases q2:(hi1 !=hi2) with
 | true=>
   have hne:hi1≠hi2:=by simpa using q2
   simp only[rn,RO.dst,lk,drop,Nat.reduceBEq,Nat.reduceAdd,Nat.reduceLeDiff,↓reduceIte,reduceCtorEq,q1,q2]
   simp[hne]
 | false=>
 cases q3:(state1 !=state2) with
 | true=>
   have hne:state1≠state2:=by simpa using q3
   simp only[rn,RO.dst,lk,drop,Nat.reduceBEq,Nat.reduceAdd,Nat.reduceLeDiff,↓reduceIte,reduceCtorEq,q1,q2,q3]
   simp[hne]
 | false=>
 cases q4:(epoch1 !=epoch2) with
 | true=>
   have hne:epoch1≠epoch2:=by simpa using q4
   simp only[rn,RO.dst,lk,drop,Nat.reduceBEq,Nat.reduceAdd,Nat.reduceLeDiff,↓reduceIte,reduceCtorEq,q1,q2,q3,q4]
   simp[hne]
 | false=>
 by_cases q5:book1=book2
 case neg=>
  simp only[q5,decide_false] at e0
  simp only[rn,RO.dst,lk,drop,Nat.reduceBEq,Nat.reduceAdd,Nat.reduceLeDiff,↓reduceIte,reduceCtorEq,q1,q2,q3,q4,e0]
  simp[q5]
 simp only[q5,decide_true] at e0
 cases q6:(((xs.length:Nat):Int) !=((ys.length:Nat):Int)) with
 | true=>
   have hne:xs≠ys:=by rintro rfl;simp at q6
   simp only[rn,RO.dst,lk,drop,Nat.reduceBEq,Nat.reduceAdd,Nat.reduceLeDiff,↓reduceIte,reduceCtorEq,q1,q2,q3,q4,e0,w.len,v.len,q6]
   simp[hne]
 | false=>
 have he:xs.length=ys.length:=by simp at q6;omega
 have t1:lo1=lo2:=by simpa using q1
 have t2:hi1=hi2:=by simpa using q2
 have t3:state1=state2:=by simpa using q3
 have t4:epoch1=epoch2:=by simpa using q4
 have hq:decide ((⟨lo1,hi1,state1,epoch1,book1,xs⟩:Shard)=⟨lo2,hi2,state2,epoch2,book2,ys⟩)=decide (xs=ys):=by simp[t1,t2,t3,t4,q5]
 rw[hq]
 have key:=loop_allN (F:=F) (Z:=Z) (live:=[2,3,5]) (b:=r394L0) xs.length (fun i=>⟨[(5,.c (.int .i64 (i:Nat)))],[(2,2,0),(3,3,0)],[(2,[.int .u64 lo1,.int .u64 hi1,.int .i64 state1,.int .i64 epoch1,x1,x]),(3,[.int .u64 lo2,.int .u64 hi2,.int .i64 state2,.int .i64 epoch2,y1,y])],h⟩) (fun i=>decide (xs[i]? =ys[i]?)) (fun s=>lk s.env 4=some (.c (.bool false))∧s.hp=h) fun i hi=>by
  have hi':i<ys.length:=by omega
  have hlt:(i:Int)<xs.length:=by omega
  have hl1:=w.load hi
  have hl2:=v.load hi'
  rw[loop_run]
  conv in (codeF _ _ r394L0 _)=>unfold r394L0
  simp only[rn,RO.dst,lk,drop,Nat.reduceBEq,Nat.reduceAdd,Nat.reduceLeDiff,↓reduceIte,reduceCtorEq,w.len,hlt,w.idx hi,v.idx hi',hl1,hl2,Fin.len,Fin.tak,sameF_eqs,wrapS i (by omega)]
  rw[List.getElem?_eq_getElem hi,List.getElem?_eq_getElem hi']
  by_cases hq:xs[i]=ys[i]
  ·simp only[rn,RO.dst,lk,drop,Nat.reduceBEq,Nat.reduceAdd,Nat.reduceLeDiff,↓reduceIte,reduceCtorEq,hq,wrapS i (by omega)]
   exact .inl ⟨by simp,rfl⟩
  ·simp only[rn,RO.dst,lk,drop,Nat.reduceBEq,Nat.reduceAdd,Nat.reduceLeDiff,↓reduceIte,reduceCtorEq,hq]
   exact .inr ⟨by simp[hq],_,rfl,rfl,rfl⟩
 rw[all_same he] at key
 simp only[rn,RO.dst,lk,drop,Nat.reduceBEq,Nat.reduceAdd,Nat.reduceLeDiff,↓reduceIte,reduceCtorEq,q1,q2,q3,q4,e0,w.len,v.len,q6]
 rcases key with ⟨k1,k2⟩ | ⟨k1,s,k2,k3,k4⟩
 ·simp only[show ((0:Nat):Int)=0 from rfl] at k2
  rw[k2,loop_run]
  conv in (codeF _ _ r394L0 _)=>unfold r394L0
  have hlt: ¬(xs.length:Int)<xs.length:=by omega
  simp only[rn,RO.dst,lk,drop,Nat.reduceBEq,Nat.reduceAdd,Nat.reduceLeDiff,↓reduceIte,reduceCtorEq,w.len,hlt,k1]
 ·simp only[show ((0:Nat):Int)=0 from rfl] at k2
  rw[k2]
  simp only[rn,RO.dst,lk,drop,Nat.reduceBEq,Nat.reduceAdd,Nat.reduceLeDiff,↓reduceIte,reduceCtorEq,k3,k4,k1]
set_option maxHeartbeats 2000000 in
theorem sameStore_r {t u:Store} (hLStore:Has F tLStore) (hLShard:Has F tLShard) (hLBook:Has F tLBook) (v:Store.RI h cs t fp) (v':Store.RI h cs' u fq):call F Z 385 [.agg cs,.agg cs'] h=some (.c (.bool (decide (t=u))),h):=by
 obtain ⟨x,p2,rfl,rfl,w⟩:=v
 obtain ⟨y,p2',rfl,rfl,v⟩:=v'
 obtain ⟨g1,s1,xs⟩:=t
 obtain ⟨g2,s2,ys⟩:=u
 simp only at w v
 have hw:=w.le2
 have hv:=v.le2
 rw[call_run F Z (hLStore.lk (g:=385) rfl) _ _ rfl]
 cases q1:(g1 !=g2) with
 | true=>
   have hne:g1≠g2:=by simpa using q1
   simp only[rn,RO.dst,lk,drop,Nat.reduceBEq,Nat.reduceAdd,Nat.reduceLeDiff,↓reduceIte,reduceCtorEq,q1]
   simp[hne]
 | false=>
 cases q2:(s1 !=s2) with
 | true=>
   have hne:s1≠s2:=by simpa using q2
   simp only[rn,RO.dst,lk,drop,Nat.reduceBEq,Nat.reduceAdd,Nat.reduceLeDiff,↓reduceIte,reduceCtorEq,q1,q2]
   simp[hne]
 | false=>
 cases q6:(((xs.length:Nat):Int) !=((ys.length:Nat):Int)) with
 | true=>
   have hne:xs≠ys:=by rintro rfl;simp at q6
   simp only[rn,RO.dst,lk,drop,Nat.reduceBEq,Nat.reduceAdd,Nat.reduceLeDiff,↓reduceIte,reduceCtorEq,q1,q2,w.len,v.len,q6]
   simp[hne]
 | false=>
 have he:xs.length=ys.length:=by simp at q6;omega
 have t1:g1=g2:=by simpa using q1
 have t2:s1=s2:=by simpa using q2
 have hq:decide ((⟨g1,s1,xs⟩:Store)=⟨g2,s2,ys⟩)=decide (xs=ys):=by simp[t1,t2]
 rw[hq]
 have key:=loop_allN (F:=F) (Z:=Z) (live:=[2,3,5]) (b:=r385L0) xs.length (fun i=>⟨[(5,.c (.int .i64 (i:Nat)))],[(2,2,0),(3,3,0)],[(2,[.int .i64 g1,.int .i64 s1,x]),(3,[.int .i64 g2,.int .i64 s2,y])],h⟩) (fun i=>decide (xs[i]? =ys[i]?)) (fun s=>lk s.env 4=some (.c (.bool false))∧s.hp=h) fun i hi=>by
  have hi':i<ys.length:=by omega
  have hlt:(i:Int)<xs.length:=by omega
  obtain ⟨r,f,hld,hr,_⟩:=w.one hi
  obtain ⟨r',f',hld',hr',_⟩:=v.one hi'
  obtain ⟨l1,l2,l3⟩:=Shard.lenI hr
  obtain ⟨l1',l2',l3'⟩:=Shard.lenI hr'
  have e:=sameShard_r (Z:=Z) (h:=⟨h.next,h.next,h.get⟩) hLShard hLBook (Shard.okI.up hr _) (Shard.okI.up hr' _)
  rw[loop_run]
  conv in (codeF _ _ r385L0 _)=>unfold r385L0
  simp only[rn,RO.dst,lk,drop,Nat.reduceBEq,Nat.reduceAdd,Nat.reduceLeDiff,↓reduceIte,reduceCtorEq,w.len,hlt,w.idx hi,v.idx hi',hld,hld',l1,l2,l1',l2',e,wrapS i (by omega)]
  rw[List.getElem?_eq_getElem hi,List.getElem?_eq_getElem hi']
  by_cases hq:xs[i]=ys[i]
  ·simp only[rn,RO.dst,lk,drop,Nat.reduceBEq,Nat.reduceAdd,Nat.reduceLeDiff,↓reduceIte,reduceCtorEq,hq,wrapS i (by omega)]
   exact .inl ⟨by simp,rfl⟩
  ·simp only[rn,RO.dst,lk,drop,Nat.reduceBEq,Nat.reduceAdd,Nat.reduceLeDiff,↓reduceIte,reduceCtorEq,hq]
   exact .inr ⟨by simp[hq],_,rfl,rfl,rfl⟩
 rw[all_same he] at key
 simp only[rn,RO.dst,lk,drop,Nat.reduceBEq,Nat.reduceAdd,Nat.reduceLeDiff,↓reduceIte,reduceCtorEq,q1,q2,w.len,v.len,q6]
 rcases key with ⟨k1,k2⟩ | ⟨k1,s,k2,k3,k4⟩
 ·simp only[show ((0:Nat):Int)=0 from rfl] at k2
  rw[k2,loop_run]
  conv in (codeF _ _ r385L0 _)=>unfold r385L0
  have hlt: ¬(xs.length:Int)<xs.length:=by omega
  simp only[rn,RO.dst,lk,drop,Nat.reduceBEq,Nat.reduceAdd,Nat.reduceLeDiff,↓reduceIte,reduceCtorEq,w.len,hlt,k1]
 ·simp only[show ((0:Nat):Int)=0 from rfl] at k2
  rw[k2]
  simp only[rn,RO.dst,lk,drop,Nat.reduceBEq,Nat.reduceAdd,Nat.reduceLeDiff,↓reduceIte,reduceCtorEq,k3,k4,k1]
end
end Go.Proofs.YtahkgghifaodoaaGreat.A
namespace Go.Proofs.YtahkgghifaodoaaGreat.A
open Go
set_option linter.unusedSimpArgs false
set_option linter.unusedVariables false
section
variable {F:Nat→Option RF} {Z:CallF} {h:Heap} {cs:List Cell} {fp:List Nat} {s:Store}
set_option maxHeartbeats 4000000 in
set_option maxRecDepth 8000 in
theorem do_op0 (k:KI F) (hL:Has F tLibslicesIndexFuncimplShardimplShard) (pri:PrimAt F Z 343 (insF 11 40)) (prd:PrimAt F Z 348 (delF 11)) (prs:PrimAt F Z 375 (sortF 9 267)) (hf:h.floor≤h.next) (v:Store.RI h cs s fp) (qe qi qa qt:Int) (okq:(⟨qe,0,qi,qa,qt⟩:Request).Ok) (ok:s.Ok) (sm:s.Small):
 DoStoreAt F Z h cs s ⟨qe,0,qi,qa,qt⟩:=by
 unfold DoStoreAt
 obtain ⟨l1,l2,l3⟩:=Store.lenI v
 obtain ⟨cs1,h1,fr,e1,o1,v1,f1⟩:=copyStore_c (Z:=Z) k hf v sm
 obtain ⟨h2,e2,o2⟩:=isStore_run (Z:=Z) k (Store.okI.on v o1) ok
 obtain ⟨h3,e3,o3⟩:=shardWith_on (Z:=Z) k.i13 hL (Store.okI.on (Store.okI.on v o1) o2) qi
 have o12:=o1.trans o2
 have o13:=o12.trans o3
 obtain ⟨y,p,rfl,hp,w12⟩:=Store.okI.on v1 o2
 subst hp
 have w:=w12.on Shard.okI o3
 rw[call_run F Z (k.i13.lk (g:=387) rfl) _ _ rfl]
 simp only[Request.enc]
 cases hg:s.good with
 | false=>
   rw[hg] at e2
   rw[dost_bad (by simp[hg])]
   simp only[rn,RO.dst,lk,drop,Nat.reduceBEq,Nat.reduceAdd,Nat.reduceLeDiff,↓reduceIte,reduceCtorEq,Int.reduceLT,Int.reduceLE,Int.reduceGT,Int.reduceGE,Int.reduceBEq,Int.reduceBNe,Int.reduceEq,Int.reduceNe,Int.reduceNeg,l1,l2,l3,e1,e2]
   exact ⟨_,_,_,rfl,o12,⟨y,_,rfl,rfl,w12⟩,f1⟩
 | true=>
 rw[hg] at e2
 have hin:(s.good&&inR (⟨qe,0,qi,qa,qt⟩:Request).op 0 8)=true:=by rw[hg];rfl
 have v3:=Store.okI.on v o13
 obtain ⟨x,p,rfl,hp,wx⟩:=v3
 subst hp
 rcases wx.found (fun t=>decide (t.lo≤qi)&&decide (qi≤t.hi)) with q | ⟨i,q,hi,hpi,_⟩
 ·change findId s.shards qi= -1 at q
  rw[dost_away hin q]
  rw[q] at e3
  simp only[rn,RO.dst,lk,drop,Nat.reduceBEq,Nat.reduceAdd,Nat.reduceLeDiff,↓reduceIte,reduceCtorEq,Int.reduceLT,Int.reduceLE,Int.reduceGT,Int.reduceGE,Int.reduceBEq,Int.reduceBNe,Int.reduceEq,Int.reduceNe,Int.reduceNeg,l1,l2,l3,e1,e2,e3]
  exact ⟨_,_,_,rfl,o13,⟨y,_,rfl,rfl,w⟩,f1⟩
 change findId s.shards qi=(i:Int) at q
 rw[q] at e3
 rw[dost_at hin q,Shard.at_get hi]
 have g0: ¬(i:Int)<0:=by omega
 have hyi:=w.idx hi
 have okX:=ok.shards _ (List.getElem_mem hi)
 have smX:=sm.2 _ (List.getElem_mem hi)
 have smf:s.shards[i].finished.length≤1048576:=smX.2
 have smb:s.shards[i].book.list.length≤1048576:=smX.1
 have hbk:bookOk s.shards[i].book.list=true:=by
  have:=Store.fit_at hg hi
  simp only[Store.fits,Bool.and_eq_true,Shard.at_get hi,Shard.good,Shard.head] at this
  exact this.1.1.2.2.2.1
 obtain ⟨xb,xf,pb,pf,rows,hgr,hrr,wb,wf,fin⟩:=row_book o13 hf w f1 hi
 have hld:=fun j n=>loadP_row hgr hrr j n
 have eC:=containsFin_run (F:=F) (Z:=Z) k.li k.lc (wf.up (Fl.ok _) h3.next) ⟨qt,qi⟩
 simp only[Fin.enc] at eC
 have hlen:=wf.len
 obtain ⟨yb,hq,fb,eB,oB,uB,dB⟩:=doBook_c (Z:=Z) (h:=⟨h3.next,h3.next,h3.get⟩) k.i10 k.i13 pri prd (Nat.le_refl _) (wb.up (Fl.ok _) h3.next) ⟨qe,0,qi,qa,qt⟩ okq okX.book.list smb hbk
 simp only[Request.enc] at eB
 obtain ⟨g1,hg1⟩: ∃g1,Heap.mk hq.next h3.floor hq.get=g1:=⟨_,rfl⟩
 have oB1:On h3 g1:=by rw[←hg1];exact ⟨⟨oB.ext.1,oB.ext.2⟩,rfl⟩
 have uB1:SlR 11 (Fl Account.enc) g1 yb (doBook s.shards[i].book.list ⟨qe,0,qi,qa,qt⟩).1 fb:=by rw[←hg1];exact uB.up (Fl.ok _) h3.floor
 have ndB:fb.Nodup:=by
  rcases dB with d | ⟨_,d⟩
  ·exact d.nd
  ·rw[d];exact wb.nodup
 obtain ⟨g2,fqs,rows2,st,og2,fq2,w2,u2,hg2,hr2⟩:=fin g1 yb _ fb oB1 uB1 ndB (by
  rcases dB with d | ⟨_,d⟩
  ·exact .inl ⟨d.lo,d.nd⟩
  ·exact .inr d)
 cases cA:(s.shards[i].epoch !=qe) with
 | true=>
   have cA':(s.shards[i].epoch==qe)=false:=by simpa using cA
   have hR:refuse s.shards[i] ⟨qe,0,qi,qa,qt⟩=9:=by simp[refuse,inR,Request.ends,Request.fin,cA']
   rw[hR]
   simp only[show ((9:Int)==0)=false from rfl,cond_false]
   simp only[rn,RO.dst,lk,drop,Nat.reduceBEq,Nat.reduceAdd,Nat.reduceLeDiff,↓reduceIte,reduceCtorEq,Int.reduceLT,Int.reduceLE,Int.reduceGT,Int.reduceGE,Int.reduceBEq,Int.reduceBNe,Int.reduceEq,Int.reduceNe,Int.reduceNeg,l1,l2,l3,e1,e2,e3,hyi,hld,eC,hlen,g0,cA]
   exact ⟨_,_,_,rfl,o13,⟨y,_,rfl,rfl,w⟩,f1⟩
 | false=>
 have cA':(s.shards[i].epoch==qe)=true:=by simpa using cA
 cases cB:(s.shards[i].state==1) with
 | true=>
   have hR:refuse s.shards[i] ⟨qe,0,qi,qa,qt⟩=10:=by simp[refuse,inR,Request.ends,Request.fin,cA',cB]
   rw[hR]
   simp only[show ((10:Int)==0)=false from rfl,cond_false]
   simp only[rn,RO.dst,lk,drop,Nat.reduceBEq,Nat.reduceAdd,Nat.reduceLeDiff,↓reduceIte,reduceCtorEq,Int.reduceLT,Int.reduceLE,Int.reduceGT,Int.reduceGE,Int.reduceBEq,Int.reduceBNe,Int.reduceEq,Int.reduceNe,Int.reduceNeg,l1,l2,l3,e1,e2,e3,hyi,hld,eC,hlen,g0,cA,cB]
   exact ⟨_,_,_,rfl,o13,⟨y,_,rfl,rfl,w⟩,f1⟩
 | false=>
 have hR:refuse s.shards[i] ⟨qe,0,qi,qa,qt⟩=0:=by simp[refuse,inR,Request.ends,Request.fin,cA',cB]
 rw[hR]
 simp only[beq_self_eq_true,cond_true]
 have hS:doShard s.shards[i] ⟨qe,0,qi,qa,qt⟩={s.shards[i] with book:=⟨(doBook s.shards[i].book.list ⟨qe,0,qi,qa,qt⟩).1⟩}:=by simp[doShard,Request.ends,Request.fin,cA',cB]
 rw[hS]
 have eA:=accountOf_run (Z:=Z) k.i10 u2 qi
 rcases val_cases (a:=qi) (doBook_srt hbk ⟨qe,0,qi,qa,qt⟩) with ⟨v1,v2⟩ | ⟨v1,v2,v3,v4⟩ | ⟨v1,j,v2,v3,v4,v5,v6⟩
 ·have v1':((doBook s.shards[i].book.list ⟨qe,0,qi,qa,qt⟩).2==0)=false:=by simpa using v1
  rw[v2]
  simp only[rn,RO.dst,lk,drop,Nat.reduceBEq,Nat.reduceAdd,Nat.reduceLeDiff,↓reduceIte,reduceCtorEq,Int.reduceLT,Int.reduceLE,Int.reduceGT,Int.reduceGE,Int.reduceBEq,Int.reduceBNe,Int.reduceEq,Int.reduceNe,Int.reduceNeg,l1,l2,l3,e1,e2,e3,hyi,hld,eC,hlen,g0,cA,cB,eB,hg1,st,eA,v1']
  exact ⟨_,_,_,rfl,og2,⟨y,_,rfl,rfl,w2⟩,fq2⟩
 ·have v1':((doBook s.shards[i].book.list ⟨qe,0,qi,qa,qt⟩).2==0)=true:=by simpa using v1
  rw[v4]
  rw[v2] at eA
  simp only[rn,RO.dst,lk,drop,Nat.reduceBEq,Nat.reduceAdd,Nat.reduceLeDiff,↓reduceIte,reduceCtorEq,Int.reduceLT,Int.reduceLE,Int.reduceGT,Int.reduceGE,Int.reduceBEq,Int.reduceBNe,Int.reduceEq,Int.reduceNe,Int.reduceNeg,l1,l2,l3,e1,e2,e3,hyi,hld,eC,hlen,g0,cA,cB,eB,hg1,st,eA,v1']
  exact ⟨_,_,_,rfl,og2,⟨y,_,rfl,rfl,w2⟩,fq2⟩
 ·have v1':((doBook s.shards[i].book.list ⟨qe,0,qi,qa,qt⟩).2==0)=true:=by simpa using v1
  rw[v6,Account.at_get v5]
  rw[v2,v3] at eA
  have hx:=u2.idx v5
  have hl:=u2.load v5
  simp only[Account.enc] at hl
  simp only[rn,RO.dst,lk,drop,Nat.reduceBEq,Nat.reduceAdd,Nat.reduceLeDiff,↓reduceIte,reduceCtorEq,Int.reduceLT,Int.reduceLE,Int.reduceGT,Int.reduceGE,Int.reduceBEq,Int.reduceBNe,Int.reduceEq,Int.reduceNe,Int.reduceNeg,l1,l2,l3,e1,e2,e3,hyi,hld,eC,hlen,g0,cA,cB,eB,hg1,st,eA,v1',hx,hl]
  exact ⟨_,_,_,rfl,og2,⟨y,_,rfl,rfl,w2⟩,fq2⟩
set_option maxHeartbeats 4000000 in
set_option maxRecDepth 8000 in
theorem do_op1 (k:KI F) (hL:Has F tLibslicesIndexFuncimplShardimplShard) (pri:PrimAt F Z 343 (insF 11 40)) (prd:PrimAt F Z 348 (delF 11)) (prs:PrimAt F Z 375 (sortF 9 267)) (hf:h.floor≤h.next) (v:Store.RI h cs s fp) (qe qi qa qt:Int) (okq:(⟨qe,1,qi,qa,qt⟩:Request).Ok) (ok:s.Ok) (sm:s.Small):
 DoStoreAt F Z h cs s ⟨qe,1,qi,qa,qt⟩:=by
 unfold DoStoreAt
 obtain ⟨l1,l2,l3⟩:=Store.lenI v
 obtain ⟨cs1,h1,fr,e1,o1,v1,f1⟩:=copyStore_c (Z:=Z) k hf v sm
 obtain ⟨h2,e2,o2⟩:=isStore_run (Z:=Z) k (Store.okI.on v o1) ok
 obtain ⟨h3,e3,o3⟩:=shardWith_on (Z:=Z) k.i13 hL (Store.okI.on (Store.okI.on v o1) o2) qi
 have o12:=o1.trans o2
 have o13:=o12.trans o3
 obtain ⟨y,p,rfl,hp,w12⟩:=Store.okI.on v1 o2
 subst hp
 have w:=w12.on Shard.okI o3
 rw[call_run F Z (k.i13.lk (g:=387) rfl) _ _ rfl]
 simp only[Request.enc]
 cases hg:s.good with
 | false=>
   rw[hg] at e2
   rw[dost_bad (by simp[hg])]
   simp only[rn,RO.dst,lk,drop,Nat.reduceBEq,Nat.reduceAdd,Nat.reduceLeDiff,↓reduceIte,reduceCtorEq,Int.reduceLT,Int.reduceLE,Int.reduceGT,Int.reduceGE,Int.reduceBEq,Int.reduceBNe,Int.reduceEq,Int.reduceNe,Int.reduceNeg,l1,l2,l3,e1,e2]
   exact ⟨_,_,_,rfl,o12,⟨y,_,rfl,rfl,w12⟩,f1⟩
 | true=>
 rw[hg] at e2
 have hin:(s.good&&inR (⟨qe,1,qi,qa,qt⟩:Request).op 0 8)=true:=by rw[hg];rfl
 have v3:=Store.okI.on v o13
 obtain ⟨x,p,rfl,hp,wx⟩:=v3
 subst hp
 rcases wx.found (fun t=>decide (t.lo≤qi)&&decide (qi≤t.hi)) with q | ⟨i,q,hi,hpi,_⟩
 ·change findId s.shards qi= -1 at q
  rw[dost_away hin q]
  rw[q] at e3
  simp only[rn,RO.dst,lk,drop,Nat.reduceBEq,Nat.reduceAdd,Nat.reduceLeDiff,↓reduceIte,reduceCtorEq,Int.reduceLT,Int.reduceLE,Int.reduceGT,Int.reduceGE,Int.reduceBEq,Int.reduceBNe,Int.reduceEq,Int.reduceNe,Int.reduceNeg,l1,l2,l3,e1,e2,e3]
  exact ⟨_,_,_,rfl,o13,⟨y,_,rfl,rfl,w⟩,f1⟩
 change findId s.shards qi=(i:Int) at q
 rw[q] at e3
 rw[dost_at hin q,Shard.at_get hi]
 have g0: ¬(i:Int)<0:=by omega
 have hyi:=w.idx hi
 have okX:=ok.shards _ (List.getElem_mem hi)
 have smX:=sm.2 _ (List.getElem_mem hi)
 have smf:s.shards[i].finished.length≤1048576:=smX.2
 have smb:s.shards[i].book.list.length≤1048576:=smX.1
 have hbk:bookOk s.shards[i].book.list=true:=by
  have:=Store.fit_at hg hi
  simp only[Store.fits,Bool.and_eq_true,Shard.at_get hi,Shard.good,Shard.head] at this
  exact this.1.1.2.2.2.1
 obtain ⟨xb,xf,pb,pf,rows,hgr,hrr,wb,wf,fin⟩:=row_book o13 hf w f1 hi
 have hld:=fun j n=>loadP_row hgr hrr j n
 have eC:=containsFin_run (F:=F) (Z:=Z) k.li k.lc (wf.up (Fl.ok _) h3.next) ⟨qt,qi⟩
 simp only[Fin.enc] at eC
 have hlen:=wf.len
 obtain ⟨yb,hq,fb,eB,oB,uB,dB⟩:=doBook_c (Z:=Z) (h:=⟨h3.next,h3.next,h3.get⟩) k.i10 k.i13 pri prd (Nat.le_refl _) (wb.up (Fl.ok _) h3.next) ⟨qe,1,qi,qa,qt⟩ okq okX.book.list smb hbk
 simp only[Request.enc] at eB
 obtain ⟨g1,hg1⟩: ∃g1,Heap.mk hq.next h3.floor hq.get=g1:=⟨_,rfl⟩
 have oB1:On h3 g1:=by rw[←hg1];exact ⟨⟨oB.ext.1,oB.ext.2⟩,rfl⟩
 have uB1:SlR 11 (Fl Account.enc) g1 yb (doBook s.shards[i].book.list ⟨qe,1,qi,qa,qt⟩).1 fb:=by rw[←hg1];exact uB.up (Fl.ok _) h3.floor
 have ndB:fb.Nodup:=by
  rcases dB with d | ⟨_,d⟩
  ·exact d.nd
  ·rw[d];exact wb.nodup
 obtain ⟨g2,fqs,rows2,st,og2,fq2,w2,u2,hg2,hr2⟩:=fin g1 yb _ fb oB1 uB1 ndB (by
  rcases dB with d | ⟨_,d⟩
  ·exact .inl ⟨d.lo,d.nd⟩
  ·exact .inr d)
 cases cA:(s.shards[i].epoch !=qe) with
 | true=>
   have cA':(s.shards[i].epoch==qe)=false:=by simpa using cA
   have hR:refuse s.shards[i] ⟨qe,1,qi,qa,qt⟩=9:=by simp[refuse,inR,Request.ends,Request.fin,cA']
   rw[hR]
   simp only[show ((9:Int)==0)=false from rfl,cond_false]
   simp only[rn,RO.dst,lk,drop,Nat.reduceBEq,Nat.reduceAdd,Nat.reduceLeDiff,↓reduceIte,reduceCtorEq,Int.reduceLT,Int.reduceLE,Int.reduceGT,Int.reduceGE,Int.reduceBEq,Int.reduceBNe,Int.reduceEq,Int.reduceNe,Int.reduceNeg,l1,l2,l3,e1,e2,e3,hyi,hld,eC,hlen,g0,cA]
   exact ⟨_,_,_,rfl,o13,⟨y,_,rfl,rfl,w⟩,f1⟩
 | false=>
 have cA':(s.shards[i].epoch==qe)=true:=by simpa using cA
 cases cB:(s.shards[i].state==1) with
 | true=>
   have hR:refuse s.shards[i] ⟨qe,1,qi,qa,qt⟩=10:=by simp[refuse,inR,Request.ends,Request.fin,cA',cB]
   rw[hR]
   simp only[show ((10:Int)==0)=false from rfl,cond_false]
   simp only[rn,RO.dst,lk,drop,Nat.reduceBEq,Nat.reduceAdd,Nat.reduceLeDiff,↓reduceIte,reduceCtorEq,Int.reduceLT,Int.reduceLE,Int.reduceGT,Int.reduceGE,Int.reduceBEq,Int.reduceBNe,Int.reduceEq,Int.reduceNe,Int.reduceNeg,l1,l2,l3,e1,e2,e3,hyi,hld,eC,hlen,g0,cA,cB]
   exact ⟨_,_,_,rfl,o13,⟨y,_,rfl,rfl,w⟩,f1⟩
 | false=>
 have hR:refuse s.shards[i] ⟨qe,1,qi,qa,qt⟩=0:=by simp[refuse,inR,Request.ends,Request.fin,cA',cB]
 rw[hR]
 simp only[beq_self_eq_true,cond_true]
 have hS:doShard s.shards[i] ⟨qe,1,qi,qa,qt⟩={s.shards[i] with book:=⟨(doBook s.shards[i].book.list ⟨qe,1,qi,qa,qt⟩).1⟩}:=by simp[doShard,Request.ends,Request.fin,cA',cB]
 rw[hS]
 have eA:=accountOf_run (Z:=Z) k.i10 u2 qi
 rcases val_cases (a:=qi) (doBook_srt hbk ⟨qe,1,qi,qa,qt⟩) with ⟨v1,v2⟩ | ⟨v1,v2,v3,v4⟩ | ⟨v1,j,v2,v3,v4,v5,v6⟩
 ·have v1':((doBook s.shards[i].book.list ⟨qe,1,qi,qa,qt⟩).2==0)=false:=by simpa using v1
  rw[v2]
  simp only[rn,RO.dst,lk,drop,Nat.reduceBEq,Nat.reduceAdd,Nat.reduceLeDiff,↓reduceIte,reduceCtorEq,Int.reduceLT,Int.reduceLE,Int.reduceGT,Int.reduceGE,Int.reduceBEq,Int.reduceBNe,Int.reduceEq,Int.reduceNe,Int.reduceNeg,l1,l2,l3,e1,e2,e3,hyi,hld,eC,hlen,g0,cA,cB,eB,hg1,st,eA,v1']
  exact ⟨_,_,_,rfl,og2,⟨y,_,rfl,rfl,w2⟩,fq2⟩
 ·have v1':((doBook s.shards[i].book.list ⟨qe,1,qi,qa,qt⟩).2==0)=true:=by simpa using v1
  rw[v4]
  rw[v2] at eA
  simp only[rn,RO.dst,lk,drop,Nat.reduceBEq,Nat.reduceAdd,Nat.reduceLeDiff,↓reduceIte,reduceCtorEq,Int.reduceLT,Int.reduceLE,Int.reduceGT,Int.reduceGE,Int.reduceBEq,Int.reduceBNe,Int.reduceEq,Int.reduceNe,Int.reduceNeg,l1,l2,l3,e1,e2,e3,hyi,hld,eC,hlen,g0,cA,cB,eB,hg1,st,eA,v1']
  exact ⟨_,_,_,rfl,og2,⟨y,_,rfl,rfl,w2⟩,fq2⟩
 ·have v1':((doBook s.shards[i].book.list ⟨qe,1,qi,qa,qt⟩).2==0)=true:=by simpa using v1
  rw[v6,Account.at_get v5]
  rw[v2,v3] at eA
  have hx:=u2.idx v5
  have hl:=u2.load v5
  simp only[Account.enc] at hl
  simp only[rn,RO.dst,lk,drop,Nat.reduceBEq,Nat.reduceAdd,Nat.reduceLeDiff,↓reduceIte,reduceCtorEq,Int.reduceLT,Int.reduceLE,Int.reduceGT,Int.reduceGE,Int.reduceBEq,Int.reduceBNe,Int.reduceEq,Int.reduceNe,Int.reduceNeg,l1,l2,l3,e1,e2,e3,hyi,hld,eC,hlen,g0,cA,cB,eB,hg1,st,eA,v1',hx,hl]
  exact ⟨_,_,_,rfl,og2,⟨y,_,rfl,rfl,w2⟩,fq2⟩
set_option maxHeartbeats 4000000 in
set_option maxRecDepth 8000 in
theorem do_op2 (k:KI F) (hL:Has F tLibslicesIndexFuncimplShardimplShard) (pri:PrimAt F Z 343 (insF 11 40)) (prd:PrimAt F Z 348 (delF 11)) (prs:PrimAt F Z 375 (sortF 9 267)) (hf:h.floor≤h.next) (v:Store.RI h cs s fp) (qe qi qa qt:Int) (okq:(⟨qe,2,qi,qa,qt⟩:Request).Ok) (ok:s.Ok) (sm:s.Small):
 DoStoreAt F Z h cs s ⟨qe,2,qi,qa,qt⟩:=by
 unfold DoStoreAt
 obtain ⟨l1,l2,l3⟩:=Store.lenI v
 obtain ⟨cs1,h1,fr,e1,o1,v1,f1⟩:=copyStore_c (Z:=Z) k hf v sm
 obtain ⟨h2,e2,o2⟩:=isStore_run (Z:=Z) k (Store.okI.on v o1) ok
 obtain ⟨h3,e3,o3⟩:=shardWith_on (Z:=Z) k.i13 hL (Store.okI.on (Store.okI.on v o1) o2) qi
 have o12:=o1.trans o2
 have o13:=o12.trans o3
 obtain ⟨y,p,rfl,hp,w12⟩:=Store.okI.on v1 o2
 subst hp
 have w:=w12.on Shard.okI o3
 rw[call_run F Z (k.i13.lk (g:=387) rfl) _ _ rfl]
 simp only[Request.enc]
 cases hg:s.good with
 | false=>
   rw[hg] at e2
   rw[dost_bad (by simp[hg])]
   simp only[rn,RO.dst,lk,drop,Nat.reduceBEq,Nat.reduceAdd,Nat.reduceLeDiff,↓reduceIte,reduceCtorEq,Int.reduceLT,Int.reduceLE,Int.reduceGT,Int.reduceGE,Int.reduceBEq,Int.reduceBNe,Int.reduceEq,Int.reduceNe,Int.reduceNeg,l1,l2,l3,e1,e2]
   exact ⟨_,_,_,rfl,o12,⟨y,_,rfl,rfl,w12⟩,f1⟩
 | true=>
 rw[hg] at e2
 have hin:(s.good&&inR (⟨qe,2,qi,qa,qt⟩:Request).op 0 8)=true:=by rw[hg];rfl
 have v3:=Store.okI.on v o13
 obtain ⟨x,p,rfl,hp,wx⟩:=v3
 subst hp
 rcases wx.found (fun t=>decide (t.lo≤qi)&&decide (qi≤t.hi)) with q | ⟨i,q,hi,hpi,_⟩
 ·change findId s.shards qi= -1 at q
  rw[dost_away hin q]
  rw[q] at e3
  simp only[rn,RO.dst,lk,drop,Nat.reduceBEq,Nat.reduceAdd,Nat.reduceLeDiff,↓reduceIte,reduceCtorEq,Int.reduceLT,Int.reduceLE,Int.reduceGT,Int.reduceGE,Int.reduceBEq,Int.reduceBNe,Int.reduceEq,Int.reduceNe,Int.reduceNeg,l1,l2,l3,e1,e2,e3]
  exact ⟨_,_,_,rfl,o13,⟨y,_,rfl,rfl,w⟩,f1⟩
 change findId s.shards qi=(i:Int) at q
 rw[q] at e3
 rw[dost_at hin q,Shard.at_get hi]
 have g0: ¬(i:Int)<0:=by omega
 have hyi:=w.idx hi
 have okX:=ok.shards _ (List.getElem_mem hi)
 have smX:=sm.2 _ (List.getElem_mem hi)
 have smf:s.shards[i].finished.length≤1048576:=smX.2
 have smb:s.shards[i].book.list.length≤1048576:=smX.1
 have hbk:bookOk s.shards[i].book.list=true:=by
  have:=Store.fit_at hg hi
  simp only[Store.fits,Bool.and_eq_true,Shard.at_get hi,Shard.good,Shard.head] at this
  exact this.1.1.2.2.2.1
 obtain ⟨xb,xf,pb,pf,rows,hgr,hrr,wb,wf,fin⟩:=row_book o13 hf w f1 hi
 have hld:=fun j n=>loadP_row hgr hrr j n
 have eC:=containsFin_run (F:=F) (Z:=Z) k.li k.lc (wf.up (Fl.ok _) h3.next) ⟨qt,qi⟩
 simp only[Fin.enc] at eC
 have hlen:=wf.len
 obtain ⟨yb,hq,fb,eB,oB,uB,dB⟩:=doBook_c (Z:=Z) (h:=⟨h3.next,h3.next,h3.get⟩) k.i10 k.i13 pri prd (Nat.le_refl _) (wb.up (Fl.ok _) h3.next) ⟨qe,2,qi,qa,qt⟩ okq okX.book.list smb hbk
 simp only[Request.enc] at eB
 obtain ⟨g1,hg1⟩: ∃g1,Heap.mk hq.next h3.floor hq.get=g1:=⟨_,rfl⟩
 have oB1:On h3 g1:=by rw[←hg1];exact ⟨⟨oB.ext.1,oB.ext.2⟩,rfl⟩
 have uB1:SlR 11 (Fl Account.enc) g1 yb (doBook s.shards[i].book.list ⟨qe,2,qi,qa,qt⟩).1 fb:=by rw[←hg1];exact uB.up (Fl.ok _) h3.floor
 have ndB:fb.Nodup:=by
  rcases dB with d | ⟨_,d⟩
  ·exact d.nd
  ·rw[d];exact wb.nodup
 obtain ⟨g2,fqs,rows2,st,og2,fq2,w2,u2,hg2,hr2⟩:=fin g1 yb _ fb oB1 uB1 ndB (by
  rcases dB with d | ⟨_,d⟩
  ·exact .inl ⟨d.lo,d.nd⟩
  ·exact .inr d)
 cases cA:(s.shards[i].epoch !=qe) with
 | true=>
   have cA':(s.shards[i].epoch==qe)=false:=by simpa using cA
   have hR:refuse s.shards[i] ⟨qe,2,qi,qa,qt⟩=9:=by simp[refuse,inR,Request.ends,Request.fin,cA']
   rw[hR]
   simp only[show ((9:Int)==0)=false from rfl,cond_false]
   simp only[rn,RO.dst,lk,drop,Nat.reduceBEq,Nat.reduceAdd,Nat.reduceLeDiff,↓reduceIte,reduceCtorEq,Int.reduceLT,Int.reduceLE,Int.reduceGT,Int.reduceGE,Int.reduceBEq,Int.reduceBNe,Int.reduceEq,Int.reduceNe,Int.reduceNeg,l1,l2,l3,e1,e2,e3,hyi,hld,eC,hlen,g0,cA]
   exact ⟨_,_,_,rfl,o13,⟨y,_,rfl,rfl,w⟩,f1⟩
 | false=>
 have cA':(s.shards[i].epoch==qe)=true:=by simpa using cA
 cases cB:(s.shards[i].state==1) with
 | true=>
   have hR:refuse s.shards[i] ⟨qe,2,qi,qa,qt⟩=10:=by simp[refuse,inR,Request.ends,Request.fin,cA',cB]
   rw[hR]
   simp only[show ((10:Int)==0)=false from rfl,cond_false]
   simp only[rn,RO.dst,lk,drop,Nat.reduceBEq,Nat.reduceAdd,Nat.reduceLeDiff,↓reduceIte,reduceCtorEq,Int.reduceLT,Int.reduceLE,Int.reduceGT,Int.reduceGE,Int.reduceBEq,Int.reduceBNe,Int.reduceEq,Int.reduceNe,Int.reduceNeg,l1,l2,l3,e1,e2,e3,hyi,hld,eC,hlen,g0,cA,cB]
   exact ⟨_,_,_,rfl,o13,⟨y,_,rfl,rfl,w⟩,f1⟩
 | false=>
 have hR:refuse s.shards[i] ⟨qe,2,qi,qa,qt⟩=0:=by simp[refuse,inR,Request.ends,Request.fin,cA',cB]
 rw[hR]
 simp only[beq_self_eq_true,cond_true]
 have hS:doShard s.shards[i] ⟨qe,2,qi,qa,qt⟩={s.shards[i] with book:=⟨(doBook s.shards[i].book.list ⟨qe,2,qi,qa,qt⟩).1⟩}:=by simp[doShard,Request.ends,Request.fin,cA',cB]
 rw[hS]
 have eA:=accountOf_run (Z:=Z) k.i10 u2 qi
 rcases val_cases (a:=qi) (doBook_srt hbk ⟨qe,2,qi,qa,qt⟩) with ⟨v1,v2⟩ | ⟨v1,v2,v3,v4⟩ | ⟨v1,j,v2,v3,v4,v5,v6⟩
 ·have v1':((doBook s.shards[i].book.list ⟨qe,2,qi,qa,qt⟩).2==0)=false:=by simpa using v1
  rw[v2]
  simp only[rn,RO.dst,lk,drop,Nat.reduceBEq,Nat.reduceAdd,Nat.reduceLeDiff,↓reduceIte,reduceCtorEq,Int.reduceLT,Int.reduceLE,Int.reduceGT,Int.reduceGE,Int.reduceBEq,Int.reduceBNe,Int.reduceEq,Int.reduceNe,Int.reduceNeg,l1,l2,l3,e1,e2,e3,hyi,hld,eC,hlen,g0,cA,cB,eB,hg1,st,eA,v1']
  exact ⟨_,_,_,rfl,og2,⟨y,_,rfl,rfl,w2⟩,fq2⟩
 ·have v1':((doBook s.shards[i].book.list ⟨qe,2,qi,qa,qt⟩).2==0)=true:=by simpa using v1
  rw[v4]
  rw[v2] at eA
  simp only[rn,RO.dst,lk,drop,Nat.reduceBEq,Nat.reduceAdd,Nat.reduceLeDiff,↓reduceIte,reduceCtorEq,Int.reduceLT,Int.reduceLE,Int.reduceGT,Int.reduceGE,Int.reduceBEq,Int.reduceBNe,Int.reduceEq,Int.reduceNe,Int.reduceNeg,l1,l2,l3,e1,e2,e3,hyi,hld,eC,hlen,g0,cA,cB,eB,hg1,st,eA,v1']
  exact ⟨_,_,_,rfl,og2,⟨y,_,rfl,rfl,w2⟩,fq2⟩
 ·have v1':((doBook s.shards[i].book.list ⟨qe,2,qi,qa,qt⟩).2==0)=true:=by simpa using v1
  rw[v6,Account.at_get v5]
  rw[v2,v3] at eA
  have hx:=u2.idx v5
  have hl:=u2.load v5
  simp only[Account.enc] at hl
  simp only[rn,RO.dst,lk,drop,Nat.reduceBEq,Nat.reduceAdd,Nat.reduceLeDiff,↓reduceIte,reduceCtorEq,Int.reduceLT,Int.reduceLE,Int.reduceGT,Int.reduceGE,Int.reduceBEq,Int.reduceBNe,Int.reduceEq,Int.reduceNe,Int.reduceNeg,l1,l2,l3,e1,e2,e3,hyi,hld,eC,hlen,g0,cA,cB,eB,hg1,st,eA,v1',hx,hl]
  exact ⟨_,_,_,rfl,og2,⟨y,_,rfl,rfl,w2⟩,fq2⟩
end
end Go.Proofs.YtahkgghifaodoaaGreat.A
namespace Go.Proofs.YtahkgghifaodoaaGreat.A
open Go
set_option linter.unusedSimpArgs false
set_option linter.unusedVariables false
section
variable {F:Nat→Option RF} {Z:CallF} {h:Heap} {cs:List Cell} {fp:List Nat} {s:Store}
set_option maxHeartbeats 4000000 in
set_option maxRecDepth 8000 in
theorem do_op3 (k:KI F) (hL:Has F tLibslicesIndexFuncimplShardimplShard) (pri:PrimAt F Z 343 (insF 11 40)) (prd:PrimAt F Z 348 (delF 11)) (prs:PrimAt F Z 375 (sortF 9 267)) (hf:h.floor≤h.next) (v:Store.RI h cs s fp) (qe qi qa qt:Int) (okq:(⟨qe,3,qi,qa,qt⟩:Request).Ok) (ok:s.Ok) (sm:s.Small):
 DoStoreAt F Z h cs s ⟨qe,3,qi,qa,qt⟩:=by
 unfold DoStoreAt
 obtain ⟨l1,l2,l3⟩:=Store.lenI v
 obtain ⟨cs1,h1,fr,e1,o1,v1,f1⟩:=copyStore_c (Z:=Z) k hf v sm
 obtain ⟨h2,e2,o2⟩:=isStore_run (Z:=Z) k (Store.okI.on v o1) ok
 obtain ⟨h3,e3,o3⟩:=shardWith_on (Z:=Z) k.i13 hL (Store.okI.on (Store.okI.on v o1) o2) qi
 have o12:=o1.trans o2
 have o13:=o12.trans o3
 obtain ⟨y,p,rfl,hp,w12⟩:=Store.okI.on v1 o2
 subst hp
 have w:=w12.on Shard.okI o3
 rw[call_run F Z (k.i13.lk (g:=387) rfl) _ _ rfl]
 simp only[Request.enc]
 cases hg:s.good with
 | false=>
   rw[hg] at e2
   rw[dost_bad (by simp[hg])]
   simp only[rn,RO.dst,lk,drop,Nat.reduceBEq,Nat.reduceAdd,Nat.reduceLeDiff,↓reduceIte,reduceCtorEq,Int.reduceLT,Int.reduceLE,Int.reduceGT,Int.reduceGE,Int.reduceBEq,Int.reduceBNe,Int.reduceEq,Int.reduceNe,Int.reduceNeg,l1,l2,l3,e1,e2]
   exact ⟨_,_,_,rfl,o12,⟨y,_,rfl,rfl,w12⟩,f1⟩
 | true=>
 rw[hg] at e2
 have hin:(s.good&&inR (⟨qe,3,qi,qa,qt⟩:Request).op 0 8)=true:=by rw[hg];rfl
 have v3:=Store.okI.on v o13
 obtain ⟨x,p,rfl,hp,wx⟩:=v3
 subst hp
 rcases wx.found (fun t=>decide (t.lo≤qi)&&decide (qi≤t.hi)) with q | ⟨i,q,hi,hpi,_⟩
 ·change findId s.shards qi= -1 at q
  rw[dost_away hin q]
  rw[q] at e3
  simp only[rn,RO.dst,lk,drop,Nat.reduceBEq,Nat.reduceAdd,Nat.reduceLeDiff,↓reduceIte,reduceCtorEq,Int.reduceLT,Int.reduceLE,Int.reduceGT,Int.reduceGE,Int.reduceBEq,Int.reduceBNe,Int.reduceEq,Int.reduceNe,Int.reduceNeg,l1,l2,l3,e1,e2,e3]
  exact ⟨_,_,_,rfl,o13,⟨y,_,rfl,rfl,w⟩,f1⟩
 change findId s.shards qi=(i:Int) at q
 rw[q] at e3
 rw[dost_at hin q,Shard.at_get hi]
 have g0: ¬(i:Int)<0:=by omega
 have hyi:=w.idx hi
 have okX:=ok.shards _ (List.getElem_mem hi)
 have smX:=sm.2 _ (List.getElem_mem hi)
 have smf:s.shards[i].finished.length≤1048576:=smX.2
 have smb:s.shards[i].book.list.length≤1048576:=smX.1
 have hbk:bookOk s.shards[i].book.list=true:=by
  have:=Store.fit_at hg hi
  simp only[Store.fits,Bool.and_eq_true,Shard.at_get hi,Shard.good,Shard.head] at this
  exact this.1.1.2.2.2.1
 obtain ⟨xb,xf,pb,pf,rows,hgr,hrr,wb,wf,fin⟩:=row_book o13 hf w f1 hi
 have hld:=fun j n=>loadP_row hgr hrr j n
 have eC:=containsFin_run (F:=F) (Z:=Z) k.li k.lc (wf.up (Fl.ok _) h3.next) ⟨qt,qi⟩
 simp only[Fin.enc] at eC
 have hlen:=wf.len
 obtain ⟨yb,hq,fb,eB,oB,uB,dB⟩:=doBook_c (Z:=Z) (h:=⟨h3.next,h3.next,h3.get⟩) k.i10 k.i13 pri prd (Nat.le_refl _) (wb.up (Fl.ok _) h3.next) ⟨qe,3,qi,qa,qt⟩ okq okX.book.list smb hbk
 simp only[Request.enc] at eB
 obtain ⟨g1,hg1⟩: ∃g1,Heap.mk hq.next h3.floor hq.get=g1:=⟨_,rfl⟩
 have oB1:On h3 g1:=by rw[←hg1];exact ⟨⟨oB.ext.1,oB.ext.2⟩,rfl⟩
 have uB1:SlR 11 (Fl Account.enc) g1 yb (doBook s.shards[i].book.list ⟨qe,3,qi,qa,qt⟩).1 fb:=by rw[←hg1];exact uB.up (Fl.ok _) h3.floor
 have ndB:fb.Nodup:=by
  rcases dB with d | ⟨_,d⟩
  ·exact d.nd
  ·rw[d];exact wb.nodup
 obtain ⟨g2,fqs,rows2,st,og2,fq2,w2,u2,hg2,hr2⟩:=fin g1 yb _ fb oB1 uB1 ndB (by
  rcases dB with d | ⟨_,d⟩
  ·exact .inl ⟨d.lo,d.nd⟩
  ·exact .inr d)
 cases cA:(s.shards[i].epoch !=qe) with
 | true=>
   have cA':(s.shards[i].epoch==qe)=false:=by simpa using cA
   have hR:refuse s.shards[i] ⟨qe,3,qi,qa,qt⟩=9:=by simp[refuse,inR,Request.ends,Request.fin,cA']
   rw[hR]
   simp only[show ((9:Int)==0)=false from rfl,cond_false]
   simp only[rn,RO.dst,lk,drop,Nat.reduceBEq,Nat.reduceAdd,Nat.reduceLeDiff,↓reduceIte,reduceCtorEq,Int.reduceLT,Int.reduceLE,Int.reduceGT,Int.reduceGE,Int.reduceBEq,Int.reduceBNe,Int.reduceEq,Int.reduceNe,Int.reduceNeg,l1,l2,l3,e1,e2,e3,hyi,hld,eC,hlen,g0,cA]
   exact ⟨_,_,_,rfl,o13,⟨y,_,rfl,rfl,w⟩,f1⟩
 | false=>
 have cA':(s.shards[i].epoch==qe)=true:=by simpa using cA
 cases cB:(s.shards[i].state==1) with
 | true=>
   have hR:refuse s.shards[i] ⟨qe,3,qi,qa,qt⟩=10:=by simp[refuse,inR,Request.ends,Request.fin,cA',cB]
   rw[hR]
   simp only[show ((10:Int)==0)=false from rfl,cond_false]
   simp only[rn,RO.dst,lk,drop,Nat.reduceBEq,Nat.reduceAdd,Nat.reduceLeDiff,↓reduceIte,reduceCtorEq,Int.reduceLT,Int.reduceLE,Int.reduceGT,Int.reduceGE,Int.reduceBEq,Int.reduceBNe,Int.reduceEq,Int.reduceNe,Int.reduceNeg,l1,l2,l3,e1,e2,e3,hyi,hld,eC,hlen,g0,cA,cB]
   exact ⟨_,_,_,rfl,o13,⟨y,_,rfl,rfl,w⟩,f1⟩
 | false=>
 have hR:refuse s.shards[i] ⟨qe,3,qi,qa,qt⟩=0:=by simp[refuse,inR,Request.ends,Request.fin,cA',cB]
 rw[hR]
 simp only[beq_self_eq_true,cond_true]
 have hS:doShard s.shards[i] ⟨qe,3,qi,qa,qt⟩={s.shards[i] with book:=⟨(doBook s.shards[i].book.list ⟨qe,3,qi,qa,qt⟩).1⟩}:=by simp[doShard,Request.ends,Request.fin,cA',cB]
 rw[hS]
 have eA:=accountOf_run (Z:=Z) k.i10 u2 qi
 rcases val_cases (a:=qi) (doBook_srt hbk ⟨qe,3,qi,qa,qt⟩) with ⟨v1,v2⟩ | ⟨v1,v2,v3,v4⟩ | ⟨v1,j,v2,v3,v4,v5,v6⟩
 ·have v1':((doBook s.shards[i].book.list ⟨qe,3,qi,qa,qt⟩).2==0)=false:=by simpa using v1
  rw[v2]
  simp only[rn,RO.dst,lk,drop,Nat.reduceBEq,Nat.reduceAdd,Nat.reduceLeDiff,↓reduceIte,reduceCtorEq,Int.reduceLT,Int.reduceLE,Int.reduceGT,Int.reduceGE,Int.reduceBEq,Int.reduceBNe,Int.reduceEq,Int.reduceNe,Int.reduceNeg,l1,l2,l3,e1,e2,e3,hyi,hld,eC,hlen,g0,cA,cB,eB,hg1,st,eA,v1']
  exact ⟨_,_,_,rfl,og2,⟨y,_,rfl,rfl,w2⟩,fq2⟩
 ·have v1':((doBook s.shards[i].book.list ⟨qe,3,qi,qa,qt⟩).2==0)=true:=by simpa using v1
  rw[v4]
  rw[v2] at eA
  simp only[rn,RO.dst,lk,drop,Nat.reduceBEq,Nat.reduceAdd,Nat.reduceLeDiff,↓reduceIte,reduceCtorEq,Int.reduceLT,Int.reduceLE,Int.reduceGT,Int.reduceGE,Int.reduceBEq,Int.reduceBNe,Int.reduceEq,Int.reduceNe,Int.reduceNeg,l1,l2,l3,e1,e2,e3,hyi,hld,eC,hlen,g0,cA,cB,eB,hg1,st,eA,v1']
  exact ⟨_,_,_,rfl,og2,⟨y,_,rfl,rfl,w2⟩,fq2⟩
 ·have v1':((doBook s.shards[i].book.list ⟨qe,3,qi,qa,qt⟩).2==0)=true:=by simpa using v1
  rw[v6,Account.at_get v5]
  rw[v2,v3] at eA
  have hx:=u2.idx v5
  have hl:=u2.load v5
  simp only[Account.enc] at hl
  simp only[rn,RO.dst,lk,drop,Nat.reduceBEq,Nat.reduceAdd,Nat.reduceLeDiff,↓reduceIte,reduceCtorEq,Int.reduceLT,Int.reduceLE,Int.reduceGT,Int.reduceGE,Int.reduceBEq,Int.reduceBNe,Int.reduceEq,Int.reduceNe,Int.reduceNeg,l1,l2,l3,e1,e2,e3,hyi,hld,eC,hlen,g0,cA,cB,eB,hg1,st,eA,v1',hx,hl]
  exact ⟨_,_,_,rfl,og2,⟨y,_,rfl,rfl,w2⟩,fq2⟩
set_option maxHeartbeats 4000000 in
set_option maxRecDepth 8000 in
theorem do_op4 (k:KI F) (hL:Has F tLibslicesIndexFuncimplShardimplShard) (pri:PrimAt F Z 343 (insF 11 40)) (prd:PrimAt F Z 348 (delF 11)) (prs:PrimAt F Z 375 (sortF 9 267)) (hf:h.floor≤h.next) (v:Store.RI h cs s fp) (qe qi qa qt:Int) (okq:(⟨qe,4,qi,qa,qt⟩:Request).Ok) (ok:s.Ok) (sm:s.Small):
 DoStoreAt F Z h cs s ⟨qe,4,qi,qa,qt⟩:=by
 unfold DoStoreAt
 obtain ⟨l1,l2,l3⟩:=Store.lenI v
 obtain ⟨cs1,h1,fr,e1,o1,v1,f1⟩:=copyStore_c (Z:=Z) k hf v sm
 obtain ⟨h2,e2,o2⟩:=isStore_run (Z:=Z) k (Store.okI.on v o1) ok
 obtain ⟨h3,e3,o3⟩:=shardWith_on (Z:=Z) k.i13 hL (Store.okI.on (Store.okI.on v o1) o2) qi
 have o12:=o1.trans o2
 have o13:=o12.trans o3
 obtain ⟨y,p,rfl,hp,w12⟩:=Store.okI.on v1 o2
 subst hp
 have w:=w12.on Shard.okI o3
 rw[call_run F Z (k.i13.lk (g:=387) rfl) _ _ rfl]
 simp only[Request.enc]
 cases hg:s.good with
 | false=>
   rw[hg] at e2
   rw[dost_bad (by simp[hg])]
   simp only[rn,RO.dst,lk,drop,Nat.reduceBEq,Nat.reduceAdd,Nat.reduceLeDiff,↓reduceIte,reduceCtorEq,Int.reduceLT,Int.reduceLE,Int.reduceGT,Int.reduceGE,Int.reduceBEq,Int.reduceBNe,Int.reduceEq,Int.reduceNe,Int.reduceNeg,l1,l2,l3,e1,e2]
   exact ⟨_,_,_,rfl,o12,⟨y,_,rfl,rfl,w12⟩,f1⟩
 | true=>
 rw[hg] at e2
 have hin:(s.good&&inR (⟨qe,4,qi,qa,qt⟩:Request).op 0 8)=true:=by rw[hg];rfl
 have v3:=Store.okI.on v o13
 obtain ⟨x,p,rfl,hp,wx⟩:=v3
 subst hp
 rcases wx.found (fun t=>decide (t.lo≤qi)&&decide (qi≤t.hi)) with q | ⟨i,q,hi,hpi,_⟩
 ·change findId s.shards qi= -1 at q
  rw[dost_away hin q]
  rw[q] at e3
  simp only[rn,RO.dst,lk,drop,Nat.reduceBEq,Nat.reduceAdd,Nat.reduceLeDiff,↓reduceIte,reduceCtorEq,Int.reduceLT,Int.reduceLE,Int.reduceGT,Int.reduceGE,Int.reduceBEq,Int.reduceBNe,Int.reduceEq,Int.reduceNe,Int.reduceNeg,l1,l2,l3,e1,e2,e3]
  exact ⟨_,_,_,rfl,o13,⟨y,_,rfl,rfl,w⟩,f1⟩
 change findId s.shards qi=(i:Int) at q
 rw[q] at e3
 rw[dost_at hin q,Shard.at_get hi]
 have g0: ¬(i:Int)<0:=by omega
 have hyi:=w.idx hi
 have okX:=ok.shards _ (List.getElem_mem hi)
 have smX:=sm.2 _ (List.getElem_mem hi)
 have smf:s.shards[i].finished.length≤1048576:=smX.2
 have smb:s.shards[i].book.list.length≤1048576:=smX.1
 have hbk:bookOk s.shards[i].book.list=true:=by
  have:=Store.fit_at hg hi
  simp only[Store.fits,Bool.and_eq_true,Shard.at_get hi,Shard.good,Shard.head] at this
  exact this.1.1.2.2.2.1
 obtain ⟨xb,xf,pb,pf,rows,hgr,hrr,wb,wf,fin⟩:=row_book o13 hf w f1 hi
 have hld:=fun j n=>loadP_row hgr hrr j n
 have eC:=containsFin_run (F:=F) (Z:=Z) k.li k.lc (wf.up (Fl.ok _) h3.next) ⟨qt,qi⟩
 simp only[Fin.enc] at eC
 have hlen:=wf.len
 obtain ⟨yb,hq,fb,eB,oB,uB,dB⟩:=doBook_c (Z:=Z) (h:=⟨h3.next,h3.next,h3.get⟩) k.i10 k.i13 pri prd (Nat.le_refl _) (wb.up (Fl.ok _) h3.next) ⟨qe,4,qi,qa,qt⟩ okq okX.book.list smb hbk
 simp only[Request.enc] at eB
 obtain ⟨g1,hg1⟩: ∃g1,Heap.mk hq.next h3.floor hq.get=g1:=⟨_,rfl⟩
 have oB1:On h3 g1:=by rw[←hg1];exact ⟨⟨oB.ext.1,oB.ext.2⟩,rfl⟩
 have uB1:SlR 11 (Fl Account.enc) g1 yb (doBook s.shards[i].book.list ⟨qe,4,qi,qa,qt⟩).1 fb:=by rw[←hg1];exact uB.up (Fl.ok _) h3.floor
 have ndB:fb.Nodup:=by
  rcases dB with d | ⟨_,d⟩
  ·exact d.nd
  ·rw[d];exact wb.nodup
 obtain ⟨g2,fqs,rows2,st,og2,fq2,w2,u2,hg2,hr2⟩:=fin g1 yb _ fb oB1 uB1 ndB (by
  rcases dB with d | ⟨_,d⟩
  ·exact .inl ⟨d.lo,d.nd⟩
  ·exact .inr d)
 cases cA:(s.shards[i].epoch !=qe) with
 | true=>
   have cA':(s.shards[i].epoch==qe)=false:=by simpa using cA
   have hR:refuse s.shards[i] ⟨qe,4,qi,qa,qt⟩=9:=by simp[refuse,inR,Request.ends,Request.fin,cA']
   rw[hR]
   simp only[show ((9:Int)==0)=false from rfl,cond_false]
   simp only[rn,RO.dst,lk,drop,Nat.reduceBEq,Nat.reduceAdd,Nat.reduceLeDiff,↓reduceIte,reduceCtorEq,Int.reduceLT,Int.reduceLE,Int.reduceGT,Int.reduceGE,Int.reduceBEq,Int.reduceBNe,Int.reduceEq,Int.reduceNe,Int.reduceNeg,l1,l2,l3,e1,e2,e3,hyi,hld,eC,hlen,g0,cA]
   exact ⟨_,_,_,rfl,o13,⟨y,_,rfl,rfl,w⟩,f1⟩
 | false=>
 have cA':(s.shards[i].epoch==qe)=true:=by simpa using cA
 cases cB:(s.shards[i].state==1) with
 | true=>
   have hR:refuse s.shards[i] ⟨qe,4,qi,qa,qt⟩=10:=by simp[refuse,inR,Request.ends,Request.fin,cA',cB]
   rw[hR]
   simp only[show ((10:Int)==0)=false from rfl,cond_false]
   simp only[rn,RO.dst,lk,drop,Nat.reduceBEq,Nat.reduceAdd,Nat.reduceLeDiff,↓reduceIte,reduceCtorEq,Int.reduceLT,Int.reduceLE,Int.reduceGT,Int.reduceGE,Int.reduceBEq,Int.reduceBNe,Int.reduceEq,Int.reduceNe,Int.reduceNeg,l1,l2,l3,e1,e2,e3,hyi,hld,eC,hlen,g0,cA,cB]
   exact ⟨_,_,_,rfl,o13,⟨y,_,rfl,rfl,w⟩,f1⟩
 | false=>
 by_cases cC:qt<1
 ·have hR:refuse s.shards[i] ⟨qe,4,qi,qa,qt⟩=11:=by simp[refuse,inR,Request.ends,Request.fin,cA',cB,cC]
  rw[hR]
  simp only[show ((11:Int)==0)=false from rfl,cond_false]
  simp only[rn,RO.dst,lk,drop,Nat.reduceBEq,Nat.reduceAdd,Nat.reduceLeDiff,↓reduceIte,reduceCtorEq,Int.reduceLT,Int.reduceLE,Int.reduceGT,Int.reduceGE,Int.reduceBEq,Int.reduceBNe,Int.reduceEq,Int.reduceNe,Int.reduceNeg,l1,l2,l3,e1,e2,e3,hyi,hld,eC,hlen,g0,cA,cB,cC]
  exact ⟨_,_,_,rfl,o13,⟨y,_,rfl,rfl,w⟩,f1⟩
 cases cD:decide ((⟨qt,qi⟩:Fin)∈s.shards[i].finished) with
 | true=>
   have cD':(⟨qt,qi⟩:Fin)∈s.shards[i].finished:=of_decide_eq_true cD
   have hR:refuse s.shards[i] ⟨qe,4,qi,qa,qt⟩=12:=by simp[refuse,inR,Request.ends,Request.fin,cA',cB,cC,cD']
   rw[hR]
   simp only[show ((12:Int)==0)=false from rfl,cond_false]
   simp only[rn,RO.dst,lk,drop,Nat.reduceBEq,Nat.reduceAdd,Nat.reduceLeDiff,↓reduceIte,reduceCtorEq,Int.reduceLT,Int.reduceLE,Int.reduceGT,Int.reduceGE,Int.reduceBEq,Int.reduceBNe,Int.reduceEq,Int.reduceNe,Int.reduceNeg,l1,l2,l3,e1,e2,e3,hyi,hld,eC,hlen,g0,cA,cB,cC,cD]
   exact ⟨_,_,_,rfl,o13,⟨y,_,rfl,rfl,w⟩,f1⟩
 | false=>
 have cD': ¬(⟨qt,qi⟩:Fin)∈s.shards[i].finished:=of_decide_eq_false cD
 have hR:refuse s.shards[i] ⟨qe,4,qi,qa,qt⟩=0:=by simp[refuse,inR,Request.ends,Request.fin,cA',cB,cC,cD']
 rw[hR]
 simp only[beq_self_eq_true,cond_true]
 have hS:doShard s.shards[i] ⟨qe,4,qi,qa,qt⟩={s.shards[i] with book:=⟨(doBook s.shards[i].book.list ⟨qe,4,qi,qa,qt⟩).1⟩}:=by simp[doShard,Request.ends,Request.fin,cA',cB,cC,cD']
 rw[hS]
 have eA:=accountOf_run (Z:=Z) k.i10 u2 qi
 rcases val_cases (a:=qi) (doBook_srt hbk ⟨qe,4,qi,qa,qt⟩) with ⟨v1,v2⟩ | ⟨v1,v2,v3,v4⟩ | ⟨v1,j,v2,v3,v4,v5,v6⟩
 ·have v1':((doBook s.shards[i].book.list ⟨qe,4,qi,qa,qt⟩).2==0)=false:=by simpa using v1
  rw[v2]
  simp only[rn,RO.dst,lk,drop,Nat.reduceBEq,Nat.reduceAdd,Nat.reduceLeDiff,↓reduceIte,reduceCtorEq,Int.reduceLT,Int.reduceLE,Int.reduceGT,Int.reduceGE,Int.reduceBEq,Int.reduceBNe,Int.reduceEq,Int.reduceNe,Int.reduceNeg,l1,l2,l3,e1,e2,e3,hyi,hld,eC,hlen,g0,cA,cB,cC,cD,eB,hg1,st,eA,v1']
  exact ⟨_,_,_,rfl,og2,⟨y,_,rfl,rfl,w2⟩,fq2⟩
 ·have v1':((doBook s.shards[i].book.list ⟨qe,4,qi,qa,qt⟩).2==0)=true:=by simpa using v1
  rw[v4]
  rw[v2] at eA
  simp only[rn,RO.dst,lk,drop,Nat.reduceBEq,Nat.reduceAdd,Nat.reduceLeDiff,↓reduceIte,reduceCtorEq,Int.reduceLT,Int.reduceLE,Int.reduceGT,Int.reduceGE,Int.reduceBEq,Int.reduceBNe,Int.reduceEq,Int.reduceNe,Int.reduceNeg,l1,l2,l3,e1,e2,e3,hyi,hld,eC,hlen,g0,cA,cB,cC,cD,eB,hg1,st,eA,v1']
  exact ⟨_,_,_,rfl,og2,⟨y,_,rfl,rfl,w2⟩,fq2⟩
 ·have v1':((doBook s.shards[i].book.list ⟨qe,4,qi,qa,qt⟩).2==0)=true:=by simpa using v1
  rw[v6,Account.at_get v5]
  rw[v2,v3] at eA
  have hx:=u2.idx v5
  have hl:=u2.load v5
  simp only[Account.enc] at hl
  simp only[rn,RO.dst,lk,drop,Nat.reduceBEq,Nat.reduceAdd,Nat.reduceLeDiff,↓reduceIte,reduceCtorEq,Int.reduceLT,Int.reduceLE,Int.reduceGT,Int.reduceGE,Int.reduceBEq,Int.reduceBNe,Int.reduceEq,Int.reduceNe,Int.reduceNeg,l1,l2,l3,e1,e2,e3,hyi,hld,eC,hlen,g0,cA,cB,cC,cD,eB,hg1,st,eA,v1',hx,hl]
  exact ⟨_,_,_,rfl,og2,⟨y,_,rfl,rfl,w2⟩,fq2⟩
set_option maxHeartbeats 4000000 in
set_option maxRecDepth 8000 in
theorem do_op5 (k:KI F) (hL:Has F tLibslicesIndexFuncimplShardimplShard) (pri:PrimAt F Z 343 (insF 11 40)) (prd:PrimAt F Z 348 (delF 11)) (prs:PrimAt F Z 375 (sortF 9 267)) (hf:h.floor≤h.next) (v:Store.RI h cs s fp) (qe qi qa qt:Int) (okq:(⟨qe,5,qi,qa,qt⟩:Request).Ok) (ok:s.Ok) (sm:s.Small):
 DoStoreAt F Z h cs s ⟨qe,5,qi,qa,qt⟩:=by
 unfold DoStoreAt
 obtain ⟨l1,l2,l3⟩:=Store.lenI v
 obtain ⟨cs1,h1,fr,e1,o1,v1,f1⟩:=copyStore_c (Z:=Z) k hf v sm
 obtain ⟨h2,e2,o2⟩:=isStore_run (Z:=Z) k (Store.okI.on v o1) ok
 obtain ⟨h3,e3,o3⟩:=shardWith_on (Z:=Z) k.i13 hL (Store.okI.on (Store.okI.on v o1) o2) qi
 have o12:=o1.trans o2
 have o13:=o12.trans o3
 obtain ⟨y,p,rfl,hp,w12⟩:=Store.okI.on v1 o2
 subst hp
 have w:=w12.on Shard.okI o3
 rw[call_run F Z (k.i13.lk (g:=387) rfl) _ _ rfl]
 simp only[Request.enc]
 cases hg:s.good with
 | false=>
   rw[hg] at e2
   rw[dost_bad (by simp[hg])]
   simp only[rn,RO.dst,lk,drop,Nat.reduceBEq,Nat.reduceAdd,Nat.reduceLeDiff,↓reduceIte,reduceCtorEq,Int.reduceLT,Int.reduceLE,Int.reduceGT,Int.reduceGE,Int.reduceBEq,Int.reduceBNe,Int.reduceEq,Int.reduceNe,Int.reduceNeg,l1,l2,l3,e1,e2]
   exact ⟨_,_,_,rfl,o12,⟨y,_,rfl,rfl,w12⟩,f1⟩
 | true=>
 rw[hg] at e2
 have hin:(s.good&&inR (⟨qe,5,qi,qa,qt⟩:Request).op 0 8)=true:=by rw[hg];rfl
 have v3:=Store.okI.on v o13
 obtain ⟨x,p,rfl,hp,wx⟩:=v3
 subst hp
 rcases wx.found (fun t=>decide (t.lo≤qi)&&decide (qi≤t.hi)) with q | ⟨i,q,hi,hpi,_⟩
 ·change findId s.shards qi= -1 at q
  rw[dost_away hin q]
  rw[q] at e3
  simp only[rn,RO.dst,lk,drop,Nat.reduceBEq,Nat.reduceAdd,Nat.reduceLeDiff,↓reduceIte,reduceCtorEq,Int.reduceLT,Int.reduceLE,Int.reduceGT,Int.reduceGE,Int.reduceBEq,Int.reduceBNe,Int.reduceEq,Int.reduceNe,Int.reduceNeg,l1,l2,l3,e1,e2,e3]
  exact ⟨_,_,_,rfl,o13,⟨y,_,rfl,rfl,w⟩,f1⟩
 change findId s.shards qi=(i:Int) at q
 rw[q] at e3
 rw[dost_at hin q,Shard.at_get hi]
 have g0: ¬(i:Int)<0:=by omega
 have hyi:=w.idx hi
 have okX:=ok.shards _ (List.getElem_mem hi)
 have smX:=sm.2 _ (List.getElem_mem hi)
 have smf:s.shards[i].finished.length≤1048576:=smX.2
 have smb:s.shards[i].book.list.length≤1048576:=smX.1
 have hbk:bookOk s.shards[i].book.list=true:=by
  have:=Store.fit_at hg hi
  simp only[Store.fits,Bool.and_eq_true,Shard.at_get hi,Shard.good,Shard.head] at this
  exact this.1.1.2.2.2.1
 obtain ⟨xb,xf,pb,pf,rows,hgr,hrr,wb,wf,fin⟩:=row_book o13 hf w f1 hi
 have hld:=fun j n=>loadP_row hgr hrr j n
 have eC:=containsFin_run (F:=F) (Z:=Z) k.li k.lc (wf.up (Fl.ok _) h3.next) ⟨qt,qi⟩
 simp only[Fin.enc] at eC
 have hlen:=wf.len
 obtain ⟨yb,hq,fb,eB,oB,uB,dB⟩:=doBook_c (Z:=Z) (h:=⟨h3.next,h3.next,h3.get⟩) k.i10 k.i13 pri prd (Nat.le_refl _) (wb.up (Fl.ok _) h3.next) ⟨qe,5,qi,qa,qt⟩ okq okX.book.list smb hbk
 simp only[Request.enc] at eB
 obtain ⟨g1,hg1⟩: ∃g1,Heap.mk hq.next h3.floor hq.get=g1:=⟨_,rfl⟩
 have oB1:On h3 g1:=by rw[←hg1];exact ⟨⟨oB.ext.1,oB.ext.2⟩,rfl⟩
 have uB1:SlR 11 (Fl Account.enc) g1 yb (doBook s.shards[i].book.list ⟨qe,5,qi,qa,qt⟩).1 fb:=by rw[←hg1];exact uB.up (Fl.ok _) h3.floor
 have ndB:fb.Nodup:=by
  rcases dB with d | ⟨_,d⟩
  ·exact d.nd
  ·rw[d];exact wb.nodup
 obtain ⟨g2,fqs,rows2,st,og2,fq2,w2,u2,hg2,hr2⟩:=fin g1 yb _ fb oB1 uB1 ndB (by
  rcases dB with d | ⟨_,d⟩
  ·exact .inl ⟨d.lo,d.nd⟩
  ·exact .inr d)
 cases cA:(s.shards[i].epoch !=qe) with
 | true=>
   have cA':(s.shards[i].epoch==qe)=false:=by simpa using cA
   have hR:refuse s.shards[i] ⟨qe,5,qi,qa,qt⟩=9:=by simp[refuse,inR,Request.ends,Request.fin,cA']
   rw[hR]
   simp only[show ((9:Int)==0)=false from rfl,cond_false]
   simp only[rn,RO.dst,lk,drop,Nat.reduceBEq,Nat.reduceAdd,Nat.reduceLeDiff,↓reduceIte,reduceCtorEq,Int.reduceLT,Int.reduceLE,Int.reduceGT,Int.reduceGE,Int.reduceBEq,Int.reduceBNe,Int.reduceEq,Int.reduceNe,Int.reduceNeg,l1,l2,l3,e1,e2,e3,hyi,hld,eC,hlen,g0,cA]
   exact ⟨_,_,_,rfl,o13,⟨y,_,rfl,rfl,w⟩,f1⟩
 | false=>
 have cA':(s.shards[i].epoch==qe)=true:=by simpa using cA
 cases cB:(s.shards[i].state==1) with
 | true=>
   have hR:refuse s.shards[i] ⟨qe,5,qi,qa,qt⟩=10:=by simp[refuse,inR,Request.ends,Request.fin,cA',cB]
   rw[hR]
   simp only[show ((10:Int)==0)=false from rfl,cond_false]
   simp only[rn,RO.dst,lk,drop,Nat.reduceBEq,Nat.reduceAdd,Nat.reduceLeDiff,↓reduceIte,reduceCtorEq,Int.reduceLT,Int.reduceLE,Int.reduceGT,Int.reduceGE,Int.reduceBEq,Int.reduceBNe,Int.reduceEq,Int.reduceNe,Int.reduceNeg,l1,l2,l3,e1,e2,e3,hyi,hld,eC,hlen,g0,cA,cB]
   exact ⟨_,_,_,rfl,o13,⟨y,_,rfl,rfl,w⟩,f1⟩
 | false=>
 by_cases cC:qt<1
 ·have hR:refuse s.shards[i] ⟨qe,5,qi,qa,qt⟩=11:=by simp[refuse,inR,Request.ends,Request.fin,cA',cB,cC]
  rw[hR]
  simp only[show ((11:Int)==0)=false from rfl,cond_false]
  simp only[rn,RO.dst,lk,drop,Nat.reduceBEq,Nat.reduceAdd,Nat.reduceLeDiff,↓reduceIte,reduceCtorEq,Int.reduceLT,Int.reduceLE,Int.reduceGT,Int.reduceGE,Int.reduceBEq,Int.reduceBNe,Int.reduceEq,Int.reduceNe,Int.reduceNeg,l1,l2,l3,e1,e2,e3,hyi,hld,eC,hlen,g0,cA,cB,cC]
  exact ⟨_,_,_,rfl,o13,⟨y,_,rfl,rfl,w⟩,f1⟩
 cases cD:decide ((⟨qt,qi⟩:Fin)∈s.shards[i].finished) with
 | true=>
   have cD':(⟨qt,qi⟩:Fin)∈s.shards[i].finished:=of_decide_eq_true cD
   have hR:refuse s.shards[i] ⟨qe,5,qi,qa,qt⟩=12:=by simp[refuse,inR,Request.ends,Request.fin,cA',cB,cC,cD']
   rw[hR]
   simp only[show ((12:Int)==0)=false from rfl,cond_false]
   simp only[rn,RO.dst,lk,drop,Nat.reduceBEq,Nat.reduceAdd,Nat.reduceLeDiff,↓reduceIte,reduceCtorEq,Int.reduceLT,Int.reduceLE,Int.reduceGT,Int.reduceGE,Int.reduceBEq,Int.reduceBNe,Int.reduceEq,Int.reduceNe,Int.reduceNeg,l1,l2,l3,e1,e2,e3,hyi,hld,eC,hlen,g0,cA,cB,cC,cD]
   exact ⟨_,_,_,rfl,o13,⟨y,_,rfl,rfl,w⟩,f1⟩
 | false=>
 have cD': ¬(⟨qt,qi⟩:Fin)∈s.shards[i].finished:=of_decide_eq_false cD
 have hR:refuse s.shards[i] ⟨qe,5,qi,qa,qt⟩=0:=by simp[refuse,inR,Request.ends,Request.fin,cA',cB,cC,cD']
 rw[hR]
 simp only[beq_self_eq_true,cond_true]
 have hS:doShard s.shards[i] ⟨qe,5,qi,qa,qt⟩={s.shards[i] with book:=⟨(doBook s.shards[i].book.list ⟨qe,5,qi,qa,qt⟩).1⟩}:=by simp[doShard,Request.ends,Request.fin,cA',cB,cC,cD']
 rw[hS]
 have eA:=accountOf_run (Z:=Z) k.i10 u2 qi
 rcases val_cases (a:=qi) (doBook_srt hbk ⟨qe,5,qi,qa,qt⟩) with ⟨v1,v2⟩ | ⟨v1,v2,v3,v4⟩ | ⟨v1,j,v2,v3,v4,v5,v6⟩
 ·have v1':((doBook s.shards[i].book.list ⟨qe,5,qi,qa,qt⟩).2==0)=false:=by simpa using v1
  rw[v2]
  simp only[rn,RO.dst,lk,drop,Nat.reduceBEq,Nat.reduceAdd,Nat.reduceLeDiff,↓reduceIte,reduceCtorEq,Int.reduceLT,Int.reduceLE,Int.reduceGT,Int.reduceGE,Int.reduceBEq,Int.reduceBNe,Int.reduceEq,Int.reduceNe,Int.reduceNeg,l1,l2,l3,e1,e2,e3,hyi,hld,eC,hlen,g0,cA,cB,cC,cD,eB,hg1,st,eA,v1']
  exact ⟨_,_,_,rfl,og2,⟨y,_,rfl,rfl,w2⟩,fq2⟩
 ·have v1':((doBook s.shards[i].book.list ⟨qe,5,qi,qa,qt⟩).2==0)=true:=by simpa using v1
  rw[v4]
  rw[v2] at eA
  simp only[rn,RO.dst,lk,drop,Nat.reduceBEq,Nat.reduceAdd,Nat.reduceLeDiff,↓reduceIte,reduceCtorEq,Int.reduceLT,Int.reduceLE,Int.reduceGT,Int.reduceGE,Int.reduceBEq,Int.reduceBNe,Int.reduceEq,Int.reduceNe,Int.reduceNeg,l1,l2,l3,e1,e2,e3,hyi,hld,eC,hlen,g0,cA,cB,cC,cD,eB,hg1,st,eA,v1']
  exact ⟨_,_,_,rfl,og2,⟨y,_,rfl,rfl,w2⟩,fq2⟩
 ·have v1':((doBook s.shards[i].book.list ⟨qe,5,qi,qa,qt⟩).2==0)=true:=by simpa using v1
  rw[v6,Account.at_get v5]
  rw[v2,v3] at eA
  have hx:=u2.idx v5
  have hl:=u2.load v5
  simp only[Account.enc] at hl
  simp only[rn,RO.dst,lk,drop,Nat.reduceBEq,Nat.reduceAdd,Nat.reduceLeDiff,↓reduceIte,reduceCtorEq,Int.reduceLT,Int.reduceLE,Int.reduceGT,Int.reduceGE,Int.reduceBEq,Int.reduceBNe,Int.reduceEq,Int.reduceNe,Int.reduceNeg,l1,l2,l3,e1,e2,e3,hyi,hld,eC,hlen,g0,cA,cB,cC,cD,eB,hg1,st,eA,v1',hx,hl]
  exact ⟨_,_,_,rfl,og2,⟨y,_,rfl,rfl,w2⟩,fq2⟩
end
end Go.Proofs.YtahkgghifaodoaaGreat.A
namespace Go.Proofs.YtahkgghifaodoaaGreat.A
open Go
set_option linter.unusedSimpArgs false
set_option linter.unusedVariables false
section
variable {F:Nat→Option RF} {Z:CallF} {h:Heap} {cs:List Cell} {fp:List Nat} {s:Store}
set_option maxHeartbeats 4000000 in
set_option maxRecDepth 8000 in
theorem do_op6 (k:KI F) (hL:Has F tLibslicesIndexFuncimplShardimplShard) (pri:PrimAt F Z 343 (insF 11 40)) (prd:PrimAt F Z 348 (delF 11)) (prs:PrimAt F Z 375 (sortF 9 267)) (hf:h.floor≤h.next) (v:Store.RI h cs s fp) (qe qi qa qt:Int) (okq:(⟨qe,6,qi,qa,qt⟩:Request).Ok) (ok:s.Ok) (sm:s.Small):
 DoStoreAt F Z h cs s ⟨qe,6,qi,qa,qt⟩:=by
 unfold DoStoreAt
 obtain ⟨l1,l2,l3⟩:=Store.lenI v
 obtain ⟨cs1,h1,fr,e1,o1,v1,f1⟩:=copyStore_c (Z:=Z) k hf v sm
 obtain ⟨h2,e2,o2⟩:=isStore_run (Z:=Z) k (Store.okI.on v o1) ok
 obtain ⟨h3,e3,o3⟩:=shardWith_on (Z:=Z) k.i13 hL (Store.okI.on (Store.okI.on v o1) o2) qi
 have o12:=o1.trans o2
 have o13:=o12.trans o3
 obtain ⟨y,p,rfl,hp,w12⟩:=Store.okI.on v1 o2
 subst hp
 have w:=w12.on Shard.okI o3
 rw[call_run F Z (k.i13.lk (g:=387) rfl) _ _ rfl]
 simp only[Request.enc]
 cases hg:s.good with
 | false=>
   rw[hg] at e2
   rw[dost_bad (by simp[hg])]
   simp only[rn,RO.dst,lk,drop,Nat.reduceBEq,Nat.reduceAdd,Nat.reduceLeDiff,↓reduceIte,reduceCtorEq,Int.reduceLT,Int.reduceLE,Int.reduceGT,Int.reduceGE,Int.reduceBEq,Int.reduceBNe,Int.reduceEq,Int.reduceNe,Int.reduceNeg,l1,l2,l3,e1,e2]
   exact ⟨_,_,_,rfl,o12,⟨y,_,rfl,rfl,w12⟩,f1⟩
 | true=>
 rw[hg] at e2
 have hin:(s.good&&inR (⟨qe,6,qi,qa,qt⟩:Request).op 0 8)=true:=by rw[hg];rfl
 have v3:=Store.okI.on v o13
 obtain ⟨x,p,rfl,hp,wx⟩:=v3
 subst hp
 rcases wx.found (fun t=>decide (t.lo≤qi)&&decide (qi≤t.hi)) with q | ⟨i,q,hi,hpi,_⟩
 ·change findId s.shards qi= -1 at q
  rw[dost_away hin q]
  rw[q] at e3
  simp only[rn,RO.dst,lk,drop,Nat.reduceBEq,Nat.reduceAdd,Nat.reduceLeDiff,↓reduceIte,reduceCtorEq,Int.reduceLT,Int.reduceLE,Int.reduceGT,Int.reduceGE,Int.reduceBEq,Int.reduceBNe,Int.reduceEq,Int.reduceNe,Int.reduceNeg,l1,l2,l3,e1,e2,e3]
  exact ⟨_,_,_,rfl,o13,⟨y,_,rfl,rfl,w⟩,f1⟩
 change findId s.shards qi=(i:Int) at q
 rw[q] at e3
 rw[dost_at hin q,Shard.at_get hi]
 have g0: ¬(i:Int)<0:=by omega
 have hyi:=w.idx hi
 have okX:=ok.shards _ (List.getElem_mem hi)
 have smX:=sm.2 _ (List.getElem_mem hi)
 have smf:s.shards[i].finished.length≤1048576:=smX.2
 have smb:s.shards[i].book.list.length≤1048576:=smX.1
 have hbk:bookOk s.shards[i].book.list=true:=by
  have:=Store.fit_at hg hi
  simp only[Store.fits,Bool.and_eq_true,Shard.at_get hi,Shard.good,Shard.head] at this
  exact this.1.1.2.2.2.1
 obtain ⟨xb,xf,pb,pf,rows,hgr,hrr,wb,wf,fin⟩:=row_book o13 hf w f1 hi
 have hld:=fun j n=>loadP_row hgr hrr j n
 have eC:=containsFin_run (F:=F) (Z:=Z) k.li k.lc (wf.up (Fl.ok _) h3.next) ⟨qt,qi⟩
 simp only[Fin.enc] at eC
 have hlen:=wf.len
 obtain ⟨yb,hq,fb,eB,oB,uB,dB⟩:=doBook_c (Z:=Z) (h:=⟨h3.next,h3.next,h3.get⟩) k.i10 k.i13 pri prd (Nat.le_refl _) (wb.up (Fl.ok _) h3.next) ⟨qe,6,qi,qa,qt⟩ okq okX.book.list smb hbk
 simp only[Request.enc] at eB
 obtain ⟨g1,hg1⟩: ∃g1,Heap.mk hq.next h3.floor hq.get=g1:=⟨_,rfl⟩
 have oB1:On h3 g1:=by rw[←hg1];exact ⟨⟨oB.ext.1,oB.ext.2⟩,rfl⟩
 have uB1:SlR 11 (Fl Account.enc) g1 yb (doBook s.shards[i].book.list ⟨qe,6,qi,qa,qt⟩).1 fb:=by rw[←hg1];exact uB.up (Fl.ok _) h3.floor
 have ndB:fb.Nodup:=by
  rcases dB with d | ⟨_,d⟩
  ·exact d.nd
  ·rw[d];exact wb.nodup
 obtain ⟨g2,fqs,rows2,st,og2,fq2,w2,u2,hg2,hr2⟩:=fin g1 yb _ fb oB1 uB1 ndB (by
  rcases dB with d | ⟨_,d⟩
  ·exact .inl ⟨d.lo,d.nd⟩
  ·exact .inr d)
 cases cA:(s.shards[i].epoch !=qe) with
 | true=>
   have cA':(s.shards[i].epoch==qe)=false:=by simpa using cA
   have hR:refuse s.shards[i] ⟨qe,6,qi,qa,qt⟩=9:=by simp[refuse,inR,Request.ends,Request.fin,cA']
   rw[hR]
   simp only[show ((9:Int)==0)=false from rfl,cond_false]
   simp only[rn,RO.dst,lk,drop,Nat.reduceBEq,Nat.reduceAdd,Nat.reduceLeDiff,↓reduceIte,reduceCtorEq,Int.reduceLT,Int.reduceLE,Int.reduceGT,Int.reduceGE,Int.reduceBEq,Int.reduceBNe,Int.reduceEq,Int.reduceNe,Int.reduceNeg,l1,l2,l3,e1,e2,e3,hyi,hld,eC,hlen,g0,cA]
   exact ⟨_,_,_,rfl,o13,⟨y,_,rfl,rfl,w⟩,f1⟩
 | false=>
 have cA':(s.shards[i].epoch==qe)=true:=by simpa using cA
 cases cB:(s.shards[i].state==1) with
 | true=>
   have hR:refuse s.shards[i] ⟨qe,6,qi,qa,qt⟩=10:=by simp[refuse,inR,Request.ends,Request.fin,cA',cB]
   rw[hR]
   simp only[show ((10:Int)==0)=false from rfl,cond_false]
   simp only[rn,RO.dst,lk,drop,Nat.reduceBEq,Nat.reduceAdd,Nat.reduceLeDiff,↓reduceIte,reduceCtorEq,Int.reduceLT,Int.reduceLE,Int.reduceGT,Int.reduceGE,Int.reduceBEq,Int.reduceBNe,Int.reduceEq,Int.reduceNe,Int.reduceNeg,l1,l2,l3,e1,e2,e3,hyi,hld,eC,hlen,g0,cA,cB]
   exact ⟨_,_,_,rfl,o13,⟨y,_,rfl,rfl,w⟩,f1⟩
 | false=>
 by_cases cC:qt<1
 ·have hR:refuse s.shards[i] ⟨qe,6,qi,qa,qt⟩=11:=by simp[refuse,inR,Request.ends,Request.fin,cA',cB,cC]
  rw[hR]
  simp only[show ((11:Int)==0)=false from rfl,cond_false]
  simp only[rn,RO.dst,lk,drop,Nat.reduceBEq,Nat.reduceAdd,Nat.reduceLeDiff,↓reduceIte,reduceCtorEq,Int.reduceLT,Int.reduceLE,Int.reduceGT,Int.reduceGE,Int.reduceBEq,Int.reduceBNe,Int.reduceEq,Int.reduceNe,Int.reduceNeg,l1,l2,l3,e1,e2,e3,hyi,hld,eC,hlen,g0,cA,cB,cC]
  exact ⟨_,_,_,rfl,o13,⟨y,_,rfl,rfl,w⟩,f1⟩
 cases cD:decide ((⟨qt,qi⟩:Fin)∈s.shards[i].finished) with
 | true=>
   have cD':(⟨qt,qi⟩:Fin)∈s.shards[i].finished:=of_decide_eq_true cD
   have hR:refuse s.shards[i] ⟨qe,6,qi,qa,qt⟩=0:=by simp[refuse,inR,Request.ends,Request.fin,cA',cB,cC,cD']
   rw[hR]
   simp only[beq_self_eq_true,cond_true]
   have hS:doShard s.shards[i] ⟨qe,6,qi,qa,qt⟩={s.shards[i] with book:=⟨(doBook s.shards[i].book.list ⟨qe,6,qi,qa,qt⟩).1⟩}:=by simp[doShard,Request.ends,Request.fin,cA',cB,cC,cD']
   rw[hS]
   have eA:=accountOf_run (Z:=Z) k.i10 u2 qi
   rcases val_cases (a:=qi) (doBook_srt hbk ⟨qe,6,qi,qa,qt⟩) with ⟨v1,v2⟩ | ⟨v1,v2,v3,v4⟩ | ⟨v1,j,v2,v3,v4,v5,v6⟩
   ·have v1':((doBook s.shards[i].book.list ⟨qe,6,qi,qa,qt⟩).2==0)=false:=by simpa using v1
    rw[v2]
    simp only[rn,RO.dst,lk,drop,Nat.reduceBEq,Nat.reduceAdd,Nat.reduceLeDiff,↓reduceIte,reduceCtorEq,Int.reduceLT,Int.reduceLE,Int.reduceGT,Int.reduceGE,Int.reduceBEq,Int.reduceBNe,Int.reduceEq,Int.reduceNe,Int.reduceNeg,l1,l2,l3,e1,e2,e3,hyi,hld,eC,hlen,g0,cA,cB,cC,cD,eB,hg1,st,eA,v1']
    exact ⟨_,_,_,rfl,og2,⟨y,_,rfl,rfl,w2⟩,fq2⟩
   ·have v1':((doBook s.shards[i].book.list ⟨qe,6,qi,qa,qt⟩).2==0)=true:=by simpa using v1
    rw[v4]
    rw[v2] at eA
    simp only[rn,RO.dst,lk,drop,Nat.reduceBEq,Nat.reduceAdd,Nat.reduceLeDiff,↓reduceIte,reduceCtorEq,Int.reduceLT,Int.reduceLE,Int.reduceGT,Int.reduceGE,Int.reduceBEq,Int.reduceBNe,Int.reduceEq,Int.reduceNe,Int.reduceNeg,l1,l2,l3,e1,e2,e3,hyi,hld,eC,hlen,g0,cA,cB,cC,cD,eB,hg1,st,eA,v1']
    exact ⟨_,_,_,rfl,og2,⟨y,_,rfl,rfl,w2⟩,fq2⟩
   ·have v1':((doBook s.shards[i].book.list ⟨qe,6,qi,qa,qt⟩).2==0)=true:=by simpa using v1
    rw[v6,Account.at_get v5]
    rw[v2,v3] at eA
    have hx:=u2.idx v5
    have hl:=u2.load v5
    simp only[Account.enc] at hl
    simp only[rn,RO.dst,lk,drop,Nat.reduceBEq,Nat.reduceAdd,Nat.reduceLeDiff,↓reduceIte,reduceCtorEq,Int.reduceLT,Int.reduceLE,Int.reduceGT,Int.reduceGE,Int.reduceBEq,Int.reduceBNe,Int.reduceEq,Int.reduceNe,Int.reduceNeg,l1,l2,l3,e1,e2,e3,hyi,hld,eC,hlen,g0,cA,cB,cC,cD,eB,hg1,st,eA,v1',hx,hl]
    exact ⟨_,_,_,rfl,og2,⟨y,_,rfl,rfl,w2⟩,fq2⟩
 | false=>
 have cD': ¬(⟨qt,qi⟩:Fin)∈s.shards[i].finished:=of_decide_eq_false cD
 cases cE:((s.shards[i].finished.length:Int)==60) with
 | true=>
   have cE':(s.shards[i].finished.length:Int)=60:=by simpa using cE
   have hR:refuse s.shards[i] ⟨qe,6,qi,qa,qt⟩=13:=by simp[refuse,inR,Request.ends,Request.fin,cA',cB,cC,cD',cE]
   rw[hR]
   simp only[show ((13:Int)==0)=false from rfl,cond_false]
   simp only[rn,RO.dst,lk,drop,Nat.reduceBEq,Nat.reduceAdd,Nat.reduceLeDiff,↓reduceIte,reduceCtorEq,Int.reduceLT,Int.reduceLE,Int.reduceGT,Int.reduceGE,Int.reduceBEq,Int.reduceBNe,Int.reduceEq,Int.reduceNe,Int.reduceNeg,l1,l2,l3,e1,e2,e3,hyi,hld,eC,hlen,g0,cA,cB,cC,cD,cE]
   exact ⟨_,_,_,rfl,o13,⟨y,_,rfl,rfl,w⟩,f1⟩
 | false=>
 have cE': ¬(s.shards[i].finished.length:Int)=60:=by simpa using cE
 have hR:refuse s.shards[i] ⟨qe,6,qi,qa,qt⟩=0:=by simp[refuse,inR,Request.ends,Request.fin,cA',cB,cC,cD',cE]
 rw[hR]
 simp only[beq_self_eq_true,cond_true]
 have hS:doShard s.shards[i] ⟨qe,6,qi,qa,qt⟩={s.shards[i] with book:=⟨(doBook s.shards[i].book.list ⟨qe,6,qi,qa,qt⟩).1⟩,finished:=sortFins (s.shards[i].finished++[⟨qt,qi⟩])}:=by simp[doShard,Request.ends,Request.fin,cA',cB,cC,cD',cE]
 rw[hS]
 have hi2:i<(s.shards.set i {s.shards[i] with book:=⟨(doBook s.shards[i].book.list ⟨qe,6,qi,qa,qt⟩).1⟩}).length:=by rw[List.length_set];exact hi
 obtain ⟨xf',g3,g4,g5,fq3,fb3,a1,a2,a3,a4,og5,ff5,w5,u5⟩:=row_fin og2 hf w2 fq2 hi2 (by rw[List.getElem_set_self];exact smf) hg2 (by rw[List.getElem_set_self];exact hr2) ⟨qt,qi⟩
 simp only[List.getElem_set_self,List.set_set,Fin.enc] at a1 a3 w5 u5
 have hl2:=fun j n=>loadP_row hg2 hr2 j n
 have eA:=accountOf_run (Z:=Z) k.i10 u5 qi
 rcases val_cases (a:=qi) (doBook_srt hbk ⟨qe,6,qi,qa,qt⟩) with ⟨v1,v2⟩ | ⟨v1,v2,v3,v4⟩ | ⟨v1,j,v2,v3,v4,v5,v6⟩
 ·have v1':((doBook s.shards[i].book.list ⟨qe,6,qi,qa,qt⟩).2==0)=false:=by simpa using v1
  rw[v2]
  simp only[rn,RO.dst,lk,drop,Nat.reduceBEq,Nat.reduceAdd,Nat.reduceLeDiff,↓reduceIte,reduceCtorEq,Int.reduceLT,Int.reduceLE,Int.reduceGT,Int.reduceGE,Int.reduceBEq,Int.reduceBNe,Int.reduceEq,Int.reduceNe,Int.reduceNeg,l1,l2,l3,e1,e2,e3,hyi,hld,eC,hlen,g0,cA,cB,cC,cD,cE,eB,hg1,st,hl2,List.replicate_succ,List.replicate_zero,fills,and_self,Nat.zero_lt_one,List.set_cons_zero,a1,a2,a3,prs _ _,a4,eA,v1']
  exact ⟨_,_,_,rfl,og5,⟨y,_,rfl,rfl,w5⟩,ff5⟩
 ·have v1':((doBook s.shards[i].book.list ⟨qe,6,qi,qa,qt⟩).2==0)=true:=by simpa using v1
  rw[v4]
  rw[v2] at eA
  simp only[rn,RO.dst,lk,drop,Nat.reduceBEq,Nat.reduceAdd,Nat.reduceLeDiff,↓reduceIte,reduceCtorEq,Int.reduceLT,Int.reduceLE,Int.reduceGT,Int.reduceGE,Int.reduceBEq,Int.reduceBNe,Int.reduceEq,Int.reduceNe,Int.reduceNeg,l1,l2,l3,e1,e2,e3,hyi,hld,eC,hlen,g0,cA,cB,cC,cD,cE,eB,hg1,st,hl2,List.replicate_succ,List.replicate_zero,fills,and_self,Nat.zero_lt_one,List.set_cons_zero,a1,a2,a3,prs _ _,a4,eA,v1']
  exact ⟨_,_,_,rfl,og5,⟨y,_,rfl,rfl,w5⟩,ff5⟩
 ·have v1':((doBook s.shards[i].book.list ⟨qe,6,qi,qa,qt⟩).2==0)=true:=by simpa using v1
  rw[v6,Account.at_get v5]
  rw[v2,v3] at eA
  have hx:=u5.idx v5
  have hl:=u5.load v5
  simp only[Account.enc] at hl
  simp only[rn,RO.dst,lk,drop,Nat.reduceBEq,Nat.reduceAdd,Nat.reduceLeDiff,↓reduceIte,reduceCtorEq,Int.reduceLT,Int.reduceLE,Int.reduceGT,Int.reduceGE,Int.reduceBEq,Int.reduceBNe,Int.reduceEq,Int.reduceNe,Int.reduceNeg,l1,l2,l3,e1,e2,e3,hyi,hld,eC,hlen,g0,cA,cB,cC,cD,cE,eB,hg1,st,hl2,List.replicate_succ,List.replicate_zero,fills,and_self,Nat.zero_lt_one,List.set_cons_zero,a1,a2,a3,prs _ _,a4,eA,v1',hx,hl]
  exact ⟨_,_,_,rfl,og5,⟨y,_,rfl,rfl,w5⟩,ff5⟩
end
end Go.Proofs.YtahkgghifaodoaaGreat.A
namespace Go.Proofs.YtahkgghifaodoaaGreat.A
open Go
set_option linter.unusedSimpArgs false
set_option linter.unusedVariables false
section
variable {F:Nat→Option RF} {Z:CallF} {h:Heap} {cs:List Cell} {fp:List Nat} {s:Store}
set_option maxHeartbeats 4000000 in
set_option maxRecDepth 8000 in
theorem do_op7 (k:KI F) (hL:Has F tLibslicesIndexFuncimplShardimplShard) (pri:PrimAt F Z 343 (insF 11 40)) (prd:PrimAt F Z 348 (delF 11)) (prs:PrimAt F Z 375 (sortF 9 267)) (hf:h.floor≤h.next) (v:Store.RI h cs s fp) (qe qi qa qt:Int) (okq:(⟨qe,7,qi,qa,qt⟩:Request).Ok) (ok:s.Ok) (sm:s.Small):
 DoStoreAt F Z h cs s ⟨qe,7,qi,qa,qt⟩:=by
 unfold DoStoreAt
 obtain ⟨l1,l2,l3⟩:=Store.lenI v
 obtain ⟨cs1,h1,fr,e1,o1,v1,f1⟩:=copyStore_c (Z:=Z) k hf v sm
 obtain ⟨h2,e2,o2⟩:=isStore_run (Z:=Z) k (Store.okI.on v o1) ok
 obtain ⟨h3,e3,o3⟩:=shardWith_on (Z:=Z) k.i13 hL (Store.okI.on (Store.okI.on v o1) o2) qi
 have o12:=o1.trans o2
 have o13:=o12.trans o3
 obtain ⟨y,p,rfl,hp,w12⟩:=Store.okI.on v1 o2
 subst hp
 have w:=w12.on Shard.okI o3
 rw[call_run F Z (k.i13.lk (g:=387) rfl) _ _ rfl]
 simp only[Request.enc]
 cases hg:s.good with
 | false=>
   rw[hg] at e2
   rw[dost_bad (by simp[hg])]
   simp only[rn,RO.dst,lk,drop,Nat.reduceBEq,Nat.reduceAdd,Nat.reduceLeDiff,↓reduceIte,reduceCtorEq,Int.reduceLT,Int.reduceLE,Int.reduceGT,Int.reduceGE,Int.reduceBEq,Int.reduceBNe,Int.reduceEq,Int.reduceNe,Int.reduceNeg,l1,l2,l3,e1,e2]
   exact ⟨_,_,_,rfl,o12,⟨y,_,rfl,rfl,w12⟩,f1⟩
 | true=>
 rw[hg] at e2
 have hin:(s.good&&inR (⟨qe,7,qi,qa,qt⟩:Request).op 0 8)=true:=by rw[hg];rfl
 have v3:=Store.okI.on v o13
 obtain ⟨x,p,rfl,hp,wx⟩:=v3
 subst hp
 rcases wx.found (fun t=>decide (t.lo≤qi)&&decide (qi≤t.hi)) with q | ⟨i,q,hi,hpi,_⟩
 ·change findId s.shards qi= -1 at q
  rw[dost_away hin q]
  rw[q] at e3
  simp only[rn,RO.dst,lk,drop,Nat.reduceBEq,Nat.reduceAdd,Nat.reduceLeDiff,↓reduceIte,reduceCtorEq,Int.reduceLT,Int.reduceLE,Int.reduceGT,Int.reduceGE,Int.reduceBEq,Int.reduceBNe,Int.reduceEq,Int.reduceNe,Int.reduceNeg,l1,l2,l3,e1,e2,e3]
  exact ⟨_,_,_,rfl,o13,⟨y,_,rfl,rfl,w⟩,f1⟩
 change findId s.shards qi=(i:Int) at q
 rw[q] at e3
 rw[dost_at hin q,Shard.at_get hi]
 have g0: ¬(i:Int)<0:=by omega
 have hyi:=w.idx hi
 have okX:=ok.shards _ (List.getElem_mem hi)
 have smX:=sm.2 _ (List.getElem_mem hi)
 have smf:s.shards[i].finished.length≤1048576:=smX.2
 have smb:s.shards[i].book.list.length≤1048576:=smX.1
 have hbk:bookOk s.shards[i].book.list=true:=by
  have:=Store.fit_at hg hi
  simp only[Store.fits,Bool.and_eq_true,Shard.at_get hi,Shard.good,Shard.head] at this
  exact this.1.1.2.2.2.1
 obtain ⟨xb,xf,pb,pf,rows,hgr,hrr,wb,wf,fin⟩:=row_book o13 hf w f1 hi
 have hld:=fun j n=>loadP_row hgr hrr j n
 have eC:=containsFin_run (F:=F) (Z:=Z) k.li k.lc (wf.up (Fl.ok _) h3.next) ⟨qt,qi⟩
 simp only[Fin.enc] at eC
 have hlen:=wf.len
 obtain ⟨yb,hq,fb,eB,oB,uB,dB⟩:=doBook_c (Z:=Z) (h:=⟨h3.next,h3.next,h3.get⟩) k.i10 k.i13 pri prd (Nat.le_refl _) (wb.up (Fl.ok _) h3.next) ⟨qe,7,qi,qa,qt⟩ okq okX.book.list smb hbk
 simp only[Request.enc] at eB
 obtain ⟨g1,hg1⟩: ∃g1,Heap.mk hq.next h3.floor hq.get=g1:=⟨_,rfl⟩
 have oB1:On h3 g1:=by rw[←hg1];exact ⟨⟨oB.ext.1,oB.ext.2⟩,rfl⟩
 have uB1:SlR 11 (Fl Account.enc) g1 yb (doBook s.shards[i].book.list ⟨qe,7,qi,qa,qt⟩).1 fb:=by rw[←hg1];exact uB.up (Fl.ok _) h3.floor
 have ndB:fb.Nodup:=by
  rcases dB with d | ⟨_,d⟩
  ·exact d.nd
  ·rw[d];exact wb.nodup
 obtain ⟨g2,fqs,rows2,st,og2,fq2,w2,u2,hg2,hr2⟩:=fin g1 yb _ fb oB1 uB1 ndB (by
  rcases dB with d | ⟨_,d⟩
  ·exact .inl ⟨d.lo,d.nd⟩
  ·exact .inr d)
 cases cA:(s.shards[i].epoch !=qe) with
 | true=>
   have cA':(s.shards[i].epoch==qe)=false:=by simpa using cA
   have hR:refuse s.shards[i] ⟨qe,7,qi,qa,qt⟩=9:=by simp[refuse,inR,Request.ends,Request.fin,cA']
   rw[hR]
   simp only[show ((9:Int)==0)=false from rfl,cond_false]
   simp only[rn,RO.dst,lk,drop,Nat.reduceBEq,Nat.reduceAdd,Nat.reduceLeDiff,↓reduceIte,reduceCtorEq,Int.reduceLT,Int.reduceLE,Int.reduceGT,Int.reduceGE,Int.reduceBEq,Int.reduceBNe,Int.reduceEq,Int.reduceNe,Int.reduceNeg,l1,l2,l3,e1,e2,e3,hyi,hld,eC,hlen,g0,cA]
   exact ⟨_,_,_,rfl,o13,⟨y,_,rfl,rfl,w⟩,f1⟩
 | false=>
 have cA':(s.shards[i].epoch==qe)=true:=by simpa using cA
 cases cB:(s.shards[i].state==1) with
 | true=>
   have hR:refuse s.shards[i] ⟨qe,7,qi,qa,qt⟩=10:=by simp[refuse,inR,Request.ends,Request.fin,cA',cB]
   rw[hR]
   simp only[show ((10:Int)==0)=false from rfl,cond_false]
   simp only[rn,RO.dst,lk,drop,Nat.reduceBEq,Nat.reduceAdd,Nat.reduceLeDiff,↓reduceIte,reduceCtorEq,Int.reduceLT,Int.reduceLE,Int.reduceGT,Int.reduceGE,Int.reduceBEq,Int.reduceBNe,Int.reduceEq,Int.reduceNe,Int.reduceNeg,l1,l2,l3,e1,e2,e3,hyi,hld,eC,hlen,g0,cA,cB]
   exact ⟨_,_,_,rfl,o13,⟨y,_,rfl,rfl,w⟩,f1⟩
 | false=>
 by_cases cC:qt<1
 ·have hR:refuse s.shards[i] ⟨qe,7,qi,qa,qt⟩=11:=by simp[refuse,inR,Request.ends,Request.fin,cA',cB,cC]
  rw[hR]
  simp only[show ((11:Int)==0)=false from rfl,cond_false]
  simp only[rn,RO.dst,lk,drop,Nat.reduceBEq,Nat.reduceAdd,Nat.reduceLeDiff,↓reduceIte,reduceCtorEq,Int.reduceLT,Int.reduceLE,Int.reduceGT,Int.reduceGE,Int.reduceBEq,Int.reduceBNe,Int.reduceEq,Int.reduceNe,Int.reduceNeg,l1,l2,l3,e1,e2,e3,hyi,hld,eC,hlen,g0,cA,cB,cC]
  exact ⟨_,_,_,rfl,o13,⟨y,_,rfl,rfl,w⟩,f1⟩
 cases cD:decide ((⟨qt,qi⟩:Fin)∈s.shards[i].finished) with
 | true=>
   have cD':(⟨qt,qi⟩:Fin)∈s.shards[i].finished:=of_decide_eq_true cD
   have hR:refuse s.shards[i] ⟨qe,7,qi,qa,qt⟩=0:=by simp[refuse,inR,Request.ends,Request.fin,cA',cB,cC,cD']
   rw[hR]
   simp only[beq_self_eq_true,cond_true]
   have hS:doShard s.shards[i] ⟨qe,7,qi,qa,qt⟩={s.shards[i] with book:=⟨(doBook s.shards[i].book.list ⟨qe,7,qi,qa,qt⟩).1⟩}:=by simp[doShard,Request.ends,Request.fin,cA',cB,cC,cD']
   rw[hS]
   have eA:=accountOf_run (Z:=Z) k.i10 u2 qi
   rcases val_cases (a:=qi) (doBook_srt hbk ⟨qe,7,qi,qa,qt⟩) with ⟨v1,v2⟩ | ⟨v1,v2,v3,v4⟩ | ⟨v1,j,v2,v3,v4,v5,v6⟩
   ·have v1':((doBook s.shards[i].book.list ⟨qe,7,qi,qa,qt⟩).2==0)=false:=by simpa using v1
    rw[v2]
    simp only[rn,RO.dst,lk,drop,Nat.reduceBEq,Nat.reduceAdd,Nat.reduceLeDiff,↓reduceIte,reduceCtorEq,Int.reduceLT,Int.reduceLE,Int.reduceGT,Int.reduceGE,Int.reduceBEq,Int.reduceBNe,Int.reduceEq,Int.reduceNe,Int.reduceNeg,l1,l2,l3,e1,e2,e3,hyi,hld,eC,hlen,g0,cA,cB,cC,cD,eB,hg1,st,eA,v1']
    exact ⟨_,_,_,rfl,og2,⟨y,_,rfl,rfl,w2⟩,fq2⟩
   ·have v1':((doBook s.shards[i].book.list ⟨qe,7,qi,qa,qt⟩).2==0)=true:=by simpa using v1
    rw[v4]
    rw[v2] at eA
    simp only[rn,RO.dst,lk,drop,Nat.reduceBEq,Nat.reduceAdd,Nat.reduceLeDiff,↓reduceIte,reduceCtorEq,Int.reduceLT,Int.reduceLE,Int.reduceGT,Int.reduceGE,Int.reduceBEq,Int.reduceBNe,Int.reduceEq,Int.reduceNe,Int.reduceNeg,l1,l2,l3,e1,e2,e3,hyi,hld,eC,hlen,g0,cA,cB,cC,cD,eB,hg1,st,eA,v1']
    exact ⟨_,_,_,rfl,og2,⟨y,_,rfl,rfl,w2⟩,fq2⟩
   ·have v1':((doBook s.shards[i].book.list ⟨qe,7,qi,qa,qt⟩).2==0)=true:=by simpa using v1
    rw[v6,Account.at_get v5]
    rw[v2,v3] at eA
    have hx:=u2.idx v5
    have hl:=u2.load v5
    simp only[Account.enc] at hl
    simp only[rn,RO.dst,lk,drop,Nat.reduceBEq,Nat.reduceAdd,Nat.reduceLeDiff,↓reduceIte,reduceCtorEq,Int.reduceLT,Int.reduceLE,Int.reduceGT,Int.reduceGE,Int.reduceBEq,Int.reduceBNe,Int.reduceEq,Int.reduceNe,Int.reduceNeg,l1,l2,l3,e1,e2,e3,hyi,hld,eC,hlen,g0,cA,cB,cC,cD,eB,hg1,st,eA,v1',hx,hl]
    exact ⟨_,_,_,rfl,og2,⟨y,_,rfl,rfl,w2⟩,fq2⟩
 | false=>
 have cD': ¬(⟨qt,qi⟩:Fin)∈s.shards[i].finished:=of_decide_eq_false cD
 cases cE:((s.shards[i].finished.length:Int)==60) with
 | true=>
   have cE':(s.shards[i].finished.length:Int)=60:=by simpa using cE
   have hR:refuse s.shards[i] ⟨qe,7,qi,qa,qt⟩=13:=by simp[refuse,inR,Request.ends,Request.fin,cA',cB,cC,cD',cE]
   rw[hR]
   simp only[show ((13:Int)==0)=false from rfl,cond_false]
   simp only[rn,RO.dst,lk,drop,Nat.reduceBEq,Nat.reduceAdd,Nat.reduceLeDiff,↓reduceIte,reduceCtorEq,Int.reduceLT,Int.reduceLE,Int.reduceGT,Int.reduceGE,Int.reduceBEq,Int.reduceBNe,Int.reduceEq,Int.reduceNe,Int.reduceNeg,l1,l2,l3,e1,e2,e3,hyi,hld,eC,hlen,g0,cA,cB,cC,cD,cE]
   exact ⟨_,_,_,rfl,o13,⟨y,_,rfl,rfl,w⟩,f1⟩
 | false=>
 have cE': ¬(s.shards[i].finished.length:Int)=60:=by simpa using cE
 have hR:refuse s.shards[i] ⟨qe,7,qi,qa,qt⟩=0:=by simp[refuse,inR,Request.ends,Request.fin,cA',cB,cC,cD',cE]
 rw[hR]
 simp only[beq_self_eq_true,cond_true]
 have hS:doShard s.shards[i] ⟨qe,7,qi,qa,qt⟩={s.shards[i] with book:=⟨(doBook s.shards[i].book.list ⟨qe,7,qi,qa,qt⟩).1⟩,finished:=sortFins (s.shards[i].finished++[⟨qt,qi⟩])}:=by simp[doShard,Request.ends,Request.fin,cA',cB,cC,cD',cE]
 rw[hS]
 have hi2:i<(s.shards.set i {s.shards[i] with book:=⟨(doBook s.shards[i].book.list ⟨qe,7,qi,qa,qt⟩).1⟩}).length:=by rw[List.length_set];exact hi
 obtain ⟨xf',g3,g4,g5,fq3,fb3,a1,a2,a3,a4,og5,ff5,w5,u5⟩:=row_fin og2 hf w2 fq2 hi2 (by rw[List.getElem_set_self];exact smf) hg2 (by rw[List.getElem_set_self];exact hr2) ⟨qt,qi⟩
 simp only[List.getElem_set_self,List.set_set,Fin.enc] at a1 a3 w5 u5
 have hl2:=fun j n=>loadP_row hg2 hr2 j n
 have eA:=accountOf_run (Z:=Z) k.i10 u5 qi
 rcases val_cases (a:=qi) (doBook_srt hbk ⟨qe,7,qi,qa,qt⟩) with ⟨v1,v2⟩ | ⟨v1,v2,v3,v4⟩ | ⟨v1,j,v2,v3,v4,v5,v6⟩
 ·have v1':((doBook s.shards[i].book.list ⟨qe,7,qi,qa,qt⟩).2==0)=false:=by simpa using v1
  rw[v2]
  simp only[rn,RO.dst,lk,drop,Nat.reduceBEq,Nat.reduceAdd,Nat.reduceLeDiff,↓reduceIte,reduceCtorEq,Int.reduceLT,Int.reduceLE,Int.reduceGT,Int.reduceGE,Int.reduceBEq,Int.reduceBNe,Int.reduceEq,Int.reduceNe,Int.reduceNeg,l1,l2,l3,e1,e2,e3,hyi,hld,eC,hlen,g0,cA,cB,cC,cD,cE,eB,hg1,st,hl2,List.replicate_succ,List.replicate_zero,fills,and_self,Nat.zero_lt_one,List.set_cons_zero,a1,a2,a3,prs _ _,a4,eA,v1']
  exact ⟨_,_,_,rfl,og5,⟨y,_,rfl,rfl,w5⟩,ff5⟩
 ·have v1':((doBook s.shards[i].book.list ⟨qe,7,qi,qa,qt⟩).2==0)=true:=by simpa using v1
  rw[v4]
  rw[v2] at eA
  simp only[rn,RO.dst,lk,drop,Nat.reduceBEq,Nat.reduceAdd,Nat.reduceLeDiff,↓reduceIte,reduceCtorEq,Int.reduceLT,Int.reduceLE,Int.reduceGT,Int.reduceGE,Int.reduceBEq,Int.reduceBNe,Int.reduceEq,Int.reduceNe,Int.reduceNeg,l1,l2,l3,e1,e2,e3,hyi,hld,eC,hlen,g0,cA,cB,cC,cD,cE,eB,hg1,st,hl2,List.replicate_succ,List.replicate_zero,fills,and_self,Nat.zero_lt_one,List.set_cons_zero,a1,a2,a3,prs _ _,a4,eA,v1']
  exact ⟨_,_,_,rfl,og5,⟨y,_,rfl,rfl,w5⟩,ff5⟩
 ·have v1':((doBook s.shards[i].book.list ⟨qe,7,qi,qa,qt⟩).2==0)=true:=by simpa using v1
  rw[v6,Account.at_get v5]
  rw[v2,v3] at eA
  have hx:=u5.idx v5
  have hl:=u5.load v5
  simp only[Account.enc] at hl
  simp only[rn,RO.dst,lk,drop,Nat.reduceBEq,Nat.reduceAdd,Nat.reduceLeDiff,↓reduceIte,reduceCtorEq,Int.reduceLT,Int.reduceLE,Int.reduceGT,Int.reduceGE,Int.reduceBEq,Int.reduceBNe,Int.reduceEq,Int.reduceNe,Int.reduceNeg,l1,l2,l3,e1,e2,e3,hyi,hld,eC,hlen,g0,cA,cB,cC,cD,cE,eB,hg1,st,hl2,List.replicate_succ,List.replicate_zero,fills,and_self,Nat.zero_lt_one,List.set_cons_zero,a1,a2,a3,prs _ _,a4,eA,v1',hx,hl]
  exact ⟨_,_,_,rfl,og5,⟨y,_,rfl,rfl,w5⟩,ff5⟩
set_option maxHeartbeats 4000000 in
set_option maxRecDepth 8000 in
theorem do_op8 (k:KI F) (hL:Has F tLibslicesIndexFuncimplShardimplShard) (pri:PrimAt F Z 343 (insF 11 40)) (prd:PrimAt F Z 348 (delF 11)) (prs:PrimAt F Z 375 (sortF 9 267)) (hf:h.floor≤h.next) (v:Store.RI h cs s fp) (qe qi qa qt:Int) (okq:(⟨qe,8,qi,qa,qt⟩:Request).Ok) (ok:s.Ok) (sm:s.Small):
 DoStoreAt F Z h cs s ⟨qe,8,qi,qa,qt⟩:=by
 unfold DoStoreAt
 obtain ⟨l1,l2,l3⟩:=Store.lenI v
 obtain ⟨cs1,h1,fr,e1,o1,v1,f1⟩:=copyStore_c (Z:=Z) k hf v sm
 obtain ⟨h2,e2,o2⟩:=isStore_run (Z:=Z) k (Store.okI.on v o1) ok
 obtain ⟨h3,e3,o3⟩:=shardWith_on (Z:=Z) k.i13 hL (Store.okI.on (Store.okI.on v o1) o2) qi
 have o12:=o1.trans o2
 have o13:=o12.trans o3
 obtain ⟨y,p,rfl,hp,w12⟩:=Store.okI.on v1 o2
 subst hp
 have w:=w12.on Shard.okI o3
 rw[call_run F Z (k.i13.lk (g:=387) rfl) _ _ rfl]
 simp only[Request.enc]
 cases hg:s.good with
 | false=>
   rw[hg] at e2
   rw[dost_bad (by simp[hg])]
   simp only[rn,RO.dst,lk,drop,Nat.reduceBEq,Nat.reduceAdd,Nat.reduceLeDiff,↓reduceIte,reduceCtorEq,Int.reduceLT,Int.reduceLE,Int.reduceGT,Int.reduceGE,Int.reduceBEq,Int.reduceBNe,Int.reduceEq,Int.reduceNe,Int.reduceNeg,l1,l2,l3,e1,e2]
   exact ⟨_,_,_,rfl,o12,⟨y,_,rfl,rfl,w12⟩,f1⟩
 | true=>
 rw[hg] at e2
 have hin:(s.good&&inR (⟨qe,8,qi,qa,qt⟩:Request).op 0 8)=true:=by rw[hg];rfl
 have v3:=Store.okI.on v o13
 obtain ⟨x,p,rfl,hp,wx⟩:=v3
 subst hp
 rcases wx.found (fun t=>decide (t.lo≤qi)&&decide (qi≤t.hi)) with q | ⟨i,q,hi,hpi,_⟩
 ·change findId s.shards qi= -1 at q
  rw[dost_away hin q]
  rw[q] at e3
  simp only[rn,RO.dst,lk,drop,Nat.reduceBEq,Nat.reduceAdd,Nat.reduceLeDiff,↓reduceIte,reduceCtorEq,Int.reduceLT,Int.reduceLE,Int.reduceGT,Int.reduceGE,Int.reduceBEq,Int.reduceBNe,Int.reduceEq,Int.reduceNe,Int.reduceNeg,l1,l2,l3,e1,e2,e3]
  exact ⟨_,_,_,rfl,o13,⟨y,_,rfl,rfl,w⟩,f1⟩
 change findId s.shards qi=(i:Int) at q
 rw[q] at e3
 rw[dost_at hin q,Shard.at_get hi]
 have g0: ¬(i:Int)<0:=by omega
 have hyi:=w.idx hi
 have okX:=ok.shards _ (List.getElem_mem hi)
 have smX:=sm.2 _ (List.getElem_mem hi)
 have smf:s.shards[i].finished.length≤1048576:=smX.2
 have smb:s.shards[i].book.list.length≤1048576:=smX.1
 have hbk:bookOk s.shards[i].book.list=true:=by
  have:=Store.fit_at hg hi
  simp only[Store.fits,Bool.and_eq_true,Shard.at_get hi,Shard.good,Shard.head] at this
  exact this.1.1.2.2.2.1
 obtain ⟨xb,xf,pb,pf,rows,hgr,hrr,wb,wf,fin⟩:=row_book o13 hf w f1 hi
 have hld:=fun j n=>loadP_row hgr hrr j n
 have eC:=containsFin_run (F:=F) (Z:=Z) k.li k.lc (wf.up (Fl.ok _) h3.next) ⟨qt,qi⟩
 simp only[Fin.enc] at eC
 have hlen:=wf.len
 obtain ⟨yb,hq,fb,eB,oB,uB,dB⟩:=doBook_c (Z:=Z) (h:=⟨h3.next,h3.next,h3.get⟩) k.i10 k.i13 pri prd (Nat.le_refl _) (wb.up (Fl.ok _) h3.next) ⟨qe,8,qi,qa,qt⟩ okq okX.book.list smb hbk
 simp only[Request.enc] at eB
 obtain ⟨g1,hg1⟩: ∃g1,Heap.mk hq.next h3.floor hq.get=g1:=⟨_,rfl⟩
 have oB1:On h3 g1:=by rw[←hg1];exact ⟨⟨oB.ext.1,oB.ext.2⟩,rfl⟩
 have uB1:SlR 11 (Fl Account.enc) g1 yb (doBook s.shards[i].book.list ⟨qe,8,qi,qa,qt⟩).1 fb:=by rw[←hg1];exact uB.up (Fl.ok _) h3.floor
 have ndB:fb.Nodup:=by
  rcases dB with d | ⟨_,d⟩
  ·exact d.nd
  ·rw[d];exact wb.nodup
 obtain ⟨g2,fqs,rows2,st,og2,fq2,w2,u2,hg2,hr2⟩:=fin g1 yb _ fb oB1 uB1 ndB (by
  rcases dB with d | ⟨_,d⟩
  ·exact .inl ⟨d.lo,d.nd⟩
  ·exact .inr d)
 cases cA:(s.shards[i].epoch !=qe) with
 | true=>
   have cA':(s.shards[i].epoch==qe)=false:=by simpa using cA
   have hR:refuse s.shards[i] ⟨qe,8,qi,qa,qt⟩=9:=by simp[refuse,inR,Request.ends,Request.fin,cA']
   rw[hR]
   simp only[show ((9:Int)==0)=false from rfl,cond_false]
   simp only[rn,RO.dst,lk,drop,Nat.reduceBEq,Nat.reduceAdd,Nat.reduceLeDiff,↓reduceIte,reduceCtorEq,Int.reduceLT,Int.reduceLE,Int.reduceGT,Int.reduceGE,Int.reduceBEq,Int.reduceBNe,Int.reduceEq,Int.reduceNe,Int.reduceNeg,l1,l2,l3,e1,e2,e3,hyi,hld,eC,hlen,g0,cA]
   exact ⟨_,_,_,rfl,o13,⟨y,_,rfl,rfl,w⟩,f1⟩
 | false=>
 have cA':(s.shards[i].epoch==qe)=true:=by simpa using cA
 cases cB:(s.shards[i].state==1) with
 | true=>
   have hR:refuse s.shards[i] ⟨qe,8,qi,qa,qt⟩=0:=by simp[refuse,inR,Request.ends,Request.fin,cA',cB]
   rw[hR]
   simp only[beq_self_eq_true,cond_true]
   have hS:doShard s.shards[i] ⟨qe,8,qi,qa,qt⟩={s.shards[i] with book:=⟨(doBook s.shards[i].book.list ⟨qe,8,qi,qa,qt⟩).1⟩}:=by simp[doShard,Request.ends,Request.fin,cA',cB]
   rw[hS]
   have eA:=accountOf_run (Z:=Z) k.i10 u2 qi
   rcases val_cases (a:=qi) (doBook_srt hbk ⟨qe,8,qi,qa,qt⟩) with ⟨v1,v2⟩ | ⟨v1,v2,v3,v4⟩ | ⟨v1,j,v2,v3,v4,v5,v6⟩
   ·have v1':((doBook s.shards[i].book.list ⟨qe,8,qi,qa,qt⟩).2==0)=false:=by simpa using v1
    rw[v2]
    simp only[rn,RO.dst,lk,drop,Nat.reduceBEq,Nat.reduceAdd,Nat.reduceLeDiff,↓reduceIte,reduceCtorEq,Int.reduceLT,Int.reduceLE,Int.reduceGT,Int.reduceGE,Int.reduceBEq,Int.reduceBNe,Int.reduceEq,Int.reduceNe,Int.reduceNeg,l1,l2,l3,e1,e2,e3,hyi,hld,eC,hlen,g0,cA,cB,eB,hg1,st,eA,v1']
    exact ⟨_,_,_,rfl,og2,⟨y,_,rfl,rfl,w2⟩,fq2⟩
   ·have v1':((doBook s.shards[i].book.list ⟨qe,8,qi,qa,qt⟩).2==0)=true:=by simpa using v1
    rw[v4]
    rw[v2] at eA
    simp only[rn,RO.dst,lk,drop,Nat.reduceBEq,Nat.reduceAdd,Nat.reduceLeDiff,↓reduceIte,reduceCtorEq,Int.reduceLT,Int.reduceLE,Int.reduceGT,Int.reduceGE,Int.reduceBEq,Int.reduceBNe,Int.reduceEq,Int.reduceNe,Int.reduceNeg,l1,l2,l3,e1,e2,e3,hyi,hld,eC,hlen,g0,cA,cB,eB,hg1,st,eA,v1']
    exact ⟨_,_,_,rfl,og2,⟨y,_,rfl,rfl,w2⟩,fq2⟩
   ·have v1':((doBook s.shards[i].book.list ⟨qe,8,qi,qa,qt⟩).2==0)=true:=by simpa using v1
    rw[v6,Account.at_get v5]
    rw[v2,v3] at eA
    have hx:=u2.idx v5
    have hl:=u2.load v5
    simp only[Account.enc] at hl
    simp only[rn,RO.dst,lk,drop,Nat.reduceBEq,Nat.reduceAdd,Nat.reduceLeDiff,↓reduceIte,reduceCtorEq,Int.reduceLT,Int.reduceLE,Int.reduceGT,Int.reduceGE,Int.reduceBEq,Int.reduceBNe,Int.reduceEq,Int.reduceNe,Int.reduceNeg,l1,l2,l3,e1,e2,e3,hyi,hld,eC,hlen,g0,cA,cB,eB,hg1,st,eA,v1',hx,hl]
    exact ⟨_,_,_,rfl,og2,⟨y,_,rfl,rfl,w2⟩,fq2⟩
 | false=>
 have hR:refuse s.shards[i] ⟨qe,8,qi,qa,qt⟩=0:=by simp[refuse,inR,Request.ends,Request.fin,cA',cB]
 rw[hR]
 simp only[beq_self_eq_true,cond_true]
 have hS:doShard s.shards[i] ⟨qe,8,qi,qa,qt⟩={s.shards[i] with book:=⟨(doBook s.shards[i].book.list ⟨qe,8,qi,qa,qt⟩).1⟩}:=by simp[doShard,Request.ends,Request.fin,cA',cB]
 rw[hS]
 have eA:=accountOf_run (Z:=Z) k.i10 u2 qi
 rcases val_cases (a:=qi) (doBook_srt hbk ⟨qe,8,qi,qa,qt⟩) with ⟨v1,v2⟩ | ⟨v1,v2,v3,v4⟩ | ⟨v1,j,v2,v3,v4,v5,v6⟩
 ·have v1':((doBook s.shards[i].book.list ⟨qe,8,qi,qa,qt⟩).2==0)=false:=by simpa using v1
  rw[v2]
  simp only[rn,RO.dst,lk,drop,Nat.reduceBEq,Nat.reduceAdd,Nat.reduceLeDiff,↓reduceIte,reduceCtorEq,Int.reduceLT,Int.reduceLE,Int.reduceGT,Int.reduceGE,Int.reduceBEq,Int.reduceBNe,Int.reduceEq,Int.reduceNe,Int.reduceNeg,l1,l2,l3,e1,e2,e3,hyi,hld,eC,hlen,g0,cA,cB,eB,hg1,st,eA,v1']
  exact ⟨_,_,_,rfl,og2,⟨y,_,rfl,rfl,w2⟩,fq2⟩
 ·have v1':((doBook s.shards[i].book.list ⟨qe,8,qi,qa,qt⟩).2==0)=true:=by simpa using v1
  rw[v4]
  rw[v2] at eA
  simp only[rn,RO.dst,lk,drop,Nat.reduceBEq,Nat.reduceAdd,Nat.reduceLeDiff,↓reduceIte,reduceCtorEq,Int.reduceLT,Int.reduceLE,Int.reduceGT,Int.reduceGE,Int.reduceBEq,Int.reduceBNe,Int.reduceEq,Int.reduceNe,Int.reduceNeg,l1,l2,l3,e1,e2,e3,hyi,hld,eC,hlen,g0,cA,cB,eB,hg1,st,eA,v1']
  exact ⟨_,_,_,rfl,og2,⟨y,_,rfl,rfl,w2⟩,fq2⟩
 ·have v1':((doBook s.shards[i].book.list ⟨qe,8,qi,qa,qt⟩).2==0)=true:=by simpa using v1
  rw[v6,Account.at_get v5]
  rw[v2,v3] at eA
  have hx:=u2.idx v5
  have hl:=u2.load v5
  simp only[Account.enc] at hl
  simp only[rn,RO.dst,lk,drop,Nat.reduceBEq,Nat.reduceAdd,Nat.reduceLeDiff,↓reduceIte,reduceCtorEq,Int.reduceLT,Int.reduceLE,Int.reduceGT,Int.reduceGE,Int.reduceBEq,Int.reduceBNe,Int.reduceEq,Int.reduceNe,Int.reduceNeg,l1,l2,l3,e1,e2,e3,hyi,hld,eC,hlen,g0,cA,cB,eB,hg1,st,eA,v1',hx,hl]
  exact ⟨_,_,_,rfl,og2,⟨y,_,rfl,rfl,w2⟩,fq2⟩
end
end Go.Proofs.YtahkgghifaodoaaGreat.A
namespace Go.Proofs.YtahkgghifaodoaaGreat.A
open Go
set_option linter.unusedSimpArgs false
set_option linter.unusedVariables false
theorem op_cases {o:Int} (h:inR o 0 8=true):o=0∨o=1∨o=2∨o=3∨o=4∨o=5∨o=6∨o=7∨o=8:=by
 simp only[inR,Bool.and_eq_true,decide_eq_true_eq] at h
 omega
section
variable {F:Nat→Option RF} {Z:CallF} {h:Heap} {cs:List Cell} {fp:List Nat} {s:Store}
theorem do_out (k:KI F) (hf:h.floor≤h.next) (v:Store.RI h cs s fp) {q:Request} (hin:inR q.op 0 8=false) (ok:s.Ok) (sm:s.Small):DoStoreAt F Z h cs s q:=by
 unfold DoStoreAt
 obtain ⟨l1,l2,l3⟩:=Store.lenI v
 obtain ⟨cs1,h1,fr,e1,o1,v1,f1⟩:=copyStore_c (Z:=Z) k hf v sm
 obtain ⟨h2,e2,o2⟩:=isStore_run (Z:=Z) k (Store.okI.on v o1) ok
 obtain ⟨m1,m2,m3⟩:=Store.lenI v1
 rw[call_run F Z (k.i13.lk (g:=387) rfl) _ _ rfl,dost_bad (by simp[hin])]
 obtain ⟨qe,qo,qi,qa,qt⟩:=q
 simp only[Request.enc]
 cases hg:s.good with
 | false=>
   rw[hg] at e2
   simp only[rn,RO.dst,lk,drop,Nat.reduceBEq,Nat.reduceAdd,Nat.reduceLeDiff,↓reduceIte,reduceCtorEq,l1,l2,l3,m1,m2,m3,e1,e2]
   exact ⟨_,_,_,rfl,o1.trans o2,Store.okI.on v1 o2,f1⟩
 | true=>
   rw[hg] at e2
   by_cases c1:qo<0
   ·simp only[rn,RO.dst,lk,drop,Nat.reduceBEq,Nat.reduceAdd,Nat.reduceLeDiff,↓reduceIte,reduceCtorEq,l1,l2,l3,m1,m2,m3,e1,e2,c1]
    exact ⟨_,_,_,rfl,o1.trans o2,Store.okI.on v1 o2,f1⟩
   ·have c2:qo>8:=by
     simp only[inR,Bool.and_eq_false_iff,decide_eq_false_iff_not] at hin
     omega
    simp only[rn,RO.dst,lk,drop,Nat.reduceBEq,Nat.reduceAdd,Nat.reduceLeDiff,↓reduceIte,reduceCtorEq,l1,l2,l3,m1,m2,m3,e1,e2,c1,c2]
    exact ⟨_,_,_,rfl,o1.trans o2,Store.okI.on v1 o2,f1⟩
theorem doStore_c (k:KI F) (hL:Has F tLibslicesIndexFuncimplShardimplShard) (pri:PrimAt F Z 343 (insF 11 40)) (prd:PrimAt F Z 348 (delF 11)) (prs:PrimAt F Z 375 (sortF 9 267)) (hf:h.floor≤h.next) (v:Store.RI h cs s fp) (q:Request) (okq:q.Ok) (ok:s.Ok) (sm:s.Small):DoStoreAt F Z h cs s q:=by
 cases hin:inR q.op 0 8 with
 | false=>exact do_out k hf v hin ok sm
 | true=>
   obtain ⟨qe,qo,qi,qa,qt⟩:=q
   rcases op_cases hin with h | h | h | h | h | h | h | h | h<;>(simp only at h;subst h)
   ·exact do_op0 k hL pri prd prs hf v qe qi qa qt okq ok sm
   ·exact do_op1 k hL pri prd prs hf v qe qi qa qt okq ok sm
   ·exact do_op2 k hL pri prd prs hf v qe qi qa qt okq ok sm
   ·exact do_op3 k hL pri prd prs hf v qe qi qa qt okq ok sm
   ·exact do_op4 k hL pri prd prs hf v qe qi qa qt okq ok sm
   ·exact do_op5 k hL pri prd prs hf v qe qi qa qt okq ok sm
   ·exact do_op6 k hL pri prd prs hf v qe qi qa qt okq ok sm
   ·exact do_op7 k hL pri prd prs hf v qe qi qa qt okq ok sm
   ·exact do_op8 k hL pri prd prs hf v qe qi qa qt okq ok sm
theorem DoStore_c (k:KI F) (hL:Has F tLibslicesIndexFuncimplShardimplShard) (pri:PrimAt F Z 343 (insF 11 40)) (prd:PrimAt F Z 348 (delF 11)) (prs:PrimAt F Z 375 (sortF 9 267)) (hf:h.floor≤h.next) (v:Store.RI h cs s fp) (q:Request) (okq:q.Ok) (ok:s.Ok) (sm:s.Small):
 ∃cs' h' fq,call F Z 382 [.agg cs,.agg q.enc] h=some (.tup [.agg cs',.c (.int .i64 (doStore s q).2.1),.c (.int .u64 (doStore s q).2.2)],h')∧On h h'∧Store.RI h' cs' (doStore s q).1 fq∧Fre h fq:=by
 obtain ⟨l1,l2,l3⟩:=Store.lenI v
 obtain ⟨cs',h',fq,e,o,v',f⟩:=doStore_c (Z:=Z) k hL pri prd prs hf v q okq ok sm
 obtain ⟨m1,m2,m3⟩:=Store.lenI v'
 rw[call_run F Z (k.i13.lk (g:=382) rfl) _ _ rfl]
 simp only[rn,RO.dst,lk,drop,Nat.reduceBEq,Nat.reduceAdd,Nat.reduceLeDiff,↓reduceIte,reduceCtorEq,l1,l2,l3,Request.len,Request.tak,e,m1,m2,m3]
 exact ⟨_,_,_,rfl,o,v',f⟩
end
end Go.Proofs.YtahkgghifaodoaaGreat.A
namespace Go.Proofs.YtahkgghifaodoaaGreat.A
open Go
set_option linter.unusedSimpArgs false
set_option linter.unusedVariables false
section
variable {F:Nat→Option RF} {Z:CallF} {h:Heap} {x:Cell} {code:List Int}
theorem big_run (hL:Has F tLaws) (w:Vw 19 byte_enc h x code):call F Z 144 [.c x] h=some (.c (.bool (decide ((code.length:Int)>1048576))),h):=by
 rw[call_run F Z (hL.lk (g:=144) rfl) _ _ rfl]
 simp only[rn,RO.dst,lk,drop,Nat.reduceBEq,Nat.reduceAdd,Nat.reduceLeDiff,↓reduceIte,reduceCtorEq,w.len]
end
end Go.Proofs.YtahkgghifaodoaaGreat.A
namespace Go.Proofs.YtahkgghifaodoaaGreat.A
open Go
set_option linter.unusedSimpArgs false
set_option linter.unusedVariables false
def Byte (b:Int):Prop:=0≤b∧b≤255
theorem Wf.areBytes {h:Heap} {n:Nat} {x:Cell} (w:Wf h (n+2) shUint8S [x]): ∃code:List Int,Vw 19 byte_enc h x code∧ ∀b,b∈code→Byte b:=by
 obtain ⟨xs,fp,v,q⟩:=SlR.ofWf (R:=Fl byte_enc) (A:=Byte) (fun r hr=>by
  obtain ⟨hl,z,rfl,hz⟩:=hr
  refine ⟨z,[],⟨rfl,rfl⟩,?_⟩
  simp only[Lit.wf,Bool.and_eq_true,decide_eq_true_eq] at hz
  exact hz) w
 exact ⟨xs,v.vw,q⟩
section
variable {F:Nat→Option RF} {Z:CallF} {h:Heap} {x:Cell} {code:List Int}
end
end Go.Proofs.YtahkgghifaodoaaGreat.A
namespace Go.Proofs.YtahkgghifaodoaaGreat.A
open Go
def r386T:RC:=
 .seq (.seq (.reg [⟨none,.fad 146 6 1⟩,
 ⟨none,.load 147 146 1 false⟩,
 ⟨none,.bin 148 .eql (.t 147) (.k (.int .i64 0))⟩,
 ⟨none,.mov 149 (.t 148)⟩,
 ⟨some (149,false),.fad 150 6 1⟩,
 ⟨some (149,false),.load 151 150 1 false⟩,
 ⟨some (149,false),.bin 152 .eql (.t 151) (.k (.int .i64 1))⟩,
 ⟨none,.pick 153 (.t 149) (.k (.bool true)) (.t 152)⟩,
 ⟨none,.mov 154 (.t 153)⟩,
 ⟨some (154,false),.fad 155 6 1⟩,
 ⟨some (154,false),.load 156 155 1 false⟩,
 ⟨some (154,false),.bin 157 .eql (.t 156) (.k (.int .i64 4))⟩,
 ⟨none,.pick 158 (.t 154) (.k (.bool true)) (.t 157)⟩,
 ⟨none,.mov 159 (.t 158)⟩,
 ⟨some (159,false),.fad 160 6 1⟩,
 ⟨some (159,false),.load 161 160 1 false⟩,
 ⟨some (159,false),.bin 162 .eql (.t 161) (.k (.int .i64 5))⟩,
 ⟨none,.pick 163 (.t 159) (.k (.bool true)) (.t 162)⟩,
 ⟨none,.mov 164 (.t 163)⟩,
 ⟨some (164,false),.fad 165 6 1⟩,
 ⟨some (164,false),.load 166 165 1 false⟩,
 ⟨some (164,false),.bin 167 .eql (.t 166) (.k (.int .i64 7))⟩,
 ⟨none,.pick 168 (.t 164) (.k (.bool true)) (.t 167)⟩,
 ⟨none,.mov 169 (.t 168)⟩,
 ⟨some (169,false),.fad 170 6 1⟩,
 ⟨some (169,false),.load 171 170 1 false⟩,
 ⟨some (169,false),.bin 172 .eql (.t 171) (.k (.int .i64 8))⟩,
 ⟨none,.pick 173 (.t 169) (.k (.bool true)) (.t 172)⟩,
 ⟨none,.mov 174 (.t 173)⟩,
 ⟨some (174,false),.mov 175 (.t 8)⟩,
 ⟨some (174,false),.bin 176 .neq (.t 175) (.k (.int .i64 0))⟩,
 ⟨none,.pick 177 (.t 174) (.k (.bool true)) (.t 176)⟩,
 ⟨none,.mov 178 (.t 177)⟩,
 ⟨some (178,true),.mov 179 (.t 19)⟩,
 ⟨some (178,true),.mov 180 (.t 17)⟩,
 ⟨some (178,true),.bin 181 .neq (.t 179) (.t 180)⟩,
 ⟨some (178,true),.mov 182 (.t 181)⟩,
 ⟨some (182,false),.mov 183 (.t 20)⟩,
 ⟨some (182,false),.mov 184 (.t 18)⟩,
 ⟨some (182,false),.bin 185 .neq (.t 183) (.t 184)⟩,
 ⟨some (178,true),.pick 186 (.t 182) (.k (.bool true)) (.t 185)⟩,
 ⟨none,.pick 187 (.t 178) (.t 186) (.k (.bool false))⟩])
 (.cond (.t 187)
 (.seq (.reg [⟨none,.mov 2 (.k (.bool false))⟩])
 (.ret))
 (.skip)))
 (.seq (.seq (.reg [⟨none,.mov 188 (.t 8)⟩,
 ⟨none,.bin 189 .eql (.t 188) (.k (.int .i64 0))⟩,
 ⟨none,.mov 190 (.t 189)⟩,
 ⟨some (190,true),.fad 191 6 1⟩,
 ⟨some (190,true),.load 192 191 1 false⟩,
 ⟨some (190,true),.bin 193 .eql (.t 192) (.k (.int .i64 2))⟩,
 ⟨some (190,true),.mov 194 (.t 193)⟩,
 ⟨some (194,true),.mov 195 (.t 20)⟩,
 ⟨some (194,true),.mov 196 (.t 18)⟩,
 ⟨some (194,true),.bin 197 .sub (.t 195) (.t 196)⟩,
 ⟨some (194,true),.fad 198 6 3⟩,
 ⟨some (194,true),.load 199 198 1 false⟩,
 ⟨some (194,true),.bin 200 .neq (.t 197) (.t 199)⟩,
 ⟨some (190,true),.pick 201 (.t 194) (.t 200) (.k (.bool false))⟩,
 ⟨some (190,true),.mov 202 (.t 201)⟩,
 ⟨some (202,false),.fad 203 6 1⟩,
 ⟨some (202,false),.load 204 203 1 false⟩,
 ⟨some (202,false),.bin 205 .eql (.t 204) (.k (.int .i64 3))⟩,
 ⟨some (202,false),.mov 206 (.t 205)⟩,
 ⟨some (206,true),.mov 207 (.t 18)⟩,
 ⟨some (206,true),.mov 208 (.t 20)⟩,
 ⟨some (206,true),.bin 209 .sub (.t 207) (.t 208)⟩,
 ⟨some (206,true),.fad 210 6 3⟩,
 ⟨some (206,true),.load 211 210 1 false⟩,
 ⟨some (206,true),.bin 212 .neq (.t 209) (.t 211)⟩,
 ⟨some (202,false),.pick 213 (.t 206) (.t 212) (.k (.bool false))⟩,
 ⟨some (190,true),.pick 214 (.t 202) (.k (.bool true)) (.t 213)⟩,
 ⟨none,.pick 215 (.t 190) (.t 214) (.k (.bool false))⟩])
 (.cond (.t 215)
 (.seq (.reg [⟨none,.mov 2 (.k (.bool false))⟩])
 (.ret))
 (.skip)))
 (.reg [⟨none,.load 216 7 3 true⟩,
 ⟨none,.store 3 3 (.t 216)⟩]))
def r386P:RC:=
 .seq (.seq (.reg [⟨none,.mov 31 (.t 5)⟩,
 ⟨none,.mov 32 (.t 4)⟩,
 ⟨none,.len 33 (.t 32)⟩,
 ⟨none,.bin 34 .lss (.t 31) (.t 33)⟩])
 (.cond (.t 34)
 (.skip)
 (.exit 0)))
 (.seq (.block 1 (.seq (.reg [⟨none,.mov 37 (.t 4)⟩,
 ⟨none,.mov 38 (.t 5)⟩,
 ⟨none,.idx 39 3 (.t 37) (.t 38)⟩,
 ⟨none,.load 40 39 5 true⟩,
 ⟨none,.loc 6 [.int .i64 0,.int .i64 0,.int .u64 0,.int .u64 0,.int .i64 0]⟩,
 ⟨none,.store 6 5 (.t 40)⟩])
 (.seq (.reg [⟨none,.load 42 3 3 true⟩,
 ⟨none,.load 43 6 5 true⟩,
 ⟨none,.call (some 44) 382 [(.t 42),(.t 43)] false⟩,
 ⟨none,.mov 41 (.t 44)⟩,
 ⟨none,.ext 45 (.t 41) 0⟩,
 ⟨none,.ext 46 (.t 41) 1⟩,
 ⟨none,.ext 47 (.t 41) 2⟩,
 ⟨none,.loc 7 [.int .i64 0,.int .i64 0,.nil]⟩,
 ⟨none,.store 7 3 (.t 45)⟩,
 ⟨none,.mov 8 (.t 46)⟩,
 ⟨none,.mov 9 (.t 47)⟩])
 (.seq (.reg [⟨none,.load 49 3 3 true⟩,
 ⟨none,.load 50 6 5 true⟩,
 ⟨none,.call (some 51) 381 [(.t 49),(.t 50)] false⟩,
 ⟨none,.mov 48 (.t 51)⟩,
 ⟨none,.ext 52 (.t 48) 0⟩,
 ⟨none,.ext 53 (.t 48) 1⟩,
 ⟨none,.ext 54 (.t 48) 2⟩,
 ⟨none,.loc 10 [.int .i64 0,.int .i64 0,.nil]⟩,
 ⟨none,.store 10 3 (.t 52)⟩,
 ⟨none,.mov 11 (.t 53)⟩,
 ⟨none,.mov 12 (.t 54)⟩])
 (.seq (.seq (.reg [⟨none,.mov 55 (.t 8)⟩,
 ⟨none,.mov 56 (.t 11)⟩,
 ⟨none,.bin 57 .neq (.t 55) (.t 56)⟩,
 ⟨none,.mov 58 (.t 57)⟩,
 ⟨some (58,false),.mov 59 (.t 9)⟩,
 ⟨some (58,false),.mov 60 (.t 12)⟩,
 ⟨some (58,false),.bin 61 .neq (.t 59) (.t 60)⟩,
 ⟨none,.pick 62 (.t 58) (.k (.bool true)) (.t 61)⟩,
 ⟨none,.mov 63 (.t 62)⟩,
 ⟨some (63,false),.load 64 7 3 true⟩,
 ⟨some (63,false),.call (some 65) 157 [(.t 64)] false⟩,
 ⟨some (63,false),.not 66 (.t 65)⟩,
 ⟨none,.pick 67 (.t 63) (.k (.bool true)) (.t 66)⟩,
 ⟨none,.mov 68 (.t 67)⟩,
 ⟨some (68,false),.load 69 7 3 true⟩,
 ⟨some (68,false),.load 70 10 3 true⟩,
 ⟨some (68,false),.call (some 71) 385 [(.t 69),(.t 70)] false⟩,
 ⟨some (68,false),.not 72 (.t 71)⟩,
 ⟨none,.pick 73 (.t 68) (.k (.bool true)) (.t 72)⟩,
 ⟨none,.mov 74 (.t 73)⟩,
 ⟨some (74,false),.fad 75 7 1⟩,
 ⟨some (74,false),.load 76 75 1 false⟩,
 ⟨some (74,false),.fad 77 3 1⟩,
 ⟨some (74,false),.load 78 77 1 false⟩,
 ⟨some (74,false),.bin 79 .neq (.t 76) (.t 78)⟩,
 ⟨none,.pick 80 (.t 74) (.k (.bool true)) (.t 79)⟩])
 (.cond (.t 80)
 (.seq (.reg [⟨none,.mov 2 (.k (.bool false))⟩])
 (.ret))
 (.skip)))
 (.seq (.seq (.reg [⟨none,.mov 81 (.t 8)⟩,
 ⟨none,.bin 82 .neq (.t 81) (.k (.int .i64 0))⟩,
 ⟨none,.mov 83 (.t 82)⟩,
 ⟨some (83,true),.mov 84 (.t 9)⟩,
 ⟨some (83,true),.bin 85 .neq (.t 84) (.k (.int .u64 0))⟩,
 ⟨some (83,true),.mov 86 (.t 85)⟩,
 ⟨some (86,false),.fad 87 6 1⟩,
 ⟨some (86,false),.load 88 87 1 false⟩,
 ⟨some (86,false),.bin 89 .eql (.t 88) (.k (.int .i64 6))⟩,
 ⟨some (86,false),.mov 90 (.t 89)⟩,
 ⟨some (90,false),.fad 91 6 1⟩,
 ⟨some (90,false),.load 92 91 1 false⟩,
 ⟨some (90,false),.bin 93 .eql (.t 92) (.k (.int .i64 7))⟩,
 ⟨some (86,false),.pick 94 (.t 90) (.k (.bool true)) (.t 93)⟩,
 ⟨some (86,false),.not 95 (.t 94)⟩,
 ⟨some (86,false),.mov 96 (.t 95)⟩,
 ⟨some (96,true),.load 97 7 3 true⟩,
 ⟨some (96,true),.load 98 3 3 true⟩,
 ⟨some (96,true),.call (some 99) 385 [(.t 97),(.t 98)] false⟩,
 ⟨some (96,true),.not 100 (.t 99)⟩,
 ⟨some (86,false),.pick 101 (.t 96) (.t 100) (.k (.bool false))⟩,
 ⟨some (83,true),.pick 102 (.t 86) (.k (.bool true)) (.t 101)⟩,
 ⟨none,.pick 103 (.t 83) (.t 102) (.k (.bool false))⟩])
 (.cond (.t 103)
 (.seq (.reg [⟨none,.mov 2 (.k (.bool false))⟩])
 (.ret))
 (.skip)))
 (.seq (.reg [⟨none,.load 104 6 5 true⟩,
 ⟨none,.loc 13 [.int .i64 0,.int .i64 0,.int .u64 0,.int .u64 0,.int .i64 0]⟩,
 ⟨none,.store 13 5 (.t 104)⟩])
 (.seq (.reg [⟨none,.fad 105 6 0⟩,
 ⟨none,.load 106 105 1 false⟩,
 ⟨none,.bin 107 .add (.t 106) (.k (.int .i64 1))⟩,
 ⟨none,.fad 108 13 0⟩,
 ⟨none,.store 108 1 (.t 107)⟩])
 (.seq (.reg [⟨none,.load 110 3 3 true⟩,
 ⟨none,.load 111 13 5 true⟩,
 ⟨none,.call (some 112) 382 [(.t 110),(.t 111)] false⟩,
 ⟨none,.mov 109 (.t 112)⟩,
 ⟨none,.ext 113 (.t 109) 0⟩,
 ⟨none,.ext 114 (.t 109) 1⟩,
 ⟨none,.ext 115 (.t 109) 2⟩,
 ⟨none,.loc 14 [.int .i64 0,.int .i64 0,.nil]⟩,
 ⟨none,.store 14 3 (.t 113)⟩,
 ⟨none,.mov 15 (.t 114)⟩,
 ⟨none,.mov 16 (.t 115)⟩])
 (.seq (.seq (.reg [⟨none,.mov 116 (.t 8)⟩,
 ⟨none,.bin 117 .neq (.t 116) (.k (.int .i64 8))⟩,
 ⟨none,.mov 118 (.t 117)⟩,
 ⟨some (118,true),.mov 119 (.t 8)⟩,
 ⟨some (118,true),.bin 120 .neq (.t 119) (.k (.int .i64 11))⟩,
 ⟨none,.pick 121 (.t 118) (.t 120) (.k (.bool false))⟩,
 ⟨none,.mov 122 (.t 121)⟩,
 ⟨some (122,true),.mov 123 (.t 8)⟩,
 ⟨some (122,true),.bin 124 .neq (.t 123) (.k (.int .i64 9))⟩,
 ⟨none,.pick 125 (.t 122) (.t 124) (.k (.bool false))⟩,
 ⟨none,.mov 126 (.t 125)⟩,
 ⟨some (126,true),.mov 127 (.t 15)⟩,
 ⟨some (126,true),.bin 128 .neq (.t 127) (.k (.int .i64 9))⟩,
 ⟨some (126,true),.mov 129 (.t 128)⟩,
 ⟨some (129,false),.load 130 14 3 true⟩,
 ⟨some (129,false),.load 131 3 3 true⟩,
 ⟨some (129,false),.call (some 132) 385 [(.t 130),(.t 131)] false⟩,
 ⟨some (129,false),.not 133 (.t 132)⟩,
 ⟨some (126,true),.pick 134 (.t 129) (.k (.bool true)) (.t 133)⟩,
 ⟨none,.pick 135 (.t 126) (.t 134) (.k (.bool false))⟩])
 (.cond (.t 135)
 (.seq (.reg [⟨none,.mov 2 (.k (.bool false))⟩])
 (.ret))
 (.skip)))
 (.seq (.reg [⟨none,.load 137 3 3 true⟩,
 ⟨none,.call (some 138) 164 [(.t 137)] false⟩,
 ⟨none,.mov 136 (.t 138)⟩,
 ⟨none,.ext 139 (.t 136) 0⟩,
 ⟨none,.ext 140 (.t 136) 1⟩,
 ⟨none,.mov 17 (.t 139)⟩,
 ⟨none,.mov 18 (.t 140)⟩])
 (.seq (.reg [⟨none,.load 142 7 3 true⟩,
 ⟨none,.call (some 143) 164 [(.t 142)] false⟩,
 ⟨none,.mov 141 (.t 143)⟩,
 ⟨none,.ext 144 (.t 141) 0⟩,
 ⟨none,.ext 145 (.t 141) 1⟩,
 ⟨none,.mov 19 (.t 144)⟩,
 ⟨none,.mov 20 (.t 145)⟩])
 r386T))))))))))))
 (.reg [⟨none,.mov 35 (.t 5)⟩,
 ⟨none,.bin 36 .add (.t 35) (.k (.int .i64 1))⟩,
 ⟨none,.mov 5 (.t 36)⟩]))
theorem r386L0_eq:r386L0=r386P:=rfl
end Go.Proofs.YtahkgghifaodoaaGreat.A
namespace Go.Proofs.YtahkgghifaodoaaGreat.A
open Go
set_option linter.unusedSimpArgs false
set_option linter.unusedVariables false
theorem lk_ne {α:Type}: ∀(e:List (Nat×α)) {d t:Nat},(d==t)=false→lk (drop e d) t=lk e t
 | [],_,_,_=>rfl
 | (s,v)::r,d,t,h=>by
   have ih:=lk_ne r h
   simp only[drop]
   cases hs:(s==d) with
   | true=>
     have hst:(s==t)=false:=by
      have:s=d:=by simpa using hs
      rw[this];exact h
     simp only[cond_true,lk,hst,cond_false,ih]
   | false=>simp only[cond_false,lk,ih]
theorem lk_self {α:Type}: ∀(e:List (Nat×α)) (d:Nat),lk (drop e d) d=none
 | [],_=>rfl
 | (s,v)::r,d=>by
   simp only[drop]
   cases hs:(s==d) with
   | true=>simp only[cond_true,lk_self r d]
   | false=>simp only[cond_false,lk,hs,lk_self r d]
theorem lo_puts (M m:Int) (hm:0≤m∧m≤18446744073709551615):IntKind.u64.wrap (wLo (M+m)-wLo M)=m:=by
 show (wLo (M+m)-wLo M)%18446744073709551616=m
 simp only[wLo];omega
theorem lo_takes (M m:Int) (hm:0≤m∧m≤18446744073709551615):IntKind.u64.wrap (wLo M-wLo (M+ -m))=m:=by
 show (wLo M-wLo (M+ -m))%18446744073709551616=m
 simp only[wLo];omega
section
variable {F:Nat→Option RF} {Z:CallF}
set_option maxHeartbeats 40000000 in
set_option maxRecDepth 8000 in
theorem sums_go {E:List (Nat×V)} {A:List (Nat×Nat×Nat)} {L:List (Nat×List Cell)} {H:Heap} {y:Cell} {i:Nat} {qe qo qi qa qt X M M':Int} {s0 s1:List Cell}
 (t8:lk E 8=some (.c (.int .i64 X))) (t17:lk E 17=some (.c (.int .u64 (wHi M)))) (t18:lk E 18=some (.c (.int .u64 (wLo M)))) (t19:lk E 19=some (.c (.int .u64 (wHi M')))) (t20:lk E 20=some (.c (.int .u64 (wLo M'))))
 (t4:lk E 4=some (.c y)) (t5:lk E 5=some (.c (.int .i64 (i:Nat)))) (t3:lk E 3=none)
 (a3:lk A 3=some (3,0)) (a6:lk A 6=some (6,0)) (a7:lk A 7=some (7,0)) (a4:lk A 4=none) (a5:lk A 5=none)
 (l3:lk L 3=some s0) (l4:lk L 4=none) (l5:lk L 5=none) (l6:lk L 6=some [.int .i64 qe,.int .i64 qo,.int .u64 qi,.int .u64 qa,.int .i64 qt]) (l7:lk L 7=some s1)
 (n0:s0.length=3∧s0.take 3=s0∧s0.drop 3=[]) (n1:s1.length=3∧s1.take 3=s1∧s1.drop 3=[]) (hi:i<1000000)
 (F1:X≠0→M'=M) (F2:X=0→qo≠6→M'=M+(if qo=2 then qa else if qo=3 then -qa else 0)) (hqa:0≤qa∧qa≤18446744073709551615):
 loopC (loop F Z) [3,4,5] r386L0 (thenC (call F Z) (loop F Z) (.reg [⟨none,.mov 35 (.t 5)⟩,⟨none,.bin 36 .add (.t 35) (.k (.int .i64 1))⟩,⟨none,.mov 5 (.t 36)⟩]) (blockC 1 (codeF (call F Z) (loop F Z) r386T ⟨E,A,L,H⟩)))=
  loop F Z [3,4,5] r386L0 ⟨[(4,.c y),(5,.c (.int .i64 ((i+1:Nat):Int)))],[(3,3,0)],[(3,s1)],H⟩:=by
 have hws:=wrapS i (by omega)
 obtain ⟨b1,b2,b3⟩:=n0
 obtain ⟨c1,c2,c3⟩:=n1
 unfold r386T
 have hz:((0:Int) !=0)=false:=rfl
 by_cases x0:X=0
 ·subst x0
  by_cases o0:qo=0
  case pos=>
   subst o0
   have hM:=F2 rfl (by omega)
   rw[if_neg (by omega),if_neg (by omega),Int.add_zero] at hM
   subst hM
   simp only[rn,RO.dst,lk,drop,Nat.reduceBEq,Nat.reduceAdd,Nat.reduceLeDiff,↓reduceIte,reduceCtorEq,Int.reduceBEq,Int.reduceBNe,bne_self_eq_false,beq_self_eq_true,t8,t17,t18,t19,t20,t4,t5,t3,a3,a6,a7,a4,a5,l3,l4,l5,l6,l7,b1,b2,b3,c1,c2,c3,lk_ne,lk_self,hws]
  by_cases o1:qo=1
  case pos=>
   subst o1
   have hM:=F2 rfl (by omega)
   rw[if_neg (by omega),if_neg (by omega),Int.add_zero] at hM
   subst hM
   simp only[rn,RO.dst,lk,drop,Nat.reduceBEq,Nat.reduceAdd,Nat.reduceLeDiff,↓reduceIte,reduceCtorEq,Int.reduceBEq,Int.reduceBNe,bne_self_eq_false,beq_self_eq_true,t8,t17,t18,t19,t20,t4,t5,t3,a3,a6,a7,a4,a5,l3,l4,l5,l6,l7,b1,b2,b3,c1,c2,c3,lk_ne,lk_self,hws]
  by_cases o4:qo=4
  case pos=>
   subst o4
   have hM:=F2 rfl (by omega)
   rw[if_neg (by omega),if_neg (by omega),Int.add_zero] at hM
   subst hM
   simp only[rn,RO.dst,lk,drop,Nat.reduceBEq,Nat.reduceAdd,Nat.reduceLeDiff,↓reduceIte,reduceCtorEq,Int.reduceBEq,Int.reduceBNe,bne_self_eq_false,beq_self_eq_true,t8,t17,t18,t19,t20,t4,t5,t3,a3,a6,a7,a4,a5,l3,l4,l5,l6,l7,b1,b2,b3,c1,c2,c3,lk_ne,lk_self,hws]
  by_cases o5:qo=5
  case pos=>
   subst o5
   have hM:=F2 rfl (by omega)
   rw[if_neg (by omega),if_neg (by omega),Int.add_zero] at hM
   subst hM
   simp only[rn,RO.dst,lk,drop,Nat.reduceBEq,Nat.reduceAdd,Nat.reduceLeDiff,↓reduceIte,reduceCtorEq,Int.reduceBEq,Int.reduceBNe,bne_self_eq_false,beq_self_eq_true,t8,t17,t18,t19,t20,t4,t5,t3,a3,a6,a7,a4,a5,l3,l4,l5,l6,l7,b1,b2,b3,c1,c2,c3,lk_ne,lk_self,hws]
  by_cases o7:qo=7
  case pos=>
   subst o7
   have hM:=F2 rfl (by omega)
   rw[if_neg (by omega),if_neg (by omega),Int.add_zero] at hM
   subst hM
   simp only[rn,RO.dst,lk,drop,Nat.reduceBEq,Nat.reduceAdd,Nat.reduceLeDiff,↓reduceIte,reduceCtorEq,Int.reduceBEq,Int.reduceBNe,bne_self_eq_false,beq_self_eq_true,t8,t17,t18,t19,t20,t4,t5,t3,a3,a6,a7,a4,a5,l3,l4,l5,l6,l7,b1,b2,b3,c1,c2,c3,lk_ne,lk_self,hws]
  by_cases o8:qo=8
  case pos=>
   subst o8
   have hM:=F2 rfl (by omega)
   rw[if_neg (by omega),if_neg (by omega),Int.add_zero] at hM
   subst hM
   simp only[rn,RO.dst,lk,drop,Nat.reduceBEq,Nat.reduceAdd,Nat.reduceLeDiff,↓reduceIte,reduceCtorEq,Int.reduceBEq,Int.reduceBNe,bne_self_eq_false,beq_self_eq_true,t8,t17,t18,t19,t20,t4,t5,t3,a3,a6,a7,a4,a5,l3,l4,l5,l6,l7,b1,b2,b3,c1,c2,c3,lk_ne,lk_self,hws]
  by_cases o2:qo=2
  case pos=>
   subst o2
   have hM:=F2 rfl (by omega)
   rw[if_pos rfl] at hM
   subst hM
   have hp:=lo_puts M qa hqa
   simp only[rn,RO.dst,lk,drop,Nat.reduceBEq,Nat.reduceAdd,Nat.reduceLeDiff,↓reduceIte,reduceCtorEq,Int.reduceBEq,Int.reduceBNe,bne_self_eq_false,beq_self_eq_true,t8,t17,t18,t19,t20,t4,t5,t3,a3,a6,a7,a4,a5,l3,l4,l5,l6,l7,b1,b2,b3,c1,c2,c3,lk_ne,lk_self,hws,hp]
  by_cases o3:qo=3
  case pos=>
   subst o3
   have hM:=F2 rfl (by omega)
   rw[if_neg (by omega),if_pos rfl] at hM
   subst hM
   have hp:=lo_takes M qa hqa
   simp only[rn,RO.dst,lk,drop,Nat.reduceBEq,Nat.reduceAdd,Nat.reduceLeDiff,↓reduceIte,reduceCtorEq,Int.reduceBEq,Int.reduceBNe,bne_self_eq_false,beq_self_eq_true,t8,t17,t18,t19,t20,t4,t5,t3,a3,a6,a7,a4,a5,l3,l4,l5,l6,l7,b1,b2,b3,c1,c2,c3,lk_ne,lk_self,hws,hp]
  have d0:(qo==0)=false:=by simpa using o0
  have d1:(qo==1)=false:=by simpa using o1
  have d4:(qo==4)=false:=by simpa using o4
  have d5:(qo==5)=false:=by simpa using o5
  have d7:(qo==7)=false:=by simpa using o7
  have d8:(qo==8)=false:=by simpa using o8
  have d2:(qo==2)=false:=by simpa using o2
  have d3:(qo==3)=false:=by simpa using o3
  simp only[rn,RO.dst,lk,drop,Nat.reduceBEq,Nat.reduceAdd,Nat.reduceLeDiff,↓reduceIte,reduceCtorEq,Int.reduceBEq,Int.reduceBNe,bne_self_eq_false,beq_self_eq_true,t8,t17,t18,t19,t20,t4,t5,t3,a3,a6,a7,a4,a5,l3,l4,l5,l6,l7,b1,b2,b3,c1,c2,c3,lk_ne,lk_self,hws,d0,d1,d2,d3,d4,d5,d7,d8]
 ·obtain rfl:=F1 x0
  have e0:(X==0)=false:=by simpa using x0
  have e1:(X !=0)=true:=by simpa using x0
  by_cases o0:qo=0
  case pos=>
   subst o0
   simp only[rn,RO.dst,lk,drop,Nat.reduceBEq,Nat.reduceAdd,Nat.reduceLeDiff,↓reduceIte,reduceCtorEq,Int.reduceBEq,Int.reduceBNe,bne_self_eq_false,beq_self_eq_true,t8,t17,t18,t19,t20,t4,t5,t3,a3,a6,a7,a4,a5,l3,l4,l5,l6,l7,b1,b2,b3,c1,c2,c3,lk_ne,lk_self,hws,e0,e1]
  by_cases o1:qo=1
  case pos=>
   subst o1
   simp only[rn,RO.dst,lk,drop,Nat.reduceBEq,Nat.reduceAdd,Nat.reduceLeDiff,↓reduceIte,reduceCtorEq,Int.reduceBEq,Int.reduceBNe,bne_self_eq_false,beq_self_eq_true,t8,t17,t18,t19,t20,t4,t5,t3,a3,a6,a7,a4,a5,l3,l4,l5,l6,l7,b1,b2,b3,c1,c2,c3,lk_ne,lk_self,hws,e0,e1]
  by_cases o4:qo=4
  case pos=>
   subst o4
   simp only[rn,RO.dst,lk,drop,Nat.reduceBEq,Nat.reduceAdd,Nat.reduceLeDiff,↓reduceIte,reduceCtorEq,Int.reduceBEq,Int.reduceBNe,bne_self_eq_false,beq_self_eq_true,t8,t17,t18,t19,t20,t4,t5,t3,a3,a6,a7,a4,a5,l3,l4,l5,l6,l7,b1,b2,b3,c1,c2,c3,lk_ne,lk_self,hws,e0,e1]
  by_cases o5:qo=5
  case pos=>
   subst o5
   simp only[rn,RO.dst,lk,drop,Nat.reduceBEq,Nat.reduceAdd,Nat.reduceLeDiff,↓reduceIte,reduceCtorEq,Int.reduceBEq,Int.reduceBNe,bne_self_eq_false,beq_self_eq_true,t8,t17,t18,t19,t20,t4,t5,t3,a3,a6,a7,a4,a5,l3,l4,l5,l6,l7,b1,b2,b3,c1,c2,c3,lk_ne,lk_self,hws,e0,e1]
  by_cases o7:qo=7
  case pos=>
   subst o7
   simp only[rn,RO.dst,lk,drop,Nat.reduceBEq,Nat.reduceAdd,Nat.reduceLeDiff,↓reduceIte,reduceCtorEq,Int.reduceBEq,Int.reduceBNe,bne_self_eq_false,beq_self_eq_true,t8,t17,t18,t19,t20,t4,t5,t3,a3,a6,a7,a4,a5,l3,l4,l5,l6,l7,b1,b2,b3,c1,c2,c3,lk_ne,lk_self,hws,e0,e1]
  by_cases o8:qo=8
  case pos=>
   subst o8
   simp only[rn,RO.dst,lk,drop,Nat.reduceBEq,Nat.reduceAdd,Nat.reduceLeDiff,↓reduceIte,reduceCtorEq,Int.reduceBEq,Int.reduceBNe,bne_self_eq_false,beq_self_eq_true,t8,t17,t18,t19,t20,t4,t5,t3,a3,a6,a7,a4,a5,l3,l4,l5,l6,l7,b1,b2,b3,c1,c2,c3,lk_ne,lk_self,hws,e0,e1]
  have d0:(qo==0)=false:=by simpa using o0
  have d1:(qo==1)=false:=by simpa using o1
  have d4:(qo==4)=false:=by simpa using o4
  have d5:(qo==5)=false:=by simpa using o5
  have d7:(qo==7)=false:=by simpa using o7
  have d8:(qo==8)=false:=by simpa using o8
  simp only[rn,RO.dst,lk,drop,Nat.reduceBEq,Nat.reduceAdd,Nat.reduceLeDiff,↓reduceIte,reduceCtorEq,Int.reduceBEq,Int.reduceBNe,bne_self_eq_false,beq_self_eq_true,t8,t17,t18,t19,t20,t4,t5,t3,a3,a6,a7,a4,a5,l3,l4,l5,l6,l7,b1,b2,b3,c1,c2,c3,lk_ne,lk_self,hws,d0,d1,d4,d5,d7,d8,e0,e1]
end
end Go.Proofs.YtahkgghifaodoaaGreat.A
namespace Go.Proofs.YtahkgghifaodoaaGreat.A
open Go
set_option linter.unusedSimpArgs false
set_option linter.unusedVariables false
section
variable {F:Nat→Option RF} {Z:CallF} {g h h1 h2 h3 h4 h5 h6:Heap}
set_option maxHeartbeats 40000000 in
set_option maxRecDepth 8000 in
theorem store_run {y z z1:Cell} {qs:List Request} {fy:List Nat} {cs2 cs4:List Cell} {qe qo qi qa qt X V X' V' gr gr' sn M M':Int} {bN bS:Bool} {i:Nat}
 (l:SlR 3 (Fl Request.enc) h y qs fy) (hi:i<qs.length) (hil:qs.length≤1000) (hq:qs[i]=⟨qe,qo,qi,qa,qt⟩)
 (n2:cs2.length=3∧cs2.take 3=cs2∧cs2.drop 3=[]) (n4:cs4.length=3∧cs4.take 3=cs4∧cs4.drop 3=[])
 (e2:call F Z 382 [.agg [.int .i64 gr,.int .i64 sn,z],.agg [.int .i64 qe,.int .i64 qo,.int .u64 qi,.int .u64 qa,.int .i64 qt]] h=some (.tup [.agg [.int .i64 gr',.int .i64 sn,z1],.c (.int .i64 X),.c (.int .u64 V)],h1))
 (e3:call F Z 381 [.agg [.int .i64 gr,.int .i64 sn,z],.agg [.int .i64 qe,.int .i64 qo,.int .u64 qi,.int .u64 qa,.int .i64 qt]] h1=some (.tup [.agg cs2,.c (.int .i64 X),.c (.int .u64 V)],h2))
 (e4:call F Z 157 [.agg [.int .i64 gr',.int .i64 sn,z1]] h2=some (.c (.bool true),h3))
 (e5:call F Z 385 [.agg [.int .i64 gr',.int .i64 sn,z1],.agg cs2] h3=some (.c (.bool true),h3))
 (e6:call F Z 385 [.agg [.int .i64 gr',.int .i64 sn,z1],.agg [.int .i64 gr,.int .i64 sn,z]] h3=some (.c (.bool bN),h3))
 (e7:call F Z 382 [.agg [.int .i64 gr,.int .i64 sn,z],.agg [.int .i64 (IntKind.i64.wrap (qe+1)),.int .i64 qo,.int .u64 qi,.int .u64 qa,.int .i64 qt]] h3=some (.tup [.agg cs4,.c (.int .i64 X'),.c (.int .u64 V')],h4))
 (e8:call F Z 385 [.agg cs4,.agg [.int .i64 gr,.int .i64 sn,z]] h4=some (.c (.bool bS),h4))
 (e9:call F Z 164 [.agg [.int .i64 gr,.int .i64 sn,z]] h4=some (.tup [.c (.int .u64 (wHi M)),.c (.int .u64 (wLo M))],h5))
 (e10:call F Z 164 [.agg [.int .i64 gr',.int .i64 sn,z1]] h5=some (.tup [.c (.int .u64 (wHi M')),.c (.int .u64 (wLo M'))],h6))
 (F1:X≠0→V=0∧(qo≠6→qo≠7→bN=true)∧M'=M) (F2:X=0→qo≠6→M'=M+(if qo=2 then qa else if qo=3 then -qa else 0))
 (F3:X≠8→X≠11→X≠9→bS=true∧X'=9) (hqa:0≤qa∧qa≤18446744073709551615):
 loop F Z [3,4,5] r386L0 ⟨[(4,.c y),(5,.c (.int .i64 (i:Nat)))],[(3,3,0)],[(3,[.int .i64 gr,.int .i64 sn,z])],h⟩=
  loop F Z [3,4,5] r386L0 ⟨[(4,.c y),(5,.c (.int .i64 ((i+1:Nat):Int)))],[(3,3,0)],[(3,[.int .i64 gr',.int .i64 sn,z1])],h6⟩:=by
 have hle:=l.le2
 have hlt:(i:Int)<qs.length:=by omega
 have hws:=wrapS i (by omega)
 have hli:=l.idx hi
 have hll:=l.load hi
 have hlen:=l.len
 rw[hq] at hll
 simp only[Request.enc] at hll
 obtain ⟨a1,a2,a3⟩:=n2
 obtain ⟨b1,b2,b3⟩:=n4
 clear l hq
 rw[loop_run]
 conv in (codeF _ _ r386L0 _)=>rw[r386L0_eq]
 conv in (codeF _ _ r386P _)=>unfold r386P
 simp only[rn,RO.dst,lk,drop,Nat.reduceBEq,Nat.reduceAdd,Nat.reduceLeDiff,↓reduceIte,reduceCtorEq,hlen,hlt,hli,hll,e2,e3,a1,a2,a3,bne_self_eq_false,e4,e5]
 have hz:((0:Int) !=0)=false:=rfl
 by_cases x0:X=0
 ·subst x0
  obtain ⟨rfl,rfl⟩:=F3 (by omega) (by omega) (by omega)
  simp only[rn,RO.dst,lk,drop,Nat.reduceBEq,Nat.reduceAdd,Nat.reduceLeDiff,↓reduceIte,reduceCtorEq,Int.reduceBEq,Int.reduceBNe,bne_self_eq_false,beq_self_eq_true,e6,e7,b1,b2,b3,e8,e9,e10,hz]
  exact sums_go rfl rfl rfl rfl rfl rfl rfl rfl rfl rfl rfl rfl rfl rfl rfl rfl rfl rfl ⟨rfl,rfl,rfl⟩ ⟨rfl,rfl,rfl⟩ (by omega) (fun h=>absurd rfl h) F2 hqa
 ·obtain ⟨rfl,hN,rfl⟩:=F1 x0
  have c1:(X !=0)=true:=by simpa using x0
  by_cases o6:qo=6
  case pos=>
   subst o6
   by_cases x8:X=8
   case pos=>
    subst x8
    clear c1
    simp only[rn,RO.dst,lk,drop,Nat.reduceBEq,Nat.reduceAdd,Nat.reduceLeDiff,↓reduceIte,reduceCtorEq,Int.reduceBEq,Int.reduceBNe,bne_self_eq_false,beq_self_eq_true,e6,e7,b1,b2,b3,e8,e9,e10,hz]
    exact sums_go rfl rfl rfl rfl rfl rfl rfl rfl rfl rfl rfl rfl rfl rfl rfl rfl rfl rfl ⟨rfl,rfl,rfl⟩ ⟨rfl,rfl,rfl⟩ (by omega) (fun _=>rfl) F2 hqa
   by_cases x11:X=11
   case pos=>
    subst x11
    clear c1
    simp only[rn,RO.dst,lk,drop,Nat.reduceBEq,Nat.reduceAdd,Nat.reduceLeDiff,↓reduceIte,reduceCtorEq,Int.reduceBEq,Int.reduceBNe,bne_self_eq_false,beq_self_eq_true,e6,e7,b1,b2,b3,e8,e9,e10,hz]
    exact sums_go rfl rfl rfl rfl rfl rfl rfl rfl rfl rfl rfl rfl rfl rfl rfl rfl rfl rfl ⟨rfl,rfl,rfl⟩ ⟨rfl,rfl,rfl⟩ (by omega) (fun _=>rfl) F2 hqa
   by_cases x9:X=9
   case pos=>
    subst x9
    clear c1
    simp only[rn,RO.dst,lk,drop,Nat.reduceBEq,Nat.reduceAdd,Nat.reduceLeDiff,↓reduceIte,reduceCtorEq,Int.reduceBEq,Int.reduceBNe,bne_self_eq_false,beq_self_eq_true,e6,e7,b1,b2,b3,e8,e9,e10,hz]
    exact sums_go rfl rfl rfl rfl rfl rfl rfl rfl rfl rfl rfl rfl rfl rfl rfl rfl rfl rfl ⟨rfl,rfl,rfl⟩ ⟨rfl,rfl,rfl⟩ (by omega) (fun _=>rfl) F2 hqa
   obtain ⟨rfl,rfl⟩:=F3 x8 x11 x9
   have c18:(X !=8)=true:=by simpa using x8
   have c21:(X !=11)=true:=by simpa using x11
   have c19:(X !=9)=true:=by simpa using x9
   simp only[rn,RO.dst,lk,drop,Nat.reduceBEq,Nat.reduceAdd,Nat.reduceLeDiff,↓reduceIte,reduceCtorEq,Int.reduceBEq,Int.reduceBNe,bne_self_eq_false,beq_self_eq_true,e6,e7,b1,b2,b3,e8,e9,e10,hz,c1,c18,c21,c19]
   exact sums_go rfl rfl rfl rfl rfl rfl rfl rfl rfl rfl rfl rfl rfl rfl rfl rfl rfl rfl ⟨rfl,rfl,rfl⟩ ⟨rfl,rfl,rfl⟩ (by omega) (fun _=>rfl) F2 hqa
  by_cases o7:qo=7
  case pos=>
   subst o7
   by_cases x8:X=8
   case pos=>
    subst x8
    clear c1
    simp only[rn,RO.dst,lk,drop,Nat.reduceBEq,Nat.reduceAdd,Nat.reduceLeDiff,↓reduceIte,reduceCtorEq,Int.reduceBEq,Int.reduceBNe,bne_self_eq_false,beq_self_eq_true,e6,e7,b1,b2,b3,e8,e9,e10,hz]
    exact sums_go rfl rfl rfl rfl rfl rfl rfl rfl rfl rfl rfl rfl rfl rfl rfl rfl rfl rfl ⟨rfl,rfl,rfl⟩ ⟨rfl,rfl,rfl⟩ (by omega) (fun _=>rfl) F2 hqa
   by_cases x11:X=11
   case pos=>
    subst x11
    clear c1
    simp only[rn,RO.dst,lk,drop,Nat.reduceBEq,Nat.reduceAdd,Nat.reduceLeDiff,↓reduceIte,reduceCtorEq,Int.reduceBEq,Int.reduceBNe,bne_self_eq_false,beq_self_eq_true,e6,e7,b1,b2,b3,e8,e9,e10,hz]
    exact sums_go rfl rfl rfl rfl rfl rfl rfl rfl rfl rfl rfl rfl rfl rfl rfl rfl rfl rfl ⟨rfl,rfl,rfl⟩ ⟨rfl,rfl,rfl⟩ (by omega) (fun _=>rfl) F2 hqa
   by_cases x9:X=9
   case pos=>
    subst x9
    clear c1
    simp only[rn,RO.dst,lk,drop,Nat.reduceBEq,Nat.reduceAdd,Nat.reduceLeDiff,↓reduceIte,reduceCtorEq,Int.reduceBEq,Int.reduceBNe,bne_self_eq_false,beq_self_eq_true,e6,e7,b1,b2,b3,e8,e9,e10,hz]
    exact sums_go rfl rfl rfl rfl rfl rfl rfl rfl rfl rfl rfl rfl rfl rfl rfl rfl rfl rfl ⟨rfl,rfl,rfl⟩ ⟨rfl,rfl,rfl⟩ (by omega) (fun _=>rfl) F2 hqa
   obtain ⟨rfl,rfl⟩:=F3 x8 x11 x9
   have c18:(X !=8)=true:=by simpa using x8
   have c21:(X !=11)=true:=by simpa using x11
   have c19:(X !=9)=true:=by simpa using x9
   simp only[rn,RO.dst,lk,drop,Nat.reduceBEq,Nat.reduceAdd,Nat.reduceLeDiff,↓reduceIte,reduceCtorEq,Int.reduceBEq,Int.reduceBNe,bne_self_eq_false,beq_self_eq_true,e6,e7,b1,b2,b3,e8,e9,e10,hz,c1,c18,c21,c19]
   exact sums_go rfl rfl rfl rfl rfl rfl rfl rfl rfl rfl rfl rfl rfl rfl rfl rfl rfl rfl ⟨rfl,rfl,rfl⟩ ⟨rfl,rfl,rfl⟩ (by omega) (fun _=>rfl) F2 hqa
  have d6:(qo==6)=false:=by simpa using o6
  have d7:(qo==7)=false:=by simpa using o7
  obtain rfl:=hN o6 o7
  by_cases x8:X=8
  case pos=>
   subst x8
   clear c1
   simp only[rn,RO.dst,lk,drop,Nat.reduceBEq,Nat.reduceAdd,Nat.reduceLeDiff,↓reduceIte,reduceCtorEq,Int.reduceBEq,Int.reduceBNe,bne_self_eq_false,beq_self_eq_true,e6,e7,b1,b2,b3,e8,e9,e10,hz,d6,d7]
   exact sums_go rfl rfl rfl rfl rfl rfl rfl rfl rfl rfl rfl rfl rfl rfl rfl rfl rfl rfl ⟨rfl,rfl,rfl⟩ ⟨rfl,rfl,rfl⟩ (by omega) (fun _=>rfl) F2 hqa
  by_cases x11:X=11
  case pos=>
   subst x11
   clear c1
   simp only[rn,RO.dst,lk,drop,Nat.reduceBEq,Nat.reduceAdd,Nat.reduceLeDiff,↓reduceIte,reduceCtorEq,Int.reduceBEq,Int.reduceBNe,bne_self_eq_false,beq_self_eq_true,e6,e7,b1,b2,b3,e8,e9,e10,hz,d6,d7]
   exact sums_go rfl rfl rfl rfl rfl rfl rfl rfl rfl rfl rfl rfl rfl rfl rfl rfl rfl rfl ⟨rfl,rfl,rfl⟩ ⟨rfl,rfl,rfl⟩ (by omega) (fun _=>rfl) F2 hqa
  by_cases x9:X=9
  case pos=>
   subst x9
   clear c1
   simp only[rn,RO.dst,lk,drop,Nat.reduceBEq,Nat.reduceAdd,Nat.reduceLeDiff,↓reduceIte,reduceCtorEq,Int.reduceBEq,Int.reduceBNe,bne_self_eq_false,beq_self_eq_true,e6,e7,b1,b2,b3,e8,e9,e10,hz,d6,d7]
   exact sums_go rfl rfl rfl rfl rfl rfl rfl rfl rfl rfl rfl rfl rfl rfl rfl rfl rfl rfl ⟨rfl,rfl,rfl⟩ ⟨rfl,rfl,rfl⟩ (by omega) (fun _=>rfl) F2 hqa
  obtain ⟨rfl,rfl⟩:=F3 x8 x11 x9
  have c18:(X !=8)=true:=by simpa using x8
  have c21:(X !=11)=true:=by simpa using x11
  have c19:(X !=9)=true:=by simpa using x9
  simp only[rn,RO.dst,lk,drop,Nat.reduceBEq,Nat.reduceAdd,Nat.reduceLeDiff,↓reduceIte,reduceCtorEq,Int.reduceBEq,Int.reduceBNe,bne_self_eq_false,beq_self_eq_true,e6,e7,b1,b2,b3,e8,e9,e10,hz,c1,c18,c21,c19,d6,d7]
  exact sums_go rfl rfl rfl rfl rfl rfl rfl rfl rfl rfl rfl rfl rfl rfl rfl rfl rfl rfl ⟨rfl,rfl,rfl⟩ ⟨rfl,rfl,rfl⟩ (by omega) (fun _=>rfl) F2 hqa
end
end Go.Proofs.YtahkgghifaodoaaGreat.A
