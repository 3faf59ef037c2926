/- The functions that the statement reaches, part 3: bodies and what they compute. No condition. -/
import Derived.Test.YtjaideekkbpalaaGreatHCHand2
import Derived.Test.YtjaideekkbpalaaGreatD
import Derived.Test.YtjaideekkbpalaaGreatA1
namespace Go.Proofs.YtjaideekkbpalaaGreat.A
open _root_.Bool renaming false_and→Qa,and_false→Qb,and_self→Qc,true_and→Qe,and_true→Qf,and_eq_true→Qg,or_eq_true→QO,and_eq_false_iff→QQ,not_eq_true→QS,not_eq_true'→Jf,not_false→Js,not_true→Jt
open _root_.Int renaming toNat_natCast→Jg,le_refl→Jq
open _root_.List renaming getElem_mem→Qd,replicate_zero→Qh,replicate_succ→Qi,set_cons_zero→Qj,nodup_append→Ql,set_cons_succ→Qm,mem_append→Qn,length_map→Qp,length_cons→Qq,length_append→Qr,length_nil→Qs,getElem?_eq_getElem→Qt,length_take→Qu,not_mem_nil→Qv,mem_append_right→Qw,mem_cons→Qx,mem_singleton→Qy,mem_iff_getElem→Qz,mem_of_getElem?→QA,findIdx?_eq_some_iff_getElem→QB,flatten_cons→QC,mem_cons_of_mem→QE,length_set→QF,map_cons→QH,take_length→QI,findIdx?_eq_none_iff→QJ,take_add_one→QK,mem_flatten→QL,map_nil→QM,eraseIdx_sublist→QP,mem_of_mem_take→QR,getElem?_cons_zero→QU,length_drop→QV,all_eq_true→QW,drop_append_of_le_length→QX,eq_nil_of_length_eq_zero→QY,mem_of_mem_drop→QZ,mem_append_left→Ja,mem_filter→Jb,mem_range→Jc,mem_or_eq_of_mem_set→Jd,append_assoc→Je,getElem_set→Jh,drop_eq_nil_of_le→Ji,getElem_cons_zero→Jj,getElem_cons_succ→Jk,pairwise_append→Jl,nodup_cons→Jr,mem_map→Ju
open _root_.Nat renaming zero_lt_one→Qk,zero_lt_succ→Qo,le_refl→QD,zero_add→QG,le_trans→QN,not_lt_zero→QT,lt_of_lt_of_le→Jm,lt_succ_self→Jo,le_succ→Jv
open _root_.Option renaming bind_some→Jp
open Go
set_option linter.unusedSimpArgs false
set_option linter.unusedVariables false
def Account.new (id:Int):Account:=⟨id,0,0,0,0⟩
def plusAcc (xs:List Account) (id:Int):List Account:=xs.take (Wbk xs id)++[Account.new id]++xs.drop (Wbk xs id)
def Wbn (xs:List Account) (id:Int):List Account×Int:=bif Wap xs then (bif decide (0≤WaT xs id) then (xs,3) else (bif (xs.length:Int)==40 then (xs,1) else (plusAcc xs id,0))) else (xs,1)
section
variable {xs:List Account} {id:Int}
theorem open_bad (h:Wap xs=false):Wbn xs id=(xs,1):=by simp[Wbn,h]
theorem open_there (h:Wap xs=true) {i:Nat} (h2:WaT xs id=(i:Int)):Wbn xs id=(xs,3):=by simp[Wbn,h,h2]
theorem open_full (h:Wap xs=true) (h2:WaT xs id= -1) (h3:((xs.length:Int)==40)=true):Wbn xs id=(xs,1):=by simp[Wbn,h,h2,h3]
theorem open_new (h:Wap xs=true) (h2:WaT xs id= -1) (h3:((xs.length:Int)==40)=false):Wbn xs id=(plusAcc xs id,0):=by simp[Wbn,h,h2,h3]
theorem plusAcc_len (xs:List Account) (id:Int):(plusAcc xs id).length=xs.length+1:=by
 have:=accGo_le xs id
 simp only[plusAcc,Qr,Qu,QV,Qq,Qs];omega
theorem acc_gt (g:Wap xs=true) (hn:WaT xs id= -1) {i:Nat} (hi:i<xs.length):xs[i].id>id↔Wbk xs id≤i:=by
 have hne:xs[i].id≠id:=fun hc=>by
  rcases Wbc g id with ⟨_,h2⟩ | ⟨j,h1,_⟩
  ·unfold WaT Wbt at hn
   split at hn
   ·omega
   ·rename_i hf
    rw[QJ] at hf
    have:=hf _ (Qd hi)
    simp[hc] at this
  ·omega
 constructor
 ·intro h
  rcases Nat.lt_or_ge i (Wbk xs id) with h1 | h1
  ·have:=accGo_lt id xs i h1 hi;omega
  ·exact h1
 ·intro h
  have hk:Wbk xs id<xs.length:=by omega
  have h1:=accGo_end id xs hk
  rcases Nat.eq_or_lt_of_le h with h2 | h2
  ·subst h2;omega
  ·have:=book_lt g hi h2;omega
theorem plusAcc_srt (g:Wap xs=true) (hn:WaT xs id= -1):Srt (plusAcc xs id):=by
 have hs:=book_srt g
 have e:xs=xs.take (Wbk xs id)++xs.drop (Wbk xs id):=(List.take_append_drop _ _).symm
 have hs':=hs
 unfold Srt at hs' ⊢
 rw[e,Jl] at hs'
 obtain ⟨h1,h2,h3⟩:=hs'
 unfold plusAcc
 rw[Je,Jl]
 refine ⟨h1,?_,fun a ha b hb=> ?_⟩
 ·rw[List.singleton_append,List.pairwise_cons]
  refine ⟨fun b hb=> ?_,h2⟩
  obtain ⟨j,hj,rfl⟩:=Qz.1 hb
  rw[QV] at hj
  rw[List.getElem_drop]
  have:=(acc_gt g hn (i:=Wbk xs id+j) (by omega)).2 (by omega)
  simpa[Account.new] using this
 ·rcases Qn.1 hb with hb | hb
  ·simp only[Qy] at hb
   subst hb
   obtain ⟨j,hj,rfl⟩:=Qz.1 ha
   rw[Qu] at hj
   rw[List.getElem_take]
   exact accGo_lt id xs j (by omega) (by omega)
  ·exact h3 a ha b hb
def lpart {α:Type} (xs:List α) (y:α) (k i:Nat):List α:=if k<i then xs.take k++[y]++(xs.take i).drop k else xs.take i
section
variable {α:Type} {zs:List α} {y:α}
theorem lpart_no {k i:Nat} (hi:i<zs.length) (h: ¬k≤i):lpart zs y k (i+1)=lpart zs y k i++[zs[i]]:=by
 simp only[lpart]
 rw[if_neg (by omega),if_neg (by omega),QK,Qt hi];rfl
theorem lpart_at {i:Nat} (hi:i<zs.length):lpart zs y i (i+1)=lpart zs y i i++[y]++[zs[i]]:=by
 simp only[lpart]
 rw[if_pos (by omega),if_neg (by omega),QK,Qt hi,QX (by rw[Qu];omega),Ji (by rw[Qu];omega)];rfl
theorem lpart_yes {k i:Nat} (hi:i<zs.length) (h:k<i):lpart zs y k (i+1)=lpart zs y k i++[zs[i]]:=by
 simp only[lpart]
 rw[if_pos (by omega),if_pos h,QK,Qt hi,QX (by rw[Qu];omega),←Je];rfl
theorem lpart_end {k:Nat} (h:k<zs.length):lpart zs y k zs.length=zs.take k++[y]++zs.drop k:=by
 simp only[lpart];rw[if_pos h,QI]
theorem lpart_last {k:Nat} (h:k=zs.length):lpart zs y k zs.length++[y]=zs.take k++[y]++zs.drop k:=by
 simp only[lpart];subst h;rw[if_neg (by omega),QI,List.drop_length,List.append_nil]
theorem lpart_len (zs:List α) (y:α) (k i:Nat):(lpart zs y k i).length≤zs.length+1:=by
 simp only[lpart]
 split<;>simp only[Qr,Qu,QV,Qq,Qs]<;>omega
end
end
section
variable {F:Nat→Option RF} {Z:Waf} {h:Heap} {x:Cell} {xs:List Account} {fp:List Nat}
set_option maxHeartbeats 2000000 in
theorem sOpenAccount_c (hS10:Has F tS10) (hf:h.floor≤h.next) (w:SlR 11 (Fl Account.enc) h x xs fp) (id:Int) (hok: ∀t,t∈xs→t.Ok) (sm:xs.length≤1048576):
 ∃y h' fq,call F Z 323 [.agg [x],.c (.int .u64 id)] h=some (.tup [.agg [y],.c (.int .i64 (Wbn xs id).2)],h')∧On h h'∧SlR 11 (Fl Account.enc) h' y (Wbn xs id).1 fq∧Fre h fq:=by
 obtain ⟨y,h1,fq,e1,o1,w1,f1⟩:=WbS (Z:=Z) hS10 hf w sm
 have e2:=sBookOk_run (Z:=Z) hS10 w hok
 have e3:=WaO (Z:=Z) hS10 w id
 have hwl:=w.len
 have hle:=w.le2
 rw[Wac F Z (hS10.lk (g:=323) rfl) _ _ rfl]
 cases hb:Wap xs with
 | false=>
   rw[hb] at e2
   rw[open_bad hb]
   simp only[rn,RO.dst,lk,drop,Nat.reduceBEq,Nat.reduceAdd,Nat.reduceLeDiff,↓reduceIte,reduceCtorEq,e1,e2,e3]
   exact ⟨_,_,_,rfl,o1,w1,f1⟩
 | true=>
   rw[hb] at e2
   rcases Wbc hb id with ⟨q1,q2⟩ | ⟨i,q1,q2,q3,hi,q5⟩
   ·rw[q1] at e3
    cases c3:((xs.length:Int)==40) with
    | true=>
      rw[open_full hb q1 c3]
      simp only[rn,RO.dst,lk,drop,Nat.reduceBEq,Nat.reduceAdd,Nat.reduceLeDiff,↓reduceIte,reduceCtorEq,e1,e2,e3,hwl,c3,ge_iff_le,Int.reduceLE,Int.reduceNeg]
      exact ⟨_,_,_,rfl,o1,w1,f1⟩
    | false=>
      rw[open_new hb q1 c3]
      clear e1 o1 w1 f1
      simp only[rn,RO.dst,lk,drop,Nat.reduceBEq,Nat.reduceAdd,Nat.reduceLeDiff,↓reduceIte,reduceCtorEq,e2,e3,hwl,c3,ge_iff_le,Int.reduceLE,Int.reduceNeg]
      obtain ⟨s',⟨y,g,hs,a⟩,lp⟩:=WaB (F:=F) (Z:=Z) (live:=[1,2,4,6,7,8]) (b:=r323L0) xs.length (fun i st=> ∃y g,st=⟨[(1,.c (.int .u64 id)),(7,.c (.bool (decide (Wbk xs id<i)))),(8,.c (.int .i64 (i:Nat)))],[(2,2,0),(4,4,0),(6,6,0)],[(2,[x]),(4,[.nil]),(6,[y])],g⟩∧Acc 11 h g y ((lpart xs (Account.new id) (Wbk xs id) i).map Account.enc)) (fun i st hi ⟨y,g,hs,a⟩=>by
       subst hs
       have hlt:(i:Int)<xs.length:=by omega
       have hws:=WaS i (by omega)
       have hxi:=w.idx hi
       have hgt:=acc_gt hb q1 hi
       have hpl:=lpart_len xs (Account.new id) (Wbk xs id) i
       have hld:=(w.on (Fl.ok _) a.on).load hi
       rw[Wab]
       conv in (Wad _ _ r323L0 _)=>unfold r323L0
       by_cases hp:Wbk xs id<i
       ·have e3:=a.one_eq hf (bytes:=40) (by rw[Qp];omega) xs[i].enc
        have a2:=a.one hf (by rw[Qp];omega) xs[i].enc
        rw[show (lpart xs (Account.new id) (Wbk xs id) i).map Account.enc++[xs[i].enc]=(lpart xs (Account.new id) (Wbk xs id) (i+1)).map Account.enc from by rw[lpart_yes hi hp];simp] at a2
        have hd1:decide (Wbk xs id<i)=true:=by simpa using hp
        have hd2:decide (Wbk xs id<i+1)=true:=by simp;omega
        simp only[Account.enc] at hld e3 a2
        simp only[rn,RO.dst,lk,drop,Nat.reduceBEq,Nat.reduceAdd,Nat.reduceLeDiff,↓reduceIte,reduceCtorEq,hwl,hlt,hxi,hd1,hd2,hld,Qi,Qh,Wav,and_self,Qk,Qj,e3,hws,Account.enc]
        exact ⟨_,⟨_,_,rfl,a2⟩,rfl⟩
       ·have hd1:decide (Wbk xs id<i)=false:=by simpa using hp
        by_cases hq:Wbk xs id=i
        ·have hgt':xs[i].id>id:=hgt.2 (by omega)
         have e3:=a.one_eq hf (bytes:=40) (by rw[Qp];omega) (Account.new id).enc
         have a2:=a.one hf (by rw[Qp];omega) (Account.new id).enc
         have hld2:=(w.on (Fl.ok _) a2.on).load hi
         have e4:=a2.one_eq hf (bytes:=40) (by simp;omega) xs[i].enc
         have a3:=a2.one hf (by simp;omega) xs[i].enc
         rw[show (lpart xs (Account.new id) (Wbk xs id) i).map Account.enc++[(Account.new id).enc]++[xs[i].enc]=(lpart xs (Account.new id) (Wbk xs id) (i+1)).map Account.enc from by rw[hq,lpart_at hi];simp] at a3
         have hd2:decide (Wbk xs id<i+1)=true:=by simp;omega
         simp only[Account.enc,Account.new] at hld hld2 e3 e4 a3
         simp only[rn,RO.dst,lk,drop,Nat.reduceBEq,Nat.reduceAdd,Nat.reduceLeDiff,↓reduceIte,reduceCtorEq,hwl,hlt,hxi,hd1,hd2,hld,hgt',Qi,Qh,Wav,and_self,Qk,Qj,e3,hld2,e4,hws,Account.enc,Account.new]
         exact ⟨_,⟨_,_,rfl,a3⟩,rfl⟩
        ·have hgt': ¬xs[i].id>id:=fun hc=>by have:=hgt.1 hc;omega
         have e3:=a.one_eq hf (bytes:=40) (by rw[Qp];omega) xs[i].enc
         have a2:=a.one hf (by rw[Qp];omega) xs[i].enc
         rw[show (lpart xs (Account.new id) (Wbk xs id) i).map Account.enc++[xs[i].enc]=(lpart xs (Account.new id) (Wbk xs id) (i+1)).map Account.enc from by rw[lpart_no hi (by omega)];simp] at a2
         have hd2:decide (Wbk xs id<i+1)=false:=by simp;omega
         simp only[Account.enc] at hld e3 a2
         simp only[rn,RO.dst,lk,drop,Nat.reduceBEq,Nat.reduceAdd,Nat.reduceLeDiff,↓reduceIte,reduceCtorEq,hwl,hlt,hxi,hd1,hd2,hld,hgt',Qi,Qh,Wav,and_self,Qk,Qj,e3,hws,Account.enc]
         exact ⟨_,⟨_,_,rfl,a2⟩,rfl⟩) (s:=⟨[(1,.c (.int .u64 id)),(7,.c (.bool false)),(8,.c (.int .i64 (0:Nat)))],[(2,2,0),(4,4,0),(6,6,0)],[(2,[x]),(4,[.nil]),(6,[.nil])],h⟩) ⟨.nil,h,by simp,by simpa[lpart] using Acc.nil 11 h⟩
      subst hs
      simp only[show ((0:Nat):Int)=0 from rfl] at lp
      have hlt: ¬(xs.length:Int)<xs.length:=by omega
      rw[lp,Wab]
      conv in (Wad _ _ r323L0 _)=>unfold r323L0
      by_cases hp:Wbk xs id<xs.length
      ·rw[lpart_end hp] at a
       obtain ⟨o3,fr,w3,f3⟩:=a.flat (enc:=Account.enc)
       have hd1:decide (Wbk xs id<xs.length)=true:=by simpa using hp
       simp only[rn,RO.dst,lk,drop,Nat.reduceBEq,Nat.reduceAdd,Nat.reduceLeDiff,↓reduceIte,reduceCtorEq,hwl,hlt,hd1]
       exact ⟨_,_,_,rfl,o3,w3,f3⟩
      ·have hp':Wbk xs id=xs.length:=by have:=accGo_le xs id;omega
       have hpl:=lpart_len xs (Account.new id) (Wbk xs id) xs.length
       have hl40:=book_len hb
       have e3:=a.one_eq hf (bytes:=40) (by rw[Qp];omega) (Account.new id).enc
       have a2:=a.one hf (by rw[Qp];omega) (Account.new id).enc
       rw[show (lpart xs (Account.new id) (Wbk xs id) xs.length).map Account.enc++[(Account.new id).enc]=(plusAcc xs id).map Account.enc from by rw[plusAcc,←lpart_last hp'];simp] at a2
       obtain ⟨o3,fr,w3,f3⟩:=a2.flat (enc:=Account.enc)
       have hd1:decide (Wbk xs id<xs.length)=false:=by simpa using hp
       simp only[Account.enc,Account.new] at e3 o3 w3
       simp only[rn,RO.dst,lk,drop,Nat.reduceBEq,Nat.reduceAdd,Nat.reduceLeDiff,↓reduceIte,reduceCtorEq,hwl,hlt,hd1,Qi,Qh,Wav,and_self,Qk,Qj,e3]
       exact ⟨_,_,_,rfl,o3,w3,f3⟩
   ·rw[q1] at e3
    rw[open_there hb q1]
    have g0:(i:Int)≥0:=by omega
    simp only[rn,RO.dst,lk,drop,Nat.reduceBEq,Nat.reduceAdd,Nat.reduceLeDiff,↓reduceIte,reduceCtorEq,e1,e2,e3,g0]
    exact ⟨_,_,_,rfl,o1,w1,f1⟩
end
section
structure Request where
 epoch:Int
 op:Int
 id:Int
 amount:Int
 tx:Int
 deriving DecidableEq
namespace Request
def enc (t:Request):List Cell:=[.int .i64 t.epoch,.int .i64 t.op,.int .u64 t.id,.int .u64 t.amount,.int .i64 t.tx]
theorem len (t:Request):t.enc.length=5:=rfl
theorem tak (t:Request):t.enc.take 5=t.enc:=rfl
def none_:Request:=⟨0,0,0,0,0⟩
structure Ok (t:Request):Prop where
 epoch: -9223372036854775808≤t.epoch∧t.epoch≤9223372036854775807
 op: -9223372036854775808≤t.op∧t.op≤9223372036854775807
 id:0≤t.id∧t.id≤18446744073709551615
 amount:0≤t.amount∧t.amount≤18446744073709551615
 tx: -9223372036854775808≤t.tx∧t.tx≤9223372036854775807
end Request
end
def lockDF (m tx:Int):Act:=fun a=>if a.tx=0 then (if m≤a.bal then (0,{a with bal:=a.bal-m,hold:=m,tx:=tx}) else (4,a)) else (6,a)
def lockCF (m tx:Int):Act:=fun a=>if a.tx=0 then (if a.bal+m≤18446744073709551615 then (0,{a with due:=m,tx:=tx}) else (5,a)) else (6,a)
def Wbg (id tx:Int):Act:=fun a=>if a.tx=tx then (0,⟨id,a.bal+a.due,0,0,0⟩) else (7,a)
def WaR (id tx:Int):Act:=fun a=>if a.tx=tx then (0,⟨id,a.bal+a.hold,0,0,0⟩) else (7,a)
def WaJ (xs:List Account) (id tx:Int) (f:Act):List Account×Int:=bif decide (tx<1) then (xs,1) else WaX xs id f
def Waq (xs:List Account) (q:Request):List Account×Int:=
 bif q.op==0 then Wbn xs q.id else bif q.op==1 then WaX xs q.id closeF else bif q.op==2 then WaX xs q.id (depF q.amount) else bif q.op==3 then WaX xs q.id (witF q.amount)
 else bif q.op==4 then WaJ xs q.id q.tx (lockDF q.amount q.tx) else bif q.op==5 then WaJ xs q.id q.tx (lockCF q.amount q.tx) else bif q.op==6 then WaJ xs q.id q.tx (Wbg q.id q.tx)
 else bif q.op==7 then WaJ xs q.id q.tx (WaR q.id q.tx) else (xs,bif decide (0≤WaT xs q.id) then 0 else 2)
def doVal (r:List Account×Int) (a:Int):Int:=bif (r.2==0)&&decide (0≤WaT r.1 a) then (Account.at_ r.1 (WaT r.1 a).toNat).bal else 0
def Request.fin (q:Request):Fin:=⟨q.tx,q.id⟩
def Request.ends (q:Request):Bool:=(q.op==6)||(q.op==7)
def WaW (x:Shard) (q:Request):Shard:={x with book:=⟨(Waq x.book.list q).1⟩,finished:=bif q.ends&& !decide (q.fin∈x.finished) then WaP (x.finished++[q.fin]) else x.finished}
def refuse (x:Shard) (q:Request):Int:=
 bif !(x.epoch==q.epoch) then 9 else bif (x.state==1)&& !(q.op==8) then 10 else bif inR q.op 4 7&&decide (q.tx<1) then 11
 else bif ((q.op==4)||(q.op==5))&&decide (q.fin∈x.finished) then 12 else bif (q.ends&& !decide (q.fin∈x.finished))&&((x.finished.length:Int)==60) then 13 else 0
def Wbl (s:Store) (q:Request):Store×Int×Int:=
 bif s.good&&inR q.op 0 8 then
  (bif decide (0≤Waz s.shards q.id) then
   (bif refuse (Shard.at_ s.shards (Waz s.shards q.id).toNat) q==0 then
    ({s with shards:=s.shards.set (Waz s.shards q.id).toNat (WaW (Shard.at_ s.shards (Waz s.shards q.id).toNat) q)},(Waq (Shard.at_ s.shards (Waz s.shards q.id).toNat).book.list q).2,doVal (Waq (Shard.at_ s.shards (Waz s.shards q.id).toNat).book.list q) q.id)
   else (s,refuse (Shard.at_ s.shards (Waz s.shards q.id).toNat) q,0)) else (s,8,0)) else (s,11,0)
section
variable {s:Store} {q:Request} {i:Nat} {x:Shard} {xs:List Account} {id tx:Int} {f:Act}
theorem Wcj (h:(s.good&&inR q.op 0 8)=false):Wbl s q=(s,11,0):=by simp[Wbl,h]
theorem WbU (h:(s.good&&inR q.op 0 8)=true) (h2:Waz s.shards q.id= -1):Wbl s q=(s,8,0):=by simp[Wbl,h,h2]
theorem dost_at (h:(s.good&&inR q.op 0 8)=true) (h2:Waz s.shards q.id=(i:Int)):Wbl s q=
 bif refuse (Shard.at_ s.shards i) q==0 then ({s with shards:=s.shards.set i (WaW (Shard.at_ s.shards i) q)},(Waq (Shard.at_ s.shards i).book.list q).2,doVal (Waq (Shard.at_ s.shards i).book.list q) q.id) else (s,refuse (Shard.at_ s.shards i) q,0):=by
 simp[Wbl,h,h2]
theorem btx_bad (h:tx<1):WaJ xs id tx f=(xs,1):=by simp[WaJ,h]
theorem btx_do (h: ¬tx<1):WaJ xs id tx f=WaX xs id f:=by simp[WaJ,h]
theorem btx_len:(WaJ xs id tx f).1.length≤xs.length:=by
 by_cases h:tx<1
 ·rw[btx_bad h];exact QD _
 ·rw[btx_do h];exact do_len
theorem WbR {r:List Account×Int} {a:Int} (hs:Srt r.1):(¬r.2=0∧doVal r a=0)∨(r.2=0∧accIs r.1 a=false∧WaT r.1 a= -1∧doVal r a=0)∨
 (r.2=0∧ ∃i:Nat,accIs r.1 a=true∧Wbk r.1 a=i∧WaT r.1 a=(i:Int)∧i<r.1.length∧doVal r a=(Account.at_ r.1 i).bal):=by
 by_cases h:r.2=0
 ·right
  rcases acc_foundS hs a with ⟨h1,h2⟩ | ⟨i,h1,h2,h3,h4,_⟩
  ·exact .inl ⟨h,h2,h1,by simp[doVal,h1]⟩
  ·exact .inr ⟨h,i,h2,h3,h1,h4,by simp[doVal,h,h1]⟩
 ·have:(r.2==0)=false:=by simpa using h
  exact .inl ⟨h,by simp[doVal,this]⟩
end
section
variable {F:Nat→Option RF} {Z:Waf} {h:Heap} {x:Cell} {xs:List Account} {fp:List Nat}
end
section
variable {F:Nat→Option RF} {Z:Waf} {h:Heap} {x:Cell} {xs:List Account} {fp:List Nat}
end
section
variable {α:Type} {R:Rel α} {tag:Nat} {h0 h g:Heap} {x y:Cell} {xs ys:List α} {fp fq:List Nat}
theorem AllR.turnF (ok:RelOk R) {h':Heap} (hn:h.next≤h'.next) {r':List Cell} {t':α} {f':List Nat}: ∀{rows:List (List Cell)} {xs:List α} {fps:List (List Nat)},AllR R h rows xs fps→ ∀(i:Nat) (f:List Nat),fps[i]? =some f→fps.flatten.Nodup→
 (∀id,id∈fps.flatten→id∉f→h'.get id=h.get id)→R h' r' t' f'→AllR R h' (rows.set i r') (xs.set i t') (fps.set i f')
 | [],[],[],_,i,f,e,_,_,_=>by simp at e
 | r::rs,a::bs,g::gs,⟨w0,w⟩,0,f,e,nd,hg,v=>by
   simp only[QU,Option.some.injEq] at e
   subst e
   rw[QC] at nd
   obtain ⟨n1,n2,n3⟩:=Ql.1 nd
   exact ⟨v,w.mv ok hn fun id hid=>hg id (by rw[QC,Qn];exact .inr hid) fun hf=>n3 id hf id hid rfl⟩
 | r::rs,a::bs,g::gs,⟨w0,w⟩,i+1,f,e,nd,hg,v=>by
   simp only[List.getElem?_cons_succ] at e
   rw[QC] at nd
   obtain ⟨n1,n2,n3⟩:=Ql.1 nd
   exact ⟨ok.mv w0 hn fun id hid=>hg id (by rw[QC,Qn];exact .inl hid) fun hf=>n3 id hid id (QL.2 ⟨f,QA e,hf⟩) rfl,
    AllR.turnF ok hn w i f e n2 (fun id hid hf=>hg id (by rw[QC,Qn];exact .inr hid) hf) v⟩
 | [],[],_::_,w,_,_,_,_,_,_=>w.elim
 | [],_::_,_,w,_,_,_,_,_,_=>w.elim
 | _::_,[],_,w,_,_,_,_,_,_=>w.elim
 | _::_,_::_,[],w,_,_,_,_,_,_=>w.elim
theorem flat_apart {f f2:List Nat}: ∀(fps:List (List Nat)) (i k:Nat),fps[i]? =some f→fps[k]? =some f2→k≠i→fps.flatten.Nodup→ ∀id,id∈f2→id∉f
 | [],i,k,h,_,_,_,_,_,_=>by simp at h
 | g::r,0,0,_,_,hne,_,_,_,_=>absurd rfl hne
 | g::r,0,k+1,h,h2,_,nd,id,h3,h4=>by
   simp only[QU,Option.some.injEq] at h
   subst h
   rw[QC] at nd
   exact (Ql.1 nd).2.2 id h4 id (QL.2 ⟨f2,QA (by simpa using h2),h3⟩) rfl
 | g::r,i+1,0,h,h2,_,nd,id,h3,h4=>by
   simp only[QU,Option.some.injEq] at h2
   subst h2
   rw[QC] at nd
   exact (Ql.1 nd).2.2 id h3 id (QL.2 ⟨f,QA (by simpa using h),h4⟩) rfl
 | g::r,i+1,k+1,h,h2,hne,nd,id,h3,h4=>by
   rw[QC] at nd
   exact flat_apart r i k (by simpa using h) (by simpa using h2) (by omega) (Ql.1 nd).2.1 id h3 h4
theorem SlR.turnF (ok:RelOk R) (w:SlR tag R h x xs fp) (nd:fp.Nodup) {i:Nat} (hi:i<xs.length):
 ∃r f,∃rows:List (List Cell),R h r xs[i] f∧(∀id,id∈f→id∈fp)∧f.Nodup∧x.sid∈fp∧x.sid∉f∧x.sid<h.next∧h.get x.sid=some rows∧rows[i]? =some r∧i<rows.length∧
  (∀k (hk:k<xs.length),k≠i→ ∃r2 f2,R h r2 xs[k] f2∧rows[k]? =some r2∧ ∀id,id∈f2→id∈fp∧id∉f∧id≠x.sid)∧
  ∀h' r' t' f',h.next≤h'.next→(∀id,id∈fp→id≠x.sid→id∉f→h'.get id=h.get id)→h'.get x.sid=some (rows.set i r')→R h' r' t' f'→f'.Nodup→(∀id,id∈f'→id∈f∨id∉fp)→
   ∃fp',SlR tag R h' x (xs.set i t') fp'∧fp'.Nodup∧ ∀id,id∈fp'→id∈fp∨id∈f':=by
 rcases w with ⟨hl,⟨rfl,rfl,rfl⟩ | ⟨id,rows,fps,rfl,q1,q2,rfl,q3⟩⟩
 ·exact absurd hi (QT _)
 obtain ⟨r,f,e1,e2,v⟩:=q3.at i hi
 have hn:=Jr.1 nd
 have hin: ∀j,j∈f→j∈fps.flatten:=fun j hj=>QL.2 ⟨f,QA e2,hj⟩
 refine ⟨r,f,rows,v,fun j hj=>QE _ (hin j hj),flat_at_nodup fps i e2 hn.2,by simp[Cell.sid],fun hc=>hn.1 (hin _ hc),q2,q1,e1,by rw[q3.len];exact hi,fun k hk hne=> ?_,fun h' r' t' f' hn' hg hg' v' nf hd=> ?_⟩
 ·obtain ⟨r2,f2,e3,e4,v2⟩:=q3.at k hk
  have h2: ∀j,j∈f2→j∈fps.flatten:=fun j hj=>QL.2 ⟨f2,QA e4,hj⟩
  exact ⟨r2,f2,v2,e3,fun j hj=>⟨QE _ (h2 j hj),flat_apart fps i k e2 e4 hne hn.2 j hj,fun e=>hn.1 (by simp only[Cell.sid] at e;exact e▸h2 j hj)⟩⟩
 ·have hne: ∀j,j∈f'→j≠id:=fun j hj e=>by
   rcases hd j hj with h1 | h1
   ·exact hn.1 (e▸hin j h1)
   ·exact h1 (by rw[e];simp)
  refine ⟨id::(fps.set i f').flatten,⟨by simpa using hl,.inr ⟨id,rows.set i r',fps.set i f',by simp,hg',Jm q2 hn',rfl,?_⟩⟩,?_,?_⟩
  ·exact q3.turnF ok hn' i f e2 hn.2 (fun j hj hf=>hg j (QE _ hj) (fun e=>hn.1 (by simp only[Cell.sid] at e;exact e▸hj)) hf) v'
  ·rw[Jr]
   refine ⟨fun hc=> ?_,flat_set_nodup nf fps i f e2 hn.2 fun j hj=> ?_⟩
   ·rcases Wcd _ _ hc with hc | hc
    ·exact hn.1 hc
    ·exact hne _ hc rfl
   ·rcases hd j hj with h1 | h1
    ·exact .inl h1
    ·exact .inr fun hc=>h1 (QE _ hc)
  ·intro j hj
   rcases Qx.1 hj with rfl | hj
   ·exact .inl (by simp)
   ·rcases Wcd _ _ hj with hj | hj
    ·exact .inl (QE _ hj)
    ·exact .inr hj
theorem SlR.cat {enc:α→List Cell} (w:SlR tag (Fl enc) h x xs fp) (u:SlR tag (Fl enc) h y ys fq) (own: ∀id,id∈fp→h.floor≤id) {bytes:Nat} (hb:(xs.length+ys.length)*bytes≤140737488355328) (hl:xs.length+ys.length≤maxLen):
 ∃x' g f',appF h tag bytes x y=some (x',g)∧SlR tag (Fl enc) g x' (xs++ys) f'∧Re h g fp f':=by
 have hy:=u.rows
 have ht:A.isTag tag y=true:=by
  rcases u.flat with ⟨rfl,_⟩ | ⟨q,_⟩
  ·rfl
  ·rw[q];simp[A.isTag]
 have hp:h.get h.next≠none→True:=fun _=>trivial
 rcases w.flat with ⟨rfl,rfl,rfl⟩ | ⟨hx,hg,hn,rfl⟩
 ·by_cases h0:ys=[]
  ·subst h0
   refine ⟨.nil,h,[],?_,SlR.nil _ _ _,⟨QD _,rfl,fun _ _ _=>rfl,List.nodup_nil,fun _ h=>nomatch h⟩⟩
   simp[appF,ht,hy]
  ·have hl0:ys.length≠0:=fun hc=>h0 (QY hc)
   refine ⟨.sl tag h.next 0 ys.length,h.push (ys.map enc),[h.next],?_,SlR.ofFlat (by simpa using hl) (Wbm _ _) (Jo _),⟨Jv _,rfl,fun id h1 _=>WbY _ (by omega),by simp,fun id hid=>by simp at hid;exact .inr (by omega)⟩⟩
   simp only[Qs,QG] at hb
   simp only[appF,ht,hy,if_true,Jp,Qp]
   rw[if_neg hl0,if_pos hb]
 ·have hf:=own _ (List.mem_singleton_self _)
  generalize x.sid=k at *
  subst hx
  refine ⟨.sl tag h.next 0 (xs.length+ys.length),(h.kill k).push ((xs++ys).map enc),[h.next],?_,?_,⟨Jv _,rfl,fun id h1 h2=> ?_,by simp,fun id hid=>by simp at hid;exact .inr (by omega)⟩⟩
  ·simp only[appF,ht,hy,if_true,Jp,hg,Qp,List.map_append]
   rw[if_pos ⟨trivial,trivial,trivial,hf,hb⟩]
  ·have:=SlR.ofFlat (tag:=tag) (enc:=enc) (h:=(h.kill k).push ((xs++ys).map enc)) (xs:=xs++ys) (by simpa using hl) (id:=h.next) (by simp[Heap.push,Heap.kill]) (Jo _)
   simpa using this
  ·simp only[Qy] at h2
   show (if id=h.next then some _ else (if id=k then none else h.get id))=h.get id
   rw[if_neg (by omega),if_neg h2]
end
section
variable {α:Type} {tag:Nat} {g:Heap} {y:Cell} {xs:List α} {f:List Nat}
end
section
variable {F:Nat→Option RF} {Z:Waf} {h:Heap} {cs:List Cell} {fp:List Nat} {s:Store}
end
section
variable {F:Nat→Option RF} {Z:Waf} {h:Heap} {xs:List Shard}
end
theorem bookDo_srt2 {xs:List Account} (g:Wap xs=true) (id:Int) {f:Act} (hf: ∀a:Account,a.id=id→(f a).2.id=a.id):Srt (WaX xs id f).1:=by
 have hs:=book_srt g
 rcases Wbc g id with ⟨q1,_⟩ | ⟨i,q1,_,_,hi,q5⟩
 ·rw[do_none g q1];exact hs
 ·rw[do_at g q1]
  cases ((f (Account.at_ xs i)).1==0)
  ·exact hs
  ·cases ((f (Account.at_ xs i)).2.tx== -1)
   ·have h:=hf _ q5
    simp only[cond_true,cond_false]
    rw[Account.at_get hi] at h ⊢
    exact set_srt hs hi h
   ·exact List.Pairwise.sublist (QP xs i) hs
 where
 set_srt {xs:List Account} (g:Srt xs) {i:Nat} (hi:i<xs.length) {a:Account} (ha:a.id=xs[i].id):Srt (xs.set i a):=by
  rw[Srt,List.pairwise_iff_getElem] at g ⊢
  intro j k hj hk hjk
  rw[QF] at hj hk
  rw[Jh,Jh]
  split<;>split<;>rename_i h1 h2
  ·omega
  ·subst h1;rw[ha];exact g i k hj hk hjk
  ·subst h2;rw[ha];exact g j i hj hk hjk
  ·exact g j k hj hk hjk
theorem bookTx_srt {xs:List Account} (g:Wap xs=true) (id tx:Int) {f:Act} (hf: ∀a:Account,a.id=id→(f a).2.id=a.id):Srt (WaJ xs id tx f).1:=by
 by_cases h:tx<1
 ·rw[btx_bad h];exact book_srt g
 ·rw[btx_do h];exact bookDo_srt2 g id hf
theorem openBook_srt2 {xs:List Account} (g:Wap xs=true) (id:Int):Srt (Wbn xs id).1:=by
 rcases Wbc g id with ⟨q1,_⟩ | ⟨i,q1,_⟩
 ·cases h:((xs.length:Int)==40) with
  | true=>rw[open_full g q1 h];exact book_srt g
  | false=>rw[open_new g q1 h];exact plusAcc_srt g q1
 ·rw[open_there g q1];exact book_srt g
theorem closeF_id2 (a:Account):(closeF a).2.id=a.id:=by unfold closeF;split<;>(try split)<;>rfl
theorem depF_id2 (m:Int) (a:Account):(depF m a).2.id=a.id:=by unfold depF;split<;>(try split)<;>rfl
theorem witF_id2 (m:Int) (a:Account):(witF m a).2.id=a.id:=by unfold witF;split<;>(try split)<;>rfl
theorem lockDF_id (m tx:Int) (a:Account):(lockDF m tx a).2.id=a.id:=by unfold lockDF;split<;>(try split)<;>rfl
theorem lockCF_id (m tx:Int) (a:Account):(lockCF m tx a).2.id=a.id:=by unfold lockCF;split<;>(try split)<;>rfl
theorem settleF_id {id tx:Int} {a:Account} (h:a.id=id):(Wbg id tx a).2.id=a.id:=by unfold Wbg;split<;>simp[h]
theorem releaseF_id {id tx:Int} {a:Account} (h:a.id=id):(WaR id tx a).2.id=a.id:=by unfold WaR;split<;>simp[h]
theorem WbC {xs:List Account} (g:Wap xs=true) (q:Request):Srt (Waq xs q).1:=by
 unfold Waq
 cases (q.op==0)<;>simp only[cond_true,cond_false]
 case true=>exact openBook_srt2 g _
 cases (q.op==1)<;>simp only[cond_true,cond_false]
 case true=>exact bookDo_srt2 g _ fun a _=>closeF_id2 a
 cases (q.op==2)<;>simp only[cond_true,cond_false]
 case true=>exact bookDo_srt2 g _ fun a _=>depF_id2 _ a
 cases (q.op==3)<;>simp only[cond_true,cond_false]
 case true=>exact bookDo_srt2 g _ fun a _=>witF_id2 _ a
 cases (q.op==4)<;>simp only[cond_true,cond_false]
 case true=>exact bookTx_srt g _ _ fun a _=>lockDF_id _ _ a
 cases (q.op==5)<;>simp only[cond_true,cond_false]
 case true=>exact bookTx_srt g _ _ fun a _=>lockCF_id _ _ a
 cases (q.op==6)<;>simp only[cond_true,cond_false]
 case true=>exact bookTx_srt g _ _ fun a h=>settleF_id h
 cases (q.op==7)<;>simp only[cond_true,cond_false]
 case true=>exact bookTx_srt g _ _ fun a h=>releaseF_id h
 exact book_srt g
section
variable {xs:List Account} {id tx:Int} {f:Act} {q:Request} {a:Account}
theorem bookDo_mem (g:Wap xs=true) (ha:a∈(WaX xs id f).1):a∈xs∨ ∃i:Nat,∃hi:i<xs.length,xs[i].id=id∧(f xs[i]).1=0∧(f xs[i]).2.tx≠ -1∧a=(f xs[i]).2:=by
 rcases Wbc g id with ⟨q1,_⟩ | ⟨i,q1,_,_,hi,q5⟩
 ·rw[do_none g q1] at ha;exact .inl ha
 ·rw[do_at g q1] at ha
  rw[Account.at_get hi] at ha q5
  cases h0:((f xs[i]).1==0) with
  | false=>rw[h0] at ha;exact .inl ha
  | true=>
    rw[h0] at ha
    cases h1:((f xs[i]).2.tx== -1) with
    | true=>rw[h1] at ha;exact .inl ((QP _ _).subset ha)
    | false=>
      rw[h1] at ha
      rcases Jd ha with ha | ha
      ·exact .inl ha
      ·exact .inr ⟨i,hi,q5,by simpa using h0,by simpa using h1,ha⟩
theorem bookTx_mem (g:Wap xs=true) (ha:a∈(WaJ xs id tx f).1):a∈xs∨1≤tx∧ ∃i:Nat,∃hi:i<xs.length,xs[i].id=id∧(f xs[i]).1=0∧(f xs[i]).2.tx≠ -1∧a=(f xs[i]).2:=by
 by_cases h:tx<1
 ·rw[btx_bad h] at ha;exact .inl ha
 ·rw[btx_do h] at ha
  rcases bookDo_mem g ha with h1 | h1
  ·exact .inl h1
  ·exact .inr ⟨by omega,h1⟩
theorem plusAcc_mem (ha:a∈plusAcc xs id):a∈xs∨a=Account.new id:=by
 simp only[plusAcc,Qn,Qy] at ha
 rcases ha with (ha | ha) | ha
 ·exact .inl (QR ha)
 ·exact .inr ha
 ·exact .inl (QZ ha)
theorem openBook_mem (g:Wap xs=true) (ha:a∈(Wbn xs id).1):a∈xs∨a=Account.new id:=by
 rcases Wbc g id with ⟨q1,_⟩ | ⟨i,q1,_⟩
 ·cases h:((xs.length:Int)==40) with
  | true=>rw[open_full g q1 h] at ha;exact .inl ha
  | false=>rw[open_new g q1 h] at ha;exact plusAcc_mem ha
 ·rw[open_there g q1] at ha;exact .inl ha
theorem fine_parts (h:a.fine=true):a.bal+a.hold+a.due≤18446744073709551615∧0≤a.tx∧(a.tx=0→a.hold=0∧a.due=0):=by
 simp only[Account.fine,Qg,QO,decide_eq_true_eq,bne_iff_ne,ne_eq,beq_iff_eq] at h
 refine ⟨h.1,h.2.1,fun h0=> ?_⟩
 rcases h.2.2 with h2 | h2
 ·exact absurd h0 h2
 ·exact h2
theorem fine_mk (h1:a.bal+a.hold+a.due≤18446744073709551615) (h2:0≤a.tx) (h3:a.tx=0→a.hold=0∧a.due=0):a.fine=true:=by
 simp only[Account.fine,Qg,QO,decide_eq_true_eq,bne_iff_ne,ne_eq,beq_iff_eq]
 refine ⟨h1,h2,?_⟩
 by_cases h0:a.tx=0
 ·exact .inr (h3 h0)
 ·exact .inl h0
theorem doBook_mem (g:Wap xs=true) (hok: ∀t,t∈xs→t.Ok) (okq:q.Ok) (ha:a∈(Waq xs q).1):
 a∈xs∨(a.id=q.id∧a.fine=true∧a.Ok∧(a.tx=0∨(q.op=4∨q.op=5)∧a.tx=q.tx∧1≤q.tx)):=by
 obtain ⟨b1,b2,b3⟩:=(bookOk_iff xs).1 g
 have hid:=okq.id
 have ham:=okq.amount
 have htx:=okq.tx
 unfold Waq at ha
 cases h0:(q.op==0)<;>rw[h0] at ha<;>simp only[cond_true,cond_false] at ha
 case true=>
  rcases openBook_mem g ha with h | rfl
  ·exact .inl h
  ·exact .inr ⟨rfl,by simp[Account.fine,Account.new],⟨hid,by simp[Account.new],by simp[Account.new],by simp[Account.new],by simp[Account.new]⟩,.inl rfl⟩
 cases h1:(q.op==1)<;>rw[h1] at ha<;>simp only[cond_true,cond_false] at ha
 case true=>
  rcases bookDo_mem g ha with h | ⟨i,hi,e1,e2,e3,rfl⟩
  ·exact .inl h
  ·exfalso
   revert e2 e3
   unfold closeF
   split
   ·split<;>simp
   ·simp
 cases h2:(q.op==2)<;>rw[h2] at ha<;>simp only[cond_true,cond_false] at ha
 case true=>
  rcases bookDo_mem g ha with h | ⟨i,hi,e1,e2,e3,rfl⟩
  ·exact .inl h
  ·right
   have hf:=fine_parts (b2 _ (Qd hi))
   have ok:=hok _ (Qd hi)
   obtain ⟨o1,o2,o3,o4,o5⟩:=ok
   generalize xs[i]=b at *
   unfold depF at e2 ⊢
   split at e2
   ·rename_i c1
    rw[if_pos c1]
    obtain ⟨z1,z2⟩:=hf.2.2 c1
    split at e2
    ·rename_i c2
     rw[if_pos c2]
     exact ⟨e1,fine_mk (by simp only;omega) hf.2.1 (fun _=>⟨z1,z2⟩),⟨o1,⟨by simp only;omega,by simp only;omega⟩,o3,o4,o5⟩,.inl c1⟩
    ·simp at e2
   ·simp at e2
 cases h3:(q.op==3)<;>rw[h3] at ha<;>simp only[cond_true,cond_false] at ha
 case true=>
  rcases bookDo_mem g ha with h | ⟨i,hi,e1,e2,e3,rfl⟩
  ·exact .inl h
  ·right
   have hf:=fine_parts (b2 _ (Qd hi))
   have ok:=hok _ (Qd hi)
   obtain ⟨o1,o2,o3,o4,o5⟩:=ok
   generalize xs[i]=b at *
   unfold witF at e2 ⊢
   split at e2
   ·rename_i c1
    rw[if_pos c1]
    obtain ⟨z1,z2⟩:=hf.2.2 c1
    split at e2
    ·rename_i c2
     rw[if_pos c2]
     exact ⟨e1,fine_mk (by simp only;omega) hf.2.1 (fun _=>⟨z1,z2⟩),⟨o1,⟨by simp only;omega,by simp only;omega⟩,o3,o4,o5⟩,.inl c1⟩
    ·simp at e2
   ·simp at e2
 cases h4:(q.op==4)<;>rw[h4] at ha<;>simp only[cond_true,cond_false] at ha
 case true=>
  rcases bookTx_mem g ha with h | ⟨t1,i,hi,e1,e2,e3,rfl⟩
  ·exact .inl h
  ·right
   have hf:=fine_parts (b2 _ (Qd hi))
   have ok:=hok _ (Qd hi)
   obtain ⟨o1,o2,o3,o4,o5⟩:=ok
   generalize xs[i]=b at *
   unfold lockDF at e2 ⊢
   split at e2
   ·rename_i c1
    rw[if_pos c1]
    obtain ⟨z1,z2⟩:=hf.2.2 c1
    split at e2
    ·rename_i c2
     rw[if_pos c2]
     refine ⟨e1,fine_mk (by simp only;omega) (by simp only;omega) (fun hz=>by simp only at hz;omega),⟨o1,⟨by simp only;omega,by simp only;omega⟩,ham,o4,htx⟩,.inr ⟨.inl (by simpa using h4),rfl,t1⟩⟩
    ·simp at e2
   ·simp at e2
 cases h5:(q.op==5)<;>rw[h5] at ha<;>simp only[cond_true,cond_false] at ha
 case true=>
  rcases bookTx_mem g ha with h | ⟨t1,i,hi,e1,e2,e3,rfl⟩
  ·exact .inl h
  ·right
   have hf:=fine_parts (b2 _ (Qd hi))
   have ok:=hok _ (Qd hi)
   obtain ⟨o1,o2,o3,o4,o5⟩:=ok
   generalize xs[i]=b at *
   unfold lockCF at e2 ⊢
   split at e2
   ·rename_i c1
    rw[if_pos c1]
    obtain ⟨z1,z2⟩:=hf.2.2 c1
    split at e2
    ·rename_i c2
     rw[if_pos c2]
     refine ⟨e1,fine_mk (by simp only;omega) (by simp only;omega) (fun hz=>by simp only at hz;omega),⟨o1,o2,o3,ham,htx⟩,.inr ⟨.inr (by simpa using h5),rfl,t1⟩⟩
    ·simp at e2
   ·simp at e2
 cases h6:(q.op==6)<;>rw[h6] at ha<;>simp only[cond_true,cond_false] at ha
 case true=>
  rcases bookTx_mem g ha with h | ⟨t1,i,hi,e1,e2,e3,rfl⟩
  ·exact .inl h
  ·right
   have hf:=fine_parts (b2 _ (Qd hi))
   have ok:=hok _ (Qd hi)
   obtain ⟨o1,o2,o3,o4,o5⟩:=ok
   generalize xs[i]=b at *
   unfold Wbg at e2 ⊢
   split at e2
   ·rename_i c1
    rw[if_pos c1]
    exact ⟨rfl,fine_mk (by simp only;omega) (by simp only;omega) (fun _=>⟨rfl,rfl⟩),⟨hid,⟨by simp only;omega,by simp only;omega⟩,by simp,by simp,by simp⟩,.inl rfl⟩
   ·simp at e2
 cases h7:(q.op==7)<;>rw[h7] at ha<;>simp only[cond_true,cond_false] at ha
 case true=>
  rcases bookTx_mem g ha with h | ⟨t1,i,hi,e1,e2,e3,rfl⟩
  ·exact .inl h
  ·right
   have hf:=fine_parts (b2 _ (Qd hi))
   have ok:=hok _ (Qd hi)
   obtain ⟨o1,o2,o3,o4,o5⟩:=ok
   generalize xs[i]=b at *
   unfold WaR at e2 ⊢
   split at e2
   ·rename_i c1
    rw[if_pos c1]
    exact ⟨rfl,fine_mk (by simp only;omega) (by simp only;omega) (fun _=>⟨rfl,rfl⟩),⟨hid,⟨by simp only;omega,by simp only;omega⟩,by simp,by simp,by simp⟩,.inl rfl⟩
   ·simp at e2
 exact .inl ha
theorem openBook_40 (g:Wap xs=true):(Wbn xs id).1.length≤40:=by
 have hl:=book_len g
 rcases Wbc g id with ⟨q1,_⟩ | ⟨i,q1,_⟩
 ·cases h:((xs.length:Int)==40) with
  | true=>rw[open_full g q1 h];exact hl
  | false=>
    rw[open_new g q1 h]
    have h: ¬(xs.length:Int)=40:=by simpa using h
    show (plusAcc xs id).length≤40
    rw[plusAcc_len];omega
 ·rw[open_there g q1];exact hl
theorem doBook_40 (g:Wap xs=true):(Waq xs q).1.length≤40:=by
 have hl:=book_len g
 unfold Waq
 have h1:=fun f=>do_len (xs:=xs) (id:=q.id) (f:=f)
 have h2:=fun f=>btx_len (xs:=xs) (id:=q.id) (tx:=q.tx) (f:=f)
 cases (q.op==0)<;>simp only[cond_true,cond_false]
 case true=>exact openBook_40 g
 cases (q.op==1)<;>simp only[cond_true,cond_false]
 case true=>have:=h1 closeF;omega
 cases (q.op==2)<;>simp only[cond_true,cond_false]
 case true=>have:=h1 (depF q.amount);omega
 cases (q.op==3)<;>simp only[cond_true,cond_false]
 case true=>have:=h1 (witF q.amount);omega
 cases (q.op==4)<;>simp only[cond_true,cond_false]
 case true=>have:=h2 (lockDF q.amount q.tx);omega
 cases (q.op==5)<;>simp only[cond_true,cond_false]
 case true=>have:=h2 (lockCF q.amount q.tx);omega
 cases (q.op==6)<;>simp only[cond_true,cond_false]
 case true=>have:=h2 (Wbg q.id q.tx);omega
 cases (q.op==7)<;>simp only[cond_true,cond_false]
 case true=>have:=h2 (WaR q.id q.tx);omega
 omega
theorem endDo_free (g:Wap xs=true) (ht:1≤tx) (hf: ∀b:Account,(b.tx=tx→(f b).1=0∧(f b).2.tx=0)∧(b.tx≠tx→(f b).1≠0)): ∀a,a∈(WaX xs id f).1→ ¬(a.tx=tx∧a.id=id):=by
 intro a ha ⟨h1,h2⟩
 rcases Wbc g id with ⟨q1,_⟩ | ⟨i,q1,_,_,hi,q5⟩
 ·rw[do_none g q1] at ha
  obtain ⟨j,hj,rfl⟩:=Qz.1 ha
  have:0≤WaT xs id:=by
   unfold WaT Wbt
   cases hx:xs.findIdx? (fun b=>b.id==id) with
   | none=>
     rw[QJ] at hx
     have:=hx _ (Qd hj)
     simp[h2] at this
   | some n=>simp
  omega
 ·rw[do_at g q1] at ha
  rw[Account.at_get hi] at ha q5
  have hinj: ∀j (hj:j<xs.length),xs[j].id=id→j=i:=fun j hj e=>book_inj g hj hi (e.trans q5.symm)
  by_cases hb:xs[i].tx=tx
  ·obtain ⟨e1,e2⟩:=(hf xs[i]).1 hb
   rw[e1] at ha
   have e3:((f xs[i]).2.tx== -1)=false:=by rw[e2];rfl
   rw[e3] at ha
   simp only[beq_self_eq_true,cond_true,cond_false] at ha
   obtain ⟨j,hj,rfl⟩:=Qz.1 ha
   rw[QF] at hj
   rw[Jh] at h1 h2
   split at h1
   ·omega
   ·rename_i hne
    rw[if_neg hne] at h2
    exact hne (hinj j hj h2).symm
  ·have e1:=(hf xs[i]).2 hb
   have e2:((f xs[i]).1==0)=false:=by simpa using e1
   rw[e2] at ha
   obtain ⟨j,hj,rfl⟩:=Qz.1 ha
   have:=hinj j hj h2
   subst this
   exact hb h1
theorem doBook_free (g:Wap xs=true) (ho:q.ends=true) (ht:1≤q.tx): ∀a,a∈(Waq xs q).1→ ¬(a.tx=q.tx∧a.id=q.id):=by
 have hS: ∀b:Account,(b.tx=q.tx→(Wbg q.id q.tx b).1=0∧(Wbg q.id q.tx b).2.tx=0)∧(b.tx≠q.tx→(Wbg q.id q.tx b).1≠0):=fun b=>by
  unfold Wbg
  refine ⟨fun h=> ?_,fun h=> ?_⟩
  ·rw[if_pos h];exact ⟨rfl,rfl⟩
  ·rw[if_neg h];simp
 have hR: ∀b:Account,(b.tx=q.tx→(WaR q.id q.tx b).1=0∧(WaR q.id q.tx b).2.tx=0)∧(b.tx≠q.tx→(WaR q.id q.tx b).1≠0):=fun b=>by
  unfold WaR
  refine ⟨fun h=> ?_,fun h=> ?_⟩
  ·rw[if_pos h];exact ⟨rfl,rfl⟩
  ·rw[if_neg h];simp
 simp only[Request.ends,QO,beq_iff_eq] at ho
 rcases ho with ho | ho
 ·have:Waq xs q=WaX xs q.id (Wbg q.id q.tx):=by
   rw[←btx_do (tx:=q.tx) (by omega)]
   simp[Waq,ho]
  rw[this]
  exact endDo_free g ht hS
 ·have:Waq xs q=WaX xs q.id (WaR q.id q.tx):=by
   rw[←btx_do (tx:=q.tx) (by omega)]
   simp[Waq,ho]
  rw[this]
  exact endDo_free g ht hR
end
structure Doable (x:Shard) (q:Request):Prop where
 op:0≤q.op∧q.op≤8
 ep:x.epoch=q.epoch
 st:x.state=1→q.op=8
 tx:4≤q.op→q.op≤7→1≤q.tx
 late:q.op=4∨q.op=5→q.fin∉x.finished
 full:q.ends=true→q.fin∉x.finished→x.finished.length≠60
theorem refuse_none {x:Shard} {q:Request} (ho:inR q.op 0 8=true) (h:refuse x q=0):Doable x q:=by
 simp only[inR,Qg,decide_eq_true_eq] at ho
 unfold refuse at h
 cases h1:(x.epoch==q.epoch)<;>rw[h1] at h<;>simp only[Jt,Js,cond_true,cond_false] at h
 case false=>cases h
 cases h2:((x.state==1)&& !(q.op==8))<;>rw[h2] at h<;>simp only[cond_true,cond_false] at h
 case true=>cases h
 cases h3:(inR q.op 4 7&&decide (q.tx<1))<;>rw[h3] at h<;>simp only[cond_true,cond_false] at h
 case true=>cases h
 cases h4:(((q.op==4)||(q.op==5))&&decide (q.fin∈x.finished))<;>rw[h4] at h<;>simp only[cond_true,cond_false] at h
 case true=>cases h
 cases h5:((q.ends&& !decide (q.fin∈x.finished))&&((x.finished.length:Int)==60))<;>rw[h5] at h<;>simp only[cond_true,cond_false] at h
 case true=>cases h
 simp only[inR,QQ,Bool.or_eq_false_iff,decide_eq_false_iff_not,beq_eq_false_iff_ne,ne_eq,Bool.not_eq_false',beq_iff_eq,Bool.not_eq_eq_eq_not,Jt,Js] at h1 h2 h3 h4 h5
 refine ⟨ho,h1,fun hs=> ?_,fun a b=> ?_,fun hl=> ?_,fun he hn=> ?_⟩
 ·rcases h2 with h2 | h2
  ·exact absurd hs h2
  ·exact h2
 ·omega
 ·rcases h4 with h4 | h4
  ·omega
  ·exact h4
 ·rcases h5 with (h5 | h5) | h5
  ·rw[he] at h5;cases h5
  ·simp only[decide_eq_true_eq] at h5;exact absurd h5 hn
  ·omega
theorem doShard_good {x:Shard} {q:Request} (g:x.Good) (okx: ∀t,t∈x.book.list→t.Ok) (okq:q.Ok) (hid:x.lo≤q.id∧q.id≤x.hi) (d:Doable x q):(WaW x q).Good:=by
 have hbk:=(bookOk_iff _).2 ⟨g.srt,g.fine,g.bl⟩
 have hmem:=fun a (ha:a∈(Waq x.book.list q).1)=>doBook_mem hbk okx okq ha
 have nd:q.fin∉x.finished→(x.finished++[q.fin]).Nodup:=fun hn=>Ql.2 ⟨flt_nodup g.fs,by simp,fun a ha b hb e=>by
  simp only[Qy] at hb;subst hb;subst e;exact hn ha⟩
 have hfin: ∀t,t∈(WaW x q).finished→t∈x.finished∨(t=q.fin∧q.ends=true∧q.fin∉x.finished):=by
  intro t ht
  show t∈x.finished∨_
  have ht:t∈(bif q.ends&& !decide (q.fin∈x.finished) then WaP (x.finished++[q.fin]) else x.finished):=ht
  cases hc:(q.ends&& !decide (q.fin∈x.finished)) with
  | false=>rw[hc] at ht;exact .inl ht
  | true=>
    rw[hc] at ht
    simp only[cond_true,(WaY _).mem_iff,Qn,Qy] at ht
    simp only[Qg,Jf,decide_eq_false_iff_not] at hc
    rcases ht with ht | ht
    ·exact .inl ht
    ·exact .inr ⟨ht,hc.1,hc.2⟩
 have hends:q.ends=true→1≤q.tx:=fun he=>by
  simp only[Request.ends,QO,beq_iff_eq] at he
  exact d.tx (by omega) (by omega)
 exact {
  lh:=g.lh
  st:=g.st
  ep:=g.ep
  srt:=WbC hbk q
  fine:=fun a ha=>by
   rcases hmem a ha with h | h
   ·exact g.fine a h
   ·exact h.2.1
  bl:=doBook_40 hbk
  fl:=by
   show (bif q.ends&& !decide (q.fin∈x.finished) then WaP (x.finished++[q.fin]) else x.finished).length≤60
   cases hc:(q.ends&& !decide (q.fin∈x.finished)) with
   | false=>exact g.fl
   | true=>
     simp only[Qg,Jf,decide_eq_false_iff_not] at hc
     have:=d.full hc.1 hc.2
     have:=g.fl
     simp only[cond_true]
     rw[sortFins_len,Qr]
     simp only[Qq,Qs]
     omega
  acc:=fun a ha=>by
   have hlohi:x.lo≤a.id∧a.id≤x.hi:=by
    rcases hmem a ha with h | h
    ·exact ⟨(g.acc a h).1,(g.acc a h).2.1⟩
    ·rw[h.1];exact hid
   refine ⟨hlohi.1,hlohi.2,fun hf=> ?_⟩
   rcases hfin _ hf with hf | ⟨hf,he,hn⟩
   ·rcases hmem a ha with h | ⟨h1,_,_,h3⟩
    ·exact (g.acc a h).2.2 hf
    ·rcases h3 with h3 | ⟨h3,h4,h5⟩
     ·have:=(g.fin _ hf).1
      simp only at this
      omega
     ·refine d.late h3 ?_
      have:(⟨a.tx,a.id⟩:Fin)=q.fin:=by simp[Request.fin,h1,h4]
      rwa [this] at hf
   ·simp only[Request.fin,Fin.mk.injEq] at hf
    exact doBook_free hbk he (hends he) a ha hf
  fs:=by
   show (bif q.ends&& !decide (q.fin∈x.finished) then WaP (x.finished++[q.fin]) else x.finished).Pairwise flt
   cases hc:(q.ends&& !decide (q.fin∈x.finished)) with
   | false=>exact g.fs
   | true=>
     simp only[Qg,Jf,decide_eq_false_iff_not] at hc
     exact Wcf (nd hc.2)
  fin:=fun t ht=>by
   rcases hfin t ht with h | ⟨rfl,he,_⟩
   ·exact g.fin t h
   ·exact ⟨hends he,hid.1,hid.2⟩}
theorem Wca {s:Store} {q:Request} (g:s.Good):((Wbl s q).1=s∧8≤(Wbl s q).2.1∧(Wbl s q).2.2=0)∨
 ∃i:Nat,∃hi:i<s.shards.length,Waz s.shards q.id=(i:Int)∧(s.shards[i].lo≤q.id∧q.id≤s.shards[i].hi)∧Doable s.shards[i] q∧
  Wbl s q=({s with shards:=s.shards.set i (WaW s.shards[i] q)},(Waq s.shards[i].book.list q).2,doVal (Waq s.shards[i].book.list q) q.id):=by
 cases hb:(s.good&&inR q.op 0 8) with
 | false=>left;rw[Wcj hb];exact ⟨rfl,by simp,rfl⟩
 | true=>
   by_cases h0:0≤Waz s.shards q.id
   ·obtain ⟨i,e1,hi,hp⟩:=WbV h0
    have e2:Waz s.shards q.id=(i:Int):=e1
    simp only[Qg,decide_eq_true_eq] at hp
    rw[dost_at hb e2,Shard.at_get hi]
    have hb':=hb
    simp only[Qg] at hb'
    cases hr:(refuse s.shards[i] q==0) with
    | true=>exact .inr ⟨i,hi,e2,hp,refuse_none hb'.2 (by simpa using hr),rfl⟩
    | false=>
      left
      refine ⟨rfl,?_,rfl⟩
      have hr:refuse s.shards[i] q≠0:=by simpa using hr
      simp only[cond_false]
      revert hr
      unfold refuse
      cases (!(s.shards[i].epoch==q.epoch))<;>simp only[cond_true,cond_false]
      case true=>omega
      cases ((s.shards[i].state==1)&& !(q.op==8))<;>simp only[cond_true,cond_false]
      case true=>omega
      cases (inR q.op 4 7&&decide (q.tx<1))<;>simp only[cond_true,cond_false]
      case true=>omega
      cases (((q.op==4)||(q.op==5))&&decide (q.fin∈s.shards[i].finished))<;>simp only[cond_true,cond_false]
      case true=>omega
      cases ((q.ends&& !decide (q.fin∈s.shards[i].finished))&&((s.shards[i].finished.length:Int)==60))<;>simp only[cond_true,cond_false]
      case true=>omega
      omega
   ·left
    have h1:Waz s.shards q.id= -1:=by
     unfold Waz Wbt at h0 ⊢
     split<;>rename_i h2
     ·rw[h2] at h0;exact absurd (by simp) h0
     ·rfl
    rw[WbU hb h1]
    exact ⟨rfl,by simp,rfl⟩
theorem doStore_good {s:Store} {q:Request} (g:s.Good) (ok:s.Ok) (okq:q.Ok):(Wbl s q).1.Good:=by
 rcases Wca (q:=q) g with ⟨h,_⟩ | ⟨i,hi,_,hp,d,h⟩
 ·rw[h];exact g
 ·rw[h]
  have gx:=g.sh _ (Qd hi)
  have okX:=ok.shards _ (Qd hi)
  have gd:=doShard_good gx.1 okX.book.list okq hp d
  exact {
   gr:=g.gr
   sn:=g.sn
   len:=by show (s.shards.set i _).length≤8;rw[QF];exact g.len
   sh:=fun x hx=>by
    rcases Jd hx with hx | rfl
    ·exact g.sh x hx
    ·exact ⟨gd,gx.2⟩
   ord:=set_pairwise g.ord hi (fun z hz=>hz) (fun z hz=>hz)}
structure SGood (s:Store):Prop where
 good:s.Good
 ok:s.Ok
theorem SGood.small {s:Store} (w:SGood s):s.Small:=by
 refine ⟨by have:=w.good.len;omega,fun a ha=> ?_⟩
 have g:=(w.good.sh a ha).1
 exact ⟨by have:=g.bl;show a.book.list.length≤_;omega,by have:=g.fl;omega⟩
theorem Shard.renew_ok {x:Shard} (ok:x.Ok) {e:Int} (he:0≤e∧e≤1000000):(Shard.renew e x).Ok:=by
 unfold Shard.renew
 cases x.state==0
 ·exact ok
 ·exact ⟨ok.lo,ok.hi,ok.state,⟨by show _≤e;omega,by show e≤_;omega⟩,ok.book,ok.finished⟩
theorem Store.renew_ok {s:Store} {e:Int} (hg: -9223372036854775808≤s.group∧s.group≤9223372036854775807) (he:0≤e∧e≤1000000) (hx: ∀x,x∈s.shards→x.Ok):(s.renew e).Ok where
 group:=hg
 seen:=⟨by show _≤e;omega,by show e≤_;omega⟩
 shards:=fun x hxm=>by
  obtain ⟨y,hy,rfl⟩:=Ju.1 hxm
  exact Shard.renew_ok (hx y hy) he
theorem SGood.renew {s:Store} (w:SGood s) (e:Int):SGood (Wba s e).1:=by
 refine ⟨renewStore_good w.good,?_⟩
 unfold Wba
 cases hn:s.next e with
 | false=>exact w.ok
 | true=>
   have h:=(Store.next_iff s e).1 hn
   have:=w.good.one h.2.1
   exact Store.renew_ok w.ok.group ⟨by omega,h.2.2⟩ w.ok.shards
theorem SGood.freeze {s:Store} (w:SGood s) (lo e:Int):SGood (Wae s lo e).1:=by
 refine ⟨freezeShard_good w.good,?_⟩
 unfold Wae
 cases hn:s.next e with
 | false=>exact w.ok
 | true=>
   by_cases h0:0≤Waj s.shards lo 0
   ·have h:=(Store.next_iff s e).1 hn
    have he:=w.good.one h.2.1
    obtain ⟨i,e1,hi,_⟩:=WbV h0
    have e2:Waj s.shards lo 0=(i:Int):=e1
    rw[decide_eq_true h0,e2]
    simp only[Qc,cond_true,Jg]
    refine Store.renew_ok (s:=s.frozen i e) w.ok.group ⟨by omega,h.2.2⟩ fun x hx=> ?_
    rcases mem_set hx with hx | rfl
    ·exact w.ok.shards x hx
    ·have:=w.ok.shards _ (Qd hi)
     rw[Shard.at_get hi]
     exact ⟨this.lo,this.hi,by simp,⟨by simp only;omega,by simp only;omega⟩,this.book,this.finished⟩
   ·rw[decide_eq_false h0];exact w.ok
theorem Shard.within_ok {x:Shard} (ok:x.Ok) {lo hi e:Int} (hl:0≤lo∧lo≤18446744073709551615) (hh:0≤hi∧hi≤18446744073709551615) (he: -9223372036854775808≤e∧e≤9223372036854775807):(x.within lo hi e).Ok:=
 ⟨hl,hh,ok.state,he,⟨fun a ha=>ok.book.list a (Jb.1 ha).1⟩,fun f hf=>ok.finished f (Jb.1 hf).1⟩
theorem SGood.cut {s:Store} (w:SGood s) {a:Int} (ha:0≤a∧a≤18446744073709551615) (e:Int):SGood (WaI s a e).1:=by
 refine ⟨cutShard_good w.good,?_⟩
 cases h:(WaI s a e).2 with
 | false=>rw[cut_same h];exact w.ok
 | true=>
   obtain ⟨hn,k,hk,e2,h1,h2,h3,h4,h5,hc⟩:=cut_when h
   rw[hc]
   have hx:=(Store.next_iff s e).1 hn
   have he:=w.good.one hx.2.1
   have ox:=w.ok.shards _ (Qd hk)
   have o1:=ox.lo
   refine Store.renew_ok (s:=s.cutAt k a e) w.ok.group ⟨by omega,hx.2.2⟩ fun x hxm=> ?_
   simp only[Store.cutAt,Qn,Qx,Qv,or_false] at hxm
   rcases hxm with (hxm | hxm | hxm) | hxm
   ·exact w.ok.shards x (QR hxm)
   ·rw[hxm,Shard.at_get hk]
    exact Shard.within_ok ox ox.lo ⟨by omega,by omega⟩ ⟨by omega,by omega⟩
   ·rw[hxm,Shard.at_get hk]
    exact Shard.within_ok ox ha ox.hi ⟨by omega,by omega⟩
   ·exact w.ok.shards x (QZ hxm)
theorem SGood.join {s:Store} (w:SGood s) (a e:Int):SGood (WaD s a e).1:=by
 refine ⟨joinShard_good w.good,?_⟩
 cases h:(WaD s a e).2 with
 | false=>rw[join_same h];exact w.ok
 | true=>
   obtain ⟨hn,j,hj,e2,h1,h2,h3,h4,h5,hc⟩:=join_when h
   rw[hc]
   have hx:=(Store.next_iff s e).1 hn
   have he:=w.good.one hx.2.1
   have hj':j<s.shards.length:=by omega
   have op:=w.ok.shards _ (Qd hj')
   have oq:=w.ok.shards _ (Qd hj)
   refine Store.renew_ok (s:=s.joinWith j (Shard.join s.shards[j] s.shards[j+1])) w.ok.group ⟨by omega,hx.2.2⟩ fun x hxm=> ?_
   have hxm:x∈(s.shards.set j (Shard.join s.shards[j] s.shards[j+1])).eraseIdx (j+1):=hxm
   have hxm:=(QP _ _).subset hxm
   rcases mem_set hxm with hxm | rfl
   ·exact w.ok.shards x hxm
   ·exact ⟨op.lo,oq.hi,op.state,op.epoch,⟨fun a ha=>by
     rcases Qn.1 ha with ha | ha
     ·exact op.book.list a ha
     ·exact oq.book.list a ha⟩,fun f hf=>by
     have hf:f∈WaP (s.shards[j].finished++s.shards[j+1].finished):=hf
     rw[(WaY _).mem_iff,Qn] at hf
     rcases hf with hf | hf
     ·exact op.finished f hf
     ·exact oq.finished f hf⟩
theorem SGood.done {s:Store} (w:SGood s) {q:Request} (okq:q.Ok):SGood (Wbl s q).1:=by
 refine ⟨doStore_good w.good w.ok okq,?_⟩
 rcases Wca (q:=q) w.good with ⟨h,_⟩ | ⟨i,hi,_,hp,d,h⟩
 ·rw[h];exact w.ok
 ·rw[h]
  have gx:=(w.good.sh _ (Qd hi)).1
  have ox:=w.ok.shards _ (Qd hi)
  refine ⟨w.ok.group,w.ok.seen,fun x hx=> ?_⟩
  rcases mem_set hx with hx | rfl
  ·exact w.ok.shards x hx
  ·refine ⟨ox.lo,ox.hi,ox.state,ox.epoch,⟨fun a ha=> ?_⟩,fun f hf=> ?_⟩
   ·rcases doBook_mem ((bookOk_iff _).2 ⟨gx.srt,gx.fine,gx.bl⟩) ox.book.list okq ha with h1 | h1
    ·exact ox.book.list a h1
    ·exact h1.2.2.1
   ·have hf:f∈(bif q.ends&& !decide (q.fin∈s.shards[i].finished) then WaP (s.shards[i].finished++[q.fin]) else s.shards[i].finished):=hf
    cases hc:(q.ends&& !decide (q.fin∈s.shards[i].finished)) with
    | false=>rw[hc] at hf;exact ox.finished f hf
    | true=>
      rw[hc] at hf
      simp only[cond_true,(WaY _).mem_iff,Qn,Qy] at hf
      rcases hf with hf | rfl
      ·exact ox.finished f hf
      ·exact ⟨okq.tx,okq.id⟩
theorem seen_renew (s:Store) (e:Int):(Wba s e).1.seen=s.seen∨(Wba s e).1.seen=e:=by
 unfold Wba
 cases s.next e
 ·exact .inl rfl
 ·exact .inr rfl
theorem seen_freeze (s:Store) (lo e:Int):(Wae s lo e).1.seen=s.seen∨(Wae s lo e).1.seen=e:=by
 unfold Wae
 cases (s.next e&&decide (0≤Waj s.shards lo 0))
 ·exact .inl rfl
 ·exact .inr rfl
theorem seen_cut (s:Store) (a e:Int):(WaI s a e).1.seen=s.seen∨(WaI s a e).1.seen=e:=by
 cases h:(WaI s a e).2 with
 | false=>rw[cut_same h];exact .inl rfl
 | true=>
   obtain ⟨_,_,_,_,_,_,_,_,_,hc⟩:=cut_when h
   rw[hc];exact .inr rfl
theorem seen_join (s:Store) (a e:Int):(WaD s a e).1.seen=s.seen∨(WaD s a e).1.seen=e:=by
 cases h:(WaD s a e).2 with
 | false=>rw[join_same h];exact .inl rfl
 | true=>
   obtain ⟨_,_,_,_,_,_,_,_,_,hc⟩:=join_when h
   rw[hc];exact .inr rfl
theorem seen_do {s:Store} (g:s.Good) (q:Request):(Wbl s q).1.seen=s.seen:=by
 rcases Wca (q:=q) g with ⟨h,_⟩ | ⟨i,hi,_,hp,d,h⟩<;>rw[h]
theorem len_do {s:Store} (g:s.Good) (q:Request):(Wbl s q).1.shards.length=s.shards.length:=by
 rcases Wca (q:=q) g with ⟨h,_⟩ | ⟨i,hi,_,hp,d,h⟩<;>rw[h]
 exact QF
theorem len_renew (s:Store) (e:Int):(Wba s e).1.shards.length=s.shards.length:=by
 unfold Wba
 cases s.next e
 ·rfl
 ·exact Qp _
theorem len_freeze (s:Store) (lo e:Int):(Wae s lo e).1.shards.length=s.shards.length:=by
 unfold Wae
 cases (s.next e&&decide (0≤Waj s.shards lo 0))
 ·rfl
 ·show ((s.shards.set _ _).map _).length=_
  rw[Qp,QF]
theorem len_cut (s:Store) (a e:Int):s.shards.length≤(WaI s a e).1.shards.length:=by
 cases h:(WaI s a e).2 with
 | false=>rw[cut_same h];exact QD _
 | true=>
   obtain ⟨_,k,hk,_,_,_,_,_,_,hc⟩:=cut_when h
   rw[hc]
   show s.shards.length≤((s.cutAt k a e).shards.map _).length
   rw[Qp]
   simp only[Store.cutAt,Qr,Qu,QV,Qq,Qs]
   omega
theorem len_join (s:Store) (a e:Int) (h0:0<s.shards.length):0<(WaD s a e).1.shards.length:=by
 cases h:(WaD s a e).2 with
 | false=>rw[join_same h];exact h0
 | true=>
   obtain ⟨_,j,hj,_,_,_,_,_,_,hc⟩:=join_when h
   rw[hc]
   show 0<((s.joinWith j _).shards.map _).length
   rw[Qp,joinWith_shards hj]
   simp only[Qr,Qq]
   omega
def Shard.All (P:Account→Prop) (Q:Fin→Prop) (x:Shard):Prop:=(∀a,a∈x.book.list→P a)∧ ∀f,f∈x.finished→Q f
def Store.All (P:Account→Prop) (Q:Fin→Prop) (s:Store):Prop:= ∀x,x∈s.shards→x.All P Q
section
variable {P:Account→Prop} {Q:Fin→Prop} {s:Store}
theorem Store.All.renew' (w:s.All P Q) (e:Int):(s.renew e).All P Q:=fun x hx=>by
 obtain ⟨y,hy,rfl⟩:=Ju.1 (show x∈s.shards.map (Shard.renew e) from hx)
 unfold Shard.All
 rw[Shard.renew_book,Shard.renew_fin]
 exact w y hy
theorem Store.All.renew (w:s.All P Q) (e:Int):(Wba s e).1.All P Q:=by
 unfold Wba
 cases s.next e with
 | false=>exact w
 | true=>exact w.renew' e
theorem Store.All.freeze (w:s.All P Q) (lo e:Int):(Wae s lo e).1.All P Q:=by
 unfold Wae
 cases hn:s.next e with
 | false=>exact w
 | true=>
   by_cases h0:0≤Waj s.shards lo 0
   ·obtain ⟨i,e1,hi,_⟩:=WbV h0
    have e2:Waj s.shards lo 0=(i:Int):=e1
    rw[decide_eq_true h0,e2]
    simp only[Qc,cond_true,Jg]
    refine Store.All.renew' (s:=s.frozen i e) (fun x hx=> ?_) e
    rcases mem_set hx with hx | rfl
    ·exact w x hx
    ·rw[Shard.at_get hi]
     have:=w _ (Qd hi)
     exact ⟨this.1,this.2⟩
   ·rw[decide_eq_false h0];exact w
theorem Shard.All.within {x:Shard} (w:x.All P Q) (lo hi e:Int):(x.within lo hi e).All P Q:=
 ⟨fun a ha=>w.1 a (Jb.1 ha).1,fun f hf=>w.2 f (Jb.1 hf).1⟩
theorem Store.All.cut (w:s.All P Q) (a e:Int):(WaI s a e).1.All P Q:=by
 cases h:(WaI s a e).2 with
 | false=>rw[cut_same h];exact w
 | true=>
   obtain ⟨hn,k,hk,e2,h1,h2,h3,h4,h5,hc⟩:=cut_when h
   rw[hc]
   have ox:=w _ (Qd hk)
   refine Store.All.renew' (s:=s.cutAt k a e) (fun x hxm=> ?_) e
   simp only[Store.cutAt,Qn,Qx,Qv,or_false] at hxm
   rcases hxm with (hxm | hxm | hxm) | hxm
   ·exact w x (QR hxm)
   ·rw[hxm,Shard.at_get hk];exact ox.within _ _ _
   ·rw[hxm,Shard.at_get hk];exact ox.within _ _ _
   ·exact w x (QZ hxm)
theorem Store.All.join (w:s.All P Q) (a e:Int):(WaD s a e).1.All P Q:=by
 cases h:(WaD s a e).2 with
 | false=>rw[join_same h];exact w
 | true=>
   obtain ⟨hn,j,hj,e2,h1,h2,h3,h4,h5,hc⟩:=join_when h
   rw[hc]
   have hj':j<s.shards.length:=by omega
   have op:=w _ (Qd hj')
   have oq:=w _ (Qd hj)
   refine Store.All.renew' (s:=s.joinWith j (Shard.join s.shards[j] s.shards[j+1])) (fun x hxm=> ?_) e
   have hxm:x∈(s.shards.set j (Shard.join s.shards[j] s.shards[j+1])).eraseIdx (j+1):=hxm
   have hxm:=(QP _ _).subset hxm
   rcases mem_set hxm with hxm | rfl
   ·exact w x hxm
   ·exact ⟨fun a ha=>by
     rcases Qn.1 ha with ha | ha
     ·exact op.1 a ha
     ·exact oq.1 a ha,fun f hf=>by
     have hf:f∈WaP (s.shards[j].finished++s.shards[j+1].finished):=hf
     rw[(WaY _).mem_iff,Qn] at hf
     rcases hf with hf | hf
     ·exact op.2 f hf
     ·exact oq.2 f hf⟩
theorem Store.All.done (w:s.All P Q) (g:SGood s) {q:Request} (okq:q.Ok) (hP: ∀a:Account,a.tx=0∨a.tx=q.tx→P a) (hQ:q.ends=true→Q q.fin):(Wbl s q).1.All P Q:=by
 rcases Wca (q:=q) g.good with ⟨h,_⟩ | ⟨i,hi,_,hp,d,h⟩
 ·rw[h];exact w
 ·rw[h]
  have gx:=(g.good.sh _ (Qd hi)).1
  have ox:=g.ok.shards _ (Qd hi)
  have wx:=w _ (Qd hi)
  intro x hx
  rcases mem_set hx with hx | rfl
  ·exact w x hx
  ·refine ⟨fun a ha=> ?_,fun f hf=> ?_⟩
   ·rcases doBook_mem ((bookOk_iff _).2 ⟨gx.srt,gx.fine,gx.bl⟩) ox.book.list okq ha with h1 | h1
    ·exact wx.1 a h1
    ·exact hP a (by rcases h1.2.2.2 with h2 | h2<;>simp[h2])
   ·have hf:f∈(bif q.ends&& !decide (q.fin∈s.shards[i].finished) then WaP (s.shards[i].finished++[q.fin]) else s.shards[i].finished):=hf
    cases hc:(q.ends&& !decide (q.fin∈s.shards[i].finished)) with
    | false=>rw[hc] at hf;exact wx.2 f hf
    | true=>
      rw[hc] at hf
      simp only[Qg] at hc
      simp only[cond_true,(WaY _).mem_iff,Qn,Qy] at hf
      rcases hf with hf | rfl
      ·exact wx.2 f hf
      ·exact hQ hc.1
end
abbrev Store.Low (n:Int) (s:Store):Prop:=s.All (fun a=>a.tx<900) fun f=>f.tx<n
theorem wrapI_in' (z:Int): -9223372036854775808≤IntKind.i64.wrap z∧IntKind.i64.wrap z≤9223372036854775807:=by
 show -9223372036854775808≤(if (true&&decide (z%18446744073709551616≥9223372036854775808))=true then z%18446744073709551616-18446744073709551616 else z%18446744073709551616)∧(if (true&&decide (z%18446744073709551616≥9223372036854775808))=true then z%18446744073709551616-18446744073709551616 else z%18446744073709551616)≤_
 simp only[Qe,decide_eq_true_eq]
 split<;>omega
theorem SlR.oneDr {α:Type} {R:Rel α} {tag k:Nat} {h:Heap} {x:Cell} {xs:List α} {fp:List Nat} (w:SlR tag R h x xs fp) (hk:k∉fp) {i:Nat} (hi:i<xs.length):
 ∃r f,(∀h',Dr k h h'→ ∀j n,WaC h' x.sid i j n=cut? r j n)∧R h r xs[i] f∧ ∀id,id∈f→id∈fp:=by
 rcases w with ⟨_,⟨rfl,rfl,_⟩ | ⟨id,rows,fps,rfl,h1,h3,rfl,h2⟩⟩
 ·exact absurd hi (QT _)
 ·obtain ⟨r,f,q1,q2,q3⟩:=h2.at i hi
  refine ⟨r,f,fun h' d j n=> ?_,q3,fun id' hid=>QE _ (QL.2 ⟨f,QA q2,hid⟩)⟩
  have hd:=d.get id h3 (fun e=>hk (by simp[e]))
  simp[WaC,WbL,Cell.sid,hd,h1,q1]
section
variable {F:Nat→Option RF} {Z:Waf} {h0 h:Heap} {k:Nat} {x y:Cell} {code:List Int} {rows:List (List Cell)} {cs:List Cell} {fp:List Nat} {s:Store}
set_option maxHeartbeats 4000000 in
set_option maxRecDepth 8000 in
theorem l13DrawRequest_c (hS:Has F tS01d) (hS10:Has F tS10) (hS13:Has F tS13) (c:Cur h k x code) (v:Store.RI h cs s fp) (hk:k∉fp) (w:SGood s) (lw:s.Low 900):
 ∃(q:Request) (h':Heap),call F Z 393 [.c (.ptr k 0 0),.agg cs] h=some (.agg q.enc,h')∧(q.Ok∧q.tx<900)∧Dr k h h'∧Cur h' k x code:=by
 obtain ⟨l1,l2,l3⟩:=Store.lenI v
 obtain ⟨r1,h1,e1,hr1,d1,c1⟩:=pick_lit (Z:=Z) hS c [0,0,2,2,2,3,4,4,5,5,6,7,8,1] (by simp) (by simp)
 obtain ⟨r2,h2,e2,r20,r2n,_,m2,c2⟩:=Wak (Z:=Z) hS c1 4
 have r2l:=r2n (by omega)
 have hw2:IntKind.i64.wrap (1+r2)=1+r2:=Wbr _ (by omega) (by omega)
 obtain ⟨r3,h3,e3,hr3,d3,c3⟩:=l10DrawId_c (Z:=Z) hS hS10 c2
 obtain ⟨r4,h4,e4,hr4,m4,c4⟩:=l10DrawAmount_c (Z:=Z) hS hS10 c3
 have dr4:=((d1.trans m2.dr).trans d3).trans m4.dr
 have v4:=Store.okI.dr v dr4 hk
 have e5:=Wbs (Z:=Z) hS13 v4 r3
 have eI:=Wbd (F:=F) (Z:=Z) hS r1 6 7 h4
 simp only[QH,QM,Wai,Qq,Qs,QG,Nat.reduceAdd] at e1
 have hr1b: -9223372036854775808≤r1∧r1≤9223372036854775807:=by
  simp only[Qx,Qv,or_false] at hr1
  omega
 have hlx:1+r2<900:=by omega
 have htx: -9223372036854775808≤1+r2∧1+r2≤9223372036854775807:=by omega
 have wI: ∀z:Int,-9223372036854775808≤IntKind.i64.wrap z∧IntKind.i64.wrap z≤9223372036854775807:=wrapI_in'
 have z0: -9223372036854775808≤(0:Int)∧(0:Int)≤9223372036854775807:=by omega
 rw[Wac F Z (hS13.lk (g:=393) rfl) _ _ rfl]
 obtain ⟨z,p,rfl,hp,w4⟩:=v4
 subst hp
 rcases w4.found (fun t=>decide (t.lo≤r3)&&decide (r3≤t.hi)) with q | ⟨i,q,hi,hpi,_⟩
 ·change Waz s.shards r3= -1 at q
  rw[q] at e5
  have g0: ¬(-1:Int)≥0:=by omega
  obtain ⟨r6,h6,e6,_,_,_,m6,c6⟩:=Wak (Z:=Z) hS c4 30
  cases q0:(r6==0) with
  | true=>
    obtain ⟨r7,h7,e7,_,_,_,m7,c7⟩:=Wak (Z:=Z) hS c6 3
    simp only[rn,RO.dst,lk,drop,Nat.reduceBEq,Nat.reduceAdd,Nat.reduceLeDiff,↓reduceIte,reduceCtorEq,Qi,Qh,Wav,and_self,Qj,Qm,Nat.reduceLT,Qo,Qk,l1,l2,l3,e1,e2,hw2,e3,e4,e5,g0,e6,q0,e7]
    exact ⟨⟨_,r1,r3,r4,(1+r2)⟩,_,rfl,⟨⟨wI _,hr1b,hr3,hr4,htx⟩,hlx⟩,((dr4).trans m6.dr).trans m7.dr,c7⟩
  | false=>
  cases q1:(r6==1) with
  | true=>
    obtain ⟨r7,h7,e7,hr7,m7,c7⟩:=pick_lit (Z:=Z) hS c6 [-1,9] (by simp) (by simp)
    simp only[QH,QM,Wai,Qq,Qs,QG,Nat.reduceAdd] at e7
    simp only[rn,RO.dst,lk,drop,Nat.reduceBEq,Nat.reduceAdd,Nat.reduceLeDiff,↓reduceIte,reduceCtorEq,Qi,Qh,Wav,and_self,Qj,Qm,Nat.reduceLT,Qo,Qk,l1,l2,l3,e1,e2,hw2,e3,e4,e5,g0,e6,q0,q1,e7]
    refine ⟨⟨0,r7,r3,r4,(1+r2)⟩,_,rfl,⟨⟨z0,?_,hr3,hr4,htx⟩,hlx⟩,((dr4).trans m6.dr).trans m7,c7⟩
    simp only[Qx,Qv,or_false] at hr7
    show -9223372036854775808≤r7∧r7≤9223372036854775807
    omega
  | false=>
  cases q2:(r6==2) with
  | true=>
    obtain ⟨r7,h7,e7,r70,r7n,_,m7,c7⟩:=Wak (Z:=Z) hS c6 2
    simp only[rn,RO.dst,lk,drop,Nat.reduceBEq,Nat.reduceAdd,Nat.reduceLeDiff,↓reduceIte,reduceCtorEq,Qi,Qh,Wav,and_self,Qj,Qm,Nat.reduceLT,Qo,Qk,l1,l2,l3,e1,e2,hw2,e3,e4,e5,g0,e6,q0,q1,q2,e7]
    exact ⟨⟨0,r1,r3,r4,_⟩,_,rfl,⟨⟨z0,hr1b,hr3,hr4,wI _⟩,(by have:=r7n (by omega);show IntKind.i64.wrap (r7-1)<900;rw[Wbr _ (by omega) (by omega)];omega)⟩,((dr4).trans m6.dr).trans m7.dr,c7⟩
  | false=>
    simp only[rn,RO.dst,lk,drop,Nat.reduceBEq,Nat.reduceAdd,Nat.reduceLeDiff,↓reduceIte,reduceCtorEq,Qi,Qh,Wav,and_self,Qj,Qm,Nat.reduceLT,Qo,Qk,l1,l2,l3,e1,e2,hw2,e3,e4,e5,g0,e6,q0,q1,q2]
    exact ⟨⟨0,r1,r3,r4,(1+r2)⟩,_,rfl,⟨⟨z0,hr1b,hr3,hr4,htx⟩,hlx⟩,(dr4).trans m6.dr,c6⟩
 change Waz s.shards r3=(i:Int) at q
 rw[q] at e5
 have g0:(i:Int)≥0:=by omega
 have okX:=w.ok.shards _ (Qd hi)
 have hep:=okX.epoch
 have hzi:=w4.idx hi
 obtain ⟨r,f0,hall,hR,hin⟩:=w4.oneDr hk hi
 have hld:=hall h4 (Dr.refl k h4)
 obtain ⟨xb,pb,xf,pf,rfl,rfl,wb,wf⟩:=hR
 have hbl:=wb.len
 have hkb:k∉pb:=fun hc=>hk (hin k (Ja _ hc))
 cases hI:inR r1 6 7 with
 | false=>
   rw[hI] at eI
   obtain ⟨r6,h6,e6,_,_,_,m6,c6⟩:=Wak (Z:=Z) hS c4 30
   cases q0:(r6==0) with
   | true=>
     obtain ⟨r7,h7,e7,_,_,_,m7,c7⟩:=Wak (Z:=Z) hS c6 3
     simp only[rn,RO.dst,lk,drop,Nat.reduceBEq,Nat.reduceAdd,Nat.reduceLeDiff,↓reduceIte,reduceCtorEq,Qi,Qh,Wav,and_self,Qj,Qm,Nat.reduceLT,Qo,Qk,l1,l2,l3,e1,e2,hw2,e3,e4,e5,g0,hzi,hld,eI,e6,q0,e7]
     exact ⟨⟨_,r1,r3,r4,(1+r2)⟩,_,rfl,⟨⟨wI _,hr1b,hr3,hr4,htx⟩,hlx⟩,((dr4).trans m6.dr).trans m7.dr,c7⟩
   | false=>
   cases q1:(r6==1) with
   | true=>
     obtain ⟨r7,h7,e7,hr7,m7,c7⟩:=pick_lit (Z:=Z) hS c6 [-1,9] (by simp) (by simp)
     simp only[QH,QM,Wai,Qq,Qs,QG,Nat.reduceAdd] at e7
     simp only[rn,RO.dst,lk,drop,Nat.reduceBEq,Nat.reduceAdd,Nat.reduceLeDiff,↓reduceIte,reduceCtorEq,Qi,Qh,Wav,and_self,Qj,Qm,Nat.reduceLT,Qo,Qk,l1,l2,l3,e1,e2,hw2,e3,e4,e5,g0,hzi,hld,eI,e6,q0,q1,e7]
     refine ⟨⟨s.shards[i].epoch,r7,r3,r4,(1+r2)⟩,_,rfl,⟨⟨hep,?_,hr3,hr4,htx⟩,hlx⟩,((dr4).trans m6.dr).trans m7,c7⟩
     simp only[Qx,Qv,or_false] at hr7
     show -9223372036854775808≤r7∧r7≤9223372036854775807
     omega
   | false=>
   cases q2:(r6==2) with
   | true=>
     obtain ⟨r7,h7,e7,r70,r7n,_,m7,c7⟩:=Wak (Z:=Z) hS c6 2
     simp only[rn,RO.dst,lk,drop,Nat.reduceBEq,Nat.reduceAdd,Nat.reduceLeDiff,↓reduceIte,reduceCtorEq,Qi,Qh,Wav,and_self,Qj,Qm,Nat.reduceLT,Qo,Qk,l1,l2,l3,e1,e2,hw2,e3,e4,e5,g0,hzi,hld,eI,e6,q0,q1,q2,e7]
     exact ⟨⟨s.shards[i].epoch,r1,r3,r4,_⟩,_,rfl,⟨⟨hep,hr1b,hr3,hr4,wI _⟩,(by have:=r7n (by omega);show IntKind.i64.wrap (r7-1)<900;rw[Wbr _ (by omega) (by omega)];omega)⟩,((dr4).trans m6.dr).trans m7.dr,c7⟩
   | false=>
     simp only[rn,RO.dst,lk,drop,Nat.reduceBEq,Nat.reduceAdd,Nat.reduceLeDiff,↓reduceIte,reduceCtorEq,Qi,Qh,Wav,and_self,Qj,Qm,Nat.reduceLT,Qo,Qk,l1,l2,l3,e1,e2,hw2,e3,e4,e5,g0,hzi,hld,eI,e6,q0,q1,q2]
     exact ⟨⟨s.shards[i].epoch,r1,r3,r4,(1+r2)⟩,_,rfl,⟨⟨hep,hr1b,hr3,hr4,htx⟩,hlx⟩,(dr4).trans m6.dr,c6⟩
 | true=>
 rw[hI] at eI
 obtain ⟨b5,h5,e5b,m5,c5⟩:=l01Once_c (Z:=Z) hS c4 2
 cases b5 with
 | false=>
   obtain ⟨r6,h6,e6,_,_,_,m6,c6⟩:=Wak (Z:=Z) hS c5 30
   cases q0:(r6==0) with
   | true=>
     obtain ⟨r7,h7,e7,_,_,_,m7,c7⟩:=Wak (Z:=Z) hS c6 3
     simp only[rn,RO.dst,lk,drop,Nat.reduceBEq,Nat.reduceAdd,Nat.reduceLeDiff,↓reduceIte,reduceCtorEq,Qi,Qh,Wav,and_self,Qj,Qm,Nat.reduceLT,Qo,Qk,l1,l2,l3,e1,e2,hw2,e3,e4,e5,g0,hzi,hld,eI,e5b,e6,q0,e7]
     exact ⟨⟨_,r1,r3,r4,(1+r2)⟩,_,rfl,⟨⟨wI _,hr1b,hr3,hr4,htx⟩,hlx⟩,((dr4.trans m5.dr).trans m6.dr).trans m7.dr,c7⟩
   | false=>
   cases q1:(r6==1) with
   | true=>
     obtain ⟨r7,h7,e7,hr7,m7,c7⟩:=pick_lit (Z:=Z) hS c6 [-1,9] (by simp) (by simp)
     simp only[QH,QM,Wai,Qq,Qs,QG,Nat.reduceAdd] at e7
     simp only[rn,RO.dst,lk,drop,Nat.reduceBEq,Nat.reduceAdd,Nat.reduceLeDiff,↓reduceIte,reduceCtorEq,Qi,Qh,Wav,and_self,Qj,Qm,Nat.reduceLT,Qo,Qk,l1,l2,l3,e1,e2,hw2,e3,e4,e5,g0,hzi,hld,eI,e5b,e6,q0,q1,e7]
     refine ⟨⟨s.shards[i].epoch,r7,r3,r4,(1+r2)⟩,_,rfl,⟨⟨hep,?_,hr3,hr4,htx⟩,hlx⟩,((dr4.trans m5.dr).trans m6.dr).trans m7,c7⟩
     simp only[Qx,Qv,or_false] at hr7
     show -9223372036854775808≤r7∧r7≤9223372036854775807
     omega
   | false=>
   cases q2:(r6==2) with
   | true=>
     obtain ⟨r7,h7,e7,r70,r7n,_,m7,c7⟩:=Wak (Z:=Z) hS c6 2
     simp only[rn,RO.dst,lk,drop,Nat.reduceBEq,Nat.reduceAdd,Nat.reduceLeDiff,↓reduceIte,reduceCtorEq,Qi,Qh,Wav,and_self,Qj,Qm,Nat.reduceLT,Qo,Qk,l1,l2,l3,e1,e2,hw2,e3,e4,e5,g0,hzi,hld,eI,e5b,e6,q0,q1,q2,e7]
     exact ⟨⟨s.shards[i].epoch,r1,r3,r4,_⟩,_,rfl,⟨⟨hep,hr1b,hr3,hr4,wI _⟩,(by have:=r7n (by omega);show IntKind.i64.wrap (r7-1)<900;rw[Wbr _ (by omega) (by omega)];omega)⟩,((dr4.trans m5.dr).trans m6.dr).trans m7.dr,c7⟩
   | false=>
     simp only[rn,RO.dst,lk,drop,Nat.reduceBEq,Nat.reduceAdd,Nat.reduceLeDiff,↓reduceIte,reduceCtorEq,Qi,Qh,Wav,and_self,Qj,Qm,Nat.reduceLT,Qo,Qk,l1,l2,l3,e1,e2,hw2,e3,e4,e5,g0,hzi,hld,eI,e5b,e6,q0,q1,q2]
     exact ⟨⟨s.shards[i].epoch,r1,r3,r4,(1+r2)⟩,_,rfl,⟨⟨hep,hr1b,hr3,hr4,htx⟩,hlx⟩,(dr4.trans m5.dr).trans m6.dr,c6⟩
 | true=>
 have dr5:=dr4.trans m5.dr
 have wb5:=wb.dr (Fl.ok _) m5.dr hkb
 have hzs:=hall h5 m5.dr
 have smb:s.shards[i].book.list.length≤40:=(w.good.sh _ (Qd hi)).1.bl
 simp only[rn,RO.dst,lk,drop,Nat.reduceBEq,Nat.reduceAdd,Nat.reduceLeDiff,↓reduceIte,reduceCtorEq,Qi,Qh,Wav,and_self,Qj,Qm,Nat.reduceLT,Qo,Qk,l1,l2,l3,e1,e2,hw2,e3,e4,e5,g0,hzi,hld,eI,e5b]
 obtain ⟨s',⟨id',tx',hs',hid',htx'⟩,lp⟩:=WaB (F:=F) (Z:=Z) (live:=[0,3,4,5,6,7]) (b:=r393L0) s.shards[i].book.list.length (fun n st=> ∃id' tx',st=⟨[(0,.c (.ptr k 0 0)),(6,.c (.int .i64 (i:Nat))),(7,.c (.int .i64 (n:Nat)))],[(3,3,0),(4,4,0),(5,5,0)],[(3,[.int .i64 s.group,.int .i64 s.seen,z]),(4,[.int .i64 0,.int .i64 0,.int .u64 0,.int .u64 0,.int .i64 0]),(5,[.int .i64 s.shards[i].epoch,.int .i64 r1,.int .u64 id',.int .u64 r4,.int .i64 tx'])],h5⟩∧
  (0≤id'∧id'≤18446744073709551615)∧((-9223372036854775808≤tx'∧tx'≤9223372036854775807)∧tx'<900)) (fun n st hn ⟨id',tx',hs',hid',htx'⟩=>by
  subst hs'
  have hlt:(n:Int)<s.shards[i].book.list.length:=by omega
  have hws:=WaS n (by omega)
  have hbi:=wb5.idx hn
  have hbl2:=wb5.load hn
  have oka:=okX.book.list _ (Qd hn)
  have lwa:=(lw _ (Qd hi)).1 _ (Qd hn)
  simp only[Account.enc] at hbl2
  rw[Wab]
  conv in (Wad _ _ r393L0 _)=>unfold r393L0
  generalize s.shards[i].book.list[n]=a at *
  cases ht:(a.tx !=0) with
  | true=>
    simp only[rn,RO.dst,lk,drop,Nat.reduceBEq,Nat.reduceAdd,Nat.reduceLeDiff,↓reduceIte,reduceCtorEq,hzi,hzs,hbl,hlt,hbi,hbl2,ht,hws]
    exact ⟨_,⟨_,_,rfl,oka.id,oka.tx,lwa⟩,rfl⟩
  | false=>
    simp only[rn,RO.dst,lk,drop,Nat.reduceBEq,Nat.reduceAdd,Nat.reduceLeDiff,↓reduceIte,reduceCtorEq,hzi,hzs,hbl,hlt,hbi,hbl2,ht,hws]
    exact ⟨_,⟨_,_,rfl,hid',htx'⟩,rfl⟩) (s:=⟨[(0,.c (.ptr k 0 0)),(6,.c (.int .i64 (i:Nat))),(7,.c (.int .i64 (0:Nat)))],[(3,3,0),(4,4,0),(5,5,0)],[(3,[.int .i64 s.group,.int .i64 s.seen,z]),(4,[.int .i64 0,.int .i64 0,.int .u64 0,.int .u64 0,.int .i64 0]),(5,[.int .i64 s.shards[i].epoch,.int .i64 r1,.int .u64 r3,.int .u64 r4,.int .i64 (1+r2)])],h5⟩) ⟨_,_,rfl,hr3,htx,hlx⟩
 subst hs'
 simp only[show ((0:Nat):Int)=0 from rfl] at lp
 have hlt: ¬(s.shards[i].book.list.length:Int)<s.shards[i].book.list.length:=by omega
 rw[lp,Wab]
 conv in (Wad _ _ r393L0 _)=>unfold r393L0
 obtain ⟨r6,h6,e6,_,_,_,m6,c6⟩:=Wak (Z:=Z) hS c5 30
 cases q0:(r6==0) with
 | true=>
   obtain ⟨r7,h7,e7,_,_,_,m7,c7⟩:=Wak (Z:=Z) hS c6 3
   simp only[rn,RO.dst,lk,drop,Nat.reduceBEq,Nat.reduceAdd,Nat.reduceLeDiff,↓reduceIte,reduceCtorEq,Qi,Qh,Wav,and_self,Qj,Qm,Nat.reduceLT,Qo,Qk,hzi,hzs,hbl,hlt,e6,q0,e7]
   exact ⟨⟨_,r1,id',r4,tx'⟩,_,rfl,⟨⟨wI _,hr1b,hid',hr4,htx'.1⟩,htx'.2⟩,((dr5).trans m6.dr).trans m7.dr,c7⟩
 | false=>
 cases q1:(r6==1) with
 | true=>
   obtain ⟨r7,h7,e7,hr7,m7,c7⟩:=pick_lit (Z:=Z) hS c6 [-1,9] (by simp) (by simp)
   simp only[QH,QM,Wai,Qq,Qs,QG,Nat.reduceAdd] at e7
   simp only[rn,RO.dst,lk,drop,Nat.reduceBEq,Nat.reduceAdd,Nat.reduceLeDiff,↓reduceIte,reduceCtorEq,Qi,Qh,Wav,and_self,Qj,Qm,Nat.reduceLT,Qo,Qk,hzi,hzs,hbl,hlt,e6,q0,q1,e7]
   refine ⟨⟨s.shards[i].epoch,r7,id',r4,tx'⟩,_,rfl,⟨⟨hep,?_,hid',hr4,htx'.1⟩,htx'.2⟩,((dr5).trans m6.dr).trans m7,c7⟩
   simp only[Qx,Qv,or_false] at hr7
   show -9223372036854775808≤r7∧r7≤9223372036854775807
   omega
 | false=>
 cases q2:(r6==2) with
 | true=>
   obtain ⟨r7,h7,e7,r70,r7n,_,m7,c7⟩:=Wak (Z:=Z) hS c6 2
   simp only[rn,RO.dst,lk,drop,Nat.reduceBEq,Nat.reduceAdd,Nat.reduceLeDiff,↓reduceIte,reduceCtorEq,Qi,Qh,Wav,and_self,Qj,Qm,Nat.reduceLT,Qo,Qk,hzi,hzs,hbl,hlt,e6,q0,q1,q2,e7]
   exact ⟨⟨s.shards[i].epoch,r1,id',r4,_⟩,_,rfl,⟨⟨hep,hr1b,hid',hr4,wI _⟩,(by have:=r7n (by omega);show IntKind.i64.wrap (r7-1)<900;rw[Wbr _ (by omega) (by omega)];omega)⟩,((dr5).trans m6.dr).trans m7.dr,c7⟩
 | false=>
   simp only[rn,RO.dst,lk,drop,Nat.reduceBEq,Nat.reduceAdd,Nat.reduceLeDiff,↓reduceIte,reduceCtorEq,Qi,Qh,Wav,and_self,Qj,Qm,Nat.reduceLT,Qo,Qk,hzi,hzs,hbl,hlt,e6,q0,q1,q2]
   exact ⟨⟨s.shards[i].epoch,r1,id',r4,tx'⟩,_,rfl,⟨⟨hep,hr1b,hid',hr4,htx'.1⟩,htx'.2⟩,(dr5).trans m6.dr,c6⟩
end
section
variable {F:Nat→Option RF} {Z:Waf} {h:Heap} {k:Nat} {x:Cell} {code:List Int}
theorem drawAt_c (hS:Has F tS01d) (hS11:Has F tS11) (c:Cur h k x code): ∃r h',call F Z 271 [.c (.ptr k 0 0)] h=some (.c (.int .u64 r),h')∧(0≤r∧r≤18446744073709551615)∧Dr k h h'∧Cur h' k x code:=by
 have o:=On.push h [[.int .u64 0],[.int .u64 1],[.int .u64 2],[.int .u64 6],[.int .u64 10],[.int .u64 101],[.int .u64 9223372036854775808],[.int .u64 18446744073709551615],[.int .u64 18446744073709551614],[.int .u64 50]]
 obtain ⟨r1,h1,e1,r0,rnn,_,m1,c1⟩:=Wak (Z:=Z) hS (c.on o) 10
 have hlt:=rnn (by omega)
 obtain ⟨j,rfl⟩: ∃j:Nat,r1=(j:Int):=⟨r1.toNat,by omega⟩
 have hj:j<10:=by omega
 have hg:h1.get h.next=some [[.int .u64 0],[.int .u64 1],[.int .u64 2],[.int .u64 6],[.int .u64 10],[.int .u64 101],[.int .u64 9223372036854775808],[.int .u64 18446744073709551615],[.int .u64 18446744073709551614],[.int .u64 50]]:=by
  rw[m1.get _ (by have:=c.fl.2;simp;omega)];simp[Heap.push]
 have hid:idxR 13 (some (.sl 13 h.next 0 10)) (some (j:Int))=some (.ptr h.next j 0):=by rw[idxR_s,if_pos (by omega)];simp
 obtain ⟨v,hv,hvr⟩: ∃v:Int,WaC h1 h.next j 0 1=some [.int .u64 v]∧(0≤v∧v≤18446744073709551615):=by
  match j,hj with
  | 0,_=>exact ⟨0,by simp[WaC,WbL,hg,cut?],by omega⟩
  | 1,_=>exact ⟨1,by simp[WaC,WbL,hg,cut?],by omega⟩
  | 2,_=>exact ⟨2,by simp[WaC,WbL,hg,cut?],by omega⟩
  | 3,_=>exact ⟨6,by simp[WaC,WbL,hg,cut?],by omega⟩
  | 4,_=>exact ⟨10,by simp[WaC,WbL,hg,cut?],by omega⟩
  | 5,_=>exact ⟨101,by simp[WaC,WbL,hg,cut?],by omega⟩
  | 6,_=>exact ⟨9223372036854775808,by simp[WaC,WbL,hg,cut?],by omega⟩
  | 7,_=>exact ⟨18446744073709551615,by simp[WaC,WbL,hg,cut?],by omega⟩
  | 8,_=>exact ⟨18446744073709551614,by simp[WaC,WbL,hg,cut?],by omega⟩
  | 9,_=>exact ⟨50,by simp[WaC,WbL,hg,cut?],by omega⟩
 rw[Wac F Z (hS11.lk (g:=271) rfl) _ _ rfl]
 simp only[rn,RO.dst,lk,drop,Nat.reduceBEq,Nat.reduceAdd,Nat.reduceLeDiff,↓reduceIte,reduceCtorEq,Qi,Qh,Wav,and_self,Qj,Qm,Nat.reduceLT,Qo,Qk,e1,hid,hv]
 exact ⟨_,_,rfl,hvr,(o.dr k).trans m1.dr,c1⟩
end
section
variable {F:Nat→Option RF} {Z:Waf} {h:Heap} {x:Cell} {xs:List Fin} {fp:List Nat}
theorem foldl_next {α β:Type} {f:β→α→β} {b:β} {xs:List α} {i:Nat} (hi:i<xs.length):(xs.take (i+1)).foldl f b=f ((xs.take i).foldl f b) xs[i]:=by
 rw[QK,Qt hi,List.foldl_append];rfl
theorem addStep_len (f:Fin) (put:Bool): ∀(xs:List Fin) (b:List Fin×Bool),(xs.foldl (Wbh f) b).1.length≤b.1.length+2*xs.length
 | [],b=>by simp
 | x::xs,b=>by
   rw[List.foldl_cons]
   have:=addStep_len f put xs (Wbh f b x)
   have h2:(Wbh f b x).1.length≤b.1.length+2:=by
    unfold Wbh
    cases (!b.2&&decide (flt f x))<;>simp
   simp only[Qq]
   omega
set_option maxHeartbeats 1000000 in
theorem l13AddFin_c (hS13:Has F tS13) (hf:h.floor≤h.next) (w:SlR 9 (Fl Fin.enc) h x xs fp) (hl:xs.length≤1048576) (f:Fin):
 ∃y g fq,call F Z 374 [.c x,.agg f.enc] h=some (.c y,g)∧On h g∧SlR 9 (Fl Fin.enc) g y (WbZ xs f) fq∧Fre h fq:=by
 have hwl:=w.len
 have e1:=fun h' (w':SlR 9 (Fl Fin.enc) h' x xs fp)=>WbA (F:=F) (Z:=Z) hS13 w' f
 have e2:=e1 _ (w.on (Fl.ok _) (On.push h []))
 have e3:=fun b (h:Heap)=>l13Before_run (F:=F) (Z:=Z) hS13 f b h
 rw[Wac F Z (hS13.lk (g:=374) rfl) _ _ rfl]
 simp only[Fin.enc] at e2
 simp only[rn,RO.dst,lk,drop,Nat.reduceBEq,Nat.reduceAdd,Nat.reduceLeDiff,↓reduceIte,reduceCtorEq,Fin.enc,Qh,Wav,e2]
 obtain ⟨s',⟨y,g,hs,a⟩,lp⟩:=WaB (F:=F) (Z:=Z) (live:=[0,3,5,6,7]) (b:=r374L0) xs.length (fun i st=> ∃y g,st=⟨[(0,.c x),(5,.c y),(6,.c (.bool ((xs.take i).foldl (Wbh f) ([],decide (f∈xs))).2)),(7,.c (.int .i64 (i:Nat)))],[(3,3,0)],[(3,f.enc)],g⟩∧Acc 9 h g y (((xs.take i).foldl (Wbh f) ([],decide (f∈xs))).1.map Fin.enc)) (fun i st hi' ⟨y,g,hs,a⟩=>by
  subst hs
  have hlt:(i:Int)<xs.length:=by omega
  have hws:=WaS i (by omega)
  have hxi:=w.idx hi'
  have hld2: ∀G,On h G→ ∀j n,WaC G x.sid i j n=cut? xs[i].enc j n:=fun G o=>(w.on (Fl.ok _) o).load hi'
  have hnx:=foldl_next (f:=Wbh f) (b:=([],decide (f∈xs))) hi'
  have hlen:=addStep_len f true (xs.take i) ([],decide (f∈xs))
  rw[Qu] at hlen
  rw[hnx]
  generalize (xs.take i).foldl (Wbh f) ([],decide (f∈xs))=st at *
  obtain ⟨rows,put⟩:=st
  dsimp only at a ⊢
  replace hlen:rows.length≤2*min i xs.length:=by simpa using hlen
  rw[Wab]
  conv in (Wad _ _ r374L0 _)=>unfold r374L0
  have e4:=fun h=>e3 xs[i] h
  generalize xs[i]=b at *
  have hst:Wbh f (rows,put) b=bif !put&&decide (flt f b) then (rows++[f]++[b],true) else (rows++[b],put):=rfl
  rw[hst]
  rw[cmp_flt] at e4
  obtain ⟨t,d⟩:=b
  obtain ⟨t',d'⟩:=f
  simp only[Fin.enc] at e4
  have a1:=a.one_eq hf (bytes:=16) (by rw[Qp];omega) (Fin.enc ⟨t,d⟩)
  have a2:=a.one hf (by rw[Qp];omega) (Fin.enc ⟨t,d⟩)
  have b1:=a.one_eq hf (bytes:=16) (by rw[Qp];omega) (Fin.enc ⟨t',d'⟩)
  have b2:=a.one hf (by rw[Qp];omega) (Fin.enc ⟨t',d'⟩)
  have hld3:=hld2 _ b2.on
  have hld:=hld2 _ a.on
  have b3:=b2.one_eq hf (bytes:=16) (by rw[Qr,Qp];simp;omega) (Fin.enc ⟨t,d⟩)
  have b4:=b2.one hf (by rw[Qr,Qp];simp;omega) (Fin.enc ⟨t,d⟩)
  simp only[Fin.enc] at a1 a2 b1 b2 b3 b4 hld hld3
  cases put with
  | true=>
    simp only[rn,RO.dst,lk,drop,Nat.reduceBEq,Nat.reduceAdd,Nat.reduceLeDiff,↓reduceIte,reduceCtorEq,hwl,hlt,hxi,hld,Fin.enc,Qi,Qh,Wav,and_self,Qk,Qj,a1,hws]
    exact ⟨_,⟨_,_,rfl,by simpa[Fin.enc] using a2⟩,rfl⟩
  | false=>
    by_cases hb:flt ⟨t',d'⟩ ⟨t,d⟩
    ·simp only[decide_eq_true hb] at e4
     simp only[hb]
     simp only[rn,RO.dst,lk,drop,Nat.reduceBEq,Nat.reduceAdd,Nat.reduceLeDiff,↓reduceIte,reduceCtorEq,hwl,hlt,hxi,hld,Fin.enc,e4,Qi,Qh,Wav,and_self,Qk,Qj,b1,hld3,b3,hws]
     exact ⟨_,⟨_,_,rfl,by simpa[Fin.enc] using b4⟩,rfl⟩
    ·simp only[decide_eq_false hb] at e4
     simp only[hb]
     simp only[rn,RO.dst,lk,drop,Nat.reduceBEq,Nat.reduceAdd,Nat.reduceLeDiff,↓reduceIte,reduceCtorEq,hwl,hlt,hxi,hld,Fin.enc,e4,Qi,Qh,Wav,and_self,Qk,Qj,a1,hws]
     exact ⟨_,⟨_,_,rfl,by simpa[Fin.enc] using a2⟩,rfl⟩) (s:=⟨[(0,.c x),(5,.c (.sl 9 h.next 0 0)),(6,.c (.bool (decide (f∈xs)))),(7,.c (.int .i64 (0:Nat)))],[(3,3,0)],[(3,f.enc)],h.push []⟩) ⟨_,_,rfl,Acc.lit0 (On.refl h)⟩
 subst hs
 rw[QI] at a
 have hlt: ¬(xs.length:Int)<xs.length:=by omega
 have hlen:=addStep_len f true xs ([],decide (f∈xs))
 simp only[show ((0:Nat):Int)=0 from rfl,Fin.enc,QI] at lp
 rw[lp,Wab]
 conv in (Wad _ _ r374L0 _)=>unfold r374L0
 simp only[Qs,QG] at hlen
 cases hp:(xs.foldl (Wbh f) ([],decide (f∈xs))).2 with
 | true=>
   have hr:WbZ xs f=(xs.foldl (Wbh f) ([],decide (f∈xs))).1:=by simp[WbZ,hp]
   rw[hr]
   obtain ⟨o1,fy,wy,fyr⟩:=a.flat (enc:=Fin.enc)
   simp only[rn,RO.dst,lk,drop,Nat.reduceBEq,Nat.reduceAdd,Nat.reduceLeDiff,↓reduceIte,reduceCtorEq,hwl,hlt]
   exact ⟨_,_,_,rfl,o1,wy,fyr⟩
 | false=>
   have hr:WbZ xs f=(xs.foldl (Wbh f) ([],decide (f∈xs))).1++[f]:=by simp[WbZ,hp]
   rw[hr]
   have b1:=a.one_eq hf (bytes:=16) (by rw[Qp];omega) f.enc
   have b2:=a.one hf (by rw[Qp];omega) f.enc
   rw[show (xs.foldl (Wbh f) ([],decide (f∈xs))).1.map Fin.enc++[f.enc]=((xs.foldl (Wbh f) ([],decide (f∈xs))).1++[f]).map Fin.enc from by simp] at b2
   obtain ⟨o1,fy,wy,fyr⟩:=b2.flat (enc:=Fin.enc)
   simp only[Fin.enc] at b1 o1 wy
   simp only[rn,RO.dst,lk,drop,Nat.reduceBEq,Nat.reduceAdd,Nat.reduceLeDiff,↓reduceIte,reduceCtorEq,hwl,hlt,Qi,Qh,Wav,and_self,Qk,Qj,b1]
   exact ⟨_,_,_,rfl,o1,wy,fyr⟩
theorem l13AddFin_q (hS13:Has F tS13) (w:SlR 9 (Fl Fin.enc) h x xs fp) (hl:xs.length≤1048576) (f:Fin):
 ∃y h' g fq,call F Z 374 [.c x,.agg f.enc] ⟨h.next,h.next,h.get⟩=some (.c y,h')∧Heap.mk h'.next h.floor h'.get=g∧On h g∧SlR 9 (Fl Fin.enc) g y (WbZ xs f) fq∧Fre h fq:=by
 obtain ⟨y,h',fq,e1,o,u,f⟩:=l13AddFin_c (Z:=Z) (h:=⟨h.next,h.next,h.get⟩) hS13 (QD _) (w.up (Fl.ok _) h.next) hl f
 exact ⟨y,h',_,fq,e1,rfl,⟨⟨o.ext.1,o.ext.2⟩,rfl⟩,u.up (Fl.ok _) h.floor,⟨f.lo,f.nd⟩⟩
end
section
variable {F:Nat→Option RF} {Z:Waf} {h:Heap} {cs:List Cell} {fp:List Nat} {s:Store}
theorem Store.side_wrap {s:Store} {a:Int} {j:Nat} (g:s.good=true) (ok:s.Ok) (hj:j+1<s.shards.length) (hl:(Shard.at_ s.shards (j+1)).lo=a) (ha:0≤a∧a≤18446744073709551615):1≤a∧IntKind.u64.wrap (a-1)=a-1:=by
 have h1:=(Store.side g hj).2.2
 have h2:=(ok.shards _ (Qd (show j<s.shards.length by omega)))
 rw[←Shard.at_get (show j<s.shards.length by omega)] at h2
 have h3:=h2.hi
 have:1≤a:=by omega
 exact ⟨this,wrapU _ (by omega) (by omega)⟩
set_option maxHeartbeats 4000000 in
theorem sJoinShard_c (k:KS F) (hf:h.floor≤h.next) (v:Store.RI h cs s fp) (a e:Int) (ha:0≤a∧a≤18446744073709551615) (ok:s.Ok) (sm:s.Small):
 ∃cs' h' fq,call F Z 364 [.agg cs,.c (.int .u64 a),.c (.int .i64 e)] h=some (.tup [.agg cs',.c (.bool (WaD s a e).2)],h')∧On h h'∧Store.RI h' cs' (WaD s a e).1 fq∧Fre h fq:=by
 obtain ⟨l1,l2,l3⟩:=Store.lenI v
 obtain ⟨cs1,h1,fr,e1,o1,v1,f1⟩:=WaZ (Z:=Z) k hf v sm
 obtain ⟨m1,m2,m3⟩:=Store.lenI v1
 have e2:=l13Next_run (Z:=Z) k v ok e
 have e3:=l13At_run (Z:=Z) k.s13 v a 0
 rw[Wac F Z (k.s13.lk (g:=364) rfl) _ _ rfl]
 cases hn:s.next e with
 | false=>
   rw[hn] at e2
   rw[join_no hn]
   simp only[rn,RO.dst,lk,drop,Nat.reduceBEq,Nat.reduceAdd,Nat.reduceLeDiff,↓reduceIte,reduceCtorEq,l1,l2,l3,m1,m2,m3,e1,e2,e3]
   exact ⟨_,_,_,rfl,o1,v1,f1⟩
 | true=>
   rw[hn] at e2
   obtain ⟨x,p,rfl,hp,w⟩:=v
   subst hp
   rcases w.found (fun t=>(t.lo==a)&&(t.state==0)) with q | ⟨j,q,hj,hpj,hx,_,_,hld⟩
   ·change Waj s.shards a 0= -1 at q
    rw[join_away (by omega)]
    rw[q] at e3
    simp only[rn,RO.dst,lk,drop,Nat.reduceBEq,Nat.reduceAdd,Nat.reduceLeDiff,↓reduceIte,reduceCtorEq,l1,l2,l3,m1,m2,m3,e1,e2,e3,Int.reduceLT,Int.reduceNeg]
    exact ⟨_,_,_,rfl,o1,v1,f1⟩
   change Waj s.shards a 0=(j:Int) at q
   rw[q] at e3
   cases j with
   | zero=>
     rw[join_away (by omega)]
     have g0:((0:Nat):Int)<1:=by omega
     simp only[rn,RO.dst,lk,drop,Nat.reduceBEq,Nat.reduceAdd,Nat.reduceLeDiff,↓reduceIte,reduceCtorEq,l1,l2,l3,m1,m2,m3,e1,e2,e3,g0]
     exact ⟨_,_,_,rfl,o1,v1,f1⟩
   | succ j=>
   rw[join_if hn q]
   have g0: ¬((j+1:Nat):Int)<1:=by omega
   have hwl:=w.len
   have hwe:=w.le2
   have hgood:s.good=true:=by
    simp only[Store.next,Qg] at hn
    exact hn.1
   have hs:=Store.side hgood hj
   have hpj':=hpj
   simp only[Qg,beq_iff_eq] at hpj'
   obtain ⟨ha1,hw⟩:=Store.side_wrap hgood ok hj hpj'.1 ha
   have hw1:IntKind.i64.wrap (((j+1:Nat):Int)-1)=(j:Int):=by
    rw[Wbr _ (by omega) (by omega)];omega
   have hxj:=w.idx (show j<s.shards.length by omega)
   obtain ⟨r0,f0,hld0,hR0,_⟩:=w.atR (show j<s.shards.length by omega)
   obtain ⟨r2,f2,hld2,hR2,_⟩:=w.atR hj
   have hR0':=hR0
   have hR2':=hR2
   obtain ⟨xb,pb,xf,pf,rfl,hfe,wb,wf⟩:=hR0
   obtain ⟨yb,qb,yf,qf,rfl,hge,ub,uf⟩:=hR2
   by_cases c1:(Shard.at_ s.shards j).state=0
   case neg=>
    have c1':((Shard.at_ s.shards j).state==0)=false:=by simpa using c1
    have c1n:((Shard.at_ s.shards j).state !=0)=true:=by simpa using c1
    rw[c1']
    simp only[Qa,cond_false]
    simp only[rn,RO.dst,lk,drop,Nat.reduceBEq,Nat.reduceAdd,Nat.reduceLeDiff,↓reduceIte,reduceCtorEq,l1,l2,l3,m1,m2,m3,e1,e2,e3,g0,hw1,hxj,hld0,c1n]
    exact ⟨_,_,_,rfl,o1,v1,f1⟩
   have c1':((Shard.at_ s.shards j).state==0)=true:=by simpa using c1
   have c1n:((Shard.at_ s.shards j).state !=0)=false:=by simpa using c1
   by_cases c2:(Shard.at_ s.shards j).hi=a-1
   case neg=>
    have c2':((Shard.at_ s.shards j).hi==a-1)=false:=by simpa using c2
    have c2n:((Shard.at_ s.shards j).hi !=a-1)=true:=by simpa using c2
    rw[c2',c1']
    simp only[Qb,cond_false]
    simp only[rn,RO.dst,lk,drop,Nat.reduceBEq,Nat.reduceAdd,Nat.reduceLeDiff,↓reduceIte,reduceCtorEq,l1,l2,l3,m1,m2,m3,e1,e2,e3,g0,hw1,hxj,hld0,c1n,hw,c2n]
    exact ⟨_,_,_,rfl,o1,v1,f1⟩
   have c2':((Shard.at_ s.shards j).hi==a-1)=true:=by simpa using c2
   have c2n:((Shard.at_ s.shards j).hi !=a-1)=false:=by simpa using c2
   rw[c1',c2']
   simp only[Qf,cond_true]
   have smp:=Store.at_small sm (show j<s.shards.length by omega)
   have smq:=Store.at_small sm hj
   have hbl:=wb.len;have hfl:=wf.len;have gbl:=ub.len;have gfl:=uf.len
   have hx1:=w.idx hj
   simp only[rn,RO.dst,lk,drop,Nat.reduceBEq,Nat.reduceAdd,Nat.reduceLeDiff,↓reduceIte,reduceCtorEq,l1,l2,l3,e2,e3,g0,hw1,hxj,hld0,c1n,hw,c2n,hx1,hld2,hbl,hfl,gbl,gfl]
   have sp1:(Shard.at_ s.shards j).book.list.length≤1048576:=smp.1
   have sp2:(Shard.at_ s.shards j).finished.length≤1048576:=smp.2
   have sq1:(Shard.at_ s.shards (j+1)).book.list.length≤1048576:=smq.1
   have sq2:(Shard.at_ s.shards (j+1)).finished.length≤1048576:=smq.2
   have w1:IntKind.i64.wrap (((Shard.at_ s.shards j).book.list.length:Int)+((Shard.at_ s.shards (j+1)).book.list.length:Int))=((Shard.at_ s.shards j).book.list.length:Int)+((Shard.at_ s.shards (j+1)).book.list.length:Int):=Wbr _ (by omega) (by omega)
   have w2:IntKind.i64.wrap (((Shard.at_ s.shards j).finished.length:Int)+((Shard.at_ s.shards (j+1)).finished.length:Int))=((Shard.at_ s.shards j).finished.length:Int)+((Shard.at_ s.shards (j+1)).finished.length:Int):=Wbr _ (by omega) (by omega)
   by_cases c3:((Shard.at_ s.shards j).book.list.length:Int)+((Shard.at_ s.shards (j+1)).book.list.length:Int)>40
   ·have hj0:Shard.joins (Shard.at_ s.shards j) (Shard.at_ s.shards (j+1))=false:=by
     simp only[Shard.joins,Qr,QQ,decide_eq_false_iff_not];left;omega
    rw[hj0]
    simp only[cond_false]
    simp only[rn,RO.dst,lk,drop,Nat.reduceBEq,Nat.reduceAdd,Nat.reduceLeDiff,↓reduceIte,reduceCtorEq,w1,c3,l1,l2,l3,e1,m1,m2,m3]
    exact ⟨_,_,_,rfl,o1,v1,f1⟩
   by_cases c4:((Shard.at_ s.shards j).finished.length:Int)+((Shard.at_ s.shards (j+1)).finished.length:Int)>60
   ·have hj0:Shard.joins (Shard.at_ s.shards j) (Shard.at_ s.shards (j+1))=false:=by
     simp only[Shard.joins,Qr,QQ,decide_eq_false_iff_not];right;omega
    rw[hj0]
    simp only[cond_false]
    simp only[rn,RO.dst,lk,drop,Nat.reduceBEq,Nat.reduceAdd,Nat.reduceLeDiff,↓reduceIte,reduceCtorEq,w1,w2,c3,c4,hfl,gfl,l1,l2,l3,e1,m1,m2,m3]
    exact ⟨_,_,_,rfl,o1,v1,f1⟩
   have hj1:Shard.joins (Shard.at_ s.shards j) (Shard.at_ s.shards (j+1))=true:=by
    simp only[Shard.joins,Qr,Qg,decide_eq_true_eq];omega
   rw[hj1]
   simp only[cond_true]
   obtain ⟨cs4,h4,ft,e4,o4,u4,f4⟩:=WaF (Z:=Z) k.s10 k.s13 hf hR0' smp
   obtain ⟨b4,pb4,f4c,pf4,rfl,hq4,wb4,wf4⟩:=u4
   subst hq4
   clear e1 o1 v1 f1 m1 m2 m3 e2 e3
   simp only[rn,RO.dst,lk,drop,Nat.reduceBEq,Nat.reduceAdd,Nat.reduceLeDiff,↓reduceIte,reduceCtorEq,w1,w2,c3,c4,hfl,gfl,e4]
   obtain ⟨n4a,n4b,n4c⟩:=Ql.1 f4.nd
   obtain ⟨s',⟨y,g,fy,hs',ay,wz,dz⟩,lp⟩:=WaB (F:=F) (Z:=Z) (live:=[2,3,6,8,10,11,12]) (b:=r364L2) (Shard.at_ s.shards (j+1)).book.list.length (fun i st=> ∃y g fy,st=⟨[(2,.c (.int .i64 e)),(8,.c (.int .i64 ((j+1:Nat):Int))),(12,.c (.int .i64 (i:Nat)))],[(3,3,0),(6,6,0),(10,10,0),(11,11,0)],
    [(3,[.int .i64 s.group,.int .i64 s.seen,x]),(6,[.int .i64 0,.int .i64 0,.nil]),(10,[.int .u64 (Shard.at_ s.shards (j+1)).lo,.int .u64 (Shard.at_ s.shards (j+1)).hi,.int .i64 (Shard.at_ s.shards (j+1)).state,.int .i64 (Shard.at_ s.shards (j+1)).epoch,yb,yf]),(11,[.int .u64 (Shard.at_ s.shards j).lo,.int .u64 (Shard.at_ s.shards (j+1)).hi,.int .i64 (Shard.at_ s.shards j).state,.int .i64 e,y,f4c])],g⟩∧
    AccM (Fl Account.enc) 11 h g y ((Shard.at_ s.shards j).book.list++(Shard.at_ s.shards (j+1)).book.list.take i) fy∧SlR 9 (Fl Fin.enc) g f4c (Shard.at_ s.shards j).finished pf4∧ ∀id,id∈pf4→id∉fy) (fun i st hi ⟨y,g,fy,hs',ay,wz,dz⟩=>by
    subst hs'
    have hlt:(i:Int)<(Shard.at_ s.shards (j+1)).book.list.length:=by omega
    have hws:=WaS i (by omega)
    have hxi:=ub.idx hi
    have hld:=(ub.on (Fl.ok _) ay.on).load hi
    have hln:((Shard.at_ s.shards j).book.list++(Shard.at_ s.shards (j+1)).book.list.take i).length≤2097152:=by
     rw[Qr,Qu];omega
    have htk:(Shard.at_ s.shards (j+1)).book.list.take (i+1)=(Shard.at_ s.shards (j+1)).book.list.take i++[(Shard.at_ s.shards (j+1)).book.list[i]]:=by
     rw[QK,Qt hi];rfl
    rw[htk,←Je]
    generalize (Shard.at_ s.shards (j+1)).book.list[i]=b at *
    obtain ⟨y',g',f',e5,a5,n1,n2,n3⟩:=ay.one (Fl.ok _) hf (bytes:=40) (by omega) (by omega) (On.refl g) (cs:=b.enc) (t:=b) (fq:=[]) ⟨rfl,rfl⟩ (Fre.nil _) (fun _ h=>nomatch h)
    have wlt:=wz.lt (Fl.ok _)
    simp only[Account.enc] at hld e5
    rw[Wab]
    conv in (Wad _ _ r364L2 _)=>unfold r364L2
    simp only[rn,RO.dst,lk,drop,Nat.reduceBEq,Nat.reduceAdd,Nat.reduceLeDiff,↓reduceIte,reduceCtorEq,gbl,hlt,hxi,hld,Qi,Qh,Wav,and_self,Qk,Qj,e5,hws]
    exact ⟨_,⟨_,_,_,rfl,a5,wz.mv (Fl.ok _) n1 fun id hid=>n3 id (wlt id hid) (dz id hid),fun id h1 h2=>by
     rcases n2 id h2 with h3 | h3 | h3
     ·exact dz id h1 h3
     ·cases h3
     ·have:=wlt id h1;omega⟩,rfl⟩) (s:=⟨[(2,.c (.int .i64 e)),(8,.c (.int .i64 ((j+1:Nat):Int))),(12,.c (.int .i64 (0:Nat)))],[(3,3,0),(6,6,0),(10,10,0),(11,11,0)],
     [(3,[.int .i64 s.group,.int .i64 s.seen,x]),(6,[.int .i64 0,.int .i64 0,.nil]),(10,[.int .u64 (Shard.at_ s.shards (j+1)).lo,.int .u64 (Shard.at_ s.shards (j+1)).hi,.int .i64 (Shard.at_ s.shards (j+1)).state,.int .i64 (Shard.at_ s.shards (j+1)).epoch,yb,yf]),(11,[.int .u64 (Shard.at_ s.shards j).lo,.int .u64 (Shard.at_ s.shards (j+1)).hi,.int .i64 (Shard.at_ s.shards j).state,.int .i64 e,b4,f4c])],h4⟩)
     ⟨_,_,_,rfl,⟨o4,by simpa using wb4,⟨fun id hid=>f4.lo id (Ja _ hid),n4a⟩⟩,wf4,fun id h1 h2=>n4c id h2 id h1 rfl⟩
   subst hs'
   simp only[show ((0:Nat):Int)=0 from rfl] at lp
   have hlt: ¬((Shard.at_ s.shards (j+1)).book.list.length:Int)<(Shard.at_ s.shards (j+1)).book.list.length:=by omega
   rw[lp,Wab]
   conv in (Wad _ _ r364L2 _)=>unfold r364L2
   simp only[rn,RO.dst,lk,drop,Nat.reduceBEq,Nat.reduceAdd,Nat.reduceLeDiff,↓reduceIte,reduceCtorEq,gbl,hlt]
   clear lp
   rw[QI] at ay
   have hng:=ay.on.ext.1
   have hfg:=ay.on.le hf
   have uf2:=uf.on (Fl.ok _) ay.on
   have nodA:=Shard.apart_fins hs.1 hs.2.1 hs.2.2
   have hfold: ∀i,i≤(Shard.at_ s.shards (j+1)).finished.length→((Shard.at_ s.shards (j+1)).finished.take i).foldl WbZ (Shard.at_ s.shards j).finished=WaP ((Shard.at_ s.shards j).finished++(Shard.at_ s.shards (j+1)).finished.take i):=fun i _=>by
    refine addFins (Shard.good_sorted hs.1) ?_
    exact nodA.sublist ((List.take_sublist _ _).append_left _)
   obtain ⟨s',⟨z,g2,fz,hs',og,wz2,fz2,dz2⟩,lp⟩:=WaB (F:=F) (Z:=Z) (live:=[2,3,6,8,10,11,13]) (b:=r364L1) (Shard.at_ s.shards (j+1)).finished.length (fun i st=> ∃z g2 fz,st=⟨[(2,.c (.int .i64 e)),(8,.c (.int .i64 ((j+1:Nat):Int))),(13,.c (.int .i64 (i:Nat)))],[(3,3,0),(6,6,0),(10,10,0),(11,11,0)],[(3,[.int .i64 s.group,.int .i64 s.seen,x]),(6,[.int .i64 0,.int .i64 0,.nil]),(10,[.int .u64 (Shard.at_ s.shards (j+1)).lo,.int .u64 (Shard.at_ s.shards (j+1)).hi,.int .i64 (Shard.at_ s.shards (j+1)).state,.int .i64 (Shard.at_ s.shards (j+1)).epoch,yb,yf]),(11,[.int .u64 (Shard.at_ s.shards j).lo,.int .u64 (Shard.at_ s.shards (j+1)).hi,.int .i64 (Shard.at_ s.shards j).state,.int .i64 e,y,z])],g2⟩∧
    On g g2∧SlR 9 (Fl Fin.enc) g2 z (((Shard.at_ s.shards (j+1)).finished.take i).foldl WbZ (Shard.at_ s.shards j).finished) fz∧Fre h fz∧ ∀id,id∈fz→id∉fy) (fun i st hi ⟨z,g2,fz,hs',og,wz2,fz2,dz2⟩=>by
    subst hs'
    have hlt:(i:Int)<(Shard.at_ s.shards (j+1)).finished.length:=by omega
    have hws:=WaS i (by omega)
    have hxi:=uf.idx hi
    have hld:=(uf2.on (Fl.ok _) og).load hi
    have hnx:=foldl_next (f:=WbZ) (b:=(Shard.at_ s.shards j).finished) hi
    have hlen:(((Shard.at_ s.shards (j+1)).finished.take i).foldl WbZ (Shard.at_ s.shards j).finished).length≤1048576:=by
     rw[hfold i (by omega),sortFins_len,Qr,Qu];omega
    obtain ⟨z',h',g',fq',e5,hg5,o5,w5,f5⟩:=l13AddFin_q (Z:=Z) k.s13 wz2 hlen (Shard.at_ s.shards (j+1)).finished[i]
    rw[←hnx] at w5
    generalize (Shard.at_ s.shards (j+1)).finished[i]=b at *
    have hylt:=ay.sh.lt (Fl.ok _)
    have hn2:=og.ext.1
    simp only[Fin.enc] at hld e5
    rw[Wab]
    conv in (Wad _ _ r364L1 _)=>unfold r364L1
    simp only[rn,RO.dst,lk,drop,Nat.reduceBEq,Nat.reduceAdd,Nat.reduceLeDiff,↓reduceIte,reduceCtorEq,gfl,hlt,hxi,hld,e5,hg5,hws]
    exact ⟨_,⟨_,_,_,rfl,og.trans o5,w5,⟨fun id hid=>by have:=f5.lo id hid;have:=ay.on.ext.1;omega,f5.nd⟩,fun id h1 h2=>by
     have:=f5.lo id h1;have:=hylt id h2;omega⟩,rfl⟩) (s:=⟨[(2,.c (.int .i64 e)),(8,.c (.int .i64 ((j+1:Nat):Int))),(13,.c (.int .i64 (0:Nat)))],[(3,3,0),(6,6,0),(10,10,0),(11,11,0)],[(3,[.int .i64 s.group,.int .i64 s.seen,x]),(6,[.int .i64 0,.int .i64 0,.nil]),(10,[.int .u64 (Shard.at_ s.shards (j+1)).lo,.int .u64 (Shard.at_ s.shards (j+1)).hi,.int .i64 (Shard.at_ s.shards (j+1)).state,.int .i64 (Shard.at_ s.shards (j+1)).epoch,yb,yf]),(11,[.int .u64 (Shard.at_ s.shards j).lo,.int .u64 (Shard.at_ s.shards (j+1)).hi,.int .i64 (Shard.at_ s.shards j).state,.int .i64 e,y,f4c])],g⟩) ⟨_,_,_,rfl,On.refl g,by simpa using wz,⟨fun id hid=>f4.lo id (Qw _ hid),n4b⟩,dz⟩
   subst hs'
   simp only[show ((0:Nat):Int)=0 from rfl] at lp
   have hlt: ¬((Shard.at_ s.shards (j+1)).finished.length:Int)<(Shard.at_ s.shards (j+1)).finished.length:=by omega
   rw[lp,Wab]
   conv in (Wad _ _ r364L1 _)=>unfold r364L1
   simp only[rn,RO.dst,lk,drop,Nat.reduceBEq,Nat.reduceAdd,Nat.reduceLeDiff,↓reduceIte,reduceCtorEq,gfl,hlt]
   clear lp
   rw[hfold _ (QD _),QI] at wz2
   have hY:Shard.RI g2 [.int .u64 (Shard.at_ s.shards j).lo,.int .u64 (Shard.at_ s.shards (j+1)).hi,.int .i64 (Shard.at_ s.shards j).state,.int .i64 e,y,z] {Shard.join (Shard.at_ s.shards j) (Shard.at_ s.shards (j+1)) with epoch:=e} (fy++fz):=
    ⟨y,fy,z,fz,rfl,rfl,ay.sh.on (Fl.ok _) og,wz2⟩
   have hYf:Fre h (fy++fz):=⟨fun id hid=>by
    rcases Qn.1 hid with h1 | h1
    ·exact ay.fr.lo id h1
    ·exact fz2.lo id h1,Ql.2 ⟨ay.fr.nd,fz2.nd,fun a1 h1 b1 h2 e=>by subst e;exact dz2 a1 h2 h1⟩⟩
   have og2:=ay.on.trans og
   have hYlt:=Shard.okI.lt hY
   have w2':=w.on Shard.okI og2
   generalize hYd:({Shard.join (Shard.at_ s.shards j) (Shard.at_ s.shards (j+1)) with epoch:=e}:Shard)=Y at hY
   clear wz2 wz wf4 wb4 uf2 ub uf wb wf ay hld0 hld2 hR0' hR2' hld
   have h8:s.shards.length≤8:=Store.next_len hn
   have hslen: ∀i,(((s.shards.set j Y).take i).eraseIdx (j+1)).length≤8:=fun i=>by
    refine QN (List.length_eraseIdx_le _ _) ?_
    rw[Qu,QF];omega
   obtain ⟨s',⟨y3,g3,f3,hs',a3,ap3⟩,lp⟩:=WaB (F:=F) (Z:=Z) (live:=[2,3,6,8,11,14,15]) (b:=r364L0) s.shards.length (fun i st=> ∃y3 g3 f3,st=⟨[(2,.c (.int .i64 e)),(8,.c (.int .i64 ((j+1:Nat):Int))),(15,.c (.int .i64 (i:Nat)))],[(3,3,0),(6,6,0),(11,11,0),(14,14,0)],[(3,[.int .i64 s.group,.int .i64 s.seen,x]),(6,[.int .i64 0,.int .i64 0,.nil]),(11,[.int .u64 (Shard.at_ s.shards j).lo,.int .u64 (Shard.at_ s.shards (j+1)).hi,.int .i64 (Shard.at_ s.shards j).state,.int .i64 e,y,z]),(14,[.int .i64 s.group,.int .i64 e,y3])],g3⟩∧
    AccM Shard.RI 16 h g3 y3 (((s.shards.set j Y).take i).eraseIdx (j+1)) f3∧(i≤j→AccM Shard.RI 16 g2 g3 y3 (((s.shards.set j Y).take i).eraseIdx (j+1)) f3)) (fun i st hi ⟨y3,g3,f3,hs',a3,ap3⟩=>by
    subst hs'
    have hl3:(i:Int)<s.shards.length:=by omega
    have hws:=WaS i (by omega)
    have hxi:=w.idx hi
    have hsl:=hslen i
    have hi':i<(s.shards.set j Y).length:=by rw[QF];exact hi
    rw[Wab]
    conv in (Wad _ _ r364L0 _)=>unfold r364L0
    by_cases hij:i=j
    ·subst hij
     have ap:=ap3 (QD _)
     obtain ⟨y',g',fp',e5,a5,_⟩:=a3.one (g:=g3) Shard.okI hf (bytes:=80) (by omega) (by omega) (On.refl g3) (Shard.okI.on hY ap.on) ⟨hYf.lo,hYf.nd⟩ (ap.old (On.refl g2) hYlt)
     have hnx:=erase_next (xs:=s.shards.set i Y) (i:=i) (k:=i+1) hi' (by omega)
     rw[List.getElem_set_self] at hnx
     rw[←hnx] at a5
     have hself:((i:Int)==(i:Int))=true:=by simp
     simp only[rn,RO.dst,lk,drop,Nat.reduceBEq,Nat.reduceAdd,Nat.reduceLeDiff,↓reduceIte,reduceCtorEq,hwl,hl3,hw1,hself,Qi,Qh,Wav,and_self,Qk,Qj,e5,hws]
     exact ⟨_,⟨_,_,_,rfl,a5,fun hc=>by omega⟩,rfl⟩
    have hne:((i:Int)==(j:Int))=false:=by
     have: ¬(i:Int)=(j:Int):=by omega
     simpa using this
    by_cases hij2:i=j+1
    ·subst hij2
     have hsk:=erase_skip hi'
     rw[←hsk] at a3
     have hself:(((j+1:Nat):Int) !=((j+1:Nat):Int))=false:=by simp
     simp only[rn,RO.dst,lk,drop,Nat.reduceBEq,Nat.reduceAdd,Nat.reduceLeDiff,↓reduceIte,reduceCtorEq,hwl,hl3,hw1,hne,hself,hws]
     exact ⟨_,⟨_,_,_,rfl,a3,fun hc=>by omega⟩,rfl⟩
    ·have hne2:((i:Int) !=((j+1:Nat):Int))=true:=by
      have: ¬(i:Int)=((j+1:Nat):Int):=by omega
      simpa using this
     have hnx:=erase_next (xs:=s.shards.set j Y) (i:=i) (k:=j+1) hi' hij2
     rw[List.getElem_set_ne (fun e=>hij e.symm)] at hnx
     obtain ⟨r,f,hld,hR,_⟩:=(w.on Shard.okI a3.on).one hi
     obtain ⟨r1,r2,r3⟩:=Shard.lenI hR
     obtain ⟨cs',h',g1,fr,e1,hg1,o1,u1,f1,c1⟩:=Wbv (Z:=Z) k.s10 k.s13 hR (sm.2 _ (Qd hi))
     by_cases hle:i≤j
     ·obtain ⟨y',g',fp',e2,a2⟩:=(ap3 hle).next (og2.le hf) (by omega) o1 u1 f1
      rw[←hnx] at a2
      simp only[rn,RO.dst,lk,drop,Nat.reduceBEq,Nat.reduceAdd,Nat.reduceLeDiff,↓reduceIte,reduceCtorEq,hwl,hl3,hxi,hw1,hne,hne2,hld,r1,r2,r3,e1,hg1,Qi,Qh,Wav,and_self,Qk,c1,Qj,e2,hws]
      exact ⟨_,⟨_,_,_,rfl,a2.base og2,fun _=>a2⟩,rfl⟩
     ·obtain ⟨y',g',fp',e2,a2⟩:=a3.next hf (by omega) o1 u1 f1
      rw[←hnx] at a2
      simp only[rn,RO.dst,lk,drop,Nat.reduceBEq,Nat.reduceAdd,Nat.reduceLeDiff,↓reduceIte,reduceCtorEq,hwl,hl3,hxi,hw1,hne,hne2,hld,r1,r2,r3,e1,hg1,Qi,Qh,Wav,and_self,Qk,c1,Qj,e2,hws]
      exact ⟨_,⟨_,_,_,rfl,a2,fun hc=>by omega⟩,rfl⟩) (s:=⟨[(2,.c (.int .i64 e)),(8,.c (.int .i64 ((j+1:Nat):Int))),(15,.c (.int .i64 (0:Nat)))],[(3,3,0),(6,6,0),(11,11,0),(14,14,0)],[(3,[.int .i64 s.group,.int .i64 s.seen,x]),(6,[.int .i64 0,.int .i64 0,.nil]),(11,[.int .u64 (Shard.at_ s.shards j).lo,.int .u64 (Shard.at_ s.shards (j+1)).hi,.int .i64 (Shard.at_ s.shards j).state,.int .i64 e,y,z]),(14,[.int .i64 s.group,.int .i64 e,.nil])],g2⟩) ⟨_,_,_,rfl,by simpa using AccM.none Shard.RI 16 og2,fun _=>by simpa using AccM.nil Shard.RI 16 g2⟩
   subst hs'
   simp only[show ((0:Nat):Int)=0 from rfl] at lp
   have hlt: ¬(s.shards.length:Int)<s.shards.length:=by omega
   have htl:(s.shards.set j Y).take s.shards.length=s.shards.set j Y:=by
    rw[List.take_of_length_le (by rw[QF];exact QD _)]
   rw[htl] at a3
   have smY:Y.Small:=by rw[←hYd];exact Shard.join_small hj1
   obtain ⟨cs5,h5,f5,e5,o5,v5,r5⟩:=l13Renew_c (Z:=Z) k (s:=⟨s.group,e,(s.joinWith j Y).shards⟩) (a3.on.le hf) ⟨y3,_,rfl,rfl,a3.sh⟩ (Store.joinWith_small sm j smY) e
   have hre:(⟨s.group,e,(s.joinWith j Y).shards⟩:Store).renew e=(s.joinWith j (Shard.join (Shard.at_ s.shards j) (Shard.at_ s.shards (j+1)))).renew e:=by
    refine Eq.trans (rfl:_=(s.joinWith j Y).renew e) (Store.join_renew ?_)
    rw[←hYd]
    simp only[Shard.renew,Shard.join,c1',cond_true]
   rw[hre] at v5
   obtain ⟨n1,n2,n3⟩:=Store.lenI v5
   rw[lp,Wab]
   conv in (Wad _ _ r364L0 _)=>unfold r364L0
   simp only[rn,RO.dst,lk,drop,Nat.reduceBEq,Nat.reduceAdd,Nat.reduceLeDiff,↓reduceIte,reduceCtorEq,hwl,hlt,e5,n1,n2,n3]
   exact ⟨_,_,_,rfl,a3.on.trans o5,v5,⟨fun id hid=>QN a3.on.ext.1 (r5.lo id hid),r5.nd⟩⟩
end
section
variable {F:Nat→Option RF} {Z:Waf} {h:Heap} {x:Cell} {xs:List Account} {fp:List Nat}
set_option maxHeartbeats 1000000 in
theorem sLockDebit_c (hS10:Has F tS10) (hf:h.floor≤h.next) (w:SlR 11 (Fl Account.enc) h x xs fp) (id m tx:Int) (hm:0≤m∧m≤18446744073709551615) (hok: ∀t,t∈xs→t.Ok) (sm:xs.length≤1048576):
 ∃y h' fq,call F Z 388 [.agg [x],.c (.int .u64 id),.c (.int .u64 m),.c (.int .i64 tx)] h=some (.tup [.agg [y],.c (.int .i64 (WaJ xs id tx (lockDF m tx)).2)],h')∧On h h'∧SlR 11 (Fl Account.enc) h' y (WaJ xs id tx (lockDF m tx)).1 fq∧Fre h fq:=by
 have e1:=l10Of_run (Z:=Z) hS10 w id tx hok
 obtain ⟨y,h2,fq,e2,o2,w2,f2⟩:=WbS (Z:=Z) hS10 hf w sm
 have z0:((0:Int) !=0)=false:=rfl
 have z1:((1:Int) !=0)=true:=rfl
 have z2:((2:Int) !=0)=true:=rfl
 rw[Wac F Z (hS10.lk (g:=388) rfl) _ _ rfl]
 by_cases ht:tx<1
 ·rw[of_tx ht] at e1
  rw[btx_bad ht]
  simp only[Account.enc,Account.none_] at e1
  simp only[rn,RO.dst,lk,drop,Nat.reduceBEq,Nat.reduceAdd,Nat.reduceLeDiff,↓reduceIte,reduceCtorEq,z0,z1,z2,e1,e2]
  exact ⟨_,_,_,rfl,o2,w2,f2⟩
 rw[btx_do ht]
 cases hb:Wap xs with
 | false=>
   rw[of_bad hb] at e1
   rw[do_bad hb]
   simp only[Account.enc,Account.none_] at e1
   simp only[rn,RO.dst,lk,drop,Nat.reduceBEq,Nat.reduceAdd,Nat.reduceLeDiff,↓reduceIte,reduceCtorEq,z0,z1,z2,e1,e2]
   exact ⟨_,_,_,rfl,o2,w2,f2⟩
 | true=>
   rcases Wbc hb id with ⟨q1,_⟩ | ⟨i,q1,_,_,hi,q5⟩
   ·rw[of_none hb ht q1] at e1
    rw[do_none hb q1]
    simp only[Account.enc,Account.none_] at e1
    simp only[rn,RO.dst,lk,drop,Nat.reduceBEq,Nat.reduceAdd,Nat.reduceLeDiff,↓reduceIte,reduceCtorEq,z0,z1,z2,e1,e2]
    exact ⟨_,_,_,rfl,o2,w2,f2⟩
   ·rw[of_at hb ht q1] at e1
    rw[do_at hb q1]
    have hfin:=book_fine hb hi
    rw[Account.at_get hi] at e1 q5 hfin ⊢
    have hoki:=hok _ (Qd hi)
    have hbal:=hoki.bal
    have hh:=hoki.hold
    have hdu:=hoki.due
    simp only[Account.fine,Qg,decide_eq_true_eq] at hfin
    have hfl:=hfin.1
    clear hfin hoki
    obtain ⟨z,h3,fr,e3,o3,w3,f3⟩:=l10With_c (Z:=Z) hS10 hf w sm ⟨xs[i].id,xs[i].bal-m,m,xs[i].due,tx⟩
    rw[with_set hb hi (a:=⟨xs[i].id,xs[i].bal-m,m,xs[i].due,tx⟩) rfl] at w3
    simp only[Account.enc] at e1 e3
    generalize xs[i]=a at *
    by_cases c1:a.tx=0
    ·have c1':(a.tx !=0)=false:=by simpa using c1
     by_cases c2:m≤a.bal
     ·have hd:lockDF m tx a=(0,{a with bal:=a.bal-m,hold:=m,tx:=tx}):=by simp[lockDF,c1,c2]
      have htx:(tx== -1)=false:=by simp;omega
      have hw:IntKind.u64.wrap (a.bal-m)=a.bal-m:=wrapU _ (by omega) (by omega)
      have c3: ¬m>a.bal:=by omega
      rw[hd]
      simp only[beq_self_eq_true,cond_true,htx,cond_false]
      simp only[rn,RO.dst,lk,drop,Nat.reduceBEq,Nat.reduceAdd,Nat.reduceLeDiff,↓reduceIte,reduceCtorEq,z0,z1,z2,e1,hw,c1',c3,e3]
      exact ⟨_,_,_,rfl,o3,w3,f3⟩
     ·have hd:lockDF m tx a=(4,a):=by simp[lockDF,c1,c2]
      have c3:m>a.bal:=by omega
      rw[hd]
      have h0:((4:Int)==0)=false:=rfl
      simp only[h0,cond_false]
      simp only[rn,RO.dst,lk,drop,Nat.reduceBEq,Nat.reduceAdd,Nat.reduceLeDiff,↓reduceIte,reduceCtorEq,z0,z1,z2,e1,c1',c3,e2]
      exact ⟨_,_,_,rfl,o2,w2,f2⟩
    ·have c1':(a.tx !=0)=true:=by simpa using c1
     have hd:lockDF m tx a=(6,a):=by simp[lockDF,c1]
     rw[hd]
     have h0:((6:Int)==0)=false:=rfl
     simp only[h0,cond_false]
     simp only[rn,RO.dst,lk,drop,Nat.reduceBEq,Nat.reduceAdd,Nat.reduceLeDiff,↓reduceIte,reduceCtorEq,z0,z1,z2,e1,c1',e2]
     exact ⟨_,_,_,rfl,o2,w2,f2⟩
set_option maxHeartbeats 1000000 in
theorem sLockCredit_c (hS10:Has F tS10) (hf:h.floor≤h.next) (w:SlR 11 (Fl Account.enc) h x xs fp) (id m tx:Int) (hm:0≤m∧m≤18446744073709551615) (hok: ∀t,t∈xs→t.Ok) (sm:xs.length≤1048576):
 ∃y h' fq,call F Z 389 [.agg [x],.c (.int .u64 id),.c (.int .u64 m),.c (.int .i64 tx)] h=some (.tup [.agg [y],.c (.int .i64 (WaJ xs id tx (lockCF m tx)).2)],h')∧On h h'∧SlR 11 (Fl Account.enc) h' y (WaJ xs id tx (lockCF m tx)).1 fq∧Fre h fq:=by
 have e1:=l10Of_run (Z:=Z) hS10 w id tx hok
 obtain ⟨y,h2,fq,e2,o2,w2,f2⟩:=WbS (Z:=Z) hS10 hf w sm
 have z0:((0:Int) !=0)=false:=rfl
 have z1:((1:Int) !=0)=true:=rfl
 have z2:((2:Int) !=0)=true:=rfl
 rw[Wac F Z (hS10.lk (g:=389) rfl) _ _ rfl]
 by_cases ht:tx<1
 ·rw[of_tx ht] at e1
  rw[btx_bad ht]
  simp only[Account.enc,Account.none_] at e1
  simp only[rn,RO.dst,lk,drop,Nat.reduceBEq,Nat.reduceAdd,Nat.reduceLeDiff,↓reduceIte,reduceCtorEq,z0,z1,z2,e1,e2]
  exact ⟨_,_,_,rfl,o2,w2,f2⟩
 rw[btx_do ht]
 cases hb:Wap xs with
 | false=>
   rw[of_bad hb] at e1
   rw[do_bad hb]
   simp only[Account.enc,Account.none_] at e1
   simp only[rn,RO.dst,lk,drop,Nat.reduceBEq,Nat.reduceAdd,Nat.reduceLeDiff,↓reduceIte,reduceCtorEq,z0,z1,z2,e1,e2]
   exact ⟨_,_,_,rfl,o2,w2,f2⟩
 | true=>
   rcases Wbc hb id with ⟨q1,_⟩ | ⟨i,q1,_,_,hi,q5⟩
   ·rw[of_none hb ht q1] at e1
    rw[do_none hb q1]
    simp only[Account.enc,Account.none_] at e1
    simp only[rn,RO.dst,lk,drop,Nat.reduceBEq,Nat.reduceAdd,Nat.reduceLeDiff,↓reduceIte,reduceCtorEq,z0,z1,z2,e1,e2]
    exact ⟨_,_,_,rfl,o2,w2,f2⟩
   ·rw[of_at hb ht q1] at e1
    rw[do_at hb q1]
    have hfin:=book_fine hb hi
    rw[Account.at_get hi] at e1 q5 hfin ⊢
    have hoki:=hok _ (Qd hi)
    have hbal:=hoki.bal
    have hh:=hoki.hold
    have hdu:=hoki.due
    simp only[Account.fine,Qg,decide_eq_true_eq] at hfin
    have hfl:=hfin.1
    clear hfin hoki
    obtain ⟨z,h3,fr,e3,o3,w3,f3⟩:=l10With_c (Z:=Z) hS10 hf w sm ⟨xs[i].id,xs[i].bal,xs[i].hold,m,tx⟩
    rw[with_set hb hi (a:=⟨xs[i].id,xs[i].bal,xs[i].hold,m,tx⟩) rfl] at w3
    have hws:IntKind.u64.wrap (18446744073709551615-xs[i].bal)=18446744073709551615-xs[i].bal:=wrapU _ (by omega) (by omega)
    simp only[Account.enc] at e1 e3
    generalize xs[i]=a at *
    by_cases c1:a.tx=0
    ·have c1':(a.tx !=0)=false:=by simpa using c1
     by_cases c2:a.bal+m≤18446744073709551615
     ·have hd:lockCF m tx a=(0,{a with due:=m,tx:=tx}):=by simp[lockCF,c1,c2]
      have htx:(tx== -1)=false:=by simp;omega
      have c3: ¬m>18446744073709551615-a.bal:=by omega
      rw[hd]
      simp only[beq_self_eq_true,cond_true,htx,cond_false]
      simp only[rn,RO.dst,lk,drop,Nat.reduceBEq,Nat.reduceAdd,Nat.reduceLeDiff,↓reduceIte,reduceCtorEq,z0,z1,z2,e1,hws,c1',c3,e3]
      exact ⟨_,_,_,rfl,o3,w3,f3⟩
     ·have hd:lockCF m tx a=(5,a):=by simp[lockCF,c1,c2]
      have c3:m>18446744073709551615-a.bal:=by omega
      rw[hd]
      have h0:((5:Int)==0)=false:=rfl
      simp only[h0,cond_false]
      simp only[rn,RO.dst,lk,drop,Nat.reduceBEq,Nat.reduceAdd,Nat.reduceLeDiff,↓reduceIte,reduceCtorEq,z0,z1,z2,e1,hws,c1',c3,e2]
      exact ⟨_,_,_,rfl,o2,w2,f2⟩
    ·have c1':(a.tx !=0)=true:=by simpa using c1
     have hd:lockCF m tx a=(6,a):=by simp[lockCF,c1]
     rw[hd]
     have h0:((6:Int)==0)=false:=rfl
     simp only[h0,cond_false]
     simp only[rn,RO.dst,lk,drop,Nat.reduceBEq,Nat.reduceAdd,Nat.reduceLeDiff,↓reduceIte,reduceCtorEq,z0,z1,z2,e1,c1',e2]
     exact ⟨_,_,_,rfl,o2,w2,f2⟩
set_option maxHeartbeats 1000000 in
theorem sSettleHold_c (hS10:Has F tS10) (hf:h.floor≤h.next) (w:SlR 11 (Fl Account.enc) h x xs fp) (id tx:Int) (hok: ∀t,t∈xs→t.Ok) (sm:xs.length≤1048576):
 ∃y h' fq,call F Z 390 [.agg [x],.c (.int .u64 id),.c (.int .i64 tx)] h=some (.tup [.agg [y],.c (.int .i64 (WaJ xs id tx (Wbg id tx)).2)],h')∧On h h'∧SlR 11 (Fl Account.enc) h' y (WaJ xs id tx (Wbg id tx)).1 fq∧Fre h fq:=by
 have e1:=l10Of_run (Z:=Z) hS10 w id tx hok
 obtain ⟨y,h2,fq,e2,o2,w2,f2⟩:=WbS (Z:=Z) hS10 hf w sm
 have z0:((0:Int) !=0)=false:=rfl
 have z1:((1:Int) !=0)=true:=rfl
 have z2:((2:Int) !=0)=true:=rfl
 rw[Wac F Z (hS10.lk (g:=390) rfl) _ _ rfl]
 by_cases ht:tx<1
 ·rw[of_tx ht] at e1
  rw[btx_bad ht]
  simp only[Account.enc,Account.none_] at e1
  simp only[rn,RO.dst,lk,drop,Nat.reduceBEq,Nat.reduceAdd,Nat.reduceLeDiff,↓reduceIte,reduceCtorEq,z0,z1,z2,e1,e2]
  exact ⟨_,_,_,rfl,o2,w2,f2⟩
 rw[btx_do ht]
 cases hb:Wap xs with
 | false=>
   rw[of_bad hb] at e1
   rw[do_bad hb]
   simp only[Account.enc,Account.none_] at e1
   simp only[rn,RO.dst,lk,drop,Nat.reduceBEq,Nat.reduceAdd,Nat.reduceLeDiff,↓reduceIte,reduceCtorEq,z0,z1,z2,e1,e2]
   exact ⟨_,_,_,rfl,o2,w2,f2⟩
 | true=>
   rcases Wbc hb id with ⟨q1,_⟩ | ⟨i,q1,_,_,hi,q5⟩
   ·rw[of_none hb ht q1] at e1
    rw[do_none hb q1]
    simp only[Account.enc,Account.none_] at e1
    simp only[rn,RO.dst,lk,drop,Nat.reduceBEq,Nat.reduceAdd,Nat.reduceLeDiff,↓reduceIte,reduceCtorEq,z0,z1,z2,e1,e2]
    exact ⟨_,_,_,rfl,o2,w2,f2⟩
   ·rw[of_at hb ht q1] at e1
    rw[do_at hb q1]
    have hfin:=book_fine hb hi
    rw[Account.at_get hi] at e1 q5 hfin ⊢
    have hoki:=hok _ (Qd hi)
    have hbal:=hoki.bal
    have hh:=hoki.hold
    have hdu:=hoki.due
    simp only[Account.fine,Qg,decide_eq_true_eq] at hfin
    have hfl:=hfin.1
    clear hfin hoki
    obtain ⟨z,h3,fr,e3,o3,w3,f3⟩:=l10With_c (Z:=Z) hS10 hf w sm ⟨id,xs[i].bal+xs[i].due,0,0,0⟩
    rw[with_set hb hi (a:=⟨id,xs[i].bal+xs[i].due,0,0,0⟩) q5.symm] at w3
    have hw:IntKind.u64.wrap (xs[i].bal+xs[i].due)=xs[i].bal+xs[i].due:=wrapU _ (by omega) (by omega)
    simp only[Account.enc] at e1 e3
    generalize xs[i]=a at *
    by_cases c1:a.tx=tx
    ·have c1':(a.tx !=tx)=false:=by simpa using c1
     have hd:Wbg id tx a=(0,⟨id,a.bal+a.due,0,0,0⟩):=by simp[Wbg,c1]
     have htx:((0:Int)== -1)=false:=rfl
     rw[hd]
     simp only[beq_self_eq_true,cond_true,htx,cond_false]
     simp only[rn,RO.dst,lk,drop,Nat.reduceBEq,Nat.reduceAdd,Nat.reduceLeDiff,↓reduceIte,reduceCtorEq,z0,z1,z2,e1,hw,c1',e3]
     exact ⟨_,_,_,rfl,o3,w3,f3⟩
    ·have c1':(a.tx !=tx)=true:=by simpa using c1
     have hd:Wbg id tx a=(7,a):=by simp[Wbg,c1]
     rw[hd]
     have h0:((7:Int)==0)=false:=rfl
     simp only[h0,cond_false]
     simp only[rn,RO.dst,lk,drop,Nat.reduceBEq,Nat.reduceAdd,Nat.reduceLeDiff,↓reduceIte,reduceCtorEq,z0,z1,z2,e1,c1',e2]
     exact ⟨_,_,_,rfl,o2,w2,f2⟩
set_option maxHeartbeats 1000000 in
theorem sReleaseHold_c (hS10:Has F tS10) (hf:h.floor≤h.next) (w:SlR 11 (Fl Account.enc) h x xs fp) (id tx:Int) (hok: ∀t,t∈xs→t.Ok) (sm:xs.length≤1048576):
 ∃y h' fq,call F Z 391 [.agg [x],.c (.int .u64 id),.c (.int .i64 tx)] h=some (.tup [.agg [y],.c (.int .i64 (WaJ xs id tx (WaR id tx)).2)],h')∧On h h'∧SlR 11 (Fl Account.enc) h' y (WaJ xs id tx (WaR id tx)).1 fq∧Fre h fq:=by
 have e1:=l10Of_run (Z:=Z) hS10 w id tx hok
 obtain ⟨y,h2,fq,e2,o2,w2,f2⟩:=WbS (Z:=Z) hS10 hf w sm
 have z0:((0:Int) !=0)=false:=rfl
 have z1:((1:Int) !=0)=true:=rfl
 have z2:((2:Int) !=0)=true:=rfl
 rw[Wac F Z (hS10.lk (g:=391) rfl) _ _ rfl]
 by_cases ht:tx<1
 ·rw[of_tx ht] at e1
  rw[btx_bad ht]
  simp only[Account.enc,Account.none_] at e1
  simp only[rn,RO.dst,lk,drop,Nat.reduceBEq,Nat.reduceAdd,Nat.reduceLeDiff,↓reduceIte,reduceCtorEq,z0,z1,z2,e1,e2]
  exact ⟨_,_,_,rfl,o2,w2,f2⟩
 rw[btx_do ht]
 cases hb:Wap xs with
 | false=>
   rw[of_bad hb] at e1
   rw[do_bad hb]
   simp only[Account.enc,Account.none_] at e1
   simp only[rn,RO.dst,lk,drop,Nat.reduceBEq,Nat.reduceAdd,Nat.reduceLeDiff,↓reduceIte,reduceCtorEq,z0,z1,z2,e1,e2]
   exact ⟨_,_,_,rfl,o2,w2,f2⟩
 | true=>
   rcases Wbc hb id with ⟨q1,_⟩ | ⟨i,q1,_,_,hi,q5⟩
   ·rw[of_none hb ht q1] at e1
    rw[do_none hb q1]
    simp only[Account.enc,Account.none_] at e1
    simp only[rn,RO.dst,lk,drop,Nat.reduceBEq,Nat.reduceAdd,Nat.reduceLeDiff,↓reduceIte,reduceCtorEq,z0,z1,z2,e1,e2]
    exact ⟨_,_,_,rfl,o2,w2,f2⟩
   ·rw[of_at hb ht q1] at e1
    rw[do_at hb q1]
    have hfin:=book_fine hb hi
    rw[Account.at_get hi] at e1 q5 hfin ⊢
    have hoki:=hok _ (Qd hi)
    have hbal:=hoki.bal
    have hh:=hoki.hold
    have hdu:=hoki.due
    simp only[Account.fine,Qg,decide_eq_true_eq] at hfin
    have hfl:=hfin.1
    clear hfin hoki
    obtain ⟨z,h3,fr,e3,o3,w3,f3⟩:=l10With_c (Z:=Z) hS10 hf w sm ⟨id,xs[i].bal+xs[i].hold,0,0,0⟩
    rw[with_set hb hi (a:=⟨id,xs[i].bal+xs[i].hold,0,0,0⟩) q5.symm] at w3
    have hw:IntKind.u64.wrap (xs[i].bal+xs[i].hold)=xs[i].bal+xs[i].hold:=wrapU _ (by omega) (by omega)
    simp only[Account.enc] at e1 e3
    generalize xs[i]=a at *
    by_cases c1:a.tx=tx
    ·have c1':(a.tx !=tx)=false:=by simpa using c1
     have hd:WaR id tx a=(0,⟨id,a.bal+a.hold,0,0,0⟩):=by simp[WaR,c1]
     have htx:((0:Int)== -1)=false:=rfl
     rw[hd]
     simp only[beq_self_eq_true,cond_true,htx,cond_false]
     simp only[rn,RO.dst,lk,drop,Nat.reduceBEq,Nat.reduceAdd,Nat.reduceLeDiff,↓reduceIte,reduceCtorEq,z0,z1,z2,e1,hw,c1',e3]
     exact ⟨_,_,_,rfl,o3,w3,f3⟩
    ·have c1':(a.tx !=tx)=true:=by simpa using c1
     have hd:WaR id tx a=(7,a):=by simp[WaR,c1]
     rw[hd]
     have h0:((7:Int)==0)=false:=rfl
     simp only[h0,cond_false]
     simp only[rn,RO.dst,lk,drop,Nat.reduceBEq,Nat.reduceAdd,Nat.reduceLeDiff,↓reduceIte,reduceCtorEq,z0,z1,z2,e1,c1',e2]
     exact ⟨_,_,_,rfl,o2,w2,f2⟩
end
section
variable {F:Nat→Option RF} {Z:Waf} {h:Heap} {xs:List Shard}
theorem row_set {h6:Heap} {y:Cell} {fr:List Nat} {i n:Nat} (o:On h h6) (hf:h.floor≤h.next) (w:SlR 16 Shard.RI h6 y xs fr) (f:Fre h fr) (hi:i<xs.length) {yb zf:Cell} {l:List Account} {fs:List Fin} {fb fz:List Nat}
 (u:SlR 11 (Fl Account.enc) h6 yb l fb) (v:SlR 9 (Fl Fin.enc) h6 zf fs fz) (nd:(fb++fz).Nodup) (hd: ∀id,id∈fb++fz→n≤id) (hn: ∀id,id∈fr→id<n) (hh:h.next≤n):
 ∃g fq,storeP h6 y.sid i 0 [.int .u64 xs[i].lo,.int .u64 xs[i].hi,.int .i64 xs[i].state,.int .i64 xs[i].epoch,yb,zf]=some g∧On h g∧Fre h fq∧
  SlR 16 Shard.RI g y (xs.set i ⟨xs[i].lo,xs[i].hi,xs[i].state,xs[i].epoch,⟨l⟩,fs⟩) fq∧SlR 11 (Fl Account.enc) g yb l fb:=by
 obtain ⟨r,f1,rows,hR,hin,nf1,hs,hns,hsl,hg,hr,hil,_,fin⟩:=w.turnF Shard.okI f.nd hi
 obtain ⟨xb,pb,xf,pf,rfl,rfl,wb,wf⟩:=hR
 have hfl:h6.floor≤y.sid:=by rw[o.fl];exact QN hf (f.lo _ hs)
 have hst:=storeP_at (h:=h6) (id:=y.sid) (i:=i) (j:=0) (new:=[.int .u64 xs[i].lo,.int .u64 xs[i].hi,.int .i64 xs[i].state,.int .i64 xs[i].epoch,yb,zf]) hfl hg hr rfl
 have hne: ∀id,id∈fb++fz→id≠y.sid:=fun id hid e=>by
  subst e;have:=hd _ hid;have:=hn _ hs;omega
 have u2:=u.mv (h':=h6.put y.sid (rows.set i [.int .u64 xs[i].lo,.int .u64 xs[i].hi,.int .i64 xs[i].state,.int .i64 xs[i].epoch,yb,zf])) (Fl.ok _) (QD _) fun id hid=>WbO _ (hne id (Ja _ hid))
 have v2:=v.mv (h':=h6.put y.sid (rows.set i [.int .u64 xs[i].lo,.int .u64 xs[i].hi,.int .i64 xs[i].state,.int .i64 xs[i].epoch,yb,zf])) (Fl.ok _) (QD _) fun id hid=>WbO _ (hne id (Qw _ hid))
 obtain ⟨fq,w4,nq,sub⟩:=fin (h6.put y.sid (rows.set i [.int .u64 xs[i].lo,.int .u64 xs[i].hi,.int .i64 xs[i].state,.int .i64 xs[i].epoch,yb,zf])) [.int .u64 xs[i].lo,.int .u64 xs[i].hi,.int .i64 xs[i].state,.int .i64 xs[i].epoch,yb,zf] ⟨xs[i].lo,xs[i].hi,xs[i].state,xs[i].epoch,⟨l⟩,fs⟩ (fb++fz) (QD _)
  (fun id h1 h2 h4=>WbO _ h2) (by simp[Heap.put]) ⟨yb,fb,zf,fz,rfl,rfl,u2,v2⟩ nd (fun id hid=> .inr fun hc=>by have:=hd _ hid;have:=hn _ hc;omega)
 refine ⟨_,fq,hst,o.turned (Mk.put _ _ _) ⟨fun id hid=>by simp only[Qy] at hid;subst hid;exact f.lo _ hs,by simp⟩,⟨fun id hid=> ?_,nq⟩,w4,u2⟩
 rcases sub id hid with h1 | h1
 ·exact f.lo id h1
 ·have:=hd _ h1;omega
end
def WaG (F:Nat→Option RF) (Z:Waf) (h:Heap) (cs:List Cell) (s:Store) (q:Request):Prop:=
 ∃cs' h' fq,call F Z 381 [.agg cs,.agg q.enc] h=some (.tup [.agg cs',.c (.int .i64 (Wbl s q).2.1),.c (.int .u64 (Wbl s q).2.2)],h')∧On h h'∧Store.RI h' cs' (Wbl s q).1 fq∧Fre h fq
section
variable {F:Nat→Option RF} {Z:Waf} {h:Heap} {cs:List Cell} {fp:List Nat} {s:Store}
set_option maxHeartbeats 4000000 in
set_option maxRecDepth 8000 in
theorem sdo_op0 (k:KS F) (hf:h.floor≤h.next) (v:Store.RI h cs s fp) (qe qi qa qt:Int) (okq:(⟨qe,0,qi,qa,qt⟩:Request).Ok) (ok:s.Ok) (sm:s.Small):
 WaG F Z h cs s ⟨qe,0,qi,qa,qt⟩:=by
 unfold WaG
 obtain ⟨l1,l2,l3⟩:=Store.lenI v
 obtain ⟨cs1,h1,fr,e1,o1,v1,f1⟩:=WaZ (Z:=Z) k hf v sm
 have vh:=Store.okI.on v o1
 have e2:=WaK (Z:=Z) k vh ok
 have e3:=Wbs (Z:=Z) k.s13 vh qi
 have eI:=fun (lo hi:Int) (h:Heap)=>Wbd (F:=F) (Z:=Z) k.s01 0 lo hi h
 simp only[inR] at eI
 obtain ⟨y,p,rfl,hp,w⟩:=v1
 subst hp
 rw[Wac F Z (k.s13.lk (g:=381) rfl) _ _ rfl]
 simp only[Request.enc]
 cases hg:s.good with
 | false=>
   rw[hg] at e2
   rw[Wcj (by simp[hg])]
   simp only[rn,RO.dst,lk,drop,Nat.reduceBEq,Nat.reduceAdd,Nat.reduceLeDiff,↓reduceIte,reduceCtorEq,Qc,Qf,Qe,Qb,Qa,Int.reduceLT,Int.reduceLE,Int.reduceGT,Int.reduceGE,Int.reduceBEq,Int.reduceBNe,Int.reduceEq,Int.reduceNe,Int.reduceNeg,l1,l2,l3,e1,e2]
   exact ⟨_,_,_,rfl,o1,⟨y,_,rfl,rfl,w⟩,f1⟩
 | true=>
 rw[hg] at e2
 have hin:(s.good&&inR (⟨qe,0,qi,qa,qt⟩:Request).op 0 8)=true:=by rw[hg];rfl
 obtain ⟨x,p,rfl,hp,wx⟩:=vh
 subst hp
 rcases wx.found (fun t=>decide (t.lo≤qi)&&decide (qi≤t.hi)) with q | ⟨i,q,hi,hpi,_⟩
 ·change Waz s.shards qi= -1 at q
  rw[WbU hin q]
  rw[q] at e3
  simp only[rn,RO.dst,lk,drop,Nat.reduceBEq,Nat.reduceAdd,Nat.reduceLeDiff,↓reduceIte,reduceCtorEq,Qc,Qf,Qe,Qb,Qa,Int.reduceLT,Int.reduceLE,Int.reduceGT,Int.reduceGE,Int.reduceBEq,Int.reduceBNe,Int.reduceEq,Int.reduceNe,Int.reduceNeg,l1,l2,l3,e1,e2,e3,eI]
  exact ⟨_,_,_,rfl,o1,⟨y,_,rfl,rfl,w⟩,f1⟩
 change Waz s.shards qi=(i:Int) at q
 rw[q] at e3
 rw[dost_at hin q,Shard.at_get hi]
 have g0: ¬(i:Int)<0:=by omega
 have hxi:=wx.idx hi
 have hyi:=w.idx hi
 have okX:=ok.shards _ (Qd hi)
 have smX:=sm.2 _ (Qd hi)
 have smf:s.shards[i].finished.length≤1048576:=smX.2
 have smb:s.shards[i].book.list.length≤1048576:=smX.1
 have hgd:s.shards[i].good=true:=by
  have:=Store.fit_at hg hi
  simp only[Store.fits,Qg,Shard.at_get hi] at this
  exact this.1
 have hso:=Shard.good_sorted hgd
 have hbk:Wap s.shards[i].book.list=true:=by
  simp only[Qg,Shard.good,Shard.head] at hgd
  exact hgd.1.2.2.2.1
 obtain ⟨r,fx,hld,hR0,_⟩:=wx.one hi
 obtain ⟨cs4,h4,ft,e4,o4,u4,f4⟩:=WaF (Z:=Z) k.s10 k.s13 (o1.le hf) hR0 smX
 obtain ⟨xb,pb,xf,pf,rfl,rfl,wb,wf⟩:=hR0
 obtain ⟨b4,pb4,f4c,pf4,rfl,hq4,wb4,wf4⟩:=u4
 subst hq4
 obtain ⟨n4a,n4b,n4c⟩:=Ql.1 f4.nd
 have o04:=o1.trans o4
 have o4h:=o04.le
 have w4:=w.on Shard.okI o4
 have lt4:=w4.lt Shard.okI
 have lt4f:=wf4.lt (Fl.ok _)
 have eC:=WbA (F:=F) (Z:=Z) k.s13 wf4 ⟨qt,qi⟩
 simp only[Fin.enc] at eC
 have hlen:=wf4.len
 cases cA:(s.shards[i].epoch !=qe) with
 | true=>
   have cA':(s.shards[i].epoch==qe)=false:=by simpa using cA
   have hR:refuse s.shards[i] ⟨qe,0,qi,qa,qt⟩=9:=by simp[refuse,inR,Request.ends,Request.fin,cA']
   rw[hR]
   simp only[show ((9:Int)==0)=false from rfl,cond_false]
   simp only[rn,RO.dst,lk,drop,Nat.reduceBEq,Nat.reduceAdd,Nat.reduceLeDiff,↓reduceIte,reduceCtorEq,Qc,Qf,Qe,Qb,Qa,Int.reduceLT,Int.reduceLE,Int.reduceGT,Int.reduceGE,Int.reduceBEq,Int.reduceBNe,Int.reduceEq,Int.reduceNe,Int.reduceNeg,l1,l2,l3,e1,e2,e3,eI,hxi,hld,e4,eC,hlen,g0,cA]
   exact ⟨_,_,_,rfl,o04,⟨y,_,rfl,rfl,w4⟩,f1⟩
 | false=>
 have cA':(s.shards[i].epoch==qe)=true:=by simpa using cA
 cases cB:(s.shards[i].state==1) with
 | true=>
   have hR:refuse s.shards[i] ⟨qe,0,qi,qa,qt⟩=10:=by simp[refuse,inR,Request.ends,Request.fin,cA',cB]
   rw[hR]
   simp only[show ((10:Int)==0)=false from rfl,cond_false]
   simp only[rn,RO.dst,lk,drop,Nat.reduceBEq,Nat.reduceAdd,Nat.reduceLeDiff,↓reduceIte,reduceCtorEq,Qc,Qf,Qe,Qb,Qa,Int.reduceLT,Int.reduceLE,Int.reduceGT,Int.reduceGE,Int.reduceBEq,Int.reduceBNe,Int.reduceEq,Int.reduceNe,Int.reduceNeg,l1,l2,l3,e1,e2,e3,eI,hxi,hld,e4,eC,hlen,g0,cA,cB]
   exact ⟨_,_,_,rfl,o04,⟨y,_,rfl,rfl,w4⟩,f1⟩
 | false=>
 have hR:refuse s.shards[i] ⟨qe,0,qi,qa,qt⟩=0:=by simp[refuse,inR,Request.ends,Request.fin,cA',cB]
 rw[hR]
 simp only[beq_self_eq_true,cond_true]
 obtain ⟨yb,h5,fb,e5,o5,u5,f5⟩:=sOpenAccount_c (Z:=Z) k.s10 (o4h hf) wb4 qi okX.book.list smb
 have ltb:=u5.lt (Fl.ok _)
 have hA:WaW s.shards[i] ⟨qe,0,qi,qa,qt⟩=⟨s.shards[i].lo,s.shards[i].hi,s.shards[i].state,s.shards[i].epoch,⟨(Waq s.shards[i].book.list ⟨qe,0,qi,qa,qt⟩).1⟩,s.shards[i].finished⟩:=by simp[WaW,Request.ends,Request.fin,cA',cB]
 obtain ⟨g,fq,st,og,fg,w7,u7⟩:=row_set (h:=h) (o04.trans o5) hf (w4.on Shard.okI o5) f1 hi u5 (wf4.on (Fl.ok _) o5) (Ql.2 ⟨f5.nd,n4b,fun a ha b hb e=>by subst e;have:=f5.lo a ha;have:=lt4f a hb;omega⟩) (fun id hid=>by
  rcases Qn.1 hid with h1 | h1
  ·have:=f5.lo id h1;have:=o4.ext.1;omega
  ·exact f4.lo id (Qw _ h1)) (n:=h1.next) (w.lt Shard.okI) o1.ext.1
 rw[hA]
 have eA:=WaO (F:=F) (Z:=Z) k.s10 u7 qi
 rcases WbR (a:=qi) (WbC hbk ⟨qe,0,qi,qa,qt⟩) with ⟨v1,v2⟩ | ⟨v1,v2,v3,v4⟩ | ⟨v1,j,v2,v3,v4,v5,v6⟩
 ·have v1':((Waq s.shards[i].book.list ⟨qe,0,qi,qa,qt⟩).2==0)=false:=by simpa using v1
  rw[v2]
  change ((Wbn s.shards[i].book.list qi).2==0)=false at v1'
  simp only[rn,RO.dst,lk,drop,Nat.reduceBEq,Nat.reduceAdd,Nat.reduceLeDiff,↓reduceIte,reduceCtorEq,Qc,Qf,Qe,Qb,Qa,Int.reduceLT,Int.reduceLE,Int.reduceGT,Int.reduceGE,Int.reduceBEq,Int.reduceBNe,Int.reduceEq,Int.reduceNe,Int.reduceNeg,l1,l2,l3,e1,e2,e3,eI,hxi,hld,e4,eC,hlen,g0,cA,cB,e5,hyi,st,eA,v1']
  exact ⟨_,_,_,rfl,og,⟨y,_,rfl,rfl,w7⟩,fg⟩
 ·have v1':((Waq s.shards[i].book.list ⟨qe,0,qi,qa,qt⟩).2==0)=true:=by simpa using v1
  rw[v4]
  change ((Wbn s.shards[i].book.list qi).2==0)=true at v1'
  change WaT (Wbn s.shards[i].book.list qi).1 qi= -1 at v3
  rw[v3] at eA
  simp only[rn,RO.dst,lk,drop,Nat.reduceBEq,Nat.reduceAdd,Nat.reduceLeDiff,↓reduceIte,reduceCtorEq,Qc,Qf,Qe,Qb,Qa,Int.reduceLT,Int.reduceLE,Int.reduceGT,Int.reduceGE,Int.reduceBEq,Int.reduceBNe,Int.reduceEq,Int.reduceNe,Int.reduceNeg,l1,l2,l3,e1,e2,e3,eI,hxi,hld,e4,eC,hlen,g0,cA,cB,e5,hyi,st,eA,v1']
  exact ⟨_,_,_,rfl,og,⟨y,_,rfl,rfl,w7⟩,fg⟩
 ·have v1':((Waq s.shards[i].book.list ⟨qe,0,qi,qa,qt⟩).2==0)=true:=by simpa using v1
  rw[v6,Account.at_get v5]
  change ((Wbn s.shards[i].book.list qi).2==0)=true at v1'
  change WaT (Wbn s.shards[i].book.list qi).1 qi=(j:Int) at v4
  have g1:(j:Int)≥0:=by omega
  rw[v4] at eA
  have hx:=u7.idx v5
  have hl:=u7.load v5
  simp only[Account.enc] at hl
  simp only[rn,RO.dst,lk,drop,Nat.reduceBEq,Nat.reduceAdd,Nat.reduceLeDiff,↓reduceIte,reduceCtorEq,Qc,Qf,Qe,Qb,Qa,Int.reduceLT,Int.reduceLE,Int.reduceGT,Int.reduceGE,Int.reduceBEq,Int.reduceBNe,Int.reduceEq,Int.reduceNe,Int.reduceNeg,l1,l2,l3,e1,e2,e3,eI,hxi,hld,e4,eC,hlen,g0,cA,cB,e5,hyi,st,eA,v1',g1,hx,hl]
  exact ⟨_,_,_,rfl,og,⟨y,_,rfl,rfl,w7⟩,fg⟩
set_option maxHeartbeats 4000000 in
set_option maxRecDepth 8000 in
theorem sdo_op1 (k:KS F) (hf:h.floor≤h.next) (v:Store.RI h cs s fp) (qe qi qa qt:Int) (okq:(⟨qe,1,qi,qa,qt⟩:Request).Ok) (ok:s.Ok) (sm:s.Small):
 WaG F Z h cs s ⟨qe,1,qi,qa,qt⟩:=by
 unfold WaG
 obtain ⟨l1,l2,l3⟩:=Store.lenI v
 obtain ⟨cs1,h1,fr,e1,o1,v1,f1⟩:=WaZ (Z:=Z) k hf v sm
 have vh:=Store.okI.on v o1
 have e2:=WaK (Z:=Z) k vh ok
 have e3:=Wbs (Z:=Z) k.s13 vh qi
 have eI:=fun (lo hi:Int) (h:Heap)=>Wbd (F:=F) (Z:=Z) k.s01 1 lo hi h
 simp only[inR] at eI
 obtain ⟨y,p,rfl,hp,w⟩:=v1
 subst hp
 rw[Wac F Z (k.s13.lk (g:=381) rfl) _ _ rfl]
 simp only[Request.enc]
 cases hg:s.good with
 | false=>
   rw[hg] at e2
   rw[Wcj (by simp[hg])]
   simp only[rn,RO.dst,lk,drop,Nat.reduceBEq,Nat.reduceAdd,Nat.reduceLeDiff,↓reduceIte,reduceCtorEq,Qc,Qf,Qe,Qb,Qa,Int.reduceLT,Int.reduceLE,Int.reduceGT,Int.reduceGE,Int.reduceBEq,Int.reduceBNe,Int.reduceEq,Int.reduceNe,Int.reduceNeg,l1,l2,l3,e1,e2]
   exact ⟨_,_,_,rfl,o1,⟨y,_,rfl,rfl,w⟩,f1⟩
 | true=>
 rw[hg] at e2
 have hin:(s.good&&inR (⟨qe,1,qi,qa,qt⟩:Request).op 0 8)=true:=by rw[hg];rfl
 obtain ⟨x,p,rfl,hp,wx⟩:=vh
 subst hp
 rcases wx.found (fun t=>decide (t.lo≤qi)&&decide (qi≤t.hi)) with q | ⟨i,q,hi,hpi,_⟩
 ·change Waz s.shards qi= -1 at q
  rw[WbU hin q]
  rw[q] at e3
  simp only[rn,RO.dst,lk,drop,Nat.reduceBEq,Nat.reduceAdd,Nat.reduceLeDiff,↓reduceIte,reduceCtorEq,Qc,Qf,Qe,Qb,Qa,Int.reduceLT,Int.reduceLE,Int.reduceGT,Int.reduceGE,Int.reduceBEq,Int.reduceBNe,Int.reduceEq,Int.reduceNe,Int.reduceNeg,l1,l2,l3,e1,e2,e3,eI]
  exact ⟨_,_,_,rfl,o1,⟨y,_,rfl,rfl,w⟩,f1⟩
 change Waz s.shards qi=(i:Int) at q
 rw[q] at e3
 rw[dost_at hin q,Shard.at_get hi]
 have g0: ¬(i:Int)<0:=by omega
 have hxi:=wx.idx hi
 have hyi:=w.idx hi
 have okX:=ok.shards _ (Qd hi)
 have smX:=sm.2 _ (Qd hi)
 have smf:s.shards[i].finished.length≤1048576:=smX.2
 have smb:s.shards[i].book.list.length≤1048576:=smX.1
 have hgd:s.shards[i].good=true:=by
  have:=Store.fit_at hg hi
  simp only[Store.fits,Qg,Shard.at_get hi] at this
  exact this.1
 have hso:=Shard.good_sorted hgd
 have hbk:Wap s.shards[i].book.list=true:=by
  simp only[Qg,Shard.good,Shard.head] at hgd
  exact hgd.1.2.2.2.1
 obtain ⟨r,fx,hld,hR0,_⟩:=wx.one hi
 obtain ⟨cs4,h4,ft,e4,o4,u4,f4⟩:=WaF (Z:=Z) k.s10 k.s13 (o1.le hf) hR0 smX
 obtain ⟨xb,pb,xf,pf,rfl,rfl,wb,wf⟩:=hR0
 obtain ⟨b4,pb4,f4c,pf4,rfl,hq4,wb4,wf4⟩:=u4
 subst hq4
 obtain ⟨n4a,n4b,n4c⟩:=Ql.1 f4.nd
 have o04:=o1.trans o4
 have o4h:=o04.le
 have w4:=w.on Shard.okI o4
 have lt4:=w4.lt Shard.okI
 have lt4f:=wf4.lt (Fl.ok _)
 have eC:=WbA (F:=F) (Z:=Z) k.s13 wf4 ⟨qt,qi⟩
 simp only[Fin.enc] at eC
 have hlen:=wf4.len
 cases cA:(s.shards[i].epoch !=qe) with
 | true=>
   have cA':(s.shards[i].epoch==qe)=false:=by simpa using cA
   have hR:refuse s.shards[i] ⟨qe,1,qi,qa,qt⟩=9:=by simp[refuse,inR,Request.ends,Request.fin,cA']
   rw[hR]
   simp only[show ((9:Int)==0)=false from rfl,cond_false]
   simp only[rn,RO.dst,lk,drop,Nat.reduceBEq,Nat.reduceAdd,Nat.reduceLeDiff,↓reduceIte,reduceCtorEq,Qc,Qf,Qe,Qb,Qa,Int.reduceLT,Int.reduceLE,Int.reduceGT,Int.reduceGE,Int.reduceBEq,Int.reduceBNe,Int.reduceEq,Int.reduceNe,Int.reduceNeg,l1,l2,l3,e1,e2,e3,eI,hxi,hld,e4,eC,hlen,g0,cA]
   exact ⟨_,_,_,rfl,o04,⟨y,_,rfl,rfl,w4⟩,f1⟩
 | false=>
 have cA':(s.shards[i].epoch==qe)=true:=by simpa using cA
 cases cB:(s.shards[i].state==1) with
 | true=>
   have hR:refuse s.shards[i] ⟨qe,1,qi,qa,qt⟩=10:=by simp[refuse,inR,Request.ends,Request.fin,cA',cB]
   rw[hR]
   simp only[show ((10:Int)==0)=false from rfl,cond_false]
   simp only[rn,RO.dst,lk,drop,Nat.reduceBEq,Nat.reduceAdd,Nat.reduceLeDiff,↓reduceIte,reduceCtorEq,Qc,Qf,Qe,Qb,Qa,Int.reduceLT,Int.reduceLE,Int.reduceGT,Int.reduceGE,Int.reduceBEq,Int.reduceBNe,Int.reduceEq,Int.reduceNe,Int.reduceNeg,l1,l2,l3,e1,e2,e3,eI,hxi,hld,e4,eC,hlen,g0,cA,cB]
   exact ⟨_,_,_,rfl,o04,⟨y,_,rfl,rfl,w4⟩,f1⟩
 | false=>
 have hR:refuse s.shards[i] ⟨qe,1,qi,qa,qt⟩=0:=by simp[refuse,inR,Request.ends,Request.fin,cA',cB]
 rw[hR]
 simp only[beq_self_eq_true,cond_true]
 obtain ⟨yb,h5,fb,e5,o5,u5,f5⟩:=sCloseAccount_c (Z:=Z) k.s10 (o4h hf) wb4 qi okX.book.list smb
 have ltb:=u5.lt (Fl.ok _)
 have hA:WaW s.shards[i] ⟨qe,1,qi,qa,qt⟩=⟨s.shards[i].lo,s.shards[i].hi,s.shards[i].state,s.shards[i].epoch,⟨(Waq s.shards[i].book.list ⟨qe,1,qi,qa,qt⟩).1⟩,s.shards[i].finished⟩:=by simp[WaW,Request.ends,Request.fin,cA',cB]
 obtain ⟨g,fq,st,og,fg,w7,u7⟩:=row_set (h:=h) (o04.trans o5) hf (w4.on Shard.okI o5) f1 hi u5 (wf4.on (Fl.ok _) o5) (Ql.2 ⟨f5.nd,n4b,fun a ha b hb e=>by subst e;have:=f5.lo a ha;have:=lt4f a hb;omega⟩) (fun id hid=>by
  rcases Qn.1 hid with h1 | h1
  ·have:=f5.lo id h1;have:=o4.ext.1;omega
  ·exact f4.lo id (Qw _ h1)) (n:=h1.next) (w.lt Shard.okI) o1.ext.1
 rw[hA]
 have eA:=WaO (F:=F) (Z:=Z) k.s10 u7 qi
 rcases WbR (a:=qi) (WbC hbk ⟨qe,1,qi,qa,qt⟩) with ⟨v1,v2⟩ | ⟨v1,v2,v3,v4⟩ | ⟨v1,j,v2,v3,v4,v5,v6⟩
 ·have v1':((Waq s.shards[i].book.list ⟨qe,1,qi,qa,qt⟩).2==0)=false:=by simpa using v1
  rw[v2]
  change ((WaX s.shards[i].book.list qi closeF).2==0)=false at v1'
  simp only[rn,RO.dst,lk,drop,Nat.reduceBEq,Nat.reduceAdd,Nat.reduceLeDiff,↓reduceIte,reduceCtorEq,Qc,Qf,Qe,Qb,Qa,Int.reduceLT,Int.reduceLE,Int.reduceGT,Int.reduceGE,Int.reduceBEq,Int.reduceBNe,Int.reduceEq,Int.reduceNe,Int.reduceNeg,l1,l2,l3,e1,e2,e3,eI,hxi,hld,e4,eC,hlen,g0,cA,cB,e5,hyi,st,eA,v1']
  exact ⟨_,_,_,rfl,og,⟨y,_,rfl,rfl,w7⟩,fg⟩
 ·have v1':((Waq s.shards[i].book.list ⟨qe,1,qi,qa,qt⟩).2==0)=true:=by simpa using v1
  rw[v4]
  change ((WaX s.shards[i].book.list qi closeF).2==0)=true at v1'
  change WaT (WaX s.shards[i].book.list qi closeF).1 qi= -1 at v3
  rw[v3] at eA
  simp only[rn,RO.dst,lk,drop,Nat.reduceBEq,Nat.reduceAdd,Nat.reduceLeDiff,↓reduceIte,reduceCtorEq,Qc,Qf,Qe,Qb,Qa,Int.reduceLT,Int.reduceLE,Int.reduceGT,Int.reduceGE,Int.reduceBEq,Int.reduceBNe,Int.reduceEq,Int.reduceNe,Int.reduceNeg,l1,l2,l3,e1,e2,e3,eI,hxi,hld,e4,eC,hlen,g0,cA,cB,e5,hyi,st,eA,v1']
  exact ⟨_,_,_,rfl,og,⟨y,_,rfl,rfl,w7⟩,fg⟩
 ·have v1':((Waq s.shards[i].book.list ⟨qe,1,qi,qa,qt⟩).2==0)=true:=by simpa using v1
  rw[v6,Account.at_get v5]
  change ((WaX s.shards[i].book.list qi closeF).2==0)=true at v1'
  change WaT (WaX s.shards[i].book.list qi closeF).1 qi=(j:Int) at v4
  have g1:(j:Int)≥0:=by omega
  rw[v4] at eA
  have hx:=u7.idx v5
  have hl:=u7.load v5
  simp only[Account.enc] at hl
  simp only[rn,RO.dst,lk,drop,Nat.reduceBEq,Nat.reduceAdd,Nat.reduceLeDiff,↓reduceIte,reduceCtorEq,Qc,Qf,Qe,Qb,Qa,Int.reduceLT,Int.reduceLE,Int.reduceGT,Int.reduceGE,Int.reduceBEq,Int.reduceBNe,Int.reduceEq,Int.reduceNe,Int.reduceNeg,l1,l2,l3,e1,e2,e3,eI,hxi,hld,e4,eC,hlen,g0,cA,cB,e5,hyi,st,eA,v1',g1,hx,hl]
  exact ⟨_,_,_,rfl,og,⟨y,_,rfl,rfl,w7⟩,fg⟩
set_option maxHeartbeats 4000000 in
set_option maxRecDepth 8000 in
theorem sdo_op2 (k:KS F) (hf:h.floor≤h.next) (v:Store.RI h cs s fp) (qe qi qa qt:Int) (okq:(⟨qe,2,qi,qa,qt⟩:Request).Ok) (ok:s.Ok) (sm:s.Small):
 WaG F Z h cs s ⟨qe,2,qi,qa,qt⟩:=by
 unfold WaG
 obtain ⟨l1,l2,l3⟩:=Store.lenI v
 obtain ⟨cs1,h1,fr,e1,o1,v1,f1⟩:=WaZ (Z:=Z) k hf v sm
 have vh:=Store.okI.on v o1
 have e2:=WaK (Z:=Z) k vh ok
 have e3:=Wbs (Z:=Z) k.s13 vh qi
 have eI:=fun (lo hi:Int) (h:Heap)=>Wbd (F:=F) (Z:=Z) k.s01 2 lo hi h
 simp only[inR] at eI
 obtain ⟨y,p,rfl,hp,w⟩:=v1
 subst hp
 rw[Wac F Z (k.s13.lk (g:=381) rfl) _ _ rfl]
 simp only[Request.enc]
 cases hg:s.good with
 | false=>
   rw[hg] at e2
   rw[Wcj (by simp[hg])]
   simp only[rn,RO.dst,lk,drop,Nat.reduceBEq,Nat.reduceAdd,Nat.reduceLeDiff,↓reduceIte,reduceCtorEq,Qc,Qf,Qe,Qb,Qa,Int.reduceLT,Int.reduceLE,Int.reduceGT,Int.reduceGE,Int.reduceBEq,Int.reduceBNe,Int.reduceEq,Int.reduceNe,Int.reduceNeg,l1,l2,l3,e1,e2]
   exact ⟨_,_,_,rfl,o1,⟨y,_,rfl,rfl,w⟩,f1⟩
 | true=>
 rw[hg] at e2
 have hin:(s.good&&inR (⟨qe,2,qi,qa,qt⟩:Request).op 0 8)=true:=by rw[hg];rfl
 obtain ⟨x,p,rfl,hp,wx⟩:=vh
 subst hp
 rcases wx.found (fun t=>decide (t.lo≤qi)&&decide (qi≤t.hi)) with q | ⟨i,q,hi,hpi,_⟩
 ·change Waz s.shards qi= -1 at q
  rw[WbU hin q]
  rw[q] at e3
  simp only[rn,RO.dst,lk,drop,Nat.reduceBEq,Nat.reduceAdd,Nat.reduceLeDiff,↓reduceIte,reduceCtorEq,Qc,Qf,Qe,Qb,Qa,Int.reduceLT,Int.reduceLE,Int.reduceGT,Int.reduceGE,Int.reduceBEq,Int.reduceBNe,Int.reduceEq,Int.reduceNe,Int.reduceNeg,l1,l2,l3,e1,e2,e3,eI]
  exact ⟨_,_,_,rfl,o1,⟨y,_,rfl,rfl,w⟩,f1⟩
 change Waz s.shards qi=(i:Int) at q
 rw[q] at e3
 rw[dost_at hin q,Shard.at_get hi]
 have g0: ¬(i:Int)<0:=by omega
 have hxi:=wx.idx hi
 have hyi:=w.idx hi
 have okX:=ok.shards _ (Qd hi)
 have smX:=sm.2 _ (Qd hi)
 have smf:s.shards[i].finished.length≤1048576:=smX.2
 have smb:s.shards[i].book.list.length≤1048576:=smX.1
 have hgd:s.shards[i].good=true:=by
  have:=Store.fit_at hg hi
  simp only[Store.fits,Qg,Shard.at_get hi] at this
  exact this.1
 have hso:=Shard.good_sorted hgd
 have hbk:Wap s.shards[i].book.list=true:=by
  simp only[Qg,Shard.good,Shard.head] at hgd
  exact hgd.1.2.2.2.1
 obtain ⟨r,fx,hld,hR0,_⟩:=wx.one hi
 obtain ⟨cs4,h4,ft,e4,o4,u4,f4⟩:=WaF (Z:=Z) k.s10 k.s13 (o1.le hf) hR0 smX
 obtain ⟨xb,pb,xf,pf,rfl,rfl,wb,wf⟩:=hR0
 obtain ⟨b4,pb4,f4c,pf4,rfl,hq4,wb4,wf4⟩:=u4
 subst hq4
 obtain ⟨n4a,n4b,n4c⟩:=Ql.1 f4.nd
 have o04:=o1.trans o4
 have o4h:=o04.le
 have w4:=w.on Shard.okI o4
 have lt4:=w4.lt Shard.okI
 have lt4f:=wf4.lt (Fl.ok _)
 have eC:=WbA (F:=F) (Z:=Z) k.s13 wf4 ⟨qt,qi⟩
 simp only[Fin.enc] at eC
 have hlen:=wf4.len
 cases cA:(s.shards[i].epoch !=qe) with
 | true=>
   have cA':(s.shards[i].epoch==qe)=false:=by simpa using cA
   have hR:refuse s.shards[i] ⟨qe,2,qi,qa,qt⟩=9:=by simp[refuse,inR,Request.ends,Request.fin,cA']
   rw[hR]
   simp only[show ((9:Int)==0)=false from rfl,cond_false]
   simp only[rn,RO.dst,lk,drop,Nat.reduceBEq,Nat.reduceAdd,Nat.reduceLeDiff,↓reduceIte,reduceCtorEq,Qc,Qf,Qe,Qb,Qa,Int.reduceLT,Int.reduceLE,Int.reduceGT,Int.reduceGE,Int.reduceBEq,Int.reduceBNe,Int.reduceEq,Int.reduceNe,Int.reduceNeg,l1,l2,l3,e1,e2,e3,eI,hxi,hld,e4,eC,hlen,g0,cA]
   exact ⟨_,_,_,rfl,o04,⟨y,_,rfl,rfl,w4⟩,f1⟩
 | false=>
 have cA':(s.shards[i].epoch==qe)=true:=by simpa using cA
 cases cB:(s.shards[i].state==1) with
 | true=>
   have hR:refuse s.shards[i] ⟨qe,2,qi,qa,qt⟩=10:=by simp[refuse,inR,Request.ends,Request.fin,cA',cB]
   rw[hR]
   simp only[show ((10:Int)==0)=false from rfl,cond_false]
   simp only[rn,RO.dst,lk,drop,Nat.reduceBEq,Nat.reduceAdd,Nat.reduceLeDiff,↓reduceIte,reduceCtorEq,Qc,Qf,Qe,Qb,Qa,Int.reduceLT,Int.reduceLE,Int.reduceGT,Int.reduceGE,Int.reduceBEq,Int.reduceBNe,Int.reduceEq,Int.reduceNe,Int.reduceNeg,l1,l2,l3,e1,e2,e3,eI,hxi,hld,e4,eC,hlen,g0,cA,cB]
   exact ⟨_,_,_,rfl,o04,⟨y,_,rfl,rfl,w4⟩,f1⟩
 | false=>
 have hR:refuse s.shards[i] ⟨qe,2,qi,qa,qt⟩=0:=by simp[refuse,inR,Request.ends,Request.fin,cA',cB]
 rw[hR]
 simp only[beq_self_eq_true,cond_true]
 obtain ⟨yb,h5,fb,e5,o5,u5,f5⟩:=sDeposit_c (Z:=Z) k.s10 (o4h hf) wb4 qi qa okq.amount okX.book.list smb
 have ltb:=u5.lt (Fl.ok _)
 have hA:WaW s.shards[i] ⟨qe,2,qi,qa,qt⟩=⟨s.shards[i].lo,s.shards[i].hi,s.shards[i].state,s.shards[i].epoch,⟨(Waq s.shards[i].book.list ⟨qe,2,qi,qa,qt⟩).1⟩,s.shards[i].finished⟩:=by simp[WaW,Request.ends,Request.fin,cA',cB]
 obtain ⟨g,fq,st,og,fg,w7,u7⟩:=row_set (h:=h) (o04.trans o5) hf (w4.on Shard.okI o5) f1 hi u5 (wf4.on (Fl.ok _) o5) (Ql.2 ⟨f5.nd,n4b,fun a ha b hb e=>by subst e;have:=f5.lo a ha;have:=lt4f a hb;omega⟩) (fun id hid=>by
  rcases Qn.1 hid with h1 | h1
  ·have:=f5.lo id h1;have:=o4.ext.1;omega
  ·exact f4.lo id (Qw _ h1)) (n:=h1.next) (w.lt Shard.okI) o1.ext.1
 rw[hA]
 have eA:=WaO (F:=F) (Z:=Z) k.s10 u7 qi
 rcases WbR (a:=qi) (WbC hbk ⟨qe,2,qi,qa,qt⟩) with ⟨v1,v2⟩ | ⟨v1,v2,v3,v4⟩ | ⟨v1,j,v2,v3,v4,v5,v6⟩
 ·have v1':((Waq s.shards[i].book.list ⟨qe,2,qi,qa,qt⟩).2==0)=false:=by simpa using v1
  rw[v2]
  change ((WaX s.shards[i].book.list qi (depF qa)).2==0)=false at v1'
  simp only[rn,RO.dst,lk,drop,Nat.reduceBEq,Nat.reduceAdd,Nat.reduceLeDiff,↓reduceIte,reduceCtorEq,Qc,Qf,Qe,Qb,Qa,Int.reduceLT,Int.reduceLE,Int.reduceGT,Int.reduceGE,Int.reduceBEq,Int.reduceBNe,Int.reduceEq,Int.reduceNe,Int.reduceNeg,l1,l2,l3,e1,e2,e3,eI,hxi,hld,e4,eC,hlen,g0,cA,cB,e5,hyi,st,eA,v1']
  exact ⟨_,_,_,rfl,og,⟨y,_,rfl,rfl,w7⟩,fg⟩
 ·have v1':((Waq s.shards[i].book.list ⟨qe,2,qi,qa,qt⟩).2==0)=true:=by simpa using v1
  rw[v4]
  change ((WaX s.shards[i].book.list qi (depF qa)).2==0)=true at v1'
  change WaT (WaX s.shards[i].book.list qi (depF qa)).1 qi= -1 at v3
  rw[v3] at eA
  simp only[rn,RO.dst,lk,drop,Nat.reduceBEq,Nat.reduceAdd,Nat.reduceLeDiff,↓reduceIte,reduceCtorEq,Qc,Qf,Qe,Qb,Qa,Int.reduceLT,Int.reduceLE,Int.reduceGT,Int.reduceGE,Int.reduceBEq,Int.reduceBNe,Int.reduceEq,Int.reduceNe,Int.reduceNeg,l1,l2,l3,e1,e2,e3,eI,hxi,hld,e4,eC,hlen,g0,cA,cB,e5,hyi,st,eA,v1']
  exact ⟨_,_,_,rfl,og,⟨y,_,rfl,rfl,w7⟩,fg⟩
 ·have v1':((Waq s.shards[i].book.list ⟨qe,2,qi,qa,qt⟩).2==0)=true:=by simpa using v1
  rw[v6,Account.at_get v5]
  change ((WaX s.shards[i].book.list qi (depF qa)).2==0)=true at v1'
  change WaT (WaX s.shards[i].book.list qi (depF qa)).1 qi=(j:Int) at v4
  have g1:(j:Int)≥0:=by omega
  rw[v4] at eA
  have hx:=u7.idx v5
  have hl:=u7.load v5
  simp only[Account.enc] at hl
  simp only[rn,RO.dst,lk,drop,Nat.reduceBEq,Nat.reduceAdd,Nat.reduceLeDiff,↓reduceIte,reduceCtorEq,Qc,Qf,Qe,Qb,Qa,Int.reduceLT,Int.reduceLE,Int.reduceGT,Int.reduceGE,Int.reduceBEq,Int.reduceBNe,Int.reduceEq,Int.reduceNe,Int.reduceNeg,l1,l2,l3,e1,e2,e3,eI,hxi,hld,e4,eC,hlen,g0,cA,cB,e5,hyi,st,eA,v1',g1,hx,hl]
  exact ⟨_,_,_,rfl,og,⟨y,_,rfl,rfl,w7⟩,fg⟩
end
section
variable {F:Nat→Option RF} {Z:Waf} {h:Heap} {cs:List Cell} {fp:List Nat} {s:Store}
set_option maxHeartbeats 4000000 in
set_option maxRecDepth 8000 in
theorem sdo_op3 (k:KS F) (hf:h.floor≤h.next) (v:Store.RI h cs s fp) (qe qi qa qt:Int) (okq:(⟨qe,3,qi,qa,qt⟩:Request).Ok) (ok:s.Ok) (sm:s.Small):
 WaG F Z h cs s ⟨qe,3,qi,qa,qt⟩:=by
 unfold WaG
 obtain ⟨l1,l2,l3⟩:=Store.lenI v
 obtain ⟨cs1,h1,fr,e1,o1,v1,f1⟩:=WaZ (Z:=Z) k hf v sm
 have vh:=Store.okI.on v o1
 have e2:=WaK (Z:=Z) k vh ok
 have e3:=Wbs (Z:=Z) k.s13 vh qi
 have eI:=fun (lo hi:Int) (h:Heap)=>Wbd (F:=F) (Z:=Z) k.s01 3 lo hi h
 simp only[inR] at eI
 obtain ⟨y,p,rfl,hp,w⟩:=v1
 subst hp
 rw[Wac F Z (k.s13.lk (g:=381) rfl) _ _ rfl]
 simp only[Request.enc]
 cases hg:s.good with
 | false=>
   rw[hg] at e2
   rw[Wcj (by simp[hg])]
   simp only[rn,RO.dst,lk,drop,Nat.reduceBEq,Nat.reduceAdd,Nat.reduceLeDiff,↓reduceIte,reduceCtorEq,Qc,Qf,Qe,Qb,Qa,Int.reduceLT,Int.reduceLE,Int.reduceGT,Int.reduceGE,Int.reduceBEq,Int.reduceBNe,Int.reduceEq,Int.reduceNe,Int.reduceNeg,l1,l2,l3,e1,e2]
   exact ⟨_,_,_,rfl,o1,⟨y,_,rfl,rfl,w⟩,f1⟩
 | true=>
 rw[hg] at e2
 have hin:(s.good&&inR (⟨qe,3,qi,qa,qt⟩:Request).op 0 8)=true:=by rw[hg];rfl
 obtain ⟨x,p,rfl,hp,wx⟩:=vh
 subst hp
 rcases wx.found (fun t=>decide (t.lo≤qi)&&decide (qi≤t.hi)) with q | ⟨i,q,hi,hpi,_⟩
 ·change Waz s.shards qi= -1 at q
  rw[WbU hin q]
  rw[q] at e3
  simp only[rn,RO.dst,lk,drop,Nat.reduceBEq,Nat.reduceAdd,Nat.reduceLeDiff,↓reduceIte,reduceCtorEq,Qc,Qf,Qe,Qb,Qa,Int.reduceLT,Int.reduceLE,Int.reduceGT,Int.reduceGE,Int.reduceBEq,Int.reduceBNe,Int.reduceEq,Int.reduceNe,Int.reduceNeg,l1,l2,l3,e1,e2,e3,eI]
  exact ⟨_,_,_,rfl,o1,⟨y,_,rfl,rfl,w⟩,f1⟩
 change Waz s.shards qi=(i:Int) at q
 rw[q] at e3
 rw[dost_at hin q,Shard.at_get hi]
 have g0: ¬(i:Int)<0:=by omega
 have hxi:=wx.idx hi
 have hyi:=w.idx hi
 have okX:=ok.shards _ (Qd hi)
 have smX:=sm.2 _ (Qd hi)
 have smf:s.shards[i].finished.length≤1048576:=smX.2
 have smb:s.shards[i].book.list.length≤1048576:=smX.1
 have hgd:s.shards[i].good=true:=by
  have:=Store.fit_at hg hi
  simp only[Store.fits,Qg,Shard.at_get hi] at this
  exact this.1
 have hso:=Shard.good_sorted hgd
 have hbk:Wap s.shards[i].book.list=true:=by
  simp only[Qg,Shard.good,Shard.head] at hgd
  exact hgd.1.2.2.2.1
 obtain ⟨r,fx,hld,hR0,_⟩:=wx.one hi
 obtain ⟨cs4,h4,ft,e4,o4,u4,f4⟩:=WaF (Z:=Z) k.s10 k.s13 (o1.le hf) hR0 smX
 obtain ⟨xb,pb,xf,pf,rfl,rfl,wb,wf⟩:=hR0
 obtain ⟨b4,pb4,f4c,pf4,rfl,hq4,wb4,wf4⟩:=u4
 subst hq4
 obtain ⟨n4a,n4b,n4c⟩:=Ql.1 f4.nd
 have o04:=o1.trans o4
 have o4h:=o04.le
 have w4:=w.on Shard.okI o4
 have lt4:=w4.lt Shard.okI
 have lt4f:=wf4.lt (Fl.ok _)
 have eC:=WbA (F:=F) (Z:=Z) k.s13 wf4 ⟨qt,qi⟩
 simp only[Fin.enc] at eC
 have hlen:=wf4.len
 cases cA:(s.shards[i].epoch !=qe) with
 | true=>
   have cA':(s.shards[i].epoch==qe)=false:=by simpa using cA
   have hR:refuse s.shards[i] ⟨qe,3,qi,qa,qt⟩=9:=by simp[refuse,inR,Request.ends,Request.fin,cA']
   rw[hR]
   simp only[show ((9:Int)==0)=false from rfl,cond_false]
   simp only[rn,RO.dst,lk,drop,Nat.reduceBEq,Nat.reduceAdd,Nat.reduceLeDiff,↓reduceIte,reduceCtorEq,Qc,Qf,Qe,Qb,Qa,Int.reduceLT,Int.reduceLE,Int.reduceGT,Int.reduceGE,Int.reduceBEq,Int.reduceBNe,Int.reduceEq,Int.reduceNe,Int.reduceNeg,l1,l2,l3,e1,e2,e3,eI,hxi,hld,e4,eC,hlen,g0,cA]
   exact ⟨_,_,_,rfl,o04,⟨y,_,rfl,rfl,w4⟩,f1⟩
 | false=>
 have cA':(s.shards[i].epoch==qe)=true:=by simpa using cA
 cases cB:(s.shards[i].state==1) with
 | true=>
   have hR:refuse s.shards[i] ⟨qe,3,qi,qa,qt⟩=10:=by simp[refuse,inR,Request.ends,Request.fin,cA',cB]
   rw[hR]
   simp only[show ((10:Int)==0)=false from rfl,cond_false]
   simp only[rn,RO.dst,lk,drop,Nat.reduceBEq,Nat.reduceAdd,Nat.reduceLeDiff,↓reduceIte,reduceCtorEq,Qc,Qf,Qe,Qb,Qa,Int.reduceLT,Int.reduceLE,Int.reduceGT,Int.reduceGE,Int.reduceBEq,Int.reduceBNe,Int.reduceEq,Int.reduceNe,Int.reduceNeg,l1,l2,l3,e1,e2,e3,eI,hxi,hld,e4,eC,hlen,g0,cA,cB]
   exact ⟨_,_,_,rfl,o04,⟨y,_,rfl,rfl,w4⟩,f1⟩
 | false=>
 have hR:refuse s.shards[i] ⟨qe,3,qi,qa,qt⟩=0:=by simp[refuse,inR,Request.ends,Request.fin,cA',cB]
 rw[hR]
 simp only[beq_self_eq_true,cond_true]
 obtain ⟨yb,h5,fb,e5,o5,u5,f5⟩:=sWithdraw_c (Z:=Z) k.s10 (o4h hf) wb4 qi qa okq.amount okX.book.list smb
 have ltb:=u5.lt (Fl.ok _)
 have hA:WaW s.shards[i] ⟨qe,3,qi,qa,qt⟩=⟨s.shards[i].lo,s.shards[i].hi,s.shards[i].state,s.shards[i].epoch,⟨(Waq s.shards[i].book.list ⟨qe,3,qi,qa,qt⟩).1⟩,s.shards[i].finished⟩:=by simp[WaW,Request.ends,Request.fin,cA',cB]
 obtain ⟨g,fq,st,og,fg,w7,u7⟩:=row_set (h:=h) (o04.trans o5) hf (w4.on Shard.okI o5) f1 hi u5 (wf4.on (Fl.ok _) o5) (Ql.2 ⟨f5.nd,n4b,fun a ha b hb e=>by subst e;have:=f5.lo a ha;have:=lt4f a hb;omega⟩) (fun id hid=>by
  rcases Qn.1 hid with h1 | h1
  ·have:=f5.lo id h1;have:=o4.ext.1;omega
  ·exact f4.lo id (Qw _ h1)) (n:=h1.next) (w.lt Shard.okI) o1.ext.1
 rw[hA]
 have eA:=WaO (F:=F) (Z:=Z) k.s10 u7 qi
 rcases WbR (a:=qi) (WbC hbk ⟨qe,3,qi,qa,qt⟩) with ⟨v1,v2⟩ | ⟨v1,v2,v3,v4⟩ | ⟨v1,j,v2,v3,v4,v5,v6⟩
 ·have v1':((Waq s.shards[i].book.list ⟨qe,3,qi,qa,qt⟩).2==0)=false:=by simpa using v1
  rw[v2]
  change ((WaX s.shards[i].book.list qi (witF qa)).2==0)=false at v1'
  simp only[rn,RO.dst,lk,drop,Nat.reduceBEq,Nat.reduceAdd,Nat.reduceLeDiff,↓reduceIte,reduceCtorEq,Qc,Qf,Qe,Qb,Qa,Int.reduceLT,Int.reduceLE,Int.reduceGT,Int.reduceGE,Int.reduceBEq,Int.reduceBNe,Int.reduceEq,Int.reduceNe,Int.reduceNeg,l1,l2,l3,e1,e2,e3,eI,hxi,hld,e4,eC,hlen,g0,cA,cB,e5,hyi,st,eA,v1']
  exact ⟨_,_,_,rfl,og,⟨y,_,rfl,rfl,w7⟩,fg⟩
 ·have v1':((Waq s.shards[i].book.list ⟨qe,3,qi,qa,qt⟩).2==0)=true:=by simpa using v1
  rw[v4]
  change ((WaX s.shards[i].book.list qi (witF qa)).2==0)=true at v1'
  change WaT (WaX s.shards[i].book.list qi (witF qa)).1 qi= -1 at v3
  rw[v3] at eA
  simp only[rn,RO.dst,lk,drop,Nat.reduceBEq,Nat.reduceAdd,Nat.reduceLeDiff,↓reduceIte,reduceCtorEq,Qc,Qf,Qe,Qb,Qa,Int.reduceLT,Int.reduceLE,Int.reduceGT,Int.reduceGE,Int.reduceBEq,Int.reduceBNe,Int.reduceEq,Int.reduceNe,Int.reduceNeg,l1,l2,l3,e1,e2,e3,eI,hxi,hld,e4,eC,hlen,g0,cA,cB,e5,hyi,st,eA,v1']
  exact ⟨_,_,_,rfl,og,⟨y,_,rfl,rfl,w7⟩,fg⟩
 ·have v1':((Waq s.shards[i].book.list ⟨qe,3,qi,qa,qt⟩).2==0)=true:=by simpa using v1
  rw[v6,Account.at_get v5]
  change ((WaX s.shards[i].book.list qi (witF qa)).2==0)=true at v1'
  change WaT (WaX s.shards[i].book.list qi (witF qa)).1 qi=(j:Int) at v4
  have g1:(j:Int)≥0:=by omega
  rw[v4] at eA
  have hx:=u7.idx v5
  have hl:=u7.load v5
  simp only[Account.enc] at hl
  simp only[rn,RO.dst,lk,drop,Nat.reduceBEq,Nat.reduceAdd,Nat.reduceLeDiff,↓reduceIte,reduceCtorEq,Qc,Qf,Qe,Qb,Qa,Int.reduceLT,Int.reduceLE,Int.reduceGT,Int.reduceGE,Int.reduceBEq,Int.reduceBNe,Int.reduceEq,Int.reduceNe,Int.reduceNeg,l1,l2,l3,e1,e2,e3,eI,hxi,hld,e4,eC,hlen,g0,cA,cB,e5,hyi,st,eA,v1',g1,hx,hl]
  exact ⟨_,_,_,rfl,og,⟨y,_,rfl,rfl,w7⟩,fg⟩
set_option maxHeartbeats 4000000 in
set_option maxRecDepth 8000 in
theorem sdo_op4 (k:KS F) (hf:h.floor≤h.next) (v:Store.RI h cs s fp) (qe qi qa qt:Int) (okq:(⟨qe,4,qi,qa,qt⟩:Request).Ok) (ok:s.Ok) (sm:s.Small):
 WaG F Z h cs s ⟨qe,4,qi,qa,qt⟩:=by
 unfold WaG
 obtain ⟨l1,l2,l3⟩:=Store.lenI v
 obtain ⟨cs1,h1,fr,e1,o1,v1,f1⟩:=WaZ (Z:=Z) k hf v sm
 have vh:=Store.okI.on v o1
 have e2:=WaK (Z:=Z) k vh ok
 have e3:=Wbs (Z:=Z) k.s13 vh qi
 have eI:=fun (lo hi:Int) (h:Heap)=>Wbd (F:=F) (Z:=Z) k.s01 4 lo hi h
 simp only[inR] at eI
 obtain ⟨y,p,rfl,hp,w⟩:=v1
 subst hp
 rw[Wac F Z (k.s13.lk (g:=381) rfl) _ _ rfl]
 simp only[Request.enc]
 cases hg:s.good with
 | false=>
   rw[hg] at e2
   rw[Wcj (by simp[hg])]
   simp only[rn,RO.dst,lk,drop,Nat.reduceBEq,Nat.reduceAdd,Nat.reduceLeDiff,↓reduceIte,reduceCtorEq,Qc,Qf,Qe,Qb,Qa,Int.reduceLT,Int.reduceLE,Int.reduceGT,Int.reduceGE,Int.reduceBEq,Int.reduceBNe,Int.reduceEq,Int.reduceNe,Int.reduceNeg,l1,l2,l3,e1,e2]
   exact ⟨_,_,_,rfl,o1,⟨y,_,rfl,rfl,w⟩,f1⟩
 | true=>
 rw[hg] at e2
 have hin:(s.good&&inR (⟨qe,4,qi,qa,qt⟩:Request).op 0 8)=true:=by rw[hg];rfl
 obtain ⟨x,p,rfl,hp,wx⟩:=vh
 subst hp
 rcases wx.found (fun t=>decide (t.lo≤qi)&&decide (qi≤t.hi)) with q | ⟨i,q,hi,hpi,_⟩
 ·change Waz s.shards qi= -1 at q
  rw[WbU hin q]
  rw[q] at e3
  simp only[rn,RO.dst,lk,drop,Nat.reduceBEq,Nat.reduceAdd,Nat.reduceLeDiff,↓reduceIte,reduceCtorEq,Qc,Qf,Qe,Qb,Qa,Int.reduceLT,Int.reduceLE,Int.reduceGT,Int.reduceGE,Int.reduceBEq,Int.reduceBNe,Int.reduceEq,Int.reduceNe,Int.reduceNeg,l1,l2,l3,e1,e2,e3,eI]
  exact ⟨_,_,_,rfl,o1,⟨y,_,rfl,rfl,w⟩,f1⟩
 change Waz s.shards qi=(i:Int) at q
 rw[q] at e3
 rw[dost_at hin q,Shard.at_get hi]
 have g0: ¬(i:Int)<0:=by omega
 have hxi:=wx.idx hi
 have hyi:=w.idx hi
 have okX:=ok.shards _ (Qd hi)
 have smX:=sm.2 _ (Qd hi)
 have smf:s.shards[i].finished.length≤1048576:=smX.2
 have smb:s.shards[i].book.list.length≤1048576:=smX.1
 have hgd:s.shards[i].good=true:=by
  have:=Store.fit_at hg hi
  simp only[Store.fits,Qg,Shard.at_get hi] at this
  exact this.1
 have hso:=Shard.good_sorted hgd
 have hbk:Wap s.shards[i].book.list=true:=by
  simp only[Qg,Shard.good,Shard.head] at hgd
  exact hgd.1.2.2.2.1
 obtain ⟨r,fx,hld,hR0,_⟩:=wx.one hi
 obtain ⟨cs4,h4,ft,e4,o4,u4,f4⟩:=WaF (Z:=Z) k.s10 k.s13 (o1.le hf) hR0 smX
 obtain ⟨xb,pb,xf,pf,rfl,rfl,wb,wf⟩:=hR0
 obtain ⟨b4,pb4,f4c,pf4,rfl,hq4,wb4,wf4⟩:=u4
 subst hq4
 obtain ⟨n4a,n4b,n4c⟩:=Ql.1 f4.nd
 have o04:=o1.trans o4
 have o4h:=o04.le
 have w4:=w.on Shard.okI o4
 have lt4:=w4.lt Shard.okI
 have lt4f:=wf4.lt (Fl.ok _)
 have eC:=WbA (F:=F) (Z:=Z) k.s13 wf4 ⟨qt,qi⟩
 simp only[Fin.enc] at eC
 have hlen:=wf4.len
 cases cA:(s.shards[i].epoch !=qe) with
 | true=>
   have cA':(s.shards[i].epoch==qe)=false:=by simpa using cA
   have hR:refuse s.shards[i] ⟨qe,4,qi,qa,qt⟩=9:=by simp[refuse,inR,Request.ends,Request.fin,cA']
   rw[hR]
   simp only[show ((9:Int)==0)=false from rfl,cond_false]
   simp only[rn,RO.dst,lk,drop,Nat.reduceBEq,Nat.reduceAdd,Nat.reduceLeDiff,↓reduceIte,reduceCtorEq,Qc,Qf,Qe,Qb,Qa,Int.reduceLT,Int.reduceLE,Int.reduceGT,Int.reduceGE,Int.reduceBEq,Int.reduceBNe,Int.reduceEq,Int.reduceNe,Int.reduceNeg,l1,l2,l3,e1,e2,e3,eI,hxi,hld,e4,eC,hlen,g0,cA]
   exact ⟨_,_,_,rfl,o04,⟨y,_,rfl,rfl,w4⟩,f1⟩
 | false=>
 have cA':(s.shards[i].epoch==qe)=true:=by simpa using cA
 cases cB:(s.shards[i].state==1) with
 | true=>
   have hR:refuse s.shards[i] ⟨qe,4,qi,qa,qt⟩=10:=by simp[refuse,inR,Request.ends,Request.fin,cA',cB]
   rw[hR]
   simp only[show ((10:Int)==0)=false from rfl,cond_false]
   simp only[rn,RO.dst,lk,drop,Nat.reduceBEq,Nat.reduceAdd,Nat.reduceLeDiff,↓reduceIte,reduceCtorEq,Qc,Qf,Qe,Qb,Qa,Int.reduceLT,Int.reduceLE,Int.reduceGT,Int.reduceGE,Int.reduceBEq,Int.reduceBNe,Int.reduceEq,Int.reduceNe,Int.reduceNeg,l1,l2,l3,e1,e2,e3,eI,hxi,hld,e4,eC,hlen,g0,cA,cB]
   exact ⟨_,_,_,rfl,o04,⟨y,_,rfl,rfl,w4⟩,f1⟩
 | false=>
 by_cases cC:qt<1
 ·have hR:refuse s.shards[i] ⟨qe,4,qi,qa,qt⟩=11:=by simp[refuse,inR,Request.ends,Request.fin,cA',cB,cC]
  rw[hR]
  simp only[show ((11:Int)==0)=false from rfl,cond_false]
  simp only[rn,RO.dst,lk,drop,Nat.reduceBEq,Nat.reduceAdd,Nat.reduceLeDiff,↓reduceIte,reduceCtorEq,Qc,Qf,Qe,Qb,Qa,Int.reduceLT,Int.reduceLE,Int.reduceGT,Int.reduceGE,Int.reduceBEq,Int.reduceBNe,Int.reduceEq,Int.reduceNe,Int.reduceNeg,l1,l2,l3,e1,e2,e3,eI,hxi,hld,e4,eC,hlen,g0,cA,cB,cC]
  exact ⟨_,_,_,rfl,o04,⟨y,_,rfl,rfl,w4⟩,f1⟩
 by_cases cD:(⟨qt,qi⟩:Fin)∈s.shards[i].finished
 ·have hR:refuse s.shards[i] ⟨qe,4,qi,qa,qt⟩=12:=by simp[refuse,inR,Request.ends,Request.fin,cA',cB,cC,cD]
  rw[hR]
  simp only[show ((12:Int)==0)=false from rfl,cond_false]
  simp only[rn,RO.dst,lk,drop,Nat.reduceBEq,Nat.reduceAdd,Nat.reduceLeDiff,↓reduceIte,reduceCtorEq,Qc,Qf,Qe,Qb,Qa,Int.reduceLT,Int.reduceLE,Int.reduceGT,Int.reduceGE,Int.reduceBEq,Int.reduceBNe,Int.reduceEq,Int.reduceNe,Int.reduceNeg,l1,l2,l3,e1,e2,e3,eI,hxi,hld,e4,eC,hlen,g0,cA,cB,cC,cD]
  exact ⟨_,_,_,rfl,o04,⟨y,_,rfl,rfl,w4⟩,f1⟩
 have hR:refuse s.shards[i] ⟨qe,4,qi,qa,qt⟩=0:=by simp[refuse,inR,Request.ends,Request.fin,cA',cB,cC,cD]
 rw[hR]
 simp only[beq_self_eq_true,cond_true]
 obtain ⟨yb,h5,fb,e5,o5,u5,f5⟩:=sLockDebit_c (Z:=Z) k.s10 (o4h hf) wb4 qi qa qt okq.amount okX.book.list smb
 have ltb:=u5.lt (Fl.ok _)
 have hA:WaW s.shards[i] ⟨qe,4,qi,qa,qt⟩=⟨s.shards[i].lo,s.shards[i].hi,s.shards[i].state,s.shards[i].epoch,⟨(Waq s.shards[i].book.list ⟨qe,4,qi,qa,qt⟩).1⟩,s.shards[i].finished⟩:=by simp[WaW,Request.ends,Request.fin,cA',cB,cC,cD]
 obtain ⟨g,fq,st,og,fg,w7,u7⟩:=row_set (h:=h) (o04.trans o5) hf (w4.on Shard.okI o5) f1 hi u5 (wf4.on (Fl.ok _) o5) (Ql.2 ⟨f5.nd,n4b,fun a ha b hb e=>by subst e;have:=f5.lo a ha;have:=lt4f a hb;omega⟩) (fun id hid=>by
  rcases Qn.1 hid with h1 | h1
  ·have:=f5.lo id h1;have:=o4.ext.1;omega
  ·exact f4.lo id (Qw _ h1)) (n:=h1.next) (w.lt Shard.okI) o1.ext.1
 rw[hA]
 have eA:=WaO (F:=F) (Z:=Z) k.s10 u7 qi
 rcases WbR (a:=qi) (WbC hbk ⟨qe,4,qi,qa,qt⟩) with ⟨v1,v2⟩ | ⟨v1,v2,v3,v4⟩ | ⟨v1,j,v2,v3,v4,v5,v6⟩
 ·have v1':((Waq s.shards[i].book.list ⟨qe,4,qi,qa,qt⟩).2==0)=false:=by simpa using v1
  rw[v2]
  change ((WaJ s.shards[i].book.list qi qt (lockDF qa qt)).2==0)=false at v1'
  simp only[rn,RO.dst,lk,drop,Nat.reduceBEq,Nat.reduceAdd,Nat.reduceLeDiff,↓reduceIte,reduceCtorEq,Qc,Qf,Qe,Qb,Qa,Int.reduceLT,Int.reduceLE,Int.reduceGT,Int.reduceGE,Int.reduceBEq,Int.reduceBNe,Int.reduceEq,Int.reduceNe,Int.reduceNeg,l1,l2,l3,e1,e2,e3,eI,hxi,hld,e4,eC,hlen,g0,cA,cB,cC,cD,e5,hyi,st,eA,v1']
  exact ⟨_,_,_,rfl,og,⟨y,_,rfl,rfl,w7⟩,fg⟩
 ·have v1':((Waq s.shards[i].book.list ⟨qe,4,qi,qa,qt⟩).2==0)=true:=by simpa using v1
  rw[v4]
  change ((WaJ s.shards[i].book.list qi qt (lockDF qa qt)).2==0)=true at v1'
  change WaT (WaJ s.shards[i].book.list qi qt (lockDF qa qt)).1 qi= -1 at v3
  rw[v3] at eA
  simp only[rn,RO.dst,lk,drop,Nat.reduceBEq,Nat.reduceAdd,Nat.reduceLeDiff,↓reduceIte,reduceCtorEq,Qc,Qf,Qe,Qb,Qa,Int.reduceLT,Int.reduceLE,Int.reduceGT,Int.reduceGE,Int.reduceBEq,Int.reduceBNe,Int.reduceEq,Int.reduceNe,Int.reduceNeg,l1,l2,l3,e1,e2,e3,eI,hxi,hld,e4,eC,hlen,g0,cA,cB,cC,cD,e5,hyi,st,eA,v1']
  exact ⟨_,_,_,rfl,og,⟨y,_,rfl,rfl,w7⟩,fg⟩
 ·have v1':((Waq s.shards[i].book.list ⟨qe,4,qi,qa,qt⟩).2==0)=true:=by simpa using v1
  rw[v6,Account.at_get v5]
  change ((WaJ s.shards[i].book.list qi qt (lockDF qa qt)).2==0)=true at v1'
  change WaT (WaJ s.shards[i].book.list qi qt (lockDF qa qt)).1 qi=(j:Int) at v4
  have g1:(j:Int)≥0:=by omega
  rw[v4] at eA
  have hx:=u7.idx v5
  have hl:=u7.load v5
  simp only[Account.enc] at hl
  simp only[rn,RO.dst,lk,drop,Nat.reduceBEq,Nat.reduceAdd,Nat.reduceLeDiff,↓reduceIte,reduceCtorEq,Qc,Qf,Qe,Qb,Qa,Int.reduceLT,Int.reduceLE,Int.reduceGT,Int.reduceGE,Int.reduceBEq,Int.reduceBNe,Int.reduceEq,Int.reduceNe,Int.reduceNeg,l1,l2,l3,e1,e2,e3,eI,hxi,hld,e4,eC,hlen,g0,cA,cB,cC,cD,e5,hyi,st,eA,v1',g1,hx,hl]
  exact ⟨_,_,_,rfl,og,⟨y,_,rfl,rfl,w7⟩,fg⟩
set_option maxHeartbeats 4000000 in
set_option maxRecDepth 8000 in
theorem sdo_op5 (k:KS F) (hf:h.floor≤h.next) (v:Store.RI h cs s fp) (qe qi qa qt:Int) (okq:(⟨qe,5,qi,qa,qt⟩:Request).Ok) (ok:s.Ok) (sm:s.Small):
 WaG F Z h cs s ⟨qe,5,qi,qa,qt⟩:=by
 unfold WaG
 obtain ⟨l1,l2,l3⟩:=Store.lenI v
 obtain ⟨cs1,h1,fr,e1,o1,v1,f1⟩:=WaZ (Z:=Z) k hf v sm
 have vh:=Store.okI.on v o1
 have e2:=WaK (Z:=Z) k vh ok
 have e3:=Wbs (Z:=Z) k.s13 vh qi
 have eI:=fun (lo hi:Int) (h:Heap)=>Wbd (F:=F) (Z:=Z) k.s01 5 lo hi h
 simp only[inR] at eI
 obtain ⟨y,p,rfl,hp,w⟩:=v1
 subst hp
 rw[Wac F Z (k.s13.lk (g:=381) rfl) _ _ rfl]
 simp only[Request.enc]
 cases hg:s.good with
 | false=>
   rw[hg] at e2
   rw[Wcj (by simp[hg])]
   simp only[rn,RO.dst,lk,drop,Nat.reduceBEq,Nat.reduceAdd,Nat.reduceLeDiff,↓reduceIte,reduceCtorEq,Qc,Qf,Qe,Qb,Qa,Int.reduceLT,Int.reduceLE,Int.reduceGT,Int.reduceGE,Int.reduceBEq,Int.reduceBNe,Int.reduceEq,Int.reduceNe,Int.reduceNeg,l1,l2,l3,e1,e2]
   exact ⟨_,_,_,rfl,o1,⟨y,_,rfl,rfl,w⟩,f1⟩
 | true=>
 rw[hg] at e2
 have hin:(s.good&&inR (⟨qe,5,qi,qa,qt⟩:Request).op 0 8)=true:=by rw[hg];rfl
 obtain ⟨x,p,rfl,hp,wx⟩:=vh
 subst hp
 rcases wx.found (fun t=>decide (t.lo≤qi)&&decide (qi≤t.hi)) with q | ⟨i,q,hi,hpi,_⟩
 ·change Waz s.shards qi= -1 at q
  rw[WbU hin q]
  rw[q] at e3
  simp only[rn,RO.dst,lk,drop,Nat.reduceBEq,Nat.reduceAdd,Nat.reduceLeDiff,↓reduceIte,reduceCtorEq,Qc,Qf,Qe,Qb,Qa,Int.reduceLT,Int.reduceLE,Int.reduceGT,Int.reduceGE,Int.reduceBEq,Int.reduceBNe,Int.reduceEq,Int.reduceNe,Int.reduceNeg,l1,l2,l3,e1,e2,e3,eI]
  exact ⟨_,_,_,rfl,o1,⟨y,_,rfl,rfl,w⟩,f1⟩
 change Waz s.shards qi=(i:Int) at q
 rw[q] at e3
 rw[dost_at hin q,Shard.at_get hi]
 have g0: ¬(i:Int)<0:=by omega
 have hxi:=wx.idx hi
 have hyi:=w.idx hi
 have okX:=ok.shards _ (Qd hi)
 have smX:=sm.2 _ (Qd hi)
 have smf:s.shards[i].finished.length≤1048576:=smX.2
 have smb:s.shards[i].book.list.length≤1048576:=smX.1
 have hgd:s.shards[i].good=true:=by
  have:=Store.fit_at hg hi
  simp only[Store.fits,Qg,Shard.at_get hi] at this
  exact this.1
 have hso:=Shard.good_sorted hgd
 have hbk:Wap s.shards[i].book.list=true:=by
  simp only[Qg,Shard.good,Shard.head] at hgd
  exact hgd.1.2.2.2.1
 obtain ⟨r,fx,hld,hR0,_⟩:=wx.one hi
 obtain ⟨cs4,h4,ft,e4,o4,u4,f4⟩:=WaF (Z:=Z) k.s10 k.s13 (o1.le hf) hR0 smX
 obtain ⟨xb,pb,xf,pf,rfl,rfl,wb,wf⟩:=hR0
 obtain ⟨b4,pb4,f4c,pf4,rfl,hq4,wb4,wf4⟩:=u4
 subst hq4
 obtain ⟨n4a,n4b,n4c⟩:=Ql.1 f4.nd
 have o04:=o1.trans o4
 have o4h:=o04.le
 have w4:=w.on Shard.okI o4
 have lt4:=w4.lt Shard.okI
 have lt4f:=wf4.lt (Fl.ok _)
 have eC:=WbA (F:=F) (Z:=Z) k.s13 wf4 ⟨qt,qi⟩
 simp only[Fin.enc] at eC
 have hlen:=wf4.len
 cases cA:(s.shards[i].epoch !=qe) with
 | true=>
   have cA':(s.shards[i].epoch==qe)=false:=by simpa using cA
   have hR:refuse s.shards[i] ⟨qe,5,qi,qa,qt⟩=9:=by simp[refuse,inR,Request.ends,Request.fin,cA']
   rw[hR]
   simp only[show ((9:Int)==0)=false from rfl,cond_false]
   simp only[rn,RO.dst,lk,drop,Nat.reduceBEq,Nat.reduceAdd,Nat.reduceLeDiff,↓reduceIte,reduceCtorEq,Qc,Qf,Qe,Qb,Qa,Int.reduceLT,Int.reduceLE,Int.reduceGT,Int.reduceGE,Int.reduceBEq,Int.reduceBNe,Int.reduceEq,Int.reduceNe,Int.reduceNeg,l1,l2,l3,e1,e2,e3,eI,hxi,hld,e4,eC,hlen,g0,cA]
   exact ⟨_,_,_,rfl,o04,⟨y,_,rfl,rfl,w4⟩,f1⟩
 | false=>
 have cA':(s.shards[i].epoch==qe)=true:=by simpa using cA
 cases cB:(s.shards[i].state==1) with
 | true=>
   have hR:refuse s.shards[i] ⟨qe,5,qi,qa,qt⟩=10:=by simp[refuse,inR,Request.ends,Request.fin,cA',cB]
   rw[hR]
   simp only[show ((10:Int)==0)=false from rfl,cond_false]
   simp only[rn,RO.dst,lk,drop,Nat.reduceBEq,Nat.reduceAdd,Nat.reduceLeDiff,↓reduceIte,reduceCtorEq,Qc,Qf,Qe,Qb,Qa,Int.reduceLT,Int.reduceLE,Int.reduceGT,Int.reduceGE,Int.reduceBEq,Int.reduceBNe,Int.reduceEq,Int.reduceNe,Int.reduceNeg,l1,l2,l3,e1,e2,e3,eI,hxi,hld,e4,eC,hlen,g0,cA,cB]
   exact ⟨_,_,_,rfl,o04,⟨y,_,rfl,rfl,w4⟩,f1⟩
 | false=>
 by_cases cC:qt<1
 ·have hR:refuse s.shards[i] ⟨qe,5,qi,qa,qt⟩=11:=by simp[refuse,inR,Request.ends,Request.fin,cA',cB,cC]
  rw[hR]
  simp only[show ((11:Int)==0)=false from rfl,cond_false]
  simp only[rn,RO.dst,lk,drop,Nat.reduceBEq,Nat.reduceAdd,Nat.reduceLeDiff,↓reduceIte,reduceCtorEq,Qc,Qf,Qe,Qb,Qa,Int.reduceLT,Int.reduceLE,Int.reduceGT,Int.reduceGE,Int.reduceBEq,Int.reduceBNe,Int.reduceEq,Int.reduceNe,Int.reduceNeg,l1,l2,l3,e1,e2,e3,eI,hxi,hld,e4,eC,hlen,g0,cA,cB,cC]
  exact ⟨_,_,_,rfl,o04,⟨y,_,rfl,rfl,w4⟩,f1⟩
 by_cases cD:(⟨qt,qi⟩:Fin)∈s.shards[i].finished
 ·have hR:refuse s.shards[i] ⟨qe,5,qi,qa,qt⟩=12:=by simp[refuse,inR,Request.ends,Request.fin,cA',cB,cC,cD]
  rw[hR]
  simp only[show ((12:Int)==0)=false from rfl,cond_false]
  simp only[rn,RO.dst,lk,drop,Nat.reduceBEq,Nat.reduceAdd,Nat.reduceLeDiff,↓reduceIte,reduceCtorEq,Qc,Qf,Qe,Qb,Qa,Int.reduceLT,Int.reduceLE,Int.reduceGT,Int.reduceGE,Int.reduceBEq,Int.reduceBNe,Int.reduceEq,Int.reduceNe,Int.reduceNeg,l1,l2,l3,e1,e2,e3,eI,hxi,hld,e4,eC,hlen,g0,cA,cB,cC,cD]
  exact ⟨_,_,_,rfl,o04,⟨y,_,rfl,rfl,w4⟩,f1⟩
 have hR:refuse s.shards[i] ⟨qe,5,qi,qa,qt⟩=0:=by simp[refuse,inR,Request.ends,Request.fin,cA',cB,cC,cD]
 rw[hR]
 simp only[beq_self_eq_true,cond_true]
 obtain ⟨yb,h5,fb,e5,o5,u5,f5⟩:=sLockCredit_c (Z:=Z) k.s10 (o4h hf) wb4 qi qa qt okq.amount okX.book.list smb
 have ltb:=u5.lt (Fl.ok _)
 have hA:WaW s.shards[i] ⟨qe,5,qi,qa,qt⟩=⟨s.shards[i].lo,s.shards[i].hi,s.shards[i].state,s.shards[i].epoch,⟨(Waq s.shards[i].book.list ⟨qe,5,qi,qa,qt⟩).1⟩,s.shards[i].finished⟩:=by simp[WaW,Request.ends,Request.fin,cA',cB,cC,cD]
 obtain ⟨g,fq,st,og,fg,w7,u7⟩:=row_set (h:=h) (o04.trans o5) hf (w4.on Shard.okI o5) f1 hi u5 (wf4.on (Fl.ok _) o5) (Ql.2 ⟨f5.nd,n4b,fun a ha b hb e=>by subst e;have:=f5.lo a ha;have:=lt4f a hb;omega⟩) (fun id hid=>by
  rcases Qn.1 hid with h1 | h1
  ·have:=f5.lo id h1;have:=o4.ext.1;omega
  ·exact f4.lo id (Qw _ h1)) (n:=h1.next) (w.lt Shard.okI) o1.ext.1
 rw[hA]
 have eA:=WaO (F:=F) (Z:=Z) k.s10 u7 qi
 rcases WbR (a:=qi) (WbC hbk ⟨qe,5,qi,qa,qt⟩) with ⟨v1,v2⟩ | ⟨v1,v2,v3,v4⟩ | ⟨v1,j,v2,v3,v4,v5,v6⟩
 ·have v1':((Waq s.shards[i].book.list ⟨qe,5,qi,qa,qt⟩).2==0)=false:=by simpa using v1
  rw[v2]
  change ((WaJ s.shards[i].book.list qi qt (lockCF qa qt)).2==0)=false at v1'
  simp only[rn,RO.dst,lk,drop,Nat.reduceBEq,Nat.reduceAdd,Nat.reduceLeDiff,↓reduceIte,reduceCtorEq,Qc,Qf,Qe,Qb,Qa,Int.reduceLT,Int.reduceLE,Int.reduceGT,Int.reduceGE,Int.reduceBEq,Int.reduceBNe,Int.reduceEq,Int.reduceNe,Int.reduceNeg,l1,l2,l3,e1,e2,e3,eI,hxi,hld,e4,eC,hlen,g0,cA,cB,cC,cD,e5,hyi,st,eA,v1']
  exact ⟨_,_,_,rfl,og,⟨y,_,rfl,rfl,w7⟩,fg⟩
 ·have v1':((Waq s.shards[i].book.list ⟨qe,5,qi,qa,qt⟩).2==0)=true:=by simpa using v1
  rw[v4]
  change ((WaJ s.shards[i].book.list qi qt (lockCF qa qt)).2==0)=true at v1'
  change WaT (WaJ s.shards[i].book.list qi qt (lockCF qa qt)).1 qi= -1 at v3
  rw[v3] at eA
  simp only[rn,RO.dst,lk,drop,Nat.reduceBEq,Nat.reduceAdd,Nat.reduceLeDiff,↓reduceIte,reduceCtorEq,Qc,Qf,Qe,Qb,Qa,Int.reduceLT,Int.reduceLE,Int.reduceGT,Int.reduceGE,Int.reduceBEq,Int.reduceBNe,Int.reduceEq,Int.reduceNe,Int.reduceNeg,l1,l2,l3,e1,e2,e3,eI,hxi,hld,e4,eC,hlen,g0,cA,cB,cC,cD,e5,hyi,st,eA,v1']
  exact ⟨_,_,_,rfl,og,⟨y,_,rfl,rfl,w7⟩,fg⟩
 ·have v1':((Waq s.shards[i].book.list ⟨qe,5,qi,qa,qt⟩).2==0)=true:=by simpa using v1
  rw[v6,Account.at_get v5]
  change ((WaJ s.shards[i].book.list qi qt (lockCF qa qt)).2==0)=true at v1'
  change WaT (WaJ s.shards[i].book.list qi qt (lockCF qa qt)).1 qi=(j:Int) at v4
  have g1:(j:Int)≥0:=by omega
  rw[v4] at eA
  have hx:=u7.idx v5
  have hl:=u7.load v5
  simp only[Account.enc] at hl
  simp only[rn,RO.dst,lk,drop,Nat.reduceBEq,Nat.reduceAdd,Nat.reduceLeDiff,↓reduceIte,reduceCtorEq,Qc,Qf,Qe,Qb,Qa,Int.reduceLT,Int.reduceLE,Int.reduceGT,Int.reduceGE,Int.reduceBEq,Int.reduceBNe,Int.reduceEq,Int.reduceNe,Int.reduceNeg,l1,l2,l3,e1,e2,e3,eI,hxi,hld,e4,eC,hlen,g0,cA,cB,cC,cD,e5,hyi,st,eA,v1',g1,hx,hl]
  exact ⟨_,_,_,rfl,og,⟨y,_,rfl,rfl,w7⟩,fg⟩
end
section
variable {F:Nat→Option RF} {Z:Waf} {h:Heap} {cs:List Cell} {fp:List Nat} {s:Store}
set_option maxHeartbeats 4000000 in
set_option maxRecDepth 8000 in
theorem sdo_op6 (k:KS F) (hf:h.floor≤h.next) (v:Store.RI h cs s fp) (qe qi qa qt:Int) (okq:(⟨qe,6,qi,qa,qt⟩:Request).Ok) (ok:s.Ok) (sm:s.Small):
 WaG F Z h cs s ⟨qe,6,qi,qa,qt⟩:=by
 unfold WaG
 obtain ⟨l1,l2,l3⟩:=Store.lenI v
 obtain ⟨cs1,h1,fr,e1,o1,v1,f1⟩:=WaZ (Z:=Z) k hf v sm
 have vh:=Store.okI.on v o1
 have e2:=WaK (Z:=Z) k vh ok
 have e3:=Wbs (Z:=Z) k.s13 vh qi
 have eI:=fun (lo hi:Int) (h:Heap)=>Wbd (F:=F) (Z:=Z) k.s01 6 lo hi h
 simp only[inR] at eI
 obtain ⟨y,p,rfl,hp,w⟩:=v1
 subst hp
 rw[Wac F Z (k.s13.lk (g:=381) rfl) _ _ rfl]
 simp only[Request.enc]
 cases hg:s.good with
 | false=>
   rw[hg] at e2
   rw[Wcj (by simp[hg])]
   simp only[rn,RO.dst,lk,drop,Nat.reduceBEq,Nat.reduceAdd,Nat.reduceLeDiff,↓reduceIte,reduceCtorEq,Qc,Qf,Qe,Qb,Qa,Int.reduceLT,Int.reduceLE,Int.reduceGT,Int.reduceGE,Int.reduceBEq,Int.reduceBNe,Int.reduceEq,Int.reduceNe,Int.reduceNeg,l1,l2,l3,e1,e2]
   exact ⟨_,_,_,rfl,o1,⟨y,_,rfl,rfl,w⟩,f1⟩
 | true=>
 rw[hg] at e2
 have hin:(s.good&&inR (⟨qe,6,qi,qa,qt⟩:Request).op 0 8)=true:=by rw[hg];rfl
 obtain ⟨x,p,rfl,hp,wx⟩:=vh
 subst hp
 rcases wx.found (fun t=>decide (t.lo≤qi)&&decide (qi≤t.hi)) with q | ⟨i,q,hi,hpi,_⟩
 ·change Waz s.shards qi= -1 at q
  rw[WbU hin q]
  rw[q] at e3
  simp only[rn,RO.dst,lk,drop,Nat.reduceBEq,Nat.reduceAdd,Nat.reduceLeDiff,↓reduceIte,reduceCtorEq,Qc,Qf,Qe,Qb,Qa,Int.reduceLT,Int.reduceLE,Int.reduceGT,Int.reduceGE,Int.reduceBEq,Int.reduceBNe,Int.reduceEq,Int.reduceNe,Int.reduceNeg,l1,l2,l3,e1,e2,e3,eI]
  exact ⟨_,_,_,rfl,o1,⟨y,_,rfl,rfl,w⟩,f1⟩
 change Waz s.shards qi=(i:Int) at q
 rw[q] at e3
 rw[dost_at hin q,Shard.at_get hi]
 have g0: ¬(i:Int)<0:=by omega
 have hxi:=wx.idx hi
 have hyi:=w.idx hi
 have okX:=ok.shards _ (Qd hi)
 have smX:=sm.2 _ (Qd hi)
 have smf:s.shards[i].finished.length≤1048576:=smX.2
 have smb:s.shards[i].book.list.length≤1048576:=smX.1
 have hgd:s.shards[i].good=true:=by
  have:=Store.fit_at hg hi
  simp only[Store.fits,Qg,Shard.at_get hi] at this
  exact this.1
 have hso:=Shard.good_sorted hgd
 have hbk:Wap s.shards[i].book.list=true:=by
  simp only[Qg,Shard.good,Shard.head] at hgd
  exact hgd.1.2.2.2.1
 obtain ⟨r,fx,hld,hR0,_⟩:=wx.one hi
 obtain ⟨cs4,h4,ft,e4,o4,u4,f4⟩:=WaF (Z:=Z) k.s10 k.s13 (o1.le hf) hR0 smX
 obtain ⟨xb,pb,xf,pf,rfl,rfl,wb,wf⟩:=hR0
 obtain ⟨b4,pb4,f4c,pf4,rfl,hq4,wb4,wf4⟩:=u4
 subst hq4
 obtain ⟨n4a,n4b,n4c⟩:=Ql.1 f4.nd
 have o04:=o1.trans o4
 have o4h:=o04.le
 have w4:=w.on Shard.okI o4
 have lt4:=w4.lt Shard.okI
 have lt4f:=wf4.lt (Fl.ok _)
 have eC:=WbA (F:=F) (Z:=Z) k.s13 wf4 ⟨qt,qi⟩
 simp only[Fin.enc] at eC
 have hlen:=wf4.len
 cases cA:(s.shards[i].epoch !=qe) with
 | true=>
   have cA':(s.shards[i].epoch==qe)=false:=by simpa using cA
   have hR:refuse s.shards[i] ⟨qe,6,qi,qa,qt⟩=9:=by simp[refuse,inR,Request.ends,Request.fin,cA']
   rw[hR]
   simp only[show ((9:Int)==0)=false from rfl,cond_false]
   simp only[rn,RO.dst,lk,drop,Nat.reduceBEq,Nat.reduceAdd,Nat.reduceLeDiff,↓reduceIte,reduceCtorEq,Qc,Qf,Qe,Qb,Qa,Int.reduceLT,Int.reduceLE,Int.reduceGT,Int.reduceGE,Int.reduceBEq,Int.reduceBNe,Int.reduceEq,Int.reduceNe,Int.reduceNeg,l1,l2,l3,e1,e2,e3,eI,hxi,hld,e4,eC,hlen,g0,cA]
   exact ⟨_,_,_,rfl,o04,⟨y,_,rfl,rfl,w4⟩,f1⟩
 | false=>
 have cA':(s.shards[i].epoch==qe)=true:=by simpa using cA
 cases cB:(s.shards[i].state==1) with
 | true=>
   have hR:refuse s.shards[i] ⟨qe,6,qi,qa,qt⟩=10:=by simp[refuse,inR,Request.ends,Request.fin,cA',cB]
   rw[hR]
   simp only[show ((10:Int)==0)=false from rfl,cond_false]
   simp only[rn,RO.dst,lk,drop,Nat.reduceBEq,Nat.reduceAdd,Nat.reduceLeDiff,↓reduceIte,reduceCtorEq,Qc,Qf,Qe,Qb,Qa,Int.reduceLT,Int.reduceLE,Int.reduceGT,Int.reduceGE,Int.reduceBEq,Int.reduceBNe,Int.reduceEq,Int.reduceNe,Int.reduceNeg,l1,l2,l3,e1,e2,e3,eI,hxi,hld,e4,eC,hlen,g0,cA,cB]
   exact ⟨_,_,_,rfl,o04,⟨y,_,rfl,rfl,w4⟩,f1⟩
 | false=>
 by_cases cC:qt<1
 ·have hR:refuse s.shards[i] ⟨qe,6,qi,qa,qt⟩=11:=by simp[refuse,inR,Request.ends,Request.fin,cA',cB,cC]
  rw[hR]
  simp only[show ((11:Int)==0)=false from rfl,cond_false]
  simp only[rn,RO.dst,lk,drop,Nat.reduceBEq,Nat.reduceAdd,Nat.reduceLeDiff,↓reduceIte,reduceCtorEq,Qc,Qf,Qe,Qb,Qa,Int.reduceLT,Int.reduceLE,Int.reduceGT,Int.reduceGE,Int.reduceBEq,Int.reduceBNe,Int.reduceEq,Int.reduceNe,Int.reduceNeg,l1,l2,l3,e1,e2,e3,eI,hxi,hld,e4,eC,hlen,g0,cA,cB,cC]
  exact ⟨_,_,_,rfl,o04,⟨y,_,rfl,rfl,w4⟩,f1⟩
 by_cases cD:(⟨qt,qi⟩:Fin)∈s.shards[i].finished
 ·have hR:refuse s.shards[i] ⟨qe,6,qi,qa,qt⟩=0:=by simp[refuse,inR,Request.ends,Request.fin,cA',cB,cC,cD]
  rw[hR]
  simp only[beq_self_eq_true,cond_true]
  obtain ⟨yb,h5,fb,e5,o5,u5,f5⟩:=sSettleHold_c (Z:=Z) k.s10 (o4h hf) wb4 qi qt okX.book.list smb
  have ltb:=u5.lt (Fl.ok _)
  have hA:WaW s.shards[i] ⟨qe,6,qi,qa,qt⟩=⟨s.shards[i].lo,s.shards[i].hi,s.shards[i].state,s.shards[i].epoch,⟨(Waq s.shards[i].book.list ⟨qe,6,qi,qa,qt⟩).1⟩,WbZ s.shards[i].finished ⟨qt,qi⟩⟩:=by
   rw[addFin_in cD]
   simp[WaW,Request.ends,Request.fin,cA',cB,cC,cD]
  obtain ⟨zf,h6,fz,e6,o6,u6,f6⟩:=l13AddFin_c (Z:=Z) k.s13 (o5.le (o4h hf)) (wf4.on (Fl.ok _) o5) smf ⟨qt,qi⟩
  simp only[Fin.enc] at e6
  obtain ⟨g,fq,st,og,fg,w7,u7⟩:=row_set (h:=h) ((o04.trans o5).trans o6) hf ((w4.on Shard.okI o5).on Shard.okI o6) f1 hi (u5.on (Fl.ok _) o6) u6 (Ql.2 ⟨f5.nd,f6.nd,fun a ha b hb e=>by subst e;have:=f6.lo a hb;have:=ltb a ha;omega⟩) (fun id hid=>by
   have:=o5.ext.1
   rcases Qn.1 hid with h1 | h1
   ·have:=f5.lo id h1;omega
   ·have:=f6.lo id h1;omega) (n:=h4.next) lt4
   (QN o1.ext.1 o4.ext.1)
  rw[hA]
  have eA:=WaO (F:=F) (Z:=Z) k.s10 u7 qi
  rcases WbR (a:=qi) (WbC hbk ⟨qe,6,qi,qa,qt⟩) with ⟨v1,v2⟩ | ⟨v1,v2,v3,v4⟩ | ⟨v1,j,v2,v3,v4,v5,v6⟩
  ·have v1':((Waq s.shards[i].book.list ⟨qe,6,qi,qa,qt⟩).2==0)=false:=by simpa using v1
   rw[v2]
   change ((WaJ s.shards[i].book.list qi qt (Wbg qi qt)).2==0)=false at v1'
   simp only[rn,RO.dst,lk,drop,Nat.reduceBEq,Nat.reduceAdd,Nat.reduceLeDiff,↓reduceIte,reduceCtorEq,Qc,Qf,Qe,Qb,Qa,Int.reduceLT,Int.reduceLE,Int.reduceGT,Int.reduceGE,Int.reduceBEq,Int.reduceBNe,Int.reduceEq,Int.reduceNe,Int.reduceNeg,l1,l2,l3,e1,e2,e3,eI,hxi,hld,e4,eC,hlen,g0,cA,cB,cC,cD,e5,e6,hyi,st,eA,v1']
   exact ⟨_,_,_,rfl,og,⟨y,_,rfl,rfl,w7⟩,fg⟩
  ·have v1':((Waq s.shards[i].book.list ⟨qe,6,qi,qa,qt⟩).2==0)=true:=by simpa using v1
   rw[v4]
   change ((WaJ s.shards[i].book.list qi qt (Wbg qi qt)).2==0)=true at v1'
   change WaT (WaJ s.shards[i].book.list qi qt (Wbg qi qt)).1 qi= -1 at v3
   rw[v3] at eA
   simp only[rn,RO.dst,lk,drop,Nat.reduceBEq,Nat.reduceAdd,Nat.reduceLeDiff,↓reduceIte,reduceCtorEq,Qc,Qf,Qe,Qb,Qa,Int.reduceLT,Int.reduceLE,Int.reduceGT,Int.reduceGE,Int.reduceBEq,Int.reduceBNe,Int.reduceEq,Int.reduceNe,Int.reduceNeg,l1,l2,l3,e1,e2,e3,eI,hxi,hld,e4,eC,hlen,g0,cA,cB,cC,cD,e5,e6,hyi,st,eA,v1']
   exact ⟨_,_,_,rfl,og,⟨y,_,rfl,rfl,w7⟩,fg⟩
  ·have v1':((Waq s.shards[i].book.list ⟨qe,6,qi,qa,qt⟩).2==0)=true:=by simpa using v1
   rw[v6,Account.at_get v5]
   change ((WaJ s.shards[i].book.list qi qt (Wbg qi qt)).2==0)=true at v1'
   change WaT (WaJ s.shards[i].book.list qi qt (Wbg qi qt)).1 qi=(j:Int) at v4
   have g1:(j:Int)≥0:=by omega
   rw[v4] at eA
   have hx:=u7.idx v5
   have hl:=u7.load v5
   simp only[Account.enc] at hl
   simp only[rn,RO.dst,lk,drop,Nat.reduceBEq,Nat.reduceAdd,Nat.reduceLeDiff,↓reduceIte,reduceCtorEq,Qc,Qf,Qe,Qb,Qa,Int.reduceLT,Int.reduceLE,Int.reduceGT,Int.reduceGE,Int.reduceBEq,Int.reduceBNe,Int.reduceEq,Int.reduceNe,Int.reduceNeg,l1,l2,l3,e1,e2,e3,eI,hxi,hld,e4,eC,hlen,g0,cA,cB,cC,cD,e5,e6,hyi,st,eA,v1',g1,hx,hl]
   exact ⟨_,_,_,rfl,og,⟨y,_,rfl,rfl,w7⟩,fg⟩
 cases cE:((s.shards[i].finished.length:Int)==60) with
 | true=>
   have hR:refuse s.shards[i] ⟨qe,6,qi,qa,qt⟩=13:=by simp[refuse,inR,Request.ends,Request.fin,cA',cB,cC,cD,cE]
   rw[hR]
   simp only[show ((13:Int)==0)=false from rfl,cond_false]
   simp only[rn,RO.dst,lk,drop,Nat.reduceBEq,Nat.reduceAdd,Nat.reduceLeDiff,↓reduceIte,reduceCtorEq,Qc,Qf,Qe,Qb,Qa,Int.reduceLT,Int.reduceLE,Int.reduceGT,Int.reduceGE,Int.reduceBEq,Int.reduceBNe,Int.reduceEq,Int.reduceNe,Int.reduceNeg,l1,l2,l3,e1,e2,e3,eI,hxi,hld,e4,eC,hlen,g0,cA,cB,cC,cD,cE]
   exact ⟨_,_,_,rfl,o04,⟨y,_,rfl,rfl,w4⟩,f1⟩
 | false=>
 have hR:refuse s.shards[i] ⟨qe,6,qi,qa,qt⟩=0:=by simp[refuse,inR,Request.ends,Request.fin,cA',cB,cC,cD,cE]
 rw[hR]
 simp only[beq_self_eq_true,cond_true]
 obtain ⟨yb,h5,fb,e5,o5,u5,f5⟩:=sSettleHold_c (Z:=Z) k.s10 (o4h hf) wb4 qi qt okX.book.list smb
 have ltb:=u5.lt (Fl.ok _)
 have hA:WaW s.shards[i] ⟨qe,6,qi,qa,qt⟩=⟨s.shards[i].lo,s.shards[i].hi,s.shards[i].state,s.shards[i].epoch,⟨(Waq s.shards[i].book.list ⟨qe,6,qi,qa,qt⟩).1⟩,WbZ s.shards[i].finished ⟨qt,qi⟩⟩:=by
  rw[addFin_sort hso cD]
  simp[WaW,Request.ends,Request.fin,cA',cB,cC,cD,cE]
 obtain ⟨zf,h6,fz,e6,o6,u6,f6⟩:=l13AddFin_c (Z:=Z) k.s13 (o5.le (o4h hf)) (wf4.on (Fl.ok _) o5) smf ⟨qt,qi⟩
 simp only[Fin.enc] at e6
 obtain ⟨g,fq,st,og,fg,w7,u7⟩:=row_set (h:=h) ((o04.trans o5).trans o6) hf ((w4.on Shard.okI o5).on Shard.okI o6) f1 hi (u5.on (Fl.ok _) o6) u6 (Ql.2 ⟨f5.nd,f6.nd,fun a ha b hb e=>by subst e;have:=f6.lo a hb;have:=ltb a ha;omega⟩) (fun id hid=>by
  have:=o5.ext.1
  rcases Qn.1 hid with h1 | h1
  ·have:=f5.lo id h1;omega
  ·have:=f6.lo id h1;omega) (n:=h4.next) lt4
  (QN o1.ext.1 o4.ext.1)
 rw[hA]
 have eA:=WaO (F:=F) (Z:=Z) k.s10 u7 qi
 rcases WbR (a:=qi) (WbC hbk ⟨qe,6,qi,qa,qt⟩) with ⟨v1,v2⟩ | ⟨v1,v2,v3,v4⟩ | ⟨v1,j,v2,v3,v4,v5,v6⟩
 ·have v1':((Waq s.shards[i].book.list ⟨qe,6,qi,qa,qt⟩).2==0)=false:=by simpa using v1
  rw[v2]
  change ((WaJ s.shards[i].book.list qi qt (Wbg qi qt)).2==0)=false at v1'
  simp only[rn,RO.dst,lk,drop,Nat.reduceBEq,Nat.reduceAdd,Nat.reduceLeDiff,↓reduceIte,reduceCtorEq,Qc,Qf,Qe,Qb,Qa,Int.reduceLT,Int.reduceLE,Int.reduceGT,Int.reduceGE,Int.reduceBEq,Int.reduceBNe,Int.reduceEq,Int.reduceNe,Int.reduceNeg,l1,l2,l3,e1,e2,e3,eI,hxi,hld,e4,eC,hlen,g0,cA,cB,cC,cD,cE,e5,e6,hyi,st,eA,v1']
  exact ⟨_,_,_,rfl,og,⟨y,_,rfl,rfl,w7⟩,fg⟩
 ·have v1':((Waq s.shards[i].book.list ⟨qe,6,qi,qa,qt⟩).2==0)=true:=by simpa using v1
  rw[v4]
  change ((WaJ s.shards[i].book.list qi qt (Wbg qi qt)).2==0)=true at v1'
  change WaT (WaJ s.shards[i].book.list qi qt (Wbg qi qt)).1 qi= -1 at v3
  rw[v3] at eA
  simp only[rn,RO.dst,lk,drop,Nat.reduceBEq,Nat.reduceAdd,Nat.reduceLeDiff,↓reduceIte,reduceCtorEq,Qc,Qf,Qe,Qb,Qa,Int.reduceLT,Int.reduceLE,Int.reduceGT,Int.reduceGE,Int.reduceBEq,Int.reduceBNe,Int.reduceEq,Int.reduceNe,Int.reduceNeg,l1,l2,l3,e1,e2,e3,eI,hxi,hld,e4,eC,hlen,g0,cA,cB,cC,cD,cE,e5,e6,hyi,st,eA,v1']
  exact ⟨_,_,_,rfl,og,⟨y,_,rfl,rfl,w7⟩,fg⟩
 ·have v1':((Waq s.shards[i].book.list ⟨qe,6,qi,qa,qt⟩).2==0)=true:=by simpa using v1
  rw[v6,Account.at_get v5]
  change ((WaJ s.shards[i].book.list qi qt (Wbg qi qt)).2==0)=true at v1'
  change WaT (WaJ s.shards[i].book.list qi qt (Wbg qi qt)).1 qi=(j:Int) at v4
  have g1:(j:Int)≥0:=by omega
  rw[v4] at eA
  have hx:=u7.idx v5
  have hl:=u7.load v5
  simp only[Account.enc] at hl
  simp only[rn,RO.dst,lk,drop,Nat.reduceBEq,Nat.reduceAdd,Nat.reduceLeDiff,↓reduceIte,reduceCtorEq,Qc,Qf,Qe,Qb,Qa,Int.reduceLT,Int.reduceLE,Int.reduceGT,Int.reduceGE,Int.reduceBEq,Int.reduceBNe,Int.reduceEq,Int.reduceNe,Int.reduceNeg,l1,l2,l3,e1,e2,e3,eI,hxi,hld,e4,eC,hlen,g0,cA,cB,cC,cD,cE,e5,e6,hyi,st,eA,v1',g1,hx,hl]
  exact ⟨_,_,_,rfl,og,⟨y,_,rfl,rfl,w7⟩,fg⟩
end
section
variable {F:Nat→Option RF} {Z:Waf} {h:Heap} {cs:List Cell} {fp:List Nat} {s:Store}
set_option maxHeartbeats 4000000 in
set_option maxRecDepth 8000 in
theorem sdo_op7 (k:KS F) (hf:h.floor≤h.next) (v:Store.RI h cs s fp) (qe qi qa qt:Int) (okq:(⟨qe,7,qi,qa,qt⟩:Request).Ok) (ok:s.Ok) (sm:s.Small):
 WaG F Z h cs s ⟨qe,7,qi,qa,qt⟩:=by
 unfold WaG
 obtain ⟨l1,l2,l3⟩:=Store.lenI v
 obtain ⟨cs1,h1,fr,e1,o1,v1,f1⟩:=WaZ (Z:=Z) k hf v sm
 have vh:=Store.okI.on v o1
 have e2:=WaK (Z:=Z) k vh ok
 have e3:=Wbs (Z:=Z) k.s13 vh qi
 have eI:=fun (lo hi:Int) (h:Heap)=>Wbd (F:=F) (Z:=Z) k.s01 7 lo hi h
 simp only[inR] at eI
 obtain ⟨y,p,rfl,hp,w⟩:=v1
 subst hp
 rw[Wac F Z (k.s13.lk (g:=381) rfl) _ _ rfl]
 simp only[Request.enc]
 cases hg:s.good with
 | false=>
   rw[hg] at e2
   rw[Wcj (by simp[hg])]
   simp only[rn,RO.dst,lk,drop,Nat.reduceBEq,Nat.reduceAdd,Nat.reduceLeDiff,↓reduceIte,reduceCtorEq,Qc,Qf,Qe,Qb,Qa,Int.reduceLT,Int.reduceLE,Int.reduceGT,Int.reduceGE,Int.reduceBEq,Int.reduceBNe,Int.reduceEq,Int.reduceNe,Int.reduceNeg,l1,l2,l3,e1,e2]
   exact ⟨_,_,_,rfl,o1,⟨y,_,rfl,rfl,w⟩,f1⟩
 | true=>
 rw[hg] at e2
 have hin:(s.good&&inR (⟨qe,7,qi,qa,qt⟩:Request).op 0 8)=true:=by rw[hg];rfl
 obtain ⟨x,p,rfl,hp,wx⟩:=vh
 subst hp
 rcases wx.found (fun t=>decide (t.lo≤qi)&&decide (qi≤t.hi)) with q | ⟨i,q,hi,hpi,_⟩
 ·change Waz s.shards qi= -1 at q
  rw[WbU hin q]
  rw[q] at e3
  simp only[rn,RO.dst,lk,drop,Nat.reduceBEq,Nat.reduceAdd,Nat.reduceLeDiff,↓reduceIte,reduceCtorEq,Qc,Qf,Qe,Qb,Qa,Int.reduceLT,Int.reduceLE,Int.reduceGT,Int.reduceGE,Int.reduceBEq,Int.reduceBNe,Int.reduceEq,Int.reduceNe,Int.reduceNeg,l1,l2,l3,e1,e2,e3,eI]
  exact ⟨_,_,_,rfl,o1,⟨y,_,rfl,rfl,w⟩,f1⟩
 change Waz s.shards qi=(i:Int) at q
 rw[q] at e3
 rw[dost_at hin q,Shard.at_get hi]
 have g0: ¬(i:Int)<0:=by omega
 have hxi:=wx.idx hi
 have hyi:=w.idx hi
 have okX:=ok.shards _ (Qd hi)
 have smX:=sm.2 _ (Qd hi)
 have smf:s.shards[i].finished.length≤1048576:=smX.2
 have smb:s.shards[i].book.list.length≤1048576:=smX.1
 have hgd:s.shards[i].good=true:=by
  have:=Store.fit_at hg hi
  simp only[Store.fits,Qg,Shard.at_get hi] at this
  exact this.1
 have hso:=Shard.good_sorted hgd
 have hbk:Wap s.shards[i].book.list=true:=by
  simp only[Qg,Shard.good,Shard.head] at hgd
  exact hgd.1.2.2.2.1
 obtain ⟨r,fx,hld,hR0,_⟩:=wx.one hi
 obtain ⟨cs4,h4,ft,e4,o4,u4,f4⟩:=WaF (Z:=Z) k.s10 k.s13 (o1.le hf) hR0 smX
 obtain ⟨xb,pb,xf,pf,rfl,rfl,wb,wf⟩:=hR0
 obtain ⟨b4,pb4,f4c,pf4,rfl,hq4,wb4,wf4⟩:=u4
 subst hq4
 obtain ⟨n4a,n4b,n4c⟩:=Ql.1 f4.nd
 have o04:=o1.trans o4
 have o4h:=o04.le
 have w4:=w.on Shard.okI o4
 have lt4:=w4.lt Shard.okI
 have lt4f:=wf4.lt (Fl.ok _)
 have eC:=WbA (F:=F) (Z:=Z) k.s13 wf4 ⟨qt,qi⟩
 simp only[Fin.enc] at eC
 have hlen:=wf4.len
 cases cA:(s.shards[i].epoch !=qe) with
 | true=>
   have cA':(s.shards[i].epoch==qe)=false:=by simpa using cA
   have hR:refuse s.shards[i] ⟨qe,7,qi,qa,qt⟩=9:=by simp[refuse,inR,Request.ends,Request.fin,cA']
   rw[hR]
   simp only[show ((9:Int)==0)=false from rfl,cond_false]
   simp only[rn,RO.dst,lk,drop,Nat.reduceBEq,Nat.reduceAdd,Nat.reduceLeDiff,↓reduceIte,reduceCtorEq,Qc,Qf,Qe,Qb,Qa,Int.reduceLT,Int.reduceLE,Int.reduceGT,Int.reduceGE,Int.reduceBEq,Int.reduceBNe,Int.reduceEq,Int.reduceNe,Int.reduceNeg,l1,l2,l3,e1,e2,e3,eI,hxi,hld,e4,eC,hlen,g0,cA]
   exact ⟨_,_,_,rfl,o04,⟨y,_,rfl,rfl,w4⟩,f1⟩
 | false=>
 have cA':(s.shards[i].epoch==qe)=true:=by simpa using cA
 cases cB:(s.shards[i].state==1) with
 | true=>
   have hR:refuse s.shards[i] ⟨qe,7,qi,qa,qt⟩=10:=by simp[refuse,inR,Request.ends,Request.fin,cA',cB]
   rw[hR]
   simp only[show ((10:Int)==0)=false from rfl,cond_false]
   simp only[rn,RO.dst,lk,drop,Nat.reduceBEq,Nat.reduceAdd,Nat.reduceLeDiff,↓reduceIte,reduceCtorEq,Qc,Qf,Qe,Qb,Qa,Int.reduceLT,Int.reduceLE,Int.reduceGT,Int.reduceGE,Int.reduceBEq,Int.reduceBNe,Int.reduceEq,Int.reduceNe,Int.reduceNeg,l1,l2,l3,e1,e2,e3,eI,hxi,hld,e4,eC,hlen,g0,cA,cB]
   exact ⟨_,_,_,rfl,o04,⟨y,_,rfl,rfl,w4⟩,f1⟩
 | false=>
 by_cases cC:qt<1
 ·have hR:refuse s.shards[i] ⟨qe,7,qi,qa,qt⟩=11:=by simp[refuse,inR,Request.ends,Request.fin,cA',cB,cC]
  rw[hR]
  simp only[show ((11:Int)==0)=false from rfl,cond_false]
  simp only[rn,RO.dst,lk,drop,Nat.reduceBEq,Nat.reduceAdd,Nat.reduceLeDiff,↓reduceIte,reduceCtorEq,Qc,Qf,Qe,Qb,Qa,Int.reduceLT,Int.reduceLE,Int.reduceGT,Int.reduceGE,Int.reduceBEq,Int.reduceBNe,Int.reduceEq,Int.reduceNe,Int.reduceNeg,l1,l2,l3,e1,e2,e3,eI,hxi,hld,e4,eC,hlen,g0,cA,cB,cC]
  exact ⟨_,_,_,rfl,o04,⟨y,_,rfl,rfl,w4⟩,f1⟩
 by_cases cD:(⟨qt,qi⟩:Fin)∈s.shards[i].finished
 ·have hR:refuse s.shards[i] ⟨qe,7,qi,qa,qt⟩=0:=by simp[refuse,inR,Request.ends,Request.fin,cA',cB,cC,cD]
  rw[hR]
  simp only[beq_self_eq_true,cond_true]
  obtain ⟨yb,h5,fb,e5,o5,u5,f5⟩:=sReleaseHold_c (Z:=Z) k.s10 (o4h hf) wb4 qi qt okX.book.list smb
  have ltb:=u5.lt (Fl.ok _)
  have hA:WaW s.shards[i] ⟨qe,7,qi,qa,qt⟩=⟨s.shards[i].lo,s.shards[i].hi,s.shards[i].state,s.shards[i].epoch,⟨(Waq s.shards[i].book.list ⟨qe,7,qi,qa,qt⟩).1⟩,WbZ s.shards[i].finished ⟨qt,qi⟩⟩:=by
   rw[addFin_in cD]
   simp[WaW,Request.ends,Request.fin,cA',cB,cC,cD]
  obtain ⟨zf,h6,fz,e6,o6,u6,f6⟩:=l13AddFin_c (Z:=Z) k.s13 (o5.le (o4h hf)) (wf4.on (Fl.ok _) o5) smf ⟨qt,qi⟩
  simp only[Fin.enc] at e6
  obtain ⟨g,fq,st,og,fg,w7,u7⟩:=row_set (h:=h) ((o04.trans o5).trans o6) hf ((w4.on Shard.okI o5).on Shard.okI o6) f1 hi (u5.on (Fl.ok _) o6) u6 (Ql.2 ⟨f5.nd,f6.nd,fun a ha b hb e=>by subst e;have:=f6.lo a hb;have:=ltb a ha;omega⟩) (fun id hid=>by
   have:=o5.ext.1
   rcases Qn.1 hid with h1 | h1
   ·have:=f5.lo id h1;omega
   ·have:=f6.lo id h1;omega) (n:=h4.next) lt4
   (QN o1.ext.1 o4.ext.1)
  rw[hA]
  have eA:=WaO (F:=F) (Z:=Z) k.s10 u7 qi
  rcases WbR (a:=qi) (WbC hbk ⟨qe,7,qi,qa,qt⟩) with ⟨v1,v2⟩ | ⟨v1,v2,v3,v4⟩ | ⟨v1,j,v2,v3,v4,v5,v6⟩
  ·have v1':((Waq s.shards[i].book.list ⟨qe,7,qi,qa,qt⟩).2==0)=false:=by simpa using v1
   rw[v2]
   change ((WaJ s.shards[i].book.list qi qt (WaR qi qt)).2==0)=false at v1'
   simp only[rn,RO.dst,lk,drop,Nat.reduceBEq,Nat.reduceAdd,Nat.reduceLeDiff,↓reduceIte,reduceCtorEq,Qc,Qf,Qe,Qb,Qa,Int.reduceLT,Int.reduceLE,Int.reduceGT,Int.reduceGE,Int.reduceBEq,Int.reduceBNe,Int.reduceEq,Int.reduceNe,Int.reduceNeg,l1,l2,l3,e1,e2,e3,eI,hxi,hld,e4,eC,hlen,g0,cA,cB,cC,cD,e5,e6,hyi,st,eA,v1']
   exact ⟨_,_,_,rfl,og,⟨y,_,rfl,rfl,w7⟩,fg⟩
  ·have v1':((Waq s.shards[i].book.list ⟨qe,7,qi,qa,qt⟩).2==0)=true:=by simpa using v1
   rw[v4]
   change ((WaJ s.shards[i].book.list qi qt (WaR qi qt)).2==0)=true at v1'
   change WaT (WaJ s.shards[i].book.list qi qt (WaR qi qt)).1 qi= -1 at v3
   rw[v3] at eA
   simp only[rn,RO.dst,lk,drop,Nat.reduceBEq,Nat.reduceAdd,Nat.reduceLeDiff,↓reduceIte,reduceCtorEq,Qc,Qf,Qe,Qb,Qa,Int.reduceLT,Int.reduceLE,Int.reduceGT,Int.reduceGE,Int.reduceBEq,Int.reduceBNe,Int.reduceEq,Int.reduceNe,Int.reduceNeg,l1,l2,l3,e1,e2,e3,eI,hxi,hld,e4,eC,hlen,g0,cA,cB,cC,cD,e5,e6,hyi,st,eA,v1']
   exact ⟨_,_,_,rfl,og,⟨y,_,rfl,rfl,w7⟩,fg⟩
  ·have v1':((Waq s.shards[i].book.list ⟨qe,7,qi,qa,qt⟩).2==0)=true:=by simpa using v1
   rw[v6,Account.at_get v5]
   change ((WaJ s.shards[i].book.list qi qt (WaR qi qt)).2==0)=true at v1'
   change WaT (WaJ s.shards[i].book.list qi qt (WaR qi qt)).1 qi=(j:Int) at v4
   have g1:(j:Int)≥0:=by omega
   rw[v4] at eA
   have hx:=u7.idx v5
   have hl:=u7.load v5
   simp only[Account.enc] at hl
   simp only[rn,RO.dst,lk,drop,Nat.reduceBEq,Nat.reduceAdd,Nat.reduceLeDiff,↓reduceIte,reduceCtorEq,Qc,Qf,Qe,Qb,Qa,Int.reduceLT,Int.reduceLE,Int.reduceGT,Int.reduceGE,Int.reduceBEq,Int.reduceBNe,Int.reduceEq,Int.reduceNe,Int.reduceNeg,l1,l2,l3,e1,e2,e3,eI,hxi,hld,e4,eC,hlen,g0,cA,cB,cC,cD,e5,e6,hyi,st,eA,v1',g1,hx,hl]
   exact ⟨_,_,_,rfl,og,⟨y,_,rfl,rfl,w7⟩,fg⟩
 cases cE:((s.shards[i].finished.length:Int)==60) with
 | true=>
   have hR:refuse s.shards[i] ⟨qe,7,qi,qa,qt⟩=13:=by simp[refuse,inR,Request.ends,Request.fin,cA',cB,cC,cD,cE]
   rw[hR]
   simp only[show ((13:Int)==0)=false from rfl,cond_false]
   simp only[rn,RO.dst,lk,drop,Nat.reduceBEq,Nat.reduceAdd,Nat.reduceLeDiff,↓reduceIte,reduceCtorEq,Qc,Qf,Qe,Qb,Qa,Int.reduceLT,Int.reduceLE,Int.reduceGT,Int.reduceGE,Int.reduceBEq,Int.reduceBNe,Int.reduceEq,Int.reduceNe,Int.reduceNeg,l1,l2,l3,e1,e2,e3,eI,hxi,hld,e4,eC,hlen,g0,cA,cB,cC,cD,cE]
   exact ⟨_,_,_,rfl,o04,⟨y,_,rfl,rfl,w4⟩,f1⟩
 | false=>
 have hR:refuse s.shards[i] ⟨qe,7,qi,qa,qt⟩=0:=by simp[refuse,inR,Request.ends,Request.fin,cA',cB,cC,cD,cE]
 rw[hR]
 simp only[beq_self_eq_true,cond_true]
 obtain ⟨yb,h5,fb,e5,o5,u5,f5⟩:=sReleaseHold_c (Z:=Z) k.s10 (o4h hf) wb4 qi qt okX.book.list smb
 have ltb:=u5.lt (Fl.ok _)
 have hA:WaW s.shards[i] ⟨qe,7,qi,qa,qt⟩=⟨s.shards[i].lo,s.shards[i].hi,s.shards[i].state,s.shards[i].epoch,⟨(Waq s.shards[i].book.list ⟨qe,7,qi,qa,qt⟩).1⟩,WbZ s.shards[i].finished ⟨qt,qi⟩⟩:=by
  rw[addFin_sort hso cD]
  simp[WaW,Request.ends,Request.fin,cA',cB,cC,cD,cE]
 obtain ⟨zf,h6,fz,e6,o6,u6,f6⟩:=l13AddFin_c (Z:=Z) k.s13 (o5.le (o4h hf)) (wf4.on (Fl.ok _) o5) smf ⟨qt,qi⟩
 simp only[Fin.enc] at e6
 obtain ⟨g,fq,st,og,fg,w7,u7⟩:=row_set (h:=h) ((o04.trans o5).trans o6) hf ((w4.on Shard.okI o5).on Shard.okI o6) f1 hi (u5.on (Fl.ok _) o6) u6 (Ql.2 ⟨f5.nd,f6.nd,fun a ha b hb e=>by subst e;have:=f6.lo a hb;have:=ltb a ha;omega⟩) (fun id hid=>by
  have:=o5.ext.1
  rcases Qn.1 hid with h1 | h1
  ·have:=f5.lo id h1;omega
  ·have:=f6.lo id h1;omega) (n:=h4.next) lt4
  (QN o1.ext.1 o4.ext.1)
 rw[hA]
 have eA:=WaO (F:=F) (Z:=Z) k.s10 u7 qi
 rcases WbR (a:=qi) (WbC hbk ⟨qe,7,qi,qa,qt⟩) with ⟨v1,v2⟩ | ⟨v1,v2,v3,v4⟩ | ⟨v1,j,v2,v3,v4,v5,v6⟩
 ·have v1':((Waq s.shards[i].book.list ⟨qe,7,qi,qa,qt⟩).2==0)=false:=by simpa using v1
  rw[v2]
  change ((WaJ s.shards[i].book.list qi qt (WaR qi qt)).2==0)=false at v1'
  simp only[rn,RO.dst,lk,drop,Nat.reduceBEq,Nat.reduceAdd,Nat.reduceLeDiff,↓reduceIte,reduceCtorEq,Qc,Qf,Qe,Qb,Qa,Int.reduceLT,Int.reduceLE,Int.reduceGT,Int.reduceGE,Int.reduceBEq,Int.reduceBNe,Int.reduceEq,Int.reduceNe,Int.reduceNeg,l1,l2,l3,e1,e2,e3,eI,hxi,hld,e4,eC,hlen,g0,cA,cB,cC,cD,cE,e5,e6,hyi,st,eA,v1']
  exact ⟨_,_,_,rfl,og,⟨y,_,rfl,rfl,w7⟩,fg⟩
 ·have v1':((Waq s.shards[i].book.list ⟨qe,7,qi,qa,qt⟩).2==0)=true:=by simpa using v1
  rw[v4]
  change ((WaJ s.shards[i].book.list qi qt (WaR qi qt)).2==0)=true at v1'
  change WaT (WaJ s.shards[i].book.list qi qt (WaR qi qt)).1 qi= -1 at v3
  rw[v3] at eA
  simp only[rn,RO.dst,lk,drop,Nat.reduceBEq,Nat.reduceAdd,Nat.reduceLeDiff,↓reduceIte,reduceCtorEq,Qc,Qf,Qe,Qb,Qa,Int.reduceLT,Int.reduceLE,Int.reduceGT,Int.reduceGE,Int.reduceBEq,Int.reduceBNe,Int.reduceEq,Int.reduceNe,Int.reduceNeg,l1,l2,l3,e1,e2,e3,eI,hxi,hld,e4,eC,hlen,g0,cA,cB,cC,cD,cE,e5,e6,hyi,st,eA,v1']
  exact ⟨_,_,_,rfl,og,⟨y,_,rfl,rfl,w7⟩,fg⟩
 ·have v1':((Waq s.shards[i].book.list ⟨qe,7,qi,qa,qt⟩).2==0)=true:=by simpa using v1
  rw[v6,Account.at_get v5]
  change ((WaJ s.shards[i].book.list qi qt (WaR qi qt)).2==0)=true at v1'
  change WaT (WaJ s.shards[i].book.list qi qt (WaR qi qt)).1 qi=(j:Int) at v4
  have g1:(j:Int)≥0:=by omega
  rw[v4] at eA
  have hx:=u7.idx v5
  have hl:=u7.load v5
  simp only[Account.enc] at hl
  simp only[rn,RO.dst,lk,drop,Nat.reduceBEq,Nat.reduceAdd,Nat.reduceLeDiff,↓reduceIte,reduceCtorEq,Qc,Qf,Qe,Qb,Qa,Int.reduceLT,Int.reduceLE,Int.reduceGT,Int.reduceGE,Int.reduceBEq,Int.reduceBNe,Int.reduceEq,Int.reduceNe,Int.reduceNeg,l1,l2,l3,e1,e2,e3,eI,hxi,hld,e4,eC,hlen,g0,cA,cB,cC,cD,cE,e5,e6,hyi,st,eA,v1',g1,hx,hl]
  exact ⟨_,_,_,rfl,og,⟨y,_,rfl,rfl,w7⟩,fg⟩
set_option maxHeartbeats 4000000 in
set_option maxRecDepth 8000 in
theorem sdo_op8 (k:KS F) (hf:h.floor≤h.next) (v:Store.RI h cs s fp) (qe qi qa qt:Int) (okq:(⟨qe,8,qi,qa,qt⟩:Request).Ok) (ok:s.Ok) (sm:s.Small):
 WaG F Z h cs s ⟨qe,8,qi,qa,qt⟩:=by
 unfold WaG
 obtain ⟨l1,l2,l3⟩:=Store.lenI v
 obtain ⟨cs1,h1,fr,e1,o1,v1,f1⟩:=WaZ (Z:=Z) k hf v sm
 have vh:=Store.okI.on v o1
 have e2:=WaK (Z:=Z) k vh ok
 have e3:=Wbs (Z:=Z) k.s13 vh qi
 have eI:=fun (lo hi:Int) (h:Heap)=>Wbd (F:=F) (Z:=Z) k.s01 8 lo hi h
 simp only[inR] at eI
 obtain ⟨y,p,rfl,hp,w⟩:=v1
 subst hp
 rw[Wac F Z (k.s13.lk (g:=381) rfl) _ _ rfl]
 simp only[Request.enc]
 cases hg:s.good with
 | false=>
   rw[hg] at e2
   rw[Wcj (by simp[hg])]
   simp only[rn,RO.dst,lk,drop,Nat.reduceBEq,Nat.reduceAdd,Nat.reduceLeDiff,↓reduceIte,reduceCtorEq,Qc,Qf,Qe,Qb,Qa,Int.reduceLT,Int.reduceLE,Int.reduceGT,Int.reduceGE,Int.reduceBEq,Int.reduceBNe,Int.reduceEq,Int.reduceNe,Int.reduceNeg,l1,l2,l3,e1,e2]
   exact ⟨_,_,_,rfl,o1,⟨y,_,rfl,rfl,w⟩,f1⟩
 | true=>
 rw[hg] at e2
 have hin:(s.good&&inR (⟨qe,8,qi,qa,qt⟩:Request).op 0 8)=true:=by rw[hg];rfl
 obtain ⟨x,p,rfl,hp,wx⟩:=vh
 subst hp
 rcases wx.found (fun t=>decide (t.lo≤qi)&&decide (qi≤t.hi)) with q | ⟨i,q,hi,hpi,_⟩
 ·change Waz s.shards qi= -1 at q
  rw[WbU hin q]
  rw[q] at e3
  simp only[rn,RO.dst,lk,drop,Nat.reduceBEq,Nat.reduceAdd,Nat.reduceLeDiff,↓reduceIte,reduceCtorEq,Qc,Qf,Qe,Qb,Qa,Int.reduceLT,Int.reduceLE,Int.reduceGT,Int.reduceGE,Int.reduceBEq,Int.reduceBNe,Int.reduceEq,Int.reduceNe,Int.reduceNeg,l1,l2,l3,e1,e2,e3,eI]
  exact ⟨_,_,_,rfl,o1,⟨y,_,rfl,rfl,w⟩,f1⟩
 change Waz s.shards qi=(i:Int) at q
 rw[q] at e3
 rw[dost_at hin q,Shard.at_get hi]
 have g0: ¬(i:Int)<0:=by omega
 have hxi:=wx.idx hi
 have hyi:=w.idx hi
 have okX:=ok.shards _ (Qd hi)
 have smX:=sm.2 _ (Qd hi)
 have smf:s.shards[i].finished.length≤1048576:=smX.2
 have smb:s.shards[i].book.list.length≤1048576:=smX.1
 have hgd:s.shards[i].good=true:=by
  have:=Store.fit_at hg hi
  simp only[Store.fits,Qg,Shard.at_get hi] at this
  exact this.1
 have hso:=Shard.good_sorted hgd
 have hbk:Wap s.shards[i].book.list=true:=by
  simp only[Qg,Shard.good,Shard.head] at hgd
  exact hgd.1.2.2.2.1
 obtain ⟨r,fx,hld,hR0,_⟩:=wx.one hi
 obtain ⟨cs4,h4,ft,e4,o4,u4,f4⟩:=WaF (Z:=Z) k.s10 k.s13 (o1.le hf) hR0 smX
 obtain ⟨xb,pb,xf,pf,rfl,rfl,wb,wf⟩:=hR0
 obtain ⟨b4,pb4,f4c,pf4,rfl,hq4,wb4,wf4⟩:=u4
 subst hq4
 obtain ⟨n4a,n4b,n4c⟩:=Ql.1 f4.nd
 have o04:=o1.trans o4
 have o4h:=o04.le
 have w4:=w.on Shard.okI o4
 have lt4:=w4.lt Shard.okI
 have lt4f:=wf4.lt (Fl.ok _)
 have eC:=WbA (F:=F) (Z:=Z) k.s13 wf4 ⟨qt,qi⟩
 simp only[Fin.enc] at eC
 have hlen:=wf4.len
 cases cA:(s.shards[i].epoch !=qe) with
 | true=>
   have cA':(s.shards[i].epoch==qe)=false:=by simpa using cA
   have hR:refuse s.shards[i] ⟨qe,8,qi,qa,qt⟩=9:=by simp[refuse,inR,Request.ends,Request.fin,cA']
   rw[hR]
   simp only[show ((9:Int)==0)=false from rfl,cond_false]
   simp only[rn,RO.dst,lk,drop,Nat.reduceBEq,Nat.reduceAdd,Nat.reduceLeDiff,↓reduceIte,reduceCtorEq,Qc,Qf,Qe,Qb,Qa,Int.reduceLT,Int.reduceLE,Int.reduceGT,Int.reduceGE,Int.reduceBEq,Int.reduceBNe,Int.reduceEq,Int.reduceNe,Int.reduceNeg,l1,l2,l3,e1,e2,e3,eI,hxi,hld,e4,eC,hlen,g0,cA]
   exact ⟨_,_,_,rfl,o04,⟨y,_,rfl,rfl,w4⟩,f1⟩
 | false=>
 have cA':(s.shards[i].epoch==qe)=true:=by simpa using cA
 cases cB:(s.shards[i].state==1) with
 | true=>
   have hR:refuse s.shards[i] ⟨qe,8,qi,qa,qt⟩=0:=by simp[refuse,inR,Request.ends,Request.fin,cA',cB]
   rw[hR]
   simp only[beq_self_eq_true,cond_true]
   have hA:WaW s.shards[i] ⟨qe,8,qi,qa,qt⟩=⟨s.shards[i].lo,s.shards[i].hi,s.shards[i].state,s.shards[i].epoch,⟨(Waq s.shards[i].book.list ⟨qe,8,qi,qa,qt⟩).1⟩,s.shards[i].finished⟩:=by simp[WaW,Request.ends,Request.fin,cA',cB]
   have hD:Waq s.shards[i].book.list ⟨qe,8,qi,qa,qt⟩=(s.shards[i].book.list,bif decide (0≤WaT s.shards[i].book.list qi) then 0 else 2):=rfl
   obtain ⟨g,fq,st,og,fg,w7,u7⟩:=row_set (h:=h) o04 hf w4 f1 hi wb4 wf4 f4.nd (fun id hid=>f4.lo id hid) (n:=h1.next) (w.lt Shard.okI) o1.ext.1
   rw[hA]
   have eA:=WaO (F:=F) (Z:=Z) k.s10 u7 qi
   have eF:=WaO (F:=F) (Z:=Z) k.s10 wb4 qi
   rcases Wbc hbk qi with ⟨q1,_⟩ | ⟨j,q1,_,_,hj,_⟩
   ·have hv:doVal (Waq s.shards[i].book.list ⟨qe,8,qi,qa,qt⟩) qi=0:=by simp[doVal,hD,q1]
    have hc:(Waq s.shards[i].book.list ⟨qe,8,qi,qa,qt⟩).2=2:=by simp[hD,q1]
    rw[hv,hc]
    simp only[q1] at eA eF
    simp only[rn,RO.dst,lk,drop,Nat.reduceBEq,Nat.reduceAdd,Nat.reduceLeDiff,↓reduceIte,reduceCtorEq,Qc,Qf,Qe,Qb,Qa,Int.reduceLT,Int.reduceLE,Int.reduceGT,Int.reduceGE,Int.reduceBEq,Int.reduceBNe,Int.reduceEq,Int.reduceNe,Int.reduceNeg,l1,l2,l3,e1,e2,e3,eI,hxi,hld,e4,eC,hlen,g0,cA,cB,eF,hyi,st,eA]
    exact ⟨_,_,_,rfl,og,⟨y,_,rfl,rfl,w7⟩,fg⟩
   ·have hv:doVal (Waq s.shards[i].book.list ⟨qe,8,qi,qa,qt⟩) qi=s.shards[i].book.list[j].bal:=by simp[doVal,hD,q1,Account.at_get hj]
    have hc:(Waq s.shards[i].book.list ⟨qe,8,qi,qa,qt⟩).2=0:=by simp[hD,q1]
    rw[hv,hc]
    simp only[q1] at eA eF
    have g1: ¬(j:Int)<0:=by omega
    have g2:(j:Int)≥0:=by omega
    have hx:=u7.idx hj
    have hl:=u7.load hj
    simp only[Account.enc] at hl
    simp only[rn,RO.dst,lk,drop,Nat.reduceBEq,Nat.reduceAdd,Nat.reduceLeDiff,↓reduceIte,reduceCtorEq,Qc,Qf,Qe,Qb,Qa,Int.reduceLT,Int.reduceLE,Int.reduceGT,Int.reduceGE,Int.reduceBEq,Int.reduceBNe,Int.reduceEq,Int.reduceNe,Int.reduceNeg,l1,l2,l3,e1,e2,e3,eI,hxi,hld,e4,eC,hlen,g0,cA,cB,eF,hyi,st,eA,g1,g2,hx,hl]
    exact ⟨_,_,_,rfl,og,⟨y,_,rfl,rfl,w7⟩,fg⟩
 | false=>
 have hR:refuse s.shards[i] ⟨qe,8,qi,qa,qt⟩=0:=by simp[refuse,inR,Request.ends,Request.fin,cA',cB]
 rw[hR]
 simp only[beq_self_eq_true,cond_true]
 have hA:WaW s.shards[i] ⟨qe,8,qi,qa,qt⟩=⟨s.shards[i].lo,s.shards[i].hi,s.shards[i].state,s.shards[i].epoch,⟨(Waq s.shards[i].book.list ⟨qe,8,qi,qa,qt⟩).1⟩,s.shards[i].finished⟩:=by simp[WaW,Request.ends,Request.fin,cA',cB]
 have hD:Waq s.shards[i].book.list ⟨qe,8,qi,qa,qt⟩=(s.shards[i].book.list,bif decide (0≤WaT s.shards[i].book.list qi) then 0 else 2):=rfl
 obtain ⟨g,fq,st,og,fg,w7,u7⟩:=row_set (h:=h) o04 hf w4 f1 hi wb4 wf4 f4.nd (fun id hid=>f4.lo id hid) (n:=h1.next) (w.lt Shard.okI) o1.ext.1
 rw[hA]
 have eA:=WaO (F:=F) (Z:=Z) k.s10 u7 qi
 have eF:=WaO (F:=F) (Z:=Z) k.s10 wb4 qi
 rcases Wbc hbk qi with ⟨q1,_⟩ | ⟨j,q1,_,_,hj,_⟩
 ·have hv:doVal (Waq s.shards[i].book.list ⟨qe,8,qi,qa,qt⟩) qi=0:=by simp[doVal,hD,q1]
  have hc:(Waq s.shards[i].book.list ⟨qe,8,qi,qa,qt⟩).2=2:=by simp[hD,q1]
  rw[hv,hc]
  simp only[q1] at eA eF
  simp only[rn,RO.dst,lk,drop,Nat.reduceBEq,Nat.reduceAdd,Nat.reduceLeDiff,↓reduceIte,reduceCtorEq,Qc,Qf,Qe,Qb,Qa,Int.reduceLT,Int.reduceLE,Int.reduceGT,Int.reduceGE,Int.reduceBEq,Int.reduceBNe,Int.reduceEq,Int.reduceNe,Int.reduceNeg,l1,l2,l3,e1,e2,e3,eI,hxi,hld,e4,eC,hlen,g0,cA,cB,eF,hyi,st,eA]
  exact ⟨_,_,_,rfl,og,⟨y,_,rfl,rfl,w7⟩,fg⟩
 ·have hv:doVal (Waq s.shards[i].book.list ⟨qe,8,qi,qa,qt⟩) qi=s.shards[i].book.list[j].bal:=by simp[doVal,hD,q1,Account.at_get hj]
  have hc:(Waq s.shards[i].book.list ⟨qe,8,qi,qa,qt⟩).2=0:=by simp[hD,q1]
  rw[hv,hc]
  simp only[q1] at eA eF
  have g1: ¬(j:Int)<0:=by omega
  have g2:(j:Int)≥0:=by omega
  have hx:=u7.idx hj
  have hl:=u7.load hj
  simp only[Account.enc] at hl
  simp only[rn,RO.dst,lk,drop,Nat.reduceBEq,Nat.reduceAdd,Nat.reduceLeDiff,↓reduceIte,reduceCtorEq,Qc,Qf,Qe,Qb,Qa,Int.reduceLT,Int.reduceLE,Int.reduceGT,Int.reduceGE,Int.reduceBEq,Int.reduceBNe,Int.reduceEq,Int.reduceNe,Int.reduceNeg,l1,l2,l3,e1,e2,e3,eI,hxi,hld,e4,eC,hlen,g0,cA,cB,eF,hyi,st,eA,g1,g2,hx,hl]
  exact ⟨_,_,_,rfl,og,⟨y,_,rfl,rfl,w7⟩,fg⟩
end
section
variable {F:Nat→Option RF} {Z:Waf} {h:Heap} {cs:List Cell} {fp:List Nat} {s:Store}
theorem op_cases' {o:Int} (h:inR o 0 8=true):o=0∨o=1∨o=2∨o=3∨o=4∨o=5∨o=6∨o=7∨o=8:=by
 simp only[inR,Qg,decide_eq_true_eq] at h
 omega
theorem sdo_out (k:KS F) (hf:h.floor≤h.next) (v:Store.RI h cs s fp) {q:Request} (hin:inR q.op 0 8=false) (ok:s.Ok) (sm:s.Small):WaG F Z h cs s q:=by
 unfold WaG
 obtain ⟨l1,l2,l3⟩:=Store.lenI v
 obtain ⟨cs1,h1,fr,e1,o1,v1,f1⟩:=WaZ (Z:=Z) k hf v sm
 have e2:=WaK (Z:=Z) k (Store.okI.on v o1) ok
 have e3:=Wbd (F:=F) (Z:=Z) k.s01 q.op 0 8 h1
 obtain ⟨m1,m2,m3⟩:=Store.lenI v1
 rw[Wac F Z (k.s13.lk (g:=381) rfl) _ _ rfl,Wcj (by simp[hin])]
 rw[hin] at e3
 obtain ⟨qe,qo,qi,qa,qt⟩:=q
 simp only[Request.enc]
 cases hg:s.good with
 | false=>
   rw[hg] at e2
   simp only[rn,RO.dst,lk,drop,Nat.reduceBEq,Nat.reduceAdd,Nat.reduceLeDiff,↓reduceIte,reduceCtorEq,l1,l2,l3,m1,m2,m3,e1,e2]
   exact ⟨_,_,_,rfl,o1,v1,f1⟩
 | true=>
   rw[hg] at e2
   simp only[rn,RO.dst,lk,drop,Nat.reduceBEq,Nat.reduceAdd,Nat.reduceLeDiff,↓reduceIte,reduceCtorEq,l1,l2,l3,m1,m2,m3,e1,e2,e3]
   exact ⟨_,_,_,rfl,o1,v1,f1⟩
theorem sDoStore_c (k:KS F) (hf:h.floor≤h.next) (v:Store.RI h cs s fp) (q:Request) (okq:q.Ok) (ok:s.Ok) (sm:s.Small):
 ∃cs' h' fq,call F Z 381 [.agg cs,.agg q.enc] h=some (.tup [.agg cs',.c (.int .i64 (Wbl s q).2.1),.c (.int .u64 (Wbl s q).2.2)],h')∧On h h'∧Store.RI h' cs' (Wbl s q).1 fq∧Fre h fq:=by
 show WaG F Z h cs s q
 cases hin:inR q.op 0 8 with
 | false=>exact sdo_out k hf v hin ok sm
 | true=>
   obtain ⟨qe,qo,qi,qa,qt⟩:=q
   rcases op_cases' hin with h | h | h | h | h | h | h | h | h<;>(simp only at h;subst h)
   ·exact sdo_op0 k hf v qe qi qa qt okq ok sm
   ·exact sdo_op1 k hf v qe qi qa qt okq ok sm
   ·exact sdo_op2 k hf v qe qi qa qt okq ok sm
   ·exact sdo_op3 k hf v qe qi qa qt okq ok sm
   ·exact sdo_op4 k hf v qe qi qa qt okq ok sm
   ·exact sdo_op5 k hf v qe qi qa qt okq ok sm
   ·exact sdo_op6 k hf v qe qi qa qt okq ok sm
   ·exact sdo_op7 k hf v qe qi qa qt okq ok sm
   ·exact sdo_op8 k hf v qe qi qa qt okq ok sm
end
theorem grp_renew (s:Store) (e:Int):(Wba s e).1.group=s.group:=by
 unfold Wba;cases s.next e<;>rfl
theorem grp_freeze (s:Store) (lo e:Int):(Wae s lo e).1.group=s.group:=by
 unfold Wae;cases (s.next e&&decide (0≤Waj s.shards lo 0))<;>rfl
theorem grp_cut (s:Store) (a e:Int):(WaI s a e).1.group=s.group:=by
 cases h:(WaI s a e).2 with
 | false=>rw[cut_same h]
 | true=>
   obtain ⟨_,_,_,_,_,_,_,_,_,hc⟩:=cut_when h
   rw[hc];rfl
theorem grp_join (s:Store) (a e:Int):(WaD s a e).1.group=s.group:=by
 cases h:(WaD s a e).2 with
 | false=>rw[join_same h]
 | true=>
   obtain ⟨_,_,_,_,_,_,_,_,_,hc⟩:=join_when h
   rw[hc];rfl
theorem grp_do {s:Store} (g:s.Good) (q:Request):(Wbl s q).1.group=s.group:=by
 rcases Wca (q:=q) g with ⟨h,_⟩ | ⟨i,hi,_,hp,d,h⟩<;>rw[h]
structure Drawn (hb:Heap) (h:Heap) (k:Nat) (cs:List Cell) (s:Store) (fp:List Nat):Prop where
 ri:Store.RI h cs s fp
 fr:Fre hb fp
 far:k∉fp
 sg:SGood s
 pos:0<s.shards.length
 low:s.Low 900
theorem Drawn.dr {hb h h':Heap} {k:Nat} {cs:List Cell} {s:Store} {fp:List Nat} (w:Drawn hb h k cs s fp) (d:Dr k h h'):Drawn hb h' k cs s fp:=⟨Store.okI.dr w.ri d w.far,w.fr,w.far,w.sg,w.pos,w.low⟩
section
variable {F:Nat→Option RF} {Z:Waf} {hb h:Heap} {k:Nat} {x y:Cell} {code:List Int} {cs:List Cell} {fp:List Nat} {s:Store}
set_option maxHeartbeats 4000000 in
set_option maxRecDepth 8000 in
theorem l13DrawStep_c (K:KS F) (hS11:Has F tS11) (c:Cur h k x code) (hbn:hb.next≤h.next) (w:Drawn hb h k cs s fp) (hs:s.seen≤900000):
 ∃(s':Store) (cs':List Cell) (h':Heap) (fp':List Nat),call F Z 396 [.c (.ptr k 0 0),.agg cs] h=some (.agg cs',h')∧Drawn hb h' k cs' s' fp'∧s'.group=s.group∧(s'.seen=s.seen∨s'.seen=s.seen+1)∧Dr k h h'∧Cur h' k x code:=by
 obtain ⟨l1,l2,l3⟩:=Store.lenI w.ri
 have hsn:=w.sg.good.sn
 have hwn:IntKind.i64.wrap (s.seen+1)=s.seen+1:=Wbr _ (by omega) (by omega)
 have hpos:(s.shards.length:Int)>0:=by have:=w.pos;omega
 have h8:=w.sg.good.len
 obtain ⟨r1,h1,e1,r10,r1n,_,m1,c1⟩:=Wak (Z:=Z) K.s01 c (s.shards.length:Nat)
 have r1l:=r1n (by omega)
 obtain ⟨n1,rfl⟩: ∃n:Nat,r1=(n:Int):=⟨r1.toNat,by omega⟩
 have hn1:n1<s.shards.length:=by omega
 have w1:=w.dr m1.dr
 obtain ⟨r5,h2,e5,r50,r5n,_,m2,c2⟩:=Wak (Z:=Z) K.s01 c1 14
 have w2:=w1.dr m2.dr
 have dr2:=m1.dr.trans m2.dr
 obtain ⟨z,p,rfl,hp,wz⟩:=w.ri
 subst hp
 have hzl:=wz.len
 have hzi:=wz.idx hn1
 obtain ⟨r,f0,hall,hR,_⟩:=wz.oneDr w.far hn1
 obtain ⟨xb,pb,xf,pf,rfl,_,_,_⟩:=hR
 have hld:=hall h1 m1.dr
 have hloU:=(w.sg.ok.shards _ (Qd hn1)).lo
 generalize s.shards[n1].lo=lo at *
 rw[Wac F Z (K.s13.lk (g:=396) rfl) _ _ rfl]
 have fin: ∀{s':Store} {cs':List Cell} {g h':Heap} {fp':List Nat},Dr k h g→Cur g k x code→On g h'→Store.RI h' cs' s' fp'→Fre g fp'→SGood s'→0<s'.shards.length→s'.Low 900→Drawn hb h' k cs' s' fp'∧Dr k h h'∧Cur h' k x code:=fun {s' cs' g h' fp'} d cg o v f sg ps lw=>
  ⟨⟨v,⟨fun id hid=>by have:=f.lo id hid;have:=d.next;omega,f.nd⟩,cg.far f,sg,ps,lw⟩,d.trans (o.dr k),cg.on o⟩
 cases q0:(r5==0) with
 | true=>
   obtain ⟨a,h3,e3,ha,d3,c3⟩:=drawAt_c (Z:=Z) K.s01 hS11 c2
   have w3:=w2.dr d3
   have dr3:=dr2.trans d3
   obtain ⟨cs',hq,fq,e4,o4,v4,f4⟩:=sCutShard_c (Z:=Z) (h:=⟨h3.next,h3.next,h3.get⟩) K (QD _) (Store.okI.up w3.ri h3.next) a (s.seen+1) ha w.sg.ok w.sg.small
   obtain ⟨g,hg⟩: ∃g,Heap.mk hq.next h3.floor hq.get=g:=⟨_,rfl⟩
   have og:On h3 g:=by rw[←hg];exact ⟨⟨o4.ext.1,o4.ext.2⟩,rfl⟩
   have vg:Store.RI g cs' (WaI s a (s.seen+1)).1 fq:=by rw[←hg];exact Store.okI.up v4 h3.floor
   obtain ⟨m1',m2',m3'⟩:=Store.lenI vg
   obtain ⟨A,B,C⟩:=fin dr3 c3 og vg ⟨f4.lo,f4.nd⟩ (w.sg.cut ha _) (Jm w.pos (len_cut s a _)) (w.low.cut a _)
   simp only[rn,RO.dst,lk,drop,Nat.reduceBEq,Nat.reduceAdd,Nat.reduceLeDiff,↓reduceIte,reduceCtorEq,l1,l2,l3,hwn,hzl,hpos,e1,hzi,hld,e5,q0,e3,e4,hg,m1',m2',m3']
   exact ⟨_,_,_,_,rfl,A,grp_cut s a _,seen_cut s a _,B,C⟩
 | false=>
 cases q1:(r5==1) with
 | true=>
   obtain ⟨cs',h',fq,e4,o4,v4,f4⟩:=sJoinShard_c (Z:=Z) K c2.le w2.ri lo (s.seen+1) hloU w.sg.ok w.sg.small
   obtain ⟨m1',m2',m3'⟩:=Store.lenI v4
   obtain ⟨A,B,C⟩:=fin dr2 c2 o4 v4 f4 (w.sg.join lo _) (len_join s lo _ w.pos) (w.low.join lo _)
   simp only[rn,RO.dst,lk,drop,Nat.reduceBEq,Nat.reduceAdd,Nat.reduceLeDiff,↓reduceIte,reduceCtorEq,l1,l2,l3,hwn,hzl,hpos,e1,hzi,hld,e5,q0,q1,e4,m1',m2',m3']
   exact ⟨_,_,_,_,rfl,A,grp_join s lo _,seen_join s lo _,B,C⟩
 | false=>
 cases q2:(r5==2) with
 | true=>
   obtain ⟨cs',h',fq,e4,o4,v4,f4⟩:=sRenewStore_c (Z:=Z) K c2.le w2.ri (s.seen+1) w.sg.ok w.sg.small
   obtain ⟨m1',m2',m3'⟩:=Store.lenI v4
   obtain ⟨A,B,C⟩:=fin dr2 c2 o4 v4 f4 (w.sg.renew _) (by rw[len_renew];exact w.pos) (w.low.renew _)
   simp only[rn,RO.dst,lk,drop,Nat.reduceBEq,Nat.reduceAdd,Nat.reduceLeDiff,↓reduceIte,reduceCtorEq,l1,l2,l3,hwn,hzl,hpos,e1,hzi,hld,e5,q0,q1,q2,e4,m1',m2',m3']
   exact ⟨_,_,_,_,rfl,A,grp_renew s _,seen_renew s _,B,C⟩
 | false=>
 cases q3:(r5==3) with
 | true=>
   obtain ⟨b6,h3,e6,m3,c3⟩:=l01Once_c (Z:=Z) K.s01 c2 3
   have w3:=w2.dr m3.dr
   have dr3:=dr2.trans m3.dr
   cases b6 with
   | true=>
     obtain ⟨cs',h',fq,e4,o4,v4,f4⟩:=sFreezeShard_c (Z:=Z) K c3.le w3.ri lo (s.seen+1) w.sg.ok w.sg.small
     obtain ⟨m1',m2',m3'⟩:=Store.lenI v4
     obtain ⟨A,B,C⟩:=fin dr3 c3 o4 v4 f4 (w.sg.freeze lo _) (by rw[len_freeze];exact w.pos) (w.low.freeze lo _)
     simp only[rn,RO.dst,lk,drop,Nat.reduceBEq,Nat.reduceAdd,Nat.reduceLeDiff,↓reduceIte,reduceCtorEq,l1,l2,l3,hwn,hzl,hpos,e1,hzi,hld,e5,q0,q1,q2,q3,e6,e4,m1',m2',m3']
     exact ⟨_,_,_,_,rfl,A,grp_freeze s lo _,seen_freeze s lo _,B,C⟩
   | false=>
     simp only[rn,RO.dst,lk,drop,Nat.reduceBEq,Nat.reduceAdd,Nat.reduceLeDiff,↓reduceIte,reduceCtorEq,l1,l2,l3,hwn,hzl,hpos,e1,hzi,hld,e5,q0,q1,q2,q3,e6]
     exact ⟨_,_,_,_,rfl,w3,rfl,.inl rfl,dr3,c3⟩
 | false=>
   obtain ⟨q,h3,e3,⟨okq,hqt⟩,d3,c3⟩:=l13DrawRequest_c (Z:=Z) K.s01 K.s10 K.s13 c2 w2.ri w2.far w.sg w.low
   have w3:=w2.dr d3
   have dr3:=dr2.trans d3
   obtain ⟨cs',hq,fq,e4,o4,v4,f4⟩:=sDoStore_c (Z:=Z) (h:=⟨h3.next,h3.next,h3.get⟩) K (QD _) (Store.okI.up w3.ri h3.next) q okq w.sg.ok w.sg.small
   obtain ⟨g,hg⟩: ∃g,Heap.mk hq.next h3.floor hq.get=g:=⟨_,rfl⟩
   have og:On h3 g:=by rw[←hg];exact ⟨⟨o4.ext.1,o4.ext.2⟩,rfl⟩
   have vg:Store.RI g cs' (Wbl s q).1 fq:=by rw[←hg];exact Store.okI.up v4 h3.floor
   obtain ⟨m1',m2',m3'⟩:=Store.lenI vg
   obtain ⟨A,B,C⟩:=fin dr3 c3 og vg ⟨f4.lo,f4.nd⟩ (w.sg.done okq) (by rw[len_do w.sg.good];exact w.pos) (w.low.done w.sg okq (fun a ha=>by rcases ha with ha | ha<;>rw[ha]<;>omega) fun _=>hqt)
   simp only[rn,RO.dst,lk,drop,Nat.reduceBEq,Nat.reduceAdd,Nat.reduceLeDiff,↓reduceIte,reduceCtorEq,l1,l2,l3,hwn,hzl,hpos,e1,hzi,hld,e5,q0,q1,q2,q3,e3,e4,hg,m1',m2',m3']
   exact ⟨_,_,_,_,rfl,A,grp_do w.sg.good q,.inl (seen_do w.sg.good q),B,C⟩
end
section
structure Range where
 lo:Int
 hi:Int
 group:Int
 deriving DecidableEq
namespace Range
def enc (t:Range):List Cell:=[.int .u64 t.lo,.int .u64 t.hi,.int .i64 t.group]
theorem len (t:Range):t.enc.length=3:=rfl
theorem tak (t:Range):t.enc.take 3=t.enc:=rfl
def none_:Range:=⟨0,0,0⟩
structure Ok (t:Range):Prop where
 lo:0≤t.lo∧t.lo≤18446744073709551615
 hi:0≤t.hi∧t.hi≤18446744073709551615
 group: -9223372036854775808≤t.group∧t.group≤9223372036854775807
end Range
end
def tLRange:List (Nat×RF):=[]
section
variable {F:Nat→Option RF} {Z:Waf} {h:Heap} {x y:Cell} {xs ys:List Range} {fp fq:List Nat}
def Range.zero:List Cell:=[.int .u64 0,.int .u64 0,.int .i64 0]
end
def tLChart:List (Nat×RF):=[]
section
structure Chart where
 epoch:Int
 ranges:List Range
 moving:Bool
 lo:Int
 to:Int
 deriving DecidableEq
def Chart.RI:Rel Chart:=fun h cs t fp=> ∃x1 p1,cs=[.int .i64 t.epoch,x1,.bool t.moving,.int .u64 t.lo,.int .i64 t.to]∧fp=p1∧SlR 7 (Fl Range.enc) h x1 t.ranges p1
theorem Chart.okI:RelOk Chart.RI where
 lt:=by
  rintro h cs t fp ⟨x1,p1,rfl,rfl,w1⟩ id hid
  exact w1.lt (Fl.ok _) id hid
 mv:=by
  rintro h h' cs t fp ⟨x1,p1,rfl,rfl,w1⟩ hn hg
  exact ⟨x1,_,rfl,rfl,w1.mv (Fl.ok _) hn hg⟩
theorem Chart.lenI {h:Heap} {cs:List Cell} {t:Chart} {fp:List Nat} (v:Chart.RI h cs t fp):cs.length=5∧cs.take 5=cs∧cs.drop 5=[]:=by
 obtain ⟨x1,p1,rfl,_⟩:=v
 exact ⟨rfl,rfl,rfl⟩
namespace Chart
structure Ok (t:Chart):Prop where
 epoch: -9223372036854775808≤t.epoch∧t.epoch≤9223372036854775807
 ranges: ∀a,a∈t.ranges→a.Ok
 lo:0≤t.lo∧t.lo≤18446744073709551615
 to: -9223372036854775808≤t.to∧t.to≤9223372036854775807
def Small (t:Chart):Prop:=t.ranges.length≤1048576
end Chart
section
variable {F:Nat→Option RF} {Z:Waf} {h:Heap} {cs cs':List Cell} {t u:Chart} {fp fq:List Nat}
end
end
def tLibslicesIndexFuncimplRangeimplRange:List (Nat×RF):=[]
def Range.at_ (xs:List Range) (i:Nat):Range:=xs[i]?.getD Range.none_
def Range.fits (xs:List Range) (i:Nat):Bool:=decide ((Range.at_ xs i).lo≤(Range.at_ xs i).hi)&&(inR (Range.at_ xs i).group 0 99&&(i==0||decide ((Range.at_ xs i).lo=(Range.at_ xs (i-1)).hi+1)))
def rangesOk (xs:List Range):Bool:=inR xs.length 1 24&&((Range.at_ xs 0).lo==0&&((Range.at_ xs (xs.length-1)).hi==18446744073709551615&&(List.range xs.length).all (Range.fits xs)))
section
variable {F:Nat→Option RF} {Z:Waf} {h:Heap} {x:Cell} {xs:List Range} {fp:List Nat}
end
def findHi (xs:List Range) (id:Int):Int:=Wbt (fun r=>decide (id≤r.hi)) xs
def findCov (xs:List Range) (id:Int):Int:=Wbt (fun r=>decide (r.lo≤id)&&decide (id≤r.hi)) xs
section
variable {F:Nat→Option RF} {Z:Waf} {h:Heap} {x:Cell} {xs:List Range} {fp:List Nat}
end
structure RangesFit (xs:List Range):Prop where
 pos:1≤xs.length
 few:xs.length≤24
 lo0:(Range.at_ xs 0).lo=0
 hiN:(Range.at_ xs (xs.length-1)).hi=18446744073709551615
 le: ∀i,i<xs.length→(Range.at_ xs i).lo≤(Range.at_ xs i).hi
 grp: ∀i,i<xs.length→0≤(Range.at_ xs i).group∧(Range.at_ xs i).group≤99
 next: ∀i,i+1<xs.length→(Range.at_ xs (i+1)).lo=(Range.at_ xs i).hi+1
theorem rangesOk_fit {xs:List Range} (h:rangesOk xs=true):RangesFit xs:=by
 simp only[rangesOk,Qg,inR,decide_eq_true_eq,beq_iff_eq,QW,Jc,Range.fits,QO] at h
 obtain ⟨⟨h1,h2⟩,h3,h4,h5⟩:=h
 exact ⟨by omega,by omega,h3,h4,fun i hi=>(h5 i hi).1,fun i hi=>(h5 i hi).2.1,fun i hi=>by
  rcases (h5 (i+1) hi).2.2 with h | h
  ·omega
  ·simpa using h⟩
theorem at_get {xs:List Range} {i:Nat} (hi:i<xs.length):Range.at_ xs i=xs[i]:=by simp[Range.at_,Qt hi]
theorem RangesFit.has {xs:List Range} (w:RangesFit xs) {id:Int} (h0:0≤id) (h1:id≤18446744073709551615):
 ∃i,i<xs.length∧findHi xs id=(i:Int)∧findCov xs id=(i:Int)∧(Range.at_ xs i).lo≤id∧id≤(Range.at_ xs i).hi:=by
 have hp:=w.pos
 cases hf:xs.findIdx? (fun r=>decide (id≤r.hi)) with
 | none=>
   rw[QJ] at hf
   have:=hf xs[xs.length-1] (Qd (by omega))
   have hN:=w.hiN
   rw[at_get (by omega)] at hN
   simp at this
   omega
 | some i=>
   rw[QB] at hf
   obtain ⟨hi,h2,h3⟩:=hf
   have h2':id≤(Range.at_ xs i).hi:=by rw[at_get hi];simpa using h2
   have hlo:(Range.at_ xs i).lo≤id:=by
    cases i with
    | zero=>rw[w.lo0];exact h0
    | succ i=>
      rw[w.next i hi]
      have:=h3 i (by omega)
      rw[at_get (by omega)]
      simp at this
      omega
   refine ⟨i,hi,?_,?_,hlo,h2'⟩
   ·have:xs.findIdx? (fun r=>decide (id≤r.hi))=some i:=QB.2 ⟨hi,h2,h3⟩
    simp only[findHi,Wbt,this]
   ·have:xs.findIdx? (fun r=>decide (r.lo≤id)&&decide (id≤r.hi))=some i:=by
     rw[QB]
     rw[at_get hi] at hlo h2'
     refine ⟨hi,by simp[hlo,h2'],fun j hj=> ?_⟩
     have:=h3 j hj
     simp at this ⊢
     intro _
     exact this
    simp only[findCov,Wbt,this]
def r70:RF:=
 ⟨2,[.tmp 4,.tmp 5],
 .seq (.reg [⟨none,.locb 2 (.t 0)⟩,
 ⟨none,.mov 4 (.k (.int .i64 0))⟩,
 ⟨none,.mov 5 (.k (.int .i64 0))⟩])
 (.seq (.seq (.reg [⟨none,.load 6 2 5 true⟩,
 ⟨none,.call (some 7) 106 [(.t 6)] false⟩,
 ⟨none,.not 8 (.t 7)⟩])
 (.cond (.t 8)
 (.seq (.reg [⟨none,.mov 4 (.k (.int .i64 (-1)))⟩,
 ⟨none,.mov 5 (.k (.int .i64 (-1)))⟩])
 (.ret))
 (.skip)))
 (.seq (.reg [⟨none,.chk []⟩,
 ⟨none,.mov 13 (.t 1)⟩,
 ⟨none,.fad 9 2 1⟩,
 ⟨none,.load 10 9 1 false⟩,
 ⟨none,.fad 11 2 1⟩,
 ⟨none,.load 12 11 1 false⟩,
 ⟨none,.fad 18 2 0⟩,
 ⟨none,.load 19 18 1 false⟩,
 ⟨none,.call (some 14) 107 [(.t 12),(.t 13)] true⟩,
 ⟨none,.idx 15 7 (.t 10) (.t 14)⟩,
 ⟨none,.fad 16 15 2⟩,
 ⟨none,.load 17 16 1 false⟩,
 ⟨none,.mov 4 (.t 17)⟩,
 ⟨none,.mov 5 (.t 19)⟩])
 (.ret)))⟩
def tI12:List (Nat×RF):=[(70,r70)]
def tS12:List (Nat×RF):=[]
def Chart.of_ (c:Chart) (id:Int):Range:=Range.at_ c.ranges (findHi c.ranges id).toNat
def Chart.good (c:Chart):Bool:=inR c.epoch 1 1000000&&(rangesOk c.ranges&&(bif c.moving then (c.of_ c.lo).lo==c.lo&&(inR c.to 0 99&&c.to !=(c.of_ c.lo).group) else c.lo==0&&c.to==0))
theorem Chart.has {c:Chart} (hr:rangesOk c.ranges=true) {id:Int} (h0:0≤id) (h1:id≤18446744073709551615):
 ∃i,i<c.ranges.length∧findHi c.ranges id=(i:Int)∧findCov c.ranges id=(i:Int)∧c.of_ id=Range.at_ c.ranges i∧(Range.at_ c.ranges i).lo≤id∧id≤(Range.at_ c.ranges i).hi:=by
 obtain ⟨i,h1,h2,h3,h4,h5⟩:=(rangesOk_fit hr).has h0 h1
 exact ⟨i,h1,h2,h3,by simp[Chart.of_,h2],h4,h5⟩
section
variable {F:Nat→Option RF} {Z:Waf} {h:Heap} {cs cs':List Cell} {c d:Chart} {fp fq:List Nat}
end
def Chart.moved (c d:Chart) (id:Int):Bool:=c.good&&(d.good&&(c.of_ id).group !=(d.of_ id).group)
section
variable {F:Nat→Option RF} {Z:Waf} {h:Heap} {cs cs':List Cell} {c d:Chart} {fp fq:List Nat}
end
section
variable {xs:List Range} {a g:Int}
end
section
variable {F:Nat→Option RF} {Z:Waf} {h hp:Heap} {x:Cell} {xs:List Range} {fp:List Nat}
end
section
variable {xs:List Range} {k:Int}
end
section
variable {F:Nat→Option RF} {Z:Waf} {h hp:Heap} {x:Cell} {xs:List Range} {fp:List Nat}
end
section
variable {α:Type} {zs:List α} {p q:α}
end
section
variable {F:Nat→Option RF} {Z:Waf} {h hp:Heap} {x:Cell} {xs:List Range} {fp:List Nat}
end
section
variable {xs:List Range} {r:Range}
end
section
variable {F:Nat→Option RF} {Z:Waf} {h hp:Heap} {x:Cell} {xs:List Range} {fp:List Nat}
theorem Acc.putRow {g:Heap} {y:Cell} {rows:List (List Cell)} (a:Acc 7 h g y rows) (hf:h.floor≤h.next) {k:Nat} (hk:k<rows.length):
 (∀j n,WaC g y.sid k j n=cut? rows[k] j n)∧idxR 7 (some y) (some (k:Int))=some (.ptr y.sid k 0)∧ ∀j new r',splice? rows[k] j new=some r'→ ∃g',storeP g y.sid k j new=some g'∧Acc 7 h g' y (rows.set k r'):=by
 obtain ⟨o,fp,w,f⟩:=a
 obtain ⟨r,f2,rws,hR,hs,hld,hself,hst,hl2,fin⟩:=w.putRow (Fl.ok _) f.nd (f.own o hf) hk
 obtain ⟨rfl,rfl⟩:=hR
 refine ⟨hld,w.idx hk,fun j new r' hs=> ?_⟩
 have h1:=hst rows[k] j new
 rw[hself,hs] at h1
 obtain ⟨u,m⟩:=fin r' r' ⟨rfl,rfl⟩
 exact ⟨_,h1,o.turned m f,fp,u,f⟩
end
section
variable {F:Nat→Option RF} {Z:Waf} {h:Heap} {cs cs':List Cell} {c d:Chart} {fp fq:List Nat}
end
section
variable {F:Nat→Option RF} {Z:Waf} {h:Heap} {cs cs':List Cell} {c d:Chart} {fp fq:List Nat}
end
section
structure MapCmd where
 kind:Int
 at_:Int
 group:Int
 deriving DecidableEq
namespace MapCmd
def enc (t:MapCmd):List Cell:=[.int .i64 t.kind,.int .u64 t.at_,.int .i64 t.group]
theorem len (t:MapCmd):t.enc.length=3:=rfl
theorem tak (t:MapCmd):t.enc.take 3=t.enc:=rfl
def none_:MapCmd:=⟨0,0,0⟩
structure Ok (t:MapCmd):Prop where
 kind: -9223372036854775808≤t.kind∧t.kind≤9223372036854775807
 at_:0≤t.at_∧t.at_≤18446744073709551615
 group: -9223372036854775808≤t.group∧t.group≤9223372036854775807
end MapCmd
end
def Chart.mv (c:Chart) (i:Nat):Bool:=c.moving&&((Range.at_ c.ranges i).lo==c.lo)
def Chart.fin (c:Chart) (p:List Range×Bool):Chart×Int:=bif p.2 then ({c with epoch:=c.epoch+1,ranges:=p.1},0) else (c,4)
def Chart.pl (c:Chart) (id:Int):Nat:=(findHi c.ranges id).toNat
def r50L0:RC:=
 .seq (.seq (.reg [⟨none,.mov 6 (.t 5)⟩,
 ⟨none,.mov 7 (.t 0)⟩,
 ⟨none,.len 8 (.t 7)⟩,
 ⟨none,.bin 9 .lss (.t 6) (.t 8)⟩])
 (.cond (.t 9)
 (.skip)
 (.exit 0)))
 (.seq (.block 1 (.seq (.seq (.reg [⟨none,.mov 12 (.t 0)⟩,
 ⟨none,.mov 13 (.t 5)⟩,
 ⟨none,.idx 14 3 (.t 12) (.t 13)⟩,
 ⟨none,.fad 15 14 0⟩,
 ⟨none,.load 16 15 1 false⟩,
 ⟨none,.mov 17 (.t 1)⟩,
 ⟨none,.bin 18 .neq (.t 16) (.t 17)⟩])
 (.cond (.t 18)
 (.seq (.reg [⟨none,.mov 4 (.k (.int .i64 (-1)))⟩])
 (.ret))
 (.skip)))
 (.seq (.reg [⟨none,.mov 19 (.t 1)⟩,
 ⟨none,.bin 20 .add (.t 19) (.k (.int .i64 1))⟩,
 ⟨none,.mov 1 (.t 20)⟩])
 (.seq (.seq (.reg [⟨none,.mov 21 (.t 0)⟩,
 ⟨none,.mov 22 (.t 5)⟩,
 ⟨none,.idx 23 3 (.t 21) (.t 22)⟩,
 ⟨none,.fad 24 23 1⟩,
 ⟨none,.load 25 24 1 false⟩,
 ⟨none,.mov 26 (.t 1)⟩,
 ⟨none,.bin 27 .neq (.t 25) (.t 26)⟩])
 (.cond (.t 27)
 (.seq (.reg [⟨none,.mov 4 (.k (.int .i64 (-1)))⟩])
 (.ret))
 (.skip)))
 (.seq (.reg [⟨none,.mov 28 (.t 1)⟩,
 ⟨none,.bin 29 .add (.t 28) (.k (.int .i64 1))⟩,
 ⟨none,.mov 1 (.t 29)⟩])
 (.seq (.seq (.reg [⟨none,.mov 30 (.t 0)⟩,
 ⟨none,.mov 31 (.t 5)⟩,
 ⟨none,.idx 32 3 (.t 30) (.t 31)⟩,
 ⟨none,.fad 33 32 2⟩,
 ⟨none,.load 34 33 1 false⟩,
 ⟨none,.mov 35 (.t 1)⟩,
 ⟨none,.conv 36 .u64 (.t 35)⟩,
 ⟨none,.bin 37 .neq (.t 34) (.t 36)⟩])
 (.cond (.t 37)
 (.seq (.reg [⟨none,.mov 4 (.k (.int .i64 (-1)))⟩])
 (.ret))
 (.skip)))
 (.seq (.reg [⟨none,.mov 38 (.t 1)⟩,
 ⟨none,.bin 39 .add (.t 38) (.k (.int .i64 1))⟩,
 ⟨none,.mov 1 (.t 39)⟩])
 (.seq (.seq (.reg [⟨none,.mov 40 (.t 0)⟩,
 ⟨none,.mov 41 (.t 5)⟩,
 ⟨none,.idx 42 3 (.t 40) (.t 41)⟩,
 ⟨none,.fad 43 42 3⟩,
 ⟨none,.load 44 43 1 false⟩,
 ⟨none,.mov 45 (.t 1)⟩,
 ⟨none,.conv 46 .u64 (.t 45)⟩,
 ⟨none,.bin 47 .neq (.t 44) (.t 46)⟩])
 (.cond (.t 47)
 (.seq (.reg [⟨none,.mov 4 (.k (.int .i64 (-1)))⟩])
 (.ret))
 (.skip)))
 (.seq (.reg [⟨none,.mov 48 (.t 1)⟩,
 ⟨none,.bin 49 .add (.t 48) (.k (.int .i64 1))⟩,
 ⟨none,.mov 1 (.t 49)⟩])
 (.seq (.seq (.reg [⟨none,.mov 50 (.t 0)⟩,
 ⟨none,.mov 51 (.t 5)⟩,
 ⟨none,.idx 52 3 (.t 50) (.t 51)⟩,
 ⟨none,.fad 53 52 4⟩,
 ⟨none,.load 54 53 1 false⟩,
 ⟨none,.mov 55 (.t 1)⟩,
 ⟨none,.bin 56 .neq (.t 54) (.t 55)⟩])
 (.cond (.t 56)
 (.seq (.reg [⟨none,.mov 4 (.k (.int .i64 (-1)))⟩])
 (.ret))
 (.skip)))
 (.reg [⟨none,.mov 57 (.t 1)⟩,
 ⟨none,.bin 58 .add (.t 57) (.k (.int .i64 1))⟩,
 ⟨none,.mov 1 (.t 58)⟩])))))))))))
 (.reg [⟨none,.mov 10 (.t 5)⟩,
 ⟨none,.bin 11 .add (.t 10) (.k (.int .i64 1))⟩,
 ⟨none,.mov 5 (.t 11)⟩]))
def r50:RF:=
 ⟨2,[.tmp 4],
 .seq (.reg [⟨none,.mov 4 (.k (.int .i64 0))⟩])
 (.seq (.seq (.reg [⟨none,.mov 5 (.k (.int .i64 0))⟩])
 (.block 0 (.loop [0,1,5]
 r50L0)))
 (.seq (.reg [⟨none,.mov 59 (.t 1)⟩,
 ⟨none,.mov 4 (.t 59)⟩])
 (.ret)))⟩
def tLRequest:List (Nat×RF):=[(50,r50)]
section
variable {F:Nat→Option RF} {Z:Waf} {h:Heap} {x y:Cell} {xs ys:List Request} {fp fq:List Nat}
def Request.zero:List Cell:=[.int .i64 0,.int .i64 0,.int .u64 0,.int .u64 0,.int .i64 0]
end
def tLClient:List (Nat×RF):=[]
section
structure Client where
 id:Int
 seq:Int
 chart:Chart
 busy:Bool
 tries:Int
 ask:Request
 deriving DecidableEq
def Client.RI:Rel Client:=fun h cs t fp=> ∃x1 p1,cs=[.int .i64 t.id,.int .i64 t.seq,.int .i64 t.chart.epoch,x1,.bool t.chart.moving,.int .u64 t.chart.lo,.int .i64 t.chart.to,.bool t.busy,.int .i64 t.tries,.int .i64 t.ask.epoch,.int .i64 t.ask.op,.int .u64 t.ask.id,.int .u64 t.ask.amount,.int .i64 t.ask.tx]∧fp=p1∧SlR 7 (Fl Range.enc) h x1 t.chart.ranges p1
theorem Client.okI:RelOk Client.RI where
 lt:=by
  rintro h cs t fp ⟨x1,p1,rfl,rfl,w1⟩ id hid
  exact w1.lt (Fl.ok _) id hid
 mv:=by
  rintro h h' cs t fp ⟨x1,p1,rfl,rfl,w1⟩ hn hg
  exact ⟨x1,_,rfl,rfl,w1.mv (Fl.ok _) hn hg⟩
theorem Client.lenI {h:Heap} {cs:List Cell} {t:Client} {fp:List Nat} (v:Client.RI h cs t fp):cs.length=14∧cs.take 14=cs∧cs.drop 14=[]:=by
 obtain ⟨x1,p1,rfl,_⟩:=v
 exact ⟨rfl,rfl,rfl⟩
namespace Client
structure Ok (t:Client):Prop where
 id: -9223372036854775808≤t.id∧t.id≤9223372036854775807
 seq: -9223372036854775808≤t.seq∧t.seq≤9223372036854775807
 chart:t.chart.Ok
 tries: -9223372036854775808≤t.tries∧t.tries≤9223372036854775807
 ask:t.ask.Ok
def Small (t:Client):Prop:=t.chart.Small
end Client
section
variable {F:Nat→Option RF} {Z:Waf} {h:Heap} {cs cs':List Cell} {t u:Client} {fp fq:List Nat}
end
end
def tI16:List (Nat×RF):=[]
def tS16:List (Nat×RF):=[]
def Client.good (c:Client):Bool:=inR c.id 1 999&&(inR c.seq 0 1000000&&(c.chart.good&&(bif c.busy then inR c.ask.op 0 8&&(c.ask.epoch==0&&(inR c.tries 1 6&&decide (0<c.seq))) else c.tries==0&&decide (c.ask=Request.none_))))
section
variable {F:Nat→Option RF} {Z:Waf} {h:Heap} {cs:List Cell} {c:Client} {fp:List Nat}
end
section
variable {F:Nat→Option RF} {Z:Waf} {h:Heap} {cs:List Cell} {fp:List Nat}
variable {c:Chart}
end
section
variable {F:Nat→Option RF} {Z:Waf} {h hp:Heap} {x:Cell} {xs:List Range} {fp:List Nat}
end
section
variable {F:Nat→Option RF} {Z:Waf} {h:Heap} {cs:List Cell} {c:Chart} {fp:List Nat}
end
theorem Range.at_ok {xs:List Range} (h: ∀t,t∈xs→t.Ok) (i:Nat):(Range.at_ xs i).Ok:=by
 unfold Range.at_
 cases hx:xs[i]? with
 | none=>exact ⟨by simp[Range.none_],by simp[Range.none_],by simp[Range.none_]⟩
 | some t=>exact h t (QA hx)
section
variable {F:Nat→Option RF} {Z:Waf} {h g:Heap} {cs:List Cell} {c:Chart} {fp fq:List Nat} {x y:Cell} {qs:List MapCmd} {rows:List (List Cell)}
theorem Beside.start {x:Cell} {p:List Nat} (v:Chart.RI g cs c p) (o:On h g) (f:Fre h p):Beside Chart.RI 15 h (g.push []) (.sl 15 g.next 0 0) [] cs c p:=by
 have hlt:=Chart.okI.lt v
 refine ⟨Acc.lit0 o,Chart.okI.on v (On.push g []),f,?_⟩
 obtain ⟨fy,h1,h2⟩:=(Acc.lit0 (tag:=15) o).sh
 refine ⟨fy,h1,h2,fun id hid hy=> ?_⟩
 rcases h1.flat with ⟨_,_,h3⟩ | ⟨_,_,_,h3⟩
 ·rw[h3] at hy;cases hy
 ·rw[h3] at hy
  have:=hlt id hid
  simp[Cell.sid] at hy;omega
end
def Tile:Int→List Range→Int→Prop
 | a,[],b=>a=b+1
 | a,r::rs,b=>r.lo=a∧r.lo≤r.hi∧(0≤r.group∧r.group≤99)∧Tile (r.hi+1) rs b
theorem Tile.le: ∀{a:Int} {xs:List Range} {b:Int},Tile a xs b→a≤b+1
 | _,[],_,h=>Int.le_of_eq h
 | _,r::rs,_,⟨h1,h2,_,h4⟩=>by have:=Tile.le h4;omega
theorem Tile.append: ∀{xs ys:List Range} {a b:Int},Tile a (xs++ys) b↔ ∃m,Tile a xs m∧Tile (m+1) ys b
 | [],ys,a,b=>⟨fun h=>⟨a-1,by show a=a-1+1;omega,by rw[Int.sub_add_cancel];exact h⟩,fun ⟨m,h1,h2⟩=>by
     have h1:a=m+1:=h1
     rw[h1];exact h2⟩
 | r::rs,ys,a,b=>by
   constructor
   ·rintro ⟨h1,h2,h3,h4⟩
    obtain ⟨m,q1,q2⟩:=Tile.append.1 h4
    exact ⟨m,⟨h1,h2,h3,q1⟩,q2⟩
   ·rintro ⟨m,⟨h1,h2,h3,q1⟩,q2⟩
    exact ⟨h1,h2,h3,Tile.append.2 ⟨m,q1,q2⟩⟩
theorem Tile.drop {xs:List Range} (w:RangesFit xs): ∀(n i:Nat),i+n=xs.length→Tile (if i=0 then 0 else (Range.at_ xs (i-1)).hi+1) (xs.drop i) 18446744073709551615
 | 0,i,h=>by
   have:=w.pos
   rw[Ji (by omega),if_neg (by omega)]
   have hN:=w.hiN
   rw[show xs.length-1=i-1 by omega] at hN
   show _=_;omega
 | n+1,i,h=>by
   have hi:i<xs.length:=by omega
   rw[List.drop_eq_getElem_cons hi,←at_get hi]
   have ih:=Tile.drop w n (i+1) (by omega)
   rw[if_neg (by omega),Nat.add_sub_cancel] at ih
   refine ⟨?_,w.le i hi,w.grp i hi,ih⟩
   split
   ·rename_i h0;subst h0;exact w.lo0
   ·have:=w.next (i-1) (by omega)
    rw[show i-1+1=i by omega] at this
    exact this
theorem Tile.at_: ∀{xs:List Range} {a b:Int} (i:Nat),Tile a xs b→i<xs.length→(Range.at_ xs i).lo≤(Range.at_ xs i).hi∧(0≤(Range.at_ xs i).group∧(Range.at_ xs i).group≤99)∧(Range.at_ xs i).lo=(if i=0 then a else (Range.at_ xs (i-1)).hi+1)∧(i+1=xs.length→(Range.at_ xs i).hi=b)
 | [],_,_,_,_,hi=>absurd hi (QT _)
 | r::rs,a,b,0,⟨h1,h2,h3,h4⟩,_=>⟨h2,h3,h1,fun hl=>by
    have:rs=[]:=QY (by rw[Qq] at hl;omega)
    subst this
    have h4:r.hi+1=b+1:=h4
    show r.hi=b;omega⟩
 | r::rs,a,b,i+1,⟨h1,h2,h3,h4⟩,hi=>by
   obtain ⟨q1,q2,q3,q4⟩:=Tile.at_ i h4 (by simpa using hi)
   refine ⟨q1,q2,?_,fun hl=>q4 (by rw[Qq] at hl;omega)⟩
   rw[if_neg (by omega)]
   show (Range.at_ rs i).lo=_
   rw[q3]
   cases i with
   | zero=>rfl
   | succ i=>rfl
theorem Tile.ok {xs:List Range} (t:Tile 0 xs 18446744073709551615) (h2:xs.length≤24):rangesOk xs=true:=by
 have h1:1≤xs.length:=by
  cases xs with
  | nil=>have t:(0:Int)=18446744073709551615+1:=t;omega
  | cons r rs=>simp
 simp only[rangesOk,Qg,inR,decide_eq_true_eq,beq_iff_eq,QW,Jc,Range.fits,QO]
 refine ⟨by omega,?_,?_,fun i hi=> ?_⟩
 ·have:=(Tile.at_ 0 t (by omega)).2.2.1;simpa using this
 ·exact (Tile.at_ (xs.length-1) t (by omega)).2.2.2 (by omega)
 ·obtain ⟨q1,q2,q3,_⟩:=Tile.at_ i t hi
  refine ⟨q1,q2,?_⟩
  by_cases h0:i=0
  ·exact .inl h0
  ·rw[if_neg h0] at q3;exact .inr q3
def ownR (xs:List Range) (id:Int):Option Range:=xs.find? fun r=>decide (r.lo≤id)&&decide (id≤r.hi)
theorem own_cons (r:Range) (xs:List Range) (id:Int):ownR (r::xs) id=if r.lo≤id∧id≤r.hi then some r else ownR xs id:=by
 simp only[ownR,List.find?_cons]
 by_cases h:r.lo≤id∧id≤r.hi
 ·rw[if_pos h];simp[h.1,h.2]
 ·rw[if_neg h]
  have:(decide (r.lo≤id)&&decide (id≤r.hi))=false:=by
   rw[QQ];simp;omega
  rw[this]
theorem Tile.out: ∀{xs:List Range} {a b id:Int},Tile a xs b→ ¬(a≤id∧id≤b)→ownR xs id=none
 | [],_,_,_,_,_=>rfl
 | r::rs,a,b,id,⟨h1,h2,h3,h4⟩,h=>by
   have:=Tile.le h4
   rw[own_cons,if_neg (by omega),Tile.out h4 (by omega)]
theorem own_of {xs:List Range} (hr:rangesOk xs=true) {id:Int} (h0:0≤id) (h1:id≤18446744073709551615):ownR xs id=some (Range.at_ xs (findHi xs id).toNat):=by
 obtain ⟨i,hi,q1,q2,q3,q4⟩:=(rangesOk_fit hr).has h0 h1
 have hc:xs.findIdx? (fun r=>decide (r.lo≤id)&&decide (id≤r.hi))=some i:=by
  unfold findCov Wbt at q2
  split at q2
  ·rename_i j hj
   rw[hj];congr 1;omega
  ·omega
 rw[q1,Jg]
 unfold ownR
 rw[QB] at hc
 obtain ⟨hi',hc1,hc2⟩:=hc
 rw[List.find?_eq_some_iff_getElem]
 refine ⟨by rw[at_get hi];exact hc1,i,hi,(at_get hi).symm,fun j hj=> ?_⟩
 have:=hc2 j hj
 simp at this ⊢
 rcases Int.lt_or_le id xs[j].lo with h | h
 ·exact .inl h
 ·exact .inr (this h)
structure Swap (xs ys:List Range) (a b:Int) (f g:Int→Option Range):Prop where
 tile:Tile 0 ys 18446744073709551615
 inn: ∀id,a≤id→id≤b→ownR xs id=f id∧ownR ys id=g id
 out: ∀id,¬(a≤id∧id≤b)→ownR ys id=ownR xs id
def U64 (id:Int):Prop:=0≤id∧id≤18446744073709551615
theorem Chart.own {xs:List Range} {c:Chart} (h:c.ranges=xs) (hr:rangesOk xs=true) {id:Int} (hi:U64 id):ownR xs id=some (c.of_ id):=by
 subst h;exact own_of hr hi.1 hi.2
structure Moves (c d:Chart) (x:Int) (q:MapCmd):Prop where
 good:d.good=true
 same:x≠0→d=c
 up:x=0→d.epoch=c.epoch+1
 grp: ∀id,U64 id→(d.of_ id).group=(c.of_ id).group∨(q.kind=3∧(d.of_ id).group=c.to)
theorem Moves.no {c:Chart} (g:c.good=true) {x:Int} (hx:x≠0) (q:MapCmd):Moves c c x q:=⟨g,fun _=>rfl,fun h=>absurd h hx,fun _ _=> .inl rfl⟩
section
variable {c:Chart} {q:MapCmd}
end
section
variable {F:Nat→Option RF} {Z:Waf} {h0 h:Heap} {k:Nat} {x y:Cell} {code:List Int} {rows:List (List Cell)}
def Chart.one (g:Int):Chart:=⟨1,[⟨0,18446744073709551615,g⟩],false,0,0⟩
end
def Shard.bare (lo hi e:Int):Shard:=⟨lo,hi,0,e,⟨[]⟩,[]⟩
def Shard.bareRow (lo hi e:Int):List Cell:=[.int .u64 lo,.int .u64 hi,.int .i64 0,.int .i64 e,.nil,.nil]
theorem Shard.bare_ri (h:Heap) (lo hi e:Int):Shard.RI h (Shard.bareRow lo hi e) (Shard.bare lo hi e) []:=
 ⟨.nil,[],.nil,[],rfl,rfl,⟨by simp[Shard.bare],.inl ⟨rfl,rfl,rfl⟩⟩,⟨by simp[Shard.bare],.inl ⟨rfl,rfl,rfl⟩⟩⟩
theorem Shard.bare_good {lo hi e:Int} (h1:lo≤hi) (h2:1≤e∧e≤1000000):(Shard.bare lo hi e).Good where
 lh:=h1
 st:= .inl rfl
 ep:=h2
 srt:=by simp[Shard.bare,Srt]
 fine:=fun a ha=>nomatch ha
 bl:=by simp[Shard.bare]
 fl:=by simp[Shard.bare]
 acc:=fun a ha=>nomatch ha
 fs:= .nil
 fin:=fun a ha=>nomatch ha
theorem Shard.bare_ok {lo hi e:Int} (h1:0≤lo∧lo≤18446744073709551615) (h2:0≤hi∧hi≤18446744073709551615) (h3:1≤e∧e≤1000000):(Shard.bare lo hi e).Ok:=
 ⟨h1,h2,⟨by simp[Shard.bare],by simp[Shard.bare]⟩,⟨by show _≤e;omega,by show e≤_;omega⟩,⟨fun a ha=>nomatch ha⟩,fun a ha=>nomatch ha⟩
def WbG (r e:Int):List Shard:=if r=0 then [Shard.bare 0 9 1,Shard.bare 50 9223372036854775808 e] else if r=1 then [Shard.bare 2 18446744073709551615 1] else [Shard.bare 0 18446744073709551615 e]
theorem start3_good {r e:Int} (he:1≤e∧e≤3):SGood ⟨1,e,WbG r e⟩∧0<(WbG r e).length:=by
 have b1:(Shard.bare 0 9 1).Good:=Shard.bare_good (by omega) (by omega)
 have b2:(Shard.bare 50 9223372036854775808 e).Good:=Shard.bare_good (by omega) (by omega)
 have b3:(Shard.bare 2 18446744073709551615 1).Good:=Shard.bare_good (by omega) (by omega)
 have b4:(Shard.bare 0 18446744073709551615 e).Good:=Shard.bare_good (by omega) (by omega)
 have k1:(Shard.bare 0 9 1).Ok:=Shard.bare_ok (by omega) (by omega) (by omega)
 have k2:(Shard.bare 50 9223372036854775808 e).Ok:=Shard.bare_ok (by omega) (by omega) (by omega)
 have k3:(Shard.bare 2 18446744073709551615 1).Ok:=Shard.bare_ok (by omega) (by omega) (by omega)
 have k4:(Shard.bare 0 18446744073709551615 e).Ok:=Shard.bare_ok (by omega) (by omega) (by omega)
 have hx: ∀x,x∈WbG r e→(x.Good∧x.epoch≤e)∧x.Ok:=by
  intro x hx
  unfold WbG at hx
  split at hx
  ·simp only[Qx,Qv,or_false] at hx
   rcases hx with rfl | rfl
   ·exact ⟨⟨b1,he.1⟩,k1⟩
   ·exact ⟨⟨b2,Jq _⟩,k2⟩
  ·split at hx<;>simp only[Qx,Qv,or_false] at hx<;>subst hx
   ·exact ⟨⟨b3,he.1⟩,k3⟩
   ·exact ⟨⟨b4,Jq _⟩,k4⟩
 have hl:(WbG r e).length≤8∧0<(WbG r e).length:=by
  unfold WbG;split
  ·simp
  ·split<;>simp
 refine ⟨⟨⟨⟨by simp,by simp⟩,⟨by show 0≤e;omega,by show e≤_;omega⟩,hl.1,fun x h=>(hx x h).1,?_⟩,⟨⟨by simp,by simp⟩,⟨by show _≤e;omega,by show e≤_;omega⟩,fun x h=>(hx x h).2⟩⟩,hl.2⟩
 show (WbG r e).Pairwise _
 unfold WbG;split
 ·simp[Shard.bare]
 ·split<;>simp
theorem start3_low (r e:Int):(⟨1,e,WbG r e⟩:Store).Low 900:=by
 intro x hx
 have hb: ∀lo hi e,(Shard.bare lo hi e).All (fun a=>a.tx<900) fun f=>f.tx<900:=fun lo hi e=>⟨fun a ha=>(nomatch ha),fun f hf=>(nomatch hf)⟩
 have hx:x∈WbG r e:=hx
 unfold WbG at hx
 split at hx
 ·simp only[Qx,Qv,or_false] at hx
  rcases hx with rfl | rfl<;>exact hb _ _ _
 ·split at hx<;>simp only[Qx,Qv,or_false] at hx<;>subst hx<;>exact hb _ _ _
theorem start3_ri (h:Heap) (r e:Int):SlR 16 Shard.RI (h.push ((WbG r e).map fun x=>Shard.bareRow x.lo x.hi x.epoch)) (.sl 16 h.next 0 (WbG r e).length) (WbG r e) [h.next]:=by
 have hl:(WbG r e).length≤maxLen:=by
  unfold WbG maxLen;split
  ·simp
  ·split<;>simp
 refine ⟨hl,.inr ⟨h.next,_,(WbG r e).map fun _=>[],rfl,Wbm _ _,by rw[Wbu];omega,by simp,?_⟩⟩
 unfold WbG;split
 ·exact ⟨Shard.bare_ri _ _ _ _,Shard.bare_ri _ _ _ _,trivial⟩
 ·split<;>exact ⟨Shard.bare_ri _ _ _ _,trivial⟩
section
variable {F:Nat→Option RF} {Z:Waf} {h:Heap} {k:Nat} {x:Cell} {code:List Int}
set_option maxHeartbeats 1000000 in
theorem drawRight_turn {hb h:Heap} {k:Nat} {x:Cell} {cs:List Cell} {fp:List Nat} {s:Store} (K:KS F) (hS11:Has F tS11) (c:Cur h k x code) (hbn:hb.next≤h.next) (w:Drawn hb h k cs s fp) (hs:s.seen≤900000) (i:Int) (hi:0<i∧i≤1000):
 ∃(s':Store) (cs':List Cell) (h':Heap) (fp':List Nat),loop F Z [0,6,7,8] r392L0 ⟨[(0,.c (.ptr k 0 0)),(8,.c (.int .i64 i))],[(6,6,0),(7,7,0)],[(6,[.int .i64 0,.int .i64 0,.nil]),(7,cs)],h⟩=loop F Z [0,6,7,8] r392L0 ⟨[(0,.c (.ptr k 0 0)),(8,.c (.int .i64 (i-1)))],[(6,6,0),(7,7,0)],[(6,[.int .i64 0,.int .i64 0,.nil]),(7,cs')],h'⟩∧Drawn hb h' k cs' s' fp'∧s'.group=s.group∧(s'.seen=s.seen∨s'.seen=s.seen+1)∧Dr k h h'∧Cur h' k x code:=by
 have hws:IntKind.i64.wrap (i-1)=i-1:=Wbr _ (by omega) (by omega)
 obtain ⟨s',cs',h',fp',e,w',hg,hs',d,c'⟩:=l13DrawStep_c (Z:=Z) K hS11 c hbn w hs
 obtain ⟨l1,l2,l3⟩:=Store.lenI w.ri
 obtain ⟨m1,m2,m3⟩:=Store.lenI w'.ri
 have hpos:i>0:=hi.1
 refine ⟨s',cs',h',fp',?_,w',hg,hs',d,c'⟩
 rw[Wab]
 conv in (Wad _ _ r392L0 _)=>unfold r392L0
 simp only[rn,RO.dst,lk,drop,Nat.reduceBEq,Nat.reduceAdd,Nat.reduceLeDiff,↓reduceIte,reduceCtorEq,hpos,l1,l2,l3,e,m1,m2,m3,hws]
set_option maxHeartbeats 1000000 in
theorem l13DrawRight_c (K:KS F) (hS11:Has F tS11) (c:Cur h k x code):
 ∃(s:Store) (cs:List Cell) (h':Heap) (fp:List Nat),call F Z 392 [.c (.ptr k 0 0),.c x,.c (.int .i64 1)] h=some (.agg cs,h')∧Drawn h h' k cs s fp∧s.group=1∧1≤s.seen∧s.seen≤100∧Dr k h h'∧Cur h' k x code:=by
 obtain ⟨r1,h1,e1,r10,r1n,_,m1,c1⟩:=Wak (Z:=Z) K.s01 c 3
 have r1l:=r1n (by omega)
 have hw1:IntKind.i64.wrap (1+r1)=1+r1:=Wbr _ (by omega) (by omega)
 obtain ⟨r2,h2,e2,r20,r2n,_,m2,c2⟩:=Wak (Z:=Z) K.s01 c1 4
 obtain ⟨g,hg⟩: ∃g,h2.push ((WbG r2 (1+r1)).map fun x=>Shard.bareRow x.lo x.hi x.epoch)=g:=⟨_,rfl⟩
 have og:On h2 g:=by rw[←hg];exact On.push _ _
 have c3:=c2.on og
 have d3:Dr k h g:=(m1.dr.trans m2.dr).trans (og.dr k)
 obtain ⟨sg0,ps0⟩:=start3_good (r:=r2) (e:=1+r1) (by omega)
 have w3:Drawn h g k [.int .i64 1,.int .i64 (1+r1),.sl 16 h2.next 0 (WbG r2 (1+r1)).length] ⟨1,1+r1,WbG r2 (1+r1)⟩ [h2.next]:=
  ⟨⟨_,_,rfl,rfl,by rw[←hg];exact start3_ri _ _ _⟩,⟨fun id hid=>by simp at hid;have:=(m1.dr.trans m2.dr).next;omega,by simp⟩,fun hm=>by simp at hm;have:=c2.fl.2;omega,sg0,ps0,start3_low _ _⟩
 obtain ⟨r4,e4,r4a,r4b⟩:=l01Size_c (Z:=Z) K.s01 c3.vw 20 (by omega)
 have hw4:IntKind.i64.wrap (6+r4)=6+r4:=Wbr _ (by omega) (by omega)
 obtain ⟨n,h5,e5,n0,nn,_,m5,c5⟩:=Wak (Z:=Z) K.s01 c3 (6+r4)
 have hn:=nn (by omega)
 have hw5:IntKind.i64.wrap (6+n)=6+n:=Wbr _ (by omega) (by omega)
 obtain ⟨m,hm⟩: ∃m:Nat,6+n=(m:Int):=⟨(6+n).toNat,by omega⟩
 rw[hm] at hw5
 have w5:=w3.dr m5.dr
 have d5:=d3.trans m5.dr
 obtain ⟨s',⟨s,cs,g',fp,hs',w',h1',h2',h3',d',c'⟩,lp⟩:=WaB (F:=F) (Z:=Z) (live:=[0,6,7,8]) (b:=r392L0) m (fun i st=> ∃(s:Store) (cs:List Cell) (g':Heap) (fp:List Nat),st=⟨[(0,.c (.ptr k 0 0)),(8,.c (.int .i64 ((m:Int)-(i:Nat))))],[(6,6,0),(7,7,0)],[(6,[.int .i64 0,.int .i64 0,.nil]),(7,cs)],g'⟩∧Drawn h g' k cs s fp∧s.group=1∧1≤s.seen∧s.seen≤3+i∧Dr k h g'∧Cur g' k x code) (fun i st hi ⟨s,cs,g',fp,hs,w,h1,h2,h3,d,c⟩=>by
  subst hs
  obtain ⟨s',cs',g'',fp',eq,w',a1,a2,d',c'⟩:=drawRight_turn (F:=F) (Z:=Z) K hS11 c d.next w (by omega) ((m:Int)-(i:Nat)) (by omega)
  refine ⟨_,⟨s',cs',g'',fp',rfl,w',a1.trans h1,by omega,by push_cast;omega,d.trans d',c'⟩,?_⟩
  rw[eq,show (m:Int)-(i:Nat)-1=(m:Int)-((i+1:Nat):Int) by omega]) (s:=⟨[(0,.c (.ptr k 0 0)),(8,.c (.int .i64 ((m:Int)-((0:Nat):Int))))],[(6,6,0),(7,7,0)],[(6,[.int .i64 0,.int .i64 0,.nil]),(7,[.int .i64 1,.int .i64 (1+r1),.sl 16 h2.next 0 (WbG r2 (1+r1)).length])],h5⟩) ⟨_,_,_,_,rfl,w5,rfl,by show 1≤1+r1;omega,by show 1+r1≤_;push_cast;omega,d5,c5⟩
 subst hs'
 rw[show (m:Int)-((0:Nat):Int)=(m:Int) by omega] at lp
 obtain ⟨m1',m2',m3'⟩:=Store.lenI w'.ri
 have fin: ∃(s:Store) (cs':List Cell) (h':Heap) (fp:List Nat),some (V.agg cs,g')=some (V.agg cs',h')∧Drawn h h' k cs' s fp∧s.group=1∧1≤s.seen∧s.seen≤100∧Dr k h h'∧Cur h' k x code:=⟨_,_,_,_,rfl,w',h1',h2',by omega,d',c'⟩
 have last: ¬((m:Int)-(m:Int)>0):=by omega
 rw[Wac F Z (K.s13.lk (g:=392) rfl) _ _ rfl]
 cases q0:(r2==0) with
 | true=>
   have q:r2=0:=by simpa using q0
   simp only[q,WbG,if_true,QH,QM,Shard.bareRow,Shard.bare,Qq,Qs,QG,Nat.reduceAdd] at hg lp
   simp only[rn,RO.dst,lk,drop,Nat.reduceBEq,Nat.reduceAdd,Nat.reduceLeDiff,↓reduceIte,reduceCtorEq,Qi,Qh,Wav,and_self,Qj,Qm,Nat.reduceLT,Qo,Qk,e1,hw1,e2,q0,hg,e4,hw4,e5,hw5,hm,lp]
   rw[Wab]
   conv in (Wad _ _ r392L0 _)=>unfold r392L0
   simp only[rn,RO.dst,lk,drop,Nat.reduceBEq,Nat.reduceAdd,Nat.reduceLeDiff,↓reduceIte,reduceCtorEq,last,m1',m2',m3']
   exact fin
 | false=>
 have qn0: ¬r2=0:=by simpa using q0
 cases q1:(r2==1) with
 | true=>
   have q:r2=1:=by simpa using q1
   have q10: ¬(1:Int)=0:=by omega
   simp only[q,WbG,q10,if_true,if_false,QH,QM,Shard.bareRow,Shard.bare,Qq,Qs,QG,Nat.reduceAdd] at hg lp
   simp only[rn,RO.dst,lk,drop,Nat.reduceBEq,Nat.reduceAdd,Nat.reduceLeDiff,↓reduceIte,reduceCtorEq,Qi,Qh,Wav,and_self,Qj,Qm,Nat.reduceLT,Qo,Qk,e1,hw1,e2,q0,q1,hg,e4,hw4,e5,hw5,hm,lp]
   rw[Wab]
   conv in (Wad _ _ r392L0 _)=>unfold r392L0
   simp only[rn,RO.dst,lk,drop,Nat.reduceBEq,Nat.reduceAdd,Nat.reduceLeDiff,↓reduceIte,reduceCtorEq,last,m1',m2',m3']
   exact fin
 | false=>
   have qn1: ¬r2=1:=by simpa using q1
   simp only[WbG,qn0,qn1,if_false,QH,QM,Shard.bareRow,Shard.bare,Qq,Qs,QG,Nat.reduceAdd] at hg lp
   simp only[rn,RO.dst,lk,drop,Nat.reduceBEq,Nat.reduceAdd,Nat.reduceLeDiff,↓reduceIte,reduceCtorEq,Qi,Qh,Wav,and_self,Qj,Qm,Nat.reduceLT,Qo,Qk,e1,hw1,e2,q0,q1,hg,e4,hw4,e5,hw5,hm,lp]
   rw[Wab]
   conv in (Wad _ _ r392L0 _)=>unfold r392L0
   simp only[rn,RO.dst,lk,drop,Nat.reduceBEq,Nat.reduceAdd,Nat.reduceLeDiff,↓reduceIte,reduceCtorEq,last,m1',m2',m3']
   exact fin
end
section
variable {h0 h h':Heap} {k tag:Nat} {x y:Cell} {code:List Int} {rows:List (List Cell)}
theorem Draw.keep {β:Type} {P:Rel β} (ok:RelOk P) {cs:List Cell} {b:β} {fq:List Nat} (w:Draw tag h0 h k x code y rows) (v:P h cs b fq) (hn:y.sid∉fq) (row:List Cell):
 P (catH (h.push [row]) y [row]) cs b fq:=by
 obtain ⟨fp,h1,h2,h3⟩:=w.sep
 have hp:=h1.on (Fl.ok _) (On.push h [row])
 have hm:h.next≤(catH (h.push [row]) y [row]).next:=QN (by simp[Heap.push]) (catH_next (h.push [row]) y [row])
 refine ok.mv v hm fun id hid=> ?_
 have hid':=ok.lt v id hid
 have hnf:id∉fp:=fun hm=>by
  rcases h1.flat with ⟨_,_,h4⟩ | ⟨_,_,_,h4⟩
  ·rw[h4] at hm;cases hm
  ·rw[h4] at hm;simp at hm;subst hm;exact hn hid
 rw[catH_keep hp [row] (by simp only[Heap.push];omega) hnf]
 simp only[Heap.push];rw[if_neg (by omega)]
end
section
variable {F:Nat→Option RF} {Z:Waf} {h0 h:Heap} {k:Nat} {x y:Cell} {code:List Int} {rows:List (List Cell)} {cs:List Cell} {fp:List Nat} {s:Store}
end
section
variable {s:Store} {q:Request} {xs:List Account} {x:Shard}
end
def sumI {α:Type} (f:α→Int):List α→Int
 | []=>0
 | a::r=>f a+sumI f r
section
variable {α:Type} (f:α→Int)
theorem sumI_app: ∀(xs ys:List α),sumI f (xs++ys)=sumI f xs+sumI f ys
 | [],ys=>by simp[sumI]
 | a::r,ys=>by
   simp only[List.cons_append,sumI,sumI_app r ys];omega
theorem sumI_take (xs:List α) {i:Nat} (hi:i<xs.length):sumI f (xs.take (i+1))=sumI f (xs.take i)+f xs[i]:=by
 rw[QK,Qt hi,sumI_app]
 simp[sumI]
theorem sumI_le {m:Int}: ∀(xs:List α),(∀a,a∈xs→0≤f a∧f a≤m)→0≤sumI f xs∧sumI f xs≤m*xs.length
 | [],_=>by simp[sumI]
 | a::r,h=>by
   have h1:=h a (by simp)
   have h2:=sumI_le r fun b hb=>h b (by simp[hb])
   simp only[sumI,Qq]
   constructor
   ·omega
   ·rw[Int.natCast_add,Int.mul_add]
    simp only[Int.natCast_one,Int.mul_one]
    omega
theorem sumI_take_le {m:Int} (hm:0≤m) (xs:List α) (h: ∀a,a∈xs→0≤f a∧f a≤m) (i:Nat):0≤sumI f (xs.take i)∧sumI f (xs.take i)≤m*xs.length:=by
 have h1:=sumI_le f (m:=m) (xs.take i) fun a ha=>h a (QR ha)
 have h2:m*((xs.take i).length:Int)≤m*(xs.length:Int):=Int.mul_le_mul_of_nonneg_left (by rw[Qu];omega) hm
 exact ⟨h1.1,by omega⟩
end
def Account.money (a:Account):Int:=a.bal+a.hold
def WbJ (xs:List Account):Int:=sumI Account.money xs
def wHi (t:Int):Int:=t / 18446744073709551616
def wLo (t:Int):Int:=t%18446744073709551616
theorem Account.money_ok {xs:List Account} (hok: ∀t,t∈xs→t.Ok) (hb:Wap xs=true):xs.length≤40∧ ∀a,a∈xs→0≤a.money∧a.money≤18446744073709551615:=by
 simp only[Wap,Qg,QW,Jc,decide_eq_true_eq] at hb
 refine ⟨by omega,fun a ha=> ?_⟩
 obtain ⟨i,hi,rfl⟩:=Qz.1 ha
 have h1:=hb.1 i hi
 have o:=hok _ ha
 have e1:Account.at_ xs i=xs[i]:=by simp[Account.at_,Qt hi]
 simp only[Account.fits,e1,Account.fine,Qg,decide_eq_true_eq] at h1
 have b2:=o.bal
 have b3:=o.hold
 have b4:=o.due
 simp only[Account.money]
 omega
theorem moneyOf_le {xs:List Account} (hl:xs.length≤40) (hm: ∀a,a∈xs→0≤a.money∧a.money≤18446744073709551615):0≤WbJ xs∧WbJ xs≤737869762948382064600:=by
 have:=sumI_le Account.money xs hm
 simp only[WbJ]
 omega
section
variable {F:Nat→Option RF} {Z:Waf} {h:Heap} {x:Cell} {xs:List Account} {fp:List Nat}
set_option maxHeartbeats 1000000 in
theorem totalOf_turn (w:SlR 11 (Fl Account.enc) h x xs fp) (hok: ∀t,t∈xs→t.Ok) (hl:xs.length≤40) (hm: ∀a,a∈xs→0≤a.money∧a.money≤18446744073709551615) (i:Nat) (hi:i<xs.length):
 loop F Z [4,5,11,12,13] r209L0 ⟨[(4,.c (.int .u64 (wHi (WbJ (xs.take i))))),(5,.c (.int .u64 (wLo (WbJ (xs.take i))))),(11,.c x),(12,.c (.int .i64 (xs.length:Nat))),(13,.c (.int .i64 (i:Nat)))],[],[],h⟩
  =loop F Z [4,5,11,12,13] r209L0 ⟨[(4,.c (.int .u64 (wHi (WbJ (xs.take (i+1)))))),(5,.c (.int .u64 (wLo (WbJ (xs.take (i+1)))))),(11,.c x),(12,.c (.int .i64 (xs.length:Nat))),(13,.c (.int .i64 ((i+1:Nat):Int)))],[],[],h⟩:=by
 have hle:=w.le2
 have hlt:(i:Int)<xs.length:=by omega
 have hws:=WaS i (by omega)
 have hxi:=w.idx hi
 have hld:=w.load hi
 have o1:=hok _ (Qd hi)
 have m1:=hm _ (Qd hi)
 have ht:WbJ (xs.take (i+1))=WbJ (xs.take i)+xs[i].money:=sumI_take _ xs hi
 have hT:=sumI_take_le Account.money (by omega) xs hm i
 change 0≤WbJ (xs.take i)∧WbJ (xs.take i)≤_ at hT
 rw[ht]
 clear w hok hm ht
 generalize WbJ (xs.take i)=T at *
 generalize xs[i]=a at *
 obtain ⟨id,bal,hold,due,tx⟩:=a
 obtain ⟨a1,a2,a3,a4,a5⟩:=o1
 dsimp only at a1 a2 a3 a4 a5
 simp only[Account.money] at m1 ⊢
 have e0:IntKind.u64.wrap (bal+hold)=bal+hold:=wrapU _ (by omega) (by omega)
 have e1:(wLo T+(bal+hold)+0)%18446744073709551616=wLo (T+(bal+hold)):=by simp only[wLo];omega
 have e2:IntKind.u64.wrap (wHi T+(wLo T+(bal+hold)+0) / 18446744073709551616)=wHi (T+(bal+hold)):=by
  simp only[wHi,wLo]
  rw[wrapU _ (by omega) (by omega)];omega
 have c1:0≤wLo T:=by simp only[wLo];omega
 have c2:0≤bal+hold:=by omega
 have c3:(0:Int)≤1:=by omega
 rw[Wab]
 conv in (Wad _ _ r209L0 _)=>unfold r209L0
 simp only[rn,RO.dst,lk,drop,Nat.reduceBEq,Nat.reduceAdd,Nat.reduceLeDiff,↓reduceIte,reduceCtorEq,hlt,hxi,hld,Account.enc,e0,e1,e2,c1,c2,c3,Jq,and_self,hws]
theorem totalOf_run (hI10:Has F tI10) (w:SlR 11 (Fl Account.enc) h x xs fp) (hok: ∀t,t∈xs→t.Ok) (hl:xs.length≤40) (hm: ∀a,a∈xs→0≤a.money∧a.money≤18446744073709551615):
 call F Z 209 [.agg [x]] h=some (.tup [.c (.int .u64 (wHi (WbJ xs))),.c (.int .u64 (wLo (WbJ xs)))],h):=by
 have key:=loop_goesF (F:=F) (Z:=Z) (live:=[4,5,11,12,13]) (b:=r209L0) xs.length (fun i=>⟨[(4,.c (.int .u64 (wHi (WbJ (xs.take i))))),(5,.c (.int .u64 (wLo (WbJ (xs.take i))))),(11,.c x),(12,.c (.int .i64 (xs.length:Nat))),(13,.c (.int .i64 (i:Nat)))],[],[],h⟩)
  fun i hi=>totalOf_turn w hok hl hm i hi
 have z1:wHi (WbJ (xs.take 0))=0:=rfl
 have z2:wLo (WbJ (xs.take 0))=0:=rfl
 simp only[show ((0:Nat):Int)=0 from rfl,z1,z2,QI] at key
 have hlt: ¬(xs.length:Int)<xs.length:=by omega
 have hwl:=w.len
 rw[Wac F Z (hI10.lk (g:=209) rfl) _ _ rfl]
 simp only[rn,RO.dst,lk,drop,Nat.reduceBEq,Nat.reduceAdd,Nat.reduceLeDiff,↓reduceIte,reduceCtorEq,hwl,key]
 rw[Wab]
 conv in (Wad _ _ r209L0 _)=>unfold r209L0
 simp only[rn,RO.dst,lk,drop,Nat.reduceBEq,Nat.reduceAdd,Nat.reduceLeDiff,↓reduceIte,reduceCtorEq,hlt]
end
def Shard.money (t:Shard):Int:=WbJ t.book.list
def Store.money (s:Store):Int:=sumI Shard.money s.shards
theorem Shard.good_book {t:Shard} (h:t.good=true):Wap t.book.list=true:=by
 simp only[Shard.good,Shard.head,Qg] at h
 exact h.1.2.2.2.1
theorem Shard.money_le {t:Shard} (ok:t.Ok) (h:t.good=true):0≤t.money∧t.money≤737869762948382064600:=by
 obtain ⟨h1,h2⟩:=Account.money_ok ok.book.list (Shard.good_book h)
 exact moneyOf_le h1 h2
theorem Store.good_all {s:Store} (h:s.good=true):s.shards.length≤8∧ ∀t,t∈s.shards→t.good=true:=by
 simp only[Store.good,Qg,QW,Jc,decide_eq_true_eq] at h
 refine ⟨by omega,fun a ha=> ?_⟩
 obtain ⟨i,hi,rfl⟩:=Qz.1 ha
 have h1:=h.2.2.2 i hi
 simp only[Store.fits,Qg,Shard.at_get hi] at h1
 exact h1.1
section
variable {F:Nat→Option RF} {Z:Waf} {h:Heap} {cs:List Cell} {s:Store} {fp:List Nat} {x:Cell} {xs:List Shard}
end
section
variable {s:Store} {q:Request} {xs:List Account} {x:Shard} {id tx:Int} {f:Act} {d:Int}
theorem sumI_set {α:Type} (f:α→Int): ∀(xs:List α) (i:Nat) (hi:i<xs.length) (y:α),sumI f (xs.set i y)=sumI f xs-f xs[i]+f y
 | [],_,hi,_=>absurd hi (QT _)
 | a::r,0,_,y=>by simp only[Qj,sumI,Jj];omega
 | a::r,i+1,hi,y=>by
   have:=sumI_set f r i (by simpa using hi) y
   simp only[Qm,sumI,Jk,this];omega
theorem sumI_erase {α:Type} (f:α→Int): ∀(xs:List α) (i:Nat) (hi:i<xs.length),sumI f (xs.eraseIdx i)=sumI f xs-f xs[i]
 | [],_,hi=>absurd hi (QT _)
 | a::r,0,_=>by simp only[List.eraseIdx_cons_zero,sumI,Jj];omega
 | a::r,i+1,hi=>by
   have:=sumI_erase f r i (by simpa using hi)
   simp only[List.eraseIdx_cons_succ,sumI,Jk,this];omega
def Request.puts (q:Request):Int:=if q.op=2 then q.amount else if q.op=3 then -q.amount else 0
end
theorem findI_none {α:Type} {p:α→Bool} {xs:List α} (h: ∀a,a∈xs→p a=false):Wbt p xs= -1:=by
 have:xs.findIdx? p=none:=by rw[QJ];exact h
 unfold Wbt
 rw[this]
theorem sumI_map {α β:Type} (f:β→Int) (g:α→β): ∀xs:List α,sumI f (xs.map g)=sumI (fun x=>f (g x)) xs
 | []=>rfl
 | x::r=>by simp only[QH,sumI,sumI_map f g r]
def r2:RF:=
 ⟨1,[.cell 2 5 true],
 .seq (.reg [⟨none,.locb 1 (.t 0)⟩,
 ⟨none,.loc 2 [.int .u64 0,.int .i64 0,.int .i64 0,.int .i64 0,.int .i64 0]⟩])
 (.seq (.reg [⟨none,.loc 3 [.int .u64 0,.int .i64 0,.int .i64 0,.int .i64 0,.int .i64 0]⟩])
 (.seq (.reg [⟨none,.fad 4 1 0⟩,
 ⟨none,.load 5 4 1 false⟩,
 ⟨none,.fad 6 3 0⟩,
 ⟨none,.store 6 1 (.t 5)⟩])
 (.seq (.reg [⟨none,.fad 7 1 1⟩,
 ⟨none,.load 8 7 1 false⟩,
 ⟨none,.fad 9 3 1⟩,
 ⟨none,.store 9 1 (.t 8)⟩])
 (.seq (.reg [⟨none,.fad 10 1 2⟩,
 ⟨none,.load 11 10 1 false⟩,
 ⟨none,.fad 12 3 2⟩,
 ⟨none,.store 12 1 (.t 11)⟩])
 (.seq (.reg [⟨none,.fad 13 1 3⟩,
 ⟨none,.load 14 13 1 false⟩,
 ⟨none,.fad 15 3 3⟩,
 ⟨none,.store 15 1 (.t 14)⟩])
 (.seq (.reg [⟨none,.fad 16 1 4⟩,
 ⟨none,.load 17 16 1 false⟩,
 ⟨none,.fad 18 3 4⟩,
 ⟨none,.store 18 1 (.t 17)⟩])
 (.seq (.reg [⟨none,.load 19 3 5 true⟩,
 ⟨none,.store 2 5 (.t 19)⟩])
 (.ret))))))))⟩
def tLHand:List (Nat×RF):=[(2,r2)]
section
variable {F:Nat→Option RF} {Z:Waf}
def Wcc (lo from_ to epoch phase:Int):Bool:=inR from_ 0 99&&inR to 0 99&&(from_ !=to)&&inR epoch 1 999999&&inR phase 0 3
theorem isHand_run (hI11:AllT (fun x=>F x.1=some x.2) tI11) (hI15:AllT (fun x=>F x.1=some x.2) tI15) (a b c d e:Int) (h:Heap):
 call F Z 6 [.agg [.int .u64 a,.int .i64 b,.int .i64 c,.int .i64 d,.int .i64 e]] h=some (.c (.bool (Wcc a b c d e)),h):=by
 rw[Wac F Z (hI15.lk (g:=6) rfl) _ _ rfl]
 simp only[rn,RO.dst,lk,drop,Nat.reduceBEq,Nat.reduceAdd,Nat.reduceLeDiff,↓reduceIte,reduceCtorEq,isGroupId_run hI11]
 (repeat' ((first | (rw[WbI];split) | (rw[Was];split) | (rw[Way];split))<;>(rename_i hh;(try simp only[QS,decide_eq_true_eq] at hh);simp only[hh,rn,RO.dst,lk,drop,Nat.reduceBEq,Nat.reduceAdd,Nat.reduceLeDiff,↓reduceIte,reduceCtorEq,isGroupId_run hI11])))<;>refine fin_bool ?_<;>simp_all[Wcc,inR]<;>omega
theorem HandOk_run (hI11:AllT (fun x=>F x.1=some x.2) tI11) (hI15:AllT (fun x=>F x.1=some x.2) tI15) (a b c d e:Int) (h:Heap):
 call F Z 4 [.agg [.int .u64 a,.int .i64 b,.int .i64 c,.int .i64 d,.int .i64 e]] h=some (.c (.bool (Wcc a b c d e)),h):=by
 rw[Wac F Z (hI15.lk (g:=4) rfl) _ _ rfl]
 simp only[rn,RO.dst,lk,drop,Nat.reduceBEq,Nat.reduceAdd,Nat.reduceLeDiff,↓reduceIte,reduceCtorEq,isHand_run hI11 hI15]
theorem sHandOk_run (hS01d:AllT (fun x=>F x.1=some x.2) tS01d) (hS15:AllT (fun x=>F x.1=some x.2) tS15) (a b c d e:Int) (h:Heap):
 call F Z 3 [.agg [.int .u64 a,.int .i64 b,.int .i64 c,.int .i64 d,.int .i64 e]] h=some (.c (.bool (Wcc a b c d e)),h):=by
 rw[Wac F Z (hS15.lk (g:=3) rfl) _ _ rfl]
 simp only[rn,RO.dst,lk,drop,Nat.reduceBEq,Nat.reduceAdd,Nat.reduceLeDiff,↓reduceIte,reduceCtorEq,Wbd hS01d]
 (repeat' ((first | (rw[WbI];split) | (rw[Was];split) | (rw[Way];split))<;>(rename_i hh;(try simp only[QS,decide_eq_true_eq] at hh);simp only[hh,rn,RO.dst,lk,drop,Nat.reduceBEq,Nat.reduceAdd,Nat.reduceLeDiff,↓reduceIte,reduceCtorEq,Wbd hS01d])))<;>refine fin_bool ?_<;>simp_all[Wcc]
end
section
structure Hand where
 lo:Int
 from_:Int
 to:Int
 epoch:Int
 phase:Int
 deriving DecidableEq
namespace Hand
def enc (t:Hand):List Cell:=[.int .u64 t.lo,.int .i64 t.from_,.int .i64 t.to,.int .i64 t.epoch,.int .i64 t.phase]
theorem len (t:Hand):t.enc.length=5:=rfl
theorem tak (t:Hand):t.enc.take 5=t.enc:=rfl
def none_:Hand:=⟨0,0,0,0,0⟩
structure Ok (t:Hand):Prop where
 lo:0≤t.lo∧t.lo≤18446744073709551615
 from_: -9223372036854775808≤t.from_∧t.from_≤9223372036854775807
 to: -9223372036854775808≤t.to∧t.to≤9223372036854775807
 epoch: -9223372036854775808≤t.epoch∧t.epoch≤9223372036854775807
 phase: -9223372036854775808≤t.phase∧t.phase≤9223372036854775807
end Hand
end
section
variable {F:Nat→Option RF} {Z:Waf} {h:Heap} {x y:Cell} {xs ys:List Hand} {fp fq:List Nat}
def Hand.zero:List Cell:=[.int .u64 0,.int .i64 0,.int .i64 0,.int .i64 0,.int .i64 0]
end
def tLHandMsg:List (Nat×RF):=[]
section
structure HandMsg where
 step:Int
 lo:Int
 to:Int
 epoch:Int
 shard:Shard
 deriving DecidableEq
def HandMsg.RI:Rel HandMsg:=fun h cs t fp=> ∃x1 p1 x2 p2,cs=[.int .i64 t.step,.int .u64 t.lo,.int .i64 t.to,.int .i64 t.epoch,.int .u64 t.shard.lo,.int .u64 t.shard.hi,.int .i64 t.shard.state,.int .i64 t.shard.epoch,x1,x2]∧fp=p1++p2∧SlR 11 (Fl Account.enc) h x1 t.shard.book.list p1∧SlR 9 (Fl Fin.enc) h x2 t.shard.finished p2
theorem HandMsg.okI:RelOk HandMsg.RI where
 lt:=by
  rintro h cs t fp ⟨x1,p1,x2,p2,rfl,rfl,w1,w2⟩ id hid
  simp only[Qn] at hid
  rcases hid with hid | hid
  ·exact w1.lt (Fl.ok _) id hid
  ·exact w2.lt (Fl.ok _) id hid
 mv:=by
  rintro h h' cs t fp ⟨x1,p1,x2,p2,rfl,rfl,w1,w2⟩ hn hg
  exact ⟨x1,_,x2,_,rfl,rfl,w1.mv (Fl.ok _) hn fun id hid=>hg id (by simp[hid]),w2.mv (Fl.ok _) hn fun id hid=>hg id (by simp[hid])⟩
theorem HandMsg.lenI {h:Heap} {cs:List Cell} {t:HandMsg} {fp:List Nat} (v:HandMsg.RI h cs t fp):cs.length=10∧cs.take 10=cs∧cs.drop 10=[]:=by
 obtain ⟨x1,p1,x2,p2,rfl,_⟩:=v
 exact ⟨rfl,rfl,rfl⟩
namespace HandMsg
structure Ok (t:HandMsg):Prop where
 step: -9223372036854775808≤t.step∧t.step≤9223372036854775807
 lo:0≤t.lo∧t.lo≤18446744073709551615
 to: -9223372036854775808≤t.to∧t.to≤9223372036854775807
 epoch: -9223372036854775808≤t.epoch∧t.epoch≤9223372036854775807
 shard:t.shard.Ok
def Small (t:HandMsg):Prop:=t.shard.Small
end HandMsg
section
variable {F:Nat→Option RF} {Z:Waf} {h:Heap} {cs cs':List Cell} {t u:HandMsg} {fp fq:List Nat}
end
end
def Hand.ok (h:Hand):Bool:=Wcc h.lo h.from_ h.to h.epoch h.phase
def Hand.sends (h:Hand):Int:=if h.phase=1 then h.epoch+1 else h.epoch
def Hand.done (h:Hand) (step lo epoch:Int):Hand×Bool:=if h.ok=true∧h.phase≠3∧step=h.phase∧lo=h.lo∧epoch=h.sends then ({h with phase:=h.phase+1},true) else (h,false)
def handEp (d e:Int):Int:=if e=1 then IntKind.i64.wrap (d+1) else d
section
variable {F:Nat→Option RF} {Z:Waf} {h:Heap} {cs:List Cell} {fp:List Nat} {m:HandMsg}
theorem handEpoch_run (hI15:Has F tI15) (a b c d e:Int) (h:Heap):call F Z 132 [.agg [.int .u64 a,.int .i64 b,.int .i64 c,.int .i64 d,.int .i64 e]] h=some (.c (.int .i64 (handEp d e)),h):=by
 rw[Wac F Z (hI15.lk (g:=132) rfl) _ _ rfl]
 simp only[rn,RO.dst,lk,drop,Nat.reduceBEq,Nat.reduceAdd,Nat.reduceLeDiff,↓reduceIte,reduceCtorEq]
 (repeat' ((first | (rw[WbI];split) | (rw[Was];split) | (rw[Way];split))<;>(rename_i hh;(try simp only[QS,decide_eq_true_eq] at hh);simp only[hh,rn,RO.dst,lk,drop,Nat.reduceBEq,Nat.reduceAdd,Nat.reduceLeDiff,↓reduceIte,reduceCtorEq])))<;>simp_all[handEp]
set_option maxHeartbeats 4000000 in
theorem handDone_run (hI11:Has F tI11) (hI15:Has F tI15) (a:Hand) (v:HandMsg.RI h cs m fp):call F Z 113 [.agg a.enc,.agg cs] h=some (.tup [.agg (a.done m.step m.lo m.epoch).1.enc,.c (.bool (a.done m.step m.lo m.epoch).2)],h):=by
 obtain ⟨x1,p1,x2,p2,rfl,rfl,w1,w2⟩:=v
 obtain ⟨lo,fr,to,ep,ph⟩:=a
 have hw:Wcc lo fr to ep ph=true→IntKind.i64.wrap (ep+1)=ep+1∧IntKind.i64.wrap (ph+1)=ph+1:=fun hk=>by
  simp only[Wcc,inR,Qg,decide_eq_true_eq] at hk
  exact ⟨Wbr _ (by omega) (by omega),Wbr _ (by omega) (by omega)⟩
 rw[Wac F Z (hI15.lk (g:=113) rfl) _ _ rfl]
 simp only[Hand.enc,rn,RO.dst,lk,drop,Nat.reduceBEq,Nat.reduceAdd,Nat.reduceLeDiff,↓reduceIte,reduceCtorEq,isHand_run hI11 hI15,handEpoch_run hI15]
 clear w1 w2
 (repeat' ((first | (rw[WbI];split) | (rw[Was];split) | (rw[Way];split))<;>(rename_i hh;(try simp only[QS,decide_eq_true_eq] at hh);simp only[hh,rn,RO.dst,lk,drop,Nat.reduceBEq,Nat.reduceAdd,Nat.reduceLeDiff,↓reduceIte,reduceCtorEq,isHand_run hI11 hI15,handEpoch_run hI15])))
 all_goals clear hI11 hI15
 all_goals first
  | (simp_all[Hand.done,Hand.ok,Hand.sends,Hand.enc];done)
  | (simp_all[Hand.done,Hand.ok,Hand.sends,Hand.enc,handEp];done)
  | (simp_all[Hand.done,Hand.ok,Hand.sends,Hand.enc,handEp];split<;>simp_all;done)
set_option maxHeartbeats 4000000 in
theorem sHandDone_c (hS:Has F tS01d) (hS15:Has F tS15) (hf:h.floor≤h.next) (a:Hand) (v:HandMsg.RI h cs m fp): ∃h',call F Z 84 [.agg a.enc,.agg cs] h=some (.tup [.agg (a.done m.step m.lo m.epoch).1.enc,.c (.bool (a.done m.step m.lo m.epoch).2)],h')∧On h h':=by
 obtain ⟨x1,p1,x2,p2,rfl,rfl,w1,w2⟩:=v
 obtain ⟨lo,fr,to,ep,ph⟩:=a
 have hw:Wcc lo fr to ep ph=true→IntKind.i64.wrap (ep+1)=ep+1∧IntKind.i64.wrap (ph+1)=ph+1:=fun hk=>by
  simp only[Wcc,inR,Qg,decide_eq_true_eq] at hk
  exact ⟨Wbr _ (by omega) (by omega),Wbr _ (by omega) (by omega)⟩
 refine ⟨h,?_,On.refl h⟩
 rw[Wac F Z (hS15.lk (g:=84) rfl) _ _ rfl]
 simp only[Hand.enc,rn,RO.dst,lk,drop,Nat.reduceBEq,Nat.reduceAdd,Nat.reduceLeDiff,↓reduceIte,reduceCtorEq,sHandOk_run hS hS15]
 clear w1 w2
 (repeat' ((first | (rw[WbI];split) | (rw[Was];split) | (rw[Way];split))<;>(rename_i hh;(try simp only[QS,decide_eq_true_eq] at hh);simp only[hh,rn,RO.dst,lk,drop,Nat.reduceBEq,Nat.reduceAdd,Nat.reduceLeDiff,↓reduceIte,reduceCtorEq,sHandOk_run hS hS15])))
 all_goals clear hS hS15
 all_goals first
  | (simp_all[Hand.done,Hand.ok,Hand.sends,Hand.enc];done)
  | (simp_all[Hand.done,Hand.ok,Hand.sends,Hand.enc];intros;omega)
end
section
variable {F:Nat→Option RF} {Z:Waf} {h:Heap} {cs:List Cell} {t:HandMsg} {fp:List Nat}
end
end Go.Proofs.YtjaideekkbpalaaGreat.A
