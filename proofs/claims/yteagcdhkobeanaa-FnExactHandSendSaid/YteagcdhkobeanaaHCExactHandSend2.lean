/- The functions that the statement reaches, part 2: bodies and what they compute. No condition. -/
import Derived.Test.YteagcdhkobeanaaHCExactHandSend1
import Derived.Test.YteagcdhkobeanaaZ6
import Derived.Test.YteagcdhkobeanaaB9
namespace Go.Proofs.Yteagcdhkobeanaa.A
open Go
set_option linter.unusedSimpArgs false
set_option linter.unusedVariables false
section
variable {α:Type} {R:Rel α} {tag:Nat} {h0 h g:Heap} {x:Cell} {xs:List α} {fp fq:List Nat}
theorem AllR.set {r:List Cell} {t:α} (w1:R h r t fq): ∀{rows:List (List Cell)} {xs:List α} {fps:List (List Nat)},AllR R h rows xs fps→ ∀(i:Nat),AllR R h (rows.set i r) (xs.set i t) (fps.set i fq)
 | [],[],[],_,_=>trivial
 | _::_,_::_,_::_,⟨_,w⟩,0=>⟨w1,w⟩
 | _::_,_::_,_::_,⟨w0,w⟩,i+1=>⟨w0,AllR.set w1 w i⟩
 | [],[],_::_,w,_=>w.elim
 | [],_::_,_,w,_=>w.elim
 | _::_,[],_,w,_=>w.elim
 | _::_,_::_,[],w,_=>w.elim
theorem AllR.turn (ok:RelOk R) {h':Heap} (hn:h.next≤h'.next) {r':List Cell} {t':α}: ∀{rows:List (List Cell)} {xs:List α} {fps:List (List Nat)},AllR R h rows xs fps→ ∀(i:Nat) (f:List Nat),fps[i]? =some f→fps.flatten.Nodup→
 (∀id,id∈fps.flatten→id∉f→h'.get id=h.get id)→R h' r' t' f→AllR R h' (rows.set i r') (xs.set i t') fps
 | [],[],[],_,i,f,e,_,_,_=>by simp at e
 | r::rs,a::bs,g::gs,⟨w0,w⟩,0,f,e,nd,hg,v=>by
   simp only[List.getElem?_cons_zero,Option.some.injEq] at e
   subst e
   rw[List.flatten_cons] at nd
   obtain ⟨n1,n2,n3⟩:=List.nodup_append.1 nd
   exact ⟨v,w.mv ok hn fun id hid=>hg id (by rw[List.flatten_cons,List.mem_append];exact .inr hid) fun hf=>n3 id hf id hid rfl⟩
 | r::rs,a::bs,g::gs,⟨w0,w⟩,i+1,f,e,nd,hg,v=>by
   simp only[List.getElem?_cons_succ] at e
   rw[List.flatten_cons] at nd
   obtain ⟨n1,n2,n3⟩:=List.nodup_append.1 nd
   exact ⟨ok.mv w0 hn fun id hid=>hg id (by rw[List.flatten_cons,List.mem_append];exact .inl hid) fun hf=>n3 id hid id (List.mem_flatten.2 ⟨f,List.mem_of_getElem? e,hf⟩) rfl,
    AllR.turn ok hn w i f e n2 (fun id hid hf=>hg id (by rw[List.flatten_cons,List.mem_append];exact .inr hid) hf) v⟩
 | [],[],_::_,w,_,_,_,_,_,_=>w.elim
 | [],_::_,_,w,_,_,_,_,_,_=>w.elim
 | _::_,[],_,w,_,_,_,_,_,_=>w.elim
 | _::_,_::_,[],w,_,_,_,_,_,_=>w.elim
theorem flat_at_nodup {f:List Nat}: ∀(fps:List (List Nat)) (i:Nat),fps[i]? =some f→fps.flatten.Nodup→f.Nodup
 | [],i,h,_=>by simp at h
 | g::r,i,h,nd=>by
   rw[List.flatten_cons] at nd
   obtain ⟨n1,n2,_⟩:=List.nodup_append.1 nd
   cases i with
   | zero=>simp only[List.getElem?_cons_zero,Option.some.injEq] at h;exact h▸n1
   | succ i=>exact flat_at_nodup r i (by simpa using h) n2
theorem SlR.turn (ok:RelOk R) (w:SlR tag R h x xs fp) (nd:fp.Nodup) {i:Nat} (hi:i<xs.length):
 ∃r f,∃rows:List (List Cell),R h r xs[i] f∧(∀id,id∈f→id∈fp)∧f.Nodup∧x.sid∈fp∧x.sid∉f∧x.sid<h.next∧h.get x.sid=some rows∧rows[i]? =some r∧i<rows.length∧
  ∀h' r' t',h.next≤h'.next→(∀id,id∈fp→id≠x.sid→id∉f→h'.get id=h.get id)→h'.get x.sid=some (rows.set i r')→R h' r' t' f→SlR tag R h' x (xs.set i t') fp:=by
 rcases w with ⟨hl,⟨rfl,rfl,rfl⟩ | ⟨id,rows,fps,rfl,q1,q2,rfl,q3⟩⟩
 ·exact absurd hi (Nat.not_lt_zero _)
 obtain ⟨r,f,e1,e2,v⟩:=q3.at i hi
 have hn:=List.nodup_cons.1 nd
 have hin: ∀j,j∈f→j∈fps.flatten:=fun j hj=>List.mem_flatten.2 ⟨f,List.mem_of_getElem? e2,hj⟩
 refine ⟨r,f,rows,v,fun j hj=>List.mem_cons_of_mem _ (hin j hj),flat_at_nodup fps i e2 hn.2,by simp[Cell.sid],fun hc=>hn.1 (hin _ hc),q2,q1,e1,by rw[q3.len];exact hi,fun h' r' t' hn' hg hg' v'=> ?_⟩
 refine ⟨by simpa using hl,.inr ⟨id,rows.set i r',fps,by simp,hg',Nat.lt_of_lt_of_le q2 hn',rfl,?_⟩⟩
 exact q3.turn ok hn' i f e2 hn.2 (fun j hj hf=>hg j (List.mem_cons_of_mem _ hj) (fun e=>hn.1 (by simp only[Cell.sid] at e;exact e▸hj)) hf) v'
theorem loadP_row {h:Heap} {id i:Nat} {rows:List (List Cell)} {r:List Cell} (hg:h.get id=some rows) (hi:rows[i]? =some r) (j n:Nat):loadP h id i j n=cut? r j n:=by simp[loadP,rowOf,hg,hi]
theorem loadP_put {h:Heap} {id i:Nat} {rows:List (List Cell)} (hi:i<rows.length) (r:List Cell) (j n:Nat):loadP (h.put id (rows.set i r)) id i j n=cut? r j n:=loadP_row (rows:=rows.set i r) (by simp[Heap.put]) (List.getElem?_set_self hi) j n
theorem put_row {h:Heap} {id i:Nat} {rows:List (List Cell)} {r:List Cell} (hg:h.get id=some rows) (hi:rows[i]? =some r):h.put id (rows.set i r)=h:=by
 have:rows.set i r=rows:=by
  apply List.ext_getElem?
  intro j
  by_cases e:i=j
  ·subst e
   have hlt:i<rows.length:=by
    rcases Nat.lt_or_ge i rows.length with hlt | hge
    ·exact hlt
    ·rw[List.getElem?_eq_none hge] at hi;cases hi
   rw[List.getElem?_set_self hlt,hi]
  ·rw[List.getElem?_set_ne e]
 rw[this];exact put_same hg
end
end Go.Proofs.Yteagcdhkobeanaa.A
namespace Go.Proofs.Yteagcdhkobeanaa.A
open Go
set_option linter.unusedSimpArgs false
set_option linter.unusedVariables false
section
variable {F:Nat→Option RF} {Z:CallF} {live:List Nat} {b:RC}
end
section
variable {α:Type} {R:Rel α} {tag:Nat} {h0 h g:Heap} {x:Cell} {xs ys:List α} {fp fq:List Nat}
theorem AllR.app: ∀{r1 r2:List (List Cell)} {xs ys:List α} {f1 f2:List (List Nat)},AllR R h r1 xs f1→AllR R h r2 ys f2→AllR R h (r1++r2) (xs++ys) (f1++f2)
 | [],_,[],_,[],_,_,w=>w
 | _::_,_,_::_,_,_::_,_,⟨w1,w⟩,u=>⟨w1,AllR.app w u⟩
 | [],_,[],_,_::_,_,w,_=>w.elim
 | [],_,_::_,_,_,_,w,_=>w.elim
 | _::_,_,[],_,_,_,w,_=>w.elim
 | _::_,_,_::_,_,[],_,w,_=>w.elim
end
end Go.Proofs.Yteagcdhkobeanaa.A
namespace Go.Proofs.Yteagcdhkobeanaa.A
open Go
set_option linter.unusedSimpArgs false
set_option linter.unusedVariables false
section
variable {α:Type} {R:Rel α} {tag:Nat} {h0 h g:Heap} {x:Cell} {xs:List α} {fp fq:List Nat}
theorem Fre.own (f:Fre h0 fp) (o:On h0 h) (hf:h0.floor≤h0.next): ∀id,id∈fp→h.floor≤id:=fun id hid=>by
 rw[o.fl];exact Nat.le_trans hf (f.lo id hid)
theorem Mk.then {a b c:Heap} (m:Mk a b fp) (n:Mk b c fp):Mk a c fp:=⟨n.next.trans m.next,n.fl.trans m.fl,fun id hid=>(n.get id hid).trans (m.get id hid)⟩
end
end Go.Proofs.Yteagcdhkobeanaa.A
namespace Go.Proofs.Yteagcdhkobeanaa.A
open Go
set_option linter.unusedSimpArgs false
set_option linter.unusedVariables false
theorem findI_at {α:Type} {p:α→Bool} {xs:List α} (h:0≤findI p xs): ∃i:Nat,findI p xs=(i:Int)∧ ∃hi:i<xs.length,p xs[i]=true:=by
 unfold findI at h ⊢
 split at h
 ·rename_i i hi
  rw[List.findIdx?_eq_some_iff_getElem] at hi
  obtain ⟨h1,h2,_⟩:=hi
  exact ⟨i,rfl,h1,h2⟩
 ·omega
theorem findI_no {α:Type} {p:α→Bool} {xs:List α} (h:findI p xs<0):findI p xs= -1:=by
 unfold findI at h ⊢
 split at h
 ·omega
 ·rfl
section
variable {α:Type} {R:Rel α} {tag:Nat} {h0 h g:Heap} {x y:Cell} {xs ys:List α} {fp fq:List Nat}
end
end Go.Proofs.Yteagcdhkobeanaa.A
namespace Go.Proofs.Yteagcdhkobeanaa.A
open Go
set_option linter.unusedSimpArgs false
set_option linter.unusedVariables false
def findAt (xs:List Shard) (lo st:Int):Int:=findI (fun t=>(t.lo==lo)&&(t.state==st)) xs
section
variable {F:Nat→Option RF} {Z:CallF} {h:Heap} {x:Cell} {xs:List Shard} {fp:List Nat} {cs:List Cell} {s:Store}
theorem indexShard_run (hL:Has F tLibslicesIndexFuncimplShardimplShard) (w:SlR 16 Shard.RI h x xs fp) (f:Nat) (ps:List (Nat×Nat×Nat)) (p:Shard→Bool)
 (hc: ∀r t q,Shard.RI h r t q→call F Z f (.agg r::capV ps) h=some (.c (.bool (p t)),h)):call F Z 248 [.c x,.c (.fn f ps)] h=some (.c (.int .i64 (findI p xs)),h):=by
 have hle:=w.le2
 rw[call_run F Z (hL.lk (g:=248) rfl) _ _ rfl]
 simp only[rn,RO.dst,lk,drop,Nat.reduceBEq,Nat.reduceAdd,Nat.reduceLeDiff,↓reduceIte,reduceCtorEq,w.len]
 have key:=loop_find (F:=F) (Z:=Z) (live:=[0,1,7,8]) (b:=r248L0) xs p (fun i=>⟨[(0,.c x),(1,.c (.fn f ps)),(7,.c (.int .i64 (xs.length:Nat))),(8,.c (.int .i64 (i:Nat)))],[],[],h⟩) (fun i s=>lk s.env 4=some (.c (.int .i64 (i:Nat)))∧s.hp=h) fun i hi=>by
  have hlt:(i:Int)<xs.length:=by omega
  have hws:=wrapS i (by omega)
  obtain ⟨r,q,hld,hR,_⟩:=w.one hi
  have hci:=hc _ _ _ hR
  obtain ⟨r1,r2,r3⟩:=Shard.lenI hR
  have hxi:=w.idx hi
  clear w hR
  rw[loop_run]
  conv in (codeF _ _ r248L0 _)=>unfold r248L0
  simp only[rn,RO.dst,lk,drop,Nat.reduceBEq,Nat.reduceAdd,Nat.reduceLeDiff,↓reduceIte,reduceCtorEq,hlt,hxi,hld,r1,r2,r3]
  simp only[hci,rn,RO.dst,lk,drop,Nat.reduceBEq,Nat.reduceAdd,Nat.reduceLeDiff,↓reduceIte,reduceCtorEq]
  (repeat' ((first | (rw[gF_if];split) | (rw[condC_if];split) | (rw[pickR_if];split))<;>(rename_i hh;(try simp only[Bool.not_eq_true,decide_eq_true_eq] at hh);simp only[hh,rn,RO.dst,lk,drop,Nat.reduceBEq,Nat.reduceAdd,Nat.reduceLeDiff,↓reduceIte,reduceCtorEq,hws])))<;>first
   | exact .inl ⟨by simp_all,rfl⟩
   | exact .inr ⟨by simp_all,_,rfl,rfl,rfl⟩
 have hlt: ¬(xs.length:Int)<xs.length:=by omega
 simp only[show ((0:Nat):Int)=0 from rfl] at key
 rcases key with ⟨k1,k2⟩ | ⟨i,k1,hi,s,k2,k3,k4⟩
 ·rw[k2,loop_run]
  conv in (codeF _ _ r248L0 _)=>unfold r248L0
  simp only[rn,RO.dst,lk,drop,Nat.reduceBEq,Nat.reduceAdd,Nat.reduceLeDiff,↓reduceIte,reduceCtorEq,hlt,findI,k1]
 ·rw[k2]
  simp only[rn,RO.dst,lk,drop,Nat.reduceBEq,Nat.reduceAdd,Nat.reduceLeDiff,↓reduceIte,reduceCtorEq,k3,k4,findI,k1]
theorem shardAt_run (hI13:Has F tI13) (hL:Has F tLibslicesIndexFuncimplShardimplShard) (v:Store.RI h cs s fp) (lo st:Int):
 call F Z 213 [.agg cs,.c (.int .u64 lo),.c (.int .i64 st)] h=some (.c (.int .i64 (findAt s.shards lo st)),(h.push [[.int .u64 lo]]).push [[.int .i64 st]]):=by
 obtain ⟨x,p,rfl,rfl,w⟩:=v
 have w':=(w.on Shard.okI (On.push h [[.int .u64 lo]])).on Shard.okI (On.push _ [[.int .i64 st]])
 have hr:=indexShard_run (Z:=Z) hL w' 249 [(h.next,0,0),(h.next+1,0,0)] (fun t=>(t.lo==lo)&&(t.state==st)) fun r t q hR=>by
  obtain ⟨x1,p1,x2,p2,rfl,_⟩:=hR
  have hl:loadP ((h.push [[.int .u64 lo]]).push [[.int .i64 st]]) h.next 0 0 1=some [.int .u64 lo]:=by
   simp[loadP,rowOf,Heap.push,cut?]
  have hl2:loadP ((h.push [[.int .u64 lo]]).push [[.int .i64 st]]) (h.next+1) 0 0 1=some [.int .i64 st]:=by
   simp[loadP,rowOf,Heap.push,cut?]
  simp only[rn,RO.dst,lk,drop,Nat.reduceBEq,Nat.reduceAdd,Nat.reduceLeDiff,↓reduceIte,reduceCtorEq,capV_cons]
  rw[call_run F Z (hI13.lk (g:=249) rfl) _ _ rfl]
  simp only[rn,RO.dst,lk,drop,Nat.reduceBEq,Nat.reduceAdd,Nat.reduceLeDiff,↓reduceIte,reduceCtorEq,hl,hl2]
  (repeat' ((first | (rw[gF_if];split) | (rw[condC_if];split) | (rw[pickR_if];split))<;>(rename_i hh;(try simp only[Bool.not_eq_true,decide_eq_true_eq] at hh);simp only[hh,rn,RO.dst,lk,drop,Nat.reduceBEq,Nat.reduceAdd,Nat.reduceLeDiff,↓reduceIte,reduceCtorEq,hl,hl2])))<;>simp_all
 rw[call_run F Z (hI13.lk (g:=213) rfl) _ _ rfl]
 simp only[rn,RO.dst,lk,drop,Nat.reduceBEq,Nat.reduceAdd,Nat.reduceLeDiff,↓reduceIte,reduceCtorEq,push_next,hr,evPtrs]
 rfl
theorem shardAt_on (hI13:Has F tI13) (hL:Has F tLibslicesIndexFuncimplShardimplShard) (v:Store.RI h cs s fp) (lo st:Int):
 ∃h',call F Z 213 [.agg cs,.c (.int .u64 lo),.c (.int .i64 st)] h=some (.c (.int .i64 (findAt s.shards lo st)),h')∧On h h':=⟨_,shardAt_run hI13 hL v lo st,(On.push _ _).trans (On.push _ _)⟩
theorem l13At_run (hS13:Has F tS13) (v:Store.RI h cs s fp) (lo st:Int):call F Z 210 [.agg cs,.c (.int .u64 lo),.c (.int .i64 st)] h=some (.c (.int .i64 (findAt s.shards lo st)),h):=by
 obtain ⟨x,p,rfl,rfl,w⟩:=v
 have hle:=w.le2
 have hwl:=w.len
 rw[call_run F Z (hS13.lk (g:=210) rfl) _ _ rfl]
 simp only[rn,RO.dst,lk,drop,Nat.reduceBEq,Nat.reduceAdd,Nat.reduceLeDiff,↓reduceIte,reduceCtorEq]
 have key:=loop_find (F:=F) (Z:=Z) (live:=[1,2,3,7]) (b:=r210L0) s.shards (fun t=>(t.lo==lo)&&(t.state==st)) (fun i=>⟨[(1,.c (.int .u64 lo)),(2,.c (.int .i64 st)),(7,.c (.int .i64 (i:Nat)))],[(3,3,0)],[(3,[.int .i64 s.group,.int .i64 s.seen,x])],h⟩) (fun i s=>lk s.env 6=some (.c (.int .i64 (i:Nat)))∧s.hp=h) fun i hi=>by
  have hlt:(i:Int)<s.shards.length:=by omega
  have hws:=wrapS i (by omega)
  obtain ⟨r,q,hld,hR,_⟩:=w.one hi
  obtain ⟨x1,p1,x2,p2,rfl,_⟩:=hR
  have hxi:=w.idx hi
  clear w
  rw[loop_run]
  conv in (codeF _ _ r210L0 _)=>unfold r210L0
  simp only[rn,RO.dst,lk,drop,Nat.reduceBEq,Nat.reduceAdd,Nat.reduceLeDiff,↓reduceIte,reduceCtorEq,hwl,hlt,hxi,hld]
  (repeat' ((first | (rw[gF_if];split) | (rw[condC_if];split) | (rw[pickR_if];split))<;>(rename_i hh;(try simp only[Bool.not_eq_true,decide_eq_true_eq] at hh);simp only[hh,rn,RO.dst,lk,drop,Nat.reduceBEq,Nat.reduceAdd,Nat.reduceLeDiff,↓reduceIte,reduceCtorEq,hws,hxi,hld])))<;>first
   | exact .inl ⟨by simp_all,rfl⟩
   | exact .inr ⟨by simp_all,_,rfl,rfl,rfl⟩
 have hlt: ¬(s.shards.length:Int)<s.shards.length:=by omega
 simp only[show ((0:Nat):Int)=0 from rfl] at key
 rcases key with ⟨k1,k2⟩ | ⟨i,k1,hi,s,k2,k3,k4⟩
 ·rw[k2,loop_run]
  conv in (codeF _ _ r210L0 _)=>unfold r210L0
  simp only[rn,RO.dst,lk,drop,Nat.reduceBEq,Nat.reduceAdd,Nat.reduceLeDiff,↓reduceIte,reduceCtorEq,hwl,hlt,findAt,findI,k1]
 ·rw[k2]
  simp only[rn,RO.dst,lk,drop,Nat.reduceBEq,Nat.reduceAdd,Nat.reduceLeDiff,↓reduceIte,reduceCtorEq,k3,k4,findAt,findI,k1]
end
end Go.Proofs.Yteagcdhkobeanaa.A
namespace Go.Proofs.Yteagcdhkobeanaa.A
open Go
set_option linter.unusedSimpArgs false
set_option linter.unusedVariables false
theorem flatMap_one {α β:Type} (g:α→β) (xs:List α):xs.flatMap (fun r=>[g r])=xs.map g:=by
 induction xs with
 | nil=>rfl
 | cons a r ih=>rw[List.flatMap_cons,ih];rfl
section
variable {F:Nat→Option RF} {Z:CallF} {h:Heap} {x:Cell} {xs:List Account} {fp fq:List Nat}
theorem copyBook_c (hI10:Has F tI10) (hf:h.floor≤h.next) (w:SlR 11 (Fl Account.enc) h x xs fp) (sm:xs.length≤1048576): ∃y h' fq,call F Z 260 [.agg [x]] h=some (.agg [y],h')∧On h h'∧SlR 11 (Fl Account.enc) h' y xs fq∧Fre h fq:=by
 have a0:=Acc.lit0 (tag:=11) (On.refl h)
 have w':=w.on (Fl.ok _) (On.push h [])
 have ce:=a0.cat_eq (bytes:=40) (y:=x) (new:=xs.map Account.enc) hf w'.isTag w'.rows (by simp;omega)
 have ac:=a0.cat (new:=xs.map Account.enc) hf (by simp;omega)
 simp only[List.nil_append] at ac
 obtain ⟨o,fq,u,f⟩:=ac.flat
 rw[call_run F Z (hI10.lk (g:=260) rfl) _ _ rfl]
 simp only[rn,RO.dst,lk,drop,Nat.reduceBEq,Nat.reduceAdd,Nat.reduceLeDiff,↓reduceIte,reduceCtorEq,List.replicate_zero,fills,ce]
 exact ⟨_,_,_,rfl,o,u,f⟩
theorem l10Copy_c (hS10:Has F tS10) (hf:h.floor≤h.next) (w:SlR 11 (Fl Account.enc) h x xs fp) (sm:xs.length≤1048576): ∃y h' fq,call F Z 259 [.agg [x]] h=some (.agg [y],h')∧On h h'∧SlR 11 (Fl Account.enc) h' y xs fq∧Fre h fq:=by
 rw[call_run F Z (hS10.lk (g:=259) rfl) _ _ rfl]
 simp only[rn,RO.dst,lk,drop,Nat.reduceBEq,Nat.reduceAdd,Nat.reduceLeDiff,↓reduceIte,reduceCtorEq]
 obtain ⟨y1,h1,a1,l1⟩:=loop_acc (F:=F) (Z:=Z) (live:=[1,2,3,4]) (b:=r259L0) xs (fun r=>[r.enc]) 11 h (fun i y g=>⟨[(4,.c (.int .i64 (i:Nat)))],[(1,1,0),(2,2,0),(3,3,0)],[(1,[x]),(2,[.nil]),(3,[y])],g⟩) (fun r=>by simp) (fun i hi y g rows a hr=>by
  have e1:=a.one_eq hf (bytes:=40) (by omega)
  have a1:=a.one hf (by omega)
  have hlt:(i:Int)<xs.length:=by omega
  have wg:=w.on (Fl.ok _) a.on
  rw[loop_run]
  conv in (codeF _ _ r259L0 _)=>unfold r259L0
  simp only[rn,RO.dst,lk,drop,Nat.reduceBEq,Nat.reduceAdd,Nat.reduceLeDiff,↓reduceIte,reduceCtorEq,w.len,hlt,w.idx hi,wg.load hi,Account.len,Account.tak,wrapS i (by omega),List.replicate_succ,List.replicate_zero,fills,and_self,Nat.zero_lt_one,List.set_cons_zero,e1]
  exact ⟨_,_,a1 _,rfl⟩) (Acc.nil 11 h)
 simp only[show ((0:Nat):Int)=0 from rfl] at l1
 have hlt: ¬(xs.length:Int)<xs.length:=by omega
 rw[l1,loop_run]
 conv in (codeF _ _ r259L0 _)=>unfold r259L0
 simp only[rn,RO.dst,lk,drop,Nat.reduceBEq,Nat.reduceAdd,Nat.reduceLeDiff,↓reduceIte,reduceCtorEq,w.len,hlt]
 rw[flatMap_one] at a1
 obtain ⟨o,fq,u,f⟩:=a1.flat
 exact ⟨_,_,_,rfl,o,u,f⟩
end
end Go.Proofs.Yteagcdhkobeanaa.A
namespace Go.Proofs.Yteagcdhkobeanaa.A
open Go
set_option linter.unusedSimpArgs false
set_option linter.unusedVariables false
def Shard.cells (t:Shard) (x y:Cell):List Cell:=[.int .u64 t.lo,.int .u64 t.hi,.int .i64 t.state,.int .i64 t.epoch,x,y]
section
variable {F:Nat→Option RF} {Z:CallF} {h:Heap} {x:Cell} {xs:List Shard} {fp fq:List Nat}
theorem SlR.found (w:SlR 16 Shard.RI h x xs fp) (p:Shard→Bool):findI p xs= -1∨ ∃i:Nat,findI p xs=(i:Int)∧i<xs.length∧p (Shard.at_ xs i)=true∧idxR 16 (some x) (some (i:Int))=some (.ptr x.sid i 0)∧
 ∃y z,∀j n,loadP h x.sid i j n=cut? ((Shard.at_ xs i).cells y z) j n:=by
 by_cases h0:0≤findI p xs
 ·obtain ⟨i,e,hi,hp⟩:=findI_at h0
  obtain ⟨r,f,hl,hR,_⟩:=w.one hi
  rw[←Shard.at_get hi] at hR hp
  obtain ⟨x1,p1,x2,p2,rfl,_⟩:=hR
  exact .inr ⟨i,e,hi,hp,w.idx hi,x1,x2,hl⟩
 ·exact .inl (findI_no (by omega))
end
end Go.Proofs.Yteagcdhkobeanaa.A
namespace Go.Proofs.Yteagcdhkobeanaa.A
open Go
set_option linter.unusedSimpArgs false
set_option linter.unusedVariables false
section
variable {F:Nat→Option RF} {Z:CallF} {h:Heap} {x:Cell} {xs:List Account} {fp fq:List Nat} {cs:List Cell} {t:Shard}
theorem copyShard_c (hI10:Has F tI10) (hI13:Has F tI13) (hf:h.floor≤h.next) (v:Shard.RI h cs t fp) (sm:t.Small): ∃cs' h' fq,call F Z 229 [.agg cs] h=some (.agg cs',h')∧On h h'∧Shard.RI h' cs' t fq∧Fre h fq:=by
 obtain ⟨x,p,y,q,rfl,rfl,w,u⟩:=v
 obtain ⟨y1,h1,q1,e1,o1,u1,f1⟩:=copyBook_c (Z:=Z) hI10 hf w sm.1
 have sm2:t.finished.length≤1048576:=sm.2
 have hf1:=o1.le hf
 have a0:=Acc.lit0 (tag:=9) (On.refl h1)
 have w':=(u.on (Fl.ok _) o1).on (Fl.ok _) (On.push h1 [])
 have ce:=a0.cat_eq (bytes:=16) (y:=y) (new:=t.finished.map Fin.enc) hf1 w'.isTag w'.rows (by simp;omega)
 have ac:=a0.cat (new:=t.finished.map Fin.enc) hf1 (by simp;omega)
 simp only[List.nil_append] at ac
 obtain ⟨o,fq,u2,f⟩:=ac.flat
 rw[call_run F Z (hI13.lk (g:=229) rfl) _ _ rfl]
 simp only[rn,RO.dst,lk,drop,Nat.reduceBEq,Nat.reduceAdd,Nat.reduceLeDiff,↓reduceIte,reduceCtorEq,e1,List.replicate_zero,fills,ce]
 exact ⟨_,_,_,rfl,o1.trans o,⟨_,_,_,_,rfl,rfl,u1.on (Fl.ok _) o,u2⟩,f1.app (u1.lt (Fl.ok _)) f o1.ext.1⟩
theorem l13CopyShard_c (hS10:Has F tS10) (hS13:Has F tS13) (hf:h.floor≤h.next) (v:Shard.RI h cs t fp) (sm:t.Small): ∃cs' h' fq,call F Z 228 [.agg cs] h=some (.agg cs',h')∧On h h'∧Shard.RI h' cs' t fq∧Fre h fq:=by
 obtain ⟨x,p,y,q,rfl,rfl,w,u⟩:=v
 obtain ⟨y1,h1,q1,e1,o1,u1,f1⟩:=l10Copy_c (Z:=Z) hS10 hf w sm.1
 have sm2:t.finished.length≤1048576:=sm.2
 have hf1:=o1.le hf
 rw[call_run F Z (hS13.lk (g:=228) rfl) _ _ rfl]
 simp only[rn,RO.dst,lk,drop,Nat.reduceBEq,Nat.reduceAdd,Nat.reduceLeDiff,↓reduceIte,reduceCtorEq,e1,List.replicate_zero,fills]
 obtain ⟨y2,h2,a2,l2⟩:=loop_acc (F:=F) (Z:=Z) (live:=[1,2,3,4]) (b:=r228L0) t.finished (fun r=>[r.enc]) 9 h1 (fun i z g=>⟨[(3,.c z),(4,.c (.int .i64 (i:Nat)))],[(1,1,0),(2,2,0)],[(1,[.int .u64 t.lo,.int .u64 t.hi,.int .i64 t.state,.int .i64 t.epoch,y1,y]),(2,[.int .u64 0,.int .u64 0,.int .i64 0,.int .i64 0,.nil,.nil])],g⟩) (fun r=>by simp) (fun i hi z g rows a hr=>by
  have e1:=a.one_eq hf1 (bytes:=16) (by omega)
  have a1:=a.one hf1 (by omega)
  have hlt:(i:Int)<t.finished.length:=by omega
  have wg:=(u.on (Fl.ok _) o1).on (Fl.ok _) a.on
  rw[loop_run]
  conv in (codeF _ _ r228L0 _)=>unfold r228L0
  simp only[rn,RO.dst,lk,drop,Nat.reduceBEq,Nat.reduceAdd,Nat.reduceLeDiff,↓reduceIte,reduceCtorEq,u.len,hlt,u.idx hi,wg.load hi,Fin.len,Fin.tak,wrapS i (by omega),List.replicate_succ,List.replicate_zero,fills,and_self,Nat.zero_lt_one,List.set_cons_zero,e1]
  exact ⟨_,_,a1 _,rfl⟩) (Acc.lit0 (On.refl h1))
 simp only[show ((0:Nat):Int)=0 from rfl] at l2
 have hlt: ¬(t.finished.length:Int)<t.finished.length:=by omega
 rw[l2,loop_run]
 conv in (codeF _ _ r228L0 _)=>unfold r228L0
 simp only[rn,RO.dst,lk,drop,Nat.reduceBEq,Nat.reduceAdd,Nat.reduceLeDiff,↓reduceIte,reduceCtorEq,u.len,hlt]
 rw[flatMap_one] at a2
 obtain ⟨o,fq,u2,f⟩:=a2.flat
 exact ⟨_,_,_,rfl,o1.trans o,⟨_,_,_,_,rfl,rfl,u1.on (Fl.ok _) o,u2⟩,f1.app (u1.lt (Fl.ok _)) f o1.ext.1⟩
theorem Shard.none_R (h:Heap):Shard.RI h [.int .u64 0,.int .u64 0,.int .i64 0,.int .i64 0,.nil,.nil] Shard.none_ []:=⟨.nil,[],.nil,[],rfl,rfl,SlR.nil _ _ _,SlR.nil _ _ _⟩
def exportShard (s:Store) (lo:Int):Shard×Bool:=bif s.good&&decide (0≤findAt s.shards lo 1) then (Shard.at_ s.shards (findAt s.shards lo 1).toNat,true) else (Shard.none_,false)
variable {s:Store}
theorem Store.at_small (sm:s.Small) {i:Nat} (hi:i<s.shards.length):(Shard.at_ s.shards i).Small:=by
 rw[Shard.at_get hi]
 exact sm.2 _ (List.getElem_mem hi)
theorem exportShard_small {lo:Int} (sm:s.Small):(exportShard s lo).1.Small:=by
 unfold exportShard
 cases h:(s.good&&decide (0≤findAt s.shards lo 1)) with
 | false=>exact ⟨show (0:Nat)≤1048576 by omega,show (0:Nat)≤1048576 by omega⟩
 | true=>
   simp only[Bool.and_eq_true,decide_eq_true_eq] at h
   obtain ⟨i,e,hi,_⟩:=findI_at h.2
   have e':findAt s.shards lo 1=(i:Int):=e
   simp only[cond_true,e',Int.toNat_natCast]
   exact Store.at_small sm hi
theorem SlR.atR {ys:List Shard} (w:SlR 16 Shard.RI h x ys fp) {i:Nat} (hi:i<ys.length): ∃r f,(∀j n,loadP h x.sid i j n=cut? r j n)∧Shard.RI h r (Shard.at_ ys i) f∧ ∀id,id∈f→id∈fp:=by
 rw[Shard.at_get hi]
 exact w.one hi
set_option maxHeartbeats 1000000 in
theorem ExportShard_c (k:KI F) (hL:Has F tLibslicesIndexFuncimplShardimplShard) (hf:h.floor≤h.next) (v:Store.RI h cs s fp) (lo:Int) (ok:s.Ok) (sm:s.Small):
 ∃cs' h' fq,call F Z 190 [.agg cs,.c (.int .u64 lo)] h=some (.tup [.agg cs',.c (.bool (exportShard s lo).2)],h')∧On h h'∧Shard.RI h' cs' (exportShard s lo).1 fq∧Fre h fq:=by
 obtain ⟨h1,e1,o1⟩:=shardAt_on (Z:=Z) k.i13 hL v lo 1
 have v1:=Store.okI.on v o1
 obtain ⟨h2,e2,o2⟩:=isStore_run (Z:=Z) k v1 ok
 have v2:=Store.okI.on v1 o2
 have hf2:=(o1.trans o2).le hf
 obtain ⟨x,p,rfl,rfl,w⟩:=v2
 rw[call_run F Z (k.i13.lk (g:=190) rfl) _ _ rfl]
 have hdef:exportShard s lo=bif s.good&&decide (0≤findAt s.shards lo 1) then (Shard.at_ s.shards (findAt s.shards lo 1).toNat,true) else (Shard.none_,false):=rfl
 cases gd:s.good with
 | false=>
   rw[gd] at e2
   have hd:exportShard s lo=(Shard.none_,false):=by rw[hdef,gd];rfl
   rw[hd]
   simp only[rn,RO.dst,lk,drop,Nat.reduceBEq,Nat.reduceAdd,Nat.reduceLeDiff,↓reduceIte,reduceCtorEq,e1,e2]
   exact ⟨_,_,_,rfl,o1.trans o2,Shard.none_R _,Fre.nil h⟩
 | true=>
   rw[gd] at e2
   rcases w.found (fun t=>(t.lo==lo)&&(t.state==1)) with e | ⟨i,e,hi,_,hx,_⟩
   ·change findAt s.shards lo 1= -1 at e
    have hd:exportShard s lo=(Shard.none_,false):=by rw[hdef,gd,e];rfl
    rw[hd]
    rw[e] at e1
    simp only[rn,RO.dst,lk,drop,Nat.reduceBEq,Nat.reduceAdd,Nat.reduceLeDiff,↓reduceIte,reduceCtorEq,e1,e2,Int.reduceLT,Int.reduceNeg]
    exact ⟨_,_,_,rfl,o1.trans o2,Shard.none_R _,Fre.nil h⟩
   ·change findAt s.shards lo 1=(i:Int) at e
    have hd:exportShard s lo=(Shard.at_ s.shards i,true):=by
     rw[hdef,gd,e]
     have:decide (0≤(i:Int))=true:=by simp
     rw[this];rfl
    rw[hd]
    rw[e] at e1
    obtain ⟨r,f,hl,hR,_⟩:=w.atR hi
    obtain ⟨cs',h3,fq,e3,o3,u3,f3⟩:=copyShard_c (Z:=Z) k.i10 k.i13 hf2 hR (Store.at_small sm hi)
    obtain ⟨r1,r2,r3⟩:=Shard.lenI hR
    obtain ⟨c1,c2,c3⟩:=Shard.lenI u3
    have g0: ¬(i:Int)<0:=by omega
    simp only[rn,RO.dst,lk,drop,Nat.reduceBEq,Nat.reduceAdd,Nat.reduceLeDiff,↓reduceIte,reduceCtorEq,e1,e2,g0,hx,hl,r1,r2,r3,e3,c1,c2,c3]
    exact ⟨_,_,_,rfl,(o1.trans o2).trans o3,u3,⟨fun id hid=>Nat.le_trans (o1.trans o2).ext.1 (f3.lo id hid),f3.nd⟩⟩
set_option maxHeartbeats 1000000 in
theorem sExportShard_c (k:KS F) (hf:h.floor≤h.next) (v:Store.RI h cs s fp) (lo:Int) (ok:s.Ok) (sm:s.Small):
 ∃cs' h' fq,call F Z 189 [.agg cs,.c (.int .u64 lo)] h=some (.tup [.agg cs',.c (.bool (exportShard s lo).2)],h')∧On h h'∧Shard.RI h' cs' (exportShard s lo).1 fq∧Fre h fq:=by
 have e1:=l13At_run (Z:=Z) k.s13 v lo 1
 have e2:=sStoreOk_run (Z:=Z) k v ok
 obtain ⟨x,p,rfl,rfl,w⟩:=v
 rw[call_run F Z (k.s13.lk (g:=189) rfl) _ _ rfl]
 have hdef:exportShard s lo=bif s.good&&decide (0≤findAt s.shards lo 1) then (Shard.at_ s.shards (findAt s.shards lo 1).toNat,true) else (Shard.none_,false):=rfl
 cases gd:s.good with
 | false=>
   rw[gd] at e2
   have hd:exportShard s lo=(Shard.none_,false):=by rw[hdef,gd];rfl
   rw[hd]
   simp only[rn,RO.dst,lk,drop,Nat.reduceBEq,Nat.reduceAdd,Nat.reduceLeDiff,↓reduceIte,reduceCtorEq,e1,e2]
   exact ⟨_,_,_,rfl,On.refl h,Shard.none_R _,Fre.nil h⟩
 | true=>
   rw[gd] at e2
   rcases w.found (fun t=>(t.lo==lo)&&(t.state==1)) with e | ⟨i,e,hi,_,hx,_⟩
   ·change findAt s.shards lo 1= -1 at e
    have hd:exportShard s lo=(Shard.none_,false):=by rw[hdef,gd,e];rfl
    rw[hd]
    rw[e] at e1
    simp only[rn,RO.dst,lk,drop,Nat.reduceBEq,Nat.reduceAdd,Nat.reduceLeDiff,↓reduceIte,reduceCtorEq,e1,e2,Int.reduceLT,Int.reduceNeg]
    exact ⟨_,_,_,rfl,On.refl h,Shard.none_R _,Fre.nil h⟩
   ·change findAt s.shards lo 1=(i:Int) at e
    have hd:exportShard s lo=(Shard.at_ s.shards i,true):=by
     rw[hdef,gd,e]
     have:decide (0≤(i:Int))=true:=by simp
     rw[this];rfl
    rw[hd]
    rw[e] at e1
    obtain ⟨r,f,hl,hR,_⟩:=w.atR hi
    obtain ⟨cs',h3,fq,e3,o3,u3,f3⟩:=l13CopyShard_c (Z:=Z) k.s10 k.s13 hf hR (Store.at_small sm hi)
    obtain ⟨r1,r2,r3⟩:=Shard.lenI hR
    obtain ⟨c1,c2,c3⟩:=Shard.lenI u3
    have g0: ¬(i:Int)<0:=by omega
    simp only[rn,RO.dst,lk,drop,Nat.reduceBEq,Nat.reduceAdd,Nat.reduceLeDiff,↓reduceIte,reduceCtorEq,e1,e2,g0,hx,hl,r1,r2,r3,e3,c1,c2,c3]
    exact ⟨_,_,_,rfl,o3,u3,f3⟩
end
end Go.Proofs.Yteagcdhkobeanaa.A
namespace Go.Proofs.Yteagcdhkobeanaa.A
open Go
set_option linter.unusedSimpArgs false
set_option linter.unusedVariables false
section
variable {F:Nat→Option RF} {Z:CallF} {h:Heap} {x:Cell} {xs:List Shard} {fp fq:List Nat} {cs:List Cell} {s:Store} {t:Shard}
theorem AccM.next {g k:Heap} {y:Cell} {ys:List Shard} (a:AccM Shard.RI 16 h g y ys fp) (hf:h.floor≤h.next) (hl:ys.length≤1048576) (o:On g k) {cs':List Cell} (u:Shard.RI k cs' t fq) (f:Fre g fq):
 ∃y' g' fp',appF (k.push [cs']) 16 80 y (.sl 16 k.next 0 1)=some (y',g')∧AccM Shard.RI 16 h g' y' (ys++[t]) fp':=by
 have hlt: ∀id,id∈fp→id<g.next:=a.sh.lt Shard.okI
 obtain ⟨y',g',fp',e,a',_⟩:=a.one Shard.okI hf (bytes:=80) (by omega) (by omega) o u ⟨fun id hid=>Nat.le_trans a.on.ext.1 (f.lo id hid),f.nd⟩ (fun id h1 h2=>by
  have:=hlt id h2
  have:=f.lo id h1
  omega)
 exact ⟨y',g',fp',e,a'⟩
end
end Go.Proofs.Yteagcdhkobeanaa.A
namespace Go.Proofs.Yteagcdhkobeanaa.A
open Go
set_option linter.unusedSimpArgs false
set_option linter.unusedVariables false
def Store.next (s:Store) (e:Int):Bool:=s.good&&(decide (s.seen<e)&&decide (e≤1000000))
section
variable {F:Nat→Option RF} {Z:CallF} {h:Heap} {x:Cell} {xs:List Shard} {fp fq:List Nat} {cs:List Cell} {s:Store} {t:Shard}
end
end Go.Proofs.Yteagcdhkobeanaa.A
namespace Go.Proofs.Yteagcdhkobeanaa.A
open Go
set_option linter.unusedSimpArgs false
set_option linter.unusedVariables false
section
variable {F:Nat→Option RF} {Z:CallF} {h:Heap} {x:Cell} {xs:List Shard} {fp fq:List Nat} {cs:List Cell} {s:Store} {t:Shard}
end
end Go.Proofs.Yteagcdhkobeanaa.A
namespace Go.Proofs.Yteagcdhkobeanaa.A
open Go
set_option linter.unusedSimpArgs false
set_option linter.unusedVariables false
def Shard.over (x t:Shard):Bool:=decide (t.lo≤x.hi)&&decide (x.lo≤t.hi)
def Shard.left (x t:Shard):Bool:=decide (t.lo<x.lo)
end Go.Proofs.Yteagcdhkobeanaa.A
namespace Go.Proofs.Yteagcdhkobeanaa.A
open Go
set_option linter.unusedSimpArgs false
set_option linter.unusedVariables false
section
variable {α:Type} {R:Rel α} {tag:Nat} {h0 h g:Heap} {x y:Cell} {xs ys:List α} {fp fq:List Nat}
theorem AllR.take: ∀{rows:List (List Cell)} {xs:List α} {fps:List (List Nat)},AllR R h rows xs fps→ ∀(i:Nat),AllR R h (rows.take i) (xs.take i) (fps.take i)
 | [],[],[],_,i=>by simp only[List.take_nil];trivial
 | _::_,_::_,_::_,_,0=>trivial
 | _::_,_::_,_::_,⟨w0,w⟩,i+1=>⟨w0,AllR.take w i⟩
 | [],[],_::_,w,_=>w.elim
 | [],_::_,_,w,_=>w.elim
 | _::_,[],_,w,_=>w.elim
 | _::_,_::_,[],w,_=>w.elim
theorem AllR.drop: ∀{rows:List (List Cell)} {xs:List α} {fps:List (List Nat)},AllR R h rows xs fps→ ∀(i:Nat),AllR R h (rows.drop i) (xs.drop i) (fps.drop i)
 | [],[],[],_,i=>by simp only[List.drop_nil];trivial
 | _::_,_::_,_::_,w,0=>w
 | _::_,_::_,_::_,⟨w0,w⟩,i+1=>AllR.drop w i
 | [],[],_::_,w,_=>w.elim
 | [],_::_,_,w,_=>w.elim
 | _::_,[],_,w,_=>w.elim
 | _::_,_::_,[],w,_=>w.elim
structure Re (h g:Heap) (fp fq:List Nat):Prop where
 le:h.next≤g.next
 fl:g.floor=h.floor
 get: ∀id,id<h.next→id∉fp→g.get id=h.get id
 nd:fq.Nodup
 of: ∀id,id∈fq→id∈fp∨h.next≤id
theorem Re.on (r:Re h g fp fq) (o:On h0 h) (f:Fre h0 fp):On h0 g:=
 ⟨⟨Nat.le_trans o.ext.1 r.le,fun id hid=>by rw[r.get id (Nat.lt_of_lt_of_le hid o.ext.1) (f.gt id hid)];exact o.ext.2 id hid⟩,r.fl.trans o.fl⟩
end
end Go.Proofs.Yteagcdhkobeanaa.A
namespace Go.Proofs.Yteagcdhkobeanaa.A
open Go
set_option linter.unusedSimpArgs false
set_option linter.unusedVariables false
section
variable {F:Nat→Option RF} {Z:CallF} {h:Heap} {c:Cell} {xs:List Shard} {fp fq fr:List Nat} {cs ds:List Cell} {s:Store} {x t:Shard}
end
end Go.Proofs.Yteagcdhkobeanaa.A
namespace Go.Proofs.Yteagcdhkobeanaa.A
open Go
set_option linter.unusedSimpArgs false
set_option linter.unusedVariables false
section
variable {F:Nat→Option RF} {Z:CallF} {h h1:Heap} {c:Cell} {xs:List Shard} {fp fq fr:List Nat} {cs ds:List Cell} {s:Store} {x t:Shard}
theorem AccM.base {α:Type} {R:Rel α} {tag:Nat} {h0 h1 g:Heap} {y:Cell} {xs:List α} {fp:List Nat} (a:AccM R tag h1 g y xs fp) (o:On h0 h1):AccM R tag h0 g y xs fp:=
 ⟨o.trans a.on,a.sh,⟨fun id hid=>Nat.le_trans o.ext.1 (a.fr.lo id hid),a.fr.nd⟩⟩
theorem AccM.old {α:Type} {R:Rel α} {tag:Nat} {h0 h1 g:Heap} {y:Cell} {xs:List α} {fp:List Nat} (a:AccM R tag h1 g y xs fp) (h:On h0 h1) {fy:List Nat} (hy: ∀id,id∈fy→id<h1.next): ∀id,id∈fy→id∉fp:=fun id h1 h2=>by
 have:=hy id h1;have:=a.fr.lo id h2;omega
end
end Go.Proofs.Yteagcdhkobeanaa.A
namespace Go.Proofs.Yteagcdhkobeanaa.A
open Go
set_option linter.unusedSimpArgs false
set_option linter.unusedVariables false
section
variable {F:Nat→Option RF} {Z:CallF} {h:Heap} {x:Cell} {xs:List Shard} {fp fq:List Nat} {cs:List Cell} {s:Store} {t:Shard}
end
end Go.Proofs.Yteagcdhkobeanaa.A
namespace Go.Proofs.Yteagcdhkobeanaa.A
open Go
set_option linter.unusedSimpArgs false
set_option linter.unusedVariables false
section
variable {F:Nat→Option RF} {Z:CallF} {h:Heap} {cs:List Cell} {t:HandMsg} {fp:List Nat}
theorem markHandMsg_r (hLHandMsg:Has F tLHandMsg) (hLShard:Has F tLShard) (hLBook:Has F tLBook) (hLAccount:Has F tLAccount) (hLFin:Has F tLFin) (v:HandMsg.RI h cs t fp) (nd:fp.Nodup) (hlo: ∀id,id∈fp→h.floor≤id) (k:Int) (h1:0≤k) (h2:k+t.wt≤9200000000000000000):
 ∃h',call F Z 305 [.agg cs,.c (.int .i64 k)] h=some (.c (.int .i64 (k+t.wt)),h')∧Mk h h' fp∧HandMsg.RI h' cs (t.marked k) fp:=by
 obtain ⟨x1,p1,x2,p2,rfl,hp,w1,w2⟩:=v
 have v:Shard.RI h [.int .u64 t.shard.lo,.int .u64 t.shard.hi,.int .i64 t.shard.state,.int .i64 t.shard.epoch,x1,x2] t.shard fp:=⟨x1,p1,x2,p2,rfl,hp,w1,w2⟩
 obtain ⟨g,e,m,u⟩:=markShard_r (Z:=Z) hLShard hLBook hLAccount hLFin v nd hlo k h1 h2
 obtain ⟨y1,q1,y2,q2,hc,hq,u1,u2⟩:=u
 have hx:x1=y1∧x2=y2:=by
  simp only[List.cons.injEq] at hc
  exact ⟨hc.2.2.2.2.1,hc.2.2.2.2.2.1⟩
 obtain ⟨rfl,rfl⟩:=hx
 rw[call_run F Z (hLHandMsg.lk (g:=305) rfl) _ _ rfl]
 simp only[rn,RO.dst,lk,drop,Nat.reduceBEq,Nat.reduceAdd,Nat.reduceLeDiff,↓reduceIte,reduceCtorEq,e]
 exact ⟨g,rfl,m,⟨x1,q1,x2,q2,rfl,hq,u1,u2⟩⟩
theorem heldHandMsg_r (hLHandMsg:Has F tLHandMsg) (hLShard:Has F tLShard) (hLBook:Has F tLBook) (hLAccount:Has F tLAccount) (hLFin:Has F tLFin) {k:Int} (v:HandMsg.RI h cs (t.marked k) fp) (h1:0≤k) (h2:k+t.wt≤9200000000000000000):
 call F Z 306 [.agg cs,.c (.int .i64 k)] h=some (.c (.int .i64 (k+t.wt)),h):=by
 obtain ⟨x1,p1,x2,p2,rfl,hp,w1,w2⟩:=v
 have e:=heldShard_r (Z:=Z) (t:=t.shard) hLShard hLBook hLAccount hLFin (k:=k) (⟨x1,p1,x2,p2,rfl,hp,w1,w2⟩:Shard.RI h _ (t.shard.marked k) fp) h1 h2
 have hn:=t.wt_nn
 have hw:t.shard.wt=t.wt:=rfl
 rw[hw] at e
 have hk: ¬k+t.wt<0:=by omega
 rw[call_run F Z (hLHandMsg.lk (g:=306) rfl) _ _ rfl]
 simp only[HandMsg.marked,rn,RO.dst,lk,drop,Nat.reduceBEq,Nat.reduceAdd,Nat.reduceLeDiff,↓reduceIte,reduceCtorEq,e,hk]
end
end Go.Proofs.Yteagcdhkobeanaa.A
namespace Go.Proofs.Yteagcdhkobeanaa.A
open Go
set_option linter.unusedSimpArgs false
set_option linter.unusedVariables false
def HandMsg.none_:HandMsg:=⟨0,0,0,0,Shard.none_⟩
def handSend (a:Hand) (s:Store):HandMsg×Bool:=
 bif a.ok&& !(a.phase==3) then (bif a.phase==1 then (bif (exportShard s a.lo).2&&((exportShard s a.lo).1.epoch==a.epoch) then (⟨1,a.lo,a.to,a.epoch+1,(exportShard s a.lo).1⟩,true) else (HandMsg.none_,false)) else (⟨a.phase,a.lo,a.from_,a.epoch,Shard.none_⟩,true)) else (HandMsg.none_,false)
theorem Shard.none_small:Shard.none_.Small:=by simp[Shard.none_,Shard.Small,Book.Small]
theorem handSend_small {s:Store} (sm:s.Small) (a:Hand):(handSend a s).1.Small:=by
 unfold handSend
 cases (a.ok&& !(a.phase==3))<;>simp only[cond_true,cond_false]
 ·exact Shard.none_small
 cases (a.phase==1)<;>simp only[cond_true,cond_false]
 ·exact Shard.none_small
 cases ((exportShard s a.lo).2&&((exportShard s a.lo).1.epoch==a.epoch))<;>simp only[cond_true,cond_false]
 ·exact Shard.none_small
 ·exact exportShard_small sm
theorem Hand.ok_epoch {a:Hand} (h:a.ok=true):IntKind.i64.wrap (a.epoch+1)=a.epoch+1:=by
 simp only[Hand.ok,handOk,inR,Bool.and_eq_true,decide_eq_true_eq] at h
 exact wrapI _ (by omega) (by omega)
section
variable {F:Nat→Option RF} {Z:CallF} {h:Heap} {cs ds:List Cell} {fp fq:List Nat} {s:Store} {m:HandMsg}
theorem HandMsg.none_R (h:Heap):HandMsg.RI h [.int .i64 0,.int .u64 0,.int .i64 0,.int .i64 0,.int .u64 0,.int .u64 0,.int .i64 0,.int .i64 0,.nil,.nil] HandMsg.none_ []:=⟨.nil,[],.nil,[],rfl,rfl,SlR.nil _ _ _,SlR.nil _ _ _⟩
theorem send_bad {a:Hand} (h:a.ok=false):handSend a s=(HandMsg.none_,false):=by simp[handSend,h]
theorem send_over {a:Hand} (h:a.phase=3):handSend a s=(HandMsg.none_,false):=by simp[handSend,h]
theorem send_other {a:Hand} (h:a.ok=true) (h3: ¬a.phase=3) (h1: ¬a.phase=1):handSend a s=(⟨a.phase,a.lo,a.from_,a.epoch,Shard.none_⟩,true):=by
 have h3':(a.phase==3)=false:=by simpa using h3
 have h1':(a.phase==1)=false:=by simpa using h1
 simp[handSend,h,h1',h3']
theorem send_none {a:Hand} (h1:a.phase=1) (h2:(exportShard s a.lo).2=false):handSend a s=(HandMsg.none_,false):=by simp[handSend,h1,h2]
theorem send_old {a:Hand} (h1:a.phase=1) (h2: ¬(exportShard s a.lo).1.epoch=a.epoch):handSend a s=(HandMsg.none_,false):=by
 have h2':((exportShard s a.lo).1.epoch==a.epoch)=false:=by simpa using h2
 simp[handSend,h1,h2']
theorem send_yes {a:Hand} (h:a.ok=true) (h1:a.phase=1) (h2:(exportShard s a.lo).2=true) (h3:(exportShard s a.lo).1.epoch=a.epoch):handSend a s=(⟨1,a.lo,a.to,a.epoch+1,(exportShard s a.lo).1⟩,true):=by simp[handSend,h,h1,h2,h3]
set_option maxHeartbeats 1000000 in
theorem handSend_c (k:KI F) (hI15:Has F tI15) (hL:Has F tLibslicesIndexFuncimplShardimplShard) (hf:h.floor≤h.next) (a:Hand) (v:Store.RI h cs s fp) (ok:s.Ok) (sm:s.Small):
 ∃cs' h' fq,call F Z 331 [.agg a.enc,.agg cs] h=some (.tup [.agg cs',.c (.bool (handSend a s).2)],h')∧On h h'∧HandMsg.RI h' cs' (handSend a s).1 fq∧Fre h fq:=by
 obtain ⟨l1,l2,l3⟩:=Store.lenI v
 have e1:=isHand_run (Z:=Z) k.i11 hI15 a.lo a.from_ a.to a.epoch a.phase h
 obtain ⟨cs1,h1,fq,e2,o2,v2,f2⟩:=ExportShard_c (Z:=Z) k hL hf v a.lo ok sm
 have e3:=fun h=>handEpoch_run (Z:=Z) hI15 a.lo a.from_ a.to a.epoch a.phase h
 have hw:=fun (hh:a.ok=true)=>Hand.ok_epoch hh
 rw[call_run F Z (hI15.lk (g:=331) rfl) _ _ rfl]
 simp only[Hand.enc]
 cases ha:a.ok with
 | false=>
   rw[show handOk a.lo a.from_ a.to a.epoch a.phase=false from ha] at e1
   rw[send_bad ha]
   simp only[rn,RO.dst,lk,drop,Nat.reduceBEq,Nat.reduceAdd,Nat.reduceLeDiff,↓reduceIte,reduceCtorEq,l1,l2,l3,e1]
   exact ⟨_,_,_,rfl,On.refl h,HandMsg.none_R h,Fre.nil h⟩
 | true=>
   rw[show handOk a.lo a.from_ a.to a.epoch a.phase=true from ha] at e1
   by_cases h3:a.phase=3
   ·rw[send_over h3]
    have h3t:(a.phase==3)=true:=by simpa using h3
    simp only[rn,RO.dst,lk,drop,Nat.reduceBEq,Nat.reduceAdd,Nat.reduceLeDiff,↓reduceIte,reduceCtorEq,l1,l2,l3,e1,h3t]
    exact ⟨_,_,_,rfl,On.refl h,HandMsg.none_R h,Fre.nil h⟩
   have h3':(a.phase==3)=false:=by simpa using h3
   by_cases h1:a.phase=1
   ·have h1':(a.phase==1)=true:=by simpa using h1
    obtain ⟨m1,m2,m3⟩:=Shard.lenI v2
    have e3': ∀h,call F Z 132 [.agg [.int .u64 a.lo,.int .i64 a.from_,.int .i64 a.to,.int .i64 a.epoch,.int .i64 a.phase]] h=some (.c (.int .i64 (a.epoch+1)),h):=fun h=>by rw[e3 h];simp only[handEp];rw[if_pos h1,hw ha]
    cases hx:(exportShard s a.lo).2 with
    | false=>
      rw[hx] at e2
      rw[send_none h1 hx]
      simp only[rn,RO.dst,lk,drop,Nat.reduceBEq,Nat.reduceAdd,Nat.reduceLeDiff,↓reduceIte,reduceCtorEq,l1,l2,l3,e1,h3',h1',e3',e2,m1,m2,m3]
      exact ⟨_,_,_,rfl,o2,HandMsg.none_R _,Fre.nil h⟩
    | true=>
      rw[hx] at e2
      have v2':=v2
      obtain ⟨x1,p1,x2,p2,rfl,hq,w1,w2⟩:=v2'
      by_cases h4:(exportShard s a.lo).1.epoch=a.epoch
      ·have h4':((exportShard s a.lo).1.epoch !=a.epoch)=false:=by simpa using h4
       rw[send_yes ha h1 hx h4]
       simp only[rn,RO.dst,lk,drop,Nat.reduceBEq,Nat.reduceAdd,Nat.reduceLeDiff,↓reduceIte,reduceCtorEq,l1,l2,l3,e1,h3',h1',e3',e2,h4']
       rw[h1]
       exact ⟨_,_,_,rfl,o2,⟨x1,p1,x2,p2,rfl,hq,w1,w2⟩,f2⟩
      ·have h4':((exportShard s a.lo).1.epoch !=a.epoch)=true:=by simpa using h4
       rw[send_old h1 h4]
       simp only[rn,RO.dst,lk,drop,Nat.reduceBEq,Nat.reduceAdd,Nat.reduceLeDiff,↓reduceIte,reduceCtorEq,l1,l2,l3,e1,h3',h1',e3',e2,h4']
       exact ⟨_,_,_,rfl,o2,HandMsg.none_R _,Fre.nil h⟩
   ·have h1':(a.phase==1)=false:=by simpa using h1
    have e3': ∀h,call F Z 132 [.agg [.int .u64 a.lo,.int .i64 a.from_,.int .i64 a.to,.int .i64 a.epoch,.int .i64 a.phase]] h=some (.c (.int .i64 a.epoch),h):=fun h=>by rw[e3 h];simp only[handEp];rw[if_neg h1]
    rw[send_other ha h3 h1]
    simp only[rn,RO.dst,lk,drop,Nat.reduceBEq,Nat.reduceAdd,Nat.reduceLeDiff,↓reduceIte,reduceCtorEq,l1,l2,l3,e1,h3',h1',e3']
    exact ⟨_,_,_,rfl,On.refl h,⟨.nil,[],.nil,[],rfl,rfl,SlR.nil _ _ _,SlR.nil _ _ _⟩,Fre.nil h⟩
theorem HandSend_c (k:KI F) (hI15:Has F tI15) (hL:Has F tLibslicesIndexFuncimplShardimplShard) (hf:h.floor≤h.next) (a:Hand) (v:Store.RI h cs s fp) (ok:s.Ok) (sm:s.Small):
 ∃cs' h' fq,call F Z 304 [.agg a.enc,.agg cs] h=some (.tup [.agg cs',.c (.bool (handSend a s).2)],h')∧On h h'∧HandMsg.RI h' cs' (handSend a s).1 fq∧Fre h fq:=by
 obtain ⟨l1,l2,l3⟩:=Store.lenI v
 obtain ⟨cs1,h1,fq,e,o,u,f⟩:=handSend_c (Z:=Z) k hI15 hL hf a v ok sm
 obtain ⟨m1,m2,m3⟩:=HandMsg.lenI u
 rw[call_run F Z (hI15.lk (g:=304) rfl) _ _ rfl]
 simp only[Hand.enc] at e ⊢
 simp only[rn,RO.dst,lk,drop,Nat.reduceBEq,Nat.reduceAdd,Nat.reduceLeDiff,↓reduceIte,reduceCtorEq,l1,l2,l3,e,m1,m2,m3]
 exact ⟨_,_,_,rfl,o,u,f⟩
set_option maxHeartbeats 1000000 in
theorem sHandSend_c (k:KS F) (hS15:Has F tS15) (hf:h.floor≤h.next) (a:Hand) (v:Store.RI h cs s fp) (ok:s.Ok) (sm:s.Small):
 ∃cs' h' fq,call F Z 303 [.agg a.enc,.agg cs] h=some (.tup [.agg cs',.c (.bool (handSend a s).2)],h')∧On h h'∧HandMsg.RI h' cs' (handSend a s).1 fq∧Fre h fq:=by
 obtain ⟨l1,l2,l3⟩:=Store.lenI v
 have e1:=sHandOk_run (Z:=Z) k.s01 hS15 a.lo a.from_ a.to a.epoch a.phase h
 obtain ⟨cs1,h1,fq,e2,o2,v2,f2⟩:=sExportShard_c (Z:=Z) k hf v a.lo ok sm
 have hw:=fun (hh:a.ok=true)=>Hand.ok_epoch hh
 rw[call_run F Z (hS15.lk (g:=303) rfl) _ _ rfl]
 simp only[Hand.enc]
 cases ha:a.ok with
 | false=>
   rw[show handOk a.lo a.from_ a.to a.epoch a.phase=false from ha] at e1
   rw[send_bad ha]
   simp only[rn,RO.dst,lk,drop,Nat.reduceBEq,Nat.reduceAdd,Nat.reduceLeDiff,↓reduceIte,reduceCtorEq,l1,l2,l3,e1]
   exact ⟨_,_,_,rfl,On.refl h,HandMsg.none_R h,Fre.nil h⟩
 | true=>
   rw[show handOk a.lo a.from_ a.to a.epoch a.phase=true from ha] at e1
   by_cases h3:a.phase=3
   ·rw[send_over h3]
    have h3t:(a.phase==3)=true:=by simpa using h3
    simp only[rn,RO.dst,lk,drop,Nat.reduceBEq,Nat.reduceAdd,Nat.reduceLeDiff,↓reduceIte,reduceCtorEq,l1,l2,l3,e1,h3t]
    exact ⟨_,_,_,rfl,On.refl h,HandMsg.none_R h,Fre.nil h⟩
   have h3':(a.phase==3)=false:=by simpa using h3
   by_cases h1:a.phase=1
   ·have h1':(a.phase==1)=true:=by simpa using h1
    obtain ⟨m1,m2,m3⟩:=Shard.lenI v2
    cases hx:(exportShard s a.lo).2 with
    | false=>
      rw[hx] at e2
      rw[send_none h1 hx]
      simp only[rn,RO.dst,lk,drop,Nat.reduceBEq,Nat.reduceAdd,Nat.reduceLeDiff,↓reduceIte,reduceCtorEq,l1,l2,l3,e1,h3',h1',e2,m1,m2,m3]
      exact ⟨_,_,_,rfl,o2,HandMsg.none_R _,Fre.nil h⟩
    | true=>
      rw[hx] at e2
      have v2':=v2
      obtain ⟨x1,p1,x2,p2,rfl,hq,w1,w2⟩:=v2'
      by_cases h4:(exportShard s a.lo).1.epoch=a.epoch
      ·have h4':((exportShard s a.lo).1.epoch !=a.epoch)=false:=by simpa using h4
       rw[send_yes ha h1 hx h4]
       simp only[rn,RO.dst,lk,drop,Nat.reduceBEq,Nat.reduceAdd,Nat.reduceLeDiff,↓reduceIte,reduceCtorEq,l1,l2,l3,e1,h3',h1',e2,h4',hw ha]
       rw[h1]
       exact ⟨_,_,_,rfl,o2,⟨x1,p1,x2,p2,rfl,hq,w1,w2⟩,f2⟩
      ·have h4':((exportShard s a.lo).1.epoch !=a.epoch)=true:=by simpa using h4
       rw[send_old h1 h4]
       simp only[rn,RO.dst,lk,drop,Nat.reduceBEq,Nat.reduceAdd,Nat.reduceLeDiff,↓reduceIte,reduceCtorEq,l1,l2,l3,e1,h3',h1',e2,h4']
       exact ⟨_,_,_,rfl,o2,HandMsg.none_R _,Fre.nil h⟩
   ·have h1':(a.phase==1)=false:=by simpa using h1
    rw[send_other ha h3 h1]
    simp only[rn,RO.dst,lk,drop,Nat.reduceBEq,Nat.reduceAdd,Nat.reduceLeDiff,↓reduceIte,reduceCtorEq,l1,l2,l3,e1,h3',h1']
    exact ⟨_,_,_,rfl,On.refl h,⟨.nil,[],.nil,[],rfl,rfl,SlR.nil _ _ _,SlR.nil _ _ _⟩,Fre.nil h⟩
end
end Go.Proofs.Yteagcdhkobeanaa.A
namespace Go.Proofs.Yteagcdhkobeanaa.A
open Go
set_option linter.unusedSimpArgs false
set_option linter.unusedVariables false
def sumI {α:Type} (f:α→Int):List α→Int
 | []=>0
 | a::r=>f a+sumI f r
section
variable {α:Type} (f:α→Int)
theorem sumI_app: ∀(xs ys:List α),sumI f (xs++ys)=sumI f xs+sumI f ys
 | [],ys=>by simp[sumI]
 | a::r,ys=>by
   simp only[List.cons_append,sumI,sumI_app r ys];omega
theorem sumI_take (xs:List α) {i:Nat} (hi:i<xs.length):sumI f (xs.take (i+1))=sumI f (xs.take i)+f xs[i]:=by
 rw[List.take_add_one,List.getElem?_eq_getElem hi,sumI_app]
 simp[sumI]
theorem sumI_le {m:Int}: ∀(xs:List α),(∀a,a∈xs→0≤f a∧f a≤m)→0≤sumI f xs∧sumI f xs≤m*xs.length
 | [],_=>by simp[sumI]
 | a::r,h=>by
   have h1:=h a (by simp)
   have h2:=sumI_le r fun b hb=>h b (by simp[hb])
   simp only[sumI,List.length_cons]
   constructor
   ·omega
   ·rw[Int.natCast_add,Int.mul_add]
    simp only[Int.natCast_one,Int.mul_one]
    omega
end
section
variable {F:Nat→Option RF} {Z:CallF} {h:Heap} {x:Cell} {xs:List Account} {fp:List Nat}
end
end Go.Proofs.Yteagcdhkobeanaa.A
namespace Go.Proofs.Yteagcdhkobeanaa.A
open Go
set_option linter.unusedSimpArgs false
set_option linter.unusedVariables false
def Shard.mark1 (t:Shard) (k:Int):Shard:=⟨k,k+1,k+2,k+3,⟨Account.marks t.book.list.length (k+4)⟩,Fin.marks t.finished.length (k+4+5*(t.book.list.length:Nat))⟩
def Shard.wt1 (t:Shard):Int:=4+5*((t.book.list.length:Nat):Int)+2*((t.finished.length:Nat):Int)
def Shard.marksS:List Shard→Int→List Shard
 | [],_=>[]
 | t::r,k=>t.mark1 k::Shard.marksS r (k+t.wt1)
theorem Shard.wt1_nn (t:Shard):0≤t.wt1:=by simp only[wt1];omega
theorem Shard.marksS_len: ∀(xs:List Shard) (k:Int),(Shard.marksS xs k).length=xs.length
 | [],_=>rfl
 | t::r,k=>by simp only[Shard.marksS,List.length_cons,Shard.marksS_len r]
theorem Shard.marksS_app: ∀(xs ys:List Shard) (k:Int),Shard.marksS (xs++ys) k=Shard.marksS xs k++Shard.marksS ys (k+sumI Shard.wt1 xs)
 | [],ys,k=>by simp[Shard.marksS,sumI]
 | t::r,ys,k=>by
   simp only[List.cons_append,Shard.marksS,Shard.marksS_app r ys,sumI,Int.add_assoc]
theorem Shard.mark_step {xs:List Shard} {i:Nat} (hi:i<xs.length) (k:Int):
 (Shard.marksS (xs.take i) k++xs.drop i).set i (xs[i].mark1 (k+sumI Shard.wt1 (xs.take i)))=Shard.marksS (xs.take (i+1)) k++xs.drop (i+1):=by
 have hl:(Shard.marksS (xs.take i) k).length=i:=by rw[Shard.marksS_len,List.length_take];omega
 rw[List.set_append_right _ _ (by omega),hl,Nat.sub_self,List.drop_eq_getElem_cons hi,List.set_cons_zero,List.take_add_one,List.getElem?_eq_getElem hi,Shard.marksS_app]
 simp[Shard.marksS]
theorem Shard.mark_at {xs:List Shard} {i:Nat} (hi:i<xs.length) (k:Int) (h:i<(Shard.marksS (xs.take i) k++xs.drop i).length):(Shard.marksS (xs.take i) k++xs.drop i)[i]=xs[i]:=by
 have hl:(Shard.marksS (xs.take i) k).length=i:=by rw[Shard.marksS_len,List.length_take];omega
 rw[List.getElem_append_right (by omega)]
 simp[hl]
section
variable {F:Nat→Option RF} {Z:CallF} {h:Heap} {x:Cell} {xs:List Shard} {fp:List Nat}
set_option maxHeartbeats 2000000 in
theorem markShardS_turn (hLShard:Has F tLShard) (hLAccount:Has F tLAccount) (hLFin:Has F tLFin) {ys:List Shard} {g:Heap} (w:SlR 16 Shard.RI g x ys fp) (nd:fp.Nodup) (hlo: ∀id,id∈fp→g.floor≤id) {i:Nat} (hi:i<ys.length) (k:Int) (h1:0≤k) (h2:k+ys[i].wt1≤9200000000000000000):
 ∃g',loop F Z [0,1,5] r230L0 ⟨[(0,.c x),(1,.c (.int .i64 k)),(5,.c (.int .i64 (i:Nat)))],[],[],g⟩=loop F Z [0,1,5] r230L0 ⟨[(0,.c x),(1,.c (.int .i64 (k+ys[i].wt1))),(5,.c (.int .i64 ((i+1:Nat):Int)))],[],[],g'⟩∧
  Mk g g' fp∧SlR 16 Shard.RI g' x (ys.set i (ys[i].mark1 k)) fp:=by
 have hle:=w.le2
 have hlt:(i:Int)<ys.length:=by omega
 have hws:=wrapS i (by omega)
 have hwl:=w.len
 have hxi:=w.idx hi
 obtain ⟨r,f,rows,hR,hin,nf,hs,hns,hsl,hg,hr,hir,fin⟩:=w.turn Shard.okI nd hi
 have hput:=storeP_put (h:=g) (hlo _ hs) hir
 have he:=put_row hg hr
 simp only[Shard.wt1] at h2 ⊢
 clear w
 generalize ys[i]=a at *
 obtain ⟨x1,p1,x2,p2,rfl,rfl,w1,w2⟩:=hR
 obtain ⟨nd1,nd2,nd3⟩:=List.nodup_append.1 nf
 generalize hg4:g.put x.sid (rows.set i [.int .u64 k,.int .u64 (k+1),.int .i64 (k+2),.int .i64 (k+3),x1,x2])=g4
 have m4:Mk g g4 [x.sid]:=by rw[←hg4];exact Mk.put _ _ _
 have l4: ∀j n,loadP g4 x.sid i j n=cut? [.int .u64 k,.int .u64 (k+1),.int .i64 (k+2),.int .i64 (k+3),x1,x2] j n:=by rw[←hg4];exact loadP_put hir _
 have s1: ∀id,id∈p1→id∉[x.sid]:=fun id hid hc=>hns (by rw[List.mem_singleton] at hc;rw[←hc];simp[hid])
 have s2: ∀id,id∈p2→id∉[x.sid]:=fun id hid hc=>hns (by rw[List.mem_singleton] at hc;rw[←hc];simp[hid])
 have w1':=w1.mk (Fl.ok _) m4 s1
 have w2':=w2.mk (Fl.ok _) m4 s2
 obtain ⟨g5,e5,m5,u1⟩:=markAccountS_run (Z:=Z) hLAccount w1' (fun id hid=>by rw[m4.fl];exact hlo id (hin id (by simp[hid]))) (k+4) (by omega) (by omega)
 have w2'':=w2'.mk (Fl.ok _) m5 (fun id h1 h2=>nd3 id h2 id h1 rfl)
 have get5:g5.get x.sid=g4.get x.sid:=m5.get _ fun hc=>hns (by simp[hc])
 have l5: ∀j n,loadP g5 x.sid i j n=cut? [.int .u64 k,.int .u64 (k+1),.int .i64 (k+2),.int .i64 (k+3),x1,x2] j n:=fun j n=>by rw[←l4];simp only[loadP,rowOf,get5]
 obtain ⟨g6,e6,m6,u2⟩:=markFinS_run (Z:=Z) hLFin w2'' (fun id hid=>by rw[m5.fl,m4.fl];exact hlo id (hin id (by simp[hid]))) (k+4+5*(a.book.list.length:Nat)) (by omega) (by omega)
 have u1':=u1.mk (Fl.ok _) m6 (fun id h1 h2=>nd3 id h1 id h2 rfl)
 have get6:g6.get x.sid=g4.get x.sid:=(m6.get _ fun hc=>hns (by simp[hc])).trans get5
 refine ⟨g6,?_,⟨by rw[m6.next,m5.next,m4.next],by rw[m6.fl,m5.fl,m4.fl],fun id hid=> ?_⟩,?_⟩
 ·rw[loop_run]
  conv in (codeF _ _ r230L0 _)=>unfold r230L0
  rw[←he]
  have hw1:=wrapI1 k (by omega) (by omega)
  have hw2:IntKind.i64.wrap (k+1+1)=k+2:=by rw[wrapI _ (by omega) (by omega)];omega
  have hw3:IntKind.i64.wrap (k+2+1)=k+3:=by rw[wrapI _ (by omega) (by omega)];omega
  have hw4:IntKind.i64.wrap (k+3+1)=k+4:=by rw[wrapI _ (by omega) (by omega)];omega
  have hu1:=wrapU1 k (by omega) (by omega)
  have hu2:=wrapU1 (k+1) (by omega) (by omega)
  simp only[rn,RO.dst,lk,drop,Nat.reduceBEq,Nat.reduceAdd,Nat.reduceLeDiff,↓reduceIte,reduceCtorEq,hwl,hlt,hxi,hput,putM_s,hw1,hw2,hw3,hw4,hu1,hu2,hg4,l4,e5,l5,e6,hws]
  rw[show k+(4+5*((a.book.list.length:Nat):Int)+2*((a.finished.length:Nat):Int))=k+4+5*(a.book.list.length:Nat)+2*(a.finished.length:Nat) from by omega]
 ·rw[m6.get id (fun hc=>hid (hin id (by simp[hc]))),m5.get id (fun hc=>hid (hin id (by simp[hc]))),m4.get id (fun hc=>hid (by rw[List.mem_singleton] at hc;rw[hc];exact hs))]
 ·refine fin g6 [.int .u64 k,.int .u64 (k+1),.int .i64 (k+2),.int .i64 (k+3),x1,x2] _ (by rw[m6.next,m5.next,m4.next];exact Nat.le_refl _) (fun id hid h3 h4=> ?_) (by rw[get6,←hg4];simp[Heap.put]) ⟨x1,p1,x2,p2,rfl,rfl,u1',u2⟩
  rw[m6.get id (fun hc=>h4 (by simp[hc])),m5.get id (fun hc=>h4 (by simp[hc])),m4.get id (by simpa using h3)]
theorem markShardS_r (hLShard:Has F tLShard) (hLAccount:Has F tLAccount) (hLFin:Has F tLFin) (w:SlR 16 Shard.RI h x xs fp) (nd:fp.Nodup) (hlo: ∀id,id∈fp→h.floor≤id) (k:Int) (h1:0≤k) (h2:k+sumI Shard.wt1 xs≤9200000000000000000):
 ∃h',call F Z 230 [.c x,.c (.int .i64 k)] h=some (.c (.int .i64 (k+sumI Shard.wt1 xs)),h')∧Mk h h' fp∧SlR 16 Shard.RI h' x (Shard.marksS xs k) fp:=by
 have hle:=w.le2
 have hnn: ∀i,0≤sumI Shard.wt1 (xs.take i):=fun i=>by
  have: ∀ys:List Shard,0≤sumI Shard.wt1 ys:=fun ys=>by
   induction ys with
   | nil=>simp[sumI]
   | cons a r ih=>have:=a.wt1_nn;simp only[sumI];omega
  exact this _
 have hpre: ∀i,sumI Shard.wt1 (xs.take i)≤sumI Shard.wt1 xs:=fun i=>by
  have e:=sumI_app Shard.wt1 (xs.take i) (xs.drop i)
  rw[List.take_append_drop] at e
  have: ∀ys:List Shard,0≤sumI Shard.wt1 ys:=fun ys=>by
   induction ys with
   | nil=>simp[sumI]
   | cons a r ih=>have:=a.wt1_nn;simp only[sumI];omega
  have:=this (xs.drop i)
  omega
 rw[call_run F Z (hLShard.lk (g:=230) rfl) _ _ rfl]
 simp only[rn,RO.dst,lk,drop,Nat.reduceBEq,Nat.reduceAdd,Nat.reduceLeDiff,↓reduceIte,reduceCtorEq]
 obtain ⟨s',⟨g,hs,m,u⟩,l1⟩:=loop_goes (F:=F) (Z:=Z) (live:=[0,1,5]) (b:=r230L0) xs.length (fun i s=> ∃g,s=⟨[(0,.c x),(1,.c (.int .i64 (k+sumI Shard.wt1 (xs.take i)))),(5,.c (.int .i64 (i:Nat)))],[],[],g⟩∧Mk h g fp∧SlR 16 Shard.RI g x (Shard.marksS (xs.take i) k++xs.drop i) fp) (fun i s hi ⟨g,hs,m,u⟩=>by
  subst hs
  have hi':i<(Shard.marksS (xs.take i) k++xs.drop i).length:=by rw[List.length_append,Shard.marksS_len,List.length_take,List.length_drop];omega
  have e:=Shard.mark_at hi k hi'
  have hst:=sumI_take Shard.wt1 xs hi
  have hp:=hpre (i+1)
  have h0:=hnn i
  obtain ⟨g',e1,m1,u1⟩:=markShardS_turn (Z:=Z) hLShard hLAccount hLFin u nd (fun id hid=>by rw[m.fl];exact hlo id hid) hi' (k+sumI Shard.wt1 (xs.take i)) (by omega) (by rw[e];omega)
  rw[e,Shard.mark_step hi] at u1
  rw[e] at e1
  refine ⟨_,⟨g',rfl,⟨m1.next.trans m.next,m1.fl.trans m.fl,fun id hid=>(m1.get id hid).trans (m.get id hid)⟩,u1⟩,?_⟩
  rw[e1,hst,Int.add_assoc]) (s:=⟨[(0,.c x),(1,.c (.int .i64 k)),(5,.c (.int .i64 (0:Nat)))],[],[],h⟩) ⟨h,by simp[sumI],Mk.refl _ _,by simpa[Shard.marksS] using w⟩
 subst hs
 simp only[show ((0:Nat):Int)=0 from rfl,List.take_length] at l1
 simp only[List.take_length,List.drop_length,List.append_nil] at u
 rw[l1,loop_run]
 conv in (codeF _ _ r230L0 _)=>unfold r230L0
 have hlt: ¬(xs.length:Int)<xs.length:=by omega
 have hl:=u.len
 rw[Shard.marksS_len] at hl
 simp only[rn,RO.dst,lk,drop,Nat.reduceBEq,Nat.reduceAdd,Nat.reduceLeDiff,↓reduceIte,reduceCtorEq,hl,hlt]
 exact ⟨g,rfl,m,u⟩
end
namespace Store
def wt (s:Store):Int:=sumI Shard.wt1 s.shards
def marked (s:Store) (k:Int):Store:={s with shards:=Shard.marksS s.shards k}
end Store
theorem Store.wt_nn (s:Store):0≤s.wt:=by
 have: ∀ys:List Shard,0≤sumI Shard.wt1 ys:=fun ys=>by
  induction ys with
  | nil=>simp[sumI]
  | cons a r ih=>have:=a.wt1_nn;simp only[sumI];omega
 exact this _
theorem Store.wt_le {s:Store} (sm:s.Small):s.wt≤8000000000000:=by
 obtain ⟨h1,h2⟩:=sm
 have h3:=sumI_le Shard.wt1 (m:=7340036) s.shards fun a ha=>by
  obtain ⟨b1,b2⟩:=h2 a ha
  have b1':a.book.list.length≤1048576:=b1
  have:=a.wt1_nn
  refine ⟨this,?_⟩
  simp only[Shard.wt1];omega
 have:s.wt=sumI Shard.wt1 s.shards:=rfl
 omega
section
variable {F:Nat→Option RF} {Z:CallF} {h:Heap} {cs:List Cell} {t:Store} {fp:List Nat}
theorem markStore_r (hLStore:Has F tLStore) (hLShard:Has F tLShard) (hLBook:Has F tLBook) (hLAccount:Has F tLAccount) (hLFin:Has F tLFin) (v:Store.RI h cs t fp) (nd:fp.Nodup) (hlo: ∀id,id∈fp→h.floor≤id) (k:Int) (h1:0≤k) (h2:k+t.wt≤9200000000000000000):
 ∃h',call F Z 191 [.agg cs,.c (.int .i64 k)] h=some (.c (.int .i64 (k+t.wt)),h')∧Mk h h' fp∧Store.RI h' cs (t.marked k) fp:=by
 obtain ⟨x,p,rfl,rfl,w⟩:=v
 obtain ⟨g,e,m,u⟩:=markShardS_r (Z:=Z) hLShard hLAccount hLFin w nd hlo k h1 h2
 rw[call_run F Z (hLStore.lk (g:=191) rfl) _ _ rfl]
 simp only[rn,RO.dst,lk,drop,Nat.reduceBEq,Nat.reduceAdd,Nat.reduceLeDiff,↓reduceIte,reduceCtorEq,e]
 exact ⟨g,rfl,m,⟨x,_,rfl,rfl,u⟩⟩
end
end Go.Proofs.Yteagcdhkobeanaa.A
namespace Go.Proofs.Yteagcdhkobeanaa.A
open Go
set_option linter.unusedSimpArgs false
set_option linter.unusedVariables false
def Store.zeroC:List Cell:=[.int .i64 0,.int .i64 0,.nil]
section
variable {F:Nat→Option RF} {Z:CallF} {h:Heap} {x y:Cell} {xs ys:List Store} {fp fq:List Nat}
end
end Go.Proofs.Yteagcdhkobeanaa.A
namespace Go.Proofs.Yteagcdhkobeanaa.A
open Go
set_option linter.unusedSimpArgs false
set_option linter.unusedVariables false
theorem Shard.sum_nn: ∀xs:List Shard,0≤sumI Shard.wt1 xs
 | []=>by simp[sumI]
 | a::r=>by have:=a.wt1_nn;have:=Shard.sum_nn r;simp only[sumI];omega
section
variable {F:Nat→Option RF} {Z:CallF} {h:Heap} {x:Cell} {xs:List Shard} {fp:List Nat}
end
section
variable {F:Nat→Option RF} {Z:CallF} {h:Heap} {cs:List Cell} {t:Store} {fp:List Nat}
end
def Store.mark1 (t:Store) (k:Int):Store:=⟨k,k+1,Shard.marksS t.shards (k+2)⟩
def Store.wt1 (t:Store):Int:=2+sumI Shard.wt1 t.shards
def Store.marksS:List Store→Int→List Store
 | [],_=>[]
 | t::r,k=>t.mark1 k::Store.marksS r (k+t.wt1)
theorem Store.wt1_nn (t:Store):0≤t.wt1:=by have:=Shard.sum_nn t.shards;simp only[wt1];omega
theorem Store.sum_nn: ∀xs:List Store,0≤sumI Store.wt1 xs
 | []=>by simp[sumI]
 | a::r=>by have:=a.wt1_nn;have:=Store.sum_nn r;simp only[sumI];omega
theorem Store.marksS_len: ∀(xs:List Store) (k:Int),(Store.marksS xs k).length=xs.length
 | [],_=>rfl
 | t::r,k=>by simp only[Store.marksS,List.length_cons,Store.marksS_len r]
theorem Store.marksS_app: ∀(xs ys:List Store) (k:Int),Store.marksS (xs++ys) k=Store.marksS xs k++Store.marksS ys (k+sumI Store.wt1 xs)
 | [],ys,k=>by simp[Store.marksS,sumI]
 | t::r,ys,k=>by
   simp only[List.cons_append,Store.marksS,Store.marksS_app r ys,sumI,Int.add_assoc]
theorem Store.mark_step {xs:List Store} {i:Nat} (hi:i<xs.length) (k:Int):
 (Store.marksS (xs.take i) k++xs.drop i).set i (xs[i].mark1 (k+sumI Store.wt1 (xs.take i)))=Store.marksS (xs.take (i+1)) k++xs.drop (i+1):=by
 have hl:(Store.marksS (xs.take i) k).length=i:=by rw[Store.marksS_len,List.length_take];omega
 rw[List.set_append_right _ _ (by omega),hl,Nat.sub_self,List.drop_eq_getElem_cons hi,List.set_cons_zero,List.take_add_one,List.getElem?_eq_getElem hi,Store.marksS_app]
 simp[Store.marksS]
theorem Store.mark_at {xs:List Store} {i:Nat} (hi:i<xs.length) (k:Int) (h:i<(Store.marksS (xs.take i) k++xs.drop i).length):(Store.marksS (xs.take i) k++xs.drop i)[i]=xs[i]:=by
 have hl:(Store.marksS (xs.take i) k).length=i:=by rw[Store.marksS_len,List.length_take];omega
 rw[List.getElem_append_right (by omega)]
 simp[hl]
section
variable {F:Nat→Option RF} {Z:CallF} {h:Heap} {x:Cell} {xs:List Store} {fp:List Nat}
end
end Go.Proofs.Yteagcdhkobeanaa.A
