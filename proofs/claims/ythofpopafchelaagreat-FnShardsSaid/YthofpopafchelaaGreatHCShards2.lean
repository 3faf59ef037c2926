/- The functions that the statement reaches, part 2: bodies and what they compute. No condition. -/
import Derived.Test.YthofpopafchelaaGreatHCShards1
import Derived.Test.YthofpopafchelaaGreatZ6
import Derived.Test.YthofpopafchelaaGreatB9
import Derived.Test.YthofpopafchelaaGreatD
namespace Go.Proofs.YthofpopafchelaaGreat.A
open Go
set_option linter.unusedSimpArgs false
set_option linter.unusedVariables false
section
variable {F:Nat→Option RF} {Z:CallF} {h:Heap} {k:Nat} {x y:Cell} {code:List Int} {xs:List Int} {fp:List Nat}
theorem l01Once_c (hS:Has F tS01d) (c:Cur h k x code) (n:Int): ∃b h',call F Z 240 [.c (.ptr k 0 0),.c (.int .i64 n)] h=some (.c (.bool b),h')∧Mk h h' [k]∧Cur h' k x code:=by
 obtain ⟨r,h1,e1,_,_,_,m1,c1⟩:=l01Below_c (Z:=Z) hS c n
 rw[call_run F Z (hS.lk (g:=240) rfl) _ _ rfl]
 simp only[rn,RO.dst,lk,drop,Nat.reduceBEq,Nat.reduceAdd,Nat.reduceLeDiff,↓reduceIte,reduceCtorEq,e1]
 exact ⟨_,_,rfl,m1,c1⟩
theorem l01PickInt_c (hS:Has F tS01d) (c:Cur h k x code) (w:SlR 15 (Fl int_enc) h y xs fp) (hk:k∉fp) (hx:0<xs.length):
 ∃r h',call F Z 239 [.c (.ptr k 0 0),.c y] h=some (.c (.int .i64 r),h')∧r∈xs∧Mk h h' [k]∧Cur h' k x code:=by
 obtain ⟨r,h1,e1,r0,rnn,_,m1,c1⟩:=l01Below_c (Z:=Z) hS c (xs.length:Int)
 have hlt:=rnn (by omega)
 obtain ⟨j,rfl⟩: ∃j:Nat,r=(j:Int):=⟨r.toNat,by omega⟩
 have hj:j<xs.length:=by omega
 have w1:=w.dr (Fl.ok _) m1.dr hk
 have hi:=w.idx hj
 have hl:=w1.load hj
 rw[call_run F Z (hS.lk (g:=239) rfl) _ _ rfl]
 simp only[rn,RO.dst,lk,drop,Nat.reduceBEq,Nat.reduceAdd,Nat.reduceLeDiff,↓reduceIte,reduceCtorEq,w.len,e1,hi,hl,int_enc]
 exact ⟨_,_,rfl,List.getElem_mem hj,m1,c1⟩
theorem l01Size_c (hS:Has F tS01d) (w:Vw 19 byte_enc h x code) (most:Int) (hm:2≤most): ∃r,call F Z 238 [.c x,.c (.int .i64 most)] h=some (.c (.int .i64 r),h)∧2≤r∧r≤most:=by
 have hle:=w.le2
 have hq:(code.length:Int).tdiv 16=((code.length / 16:Nat):Int):=by rw[Int.tdiv_eq_ediv_of_nonneg (by omega)];omega
 have h1:IntKind.i64.wrap ((code.length / 16:Nat):Int)=((code.length / 16:Nat):Int):=wrapI _ (by omega) (by omega)
 have h2:IntKind.i64.wrap (2+((code.length / 16:Nat):Int))=2+((code.length / 16:Nat):Int):=wrapI _ (by omega) (by omega)
 have hb:=b_quo .i64 (code.length:Int) 16 (by omega)
 rw[hq,h1] at hb
 rw[call_run F Z (hS.lk (g:=238) rfl) _ _ rfl]
 by_cases hgt:2+((code.length / 16:Nat):Int)>most
 ·simp only[rn,RO.dst,lk,drop,Nat.reduceBEq,Nat.reduceAdd,Nat.reduceLeDiff,↓reduceIte,reduceCtorEq,w.len,hb,h2,hgt]
  exact ⟨_,rfl,hm,by omega⟩
 ·simp only[rn,RO.dst,lk,drop,Nat.reduceBEq,Nat.reduceAdd,Nat.reduceLeDiff,↓reduceIte,reduceCtorEq,w.len,hb,h2,hgt]
  exact ⟨_,rfl,by omega,by omega⟩
theorem l01New_c (hS:Has F tS01d) (hf:h.floor≤h.next) (w:Vw 19 byte_enc h x code): ∃h',call F Z 194 [.c x] h=some (.c (.ptr h.next 0 0),h')∧On h h'∧Cur h' h.next x code:=by
 have hle:=w.le2
 rw[call_run F Z (hS.lk (g:=194) rfl) _ _ rfl]
 simp only[rn,RO.dst,lk,drop,Nat.reduceBEq,Nat.reduceAdd,Nat.reduceLeDiff,↓reduceIte,reduceCtorEq,w.len]
 have key:=loop_goes (F:=F) (Z:=Z) (live:=[0,3,4]) (b:=r194L0) (min code.length 4000) (fun i s=> ∃hh:Int,s=⟨[(0,.c x),(3,.c (.int .i64 hh)),(4,.c (.int .i64 (i:Nat)))],[],[],h⟩) (fun i s hi ⟨hh,hs⟩=>by
  subst hs
  have hlt:(i:Int)<code.length:=by omega
  have h4:(i:Int)<4000:=by omega
  have hid:=w.idx (i:=i) (by omega)
  have hld:=w.load (i:=i) (by omega)
  have hws:=wrapS i (by omega)
  refine ⟨?aa,?pp,?ee⟩
  case ee=>
   rw[loop_run]
   conv in (codeF _ _ r194L0 _)=>unfold r194L0
   simp only[rn,RO.dst,lk,drop,Nat.reduceBEq,Nat.reduceAdd,Nat.reduceLeDiff,↓reduceIte,reduceCtorEq,w.len,hlt,h4,hid,hld,byte_enc,b_and,hws]
   rfl
  case pp=>exact ⟨_,rfl⟩) (s:=⟨[(0,.c x),(3,.c (.int .i64 (IntKind.i64.wrap (138138+(code.length:Nat))))),(4,.c (.int .i64 ((0:Nat):Int)))],[],[],h⟩) ⟨_,rfl⟩
 obtain ⟨s',⟨hh,rfl⟩,e⟩:=key
 simp only[show ((0:Nat):Int)=0 from rfl] at e
 rw[e,loop_run]
 conv in (codeF _ _ r194L0 _)=>unfold r194L0
 have hcur:Cur (h.push [[x,.int .i64 0,.int .i64 hh]]) h.next x code:=by
  refine ⟨⟨hf,by simp[Heap.push]⟩,w.on (On.push _ _),?_,0,hh,by simp[Heap.push],by omega,by omega⟩
  rcases w with ⟨_,⟨rfl,_⟩ | ⟨id,off,rows,rfl,_,h3,_⟩⟩
  ·exact .inl rfl
  ·exact .inr (by simp[Cell.sid];omega)
 by_cases hc:code.length≤4000
 ·have hlt: ¬((min code.length 4000:Nat):Int)<code.length:=by omega
  simp only[rn,RO.dst,lk,drop,Nat.reduceBEq,Nat.reduceAdd,Nat.reduceLeDiff,↓reduceIte,reduceCtorEq,w.len,hlt]
  exact ⟨_,rfl,On.push _ _,hcur⟩
 ·have hlt:((min code.length 4000:Nat):Int)<code.length:=by omega
  have h4: ¬((min code.length 4000:Nat):Int)<4000:=by omega
  simp only[rn,RO.dst,lk,drop,Nat.reduceBEq,Nat.reduceAdd,Nat.reduceLeDiff,↓reduceIte,reduceCtorEq,w.len,hlt,h4]
  exact ⟨_,rfl,On.push _ _,hcur⟩
theorem wrapU_in (z:Int):0≤IntKind.u64.wrap z∧IntKind.u64.wrap z≤18446744073709551615:=by
 show 0≤(if (false&&decide (z%18446744073709551616≥9223372036854775808))=true then z%18446744073709551616-18446744073709551616 else z%18446744073709551616)∧(if (false&&decide (z%18446744073709551616≥9223372036854775808))=true then z%18446744073709551616-18446744073709551616 else z%18446744073709551616)≤_
 rw[if_neg (by simp)]
 omega
theorem shr_in {a:Int} (ha:0≤a∧a≤18446744073709551615) (b:Int):0≤shrI .u64 a b∧shrI .u64 a b≤18446744073709551615:=by
 unfold shrI
 generalize min b.toNat IntKind.u64.bits=n
 have hp:(0:Int)<2 ^ n:=Int.pow_pos (by omega)
 rw[Int.fdiv_eq_ediv_of_nonneg _ (Int.le_of_lt hp)]
 exact ⟨Int.ediv_nonneg ha.1 (Int.le_of_lt hp),Int.le_trans (Int.ediv_le_self _ ha.1) ha.2⟩
set_option maxHeartbeats 1000000 in
theorem l01Big_c (hS:Has F tS01d) (c:Cur h k x code): ∃r h',call F Z 264 [.c (.ptr k 0 0)] h=some (.c (.int .u64 r),h')∧(0≤r∧r≤18446744073709551615)∧Mk h h' [k]∧Cur h' k x code:=by
 obtain ⟨r1,h1,e1,r0,rnn,_,m1,c1⟩:=l01Below_c (Z:=Z) hS c 8
 rw[call_run F Z (hS.lk (g:=264) rfl) _ _ rfl]
 by_cases a0:r1=0
 ·simp only[rn,RO.dst,lk,drop,Nat.reduceBEq,Nat.reduceAdd,Nat.reduceLeDiff,↓reduceIte,reduceCtorEq,e1,show (r1==0)=true by simpa using a0]
  exact ⟨_,_,rfl,by omega,m1,c1⟩
 have b0:(r1==0)=false:=by simpa using a0
 by_cases a1:r1=1
 ·simp only[rn,RO.dst,lk,drop,Nat.reduceBEq,Nat.reduceAdd,Nat.reduceLeDiff,↓reduceIte,reduceCtorEq,e1,b0,show (r1==1)=true by simpa using a1]
  exact ⟨_,_,rfl,by omega,m1,c1⟩
 have b1:(r1==1)=false:=by simpa using a1
 by_cases a2:r1=2
 ·obtain ⟨r2,h2,e2,s0,sn,_,m2,c2⟩:=l01Below_c (Z:=Z) hS c1 300
  simp only[rn,RO.dst,lk,drop,Nat.reduceBEq,Nat.reduceAdd,Nat.reduceLeDiff,↓reduceIte,reduceCtorEq,e1,b0,b1,show (r1==2)=true by simpa using a2,e2]
  exact ⟨_,_,rfl,wrapU_in _,m1.then m2,c2⟩
 have b2:(r1==2)=false:=by simpa using a2
 by_cases a3:r1=3
 ·obtain ⟨r2,h2,e2,s0,sn,_,m2,c2⟩:=l01Below_c (Z:=Z) hS c1 300
  simp only[rn,RO.dst,lk,drop,Nat.reduceBEq,Nat.reduceAdd,Nat.reduceLeDiff,↓reduceIte,reduceCtorEq,e1,b0,b1,b2,show (r1==3)=true by simpa using a3,e2]
  exact ⟨_,_,rfl,wrapU_in _,m1.then m2,c2⟩
 have b3:(r1==3)=false:=by simpa using a3
 by_cases a4:r1=4
 ·obtain ⟨r2,h2,e2,s0,sn,_,m2,c2⟩:=l01Below_c (Z:=Z) hS c1 64
  have hw:IntKind.u64.wrap r2=r2:=wrapU _ s0 (by have:=sn (by omega);omega)
  simp only[rn,RO.dst,lk,drop,Nat.reduceBEq,Nat.reduceAdd,Nat.reduceLeDiff,↓reduceIte,reduceCtorEq,e1,b0,b1,b2,b3,show (r1==4)=true by simpa using a4,e2,hw,b_shl _ _ _ _ s0]
  exact ⟨_,_,rfl,wrapU_in _,m1.then m2,c2⟩
 have b4:(r1==4)=false:=by simpa using a4
 simp only[rn,RO.dst,lk,drop,Nat.reduceBEq,Nat.reduceAdd,Nat.reduceLeDiff,↓reduceIte,reduceCtorEq,e1,b0,b1,b2,b3,b4]
 have key:=loop_goes (F:=F) (Z:=Z) (live:=[0,3,4]) (b:=r264L0) 8 (fun i s=> ∃(z:Int) (g:Heap),s=⟨[(0,.c (.ptr k 0 0)),(3,.c (.int .u64 z)),(4,.c (.int .i64 (i:Nat)))],[],[],g⟩∧(0≤z∧z≤18446744073709551615)∧Mk h g [k]∧Cur g k x code) (fun i s hi ⟨z,g,hs,hz,m,cg⟩=>by
  subst hs
  obtain ⟨r2,g2,e2,s0,sn,_,m2,c2⟩:=l01Below_c (Z:=Z) hS cg 256
  have hlt:(i:Int)<8:=by omega
  have hws:=wrapS i (by omega)
  refine ⟨?aa,?pp,?ee⟩
  case ee=>
   rw[loop_run]
   conv in (codeF _ _ r264L0 _)=>unfold r264L0
   simp only[rn,RO.dst,lk,drop,Nat.reduceBEq,Nat.reduceAdd,Nat.reduceLeDiff,↓reduceIte,reduceCtorEq,hlt,e2,hws]
   rfl
  case pp=>exact ⟨_,g2,rfl,wrapU_in _,m.then m2,c2⟩) (s:=⟨[(0,.c (.ptr k 0 0)),(3,.c (.int .u64 0)),(4,.c (.int .i64 ((0:Nat):Int)))],[],[],h1⟩) ⟨_,_,rfl,by omega,m1,c1⟩
 obtain ⟨s',⟨z,g,rfl,hz,m,cg⟩,e⟩:=key
 obtain ⟨r2,g2,e2,s0,sn,_,m2,c2⟩:=l01Below_c (Z:=Z) hS cg 64
 have hw:IntKind.u64.wrap r2=r2:=wrapU _ s0 (by have:=sn (by omega);omega)
 simp only[show ((0:Nat):Int)=0 from rfl] at e
 rw[e,loop_run]
 conv in (codeF _ _ r264L0 _)=>unfold r264L0
 simp only[rn,RO.dst,lk,drop,Nat.reduceBEq,Nat.reduceAdd,Nat.reduceLeDiff,↓reduceIte,reduceCtorEq,show ¬(((8:Nat):Int)<8) by omega,e2,hw,b_shr _ _ _ _ s0]
 exact ⟨_,_,rfl,shr_in hz _,m.then m2,c2⟩
theorem l10DrawId_c (hS:Has F tS01d) (hS10:Has F tS10) (c:Cur h k x code): ∃r h',call F Z 235 [.c (.ptr k 0 0)] h=some (.c (.int .u64 r),h')∧(0≤r∧r≤18446744073709551615)∧Dr k h h'∧Cur h' k x code:=by
 have o:=On.push h [[.int .u64 0],[.int .u64 1],[.int .u64 2],[.int .u64 5],[.int .u64 9],[.int .u64 100],[.int .u64 9223372036854775808],[.int .u64 18446744073709551615]]
 obtain ⟨r1,h1,e1,r0,rnn,_,m1,c1⟩:=l01Below_c (Z:=Z) hS (c.on o) 8
 have hlt:=rnn (by omega)
 obtain ⟨j,rfl⟩: ∃j:Nat,r1=(j:Int):=⟨r1.toNat,by omega⟩
 have hj:j<8:=by omega
 have hg:h1.get h.next=some [[.int .u64 0],[.int .u64 1],[.int .u64 2],[.int .u64 5],[.int .u64 9],[.int .u64 100],[.int .u64 9223372036854775808],[.int .u64 18446744073709551615]]:=by
  rw[m1.get _ (by have:=c.fl.2;simp;omega)];simp[Heap.push]
 have hid:idxR 13 (some (.sl 13 h.next 0 8)) (some (j:Int))=some (.ptr h.next j 0):=by rw[idxR_s,if_pos (by omega)];simp
 obtain ⟨v,hv,hvr⟩: ∃v:Int,loadP h1 h.next j 0 1=some [.int .u64 v]∧(0≤v∧v≤18446744073709551615):=by
  match j,hj with
  | 0,_=>exact ⟨0,by simp[loadP,rowOf,hg,cut?],by omega⟩
  | 1,_=>exact ⟨1,by simp[loadP,rowOf,hg,cut?],by omega⟩
  | 2,_=>exact ⟨2,by simp[loadP,rowOf,hg,cut?],by omega⟩
  | 3,_=>exact ⟨5,by simp[loadP,rowOf,hg,cut?],by omega⟩
  | 4,_=>exact ⟨9,by simp[loadP,rowOf,hg,cut?],by omega⟩
  | 5,_=>exact ⟨100,by simp[loadP,rowOf,hg,cut?],by omega⟩
  | 6,_=>exact ⟨9223372036854775808,by simp[loadP,rowOf,hg,cut?],by omega⟩
  | 7,_=>exact ⟨18446744073709551615,by simp[loadP,rowOf,hg,cut?],by omega⟩
 rw[call_run F Z (hS10.lk (g:=235) rfl) _ _ rfl]
 simp only[rn,RO.dst,lk,drop,Nat.reduceBEq,Nat.reduceAdd,Nat.reduceLeDiff,↓reduceIte,reduceCtorEq,List.replicate_succ,List.replicate_zero,fills,and_self,List.set_cons_zero,List.set_cons_succ,Nat.reduceLT,Nat.zero_lt_succ,e1,hid,hv]
 exact ⟨_,_,rfl,hvr,(o.dr k).trans m1.dr,c1⟩
theorem l10DrawAmount_c (hS:Has F tS01d) (hS10:Has F tS10) (c:Cur h k x code): ∃r h',call F Z 237 [.c (.ptr k 0 0)] h=some (.c (.int .u64 r),h')∧(0≤r∧r≤18446744073709551615)∧Mk h h' [k]∧Cur h' k x code:=by
 obtain ⟨b,h1,e1,m1,c1⟩:=l01Once_c (Z:=Z) hS c 5
 rw[call_run F Z (hS10.lk (g:=237) rfl) _ _ rfl]
 cases b with
 | true=>
   obtain ⟨r,h2,e2,hr,m2,c2⟩:=l01Big_c (Z:=Z) hS c1
   simp only[rn,RO.dst,lk,drop,Nat.reduceBEq,Nat.reduceAdd,Nat.reduceLeDiff,↓reduceIte,reduceCtorEq,e1,e2]
   exact ⟨_,_,rfl,hr,m1.then m2,c2⟩
 | false=>
   obtain ⟨r,h2,e2,_,_,_,m2,c2⟩:=l01Below_c (Z:=Z) hS c1 60
   simp only[rn,RO.dst,lk,drop,Nat.reduceBEq,Nat.reduceAdd,Nat.reduceLeDiff,↓reduceIte,reduceCtorEq,e1,e2]
   exact ⟨_,_,rfl,wrapU_in _,m1.then m2,c2⟩
end
end Go.Proofs.YthofpopafchelaaGreat.A
namespace Go.Proofs.YthofpopafchelaaGreat.A
open Go
set_option linter.unusedSimpArgs false
set_option linter.unusedVariables false
section
variable {α:Type} {R:Rel α} {h:Heap} {tag tag':Nat} {x:Cell} {xs:List α} {fp:List Nat}
theorem catH_keep (w:SlR tag R h x xs fp) (new:List (List Cell)) {id:Nat} (hid:id<h.next) (hn:id∉fp):(catH h x new).get id=h.get id:=by
 rcases w with ⟨_,⟨rfl,_,_⟩ | ⟨k,rows,fps,rfl,_,_,rfl,_⟩⟩
 ·simp only[catH]
  split
  ·rfl
  ·simp only[Heap.push];rw[if_neg (by omega)]
 ·have hk:id≠k:=fun he=>hn (by simp[he])
  show (if id=h.next then some (((h.get k).getD [])++new) else (if id=k then none else h.get id))=h.get id
  rw[if_neg (by omega),if_neg hk]
theorem catH_next (h:Heap) (x:Cell) (new:List (List Cell)):h.next≤(catH h x new).next:=by
 unfold catH
 split
 ·simp[Heap.push,Heap.kill]
 ·split
  ·exact Nat.le_refl _
  ·simp[Heap.push]
theorem catX_sid (tag:Nat) (h:Heap) (x:Cell):(catX tag h x 1).sid=h.next:=by cases x<;>rfl
structure Beside {β:Type} (P:Rel β) (tag:Nat) (h0 g:Heap) (y:Cell) (rows:List (List Cell)) (cs:List Cell) (b:β) (fq:List Nat):Prop where
 acc:Acc tag h0 g y rows
 v:P g cs b fq
 fr:Fre h0 fq
 dj: ∃fy,SlR tag (Fl fun r=>r) g y rows fy∧Fre h0 fy∧ ∀id,id∈fq→id∉fy
theorem Beside.step {β:Type} {P:Rel β} (okP:RelOk P) {h0 g g1:Heap} {y:Cell} {rows:List (List Cell)} {cs cs1:List Cell} {b b1:β} {fq fq1:List Nat} (w:Beside P tag h0 g y rows cs b fq) (hf:h0.floor≤h0.next) (hl:rows.length+1≤140737488355328)
 (o:On g g1) (v1:P g1 cs1 b1 fq1) (f1:Fre g fq1) (row:List Cell):
 Beside P tag h0 (catH (g1.push [row]) y [row]) (catX tag (g1.push [row]) y 1) (rows++[row]) cs1 b1 fq1:=by
 have a1:=w.acc.go o
 have a2:=a1.one hf hl row
 obtain ⟨fy,hy,fry,dj⟩:=w.dj
 have hy1:=hy.on (Fl.ok _) o
 have hyp:=hy1.on (Fl.ok _) (On.push g1 [row])
 have hlt:=okP.lt v1
 have hoff: ∀id,id∈fq1→id∉fy:=fun id h1 h2=>by
  have:=f1.lo id h1
  have:=hy.lt (Fl.ok _) id h2
  omega
 refine ⟨a2,okP.mv v1 ?_ fun id hid=> ?_,⟨fun id hid=> ?_,f1.nd⟩,?_⟩
 ·exact Nat.le_trans (by simp[Heap.push]) (catH_next (g1.push [row]) y [row])
 ·have h1:=hlt id hid
  rw[catH_keep hyp [row] (by simp only[Heap.push];omega) (hoff id hid)]
  simp only[Heap.push];rw[if_neg (by omega)]
 ·have:=f1.lo id hid
  have:=w.acc.on.ext.1
  omega
 ·obtain ⟨fy2,q1,q2⟩:=a2.sh
  refine ⟨fy2,q1,q2,fun id h1 h2=> ?_⟩
  have h3:id∈[(catX tag (g1.push [row]) y 1).sid]:=by
   rcases q1.flat with ⟨_,h4,_⟩ | ⟨_,_,_,h4⟩
   ·simp at h4
   ·rw[←h4];exact h2
  rw[catX_sid] at h3
  have:=hlt id h1
  simp only[Heap.push,List.mem_cons,List.not_mem_nil,or_false] at h3
  omega
end
end Go.Proofs.YthofpopafchelaaGreat.A
namespace Go.Proofs.YthofpopafchelaaGreat.A
open Go
set_option linter.unusedSimpArgs false
set_option linter.unusedVariables false
structure Cux (h0 h:Heap) (k:Nat) (x:Cell) (code:List Int):Prop where
 dr:Dr k h0 h
 cur:Cur h k x code
 src:x= .nil∨x.sid<h0.next
def patch (h0:Heap) (k:Nat) (h:Heap):Heap:=⟨h0.next,h0.floor,fun i=>if i=k then h.get k else h0.get i⟩
structure Draw (tag:Nat) (h0 h:Heap) (k:Nat) (x:Cell) (code:List Int) (y:Cell) (rows:List (List Cell)):Prop where
 cux:Cux h0 h k x code
 sep: ∃fp,SlR tag (Fl fun r=>r) h y rows fp∧Fre h0 fp∧k∉fp
section
variable {h0 h h':Heap} {k tag:Nat} {x y:Cell} {code:List Int} {rows:List (List Cell)}
theorem Dr.base (d:Dr k h h') (o:On h0 h) (lo:h0.next≤k):On h0 h':=⟨⟨Nat.le_trans o.ext.1 d.next,fun id hid=>(d.get id (Nat.lt_of_lt_of_le hid o.ext.1) (by omega)).trans (o.ext.2 id hid)⟩,d.fl.trans o.fl⟩
theorem Dr.on (d:Dr k h0 h):On (patch h0 k h) h:=⟨⟨d.next,fun id hid=>by
 show h.get id=if id=k then h.get k else h0.get id
 split
 ·rename_i he;rw[he]
 ·rename_i hn;exact d.get id hid hn⟩,d.fl⟩
theorem Cux.on (w:Cux h0 h k x code) (lo:h0.next≤k):On h0 h:=w.dr.base (On.refl h0) lo
theorem Cux.go_ (w:Cux h0 h k x code) (d:Dr k h h') (c:Cur h' k x code):Cux h0 h' k x code:=⟨w.dr.trans d,c,w.src⟩
theorem Cux.go (w:Cux h0 h k x code) (o:On h h'):Cux h0 h' k x code:=⟨w.dr.trans (o.dr k),w.cur.on o,w.src⟩
theorem Cux.self (c:Cur h k x code):Cux h h k x code:=⟨Dr.refl k h,c,by
 rcases c.vw with ⟨_,⟨rfl,_⟩ | ⟨id,off,rows,rfl,_,h3,_⟩⟩
 ·exact .inl rfl
 ·exact .inr h3⟩
theorem Cur.le (c:Cur h k x code):h.floor≤h.next:=by have:=c.fl;omega
theorem Cux.le (w:Cux h0 h k x code):h.floor≤h.next:=w.cur.le
theorem Draw.acc (w:Draw tag h0 h k x code y rows):Acc tag (patch h0 k h) h y rows:=by
 obtain ⟨fp,h1,h2,_⟩:=w.sep
 exact ⟨w.cux.dr.on,fp,h1,⟨h2.lo,h2.nd⟩⟩
theorem Draw.dr (w:Draw tag h0 h k x code y rows) (d:Dr k h h') (c:Cur h' k x code):Draw tag h0 h' k x code y rows:=by
 obtain ⟨fp,h1,h2,h3⟩:=w.sep
 exact ⟨w.cux.go_ d c,fp,h1.dr (Fl.ok _) d h3,h2,h3⟩
theorem Draw.go (w:Draw tag h0 h k x code y rows) (o:On h h'):Draw tag h0 h' k x code y rows:=w.dr (o.dr k) (w.cux.cur.on o)
theorem Draw.start (w:Cux h0 h k x code):Draw tag h0 (h.push []) k x code (.sl tag h.next 0 0) []:=by
 have hk:=w.cur.fl.2
 refine ⟨w.go (On.push h []),?_⟩
 obtain ⟨fy,h1,h2⟩:=(Acc.lit0 (tag:=tag) w.dr.on).sh
 refine ⟨fy,h1,⟨h2.lo,h2.nd⟩,fun hy=> ?_⟩
 rcases h1.flat with ⟨_,_,h3⟩ | ⟨_,_,_,h3⟩
 ·rw[h3] at hy;cases hy
 ·rw[h3] at hy
  simp[Cell.sid] at hy;omega
theorem Draw.one (w:Draw tag h0 h k x code y rows) (hf:h0.floor≤h0.next) (hl:rows.length+1≤140737488355328) (row:List Cell):
 Draw tag h0 (catH (h.push [row]) y [row]) k x code (catX tag (h.push [row]) y 1) (rows++[row]):=by
 have a2:=w.acc.one (h0:=patch h0 k h) hf hl row
 obtain ⟨fp,h1,h2,h3⟩:=w.sep
 have hp:=h1.on (Fl.ok _) (On.push h [row])
 have hk:=w.cux.cur.fl.2
 have hn:h.next≤(catH (h.push [row]) y [row]).next:=Nat.le_trans (by simp[Heap.push]) (catH_next (h.push [row]) y [row])
 have keep: ∀id,id<h.next→id∉fp→(catH (h.push [row]) y [row]).get id=h.get id:=fun id hid hnf=>by
  rw[catH_keep hp [row] (by simp only[Heap.push];omega) hnf]
  simp only[Heap.push];rw[if_neg (by omega)]
 obtain ⟨i,hh,r1,r2⟩:=w.cux.cur.row
 have hfl:(catH (h.push [row]) y [row]).floor=h.floor:=by rw[a2.on.fl,w.cux.dr.on.fl]
 have dd:Dr k h0 (catH (h.push [row]) y [row]):=⟨Nat.le_trans w.cux.dr.next hn,hfl.trans w.cux.dr.fl,fun id hid hne=>by
  have:=w.cux.dr.next
  rw[keep id (by omega) fun hm=>by have:=h2.lo id hm;omega]
  exact w.cux.dr.get id hid hne⟩
 refine ⟨⟨dd,⟨⟨by rw[hfl];exact w.cux.cur.fl.1,by omega⟩,?_,w.cux.cur.ne,i,hh,by rw[keep k hk h3];exact r1,r2⟩,w.cux.src⟩,?_⟩
 ·rcases w.cux.cur.vw with ⟨q0,q1 | ⟨id,off,rs,rfl,q2,q3,q4⟩⟩
  ·exact ⟨q0,.inl q1⟩
  ·refine ⟨q0,.inr ⟨id,off,rs,rfl,?_,by omega,q4⟩⟩
   have hs:id<h0.next:=w.cux.src.elim (fun h=>(nomatch h)) fun h=>h
   rw[keep id q3 fun hid=>by have:=h2.lo id hid;omega];exact q2
 ·obtain ⟨fp2,q1,q2⟩:=a2.sh
  refine ⟨fp2,q1,⟨q2.lo,q2.nd⟩,fun hm=> ?_⟩
  have h4:k∈[(catX tag (h.push [row]) y 1).sid]:=by
   rcases q1.flat with ⟨_,h4,_⟩ | ⟨_,_,_,h4⟩
   ·simp at h4
   ·rw[←h4];exact hm
  rw[catX_sid] at h4
  simp only[Heap.push,List.mem_cons,List.not_mem_nil,or_false] at h4
  omega
theorem Draw.one_eq (w:Draw tag h0 h k x code y rows) (hf:h0.floor≤h0.next) {bytes:Nat} (hb:(rows.length+1)*bytes≤140737488355328) (row:List Cell):
 appF (h.push [row]) tag bytes y (.sl tag h.next 0 1)=some (catX tag (h.push [row]) y 1,catH (h.push [row]) y [row]):=w.acc.one_eq (h0:=patch h0 k h) hf hb row
end
section
variable {F:Nat→Option RF} {Z:CallF} {h:Heap} {k:Nat} {x:Cell} {code:List Int}
theorem pick_lit (hS:Has F tS01d) (c:Cur h k x code) (xs:List Int) (h1:0<xs.length) (h2:xs.length≤1048576):
 ∃r h',call F Z 239 [.c (.ptr k 0 0),.c (.sl 15 h.next 0 xs.length)] (h.push (xs.map int_enc))=some (.c (.int .i64 r),h')∧r∈xs∧Dr k h h'∧Cur h' k x code:=by
 have o:=On.push h (xs.map int_enc)
 have w:SlR 15 (Fl int_enc) (h.push (xs.map int_enc)) (.sl 15 h.next 0 xs.length) xs [h.next]:=SlR.ofFlat (by unfold maxLen;omega) (push_get _ _) (by rw[push_next];omega)
 obtain ⟨r,h',e,hr,m,c1⟩:=l01PickInt_c (Z:=Z) hS (c.on o) w (by have:=c.fl.2;simp;omega) h1
 exact ⟨r,h',e,hr,(o.dr k).trans m.dr,c1⟩
end
end Go.Proofs.YthofpopafchelaaGreat.A
namespace Go.Proofs.YthofpopafchelaaGreat.A
open Go
set_option linter.unusedSimpArgs false
set_option linter.unusedVariables false
def Shard.head (s:Shard):Bool:=decide (s.lo≤s.hi)&&((s.state==0||s.state==1)&&(inR s.epoch 1 1000000&&(bookOk s.book.list&&decide ((s.finished.length:Int)≤60))))
def Shard.good (s:Shard):Bool:=s.head&&(s.book.list.all s.acc&&(List.range s.finished.length).all s.finAt)
section
variable {F:Nat→Option RF} {Z:CallF} {h:Heap} {cs:List Cell} {s:Shard} {fp:List Nat}
set_option maxHeartbeats 4000000 in
theorem isShard_run (hI10:Has F tI10) (hI13:Has F tI13) (h1:Has F tLibcmpCompareint) (h2:Has F tLibcmpCompareuint64) (h3:Has F tLibcmpOrint) (h4:Has F tLibcmpisNaNint) (h5:Has F tLibcmpisNaNuint64) (hL:Has F tLibslicesIndeximplFinimplFin) (hC:Has F tLibslicesContainsimplFinimplFin)
 (v:Shard.RI h cs s fp) (ok:s.Ok): ∃h',call F Z 244 [.agg cs] h=some (.c (.bool s.good),h')∧On h h':=by
 obtain ⟨x,p,y,q,rfl,rfl,w,u⟩:=v
 have hB:=isBook_run (Z:=Z) hI10 w ok.book.list
 have ka:=isShard_accs (Z:=Z) (s:=s) hL hC w u
 have kf:=isShard_fins (Z:=Z) (s:=s) (x:=x) hI13 h1 h2 h3 h4 h5 u
 have l1:=w.len
 have l2:=u.len
 have n1: ¬(s.book.list.length:Int)<s.book.list.length:=by omega
 have n2: ¬(s.finished.length:Int)<s.finished.length:=by omega
 clear w u
 rw[call_run F Z (hI13.lk (g:=244) rfl) _ _ rfl]
 simp only[show ((0:Nat):Int)=0 from rfl] at ka kf
 cases hd:s.head with
 | false=>
   have hg:s.good=false:=by simp[Shard.good,hd]
   rw[hg]
   simp only[rn,RO.dst,lk,drop,Nat.reduceBEq,Nat.reduceAdd,Nat.reduceLeDiff,↓reduceIte,reduceCtorEq,hB,l2]
   clear ka kf
   (repeat' ((first | (rw[gF_if];split) | (rw[condC_if];split) | (rw[pickR_if];split))<;>(rename_i hh;(try simp only[Bool.not_eq_true,decide_eq_true_eq] at hh);simp only[hh,rn,RO.dst,lk,drop,Nat.reduceBEq,Nat.reduceAdd,Nat.reduceLeDiff,↓reduceIte,reduceCtorEq,hB,l2,l1])))
   all_goals clear hB l1 l2
   all_goals first
    | exact ⟨_,rfl,On.refl h⟩
    | (exfalso;simp_all[Shard.head,inR];done)
    | (exfalso;simp_all[Shard.head,inR];omega)
 | true=>
   have hg:s.good=(s.book.list.all s.acc&&(List.range s.finished.length).all s.finAt):=by simp[Shard.good,hd]
   rw[hg]
   simp only[Shard.head,Bool.and_eq_true,decide_eq_true_eq,Bool.or_eq_true,beq_iff_eq,inR] at hd
   obtain ⟨d1,d2,⟨d3,d4⟩,d5,d6⟩:=hd
   rw[d5] at hB
   have c1: ¬s.lo>s.hi:=by omega
   have c3: ¬s.epoch<1:=by omega
   have c4: ¬s.epoch>1000000:=by omega
   have c6: ¬(s.finished.length:Int)>60:=by omega
   have c2:(s.state !=0)=false∨((s.state !=0)=true∧(s.state !=1)=false):=by
    rcases d2 with d2 | d2<;>simp[d2]
   rcases c2 with c2 | ⟨c2,c2'⟩
   ·simp only[rn,RO.dst,lk,drop,Nat.reduceBEq,Nat.reduceAdd,Nat.reduceLeDiff,↓reduceIte,reduceCtorEq,hB,l1,l2,c1,c2,c3,c4,c6]
    rcases ka with ⟨a1,a2⟩ | ⟨a1,s',a2,a3,a4⟩
    ·rw[a2,loop_run]
     conv in (codeF _ _ r244L1 _)=>unfold r244L1
     simp only[rn,RO.dst,lk,drop,Nat.reduceBEq,Nat.reduceAdd,Nat.reduceLeDiff,↓reduceIte,reduceCtorEq,n1,l2]
     rcases kf with ⟨s'',⟨g,hs,og,hall⟩,e⟩ | ⟨s'',e,b1,b2,j,hj,b3⟩
     ·subst hs
      rw[e,loop_run]
      conv in (codeF _ _ r244L0 _)=>unfold r244L0
      simp only[rn,RO.dst,lk,drop,Nat.reduceBEq,Nat.reduceAdd,Nat.reduceLeDiff,↓reduceIte,reduceCtorEq,n2]
      have ha:(List.range s.finished.length).all s.finAt=true:=List.all_eq_true.2 fun j hj=>hall j (by simpa using hj)
      exact ⟨_,by rw[a1,ha];rfl,og⟩
     ·rw[e]
      simp only[rn,RO.dst,lk,drop,Nat.reduceBEq,Nat.reduceAdd,Nat.reduceLeDiff,↓reduceIte,reduceCtorEq,b1]
      have ha:(List.range s.finished.length).all s.finAt=false:=by
       rw[List.all_eq_false]
       exact ⟨j,by simpa using hj,by simp[b3]⟩
      exact ⟨_,by rw[a1,ha];rfl,b2⟩
    ·rw[a2]
     simp only[rn,RO.dst,lk,drop,Nat.reduceBEq,Nat.reduceAdd,Nat.reduceLeDiff,↓reduceIte,reduceCtorEq,a3,a4]
     exact ⟨_,by rw[a1];rfl,On.refl h⟩
   ·simp only[rn,RO.dst,lk,drop,Nat.reduceBEq,Nat.reduceAdd,Nat.reduceLeDiff,↓reduceIte,reduceCtorEq,hB,l1,l2,c1,c2,c2',c3,c4,c6]
    rcases ka with ⟨a1,a2⟩ | ⟨a1,s',a2,a3,a4⟩
    ·rw[a2,loop_run]
     conv in (codeF _ _ r244L1 _)=>unfold r244L1
     simp only[rn,RO.dst,lk,drop,Nat.reduceBEq,Nat.reduceAdd,Nat.reduceLeDiff,↓reduceIte,reduceCtorEq,n1,l2]
     rcases kf with ⟨s'',⟨g,hs,og,hall⟩,e⟩ | ⟨s'',e,b1,b2,j,hj,b3⟩
     ·subst hs
      rw[e,loop_run]
      conv in (codeF _ _ r244L0 _)=>unfold r244L0
      simp only[rn,RO.dst,lk,drop,Nat.reduceBEq,Nat.reduceAdd,Nat.reduceLeDiff,↓reduceIte,reduceCtorEq,n2]
      have ha:(List.range s.finished.length).all s.finAt=true:=List.all_eq_true.2 fun j hj=>hall j (by simpa using hj)
      exact ⟨_,by rw[a1,ha];rfl,og⟩
     ·rw[e]
      simp only[rn,RO.dst,lk,drop,Nat.reduceBEq,Nat.reduceAdd,Nat.reduceLeDiff,↓reduceIte,reduceCtorEq,b1]
      have ha:(List.range s.finished.length).all s.finAt=false:=by
       rw[List.all_eq_false]
       exact ⟨j,by simpa using hj,by simp[b3]⟩
      exact ⟨_,by rw[a1,ha];rfl,b2⟩
    ·rw[a2]
     simp only[rn,RO.dst,lk,drop,Nat.reduceBEq,Nat.reduceAdd,Nat.reduceLeDiff,↓reduceIte,reduceCtorEq,a3,a4]
     exact ⟨_,by rw[a1];rfl,On.refl h⟩
end
end Go.Proofs.YthofpopafchelaaGreat.A
namespace Go.Proofs.YthofpopafchelaaGreat.A
open Go
set_option linter.unusedSimpArgs false
set_option linter.unusedVariables false
theorem cmpFin_lt (f g:Fin):decide (cmpFin f g<0)=(decide (f.tx<g.tx)||(f.tx==g.tx&&decide (f.id<g.id))):=by
 unfold cmpFin orI
 by_cases h1:f.tx<g.tx
 ·have e:cmpI f.tx g.tx= -1:=by simp[cmpI,h1]
  rw[if_neg (by rw[e];decide),e]
  simp[h1]
 ·by_cases h2:g.tx<f.tx
  ·have e:cmpI f.tx g.tx=1:=by simp[cmpI,h1,h2]
   rw[if_neg (by rw[e];decide),e]
   have:(f.tx==g.tx)=false:=by simp;omega
   simp[h1,this]
  ·have e:cmpI f.tx g.tx=0:=by simp[cmpI,h1,h2]
   rw[if_pos e]
   have ht:(f.tx==g.tx)=true:=by simp;omega
   by_cases h3:f.id<g.id
   ·have e3:cmpI f.id g.id= -1:=by simp[cmpI,h3]
    rw[e3];simp[h1,ht,h3]
   ·have e3: ¬cmpI f.id g.id<0:=by
     unfold cmpI
     rw[if_neg h3]
     split<;>omega
    simp[e3,h1,h3]
section
variable {F:Nat→Option RF} {Z:CallF} {h:Heap} {x:Cell} {xs:List Fin} {fp:List Nat}
theorem l13Before_run (hS13:Has F tS13) (f g:Fin) (h:Heap):call F Z 242 [.agg f.enc,.agg g.enc] h=some (.c (.bool (decide (cmpFin f g<0))),h):=by
 rw[cmpFin_lt]
 obtain ⟨t,d⟩:=f
 obtain ⟨t',d'⟩:=g
 rw[call_run F Z (hS13.lk (g:=242) rfl) _ _ rfl]
 simp only[Fin.enc,rn,RO.dst,lk,drop,Nat.reduceBEq,Nat.reduceAdd,Nat.reduceLeDiff,↓reduceIte,reduceCtorEq]
 (repeat' ((first | (rw[gF_if];split) | (rw[condC_if];split) | (rw[pickR_if];split))<;>(rename_i hh;(try simp only[Bool.not_eq_true,decide_eq_true_eq] at hh);simp only[hh,rn,RO.dst,lk,drop,Nat.reduceBEq,Nat.reduceAdd,Nat.reduceLeDiff,↓reduceIte,reduceCtorEq])))<;>refine fin_bool ?_<;>simp_all<;>omega
theorem l13Has_run (hS13:Has F tS13) (w:SlR 9 (Fl Fin.enc) h x xs fp) (f:Fin):call F Z 243 [.c x,.agg f.enc] h=some (.c (.bool (decide (f∈xs))),h):=by
 have hle:=w.le2
 have hwl:=w.len
 rw[call_run F Z (hS13.lk (g:=243) rfl) _ _ rfl]
 simp only[rn,RO.dst,lk,drop,Nat.reduceBEq,Nat.reduceAdd,Nat.reduceLeDiff,↓reduceIte,reduceCtorEq]
 have key:=loop_find (F:=F) (Z:=Z) (live:=[0,3,5]) (b:=r243L0) xs (fun a=>decide (a=f)) (fun i=>⟨[(0,.c x),(5,.c (.int .i64 (i:Nat)))],[(3,3,0)],[(3,f.enc)],h⟩) (fun i s=>lk s.env 4=some (.c (.bool true))∧s.hp=h) fun i hi=>by
  have hlt:(i:Int)<xs.length:=by omega
  have hws:=wrapS i (by omega)
  have hxi:=w.idx hi
  have hld:=w.load hi
  generalize xs[i]=a at *
  obtain ⟨t,d⟩:=a
  obtain ⟨t',d'⟩:=f
  rw[loop_run]
  conv in (codeF _ _ r243L0 _)=>unfold r243L0
  have fe:=fin_eqs t d t' d'
  simp only[rn,RO.dst,lk,drop,Nat.reduceBEq,Nat.reduceAdd,Nat.reduceLeDiff,↓reduceIte,reduceCtorEq,hwl,hlt,hxi,hld,Fin.enc,fe]
  clear hxi hld fe w
  (repeat' ((first | (rw[gF_if];split) | (rw[condC_if];split) | (rw[pickR_if];split))<;>(rename_i hh;(try simp only[Bool.not_eq_true,decide_eq_true_eq] at hh);simp only[hh,rn,RO.dst,lk,drop,Nat.reduceBEq,Nat.reduceAdd,Nat.reduceLeDiff,↓reduceIte,reduceCtorEq,hws])))<;>first
   | exact .inl ⟨by simp_all,rfl⟩
   | exact .inr ⟨by simp_all,_,rfl,rfl,rfl⟩
 have hlt: ¬(xs.length:Int)<xs.length:=by omega
 simp only[show ((0:Nat):Int)=0 from rfl] at key
 rcases key with ⟨k1,k2⟩ | ⟨i,k1,hi,s,k2,k3,k4⟩
 ·rw[k2,loop_run]
  conv in (codeF _ _ r243L0 _)=>unfold r243L0
  rw[List.findIdx?_eq_none_iff] at k1
  have: ¬f∈xs:=fun hm=>by simpa using k1 f hm
  simp only[rn,RO.dst,lk,drop,Nat.reduceBEq,Nat.reduceAdd,Nat.reduceLeDiff,↓reduceIte,reduceCtorEq,hwl,hlt,this]
 ·rw[k2]
  rw[List.findIdx?_eq_some_iff_getElem] at k1
  obtain ⟨hi,h2,_⟩:=k1
  have:f∈xs:=by
   have:xs[i]=f:=by simpa using h2
   rw[←this];exact List.getElem_mem hi
  simp only[rn,RO.dst,lk,drop,Nat.reduceBEq,Nat.reduceAdd,Nat.reduceLeDiff,↓reduceIte,reduceCtorEq,k3,k4,this]
end
end Go.Proofs.YthofpopafchelaaGreat.A
namespace Go.Proofs.YthofpopafchelaaGreat.A
open Go
set_option linter.unusedSimpArgs false
set_option linter.unusedVariables false
section
variable {F:Nat→Option RF} {Z:CallF} {h:Heap} {cs:List Cell} {s:Shard} {fp fq:List Nat} {x y:Cell}
set_option maxHeartbeats 2000000 in
theorem l13Shard_accs (hS13:Has F tS13) (w:SlR 11 (Fl Account.enc) h x s.book.list fp) (v:SlR 9 (Fl Fin.enc) h y s.finished fq):
 Turn (loop F Z [1,5] r204L0 ⟨[(5,.c (.int .i64 (0:Nat)))],[(1,1,0)],[(1,[.int .u64 s.lo,.int .u64 s.hi,.int .i64 s.state,.int .i64 s.epoch,x,y])],h⟩)
  (loop F Z [1,5] r204L0 ⟨[(5,.c (.int .i64 (s.book.list.length:Nat)))],[(1,1,0)],[(1,[.int .u64 s.lo,.int .u64 s.hi,.int .i64 s.state,.int .i64 s.epoch,x,y])],h⟩) (s.book.list.all s.acc) (fun s=>lk s.env 2=some (.c (.bool false))∧s.hp=h):=by
 have hle:=w.le2
 refine loop_all (F:=F) (Z:=Z) (live:=[1,5]) (b:=r204L0) s.book.list (fun i=>⟨[(5,.c (.int .i64 (i:Nat)))],[(1,1,0)],[(1,[.int .u64 s.lo,.int .u64 s.hi,.int .i64 s.state,.int .i64 s.epoch,x,y])],h⟩) s.acc _ fun i hi=> ?_
 have hlt:(i:Int)<s.book.list.length:=by omega
 have hws:=wrapS i (by omega)
 have hwl:=w.len
 have hxi:=w.idx hi
 have hld:=w.load hi
 have hc: ∀t d,call F Z 243 [.c y,.agg [.int .i64 t,.int .u64 d]] h=some (.c (.bool (decide ((⟨t,d⟩:Fin)∈s.finished))),h):=fun t d=>l13Has_run hS13 v ⟨t,d⟩
 rw[loop_run]
 conv in (codeF _ _ r204L0 _)=>unfold r204L0
 simp only[rn,RO.dst,lk,drop,Nat.reduceBEq,Nat.reduceAdd,Nat.reduceLeDiff,↓reduceIte,reduceCtorEq,hwl,hlt,hxi,hld,Account.enc,hc]
 generalize s.book.list[i]=a
 clear hxi hld w v
 (repeat' ((first | (rw[gF_if];split) | (rw[condC_if];split) | (rw[pickR_if];split))<;>(rename_i hh;(try simp only[Bool.not_eq_true,decide_eq_true_eq] at hh);simp only[hh,rn,RO.dst,lk,drop,Nat.reduceBEq,Nat.reduceAdd,Nat.reduceLeDiff,↓reduceIte,reduceCtorEq,hws,hc])))<;>clear hc<;>first
  | exact .inl ⟨by simp_all[Shard.acc]<;>omega,rfl⟩
  | exact .inr ⟨by simp_all[Shard.acc]<;>omega,_,rfl,rfl,rfl⟩
set_option maxHeartbeats 4000000 in
theorem l13Shard_fins (hS13:Has F tS13) (v:SlR 9 (Fl Fin.enc) h y s.finished fq):
 Turn (loop F Z [1,3] r204L1 ⟨[(3,.c (.int .i64 (0:Nat)))],[(1,1,0)],[(1,[.int .u64 s.lo,.int .u64 s.hi,.int .i64 s.state,.int .i64 s.epoch,x,y])],h⟩)
  (loop F Z [1,3] r204L1 ⟨[(3,.c (.int .i64 (s.finished.length:Nat)))],[(1,1,0)],[(1,[.int .u64 s.lo,.int .u64 s.hi,.int .i64 s.state,.int .i64 s.epoch,x,y])],h⟩) ((List.range s.finished.length).all s.finAt) (fun s=>lk s.env 2=some (.c (.bool false))∧s.hp=h):=by
 have hle:=v.le2
 refine loop_allN (F:=F) (Z:=Z) (live:=[1,3]) (b:=r204L1) s.finished.length (fun i=>⟨[(3,.c (.int .i64 (i:Nat)))],[(1,1,0)],[(1,[.int .u64 s.lo,.int .u64 s.hi,.int .i64 s.state,.int .i64 s.epoch,x,y])],h⟩) s.finAt _ fun i hi=> ?_
 have hlt:(i:Int)<s.finished.length:=by omega
 have hws:=wrapS i (by omega)
 have hwl:=v.len
 have hxi:=v.idx hi
 have hld: ∀j n,loadP h y.sid i j n=cut? (Fin.at_ s.finished i).enc j n:=v.loadD Fin.none_ hi
 have hfin:s.finAt i=(decide (1≤(Fin.at_ s.finished i).tx)&&(decide (s.lo≤(Fin.at_ s.finished i).id)&&(decide ((Fin.at_ s.finished i).id≤s.hi)&&(i==0||decide (cmpFin (Fin.at_ s.finished (i-1)) (Fin.at_ s.finished i)<0))))):=rfl
 have hpre:0<i→IntKind.i64.wrap ((i:Int)-1)=((i-1:Nat):Int):=fun hp=>by rw[wrapI _ (by omega) (by omega)];omega
 have hpi:0<i→idxR 9 (some y) (some ((i-1:Nat):Int))=some (.ptr y.sid (i-1) 0):=fun hp=>v.idx (by omega)
 have hpl:0<i→ ∀j n,loadP h y.sid (i-1) j n=cut? (Fin.at_ s.finished (i-1)).enc j n:=fun hp=>v.loadD Fin.none_ (by omega)
 clear v
 generalize s.finAt i=fa at *
 generalize Fin.at_ s.finished (i-1)=pf at *
 generalize Fin.at_ s.finished i=f at *
 have cf:=fun g=>l13Before_run (Z:=Z) hS13 pf f g
 obtain ⟨t,d⟩:=f
 obtain ⟨t',d'⟩:=pf
 simp only[Fin.enc] at cf hld hpl
 rw[loop_run]
 conv in (codeF _ _ r204L1 _)=>unfold r204L1
 simp only[rn,RO.dst,lk,drop,Nat.reduceBEq,Nat.reduceAdd,Nat.reduceLeDiff,↓reduceIte,reduceCtorEq,hwl,hlt,hxi,hld]
 by_cases hp:0<i
 ·have g1:(i:Int)>0:=by omega
  have hi0:(i==0)=false:=by simp;omega
  have q1:=hpre hp
  have q2:=hpi hp
  have q3:=hpl hp
  clear hxi hpre hpi hpl
  (repeat' ((first | (rw[gF_if];split) | (rw[condC_if];split) | (rw[pickR_if];split))<;>(rename_i hh;(try simp only[Bool.not_eq_true,decide_eq_true_eq] at hh);simp only[hh,rn,RO.dst,lk,drop,Nat.reduceBEq,Nat.reduceAdd,Nat.reduceLeDiff,↓reduceIte,reduceCtorEq,hws,g1,q1,q2,q3,cf,hld])))
  all_goals clear q2 q3 cf hld
  all_goals first
   | (exfalso;omega)
   | exact .inl ⟨by simp_all<;>omega,rfl⟩
   | exact .inr ⟨by simp_all<;>omega,_,rfl,rfl,rfl⟩
 ·have g1: ¬(i:Int)>0:=by omega
  have hi0:(i==0)=true:=by simp;omega
  clear hxi hpre hpi hpl cf
  (repeat' ((first | (rw[gF_if];split) | (rw[condC_if];split) | (rw[pickR_if];split))<;>(rename_i hh;(try simp only[Bool.not_eq_true,decide_eq_true_eq] at hh);simp only[hh,rn,RO.dst,lk,drop,Nat.reduceBEq,Nat.reduceAdd,Nat.reduceLeDiff,↓reduceIte,reduceCtorEq,hws,g1,hld])))
  all_goals clear hld
  all_goals first
   | (exfalso;omega)
   | exact .inl ⟨by simp_all<;>omega,rfl⟩
   | exact .inr ⟨by simp_all<;>omega,_,rfl,rfl,rfl⟩
set_option maxHeartbeats 4000000 in
theorem l13Shard_run (hS:Has F tS01d) (hS10:Has F tS10) (hS13:Has F tS13) (v:Shard.RI h cs s fp) (ok:s.Ok):call F Z 204 [.agg cs] h=some (.c (.bool s.good),h):=by
 obtain ⟨x,p,y,q,rfl,rfl,w,u⟩:=v
 have hB:=sBookOk_run (Z:=Z) hS10 w ok.book.list
 have ka:=l13Shard_accs (Z:=Z) (s:=s) hS13 w u
 have kf:=l13Shard_fins (Z:=Z) (s:=s) (x:=x) hS13 u
 have l1:=w.len
 have l2:=u.len
 have n1: ¬(s.book.list.length:Int)<s.book.list.length:=by omega
 have n2: ¬(s.finished.length:Int)<s.finished.length:=by omega
 clear w u
 rw[call_run F Z (hS13.lk (g:=204) rfl) _ _ rfl]
 simp only[show ((0:Nat):Int)=0 from rfl] at ka kf
 cases hd:s.head with
 | false=>
   have hg:s.good=false:=by simp[Shard.good,hd]
   rw[hg]
   simp only[rn,RO.dst,lk,drop,Nat.reduceBEq,Nat.reduceAdd,Nat.reduceLeDiff,↓reduceIte,reduceCtorEq,hB,l2,l01In_run hS]
   clear ka kf
   (repeat' ((first | (rw[gF_if];split) | (rw[condC_if];split) | (rw[pickR_if];split))<;>(rename_i hh;(try simp only[Bool.not_eq_true,decide_eq_true_eq] at hh);simp only[hh,rn,RO.dst,lk,drop,Nat.reduceBEq,Nat.reduceAdd,Nat.reduceLeDiff,↓reduceIte,reduceCtorEq,hB,l2,l1,l01In_run hS])))
   all_goals clear hB l1 l2
   all_goals first
    | rfl
    | (exfalso;simp_all[Shard.head,inR];done)
    | (exfalso;simp_all[Shard.head,inR];omega)
 | true=>
   have hg:s.good=(s.book.list.all s.acc&&(List.range s.finished.length).all s.finAt):=by simp[Shard.good,hd]
   rw[hg]
   simp only[Shard.head,Bool.and_eq_true,decide_eq_true_eq,Bool.or_eq_true,beq_iff_eq] at hd
   obtain ⟨d1,d2,d3,d5,d6⟩:=hd
   rw[d5] at hB
   have c1: ¬s.lo>s.hi:=by omega
   have c2:inR s.state 0 1=true:=by rcases d2 with d2 | d2<;>simp[inR,d2]
   have c6: ¬(s.finished.length:Int)>60:=by omega
   ·simp only[rn,RO.dst,lk,drop,Nat.reduceBEq,Nat.reduceAdd,Nat.reduceLeDiff,↓reduceIte,reduceCtorEq,hB,l1,l2,c1,c2,d3,c6,l01In_run hS]
    rcases kf with ⟨a1,a2⟩ | ⟨a1,s',a2,a3,a4⟩
    ·rw[a2,loop_run]
     conv in (codeF _ _ r204L1 _)=>unfold r204L1
     simp only[rn,RO.dst,lk,drop,Nat.reduceBEq,Nat.reduceAdd,Nat.reduceLeDiff,↓reduceIte,reduceCtorEq,l2,n2]
     rcases ka with ⟨b1,b2⟩ | ⟨b1,s',b2,b3,b4⟩
     ·rw[b2,loop_run]
      conv in (codeF _ _ r204L0 _)=>unfold r204L0
      simp only[rn,RO.dst,lk,drop,Nat.reduceBEq,Nat.reduceAdd,Nat.reduceLeDiff,↓reduceIte,reduceCtorEq,l1,n1,a1,b1,Bool.and_self]
     ·rw[b2]
      simp only[rn,RO.dst,lk,drop,Nat.reduceBEq,Nat.reduceAdd,Nat.reduceLeDiff,↓reduceIte,reduceCtorEq,b3,b4,b1,Bool.false_and]
    ·rw[a2]
     simp only[rn,RO.dst,lk,drop,Nat.reduceBEq,Nat.reduceAdd,Nat.reduceLeDiff,↓reduceIte,reduceCtorEq,a3,a4,a1,Bool.and_false]
end
end Go.Proofs.YthofpopafchelaaGreat.A
namespace Go.Proofs.YthofpopafchelaaGreat.A
open Go
set_option linter.unusedSimpArgs false
set_option linter.unusedVariables false
section
variable {F:Nat→Option RF} {Z:CallF} {h:Heap} {x y:Cell} {xs ys:List Shard} {fp fq:List Nat}
end
end Go.Proofs.YthofpopafchelaaGreat.A
namespace Go.Proofs.YthofpopafchelaaGreat.A
open Go
set_option linter.unusedSimpArgs false
set_option linter.unusedVariables false
structure Store where
 group:Int
 seen:Int
 shards:List Shard
 deriving DecidableEq
def Store.RI:Rel Store:=fun h cs t fp=> ∃x1 p1,cs=[.int .i64 t.group,.int .i64 t.seen,x1]∧fp=p1∧SlR 16 (Shard.RI) h x1 t.shards p1
theorem Store.okI:RelOk Store.RI where
 lt:=by
  rintro h cs t fp ⟨x1,p1,rfl,rfl,w1⟩ id hid
  exact w1.lt (Shard.okI) id hid
 mv:=by
  rintro h h' cs t fp ⟨x1,p1,rfl,rfl,w1⟩ hn hg
  exact ⟨x1,_,rfl,rfl,w1.mv (Shard.okI) hn hg⟩
theorem Store.lenI {h:Heap} {cs:List Cell} {t:Store} {fp:List Nat} (v:Store.RI h cs t fp):cs.length=3∧cs.take 3=cs∧cs.drop 3=[]:=by
 obtain ⟨x1,p1,rfl,_⟩:=v
 exact ⟨rfl,rfl,rfl⟩
namespace Store
structure Ok (t:Store):Prop where
 group: -9223372036854775808≤t.group∧t.group≤9223372036854775807
 seen: -9223372036854775808≤t.seen∧t.seen≤9223372036854775807
 shards: ∀a,a∈t.shards→a.Ok
def Small (t:Store):Prop:=(t.shards.length≤1048576∧ ∀a,a∈t.shards→a.Small)
end Store
section
variable {F:Nat→Option RF} {Z:CallF} {h:Heap} {cs cs':List Cell} {t u:Store} {fp fq:List Nat}
end
end Go.Proofs.YthofpopafchelaaGreat.A
namespace Go.Proofs.YthofpopafchelaaGreat.A
open Go
set_option linter.unusedSimpArgs false
set_option linter.unusedVariables false
structure KI (F:Nat→Option RF):Prop where
 i10:Has F tI10
 i11:Has F tI11
 i13:Has F tI13
 c1:Has F tLibcmpCompareint
 c2:Has F tLibcmpCompareuint64
 c3:Has F tLibcmpOrint
 c4:Has F tLibcmpisNaNint
 c5:Has F tLibcmpisNaNuint64
 li:Has F tLibslicesIndeximplFinimplFin
 lc:Has F tLibslicesContainsimplFinimplFin
structure KS (F:Nat→Option RF):Prop where
 s01:Has F tS01d
 s10:Has F tS10
 s13:Has F tS13
def Shard.none_:Shard:=⟨0,0,0,0,⟨[]⟩,[]⟩
def Shard.at_ (xs:List Shard) (i:Nat):Shard:=xs[i]?.getD Shard.none_
theorem Shard.at_get {xs:List Shard} {i:Nat} (hi:i<xs.length):Shard.at_ xs i=xs[i]:=by simp[Shard.at_,List.getElem?_eq_getElem hi]
def Store.fits (s:Store) (i:Nat):Bool:=(Shard.at_ s.shards i).good&&(decide ((Shard.at_ s.shards i).epoch≤s.seen)&&(i==0||decide ((Shard.at_ s.shards (i-1)).hi<(Shard.at_ s.shards i).lo)))
def Store.good (s:Store):Bool:=inR s.group 0 99&&(inR s.seen 0 1000000&&(decide ((s.shards.length:Int)≤8)&&(List.range s.shards.length).all s.fits))
section
variable {F:Nat→Option RF} {Z:CallF} {h:Heap} {cs:List Cell} {s:Store} {fp:List Nat} {x:Cell}
theorem isShard_q (k:KI F) {t:Shard} {cs:List Cell} {fp:List Nat} (v:Shard.RI h cs t fp) (ok:t.Ok):
 ∃h' g,call F Z 244 [.agg cs] ⟨h.next,h.next,h.get⟩=some (.c (.bool t.good),h')∧Heap.mk h'.next h.floor h'.get=g∧On h g:=by
 obtain ⟨h',e,o⟩:=isShard_run (Z:=Z) k.i10 k.i13 k.c1 k.c2 k.c3 k.c4 k.c5 k.li k.lc (Shard.okI.up v h.next) ok
 exact quietly e o
set_option maxHeartbeats 4000000 in
theorem isStore_turn (k:KI F) (w:SlR 16 Shard.RI h x s.shards fp) (ok: ∀a,a∈s.shards→a.Ok) (i:Nat) (hi:i<s.shards.length):
 TurnO (loop F Z [1,26,27,28] r206L0 ⟨[(26,.c x),(27,.c (.int .i64 (s.shards.length:Nat))),(28,.c (.int .i64 (i:Nat)))],[(1,1,0)],[(1,[.int .i64 s.group,.int .i64 s.seen,x])],h⟩)
  (fun g=>loop F Z [1,26,27,28] r206L0 ⟨[(26,.c x),(27,.c (.int .i64 (s.shards.length:Nat))),(28,.c (.int .i64 ((i+1:Nat):Int)))],[(1,1,0)],[(1,[.int .i64 s.group,.int .i64 s.seen,x])],g⟩)
  h (s.fits i) (fun s'=>lk s'.env 2=some (.c (.bool false))):=by
 have hle:=w.le2
 have hlt:(i:Int)<s.shards.length:=by omega
 have hws:=wrapS i (by omega)
 have hxi:=w.idx hi
 obtain ⟨r,f,hld,hR,_⟩:=w.one hi
 rw[←Shard.at_get hi] at hR
 have aok:=ok _ (List.getElem_mem hi)
 rw[←Shard.at_get hi] at aok
 obtain ⟨h',g,hc,hg,og⟩:=isShard_q (Z:=Z) k hR aok
 have hpre:0<i→IntKind.i64.wrap ((i:Int)-1)=((i-1:Nat):Int):=fun hp=>by rw[wrapI _ (by omega) (by omega)];omega
 have hpi:0<i→idxR 16 (some x) (some ((i-1:Nat):Int))=some (.ptr x.sid (i-1) 0):=fun hp=>w.idx (by omega)
 have hpl:0<i→ ∃r',(∀j n,loadP g x.sid (i-1) j n=cut? r' j n)∧ ∃f',Shard.RI g r' (Shard.at_ s.shards (i-1)) f':=fun hp=>by
  obtain ⟨r',f',h1,h2,_⟩:=(w.on Shard.okI og).one (show i-1<s.shards.length by omega)
  rw[←Shard.at_get] at h2
  exact ⟨r',h1,f',h2⟩
 have hfit:s.fits i=((Shard.at_ s.shards i).good&&(decide ((Shard.at_ s.shards i).epoch≤s.seen)&&(i==0||decide ((Shard.at_ s.shards (i-1)).hi<(Shard.at_ s.shards i).lo)))):=rfl
 obtain ⟨x1,p1,x2,p2,rfl,_⟩:=hR
 clear w ok aok
 generalize s.fits i=fa at *
 generalize (Shard.at_ s.shards i).good=gd at *
 generalize Shard.at_ s.shards (i-1)=pa at *
 generalize Shard.at_ s.shards i=a at *
 rw[loop_run]
 conv in (codeF _ _ r206L0 _)=>unfold r206L0
 simp only[rn,RO.dst,lk,drop,Nat.reduceBEq,Nat.reduceAdd,Nat.reduceLeDiff,↓reduceIte,reduceCtorEq,hlt,hxi,hld]
 cases gd with
 | false=>
   simp only[rn,RO.dst,lk,drop,Nat.reduceBEq,Nat.reduceAdd,Nat.reduceLeDiff,↓reduceIte,reduceCtorEq,hc,hg]
   exact .inr ⟨by simp_all,_,rfl,og,rfl⟩
 | true=>
   by_cases hp:0<i
   ·have g1:(i:Int)>0:=by omega
    have hi0:(i==0)=false:=by simp;omega
    have q1:=hpre hp
    have q2:=hpi hp
    obtain ⟨r',q3,f',y1,y2,y3,y4,rfl,_⟩:=hpl hp
    clear hxi hpre hpi hpl hld
    simp only[rn,RO.dst,lk,drop,Nat.reduceBEq,Nat.reduceAdd,Nat.reduceLeDiff,↓reduceIte,reduceCtorEq,hws,g1,q1,q2,q3,hc,hg]
    (repeat' ((first | (rw[gF_if];split) | (rw[condC_if];split) | (rw[pickR_if];split))<;>(rename_i hh;(try simp only[Bool.not_eq_true,decide_eq_true_eq] at hh);simp only[hh,rn,RO.dst,lk,drop,Nat.reduceBEq,Nat.reduceAdd,Nat.reduceLeDiff,↓reduceIte,reduceCtorEq,hws,g1,q1,q2,q3,hc,hg])))
    all_goals clear q2 q3 hc hg
    all_goals first
     | exact .inl ⟨by simp_all<;>omega,_,og,rfl⟩
     | exact .inr ⟨by simp_all<;>omega,_,rfl,og,rfl⟩
   ·have g1: ¬(i:Int)>0:=by omega
    have hi0:(i==0)=true:=by simp;omega
    clear hxi hpre hpi hpl hld
    simp only[rn,RO.dst,lk,drop,Nat.reduceBEq,Nat.reduceAdd,Nat.reduceLeDiff,↓reduceIte,reduceCtorEq,hws,g1,hc,hg]
    (repeat' ((first | (rw[gF_if];split) | (rw[condC_if];split) | (rw[pickR_if];split))<;>(rename_i hh;(try simp only[Bool.not_eq_true,decide_eq_true_eq] at hh);simp only[hh,rn,RO.dst,lk,drop,Nat.reduceBEq,Nat.reduceAdd,Nat.reduceLeDiff,↓reduceIte,reduceCtorEq,hws,g1,hc,hg])))
    all_goals clear hc hg
    all_goals first
     | exact .inl ⟨by simp_all<;>omega,_,og,rfl⟩
     | exact .inr ⟨by simp_all<;>omega,_,rfl,og,rfl⟩
set_option maxHeartbeats 4000000 in
theorem isStore_run (k:KI F) (v:Store.RI h cs s fp) (ok:s.Ok): ∃h',call F Z 206 [.agg cs] h=some (.c (.bool s.good),h')∧On h h':=by
 obtain ⟨x,p,rfl,rfl,w⟩:=v
 have key:=loop_on (F:=F) (Z:=Z) (live:=[1,26,27,28]) (b:=r206L0) s.shards.length (fun i g=>⟨[(26,.c x),(27,.c (.int .i64 (s.shards.length:Nat))),(28,.c (.int .i64 (i:Nat)))],[(1,1,0)],[(1,[.int .i64 s.group,.int .i64 s.seen,x])],g⟩) h s.fits (fun s'=>lk s'.env 2=some (.c (.bool false)))
  fun i g hi og=>isStore_turn k (w.on Shard.okI og) ok.shards i hi
 have l1:=w.len
 have n1: ¬(s.shards.length:Int)<s.shards.length:=by omega
 clear w ok
 simp only[show ((0:Nat):Int)=0 from rfl] at key
 have hg:=isGroupId_run (Z:=Z) k.i11
 have hgd:s.good=(inR s.group 0 99&&(inR s.seen 0 1000000&&(decide ((s.shards.length:Int)≤8)&&(List.range s.shards.length).all s.fits))):=rfl
 generalize s.good=sg at *
 generalize (List.range s.shards.length).all s.fits=al at *
 rw[call_run F Z (k.i13.lk (g:=206) rfl) _ _ rfl]
 simp only[rn,RO.dst,lk,drop,Nat.reduceBEq,Nat.reduceAdd,Nat.reduceLeDiff,↓reduceIte,reduceCtorEq,hg,l1]
 clear k
 (repeat' ((first | (rw[gF_if];split) | (rw[condC_if];split) | (rw[pickR_if];split))<;>(rename_i hh;(try simp only[Bool.not_eq_true,decide_eq_true_eq] at hh);simp only[hh,rn,RO.dst,lk,drop,Nat.reduceBEq,Nat.reduceAdd,Nat.reduceLeDiff,↓reduceIte,reduceCtorEq,hg,l1])))
 all_goals clear hg l1
 all_goals first
  | (refine ⟨_,?_,On.refl h⟩;simp_all[inR];done)
  | (refine ⟨_,?_,On.refl h⟩;simp_all[inR];omega)
  | (rcases key with ⟨a1,g,og,a2⟩ | ⟨a1,s',a2,og,a3⟩
     ·dsimp only at a2
      rw[a2,loop_run]
      conv in (codeF _ _ r206L0 _)=>unfold r206L0
      simp only[rn,RO.dst,lk,drop,Nat.reduceBEq,Nat.reduceAdd,Nat.reduceLeDiff,↓reduceIte,reduceCtorEq,n1]
      refine ⟨_,?_,og⟩
      simp_all[inR]<;>omega
     ·rw[a2]
      simp only[rn,RO.dst,lk,drop,Nat.reduceBEq,Nat.reduceAdd,Nat.reduceLeDiff,↓reduceIte,reduceCtorEq,a3]
      refine ⟨_,?_,og⟩
      simp_all[inR]<;>omega)
end
end Go.Proofs.YthofpopafchelaaGreat.A
namespace Go.Proofs.YthofpopafchelaaGreat.A
open Go
set_option linter.unusedSimpArgs false
set_option linter.unusedVariables false
section
variable {F:Nat→Option RF} {Z:CallF} {h:Heap} {cs:List Cell} {s:Store} {fp:List Nat} {x:Cell}
theorem l13Shard_q (k:KS F) {t:Shard} {cs:List Cell} {fp:List Nat} (v:Shard.RI h cs t fp) (ok:t.Ok):
 call F Z 204 [.agg cs] ⟨h.next,h.next,h.get⟩=some (.c (.bool t.good),⟨h.next,h.next,h.get⟩):=l13Shard_run (Z:=Z) k.s01 k.s10 k.s13 (Shard.okI.up v h.next) ok
set_option maxHeartbeats 4000000 in
theorem sStoreOk_turn (k:KS F) (w:SlR 16 Shard.RI h x s.shards fp) (ok: ∀a,a∈s.shards→a.Ok) (i:Nat) (hi:i<s.shards.length):
 Turn (loop F Z [1,3] r156L0 ⟨[(3,.c (.int .i64 (i:Nat)))],[(1,1,0)],[(1,[.int .i64 s.group,.int .i64 s.seen,x])],h⟩)
  (loop F Z [1,3] r156L0 ⟨[(3,.c (.int .i64 ((i+1:Nat):Int)))],[(1,1,0)],[(1,[.int .i64 s.group,.int .i64 s.seen,x])],h⟩)
  (s.fits i) (fun s'=>lk s'.env 2=some (.c (.bool false))∧s'.hp=h):=by
 have hle:=w.le2
 have hlt:(i:Int)<s.shards.length:=by omega
 have hws:=wrapS i (by omega)
 have hxi:=w.idx hi
 have hwl:=w.len
 obtain ⟨r,f,hld,hR,_⟩:=w.one hi
 rw[←Shard.at_get hi] at hR
 have aok:=ok _ (List.getElem_mem hi)
 rw[←Shard.at_get hi] at aok
 have hc:=l13Shard_q (Z:=Z) k hR aok
 have hpre:0<i→IntKind.i64.wrap ((i:Int)-1)=((i-1:Nat):Int):=fun hp=>by rw[wrapI _ (by omega) (by omega)];omega
 have hpi:0<i→idxR 16 (some x) (some ((i-1:Nat):Int))=some (.ptr x.sid (i-1) 0):=fun hp=>w.idx (by omega)
 have hpl:0<i→ ∃r',(∀j n,loadP h x.sid (i-1) j n=cut? r' j n)∧ ∃f',Shard.RI h r' (Shard.at_ s.shards (i-1)) f':=fun hp=>by
  obtain ⟨r',f',h1,h2,_⟩:=w.one (show i-1<s.shards.length by omega)
  rw[←Shard.at_get] at h2
  exact ⟨r',h1,f',h2⟩
 have hfit:s.fits i=((Shard.at_ s.shards i).good&&(decide ((Shard.at_ s.shards i).epoch≤s.seen)&&(i==0||decide ((Shard.at_ s.shards (i-1)).hi<(Shard.at_ s.shards i).lo)))):=rfl
 obtain ⟨x1,p1,x2,p2,rfl,_⟩:=hR
 clear w ok aok
 generalize s.fits i=fa at *
 generalize (Shard.at_ s.shards i).good=gd at *
 generalize Shard.at_ s.shards (i-1)=pa at *
 generalize Shard.at_ s.shards i=a at *
 rw[loop_run]
 conv in (codeF _ _ r156L0 _)=>unfold r156L0
 simp only[rn,RO.dst,lk,drop,Nat.reduceBEq,Nat.reduceAdd,Nat.reduceLeDiff,↓reduceIte,reduceCtorEq,hwl,hlt,hxi,hld]
 cases gd with
 | false=>
   simp only[rn,RO.dst,lk,drop,Nat.reduceBEq,Nat.reduceAdd,Nat.reduceLeDiff,↓reduceIte,reduceCtorEq,hc]
   exact .inr ⟨by simp_all,_,rfl,rfl,rfl⟩
 | true=>
   by_cases hp:0<i
   ·have g1:(i:Int)>0:=by omega
    have hi0:(i==0)=false:=by simp;omega
    have q1:=hpre hp
    have q2:=hpi hp
    obtain ⟨r',q3,f',y1,y2,y3,y4,rfl,_⟩:=hpl hp
    clear hxi hpre hpi hpl hld
    simp only[rn,RO.dst,lk,drop,Nat.reduceBEq,Nat.reduceAdd,Nat.reduceLeDiff,↓reduceIte,reduceCtorEq,hws,g1,q1,q2,q3,hc]
    (repeat' ((first | (rw[gF_if];split) | (rw[condC_if];split) | (rw[pickR_if];split))<;>(rename_i hh;(try simp only[Bool.not_eq_true,decide_eq_true_eq] at hh);simp only[hh,rn,RO.dst,lk,drop,Nat.reduceBEq,Nat.reduceAdd,Nat.reduceLeDiff,↓reduceIte,reduceCtorEq,hws,g1,q1,q2,q3,hc])))
    all_goals clear q2 q3 hc
    all_goals first
     | exact .inl ⟨by simp_all<;>omega,rfl⟩
     | exact .inr ⟨by simp_all<;>omega,_,rfl,rfl,rfl⟩
   ·have g1: ¬(i:Int)>0:=by omega
    have hi0:(i==0)=true:=by simp;omega
    clear hxi hpre hpi hpl hld
    simp only[rn,RO.dst,lk,drop,Nat.reduceBEq,Nat.reduceAdd,Nat.reduceLeDiff,↓reduceIte,reduceCtorEq,hws,g1,hc]
    (repeat' ((first | (rw[gF_if];split) | (rw[condC_if];split) | (rw[pickR_if];split))<;>(rename_i hh;(try simp only[Bool.not_eq_true,decide_eq_true_eq] at hh);simp only[hh,rn,RO.dst,lk,drop,Nat.reduceBEq,Nat.reduceAdd,Nat.reduceLeDiff,↓reduceIte,reduceCtorEq,hws,g1,hc])))
    all_goals clear hc
    all_goals first
     | exact .inl ⟨by simp_all<;>omega,rfl⟩
     | exact .inr ⟨by simp_all<;>omega,_,rfl,rfl,rfl⟩
set_option maxHeartbeats 4000000 in
theorem sStoreOk_run (k:KS F) (v:Store.RI h cs s fp) (ok:s.Ok):call F Z 156 [.agg cs] h=some (.c (.bool s.good),h):=by
 obtain ⟨x,p,rfl,rfl,w⟩:=v
 have key:=loop_allN (F:=F) (Z:=Z) (live:=[1,3]) (b:=r156L0) s.shards.length (fun i=>⟨[(3,.c (.int .i64 (i:Nat)))],[(1,1,0)],[(1,[.int .i64 s.group,.int .i64 s.seen,x])],h⟩) s.fits (fun s'=>lk s'.env 2=some (.c (.bool false))∧s'.hp=h)
  fun i hi=>sStoreOk_turn k w ok.shards i hi
 have l1:=w.len
 have n1: ¬(s.shards.length:Int)<s.shards.length:=by omega
 clear w ok
 simp only[show ((0:Nat):Int)=0 from rfl] at key
 have hg:=fun n lo hi=>l01In_run (Z:=Z) k.s01 n lo hi h
 have hgd:s.good=(inR s.group 0 99&&(inR s.seen 0 1000000&&(decide ((s.shards.length:Int)≤8)&&(List.range s.shards.length).all s.fits))):=rfl
 generalize s.good=sg at *
 generalize (List.range s.shards.length).all s.fits=al at *
 rw[call_run F Z (k.s13.lk (g:=156) rfl) _ _ rfl]
 simp only[rn,RO.dst,lk,drop,Nat.reduceBEq,Nat.reduceAdd,Nat.reduceLeDiff,↓reduceIte,reduceCtorEq,hg,l1]
 clear k
 (repeat' ((first | (rw[gF_if];split) | (rw[condC_if];split) | (rw[pickR_if];split))<;>(rename_i hh;(try simp only[Bool.not_eq_true,decide_eq_true_eq] at hh);simp only[hh,rn,RO.dst,lk,drop,Nat.reduceBEq,Nat.reduceAdd,Nat.reduceLeDiff,↓reduceIte,reduceCtorEq,hg,l1])))
 all_goals clear hg
 all_goals first
  | (simp_all[inR]<;>omega)
  | (rcases key with ⟨a1,a2⟩ | ⟨a1,s',a2,a3,a4⟩
     ·rw[a2,loop_run]
      conv in (codeF _ _ r156L0 _)=>unfold r156L0
      simp only[rn,RO.dst,lk,drop,Nat.reduceBEq,Nat.reduceAdd,Nat.reduceLeDiff,↓reduceIte,reduceCtorEq,l1,n1]
      simp_all[inR]<;>omega
     ·rw[a2]
      simp only[rn,RO.dst,lk,drop,Nat.reduceBEq,Nat.reduceAdd,Nat.reduceLeDiff,↓reduceIte,reduceCtorEq,a3,a4]
      simp_all[inR]<;>omega)
variable {c:Heap}
theorem StoreOk_c (k:KI F) (hf:h.floor≤h.next) (v:Store.RI h cs s fp) (ok:s.Ok): ∃h',call F Z 157 [.agg cs] h=some (.c (.bool s.good),h')∧On h h':=by
 obtain ⟨l1,l2,l3⟩:=Store.lenI v
 obtain ⟨h',e,o⟩:=isStore_run (Z:=Z) k v ok
 refine ⟨h',?_,o⟩
 rw[call_run F Z (k.i13.lk (g:=157) rfl) _ _ rfl]
 simp only[rn,RO.dst,lk,drop,Nat.reduceBEq,Nat.reduceAdd,Nat.reduceLeDiff,↓reduceIte,reduceCtorEq,l1,l2,l3,e]
end
end Go.Proofs.YthofpopafchelaaGreat.A
namespace Go.Proofs.YthofpopafchelaaGreat.A
open Go
set_option linter.unusedSimpArgs false
set_option linter.unusedVariables false
theorem findI_lt {α:Type} {p:α→Bool} {xs:List α}: -1≤findI p xs∧findI p xs<xs.length:=by
 unfold findI
 split
 ·rename_i i hi
  rw[List.findIdx?_eq_some_iff_getElem] at hi
  obtain ⟨h,_⟩:=hi
  omega
 ·omega
theorem findI_at {α:Type} {p:α→Bool} {xs:List α} (h:0≤findI p xs): ∃i:Nat,findI p xs=(i:Int)∧ ∃hi:i<xs.length,p xs[i]=true:=by
 unfold findI at h ⊢
 split at h
 ·rename_i i hi
  rw[List.findIdx?_eq_some_iff_getElem] at hi
  obtain ⟨h1,h2,_⟩:=hi
  exact ⟨i,rfl,h1,h2⟩
 ·omega
theorem findI_no {α:Type} {p:α→Bool} {xs:List α} (h:findI p xs<0):findI p xs= -1:=by
 unfold findI at h ⊢
 split at h
 ·omega
 ·rfl
theorem mix_set {α:Type} (f:α→α) (xs:List α) {i:Nat} (hi:i<xs.length):((xs.take i).map f++xs.drop i).set i (f xs[i])=(xs.take (i+1)).map f++xs.drop (i+1):=by
 rw[List.set_append_right _ _ (by simp;omega),show i-((xs.take i).map f).length=0 from by simp;omega,List.drop_eq_getElem_cons hi,List.set_cons_zero,
  show xs.take (i+1)=xs.take i++[xs[i]] from by rw[List.take_add_one,List.getElem?_eq_getElem hi];rfl,List.map_append,List.append_assoc]
 rfl
theorem mix_at {α:Type} (f:α→α) (xs:List α) {i:Nat} (hi:i<xs.length) (h:i<((xs.take i).map f++xs.drop i).length):((xs.take i).map f++xs.drop i)[i]=xs[i]:=by
 rw[List.getElem_append_right (by simp;omega)]
 simp
 congr 1
 omega
theorem set_same {α:Type} (xs:List α) {i:Nat} (hi:i<xs.length):xs.set i xs[i]=xs:=by
 apply List.ext_getElem?
 intro j
 by_cases e:i=j
 ·subst e;rw[List.getElem?_set_self hi,List.getElem?_eq_getElem hi]
 ·rw[List.getElem?_set_ne e]
theorem filter_next {α:Type} (p:α→Bool) {xs:List α} {i:Nat} (hi:i<xs.length):(xs.take (i+1)).filter p=(xs.take i).filter p++if p xs[i] then [xs[i]] else []:=by
 rw[List.take_add_one,List.getElem?_eq_getElem hi,List.filter_append]
 cases h:p xs[i]<;>simp[h]
theorem filter_len {α:Type} (p:α→Bool) (xs:List α) (i:Nat):((xs.take i).filter p).length≤xs.length:=Nat.le_trans (List.length_filter_le _ _) (by rw[List.length_take];omega)
section
variable {α:Type} {R:Rel α} {tag:Nat} {h0 h g:Heap} {x y:Cell} {xs ys:List α} {fp fq:List Nat}
theorem SlR.lit1 (ok:RelOk R) {cs:List Cell} {t:α} (v:R h cs t fp) (nd:fp.Nodup):SlR tag R (h.push [cs]) (.sl tag h.next 0 1) [t] (h.next::fp)∧(h.next::fp).Nodup:=
 ⟨⟨by simp[maxLen],.inr ⟨h.next,[cs],[fp],rfl,by simp[Heap.push],by simp[Heap.push],by simp,⟨ok.mv v (by simp[Heap.push]) fun id hid=>push_ne _ (by have:=ok.lt v id hid;omega),trivial⟩⟩⟩,List.nodup_cons.2 ⟨fun hc=>by have:=ok.lt v _ hc;omega,nd⟩⟩
end
end Go.Proofs.YthofpopafchelaaGreat.A
namespace Go.Proofs.YthofpopafchelaaGreat.A
open Go
set_option linter.unusedSimpArgs false
set_option linter.unusedVariables false
def findId (xs:List Shard) (id:Int):Int:=findI (fun t=>decide (t.lo≤id)&&decide (id≤t.hi)) xs
def findAt (xs:List Shard) (lo st:Int):Int:=findI (fun t=>(t.lo==lo)&&(t.state==st)) xs
section
variable {F:Nat→Option RF} {Z:CallF} {h:Heap} {x:Cell} {xs:List Shard} {fp:List Nat} {cs:List Cell} {s:Store}
theorem indexShard_run (hL:Has F tLibslicesIndexFuncimplShardimplShard) (w:SlR 16 Shard.RI h x xs fp) (f:Nat) (ps:List (Nat×Nat×Nat)) (p:Shard→Bool)
 (hc: ∀r t q,Shard.RI h r t q→call F Z f (.agg r::capV ps) h=some (.c (.bool (p t)),h)):call F Z 248 [.c x,.c (.fn f ps)] h=some (.c (.int .i64 (findI p xs)),h):=by
 have hle:=w.le2
 rw[call_run F Z (hL.lk (g:=248) rfl) _ _ rfl]
 simp only[rn,RO.dst,lk,drop,Nat.reduceBEq,Nat.reduceAdd,Nat.reduceLeDiff,↓reduceIte,reduceCtorEq,w.len]
 have key:=loop_find (F:=F) (Z:=Z) (live:=[0,1,7,8]) (b:=r248L0) xs p (fun i=>⟨[(0,.c x),(1,.c (.fn f ps)),(7,.c (.int .i64 (xs.length:Nat))),(8,.c (.int .i64 (i:Nat)))],[],[],h⟩) (fun i s=>lk s.env 4=some (.c (.int .i64 (i:Nat)))∧s.hp=h) fun i hi=>by
  have hlt:(i:Int)<xs.length:=by omega
  have hws:=wrapS i (by omega)
  obtain ⟨r,q,hld,hR,_⟩:=w.one hi
  have hci:=hc _ _ _ hR
  obtain ⟨r1,r2,r3⟩:=Shard.lenI hR
  have hxi:=w.idx hi
  clear w hR
  rw[loop_run]
  conv in (codeF _ _ r248L0 _)=>unfold r248L0
  simp only[rn,RO.dst,lk,drop,Nat.reduceBEq,Nat.reduceAdd,Nat.reduceLeDiff,↓reduceIte,reduceCtorEq,hlt,hxi,hld,r1,r2,r3]
  simp only[hci,rn,RO.dst,lk,drop,Nat.reduceBEq,Nat.reduceAdd,Nat.reduceLeDiff,↓reduceIte,reduceCtorEq]
  (repeat' ((first | (rw[gF_if];split) | (rw[condC_if];split) | (rw[pickR_if];split))<;>(rename_i hh;(try simp only[Bool.not_eq_true,decide_eq_true_eq] at hh);simp only[hh,rn,RO.dst,lk,drop,Nat.reduceBEq,Nat.reduceAdd,Nat.reduceLeDiff,↓reduceIte,reduceCtorEq,hws])))<;>first
   | exact .inl ⟨by simp_all,rfl⟩
   | exact .inr ⟨by simp_all,_,rfl,rfl,rfl⟩
 have hlt: ¬(xs.length:Int)<xs.length:=by omega
 simp only[show ((0:Nat):Int)=0 from rfl] at key
 rcases key with ⟨k1,k2⟩ | ⟨i,k1,hi,s,k2,k3,k4⟩
 ·rw[k2,loop_run]
  conv in (codeF _ _ r248L0 _)=>unfold r248L0
  simp only[rn,RO.dst,lk,drop,Nat.reduceBEq,Nat.reduceAdd,Nat.reduceLeDiff,↓reduceIte,reduceCtorEq,hlt,findI,k1]
 ·rw[k2]
  simp only[rn,RO.dst,lk,drop,Nat.reduceBEq,Nat.reduceAdd,Nat.reduceLeDiff,↓reduceIte,reduceCtorEq,k3,k4,findI,k1]
theorem shardWith_run (hI13:Has F tI13) (hL:Has F tLibslicesIndexFuncimplShardimplShard) (v:Store.RI h cs s fp) (id:Int):
 call F Z 212 [.agg cs,.c (.int .u64 id)] h=some (.c (.int .i64 (findId s.shards id)),h.push [[.int .u64 id]]):=by
 obtain ⟨x,p,rfl,rfl,w⟩:=v
 have w':=w.on Shard.okI (On.push h [[.int .u64 id]])
 have hr:=indexShard_run (Z:=Z) hL w' 247 [(h.next,0,0)] (fun t=>decide (t.lo≤id)&&decide (id≤t.hi)) fun r t q hR=>by
  obtain ⟨x1,p1,x2,p2,rfl,_⟩:=hR
  have hl:loadP (h.push [[.int .u64 id]]) h.next 0 0 1=some [.int .u64 id]:=by simp[loadP,rowOf,push_get,cut?]
  simp only[rn,RO.dst,lk,drop,Nat.reduceBEq,Nat.reduceAdd,Nat.reduceLeDiff,↓reduceIte,reduceCtorEq,capV_cons]
  rw[call_run F Z (hI13.lk (g:=247) rfl) _ _ rfl]
  simp only[rn,RO.dst,lk,drop,Nat.reduceBEq,Nat.reduceAdd,Nat.reduceLeDiff,↓reduceIte,reduceCtorEq,hl]
  (repeat' ((first | (rw[gF_if];split) | (rw[condC_if];split) | (rw[pickR_if];split))<;>(rename_i hh;(try simp only[Bool.not_eq_true,decide_eq_true_eq] at hh);simp only[hh,rn,RO.dst,lk,drop,Nat.reduceBEq,Nat.reduceAdd,Nat.reduceLeDiff,↓reduceIte,reduceCtorEq,hl])))<;>simp_all
 rw[call_run F Z (hI13.lk (g:=212) rfl) _ _ rfl]
 simp only[rn,RO.dst,lk,drop,Nat.reduceBEq,Nat.reduceAdd,Nat.reduceLeDiff,↓reduceIte,reduceCtorEq,hr,evPtrs]
 rfl
theorem shardAt_run (hI13:Has F tI13) (hL:Has F tLibslicesIndexFuncimplShardimplShard) (v:Store.RI h cs s fp) (lo st:Int):
 call F Z 213 [.agg cs,.c (.int .u64 lo),.c (.int .i64 st)] h=some (.c (.int .i64 (findAt s.shards lo st)),(h.push [[.int .u64 lo]]).push [[.int .i64 st]]):=by
 obtain ⟨x,p,rfl,rfl,w⟩:=v
 have w':=(w.on Shard.okI (On.push h [[.int .u64 lo]])).on Shard.okI (On.push _ [[.int .i64 st]])
 have hr:=indexShard_run (Z:=Z) hL w' 249 [(h.next,0,0),(h.next+1,0,0)] (fun t=>(t.lo==lo)&&(t.state==st)) fun r t q hR=>by
  obtain ⟨x1,p1,x2,p2,rfl,_⟩:=hR
  have hl:loadP ((h.push [[.int .u64 lo]]).push [[.int .i64 st]]) h.next 0 0 1=some [.int .u64 lo]:=by
   simp[loadP,rowOf,Heap.push,cut?]
  have hl2:loadP ((h.push [[.int .u64 lo]]).push [[.int .i64 st]]) (h.next+1) 0 0 1=some [.int .i64 st]:=by
   simp[loadP,rowOf,Heap.push,cut?]
  simp only[rn,RO.dst,lk,drop,Nat.reduceBEq,Nat.reduceAdd,Nat.reduceLeDiff,↓reduceIte,reduceCtorEq,capV_cons]
  rw[call_run F Z (hI13.lk (g:=249) rfl) _ _ rfl]
  simp only[rn,RO.dst,lk,drop,Nat.reduceBEq,Nat.reduceAdd,Nat.reduceLeDiff,↓reduceIte,reduceCtorEq,hl,hl2]
  (repeat' ((first | (rw[gF_if];split) | (rw[condC_if];split) | (rw[pickR_if];split))<;>(rename_i hh;(try simp only[Bool.not_eq_true,decide_eq_true_eq] at hh);simp only[hh,rn,RO.dst,lk,drop,Nat.reduceBEq,Nat.reduceAdd,Nat.reduceLeDiff,↓reduceIte,reduceCtorEq,hl,hl2])))<;>simp_all
 rw[call_run F Z (hI13.lk (g:=213) rfl) _ _ rfl]
 simp only[rn,RO.dst,lk,drop,Nat.reduceBEq,Nat.reduceAdd,Nat.reduceLeDiff,↓reduceIte,reduceCtorEq,push_next,hr,evPtrs]
 rfl
theorem shardWith_on (hI13:Has F tI13) (hL:Has F tLibslicesIndexFuncimplShardimplShard) (v:Store.RI h cs s fp) (id:Int):
 ∃h',call F Z 212 [.agg cs,.c (.int .u64 id)] h=some (.c (.int .i64 (findId s.shards id)),h')∧On h h':=⟨_,shardWith_run hI13 hL v id,On.push _ _⟩
theorem shardAt_on (hI13:Has F tI13) (hL:Has F tLibslicesIndexFuncimplShardimplShard) (v:Store.RI h cs s fp) (lo st:Int):
 ∃h',call F Z 213 [.agg cs,.c (.int .u64 lo),.c (.int .i64 st)] h=some (.c (.int .i64 (findAt s.shards lo st)),h')∧On h h':=⟨_,shardAt_run hI13 hL v lo st,(On.push _ _).trans (On.push _ _)⟩
theorem l13Find_run (hS13:Has F tS13) (v:Store.RI h cs s fp) (id:Int):call F Z 211 [.agg cs,.c (.int .u64 id)] h=some (.c (.int .i64 (findId s.shards id)),h):=by
 obtain ⟨x,p,rfl,rfl,w⟩:=v
 have hle:=w.le2
 have hwl:=w.len
 rw[call_run F Z (hS13.lk (g:=211) rfl) _ _ rfl]
 simp only[rn,RO.dst,lk,drop,Nat.reduceBEq,Nat.reduceAdd,Nat.reduceLeDiff,↓reduceIte,reduceCtorEq]
 have key:=loop_find (F:=F) (Z:=Z) (live:=[1,2,5]) (b:=r211L0) s.shards (fun t=>decide (t.lo≤id)&&decide (id≤t.hi)) (fun i=>⟨[(1,.c (.int .u64 id)),(5,.c (.int .i64 (i:Nat)))],[(2,2,0)],[(2,[.int .i64 s.group,.int .i64 s.seen,x])],h⟩) (fun i s=>lk s.env 4=some (.c (.int .i64 (i:Nat)))∧s.hp=h) fun i hi=>by
  have hlt:(i:Int)<s.shards.length:=by omega
  have hws:=wrapS i (by omega)
  obtain ⟨r,q,hld,hR,_⟩:=w.one hi
  obtain ⟨x1,p1,x2,p2,rfl,_⟩:=hR
  have hxi:=w.idx hi
  clear w
  rw[loop_run]
  conv in (codeF _ _ r211L0 _)=>unfold r211L0
  simp only[rn,RO.dst,lk,drop,Nat.reduceBEq,Nat.reduceAdd,Nat.reduceLeDiff,↓reduceIte,reduceCtorEq,hwl,hlt,hxi,hld]
  (repeat' ((first | (rw[gF_if];split) | (rw[condC_if];split) | (rw[pickR_if];split))<;>(rename_i hh;(try simp only[Bool.not_eq_true,decide_eq_true_eq] at hh);simp only[hh,rn,RO.dst,lk,drop,Nat.reduceBEq,Nat.reduceAdd,Nat.reduceLeDiff,↓reduceIte,reduceCtorEq,hws,hxi,hld])))<;>first
   | exact .inl ⟨by simp_all,rfl⟩
   | exact .inr ⟨by simp_all,_,rfl,rfl,rfl⟩
 have hlt: ¬(s.shards.length:Int)<s.shards.length:=by omega
 simp only[show ((0:Nat):Int)=0 from rfl] at key
 rcases key with ⟨k1,k2⟩ | ⟨i,k1,hi,s,k2,k3,k4⟩
 ·rw[k2,loop_run]
  conv in (codeF _ _ r211L0 _)=>unfold r211L0
  simp only[rn,RO.dst,lk,drop,Nat.reduceBEq,Nat.reduceAdd,Nat.reduceLeDiff,↓reduceIte,reduceCtorEq,hwl,hlt,findId,findI,k1]
 ·rw[k2]
  simp only[rn,RO.dst,lk,drop,Nat.reduceBEq,Nat.reduceAdd,Nat.reduceLeDiff,↓reduceIte,reduceCtorEq,k3,k4,findId,findI,k1]
theorem l13At_run (hS13:Has F tS13) (v:Store.RI h cs s fp) (lo st:Int):call F Z 210 [.agg cs,.c (.int .u64 lo),.c (.int .i64 st)] h=some (.c (.int .i64 (findAt s.shards lo st)),h):=by
 obtain ⟨x,p,rfl,rfl,w⟩:=v
 have hle:=w.le2
 have hwl:=w.len
 rw[call_run F Z (hS13.lk (g:=210) rfl) _ _ rfl]
 simp only[rn,RO.dst,lk,drop,Nat.reduceBEq,Nat.reduceAdd,Nat.reduceLeDiff,↓reduceIte,reduceCtorEq]
 have key:=loop_find (F:=F) (Z:=Z) (live:=[1,2,3,7]) (b:=r210L0) s.shards (fun t=>(t.lo==lo)&&(t.state==st)) (fun i=>⟨[(1,.c (.int .u64 lo)),(2,.c (.int .i64 st)),(7,.c (.int .i64 (i:Nat)))],[(3,3,0)],[(3,[.int .i64 s.group,.int .i64 s.seen,x])],h⟩) (fun i s=>lk s.env 6=some (.c (.int .i64 (i:Nat)))∧s.hp=h) fun i hi=>by
  have hlt:(i:Int)<s.shards.length:=by omega
  have hws:=wrapS i (by omega)
  obtain ⟨r,q,hld,hR,_⟩:=w.one hi
  obtain ⟨x1,p1,x2,p2,rfl,_⟩:=hR
  have hxi:=w.idx hi
  clear w
  rw[loop_run]
  conv in (codeF _ _ r210L0 _)=>unfold r210L0
  simp only[rn,RO.dst,lk,drop,Nat.reduceBEq,Nat.reduceAdd,Nat.reduceLeDiff,↓reduceIte,reduceCtorEq,hwl,hlt,hxi,hld]
  (repeat' ((first | (rw[gF_if];split) | (rw[condC_if];split) | (rw[pickR_if];split))<;>(rename_i hh;(try simp only[Bool.not_eq_true,decide_eq_true_eq] at hh);simp only[hh,rn,RO.dst,lk,drop,Nat.reduceBEq,Nat.reduceAdd,Nat.reduceLeDiff,↓reduceIte,reduceCtorEq,hws,hxi,hld])))<;>first
   | exact .inl ⟨by simp_all,rfl⟩
   | exact .inr ⟨by simp_all,_,rfl,rfl,rfl⟩
 have hlt: ¬(s.shards.length:Int)<s.shards.length:=by omega
 simp only[show ((0:Nat):Int)=0 from rfl] at key
 rcases key with ⟨k1,k2⟩ | ⟨i,k1,hi,s,k2,k3,k4⟩
 ·rw[k2,loop_run]
  conv in (codeF _ _ r210L0 _)=>unfold r210L0
  simp only[rn,RO.dst,lk,drop,Nat.reduceBEq,Nat.reduceAdd,Nat.reduceLeDiff,↓reduceIte,reduceCtorEq,hwl,hlt,findAt,findI,k1]
 ·rw[k2]
  simp only[rn,RO.dst,lk,drop,Nat.reduceBEq,Nat.reduceAdd,Nat.reduceLeDiff,↓reduceIte,reduceCtorEq,k3,k4,findAt,findI,k1]
end
end Go.Proofs.YthofpopafchelaaGreat.A
namespace Go.Proofs.YthofpopafchelaaGreat.A
open Go
set_option linter.unusedSimpArgs false
set_option linter.unusedVariables false
theorem flatMap_one {α β:Type} (g:α→β) (xs:List α):xs.flatMap (fun r=>[g r])=xs.map g:=by
 induction xs with
 | nil=>rfl
 | cons a r ih=>rw[List.flatMap_cons,ih];rfl
section
variable {F:Nat→Option RF} {Z:CallF} {h:Heap} {x:Cell} {xs:List Account} {fp fq:List Nat}
theorem copyBook_c (hI10:Has F tI10) (hf:h.floor≤h.next) (w:SlR 11 (Fl Account.enc) h x xs fp) (sm:xs.length≤1048576): ∃y h' fq,call F Z 260 [.agg [x]] h=some (.agg [y],h')∧On h h'∧SlR 11 (Fl Account.enc) h' y xs fq∧Fre h fq:=by
 have a0:=Acc.lit0 (tag:=11) (On.refl h)
 have w':=w.on (Fl.ok _) (On.push h [])
 have ce:=a0.cat_eq (bytes:=40) (y:=x) (new:=xs.map Account.enc) hf w'.isTag w'.rows (by simp;omega)
 have ac:=a0.cat (new:=xs.map Account.enc) hf (by simp;omega)
 simp only[List.nil_append] at ac
 obtain ⟨o,fq,u,f⟩:=ac.flat
 rw[call_run F Z (hI10.lk (g:=260) rfl) _ _ rfl]
 simp only[rn,RO.dst,lk,drop,Nat.reduceBEq,Nat.reduceAdd,Nat.reduceLeDiff,↓reduceIte,reduceCtorEq,List.replicate_zero,fills,ce]
 exact ⟨_,_,_,rfl,o,u,f⟩
theorem l10Copy_c (hS10:Has F tS10) (hf:h.floor≤h.next) (w:SlR 11 (Fl Account.enc) h x xs fp) (sm:xs.length≤1048576): ∃y h' fq,call F Z 259 [.agg [x]] h=some (.agg [y],h')∧On h h'∧SlR 11 (Fl Account.enc) h' y xs fq∧Fre h fq:=by
 rw[call_run F Z (hS10.lk (g:=259) rfl) _ _ rfl]
 simp only[rn,RO.dst,lk,drop,Nat.reduceBEq,Nat.reduceAdd,Nat.reduceLeDiff,↓reduceIte,reduceCtorEq]
 obtain ⟨y1,h1,a1,l1⟩:=loop_acc (F:=F) (Z:=Z) (live:=[1,2,3,4]) (b:=r259L0) xs (fun r=>[r.enc]) 11 h (fun i y g=>⟨[(4,.c (.int .i64 (i:Nat)))],[(1,1,0),(2,2,0),(3,3,0)],[(1,[x]),(2,[.nil]),(3,[y])],g⟩) (fun r=>by simp) (fun i hi y g rows a hr=>by
  have e1:=a.one_eq hf (bytes:=40) (by omega)
  have a1:=a.one hf (by omega)
  have hlt:(i:Int)<xs.length:=by omega
  have wg:=w.on (Fl.ok _) a.on
  rw[loop_run]
  conv in (codeF _ _ r259L0 _)=>unfold r259L0
  simp only[rn,RO.dst,lk,drop,Nat.reduceBEq,Nat.reduceAdd,Nat.reduceLeDiff,↓reduceIte,reduceCtorEq,w.len,hlt,w.idx hi,wg.load hi,Account.len,Account.tak,wrapS i (by omega),List.replicate_succ,List.replicate_zero,fills,and_self,Nat.zero_lt_one,List.set_cons_zero,e1]
  exact ⟨_,_,a1 _,rfl⟩) (Acc.nil 11 h)
 simp only[show ((0:Nat):Int)=0 from rfl] at l1
 have hlt: ¬(xs.length:Int)<xs.length:=by omega
 rw[l1,loop_run]
 conv in (codeF _ _ r259L0 _)=>unfold r259L0
 simp only[rn,RO.dst,lk,drop,Nat.reduceBEq,Nat.reduceAdd,Nat.reduceLeDiff,↓reduceIte,reduceCtorEq,w.len,hlt]
 rw[flatMap_one] at a1
 obtain ⟨o,fq,u,f⟩:=a1.flat
 exact ⟨_,_,_,rfl,o,u,f⟩
end
end Go.Proofs.YthofpopafchelaaGreat.A
namespace Go.Proofs.YthofpopafchelaaGreat.A
open Go
set_option linter.unusedSimpArgs false
set_option linter.unusedVariables false
def Shard.cells (t:Shard) (x y:Cell):List Cell:=[.int .u64 t.lo,.int .u64 t.hi,.int .i64 t.state,.int .i64 t.epoch,x,y]
section
variable {F:Nat→Option RF} {Z:CallF} {h:Heap} {x:Cell} {xs:List Shard} {fp fq:List Nat}
theorem SlR.found (w:SlR 16 Shard.RI h x xs fp) (p:Shard→Bool):findI p xs= -1∨ ∃i:Nat,findI p xs=(i:Int)∧i<xs.length∧p (Shard.at_ xs i)=true∧idxR 16 (some x) (some (i:Int))=some (.ptr x.sid i 0)∧
 ∃y z,∀j n,loadP h x.sid i j n=cut? ((Shard.at_ xs i).cells y z) j n:=by
 by_cases h0:0≤findI p xs
 ·obtain ⟨i,e,hi,hp⟩:=findI_at h0
  obtain ⟨r,f,hl,hR,_⟩:=w.one hi
  rw[←Shard.at_get hi] at hR hp
  obtain ⟨x1,p1,x2,p2,rfl,_⟩:=hR
  exact .inr ⟨i,e,hi,hp,w.idx hi,x1,x2,hl⟩
 ·exact .inl (findI_no (by omega))
end
end Go.Proofs.YthofpopafchelaaGreat.A
namespace Go.Proofs.YthofpopafchelaaGreat.A
open Go
set_option linter.unusedSimpArgs false
set_option linter.unusedVariables false
section
variable {F:Nat→Option RF} {Z:CallF} {h:Heap} {x:Cell} {xs:List Account} {fp fq:List Nat} {cs:List Cell} {t:Shard}
theorem copyShard_c (hI10:Has F tI10) (hI13:Has F tI13) (hf:h.floor≤h.next) (v:Shard.RI h cs t fp) (sm:t.Small): ∃cs' h' fq,call F Z 229 [.agg cs] h=some (.agg cs',h')∧On h h'∧Shard.RI h' cs' t fq∧Fre h fq:=by
 obtain ⟨x,p,y,q,rfl,rfl,w,u⟩:=v
 obtain ⟨y1,h1,q1,e1,o1,u1,f1⟩:=copyBook_c (Z:=Z) hI10 hf w sm.1
 have sm2:t.finished.length≤1048576:=sm.2
 have hf1:=o1.le hf
 have a0:=Acc.lit0 (tag:=9) (On.refl h1)
 have w':=(u.on (Fl.ok _) o1).on (Fl.ok _) (On.push h1 [])
 have ce:=a0.cat_eq (bytes:=16) (y:=y) (new:=t.finished.map Fin.enc) hf1 w'.isTag w'.rows (by simp;omega)
 have ac:=a0.cat (new:=t.finished.map Fin.enc) hf1 (by simp;omega)
 simp only[List.nil_append] at ac
 obtain ⟨o,fq,u2,f⟩:=ac.flat
 rw[call_run F Z (hI13.lk (g:=229) rfl) _ _ rfl]
 simp only[rn,RO.dst,lk,drop,Nat.reduceBEq,Nat.reduceAdd,Nat.reduceLeDiff,↓reduceIte,reduceCtorEq,e1,List.replicate_zero,fills,ce]
 exact ⟨_,_,_,rfl,o1.trans o,⟨_,_,_,_,rfl,rfl,u1.on (Fl.ok _) o,u2⟩,f1.app (u1.lt (Fl.ok _)) f o1.ext.1⟩
theorem l13CopyShard_c (hS10:Has F tS10) (hS13:Has F tS13) (hf:h.floor≤h.next) (v:Shard.RI h cs t fp) (sm:t.Small): ∃cs' h' fq,call F Z 228 [.agg cs] h=some (.agg cs',h')∧On h h'∧Shard.RI h' cs' t fq∧Fre h fq:=by
 obtain ⟨x,p,y,q,rfl,rfl,w,u⟩:=v
 obtain ⟨y1,h1,q1,e1,o1,u1,f1⟩:=l10Copy_c (Z:=Z) hS10 hf w sm.1
 have sm2:t.finished.length≤1048576:=sm.2
 have hf1:=o1.le hf
 rw[call_run F Z (hS13.lk (g:=228) rfl) _ _ rfl]
 simp only[rn,RO.dst,lk,drop,Nat.reduceBEq,Nat.reduceAdd,Nat.reduceLeDiff,↓reduceIte,reduceCtorEq,e1,List.replicate_zero,fills]
 obtain ⟨y2,h2,a2,l2⟩:=loop_acc (F:=F) (Z:=Z) (live:=[1,2,3,4]) (b:=r228L0) t.finished (fun r=>[r.enc]) 9 h1 (fun i z g=>⟨[(3,.c z),(4,.c (.int .i64 (i:Nat)))],[(1,1,0),(2,2,0)],[(1,[.int .u64 t.lo,.int .u64 t.hi,.int .i64 t.state,.int .i64 t.epoch,y1,y]),(2,[.int .u64 0,.int .u64 0,.int .i64 0,.int .i64 0,.nil,.nil])],g⟩) (fun r=>by simp) (fun i hi z g rows a hr=>by
  have e1:=a.one_eq hf1 (bytes:=16) (by omega)
  have a1:=a.one hf1 (by omega)
  have hlt:(i:Int)<t.finished.length:=by omega
  have wg:=(u.on (Fl.ok _) o1).on (Fl.ok _) a.on
  rw[loop_run]
  conv in (codeF _ _ r228L0 _)=>unfold r228L0
  simp only[rn,RO.dst,lk,drop,Nat.reduceBEq,Nat.reduceAdd,Nat.reduceLeDiff,↓reduceIte,reduceCtorEq,u.len,hlt,u.idx hi,wg.load hi,Fin.len,Fin.tak,wrapS i (by omega),List.replicate_succ,List.replicate_zero,fills,and_self,Nat.zero_lt_one,List.set_cons_zero,e1]
  exact ⟨_,_,a1 _,rfl⟩) (Acc.lit0 (On.refl h1))
 simp only[show ((0:Nat):Int)=0 from rfl] at l2
 have hlt: ¬(t.finished.length:Int)<t.finished.length:=by omega
 rw[l2,loop_run]
 conv in (codeF _ _ r228L0 _)=>unfold r228L0
 simp only[rn,RO.dst,lk,drop,Nat.reduceBEq,Nat.reduceAdd,Nat.reduceLeDiff,↓reduceIte,reduceCtorEq,u.len,hlt]
 rw[flatMap_one] at a2
 obtain ⟨o,fq,u2,f⟩:=a2.flat
 exact ⟨_,_,_,rfl,o1.trans o,⟨_,_,_,_,rfl,rfl,u1.on (Fl.ok _) o,u2⟩,f1.app (u1.lt (Fl.ok _)) f o1.ext.1⟩
variable {s:Store}
theorem Store.at_small (sm:s.Small) {i:Nat} (hi:i<s.shards.length):(Shard.at_ s.shards i).Small:=by
 rw[Shard.at_get hi]
 exact sm.2 _ (List.getElem_mem hi)
theorem SlR.atR {ys:List Shard} (w:SlR 16 Shard.RI h x ys fp) {i:Nat} (hi:i<ys.length): ∃r f,(∀j n,loadP h x.sid i j n=cut? r j n)∧Shard.RI h r (Shard.at_ ys i) f∧ ∀id,id∈f→id∈fp:=by
 rw[Shard.at_get hi]
 exact w.one hi
end
end Go.Proofs.YthofpopafchelaaGreat.A
namespace Go.Proofs.YthofpopafchelaaGreat.A
open Go
set_option linter.unusedSimpArgs false
set_option linter.unusedVariables false
def Fin.pr (f:Fin):Int×Int:=(f.tx,f.id)
def un2 (x:Int×Int):Fin:=⟨x.1,x.2⟩
def sortFins (xs:List Fin):List Fin:=(sort2 (xs.map Fin.pr)).map un2
def flt (f g:Fin):Prop:=f.tx<g.tx∨(f.tx=g.tx∧f.id<g.id)
instance (f g:Fin):Decidable (flt f g):=inferInstanceAs (Decidable (_∨_))
theorem cmp_flt (f g:Fin):decide (cmpFin f g<0)=decide (flt f g):=by
 rw[cmpFin_lt]
 unfold flt
 by_cases h1:f.tx<g.tx<;>by_cases h2:f.tx=g.tx<;>by_cases h3:f.id<g.id<;>simp[h1,h2,h3]
theorem flt.trans {f g k:Fin} (h:flt f g) (h2:flt g k):flt f k:=by unfold flt at *;omega
theorem flt.irr {f:Fin} (h:flt f f):False:=by unfold flt at h;omega
theorem flt.tot {f g:Fin} (h: ¬flt f g) (h2:f≠g):flt g f:=by
 obtain ⟨a,b⟩:=f
 obtain ⟨c,d⟩:=g
 unfold flt at *
 simp only[ne_eq,Fin.mk.injEq] at *
 omega
theorem un2_pr (xs:List Fin):(xs.map Fin.pr).map un2=xs:=by
 rw[List.map_map]
 exact (List.map_congr_left (fun a _=>rfl)).trans (List.map_id xs)
theorem sortFins_perm (xs:List Fin):(sortFins xs).Perm xs:=by
 have:=(sort2_perm (xs.map Fin.pr)).map un2
 rwa [un2_pr] at this
theorem sortFins_len (xs:List Fin):(sortFins xs).length=xs.length:=(sortFins_perm xs).length_eq
theorem sortFins_cells (xs:List Fin):(sort2 (xs.map Fin.pr)).map enc2=(sortFins xs).map Fin.enc:=by
 unfold sortFins
 rw[List.map_map]
 rfl
theorem decs_fins: ∀xs:List Fin,decs2 (xs.map Fin.enc)=some (xs.map Fin.pr)
 | []=>rfl
 | x::xs=>by
   simp only[List.map_cons,decs2,decs_fins xs]
   rfl
theorem sortFins_eq {xs ys:List Fin} (p:ys.Perm xs) (s:ys.Pairwise flt):sortFins xs=ys:=by
 have:sort2 (xs.map Fin.pr)=ys.map Fin.pr:=by
  unfold sort2
  refine List.Perm.eq_of_pairwise (le:=fun x y=>(!(ltOf cmp2) y x)=true) ?_ ?_ ?_ ((List.mergeSort_perm _ _).trans (p.symm.map _))
  ·intro a b _ _ h1 h2
   simp only[Bool.not_eq_true'] at h1 h2
   exact tot2 a b h2 h1
  ·refine List.pairwise_mergeSort ?_ ?_ _
   ·intro a b c h1 h2
    simp only[Bool.not_eq_true'] at h1 h2 ⊢
    exact swo2.ntrans c b a h2 h1
   ·intro a b
    cases h:ltOf cmp2 b a with
    | false=>simp
    | true=>
      have:ltOf cmp2 a b=false:=by
       rw[lt2] at h ⊢
       simp at h ⊢
       omega
      simp[this]
  ·rw[List.pairwise_map]
   refine s.imp ?_
   intro a b h
   rw[lt2]
   unfold flt at h
   have: ¬(b.tx<a.tx∨(b.tx=a.tx∧b.id<a.id)):=by omega
   rw[Bool.not_eq_true',decide_eq_false_iff_not]
   exact this
 unfold sortFins
 rw[this,un2_pr]
theorem sortFins_id {xs:List Fin} (s:xs.Pairwise flt):sortFins xs=xs:=sortFins_eq (List.Perm.refl _) s
theorem sortFins_sorted {xs:List Fin} (nd:xs.Nodup):(sortFins xs).Pairwise flt:=by
 have hs:(sort2 (xs.map Fin.pr)).Pairwise (fun x y=>(!(ltOf cmp2) y x)=true):=by
  refine List.pairwise_mergeSort ?_ ?_ _
  ·intro a b c h1 h2
   simp only[Bool.not_eq_true'] at h1 h2 ⊢
   exact swo2.ntrans c b a h2 h1
  ·intro a b
   cases h:ltOf cmp2 b a with
   | false=>simp
   | true=>
     have:ltOf cmp2 a b=false:=by
      rw[lt2] at h ⊢
      simp at h ⊢
      omega
     simp[this]
 have hn:(sortFins xs).Nodup:=(sortFins_perm xs).nodup_iff.2 nd
 unfold sortFins at *
 rw[List.pairwise_map]
 rw[List.Nodup,List.pairwise_map] at hn
 refine (hs.and hn).imp ?_
 rintro a b ⟨h1,h2⟩
 rw[lt2] at h1
 simp only[Bool.not_eq_true',decide_eq_false_iff_not] at h1
 obtain ⟨a1,a2⟩:=a
 obtain ⟨b1,b2⟩:=b
 simp only[un2,ne_eq,Fin.mk.injEq] at h2
 unfold flt un2
 simp only at h1 ⊢
 omega
def addStep (f:Fin) (s:List Fin×Bool) (t:Fin):List Fin×Bool:=bif !s.2&&decide (flt f t) then (s.1++[f]++[t],true) else (s.1++[t],s.2)
def addFin (xs:List Fin) (f:Fin):List Fin:=bif (xs.foldl (addStep f) ([],decide (f∈xs))).2 then (xs.foldl (addStep f) ([],decide (f∈xs))).1 else (xs.foldl (addStep f) ([],decide (f∈xs))).1++[f]
theorem addStep_t (f:Fin): ∀(xs pre:List Fin),xs.foldl (addStep f) (pre,true)=(pre++xs,true)
 | [],pre=>by simp
 | x::xs,pre=>by
   rw[List.foldl_cons,show addStep f (pre,true) x=(pre++[x],true) from rfl,addStep_t f xs]
   simp
theorem addStep_f (f:Fin): ∀(xs pre:List Fin),(bif (xs.foldl (addStep f) (pre,false)).2 then (xs.foldl (addStep f) (pre,false)).1 else (xs.foldl (addStep f) (pre,false)).1++[f])=pre++(xs.takeWhile (fun t=> !decide (flt f t))++[f]++xs.dropWhile (fun t=> !decide (flt f t)))
 | [],pre=>by simp
 | x::xs,pre=>by
   rw[List.foldl_cons]
   by_cases h:flt f x
   ·rw[show addStep f (pre,false) x=(pre++[f]++[x],true) from by simp[addStep,h],addStep_t]
    simp[h]
   ·rw[show addStep f (pre,false) x=(pre++[x],false) from by simp[addStep,h],addStep_f f xs]
    simp[h]
theorem addFin_in {xs:List Fin} {f:Fin} (h:f∈xs):addFin xs f=xs:=by
 unfold addFin
 rw[decide_eq_true h,addStep_t]
 simp
theorem addFin_new {xs:List Fin} {f:Fin} (h:f∉xs):addFin xs f=xs.takeWhile (fun t=> !decide (flt f t))++[f]++xs.dropWhile (fun t=> !decide (flt f t)):=by
 unfold addFin
 rw[decide_eq_false h,addStep_f]
 simp
theorem drop_head {p:Fin→Bool}: ∀{xs:List Fin} {y:Fin} {ys:List Fin},xs.dropWhile p=y::ys→p y=false
 | x::xs,y,ys,h=>by
   rw[List.dropWhile_cons] at h
   split at h
   ·exact drop_head h
   ·rename_i hx
    injection h with h1 h2
    subst h1
    simpa using hx
theorem addFin_sort {xs:List Fin} {f:Fin} (s:xs.Pairwise flt) (h:f∉xs):addFin xs f=sortFins (xs++[f]):=by
 rw[addFin_new h]
 refine (sortFins_eq ?_ ?_).symm
 ·have e:xs.takeWhile (fun t=> !decide (flt f t))++xs.dropWhile (fun t=> !decide (flt f t))=xs:=List.takeWhile_append_dropWhile
  have h1:(xs.takeWhile (fun t=> !decide (flt f t))++[f]++xs.dropWhile (fun t=> !decide (flt f t))).Perm (f::(xs.takeWhile (fun t=> !decide (flt f t))++xs.dropWhile (fun t=> !decide (flt f t)))):=by
   rw[List.append_assoc];exact List.perm_middle
  refine h1.trans ?_
  rw[e];exact (List.perm_append_singleton f xs).symm
 ·have hs:=s
  rw[←List.takeWhile_append_dropWhile (p:=fun t=> !decide (flt f t)) (l:=xs),List.pairwise_append] at hs
  obtain ⟨s1,s2,s3⟩:=hs
  have ht: ∀t,t∈xs.takeWhile (fun t=> !decide (flt f t))→flt t f:=by
   intro t ht
   have h1:(!decide (flt f t))=true:=List.all_eq_true.1 (List.all_takeWhile (p:=fun t=> !decide (flt f t)) (l:=xs)) t ht
   have h2:t∈xs:=(List.takeWhile_sublist _).subset ht
   have h3: ¬flt f t:=by simpa using h1
   exact flt.tot h3 fun e=>h (e▸h2)
  have hd: ∀t,t∈xs.dropWhile (fun t=> !decide (flt f t))→flt f t:=by
   intro t ht
   cases hx:xs.dropWhile (fun t=> !decide (flt f t)) with
   | nil=>rw[hx] at ht;cases ht
   | cons y ys=>
     have hy:flt f y:=by
      have:=drop_head hx
      simpa using this
     rw[hx] at ht s2
     rcases List.mem_cons.1 ht with rfl | ht
     ·exact hy
     ·exact hy.trans ((List.pairwise_cons.1 s2).1 t ht)
  rw[List.append_assoc,List.pairwise_append]
  refine ⟨s1,List.pairwise_append.2 ⟨List.pairwise_singleton _ _,s2,fun a ha b hb=> ?_⟩,fun a ha b hb=> ?_⟩
  ·rw[List.mem_singleton] at ha
   subst ha
   exact hd b hb
  ·rcases List.mem_append.1 hb with hb | hb
   ·rw[List.mem_singleton] at hb
    subst hb
    exact ht a ha
   ·exact s3 a ha b hb
theorem Shard.fins_sorted {s:Shard} (h: ∀i,i<s.finished.length→s.finAt i=true):s.finished.Pairwise flt:=by
 have step: ∀i (hi:i+1<s.finished.length),flt (s.finished[i]'(by omega)) (s.finished[i+1]'hi):=by
  intro i hi
  have:=h (i+1) hi
  simp only[Shard.finAt,Bool.and_eq_true,Bool.or_eq_true,beq_iff_eq,Nat.add_one_ne_zero,false_or,Nat.add_sub_cancel] at this
  have h2:=this.2.2.2
  rw[cmp_flt] at h2
  have h3:flt _ _:=of_decide_eq_true h2
  simp only[Fin.at_,List.getElem?_eq_getElem hi,List.getElem?_eq_getElem (show i<s.finished.length by omega),Option.getD_some] at h3
  exact h3
 rw[List.pairwise_iff_getElem]
 intro i j hi hj hij
 obtain ⟨d,rfl⟩: ∃d,j=i+1+d:=⟨j-i-1,by omega⟩
 clear hij
 induction d with
 | zero=>exact step i hj
 | succ d ih=>exact (ih (by omega)).trans (step (i+1+d) hj)
theorem Shard.good_fin {s:Shard} (h:s.good=true): ∀i,i<s.finished.length→s.finAt i=true:=by
 intro i hi
 simp only[Shard.good,Bool.and_eq_true,List.all_eq_true] at h
 exact h.2.2 i (List.mem_range.2 hi)
theorem Shard.good_in {s:Shard} (h:s.good=true) {f:Fin} (hf:f∈s.finished):1≤f.tx∧s.lo≤f.id∧f.id≤s.hi:=by
 obtain ⟨i,hi,rfl⟩:=List.mem_iff_getElem.1 hf
 have:=Shard.good_fin h i hi
 simp only[Shard.finAt,Bool.and_eq_true,decide_eq_true_eq,Fin.at_,List.getElem?_eq_getElem hi,Option.getD_some] at this
 exact ⟨this.1,this.2.1,this.2.2.1⟩
theorem Shard.good_sorted {s:Shard} (h:s.good=true):s.finished.Pairwise flt:=Shard.fins_sorted (Shard.good_fin h)
theorem flt_nodup {xs:List Fin} (s:xs.Pairwise flt):xs.Nodup:=s.imp fun h e=>by subst e;exact h.irr
theorem addFins {xs ys:List Fin} (sx:xs.Pairwise flt) (nd:(xs++ys).Nodup):ys.foldl addFin xs=sortFins (xs++ys):=by
 induction ys generalizing xs with
 | nil=>rw[List.append_nil,sortFins_id sx];rfl
 | cons y ys ih=>
   rw[List.foldl_cons]
   have hn:y∉xs:=by
    intro h
    rw[List.nodup_append] at nd
    exact nd.2.2 y h y (List.mem_cons_self ..) rfl
   have nd1:(xs++[y]).Nodup:=by
    have:(xs++[y]++ys).Nodup:=by simpa using nd
    exact (List.nodup_append.1 this).1
   have nd2:(sortFins (xs++[y])++ys).Nodup:=by
    have:(sortFins (xs++[y])++ys).Perm (xs++y::ys):=by
     have:=(sortFins_perm (xs++[y])).append_right ys
     simpa using this
    exact this.nodup_iff.2 nd
   rw[addFin_sort sx hn,ih (sortFins_sorted nd1) nd2]
   refine sortFins_eq ?_ (sortFins_sorted nd)
   refine (sortFins_perm _).trans ?_
   have:=((sortFins_perm (xs++[y])).append_right ys).symm
   simpa using this
end Go.Proofs.YthofpopafchelaaGreat.A
namespace Go.Proofs.YthofpopafchelaaGreat.A
open Go
set_option linter.unusedSimpArgs false
set_option linter.unusedVariables false
def Account.less (id:Int) (b:Account):Bool:=decide (b.id<id)
def accAt (xs:List Account) (id:Int):Int:=findI (fun b=>b.id==id) xs
def accGo (xs:List Account) (id:Int):Nat:=(xs.takeWhile (Account.less id)).length
def accIs (xs:List Account) (id:Int):Bool:=decide (accGo xs id<xs.length)&&((Account.at_ xs (accGo xs id)).id==id)
theorem Account.at_get {xs:List Account} {i:Nat} (hi:i<xs.length):Account.at_ xs i=xs[i]:=by simp[Account.at_,List.getElem?_eq_getElem hi]
theorem accGo_le (xs:List Account) (id:Int):accGo xs id≤xs.length:=(List.takeWhile_sublist _).length_le
theorem accGo_lt (id:Int): ∀(xs:List Account) (i:Nat) (hi:i<accGo xs id) (h:i<xs.length),xs[i].id<id
 | [],i,hi,h=>by simp at h
 | a::r,i,hi,h=>by
   simp only[accGo,List.takeWhile_cons] at hi
   cases ha:Account.less id a with
   | false=>rw[ha] at hi;simp at hi
   | true=>
     rw[ha] at hi
     simp only[↓reduceIte,List.length_cons] at hi
     cases i with
     | zero=>simpa[Account.less] using ha
     | succ i=>exact accGo_lt id r i (by simp only[accGo];omega) (by simpa using h)
theorem accGo_end (id:Int): ∀(xs:List Account) (h:accGo xs id<xs.length),¬(xs[accGo xs id]).id<id
 | [],h=>by simp at h
 | a::r,h=>by
   cases ha:Account.less id a with
   | false=>
     have e:accGo (a::r) id=0:=by simp[accGo,List.takeWhile_cons,ha]
     simp only[e,List.getElem_cons_zero]
     simpa[Account.less] using ha
   | true=>
     have e:accGo (a::r) id=accGo r id+1:=by simp[accGo,List.takeWhile_cons,ha]
     simp only[e,List.getElem_cons_succ]
     exact accGo_end id r (by rw[e] at h;simpa using h)
theorem book_fit {xs:List Account} (g:bookOk xs=true) {j:Nat} (hj:j<xs.length):Account.fits xs j=true:=by
 simp only[bookOk,Bool.and_eq_true,List.all_eq_true,List.mem_range] at g
 exact g.1 j hj
theorem book_len {xs:List Account} (g:bookOk xs=true):xs.length≤40:=by
 simp only[bookOk,Bool.and_eq_true,decide_eq_true_eq] at g
 omega
theorem book_fine {xs:List Account} (g:bookOk xs=true) {j:Nat} (hj:j<xs.length):(Account.at_ xs j).fine=true:=by
 have:=book_fit g hj
 simp only[Account.fits,Bool.and_eq_true] at this
 exact this.1
theorem book_gap {xs:List Account} (g:bookOk xs=true) {j:Nat} (hj:j+1<xs.length):xs[j].id<xs[j+1].id:=by
 have:=book_fit g hj
 simp only[Account.fits,Bool.and_eq_true,Bool.or_eq_true,decide_eq_true_eq,beq_iff_eq] at this
 rcases this.2 with h | h
 ·omega
 ·simp only[Nat.add_sub_cancel] at h
  rw[Account.at_get hj,Account.at_get (by omega)] at h
  exact h
theorem book_sorted {xs:List Account} (g:bookOk xs=true) (i:Nat): ∀(d:Nat) (hj:i+d+1<xs.length),xs[i].id<xs[i+d+1].id
 | 0,hj=>book_gap g hj
 | d+1,hj=>by
   have h1:=book_sorted g i d (by omega)
   have h2:=book_gap g (j:=i+d+1) hj
   have e:i+(d+1)+1=i+d+1+1:=by omega
   simp only[e]
   omega
theorem book_lt {xs:List Account} (g:bookOk xs=true) {i j:Nat} (hj:j<xs.length) (hij:i<j):xs[i].id<xs[j].id:=by
 obtain ⟨d,rfl⟩: ∃d,j=i+d+1:=⟨j-i-1,by omega⟩
 exact book_sorted g i d hj
theorem book_inj {xs:List Account} (g:bookOk xs=true) {i j:Nat} (hi:i<xs.length) (hj:j<xs.length) (e:xs[i].id=xs[j].id):i=j:=by
 rcases Nat.lt_trichotomy i j with h | h | h
 ·have:=book_lt g hj h;omega
 ·exact h
 ·have:=book_lt g hi h;omega
def Srt (xs:List Account):Prop:=xs.Pairwise (fun a b=>a.id<b.id)
theorem srt_lt {xs:List Account} (g:Srt xs) {i j:Nat} (hj:j<xs.length) (hij:i<j):xs[i].id<xs[j].id:=List.pairwise_iff_getElem.1 g i j (by omega) hj hij
theorem srt_inj {xs:List Account} (g:Srt xs) {i j:Nat} (hi:i<xs.length) (hj:j<xs.length) (e:xs[i].id=xs[j].id):i=j:=by
 rcases Nat.lt_trichotomy i j with h | h | h
 ·have:=srt_lt g hj h;omega
 ·exact h
 ·have:=srt_lt g hi h;omega
theorem book_srt {xs:List Account} (g:bookOk xs=true):Srt xs:=List.pairwise_iff_getElem.2 fun i j _ hj hij=>book_lt g hj hij
theorem acc_foundS {xs:List Account} (g:Srt xs) (id:Int):(accAt xs id= -1∧accIs xs id=false)∨ ∃i:Nat,accAt xs id=(i:Int)∧accIs xs id=true∧accGo xs id=i∧i<xs.length∧(Account.at_ xs i).id=id:=by
 cases hi:accIs xs id with
 | true=>
   right
   simp only[accIs,Bool.and_eq_true,decide_eq_true_eq,beq_iff_eq] at hi
   refine ⟨accGo xs id,?_,rfl,rfl,hi.1,hi.2⟩
   rw[Account.at_get hi.1] at hi
   have hn:accAt xs id≠ -1:=fun hc=>by
    simp only[accAt,findI] at hc
    split at hc
    ·omega
    ·rename_i hf
     rw[List.findIdx?_eq_none_iff] at hf
     have:=hf _ (List.getElem_mem hi.1)
     simp[hi.2] at this
   have h0:0≤accAt xs id:=by
    have:=(findI_lt (p:=fun b:Account=>b.id==id) (xs:=xs)).1
    unfold accAt at hn ⊢
    omega
   obtain ⟨i,e,hil,hp⟩:=findI_at (p:=fun b:Account=>b.id==id) (xs:=xs) h0
   have hp':xs[i].id=id:=by simpa using hp
   rw[show accAt xs id=(i:Int) from e,srt_inj g hil hi.1 (hp'.trans hi.2.symm)]
 | false=>
   left
   refine ⟨?_,rfl⟩
   apply findI_no
   by_cases h0:0≤findI (fun b:Account=>b.id==id) xs
   ·obtain ⟨i,e,hil,hp⟩:=findI_at h0
    have hp':xs[i].id=id:=by simpa using hp
    exfalso
    have hle:=accGo_le xs id
    have h1: ¬i<accGo xs id:=fun hc=>by have:=accGo_lt id xs i hc hil;omega
    have h2:accGo xs id<xs.length:=by omega
    have h3:=accGo_end id xs h2
    simp only[accIs,h2,decide_true,Bool.true_and,Account.at_get h2,beq_eq_false_iff_ne,ne_eq] at hi
    rcases Nat.lt_or_ge (accGo xs id) i with h4 | h4
    ·have:=srt_lt g hil h4;omega
    ·have:i=accGo xs id:=by omega
     subst this
     exact hi hp'
   ·omega
theorem acc_found {xs:List Account} (g:bookOk xs=true) (id:Int):(accAt xs id= -1∧accIs xs id=false)∨ ∃i:Nat,accAt xs id=(i:Int)∧accIs xs id=true∧accGo xs id=i∧i<xs.length∧(Account.at_ xs i).id=id:=acc_foundS (book_srt g) id
section
variable {F:Nat→Option RF} {Z:CallF} {h:Heap} {x:Cell} {xs:List Account} {fp:List Nat}
theorem l10Find_run (hS10:Has F tS10) (w:SlR 11 (Fl Account.enc) h x xs fp) (id:Int):call F Z 328 [.agg [x],.c (.int .u64 id)] h=some (.c (.int .i64 (accAt xs id)),h):=by
 have hle:=w.le2
 have hwl:=w.len
 rw[call_run F Z (hS10.lk (g:=328) rfl) _ _ rfl]
 simp only[rn,RO.dst,lk,drop,Nat.reduceBEq,Nat.reduceAdd,Nat.reduceLeDiff,↓reduceIte,reduceCtorEq]
 have key:=loop_find (F:=F) (Z:=Z) (live:=[1,2,5]) (b:=r328L0) xs (fun b=>b.id==id) (fun i=>⟨[(1,.c (.int .u64 id)),(5,.c (.int .i64 (i:Nat)))],[(2,2,0)],[(2,[x])],h⟩) (fun i s=>lk s.env 4=some (.c (.int .i64 (i:Nat)))∧s.hp=h) fun i hi=>by
  have hlt:(i:Int)<xs.length:=by omega
  have hws:=wrapS i (by omega)
  have hld:=w.load hi
  have hxi:=w.idx hi
  clear w
  rw[loop_run]
  conv in (codeF _ _ r328L0 _)=>unfold r328L0
  simp only[Account.enc] at hld
  simp only[rn,RO.dst,lk,drop,Nat.reduceBEq,Nat.reduceAdd,Nat.reduceLeDiff,↓reduceIte,reduceCtorEq,hwl,hlt,hxi,hld]
  (repeat' ((first | (rw[gF_if];split) | (rw[condC_if];split) | (rw[pickR_if];split))<;>(rename_i hh;(try simp only[Bool.not_eq_true,decide_eq_true_eq] at hh);simp only[hh,rn,RO.dst,lk,drop,Nat.reduceBEq,Nat.reduceAdd,Nat.reduceLeDiff,↓reduceIte,reduceCtorEq,hws,hxi,hld])))<;>first
   | exact .inl ⟨by simp_all,rfl⟩
   | exact .inr ⟨by simp_all,_,rfl,rfl,rfl⟩
 have hlt: ¬(xs.length:Int)<xs.length:=by omega
 simp only[show ((0:Nat):Int)=0 from rfl] at key
 rcases key with ⟨k1,k2⟩ | ⟨i,k1,hi,s,k2,k3,k4⟩
 ·rw[k2,loop_run]
  conv in (codeF _ _ r328L0 _)=>unfold r328L0
  simp only[rn,RO.dst,lk,drop,Nat.reduceBEq,Nat.reduceAdd,Nat.reduceLeDiff,↓reduceIte,reduceCtorEq,hwl,hlt,accAt,findI,k1]
 ·rw[k2]
  simp only[rn,RO.dst,lk,drop,Nat.reduceBEq,Nat.reduceAdd,Nat.reduceLeDiff,↓reduceIte,reduceCtorEq,k3,k4,accAt,findI,k1]
end
end Go.Proofs.YthofpopafchelaaGreat.A
namespace Go.Proofs.YthofpopafchelaaGreat.A
open Go
set_option linter.unusedSimpArgs false
set_option linter.unusedVariables false
section
variable {F:Nat→Option RF} {Z:CallF} {h:Heap} {x:Cell} {xs:List Shard} {fp fq:List Nat} {cs:List Cell} {s:Store} {t:Shard}
theorem copyShard_q (hI10:Has F tI10) (hI13:Has F tI13) (v:Shard.RI h cs t fp) (sm:t.Small):
 ∃cs' h' g fq,call F Z 229 [.agg cs] ⟨h.next,h.next,h.get⟩=some (.agg cs',h')∧Heap.mk h'.next h.floor h'.get=g∧On h g∧Shard.RI g cs' t fq∧Fre h fq∧cs'.length=6:=by
 obtain ⟨cs',h',fq,e,o,u,f⟩:=copyShard_c (Z:=Z) (h:=⟨h.next,h.next,h.get⟩) hI10 hI13 (Nat.le_refl _) (Shard.okI.up v h.next) sm
 exact ⟨cs',h',_,fq,e,rfl,⟨⟨o.ext.1,o.ext.2⟩,rfl⟩,Shard.okI.up u h.floor,⟨f.lo,f.nd⟩,(Shard.lenI u).1⟩
theorem l13CopyShard_q (hS10:Has F tS10) (hS13:Has F tS13) (v:Shard.RI h cs t fp) (sm:t.Small):
 ∃cs' h' g fq,call F Z 228 [.agg cs] ⟨h.next,h.next,h.get⟩=some (.agg cs',h')∧Heap.mk h'.next h.floor h'.get=g∧On h g∧Shard.RI g cs' t fq∧Fre h fq∧cs'.length=6:=by
 obtain ⟨cs',h',fq,e,o,u,f⟩:=l13CopyShard_c (Z:=Z) (h:=⟨h.next,h.next,h.get⟩) hS10 hS13 (Nat.le_refl _) (Shard.okI.up v h.next) sm
 exact ⟨cs',h',_,fq,e,rfl,⟨⟨o.ext.1,o.ext.2⟩,rfl⟩,Shard.okI.up u h.floor,⟨f.lo,f.nd⟩,(Shard.lenI u).1⟩
theorem AccM.next {g k:Heap} {y:Cell} {ys:List Shard} (a:AccM Shard.RI 16 h g y ys fp) (hf:h.floor≤h.next) (hl:ys.length≤1048576) (o:On g k) {cs':List Cell} (u:Shard.RI k cs' t fq) (f:Fre g fq):
 ∃y' g' fp',appF (k.push [cs']) 16 80 y (.sl 16 k.next 0 1)=some (y',g')∧AccM Shard.RI 16 h g' y' (ys++[t]) fp':=by
 have hlt: ∀id,id∈fp→id<g.next:=a.sh.lt Shard.okI
 obtain ⟨y',g',fp',e,a',_⟩:=a.one Shard.okI hf (bytes:=80) (by omega) (by omega) o u ⟨fun id hid=>Nat.le_trans a.on.ext.1 (f.lo id hid),f.nd⟩ (fun id h1 h2=>by
  have:=hlt id h2
  have:=f.lo id h1
  omega)
 exact ⟨y',g',fp',e,a'⟩
set_option maxHeartbeats 1000000 in
theorem copyStore_c (k:KI F) (hf:h.floor≤h.next) (v:Store.RI h cs s fp) (sm:s.Small):
 ∃cs' h' fq,call F Z 320 [.agg cs] h=some (.agg cs',h')∧On h h'∧Store.RI h' cs' s fq∧Fre h fq:=by
 obtain ⟨x,p,rfl,rfl,w⟩:=v
 have hle:=w.le2
 have hwl:=w.len
 rw[call_run F Z (k.i13.lk (g:=320) rfl) _ _ rfl]
 simp only[rn,RO.dst,lk,drop,Nat.reduceBEq,Nat.reduceAdd,Nat.reduceLeDiff,↓reduceIte,reduceCtorEq,hwl]
 obtain ⟨s',⟨y,g,fq,hs,a⟩,l1⟩:=loop_goes (F:=F) (Z:=Z) (live:=[2,3,12,13,14]) (b:=r320L0) s.shards.length (fun i st=> ∃y g fq,st=⟨[(12,.c x),(13,.c (.int .i64 (s.shards.length:Nat))),(14,.c (.int .i64 (i:Nat)))],[(2,2,0),(3,3,0)],[(2,[.int .i64 0,.int .i64 0,.nil]),(3,[.int .i64 s.group,.int .i64 s.seen,y])],g⟩∧AccM Shard.RI 16 h g y (s.shards.take i) fq) (fun i st hi ⟨y,g,fq,hs,a⟩=>by
  subst hs
  have hlt:(i:Int)<s.shards.length:=by omega
  have hws:=wrapS i (by omega)
  have hxi:=w.idx hi
  obtain ⟨r,f,hld,hR,_⟩:=(w.on Shard.okI a.on).one hi
  obtain ⟨r1,r2,r3⟩:=Shard.lenI hR
  obtain ⟨cs',h',g1,fr,e1,hg1,o1,u1,f1,c1⟩:=copyShard_q (Z:=Z) k.i10 k.i13 hR (sm.2 _ (List.getElem_mem hi))
  obtain ⟨y',g',fp',e2,a2⟩:=a.next hf (by rw[List.length_take];have:=sm.1;omega) o1 u1 f1
  have ht:s.shards.take (i+1)=s.shards.take i++[s.shards[i]]:=by rw[List.take_add_one,List.getElem?_eq_getElem hi];rfl
  rw[←ht] at a2
  rw[loop_run]
  conv in (codeF _ _ r320L0 _)=>unfold r320L0
  simp only[rn,RO.dst,lk,drop,Nat.reduceBEq,Nat.reduceAdd,Nat.reduceLeDiff,↓reduceIte,reduceCtorEq,hlt,hxi,hld,r1,r2,r3,e1,hg1,List.replicate_succ,List.replicate_zero,fills,and_self,Nat.zero_lt_one,c1,List.set_cons_zero,e2,hws]
  exact ⟨_,⟨_,_,_,rfl,a2⟩,rfl⟩) (s:=⟨[(12,.c x),(13,.c (.int .i64 (s.shards.length:Nat))),(14,.c (.int .i64 (0:Nat)))],[(2,2,0),(3,3,0)],[(2,[.int .i64 0,.int .i64 0,.nil]),(3,[.int .i64 s.group,.int .i64 s.seen,.nil])],h⟩) ⟨_,_,_,rfl,by simpa using AccM.nil Shard.RI 16 h⟩
 subst hs
 simp only[show ((0:Nat):Int)=0 from rfl] at l1
 rw[List.take_length] at a
 have hlt: ¬(s.shards.length:Int)<s.shards.length:=by omega
 rw[l1,loop_run]
 conv in (codeF _ _ r320L0 _)=>unfold r320L0
 simp only[rn,RO.dst,lk,drop,Nat.reduceBEq,Nat.reduceAdd,Nat.reduceLeDiff,↓reduceIte,reduceCtorEq,hlt]
 exact ⟨_,_,_,rfl,a.on,⟨_,_,rfl,rfl,a.sh⟩,a.fr⟩
set_option maxHeartbeats 1000000 in
theorem l13Copy_c (k:KS F) (hf:h.floor≤h.next) (v:Store.RI h cs s fp) (sm:s.Small):
 ∃cs' h' fq,call F Z 317 [.agg cs] h=some (.agg cs',h')∧On h h'∧Store.RI h' cs' s fq∧Fre h fq:=by
 obtain ⟨x,p,rfl,rfl,w⟩:=v
 have hle:=w.le2
 have hwl:=w.len
 rw[call_run F Z (k.s13.lk (g:=317) rfl) _ _ rfl]
 simp only[rn,RO.dst,lk,drop,Nat.reduceBEq,Nat.reduceAdd,Nat.reduceLeDiff,↓reduceIte,reduceCtorEq]
 obtain ⟨s',⟨y,g,fq,hs,a⟩,l1⟩:=loop_goes (F:=F) (Z:=Z) (live:=[1,2,3,4]) (b:=r317L0) s.shards.length (fun i st=> ∃y g fq,st=⟨[(4,.c (.int .i64 (i:Nat)))],[(1,1,0),(2,2,0),(3,3,0)],[(1,[.int .i64 s.group,.int .i64 s.seen,x]),(2,[.int .i64 0,.int .i64 0,.nil]),(3,[.int .i64 s.group,.int .i64 s.seen,y])],g⟩∧AccM Shard.RI 16 h g y (s.shards.take i) fq) (fun i st hi ⟨y,g,fq,hs,a⟩=>by
  subst hs
  have hlt:(i:Int)<s.shards.length:=by omega
  have hws:=wrapS i (by omega)
  have hxi:=w.idx hi
  obtain ⟨r,f,hld,hR,_⟩:=(w.on Shard.okI a.on).one hi
  obtain ⟨r1,r2,r3⟩:=Shard.lenI hR
  obtain ⟨cs',h',g1,fr,e1,hg1,o1,u1,f1,c1⟩:=l13CopyShard_q (Z:=Z) k.s10 k.s13 hR (sm.2 _ (List.getElem_mem hi))
  obtain ⟨y',g',fp',e2,a2⟩:=a.next hf (by rw[List.length_take];have:=sm.1;omega) o1 u1 f1
  have ht:s.shards.take (i+1)=s.shards.take i++[s.shards[i]]:=by rw[List.take_add_one,List.getElem?_eq_getElem hi];rfl
  rw[←ht] at a2
  rw[loop_run]
  conv in (codeF _ _ r317L0 _)=>unfold r317L0
  simp only[rn,RO.dst,lk,drop,Nat.reduceBEq,Nat.reduceAdd,Nat.reduceLeDiff,↓reduceIte,reduceCtorEq,hwl,hlt,hxi,hld,r1,r2,r3,e1,hg1,List.replicate_succ,List.replicate_zero,fills,and_self,Nat.zero_lt_one,c1,List.set_cons_zero,e2,hws]
  exact ⟨_,⟨_,_,_,rfl,a2⟩,rfl⟩) (s:=⟨[(4,.c (.int .i64 (0:Nat)))],[(1,1,0),(2,2,0),(3,3,0)],[(1,[.int .i64 s.group,.int .i64 s.seen,x]),(2,[.int .i64 0,.int .i64 0,.nil]),(3,[.int .i64 s.group,.int .i64 s.seen,.nil])],h⟩) ⟨_,_,_,rfl,by simpa using AccM.nil Shard.RI 16 h⟩
 subst hs
 simp only[show ((0:Nat):Int)=0 from rfl] at l1
 rw[List.take_length] at a
 have hlt: ¬(s.shards.length:Int)<s.shards.length:=by omega
 rw[l1,loop_run]
 conv in (codeF _ _ r317L0 _)=>unfold r317L0
 simp only[rn,RO.dst,lk,drop,Nat.reduceBEq,Nat.reduceAdd,Nat.reduceLeDiff,↓reduceIte,reduceCtorEq,hwl,hlt]
 exact ⟨_,_,_,rfl,a.on,⟨_,_,rfl,rfl,a.sh⟩,a.fr⟩
end
end Go.Proofs.YthofpopafchelaaGreat.A
namespace Go.Proofs.YthofpopafchelaaGreat.A
open Go
set_option linter.unusedSimpArgs false
set_option linter.unusedVariables false
def Shard.renew (e:Int) (t:Shard):Shard:=bif t.state==0 then {t with epoch:=e} else t
def Store.renew (s:Store) (e:Int):Store:=⟨s.group,e,s.shards.map (Shard.renew e)⟩
def Store.next (s:Store) (e:Int):Bool:=s.good&&(decide (s.seen<e)&&decide (e≤1000000))
section
variable {F:Nat→Option RF} {Z:CallF} {h:Heap} {x:Cell} {xs:List Shard} {fp fq:List Nat} {cs:List Cell} {s:Store} {t:Shard}
set_option maxHeartbeats 1000000 in
theorem renewed_turn (e gr sn:Int) {n:Nat} (hn:xs.length=n) (w:SlR 16 Shard.RI h x xs fp) (nd:fp.Nodup) (hfl: ∀id,id∈fp→h.floor≤id) {i:Nat} (hi:i<xs.length):
 ∃g,loop F Z [1,2,4,10,11] r321L0 ⟨[(1,.c (.int .i64 e)),(10,.c (.int .i64 (n:Nat))),(11,.c (.int .i64 (i:Nat)))],[(2,2,0),(4,4,0)],[(2,[.int .i64 gr,.int .i64 sn,x]),(4,[.int .i64 0,.int .i64 0,.nil])],h⟩
  =loop F Z [1,2,4,10,11] r321L0 ⟨[(1,.c (.int .i64 e)),(10,.c (.int .i64 (n:Nat))),(11,.c (.int .i64 ((i+1:Nat):Int)))],[(2,2,0),(4,4,0)],[(2,[.int .i64 gr,.int .i64 sn,x]),(4,[.int .i64 0,.int .i64 0,.nil])],g⟩∧
  Mk h g fp∧SlR 16 Shard.RI g x (xs.set i (xs[i].renew e)) fp:=by
 have hle:=w.le2
 have hlt:(i:Int)<(n:Int):=by omega
 have hws:=wrapS i (by omega)
 have hxi:=w.idx hi
 obtain ⟨r,f,rows,hR,hs,hld,hself,hst,hl2,fin⟩:=w.putRow Shard.okI nd hfl hi
 have hset:=set_same xs hi
 obtain ⟨x1,p1,x2,p2,rfl,rfl,w1,w2⟩:=hR
 have hd:xs[i].renew e=bif xs[i].state==0 then {xs[i] with epoch:=e} else xs[i]:=rfl
 rw[loop_run]
 conv in (codeF _ _ r321L0 _)=>unfold r321L0
 by_cases c:xs[i].state=0
 ·have c':(xs[i].state==0)=true:=by simp[c]
  obtain ⟨f1,f2⟩:=fin [.int .u64 xs[i].lo,.int .u64 xs[i].hi,.int .i64 xs[i].state,.int .i64 e,x1,x2] {xs[i] with epoch:=e} ⟨x1,p1,x2,p2,rfl,rfl,w1,w2⟩
  rw[hd,c']
  clear hd fin w w1 w2 hset
  generalize xs[i]=a at *
  have hst':=hst [.int .u64 a.lo,.int .u64 a.hi,.int .i64 a.state,.int .i64 a.epoch,x1,x2]
  rw[hself] at hst'
  simp only[rn,RO.dst,lk,drop,Nat.reduceBEq,Nat.reduceAdd,Nat.reduceLeDiff,↓reduceIte,reduceCtorEq,hlt,hxi,hld,c',hst',putM_s,hws]
  exact ⟨_,rfl,f2,f1⟩
 ·have c':(xs[i].state==0)=false:=by simp[c]
  rw[hd,c']
  simp only[cond_false,hset]
  clear hd fin w1 w2 hset
  generalize xs[i]=a at *
  simp only[rn,RO.dst,lk,drop,Nat.reduceBEq,Nat.reduceAdd,Nat.reduceLeDiff,↓reduceIte,reduceCtorEq,hlt,hxi,hld,c',hws]
  exact ⟨_,rfl,Mk.refl _ _,w⟩
theorem renewed_c (k:KI F) (v:Store.RI h cs s fp) (nd:fp.Nodup) (hfl: ∀id,id∈fp→h.floor≤id) (e:Int):
 ∃cs' h',call F Z 321 [.agg cs,.c (.int .i64 e)] h=some (.agg cs',h')∧Mk h h' fp∧Store.RI h' cs' (s.renew e) fp:=by
 obtain ⟨x,p,rfl,rfl,w⟩:=v
 have hwl:=w.len
 rw[call_run F Z (k.i13.lk (g:=321) rfl) _ _ rfl]
 simp only[rn,RO.dst,lk,drop,Nat.reduceBEq,Nat.reduceAdd,Nat.reduceLeDiff,↓reduceIte,reduceCtorEq,hwl]
 obtain ⟨s',⟨g,hs,m,u⟩,l1⟩:=loop_goes (F:=F) (Z:=Z) (live:=[1,2,4,10,11]) (b:=r321L0) s.shards.length (fun i st=> ∃g,st=⟨[(1,.c (.int .i64 e)),(10,.c (.int .i64 (s.shards.length:Nat))),(11,.c (.int .i64 (i:Nat)))],[(2,2,0),(4,4,0)],[(2,[.int .i64 s.group,.int .i64 e,x]),(4,[.int .i64 0,.int .i64 0,.nil])],g⟩∧Mk h g fp∧SlR 16 Shard.RI g x ((s.shards.take i).map (Shard.renew e)++s.shards.drop i) fp) (fun i st hi ⟨g,hs,m,u⟩=>by
  subst hs
  have hl:((s.shards.take i).map (Shard.renew e)++s.shards.drop i).length=s.shards.length:=by simp;omega
  have hi':i<((s.shards.take i).map (Shard.renew e)++s.shards.drop i).length:=by omega
  obtain ⟨g',e1,m1,u1⟩:=renewed_turn (F:=F) (Z:=Z) e s.group e hl u nd (fun id hid=>by rw[m.fl];exact hfl id hid) hi'
  rw[mix_at _ _ hi hi',mix_set _ _ hi] at u1
  exact ⟨_,⟨g',rfl,m.then m1,u1⟩,e1⟩) (s:=⟨[(1,.c (.int .i64 e)),(10,.c (.int .i64 (s.shards.length:Nat))),(11,.c (.int .i64 (0:Nat)))],[(2,2,0),(4,4,0)],[(2,[.int .i64 s.group,.int .i64 e,x]),(4,[.int .i64 0,.int .i64 0,.nil])],h⟩) ⟨h,rfl,Mk.refl _ _,by simpa using w⟩
 subst hs
 simp only[show ((0:Nat):Int)=0 from rfl] at l1
 rw[List.take_length,List.drop_length,List.append_nil] at u
 have hlt: ¬(s.shards.length:Int)<s.shards.length:=by omega
 rw[l1,loop_run]
 conv in (codeF _ _ r321L0 _)=>unfold r321L0
 simp only[rn,RO.dst,lk,drop,Nat.reduceBEq,Nat.reduceAdd,Nat.reduceLeDiff,↓reduceIte,reduceCtorEq,hlt]
 exact ⟨_,_,rfl,m,⟨_,_,rfl,rfl,u⟩⟩
set_option maxHeartbeats 1000000 in
theorem l13Renew_turn (e gr sn:Int) (w:SlR 16 Shard.RI h x xs fp) (nd:fp.Nodup) (hfl: ∀id,id∈fp→h.floor≤id) {i:Nat} (hi:i<xs.length):
 ∃g,loop F Z [1,4,5,6] r318L0 ⟨[(1,.c (.int .i64 e)),(6,.c (.int .i64 (i:Nat)))],[(4,4,0),(5,5,0)],[(4,[.int .i64 0,.int .i64 0,.nil]),(5,[.int .i64 gr,.int .i64 sn,x])],h⟩
  =loop F Z [1,4,5,6] r318L0 ⟨[(1,.c (.int .i64 e)),(6,.c (.int .i64 ((i+1:Nat):Int)))],[(4,4,0),(5,5,0)],[(4,[.int .i64 0,.int .i64 0,.nil]),(5,[.int .i64 gr,.int .i64 sn,x])],g⟩∧
  Mk h g fp∧SlR 16 Shard.RI g x (xs.set i (xs[i].renew e)) fp:=by
 have hle:=w.le2
 have hwl:=w.len
 have hlt:(i:Int)<(xs.length:Int):=by omega
 have hws:=wrapS i (by omega)
 have hxi:=w.idx hi
 obtain ⟨r,f,rows,hR,hs,hld,hself,hst,hl2,fin⟩:=w.putRow Shard.okI nd hfl hi
 have hset:=set_same xs hi
 obtain ⟨x1,p1,x2,p2,rfl,rfl,w1,w2⟩:=hR
 have hd:xs[i].renew e=bif xs[i].state==0 then {xs[i] with epoch:=e} else xs[i]:=rfl
 rw[loop_run]
 conv in (codeF _ _ r318L0 _)=>unfold r318L0
 by_cases c:xs[i].state=0
 ·have c':(xs[i].state==0)=true:=by simp[c]
  obtain ⟨f1,f2⟩:=fin [.int .u64 xs[i].lo,.int .u64 xs[i].hi,.int .i64 xs[i].state,.int .i64 e,x1,x2] {xs[i] with epoch:=e} ⟨x1,p1,x2,p2,rfl,rfl,w1,w2⟩
  rw[hd,c']
  clear hd fin w w1 w2 hset
  generalize xs[i]=a at *
  have hst':=hst [.int .u64 a.lo,.int .u64 a.hi,.int .i64 a.state,.int .i64 a.epoch,x1,x2]
  rw[hself] at hst'
  simp only[rn,RO.dst,lk,drop,Nat.reduceBEq,Nat.reduceAdd,Nat.reduceLeDiff,↓reduceIte,reduceCtorEq,hwl,hlt,hxi,hld,c',hst',putM_s,hws]
  exact ⟨_,rfl,f2,f1⟩
 ·have c':(xs[i].state==0)=false:=by simp[c]
  rw[hd,c']
  simp only[cond_false,hset]
  clear hd fin w1 w2 hset
  generalize xs[i]=a at *
  simp only[rn,RO.dst,lk,drop,Nat.reduceBEq,Nat.reduceAdd,Nat.reduceLeDiff,↓reduceIte,reduceCtorEq,hwl,hlt,hxi,hld,c',hws]
  exact ⟨_,rfl,Mk.refl _ _,w⟩
theorem l13Renew_c (k:KS F) (hf:h.floor≤h.next) (v:Store.RI h cs s fp) (sm:s.Small) (e:Int):
 ∃cs' h' fq,call F Z 318 [.agg cs,.c (.int .i64 e)] h=some (.agg cs',h')∧On h h'∧Store.RI h' cs' (s.renew e) fq∧Fre h fq:=by
 obtain ⟨cs1,h1,fq,e1,o1,v1,f1⟩:=l13Copy_c (Z:=Z) k hf v sm
 obtain ⟨l1,l2,l3⟩:=Store.lenI v
 obtain ⟨x,p,rfl,rfl,w⟩:=v1
 have hwl:=w.len
 rw[call_run F Z (k.s13.lk (g:=318) rfl) _ _ rfl]
 simp only[rn,RO.dst,lk,drop,Nat.reduceBEq,Nat.reduceAdd,Nat.reduceLeDiff,↓reduceIte,reduceCtorEq,l1,l2,l3,e1]
 obtain ⟨s',⟨g,hs,m,u⟩,lp⟩:=loop_goes (F:=F) (Z:=Z) (live:=[1,4,5,6]) (b:=r318L0) s.shards.length (fun i st=> ∃g,st=⟨[(1,.c (.int .i64 e)),(6,.c (.int .i64 (i:Nat)))],[(4,4,0),(5,5,0)],[(4,[.int .i64 0,.int .i64 0,.nil]),(5,[.int .i64 s.group,.int .i64 e,x])],g⟩∧Mk h1 g fq∧SlR 16 Shard.RI g x ((s.shards.take i).map (Shard.renew e)++s.shards.drop i) fq) (fun i st hi ⟨g,hs,m,u⟩=>by
  subst hs
  have hi':i<((s.shards.take i).map (Shard.renew e)++s.shards.drop i).length:=by simp;omega
  obtain ⟨g',e1,m1,u1⟩:=l13Renew_turn (F:=F) (Z:=Z) e s.group e u f1.nd (fun id hid=>by rw[m.fl];exact f1.own o1 hf id hid) hi'
  rw[mix_at _ _ hi hi',mix_set _ _ hi] at u1
  exact ⟨_,⟨g',rfl,m.then m1,u1⟩,e1⟩) (s:=⟨[(1,.c (.int .i64 e)),(6,.c (.int .i64 (0:Nat)))],[(4,4,0),(5,5,0)],[(4,[.int .i64 0,.int .i64 0,.nil]),(5,[.int .i64 s.group,.int .i64 e,x])],h1⟩) ⟨h1,rfl,Mk.refl _ _,by simpa using w⟩
 subst hs
 simp only[show ((0:Nat):Int)=0 from rfl] at lp
 rw[List.take_length,List.drop_length,List.append_nil] at u
 have hul:=u.len
 rw[List.length_map] at hul
 have hlt: ¬(s.shards.length:Int)<s.shards.length:=by omega
 rw[lp,loop_run]
 conv in (codeF _ _ r318L0 _)=>unfold r318L0
 simp only[rn,RO.dst,lk,drop,Nat.reduceBEq,Nat.reduceAdd,Nat.reduceLeDiff,↓reduceIte,reduceCtorEq,hul,hlt]
 exact ⟨_,_,_,rfl,o1.turned m f1,⟨_,_,rfl,rfl,u⟩,f1⟩
end
end Go.Proofs.YthofpopafchelaaGreat.A
namespace Go.Proofs.YthofpopafchelaaGreat.A
open Go
set_option linter.unusedSimpArgs false
set_option linter.unusedVariables false
def renewStore (s:Store) (e:Int):Store×Bool:=bif s.next e then (s.renew e,true) else (s,false)
def Store.frozen (s:Store) (i:Nat) (e:Int):Store:={s with shards:=s.shards.set i {Shard.at_ s.shards i with state:=1,epoch:=e}}
def freezeShard (s:Store) (lo e:Int):Store×Bool:=bif s.next e&&decide (0≤findAt s.shards lo 0) then ((s.frozen (findAt s.shards lo 0).toNat e).renew e,true) else (s,false)
theorem Store.frozen_small {s:Store} (sm:s.Small) {i:Nat} (hi:i<s.shards.length) (e:Int):(s.frozen i e).Small:=by
 refine ⟨by simpa[Store.frozen] using sm.1,fun a ha=> ?_⟩
 rcases List.mem_or_eq_of_mem_set (show a∈s.shards.set i _ from ha) with h | h
 ·exact sm.2 a h
 ·subst h;exact Store.at_small sm hi
section
variable {F:Nat→Option RF} {Z:CallF} {h:Heap} {x:Cell} {xs:List Shard} {fp fq:List Nat} {cs:List Cell} {s:Store} {t:Shard}
theorem isNewEpoch_run (k:KI F) (v:Store.RI h cs s fp) (ok:s.Ok) (e:Int): ∃h',call F Z 319 [.agg cs,.c (.int .i64 e)] h=some (.c (.bool (s.next e)),h')∧On h h':=by
 obtain ⟨h1,e1,o1⟩:=isStore_run (Z:=Z) k v ok
 obtain ⟨x,p,rfl,rfl,w⟩:=v
 refine ⟨h1,?_,o1⟩
 rw[call_run F Z (k.i13.lk (g:=319) rfl) _ _ rfl]
 have hd:s.next e=(s.good&&(decide (s.seen<e)&&decide (e≤1000000))):=rfl
 rw[hd]
 generalize s.good=gd at *
 simp only[rn,RO.dst,lk,drop,Nat.reduceBEq,Nat.reduceAdd,Nat.reduceLeDiff,↓reduceIte,reduceCtorEq,e1]
 cases gd with
 | false=>simp only[rn,RO.dst,lk,drop,Nat.reduceBEq,Nat.reduceAdd,Nat.reduceLeDiff,↓reduceIte,reduceCtorEq,Bool.false_and]
 | true=>
   simp only[rn,RO.dst,lk,drop,Nat.reduceBEq,Nat.reduceAdd,Nat.reduceLeDiff,↓reduceIte,reduceCtorEq]
   (repeat' ((first | (rw[gF_if];split) | (rw[condC_if];split) | (rw[pickR_if];split))<;>(rename_i hh;(try simp only[Bool.not_eq_true,decide_eq_true_eq] at hh);simp only[hh,rn,RO.dst,lk,drop,Nat.reduceBEq,Nat.reduceAdd,Nat.reduceLeDiff,↓reduceIte,reduceCtorEq,e1])))<;>simp_all
theorem l13Next_run (k:KS F) (v:Store.RI h cs s fp) (ok:s.Ok) (e:Int):call F Z 316 [.agg cs,.c (.int .i64 e)] h=some (.c (.bool (s.next e)),h):=by
 have e1:=sStoreOk_run (Z:=Z) k v ok
 obtain ⟨x,p,rfl,rfl,w⟩:=v
 rw[call_run F Z (k.s13.lk (g:=316) rfl) _ _ rfl]
 have hd:s.next e=(s.good&&(decide (s.seen<e)&&decide (e≤1000000))):=rfl
 rw[hd]
 cases hg:s.good with
 | false=>
   rw[hg] at e1
   simp only[rn,RO.dst,lk,drop,Nat.reduceBEq,Nat.reduceAdd,Nat.reduceLeDiff,↓reduceIte,reduceCtorEq,e1,Bool.false_and]
 | true=>
   rw[hg] at e1
   have hs:inR s.seen 0 1000000=true:=by simp only[Store.good,Bool.and_eq_true] at hg;exact hg.2.1
   simp only[inR,Bool.and_eq_true,decide_eq_true_eq] at hs
   have hw:IntKind.i64.wrap (s.seen+1)=s.seen+1:=wrapI _ (by omega) (by omega)
   simp only[rn,RO.dst,lk,drop,Nat.reduceBEq,Nat.reduceAdd,Nat.reduceLeDiff,↓reduceIte,reduceCtorEq,e1,hw,l01In_run k.s01]
   have:inR e (s.seen+1) 1000000=(true&&(decide (s.seen<e)&&decide (e≤1000000))):=by
    simp only[inR,Bool.true_and]
    congr 1
   rw[this]
theorem sRenewStore_c (k:KS F) (hf:h.floor≤h.next) (v:Store.RI h cs s fp) (e:Int) (ok:s.Ok) (sm:s.Small):
 ∃cs' h' fq,call F Z 290 [.agg cs,.c (.int .i64 e)] h=some (.tup [.agg cs',.c (.bool (renewStore s e).2)],h')∧On h h'∧Store.RI h' cs' (renewStore s e).1 fq∧Fre h fq:=by
 obtain ⟨l1,l2,l3⟩:=Store.lenI v
 have e1:=l13Next_run (Z:=Z) k v ok e
 obtain ⟨cs2,h2,fq,e2,o2,v2,f2⟩:=l13Copy_c (Z:=Z) k hf v sm
 obtain ⟨m1,m2,m3⟩:=Store.lenI v2
 obtain ⟨cs3,h3,fr,e3,o3,v3,f3⟩:=l13Renew_c (Z:=Z) k hf v sm e
 obtain ⟨n1,n2,n3⟩:=Store.lenI v3
 rw[call_run F Z (k.s13.lk (g:=290) rfl) _ _ rfl]
 have hd:renewStore s e=bif s.next e then (s.renew e,true) else (s,false):=rfl
 rw[hd]
 generalize s.next e=nx at *
 cases nx with
 | false=>
   simp only[rn,RO.dst,lk,drop,Nat.reduceBEq,Nat.reduceAdd,Nat.reduceLeDiff,↓reduceIte,reduceCtorEq,l1,l2,l3,e1,e2,m1,m2,m3]
   exact ⟨_,_,_,rfl,o2,v2,f2⟩
 | true=>
   simp only[rn,RO.dst,lk,drop,Nat.reduceBEq,Nat.reduceAdd,Nat.reduceLeDiff,↓reduceIte,reduceCtorEq,l1,l2,l3,e1,e3,n1,n2,n3]
   exact ⟨_,_,_,rfl,o3,v3,f3⟩
theorem SlR.freeze (w:SlR 16 Shard.RI h x s.shards fp) (nd:fp.Nodup) (hfl: ∀id,id∈fp→h.floor≤id) {i:Nat} (hi:i<s.shards.length) (e:Int):
 ∃g1 g2,storeP h x.sid i 2 [.int .i64 1]=some g1∧storeP g1 x.sid i 3 [.int .i64 e]=some g2∧Mk h g2 fp∧SlR 16 Shard.RI g2 x (s.frozen i e).shards fp:=by
 obtain ⟨r,f,rows,hR,hs,hld,hself,hst,hl2,fin⟩:=w.putRow Shard.okI nd hfl hi
 obtain ⟨x1,p1,x2,p2,rfl,rfl,w1,w2⟩:=hR
 obtain ⟨f1,f2⟩:=fin [.int .u64 s.shards[i].lo,.int .u64 s.shards[i].hi,.int .i64 1,.int .i64 e,x1,x2] {s.shards[i] with state:=1,epoch:=e} ⟨x1,p1,x2,p2,rfl,rfl,w1,w2⟩
 have h1:=hst [.int .u64 s.shards[i].lo,.int .u64 s.shards[i].hi,.int .i64 s.shards[i].state,.int .i64 s.shards[i].epoch,x1,x2] 2 [.int .i64 1]
 rw[hself] at h1
 have h2:=hst [.int .u64 s.shards[i].lo,.int .u64 s.shards[i].hi,.int .i64 1,.int .i64 s.shards[i].epoch,x1,x2] 3 [.int .i64 e]
 refine ⟨_,_,h1,h2,f2,?_⟩
 have:(s.frozen i e).shards=s.shards.set i {s.shards[i] with state:=1,epoch:=e}:=by simp only[Store.frozen,Shard.at_get hi]
 rw[this]
 exact f1
set_option maxHeartbeats 1000000 in
theorem sFreezeShard_c (k:KS F) (hf:h.floor≤h.next) (v:Store.RI h cs s fp) (lo e:Int) (ok:s.Ok) (sm:s.Small):
 ∃cs' h' fq,call F Z 300 [.agg cs,.c (.int .u64 lo),.c (.int .i64 e)] h=some (.tup [.agg cs',.c (.bool (freezeShard s lo e).2)],h')∧On h h'∧Store.RI h' cs' (freezeShard s lo e).1 fq∧Fre h fq:=by
 obtain ⟨l1,l2,l3⟩:=Store.lenI v
 obtain ⟨cs1,h1,fq,e1,o1,v1,f1⟩:=l13Copy_c (Z:=Z) k hf v sm
 have e2:=l13At_run (Z:=Z) k.s13 (Store.okI.on v o1) lo 0
 have e3:=l13Next_run (Z:=Z) k (Store.okI.on v o1) ok e
 rw[call_run F Z (k.s13.lk (g:=300) rfl) _ _ rfl]
 have hd:freezeShard s lo e=bif s.next e&&decide (0≤findAt s.shards lo 0) then ((s.frozen (findAt s.shards lo 0).toNat e).renew e,true) else (s,false):=rfl
 obtain ⟨x,p,rfl,hp,w⟩:=v1
 subst hp
 cases hn:s.next e with
 | false=>
   rw[hn] at e3
   have hd':freezeShard s lo e=(s,false):=by rw[hd,hn];rfl
   rw[hd']
   simp only[rn,RO.dst,lk,drop,Nat.reduceBEq,Nat.reduceAdd,Nat.reduceLeDiff,↓reduceIte,reduceCtorEq,l1,l2,l3,e1,e2,e3]
   exact ⟨_,_,_,rfl,o1,⟨x,_,rfl,rfl,w⟩,f1⟩
 | true=>
   rw[hn] at e3
   rcases w.found (fun t=>(t.lo==lo)&&(t.state==0)) with q | ⟨i,q,hi,_,hx,_⟩
   ·change findAt s.shards lo 0= -1 at q
    have hd':freezeShard s lo e=(s,false):=by rw[hd,hn,q];rfl
    rw[hd']
    rw[q] at e2
    simp only[rn,RO.dst,lk,drop,Nat.reduceBEq,Nat.reduceAdd,Nat.reduceLeDiff,↓reduceIte,reduceCtorEq,l1,l2,l3,e1,e2,e3,Int.reduceLT,Int.reduceNeg]
    exact ⟨_,_,_,rfl,o1,⟨x,_,rfl,rfl,w⟩,f1⟩
   ·change findAt s.shards lo 0=(i:Int) at q
    have hd':freezeShard s lo e=((s.frozen i e).renew e,true):=by
     rw[hd,hn,q]
     have:decide (0≤(i:Int))=true:=by simp
     rw[this];rfl
    rw[hd']
    rw[q] at e2
    obtain ⟨g1,g2,s1,s2,mk,w2⟩:=w.freeze f1.nd (f1.own o1 hf) hi e
    have o2:=o1.turned mk f1
    obtain ⟨cs5,h5,f5,e5,o5,v5,r5⟩:=l13Renew_c (Z:=Z) k (s:=s.frozen i e) (o2.le hf) ⟨x,_,rfl,rfl,w2⟩ (Store.frozen_small sm hi e) e
    obtain ⟨n1,n2,n3⟩:=Store.lenI v5
    have g0: ¬(i:Int)<0:=by omega
    change call F Z 318 [.agg [.int .i64 s.group,.int .i64 s.seen,x],_] g2=_ at e5
    simp only[rn,RO.dst,lk,drop,Nat.reduceBEq,Nat.reduceAdd,Nat.reduceLeDiff,↓reduceIte,reduceCtorEq,l1,l2,l3,e1,e2,e3,g0,hx,s1,s2,e5,n1,n2,n3]
    exact ⟨_,_,_,rfl,o2.trans o5,v5,⟨fun id hid=>Nat.le_trans o2.ext.1 (r5.lo id hid),r5.nd⟩⟩
end
end Go.Proofs.YthofpopafchelaaGreat.A
namespace Go.Proofs.YthofpopafchelaaGreat.A
open Go
set_option linter.unusedSimpArgs false
set_option linter.unusedVariables false
theorem Store.fit_at {s:Store} (g:s.good=true) {j:Nat} (hj:j<s.shards.length):s.fits j=true:=by
 simp only[Store.good,Bool.and_eq_true,List.all_eq_true,List.mem_range] at g
 exact g.2.2.2 j hj
theorem Store.lo_hi {s:Store} (g:s.good=true) {j:Nat} (hj:j<s.shards.length):s.shards[j].lo≤s.shards[j].hi:=by
 have:=Store.fit_at g hj
 simp only[Store.fits,Shard.at_get hj,Shard.good,Shard.head,Bool.and_eq_true,decide_eq_true_eq] at this
 omega
theorem Store.gap {s:Store} (g:s.good=true) {j:Nat} (hj:j+1<s.shards.length):s.shards[j].hi<s.shards[j+1].lo:=by
 have:=Store.fit_at g hj
 simp only[Store.fits,Bool.and_eq_true,Bool.or_eq_true,decide_eq_true_eq,beq_iff_eq] at this
 rcases this.2.2 with h | h
 ·omega
 ·simp only[Nat.add_sub_cancel] at h
  rw[Shard.at_get hj,Shard.at_get (by omega)] at h
  exact h
theorem Store.sorted {s:Store} (g:s.good=true) (i:Nat): ∀(d:Nat) (hj:i+d+1<s.shards.length),s.shards[i].hi<s.shards[i+d+1].lo
 | 0,hj=>Store.gap g hj
 | d+1,hj=>by
   have h1:=Store.sorted g i d (by omega)
   have h2:=Store.gap g (j:=i+d+1) hj
   have h3:=Store.lo_hi g (j:=i+d+1) (by omega)
   have e:i+(d+1)+1=i+d+1+1:=by omega
   simp only[e]
   omega
def Shard.over (x t:Shard):Bool:=decide (t.lo≤x.hi)&&decide (x.lo≤t.hi)
def Shard.left (x t:Shard):Bool:=decide (t.lo<x.lo)
end Go.Proofs.YthofpopafchelaaGreat.A
namespace Go.Proofs.YthofpopafchelaaGreat.A
open Go
set_option linter.unusedSimpArgs false
set_option linter.unusedVariables false
theorem bookOk_iff (xs:List Account):bookOk xs=true↔Srt xs∧(∀a,a∈xs→a.fine=true)∧xs.length≤40:=by
 constructor
 ·intro g
  refine ⟨book_srt g,fun a ha=> ?_,book_len g⟩
  obtain ⟨i,hi,rfl⟩:=List.mem_iff_getElem.1 ha
  have:=book_fine g hi
  rwa [Account.at_get hi] at this
 ·rintro ⟨h1,h2,h3⟩
  simp only[bookOk,Bool.and_eq_true,List.all_eq_true,List.mem_range,decide_eq_true_eq]
  refine ⟨fun i hi=> ?_,by omega⟩
  simp only[Account.fits,Bool.and_eq_true,Bool.or_eq_true,beq_iff_eq,decide_eq_true_eq]
  refine ⟨by rw[Account.at_get hi];exact h2 _ (List.getElem_mem hi),?_⟩
  cases i with
  | zero=>exact .inl rfl
  | succ i=>
    right
    rw[Nat.add_sub_cancel,Account.at_get hi,Account.at_get (show i<xs.length by omega)]
    exact srt_lt h1 hi (by omega)
structure Shard.Good (x:Shard):Prop where
 lh:x.lo≤x.hi
 st:x.state=0∨x.state=1
 ep:1≤x.epoch∧x.epoch≤1000000
 srt:Srt x.book.list
 fine: ∀a,a∈x.book.list→a.fine=true
 bl:x.book.list.length≤40
 fl:x.finished.length≤60
 acc: ∀a,a∈x.book.list→x.lo≤a.id∧a.id≤x.hi∧(⟨a.tx,a.id⟩:Fin)∉x.finished
 fs:x.finished.Pairwise flt
 fin: ∀f,f∈x.finished→1≤f.tx∧x.lo≤f.id∧f.id≤x.hi
theorem Shard.good_iff (x:Shard):x.good=true↔x.Good:=by
 constructor
 ·intro g
  have gs:=Shard.good_sorted g
  have gi: ∀f,f∈x.finished→1≤f.tx∧x.lo≤f.id∧f.id≤x.hi:=fun f hf=>Shard.good_in g hf
  simp only[Shard.good,Shard.head,Shard.acc,inR,Bool.and_eq_true,Bool.or_eq_true,beq_iff_eq,decide_eq_true_eq,List.all_eq_true,Bool.not_eq_true',decide_eq_false_iff_not] at g
  obtain ⟨⟨h1,h2,h3,h4,h5⟩,h6,_⟩:=g
  obtain ⟨b1,b2,b3⟩:=(bookOk_iff _).1 h4
  exact ⟨h1,h2,h3,b1,b2,b3,by omega,h6,gs,gi⟩
 ·intro g
  simp only[Shard.good,Shard.head,Shard.acc,inR,Bool.and_eq_true,Bool.or_eq_true,beq_iff_eq,decide_eq_true_eq,List.all_eq_true,Bool.not_eq_true',decide_eq_false_iff_not]
  refine ⟨⟨g.lh,g.st,g.ep,(bookOk_iff _).2 ⟨g.srt,g.fine,g.bl⟩,by have:=g.fl;omega⟩,g.acc,fun i hi=> ?_⟩
  rw[List.mem_range] at hi
  have h1:=g.fin _ (List.getElem_mem hi)
  simp only[Shard.finAt,Fin.at_,List.getElem?_eq_getElem hi,Option.getD_some,Bool.and_eq_true,Bool.or_eq_true,beq_iff_eq,decide_eq_true_eq]
  refine ⟨h1.1,h1.2.1,h1.2.2,?_⟩
  cases i with
  | zero=>exact .inl rfl
  | succ i=>
    right
    have h2:=List.pairwise_iff_getElem.1 g.fs i (i+1) (by omega) hi (by omega)
    rw[Nat.add_sub_cancel,List.getElem?_eq_getElem (show i<x.finished.length by omega),Option.getD_some]
    have:=cmp_flt x.finished[i] x.finished[i+1]
    rw[decide_eq_true h2] at this
    exact of_decide_eq_true this
structure Store.Good (s:Store):Prop where
 gr:0≤s.group∧s.group≤99
 sn:0≤s.seen∧s.seen≤1000000
 len:s.shards.length≤8
 sh: ∀x,x∈s.shards→x.Good∧x.epoch≤s.seen
 ord:s.shards.Pairwise fun x y=>x.hi<y.lo
theorem Store.good_iff (s:Store):s.good=true↔s.Good:=by
 constructor
 ·intro g
  have ho:s.shards.Pairwise fun x y=>x.hi<y.lo:=by
   rw[List.pairwise_iff_getElem]
   intro i j hi hj hij
   obtain ⟨d,rfl⟩: ∃d,j=i+d+1:=⟨j-i-1,by omega⟩
   exact Store.sorted g i d hj
  have hx: ∀x,x∈s.shards→x.Good∧x.epoch≤s.seen:=by
   intro x hx
   obtain ⟨i,hi,rfl⟩:=List.mem_iff_getElem.1 hx
   have:=Store.fit_at g hi
   simp only[Store.fits,Bool.and_eq_true,decide_eq_true_eq,Shard.at_get hi] at this
   exact ⟨(Shard.good_iff _).1 this.1,this.2.1⟩
  simp only[Store.good,inR,Bool.and_eq_true,decide_eq_true_eq] at g
  exact ⟨g.1,g.2.1,by have:=g.2.2.1;omega,hx,ho⟩
 ·intro g
  simp only[Store.good,inR,Bool.and_eq_true,decide_eq_true_eq,List.all_eq_true,List.mem_range]
  refine ⟨g.gr,g.sn,by have:=g.len;omega,fun i hi=> ?_⟩
  simp only[Store.fits,Bool.and_eq_true,Bool.or_eq_true,beq_iff_eq,decide_eq_true_eq,Shard.at_get hi]
  have h1:=g.sh _ (List.getElem_mem hi)
  refine ⟨(Shard.good_iff _).2 h1.1,h1.2,?_⟩
  cases i with
  | zero=>exact .inl rfl
  | succ i=>
    right
    rw[Nat.add_sub_cancel,Shard.at_get (show i<s.shards.length by omega)]
    exact List.pairwise_iff_getElem.1 g.ord i (i+1) (by omega) hi (by omega)
theorem Store.next_iff (s:Store) (e:Int):s.next e=true↔s.Good∧s.seen<e∧e≤1000000:=by
 simp only[Store.next,Bool.and_eq_true,decide_eq_true_eq,Store.good_iff]
theorem Shard.renew_lo (e:Int) (x:Shard):(Shard.renew e x).lo=x.lo:=by unfold Shard.renew;cases x.state==0<;>rfl
theorem Shard.renew_hi (e:Int) (x:Shard):(Shard.renew e x).hi=x.hi:=by unfold Shard.renew;cases x.state==0<;>rfl
theorem Shard.renew_book (e:Int) (x:Shard):(Shard.renew e x).book=x.book:=by unfold Shard.renew;cases x.state==0<;>rfl
theorem Shard.renew_fin (e:Int) (x:Shard):(Shard.renew e x).finished=x.finished:=by unfold Shard.renew;cases x.state==0<;>rfl
structure Shard.Sound (x:Shard):Prop where
 lh:x.lo≤x.hi
 st:x.state=0∨x.state=1
 srt:Srt x.book.list
 fine: ∀a,a∈x.book.list→a.fine=true
 bl:x.book.list.length≤40
 fl:x.finished.length≤60
 acc: ∀a,a∈x.book.list→x.lo≤a.id∧a.id≤x.hi∧(⟨a.tx,a.id⟩:Fin)∉x.finished
 fs:x.finished.Pairwise flt
 fin: ∀f,f∈x.finished→1≤f.tx∧x.lo≤f.id∧f.id≤x.hi
theorem Shard.Good.sound {x:Shard} (g:x.Good):x.Sound:=⟨g.lh,g.st,g.srt,g.fine,g.bl,g.fl,g.acc,g.fs,g.fin⟩
theorem Shard.Sound.good {x:Shard} (g:x.Sound) (h:1≤x.epoch∧x.epoch≤1000000):x.Good:=⟨g.lh,g.st,h,g.srt,g.fine,g.bl,g.fl,g.acc,g.fs,g.fin⟩
theorem Shard.Sound.renew {x:Shard} (g:x.Sound) {e:Int} (he:1≤e∧e≤1000000) (hx:x.state=1→1≤x.epoch∧x.epoch≤e):(Shard.renew e x).Good∧(Shard.renew e x).epoch≤e:=by
 unfold Shard.renew
 rcases g.st with h | h
 ·rw[h]
  exact ⟨⟨g.lh,.inl rfl,he,g.srt,g.fine,g.bl,g.fl,g.acc,g.fs,g.fin⟩,Int.le_refl _⟩
 ·have h0:(x.state==0)=false:=by rw[h];rfl
  rw[h0]
  have:=hx h
  exact ⟨g.good ⟨this.1,by omega⟩,this.2⟩
theorem Store.renew_good {s:Store} {e:Int} (hg:0≤s.group∧s.group≤99) (he:1≤e∧e≤1000000) (hl:s.shards.length≤8) (hx: ∀x,x∈s.shards→x.Sound∧(x.state=1→1≤x.epoch∧x.epoch≤e)) (ho:s.shards.Pairwise fun x y=>x.hi<y.lo):(s.renew e).Good where
 gr:=hg
 sn:=⟨by show 0≤e;omega,he.2⟩
 len:=by show (s.shards.map _).length≤8;rw[List.length_map];exact hl
 sh:=fun x hxm=>by
  obtain ⟨y,hy,rfl⟩:=List.mem_map.1 hxm
  exact (hx y hy).1.renew he (hx y hy).2
 ord:=by
  show (s.shards.map (Shard.renew e)).Pairwise _
  rw[List.pairwise_map]
  refine ho.imp fun {x y} h=> ?_
  rw[Shard.renew_hi,Shard.renew_lo];exact h
theorem Store.Good.old {s:Store} (g:s.Good) {e:Int} (he:s.seen<e): ∀x,x∈s.shards→x.Sound∧(x.state=1→1≤x.epoch∧x.epoch≤e):=fun x hx=>by
 have:=g.sh x hx
 have h2:=this.1.ep
 exact ⟨this.1.sound,fun _=>⟨h2.1,by omega⟩⟩
theorem Store.Good.one {s:Store} (g:s.Good) {e:Int} (he:s.seen<e):1≤e:=by have:=g.sn;omega
theorem renewStore_good {s:Store} {e:Int} (g:s.Good):(renewStore s e).1.Good:=by
 unfold renewStore
 cases hn:s.next e with
 | false=>exact g
 | true=>
   have h:=(Store.next_iff s e).1 hn
   exact Store.renew_good g.gr ⟨g.one h.2.1,h.2.2⟩ g.len (g.old h.2.1) g.ord
theorem set_pairwise {α:Type} {R:α→α→Prop} {xs:List α} (h:xs.Pairwise R) {i:Nat} (hi:i<xs.length) {y:α} (h1: ∀z,R z xs[i]→R z y) (h2: ∀z,R xs[i] z→R y z):(xs.set i y).Pairwise R:=by
 rw[List.pairwise_iff_getElem] at h ⊢
 intro a b ha hb hab
 rw[List.length_set] at ha hb
 rw[List.getElem_set,List.getElem_set]
 by_cases e1:i=a
 ·subst e1
  rw[if_pos rfl,if_neg (by omega)]
  exact h2 _ (h i b ha hb hab)
 ·rw[if_neg e1]
  by_cases e2:i=b
  ·subst e2
   rw[if_pos rfl]
   exact h1 _ (h a i ha hb hab)
  ·rw[if_neg e2]
   exact h a b ha hb hab
theorem mem_set {α:Type} {xs:List α} {i:Nat} {y z:α} (h:z∈xs.set i y):z∈xs∨z=y:=List.mem_or_eq_of_mem_set h
theorem freezeShard_good {s:Store} {lo e:Int} (g:s.Good):(freezeShard s lo e).1.Good:=by
 unfold freezeShard
 cases hn:s.next e with
 | false=>exact g
 | true=>
   by_cases h0:0≤findAt s.shards lo 0
   ·have h:=(Store.next_iff s e).1 hn
    rw[decide_eq_true h0]
    obtain ⟨i,e1,hi,_⟩:=findI_at h0
    have e2:findAt s.shards lo 0=(i:Int):=e1
    have he:=g.one h.2.1
    have gx:=(g.sh _ (List.getElem_mem hi)).1
    have hnew:({Shard.at_ s.shards i with state:=1,epoch:=e}:Shard).Sound:=by
     rw[Shard.at_get hi]
     exact ⟨gx.lh,.inr rfl,gx.srt,gx.fine,gx.bl,gx.fl,gx.acc,gx.fs,gx.fin⟩
    rw[e2]
    simp only[Bool.and_self,cond_true,Int.toNat_natCast]
    refine Store.renew_good (s:=s.frozen i e) g.gr ⟨he,h.2.2⟩ (by show (s.shards.set _ _).length≤8;rw[List.length_set];exact g.len) (fun x hx=> ?_) ?_
    ·rcases mem_set hx with hx | rfl
     ·exact g.old h.2.1 x hx
     ·exact ⟨hnew,fun _=>⟨he,Int.le_refl _⟩⟩
    ·refine set_pairwise g.ord hi (fun z hz=> ?_) (fun z hz=> ?_)
     ·rw[Shard.at_get hi];exact hz
     ·rw[Shard.at_get hi];exact hz
   ·rw[decide_eq_false h0]
    exact g
end Go.Proofs.YthofpopafchelaaGreat.A
namespace Go.Proofs.YthofpopafchelaaGreat.A
open Go
set_option linter.unusedSimpArgs false
set_option linter.unusedVariables false
section
variable {α:Type} {R:Rel α} {tag:Nat} {h0 h g:Heap} {x y:Cell} {xs ys:List α} {fp fq:List Nat}
theorem AllR.take: ∀{rows:List (List Cell)} {xs:List α} {fps:List (List Nat)},AllR R h rows xs fps→ ∀(i:Nat),AllR R h (rows.take i) (xs.take i) (fps.take i)
 | [],[],[],_,i=>by simp only[List.take_nil];trivial
 | _::_,_::_,_::_,_,0=>trivial
 | _::_,_::_,_::_,⟨w0,w⟩,i+1=>⟨w0,AllR.take w i⟩
 | [],[],_::_,w,_=>w.elim
 | [],_::_,_,w,_=>w.elim
 | _::_,[],_,w,_=>w.elim
 | _::_,_::_,[],w,_=>w.elim
theorem AllR.drop: ∀{rows:List (List Cell)} {xs:List α} {fps:List (List Nat)},AllR R h rows xs fps→ ∀(i:Nat),AllR R h (rows.drop i) (xs.drop i) (fps.drop i)
 | [],[],[],_,i=>by simp only[List.drop_nil];trivial
 | _::_,_::_,_::_,w,0=>w
 | _::_,_::_,_::_,⟨w0,w⟩,i+1=>AllR.drop w i
 | [],[],_::_,w,_=>w.elim
 | [],_::_,_,w,_=>w.elim
 | _::_,[],_,w,_=>w.elim
 | _::_,_::_,[],w,_=>w.elim
theorem flat_parts {fps:List (List Nat)} (i:Nat):(fps.take i).flatten++(fps.drop i).flatten=fps.flatten:=by rw[←List.flatten_append,List.take_append_drop]
structure Re (h g:Heap) (fp fq:List Nat):Prop where
 le:h.next≤g.next
 fl:g.floor=h.floor
 get: ∀id,id<h.next→id∉fp→g.get id=h.get id
 nd:fq.Nodup
 of: ∀id,id∈fq→id∈fp∨h.next≤id
theorem Re.on (r:Re h g fp fq) (o:On h0 h) (f:Fre h0 fp):On h0 g:=
 ⟨⟨Nat.le_trans o.ext.1 r.le,fun id hid=>by rw[r.get id (Nat.lt_of_lt_of_le hid o.ext.1) (f.gt id hid)];exact o.ext.2 id hid⟩,r.fl.trans o.fl⟩
theorem Re.fre (r:Re h g fp fq) (o:On h0 h) (f:Fre h0 fp):Fre h0 fq:=
 ⟨fun id hid=>by rcases r.of id hid with h1 | h1;exact f.lo id h1;exact Nat.le_trans o.ext.1 h1,r.nd⟩
theorem SlR.del (ok:RelOk R) (w:SlR tag R h x xs fp) (nd:fp.Nodup) (hfl: ∀id,id∈fp→h.floor≤id) {i:Nat} (hi:i<xs.length):
 ∃y g fq,delF tag [.c x,.c (.int .i64 (i:Nat)),.c (.int .i64 ((i+1:Nat):Int))] h=some (.c y,g)∧SlR tag R g y (xs.eraseIdx i) fq∧Re h g fp fq:=by
 rcases w with ⟨hl,⟨rfl,rfl,rfl⟩ | ⟨id,rows,fps,rfl,q1,q2,rfl,q3⟩⟩
 ·exact absurd hi (Nat.not_lt_zero _)
 have hn:=List.nodup_cons.1 nd
 have hrl:=q3.len
 have hfid:=hfl id (by simp)
 have hlen:(rows.take i++rows.drop (i+1)).length=i+(xs.length-(i+1)):=by simp only[List.length_append,List.length_take,List.length_drop,hrl];omega
 have he:xs.eraseIdx i=xs.take i++xs.drop (i+1):=List.eraseIdx_eq_take_drop_succ ..
 have hel:(xs.eraseIdx i).length=i+(xs.length-(i+1)):=by rw[List.length_eraseIdx_of_lt hi];omega
 have hflt:=q3.lt ok
 have hsub: ∀j,j∈(fps.take i++fps.drop (i+1)).flatten→j∈fps.flatten:=fun j hj=>by
  rw[List.flatten_append,List.mem_append] at hj
  rw[←flat_parts (fps:=fps) i,List.mem_append]
  rcases hj with hj | hj
  ·exact .inl hj
  ·right
   rw[List.mem_flatten] at hj ⊢
   obtain ⟨l,hl1,hl2⟩:=hj
   exact ⟨l,List.mem_of_mem_drop (i:=1) (by rw[List.drop_drop];exact hl1),hl2⟩
 refine ⟨.sl tag h.next 0 (i+(xs.length-(i+1))),(h.kill id).push (rows.take i++rows.drop (i+1)),h.next::(fps.take i++fps.drop (i+1)).flatten,?_,?_,?_⟩
 ·simp only[delF,q1,Option.bind_some,Int.toNat_natCast]
  rw[if_pos ⟨trivial,trivial,hfid,by omega,by omega,by omega,hrl⟩]
 ·refine ⟨by rw[hel];omega,.inr ⟨h.next,rows.take i++rows.drop (i+1),fps.take i++fps.drop (i+1),by rw[hel],by simp[Heap.push,Heap.kill],by simp[Heap.push,Heap.kill],rfl,?_⟩⟩
  rw[he]
  refine ((q3.take i).app (q3.drop (i+1))).mv ok (by simp[Heap.push,Heap.kill]) fun j hj=> ?_
  have hj':=hsub j hj
  have h1:=hflt j hj'
  rw[push_ne _ (by rw[kill_next];omega),kill_ne (h:=h) (k:=id) (id:=j) fun e=>hn.1 (e▸hj')]
 ·refine ⟨by simp[Heap.push,Heap.kill],rfl,fun j hj hjn=> ?_,?_,?_⟩
  ·rw[push_ne _ (by rw[kill_next];omega),kill_ne (h:=h) (k:=id) (id:=j) fun e=>hjn (by rw[e];exact List.mem_cons_self)]
  ·rw[List.nodup_cons]
   refine ⟨fun hc=> ?_,?_⟩
   ·have:=hflt _ (hsub _ hc);omega
   ·rw[List.flatten_append]
    have:=hn.2
    rw[←flat_parts (fps:=fps) i] at this
    obtain ⟨n1,n2,n3⟩:=List.nodup_append.1 this
    have hs2:(fps.drop (i+1)).flatten.Sublist (fps.drop i).flatten:=by
     obtain ⟨_,f,_,e2,_⟩:=q3.at i hi
     rw[List.drop_eq_getElem_cons (List.getElem?_eq_some_iff.1 e2).1,List.flatten_cons]
     exact List.sublist_append_right _ _
    exact List.nodup_append.2 ⟨n1,n2.sublist hs2,fun a ha b hb=>n3 a ha b (hs2.subset hb)⟩
  ·intro j hj
   rcases List.mem_cons.1 hj with rfl | hj
   ·exact .inr (Nat.le_refl _)
   ·exact .inl (List.mem_cons_of_mem _ (hsub j hj))
theorem SlR.ins (ok:RelOk R) (w:SlR tag R h x xs fp) (nd:fp.Nodup) (hfl: ∀id,id∈fp→h.floor≤id) (v:SlR tag R h y ys fq) (nq:fq.Nodup) (hfq: ∀id,id∈fq→h.floor≤id) (hd: ∀id,id∈fq→id∉fp) (hy:0<ys.length)
 {bytes:Nat} (hb:(xs.length+ys.length)*bytes≤140737488355328) (hm:xs.length+ys.length≤maxLen) {i:Nat} (hi:i≤xs.length):
 ∃z g fr,insF tag bytes [.c x,.c (.int .i64 (i:Nat)),.c y] h=some (.c z,g)∧SlR tag R g z (xs.take i++ys++xs.drop i) fr∧Re h g (fp++fq) fr:=by
 rcases v with ⟨hvl,⟨rfl,rfl,rfl⟩ | ⟨idv,new,fps2,rfl,v1,v2,rfl,v3⟩⟩
 ·exact absurd hy (Nat.not_lt_zero _)
 have hnv:=List.nodup_cons.1 nq
 have hvrl:=v3.len
 have hvlt:=v3.lt ok
 have hfv:=hfq idv (by simp)
 rcases w with ⟨hl,⟨rfl,rfl,rfl⟩ | ⟨id,rows,fps,rfl,q1,q2,rfl,q3⟩⟩
 ·have hi0:i=0:=by simpa using hi
  subst hi0
  simp only[List.length_nil,Nat.zero_add] at hb hm
  refine ⟨.sl tag h.next 0 ys.length,h.push new,h.next::fps2.flatten,?_,?_,?_⟩
  ·simp only[insF]
   rw[if_pos ⟨trivial,trivial,hfv,hy⟩]
   simp only[v1,Option.bind_some]
   rw[if_pos hvrl,if_pos ⟨rfl,hb,hm⟩]
  ·refine ⟨by simpa using hm,.inr ⟨h.next,new,fps2,by simp,by simp[Heap.push],by simp[Heap.push],rfl,?_⟩⟩
   simp only[List.take_nil,List.drop_nil,List.nil_append,List.append_nil]
   exact v3.mv ok (by simp[Heap.push]) fun j hj=>push_ne _ (by have:=hvlt j hj;omega)
  ·refine ⟨by simp[Heap.push],rfl,fun j hj _=>push_ne _ (by omega),List.nodup_cons.2 ⟨fun hc=>by have:=hvlt _ hc;omega,hnv.2⟩,fun j hj=> ?_⟩
   rcases List.mem_cons.1 hj with rfl | hj
   ·exact .inr (Nat.le_refl _)
   ·exact .inl (by simp[hj])
 ·have hn:=List.nodup_cons.1 nd
  have hrl:=q3.len
  have hflt:=q3.lt ok
  have hfid:=hfl id (by simp)
  have hne:id≠idv:=fun e=>hd idv (by simp) (by simp[e])
  refine ⟨.sl tag h.next 0 (xs.length+ys.length),(h.kill id).push (rows.take i++new++rows.drop i),h.next::(fps.take i++fps2++fps.drop i).flatten,?_,?_,?_⟩
  ·simp only[insF]
   rw[if_pos ⟨trivial,trivial,hfv,hy⟩]
   simp only[v1,Option.bind_some]
   rw[if_pos hvrl]
   simp only[q1,Option.bind_some,Int.toNat_natCast]
   rw[if_pos ⟨trivial,trivial,hfid,hne,by omega,by omega,hb,hm,hrl⟩]
  ·have hlen:(xs.take i++ys++xs.drop i).length=xs.length+ys.length:=by simp only[List.length_append,List.length_take,List.length_drop];omega
   refine ⟨by rw[hlen];exact hm,.inr ⟨h.next,rows.take i++new++rows.drop i,fps.take i++fps2++fps.drop i,by rw[hlen],by simp[Heap.push,Heap.kill],by simp[Heap.push,Heap.kill],rfl,?_⟩⟩
   refine (((q3.take i).app v3).app (q3.drop i)).mv ok (by simp[Heap.push,Heap.kill]) fun j hj=> ?_
   have:j∈fps.flatten∨j∈fps2.flatten:=by
    rw[List.flatten_append,List.flatten_append,List.mem_append,List.mem_append] at hj
    rw[←flat_parts (fps:=fps) i,List.mem_append]
    rcases hj with (hj | hj) | hj
    ·exact .inl (.inl hj)
    ·exact .inr hj
    ·exact .inl (.inr hj)
   rcases this with hj' | hj'
   ·have h1:=hflt j hj'
    rw[push_ne _ (by rw[kill_next];omega),kill_ne (h:=h) (k:=id) (id:=j) fun e=>hn.1 (e▸hj')]
   ·have h1:=hvlt j hj'
    rw[push_ne _ (by rw[kill_next];omega),kill_ne (h:=h) (k:=id) (id:=j) fun e=>hd j (by simp[hj']) (by rw[e];simp)]
  ·refine ⟨by simp[Heap.push,Heap.kill],rfl,fun j hj hjn=> ?_,?_,?_⟩
   ·rw[push_ne _ (by rw[kill_next];omega),kill_ne (h:=h) (k:=id) (id:=j) fun e=>hjn (by rw[e];simp)]
   ·rw[List.nodup_cons]
    have hn2:=hn.2
    rw[←flat_parts (fps:=fps) i] at hn2
    obtain ⟨n1,n2,n3⟩:=List.nodup_append.1 hn2
    have hd1: ∀a,a∈fps2.flatten→a∉fps.flatten:=fun a ha hb=>hd a (by simp[ha]) (by simp[hb])
    have hin1: ∀a,a∈(fps.take i).flatten→a∈fps.flatten:=fun a ha=>by rw[←flat_parts (fps:=fps) i,List.mem_append];exact .inl ha
    have hin2: ∀a,a∈(fps.drop i).flatten→a∈fps.flatten:=fun a ha=>by rw[←flat_parts (fps:=fps) i,List.mem_append];exact .inr ha
    rw[List.flatten_append,List.flatten_append]
    refine ⟨fun hc=> ?_,?_⟩
    ·rw[List.mem_append,List.mem_append] at hc
     rcases hc with (hc | hc) | hc
     ·have:=hflt _ (hin1 _ hc);omega
     ·have:=hvlt _ hc;omega
     ·have:=hflt _ (hin2 _ hc);omega
    ·refine List.nodup_append.2 ⟨List.nodup_append.2 ⟨n1,hnv.2,fun a ha b hb e=>hd1 b hb (e▸hin1 a ha)⟩,n2,fun a ha b hb e=> ?_⟩
     rcases List.mem_append.1 ha with ha | ha
     ·exact n3 a ha b hb e
     ·exact hd1 a ha (e▸hin2 b hb)
   ·intro j hj
    rcases List.mem_cons.1 hj with rfl | hj
    ·exact .inr (Nat.le_refl _)
    ·left
     rw[List.flatten_append,List.flatten_append,List.mem_append,List.mem_append] at hj
     rw[List.mem_append]
     rcases hj with (hj | hj) | hj
     ·exact .inl (List.mem_cons_of_mem _ (by rw[←flat_parts (fps:=fps) i,List.mem_append];exact .inl hj))
     ·exact .inr (by simp[hj])
     ·exact .inl (List.mem_cons_of_mem _ (by rw[←flat_parts (fps:=fps) i,List.mem_append];exact .inr hj))
end
end Go.Proofs.YthofpopafchelaaGreat.A
namespace Go.Proofs.YthofpopafchelaaGreat.A
open Go
set_option linter.unusedSimpArgs false
set_option linter.unusedVariables false
section
variable {F:Nat→Option RF} {Z:CallF} {h:Heap} {c:Cell} {xs:List Shard} {fp fq fr:List Nat} {cs ds:List Cell} {s:Store} {x t:Shard}
end
end Go.Proofs.YthofpopafchelaaGreat.A
namespace Go.Proofs.YthofpopafchelaaGreat.A
open Go
set_option linter.unusedSimpArgs false
set_option linter.unusedVariables false
section
variable {F:Nat→Option RF} {Z:CallF} {h h1:Heap} {c:Cell} {xs:List Shard} {fp fq fr:List Nat} {cs ds:List Cell} {s:Store} {x t:Shard}
theorem AccM.base {α:Type} {R:Rel α} {tag:Nat} {h0 h1 g:Heap} {y:Cell} {xs:List α} {fp:List Nat} (a:AccM R tag h1 g y xs fp) (o:On h0 h1):AccM R tag h0 g y xs fp:=
 ⟨o.trans a.on,a.sh,⟨fun id hid=>Nat.le_trans o.ext.1 (a.fr.lo id hid),a.fr.nd⟩⟩
theorem AccM.old {α:Type} {R:Rel α} {tag:Nat} {h0 h1 g:Heap} {y:Cell} {xs:List α} {fp:List Nat} (a:AccM R tag h1 g y xs fp) (h:On h0 h1) {fy:List Nat} (hy: ∀id,id∈fy→id<h1.next): ∀id,id∈fy→id∉fp:=fun id h1 h2=>by
 have:=hy id h1;have:=a.fr.lo id h2;omega
end
end Go.Proofs.YthofpopafchelaaGreat.A
namespace Go.Proofs.YthofpopafchelaaGreat.A
open Go
set_option linter.unusedSimpArgs false
set_option linter.unusedVariables false
def Account.inside (lo hi:Int) (a:Account):Bool:=decide (lo≤a.id)&&decide (a.id≤hi)
def Fin.inside (lo hi:Int) (a:Fin):Bool:=decide (lo≤a.id)&&decide (a.id≤hi)
def Shard.within (x:Shard) (lo hi e:Int):Shard:=⟨lo,hi,x.state,e,⟨x.book.list.filter (Account.inside lo hi)⟩,x.finished.filter (Fin.inside lo hi)⟩
theorem Shard.within_small {x:Shard} (sm:x.Small) (lo hi e:Int):(x.within lo hi e).Small:=
 ⟨Nat.le_trans (List.length_filter_le _ _) sm.1,Nat.le_trans (List.length_filter_le _ _) sm.2⟩
section
variable {F:Nat→Option RF} {Z:CallF} {h:Heap} {cs:List Cell} {fp:List Nat} {t:Shard}
set_option maxHeartbeats 1000000 in
theorem l13Within_c (hS13:Has F tS13) (hf:h.floor≤h.next) (v:Shard.RI h cs t fp) (sm:t.Small) (lo hi e:Int):
 ∃cs' h' fq,call F Z 333 [.agg cs,.c (.int .u64 lo),.c (.int .u64 hi),.c (.int .i64 e)] h=some (.agg cs',h')∧On h h'∧Shard.RI h' cs' (t.within lo hi e) fq∧Fre h fq:=by
 obtain ⟨x,p,z,q,rfl,rfl,w,u⟩:=v
 obtain ⟨sm1,sm2⟩:=sm
 have sm1:t.book.list.length≤1048576:=sm1
 have hwl:=w.len
 have hul:=u.len
 have hwe:=w.le2
 have hue:=u.le2
 rw[call_run F Z (hS13.lk (g:=333) rfl) _ _ rfl]
 simp only[rn,RO.dst,lk,drop,Nat.reduceBEq,Nat.reduceAdd,Nat.reduceLeDiff,↓reduceIte,reduceCtorEq]
 obtain ⟨s',⟨y,g,hs,a⟩,lp⟩:=loop_goes (F:=F) (Z:=Z) (live:=[1,2,4,8,9,10]) (b:=r333L1) t.book.list.length (fun i st=> ∃y g,st=⟨[(1,.c (.int .u64 lo)),(2,.c (.int .u64 hi)),(10,.c (.int .i64 (i:Nat)))],[(4,4,0),(8,8,0),(9,9,0)],[(4,[.int .u64 t.lo,.int .u64 t.hi,.int .i64 t.state,.int .i64 t.epoch,x,z]),(8,[.int .u64 0,.int .u64 0,.int .i64 0,.int .i64 0,.nil,.nil]),(9,[.int .u64 lo,.int .u64 hi,.int .i64 t.state,.int .i64 e,y,.nil])],g⟩∧Acc 11 h g y (((t.book.list.take i).filter (Account.inside lo hi)).map Account.enc)) (fun i st hi' ⟨y,g,hs,a⟩=>by
  subst hs
  have hlt:(i:Int)<t.book.list.length:=by omega
  have hws:=wrapS i (by omega)
  have hxi:=w.idx hi'
  have hld:=(w.on (Fl.ok _) a.on).load hi'
  have hfn:=filter_next (Account.inside lo hi) hi'
  have hfl:=filter_len (Account.inside lo hi) t.book.list i
  rw[loop_run]
  conv in (codeF _ _ r333L1 _)=>unfold r333L1
  have hd:Account.inside lo hi t.book.list[i]=(decide (lo≤t.book.list[i].id)&&decide (t.book.list[i].id≤hi)):=rfl
  generalize t.book.list[i]=b at *
  by_cases c1:b.id≥lo
  ·have c1':lo≤b.id:=c1
   by_cases c2:b.id≤hi
   ·have e3:=a.one_eq hf (bytes:=40) (by rw[List.length_map];omega) b.enc
    have a2:=a.one hf (by rw[List.length_map];omega) b.enc
    have hm:((t.book.list.take i).filter (Account.inside lo hi)).map Account.enc++[b.enc]=((t.book.list.take (i+1)).filter (Account.inside lo hi)).map Account.enc:=by
     rw[hfn,hd];simp[c1',c2]
    rw[hm] at a2
    simp only[Account.enc] at hld e3 a2
    simp only[rn,RO.dst,lk,drop,Nat.reduceBEq,Nat.reduceAdd,Nat.reduceLeDiff,↓reduceIte,reduceCtorEq,hwl,hlt,hxi,hld,c1,c2,List.replicate_succ,List.replicate_zero,fills,and_self,Nat.zero_lt_one,List.set_cons_zero,e3,hws,Account.enc]
    exact ⟨_,⟨_,_,rfl,a2⟩,rfl⟩
   ·have hm:((t.book.list.take (i+1)).filter (Account.inside lo hi))=((t.book.list.take i).filter (Account.inside lo hi)):=by
     rw[hfn,hd];simp[c2]
    rw[←hm] at a
    simp only[Account.enc] at hld
    simp only[rn,RO.dst,lk,drop,Nat.reduceBEq,Nat.reduceAdd,Nat.reduceLeDiff,↓reduceIte,reduceCtorEq,hwl,hlt,hxi,hld,c1,c2,hws]
    exact ⟨_,⟨_,_,rfl,a⟩,rfl⟩
  ·have hm:((t.book.list.take (i+1)).filter (Account.inside lo hi))=((t.book.list.take i).filter (Account.inside lo hi)):=by
    have c1': ¬lo≤b.id:=c1
    rw[hfn,hd];simp[c1']
   rw[←hm] at a
   simp only[Account.enc] at hld
   simp only[rn,RO.dst,lk,drop,Nat.reduceBEq,Nat.reduceAdd,Nat.reduceLeDiff,↓reduceIte,reduceCtorEq,hwl,hlt,hxi,hld,c1,hws]
   exact ⟨_,⟨_,_,rfl,a⟩,rfl⟩) (s:=⟨[(1,.c (.int .u64 lo)),(2,.c (.int .u64 hi)),(10,.c (.int .i64 (0:Nat)))],[(4,4,0),(8,8,0),(9,9,0)],[(4,[.int .u64 t.lo,.int .u64 t.hi,.int .i64 t.state,.int .i64 t.epoch,x,z]),(8,[.int .u64 0,.int .u64 0,.int .i64 0,.int .i64 0,.nil,.nil]),(9,[.int .u64 lo,.int .u64 hi,.int .i64 t.state,.int .i64 e,.nil,.nil])],h⟩) ⟨_,_,rfl,by simpa using Acc.nil 11 h⟩
 subst hs
 rw[List.take_length] at a
 obtain ⟨o1,fy,wy,fyr⟩:=a.flat (enc:=Account.enc)
 simp only[show ((0:Nat):Int)=0 from rfl] at lp
 have hlt: ¬(t.book.list.length:Int)<t.book.list.length:=by omega
 rw[lp,loop_run]
 conv in (codeF _ _ r333L1 _)=>unfold r333L1
 simp only[rn,RO.dst,lk,drop,Nat.reduceBEq,Nat.reduceAdd,Nat.reduceLeDiff,↓reduceIte,reduceCtorEq,hwl,hlt]
 clear lp a
 have u1:=u.on (Fl.ok _) o1
 obtain ⟨s',⟨z',g',hs,a⟩,lp⟩:=loop_goes (F:=F) (Z:=Z) (live:=[1,2,4,8,9,11]) (b:=r333L0) t.finished.length (fun i st=> ∃z' g',st=⟨[(1,.c (.int .u64 lo)),(2,.c (.int .u64 hi)),(11,.c (.int .i64 (i:Nat)))],[(4,4,0),(8,8,0),(9,9,0)],[(4,[.int .u64 t.lo,.int .u64 t.hi,.int .i64 t.state,.int .i64 t.epoch,x,z]),(8,[.int .u64 0,.int .u64 0,.int .i64 0,.int .i64 0,.nil,.nil]),(9,[.int .u64 lo,.int .u64 hi,.int .i64 t.state,.int .i64 e,y,z'])],g'⟩∧Acc 9 g g' z' (((t.finished.take i).filter (Fin.inside lo hi)).map Fin.enc)) (fun i st hi' ⟨z',g',hs,a⟩=>by
  subst hs
  have hlt:(i:Int)<t.finished.length:=by omega
  have hws:=wrapS i (by omega)
  have hxi:=u.idx hi'
  have hld:=(u1.on (Fl.ok _) a.on).load hi'
  have hfn:=filter_next (Fin.inside lo hi) hi'
  have hfl:=filter_len (Fin.inside lo hi) t.finished i
  have hf1:=o1.le hf
  rw[loop_run]
  conv in (codeF _ _ r333L0 _)=>unfold r333L0
  have hd:Fin.inside lo hi t.finished[i]=(decide (lo≤t.finished[i].id)&&decide (t.finished[i].id≤hi)):=rfl
  generalize t.finished[i]=b at *
  by_cases c1:b.id≥lo
  ·have c1':lo≤b.id:=c1
   by_cases c2:b.id≤hi
   ·have e3:=a.one_eq hf1 (bytes:=16) (by rw[List.length_map];omega) b.enc
    have a2:=a.one hf1 (by rw[List.length_map];omega) b.enc
    have hm:((t.finished.take i).filter (Fin.inside lo hi)).map Fin.enc++[b.enc]=((t.finished.take (i+1)).filter (Fin.inside lo hi)).map Fin.enc:=by
     rw[hfn,hd];simp[c1',c2]
    rw[hm] at a2
    simp only[Fin.enc] at hld e3 a2
    simp only[rn,RO.dst,lk,drop,Nat.reduceBEq,Nat.reduceAdd,Nat.reduceLeDiff,↓reduceIte,reduceCtorEq,hul,hlt,hxi,hld,c1,c2,List.replicate_succ,List.replicate_zero,fills,and_self,Nat.zero_lt_one,List.set_cons_zero,e3,hws,Fin.enc]
    exact ⟨_,⟨_,_,rfl,a2⟩,rfl⟩
   ·have hm:((t.finished.take (i+1)).filter (Fin.inside lo hi))=((t.finished.take i).filter (Fin.inside lo hi)):=by
     rw[hfn,hd];simp[c2]
    rw[←hm] at a
    simp only[Fin.enc] at hld
    simp only[rn,RO.dst,lk,drop,Nat.reduceBEq,Nat.reduceAdd,Nat.reduceLeDiff,↓reduceIte,reduceCtorEq,hul,hlt,hxi,hld,c1,c2,hws]
    exact ⟨_,⟨_,_,rfl,a⟩,rfl⟩
  ·have hm:((t.finished.take (i+1)).filter (Fin.inside lo hi))=((t.finished.take i).filter (Fin.inside lo hi)):=by
    have c1': ¬lo≤b.id:=c1
    rw[hfn,hd];simp[c1']
   rw[←hm] at a
   simp only[Fin.enc] at hld
   simp only[rn,RO.dst,lk,drop,Nat.reduceBEq,Nat.reduceAdd,Nat.reduceLeDiff,↓reduceIte,reduceCtorEq,hul,hlt,hxi,hld,c1,hws]
   exact ⟨_,⟨_,_,rfl,a⟩,rfl⟩) (s:=⟨[(1,.c (.int .u64 lo)),(2,.c (.int .u64 hi)),(11,.c (.int .i64 (0:Nat)))],[(4,4,0),(8,8,0),(9,9,0)],[(4,[.int .u64 t.lo,.int .u64 t.hi,.int .i64 t.state,.int .i64 t.epoch,x,z]),(8,[.int .u64 0,.int .u64 0,.int .i64 0,.int .i64 0,.nil,.nil]),(9,[.int .u64 lo,.int .u64 hi,.int .i64 t.state,.int .i64 e,y,.nil])],g⟩) ⟨_,_,rfl,by simpa using Acc.nil 9 g⟩
 subst hs
 rw[List.take_length] at a
 obtain ⟨o2,fz,wz,fzr⟩:=a.flat (enc:=Fin.enc)
 simp only[show ((0:Nat):Int)=0 from rfl] at lp
 have hlt: ¬(t.finished.length:Int)<t.finished.length:=by omega
 rw[lp,loop_run]
 conv in (codeF _ _ r333L0 _)=>unfold r333L0
 simp only[rn,RO.dst,lk,drop,Nat.reduceBEq,Nat.reduceAdd,Nat.reduceLeDiff,↓reduceIte,reduceCtorEq,hul,hlt]
 exact ⟨_,_,_,rfl,o1.trans o2,⟨y,fy,z',fz,rfl,rfl,wy.on (Fl.ok _) o2,wz⟩,Fre.app fyr (wy.lt (Fl.ok _)) fzr o1.ext.1⟩
theorem l13Within_q (hS13:Has F tS13) (v:Shard.RI h cs t fp) (sm:t.Small) (lo hi e:Int):
 ∃cs' h' g fq,call F Z 333 [.agg cs,.c (.int .u64 lo),.c (.int .u64 hi),.c (.int .i64 e)] ⟨h.next,h.next,h.get⟩=some (.agg cs',h')∧Heap.mk h'.next h.floor h'.get=g∧On h g∧Shard.RI g cs' (t.within lo hi e) fq∧Fre h fq∧cs'.length=6:=by
 obtain ⟨cs',h',fq,e1,o,u,f⟩:=l13Within_c (Z:=Z) (h:=⟨h.next,h.next,h.get⟩) hS13 (Nat.le_refl _) (Shard.okI.up v h.next) sm lo hi e
 exact ⟨cs',h',_,fq,e1,rfl,⟨⟨o.ext.1,o.ext.2⟩,rfl⟩,Shard.okI.up u h.floor,⟨f.lo,f.nd⟩,(Shard.lenI u).1⟩
end
end Go.Proofs.YthofpopafchelaaGreat.A
namespace Go.Proofs.YthofpopafchelaaGreat.A
open Go
set_option linter.unusedSimpArgs false
set_option linter.unusedVariables false
def Shard.one_ (x:Shard) (a e:Int):Shard:=x.within x.lo (a-1) e
def Shard.two_ (x:Shard) (a e:Int):Shard:=x.within a x.hi e
def Store.cutAt (s:Store) (k:Nat) (a e:Int):Store:={s with shards:=s.shards.take k++[(Shard.at_ s.shards k).one_ a e,(Shard.at_ s.shards k).two_ a e]++s.shards.drop (k+1)}
def cutShard (s:Store) (a e:Int):Store×Bool:=
 bif s.next e&&(decide (0≤findId s.shards a)&&(((Shard.at_ s.shards (findId s.shards a).toNat).state==0)&&(!((Shard.at_ s.shards (findId s.shards a).toNat).lo==a)&& !((s.shards.length:Int)==8)))) then ((s.cutAt (findId s.shards a).toNat a e).renew e,true) else (s,false)
theorem cut_no {s:Store} {a e:Int} (h:s.next e=false):cutShard s a e=(s,false):=by simp[cutShard,h]
theorem cut_away {s:Store} {a e:Int} (h:findId s.shards a= -1):cutShard s a e=(s,false):=by simp[cutShard,h]
theorem cut_if {s:Store} {a e:Int} {k:Nat} (h0:s.next e=true) (h:findId s.shards a=(k:Int)):cutShard s a e=bif ((Shard.at_ s.shards k).state==0)&&(!((Shard.at_ s.shards k).lo==a)&& !((s.shards.length:Int)==8)) then ((s.cutAt k a e).renew e,true) else (s,false):=by simp[cutShard,h0,h]
theorem Store.cutAt_small {s:Store} (sm:s.Small) {k:Nat} (hk:k<s.shards.length) (a e:Int) (hl:s.shards.length≤8):(s.cutAt k a e).Small:=by
 refine ⟨?_,fun b hb=> ?_⟩
 ·simp only[Store.cutAt,List.length_append,List.length_take,List.length_drop,List.length_cons,List.length_nil];omega
 ·simp only[Store.cutAt,List.mem_append,List.mem_cons,List.not_mem_nil,or_false] at hb
  rcases hb with (hb | hb | hb) | hb
  ·exact sm.2 b (List.mem_of_mem_take hb)
  ·subst hb;exact Shard.within_small (Store.at_small sm hk) _ _ _
  ·subst hb;exact Shard.within_small (Store.at_small sm hk) _ _ _
  ·exact sm.2 b (List.mem_of_mem_drop hb)
theorem Store.next_len {s:Store} {e:Int} (h:s.next e=true):s.shards.length≤8:=by
 simp only[Store.next,Store.good,Bool.and_eq_true,decide_eq_true_eq] at h
 omega
def Store.cpart (s:Store) (p q:Shard) (k i:Nat):List Shard:=if k<i then s.shards.take k++[p,q]++(s.shards.take i).drop (k+1) else s.shards.take i
theorem Store.cpart_no {s:Store} {p q:Shard} {k i:Nat} (hi:i<s.shards.length) (h:i<k):s.cpart p q k (i+1)=s.cpart p q k i++[s.shards[i]]:=by
 simp only[Store.cpart]
 rw[if_neg (by omega),if_neg (by omega),List.take_add_one,List.getElem?_eq_getElem hi];rfl
theorem Store.cpart_at {s:Store} {p q:Shard} {i:Nat} (hi:i<s.shards.length):s.cpart p q i (i+1)=s.cpart p q i i++[p]++[q]:=by
 simp only[Store.cpart]
 rw[if_pos (by omega),if_neg (by omega),List.drop_eq_nil_of_le (by rw[List.length_take];omega)]
 simp
theorem Store.cpart_yes {s:Store} {p q:Shard} {k i:Nat} (hi:i<s.shards.length) (h:k<i):s.cpart p q k (i+1)=s.cpart p q k i++[s.shards[i]]:=by
 simp only[Store.cpart]
 rw[if_pos (by omega),if_pos h,List.take_add_one,List.getElem?_eq_getElem hi,List.drop_append_of_le_length (by rw[List.length_take];omega),←List.append_assoc];rfl
theorem Store.cpart_end {s:Store} {p q:Shard} {k:Nat} (h:k<s.shards.length):s.cpart p q k s.shards.length=s.shards.take k++[p,q]++s.shards.drop (k+1):=by
 simp only[Store.cpart];rw[if_pos h,List.take_length]
theorem Store.cpart_len (s:Store) (p q:Shard) (k i:Nat):(s.cpart p q k i).length≤s.shards.length+2:=by
 simp only[Store.cpart]
 split<;>simp only[List.length_append,List.length_take,List.length_drop,List.length_cons,List.length_nil]<;>omega
section
variable {F:Nat→Option RF} {Z:CallF} {h:Heap} {cs:List Cell} {fp:List Nat} {s:Store}
theorem SlR.oneOn {α:Type} {R:Rel α} {tag:Nat} {x:Cell} {xs:List α} (ok:RelOk R) (w:SlR tag R h x xs fp) {i:Nat} (hi:i<xs.length): ∃r f,R h r xs[i] f∧ ∀g,On h g→(∀j n,loadP g x.sid i j n=cut? r j n)∧R g r xs[i] f:=by
 rcases w with ⟨_,⟨rfl,rfl,_⟩ | ⟨id,rows,fps,rfl,h1,h3,rfl,h2⟩⟩
 ·exact absurd hi (Nat.not_lt_zero _)
 ·obtain ⟨r,f,q1,q2,q3⟩:=h2.at i hi
  exact ⟨r,f,q3,fun g o=>⟨fun j n=>by simp[loadP,rowOf,Cell.sid,o.ext.2 id h3,h1,q1],ok.on q3 o⟩⟩
set_option maxHeartbeats 2000000 in
theorem sCutShard_c (k:KS F) (hf:h.floor≤h.next) (v:Store.RI h cs s fp) (a e:Int) (ha:0≤a∧a≤18446744073709551615) (ok:s.Ok) (sm:s.Small):
 ∃cs' h' fq,call F Z 311 [.agg cs,.c (.int .u64 a),.c (.int .i64 e)] h=some (.tup [.agg cs',.c (.bool (cutShard s a e).2)],h')∧On h h'∧Store.RI h' cs' (cutShard s a e).1 fq∧Fre h fq:=by
 obtain ⟨l1,l2,l3⟩:=Store.lenI v
 obtain ⟨cs1,h1,fr,e1,o1,v1,f1⟩:=l13Copy_c (Z:=Z) k hf v sm
 obtain ⟨m1,m2,m3⟩:=Store.lenI v1
 have e2:=l13Next_run (Z:=Z) k v ok e
 have e3:=l13Find_run (Z:=Z) k.s13 v a
 rw[call_run F Z (k.s13.lk (g:=311) rfl) _ _ rfl]
 cases hn:s.next e with
 | false=>
   rw[hn] at e2
   rw[cut_no hn]
   simp only[rn,RO.dst,lk,drop,Nat.reduceBEq,Nat.reduceAdd,Nat.reduceLeDiff,↓reduceIte,reduceCtorEq,l1,l2,l3,m1,m2,m3,e1,e2,e3]
   exact ⟨_,_,_,rfl,o1,v1,f1⟩
 | true=>
   rw[hn] at e2
   obtain ⟨x,p,rfl,hp,w⟩:=v
   subst hp
   rcases w.found (fun t=>decide (t.lo≤a)&&decide (a≤t.hi)) with q | ⟨j,q,hj,hpj,hx,_,_,hld⟩
   ·change findId s.shards a= -1 at q
    rw[cut_away q]
    rw[q] at e3
    simp only[rn,RO.dst,lk,drop,Nat.reduceBEq,Nat.reduceAdd,Nat.reduceLeDiff,↓reduceIte,reduceCtorEq,l1,l2,l3,m1,m2,m3,e1,e2,e3,Int.reduceLT,Int.reduceNeg]
    exact ⟨_,_,_,rfl,o1,v1,f1⟩
   change findId s.shards a=(j:Int) at q
   rw[q] at e3
   rw[cut_if hn q]
   have g0: ¬(j:Int)<0:=by omega
   have hwl:=w.len
   have hl8:=Store.next_len hn
   by_cases c2:(Shard.at_ s.shards j).lo=a
   ·have c2':((Shard.at_ s.shards j).lo==a)=true:=by simpa using c2
    rw[c2']
    simp only[Bool.not_true,Bool.false_and,Bool.and_false,cond_false]
    simp only[rn,RO.dst,lk,drop,Nat.reduceBEq,Nat.reduceAdd,Nat.reduceLeDiff,↓reduceIte,reduceCtorEq,l1,l2,l3,m1,m2,m3,e1,e2,e3,g0,hx,hld,Shard.cells,c2']
    exact ⟨_,_,_,rfl,o1,v1,f1⟩
   have c2':((Shard.at_ s.shards j).lo==a)=false:=by simpa using c2
   by_cases c1:(Shard.at_ s.shards j).state=0
   case neg=>
    have c1':((Shard.at_ s.shards j).state==0)=false:=by simpa using c1
    have c1n:((Shard.at_ s.shards j).state !=0)=true:=by simpa using c1
    rw[c1']
    simp only[Bool.false_and,cond_false]
    simp only[rn,RO.dst,lk,drop,Nat.reduceBEq,Nat.reduceAdd,Nat.reduceLeDiff,↓reduceIte,reduceCtorEq,l1,l2,l3,m1,m2,m3,e1,e2,e3,g0,hx,hld,Shard.cells,c2',c1n]
    exact ⟨_,_,_,rfl,o1,v1,f1⟩
   have c1':((Shard.at_ s.shards j).state==0)=true:=by simpa using c1
   have c1n:((Shard.at_ s.shards j).state !=0)=false:=by simpa using c1
   cases c3:((s.shards.length:Int)==8) with
   | true=>
     simp only[Bool.not_true,Bool.and_false,cond_false]
     simp only[rn,RO.dst,lk,drop,Nat.reduceBEq,Nat.reduceAdd,Nat.reduceLeDiff,↓reduceIte,reduceCtorEq,l1,l2,l3,m1,m2,m3,e1,e2,e3,g0,hx,hld,Shard.cells,c2',c1n,hwl,c3]
     exact ⟨_,_,_,rfl,o1,v1,f1⟩
   | false=>
     rw[c1',c2']
     simp only[Bool.not_false,Bool.and_true,cond_true]
     have hpj':=hpj
     simp only[Bool.and_eq_true,decide_eq_true_eq] at hpj'
     have hw:IntKind.u64.wrap (a-1)=a-1:=by
      have:=ok.shards _ (List.getElem_mem hj)
      have h0:=this.lo
      rw[Shard.at_get hj] at hpj' c2
      exact wrapU _ (by omega) (by omega)
     clear hpj hpj' hld e1 o1 v1 f1 m1 m2 m3
     obtain ⟨r0,f0,hR0,hld0⟩:=w.oneOn Shard.okI hj
     have hcells: ∃x1 x2,r0=[.int .u64 (Shard.at_ s.shards j).lo,.int .u64 (Shard.at_ s.shards j).hi,.int .i64 (Shard.at_ s.shards j).state,.int .i64 (Shard.at_ s.shards j).epoch,x1,x2]:=by
      obtain ⟨x1,_,x2,_,hr,_⟩:=hR0
      exact ⟨x1,x2,by rw[hr,Shard.at_get hj]⟩
     rw[←Shard.at_get hj] at hR0 hld0
     obtain ⟨x1,x2,rfl⟩:=hcells
     have hl0:=(hld0 h (On.refl h)).1
     simp only[rn,RO.dst,lk,drop,Nat.reduceBEq,Nat.reduceAdd,Nat.reduceLeDiff,↓reduceIte,reduceCtorEq,l1,l2,l3,e2,e3,g0,hx,hl0,hwl,c1n,c2',c3]
     obtain ⟨s',⟨y,g,fq,hs,ac⟩,lp⟩:=loop_goes (F:=F) (Z:=Z) (live:=[1,2,3,6,8,9,10]) (b:=r311L0) s.shards.length (fun i st=> ∃y g fq,st=⟨[(1,.c (.int .u64 a)),(2,.c (.int .i64 e)),(8,.c (.int .i64 (j:Nat))),(10,.c (.int .i64 (i:Nat)))],[(3,3,0),(6,6,0),(9,9,0)],[(3,[.int .i64 s.group,.int .i64 s.seen,x]),(6,[.int .i64 0,.int .i64 0,.nil]),(9,[.int .i64 s.group,.int .i64 e,y])],g⟩∧AccM Shard.RI 16 h g y (s.cpart ((Shard.at_ s.shards j).one_ a e) ((Shard.at_ s.shards j).two_ a e) j i) fq) (fun i st hi ⟨y,g,fq,hs,ac⟩=>by
      subst hs
      have hlt:(i:Int)<s.shards.length:=by omega
      have hle:=w.le2
      have hws:=wrapS i (by omega)
      have hxi:=w.idx hi
      have hcl:=s.cpart_len ((Shard.at_ s.shards j).one_ a e) ((Shard.at_ s.shards j).two_ a e) j i
      rw[loop_run]
      conv in (codeF _ _ r311L0 _)=>unfold r311L0
      by_cases hij:i=j
      ·subst hij
       obtain ⟨hld1,hR1⟩:=hld0 g ac.on
       obtain ⟨cs',h',g1,fr,e1,hg1,o1,u1,f1,c1⟩:=l13Within_q (Z:=Z) k.s13 hR1 (Store.at_small sm hi) (Shard.at_ s.shards i).lo (a-1) e
       obtain ⟨y',g',fp',e2,a2⟩:=ac.next hf (by omega) o1 u1 f1
       obtain ⟨hld2,hR2⟩:=hld0 g' a2.on
       obtain ⟨cs3,h3,g3,fr3,e3,hg3,o3,u3,f3,c3⟩:=l13Within_q (Z:=Z) k.s13 hR2 (Store.at_small sm hi) a (Shard.at_ s.shards i).hi e
       obtain ⟨y4,g4,fp4,e4,a4⟩:=a2.next hf (by simp;omega) o3 u3 f3
       have:=Store.cpart_at (s:=s) (p:=(Shard.at_ s.shards i).one_ a e) (q:=(Shard.at_ s.shards i).two_ a e) hi
       change AccM Shard.RI 16 h g4 y4 (s.cpart ((Shard.at_ s.shards i).one_ a e) ((Shard.at_ s.shards i).two_ a e) i i++[(Shard.at_ s.shards i).one_ a e]++[(Shard.at_ s.shards i).two_ a e]) fp4 at a4
       rw[←this] at a4
       have hself:((i:Int)==(i:Int))=true:=by simp
       simp only[rn,RO.dst,lk,drop,Nat.reduceBEq,Nat.reduceAdd,Nat.reduceLeDiff,↓reduceIte,reduceCtorEq,hwl,hlt,hxi,hld1,hself,hw,e1,hg1,List.replicate_succ,List.replicate_zero,fills,and_self,Nat.zero_lt_one,c1,List.set_cons_zero,e2,e3,hg3,c3,e4,hws]
       exact ⟨_,⟨_,_,_,rfl,a4⟩,rfl⟩
      ·have hne:((i:Int)==(j:Int))=false:=by
        have: ¬(i:Int)=(j:Int):=by omega
        simpa using this
       obtain ⟨r,f,hld,hR,_⟩:=(w.on Shard.okI ac.on).one hi
       obtain ⟨r1,r2,r3⟩:=Shard.lenI hR
       obtain ⟨cs',h',g1,fr,e1,hg1,o1,u1,f1,c1⟩:=l13CopyShard_q (Z:=Z) k.s10 k.s13 hR (sm.2 _ (List.getElem_mem hi))
       obtain ⟨y',g',fp',e2,a2⟩:=ac.next hf (by omega) o1 u1 f1
       have hnx:s.cpart ((Shard.at_ s.shards j).one_ a e) ((Shard.at_ s.shards j).two_ a e) j i++[s.shards[i]]=s.cpart ((Shard.at_ s.shards j).one_ a e) ((Shard.at_ s.shards j).two_ a e) j (i+1):=by
        rcases Nat.lt_or_gt_of_ne hij with h | h
        ·exact (Store.cpart_no hi h).symm
        ·exact (Store.cpart_yes hi h).symm
       rw[hnx] at a2
       simp only[rn,RO.dst,lk,drop,Nat.reduceBEq,Nat.reduceAdd,Nat.reduceLeDiff,↓reduceIte,reduceCtorEq,hwl,hlt,hxi,hne,hld,r1,r2,r3,e1,hg1,List.replicate_succ,List.replicate_zero,fills,and_self,Nat.zero_lt_one,c1,List.set_cons_zero,e2,hws]
       exact ⟨_,⟨_,_,_,rfl,a2⟩,rfl⟩) (s:=⟨[(1,.c (.int .u64 a)),(2,.c (.int .i64 e)),(8,.c (.int .i64 (j:Nat))),(10,.c (.int .i64 (0:Nat)))],[(3,3,0),(6,6,0),(9,9,0)],[(3,[.int .i64 s.group,.int .i64 s.seen,x]),(6,[.int .i64 0,.int .i64 0,.nil]),(9,[.int .i64 s.group,.int .i64 e,.nil])],h⟩) ⟨_,_,_,rfl,by simpa[Store.cpart] using AccM.nil Shard.RI 16 h⟩
     subst hs
     simp only[show ((0:Nat):Int)=0 from rfl] at lp
     have hlt: ¬(s.shards.length:Int)<s.shards.length:=by omega
     rw[Store.cpart_end hj] at ac
     obtain ⟨cs5,h5,f5,e5,o5,v5,r5⟩:=l13Renew_c (Z:=Z) k (s:=⟨s.group,e,(s.cutAt j a e).shards⟩) (ac.on.le hf) ⟨y,_,rfl,rfl,ac.sh⟩ (Store.cutAt_small sm hj a e hl8) e
     have hre:(⟨s.group,e,(s.cutAt j a e).shards⟩:Store).renew e=(s.cutAt j a e).renew e:=rfl
     rw[hre] at v5
     obtain ⟨n1,n2,n3⟩:=Store.lenI v5
     rw[lp,loop_run]
     conv in (codeF _ _ r311L0 _)=>unfold r311L0
     simp only[rn,RO.dst,lk,drop,Nat.reduceBEq,Nat.reduceAdd,Nat.reduceLeDiff,↓reduceIte,reduceCtorEq,hwl,hlt,e5,n1,n2,n3]
     exact ⟨_,_,_,rfl,ac.on.trans o5,v5,⟨fun id hid=>Nat.le_trans ac.on.ext.1 (r5.lo id hid),r5.nd⟩⟩
end
end Go.Proofs.YthofpopafchelaaGreat.A
namespace Go.Proofs.YthofpopafchelaaGreat.A
open Go
set_option linter.unusedSimpArgs false
set_option linter.unusedVariables false
theorem erase_skip {α:Type} {xs:List α} {k:Nat} (hk:k<xs.length):(xs.take (k+1)).eraseIdx k=(xs.take k).eraseIdx k:=by
 rw[List.eraseIdx_of_length_le (k:=k) (l:=xs.take k) (by rw[List.length_take];omega),List.eraseIdx_eq_take_drop_succ,List.drop_eq_nil_of_le (by rw[List.length_take];omega),List.take_take,List.append_nil]
 congr 1
 omega
theorem erase_next {α:Type} {xs:List α} {i k:Nat} (hi:i<xs.length) (hne:i≠k):(xs.take (i+1)).eraseIdx k=(xs.take i).eraseIdx k++[xs[i]]:=by
 rw[List.take_add_one,List.getElem?_eq_getElem hi]
 rcases Nat.lt_or_ge k i with h | h
 ·rw[List.eraseIdx_append_of_lt_length (by rw[List.length_take];omega)];rfl
 ·rw[List.eraseIdx_of_length_le (k:=k) (l:=xs.take i) (by rw[List.length_take];omega),List.eraseIdx_of_length_le (by simp;omega)];rfl
section
variable {F:Nat→Option RF} {Z:CallF} {h:Heap} {x:Cell} {xs:List Shard} {fp fq:List Nat} {cs:List Cell} {s:Store} {t:Shard}
end
end Go.Proofs.YthofpopafchelaaGreat.A
namespace Go.Proofs.YthofpopafchelaaGreat.A
open Go
set_option linter.unusedSimpArgs false
set_option linter.unusedVariables false
def Shard.join (p q:Shard):Shard:=⟨p.lo,q.hi,p.state,p.epoch,⟨p.book.list++q.book.list⟩,sortFins (p.finished++q.finished)⟩
def Shard.joins (p q:Shard):Bool:=decide (((p.book.list++q.book.list).length:Int)≤40)&&decide (((p.finished++q.finished).length:Int)≤60)
def Store.joinWith (s:Store) (j:Nat) (y:Shard):Store:={s with shards:=(s.shards.set j y).eraseIdx (j+1)}
def joinShard (s:Store) (a e:Int):Store×Bool:=
 bif s.next e&&(decide (1≤findAt s.shards a 0)&&(((Shard.at_ s.shards ((findAt s.shards a 0).toNat-1)).state==0)&&((Shard.at_ s.shards ((findAt s.shards a 0).toNat-1)).hi==a-1))) then
  bif Shard.joins (Shard.at_ s.shards ((findAt s.shards a 0).toNat-1)) (Shard.at_ s.shards (findAt s.shards a 0).toNat) then
   ((s.joinWith ((findAt s.shards a 0).toNat-1) (Shard.join (Shard.at_ s.shards ((findAt s.shards a 0).toNat-1)) (Shard.at_ s.shards (findAt s.shards a 0).toNat))).renew e,true) else (s,false)
 else (s,false)
theorem join_no {s:Store} {a e:Int} (h:s.next e=false):joinShard s a e=(s,false):=by simp[joinShard,h]
theorem join_away {s:Store} {a e:Int} (h:findAt s.shards a 0<1):joinShard s a e=(s,false):=by
 have: ¬1≤findAt s.shards a 0:=by omega
 simp[joinShard,this]
theorem join_if {s:Store} {a e:Int} {j:Nat} (h0:s.next e=true) (h:findAt s.shards a 0=((j+1:Nat):Int)):joinShard s a e=bif ((Shard.at_ s.shards j).state==0)&&((Shard.at_ s.shards j).hi==a-1) then
 (bif Shard.joins (Shard.at_ s.shards j) (Shard.at_ s.shards (j+1)) then ((s.joinWith j (Shard.join (Shard.at_ s.shards j) (Shard.at_ s.shards (j+1)))).renew e,true) else (s,false)) else (s,false):=by
 have:(1:Int)≤(j:Int)+1:=by omega
 simp[joinShard,h0,h,this]
theorem Shard.join_small {p q:Shard} (h:Shard.joins p q=true):(Shard.join p q).Small:=by
 simp only[Shard.joins,Bool.and_eq_true,decide_eq_true_eq] at h
 refine ⟨?_,?_⟩
 ·show (p.book.list++q.book.list).length≤1048576;omega
 ·show (sortFins (p.finished++q.finished)).length≤1048576
  rw[sortFins_len];omega
theorem Store.joinWith_small {s:Store} (sm:s.Small) (j:Nat) {y:Shard} (sy:y.Small):(s.joinWith j y).Small:=by
 refine ⟨Nat.le_trans (List.length_eraseIdx_le _ _) (by rw[List.length_set];exact sm.1),fun b hb=> ?_⟩
 have hb:=(List.eraseIdx_sublist _ _).subset hb
 rcases List.mem_or_eq_of_mem_set hb with hb | hb
 ·exact sm.2 b hb
 ·exact hb▸sy
theorem Store.side {s:Store} (g:s.good=true) {j:Nat} (hj:j+1<s.shards.length):(Shard.at_ s.shards j).good=true∧(Shard.at_ s.shards (j+1)).good=true∧(Shard.at_ s.shards j).hi<(Shard.at_ s.shards (j+1)).lo:=by
 have h1:=Store.fit_at g (show j<s.shards.length by omega)
 have h2:=Store.fit_at g hj
 simp only[Store.fits,Bool.and_eq_true,Bool.or_eq_true,decide_eq_true_eq,beq_iff_eq,Nat.add_sub_cancel] at h1 h2
 refine ⟨h1.1,h2.1,?_⟩
 rcases h2.2.2 with h | h
 ·omega
 ·exact h
theorem Shard.apart_fins {p q:Shard} (gp:p.good=true) (gq:q.good=true) (h:p.hi<q.lo):(p.finished++q.finished).Nodup:=by
 refine List.nodup_append.2 ⟨flt_nodup (Shard.good_sorted gp),flt_nodup (Shard.good_sorted gq),fun f hf f' hf' e=> ?_⟩
 subst e
 have h1:=Shard.good_in gp hf
 have h2:=Shard.good_in gq hf'
 omega
theorem Store.join_renew {s:Store} {j:Nat} {y y':Shard} {e:Int} (h:Shard.renew e y=Shard.renew e y'):(s.joinWith j y).renew e=(s.joinWith j y').renew e:=by
 simp only[Store.renew,Store.joinWith,Store.mk.injEq,true_and]
 simp only[List.eraseIdx_eq_take_drop_succ,List.map_append,List.map_take,List.map_drop,List.map_set,h]
end Go.Proofs.YthofpopafchelaaGreat.A
namespace Go.Proofs.YthofpopafchelaaGreat.A
open Go
set_option linter.unusedSimpArgs false
set_option linter.unusedVariables false
theorem Shard.within_sound {x:Shard} (g:x.Good) {lo hi:Int} (h:lo≤hi) (e:Int):(x.within lo hi e).Sound where
 lh:=h
 st:=g.st
 srt:=List.Pairwise.sublist List.filter_sublist g.srt
 fine:=fun a ha=>g.fine a (List.mem_filter.1 ha).1
 bl:=Nat.le_trans (List.length_filter_le _ _) g.bl
 fl:=Nat.le_trans (List.length_filter_le _ _) g.fl
 acc:=fun a ha=>by
  obtain ⟨h1,h2⟩:=List.mem_filter.1 ha
  simp only[Account.inside,Bool.and_eq_true,decide_eq_true_eq] at h2
  exact ⟨h2.1,h2.2,fun hf=>(g.acc a h1).2.2 (List.mem_filter.1 hf).1⟩
 fs:=List.Pairwise.sublist List.filter_sublist g.fs
 fin:=fun f hf=>by
  obtain ⟨h1,h2⟩:=List.mem_filter.1 hf
  simp only[Fin.inside,Bool.and_eq_true,decide_eq_true_eq] at h2
  exact ⟨(g.fin f h1).1,h2.1,h2.2⟩
theorem cut_list {α:Type} {xs:List α} {i:Nat} (hi:i<xs.length):xs=xs.take i++xs[i]::xs.drop (i+1):=by
 rw[←List.drop_eq_getElem_cons hi,List.take_append_drop]
theorem cut_when {s:Store} {a e:Int} (h:(cutShard s a e).2=true):s.next e=true∧ ∃k:Nat,∃hk:k<s.shards.length,findId s.shards a=(k:Int)∧s.shards[k].lo≤a∧a≤s.shards[k].hi∧s.shards[k].state=0∧s.shards[k].lo≠a∧s.shards.length≠8∧cutShard s a e=((s.cutAt k a e).renew e,true):=by
 cases hn:s.next e with
 | false=>rw[cut_no hn] at h;cases h
 | true=>
   refine ⟨rfl,?_⟩
   by_cases h0:0≤findId s.shards a
   ·obtain ⟨k,e1,hk,hp⟩:=findI_at h0
    have e2:findId s.shards a=(k:Int):=e1
    rw[cut_if hn e2] at h
    have hc:=cut_if hn e2
    simp only[Bool.and_eq_true,decide_eq_true_eq] at hp
    cases hb:(((Shard.at_ s.shards k).state==0)&&(!((Shard.at_ s.shards k).lo==a)&& !((s.shards.length:Int)==8))) with
    | false=>rw[hb] at h;cases h
    | true=>
      rw[hb] at hc
      rw[Shard.at_get hk] at hb
      simp only[Bool.and_eq_true,beq_iff_eq,Bool.not_eq_true',beq_eq_false_iff_ne,ne_eq] at hb
      exact ⟨k,hk,e2,hp.1,hp.2,hb.1,hb.2.1,by omega,hc⟩
   ·have:cutShard s a e=(s,false):=by simp[cutShard,h0]
    rw[this] at h;cases h
theorem condp {α:Type} {b:Bool} {u v:α} (h:(bif b then (u,true) else (v,false)).2=false):(bif b then (u,true) else (v,false))=(v,false):=by
 cases b
 ·rfl
 ·cases h
theorem condp2 {α:Type} {b c:Bool} {u v:α} (h:(bif b then (bif c then (u,true) else (v,false)) else (v,false)).2=false):(bif b then (bif c then (u,true) else (v,false)) else (v,false))=(v,false):=by
 cases b
 ·rfl
 ·exact condp h
theorem cut_same {s:Store} {a e:Int} (h:(cutShard s a e).2=false):cutShard s a e=(s,false):=by
 unfold cutShard at h ⊢
 exact condp h
theorem cutShard_good {s:Store} {a e:Int} (g:s.Good):(cutShard s a e).1.Good:=by
 cases h:(cutShard s a e).2 with
 | false=>rw[cut_same h];exact g
 | true=>
   obtain ⟨hn,k,hk,e2,h1,h2,h3,h4,h5,hc⟩:=cut_when h
   rw[hc]
   have hx:=(Store.next_iff s e).1 hn
   have he:=g.one hx.2.1
   have gx:=(g.sh _ (List.getElem_mem hk)).1
   have gl:=g.len
   refine Store.renew_good (s:=s.cutAt k a e) g.gr ⟨he,hx.2.2⟩ ?_ (fun x hxm=> ?_) ?_
   ·simp only[Store.cutAt,List.length_append,List.length_take,List.length_drop,List.length_cons,List.length_nil];omega
   ·simp only[Store.cutAt,List.mem_append,List.mem_cons,List.not_mem_nil,or_false] at hxm
    rcases hxm with (hxm | hxm | hxm) | hxm
    ·exact g.old hx.2.1 x (List.mem_of_mem_take hxm)
    ·rw[hxm,Shard.at_get hk]
     exact ⟨Shard.within_sound gx (by omega) e,fun _=>⟨he,Int.le_refl _⟩⟩
    ·rw[hxm,Shard.at_get hk]
     exact ⟨Shard.within_sound gx h2 e,fun _=>⟨he,Int.le_refl _⟩⟩
    ·exact g.old hx.2.1 x (List.mem_of_mem_drop hxm)
   ·have ho:=g.ord
    rw[cut_list hk,List.pairwise_append,List.pairwise_cons] at ho
    obtain ⟨o1,⟨o2,o3⟩,o4⟩:=ho
    show (s.shards.take k++[(Shard.at_ s.shards k).one_ a e,(Shard.at_ s.shards k).two_ a e]++s.shards.drop (k+1)).Pairwise _
    rw[Shard.at_get hk,List.append_assoc,List.pairwise_append]
    refine ⟨o1,?_,fun z hz y hy=> ?_⟩
    ·simp only[List.cons_append,List.nil_append,List.pairwise_cons,List.mem_cons]
     refine ⟨fun z hz=> ?_,fun z hz=>o2 z hz,o3⟩
     rcases hz with rfl | hz
     ·show a-1<a;omega
     ·have:=o2 z hz
      show a-1<z.lo;omega
    ·have hzx:=o4 z hz _ (List.mem_cons_self ..)
     simp only[List.cons_append,List.nil_append,List.mem_cons] at hy
     rcases hy with rfl | rfl | hy
     ·exact hzx
     ·show z.hi<a;omega
     ·exact o4 z hz y (List.mem_cons_of_mem _ hy)
theorem joinWith_shards {s:Store} {j:Nat} (hj:j+1<s.shards.length) (y:Shard):(s.joinWith j y).shards=s.shards.take j++y::s.shards.drop (j+2):=by
 show (s.shards.set j y).eraseIdx (j+1)=_
 rw[List.eraseIdx_eq_take_drop_succ,List.take_add_one,List.take_set_of_le (Nat.le_refl _),List.getElem?_set_self (by omega),List.drop_set_of_lt (by omega)]
 simp
theorem join_when {s:Store} {a e:Int} (h:(joinShard s a e).2=true):s.next e=true∧ ∃j:Nat,∃hj:j+1<s.shards.length,findAt s.shards a 0=((j+1:Nat):Int)∧s.shards[j+1].lo=a∧s.shards[j+1].state=0∧s.shards[j].state=0∧s.shards[j].hi=a-1∧Shard.joins s.shards[j] s.shards[j+1]=true∧
 joinShard s a e=((s.joinWith j (Shard.join s.shards[j] s.shards[j+1])).renew e,true):=by
 cases hn:s.next e with
 | false=>rw[join_no hn] at h;cases h
 | true=>
   refine ⟨rfl,?_⟩
   by_cases h0:findAt s.shards a 0<1
   ·rw[join_away h0] at h;cases h
   ·obtain ⟨k,e1,hk,hp⟩:=findI_at (p:=fun t:Shard=>(t.lo==a)&&(t.state==0)) (xs:=s.shards) (by unfold findAt at h0;omega)
    have e2:findAt s.shards a 0=(k:Int):=e1
    obtain ⟨j,rfl⟩: ∃j,k=j+1:=⟨k-1,by omega⟩
    have hc:=join_if hn e2
    rw[hc] at h
    have hj':j<s.shards.length:=by omega
    rw[Shard.at_get hk,Shard.at_get hj'] at h hc
    simp only[Bool.and_eq_true,beq_iff_eq] at hp
    cases hb:((s.shards[j].state==0)&&(s.shards[j].hi==a-1)) with
    | false=>rw[hb] at h;cases h
    | true=>
      rw[hb] at h hc
      cases hq:Shard.joins s.shards[j] s.shards[j+1] with
      | false=>rw[hq] at h;cases h
      | true=>
        rw[hq] at hc
        simp only[Bool.and_eq_true,beq_iff_eq] at hb
        exact ⟨j,hk,e2,hp.1,hp.2,hb.1,hb.2,hq,hc⟩
theorem join_same {s:Store} {a e:Int} (h:(joinShard s a e).2=false):joinShard s a e=(s,false):=by
 unfold joinShard at h ⊢
 exact condp2 h
theorem Shard.join_sound {p q:Shard} (gp:p.Good) (gq:q.Good) (h:p.hi<q.lo) (hj:Shard.joins p q=true):(Shard.join p q).Sound:=by
 simp only[Shard.joins,List.length_append,Bool.and_eq_true,decide_eq_true_eq] at hj
 have nd:(p.finished++q.finished).Nodup:=by
  refine List.nodup_append.2 ⟨flt_nodup gp.fs,flt_nodup gq.fs,fun f hf f' hf' e=> ?_⟩
  subst e
  have h1:=gp.fin f hf
  have h2:=gq.fin f hf'
  omega
 have hm: ∀f,f∈sortFins (p.finished++q.finished)↔f∈p.finished∨f∈q.finished:=fun f=>by
  rw[(sortFins_perm _).mem_iff,List.mem_append]
 have hpl:=gp.lh
 have hql:=gq.lh
 exact {
  lh:=by show p.lo≤q.hi;omega
  st:=gp.st
  srt:=by
   refine List.pairwise_append.2 ⟨gp.srt,gq.srt,fun a ha b hb=> ?_⟩
   have h1:=gp.acc a ha
   have h2:=gq.acc b hb
   omega
  fine:=fun a ha=>by
   rcases List.mem_append.1 ha with ha | ha
   ·exact gp.fine a ha
   ·exact gq.fine a ha
  bl:=by show (p.book.list++q.book.list).length≤40;rw[List.length_append];omega
  fl:=by show (sortFins _).length≤60;rw[sortFins_len,List.length_append];omega
  acc:=fun a ha=>by
   have hn:(⟨a.tx,a.id⟩:Fin)∉sortFins (p.finished++q.finished)∧p.lo≤a.id∧a.id≤q.hi:=by
    rw[hm]
    rcases List.mem_append.1 ha with ha | ha
    ·have h1:=gp.acc a ha
     refine ⟨fun hf=> ?_,by omega,by omega⟩
     rcases hf with hf | hf
     ·exact h1.2.2 hf
     ·have:=gq.fin _ hf
      simp only at this
      omega
    ·have h1:=gq.acc a ha
     refine ⟨fun hf=> ?_,by omega,by omega⟩
     rcases hf with hf | hf
     ·have:=gp.fin _ hf
      simp only at this
      omega
     ·exact h1.2.2 hf
   exact ⟨hn.2.1,hn.2.2,hn.1⟩
  fs:=sortFins_sorted nd
  fin:=fun f hf=>by
   show 1≤f.tx∧p.lo≤f.id∧f.id≤q.hi
   rcases (hm f).1 hf with hf | hf
   ·have:=gp.fin f hf;omega
   ·have:=gq.fin f hf;omega}
theorem joinShard_good {s:Store} {a e:Int} (g:s.Good):(joinShard s a e).1.Good:=by
 cases h:(joinShard s a e).2 with
 | false=>rw[join_same h];exact g
 | true=>
   obtain ⟨hn,j,hj,e2,h1,h2,h3,h4,h5,hc⟩:=join_when h
   rw[hc]
   have hx:=(Store.next_iff s e).1 hn
   have he:=g.one hx.2.1
   have hj':j<s.shards.length:=by omega
   have gp:=(g.sh _ (List.getElem_mem hj')).1
   have gq:=(g.sh _ (List.getElem_mem hj)).1
   have gl:=g.len
   have hpq:s.shards[j].hi<s.shards[j+1].lo:=by omega
   have hsh:=joinWith_shards (s:=s) hj (Shard.join s.shards[j] s.shards[j+1])
   refine Store.renew_good (s:=s.joinWith j (Shard.join s.shards[j] s.shards[j+1])) g.gr ⟨he,hx.2.2⟩ ?_ (fun x hxm=> ?_) ?_
   ·rw[hsh]
    simp only[List.length_append,List.length_take,List.length_drop,List.length_cons];omega
   ·rw[hsh] at hxm
    simp only[List.mem_append,List.mem_cons] at hxm
    rcases hxm with hxm | hxm | hxm
    ·exact g.old hx.2.1 x (List.mem_of_mem_take hxm)
    ·rw[hxm]
     refine ⟨Shard.join_sound gp gq hpq h5,fun hs=> ?_⟩
     have:s.shards[j].state=1:=hs
     omega
    ·exact g.old hx.2.1 x (List.mem_of_mem_drop hxm)
   ·rw[hsh]
    have ho:=g.ord
    rw[cut_list hj',List.pairwise_append,List.pairwise_cons] at ho
    obtain ⟨o1,⟨o2,o3⟩,o4⟩:=ho
    have hdr:s.shards.drop (j+1)=s.shards[j+1]::s.shards.drop (j+2):=List.drop_eq_getElem_cons hj
    rw[hdr] at o2 o3 o4
    rw[List.pairwise_cons] at o3
    rw[List.pairwise_append,List.pairwise_cons]
    refine ⟨o1,⟨fun z hz=>o3.1 z hz,o3.2⟩,fun z hz y hy=> ?_⟩
    rcases List.mem_cons.1 hy with rfl | hy
    ·exact o4 z hz s.shards[j] (List.mem_cons_self ..)
    ·exact o4 z hz y (List.mem_cons_of_mem _ (List.mem_cons_of_mem _ hy))
end Go.Proofs.YthofpopafchelaaGreat.A
namespace Go.Proofs.YthofpopafchelaaGreat.A
open Go
set_option linter.unusedSimpArgs false
set_option linter.unusedVariables false
abbrev Act:=Account→Int×Account
def bookDo (xs:List Account) (id:Int) (f:Act):List Account×Int:=
 bif bookOk xs then (bif decide (0≤accAt xs id) then (bif (f (Account.at_ xs (accAt xs id).toNat)).1==0 then (bif (f (Account.at_ xs (accAt xs id).toNat)).2.tx== -1 then (xs.eraseIdx (accAt xs id).toNat,0) else (xs.set (accAt xs id).toNat (f (Account.at_ xs (accAt xs id).toNat)).2,0)) else (xs,(f (Account.at_ xs (accAt xs id).toNat)).1)) else (xs,2)) else (xs,1)
section
variable {xs:List Account} {id:Int} {f:Act}
theorem do_bad (h:bookOk xs=false):bookDo xs id f=(xs,1):=by simp[bookDo,h]
theorem do_none (h:bookOk xs=true) (h2:accAt xs id= -1):bookDo xs id f=(xs,2):=by simp[bookDo,h,h2]
theorem do_at (h:bookOk xs=true) {i:Nat} (h2:accAt xs id=(i:Int)):bookDo xs id f=bif (f (Account.at_ xs i)).1==0 then (bif (f (Account.at_ xs i)).2.tx== -1 then (xs.eraseIdx i,0) else (xs.set i (f (Account.at_ xs i)).2,0)) else (xs,(f (Account.at_ xs i)).1):=by simp[bookDo,h,h2]
theorem do_len:(bookDo xs id f).1.length≤xs.length:=by
 unfold bookDo
 cases bookOk xs<;>simp only[cond_true,cond_false,Nat.le_refl]
 cases decide (0≤accAt xs id)<;>simp only[cond_true,cond_false,Nat.le_refl]
 cases ((f (Account.at_ xs (accAt xs id).toNat)).1==0)<;>simp only[cond_true,cond_false,Nat.le_refl]
 cases ((f (Account.at_ xs (accAt xs id).toNat)).2.tx== -1)<;>simp only[cond_true,cond_false]
 ·simp
 ·exact List.length_eraseIdx_le _ _
end
section
variable {F:Nat→Option RF} {Z:CallF} {h:Heap} {x:Cell} {xs:List Account} {fp:List Nat}
def accOf (xs:List Account) (id tx:Int):Account×Int:=bif bookOk xs&& !decide (tx<1) then (bif decide (accAt xs id<0) then (Account.none_,2) else (Account.at_ xs (accAt xs id).toNat,0)) else (Account.none_,1)
theorem l10Of_run (hS10:Has F tS10) (w:SlR 11 (Fl Account.enc) h x xs fp) (id tx:Int) (hok: ∀t,t∈xs→t.Ok):
 call F Z 335 [.agg [x],.c (.int .u64 id),.c (.int .i64 tx)] h=some (.tup [.agg (accOf xs id tx).1.enc,.c (.int .i64 (accOf xs id tx).2)],h):=by
 have e1:=sBookOk_run (Z:=Z) hS10 w hok
 have e2:=l10Find_run (Z:=Z) hS10 w id
 rw[call_run F Z (hS10.lk (g:=335) rfl) _ _ rfl]
 cases hb:bookOk xs with
 | false=>
   rw[hb] at e1
   have hd:accOf xs id tx=(Account.none_,1):=by simp[accOf,hb]
   rw[hd]
   simp only[rn,RO.dst,lk,drop,Nat.reduceBEq,Nat.reduceAdd,Nat.reduceLeDiff,↓reduceIte,reduceCtorEq,e1,Account.enc,Account.none_]
 | true=>
   rw[hb] at e1
   by_cases ht:tx<1
   ·have hd:accOf xs id tx=(Account.none_,1):=by simp[accOf,ht]
    rw[hd]
    simp only[rn,RO.dst,lk,drop,Nat.reduceBEq,Nat.reduceAdd,Nat.reduceLeDiff,↓reduceIte,reduceCtorEq,e1,ht,Account.enc,Account.none_]
   ·rcases acc_found hb id with ⟨q1,_⟩ | ⟨i,q1,_,_,hi,_⟩
    ·have hd:accOf xs id tx=(Account.none_,2):=by simp[accOf,hb,ht,q1]
     rw[hd]
     rw[q1] at e2
     simp only[rn,RO.dst,lk,drop,Nat.reduceBEq,Nat.reduceAdd,Nat.reduceLeDiff,↓reduceIte,reduceCtorEq,e1,e2,ht,Int.reduceLT,Int.reduceNeg,Account.enc,Account.none_]
    ·have hd:accOf xs id tx=(Account.at_ xs i,0):=by
      have g0: ¬(i:Int)<0:=by omega
      simp[accOf,hb,ht,q1,g0]
     rw[hd]
     rw[q1] at e2
     have g0: ¬(i:Int)<0:=by omega
     have hxi:=w.idx hi
     have hld:=w.load hi
     rw[←Account.at_get hi] at hld
     simp only[Account.enc] at hld
     simp only[rn,RO.dst,lk,drop,Nat.reduceBEq,Nat.reduceAdd,Nat.reduceLeDiff,↓reduceIte,reduceCtorEq,e1,e2,ht,g0,hxi,hld,Account.enc]
theorem of_bad {id tx:Int} (h:bookOk xs=false):accOf xs id tx=(Account.none_,1):=by simp[accOf,h]
theorem of_tx {id tx:Int} (h:tx<1):accOf xs id tx=(Account.none_,1):=by simp[accOf,h]
theorem of_none {id tx:Int} (h:bookOk xs=true) (ht: ¬tx<1) (h2:accAt xs id= -1):accOf xs id tx=(Account.none_,2):=by simp[accOf,h,ht,h2]
theorem of_at {id tx:Int} (h:bookOk xs=true) (ht: ¬tx<1) {i:Nat} (h2:accAt xs id=(i:Int)):accOf xs id tx=(Account.at_ xs i,0):=by
 have g0: ¬(i:Int)<0:=by omega
 simp[accOf,h,ht,h2,g0]
def Account.put (a b:Account):Account:=if b.id=a.id then a else b
set_option maxHeartbeats 1000000 in
theorem l10With_c (hS10:Has F tS10) (hf:h.floor≤h.next) (w:SlR 11 (Fl Account.enc) h x xs fp) (sm:xs.length≤1048576) (a:Account):
 ∃y h' fq,call F Z 336 [.agg [x],.agg a.enc] h=some (.agg [y],h')∧On h h'∧SlR 11 (Fl Account.enc) h' y (xs.map a.put) fq∧Fre h fq:=by
 obtain ⟨y,h1,fq,e1,o1,w1,f1⟩:=l10Copy_c (Z:=Z) hS10 hf w sm
 have hle:=w.le2
 rw[call_run F Z (hS10.lk (g:=336) rfl) _ _ rfl]
 simp only[rn,RO.dst,lk,drop,Nat.reduceBEq,Nat.reduceAdd,Nat.reduceLeDiff,↓reduceIte,reduceCtorEq,Account.len,Account.tak,e1]
 obtain ⟨s',⟨g,hs,m,u⟩,lp⟩:=loop_goes (F:=F) (Z:=Z) (live:=[3,4,5,6]) (b:=r336L0) xs.length (fun i st=> ∃g,st=⟨[(6,.c (.int .i64 (i:Nat)))],[(3,3,0),(4,4,0),(5,5,0)],[(3,a.enc),(4,[.nil]),(5,[y])],g⟩∧Mk h1 g fq∧SlR 11 (Fl Account.enc) g y ((xs.take i).map a.put++xs.drop i) fq) (fun i st hi ⟨g,hs,m,u⟩=>by
  subst hs
  have hll:((xs.take i).map a.put++xs.drop i).length=xs.length:=by simp;omega
  have hi':i<((xs.take i).map a.put++xs.drop i).length:=by omega
  have hlt:(i:Int)<xs.length:=by omega
  have hws:=wrapS i (by omega)
  have hul:=u.len
  rw[hll] at hul
  have hxi:=u.idx hi'
  have hmx:=mix_set a.put xs hi
  have hat:=mix_at a.put xs hi hi'
  obtain ⟨r,f,rows,hR,hs,hld,hself,hst,hl2,fin⟩:=u.putRow (Fl.ok _) f1.nd (fun id hid=>by rw[m.fl];exact f1.own o1 hf id hid) hi'
  obtain ⟨rfl,rfl⟩:=hR
  rw[hat] at hld hself
  rw[loop_run]
  conv in (codeF _ _ r336L0 _)=>unfold r336L0
  simp only[Account.enc] at hld hself ⊢
  by_cases c:xs[i].id=a.id
  ·have c':(xs[i].id==a.id)=true:=by simpa using c
   have hp:a.put xs[i]=a:=by simp[Account.put,c]
   rw[hp] at hmx
   obtain ⟨u2,m2⟩:=fin a.enc a ⟨rfl,rfl⟩
   rw[hmx] at u2
   have hst':=hst [.int .u64 xs[i].id,.int .u64 xs[i].bal,.int .u64 xs[i].hold,.int .u64 xs[i].due,.int .i64 xs[i].tx]
   rw[hself] at hst'
   simp only[rn,RO.dst,lk,drop,Nat.reduceBEq,Nat.reduceAdd,Nat.reduceLeDiff,↓reduceIte,reduceCtorEq,hul,hlt,hxi,hld,c',hst',putM_s,hws]
   exact ⟨_,⟨_,rfl,m.then m2,u2⟩,rfl⟩
  ·have c':(xs[i].id==a.id)=false:=by simpa using c
   have hp:a.put xs[i]=xs[i]:=by simp[Account.put,c]
   rw[hp] at hmx
   have hsm:=set_same _ hi'
   rw[hat,hmx] at hsm
   rw[←hsm] at u
   simp only[rn,RO.dst,lk,drop,Nat.reduceBEq,Nat.reduceAdd,Nat.reduceLeDiff,↓reduceIte,reduceCtorEq,hul,hlt,hxi,hld,c',hws]
   exact ⟨_,⟨_,rfl,m,u⟩,rfl⟩) (s:=⟨[(6,.c (.int .i64 (0:Nat)))],[(3,3,0),(4,4,0),(5,5,0)],[(3,a.enc),(4,[.nil]),(5,[y])],h1⟩) ⟨h1,rfl,Mk.refl _ _,by simpa using w1⟩
 subst hs
 simp only[show ((0:Nat):Int)=0 from rfl] at lp
 rw[List.take_length,List.drop_length,List.append_nil] at u
 have hul:=u.len
 rw[List.length_map] at hul
 have hlt: ¬(xs.length:Int)<xs.length:=by omega
 rw[lp,loop_run]
 conv in (codeF _ _ r336L0 _)=>unfold r336L0
 simp only[rn,RO.dst,lk,drop,Nat.reduceBEq,Nat.reduceAdd,Nat.reduceLeDiff,↓reduceIte,reduceCtorEq,hul,hlt]
 exact ⟨_,_,_,rfl,o1.turned m f1,u,f1⟩
theorem with_set (g:bookOk xs=true) {i:Nat} (hi:i<xs.length) {a:Account} (ha:a.id=xs[i].id):xs.map a.put=xs.set i a:=by
 apply List.ext_getElem
 ·simp
 ·intro j h1 h2
  rw[List.getElem_map,List.getElem_set]
  rw[List.length_map] at h1
  by_cases e:i=j
  ·subst e;simp[Account.put,ha]
  ·rw[if_neg e]
   have: ¬xs[j].id=a.id:=fun hc=>e (book_inj g hi h1 (by rw[←ha];exact hc.symm))
   simp[Account.put,this]
end
end Go.Proofs.YthofpopafchelaaGreat.A
namespace Go.Proofs.YthofpopafchelaaGreat.A
open Go
set_option linter.unusedSimpArgs false
set_option linter.unusedVariables false
def closeF:Act:=fun a=>if a.tx=0 then (if a.bal=0 then (0,{a with tx:= -1}) else (4,a)) else (6,a)
def depF (m:Int):Act:=fun a=>if a.tx=0 then (if a.bal+m≤18446744073709551615 then (0,{a with bal:=a.bal+m}) else (5,a)) else (6,a)
def witF (m:Int):Act:=fun a=>if a.tx=0 then (if m≤a.bal then (0,{a with bal:=a.bal-m}) else (4,a)) else (6,a)
section
variable {F:Nat→Option RF} {Z:CallF} {h:Heap} {x:Cell} {xs:List Account} {fp:List Nat}
set_option maxHeartbeats 1000000 in
theorem sDeposit_c (hS10:Has F tS10) (hf:h.floor≤h.next) (w:SlR 11 (Fl Account.enc) h x xs fp) (id m:Int) (hm:0≤m∧m≤18446744073709551615) (hok: ∀t,t∈xs→t.Ok) (sm:xs.length≤1048576):
 ∃y h' fq,call F Z 325 [.agg [x],.c (.int .u64 id),.c (.int .u64 m)] h=some (.tup [.agg [y],.c (.int .i64 (bookDo xs id (depF m)).2)],h')∧On h h'∧SlR 11 (Fl Account.enc) h' y (bookDo xs id (depF m)).1 fq∧Fre h fq:=by
 have e1:=l10Of_run (Z:=Z) hS10 w id 1 hok
 obtain ⟨y,h2,fq,e2,o2,w2,f2⟩:=l10Copy_c (Z:=Z) hS10 hf w sm
 have z0:((0:Int) !=0)=false:=rfl
 have z1:((1:Int) !=0)=true:=rfl
 have z2:((2:Int) !=0)=true:=rfl
 rw[call_run F Z (hS10.lk (g:=325) rfl) _ _ rfl]
 cases hb:bookOk xs with
 | false=>
   rw[of_bad hb] at e1
   rw[do_bad hb]
   simp only[Account.enc,Account.none_] at e1
   simp only[rn,RO.dst,lk,drop,Nat.reduceBEq,Nat.reduceAdd,Nat.reduceLeDiff,↓reduceIte,reduceCtorEq,z0,z1,z2,e1,e2]
   exact ⟨_,_,_,rfl,o2,w2,f2⟩
 | true=>
   have ht: ¬(1:Int)<1:=by omega
   rcases acc_found hb id with ⟨q1,_⟩ | ⟨i,q1,_,_,hi,q5⟩
   ·rw[of_none hb ht q1] at e1
    rw[do_none hb q1]
    simp only[Account.enc,Account.none_] at e1
    simp only[rn,RO.dst,lk,drop,Nat.reduceBEq,Nat.reduceAdd,Nat.reduceLeDiff,↓reduceIte,reduceCtorEq,z0,z1,z2,e1,e2]
    exact ⟨_,_,_,rfl,o2,w2,f2⟩
   ·rw[of_at hb ht q1] at e1
    rw[do_at hb q1]
    have hbal:=(hok _ (List.getElem_mem hi)).bal
    rw[Account.at_get hi] at e1 ⊢
    obtain ⟨z,h3,fr,e3,o3,w3,f3⟩:=l10With_c (Z:=Z) hS10 hf w sm ⟨xs[i].id,xs[i].bal+m,xs[i].hold,xs[i].due,xs[i].tx⟩
    rw[with_set hb hi (a:=⟨xs[i].id,xs[i].bal+m,xs[i].hold,xs[i].due,xs[i].tx⟩) rfl] at w3
    have hws:IntKind.u64.wrap (18446744073709551615-xs[i].bal)=18446744073709551615-xs[i].bal:=wrapU _ (by omega) (by omega)
    simp only[Account.enc] at e1 e3
    generalize xs[i]=a at *
    by_cases c1:a.tx=0
    ·have c1':(a.tx !=0)=false:=by simpa using c1
     by_cases c2:a.bal+m≤18446744073709551615
     ·have hd:depF m a=(0,{a with bal:=a.bal+m}):=by simp[depF,c1,c2]
      have htx:(a.tx== -1)=false:=by simp[c1]
      have hw:IntKind.u64.wrap (a.bal+m)=a.bal+m:=wrapU _ (by omega) (by omega)
      have c3: ¬m>18446744073709551615-a.bal:=by omega
      rw[hd]
      simp only[beq_self_eq_true,cond_true,htx,cond_false]
      simp only[rn,RO.dst,lk,drop,Nat.reduceBEq,Nat.reduceAdd,Nat.reduceLeDiff,↓reduceIte,reduceCtorEq,z0,z1,z2,e1,hws,hw,c1',c3,e3]
      exact ⟨_,_,_,rfl,o3,w3,f3⟩
     ·have hd:depF m a=(5,a):=by simp[depF,c1,c2]
      have c3:m>18446744073709551615-a.bal:=by omega
      rw[hd]
      have h0:((5:Int)==0)=false:=rfl
      simp only[h0,cond_false]
      simp only[rn,RO.dst,lk,drop,Nat.reduceBEq,Nat.reduceAdd,Nat.reduceLeDiff,↓reduceIte,reduceCtorEq,z0,z1,z2,e1,hws,c1',c3,e2]
      exact ⟨_,_,_,rfl,o2,w2,f2⟩
    ·have c1':(a.tx !=0)=true:=by simpa using c1
     have hd:depF m a=(6,a):=by simp[depF,c1]
     rw[hd]
     have h0:((6:Int)==0)=false:=rfl
     simp only[h0,cond_false]
     simp only[rn,RO.dst,lk,drop,Nat.reduceBEq,Nat.reduceAdd,Nat.reduceLeDiff,↓reduceIte,reduceCtorEq,z0,z1,z2,e1,c1',e2]
     exact ⟨_,_,_,rfl,o2,w2,f2⟩
set_option maxHeartbeats 1000000 in
theorem sWithdraw_c (hS10:Has F tS10) (hf:h.floor≤h.next) (w:SlR 11 (Fl Account.enc) h x xs fp) (id m:Int) (hm:0≤m∧m≤18446744073709551615) (hok: ∀t,t∈xs→t.Ok) (sm:xs.length≤1048576):
 ∃y h' fq,call F Z 326 [.agg [x],.c (.int .u64 id),.c (.int .u64 m)] h=some (.tup [.agg [y],.c (.int .i64 (bookDo xs id (witF m)).2)],h')∧On h h'∧SlR 11 (Fl Account.enc) h' y (bookDo xs id (witF m)).1 fq∧Fre h fq:=by
 have e1:=l10Of_run (Z:=Z) hS10 w id 1 hok
 obtain ⟨y,h2,fq,e2,o2,w2,f2⟩:=l10Copy_c (Z:=Z) hS10 hf w sm
 have z0:((0:Int) !=0)=false:=rfl
 have z1:((1:Int) !=0)=true:=rfl
 have z2:((2:Int) !=0)=true:=rfl
 rw[call_run F Z (hS10.lk (g:=326) rfl) _ _ rfl]
 cases hb:bookOk xs with
 | false=>
   rw[of_bad hb] at e1
   rw[do_bad hb]
   simp only[Account.enc,Account.none_] at e1
   simp only[rn,RO.dst,lk,drop,Nat.reduceBEq,Nat.reduceAdd,Nat.reduceLeDiff,↓reduceIte,reduceCtorEq,z0,z1,z2,e1,e2]
   exact ⟨_,_,_,rfl,o2,w2,f2⟩
 | true=>
   have ht: ¬(1:Int)<1:=by omega
   rcases acc_found hb id with ⟨q1,_⟩ | ⟨i,q1,_,_,hi,q5⟩
   ·rw[of_none hb ht q1] at e1
    rw[do_none hb q1]
    simp only[Account.enc,Account.none_] at e1
    simp only[rn,RO.dst,lk,drop,Nat.reduceBEq,Nat.reduceAdd,Nat.reduceLeDiff,↓reduceIte,reduceCtorEq,z0,z1,z2,e1,e2]
    exact ⟨_,_,_,rfl,o2,w2,f2⟩
   ·rw[of_at hb ht q1] at e1
    rw[do_at hb q1]
    have hbal:=(hok _ (List.getElem_mem hi)).bal
    rw[Account.at_get hi] at e1 ⊢
    obtain ⟨z,h3,fr,e3,o3,w3,f3⟩:=l10With_c (Z:=Z) hS10 hf w sm ⟨xs[i].id,xs[i].bal-m,xs[i].hold,xs[i].due,xs[i].tx⟩
    rw[with_set hb hi (a:=⟨xs[i].id,xs[i].bal-m,xs[i].hold,xs[i].due,xs[i].tx⟩) rfl] at w3
    have hws:IntKind.u64.wrap (18446744073709551615-xs[i].bal)=18446744073709551615-xs[i].bal:=wrapU _ (by omega) (by omega)
    simp only[Account.enc] at e1 e3
    generalize xs[i]=a at *
    by_cases c1:a.tx=0
    ·have c1':(a.tx !=0)=false:=by simpa using c1
     by_cases c2:m≤a.bal
     ·have hd:witF m a=(0,{a with bal:=a.bal-m}):=by simp[witF,c1,c2]
      have htx:(a.tx== -1)=false:=by simp[c1]
      have hw:IntKind.u64.wrap (a.bal-m)=a.bal-m:=wrapU _ (by omega) (by omega)
      have c3: ¬m>a.bal:=by omega
      rw[hd]
      simp only[beq_self_eq_true,cond_true,htx,cond_false]
      simp only[rn,RO.dst,lk,drop,Nat.reduceBEq,Nat.reduceAdd,Nat.reduceLeDiff,↓reduceIte,reduceCtorEq,z0,z1,z2,e1,hws,hw,c1',c3,e3]
      exact ⟨_,_,_,rfl,o3,w3,f3⟩
     ·have hd:witF m a=(4,a):=by simp[witF,c1,c2]
      have c3:m>a.bal:=by omega
      rw[hd]
      have h0:((4:Int)==0)=false:=rfl
      simp only[h0,cond_false]
      simp only[rn,RO.dst,lk,drop,Nat.reduceBEq,Nat.reduceAdd,Nat.reduceLeDiff,↓reduceIte,reduceCtorEq,z0,z1,z2,e1,hws,c1',c3,e2]
      exact ⟨_,_,_,rfl,o2,w2,f2⟩
    ·have c1':(a.tx !=0)=true:=by simpa using c1
     have hd:witF m a=(6,a):=by simp[witF,c1]
     rw[hd]
     have h0:((6:Int)==0)=false:=rfl
     simp only[h0,cond_false]
     simp only[rn,RO.dst,lk,drop,Nat.reduceBEq,Nat.reduceAdd,Nat.reduceLeDiff,↓reduceIte,reduceCtorEq,z0,z1,z2,e1,c1',e2]
     exact ⟨_,_,_,rfl,o2,w2,f2⟩
theorem filter_erase (g:bookOk xs=true) {i:Nat} (hi:i<xs.length):xs.filter (fun b=>b.id !=xs[i].id)=xs.eraseIdx i:=by
 have e:xs=xs.take i++xs[i]::xs.drop (i+1):=by rw[←List.drop_eq_getElem_cons hi,List.take_append_drop]
 rw[List.eraseIdx_eq_take_drop_succ]
 generalize hk:xs[i].id=k
 conv=>lhs;rw[e]
 rw[List.filter_append,List.filter_cons_of_neg (by simp[hk])]
 congr 1
 ·rw[List.filter_eq_self]
  intro b hb
  obtain ⟨j,hj,rfl⟩:=List.mem_iff_getElem.1 hb
  rw[List.length_take] at hj
  rw[List.getElem_take]
  have:=book_lt g hi (i:=j) (by omega)
  simp;omega
 ·rw[List.filter_eq_self]
  intro b hb
  obtain ⟨j,hj,rfl⟩:=List.mem_iff_getElem.1 hb
  rw[List.length_drop] at hj
  rw[List.getElem_drop]
  have:=book_lt g (i:=i) (j:=i+1+j) (by omega) (by omega)
  simp;omega
set_option maxHeartbeats 2000000 in
theorem sCloseAccount_c (hS10:Has F tS10) (hf:h.floor≤h.next) (w:SlR 11 (Fl Account.enc) h x xs fp) (id:Int) (hok: ∀t,t∈xs→t.Ok) (sm:xs.length≤1048576):
 ∃y h' fq,call F Z 324 [.agg [x],.c (.int .u64 id)] h=some (.tup [.agg [y],.c (.int .i64 (bookDo xs id closeF).2)],h')∧On h h'∧SlR 11 (Fl Account.enc) h' y (bookDo xs id closeF).1 fq∧Fre h fq:=by
 have e1:=l10Of_run (Z:=Z) hS10 w id 1 hok
 obtain ⟨y,h2,fq,e2,o2,w2,f2⟩:=l10Copy_c (Z:=Z) hS10 hf w sm
 have z0:((0:Int) !=0)=false:=rfl
 have z1:((1:Int) !=0)=true:=rfl
 have z2:((2:Int) !=0)=true:=rfl
 have hle:=w.le2
 have hwl:=w.len
 rw[call_run F Z (hS10.lk (g:=324) rfl) _ _ rfl]
 cases hb:bookOk xs with
 | false=>
   rw[of_bad hb] at e1
   rw[do_bad hb]
   simp only[Account.enc,Account.none_] at e1
   simp only[rn,RO.dst,lk,drop,Nat.reduceBEq,Nat.reduceAdd,Nat.reduceLeDiff,↓reduceIte,reduceCtorEq,z0,z1,z2,e1,e2]
   exact ⟨_,_,_,rfl,o2,w2,f2⟩
 | true=>
   have ht: ¬(1:Int)<1:=by omega
   rcases acc_found hb id with ⟨q1,_⟩ | ⟨i,q1,_,_,hi,q5⟩
   ·rw[of_none hb ht q1] at e1
    rw[do_none hb q1]
    simp only[Account.enc,Account.none_] at e1
    simp only[rn,RO.dst,lk,drop,Nat.reduceBEq,Nat.reduceAdd,Nat.reduceLeDiff,↓reduceIte,reduceCtorEq,z0,z1,z2,e1,e2]
    exact ⟨_,_,_,rfl,o2,w2,f2⟩
   ·rw[of_at hb ht q1] at e1
    rw[do_at hb q1]
    have hfe:=filter_erase hb hi
    rw[Account.at_get hi] at e1 q5 ⊢
    rw[q5] at hfe
    simp only[Account.enc] at e1
    generalize xs[i]=a at *
    by_cases c1:a.tx=0
    ·have c1':(a.tx !=0)=false:=by simpa using c1
     by_cases c2:a.bal=0
     ·have c2':(a.bal !=0)=false:=by simpa using c2
      have hd:closeF a=(0,{a with tx:= -1}):=by simp[closeF,c1,c2]
      rw[hd]
      simp only[beq_self_eq_true,cond_true]
      simp only[rn,RO.dst,lk,drop,Nat.reduceBEq,Nat.reduceAdd,Nat.reduceLeDiff,↓reduceIte,reduceCtorEq,z0,z1,z2,e1,c1',c2']
      obtain ⟨s',⟨y,g,hs,ac⟩,lp⟩:=loop_goes (F:=F) (Z:=Z) (live:=[1,2,4,8,9]) (b:=r324L0) xs.length (fun i st=> ∃y g,st=⟨[(1,.c (.int .u64 id)),(9,.c (.int .i64 (i:Nat)))],[(2,2,0),(4,4,0),(8,8,0)],[(2,[x]),(4,[.nil]),(8,[y])],g⟩∧Acc 11 h g y (((xs.take i).filter (fun b=>b.id !=id)).map Account.enc)) (fun i st hi' ⟨y,g,hs,ac⟩=>by
       subst hs
       have hlt:(i:Int)<xs.length:=by omega
       have hws:=wrapS i (by omega)
       have hxi:=w.idx hi'
       have hld:=(w.on (Fl.ok _) ac.on).load hi'
       have hfn:=filter_next (fun b:Account=>b.id !=id) hi'
       have hfl:=filter_len (fun b:Account=>b.id !=id) xs i
       rw[loop_run]
       conv in (codeF _ _ r324L0 _)=>unfold r324L0
       generalize xs[i]=b at *
       simp only[Account.enc] at hld
       cases c:(b.id !=id) with
       | true=>
         rw[c] at hfn
         have e3:=ac.one_eq hf (bytes:=40) (by rw[List.length_map];omega) b.enc
         have a2:=ac.one hf (by rw[List.length_map];omega) b.enc
         rw[show ((xs.take i).filter (fun b=>b.id !=id)).map Account.enc++[b.enc]=((xs.take (i+1)).filter (fun b=>b.id !=id)).map Account.enc from by rw[hfn];simp] at a2
         simp only[Account.enc] at e3 a2
         simp only[rn,RO.dst,lk,drop,Nat.reduceBEq,Nat.reduceAdd,Nat.reduceLeDiff,↓reduceIte,reduceCtorEq,hwl,hlt,hxi,hld,c,List.replicate_succ,List.replicate_zero,fills,and_self,Nat.zero_lt_one,List.set_cons_zero,e3,hws,Account.enc]
         exact ⟨_,⟨_,_,rfl,a2⟩,rfl⟩
       | false=>
         rw[c] at hfn
         rw[show (xs.take i).filter (fun b=>b.id !=id)=(xs.take (i+1)).filter (fun b=>b.id !=id) from by rw[hfn];simp] at ac
         simp only[rn,RO.dst,lk,drop,Nat.reduceBEq,Nat.reduceAdd,Nat.reduceLeDiff,↓reduceIte,reduceCtorEq,hwl,hlt,hxi,hld,c,hws]
         exact ⟨_,⟨_,_,rfl,ac⟩,rfl⟩) (s:=⟨[(1,.c (.int .u64 id)),(9,.c (.int .i64 (0:Nat)))],[(2,2,0),(4,4,0),(8,8,0)],[(2,[x]),(4,[.nil]),(8,[.nil])],h⟩) ⟨_,_,rfl,by simpa using Acc.nil 11 h⟩
      subst hs
      rw[List.take_length,hfe] at ac
      obtain ⟨o3,fr,w3,f3⟩:=ac.flat (enc:=Account.enc)
      simp only[show ((0:Nat):Int)=0 from rfl] at lp
      have hlt: ¬(xs.length:Int)<xs.length:=by omega
      rw[lp,loop_run]
      conv in (codeF _ _ r324L0 _)=>unfold r324L0
      simp only[rn,RO.dst,lk,drop,Nat.reduceBEq,Nat.reduceAdd,Nat.reduceLeDiff,↓reduceIte,reduceCtorEq,hwl,hlt]
      exact ⟨_,_,_,rfl,o3,w3,f3⟩
     ·have c2':(a.bal !=0)=true:=by simpa using c2
      have hd:closeF a=(4,a):=by simp[closeF,c1,c2]
      rw[hd]
      have h0:((4:Int)==0)=false:=rfl
      simp only[h0,cond_false]
      simp only[rn,RO.dst,lk,drop,Nat.reduceBEq,Nat.reduceAdd,Nat.reduceLeDiff,↓reduceIte,reduceCtorEq,z0,z1,z2,e1,c1',c2',e2]
      exact ⟨_,_,_,rfl,o2,w2,f2⟩
    ·have c1':(a.tx !=0)=true:=by simpa using c1
     have hd:closeF a=(6,a):=by simp[closeF,c1]
     rw[hd]
     have h0:((6:Int)==0)=false:=rfl
     simp only[h0,cond_false]
     simp only[rn,RO.dst,lk,drop,Nat.reduceBEq,Nat.reduceAdd,Nat.reduceLeDiff,↓reduceIte,reduceCtorEq,z0,z1,z2,e1,c1',e2]
     exact ⟨_,_,_,rfl,o2,w2,f2⟩
end
end Go.Proofs.YthofpopafchelaaGreat.A
namespace Go.Proofs.YthofpopafchelaaGreat.A
open Go
set_option linter.unusedSimpArgs false
set_option linter.unusedVariables false
def Account.new (id:Int):Account:=⟨id,0,0,0,0⟩
def plusAcc (xs:List Account) (id:Int):List Account:=xs.take (accGo xs id)++[Account.new id]++xs.drop (accGo xs id)
def openBook (xs:List Account) (id:Int):List Account×Int:=bif bookOk xs then (bif decide (0≤accAt xs id) then (xs,3) else (bif (xs.length:Int)==40 then (xs,1) else (plusAcc xs id,0))) else (xs,1)
section
variable {xs:List Account} {id:Int}
theorem open_bad (h:bookOk xs=false):openBook xs id=(xs,1):=by simp[openBook,h]
theorem open_there (h:bookOk xs=true) {i:Nat} (h2:accAt xs id=(i:Int)):openBook xs id=(xs,3):=by simp[openBook,h,h2]
theorem open_full (h:bookOk xs=true) (h2:accAt xs id= -1) (h3:((xs.length:Int)==40)=true):openBook xs id=(xs,1):=by simp[openBook,h,h2,h3]
theorem open_new (h:bookOk xs=true) (h2:accAt xs id= -1) (h3:((xs.length:Int)==40)=false):openBook xs id=(plusAcc xs id,0):=by simp[openBook,h,h2,h3]
theorem plusAcc_len (xs:List Account) (id:Int):(plusAcc xs id).length=xs.length+1:=by
 have:=accGo_le xs id
 simp only[plusAcc,List.length_append,List.length_take,List.length_drop,List.length_cons,List.length_nil];omega
theorem acc_gt (g:bookOk xs=true) (hn:accAt xs id= -1) {i:Nat} (hi:i<xs.length):xs[i].id>id↔accGo xs id≤i:=by
 have hne:xs[i].id≠id:=fun hc=>by
  rcases acc_found g id with ⟨_,h2⟩ | ⟨j,h1,_⟩
  ·unfold accAt findI at hn
   split at hn
   ·omega
   ·rename_i hf
    rw[List.findIdx?_eq_none_iff] at hf
    have:=hf _ (List.getElem_mem hi)
    simp[hc] at this
  ·omega
 constructor
 ·intro h
  rcases Nat.lt_or_ge i (accGo xs id) with h1 | h1
  ·have:=accGo_lt id xs i h1 hi;omega
  ·exact h1
 ·intro h
  have hk:accGo xs id<xs.length:=by omega
  have h1:=accGo_end id xs hk
  rcases Nat.eq_or_lt_of_le h with h2 | h2
  ·subst h2;omega
  ·have:=book_lt g hi h2;omega
theorem plusAcc_srt (g:bookOk xs=true) (hn:accAt xs id= -1):Srt (plusAcc xs id):=by
 have hs:=book_srt g
 have e:xs=xs.take (accGo xs id)++xs.drop (accGo xs id):=(List.take_append_drop _ _).symm
 have hs':=hs
 unfold Srt at hs' ⊢
 rw[e,List.pairwise_append] at hs'
 obtain ⟨h1,h2,h3⟩:=hs'
 unfold plusAcc
 rw[List.append_assoc,List.pairwise_append]
 refine ⟨h1,?_,fun a ha b hb=> ?_⟩
 ·rw[List.singleton_append,List.pairwise_cons]
  refine ⟨fun b hb=> ?_,h2⟩
  obtain ⟨j,hj,rfl⟩:=List.mem_iff_getElem.1 hb
  rw[List.length_drop] at hj
  rw[List.getElem_drop]
  have:=(acc_gt g hn (i:=accGo xs id+j) (by omega)).2 (by omega)
  simpa[Account.new] using this
 ·rcases List.mem_append.1 hb with hb | hb
  ·simp only[List.mem_singleton] at hb
   subst hb
   obtain ⟨j,hj,rfl⟩:=List.mem_iff_getElem.1 ha
   rw[List.length_take] at hj
   rw[List.getElem_take]
   exact accGo_lt id xs j (by omega) (by omega)
  ·exact h3 a ha b hb
def lpart {α:Type} (xs:List α) (y:α) (k i:Nat):List α:=if k<i then xs.take k++[y]++(xs.take i).drop k else xs.take i
section
variable {α:Type} {zs:List α} {y:α}
theorem lpart_no {k i:Nat} (hi:i<zs.length) (h: ¬k≤i):lpart zs y k (i+1)=lpart zs y k i++[zs[i]]:=by
 simp only[lpart]
 rw[if_neg (by omega),if_neg (by omega),List.take_add_one,List.getElem?_eq_getElem hi];rfl
theorem lpart_at {i:Nat} (hi:i<zs.length):lpart zs y i (i+1)=lpart zs y i i++[y]++[zs[i]]:=by
 simp only[lpart]
 rw[if_pos (by omega),if_neg (by omega),List.take_add_one,List.getElem?_eq_getElem hi,List.drop_append_of_le_length (by rw[List.length_take];omega),List.drop_eq_nil_of_le (by rw[List.length_take];omega)];rfl
theorem lpart_yes {k i:Nat} (hi:i<zs.length) (h:k<i):lpart zs y k (i+1)=lpart zs y k i++[zs[i]]:=by
 simp only[lpart]
 rw[if_pos (by omega),if_pos h,List.take_add_one,List.getElem?_eq_getElem hi,List.drop_append_of_le_length (by rw[List.length_take];omega),←List.append_assoc];rfl
theorem lpart_end {k:Nat} (h:k<zs.length):lpart zs y k zs.length=zs.take k++[y]++zs.drop k:=by
 simp only[lpart];rw[if_pos h,List.take_length]
theorem lpart_last {k:Nat} (h:k=zs.length):lpart zs y k zs.length++[y]=zs.take k++[y]++zs.drop k:=by
 simp only[lpart];subst h;rw[if_neg (by omega),List.take_length,List.drop_length,List.append_nil]
theorem lpart_len (zs:List α) (y:α) (k i:Nat):(lpart zs y k i).length≤zs.length+1:=by
 simp only[lpart]
 split<;>simp only[List.length_append,List.length_take,List.length_drop,List.length_cons,List.length_nil]<;>omega
end
end
section
variable {F:Nat→Option RF} {Z:CallF} {h:Heap} {x:Cell} {xs:List Account} {fp:List Nat}
set_option maxHeartbeats 2000000 in
theorem sOpenAccount_c (hS10:Has F tS10) (hf:h.floor≤h.next) (w:SlR 11 (Fl Account.enc) h x xs fp) (id:Int) (hok: ∀t,t∈xs→t.Ok) (sm:xs.length≤1048576):
 ∃y h' fq,call F Z 323 [.agg [x],.c (.int .u64 id)] h=some (.tup [.agg [y],.c (.int .i64 (openBook xs id).2)],h')∧On h h'∧SlR 11 (Fl Account.enc) h' y (openBook xs id).1 fq∧Fre h fq:=by
 obtain ⟨y,h1,fq,e1,o1,w1,f1⟩:=l10Copy_c (Z:=Z) hS10 hf w sm
 have e2:=sBookOk_run (Z:=Z) hS10 w hok
 have e3:=l10Find_run (Z:=Z) hS10 w id
 have hwl:=w.len
 have hle:=w.le2
 rw[call_run F Z (hS10.lk (g:=323) rfl) _ _ rfl]
 cases hb:bookOk xs with
 | false=>
   rw[hb] at e2
   rw[open_bad hb]
   simp only[rn,RO.dst,lk,drop,Nat.reduceBEq,Nat.reduceAdd,Nat.reduceLeDiff,↓reduceIte,reduceCtorEq,e1,e2,e3]
   exact ⟨_,_,_,rfl,o1,w1,f1⟩
 | true=>
   rw[hb] at e2
   rcases acc_found hb id with ⟨q1,q2⟩ | ⟨i,q1,q2,q3,hi,q5⟩
   ·rw[q1] at e3
    cases c3:((xs.length:Int)==40) with
    | true=>
      rw[open_full hb q1 c3]
      simp only[rn,RO.dst,lk,drop,Nat.reduceBEq,Nat.reduceAdd,Nat.reduceLeDiff,↓reduceIte,reduceCtorEq,e1,e2,e3,hwl,c3,ge_iff_le,Int.reduceLE,Int.reduceNeg]
      exact ⟨_,_,_,rfl,o1,w1,f1⟩
    | false=>
      rw[open_new hb q1 c3]
      clear e1 o1 w1 f1
      simp only[rn,RO.dst,lk,drop,Nat.reduceBEq,Nat.reduceAdd,Nat.reduceLeDiff,↓reduceIte,reduceCtorEq,e2,e3,hwl,c3,ge_iff_le,Int.reduceLE,Int.reduceNeg]
      obtain ⟨s',⟨y,g,hs,a⟩,lp⟩:=loop_goes (F:=F) (Z:=Z) (live:=[1,2,4,6,7,8]) (b:=r323L0) xs.length (fun i st=> ∃y g,st=⟨[(1,.c (.int .u64 id)),(7,.c (.bool (decide (accGo xs id<i)))),(8,.c (.int .i64 (i:Nat)))],[(2,2,0),(4,4,0),(6,6,0)],[(2,[x]),(4,[.nil]),(6,[y])],g⟩∧Acc 11 h g y ((lpart xs (Account.new id) (accGo xs id) i).map Account.enc)) (fun i st hi ⟨y,g,hs,a⟩=>by
       subst hs
       have hlt:(i:Int)<xs.length:=by omega
       have hws:=wrapS i (by omega)
       have hxi:=w.idx hi
       have hgt:=acc_gt hb q1 hi
       have hpl:=lpart_len xs (Account.new id) (accGo xs id) i
       have hld:=(w.on (Fl.ok _) a.on).load hi
       rw[loop_run]
       conv in (codeF _ _ r323L0 _)=>unfold r323L0
       by_cases hp:accGo xs id<i
       ·have e3:=a.one_eq hf (bytes:=40) (by rw[List.length_map];omega) xs[i].enc
        have a2:=a.one hf (by rw[List.length_map];omega) xs[i].enc
        rw[show (lpart xs (Account.new id) (accGo xs id) i).map Account.enc++[xs[i].enc]=(lpart xs (Account.new id) (accGo xs id) (i+1)).map Account.enc from by rw[lpart_yes hi hp];simp] at a2
        have hd1:decide (accGo xs id<i)=true:=by simpa using hp
        have hd2:decide (accGo xs id<i+1)=true:=by simp;omega
        simp only[Account.enc] at hld e3 a2
        simp only[rn,RO.dst,lk,drop,Nat.reduceBEq,Nat.reduceAdd,Nat.reduceLeDiff,↓reduceIte,reduceCtorEq,hwl,hlt,hxi,hd1,hd2,hld,List.replicate_succ,List.replicate_zero,fills,and_self,Nat.zero_lt_one,List.set_cons_zero,e3,hws,Account.enc]
        exact ⟨_,⟨_,_,rfl,a2⟩,rfl⟩
       ·have hd1:decide (accGo xs id<i)=false:=by simpa using hp
        by_cases hq:accGo xs id=i
        ·have hgt':xs[i].id>id:=hgt.2 (by omega)
         have e3:=a.one_eq hf (bytes:=40) (by rw[List.length_map];omega) (Account.new id).enc
         have a2:=a.one hf (by rw[List.length_map];omega) (Account.new id).enc
         have hld2:=(w.on (Fl.ok _) a2.on).load hi
         have e4:=a2.one_eq hf (bytes:=40) (by simp;omega) xs[i].enc
         have a3:=a2.one hf (by simp;omega) xs[i].enc
         rw[show (lpart xs (Account.new id) (accGo xs id) i).map Account.enc++[(Account.new id).enc]++[xs[i].enc]=(lpart xs (Account.new id) (accGo xs id) (i+1)).map Account.enc from by rw[hq,lpart_at hi];simp] at a3
         have hd2:decide (accGo xs id<i+1)=true:=by simp;omega
         simp only[Account.enc,Account.new] at hld hld2 e3 e4 a3
         simp only[rn,RO.dst,lk,drop,Nat.reduceBEq,Nat.reduceAdd,Nat.reduceLeDiff,↓reduceIte,reduceCtorEq,hwl,hlt,hxi,hd1,hd2,hld,hgt',List.replicate_succ,List.replicate_zero,fills,and_self,Nat.zero_lt_one,List.set_cons_zero,e3,hld2,e4,hws,Account.enc,Account.new]
         exact ⟨_,⟨_,_,rfl,a3⟩,rfl⟩
        ·have hgt': ¬xs[i].id>id:=fun hc=>by have:=hgt.1 hc;omega
         have e3:=a.one_eq hf (bytes:=40) (by rw[List.length_map];omega) xs[i].enc
         have a2:=a.one hf (by rw[List.length_map];omega) xs[i].enc
         rw[show (lpart xs (Account.new id) (accGo xs id) i).map Account.enc++[xs[i].enc]=(lpart xs (Account.new id) (accGo xs id) (i+1)).map Account.enc from by rw[lpart_no hi (by omega)];simp] at a2
         have hd2:decide (accGo xs id<i+1)=false:=by simp;omega
         simp only[Account.enc] at hld e3 a2
         simp only[rn,RO.dst,lk,drop,Nat.reduceBEq,Nat.reduceAdd,Nat.reduceLeDiff,↓reduceIte,reduceCtorEq,hwl,hlt,hxi,hd1,hd2,hld,hgt',List.replicate_succ,List.replicate_zero,fills,and_self,Nat.zero_lt_one,List.set_cons_zero,e3,hws,Account.enc]
         exact ⟨_,⟨_,_,rfl,a2⟩,rfl⟩) (s:=⟨[(1,.c (.int .u64 id)),(7,.c (.bool false)),(8,.c (.int .i64 (0:Nat)))],[(2,2,0),(4,4,0),(6,6,0)],[(2,[x]),(4,[.nil]),(6,[.nil])],h⟩) ⟨.nil,h,by simp,by simpa[lpart] using Acc.nil 11 h⟩
      subst hs
      simp only[show ((0:Nat):Int)=0 from rfl] at lp
      have hlt: ¬(xs.length:Int)<xs.length:=by omega
      rw[lp,loop_run]
      conv in (codeF _ _ r323L0 _)=>unfold r323L0
      by_cases hp:accGo xs id<xs.length
      ·rw[lpart_end hp] at a
       obtain ⟨o3,fr,w3,f3⟩:=a.flat (enc:=Account.enc)
       have hd1:decide (accGo xs id<xs.length)=true:=by simpa using hp
       simp only[rn,RO.dst,lk,drop,Nat.reduceBEq,Nat.reduceAdd,Nat.reduceLeDiff,↓reduceIte,reduceCtorEq,hwl,hlt,hd1]
       exact ⟨_,_,_,rfl,o3,w3,f3⟩
      ·have hp':accGo xs id=xs.length:=by have:=accGo_le xs id;omega
       have hpl:=lpart_len xs (Account.new id) (accGo xs id) xs.length
       have hl40:=book_len hb
       have e3:=a.one_eq hf (bytes:=40) (by rw[List.length_map];omega) (Account.new id).enc
       have a2:=a.one hf (by rw[List.length_map];omega) (Account.new id).enc
       rw[show (lpart xs (Account.new id) (accGo xs id) xs.length).map Account.enc++[(Account.new id).enc]=(plusAcc xs id).map Account.enc from by rw[plusAcc,←lpart_last hp'];simp] at a2
       obtain ⟨o3,fr,w3,f3⟩:=a2.flat (enc:=Account.enc)
       have hd1:decide (accGo xs id<xs.length)=false:=by simpa using hp
       simp only[Account.enc,Account.new] at e3 o3 w3
       simp only[rn,RO.dst,lk,drop,Nat.reduceBEq,Nat.reduceAdd,Nat.reduceLeDiff,↓reduceIte,reduceCtorEq,hwl,hlt,hd1,List.replicate_succ,List.replicate_zero,fills,and_self,Nat.zero_lt_one,List.set_cons_zero,e3]
       exact ⟨_,_,_,rfl,o3,w3,f3⟩
   ·rw[q1] at e3
    rw[open_there hb q1]
    have g0:(i:Int)≥0:=by omega
    simp only[rn,RO.dst,lk,drop,Nat.reduceBEq,Nat.reduceAdd,Nat.reduceLeDiff,↓reduceIte,reduceCtorEq,e1,e2,e3,g0]
    exact ⟨_,_,_,rfl,o1,w1,f1⟩
end
end Go.Proofs.YthofpopafchelaaGreat.A
namespace Go.Proofs.YthofpopafchelaaGreat.A
open Go
set_option linter.unusedSimpArgs false
set_option linter.unusedVariables false
structure Request where
 epoch:Int
 op:Int
 id:Int
 amount:Int
 tx:Int
 deriving DecidableEq
namespace Request
def enc (t:Request):List Cell:=[.int .i64 t.epoch,.int .i64 t.op,.int .u64 t.id,.int .u64 t.amount,.int .i64 t.tx]
theorem len (t:Request):t.enc.length=5:=rfl
theorem tak (t:Request):t.enc.take 5=t.enc:=rfl
def none_:Request:=⟨0,0,0,0,0⟩
structure Ok (t:Request):Prop where
 epoch: -9223372036854775808≤t.epoch∧t.epoch≤9223372036854775807
 op: -9223372036854775808≤t.op∧t.op≤9223372036854775807
 id:0≤t.id∧t.id≤18446744073709551615
 amount:0≤t.amount∧t.amount≤18446744073709551615
 tx: -9223372036854775808≤t.tx∧t.tx≤9223372036854775807
end Request
end Go.Proofs.YthofpopafchelaaGreat.A
namespace Go.Proofs.YthofpopafchelaaGreat.A
open Go
set_option linter.unusedSimpArgs false
set_option linter.unusedVariables false
def lockDF (m tx:Int):Act:=fun a=>if a.tx=0 then (if m≤a.bal then (0,{a with bal:=a.bal-m,hold:=m,tx:=tx}) else (4,a)) else (6,a)
def lockCF (m tx:Int):Act:=fun a=>if a.tx=0 then (if a.bal+m≤18446744073709551615 then (0,{a with due:=m,tx:=tx}) else (5,a)) else (6,a)
def settleF (id tx:Int):Act:=fun a=>if a.tx=tx then (0,⟨id,a.bal+a.due,0,0,0⟩) else (7,a)
def releaseF (id tx:Int):Act:=fun a=>if a.tx=tx then (0,⟨id,a.bal+a.hold,0,0,0⟩) else (7,a)
def bookTx (xs:List Account) (id tx:Int) (f:Act):List Account×Int:=bif decide (tx<1) then (xs,1) else bookDo xs id f
def doBook (xs:List Account) (q:Request):List Account×Int:=
 bif q.op==0 then openBook xs q.id else bif q.op==1 then bookDo xs q.id closeF else bif q.op==2 then bookDo xs q.id (depF q.amount) else bif q.op==3 then bookDo xs q.id (witF q.amount)
 else bif q.op==4 then bookTx xs q.id q.tx (lockDF q.amount q.tx) else bif q.op==5 then bookTx xs q.id q.tx (lockCF q.amount q.tx) else bif q.op==6 then bookTx xs q.id q.tx (settleF q.id q.tx)
 else bif q.op==7 then bookTx xs q.id q.tx (releaseF q.id q.tx) else (xs,bif decide (0≤accAt xs q.id) then 0 else 2)
def doVal (r:List Account×Int) (a:Int):Int:=bif (r.2==0)&&decide (0≤accAt r.1 a) then (Account.at_ r.1 (accAt r.1 a).toNat).bal else 0
def Request.fin (q:Request):Fin:=⟨q.tx,q.id⟩
def Request.ends (q:Request):Bool:=(q.op==6)||(q.op==7)
def doShard (x:Shard) (q:Request):Shard:={x with book:=⟨(doBook x.book.list q).1⟩,finished:=bif q.ends&& !decide (q.fin∈x.finished) then sortFins (x.finished++[q.fin]) else x.finished}
def refuse (x:Shard) (q:Request):Int:=
 bif !(x.epoch==q.epoch) then 9 else bif (x.state==1)&& !(q.op==8) then 10 else bif inR q.op 4 7&&decide (q.tx<1) then 11
 else bif ((q.op==4)||(q.op==5))&&decide (q.fin∈x.finished) then 12 else bif (q.ends&& !decide (q.fin∈x.finished))&&((x.finished.length:Int)==60) then 13 else 0
def doStore (s:Store) (q:Request):Store×Int×Int:=
 bif s.good&&inR q.op 0 8 then
  (bif decide (0≤findId s.shards q.id) then
   (bif refuse (Shard.at_ s.shards (findId s.shards q.id).toNat) q==0 then
    ({s with shards:=s.shards.set (findId s.shards q.id).toNat (doShard (Shard.at_ s.shards (findId s.shards q.id).toNat) q)},(doBook (Shard.at_ s.shards (findId s.shards q.id).toNat).book.list q).2,doVal (doBook (Shard.at_ s.shards (findId s.shards q.id).toNat).book.list q) q.id)
   else (s,refuse (Shard.at_ s.shards (findId s.shards q.id).toNat) q,0)) else (s,8,0)) else (s,11,0)
section
variable {s:Store} {q:Request} {i:Nat} {x:Shard} {xs:List Account} {id tx:Int} {f:Act}
theorem dost_bad (h:(s.good&&inR q.op 0 8)=false):doStore s q=(s,11,0):=by simp[doStore,h]
theorem dost_away (h:(s.good&&inR q.op 0 8)=true) (h2:findId s.shards q.id= -1):doStore s q=(s,8,0):=by simp[doStore,h,h2]
theorem dost_at (h:(s.good&&inR q.op 0 8)=true) (h2:findId s.shards q.id=(i:Int)):doStore s q=
 bif refuse (Shard.at_ s.shards i) q==0 then ({s with shards:=s.shards.set i (doShard (Shard.at_ s.shards i) q)},(doBook (Shard.at_ s.shards i).book.list q).2,doVal (doBook (Shard.at_ s.shards i).book.list q) q.id) else (s,refuse (Shard.at_ s.shards i) q,0):=by
 simp[doStore,h,h2]
theorem btx_bad (h:tx<1):bookTx xs id tx f=(xs,1):=by simp[bookTx,h]
theorem btx_do (h: ¬tx<1):bookTx xs id tx f=bookDo xs id f:=by simp[bookTx,h]
theorem btx_len:(bookTx xs id tx f).1.length≤xs.length:=by
 by_cases h:tx<1
 ·rw[btx_bad h];exact Nat.le_refl _
 ·rw[btx_do h];exact do_len
theorem val_cases {r:List Account×Int} {a:Int} (hs:Srt r.1):(¬r.2=0∧doVal r a=0)∨(r.2=0∧accIs r.1 a=false∧accAt r.1 a= -1∧doVal r a=0)∨
 (r.2=0∧ ∃i:Nat,accIs r.1 a=true∧accGo r.1 a=i∧accAt r.1 a=(i:Int)∧i<r.1.length∧doVal r a=(Account.at_ r.1 i).bal):=by
 by_cases h:r.2=0
 ·right
  rcases acc_foundS hs a with ⟨h1,h2⟩ | ⟨i,h1,h2,h3,h4,_⟩
  ·exact .inl ⟨h,h2,h1,by simp[doVal,h1]⟩
  ·exact .inr ⟨h,i,h2,h3,h1,h4,by simp[doVal,h,h1]⟩
 ·have:(r.2==0)=false:=by simpa using h
  exact .inl ⟨h,by simp[doVal,this]⟩
end
end Go.Proofs.YthofpopafchelaaGreat.A
namespace Go.Proofs.YthofpopafchelaaGreat.A
open Go
set_option linter.unusedSimpArgs false
set_option linter.unusedVariables false
section
variable {F:Nat→Option RF} {Z:CallF} {h:Heap} {x:Cell} {xs:List Account} {fp:List Nat}
end
end Go.Proofs.YthofpopafchelaaGreat.A
namespace Go.Proofs.YthofpopafchelaaGreat.A
open Go
set_option linter.unusedSimpArgs false
set_option linter.unusedVariables false
section
variable {F:Nat→Option RF} {Z:CallF} {h:Heap} {x:Cell} {xs:List Account} {fp:List Nat}
end
end Go.Proofs.YthofpopafchelaaGreat.A
namespace Go.Proofs.YthofpopafchelaaGreat.A
open Go
set_option linter.unusedSimpArgs false
set_option linter.unusedVariables false
section
variable {α:Type} {R:Rel α} {tag:Nat} {h0 h g:Heap} {x y:Cell} {xs ys:List α} {fp fq:List Nat}
theorem AllR.turnF (ok:RelOk R) {h':Heap} (hn:h.next≤h'.next) {r':List Cell} {t':α} {f':List Nat}: ∀{rows:List (List Cell)} {xs:List α} {fps:List (List Nat)},AllR R h rows xs fps→ ∀(i:Nat) (f:List Nat),fps[i]? =some f→fps.flatten.Nodup→
 (∀id,id∈fps.flatten→id∉f→h'.get id=h.get id)→R h' r' t' f'→AllR R h' (rows.set i r') (xs.set i t') (fps.set i f')
 | [],[],[],_,i,f,e,_,_,_=>by simp at e
 | r::rs,a::bs,g::gs,⟨w0,w⟩,0,f,e,nd,hg,v=>by
   simp only[List.getElem?_cons_zero,Option.some.injEq] at e
   subst e
   rw[List.flatten_cons] at nd
   obtain ⟨n1,n2,n3⟩:=List.nodup_append.1 nd
   exact ⟨v,w.mv ok hn fun id hid=>hg id (by rw[List.flatten_cons,List.mem_append];exact .inr hid) fun hf=>n3 id hf id hid rfl⟩
 | r::rs,a::bs,g::gs,⟨w0,w⟩,i+1,f,e,nd,hg,v=>by
   simp only[List.getElem?_cons_succ] at e
   rw[List.flatten_cons] at nd
   obtain ⟨n1,n2,n3⟩:=List.nodup_append.1 nd
   exact ⟨ok.mv w0 hn fun id hid=>hg id (by rw[List.flatten_cons,List.mem_append];exact .inl hid) fun hf=>n3 id hid id (List.mem_flatten.2 ⟨f,List.mem_of_getElem? e,hf⟩) rfl,
    AllR.turnF ok hn w i f e n2 (fun id hid hf=>hg id (by rw[List.flatten_cons,List.mem_append];exact .inr hid) hf) v⟩
 | [],[],_::_,w,_,_,_,_,_,_=>w.elim
 | [],_::_,_,w,_,_,_,_,_,_=>w.elim
 | _::_,[],_,w,_,_,_,_,_,_=>w.elim
 | _::_,_::_,[],w,_,_,_,_,_,_=>w.elim
theorem flat_apart {f f2:List Nat}: ∀(fps:List (List Nat)) (i k:Nat),fps[i]? =some f→fps[k]? =some f2→k≠i→fps.flatten.Nodup→ ∀id,id∈f2→id∉f
 | [],i,k,h,_,_,_,_,_,_=>by simp at h
 | g::r,0,0,_,_,hne,_,_,_,_=>absurd rfl hne
 | g::r,0,k+1,h,h2,_,nd,id,h3,h4=>by
   simp only[List.getElem?_cons_zero,Option.some.injEq] at h
   subst h
   rw[List.flatten_cons] at nd
   exact (List.nodup_append.1 nd).2.2 id h4 id (List.mem_flatten.2 ⟨f2,List.mem_of_getElem? (by simpa using h2),h3⟩) rfl
 | g::r,i+1,0,h,h2,_,nd,id,h3,h4=>by
   simp only[List.getElem?_cons_zero,Option.some.injEq] at h2
   subst h2
   rw[List.flatten_cons] at nd
   exact (List.nodup_append.1 nd).2.2 id h3 id (List.mem_flatten.2 ⟨f,List.mem_of_getElem? (by simpa using h),h4⟩) rfl
 | g::r,i+1,k+1,h,h2,hne,nd,id,h3,h4=>by
   rw[List.flatten_cons] at nd
   exact flat_apart r i k (by simpa using h) (by simpa using h2) (by omega) (List.nodup_append.1 nd).2.1 id h3 h4
theorem SlR.turnF (ok:RelOk R) (w:SlR tag R h x xs fp) (nd:fp.Nodup) {i:Nat} (hi:i<xs.length):
 ∃r f,∃rows:List (List Cell),R h r xs[i] f∧(∀id,id∈f→id∈fp)∧f.Nodup∧x.sid∈fp∧x.sid∉f∧x.sid<h.next∧h.get x.sid=some rows∧rows[i]? =some r∧i<rows.length∧
  (∀k (hk:k<xs.length),k≠i→ ∃r2 f2,R h r2 xs[k] f2∧rows[k]? =some r2∧ ∀id,id∈f2→id∈fp∧id∉f∧id≠x.sid)∧
  ∀h' r' t' f',h.next≤h'.next→(∀id,id∈fp→id≠x.sid→id∉f→h'.get id=h.get id)→h'.get x.sid=some (rows.set i r')→R h' r' t' f'→f'.Nodup→(∀id,id∈f'→id∈f∨id∉fp)→
   ∃fp',SlR tag R h' x (xs.set i t') fp'∧fp'.Nodup∧ ∀id,id∈fp'→id∈fp∨id∈f':=by
 rcases w with ⟨hl,⟨rfl,rfl,rfl⟩ | ⟨id,rows,fps,rfl,q1,q2,rfl,q3⟩⟩
 ·exact absurd hi (Nat.not_lt_zero _)
 obtain ⟨r,f,e1,e2,v⟩:=q3.at i hi
 have hn:=List.nodup_cons.1 nd
 have hin: ∀j,j∈f→j∈fps.flatten:=fun j hj=>List.mem_flatten.2 ⟨f,List.mem_of_getElem? e2,hj⟩
 refine ⟨r,f,rows,v,fun j hj=>List.mem_cons_of_mem _ (hin j hj),flat_at_nodup fps i e2 hn.2,by simp[Cell.sid],fun hc=>hn.1 (hin _ hc),q2,q1,e1,by rw[q3.len];exact hi,fun k hk hne=> ?_,fun h' r' t' f' hn' hg hg' v' nf hd=> ?_⟩
 ·obtain ⟨r2,f2,e3,e4,v2⟩:=q3.at k hk
  have h2: ∀j,j∈f2→j∈fps.flatten:=fun j hj=>List.mem_flatten.2 ⟨f2,List.mem_of_getElem? e4,hj⟩
  exact ⟨r2,f2,v2,e3,fun j hj=>⟨List.mem_cons_of_mem _ (h2 j hj),flat_apart fps i k e2 e4 hne hn.2 j hj,fun e=>hn.1 (by simp only[Cell.sid] at e;exact e▸h2 j hj)⟩⟩
 ·have hne: ∀j,j∈f'→j≠id:=fun j hj e=>by
   rcases hd j hj with h1 | h1
   ·exact hn.1 (e▸hin j h1)
   ·exact h1 (by rw[e];simp)
  refine ⟨id::(fps.set i f').flatten,⟨by simpa using hl,.inr ⟨id,rows.set i r',fps.set i f',by simp,hg',Nat.lt_of_lt_of_le q2 hn',rfl,?_⟩⟩,?_,?_⟩
  ·exact q3.turnF ok hn' i f e2 hn.2 (fun j hj hf=>hg j (List.mem_cons_of_mem _ hj) (fun e=>hn.1 (by simp only[Cell.sid] at e;exact e▸hj)) hf) v'
  ·rw[List.nodup_cons]
   refine ⟨fun hc=> ?_,flat_set_nodup nf fps i f e2 hn.2 fun j hj=> ?_⟩
   ·rcases flat_set_mem _ _ hc with hc | hc
    ·exact hn.1 hc
    ·exact hne _ hc rfl
   ·rcases hd j hj with h1 | h1
    ·exact .inl h1
    ·exact .inr fun hc=>h1 (List.mem_cons_of_mem _ hc)
  ·intro j hj
   rcases List.mem_cons.1 hj with rfl | hj
   ·exact .inl (by simp)
   ·rcases flat_set_mem _ _ hj with hj | hj
    ·exact .inl (List.mem_cons_of_mem _ hj)
    ·exact .inr hj
theorem SlR.cat {enc:α→List Cell} (w:SlR tag (Fl enc) h x xs fp) (u:SlR tag (Fl enc) h y ys fq) (own: ∀id,id∈fp→h.floor≤id) {bytes:Nat} (hb:(xs.length+ys.length)*bytes≤140737488355328) (hl:xs.length+ys.length≤maxLen):
 ∃x' g f',appF h tag bytes x y=some (x',g)∧SlR tag (Fl enc) g x' (xs++ys) f'∧Re h g fp f':=by
 have hy:=u.rows
 have ht:A.isTag tag y=true:=by
  rcases u.flat with ⟨rfl,_⟩ | ⟨q,_⟩
  ·rfl
  ·rw[q];simp[A.isTag]
 have hp:h.get h.next≠none→True:=fun _=>trivial
 rcases w.flat with ⟨rfl,rfl,rfl⟩ | ⟨hx,hg,hn,rfl⟩
 ·by_cases h0:ys=[]
  ·subst h0
   refine ⟨.nil,h,[],?_,SlR.nil _ _ _,⟨Nat.le_refl _,rfl,fun _ _ _=>rfl,List.nodup_nil,fun _ h=>nomatch h⟩⟩
   simp[appF,ht,hy]
  ·have hl0:ys.length≠0:=fun hc=>h0 (List.eq_nil_of_length_eq_zero hc)
   refine ⟨.sl tag h.next 0 ys.length,h.push (ys.map enc),[h.next],?_,SlR.ofFlat (by simpa using hl) (push_get _ _) (Nat.lt_succ_self _),⟨Nat.le_succ _,rfl,fun id h1 _=>push_ne _ (by omega),by simp,fun id hid=>by simp at hid;exact .inr (by omega)⟩⟩
   simp only[List.length_nil,Nat.zero_add] at hb
   simp only[appF,ht,hy,if_true,Option.bind_some,List.length_map]
   rw[if_neg hl0,if_pos hb]
 ·have hf:=own _ (List.mem_singleton_self _)
  generalize x.sid=k at *
  subst hx
  refine ⟨.sl tag h.next 0 (xs.length+ys.length),(h.kill k).push ((xs++ys).map enc),[h.next],?_,?_,⟨Nat.le_succ _,rfl,fun id h1 h2=> ?_,by simp,fun id hid=>by simp at hid;exact .inr (by omega)⟩⟩
  ·simp only[appF,ht,hy,if_true,Option.bind_some,hg,List.length_map,List.map_append]
   rw[if_pos ⟨trivial,trivial,trivial,hf,hb⟩]
  ·have:=SlR.ofFlat (tag:=tag) (enc:=enc) (h:=(h.kill k).push ((xs++ys).map enc)) (xs:=xs++ys) (by simpa using hl) (id:=h.next) (by simp[Heap.push,Heap.kill]) (Nat.lt_succ_self _)
   simpa using this
  ·simp only[List.mem_singleton] at h2
   show (if id=h.next then some _ else (if id=k then none else h.get id))=h.get id
   rw[if_neg (by omega),if_neg h2]
end
section
variable {α:Type} {tag:Nat} {g:Heap} {y:Cell} {xs:List α} {f:List Nat}
end
end Go.Proofs.YthofpopafchelaaGreat.A
namespace Go.Proofs.YthofpopafchelaaGreat.A
open Go
set_option linter.unusedSimpArgs false
set_option linter.unusedVariables false
section
variable {F:Nat→Option RF} {Z:CallF} {h:Heap} {cs:List Cell} {fp:List Nat} {s:Store}
theorem SlR.sort {x:Cell} {xs:List Fin} (w:SlR 9 (Fl Fin.enc) h x xs fp) (own: ∀id,id∈fp→h.floor≤id) (hl:xs.length<4611686018427387904):
 ∃g,sortF 9 267 [.c x,.c (.fn 267 [])] h=some (.tup [],g)∧SlR 9 (Fl Fin.enc) g x (sortFins xs) fp∧Mk h g fp:=by
 rcases w.flat with ⟨rfl,rfl,rfl⟩ | ⟨hx,hg,hn,rfl⟩
 ·refine ⟨h,?_,by simpa[sortFins,sort2] using SlR.nil 9 (Fl Fin.enc) h,⟨rfl,rfl,fun _ _=>rfl⟩⟩
  simp[sortF]
 ·have hf:=own _ (List.mem_singleton_self _)
  generalize x.sid=k at *
  subst hx
  refine ⟨h.put k ((sortFins xs).map Fin.enc),?_,?_,Mk.put _ _ _⟩
  ·simp only[sortF,and_self,if_true,hg,Option.bind_some,List.length_map]
   rw[if_pos ⟨trivial,hf,hl⟩,decs_fins,Option.bind_some,sortFins_cells]
  ·have:=SlR.ofFlat (tag:=9) (enc:=Fin.enc) (h:=h.put k ((sortFins xs).map Fin.enc)) (xs:=sortFins xs) (by rw[sortFins_len];exact w.le) (id:=k) (by simp[Heap.put]) hn
   rwa [sortFins_len] at this
theorem join_zero {s:Store} {e:Int} (ok:s.Ok):joinShard s 0 e=(s,false):=by
 cases hn:s.next e with
 | false=>exact join_no hn
 | true=>
   by_cases h1:findAt s.shards 0 0<1
   ·exact join_away h1
   ·obtain ⟨k,e',hk,hp⟩:=findI_at (p:=fun t:Shard=>(t.lo==0)&&(t.state==0)) (xs:=s.shards) (by unfold findAt at h1;omega)
    exfalso
    have e2:findAt s.shards 0 0=(k:Int):=e'
    obtain ⟨j,rfl⟩: ∃j,k=j+1:=⟨k-1,by omega⟩
    have hgood:s.good=true:=by
     simp only[Store.next,Bool.and_eq_true] at hn
     exact hn.1
    have h3:=(Store.side hgood hk).2.2
    simp only[Bool.and_eq_true,beq_iff_eq] at hp
    have h4:=ok.shards _ (List.getElem_mem (show j<s.shards.length by omega))
    have h5:=h4.hi
    have h6:=h4.lo
    rw[Shard.at_get hk,Shard.at_get (show j<s.shards.length by omega),hp.1] at h3
    have h7:=Store.lo_hi hgood (show j<s.shards.length by omega)
    omega
theorem join_rows {h3:Heap} {y:Cell} {fr:List Nat} {j:Nat} (o:On h h3) (hf:h.floor≤h.next) (w:SlR 16 Shard.RI h3 y s.shards fr) (f:Fre h fr) (hj:j+1<s.shards.length)
 (smp:(Shard.at_ s.shards j).Small) (smq:(Shard.at_ s.shards (j+1)).Small):
 ∃xb xf yb yf g1 g2 g3 xb' xf' bl fl,(∀i n,loadP h3 y.sid j i n=cut? [.int .u64 (Shard.at_ s.shards j).lo,.int .u64 (Shard.at_ s.shards j).hi,.int .i64 (Shard.at_ s.shards j).state,.int .i64 (Shard.at_ s.shards j).epoch,xb,xf] i n)∧
  (∀i n,loadP h3 y.sid (j+1) i n=cut? [.int .u64 (Shard.at_ s.shards (j+1)).lo,.int .u64 (Shard.at_ s.shards (j+1)).hi,.int .i64 (Shard.at_ s.shards (j+1)).state,.int .i64 (Shard.at_ s.shards (j+1)).epoch,yb,yf] i n)∧
  appF h3 11 40 xb yb=some (xb',g1)∧appF g1 9 16 xf yf=some (xf',g2)∧sortF 9 267 [.c xf',.c (.fn 267 [])] g2=some (.tup [],g3)∧On h g3∧
  lenR (some xb')=some (.int .i64 bl)∧lenR (some xf')=some (.int .i64 fl)∧bl=(((Shard.at_ s.shards j).book.list++(Shard.at_ s.shards (j+1)).book.list).length:Nat)∧fl=(((Shard.at_ s.shards j).finished++(Shard.at_ s.shards (j+1)).finished).length:Nat)∧
  ∃g4 fq,storeP g3 y.sid j 0 [.int .u64 (Shard.at_ s.shards j).lo,.int .u64 (Shard.at_ s.shards (j+1)).hi,.int .i64 (Shard.at_ s.shards j).state,.int .i64 (Shard.at_ s.shards j).epoch,xb',xf']=some g4∧On h g4∧Fre h fq∧
   SlR 16 Shard.RI g4 y (s.shards.set j (Shard.join (Shard.at_ s.shards j) (Shard.at_ s.shards (j+1)))) fq:=by
 have own:=f.own o hf
 obtain ⟨r,f1,rows,hR,hin,nf1,hs,hns,hsl,hg,hr,hjl,others,fin⟩:=w.turnF Shard.okI f.nd (show j<s.shards.length by omega)
 obtain ⟨r2,f2,hR2,hr2,dis⟩:=others (j+1) hj (by omega)
 rw[←Shard.at_get (show j<s.shards.length by omega)] at hR
 rw[←Shard.at_get hj] at hR2
 have sp1:(Shard.at_ s.shards j).book.list.length≤1048576:=smp.1
 have sp2:(Shard.at_ s.shards j).finished.length≤1048576:=smp.2
 have sq1:(Shard.at_ s.shards (j+1)).book.list.length≤1048576:=smq.1
 have sq2:(Shard.at_ s.shards (j+1)).finished.length≤1048576:=smq.2
 obtain ⟨xb,pb,xf,pf,rfl,rfl,wb,wf⟩:=hR
 obtain ⟨yb,qb,yf,qf,rfl,rfl,ub,uf⟩:=hR2
 obtain ⟨n1,n2,n3⟩:=List.nodup_append.1 nf1
 have ltw:=w.lt Shard.okI
 have inb: ∀id,id∈pb→id∈fr:=fun id hid=>hin id (List.mem_append_left _ hid)
 have inf: ∀id,id∈pf→id∈fr:=fun id hid=>hin id (List.mem_append_right _ hid)
 obtain ⟨xb',g1,pb',e1,w1,re1⟩:=wb.cat ub (fun id hid=>own id (inb id hid)) (bytes:=40) (by omega) (by unfold maxLen;omega)
 have wf1:=wf.mv (Fl.ok _) re1.le fun id hid=>re1.get id (ltw id (inf id hid)) fun hc=>n3 id hc id hid rfl
 have uf1:=uf.mv (Fl.ok _) re1.le fun id hid=>by
  have:=dis id (List.mem_append_right _ hid)
  exact re1.get id (ltw id this.1) fun hc=>this.2.1 (List.mem_append_left _ hc)
 obtain ⟨xf',g2,pf',e2,w2,re2⟩:=wf1.cat uf1 (fun id hid=>by rw[re1.fl];exact own id (inf id hid)) (bytes:=16) (by omega) (by unfold maxLen;omega)
 have fb:Fre h pb:=⟨fun id hid=>f.lo id (inb id hid),n1⟩
 have ff:Fre h pf:=⟨fun id hid=>f.lo id (inf id hid),n2⟩
 have o1:=re1.on o fb
 have o2:=re2.on o1 ff
 have fb':=re1.fre o fb
 have ff':=re2.fre o1 ff
 have lt1:=w1.lt (Fl.ok _)
 have nb': ∀id,id∈pb'→id∉pf:=fun id h1 h2=>by
  rcases re1.of id h1 with h3 | h3
  ·exact n3 id h3 id h2 rfl
  ·have:=ltw id (inf id h2);omega
 have w1b:=w1.mv (Fl.ok _) re2.le fun id hid=>re2.get id (lt1 id hid) (nb' id hid)
 have own2: ∀id,id∈pf'→g2.floor≤id:=ff'.own o2 hf
 obtain ⟨g3,e3,w3,m3⟩:=w2.sort own2 (by rw[List.length_append];omega)
 have o3:=o2.turned m3 ff'
 have nbf: ∀id,id∈pb'→id∉pf':=fun id h1 h2=>by
  rcases re2.of id h2 with h3 | h3
  ·exact nb' id h1 h3
  ·have:=lt1 id h1;omega
 have w1c:=w1b.mv (Fl.ok _) (by rw[m3.next];exact Nat.le_refl _) fun id hid=>m3.get id (nbf id hid)
 have hle3:h3.next≤g3.next:=by rw[m3.next];exact Nat.le_trans re1.le re2.le
 have far: ∀id,id<h3.next→id∉pb++pf→g3.get id=h3.get id:=fun id h1 h2=>by
  rw[List.mem_append,not_or] at h2
  have h4:id∉pf':=fun hc=>by
   rcases re2.of id hc with h5 | h5
   ·exact h2.2 h5
   ·have:=re1.le;omega
  rw[m3.get id h4,re2.get id (Nat.lt_of_lt_of_le h1 re1.le) h2.2,re1.get id h1 h2.1]
 have hg3:g3.get y.sid=some rows:=(far _ hsl hns).trans hg
 have hfl3:g3.floor≤y.sid:=by rw[o3.fl];exact Nat.le_trans hf (f.lo _ hs)
 have hnb: ∀id,id∈pb'++pf'→id≠y.sid:=fun id hid e=>by
  subst e
  rcases List.mem_append.1 hid with h1 | h1
  ·rcases re1.of _ h1 with h2 | h2
   ·exact hns (List.mem_append_left _ h2)
   ·omega
  ·rcases re2.of _ h1 with h2 | h2
   ·exact hns (List.mem_append_right _ h2)
   ·have:=re1.le;omega
 refine ⟨xb,xf,yb,yf,g1,g2,g3,xb',xf',_,_,fun i n=>loadP_row hg hr i n,fun i n=>loadP_row hg hr2 i n,e1,e2,e3,o3,w1c.len,w3.len,rfl,congrArg (fun n:Nat=>(n:Int)) (sortFins_len _),?_⟩
 have hst:=storeP_at (h:=g3) (id:=y.sid) (i:=j) (j:=0) (new:=[.int .u64 (Shard.at_ s.shards j).lo,.int .u64 (Shard.at_ s.shards (j+1)).hi,.int .i64 (Shard.at_ s.shards j).state,.int .i64 (Shard.at_ s.shards j).epoch,xb',xf']) hfl3 hg3 hr rfl
 obtain ⟨fq,w4,nq,sub⟩:=fin (g3.put y.sid (rows.set j [.int .u64 (Shard.at_ s.shards j).lo,.int .u64 (Shard.at_ s.shards (j+1)).hi,.int .i64 (Shard.at_ s.shards j).state,.int .i64 (Shard.at_ s.shards j).epoch,xb',xf'])) _ (Shard.join (Shard.at_ s.shards j) (Shard.at_ s.shards (j+1))) (pb'++pf') hle3
  (fun id h1 h2 h4=>by rw[put_ne _ h2];exact far id (ltw id h1) h4) (by simp[Heap.put,Shard.join])
  ⟨xb',pb',xf',pf',rfl,rfl,w1c.mv (Fl.ok _) (Nat.le_refl _) fun id hid=>put_ne _ (hnb id (List.mem_append_left _ hid)),w3.mv (Fl.ok _) (Nat.le_refl _) fun id hid=>put_ne _ (hnb id (List.mem_append_right _ hid))⟩
  (List.nodup_append.2 ⟨fb'.nd,ff'.nd,fun a ha b hb e=>by subst e;exact nbf a ha hb⟩)
  (fun id hid=>by
   rcases List.mem_append.1 hid with h1 | h1
   ·rcases re1.of _ h1 with h2 | h2
    ·exact .inl (List.mem_append_left _ h2)
    ·exact .inr fun hc=>by have:=ltw id hc;omega
   ·rcases re2.of _ h1 with h2 | h2
    ·exact .inl (List.mem_append_right _ h2)
    ·exact .inr fun hc=>by have:=ltw id hc;have:=re1.le;omega)
 refine ⟨_,fq,hst,o3.turned (Mk.put _ _ _) ⟨fun id hid=>by simp only[List.mem_singleton] at hid;subst hid;exact f.lo _ hs,by simp⟩,⟨fun id hid=> ?_,nq⟩,w4⟩
 rcases sub id hid with h1 | h1
 ·exact f.lo id h1
 ·rcases List.mem_append.1 h1 with h1 | h1
  ·exact fb'.lo id h1
  ·exact ff'.lo id h1
set_option maxHeartbeats 4000000 in
theorem JoinShard_c (k:KI F) (hL:Has F tLibslicesIndexFuncimplShardimplShard) (prd:PrimAt F Z 330 (delF 16)) (prs:PrimAt F Z 375 (sortF 9 267)) (hf:h.floor≤h.next) (v:Store.RI h cs s fp) (a e:Int) (ha:0≤a∧a≤18446744073709551615) (ok:s.Ok) (sm:s.Small):
 ∃cs' h' fq,call F Z 365 [.agg cs,.c (.int .u64 a),.c (.int .i64 e)] h=some (.tup [.agg cs',.c (.bool (joinShard s a e).2)],h')∧On h h'∧Store.RI h' cs' (joinShard s a e).1 fq∧Fre h fq:=by
 obtain ⟨l1,l2,l3⟩:=Store.lenI v
 obtain ⟨cs1,h1,fr,e1,o1,v1,f1⟩:=copyStore_c (Z:=Z) k hf v sm
 obtain ⟨h2,e2,o2⟩:=shardAt_on (Z:=Z) k.i13 hL (Store.okI.on v o1) a 0
 obtain ⟨h3,e3,o3⟩:=isNewEpoch_run (Z:=Z) k (Store.okI.on (Store.okI.on v o1) o2) ok e
 have o13:=(o1.trans o2).trans o3
 obtain ⟨y,p,rfl,hp,w⟩:=Store.okI.on (Store.okI.on v1 o2) o3
 subst hp
 have v3:=Store.okI.on v o13
 rw[call_run F Z (k.i13.lk (g:=365) rfl) _ _ rfl]
 cases hn:s.next e with
 | false=>
   rw[hn] at e3
   rw[join_no hn]
   simp only[rn,RO.dst,lk,drop,Nat.reduceBEq,Nat.reduceAdd,Nat.reduceLeDiff,↓reduceIte,reduceCtorEq,l1,l2,l3,e1,e2,e3]
   exact ⟨_,_,_,rfl,o13,⟨y,_,rfl,rfl,w⟩,f1⟩
 | true=>
   rw[hn] at e3
   by_cases hz:a=0
   ·subst hz
    rw[join_zero ok]
    simp only[rn,RO.dst,lk,drop,Nat.reduceBEq,Nat.reduceAdd,Nat.reduceLeDiff,↓reduceIte,reduceCtorEq,l1,l2,l3,e1,e2,e3,beq_self_eq_true]
    exact ⟨_,_,_,rfl,o13,⟨y,_,rfl,rfl,w⟩,f1⟩
   have hz':(a==0)=false:=by simpa using hz
   obtain ⟨x,p,rfl,hp,wx⟩:=v3
   subst hp
   rcases wx.found (fun t=>(t.lo==a)&&(t.state==0)) with q | ⟨j,q,hj,hpj,hx,_,_,hld⟩
   ·change findAt s.shards a 0= -1 at q
    rw[join_away (by omega)]
    rw[q] at e2
    simp only[rn,RO.dst,lk,drop,Nat.reduceBEq,Nat.reduceAdd,Nat.reduceLeDiff,↓reduceIte,reduceCtorEq,l1,l2,l3,e1,e2,e3,hz',Int.reduceLT,Int.reduceNeg]
    exact ⟨_,_,_,rfl,o13,⟨y,_,rfl,rfl,w⟩,f1⟩
   change findAt s.shards a 0=(j:Int) at q
   rw[q] at e2
   cases j with
   | zero=>
     rw[join_away (by omega)]
     have g0:((0:Nat):Int)<1:=by omega
     simp only[rn,RO.dst,lk,drop,Nat.reduceBEq,Nat.reduceAdd,Nat.reduceLeDiff,↓reduceIte,reduceCtorEq,l1,l2,l3,e1,e2,e3,hz',g0]
     exact ⟨_,_,_,rfl,o13,⟨y,_,rfl,rfl,w⟩,f1⟩
   | succ j=>
   rw[join_if hn q]
   have g0: ¬((j+1:Nat):Int)<1:=by omega
   have hwe:=wx.le2
   have hgood:s.good=true:=by
    simp only[Store.next,Bool.and_eq_true] at hn
    exact hn.1
   have hpj':=hpj
   simp only[Bool.and_eq_true,beq_iff_eq] at hpj'
   have hs:=Store.side hgood hj
   have hw:IntKind.u64.wrap (a-1)=a-1:=wrapU _ (by omega) (by omega)
   have hw1:IntKind.i64.wrap (((j+1:Nat):Int)-1)=(j:Int):=by
    rw[wrapI _ (by omega) (by omega)];omega
   have hxj:=wx.idx (show j<s.shards.length by omega)
   have hyj:=w.idx (show j<s.shards.length by omega)
   have hyk:=w.idx hj
   obtain ⟨r0,f0,hld0,hR0,_⟩:=wx.atR (show j<s.shards.length by omega)
   obtain ⟨x1,_,x2,_,rfl,_⟩:=hR0
   by_cases c1:(Shard.at_ s.shards j).state=0
   case neg=>
    have c1':((Shard.at_ s.shards j).state==0)=false:=by simpa using c1
    have c1n:((Shard.at_ s.shards j).state !=0)=true:=by simpa using c1
    rw[c1']
    simp only[Bool.false_and,cond_false]
    simp only[rn,RO.dst,lk,drop,Nat.reduceBEq,Nat.reduceAdd,Nat.reduceLeDiff,↓reduceIte,reduceCtorEq,l1,l2,l3,e1,e2,e3,hz',g0,hw1,hxj,hld0,c1n]
    exact ⟨_,_,_,rfl,o13,⟨y,_,rfl,rfl,w⟩,f1⟩
   have c1':((Shard.at_ s.shards j).state==0)=true:=by simpa using c1
   have c1n:((Shard.at_ s.shards j).state !=0)=false:=by simpa using c1
   by_cases c2:(Shard.at_ s.shards j).hi=a-1
   case neg=>
    have c2':((Shard.at_ s.shards j).hi==a-1)=false:=by simpa using c2
    have c2n:((Shard.at_ s.shards j).hi !=a-1)=true:=by simpa using c2
    rw[c2',c1']
    simp only[Bool.and_false,cond_false]
    simp only[rn,RO.dst,lk,drop,Nat.reduceBEq,Nat.reduceAdd,Nat.reduceLeDiff,↓reduceIte,reduceCtorEq,l1,l2,l3,e1,e2,e3,hz',g0,hw1,hxj,hld0,c1n,hw,c2n]
    exact ⟨_,_,_,rfl,o13,⟨y,_,rfl,rfl,w⟩,f1⟩
   have c2':((Shard.at_ s.shards j).hi==a-1)=true:=by simpa using c2
   have c2n:((Shard.at_ s.shards j).hi !=a-1)=false:=by simpa using c2
   rw[c1',c2']
   simp only[Bool.and_true,cond_true]
   obtain ⟨xb,xf,yb,yf,g1,g2,g3,xb',xf',bl,fl,hlj,hlk,a1,a2,a3,og3,lb,lf,hbl,hfl,g4,fq,st,og4,fq4,w4⟩:=join_rows o13 hf w f1 hj (Store.at_small sm (show j<s.shards.length by omega)) (Store.at_small sm hj)
   have hjs:Shard.joins (Shard.at_ s.shards j) (Shard.at_ s.shards (j+1))=(decide (bl≤40)&&decide (fl≤60)):=by rw[hbl,hfl];rfl
   rw[hjs]
   obtain ⟨cs5,h5,fr5,e5,o5,v5,f5⟩:=copyStore_c (Z:=Z) k (og3.le hf) (Store.okI.on v og3) sm
   simp only[rn,RO.dst,lk,drop,Nat.reduceBEq,Nat.reduceAdd,Nat.reduceLeDiff,↓reduceIte,reduceCtorEq,l1,l2,l3,e1,e2,e3,hz',g0,hw1,hxj,hld0,c1n,hw,c2n,hyj,hyk,hlj,hlk,a1,a2,prs _ _,a3,lb,lf]
   obtain ⟨m1,m2,m3⟩:=Store.lenI v5
   have o05:=og3.trans o5
   have f05:Fre h fr5:=⟨fun id hid=>Nat.le_trans og3.ext.1 (f5.lo id hid),f5.nd⟩
   by_cases c3:bl≤40
   case neg=>
    have c3':40<bl:=by omega
    have hd:(decide (bl≤40)&&decide (fl≤60))=false:=by simp[c3]
    rw[hd]
    simp only[cond_false]
    simp only[rn,RO.dst,lk,drop,Nat.reduceBEq,Nat.reduceAdd,Nat.reduceLeDiff,↓reduceIte,reduceCtorEq,c3',l1,l2,l3,e5,m1,m2,m3,gt_iff_lt]
    exact ⟨_,_,_,rfl,o05,v5,f05⟩
   have c3': ¬40<bl:=by omega
   by_cases c4:fl≤60
   case neg=>
    have c4':60<fl:=by omega
    have hd:(decide (bl≤40)&&decide (fl≤60))=false:=by simp[c4]
    rw[hd]
    simp only[cond_false]
    simp only[rn,RO.dst,lk,drop,Nat.reduceBEq,Nat.reduceAdd,Nat.reduceLeDiff,↓reduceIte,reduceCtorEq,c3',c4',lb,lf,l1,l2,l3,e5,m1,m2,m3,gt_iff_lt]
    exact ⟨_,_,_,rfl,o05,v5,f05⟩
   have c4': ¬60<fl:=by omega
   have hd:(decide (bl≤40)&&decide (fl≤60))=true:=by simp[c3,c4]
   rw[hd]
   simp only[cond_true]
   have hw2:IntKind.i64.wrap (((j+1:Nat):Int)+1)=((j+1+1:Nat):Int):=by
    rw[wrapI _ (by omega) (by omega)];omega
   obtain ⟨z,g5,fz,e6,w5,re⟩:=w4.del Shard.okI fq4.nd (fq4.own og4 hf) (i:=j+1) (by rw[List.length_set];exact hj)
   have o6:=re.on og4 fq4
   have f6:=re.fre og4 fq4
   obtain ⟨cs7,h7,e7,m7,v7⟩:=renewed_c (Z:=Z) k (s:=s.joinWith j (Shard.join (Shard.at_ s.shards j) (Shard.at_ s.shards (j+1)))) ⟨z,_,rfl,rfl,w5⟩ f6.nd (f6.own o6 hf) e
   obtain ⟨n1,n2,n3⟩:=Store.lenI v7
   change call F Z 321 [.agg [.int .i64 s.group,.int .i64 s.seen,z],_] g5=_ at e7
   simp only[rn,RO.dst,lk,drop,Nat.reduceBEq,Nat.reduceAdd,Nat.reduceLeDiff,↓reduceIte,reduceCtorEq,c3',c4',lb,lf,hw1,hw2,hyj,st,prd _ _,e6,e7,n1,n2,n3,gt_iff_lt]
   exact ⟨_,_,_,rfl,o6.turned m7 f6,v7,f6⟩
end
end Go.Proofs.YthofpopafchelaaGreat.A
namespace Go.Proofs.YthofpopafchelaaGreat.A
open Go
set_option linter.unusedSimpArgs false
set_option linter.unusedVariables false
section
variable {F:Nat→Option RF} {Z:CallF} {h:Heap} {xs:List Shard}
end
end Go.Proofs.YthofpopafchelaaGreat.A
namespace Go.Proofs.YthofpopafchelaaGreat.A
open Go
set_option linter.unusedSimpArgs false
set_option linter.unusedVariables false
theorem bookDo_srt2 {xs:List Account} (g:bookOk xs=true) (id:Int) {f:Act} (hf: ∀a:Account,a.id=id→(f a).2.id=a.id):Srt (bookDo xs id f).1:=by
 have hs:=book_srt g
 rcases acc_found g id with ⟨q1,_⟩ | ⟨i,q1,_,_,hi,q5⟩
 ·rw[do_none g q1];exact hs
 ·rw[do_at g q1]
  cases ((f (Account.at_ xs i)).1==0)
  ·exact hs
  ·cases ((f (Account.at_ xs i)).2.tx== -1)
   ·have h:=hf _ q5
    simp only[cond_true,cond_false]
    rw[Account.at_get hi] at h ⊢
    exact set_srt hs hi h
   ·exact List.Pairwise.sublist (List.eraseIdx_sublist xs i) hs
 where
 set_srt {xs:List Account} (g:Srt xs) {i:Nat} (hi:i<xs.length) {a:Account} (ha:a.id=xs[i].id):Srt (xs.set i a):=by
  rw[Srt,List.pairwise_iff_getElem] at g ⊢
  intro j k hj hk hjk
  rw[List.length_set] at hj hk
  rw[List.getElem_set,List.getElem_set]
  split<;>split<;>rename_i h1 h2
  ·omega
  ·subst h1;rw[ha];exact g i k hj hk hjk
  ·subst h2;rw[ha];exact g j i hj hk hjk
  ·exact g j k hj hk hjk
theorem bookTx_srt {xs:List Account} (g:bookOk xs=true) (id tx:Int) {f:Act} (hf: ∀a:Account,a.id=id→(f a).2.id=a.id):Srt (bookTx xs id tx f).1:=by
 by_cases h:tx<1
 ·rw[btx_bad h];exact book_srt g
 ·rw[btx_do h];exact bookDo_srt2 g id hf
theorem openBook_srt2 {xs:List Account} (g:bookOk xs=true) (id:Int):Srt (openBook xs id).1:=by
 rcases acc_found g id with ⟨q1,_⟩ | ⟨i,q1,_⟩
 ·cases h:((xs.length:Int)==40) with
  | true=>rw[open_full g q1 h];exact book_srt g
  | false=>rw[open_new g q1 h];exact plusAcc_srt g q1
 ·rw[open_there g q1];exact book_srt g
theorem closeF_id2 (a:Account):(closeF a).2.id=a.id:=by unfold closeF;split<;>(try split)<;>rfl
theorem depF_id2 (m:Int) (a:Account):(depF m a).2.id=a.id:=by unfold depF;split<;>(try split)<;>rfl
theorem witF_id2 (m:Int) (a:Account):(witF m a).2.id=a.id:=by unfold witF;split<;>(try split)<;>rfl
theorem lockDF_id (m tx:Int) (a:Account):(lockDF m tx a).2.id=a.id:=by unfold lockDF;split<;>(try split)<;>rfl
theorem lockCF_id (m tx:Int) (a:Account):(lockCF m tx a).2.id=a.id:=by unfold lockCF;split<;>(try split)<;>rfl
theorem settleF_id {id tx:Int} {a:Account} (h:a.id=id):(settleF id tx a).2.id=a.id:=by unfold settleF;split<;>simp[h]
theorem releaseF_id {id tx:Int} {a:Account} (h:a.id=id):(releaseF id tx a).2.id=a.id:=by unfold releaseF;split<;>simp[h]
theorem doBook_srt {xs:List Account} (g:bookOk xs=true) (q:Request):Srt (doBook xs q).1:=by
 unfold doBook
 cases (q.op==0)<;>simp only[cond_true,cond_false]
 case true=>exact openBook_srt2 g _
 cases (q.op==1)<;>simp only[cond_true,cond_false]
 case true=>exact bookDo_srt2 g _ fun a _=>closeF_id2 a
 cases (q.op==2)<;>simp only[cond_true,cond_false]
 case true=>exact bookDo_srt2 g _ fun a _=>depF_id2 _ a
 cases (q.op==3)<;>simp only[cond_true,cond_false]
 case true=>exact bookDo_srt2 g _ fun a _=>witF_id2 _ a
 cases (q.op==4)<;>simp only[cond_true,cond_false]
 case true=>exact bookTx_srt g _ _ fun a _=>lockDF_id _ _ a
 cases (q.op==5)<;>simp only[cond_true,cond_false]
 case true=>exact bookTx_srt g _ _ fun a _=>lockCF_id _ _ a
 cases (q.op==6)<;>simp only[cond_true,cond_false]
 case true=>exact bookTx_srt g _ _ fun a h=>settleF_id h
 cases (q.op==7)<;>simp only[cond_true,cond_false]
 case true=>exact bookTx_srt g _ _ fun a h=>releaseF_id h
 exact book_srt g
end Go.Proofs.YthofpopafchelaaGreat.A
namespace Go.Proofs.YthofpopafchelaaGreat.A
open Go
set_option linter.unusedSimpArgs false
set_option linter.unusedVariables false
section
variable {xs:List Account} {id tx:Int} {f:Act} {q:Request} {a:Account}
theorem bookDo_mem (g:bookOk xs=true) (ha:a∈(bookDo xs id f).1):a∈xs∨ ∃i:Nat,∃hi:i<xs.length,xs[i].id=id∧(f xs[i]).1=0∧(f xs[i]).2.tx≠ -1∧a=(f xs[i]).2:=by
 rcases acc_found g id with ⟨q1,_⟩ | ⟨i,q1,_,_,hi,q5⟩
 ·rw[do_none g q1] at ha;exact .inl ha
 ·rw[do_at g q1] at ha
  rw[Account.at_get hi] at ha q5
  cases h0:((f xs[i]).1==0) with
  | false=>rw[h0] at ha;exact .inl ha
  | true=>
    rw[h0] at ha
    cases h1:((f xs[i]).2.tx== -1) with
    | true=>rw[h1] at ha;exact .inl ((List.eraseIdx_sublist _ _).subset ha)
    | false=>
      rw[h1] at ha
      rcases List.mem_or_eq_of_mem_set ha with ha | ha
      ·exact .inl ha
      ·exact .inr ⟨i,hi,q5,by simpa using h0,by simpa using h1,ha⟩
theorem bookTx_mem (g:bookOk xs=true) (ha:a∈(bookTx xs id tx f).1):a∈xs∨1≤tx∧ ∃i:Nat,∃hi:i<xs.length,xs[i].id=id∧(f xs[i]).1=0∧(f xs[i]).2.tx≠ -1∧a=(f xs[i]).2:=by
 by_cases h:tx<1
 ·rw[btx_bad h] at ha;exact .inl ha
 ·rw[btx_do h] at ha
  rcases bookDo_mem g ha with h1 | h1
  ·exact .inl h1
  ·exact .inr ⟨by omega,h1⟩
theorem plusAcc_mem (ha:a∈plusAcc xs id):a∈xs∨a=Account.new id:=by
 simp only[plusAcc,List.mem_append,List.mem_singleton] at ha
 rcases ha with (ha | ha) | ha
 ·exact .inl (List.mem_of_mem_take ha)
 ·exact .inr ha
 ·exact .inl (List.mem_of_mem_drop ha)
theorem openBook_mem (g:bookOk xs=true) (ha:a∈(openBook xs id).1):a∈xs∨a=Account.new id:=by
 rcases acc_found g id with ⟨q1,_⟩ | ⟨i,q1,_⟩
 ·cases h:((xs.length:Int)==40) with
  | true=>rw[open_full g q1 h] at ha;exact .inl ha
  | false=>rw[open_new g q1 h] at ha;exact plusAcc_mem ha
 ·rw[open_there g q1] at ha;exact .inl ha
theorem fine_parts (h:a.fine=true):a.bal+a.hold+a.due≤18446744073709551615∧0≤a.tx∧(a.tx=0→a.hold=0∧a.due=0):=by
 simp only[Account.fine,Bool.and_eq_true,Bool.or_eq_true,decide_eq_true_eq,bne_iff_ne,ne_eq,beq_iff_eq] at h
 refine ⟨h.1,h.2.1,fun h0=> ?_⟩
 rcases h.2.2 with h2 | h2
 ·exact absurd h0 h2
 ·exact h2
theorem fine_mk (h1:a.bal+a.hold+a.due≤18446744073709551615) (h2:0≤a.tx) (h3:a.tx=0→a.hold=0∧a.due=0):a.fine=true:=by
 simp only[Account.fine,Bool.and_eq_true,Bool.or_eq_true,decide_eq_true_eq,bne_iff_ne,ne_eq,beq_iff_eq]
 refine ⟨h1,h2,?_⟩
 by_cases h0:a.tx=0
 ·exact .inr (h3 h0)
 ·exact .inl h0
theorem doBook_mem (g:bookOk xs=true) (hok: ∀t,t∈xs→t.Ok) (okq:q.Ok) (ha:a∈(doBook xs q).1):
 a∈xs∨(a.id=q.id∧a.fine=true∧a.Ok∧(a.tx=0∨(q.op=4∨q.op=5)∧a.tx=q.tx∧1≤q.tx)):=by
 obtain ⟨b1,b2,b3⟩:=(bookOk_iff xs).1 g
 have hid:=okq.id
 have ham:=okq.amount
 have htx:=okq.tx
 unfold doBook at ha
 cases h0:(q.op==0)<;>rw[h0] at ha<;>simp only[cond_true,cond_false] at ha
 case true=>
  rcases openBook_mem g ha with h | rfl
  ·exact .inl h
  ·exact .inr ⟨rfl,by simp[Account.fine,Account.new],⟨hid,by simp[Account.new],by simp[Account.new],by simp[Account.new],by simp[Account.new]⟩,.inl rfl⟩
 cases h1:(q.op==1)<;>rw[h1] at ha<;>simp only[cond_true,cond_false] at ha
 case true=>
  rcases bookDo_mem g ha with h | ⟨i,hi,e1,e2,e3,rfl⟩
  ·exact .inl h
  ·exfalso
   revert e2 e3
   unfold closeF
   split
   ·split<;>simp
   ·simp
 cases h2:(q.op==2)<;>rw[h2] at ha<;>simp only[cond_true,cond_false] at ha
 case true=>
  rcases bookDo_mem g ha with h | ⟨i,hi,e1,e2,e3,rfl⟩
  ·exact .inl h
  ·right
   have hf:=fine_parts (b2 _ (List.getElem_mem hi))
   have ok:=hok _ (List.getElem_mem hi)
   obtain ⟨o1,o2,o3,o4,o5⟩:=ok
   generalize xs[i]=b at *
   unfold depF at e2 ⊢
   split at e2
   ·rename_i c1
    rw[if_pos c1]
    obtain ⟨z1,z2⟩:=hf.2.2 c1
    split at e2
    ·rename_i c2
     rw[if_pos c2]
     exact ⟨e1,fine_mk (by simp only;omega) hf.2.1 (fun _=>⟨z1,z2⟩),⟨o1,⟨by simp only;omega,by simp only;omega⟩,o3,o4,o5⟩,.inl c1⟩
    ·simp at e2
   ·simp at e2
 cases h3:(q.op==3)<;>rw[h3] at ha<;>simp only[cond_true,cond_false] at ha
 case true=>
  rcases bookDo_mem g ha with h | ⟨i,hi,e1,e2,e3,rfl⟩
  ·exact .inl h
  ·right
   have hf:=fine_parts (b2 _ (List.getElem_mem hi))
   have ok:=hok _ (List.getElem_mem hi)
   obtain ⟨o1,o2,o3,o4,o5⟩:=ok
   generalize xs[i]=b at *
   unfold witF at e2 ⊢
   split at e2
   ·rename_i c1
    rw[if_pos c1]
    obtain ⟨z1,z2⟩:=hf.2.2 c1
    split at e2
    ·rename_i c2
     rw[if_pos c2]
     exact ⟨e1,fine_mk (by simp only;omega) hf.2.1 (fun _=>⟨z1,z2⟩),⟨o1,⟨by simp only;omega,by simp only;omega⟩,o3,o4,o5⟩,.inl c1⟩
    ·simp at e2
   ·simp at e2
 cases h4:(q.op==4)<;>rw[h4] at ha<;>simp only[cond_true,cond_false] at ha
 case true=>
  rcases bookTx_mem g ha with h | ⟨t1,i,hi,e1,e2,e3,rfl⟩
  ·exact .inl h
  ·right
   have hf:=fine_parts (b2 _ (List.getElem_mem hi))
   have ok:=hok _ (List.getElem_mem hi)
   obtain ⟨o1,o2,o3,o4,o5⟩:=ok
   generalize xs[i]=b at *
   unfold lockDF at e2 ⊢
   split at e2
   ·rename_i c1
    rw[if_pos c1]
    obtain ⟨z1,z2⟩:=hf.2.2 c1
    split at e2
    ·rename_i c2
     rw[if_pos c2]
     refine ⟨e1,fine_mk (by simp only;omega) (by simp only;omega) (fun hz=>by simp only at hz;omega),⟨o1,⟨by simp only;omega,by simp only;omega⟩,ham,o4,htx⟩,.inr ⟨.inl (by simpa using h4),rfl,t1⟩⟩
    ·simp at e2
   ·simp at e2
 cases h5:(q.op==5)<;>rw[h5] at ha<;>simp only[cond_true,cond_false] at ha
 case true=>
  rcases bookTx_mem g ha with h | ⟨t1,i,hi,e1,e2,e3,rfl⟩
  ·exact .inl h
  ·right
   have hf:=fine_parts (b2 _ (List.getElem_mem hi))
   have ok:=hok _ (List.getElem_mem hi)
   obtain ⟨o1,o2,o3,o4,o5⟩:=ok
   generalize xs[i]=b at *
   unfold lockCF at e2 ⊢
   split at e2
   ·rename_i c1
    rw[if_pos c1]
    obtain ⟨z1,z2⟩:=hf.2.2 c1
    split at e2
    ·rename_i c2
     rw[if_pos c2]
     refine ⟨e1,fine_mk (by simp only;omega) (by simp only;omega) (fun hz=>by simp only at hz;omega),⟨o1,o2,o3,ham,htx⟩,.inr ⟨.inr (by simpa using h5),rfl,t1⟩⟩
    ·simp at e2
   ·simp at e2
 cases h6:(q.op==6)<;>rw[h6] at ha<;>simp only[cond_true,cond_false] at ha
 case true=>
  rcases bookTx_mem g ha with h | ⟨t1,i,hi,e1,e2,e3,rfl⟩
  ·exact .inl h
  ·right
   have hf:=fine_parts (b2 _ (List.getElem_mem hi))
   have ok:=hok _ (List.getElem_mem hi)
   obtain ⟨o1,o2,o3,o4,o5⟩:=ok
   generalize xs[i]=b at *
   unfold settleF at e2 ⊢
   split at e2
   ·rename_i c1
    rw[if_pos c1]
    exact ⟨rfl,fine_mk (by simp only;omega) (by simp only;omega) (fun _=>⟨rfl,rfl⟩),⟨hid,⟨by simp only;omega,by simp only;omega⟩,by simp,by simp,by simp⟩,.inl rfl⟩
   ·simp at e2
 cases h7:(q.op==7)<;>rw[h7] at ha<;>simp only[cond_true,cond_false] at ha
 case true=>
  rcases bookTx_mem g ha with h | ⟨t1,i,hi,e1,e2,e3,rfl⟩
  ·exact .inl h
  ·right
   have hf:=fine_parts (b2 _ (List.getElem_mem hi))
   have ok:=hok _ (List.getElem_mem hi)
   obtain ⟨o1,o2,o3,o4,o5⟩:=ok
   generalize xs[i]=b at *
   unfold releaseF at e2 ⊢
   split at e2
   ·rename_i c1
    rw[if_pos c1]
    exact ⟨rfl,fine_mk (by simp only;omega) (by simp only;omega) (fun _=>⟨rfl,rfl⟩),⟨hid,⟨by simp only;omega,by simp only;omega⟩,by simp,by simp,by simp⟩,.inl rfl⟩
   ·simp at e2
 exact .inl ha
theorem openBook_40 (g:bookOk xs=true):(openBook xs id).1.length≤40:=by
 have hl:=book_len g
 rcases acc_found g id with ⟨q1,_⟩ | ⟨i,q1,_⟩
 ·cases h:((xs.length:Int)==40) with
  | true=>rw[open_full g q1 h];exact hl
  | false=>
    rw[open_new g q1 h]
    have h: ¬(xs.length:Int)=40:=by simpa using h
    show (plusAcc xs id).length≤40
    rw[plusAcc_len];omega
 ·rw[open_there g q1];exact hl
theorem doBook_40 (g:bookOk xs=true):(doBook xs q).1.length≤40:=by
 have hl:=book_len g
 unfold doBook
 have h1:=fun f=>do_len (xs:=xs) (id:=q.id) (f:=f)
 have h2:=fun f=>btx_len (xs:=xs) (id:=q.id) (tx:=q.tx) (f:=f)
 cases (q.op==0)<;>simp only[cond_true,cond_false]
 case true=>exact openBook_40 g
 cases (q.op==1)<;>simp only[cond_true,cond_false]
 case true=>have:=h1 closeF;omega
 cases (q.op==2)<;>simp only[cond_true,cond_false]
 case true=>have:=h1 (depF q.amount);omega
 cases (q.op==3)<;>simp only[cond_true,cond_false]
 case true=>have:=h1 (witF q.amount);omega
 cases (q.op==4)<;>simp only[cond_true,cond_false]
 case true=>have:=h2 (lockDF q.amount q.tx);omega
 cases (q.op==5)<;>simp only[cond_true,cond_false]
 case true=>have:=h2 (lockCF q.amount q.tx);omega
 cases (q.op==6)<;>simp only[cond_true,cond_false]
 case true=>have:=h2 (settleF q.id q.tx);omega
 cases (q.op==7)<;>simp only[cond_true,cond_false]
 case true=>have:=h2 (releaseF q.id q.tx);omega
 omega
theorem endDo_free (g:bookOk xs=true) (ht:1≤tx) (hf: ∀b:Account,(b.tx=tx→(f b).1=0∧(f b).2.tx=0)∧(b.tx≠tx→(f b).1≠0)): ∀a,a∈(bookDo xs id f).1→ ¬(a.tx=tx∧a.id=id):=by
 intro a ha ⟨h1,h2⟩
 rcases acc_found g id with ⟨q1,_⟩ | ⟨i,q1,_,_,hi,q5⟩
 ·rw[do_none g q1] at ha
  obtain ⟨j,hj,rfl⟩:=List.mem_iff_getElem.1 ha
  have:0≤accAt xs id:=by
   unfold accAt findI
   cases hx:xs.findIdx? (fun b=>b.id==id) with
   | none=>
     rw[List.findIdx?_eq_none_iff] at hx
     have:=hx _ (List.getElem_mem hj)
     simp[h2] at this
   | some n=>simp
  omega
 ·rw[do_at g q1] at ha
  rw[Account.at_get hi] at ha q5
  have hinj: ∀j (hj:j<xs.length),xs[j].id=id→j=i:=fun j hj e=>book_inj g hj hi (e.trans q5.symm)
  by_cases hb:xs[i].tx=tx
  ·obtain ⟨e1,e2⟩:=(hf xs[i]).1 hb
   rw[e1] at ha
   have e3:((f xs[i]).2.tx== -1)=false:=by rw[e2];rfl
   rw[e3] at ha
   simp only[beq_self_eq_true,cond_true,cond_false] at ha
   obtain ⟨j,hj,rfl⟩:=List.mem_iff_getElem.1 ha
   rw[List.length_set] at hj
   rw[List.getElem_set] at h1 h2
   split at h1
   ·omega
   ·rename_i hne
    rw[if_neg hne] at h2
    exact hne (hinj j hj h2).symm
  ·have e1:=(hf xs[i]).2 hb
   have e2:((f xs[i]).1==0)=false:=by simpa using e1
   rw[e2] at ha
   obtain ⟨j,hj,rfl⟩:=List.mem_iff_getElem.1 ha
   have:=hinj j hj h2
   subst this
   exact hb h1
theorem doBook_free (g:bookOk xs=true) (ho:q.ends=true) (ht:1≤q.tx): ∀a,a∈(doBook xs q).1→ ¬(a.tx=q.tx∧a.id=q.id):=by
 have hS: ∀b:Account,(b.tx=q.tx→(settleF q.id q.tx b).1=0∧(settleF q.id q.tx b).2.tx=0)∧(b.tx≠q.tx→(settleF q.id q.tx b).1≠0):=fun b=>by
  unfold settleF
  refine ⟨fun h=> ?_,fun h=> ?_⟩
  ·rw[if_pos h];exact ⟨rfl,rfl⟩
  ·rw[if_neg h];simp
 have hR: ∀b:Account,(b.tx=q.tx→(releaseF q.id q.tx b).1=0∧(releaseF q.id q.tx b).2.tx=0)∧(b.tx≠q.tx→(releaseF q.id q.tx b).1≠0):=fun b=>by
  unfold releaseF
  refine ⟨fun h=> ?_,fun h=> ?_⟩
  ·rw[if_pos h];exact ⟨rfl,rfl⟩
  ·rw[if_neg h];simp
 simp only[Request.ends,Bool.or_eq_true,beq_iff_eq] at ho
 rcases ho with ho | ho
 ·have:doBook xs q=bookDo xs q.id (settleF q.id q.tx):=by
   rw[←btx_do (tx:=q.tx) (by omega)]
   simp[doBook,ho]
  rw[this]
  exact endDo_free g ht hS
 ·have:doBook xs q=bookDo xs q.id (releaseF q.id q.tx):=by
   rw[←btx_do (tx:=q.tx) (by omega)]
   simp[doBook,ho]
  rw[this]
  exact endDo_free g ht hR
end
structure Doable (x:Shard) (q:Request):Prop where
 op:0≤q.op∧q.op≤8
 ep:x.epoch=q.epoch
 st:x.state=1→q.op=8
 tx:4≤q.op→q.op≤7→1≤q.tx
 late:q.op=4∨q.op=5→q.fin∉x.finished
 full:q.ends=true→q.fin∉x.finished→x.finished.length≠60
theorem refuse_none {x:Shard} {q:Request} (ho:inR q.op 0 8=true) (h:refuse x q=0):Doable x q:=by
 simp only[inR,Bool.and_eq_true,decide_eq_true_eq] at ho
 unfold refuse at h
 cases h1:(x.epoch==q.epoch)<;>rw[h1] at h<;>simp only[Bool.not_true,Bool.not_false,cond_true,cond_false] at h
 case false=>cases h
 cases h2:((x.state==1)&& !(q.op==8))<;>rw[h2] at h<;>simp only[cond_true,cond_false] at h
 case true=>cases h
 cases h3:(inR q.op 4 7&&decide (q.tx<1))<;>rw[h3] at h<;>simp only[cond_true,cond_false] at h
 case true=>cases h
 cases h4:(((q.op==4)||(q.op==5))&&decide (q.fin∈x.finished))<;>rw[h4] at h<;>simp only[cond_true,cond_false] at h
 case true=>cases h
 cases h5:((q.ends&& !decide (q.fin∈x.finished))&&((x.finished.length:Int)==60))<;>rw[h5] at h<;>simp only[cond_true,cond_false] at h
 case true=>cases h
 simp only[inR,Bool.and_eq_false_iff,Bool.or_eq_false_iff,decide_eq_false_iff_not,beq_eq_false_iff_ne,ne_eq,Bool.not_eq_false',beq_iff_eq,Bool.not_eq_eq_eq_not,Bool.not_true,Bool.not_false] at h1 h2 h3 h4 h5
 refine ⟨ho,h1,fun hs=> ?_,fun a b=> ?_,fun hl=> ?_,fun he hn=> ?_⟩
 ·rcases h2 with h2 | h2
  ·exact absurd hs h2
  ·exact h2
 ·omega
 ·rcases h4 with h4 | h4
  ·omega
  ·exact h4
 ·rcases h5 with (h5 | h5) | h5
  ·rw[he] at h5;cases h5
  ·simp only[decide_eq_true_eq] at h5;exact absurd h5 hn
  ·omega
theorem doShard_good {x:Shard} {q:Request} (g:x.Good) (okx: ∀t,t∈x.book.list→t.Ok) (okq:q.Ok) (hid:x.lo≤q.id∧q.id≤x.hi) (d:Doable x q):(doShard x q).Good:=by
 have hbk:=(bookOk_iff _).2 ⟨g.srt,g.fine,g.bl⟩
 have hmem:=fun a (ha:a∈(doBook x.book.list q).1)=>doBook_mem hbk okx okq ha
 have nd:q.fin∉x.finished→(x.finished++[q.fin]).Nodup:=fun hn=>List.nodup_append.2 ⟨flt_nodup g.fs,by simp,fun a ha b hb e=>by
  simp only[List.mem_singleton] at hb;subst hb;subst e;exact hn ha⟩
 have hfin: ∀t,t∈(doShard x q).finished→t∈x.finished∨(t=q.fin∧q.ends=true∧q.fin∉x.finished):=by
  intro t ht
  show t∈x.finished∨_
  have ht:t∈(bif q.ends&& !decide (q.fin∈x.finished) then sortFins (x.finished++[q.fin]) else x.finished):=ht
  cases hc:(q.ends&& !decide (q.fin∈x.finished)) with
  | false=>rw[hc] at ht;exact .inl ht
  | true=>
    rw[hc] at ht
    simp only[cond_true,(sortFins_perm _).mem_iff,List.mem_append,List.mem_singleton] at ht
    simp only[Bool.and_eq_true,Bool.not_eq_true',decide_eq_false_iff_not] at hc
    rcases ht with ht | ht
    ·exact .inl ht
    ·exact .inr ⟨ht,hc.1,hc.2⟩
 have hends:q.ends=true→1≤q.tx:=fun he=>by
  simp only[Request.ends,Bool.or_eq_true,beq_iff_eq] at he
  exact d.tx (by omega) (by omega)
 exact {
  lh:=g.lh
  st:=g.st
  ep:=g.ep
  srt:=doBook_srt hbk q
  fine:=fun a ha=>by
   rcases hmem a ha with h | h
   ·exact g.fine a h
   ·exact h.2.1
  bl:=doBook_40 hbk
  fl:=by
   show (bif q.ends&& !decide (q.fin∈x.finished) then sortFins (x.finished++[q.fin]) else x.finished).length≤60
   cases hc:(q.ends&& !decide (q.fin∈x.finished)) with
   | false=>exact g.fl
   | true=>
     simp only[Bool.and_eq_true,Bool.not_eq_true',decide_eq_false_iff_not] at hc
     have:=d.full hc.1 hc.2
     have:=g.fl
     simp only[cond_true]
     rw[sortFins_len,List.length_append]
     simp only[List.length_cons,List.length_nil]
     omega
  acc:=fun a ha=>by
   have hlohi:x.lo≤a.id∧a.id≤x.hi:=by
    rcases hmem a ha with h | h
    ·exact ⟨(g.acc a h).1,(g.acc a h).2.1⟩
    ·rw[h.1];exact hid
   refine ⟨hlohi.1,hlohi.2,fun hf=> ?_⟩
   rcases hfin _ hf with hf | ⟨hf,he,hn⟩
   ·rcases hmem a ha with h | ⟨h1,_,_,h3⟩
    ·exact (g.acc a h).2.2 hf
    ·rcases h3 with h3 | ⟨h3,h4,h5⟩
     ·have:=(g.fin _ hf).1
      simp only at this
      omega
     ·refine d.late h3 ?_
      have:(⟨a.tx,a.id⟩:Fin)=q.fin:=by simp[Request.fin,h1,h4]
      rwa [this] at hf
   ·simp only[Request.fin,Fin.mk.injEq] at hf
    exact doBook_free hbk he (hends he) a ha hf
  fs:=by
   show (bif q.ends&& !decide (q.fin∈x.finished) then sortFins (x.finished++[q.fin]) else x.finished).Pairwise flt
   cases hc:(q.ends&& !decide (q.fin∈x.finished)) with
   | false=>exact g.fs
   | true=>
     simp only[Bool.and_eq_true,Bool.not_eq_true',decide_eq_false_iff_not] at hc
     exact sortFins_sorted (nd hc.2)
  fin:=fun t ht=>by
   rcases hfin t ht with h | ⟨rfl,he,_⟩
   ·exact g.fin t h
   ·exact ⟨hends he,hid.1,hid.2⟩}
theorem doStore_when {s:Store} {q:Request} (g:s.Good):((doStore s q).1=s∧8≤(doStore s q).2.1∧(doStore s q).2.2=0)∨
 ∃i:Nat,∃hi:i<s.shards.length,findId s.shards q.id=(i:Int)∧(s.shards[i].lo≤q.id∧q.id≤s.shards[i].hi)∧Doable s.shards[i] q∧
  doStore s q=({s with shards:=s.shards.set i (doShard s.shards[i] q)},(doBook s.shards[i].book.list q).2,doVal (doBook s.shards[i].book.list q) q.id):=by
 cases hb:(s.good&&inR q.op 0 8) with
 | false=>left;rw[dost_bad hb];exact ⟨rfl,by simp,rfl⟩
 | true=>
   by_cases h0:0≤findId s.shards q.id
   ·obtain ⟨i,e1,hi,hp⟩:=findI_at h0
    have e2:findId s.shards q.id=(i:Int):=e1
    simp only[Bool.and_eq_true,decide_eq_true_eq] at hp
    rw[dost_at hb e2,Shard.at_get hi]
    have hb':=hb
    simp only[Bool.and_eq_true] at hb'
    cases hr:(refuse s.shards[i] q==0) with
    | true=>exact .inr ⟨i,hi,e2,hp,refuse_none hb'.2 (by simpa using hr),rfl⟩
    | false=>
      left
      refine ⟨rfl,?_,rfl⟩
      have hr:refuse s.shards[i] q≠0:=by simpa using hr
      simp only[cond_false]
      revert hr
      unfold refuse
      cases (!(s.shards[i].epoch==q.epoch))<;>simp only[cond_true,cond_false]
      case true=>omega
      cases ((s.shards[i].state==1)&& !(q.op==8))<;>simp only[cond_true,cond_false]
      case true=>omega
      cases (inR q.op 4 7&&decide (q.tx<1))<;>simp only[cond_true,cond_false]
      case true=>omega
      cases (((q.op==4)||(q.op==5))&&decide (q.fin∈s.shards[i].finished))<;>simp only[cond_true,cond_false]
      case true=>omega
      cases ((q.ends&& !decide (q.fin∈s.shards[i].finished))&&((s.shards[i].finished.length:Int)==60))<;>simp only[cond_true,cond_false]
      case true=>omega
      omega
   ·left
    have h1:findId s.shards q.id= -1:=by
     unfold findId findI at h0 ⊢
     split<;>rename_i h2
     ·rw[h2] at h0;exact absurd (by simp) h0
     ·rfl
    rw[dost_away hb h1]
    exact ⟨rfl,by simp,rfl⟩
theorem doStore_good {s:Store} {q:Request} (g:s.Good) (ok:s.Ok) (okq:q.Ok):(doStore s q).1.Good:=by
 rcases doStore_when (q:=q) g with ⟨h,_⟩ | ⟨i,hi,_,hp,d,h⟩
 ·rw[h];exact g
 ·rw[h]
  have gx:=g.sh _ (List.getElem_mem hi)
  have okX:=ok.shards _ (List.getElem_mem hi)
  have gd:=doShard_good gx.1 okX.book.list okq hp d
  exact {
   gr:=g.gr
   sn:=g.sn
   len:=by show (s.shards.set i _).length≤8;rw[List.length_set];exact g.len
   sh:=fun x hx=>by
    rcases List.mem_or_eq_of_mem_set hx with hx | rfl
    ·exact g.sh x hx
    ·exact ⟨gd,gx.2⟩
   ord:=set_pairwise g.ord hi (fun z hz=>hz) (fun z hz=>hz)}
end Go.Proofs.YthofpopafchelaaGreat.A
namespace Go.Proofs.YthofpopafchelaaGreat.A
open Go
set_option linter.unusedSimpArgs false
set_option linter.unusedVariables false
structure SGood (s:Store):Prop where
 good:s.Good
 ok:s.Ok
theorem SGood.small {s:Store} (w:SGood s):s.Small:=by
 refine ⟨by have:=w.good.len;omega,fun a ha=> ?_⟩
 have g:=(w.good.sh a ha).1
 exact ⟨by have:=g.bl;show a.book.list.length≤_;omega,by have:=g.fl;omega⟩
theorem Shard.renew_ok {x:Shard} (ok:x.Ok) {e:Int} (he:0≤e∧e≤1000000):(Shard.renew e x).Ok:=by
 unfold Shard.renew
 cases x.state==0
 ·exact ok
 ·exact ⟨ok.lo,ok.hi,ok.state,⟨by show _≤e;omega,by show e≤_;omega⟩,ok.book,ok.finished⟩
theorem Store.renew_ok {s:Store} {e:Int} (hg: -9223372036854775808≤s.group∧s.group≤9223372036854775807) (he:0≤e∧e≤1000000) (hx: ∀x,x∈s.shards→x.Ok):(s.renew e).Ok where
 group:=hg
 seen:=⟨by show _≤e;omega,by show e≤_;omega⟩
 shards:=fun x hxm=>by
  obtain ⟨y,hy,rfl⟩:=List.mem_map.1 hxm
  exact Shard.renew_ok (hx y hy) he
theorem SGood.renew {s:Store} (w:SGood s) (e:Int):SGood (renewStore s e).1:=by
 refine ⟨renewStore_good w.good,?_⟩
 unfold renewStore
 cases hn:s.next e with
 | false=>exact w.ok
 | true=>
   have h:=(Store.next_iff s e).1 hn
   have:=w.good.one h.2.1
   exact Store.renew_ok w.ok.group ⟨by omega,h.2.2⟩ w.ok.shards
theorem SGood.freeze {s:Store} (w:SGood s) (lo e:Int):SGood (freezeShard s lo e).1:=by
 refine ⟨freezeShard_good w.good,?_⟩
 unfold freezeShard
 cases hn:s.next e with
 | false=>exact w.ok
 | true=>
   by_cases h0:0≤findAt s.shards lo 0
   ·have h:=(Store.next_iff s e).1 hn
    have he:=w.good.one h.2.1
    obtain ⟨i,e1,hi,_⟩:=findI_at h0
    have e2:findAt s.shards lo 0=(i:Int):=e1
    rw[decide_eq_true h0,e2]
    simp only[Bool.and_self,cond_true,Int.toNat_natCast]
    refine Store.renew_ok (s:=s.frozen i e) w.ok.group ⟨by omega,h.2.2⟩ fun x hx=> ?_
    rcases mem_set hx with hx | rfl
    ·exact w.ok.shards x hx
    ·have:=w.ok.shards _ (List.getElem_mem hi)
     rw[Shard.at_get hi]
     exact ⟨this.lo,this.hi,by simp,⟨by simp only;omega,by simp only;omega⟩,this.book,this.finished⟩
   ·rw[decide_eq_false h0];exact w.ok
theorem Shard.within_ok {x:Shard} (ok:x.Ok) {lo hi e:Int} (hl:0≤lo∧lo≤18446744073709551615) (hh:0≤hi∧hi≤18446744073709551615) (he: -9223372036854775808≤e∧e≤9223372036854775807):(x.within lo hi e).Ok:=
 ⟨hl,hh,ok.state,he,⟨fun a ha=>ok.book.list a (List.mem_filter.1 ha).1⟩,fun f hf=>ok.finished f (List.mem_filter.1 hf).1⟩
theorem SGood.cut {s:Store} (w:SGood s) {a:Int} (ha:0≤a∧a≤18446744073709551615) (e:Int):SGood (cutShard s a e).1:=by
 refine ⟨cutShard_good w.good,?_⟩
 cases h:(cutShard s a e).2 with
 | false=>rw[cut_same h];exact w.ok
 | true=>
   obtain ⟨hn,k,hk,e2,h1,h2,h3,h4,h5,hc⟩:=cut_when h
   rw[hc]
   have hx:=(Store.next_iff s e).1 hn
   have he:=w.good.one hx.2.1
   have ox:=w.ok.shards _ (List.getElem_mem hk)
   have o1:=ox.lo
   refine Store.renew_ok (s:=s.cutAt k a e) w.ok.group ⟨by omega,hx.2.2⟩ fun x hxm=> ?_
   simp only[Store.cutAt,List.mem_append,List.mem_cons,List.not_mem_nil,or_false] at hxm
   rcases hxm with (hxm | hxm | hxm) | hxm
   ·exact w.ok.shards x (List.mem_of_mem_take hxm)
   ·rw[hxm,Shard.at_get hk]
    exact Shard.within_ok ox ox.lo ⟨by omega,by omega⟩ ⟨by omega,by omega⟩
   ·rw[hxm,Shard.at_get hk]
    exact Shard.within_ok ox ha ox.hi ⟨by omega,by omega⟩
   ·exact w.ok.shards x (List.mem_of_mem_drop hxm)
theorem SGood.join {s:Store} (w:SGood s) (a e:Int):SGood (joinShard s a e).1:=by
 refine ⟨joinShard_good w.good,?_⟩
 cases h:(joinShard s a e).2 with
 | false=>rw[join_same h];exact w.ok
 | true=>
   obtain ⟨hn,j,hj,e2,h1,h2,h3,h4,h5,hc⟩:=join_when h
   rw[hc]
   have hx:=(Store.next_iff s e).1 hn
   have he:=w.good.one hx.2.1
   have hj':j<s.shards.length:=by omega
   have op:=w.ok.shards _ (List.getElem_mem hj')
   have oq:=w.ok.shards _ (List.getElem_mem hj)
   refine Store.renew_ok (s:=s.joinWith j (Shard.join s.shards[j] s.shards[j+1])) w.ok.group ⟨by omega,hx.2.2⟩ fun x hxm=> ?_
   have hxm:x∈(s.shards.set j (Shard.join s.shards[j] s.shards[j+1])).eraseIdx (j+1):=hxm
   have hxm:=(List.eraseIdx_sublist _ _).subset hxm
   rcases mem_set hxm with hxm | rfl
   ·exact w.ok.shards x hxm
   ·exact ⟨op.lo,oq.hi,op.state,op.epoch,⟨fun a ha=>by
     rcases List.mem_append.1 ha with ha | ha
     ·exact op.book.list a ha
     ·exact oq.book.list a ha⟩,fun f hf=>by
     have hf:f∈sortFins (s.shards[j].finished++s.shards[j+1].finished):=hf
     rw[(sortFins_perm _).mem_iff,List.mem_append] at hf
     rcases hf with hf | hf
     ·exact op.finished f hf
     ·exact oq.finished f hf⟩
theorem SGood.done {s:Store} (w:SGood s) {q:Request} (okq:q.Ok):SGood (doStore s q).1:=by
 refine ⟨doStore_good w.good w.ok okq,?_⟩
 rcases doStore_when (q:=q) w.good with ⟨h,_⟩ | ⟨i,hi,_,hp,d,h⟩
 ·rw[h];exact w.ok
 ·rw[h]
  have gx:=(w.good.sh _ (List.getElem_mem hi)).1
  have ox:=w.ok.shards _ (List.getElem_mem hi)
  refine ⟨w.ok.group,w.ok.seen,fun x hx=> ?_⟩
  rcases mem_set hx with hx | rfl
  ·exact w.ok.shards x hx
  ·refine ⟨ox.lo,ox.hi,ox.state,ox.epoch,⟨fun a ha=> ?_⟩,fun f hf=> ?_⟩
   ·rcases doBook_mem ((bookOk_iff _).2 ⟨gx.srt,gx.fine,gx.bl⟩) ox.book.list okq ha with h1 | h1
    ·exact ox.book.list a h1
    ·exact h1.2.2.1
   ·have hf:f∈(bif q.ends&& !decide (q.fin∈s.shards[i].finished) then sortFins (s.shards[i].finished++[q.fin]) else s.shards[i].finished):=hf
    cases hc:(q.ends&& !decide (q.fin∈s.shards[i].finished)) with
    | false=>rw[hc] at hf;exact ox.finished f hf
    | true=>
      rw[hc] at hf
      simp only[cond_true,(sortFins_perm _).mem_iff,List.mem_append,List.mem_singleton] at hf
      rcases hf with hf | rfl
      ·exact ox.finished f hf
      ·exact ⟨okq.tx,okq.id⟩
theorem seen_renew (s:Store) (e:Int):(renewStore s e).1.seen=s.seen∨(renewStore s e).1.seen=e:=by
 unfold renewStore
 cases s.next e
 ·exact .inl rfl
 ·exact .inr rfl
theorem seen_freeze (s:Store) (lo e:Int):(freezeShard s lo e).1.seen=s.seen∨(freezeShard s lo e).1.seen=e:=by
 unfold freezeShard
 cases (s.next e&&decide (0≤findAt s.shards lo 0))
 ·exact .inl rfl
 ·exact .inr rfl
theorem seen_cut (s:Store) (a e:Int):(cutShard s a e).1.seen=s.seen∨(cutShard s a e).1.seen=e:=by
 cases h:(cutShard s a e).2 with
 | false=>rw[cut_same h];exact .inl rfl
 | true=>
   obtain ⟨_,_,_,_,_,_,_,_,_,hc⟩:=cut_when h
   rw[hc];exact .inr rfl
theorem seen_join (s:Store) (a e:Int):(joinShard s a e).1.seen=s.seen∨(joinShard s a e).1.seen=e:=by
 cases h:(joinShard s a e).2 with
 | false=>rw[join_same h];exact .inl rfl
 | true=>
   obtain ⟨_,_,_,_,_,_,_,_,_,hc⟩:=join_when h
   rw[hc];exact .inr rfl
theorem seen_do {s:Store} (g:s.Good) (q:Request):(doStore s q).1.seen=s.seen:=by
 rcases doStore_when (q:=q) g with ⟨h,_⟩ | ⟨i,hi,_,hp,d,h⟩<;>rw[h]
theorem len_do {s:Store} (g:s.Good) (q:Request):(doStore s q).1.shards.length=s.shards.length:=by
 rcases doStore_when (q:=q) g with ⟨h,_⟩ | ⟨i,hi,_,hp,d,h⟩<;>rw[h]
 exact List.length_set
theorem len_renew (s:Store) (e:Int):(renewStore s e).1.shards.length=s.shards.length:=by
 unfold renewStore
 cases s.next e
 ·rfl
 ·exact List.length_map _
theorem len_freeze (s:Store) (lo e:Int):(freezeShard s lo e).1.shards.length=s.shards.length:=by
 unfold freezeShard
 cases (s.next e&&decide (0≤findAt s.shards lo 0))
 ·rfl
 ·show ((s.shards.set _ _).map _).length=_
  rw[List.length_map,List.length_set]
theorem len_cut (s:Store) (a e:Int):s.shards.length≤(cutShard s a e).1.shards.length:=by
 cases h:(cutShard s a e).2 with
 | false=>rw[cut_same h];exact Nat.le_refl _
 | true=>
   obtain ⟨_,k,hk,_,_,_,_,_,_,hc⟩:=cut_when h
   rw[hc]
   show s.shards.length≤((s.cutAt k a e).shards.map _).length
   rw[List.length_map]
   simp only[Store.cutAt,List.length_append,List.length_take,List.length_drop,List.length_cons,List.length_nil]
   omega
theorem len_join (s:Store) (a e:Int) (h0:0<s.shards.length):0<(joinShard s a e).1.shards.length:=by
 cases h:(joinShard s a e).2 with
 | false=>rw[join_same h];exact h0
 | true=>
   obtain ⟨_,j,hj,_,_,_,_,_,_,hc⟩:=join_when h
   rw[hc]
   show 0<((s.joinWith j _).shards.map _).length
   rw[List.length_map,joinWith_shards hj]
   simp only[List.length_append,List.length_cons]
   omega
end Go.Proofs.YthofpopafchelaaGreat.A
namespace Go.Proofs.YthofpopafchelaaGreat.A
open Go
set_option linter.unusedSimpArgs false
set_option linter.unusedVariables false
def Shard.All (P:Account→Prop) (Q:Fin→Prop) (x:Shard):Prop:=(∀a,a∈x.book.list→P a)∧ ∀f,f∈x.finished→Q f
def Store.All (P:Account→Prop) (Q:Fin→Prop) (s:Store):Prop:= ∀x,x∈s.shards→x.All P Q
section
variable {P:Account→Prop} {Q:Fin→Prop} {s:Store}
theorem Store.All.renew' (w:s.All P Q) (e:Int):(s.renew e).All P Q:=fun x hx=>by
 obtain ⟨y,hy,rfl⟩:=List.mem_map.1 (show x∈s.shards.map (Shard.renew e) from hx)
 unfold Shard.All
 rw[Shard.renew_book,Shard.renew_fin]
 exact w y hy
theorem Store.All.renew (w:s.All P Q) (e:Int):(renewStore s e).1.All P Q:=by
 unfold renewStore
 cases s.next e with
 | false=>exact w
 | true=>exact w.renew' e
theorem Store.All.freeze (w:s.All P Q) (lo e:Int):(freezeShard s lo e).1.All P Q:=by
 unfold freezeShard
 cases hn:s.next e with
 | false=>exact w
 | true=>
   by_cases h0:0≤findAt s.shards lo 0
   ·obtain ⟨i,e1,hi,_⟩:=findI_at h0
    have e2:findAt s.shards lo 0=(i:Int):=e1
    rw[decide_eq_true h0,e2]
    simp only[Bool.and_self,cond_true,Int.toNat_natCast]
    refine Store.All.renew' (s:=s.frozen i e) (fun x hx=> ?_) e
    rcases mem_set hx with hx | rfl
    ·exact w x hx
    ·rw[Shard.at_get hi]
     have:=w _ (List.getElem_mem hi)
     exact ⟨this.1,this.2⟩
   ·rw[decide_eq_false h0];exact w
theorem Shard.All.within {x:Shard} (w:x.All P Q) (lo hi e:Int):(x.within lo hi e).All P Q:=
 ⟨fun a ha=>w.1 a (List.mem_filter.1 ha).1,fun f hf=>w.2 f (List.mem_filter.1 hf).1⟩
theorem Store.All.cut (w:s.All P Q) (a e:Int):(cutShard s a e).1.All P Q:=by
 cases h:(cutShard s a e).2 with
 | false=>rw[cut_same h];exact w
 | true=>
   obtain ⟨hn,k,hk,e2,h1,h2,h3,h4,h5,hc⟩:=cut_when h
   rw[hc]
   have ox:=w _ (List.getElem_mem hk)
   refine Store.All.renew' (s:=s.cutAt k a e) (fun x hxm=> ?_) e
   simp only[Store.cutAt,List.mem_append,List.mem_cons,List.not_mem_nil,or_false] at hxm
   rcases hxm with (hxm | hxm | hxm) | hxm
   ·exact w x (List.mem_of_mem_take hxm)
   ·rw[hxm,Shard.at_get hk];exact ox.within _ _ _
   ·rw[hxm,Shard.at_get hk];exact ox.within _ _ _
   ·exact w x (List.mem_of_mem_drop hxm)
theorem Store.All.join (w:s.All P Q) (a e:Int):(joinShard s a e).1.All P Q:=by
 cases h:(joinShard s a e).2 with
 | false=>rw[join_same h];exact w
 | true=>
   obtain ⟨hn,j,hj,e2,h1,h2,h3,h4,h5,hc⟩:=join_when h
   rw[hc]
   have hj':j<s.shards.length:=by omega
   have op:=w _ (List.getElem_mem hj')
   have oq:=w _ (List.getElem_mem hj)
   refine Store.All.renew' (s:=s.joinWith j (Shard.join s.shards[j] s.shards[j+1])) (fun x hxm=> ?_) e
   have hxm:x∈(s.shards.set j (Shard.join s.shards[j] s.shards[j+1])).eraseIdx (j+1):=hxm
   have hxm:=(List.eraseIdx_sublist _ _).subset hxm
   rcases mem_set hxm with hxm | rfl
   ·exact w x hxm
   ·exact ⟨fun a ha=>by
     rcases List.mem_append.1 ha with ha | ha
     ·exact op.1 a ha
     ·exact oq.1 a ha,fun f hf=>by
     have hf:f∈sortFins (s.shards[j].finished++s.shards[j+1].finished):=hf
     rw[(sortFins_perm _).mem_iff,List.mem_append] at hf
     rcases hf with hf | hf
     ·exact op.2 f hf
     ·exact oq.2 f hf⟩
theorem Store.All.done (w:s.All P Q) (g:SGood s) {q:Request} (okq:q.Ok) (hP: ∀a:Account,a.tx=0∨a.tx=q.tx→P a) (hQ:q.ends=true→Q q.fin):(doStore s q).1.All P Q:=by
 rcases doStore_when (q:=q) g.good with ⟨h,_⟩ | ⟨i,hi,_,hp,d,h⟩
 ·rw[h];exact w
 ·rw[h]
  have gx:=(g.good.sh _ (List.getElem_mem hi)).1
  have ox:=g.ok.shards _ (List.getElem_mem hi)
  have wx:=w _ (List.getElem_mem hi)
  intro x hx
  rcases mem_set hx with hx | rfl
  ·exact w x hx
  ·refine ⟨fun a ha=> ?_,fun f hf=> ?_⟩
   ·rcases doBook_mem ((bookOk_iff _).2 ⟨gx.srt,gx.fine,gx.bl⟩) ox.book.list okq ha with h1 | h1
    ·exact wx.1 a h1
    ·exact hP a (by rcases h1.2.2.2 with h2 | h2<;>simp[h2])
   ·have hf:f∈(bif q.ends&& !decide (q.fin∈s.shards[i].finished) then sortFins (s.shards[i].finished++[q.fin]) else s.shards[i].finished):=hf
    cases hc:(q.ends&& !decide (q.fin∈s.shards[i].finished)) with
    | false=>rw[hc] at hf;exact wx.2 f hf
    | true=>
      rw[hc] at hf
      simp only[Bool.and_eq_true] at hc
      simp only[cond_true,(sortFins_perm _).mem_iff,List.mem_append,List.mem_singleton] at hf
      rcases hf with hf | rfl
      ·exact wx.2 f hf
      ·exact hQ hc.1
end
abbrev Store.Low (n:Int) (s:Store):Prop:=s.All (fun a=>a.tx<900) fun f=>f.tx<n
end Go.Proofs.YthofpopafchelaaGreat.A
