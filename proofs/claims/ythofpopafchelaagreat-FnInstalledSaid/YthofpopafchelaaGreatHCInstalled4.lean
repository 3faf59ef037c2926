/- The functions that the statement reaches, part 4: bodies and what they compute. No condition. -/
import Derived.Test.YthofpopafchelaaGreatHCInstalled3
import Derived.Test.YthofpopafchelaaGreatA1
import Derived.Test.YthofpopafchelaaGreatD
namespace Go.Proofs.YthofpopafchelaaGreat.A
open Go
set_option linter.unusedSimpArgs false
set_option linter.unusedVariables false
def Shard.bare (lo hi e:Int):Shard:=⟨lo,hi,0,e,⟨[]⟩,[]⟩
def Shard.bareRow (lo hi e:Int):List Cell:=[.int .u64 lo,.int .u64 hi,.int .i64 0,.int .i64 e,.nil,.nil]
theorem Shard.bare_ri (h:Heap) (lo hi e:Int):Shard.RI h (Shard.bareRow lo hi e) (Shard.bare lo hi e) []:=
 ⟨.nil,[],.nil,[],rfl,rfl,⟨by simp[Shard.bare],.inl ⟨rfl,rfl,rfl⟩⟩,⟨by simp[Shard.bare],.inl ⟨rfl,rfl,rfl⟩⟩⟩
theorem Shard.bare_good {lo hi e:Int} (h1:lo≤hi) (h2:1≤e∧e≤1000000):(Shard.bare lo hi e).Good where
 lh:=h1
 st:= .inl rfl
 ep:=h2
 srt:=by simp[Shard.bare,Srt]
 fine:=fun a ha=>nomatch ha
 bl:=by simp[Shard.bare]
 fl:=by simp[Shard.bare]
 acc:=fun a ha=>nomatch ha
 fs:= .nil
 fin:=fun a ha=>nomatch ha
theorem Shard.bare_ok {lo hi e:Int} (h1:0≤lo∧lo≤18446744073709551615) (h2:0≤hi∧hi≤18446744073709551615) (h3:1≤e∧e≤1000000):(Shard.bare lo hi e).Ok:=
 ⟨h1,h2,⟨by simp[Shard.bare],by simp[Shard.bare]⟩,⟨by show _≤e;omega,by show e≤_;omega⟩,⟨fun a ha=>nomatch ha⟩,fun a ha=>nomatch ha⟩
def start3 (r e:Int):List Shard:=if r=0 then [Shard.bare 0 9 1,Shard.bare 50 9223372036854775808 e] else if r=1 then [Shard.bare 2 18446744073709551615 1] else [Shard.bare 0 18446744073709551615 e]
theorem start3_good {r e:Int} (he:1≤e∧e≤3):SGood ⟨1,e,start3 r e⟩∧0<(start3 r e).length:=by
 have b1:(Shard.bare 0 9 1).Good:=Shard.bare_good (by omega) (by omega)
 have b2:(Shard.bare 50 9223372036854775808 e).Good:=Shard.bare_good (by omega) (by omega)
 have b3:(Shard.bare 2 18446744073709551615 1).Good:=Shard.bare_good (by omega) (by omega)
 have b4:(Shard.bare 0 18446744073709551615 e).Good:=Shard.bare_good (by omega) (by omega)
 have k1:(Shard.bare 0 9 1).Ok:=Shard.bare_ok (by omega) (by omega) (by omega)
 have k2:(Shard.bare 50 9223372036854775808 e).Ok:=Shard.bare_ok (by omega) (by omega) (by omega)
 have k3:(Shard.bare 2 18446744073709551615 1).Ok:=Shard.bare_ok (by omega) (by omega) (by omega)
 have k4:(Shard.bare 0 18446744073709551615 e).Ok:=Shard.bare_ok (by omega) (by omega) (by omega)
 have hx: ∀x,x∈start3 r e→(x.Good∧x.epoch≤e)∧x.Ok:=by
  intro x hx
  unfold start3 at hx
  split at hx
  ·simp only[List.mem_cons,List.not_mem_nil,or_false] at hx
   rcases hx with rfl | rfl
   ·exact ⟨⟨b1,he.1⟩,k1⟩
   ·exact ⟨⟨b2,Int.le_refl _⟩,k2⟩
  ·split at hx<;>simp only[List.mem_cons,List.not_mem_nil,or_false] at hx<;>subst hx
   ·exact ⟨⟨b3,he.1⟩,k3⟩
   ·exact ⟨⟨b4,Int.le_refl _⟩,k4⟩
 have hl:(start3 r e).length≤8∧0<(start3 r e).length:=by
  unfold start3;split
  ·simp
  ·split<;>simp
 refine ⟨⟨⟨⟨by simp,by simp⟩,⟨by show 0≤e;omega,by show e≤_;omega⟩,hl.1,fun x h=>(hx x h).1,?_⟩,⟨⟨by simp,by simp⟩,⟨by show _≤e;omega,by show e≤_;omega⟩,fun x h=>(hx x h).2⟩⟩,hl.2⟩
 show (start3 r e).Pairwise _
 unfold start3;split
 ·simp[Shard.bare]
 ·split<;>simp
theorem start3_low (r e:Int):(⟨1,e,start3 r e⟩:Store).Low 900:=by
 intro x hx
 have hb: ∀lo hi e,(Shard.bare lo hi e).All (fun a=>a.tx<900) fun f=>f.tx<900:=fun lo hi e=>⟨fun a ha=>(nomatch ha),fun f hf=>(nomatch hf)⟩
 have hx:x∈start3 r e:=hx
 unfold start3 at hx
 split at hx
 ·simp only[List.mem_cons,List.not_mem_nil,or_false] at hx
  rcases hx with rfl | rfl<;>exact hb _ _ _
 ·split at hx<;>simp only[List.mem_cons,List.not_mem_nil,or_false] at hx<;>subst hx<;>exact hb _ _ _
theorem start3_ri (h:Heap) (r e:Int):SlR 16 Shard.RI (h.push ((start3 r e).map fun x=>Shard.bareRow x.lo x.hi x.epoch)) (.sl 16 h.next 0 (start3 r e).length) (start3 r e) [h.next]:=by
 have hl:(start3 r e).length≤maxLen:=by
  unfold start3 maxLen;split
  ·simp
  ·split<;>simp
 refine ⟨hl,.inr ⟨h.next,_,(start3 r e).map fun _=>[],rfl,push_get _ _,by rw[push_next];omega,by simp,?_⟩⟩
 unfold start3;split
 ·exact ⟨Shard.bare_ri _ _ _ _,Shard.bare_ri _ _ _ _,trivial⟩
 ·split<;>exact ⟨Shard.bare_ri _ _ _ _,trivial⟩
section
variable {F:Nat→Option RF} {Z:CallF} {h:Heap} {k:Nat} {x:Cell} {code:List Int}
set_option maxHeartbeats 1000000 in
theorem drawRight_turn {hb h:Heap} {k:Nat} {x:Cell} {cs:List Cell} {fp:List Nat} {s:Store} (K:KS F) (hS11:Has F tS11) (c:Cur h k x code) (hbn:hb.next≤h.next) (w:Drawn hb h k cs s fp) (hs:s.seen≤900000) (i:Int) (hi:0<i∧i≤1000):
 ∃(s':Store) (cs':List Cell) (h':Heap) (fp':List Nat),loop F Z [0,6,7,8] r392L0 ⟨[(0,.c (.ptr k 0 0)),(8,.c (.int .i64 i))],[(6,6,0),(7,7,0)],[(6,[.int .i64 0,.int .i64 0,.nil]),(7,cs)],h⟩=loop F Z [0,6,7,8] r392L0 ⟨[(0,.c (.ptr k 0 0)),(8,.c (.int .i64 (i-1)))],[(6,6,0),(7,7,0)],[(6,[.int .i64 0,.int .i64 0,.nil]),(7,cs')],h'⟩∧Drawn hb h' k cs' s' fp'∧s'.group=s.group∧(s'.seen=s.seen∨s'.seen=s.seen+1)∧Dr k h h'∧Cur h' k x code:=by
 have hws:IntKind.i64.wrap (i-1)=i-1:=wrapI _ (by omega) (by omega)
 obtain ⟨s',cs',h',fp',e,w',hg,hs',d,c'⟩:=l13DrawStep_c (Z:=Z) K hS11 c hbn w hs
 obtain ⟨l1,l2,l3⟩:=Store.lenI w.ri
 obtain ⟨m1,m2,m3⟩:=Store.lenI w'.ri
 have hpos:i>0:=hi.1
 refine ⟨s',cs',h',fp',?_,w',hg,hs',d,c'⟩
 rw[loop_run]
 conv in (codeF _ _ r392L0 _)=>unfold r392L0
 simp only[rn,RO.dst,lk,drop,Nat.reduceBEq,Nat.reduceAdd,Nat.reduceLeDiff,↓reduceIte,reduceCtorEq,hpos,l1,l2,l3,e,m1,m2,m3,hws]
set_option maxHeartbeats 1000000 in
theorem l13DrawRight_c (K:KS F) (hS11:Has F tS11) (c:Cur h k x code):
 ∃(s:Store) (cs:List Cell) (h':Heap) (fp:List Nat),call F Z 392 [.c (.ptr k 0 0),.c x,.c (.int .i64 1)] h=some (.agg cs,h')∧Drawn h h' k cs s fp∧s.group=1∧1≤s.seen∧s.seen≤100∧Dr k h h'∧Cur h' k x code:=by
 obtain ⟨r1,h1,e1,r10,r1n,_,m1,c1⟩:=l01Below_c (Z:=Z) K.s01 c 3
 have r1l:=r1n (by omega)
 have hw1:IntKind.i64.wrap (1+r1)=1+r1:=wrapI _ (by omega) (by omega)
 obtain ⟨r2,h2,e2,r20,r2n,_,m2,c2⟩:=l01Below_c (Z:=Z) K.s01 c1 4
 obtain ⟨g,hg⟩: ∃g,h2.push ((start3 r2 (1+r1)).map fun x=>Shard.bareRow x.lo x.hi x.epoch)=g:=⟨_,rfl⟩
 have og:On h2 g:=by rw[←hg];exact On.push _ _
 have c3:=c2.on og
 have d3:Dr k h g:=(m1.dr.trans m2.dr).trans (og.dr k)
 obtain ⟨sg0,ps0⟩:=start3_good (r:=r2) (e:=1+r1) (by omega)
 have w3:Drawn h g k [.int .i64 1,.int .i64 (1+r1),.sl 16 h2.next 0 (start3 r2 (1+r1)).length] ⟨1,1+r1,start3 r2 (1+r1)⟩ [h2.next]:=
  ⟨⟨_,_,rfl,rfl,by rw[←hg];exact start3_ri _ _ _⟩,⟨fun id hid=>by simp at hid;have:=(m1.dr.trans m2.dr).next;omega,by simp⟩,fun hm=>by simp at hm;have:=c2.fl.2;omega,sg0,ps0,start3_low _ _⟩
 obtain ⟨r4,e4,r4a,r4b⟩:=l01Size_c (Z:=Z) K.s01 c3.vw 20 (by omega)
 have hw4:IntKind.i64.wrap (6+r4)=6+r4:=wrapI _ (by omega) (by omega)
 obtain ⟨n,h5,e5,n0,nn,_,m5,c5⟩:=l01Below_c (Z:=Z) K.s01 c3 (6+r4)
 have hn:=nn (by omega)
 have hw5:IntKind.i64.wrap (6+n)=6+n:=wrapI _ (by omega) (by omega)
 obtain ⟨m,hm⟩: ∃m:Nat,6+n=(m:Int):=⟨(6+n).toNat,by omega⟩
 rw[hm] at hw5
 have w5:=w3.dr m5.dr
 have d5:=d3.trans m5.dr
 obtain ⟨s',⟨s,cs,g',fp,hs',w',h1',h2',h3',d',c'⟩,lp⟩:=loop_goes (F:=F) (Z:=Z) (live:=[0,6,7,8]) (b:=r392L0) m (fun i st=> ∃(s:Store) (cs:List Cell) (g':Heap) (fp:List Nat),st=⟨[(0,.c (.ptr k 0 0)),(8,.c (.int .i64 ((m:Int)-(i:Nat))))],[(6,6,0),(7,7,0)],[(6,[.int .i64 0,.int .i64 0,.nil]),(7,cs)],g'⟩∧Drawn h g' k cs s fp∧s.group=1∧1≤s.seen∧s.seen≤3+i∧Dr k h g'∧Cur g' k x code) (fun i st hi ⟨s,cs,g',fp,hs,w,h1,h2,h3,d,c⟩=>by
  subst hs
  obtain ⟨s',cs',g'',fp',eq,w',a1,a2,d',c'⟩:=drawRight_turn (F:=F) (Z:=Z) K hS11 c d.next w (by omega) ((m:Int)-(i:Nat)) (by omega)
  refine ⟨_,⟨s',cs',g'',fp',rfl,w',a1.trans h1,by omega,by push_cast;omega,d.trans d',c'⟩,?_⟩
  rw[eq,show (m:Int)-(i:Nat)-1=(m:Int)-((i+1:Nat):Int) by omega]) (s:=⟨[(0,.c (.ptr k 0 0)),(8,.c (.int .i64 ((m:Int)-((0:Nat):Int))))],[(6,6,0),(7,7,0)],[(6,[.int .i64 0,.int .i64 0,.nil]),(7,[.int .i64 1,.int .i64 (1+r1),.sl 16 h2.next 0 (start3 r2 (1+r1)).length])],h5⟩) ⟨_,_,_,_,rfl,w5,rfl,by show 1≤1+r1;omega,by show 1+r1≤_;push_cast;omega,d5,c5⟩
 subst hs'
 rw[show (m:Int)-((0:Nat):Int)=(m:Int) by omega] at lp
 obtain ⟨m1',m2',m3'⟩:=Store.lenI w'.ri
 have fin: ∃(s:Store) (cs':List Cell) (h':Heap) (fp:List Nat),some (V.agg cs,g')=some (V.agg cs',h')∧Drawn h h' k cs' s fp∧s.group=1∧1≤s.seen∧s.seen≤100∧Dr k h h'∧Cur h' k x code:=⟨_,_,_,_,rfl,w',h1',h2',by omega,d',c'⟩
 have last: ¬((m:Int)-(m:Int)>0):=by omega
 rw[call_run F Z (K.s13.lk (g:=392) rfl) _ _ rfl]
 cases q0:(r2==0) with
 | true=>
   have q:r2=0:=by simpa using q0
   simp only[q,start3,if_true,List.map_cons,List.map_nil,Shard.bareRow,Shard.bare,List.length_cons,List.length_nil,Nat.zero_add,Nat.reduceAdd] at hg lp
   simp only[rn,RO.dst,lk,drop,Nat.reduceBEq,Nat.reduceAdd,Nat.reduceLeDiff,↓reduceIte,reduceCtorEq,List.replicate_succ,List.replicate_zero,fills,and_self,List.set_cons_zero,List.set_cons_succ,Nat.reduceLT,Nat.zero_lt_succ,Nat.zero_lt_one,e1,hw1,e2,q0,hg,e4,hw4,e5,hw5,hm,lp]
   rw[loop_run]
   conv in (codeF _ _ r392L0 _)=>unfold r392L0
   simp only[rn,RO.dst,lk,drop,Nat.reduceBEq,Nat.reduceAdd,Nat.reduceLeDiff,↓reduceIte,reduceCtorEq,last,m1',m2',m3']
   exact fin
 | false=>
 have qn0: ¬r2=0:=by simpa using q0
 cases q1:(r2==1) with
 | true=>
   have q:r2=1:=by simpa using q1
   have q10: ¬(1:Int)=0:=by omega
   simp only[q,start3,q10,if_true,if_false,List.map_cons,List.map_nil,Shard.bareRow,Shard.bare,List.length_cons,List.length_nil,Nat.zero_add,Nat.reduceAdd] at hg lp
   simp only[rn,RO.dst,lk,drop,Nat.reduceBEq,Nat.reduceAdd,Nat.reduceLeDiff,↓reduceIte,reduceCtorEq,List.replicate_succ,List.replicate_zero,fills,and_self,List.set_cons_zero,List.set_cons_succ,Nat.reduceLT,Nat.zero_lt_succ,Nat.zero_lt_one,e1,hw1,e2,q0,q1,hg,e4,hw4,e5,hw5,hm,lp]
   rw[loop_run]
   conv in (codeF _ _ r392L0 _)=>unfold r392L0
   simp only[rn,RO.dst,lk,drop,Nat.reduceBEq,Nat.reduceAdd,Nat.reduceLeDiff,↓reduceIte,reduceCtorEq,last,m1',m2',m3']
   exact fin
 | false=>
   have qn1: ¬r2=1:=by simpa using q1
   simp only[start3,qn0,qn1,if_false,List.map_cons,List.map_nil,Shard.bareRow,Shard.bare,List.length_cons,List.length_nil,Nat.zero_add,Nat.reduceAdd] at hg lp
   simp only[rn,RO.dst,lk,drop,Nat.reduceBEq,Nat.reduceAdd,Nat.reduceLeDiff,↓reduceIte,reduceCtorEq,List.replicate_succ,List.replicate_zero,fills,and_self,List.set_cons_zero,List.set_cons_succ,Nat.reduceLT,Nat.zero_lt_succ,Nat.zero_lt_one,e1,hw1,e2,q0,q1,hg,e4,hw4,e5,hw5,hm,lp]
   rw[loop_run]
   conv in (codeF _ _ r392L0 _)=>unfold r392L0
   simp only[rn,RO.dst,lk,drop,Nat.reduceBEq,Nat.reduceAdd,Nat.reduceLeDiff,↓reduceIte,reduceCtorEq,last,m1',m2',m3']
   exact fin
end
end Go.Proofs.YthofpopafchelaaGreat.A
namespace Go.Proofs.YthofpopafchelaaGreat.A
open Go
set_option linter.unusedSimpArgs false
set_option linter.unusedVariables false
section
variable {h0 h h':Heap} {k tag:Nat} {x y:Cell} {code:List Int} {rows:List (List Cell)}
theorem Draw.sid_lt (w:Draw tag h0 h k x code y rows) (hne:y≠ .nil):y.sid<h.next∧h0.next≤y.sid:=by
 obtain ⟨fp,h1,h2,_⟩:=w.sep
 rcases h1.flat with ⟨h3,_⟩ | ⟨_,_,h3,h4⟩
 ·exact absurd h3 hne
 ·exact ⟨h3,h2.lo _ (by rw[h4];simp)⟩
theorem Draw.keep {β:Type} {P:Rel β} (ok:RelOk P) {cs:List Cell} {b:β} {fq:List Nat} (w:Draw tag h0 h k x code y rows) (v:P h cs b fq) (hn:y.sid∉fq) (row:List Cell):
 P (catH (h.push [row]) y [row]) cs b fq:=by
 obtain ⟨fp,h1,h2,h3⟩:=w.sep
 have hp:=h1.on (Fl.ok _) (On.push h [row])
 have hm:h.next≤(catH (h.push [row]) y [row]).next:=Nat.le_trans (by simp[Heap.push]) (catH_next (h.push [row]) y [row])
 refine ok.mv v hm fun id hid=> ?_
 have hid':=ok.lt v id hid
 have hnf:id∉fp:=fun hm=>by
  rcases h1.flat with ⟨_,_,h4⟩ | ⟨_,_,_,h4⟩
  ·rw[h4] at hm;cases hm
  ·rw[h4] at hm;simp at hm;subst hm;exact hn hid
 rw[catH_keep hp [row] (by simp only[Heap.push];omega) hnf]
 simp only[Heap.push];rw[if_neg (by omega)]
end
section
variable {F:Nat→Option RF} {Z:CallF} {h0 h:Heap} {k:Nat} {x y:Cell} {code:List Int} {rows:List (List Cell)} {cs:List Cell} {fp:List Nat} {s:Store}
set_option maxHeartbeats 2000000 in
theorem drawStore_turn (K:KS F) (hf:h0.floor≤h0.next) (w:Draw 3 h0 h k x code y rows) (hy:y≠ .nil) (hl:rows.length≤1000) (v:Store.RI h cs s fp) (hk:k∉fp) (hys:y.sid∉fp) (g:SGood s) (lw:s.Low 900) (C S:List Cell) (hS:S.length=3) (i:Int) (hi:0<i∧i≤1000):
 ∃(q:Request) (y':Cell) (h':Heap) (cs' C':List Cell) (fp':List Nat),q.Ok∧Draw 3 h0 h' k x code y' (rows++[q.enc])∧y'≠ .nil∧Store.RI h' cs' (doStore s q).1 fp'∧k∉fp'∧y'.sid∉fp'∧SGood (doStore s q).1∧(doStore s q).1.Low 900∧
  loop F Z [2,4,5,6,7,8] r384L0 ⟨[(4,.c (.ptr k 0 0)),(6,.c y),(8,.c (.int .i64 i))],[(2,2,0),(5,5,0),(7,7,0)],[(2,C),(5,S),(7,cs)],h⟩=
  loop F Z [2,4,5,6,7,8] r384L0 ⟨[(4,.c (.ptr k 0 0)),(6,.c y'),(8,.c (.int .i64 (i-1)))],[(2,2,0),(5,5,0),(7,7,0)],[(2,C),(5,S),(7,cs')],h'⟩:=by
 have hws:IntKind.i64.wrap (i-1)=i-1:=wrapI _ (by omega) (by omega)
 obtain ⟨l1,l2,l3⟩:=Store.lenI v
 obtain ⟨q,h1,e1,⟨okq,hqt⟩,d1,c1⟩:=l13DrawRequest_c (Z:=Z) K.s01 K.s10 K.s13 w.cux.cur v hk g lw
 have w1:=w.dr d1 c1
 have v1:=Store.okI.dr v d1 hk
 obtain ⟨cs2,h2,f2,e2,o2,v2,r2⟩:=sDoStore_c (Z:=Z) K c1.le v1 q okq g.ok g.small
 obtain ⟨m1,m2,m3⟩:=Store.lenI v2
 have w2:=w1.go o2
 have hsl:=w1.sid_lt hy
 have hy2:y.sid∉f2:=fun hm=>by have:=r2.lo _ hm;omega
 have hk2:k∉f2:=c1.far r2
 have eo:=w2.one_eq hf (bytes:=40) (by omega) q.enc
 have wo:=w2.one hf (by omega) q.enc
 have v3:=w2.keep Store.okI v2 hy2 q.enc
 have hpos:i>0:=hi.1
 refine ⟨q,_,_,cs2,C,f2,okq,wo,?_,v3,hk2,?_,g.done okq,lw.done g okq (fun a ha=>by rcases ha with ha | ha<;>rw[ha]<;>omega) (fun _=>hqt),?_⟩
 ·cases y<;>simp[catX]
 ·rw[catX_sid]
  intro hm
  have:=Store.okI.lt v2 _ hm
  simp only[Heap.push] at this
  omega
 rw[loop_run]
 conv in (codeF _ _ r384L0 _)=>unfold r384L0
 simp only[rn,RO.dst,lk,drop,Nat.reduceBEq,Nat.reduceAdd,Nat.reduceLeDiff,↓reduceIte,reduceCtorEq,hpos,l1,l2,l3,e1,Request.len,Request.tak,e2,m1,m2,m3,List.replicate_succ,List.replicate_zero,fills,and_self,List.set_cons_zero,List.set_cons_succ,Nat.reduceLT,Nat.zero_lt_succ,Nat.zero_lt_one,eo,hws]
set_option maxHeartbeats 2000000 in
theorem DrawRightStore_c (K:KS F) (hS11:Has F tS11) (hf:h.floor≤h.next) (w:Vw 19 byte_enc h x code):
 ∃(s:Store) (qs:List Request) (cs:List Cell) (y:Cell) (g:Heap) (fp fy:List Nat),call F Z 384 [.c x] h=some (.tup [.agg cs,.c y],g)∧On h g∧Store.RI g cs s fp∧Fre h fp∧SlR 3 (Fl Request.enc) g y qs fy∧Fre h fy∧SGood s∧s.group=1∧1≤s.seen∧s.seen≤100∧0<s.shards.length∧s.Low 900∧(∀q,q∈qs→q.Ok)∧qs.length≤100:=by
 obtain ⟨h1,e1,o1,c1⟩:=l01New_c (Z:=Z) K.s01 hf w
 obtain ⟨s,cs,h2,fp,e2,w2,hg,hs1,hs2,d2,c2⟩:=l13DrawRight_c (Z:=Z) K hS11 c1
 obtain ⟨l1,l2,l3⟩:=Store.lenI w2.ri
 have o2:On h h2:=d2.base o1 (Nat.le_refl _)
 have wd:=Draw.start (tag:=3) (Cux.self c2)
 obtain ⟨g0,hg0⟩: ∃g,h2.push []=g:=⟨_,rfl⟩
 rw[hg0] at wd
 have og:On h2 g0:=by rw[←hg0];exact On.push _ _
 have c3:=wd.cux.cur
 obtain ⟨r4,e4,r4a,r4b⟩:=l01Size_c (Z:=Z) K.s01 c3.vw 14 (by omega)
 have hw4:IntKind.i64.wrap (2+r4)=2+r4:=wrapI _ (by omega) (by omega)
 obtain ⟨n,h5,e5,n0,nn,_,m5,c5⟩:=l01Below_c (Z:=Z) K.s01 c3 (2+r4)
 have hn:=nn (by omega)
 obtain ⟨m,rfl⟩: ∃m:Nat,n=(m:Int):=⟨n.toNat,by omega⟩
 have wd5:=wd.dr m5.dr c5
 have v5:=Store.okI.dr (Store.okI.on w2.ri og) m5.dr w2.far
 have hlt: ∀id,id∈fp→id<h2.next:=fun id hid=>Store.okI.lt w2.ri id hid
 have key:=loop_goes (F:=F) (Z:=Z) (live:=[2,4,5,6,7,8]) (b:=r384L0) m (fun i st=> ∃(y:Cell) (g:Heap) (qs:List Request) (cs':List Cell) (s':Store) (fp':List Nat),st=⟨[(4,.c (.ptr h.next 0 0)),(6,.c y),(8,.c (.int .i64 ((m:Int)-(i:Nat))))],[(2,2,0),(5,5,0),(7,7,0)],[(2,[.int .i64 0,.int .i64 0,.nil]),(5,cs),(7,cs')],g⟩∧Draw 3 h2 g h.next x code y (qs.map Request.enc)∧y≠ .nil∧qs.length=i∧(∀q,q∈qs→q.Ok)∧Store.RI g cs' s' fp'∧h.next∉fp'∧y.sid∉fp'∧SGood s'∧s'.Low 900) (fun i st hi ⟨y,g,qs,cs',s',fp',hst,wd,hy,hle,hok,v,hk,hys,sg,lw⟩=>by
  subst hst
  obtain ⟨q,y',g',cs2,C',f2,okq,wd',hy',v',hk',hys',sg',lw',eq⟩:=drawStore_turn (F:=F) (Z:=Z) K c2.le wd hy (by simp;omega) v hk hys sg lw [.int .i64 0,.int .i64 0,.nil] cs l1 ((m:Int)-(i:Nat)) (by omega)
  refine ⟨_,⟨y',g',qs++[q],cs2,_,f2,rfl,by simpa using wd',hy',by simp[hle],fun p hp=> ?_,v',hk',hys',sg',lw'⟩,?_⟩
  ·rcases List.mem_append.1 hp with hp | hp
   ·exact hok p hp
   ·simp at hp;subst hp;exact okq
  ·rw[eq,show (m:Int)-(i:Nat)-1=(m:Int)-((i+1:Nat):Int) by omega]) (s:=⟨[(4,.c (.ptr h.next 0 0)),(6,.c (.sl 3 h2.next 0 0)),(8,.c (.int .i64 ((m:Int)-((0:Nat):Int))))],[(2,2,0),(5,5,0),(7,7,0)],[(2,[.int .i64 0,.int .i64 0,.nil]),(5,cs),(7,cs)],h5⟩) ⟨_,_,[],cs,s,fp,rfl,by simpa using wd5,fun h=>(nomatch h),rfl,fun _ h=>(nomatch h),v5,w2.far,fun hm=>by have:=hlt _ hm;simp[Cell.sid] at this,w2.sg,w2.low⟩
 obtain ⟨s',⟨y,g,qs,cs',s'',fp',rfl,wd',hy,hle,hok,v',_,_,_,_⟩,e⟩:=key
 rw[show (m:Int)-((0:Nat):Int)=(m:Int) by omega] at e
 rw[call_run F Z (K.s13.lk (g:=384) rfl) _ _ rfl]
 simp only[rn,RO.dst,lk,drop,Nat.reduceBEq,Nat.reduceAdd,Nat.reduceLeDiff,↓reduceIte,reduceCtorEq,List.replicate_succ,List.replicate_zero,fills,and_self,List.set_cons_zero,List.set_cons_succ,Nat.reduceLT,Nat.zero_lt_succ,Nat.zero_lt_one,e1,e2,l1,l2,l3,hg0,e4,hw4,e5,e]
 rw[loop_run]
 conv in (codeF _ _ r384L0 _)=>unfold r384L0
 simp only[rn,RO.dst,lk,drop,Nat.reduceBEq,Nat.reduceAdd,Nat.reduceLeDiff,↓reduceIte,reduceCtorEq,show ¬((m:Int)-(m:Int)>0) by omega,l1,l2,l3]
 obtain ⟨fy,y1,y2,y3⟩:=wd'.sep
 have dl:=wd'.cux.dr
 refine ⟨s,qs,cs,y,g,fp,fy,rfl,dl.base o2 (Nat.le_refl _),Store.okI.dr w2.ri dl w2.far,?_,SlR.ofRaw y1,?_,w2.sg,hg,hs1,hs2,w2.pos,w2.low,hok,by omega⟩
 ·exact ⟨fun id hid=>by have:=w2.fr.lo id hid;have:=o1.ext.1;omega,w2.fr.nd⟩
 ·exact ⟨fun id hid=>by have:=y2.lo id hid;have:=o2.ext.1;omega,y2.nd⟩
end
end Go.Proofs.YthofpopafchelaaGreat.A
namespace Go.Proofs.YthofpopafchelaaGreat.A
open Go
set_option linter.unusedSimpArgs false
set_option linter.unusedVariables false
section
variable {s:Store} {q:Request} {xs:List Account} {x:Shard}
end
end Go.Proofs.YthofpopafchelaaGreat.A
namespace Go.Proofs.YthofpopafchelaaGreat.A
open Go
set_option linter.unusedSimpArgs false
set_option linter.unusedVariables false
section
variable {α:Type} (f:α→Int)
end
section
variable {F:Nat→Option RF} {Z:CallF} {h:Heap} {x:Cell} {xs:List Account} {fp:List Nat}
end
end Go.Proofs.YthofpopafchelaaGreat.A
namespace Go.Proofs.YthofpopafchelaaGreat.A
open Go
set_option linter.unusedSimpArgs false
set_option linter.unusedVariables false
section
variable {F:Nat→Option RF} {Z:CallF} {h:Heap} {cs:List Cell} {s:Store} {fp:List Nat} {x:Cell} {xs:List Shard}
end
end Go.Proofs.YthofpopafchelaaGreat.A
namespace Go.Proofs.YthofpopafchelaaGreat.A
open Go
set_option linter.unusedSimpArgs false
set_option linter.unusedVariables false
section
variable {s:Store} {q:Request} {xs:List Account} {x:Shard} {id tx:Int} {f:Act} {d:Int}
def Request.puts (q:Request):Int:=if q.op=2 then q.amount else if q.op=3 then -q.amount else 0
end
end Go.Proofs.YthofpopafchelaaGreat.A
namespace Go.Proofs.YthofpopafchelaaGreat.A
open Go
set_option linter.unusedSimpArgs false
set_option linter.unusedVariables false
theorem findI_none {α:Type} {p:α→Bool} {xs:List α} (h: ∀a,a∈xs→p a=false):findI p xs= -1:=by
 have:xs.findIdx? p=none:=by rw[List.findIdx?_eq_none_iff];exact h
 unfold findI
 rw[this]
end Go.Proofs.YthofpopafchelaaGreat.A
namespace Go.Proofs.YthofpopafchelaaGreat.A
open Go
def r4:RF:=
 ⟨1,[.tmp 2],
 .seq (.reg [⟨none,.locb 1 (.t 0)⟩,
 ⟨none,.mov 2 (.k (.bool false))⟩])
 (.seq (.reg [⟨none,.load 3 1 5 true⟩,
 ⟨none,.call (some 4) 6 [(.t 3)] false⟩,
 ⟨none,.mov 2 (.t 4)⟩])
 (.ret))⟩
def r6:RF:=
 ⟨1,[.tmp 2],
 .seq (.reg [⟨none,.locb 1 (.t 0)⟩,
 ⟨none,.mov 2 (.k (.bool false))⟩])
 (.seq (.reg [⟨none,.fad 3 1 1⟩,
 ⟨none,.load 4 3 1 false⟩,
 ⟨none,.call (some 5) 7 [(.t 4)] false⟩,
 ⟨none,.mov 6 (.t 5)⟩,
 ⟨some (6,true),.fad 7 1 2⟩,
 ⟨some (6,true),.load 8 7 1 false⟩,
 ⟨some (6,true),.call (some 9) 7 [(.t 8)] false⟩,
 ⟨none,.pick 10 (.t 6) (.t 9) (.k (.bool false))⟩,
 ⟨none,.mov 11 (.t 10)⟩,
 ⟨some (11,true),.fad 12 1 1⟩,
 ⟨some (11,true),.load 13 12 1 false⟩,
 ⟨some (11,true),.fad 14 1 2⟩,
 ⟨some (11,true),.load 15 14 1 false⟩,
 ⟨some (11,true),.bin 16 .neq (.t 13) (.t 15)⟩,
 ⟨none,.pick 17 (.t 11) (.t 16) (.k (.bool false))⟩,
 ⟨none,.mov 18 (.t 17)⟩,
 ⟨some (18,true),.fad 19 1 3⟩,
 ⟨some (18,true),.load 20 19 1 false⟩,
 ⟨some (18,true),.bin 21 .geq (.t 20) (.k (.int .i64 1))⟩,
 ⟨none,.pick 22 (.t 18) (.t 21) (.k (.bool false))⟩,
 ⟨none,.mov 23 (.t 22)⟩,
 ⟨some (23,true),.fad 24 1 3⟩,
 ⟨some (23,true),.load 25 24 1 false⟩,
 ⟨some (23,true),.bin 26 .lss (.t 25) (.k (.int .i64 1000000))⟩,
 ⟨none,.pick 27 (.t 23) (.t 26) (.k (.bool false))⟩,
 ⟨none,.mov 28 (.t 27)⟩,
 ⟨some (28,true),.fad 29 1 4⟩,
 ⟨some (28,true),.load 30 29 1 false⟩,
 ⟨some (28,true),.bin 31 .geq (.t 30) (.k (.int .i64 0))⟩,
 ⟨none,.pick 32 (.t 28) (.t 31) (.k (.bool false))⟩,
 ⟨none,.mov 33 (.t 32)⟩,
 ⟨some (33,true),.fad 34 1 4⟩,
 ⟨some (33,true),.load 35 34 1 false⟩,
 ⟨some (33,true),.bin 36 .leq (.t 35) (.k (.int .i64 3))⟩,
 ⟨none,.pick 37 (.t 33) (.t 36) (.k (.bool false))⟩,
 ⟨none,.mov 2 (.t 37)⟩])
 (.ret))⟩
def tI15:List (Nat×RF):=[(4,r4),(6,r6)]
end Go.Proofs.YthofpopafchelaaGreat.A
namespace Go.Proofs.YthofpopafchelaaGreat.A
open Go
def r2:RF:=
 ⟨1,[.cell 2 5 true],
 .seq (.reg [⟨none,.locb 1 (.t 0)⟩,
 ⟨none,.loc 2 [.int .u64 0,.int .i64 0,.int .i64 0,.int .i64 0,.int .i64 0]⟩])
 (.seq (.reg [⟨none,.loc 3 [.int .u64 0,.int .i64 0,.int .i64 0,.int .i64 0,.int .i64 0]⟩])
 (.seq (.reg [⟨none,.fad 4 1 0⟩,
 ⟨none,.load 5 4 1 false⟩,
 ⟨none,.fad 6 3 0⟩,
 ⟨none,.store 6 1 (.t 5)⟩])
 (.seq (.reg [⟨none,.fad 7 1 1⟩,
 ⟨none,.load 8 7 1 false⟩,
 ⟨none,.fad 9 3 1⟩,
 ⟨none,.store 9 1 (.t 8)⟩])
 (.seq (.reg [⟨none,.fad 10 1 2⟩,
 ⟨none,.load 11 10 1 false⟩,
 ⟨none,.fad 12 3 2⟩,
 ⟨none,.store 12 1 (.t 11)⟩])
 (.seq (.reg [⟨none,.fad 13 1 3⟩,
 ⟨none,.load 14 13 1 false⟩,
 ⟨none,.fad 15 3 3⟩,
 ⟨none,.store 15 1 (.t 14)⟩])
 (.seq (.reg [⟨none,.fad 16 1 4⟩,
 ⟨none,.load 17 16 1 false⟩,
 ⟨none,.fad 18 3 4⟩,
 ⟨none,.store 18 1 (.t 17)⟩])
 (.seq (.reg [⟨none,.load 19 3 5 true⟩,
 ⟨none,.store 2 5 (.t 19)⟩])
 (.ret))))))))⟩
def tLHand:List (Nat×RF):=[(2,r2)]
end Go.Proofs.YthofpopafchelaaGreat.A
namespace Go.Proofs.YthofpopafchelaaGreat.A
open Go
def r3:RF:=
 ⟨1,[.tmp 2],
 .seq (.reg [⟨none,.locb 1 (.t 0)⟩,
 ⟨none,.mov 2 (.k (.bool false))⟩])
 (.seq (.reg [⟨none,.fad 3 1 1⟩,
 ⟨none,.load 4 3 1 false⟩,
 ⟨none,.call (some 5) 5 [(.t 4),(.k (.int .i64 0)),(.k (.int .i64 99))] false⟩,
 ⟨none,.mov 6 (.t 5)⟩,
 ⟨some (6,true),.fad 7 1 2⟩,
 ⟨some (6,true),.load 8 7 1 false⟩,
 ⟨some (6,true),.call (some 9) 5 [(.t 8),(.k (.int .i64 0)),(.k (.int .i64 99))] false⟩,
 ⟨none,.pick 10 (.t 6) (.t 9) (.k (.bool false))⟩,
 ⟨none,.mov 11 (.t 10)⟩,
 ⟨some (11,true),.fad 12 1 1⟩,
 ⟨some (11,true),.load 13 12 1 false⟩,
 ⟨some (11,true),.fad 14 1 2⟩,
 ⟨some (11,true),.load 15 14 1 false⟩,
 ⟨some (11,true),.bin 16 .neq (.t 13) (.t 15)⟩,
 ⟨none,.pick 17 (.t 11) (.t 16) (.k (.bool false))⟩,
 ⟨none,.mov 18 (.t 17)⟩,
 ⟨some (18,true),.fad 19 1 3⟩,
 ⟨some (18,true),.load 20 19 1 false⟩,
 ⟨some (18,true),.call (some 21) 5 [(.t 20),(.k (.int .i64 1)),(.k (.int .i64 999999))] false⟩,
 ⟨none,.pick 22 (.t 18) (.t 21) (.k (.bool false))⟩,
 ⟨none,.mov 23 (.t 22)⟩,
 ⟨some (23,true),.fad 24 1 4⟩,
 ⟨some (23,true),.load 25 24 1 false⟩,
 ⟨some (23,true),.call (some 26) 5 [(.t 25),(.k (.int .i64 0)),(.k (.int .i64 3))] false⟩,
 ⟨none,.pick 27 (.t 23) (.t 26) (.k (.bool false))⟩,
 ⟨none,.mov 2 (.t 27)⟩])
 (.ret))⟩
def tS15:List (Nat×RF):=[(3,r3)]
end Go.Proofs.YthofpopafchelaaGreat.A
namespace Go.Proofs.YthofpopafchelaaGreat.A
open Go
set_option linter.unusedSimpArgs false
set_option linter.unusedVariables false
section
variable {F:Nat→Option RF} {Z:CallF}
def handOk (lo from_ to epoch phase:Int):Bool:=inR from_ 0 99&&inR to 0 99&&(from_ !=to)&&inR epoch 1 999999&&inR phase 0 3
end
end Go.Proofs.YthofpopafchelaaGreat.A
namespace Go.Proofs.YthofpopafchelaaGreat.A
open Go
set_option linter.unusedSimpArgs false
set_option linter.unusedVariables false
structure Hand where
 lo:Int
 from_:Int
 to:Int
 epoch:Int
 phase:Int
 deriving DecidableEq
namespace Hand
def enc (t:Hand):List Cell:=[.int .u64 t.lo,.int .i64 t.from_,.int .i64 t.to,.int .i64 t.epoch,.int .i64 t.phase]
theorem len (t:Hand):t.enc.length=5:=rfl
theorem tak (t:Hand):t.enc.take 5=t.enc:=rfl
def none_:Hand:=⟨0,0,0,0,0⟩
structure Ok (t:Hand):Prop where
 lo:0≤t.lo∧t.lo≤18446744073709551615
 from_: -9223372036854775808≤t.from_∧t.from_≤9223372036854775807
 to: -9223372036854775808≤t.to∧t.to≤9223372036854775807
 epoch: -9223372036854775808≤t.epoch∧t.epoch≤9223372036854775807
 phase: -9223372036854775808≤t.phase∧t.phase≤9223372036854775807
end Hand
end Go.Proofs.YthofpopafchelaaGreat.A
namespace Go.Proofs.YthofpopafchelaaGreat.A
open Go
set_option linter.unusedSimpArgs false
set_option linter.unusedVariables false
section
variable {F:Nat→Option RF} {Z:CallF} {h:Heap} {x y:Cell} {xs ys:List Hand} {fp fq:List Nat}
def Hand.zero:List Cell:=[.int .u64 0,.int .i64 0,.int .i64 0,.int .i64 0,.int .i64 0]
end
end Go.Proofs.YthofpopafchelaaGreat.A
namespace Go.Proofs.YthofpopafchelaaGreat.A
open Go
def tLHandMsg:List (Nat×RF):=[]
end Go.Proofs.YthofpopafchelaaGreat.A
namespace Go.Proofs.YthofpopafchelaaGreat.A
open Go
set_option linter.unusedSimpArgs false
set_option linter.unusedVariables false
structure HandMsg where
 step:Int
 lo:Int
 to:Int
 epoch:Int
 shard:Shard
 deriving DecidableEq
def HandMsg.RI:Rel HandMsg:=fun h cs t fp=> ∃x1 p1 x2 p2,cs=[.int .i64 t.step,.int .u64 t.lo,.int .i64 t.to,.int .i64 t.epoch,.int .u64 t.shard.lo,.int .u64 t.shard.hi,.int .i64 t.shard.state,.int .i64 t.shard.epoch,x1,x2]∧fp=p1++p2∧SlR 11 (Fl Account.enc) h x1 t.shard.book.list p1∧SlR 9 (Fl Fin.enc) h x2 t.shard.finished p2
theorem HandMsg.okI:RelOk HandMsg.RI where
 lt:=by
  rintro h cs t fp ⟨x1,p1,x2,p2,rfl,rfl,w1,w2⟩ id hid
  simp only[List.mem_append] at hid
  rcases hid with hid | hid
  ·exact w1.lt (Fl.ok _) id hid
  ·exact w2.lt (Fl.ok _) id hid
 mv:=by
  rintro h h' cs t fp ⟨x1,p1,x2,p2,rfl,rfl,w1,w2⟩ hn hg
  exact ⟨x1,_,x2,_,rfl,rfl,w1.mv (Fl.ok _) hn fun id hid=>hg id (by simp[hid]),w2.mv (Fl.ok _) hn fun id hid=>hg id (by simp[hid])⟩
theorem HandMsg.lenI {h:Heap} {cs:List Cell} {t:HandMsg} {fp:List Nat} (v:HandMsg.RI h cs t fp):cs.length=10∧cs.take 10=cs∧cs.drop 10=[]:=by
 obtain ⟨x1,p1,x2,p2,rfl,_⟩:=v
 exact ⟨rfl,rfl,rfl⟩
namespace HandMsg
structure Ok (t:HandMsg):Prop where
 step: -9223372036854775808≤t.step∧t.step≤9223372036854775807
 lo:0≤t.lo∧t.lo≤18446744073709551615
 to: -9223372036854775808≤t.to∧t.to≤9223372036854775807
 epoch: -9223372036854775808≤t.epoch∧t.epoch≤9223372036854775807
 shard:t.shard.Ok
def Small (t:HandMsg):Prop:=t.shard.Small
end HandMsg
section
variable {F:Nat→Option RF} {Z:CallF} {h:Heap} {cs cs':List Cell} {t u:HandMsg} {fp fq:List Nat}
end
end Go.Proofs.YthofpopafchelaaGreat.A
namespace Go.Proofs.YthofpopafchelaaGreat.A
open Go
set_option linter.unusedSimpArgs false
set_option linter.unusedVariables false
def Hand.ok (h:Hand):Bool:=handOk h.lo h.from_ h.to h.epoch h.phase
def Hand.sends (h:Hand):Int:=if h.phase=1 then h.epoch+1 else h.epoch
def Hand.done (h:Hand) (step lo epoch:Int):Hand×Bool:=if h.ok=true∧h.phase≠3∧step=h.phase∧lo=h.lo∧epoch=h.sends then ({h with phase:=h.phase+1},true) else (h,false)
section
variable {F:Nat→Option RF} {Z:CallF} {h:Heap} {cs:List Cell} {fp:List Nat} {m:HandMsg}
end
end Go.Proofs.YthofpopafchelaaGreat.A
namespace Go.Proofs.YthofpopafchelaaGreat.A
open Go
set_option linter.unusedSimpArgs false
set_option linter.unusedVariables false
section
variable {F:Nat→Option RF} {Z:CallF} {h:Heap} {cs:List Cell} {t:HandMsg} {fp:List Nat}
end
end Go.Proofs.YthofpopafchelaaGreat.A
namespace Go.Proofs.YthofpopafchelaaGreat.A
open Go
set_option linter.unusedSimpArgs false
set_option linter.unusedVariables false
def HandMsg.none_:HandMsg:=⟨0,0,0,0,Shard.none_⟩
def handSend (a:Hand) (s:Store):HandMsg×Bool:=
 bif a.ok&& !(a.phase==3) then (bif a.phase==1 then (bif (exportShard s a.lo).2&&((exportShard s a.lo).1.epoch==a.epoch) then (⟨1,a.lo,a.to,a.epoch+1,(exportShard s a.lo).1⟩,true) else (HandMsg.none_,false)) else (⟨a.phase,a.lo,a.from_,a.epoch,Shard.none_⟩,true)) else (HandMsg.none_,false)
def handTake (s:Store) (m:HandMsg):Store×Bool:=bif m.to==s.group then (bif m.step==0 then freezeShard s m.lo m.epoch else bif m.step==1 then installShard s m.shard m.epoch else bif m.step==2 then retireShard s m.lo m.epoch else (s,false)) else (s,false)
theorem Shard.none_small:Shard.none_.Small:=by simp[Shard.none_,Shard.Small,Book.Small]
theorem handSend_small {s:Store} (sm:s.Small) (a:Hand):(handSend a s).1.Small:=by
 unfold handSend
 cases (a.ok&& !(a.phase==3))<;>simp only[cond_true,cond_false]
 ·exact Shard.none_small
 cases (a.phase==1)<;>simp only[cond_true,cond_false]
 ·exact Shard.none_small
 cases ((exportShard s a.lo).2&&((exportShard s a.lo).1.epoch==a.epoch))<;>simp only[cond_true,cond_false]
 ·exact Shard.none_small
 ·exact exportShard_small sm
theorem handTake_small {s:Store} (sm:s.Small) {m:HandMsg} (smm:m.Small):(handTake s m).1.Small:=by
 unfold handTake
 cases (m.to==s.group)<;>simp only[cond_true,cond_false]
 ·exact sm
 cases (m.step==0)<;>simp only[cond_true,cond_false]
 ·cases (m.step==1)<;>simp only[cond_true,cond_false]
  ·cases (m.step==2)<;>simp only[cond_true,cond_false]
   ·exact sm
   ·exact retireShard_small sm _ _
  ·exact installShard_small sm smm _
 ·exact freezeShard_small sm _ _
section
variable {F:Nat→Option RF} {Z:CallF} {h:Heap} {cs ds:List Cell} {fp fq:List Nat} {s:Store} {m:HandMsg}
theorem HandMsg.none_R (h:Heap):HandMsg.RI h [.int .i64 0,.int .u64 0,.int .i64 0,.int .i64 0,.int .u64 0,.int .u64 0,.int .i64 0,.int .i64 0,.nil,.nil] HandMsg.none_ []:=⟨.nil,[],.nil,[],rfl,rfl,SlR.nil _ _ _,SlR.nil _ _ _⟩
end
end Go.Proofs.YthofpopafchelaaGreat.A
namespace Go.Proofs.YthofpopafchelaaGreat.A
open Go
set_option linter.unusedSimpArgs false
set_option linter.unusedVariables false
theorem Shard.none_ok:Shard.none_.Ok:=by constructor<;>simp[Shard.none_];exact ⟨fun _ h=>(nomatch h)⟩
theorem Store.at_ok' {s:Store} (ok:s.Ok) (i:Nat):(Shard.at_ s.shards i).Ok:=by
 by_cases hi:i<s.shards.length
 ·exact Store.at_ok ok hi
 ·rw[Shard.at_,List.getElem?_eq_none (by omega)];exact Shard.none_ok
theorem Store.renewed_ok {s:Store} (ok:s.Ok) {e:Int} (he: -9223372036854775808≤e∧e≤9223372036854775807):(s.renew e).Ok:=by
 refine ⟨ok.group,he,fun a ha=> ?_⟩
 obtain ⟨t,ht,rfl⟩:=List.mem_map.1 (show a∈s.shards.map (Shard.renew e) from ha)
 have h:=ok.shards t ht
 unfold Shard.renew
 cases (t.state==0)
 ·exact h
 ·exact ⟨h.lo,h.hi,h.state,he,h.book,h.finished⟩
theorem freezeShard_ok {s:Store} (ok:s.Ok) (lo:Int) {e:Int} (he: -9223372036854775808≤e∧e≤9223372036854775807):(freezeShard s lo e).1.Ok:=by
 unfold freezeShard
 cases (s.next e&&decide (0≤findAt s.shards lo 0)) with
 | false=>exact ok
 | true=>
   refine Store.renewed_ok (s:=s.frozen (findAt s.shards lo 0).toNat e) ⟨ok.group,ok.seen,fun a ha=> ?_⟩ he
   rcases List.mem_or_eq_of_mem_set (show a∈s.shards.set _ _ from ha) with h | h
   ·exact ok.shards a h
   ·subst h
    have h:=Store.at_ok' ok (findAt s.shards lo 0).toNat
    exact ⟨h.lo,h.hi,by simp,he,h.book,h.finished⟩
theorem installShard_ok {s:Store} (ok:s.Ok) {x:Shard} (okx:x.Ok) {e:Int} (he: -9223372036854775808≤e∧e≤9223372036854775807):(installShard s x e).1.Ok:=by
 unfold installShard
 cases (installable s x e&& !(s.shards.any x.over)) with
 | false=>exact ok
 | true=>
   refine Store.renewed_ok (s:=s.plus x) ⟨ok.group,ok.seen,fun a ha=> ?_⟩ he
   simp only[Store.plus,List.mem_append,List.mem_singleton] at ha
   rcases ha with (ha | ha) | ha
   ·exact ok.shards a (List.mem_of_mem_take ha)
   ·subst ha;exact ⟨okx.lo,okx.hi,by simp[Shard.awake],okx.epoch,okx.book,okx.finished⟩
   ·exact ok.shards a (List.mem_of_mem_drop ha)
theorem retireShard_ok {s:Store} (ok:s.Ok) (lo e:Int):(retireShard s lo e).1.Ok:=by
 unfold retireShard
 cases (s.good&&(decide (0≤findAt s.shards lo 1)&&decide ((Shard.at_ s.shards (findAt s.shards lo 1).toNat).epoch=e))) with
 | false=>exact ok
 | true=>exact ⟨ok.group,ok.seen,fun a ha=>ok.shards a (List.mem_of_mem_eraseIdx (show a∈s.shards.eraseIdx _ from ha))⟩
theorem exportShard_ok {s:Store} (ok:s.Ok) (lo:Int):(exportShard s lo).1.Ok:=by
 unfold exportShard
 cases (s.good&&decide (0≤findAt s.shards lo 1)) with
 | false=>exact Shard.none_ok
 | true=>exact Store.at_ok' ok _
theorem HandMsg.none_ok:HandMsg.none_.Ok:=by
 refine ⟨by simp[HandMsg.none_],by simp[HandMsg.none_],by simp[HandMsg.none_],by simp[HandMsg.none_],Shard.none_ok⟩
theorem HandMsg.none_small:HandMsg.none_.Small:=Shard.none_small
theorem Hand.ok_in {a:Hand} (h:a.ok=true):(1≤a.epoch∧a.epoch≤999999)∧(0≤a.phase∧a.phase≤3):=by
 simp only[Hand.ok,handOk,inR,Bool.and_eq_true,decide_eq_true_eq] at h
 omega
theorem handSend_ok {a:Hand} (oka:a.Ok) {s:Store} (ok:s.Ok):(handSend a s).1.Ok:=by
 unfold handSend
 cases h0:(a.ok&& !(a.phase==3))<;>simp only[cond_true,cond_false]
 ·exact HandMsg.none_ok
 simp only[Bool.and_eq_true] at h0
 obtain ⟨h1,h2⟩:=Hand.ok_in h0.1
 cases (a.phase==1)<;>simp only[cond_true,cond_false]
 ·exact ⟨oka.phase,oka.lo,oka.from_,oka.epoch,Shard.none_ok⟩
 cases ((exportShard s a.lo).2&&((exportShard s a.lo).1.epoch==a.epoch))<;>simp only[cond_true,cond_false]
 ·exact HandMsg.none_ok
 ·exact ⟨by simp,oka.lo,oka.to,by show -9223372036854775808≤a.epoch+1∧a.epoch+1≤9223372036854775807;omega,exportShard_ok ok _⟩
theorem handTake_ok {s:Store} (ok:s.Ok) {m:HandMsg} (okm:m.Ok):(handTake s m).1.Ok:=by
 unfold handTake
 cases (m.to==s.group)<;>simp only[cond_true,cond_false]
 ·exact ok
 cases (m.step==0)<;>simp only[cond_true,cond_false]
 ·cases (m.step==1)<;>simp only[cond_true,cond_false]
  ·cases (m.step==2)<;>simp only[cond_true,cond_false]
   ·exact ok
   ·exact retireShard_ok ok _ _
  ·exact installShard_ok ok okm.shard okm.epoch
 ·exact freezeShard_ok ok _ okm.epoch
theorem Hand.done_ok {a:Hand} (oka:a.Ok) (st lo ep:Int):(a.done st lo ep).1.Ok:=by
 unfold Hand.done
 split
 ·rename_i h
  have h2:=(Hand.ok_in h.1).2
  exact ⟨oka.lo,oka.from_,oka.to,oka.epoch,by show -9223372036854775808≤a.phase+1∧a.phase+1≤9223372036854775807;omega⟩
 ·exact oka
structure Play where
 hd:Hand
 a:Store
 b:Store
 net:List HandMsg
def HandMsg.at_ (xs:List HandMsg) (i:Nat):HandMsg:=xs[i]?.getD HandMsg.none_
theorem HandMsg.at_get {xs:List HandMsg} {i:Nat} (hi:i<xs.length):HandMsg.at_ xs i=xs[i]:=by simp[HandMsg.at_,List.getElem?_eq_getElem hi]
def Play.puts (p:Play) (m:HandMsg):Play:=bif decide (p.net.length<40) then {p with net:=p.net++[m]} else p
def Play.sends (p:Play):Play:=bif (handSend p.hd p.a).2 then p.puts (handSend p.hd p.a).1 else p
def Play.loses (p:Play) (k:Nat):Play:={p with net:=p.net.eraseIdx k}
def Play.goes (p:Play) (x:Bool) (m:HandMsg):Play:=bif x then {p with hd:=(p.hd.done m.step m.lo m.epoch).1} else p
def Play.takes (p:Play) (m:HandMsg):Play:=
 bif m.to==p.hd.from_ then ({p with a:=(handTake p.a m).1}:Play).goes (handTake p.a m).2 m else ({p with b:=(handTake p.b m).1}:Play).goes (handTake p.b m).2 m
def place (o:Int):Nat:=((o-1).tdiv 3).toNat
def Play.step (p:Play) (o:Int):Play:=
 if o=0 then p.sends
 else if o<0∨p.net.length≤place o then p
 else if o.tmod 3=0 then p.puts (HandMsg.at_ p.net (place o))
 else if o.tmod 3=2 then p.loses (place o)
 else (p.loses (place o)).takes (HandMsg.at_ p.net (place o))
structure Play.Ok (p:Play):Prop where
 hd:p.hd.Ok
 a:p.a.Ok∧p.a.Small
 b:p.b.Ok∧p.b.Small
 net:p.net.length≤40∧ ∀m,m∈p.net→m.Ok∧m.Small
theorem Play.Ok.puts {p:Play} (w:p.Ok) {m:HandMsg} (hm:m.Ok∧m.Small):(p.puts m).Ok:=by
 unfold Play.puts
 by_cases hl:p.net.length<40
 ·simp only[hl,decide_true,cond_true]
  refine ⟨w.hd,w.a,w.b,by simp;omega,fun x hx=> ?_⟩
  rcases List.mem_append.1 hx with hx | hx
  ·exact w.net.2 x hx
  ·simp at hx;subst hx;exact hm
 ·simp only[hl,decide_false,cond_false];exact w
theorem Play.Ok.loses {p:Play} (w:p.Ok) (k:Nat):(p.loses k).Ok:=
 ⟨w.hd,w.a,w.b,Nat.le_trans (List.length_eraseIdx_le _ _) w.net.1,fun m hm=>w.net.2 m (List.mem_of_mem_eraseIdx hm)⟩
theorem Play.Ok.goes {p:Play} (w:p.Ok) (x:Bool) (m:HandMsg):(p.goes x m).Ok:=by
 unfold Play.goes
 cases x
 ·exact w
 ·exact ⟨Hand.done_ok w.hd _ _ _,w.a,w.b,w.net⟩
theorem Play.Ok.takes {p:Play} (w:p.Ok) {m:HandMsg} (hm:m.Ok∧m.Small):(p.takes m).Ok:=by
 have wa:({p with a:=(handTake p.a m).1}:Play).Ok:=⟨w.hd,⟨handTake_ok w.a.1 hm.1,handTake_small w.a.2 hm.2⟩,w.b,w.net⟩
 have wb:({p with b:=(handTake p.b m).1}:Play).Ok:=⟨w.hd,w.a,⟨handTake_ok w.b.1 hm.1,handTake_small w.b.2 hm.2⟩,w.net⟩
 unfold Play.takes
 cases (m.to==p.hd.from_) with
 | true=>exact wa.goes _ _
 | false=>exact wb.goes _ _
theorem Play.Ok.at_ {p:Play} (w:p.Ok) {k:Nat} (hk:k<p.net.length):(HandMsg.at_ p.net k).Ok∧(HandMsg.at_ p.net k).Small:=by
 rw[HandMsg.at_get hk];exact w.net.2 _ (List.getElem_mem hk)
theorem Play.Ok.step {p:Play} (w:p.Ok) (o:Int):(p.step o).Ok:=by
 unfold Play.step
 split
 ·unfold Play.sends
  cases (handSend p.hd p.a).2
  ·exact w
  ·exact w.puts ⟨handSend_ok w.hd w.a.1,handSend_small w.a.2 _⟩
 split
 ·exact w
 rename_i hk
 have hk:place o<p.net.length:=by omega
 split
 ·exact w.puts (w.at_ hk)
 split
 ·exact w.loses _
 ·exact (w.loses _).takes (w.at_ hk)
end Go.Proofs.YthofpopafchelaaGreat.A
namespace Go.Proofs.YthofpopafchelaaGreat.A
open Go
set_option linter.unusedSimpArgs false
set_option linter.unusedVariables false
theorem findI_is {α:Type} {p:α→Bool} {xs:List α} {i:Nat} (hi:i<xs.length) (hp:p xs[i]=true) (h: ∀j,(hj:j<xs.length)→p xs[j]=true→j=i):findI p xs=(i:Nat):=by
 have:xs.findIdx? p=some i:=by
  rw[List.findIdx?_eq_some_iff_getElem]
  refine ⟨hi,hp,fun j hj hc=> ?_⟩
  have:=h j (by omega) hc
  omega
 unfold findI
 rw[this]
theorem Store.Good.lt {s:Store} (g:s.Good) {i j:Nat} (hj:j<s.shards.length) (hij:i<j):s.shards[i].hi<s.shards[j].lo:=List.pairwise_iff_getElem.1 g.ord i j (by omega) hj hij
theorem Store.Good.lh {s:Store} (g:s.Good) {i:Nat} (hi:i<s.shards.length):s.shards[i].lo≤s.shards[i].hi:=(g.sh _ (List.getElem_mem hi)).1.lh
theorem Store.Good.one_of {s:Store} (g:s.Good) {i j:Nat} (hi:i<s.shards.length) (hj:j<s.shards.length) {a:Int} (h1:s.shards[i].lo≤a∧a≤s.shards[i].hi) (h2:s.shards[j].lo≤a∧a≤s.shards[j].hi):i=j:=by
 rcases Nat.lt_trichotomy i j with h | h | h
 ·have:=g.lt hj h;omega
 ·exact h
 ·have:=g.lt hi h;omega
theorem Store.Good.findAt_is {s:Store} (g:s.Good) {k:Nat} (hk:k<s.shards.length) {lo st:Int} (hl:s.shards[k].lo=lo) (h:s.shards[k].state=st):findAt s.shards lo st=(k:Nat):=by
 refine findI_is hk (by simp[hl,h]) fun j hj hp=> ?_
 simp only[Bool.and_eq_true,beq_iff_eq] at hp
 have h1:=g.lh hk
 have h2:=g.lh hj
 exact g.one_of (a:=lo) hj hk (by omega) (by omega)
theorem Store.Good.findAt_not {s:Store} (g:s.Good) {k:Nat} (hk:k<s.shards.length) {lo st:Int} (hl:s.shards[k].lo=lo) (h:s.shards[k].state≠st):findAt s.shards lo st= -1:=by
 refine findI_none fun a ha=> ?_
 obtain ⟨j,hj,rfl⟩:=List.mem_iff_getElem.1 ha
 by_cases hc:s.shards[j].lo=lo
 ·have h1:=g.lh hk
  have h2:=g.lh hj
  have:=g.one_of (a:=lo) hj hk (by omega) (by omega)
  subst this
  simp[h]
 ·simp[hc]
theorem Store.Good.findId_is {s:Store} (g:s.Good) {k:Nat} (hk:k<s.shards.length) {a:Int} (h:s.shards[k].lo≤a∧a≤s.shards[k].hi):findId s.shards a=(k:Nat):=by
 refine findI_is hk (by simp[h]) fun j hj hp=> ?_
 simp only[Bool.and_eq_true,decide_eq_true_eq] at hp
 exact g.one_of hj hk hp h
theorem retireShard_good {s:Store} (g:s.Good) (lo e:Int):(retireShard s lo e).1.Good:=by
 unfold retireShard
 cases (s.good&&(decide (0≤findAt s.shards lo 1)&&decide ((Shard.at_ s.shards (findAt s.shards lo 1).toNat).epoch=e)))
 ·exact g
 ·exact ⟨g.gr,g.sn,Nat.le_trans (List.length_eraseIdx_le _ _) g.len,fun x hx=>g.sh x (List.mem_of_mem_eraseIdx hx),g.ord.sublist (List.eraseIdx_sublist ..)⟩
theorem Shard.Good.awake {x:Shard} (g:x.Good):x.awake.Good:=⟨g.lh,.inl rfl,g.ep,g.srt,g.fine,g.bl,g.fl,g.acc,g.fs,g.fin⟩
theorem install_when {s:Store} {x:Shard} {e:Int} (h:(installShard s x e).2=true):s.Good∧x.Good∧s.seen<e∧e≤1000000∧x.state=1∧x.epoch<e∧s.shards.length≠8∧(∀t,t∈s.shards→x.over t=false)∧installShard s x e=((s.plus x).renew e,true):=by
 unfold installShard at h ⊢
 cases hc:(installable s x e&& !(s.shards.any x.over)) with
 | false=>rw[hc] at h;cases h
 | true=>
   simp only[installable,Bool.and_eq_true,Store.next_iff,Shard.good_iff,beq_iff_eq,decide_eq_true_eq,Bool.not_eq_true',beq_eq_false_iff_ne,List.any_eq_false] at hc
   obtain ⟨⟨⟨h1,h2,h3⟩,h4,h5,h6,h7⟩,h8⟩:=hc
   exact ⟨h1,h4,h2,h3,h5,h6,by omega,fun t ht=>by simpa using h8 t ht,rfl⟩
theorem install_same {s:Store} {x:Shard} {e:Int} (h:(installShard s x e).2=false):installShard s x e=(s,false):=by
 unfold installShard at h ⊢
 exact condp h
theorem installShard_good {s:Store} (g:s.Good) (x:Shard) (e:Int):(installShard s x e).1.Good:=by
 cases h:(installShard s x e).2 with
 | false=>rw[install_same h];exact g
 | true=>
   obtain ⟨_,gx,h1,h2,h3,h4,h5,h6,hc⟩:=install_when h
   rw[hc]
   have he:=g.one h1
   have gl:=g.len
   have gb:=(Store.good_iff s).2 g
   refine Store.renew_good (s:=s.plus x) g.gr ⟨he,h2⟩ ?_ (fun t ht=> ?_) ?_
   ·simp only[Store.plus,List.length_append,List.length_take,List.length_drop,List.length_cons,List.length_nil];omega
   ·simp only[Store.plus,List.mem_append,List.mem_singleton] at ht
    rcases ht with (ht | rfl) | ht
    ·exact g.old h1 t (List.mem_of_mem_take ht)
    ·exact ⟨gx.awake.sound,fun hs=>by cases hs⟩
    ·exact g.old h1 t (List.mem_of_mem_drop ht)
   ·have ho:=g.ord
    have hl: ∀t,t∈s.shards.take (s.spot x)→t.hi<x.lo:=fun t ht=>by
     obtain ⟨i,hi,rfl⟩:=List.mem_iff_getElem.1 ht
     rw[List.length_take] at hi
     rw[List.getElem_take]
     have h7:=(Store.spot_iff gb x (show i<s.shards.length by omega)).2 (by omega)
     have h8:=h6 _ (List.getElem_mem (show i<s.shards.length by omega))
     simp only[Shard.over,Bool.and_eq_false_iff,decide_eq_false_iff_not] at h8
     have:=gx.lh
     omega
    have hr: ∀t,t∈s.shards.drop (s.spot x)→x.hi<t.lo:=fun t ht=>by
     obtain ⟨i,hi,rfl⟩:=List.mem_iff_getElem.1 ht
     rw[List.length_drop] at hi
     rw[List.getElem_drop]
     have h7:=Store.spot_iff gb x (show s.spot x+i<s.shards.length by omega)
     have h8:=h6 _ (List.getElem_mem (show s.spot x+i<s.shards.length by omega))
     have h9:=g.lh (show s.spot x+i<s.shards.length by omega)
     simp only[Shard.over,Bool.and_eq_false_iff,decide_eq_false_iff_not] at h8
     omega
    have hd:s.shards=s.shards.take (s.spot x)++s.shards.drop (s.spot x):=(List.take_append_drop _ _).symm
    rw[hd,List.pairwise_append] at ho
    show (s.shards.take (s.spot x)++[x.awake]++s.shards.drop (s.spot x)).Pairwise _
    rw[List.append_assoc,List.pairwise_append,List.singleton_append,List.pairwise_cons]
    refine ⟨ho.1,⟨hr,ho.2.1⟩,fun a ha b hb=> ?_⟩
    rcases List.mem_cons.1 hb with rfl | hb
    ·exact hl a ha
    ·exact ho.2.2 a ha b hb
theorem SGood.retire {s:Store} (w:SGood s) (lo e:Int):SGood (retireShard s lo e).1:=⟨retireShard_good w.good lo e,retireShard_ok w.ok lo e⟩
theorem SGood.install {s:Store} (w:SGood s) {x:Shard} (okx:x.Ok) {e:Int} (he: -9223372036854775808≤e∧e≤9223372036854775807):SGood (installShard s x e).1:=⟨installShard_good w.good x e,installShard_ok w.ok okx he⟩
def Store.void (gr sn:Int):Store:=⟨gr,sn,[]⟩
theorem Store.void_good {gr sn:Int} (h:0≤gr∧gr≤99) (h2:0≤sn∧sn≤1000000):SGood (Store.void gr sn):=
 ⟨⟨h,h2,by simp[Store.void],fun x hx=>by simp[Store.void] at hx,by simp[Store.void]⟩,⟨by show _≤gr∧gr≤_;omega,by show _≤sn∧sn≤_;omega,fun x hx=>by simp[Store.void] at hx⟩⟩
theorem freeze_not {s:Store} (g:s.Good) {k:Nat} (hk:k<s.shards.length) (h:s.shards[k].state≠0) (e:Int):freezeShard s s.shards[k].lo e=(s,false):=by
 unfold freezeShard
 rw[g.findAt_not hk rfl h]
 simp
def Shard.cold (x:Shard) (e:Int):Shard:={x with state:=1,epoch:=e}
structure Froze (s f:Store) (k:Nat) (hk:k<s.shards.length) (e:Int):Prop where
 ok:freezeShard s s.shards[k].lo e=(f,true)
 good:f.Good
 seen:f.seen=e
 len:f.shards.length=s.shards.length
 hk:k<f.shards.length
 at_:f.shards[k]=s.shards[k].cold e
theorem freeze_is {s:Store} (g:s.Good) {k:Nat} (hk:k<s.shards.length) (h:s.shards[k].state=0) {e:Int} (he:s.seen<e∧e≤1000000):Froze s (freezeShard s s.shards[k].lo e).1 k hk e:=by
 have hn:s.next e=true:=(Store.next_iff s e).2 ⟨g,he⟩
 have hc:freezeShard s s.shards[k].lo e=((s.frozen k e).renew e,true):=by
  unfold freezeShard
  rw[g.findAt_is hk rfl h,hn]
  simp
 have hg:=freezeShard_good (lo:=s.shards[k].lo) (e:=e) g
 rw[hc] at hg ⊢
 have hl:((s.frozen k e).renew e).shards.length=s.shards.length:=by simp[Store.renew,Store.frozen]
 refine ⟨hc,hg,rfl,hl,by simp only;omega,?_⟩
 simp only[Store.renew,Store.frozen,List.getElem_map,List.getElem_set_self,Shard.at_get hk]
 rfl
theorem Froze.exports {s f:Store} {k:Nat} {hk:k<s.shards.length} {e:Int} (w:Froze s f k hk e):exportShard f s.shards[k].lo=(s.shards[k].cold e,true):=by
 unfold exportShard
 rw[w.good.findAt_is w.hk (lo:=s.shards[k].lo) (st:=1) (by rw[w.at_];rfl) (by rw[w.at_];rfl),(Store.good_iff _).2 w.good]
 simp only[Int.toNat_natCast,Shard.at_get w.hk,w.at_]
 simp
theorem Froze.retire {s f:Store} {k:Nat} {hk:k<s.shards.length} {e:Int} (w:Froze s f k hk e):retireShard f s.shards[k].lo e=(f.without k,true):=by
 unfold retireShard
 rw[w.good.findAt_is w.hk (lo:=s.shards[k].lo) (st:=1) (by rw[w.at_];rfl) (by rw[w.at_];rfl),(Store.good_iff _).2 w.good]
 simp only[Int.toNat_natCast,Shard.at_get w.hk,w.at_]
 simp[Shard.cold]
theorem erase_at {α:Type}: ∀(xs:List α) (k:Nat) (hk:k<xs.length) {x:α},x∈xs.eraseIdx k→ ∃j,∃hj:j<xs.length,j≠k∧xs[j]=x
 | a::r,0,_,x,h=>by
   obtain ⟨j,hj,rfl⟩:=List.mem_iff_getElem.1 (show x∈r from h)
   exact ⟨j+1,by simp;omega,by omega,rfl⟩
 | a::r,k+1,hk,x,h=>by
   rcases List.mem_cons.1 (show x∈a::r.eraseIdx k from h) with rfl | h
   ·exact ⟨0,by simp,by omega,rfl⟩
   ·obtain ⟨j,hj,hn,he⟩:=erase_at r k (by simp at hk;omega) h
    exact ⟨j+1,by simp;omega,by omega,he⟩
theorem Store.Good.gone {s:Store} (g:s.Good) {k:Nat} (hk:k<s.shards.length) (st:Int):findAt (s.without k).shards s.shards[k].lo st= -1:=by
 refine findI_none fun t ht=> ?_
 obtain ⟨j,hj,hn,rfl⟩:=erase_at s.shards k hk ht
 have:s.shards[j].lo≠s.shards[k].lo:=fun hc=>by
  have h1:=g.lh hj
  have h2:=g.lh hk
  exact hn (g.one_of (a:=s.shards[k].lo) hj hk (by omega) (by omega))
 simp[this]
theorem retire_gone {s:Store} {lo e:Int} (h:findAt s.shards lo 1= -1):retireShard s lo e=(s,false):=by
 unfold retireShard
 rw[h]
 simp
theorem Froze.twice {s f:Store} {k:Nat} {hk:k<s.shards.length} {e:Int} (w:Froze s f k hk e) (e':Int):retireShard (f.without k) s.shards[k].lo e'=(f.without k,false):=by
 have hkf:=w.hk
 have h:=w.good.gone w.hk 1
 have hl:f.shards[k].lo=s.shards[k].lo:=by rw[w.at_];rfl
 rw[hl] at h
 exact retire_gone h
theorem Froze.left {s f:Store} {k:Nat} {hk:k<s.shards.length} {e:Int} (w:Froze s f k hk e):(f.without k).shards.length=s.shards.length-1∧(f.without k).Good:=by
 refine ⟨?_,?_⟩
 ·simp only[Store.without,List.length_eraseIdx,w.hk,if_true]
  have:=w.len
  omega
 ·have:=retireShard_good w.good s.shards[k].lo e
  rw[w.retire] at this
  exact this
theorem Froze.cold {s f:Store} {k:Nat} {hk:k<s.shards.length} {e:Int} (w:Froze s f k hk e) {q:Request} (hq:q.epoch=e) (hid:s.shards[k].lo≤q.id∧q.id≤s.shards[k].hi) (ho:0≤q.op∧q.op<8):(doStore f q).2.1=10:=by
 unfold doStore
 have hkf:=w.hk
 have hf:=w.good.findId_is w.hk (a:=q.id) (by rw[w.at_];exact hid)
 have hop:inR q.op 0 8=true:=by simp[inR];omega
 have h8:(q.op==8)=false:=by simp;omega
 have hr:refuse f.shards[k] q=10:=by
  rw[w.at_]
  unfold refuse Shard.cold
  simp[hq,h8]
 rw[(Store.good_iff _).2 w.good,hop,hf]
 simp[Shard.at_get w.hk,hr]
theorem Shard.cold_good {x:Shard} (g:x.Good) {e:Int} (he:1≤e∧e≤1000000):(x.cold e).Good:=⟨g.lh,.inr rfl,he,g.srt,g.fine,g.bl,g.fl,g.acc,g.fs,g.fin⟩
theorem Shard.cold_ok {x:Shard} (g:x.Ok) {e:Int} (he:1≤e∧e≤1000000):(x.cold e).Ok:=⟨g.lo,g.hi,by simp[Shard.cold],by simp only[Shard.cold];omega,g.book,g.finished⟩
theorem install_void {gr sn:Int} (hg:0≤gr∧gr≤99) {x:Shard} (gx:x.Good) {e:Int} (hs:0≤sn∧sn≤e) (he:1≤e∧e<1000000):installShard (Store.void gr sn) (x.cold e) (e+1)=(⟨gr,e+1,[{x with state:=0,epoch:=e+1}]⟩,true):=by
 have hn:(Store.void gr sn).next (e+1)=true:=(Store.next_iff _ _).2 ⟨(Store.void_good hg (by omega)).good,by show sn<e+1;omega,by omega⟩
 have hx:=(Shard.good_iff _).2 (Shard.cold_good gx (e:=e) (by omega))
 have hlt:e<e+1:=by omega
 unfold installShard installable
 rw[hn,hx]
 simp[Store.void,Shard.cold,hlt,Store.plus,Store.spot,Store.renew,Shard.renew,Shard.awake]
theorem install_again {s:Store} {x:Shard} {e:Int} (h:e≤s.seen):installShard s x e=(s,false):=by
 have hn:s.next e=false:=by
  cases hc:s.next e with
  | false=>rfl
  | true=>have:=(Store.next_iff s e).1 hc;omega
 unfold installShard installable
 rw[hn]
 simp
end Go.Proofs.YthofpopafchelaaGreat.A
namespace Go.Proofs.YthofpopafchelaaGreat.A
open Go
set_option linter.unusedSimpArgs false
set_option linter.unusedVariables false
theorem same_dec (x y:Int):(x==y)=decide (x=y):=by rw[Bool.eq_iff_iff];simp
theorem sameA_eqs (a b:Account):eqsR true [.i .u64,.i .u64,.i .u64,.i .u64,.i .i64] (some (.agg a.enc)) (some (.agg b.enc))=some (.bool (!decide (a=b))):=by
 obtain ⟨a1,a2,a3,a4,a5⟩:=a
 obtain ⟨b1,b2,b3,b4,b5⟩:=b
 have hc:cellsEq? [.i .u64,.i .u64,.i .u64,.i .u64,.i .i64] (Account.enc ⟨a1,a2,a3,a4,a5⟩) (Account.enc ⟨b1,b2,b3,b4,b5⟩)=some (decide ((⟨a1,a2,a3,a4,a5⟩:Account)=⟨b1,b2,b3,b4,b5⟩)):=by
  simp only[cellsEq?,eqK,Account.enc,same_dec]
  by_cases h1:a1=b1<;>by_cases h2:a2=b2<;>by_cases h3:a3=b3<;>by_cases h4:a4=b4<;>by_cases h5:a5=b5<;>simp[h1,h2,h3,h4,h5]
 simp only[eqsR,hc,Account.len,List.length_cons,List.length_nil,and_self,if_true,Option.bind_some,Bool.true_xor]
theorem sameF_eqs (a b:Fin):eqsR true [.i .i64,.i .u64] (some (.agg a.enc)) (some (.agg b.enc))=some (.bool (!decide (a=b))):=by
 obtain ⟨a1,a2⟩:=a
 obtain ⟨b1,b2⟩:=b
 have hc:cellsEq? [.i .i64,.i .u64] (Fin.enc ⟨a1,a2⟩) (Fin.enc ⟨b1,b2⟩)=some (decide ((⟨a1,a2⟩:Fin)=⟨b1,b2⟩)):=by
  simp only[cellsEq?,eqK,Fin.enc,same_dec]
  by_cases h1:a1=b1<;>by_cases h2:a2=b2<;>simp[h1,h2]
 simp only[eqsR,hc,Fin.len,List.length_cons,List.length_nil,and_self,if_true,Option.bind_some,Bool.true_xor]
section
variable {F:Nat→Option RF} {Z:CallF} {h:Heap} {cs cs':List Cell} {fp fq:List Nat}
theorem sameBook_r {t u:Book} (hLBook:Has F tLBook) (v:Book.RI h cs t fp) (v':Book.RI h cs' u fq):call F Z 397 [.agg cs,.agg cs'] h=some (.c (.bool (decide (t=u))),h):=by
 obtain ⟨x,p1,rfl,rfl,w⟩:=v
 obtain ⟨y,p1',rfl,rfl,v⟩:=v'
 obtain ⟨xs⟩:=t
 obtain ⟨ys⟩:=u
 simp only at w v
 have hw:=w.le2
 have hv:=v.le2
 have hq:decide ((⟨xs⟩:Book)=⟨ys⟩)=decide (xs=ys):=by simp
 rw[hq,call_run F Z (hLBook.lk (g:=397) rfl) _ _ rfl]
 simp only[rn,RO.dst,lk,drop,Nat.reduceBEq,Nat.reduceAdd,Nat.reduceLeDiff,↓reduceIte,reduceCtorEq,w.len,v.len]
 rw[condC_if]
 split
 ·rename_i hne
  have:xs≠ys:=by rintro rfl;simp at hne
  simp only[rn,RO.dst,lk,drop,Nat.reduceBEq,Nat.reduceAdd,Nat.reduceLeDiff,↓reduceIte,reduceCtorEq,this]
 ·rename_i he
  have he:xs.length=ys.length:=by simp at he;omega
  simp only[rn,RO.dst,lk,drop,Nat.reduceBEq,Nat.reduceAdd,Nat.reduceLeDiff,↓reduceIte,reduceCtorEq]
  have key:=loop_allN (F:=F) (Z:=Z) (live:=[2,3,5]) (b:=r397L0) xs.length (fun i=>⟨[(5,.c (.int .i64 (i:Nat)))],[(2,2,0),(3,3,0)],[(2,[x]),(3,[y])],h⟩) (fun i=>decide (xs[i]? =ys[i]?)) (fun s=>lk s.env 4=some (.c (.bool false))∧s.hp=h) fun i hi=>by
   have hi':i<ys.length:=by omega
   have hlt:(i:Int)<xs.length:=by omega
   have hl1:=w.load hi
   have hl2:=v.load hi'
   rw[loop_run]
   conv in (codeF _ _ r397L0 _)=>unfold r397L0
   simp only[rn,RO.dst,lk,drop,Nat.reduceBEq,Nat.reduceAdd,Nat.reduceLeDiff,↓reduceIte,reduceCtorEq,w.len,hlt,w.idx hi,v.idx hi',hl1,hl2,Account.len,Account.tak,sameA_eqs,wrapS i (by omega)]
   rw[List.getElem?_eq_getElem hi,List.getElem?_eq_getElem hi']
   by_cases hq:xs[i]=ys[i]
   ·simp only[rn,RO.dst,lk,drop,Nat.reduceBEq,Nat.reduceAdd,Nat.reduceLeDiff,↓reduceIte,reduceCtorEq,hq,wrapS i (by omega)]
    exact .inl ⟨by simp,rfl⟩
   ·simp only[rn,RO.dst,lk,drop,Nat.reduceBEq,Nat.reduceAdd,Nat.reduceLeDiff,↓reduceIte,reduceCtorEq,hq]
    exact .inr ⟨by simp[hq],_,rfl,rfl,rfl⟩
  rw[all_same he] at key
  rcases key with ⟨k1,k2⟩ | ⟨k1,s,k2,k3,k4⟩
  ·simp only[show ((0:Nat):Int)=0 from rfl] at k2
   rw[k2,loop_run]
   conv in (codeF _ _ r397L0 _)=>unfold r397L0
   have hlt: ¬(xs.length:Int)<xs.length:=by omega
   simp only[rn,RO.dst,lk,drop,Nat.reduceBEq,Nat.reduceAdd,Nat.reduceLeDiff,↓reduceIte,reduceCtorEq,w.len,hlt,k1]
  ·simp only[show ((0:Nat):Int)=0 from rfl] at k2
   rw[k2]
   simp only[rn,RO.dst,lk,drop,Nat.reduceBEq,Nat.reduceAdd,Nat.reduceLeDiff,↓reduceIte,reduceCtorEq,k3,k4,k1]
set_option maxHeartbeats 2000000 in
theorem sameShard_r {t u:Shard} (hLShard:Has F tLShard) (hLBook:Has F tLBook) (v:Shard.RI h cs t fp) (v':Shard.RI h cs' u fq):call F Z 394 [.agg cs,.agg cs'] h=some (.c (.bool (decide (t=u))),h):=by
 obtain ⟨x1,p1,x,p2,rfl,rfl,w1,w⟩:=v
 obtain ⟨y1,p1',y,p2',rfl,rfl,v1,v⟩:=v'
 obtain ⟨lo1,hi1,state1,epoch1,book1,xs⟩:=t
 obtain ⟨lo2,hi2,state2,epoch2,book2,ys⟩:=u
 simp only at w v w1 v1
 have hw:=w.le2
 have hv:=v.le2
 have e0:=sameBook_r (Z:=Z) hLBook (⟨x1,_,rfl,rfl,w1⟩:Book.RI h _ book1 _) (⟨y1,_,rfl,rfl,v1⟩:Book.RI h _ book2 _)
 rw[call_run F Z (hLShard.lk (g:=394) rfl) _ _ rfl]
 cases q1:(lo1 !=lo2) with
 | true=>
   have hne:lo1≠lo2:=by simpa using q1
   simp only[rn,RO.dst,lk,drop,Nat.reduceBEq,Nat.reduceAdd,Nat.reduceLeDiff,↓reduceIte,reduceCtorEq,q1]
   simp[hne]
 | false=>
 cases q2:(hi1 !=hi2) with
 | true=>
   have hne:hi1≠hi2:=by simpa using q2
   simp only[rn,RO.dst,lk,drop,Nat.reduceBEq,Nat.reduceAdd,Nat.reduceLeDiff,↓reduceIte,reduceCtorEq,q1,q2]
   simp[hne]
 | false=>
 cases q3:(state1 !=state2) with
 | true=>
   have hne:state1≠state2:=by simpa using q3
   simp only[rn,RO.dst,lk,drop,Nat.reduceBEq,Nat.reduceAdd,Nat.reduceLeDiff,↓reduceIte,reduceCtorEq,q1,q2,q3]
   simp[hne]
 | false=>
 cases q4:(epoch1 !=epoch2) with
 | true=>
   have hne:epoch1≠epoch2:=by simpa using q4
   simp only[rn,RO.dst,lk,drop,Nat.reduceBEq,Nat.reduceAdd,Nat.reduceLeDiff,↓reduceIte,reduceCtorEq,q1,q2,q3,q4]
   simp[hne]
 | false=>
 by_cases q5:book1=book2
 case neg=>
  simp only[q5,decide_false] at e0
  simp only[rn,RO.dst,lk,drop,Nat.reduceBEq,Nat.reduceAdd,Nat.reduceLeDiff,↓reduceIte,reduceCtorEq,q1,q2,q3,q4,e0]
  simp[q5]
 simp only[q5,decide_true] at e0
 cases q6:(((xs.length:Nat):Int) !=((ys.length:Nat):Int)) with
 | true=>
   have hne:xs≠ys:=by rintro rfl;simp at q6
   simp only[rn,RO.dst,lk,drop,Nat.reduceBEq,Nat.reduceAdd,Nat.reduceLeDiff,↓reduceIte,reduceCtorEq,q1,q2,q3,q4,e0,w.len,v.len,q6]
   simp[hne]
 | false=>
 have he:xs.length=ys.length:=by simp at q6;omega
 have t1:lo1=lo2:=by simpa using q1
 have t2:hi1=hi2:=by simpa using q2
 have t3:state1=state2:=by simpa using q3
 have t4:epoch1=epoch2:=by simpa using q4
 have hq:decide ((⟨lo1,hi1,state1,epoch1,book1,xs⟩:Shard)=⟨lo2,hi2,state2,epoch2,book2,ys⟩)=decide (xs=ys):=by simp[t1,t2,t3,t4,q5]
 rw[hq]
 have key:=loop_allN (F:=F) (Z:=Z) (live:=[2,3,5]) (b:=r394L0) xs.length (fun i=>⟨[(5,.c (.int .i64 (i:Nat)))],[(2,2,0),(3,3,0)],[(2,[.int .u64 lo1,.int .u64 hi1,.int .i64 state1,.int .i64 epoch1,x1,x]),(3,[.int .u64 lo2,.int .u64 hi2,.int .i64 state2,.int .i64 epoch2,y1,y])],h⟩) (fun i=>decide (xs[i]? =ys[i]?)) (fun s=>lk s.env 4=some (.c (.bool false))∧s.hp=h) fun i hi=>by
  have hi':i<ys.length:=by omega
  have hlt:(i:Int)<xs.length:=by omega
  have hl1:=w.load hi
  have hl2:=v.load hi'
  rw[loop_run]
  conv in (codeF _ _ r394L0 _)=>unfold r394L0
  simp only[rn,RO.dst,lk,drop,Nat.reduceBEq,Nat.reduceAdd,Nat.reduceLeDiff,↓reduceIte,reduceCtorEq,w.len,hlt,w.idx hi,v.idx hi',hl1,hl2,Fin.len,Fin.tak,sameF_eqs,wrapS i (by omega)]
  rw[List.getElem?_eq_getElem hi,List.getElem?_eq_getElem hi']
  by_cases hq:xs[i]=ys[i]
  ·simp only[rn,RO.dst,lk,drop,Nat.reduceBEq,Nat.reduceAdd,Nat.reduceLeDiff,↓reduceIte,reduceCtorEq,hq,wrapS i (by omega)]
   exact .inl ⟨by simp,rfl⟩
  ·simp only[rn,RO.dst,lk,drop,Nat.reduceBEq,Nat.reduceAdd,Nat.reduceLeDiff,↓reduceIte,reduceCtorEq,hq]
   exact .inr ⟨by simp[hq],_,rfl,rfl,rfl⟩
 rw[all_same he] at key
 simp only[rn,RO.dst,lk,drop,Nat.reduceBEq,Nat.reduceAdd,Nat.reduceLeDiff,↓reduceIte,reduceCtorEq,q1,q2,q3,q4,e0,w.len,v.len,q6]
 rcases key with ⟨k1,k2⟩ | ⟨k1,s,k2,k3,k4⟩
 ·simp only[show ((0:Nat):Int)=0 from rfl] at k2
  rw[k2,loop_run]
  conv in (codeF _ _ r394L0 _)=>unfold r394L0
  have hlt: ¬(xs.length:Int)<xs.length:=by omega
  simp only[rn,RO.dst,lk,drop,Nat.reduceBEq,Nat.reduceAdd,Nat.reduceLeDiff,↓reduceIte,reduceCtorEq,w.len,hlt,k1]
 ·simp only[show ((0:Nat):Int)=0 from rfl] at k2
  rw[k2]
  simp only[rn,RO.dst,lk,drop,Nat.reduceBEq,Nat.reduceAdd,Nat.reduceLeDiff,↓reduceIte,reduceCtorEq,k3,k4,k1]
set_option maxHeartbeats 2000000 in
theorem sameStore_r {t u:Store} (hLStore:Has F tLStore) (hLShard:Has F tLShard) (hLBook:Has F tLBook) (v:Store.RI h cs t fp) (v':Store.RI h cs' u fq):call F Z 385 [.agg cs,.agg cs'] h=some (.c (.bool (decide (t=u))),h):=by
 obtain ⟨x,p2,rfl,rfl,w⟩:=v
 obtain ⟨y,p2',rfl,rfl,v⟩:=v'
 obtain ⟨g1,s1,xs⟩:=t
 obtain ⟨g2,s2,ys⟩:=u
 simp only at w v
 have hw:=w.le2
 have hv:=v.le2
 rw[call_run F Z (hLStore.lk (g:=385) rfl) _ _ rfl]
 cases q1:(g1 !=g2) with
 | true=>
   have hne:g1≠g2:=by simpa using q1
   simp only[rn,RO.dst,lk,drop,Nat.reduceBEq,Nat.reduceAdd,Nat.reduceLeDiff,↓reduceIte,reduceCtorEq,q1]
   simp[hne]
 | false=>
 cases q2:(s1 !=s2) with
 | true=>
   have hne:s1≠s2:=by simpa using q2
   simp only[rn,RO.dst,lk,drop,Nat.reduceBEq,Nat.reduceAdd,Nat.reduceLeDiff,↓reduceIte,reduceCtorEq,q1,q2]
   simp[hne]
 | false=>
 cases q6:(((xs.length:Nat):Int) !=((ys.length:Nat):Int)) with
 | true=>
   have hne:xs≠ys:=by rintro rfl;simp at q6
   simp only[rn,RO.dst,lk,drop,Nat.reduceBEq,Nat.reduceAdd,Nat.reduceLeDiff,↓reduceIte,reduceCtorEq,q1,q2,w.len,v.len,q6]
   simp[hne]
 | false=>
 have he:xs.length=ys.length:=by simp at q6;omega
 have t1:g1=g2:=by simpa using q1
 have t2:s1=s2:=by simpa using q2
 have hq:decide ((⟨g1,s1,xs⟩:Store)=⟨g2,s2,ys⟩)=decide (xs=ys):=by simp[t1,t2]
 rw[hq]
 have key:=loop_allN (F:=F) (Z:=Z) (live:=[2,3,5]) (b:=r385L0) xs.length (fun i=>⟨[(5,.c (.int .i64 (i:Nat)))],[(2,2,0),(3,3,0)],[(2,[.int .i64 g1,.int .i64 s1,x]),(3,[.int .i64 g2,.int .i64 s2,y])],h⟩) (fun i=>decide (xs[i]? =ys[i]?)) (fun s=>lk s.env 4=some (.c (.bool false))∧s.hp=h) fun i hi=>by
  have hi':i<ys.length:=by omega
  have hlt:(i:Int)<xs.length:=by omega
  obtain ⟨r,f,hld,hr,_⟩:=w.one hi
  obtain ⟨r',f',hld',hr',_⟩:=v.one hi'
  obtain ⟨l1,l2,l3⟩:=Shard.lenI hr
  obtain ⟨l1',l2',l3'⟩:=Shard.lenI hr'
  have e:=sameShard_r (Z:=Z) (h:=⟨h.next,h.next,h.get⟩) hLShard hLBook (Shard.okI.up hr _) (Shard.okI.up hr' _)
  rw[loop_run]
  conv in (codeF _ _ r385L0 _)=>unfold r385L0
  simp only[rn,RO.dst,lk,drop,Nat.reduceBEq,Nat.reduceAdd,Nat.reduceLeDiff,↓reduceIte,reduceCtorEq,w.len,hlt,w.idx hi,v.idx hi',hld,hld',l1,l2,l1',l2',e,wrapS i (by omega)]
  rw[List.getElem?_eq_getElem hi,List.getElem?_eq_getElem hi']
  by_cases hq:xs[i]=ys[i]
  ·simp only[rn,RO.dst,lk,drop,Nat.reduceBEq,Nat.reduceAdd,Nat.reduceLeDiff,↓reduceIte,reduceCtorEq,hq,wrapS i (by omega)]
   exact .inl ⟨by simp,rfl⟩
  ·simp only[rn,RO.dst,lk,drop,Nat.reduceBEq,Nat.reduceAdd,Nat.reduceLeDiff,↓reduceIte,reduceCtorEq,hq]
   exact .inr ⟨by simp[hq],_,rfl,rfl,rfl⟩
 rw[all_same he] at key
 simp only[rn,RO.dst,lk,drop,Nat.reduceBEq,Nat.reduceAdd,Nat.reduceLeDiff,↓reduceIte,reduceCtorEq,q1,q2,w.len,v.len,q6]
 rcases key with ⟨k1,k2⟩ | ⟨k1,s,k2,k3,k4⟩
 ·simp only[show ((0:Nat):Int)=0 from rfl] at k2
  rw[k2,loop_run]
  conv in (codeF _ _ r385L0 _)=>unfold r385L0
  have hlt: ¬(xs.length:Int)<xs.length:=by omega
  simp only[rn,RO.dst,lk,drop,Nat.reduceBEq,Nat.reduceAdd,Nat.reduceLeDiff,↓reduceIte,reduceCtorEq,w.len,hlt,k1]
 ·simp only[show ((0:Nat):Int)=0 from rfl] at k2
  rw[k2]
  simp only[rn,RO.dst,lk,drop,Nat.reduceBEq,Nat.reduceAdd,Nat.reduceLeDiff,↓reduceIte,reduceCtorEq,k3,k4,k1]
end
end Go.Proofs.YthofpopafchelaaGreat.A
namespace Go.Proofs.YthofpopafchelaaGreat.A
open Go
set_option linter.unusedSimpArgs false
set_option linter.unusedVariables false
section
variable {F:Nat→Option RF} {Z:CallF} {h:Heap} {cs:List Cell} {fp:List Nat} {s:Store}
set_option maxHeartbeats 4000000 in
set_option maxRecDepth 8000 in
theorem do_op0 (k:KI F) (hL:Has F tLibslicesIndexFuncimplShardimplShard) (pri:PrimAt F Z 343 (insF 11 40)) (prd:PrimAt F Z 348 (delF 11)) (prs:PrimAt F Z 375 (sortF 9 267)) (hf:h.floor≤h.next) (v:Store.RI h cs s fp) (qe qi qa qt:Int) (okq:(⟨qe,0,qi,qa,qt⟩:Request).Ok) (ok:s.Ok) (sm:s.Small):
 DoStoreAt F Z h cs s ⟨qe,0,qi,qa,qt⟩:=by
 unfold DoStoreAt
 obtain ⟨l1,l2,l3⟩:=Store.lenI v
 obtain ⟨cs1,h1,fr,e1,o1,v1,f1⟩:=copyStore_c (Z:=Z) k hf v sm
 obtain ⟨h2,e2,o2⟩:=isStore_run (Z:=Z) k (Store.okI.on v o1) ok
 obtain ⟨h3,e3,o3⟩:=shardWith_on (Z:=Z) k.i13 hL (Store.okI.on (Store.okI.on v o1) o2) qi
 have o12:=o1.trans o2
 have o13:=o12.trans o3
 obtain ⟨y,p,rfl,hp,w12⟩:=Store.okI.on v1 o2
 subst hp
 have w:=w12.on Shard.okI o3
 rw[call_run F Z (k.i13.lk (g:=387) rfl) _ _ rfl]
 simp only[Request.enc]
 cases hg:s.good with
 | false=>
   rw[hg] at e2
   rw[dost_bad (by simp[hg])]
   simp only[rn,RO.dst,lk,drop,Nat.reduceBEq,Nat.reduceAdd,Nat.reduceLeDiff,↓reduceIte,reduceCtorEq,Int.reduceLT,Int.reduceLE,Int.reduceGT,Int.reduceGE,Int.reduceBEq,Int.reduceBNe,Int.reduceEq,Int.reduceNe,Int.reduceNeg,l1,l2,l3,e1,e2]
   exact ⟨_,_,_,rfl,o12,⟨y,_,rfl,rfl,w12⟩,f1⟩
 | true=>
 rw[hg] at e2
 have hin:(s.good&&inR (⟨qe,0,qi,qa,qt⟩:Request).op 0 8)=true:=by rw[hg];rfl
 have v3:=Store.okI.on v o13
 obtain ⟨x,p,rfl,hp,wx⟩:=v3
 subst hp
 rcases wx.found (fun t=>decide (t.lo≤qi)&&decide (qi≤t.hi)) with q | ⟨i,q,hi,hpi,_⟩
 ·change findId s.shards qi= -1 at q
  rw[dost_away hin q]
  rw[q] at e3
  simp only[rn,RO.dst,lk,drop,Nat.reduceBEq,Nat.reduceAdd,Nat.reduceLeDiff,↓reduceIte,reduceCtorEq,Int.reduceLT,Int.reduceLE,Int.reduceGT,Int.reduceGE,Int.reduceBEq,Int.reduceBNe,Int.reduceEq,Int.reduceNe,Int.reduceNeg,l1,l2,l3,e1,e2,e3]
  exact ⟨_,_,_,rfl,o13,⟨y,_,rfl,rfl,w⟩,f1⟩
 change findId s.shards qi=(i:Int) at q
 rw[q] at e3
 rw[dost_at hin q,Shard.at_get hi]
 have g0: ¬(i:Int)<0:=by omega
 have hyi:=w.idx hi
 have okX:=ok.shards _ (List.getElem_mem hi)
 have smX:=sm.2 _ (List.getElem_mem hi)
 have smf:s.shards[i].finished.length≤1048576:=smX.2
 have smb:s.shards[i].book.list.length≤1048576:=smX.1
 have hbk:bookOk s.shards[i].book.list=true:=by
  have:=Store.fit_at hg hi
  simp only[Store.fits,Bool.and_eq_true,Shard.at_get hi,Shard.good,Shard.head] at this
  exact this.1.1.2.2.2.1
 obtain ⟨xb,xf,pb,pf,rows,hgr,hrr,wb,wf,fin⟩:=row_book o13 hf w f1 hi
 have hld:=fun j n=>loadP_row hgr hrr j n
 have eC:=containsFin_run (F:=F) (Z:=Z) k.li k.lc (wf.up (Fl.ok _) h3.next) ⟨qt,qi⟩
 simp only[Fin.enc] at eC
 have hlen:=wf.len
 obtain ⟨yb,hq,fb,eB,oB,uB,dB⟩:=doBook_c (Z:=Z) (h:=⟨h3.next,h3.next,h3.get⟩) k.i10 k.i13 pri prd (Nat.le_refl _) (wb.up (Fl.ok _) h3.next) ⟨qe,0,qi,qa,qt⟩ okq okX.book.list smb hbk
 simp only[Request.enc] at eB
 obtain ⟨g1,hg1⟩: ∃g1,Heap.mk hq.next h3.floor hq.get=g1:=⟨_,rfl⟩
 have oB1:On h3 g1:=by rw[←hg1];exact ⟨⟨oB.ext.1,oB.ext.2⟩,rfl⟩
 have uB1:SlR 11 (Fl Account.enc) g1 yb (doBook s.shards[i].book.list ⟨qe,0,qi,qa,qt⟩).1 fb:=by rw[←hg1];exact uB.up (Fl.ok _) h3.floor
 have ndB:fb.Nodup:=by
  rcases dB with d | ⟨_,d⟩
  ·exact d.nd
  ·rw[d];exact wb.nodup
 obtain ⟨g2,fqs,rows2,st,og2,fq2,w2,u2,hg2,hr2⟩:=fin g1 yb _ fb oB1 uB1 ndB (by
  rcases dB with d | ⟨_,d⟩
  ·exact .inl ⟨d.lo,d.nd⟩
  ·exact .inr d)
 cases cA:(s.shards[i].epoch !=qe) with
 | true=>
   have cA':(s.shards[i].epoch==qe)=false:=by simpa using cA
   have hR:refuse s.shards[i] ⟨qe,0,qi,qa,qt⟩=9:=by simp[refuse,inR,Request.ends,Request.fin,cA']
   rw[hR]
   simp only[show ((9:Int)==0)=false from rfl,cond_false]
   simp only[rn,RO.dst,lk,drop,Nat.reduceBEq,Nat.reduceAdd,Nat.reduceLeDiff,↓reduceIte,reduceCtorEq,Int.reduceLT,Int.reduceLE,Int.reduceGT,Int.reduceGE,Int.reduceBEq,Int.reduceBNe,Int.reduceEq,Int.reduceNe,Int.reduceNeg,l1,l2,l3,e1,e2,e3,hyi,hld,eC,hlen,g0,cA]
   exact ⟨_,_,_,rfl,o13,⟨y,_,rfl,rfl,w⟩,f1⟩
 | false=>
 have cA':(s.shards[i].epoch==qe)=true:=by simpa using cA
 cases cB:(s.shards[i].state==1) with
 | true=>
   have hR:refuse s.shards[i] ⟨qe,0,qi,qa,qt⟩=10:=by simp[refuse,inR,Request.ends,Request.fin,cA',cB]
   rw[hR]
   simp only[show ((10:Int)==0)=false from rfl,cond_false]
   simp only[rn,RO.dst,lk,drop,Nat.reduceBEq,Nat.reduceAdd,Nat.reduceLeDiff,↓reduceIte,reduceCtorEq,Int.reduceLT,Int.reduceLE,Int.reduceGT,Int.reduceGE,Int.reduceBEq,Int.reduceBNe,Int.reduceEq,Int.reduceNe,Int.reduceNeg,l1,l2,l3,e1,e2,e3,hyi,hld,eC,hlen,g0,cA,cB]
   exact ⟨_,_,_,rfl,o13,⟨y,_,rfl,rfl,w⟩,f1⟩
 | false=>
 have hR:refuse s.shards[i] ⟨qe,0,qi,qa,qt⟩=0:=by simp[refuse,inR,Request.ends,Request.fin,cA',cB]
 rw[hR]
 simp only[beq_self_eq_true,cond_true]
 have hS:doShard s.shards[i] ⟨qe,0,qi,qa,qt⟩={s.shards[i] with book:=⟨(doBook s.shards[i].book.list ⟨qe,0,qi,qa,qt⟩).1⟩}:=by simp[doShard,Request.ends,Request.fin,cA',cB]
 rw[hS]
 have eA:=accountOf_run (Z:=Z) k.i10 u2 qi
 rcases val_cases (a:=qi) (doBook_srt hbk ⟨qe,0,qi,qa,qt⟩) with ⟨v1,v2⟩ | ⟨v1,v2,v3,v4⟩ | ⟨v1,j,v2,v3,v4,v5,v6⟩
 ·have v1':((doBook s.shards[i].book.list ⟨qe,0,qi,qa,qt⟩).2==0)=false:=by simpa using v1
  rw[v2]
  simp only[rn,RO.dst,lk,drop,Nat.reduceBEq,Nat.reduceAdd,Nat.reduceLeDiff,↓reduceIte,reduceCtorEq,Int.reduceLT,Int.reduceLE,Int.reduceGT,Int.reduceGE,Int.reduceBEq,Int.reduceBNe,Int.reduceEq,Int.reduceNe,Int.reduceNeg,l1,l2,l3,e1,e2,e3,hyi,hld,eC,hlen,g0,cA,cB,eB,hg1,st,eA,v1']
  exact ⟨_,_,_,rfl,og2,⟨y,_,rfl,rfl,w2⟩,fq2⟩
 ·have v1':((doBook s.shards[i].book.list ⟨qe,0,qi,qa,qt⟩).2==0)=true:=by simpa using v1
  rw[v4]
  rw[v2] at eA
  simp only[rn,RO.dst,lk,drop,Nat.reduceBEq,Nat.reduceAdd,Nat.reduceLeDiff,↓reduceIte,reduceCtorEq,Int.reduceLT,Int.reduceLE,Int.reduceGT,Int.reduceGE,Int.reduceBEq,Int.reduceBNe,Int.reduceEq,Int.reduceNe,Int.reduceNeg,l1,l2,l3,e1,e2,e3,hyi,hld,eC,hlen,g0,cA,cB,eB,hg1,st,eA,v1']
  exact ⟨_,_,_,rfl,og2,⟨y,_,rfl,rfl,w2⟩,fq2⟩
 ·have v1':((doBook s.shards[i].book.list ⟨qe,0,qi,qa,qt⟩).2==0)=true:=by simpa using v1
  rw[v6,Account.at_get v5]
  rw[v2,v3] at eA
  have hx:=u2.idx v5
  have hl:=u2.load v5
  simp only[Account.enc] at hl
  simp only[rn,RO.dst,lk,drop,Nat.reduceBEq,Nat.reduceAdd,Nat.reduceLeDiff,↓reduceIte,reduceCtorEq,Int.reduceLT,Int.reduceLE,Int.reduceGT,Int.reduceGE,Int.reduceBEq,Int.reduceBNe,Int.reduceEq,Int.reduceNe,Int.reduceNeg,l1,l2,l3,e1,e2,e3,hyi,hld,eC,hlen,g0,cA,cB,eB,hg1,st,eA,v1',hx,hl]
  exact ⟨_,_,_,rfl,og2,⟨y,_,rfl,rfl,w2⟩,fq2⟩
set_option maxHeartbeats 4000000 in
set_option maxRecDepth 8000 in
theorem do_op1 (k:KI F) (hL:Has F tLibslicesIndexFuncimplShardimplShard) (pri:PrimAt F Z 343 (insF 11 40)) (prd:PrimAt F Z 348 (delF 11)) (prs:PrimAt F Z 375 (sortF 9 267)) (hf:h.floor≤h.next) (v:Store.RI h cs s fp) (qe qi qa qt:Int) (okq:(⟨qe,1,qi,qa,qt⟩:Request).Ok) (ok:s.Ok) (sm:s.Small):
 DoStoreAt F Z h cs s ⟨qe,1,qi,qa,qt⟩:=by
 unfold DoStoreAt
 obtain ⟨l1,l2,l3⟩:=Store.lenI v
 obtain ⟨cs1,h1,fr,e1,o1,v1,f1⟩:=copyStore_c (Z:=Z) k hf v sm
 obtain ⟨h2,e2,o2⟩:=isStore_run (Z:=Z) k (Store.okI.on v o1) ok
 obtain ⟨h3,e3,o3⟩:=shardWith_on (Z:=Z) k.i13 hL (Store.okI.on (Store.okI.on v o1) o2) qi
 have o12:=o1.trans o2
 have o13:=o12.trans o3
 obtain ⟨y,p,rfl,hp,w12⟩:=Store.okI.on v1 o2
 subst hp
 have w:=w12.on Shard.okI o3
 rw[call_run F Z (k.i13.lk (g:=387) rfl) _ _ rfl]
 simp only[Request.enc]
 cases hg:s.good with
 | false=>
   rw[hg] at e2
   rw[dost_bad (by simp[hg])]
   simp only[rn,RO.dst,lk,drop,Nat.reduceBEq,Nat.reduceAdd,Nat.reduceLeDiff,↓reduceIte,reduceCtorEq,Int.reduceLT,Int.reduceLE,Int.reduceGT,Int.reduceGE,Int.reduceBEq,Int.reduceBNe,Int.reduceEq,Int.reduceNe,Int.reduceNeg,l1,l2,l3,e1,e2]
   exact ⟨_,_,_,rfl,o12,⟨y,_,rfl,rfl,w12⟩,f1⟩
 | true=>
 rw[hg] at e2
 have hin:(s.good&&inR (⟨qe,1,qi,qa,qt⟩:Request).op 0 8)=true:=by rw[hg];rfl
 have v3:=Store.okI.on v o13
 obtain ⟨x,p,rfl,hp,wx⟩:=v3
 subst hp
 rcases wx.found (fun t=>decide (t.lo≤qi)&&decide (qi≤t.hi)) with q | ⟨i,q,hi,hpi,_⟩
 ·change findId s.shards qi= -1 at q
  rw[dost_away hin q]
  rw[q] at e3
  simp only[rn,RO.dst,lk,drop,Nat.reduceBEq,Nat.reduceAdd,Nat.reduceLeDiff,↓reduceIte,reduceCtorEq,Int.reduceLT,Int.reduceLE,Int.reduceGT,Int.reduceGE,Int.reduceBEq,Int.reduceBNe,Int.reduceEq,Int.reduceNe,Int.reduceNeg,l1,l2,l3,e1,e2,e3]
  exact ⟨_,_,_,rfl,o13,⟨y,_,rfl,rfl,w⟩,f1⟩
 change findId s.shards qi=(i:Int) at q
 rw[q] at e3
 rw[dost_at hin q,Shard.at_get hi]
 have g0: ¬(i:Int)<0:=by omega
 have hyi:=w.idx hi
 have okX:=ok.shards _ (List.getElem_mem hi)
 have smX:=sm.2 _ (List.getElem_mem hi)
 have smf:s.shards[i].finished.length≤1048576:=smX.2
 have smb:s.shards[i].book.list.length≤1048576:=smX.1
 have hbk:bookOk s.shards[i].book.list=true:=by
  have:=Store.fit_at hg hi
  simp only[Store.fits,Bool.and_eq_true,Shard.at_get hi,Shard.good,Shard.head] at this
  exact this.1.1.2.2.2.1
 obtain ⟨xb,xf,pb,pf,rows,hgr,hrr,wb,wf,fin⟩:=row_book o13 hf w f1 hi
 have hld:=fun j n=>loadP_row hgr hrr j n
 have eC:=containsFin_run (F:=F) (Z:=Z) k.li k.lc (wf.up (Fl.ok _) h3.next) ⟨qt,qi⟩
 simp only[Fin.enc] at eC
 have hlen:=wf.len
 obtain ⟨yb,hq,fb,eB,oB,uB,dB⟩:=doBook_c (Z:=Z) (h:=⟨h3.next,h3.next,h3.get⟩) k.i10 k.i13 pri prd (Nat.le_refl _) (wb.up (Fl.ok _) h3.next) ⟨qe,1,qi,qa,qt⟩ okq okX.book.list smb hbk
 simp only[Request.enc] at eB
 obtain ⟨g1,hg1⟩: ∃g1,Heap.mk hq.next h3.floor hq.get=g1:=⟨_,rfl⟩
 have oB1:On h3 g1:=by rw[←hg1];exact ⟨⟨oB.ext.1,oB.ext.2⟩,rfl⟩
 have uB1:SlR 11 (Fl Account.enc) g1 yb (doBook s.shards[i].book.list ⟨qe,1,qi,qa,qt⟩).1 fb:=by rw[←hg1];exact uB.up (Fl.ok _) h3.floor
 have ndB:fb.Nodup:=by
  rcases dB with d | ⟨_,d⟩
  ·exact d.nd
  ·rw[d];exact wb.nodup
 obtain ⟨g2,fqs,rows2,st,og2,fq2,w2,u2,hg2,hr2⟩:=fin g1 yb _ fb oB1 uB1 ndB (by
  rcases dB with d | ⟨_,d⟩
  ·exact .inl ⟨d.lo,d.nd⟩
  ·exact .inr d)
 cases cA:(s.shards[i].epoch !=qe) with
 | true=>
   have cA':(s.shards[i].epoch==qe)=false:=by simpa using cA
   have hR:refuse s.shards[i] ⟨qe,1,qi,qa,qt⟩=9:=by simp[refuse,inR,Request.ends,Request.fin,cA']
   rw[hR]
   simp only[show ((9:Int)==0)=false from rfl,cond_false]
   simp only[rn,RO.dst,lk,drop,Nat.reduceBEq,Nat.reduceAdd,Nat.reduceLeDiff,↓reduceIte,reduceCtorEq,Int.reduceLT,Int.reduceLE,Int.reduceGT,Int.reduceGE,Int.reduceBEq,Int.reduceBNe,Int.reduceEq,Int.reduceNe,Int.reduceNeg,l1,l2,l3,e1,e2,e3,hyi,hld,eC,hlen,g0,cA]
   exact ⟨_,_,_,rfl,o13,⟨y,_,rfl,rfl,w⟩,f1⟩
 | false=>
 have cA':(s.shards[i].epoch==qe)=true:=by simpa using cA
 cases cB:(s.shards[i].state==1) with
 | true=>
   have hR:refuse s.shards[i] ⟨qe,1,qi,qa,qt⟩=10:=by simp[refuse,inR,Request.ends,Request.fin,cA',cB]
   rw[hR]
   simp only[show ((10:Int)==0)=false from rfl,cond_false]
   simp only[rn,RO.dst,lk,drop,Nat.reduceBEq,Nat.reduceAdd,Nat.reduceLeDiff,↓reduceIte,reduceCtorEq,Int.reduceLT,Int.reduceLE,Int.reduceGT,Int.reduceGE,Int.reduceBEq,Int.reduceBNe,Int.reduceEq,Int.reduceNe,Int.reduceNeg,l1,l2,l3,e1,e2,e3,hyi,hld,eC,hlen,g0,cA,cB]
   exact ⟨_,_,_,rfl,o13,⟨y,_,rfl,rfl,w⟩,f1⟩
 | false=>
 have hR:refuse s.shards[i] ⟨qe,1,qi,qa,qt⟩=0:=by simp[refuse,inR,Request.ends,Request.fin,cA',cB]
 rw[hR]
 simp only[beq_self_eq_true,cond_true]
 have hS:doShard s.shards[i] ⟨qe,1,qi,qa,qt⟩={s.shards[i] with book:=⟨(doBook s.shards[i].book.list ⟨qe,1,qi,qa,qt⟩).1⟩}:=by simp[doShard,Request.ends,Request.fin,cA',cB]
 rw[hS]
 have eA:=accountOf_run (Z:=Z) k.i10 u2 qi
 rcases val_cases (a:=qi) (doBook_srt hbk ⟨qe,1,qi,qa,qt⟩) with ⟨v1,v2⟩ | ⟨v1,v2,v3,v4⟩ | ⟨v1,j,v2,v3,v4,v5,v6⟩
 ·have v1':((doBook s.shards[i].book.list ⟨qe,1,qi,qa,qt⟩).2==0)=false:=by simpa using v1
  rw[v2]
  simp only[rn,RO.dst,lk,drop,Nat.reduceBEq,Nat.reduceAdd,Nat.reduceLeDiff,↓reduceIte,reduceCtorEq,Int.reduceLT,Int.reduceLE,Int.reduceGT,Int.reduceGE,Int.reduceBEq,Int.reduceBNe,Int.reduceEq,Int.reduceNe,Int.reduceNeg,l1,l2,l3,e1,e2,e3,hyi,hld,eC,hlen,g0,cA,cB,eB,hg1,st,eA,v1']
  exact ⟨_,_,_,rfl,og2,⟨y,_,rfl,rfl,w2⟩,fq2⟩
 ·have v1':((doBook s.shards[i].book.list ⟨qe,1,qi,qa,qt⟩).2==0)=true:=by simpa using v1
  rw[v4]
  rw[v2] at eA
  simp only[rn,RO.dst,lk,drop,Nat.reduceBEq,Nat.reduceAdd,Nat.reduceLeDiff,↓reduceIte,reduceCtorEq,Int.reduceLT,Int.reduceLE,Int.reduceGT,Int.reduceGE,Int.reduceBEq,Int.reduceBNe,Int.reduceEq,Int.reduceNe,Int.reduceNeg,l1,l2,l3,e1,e2,e3,hyi,hld,eC,hlen,g0,cA,cB,eB,hg1,st,eA,v1']
  exact ⟨_,_,_,rfl,og2,⟨y,_,rfl,rfl,w2⟩,fq2⟩
 ·have v1':((doBook s.shards[i].book.list ⟨qe,1,qi,qa,qt⟩).2==0)=true:=by simpa using v1
  rw[v6,Account.at_get v5]
  rw[v2,v3] at eA
  have hx:=u2.idx v5
  have hl:=u2.load v5
  simp only[Account.enc] at hl
  simp only[rn,RO.dst,lk,drop,Nat.reduceBEq,Nat.reduceAdd,Nat.reduceLeDiff,↓reduceIte,reduceCtorEq,Int.reduceLT,Int.reduceLE,Int.reduceGT,Int.reduceGE,Int.reduceBEq,Int.reduceBNe,Int.reduceEq,Int.reduceNe,Int.reduceNeg,l1,l2,l3,e1,e2,e3,hyi,hld,eC,hlen,g0,cA,cB,eB,hg1,st,eA,v1',hx,hl]
  exact ⟨_,_,_,rfl,og2,⟨y,_,rfl,rfl,w2⟩,fq2⟩
set_option maxHeartbeats 4000000 in
set_option maxRecDepth 8000 in
theorem do_op2 (k:KI F) (hL:Has F tLibslicesIndexFuncimplShardimplShard) (pri:PrimAt F Z 343 (insF 11 40)) (prd:PrimAt F Z 348 (delF 11)) (prs:PrimAt F Z 375 (sortF 9 267)) (hf:h.floor≤h.next) (v:Store.RI h cs s fp) (qe qi qa qt:Int) (okq:(⟨qe,2,qi,qa,qt⟩:Request).Ok) (ok:s.Ok) (sm:s.Small):
 DoStoreAt F Z h cs s ⟨qe,2,qi,qa,qt⟩:=by
 unfold DoStoreAt
 obtain ⟨l1,l2,l3⟩:=Store.lenI v
 obtain ⟨cs1,h1,fr,e1,o1,v1,f1⟩:=copyStore_c (Z:=Z) k hf v sm
 obtain ⟨h2,e2,o2⟩:=isStore_run (Z:=Z) k (Store.okI.on v o1) ok
 obtain ⟨h3,e3,o3⟩:=shardWith_on (Z:=Z) k.i13 hL (Store.okI.on (Store.okI.on v o1) o2) qi
 have o12:=o1.trans o2
 have o13:=o12.trans o3
 obtain ⟨y,p,rfl,hp,w12⟩:=Store.okI.on v1 o2
 subst hp
 have w:=w12.on Shard.okI o3
 rw[call_run F Z (k.i13.lk (g:=387) rfl) _ _ rfl]
 simp only[Request.enc]
 cases hg:s.good with
 | false=>
   rw[hg] at e2
   rw[dost_bad (by simp[hg])]
   simp only[rn,RO.dst,lk,drop,Nat.reduceBEq,Nat.reduceAdd,Nat.reduceLeDiff,↓reduceIte,reduceCtorEq,Int.reduceLT,Int.reduceLE,Int.reduceGT,Int.reduceGE,Int.reduceBEq,Int.reduceBNe,Int.reduceEq,Int.reduceNe,Int.reduceNeg,l1,l2,l3,e1,e2]
   exact ⟨_,_,_,rfl,o12,⟨y,_,rfl,rfl,w12⟩,f1⟩
 | true=>
 rw[hg] at e2
 have hin:(s.good&&inR (⟨qe,2,qi,qa,qt⟩:Request).op 0 8)=true:=by rw[hg];rfl
 have v3:=Store.okI.on v o13
 obtain ⟨x,p,rfl,hp,wx⟩:=v3
 subst hp
 rcases wx.found (fun t=>decide (t.lo≤qi)&&decide (qi≤t.hi)) with q | ⟨i,q,hi,hpi,_⟩
 ·change findId s.shards qi= -1 at q
  rw[dost_away hin q]
  rw[q] at e3
  simp only[rn,RO.dst,lk,drop,Nat.reduceBEq,Nat.reduceAdd,Nat.reduceLeDiff,↓reduceIte,reduceCtorEq,Int.reduceLT,Int.reduceLE,Int.reduceGT,Int.reduceGE,Int.reduceBEq,Int.reduceBNe,Int.reduceEq,Int.reduceNe,Int.reduceNeg,l1,l2,l3,e1,e2,e3]
  exact ⟨_,_,_,rfl,o13,⟨y,_,rfl,rfl,w⟩,f1⟩
 change findId s.shards qi=(i:Int) at q
 rw[q] at e3
 rw[dost_at hin q,Shard.at_get hi]
 have g0: ¬(i:Int)<0:=by omega
 have hyi:=w.idx hi
 have okX:=ok.shards _ (List.getElem_mem hi)
 have smX:=sm.2 _ (List.getElem_mem hi)
 have smf:s.shards[i].finished.length≤1048576:=smX.2
 have smb:s.shards[i].book.list.length≤1048576:=smX.1
 have hbk:bookOk s.shards[i].book.list=true:=by
  have:=Store.fit_at hg hi
  simp only[Store.fits,Bool.and_eq_true,Shard.at_get hi,Shard.good,Shard.head] at this
  exact this.1.1.2.2.2.1
 obtain ⟨xb,xf,pb,pf,rows,hgr,hrr,wb,wf,fin⟩:=row_book o13 hf w f1 hi
 have hld:=fun j n=>loadP_row hgr hrr j n
 have eC:=containsFin_run (F:=F) (Z:=Z) k.li k.lc (wf.up (Fl.ok _) h3.next) ⟨qt,qi⟩
 simp only[Fin.enc] at eC
 have hlen:=wf.len
 obtain ⟨yb,hq,fb,eB,oB,uB,dB⟩:=doBook_c (Z:=Z) (h:=⟨h3.next,h3.next,h3.get⟩) k.i10 k.i13 pri prd (Nat.le_refl _) (wb.up (Fl.ok _) h3.next) ⟨qe,2,qi,qa,qt⟩ okq okX.book.list smb hbk
 simp only[Request.enc] at eB
 obtain ⟨g1,hg1⟩: ∃g1,Heap.mk hq.next h3.floor hq.get=g1:=⟨_,rfl⟩
 have oB1:On h3 g1:=by rw[←hg1];exact ⟨⟨oB.ext.1,oB.ext.2⟩,rfl⟩
 have uB1:SlR 11 (Fl Account.enc) g1 yb (doBook s.shards[i].book.list ⟨qe,2,qi,qa,qt⟩).1 fb:=by rw[←hg1];exact uB.up (Fl.ok _) h3.floor
 have ndB:fb.Nodup:=by
  rcases dB with d | ⟨_,d⟩
  ·exact d.nd
  ·rw[d];exact wb.nodup
 obtain ⟨g2,fqs,rows2,st,og2,fq2,w2,u2,hg2,hr2⟩:=fin g1 yb _ fb oB1 uB1 ndB (by
  rcases dB with d | ⟨_,d⟩
  ·exact .inl ⟨d.lo,d.nd⟩
  ·exact .inr d)
 cases cA:(s.shards[i].epoch !=qe) with
 | true=>
   have cA':(s.shards[i].epoch==qe)=false:=by simpa using cA
   have hR:refuse s.shards[i] ⟨qe,2,qi,qa,qt⟩=9:=by simp[refuse,inR,Request.ends,Request.fin,cA']
   rw[hR]
   simp only[show ((9:Int)==0)=false from rfl,cond_false]
   simp only[rn,RO.dst,lk,drop,Nat.reduceBEq,Nat.reduceAdd,Nat.reduceLeDiff,↓reduceIte,reduceCtorEq,Int.reduceLT,Int.reduceLE,Int.reduceGT,Int.reduceGE,Int.reduceBEq,Int.reduceBNe,Int.reduceEq,Int.reduceNe,Int.reduceNeg,l1,l2,l3,e1,e2,e3,hyi,hld,eC,hlen,g0,cA]
   exact ⟨_,_,_,rfl,o13,⟨y,_,rfl,rfl,w⟩,f1⟩
 | false=>
 have cA':(s.shards[i].epoch==qe)=true:=by simpa using cA
 cases cB:(s.shards[i].state==1) with
 | true=>
   have hR:refuse s.shards[i] ⟨qe,2,qi,qa,qt⟩=10:=by simp[refuse,inR,Request.ends,Request.fin,cA',cB]
   rw[hR]
   simp only[show ((10:Int)==0)=false from rfl,cond_false]
   simp only[rn,RO.dst,lk,drop,Nat.reduceBEq,Nat.reduceAdd,Nat.reduceLeDiff,↓reduceIte,reduceCtorEq,Int.reduceLT,Int.reduceLE,Int.reduceGT,Int.reduceGE,Int.reduceBEq,Int.reduceBNe,Int.reduceEq,Int.reduceNe,Int.reduceNeg,l1,l2,l3,e1,e2,e3,hyi,hld,eC,hlen,g0,cA,cB]
   exact ⟨_,_,_,rfl,o13,⟨y,_,rfl,rfl,w⟩,f1⟩
 | false=>
 have hR:refuse s.shards[i] ⟨qe,2,qi,qa,qt⟩=0:=by simp[refuse,inR,Request.ends,Request.fin,cA',cB]
 rw[hR]
 simp only[beq_self_eq_true,cond_true]
 have hS:doShard s.shards[i] ⟨qe,2,qi,qa,qt⟩={s.shards[i] with book:=⟨(doBook s.shards[i].book.list ⟨qe,2,qi,qa,qt⟩).1⟩}:=by simp[doShard,Request.ends,Request.fin,cA',cB]
 rw[hS]
 have eA:=accountOf_run (Z:=Z) k.i10 u2 qi
 rcases val_cases (a:=qi) (doBook_srt hbk ⟨qe,2,qi,qa,qt⟩) with ⟨v1,v2⟩ | ⟨v1,v2,v3,v4⟩ | ⟨v1,j,v2,v3,v4,v5,v6⟩
 ·have v1':((doBook s.shards[i].book.list ⟨qe,2,qi,qa,qt⟩).2==0)=false:=by simpa using v1
  rw[v2]
  simp only[rn,RO.dst,lk,drop,Nat.reduceBEq,Nat.reduceAdd,Nat.reduceLeDiff,↓reduceIte,reduceCtorEq,Int.reduceLT,Int.reduceLE,Int.reduceGT,Int.reduceGE,Int.reduceBEq,Int.reduceBNe,Int.reduceEq,Int.reduceNe,Int.reduceNeg,l1,l2,l3,e1,e2,e3,hyi,hld,eC,hlen,g0,cA,cB,eB,hg1,st,eA,v1']
  exact ⟨_,_,_,rfl,og2,⟨y,_,rfl,rfl,w2⟩,fq2⟩
 ·have v1':((doBook s.shards[i].book.list ⟨qe,2,qi,qa,qt⟩).2==0)=true:=by simpa using v1
  rw[v4]
  rw[v2] at eA
  simp only[rn,RO.dst,lk,drop,Nat.reduceBEq,Nat.reduceAdd,Nat.reduceLeDiff,↓reduceIte,reduceCtorEq,Int.reduceLT,Int.reduceLE,Int.reduceGT,Int.reduceGE,Int.reduceBEq,Int.reduceBNe,Int.reduceEq,Int.reduceNe,Int.reduceNeg,l1,l2,l3,e1,e2,e3,hyi,hld,eC,hlen,g0,cA,cB,eB,hg1,st,eA,v1']
  exact ⟨_,_,_,rfl,og2,⟨y,_,rfl,rfl,w2⟩,fq2⟩
 ·have v1':((doBook s.shards[i].book.list ⟨qe,2,qi,qa,qt⟩).2==0)=true:=by simpa using v1
  rw[v6,Account.at_get v5]
  rw[v2,v3] at eA
  have hx:=u2.idx v5
  have hl:=u2.load v5
  simp only[Account.enc] at hl
  simp only[rn,RO.dst,lk,drop,Nat.reduceBEq,Nat.reduceAdd,Nat.reduceLeDiff,↓reduceIte,reduceCtorEq,Int.reduceLT,Int.reduceLE,Int.reduceGT,Int.reduceGE,Int.reduceBEq,Int.reduceBNe,Int.reduceEq,Int.reduceNe,Int.reduceNeg,l1,l2,l3,e1,e2,e3,hyi,hld,eC,hlen,g0,cA,cB,eB,hg1,st,eA,v1',hx,hl]
  exact ⟨_,_,_,rfl,og2,⟨y,_,rfl,rfl,w2⟩,fq2⟩
end
end Go.Proofs.YthofpopafchelaaGreat.A
namespace Go.Proofs.YthofpopafchelaaGreat.A
open Go
set_option linter.unusedSimpArgs false
set_option linter.unusedVariables false
section
variable {F:Nat→Option RF} {Z:CallF} {h:Heap} {cs:List Cell} {fp:List Nat} {s:Store}
set_option maxHeartbeats 4000000 in
set_option maxRecDepth 8000 in
theorem do_op3 (k:KI F) (hL:Has F tLibslicesIndexFuncimplShardimplShard) (pri:PrimAt F Z 343 (insF 11 40)) (prd:PrimAt F Z 348 (delF 11)) (prs:PrimAt F Z 375 (sortF 9 267)) (hf:h.floor≤h.next) (v:Store.RI h cs s fp) (qe qi qa qt:Int) (okq:(⟨qe,3,qi,qa,qt⟩:Request).Ok) (ok:s.Ok) (sm:s.Small):
 DoStoreAt F Z h cs s ⟨qe,3,qi,qa,qt⟩:=by
 unfold DoStoreAt
 obtain ⟨l1,l2,l3⟩:=Store.lenI v
 obtain ⟨cs1,h1,fr,e1,o1,v1,f1⟩:=copyStore_c (Z:=Z) k hf v sm
 obtain ⟨h2,e2,o2⟩:=isStore_run (Z:=Z) k (Store.okI.on v o1) ok
 obtain ⟨h3,e3,o3⟩:=shardWith_on (Z:=Z) k.i13 hL (Store.okI.on (Store.okI.on v o1) o2) qi
 have o12:=o1.trans o2
 have o13:=o12.trans o3
 obtain ⟨y,p,rfl,hp,w12⟩:=Store.okI.on v1 o2
 subst hp
 have w:=w12.on Shard.okI o3
 rw[call_run F Z (k.i13.lk (g:=387) rfl) _ _ rfl]
 simp only[Request.enc]
 cases hg:s.good with
 | false=>
   rw[hg] at e2
   rw[dost_bad (by simp[hg])]
   simp only[rn,RO.dst,lk,drop,Nat.reduceBEq,Nat.reduceAdd,Nat.reduceLeDiff,↓reduceIte,reduceCtorEq,Int.reduceLT,Int.reduceLE,Int.reduceGT,Int.reduceGE,Int.reduceBEq,Int.reduceBNe,Int.reduceEq,Int.reduceNe,Int.reduceNeg,l1,l2,l3,e1,e2]
   exact ⟨_,_,_,rfl,o12,⟨y,_,rfl,rfl,w12⟩,f1⟩
 | true=>
 rw[hg] at e2
 have hin:(s.good&&inR (⟨qe,3,qi,qa,qt⟩:Request).op 0 8)=true:=by rw[hg];rfl
 have v3:=Store.okI.on v o13
 obtain ⟨x,p,rfl,hp,wx⟩:=v3
 subst hp
 rcases wx.found (fun t=>decide (t.lo≤qi)&&decide (qi≤t.hi)) with q | ⟨i,q,hi,hpi,_⟩
 ·change findId s.shards qi= -1 at q
  rw[dost_away hin q]
  rw[q] at e3
  simp only[rn,RO.dst,lk,drop,Nat.reduceBEq,Nat.reduceAdd,Nat.reduceLeDiff,↓reduceIte,reduceCtorEq,Int.reduceLT,Int.reduceLE,Int.reduceGT,Int.reduceGE,Int.reduceBEq,Int.reduceBNe,Int.reduceEq,Int.reduceNe,Int.reduceNeg,l1,l2,l3,e1,e2,e3]
  exact ⟨_,_,_,rfl,o13,⟨y,_,rfl,rfl,w⟩,f1⟩
 change findId s.shards qi=(i:Int) at q
 rw[q] at e3
 rw[dost_at hin q,Shard.at_get hi]
 have g0: ¬(i:Int)<0:=by omega
 have hyi:=w.idx hi
 have okX:=ok.shards _ (List.getElem_mem hi)
 have smX:=sm.2 _ (List.getElem_mem hi)
 have smf:s.shards[i].finished.length≤1048576:=smX.2
 have smb:s.shards[i].book.list.length≤1048576:=smX.1
 have hbk:bookOk s.shards[i].book.list=true:=by
  have:=Store.fit_at hg hi
  simp only[Store.fits,Bool.and_eq_true,Shard.at_get hi,Shard.good,Shard.head] at this
  exact this.1.1.2.2.2.1
 obtain ⟨xb,xf,pb,pf,rows,hgr,hrr,wb,wf,fin⟩:=row_book o13 hf w f1 hi
 have hld:=fun j n=>loadP_row hgr hrr j n
 have eC:=containsFin_run (F:=F) (Z:=Z) k.li k.lc (wf.up (Fl.ok _) h3.next) ⟨qt,qi⟩
 simp only[Fin.enc] at eC
 have hlen:=wf.len
 obtain ⟨yb,hq,fb,eB,oB,uB,dB⟩:=doBook_c (Z:=Z) (h:=⟨h3.next,h3.next,h3.get⟩) k.i10 k.i13 pri prd (Nat.le_refl _) (wb.up (Fl.ok _) h3.next) ⟨qe,3,qi,qa,qt⟩ okq okX.book.list smb hbk
 simp only[Request.enc] at eB
 obtain ⟨g1,hg1⟩: ∃g1,Heap.mk hq.next h3.floor hq.get=g1:=⟨_,rfl⟩
 have oB1:On h3 g1:=by rw[←hg1];exact ⟨⟨oB.ext.1,oB.ext.2⟩,rfl⟩
 have uB1:SlR 11 (Fl Account.enc) g1 yb (doBook s.shards[i].book.list ⟨qe,3,qi,qa,qt⟩).1 fb:=by rw[←hg1];exact uB.up (Fl.ok _) h3.floor
 have ndB:fb.Nodup:=by
  rcases dB with d | ⟨_,d⟩
  ·exact d.nd
  ·rw[d];exact wb.nodup
 obtain ⟨g2,fqs,rows2,st,og2,fq2,w2,u2,hg2,hr2⟩:=fin g1 yb _ fb oB1 uB1 ndB (by
  rcases dB with d | ⟨_,d⟩
  ·exact .inl ⟨d.lo,d.nd⟩
  ·exact .inr d)
 cases cA:(s.shards[i].epoch !=qe) with
 | true=>
   have cA':(s.shards[i].epoch==qe)=false:=by simpa using cA
   have hR:refuse s.shards[i] ⟨qe,3,qi,qa,qt⟩=9:=by simp[refuse,inR,Request.ends,Request.fin,cA']
   rw[hR]
   simp only[show ((9:Int)==0)=false from rfl,cond_false]
   simp only[rn,RO.dst,lk,drop,Nat.reduceBEq,Nat.reduceAdd,Nat.reduceLeDiff,↓reduceIte,reduceCtorEq,Int.reduceLT,Int.reduceLE,Int.reduceGT,Int.reduceGE,Int.reduceBEq,Int.reduceBNe,Int.reduceEq,Int.reduceNe,Int.reduceNeg,l1,l2,l3,e1,e2,e3,hyi,hld,eC,hlen,g0,cA]
   exact ⟨_,_,_,rfl,o13,⟨y,_,rfl,rfl,w⟩,f1⟩
 | false=>
 have cA':(s.shards[i].epoch==qe)=true:=by simpa using cA
 cases cB:(s.shards[i].state==1) with
 | true=>
   have hR:refuse s.shards[i] ⟨qe,3,qi,qa,qt⟩=10:=by simp[refuse,inR,Request.ends,Request.fin,cA',cB]
   rw[hR]
   simp only[show ((10:Int)==0)=false from rfl,cond_false]
   simp only[rn,RO.dst,lk,drop,Nat.reduceBEq,Nat.reduceAdd,Nat.reduceLeDiff,↓reduceIte,reduceCtorEq,Int.reduceLT,Int.reduceLE,Int.reduceGT,Int.reduceGE,Int.reduceBEq,Int.reduceBNe,Int.reduceEq,Int.reduceNe,Int.reduceNeg,l1,l2,l3,e1,e2,e3,hyi,hld,eC,hlen,g0,cA,cB]
   exact ⟨_,_,_,rfl,o13,⟨y,_,rfl,rfl,w⟩,f1⟩
 | false=>
 have hR:refuse s.shards[i] ⟨qe,3,qi,qa,qt⟩=0:=by simp[refuse,inR,Request.ends,Request.fin,cA',cB]
 rw[hR]
 simp only[beq_self_eq_true,cond_true]
 have hS:doShard s.shards[i] ⟨qe,3,qi,qa,qt⟩={s.shards[i] with book:=⟨(doBook s.shards[i].book.list ⟨qe,3,qi,qa,qt⟩).1⟩}:=by simp[doShard,Request.ends,Request.fin,cA',cB]
 rw[hS]
 have eA:=accountOf_run (Z:=Z) k.i10 u2 qi
 rcases val_cases (a:=qi) (doBook_srt hbk ⟨qe,3,qi,qa,qt⟩) with ⟨v1,v2⟩ | ⟨v1,v2,v3,v4⟩ | ⟨v1,j,v2,v3,v4,v5,v6⟩
 ·have v1':((doBook s.shards[i].book.list ⟨qe,3,qi,qa,qt⟩).2==0)=false:=by simpa using v1
  rw[v2]
  simp only[rn,RO.dst,lk,drop,Nat.reduceBEq,Nat.reduceAdd,Nat.reduceLeDiff,↓reduceIte,reduceCtorEq,Int.reduceLT,Int.reduceLE,Int.reduceGT,Int.reduceGE,Int.reduceBEq,Int.reduceBNe,Int.reduceEq,Int.reduceNe,Int.reduceNeg,l1,l2,l3,e1,e2,e3,hyi,hld,eC,hlen,g0,cA,cB,eB,hg1,st,eA,v1']
  exact ⟨_,_,_,rfl,og2,⟨y,_,rfl,rfl,w2⟩,fq2⟩
 ·have v1':((doBook s.shards[i].book.list ⟨qe,3,qi,qa,qt⟩).2==0)=true:=by simpa using v1
  rw[v4]
  rw[v2] at eA
  simp only[rn,RO.dst,lk,drop,Nat.reduceBEq,Nat.reduceAdd,Nat.reduceLeDiff,↓reduceIte,reduceCtorEq,Int.reduceLT,Int.reduceLE,Int.reduceGT,Int.reduceGE,Int.reduceBEq,Int.reduceBNe,Int.reduceEq,Int.reduceNe,Int.reduceNeg,l1,l2,l3,e1,e2,e3,hyi,hld,eC,hlen,g0,cA,cB,eB,hg1,st,eA,v1']
  exact ⟨_,_,_,rfl,og2,⟨y,_,rfl,rfl,w2⟩,fq2⟩
 ·have v1':((doBook s.shards[i].book.list ⟨qe,3,qi,qa,qt⟩).2==0)=true:=by simpa using v1
  rw[v6,Account.at_get v5]
  rw[v2,v3] at eA
  have hx:=u2.idx v5
  have hl:=u2.load v5
  simp only[Account.enc] at hl
  simp only[rn,RO.dst,lk,drop,Nat.reduceBEq,Nat.reduceAdd,Nat.reduceLeDiff,↓reduceIte,reduceCtorEq,Int.reduceLT,Int.reduceLE,Int.reduceGT,Int.reduceGE,Int.reduceBEq,Int.reduceBNe,Int.reduceEq,Int.reduceNe,Int.reduceNeg,l1,l2,l3,e1,e2,e3,hyi,hld,eC,hlen,g0,cA,cB,eB,hg1,st,eA,v1',hx,hl]
  exact ⟨_,_,_,rfl,og2,⟨y,_,rfl,rfl,w2⟩,fq2⟩
set_option maxHeartbeats 4000000 in
set_option maxRecDepth 8000 in
theorem do_op4 (k:KI F) (hL:Has F tLibslicesIndexFuncimplShardimplShard) (pri:PrimAt F Z 343 (insF 11 40)) (prd:PrimAt F Z 348 (delF 11)) (prs:PrimAt F Z 375 (sortF 9 267)) (hf:h.floor≤h.next) (v:Store.RI h cs s fp) (qe qi qa qt:Int) (okq:(⟨qe,4,qi,qa,qt⟩:Request).Ok) (ok:s.Ok) (sm:s.Small):
 DoStoreAt F Z h cs s ⟨qe,4,qi,qa,qt⟩:=by
 unfold DoStoreAt
 obtain ⟨l1,l2,l3⟩:=Store.lenI v
 obtain ⟨cs1,h1,fr,e1,o1,v1,f1⟩:=copyStore_c (Z:=Z) k hf v sm
 obtain ⟨h2,e2,o2⟩:=isStore_run (Z:=Z) k (Store.okI.on v o1) ok
 obtain ⟨h3,e3,o3⟩:=shardWith_on (Z:=Z) k.i13 hL (Store.okI.on (Store.okI.on v o1) o2) qi
 have o12:=o1.trans o2
 have o13:=o12.trans o3
 obtain ⟨y,p,rfl,hp,w12⟩:=Store.okI.on v1 o2
 subst hp
 have w:=w12.on Shard.okI o3
 rw[call_run F Z (k.i13.lk (g:=387) rfl) _ _ rfl]
 simp only[Request.enc]
 cases hg:s.good with
 | false=>
   rw[hg] at e2
   rw[dost_bad (by simp[hg])]
   simp only[rn,RO.dst,lk,drop,Nat.reduceBEq,Nat.reduceAdd,Nat.reduceLeDiff,↓reduceIte,reduceCtorEq,Int.reduceLT,Int.reduceLE,Int.reduceGT,Int.reduceGE,Int.reduceBEq,Int.reduceBNe,Int.reduceEq,Int.reduceNe,Int.reduceNeg,l1,l2,l3,e1,e2]
   exact ⟨_,_,_,rfl,o12,⟨y,_,rfl,rfl,w12⟩,f1⟩
 | true=>
 rw[hg] at e2
 have hin:(s.good&&inR (⟨qe,4,qi,qa,qt⟩:Request).op 0 8)=true:=by rw[hg];rfl
 have v3:=Store.okI.on v o13
 obtain ⟨x,p,rfl,hp,wx⟩:=v3
 subst hp
 rcases wx.found (fun t=>decide (t.lo≤qi)&&decide (qi≤t.hi)) with q | ⟨i,q,hi,hpi,_⟩
 ·change findId s.shards qi= -1 at q
  rw[dost_away hin q]
  rw[q] at e3
  simp only[rn,RO.dst,lk,drop,Nat.reduceBEq,Nat.reduceAdd,Nat.reduceLeDiff,↓reduceIte,reduceCtorEq,Int.reduceLT,Int.reduceLE,Int.reduceGT,Int.reduceGE,Int.reduceBEq,Int.reduceBNe,Int.reduceEq,Int.reduceNe,Int.reduceNeg,l1,l2,l3,e1,e2,e3]
  exact ⟨_,_,_,rfl,o13,⟨y,_,rfl,rfl,w⟩,f1⟩
 change findId s.shards qi=(i:Int) at q
 rw[q] at e3
 rw[dost_at hin q,Shard.at_get hi]
 have g0: ¬(i:Int)<0:=by omega
 have hyi:=w.idx hi
 have okX:=ok.shards _ (List.getElem_mem hi)
 have smX:=sm.2 _ (List.getElem_mem hi)
 have smf:s.shards[i].finished.length≤1048576:=smX.2
 have smb:s.shards[i].book.list.length≤1048576:=smX.1
 have hbk:bookOk s.shards[i].book.list=true:=by
  have:=Store.fit_at hg hi
  simp only[Store.fits,Bool.and_eq_true,Shard.at_get hi,Shard.good,Shard.head] at this
  exact this.1.1.2.2.2.1
 obtain ⟨xb,xf,pb,pf,rows,hgr,hrr,wb,wf,fin⟩:=row_book o13 hf w f1 hi
 have hld:=fun j n=>loadP_row hgr hrr j n
 have eC:=containsFin_run (F:=F) (Z:=Z) k.li k.lc (wf.up (Fl.ok _) h3.next) ⟨qt,qi⟩
 simp only[Fin.enc] at eC
 have hlen:=wf.len
 obtain ⟨yb,hq,fb,eB,oB,uB,dB⟩:=doBook_c (Z:=Z) (h:=⟨h3.next,h3.next,h3.get⟩) k.i10 k.i13 pri prd (Nat.le_refl _) (wb.up (Fl.ok _) h3.next) ⟨qe,4,qi,qa,qt⟩ okq okX.book.list smb hbk
 simp only[Request.enc] at eB
 obtain ⟨g1,hg1⟩: ∃g1,Heap.mk hq.next h3.floor hq.get=g1:=⟨_,rfl⟩
 have oB1:On h3 g1:=by rw[←hg1];exact ⟨⟨oB.ext.1,oB.ext.2⟩,rfl⟩
 have uB1:SlR 11 (Fl Account.enc) g1 yb (doBook s.shards[i].book.list ⟨qe,4,qi,qa,qt⟩).1 fb:=by rw[←hg1];exact uB.up (Fl.ok _) h3.floor
 have ndB:fb.Nodup:=by
  rcases dB with d | ⟨_,d⟩
  ·exact d.nd
  ·rw[d];exact wb.nodup
 obtain ⟨g2,fqs,rows2,st,og2,fq2,w2,u2,hg2,hr2⟩:=fin g1 yb _ fb oB1 uB1 ndB (by
  rcases dB with d | ⟨_,d⟩
  ·exact .inl ⟨d.lo,d.nd⟩
  ·exact .inr d)
 cases cA:(s.shards[i].epoch !=qe) with
 | true=>
   have cA':(s.shards[i].epoch==qe)=false:=by simpa using cA
   have hR:refuse s.shards[i] ⟨qe,4,qi,qa,qt⟩=9:=by simp[refuse,inR,Request.ends,Request.fin,cA']
   rw[hR]
   simp only[show ((9:Int)==0)=false from rfl,cond_false]
   simp only[rn,RO.dst,lk,drop,Nat.reduceBEq,Nat.reduceAdd,Nat.reduceLeDiff,↓reduceIte,reduceCtorEq,Int.reduceLT,Int.reduceLE,Int.reduceGT,Int.reduceGE,Int.reduceBEq,Int.reduceBNe,Int.reduceEq,Int.reduceNe,Int.reduceNeg,l1,l2,l3,e1,e2,e3,hyi,hld,eC,hlen,g0,cA]
   exact ⟨_,_,_,rfl,o13,⟨y,_,rfl,rfl,w⟩,f1⟩
 | false=>
 have cA':(s.shards[i].epoch==qe)=true:=by simpa using cA
 cases cB:(s.shards[i].state==1) with
 | true=>
   have hR:refuse s.shards[i] ⟨qe,4,qi,qa,qt⟩=10:=by simp[refuse,inR,Request.ends,Request.fin,cA',cB]
   rw[hR]
   simp only[show ((10:Int)==0)=false from rfl,cond_false]
   simp only[rn,RO.dst,lk,drop,Nat.reduceBEq,Nat.reduceAdd,Nat.reduceLeDiff,↓reduceIte,reduceCtorEq,Int.reduceLT,Int.reduceLE,Int.reduceGT,Int.reduceGE,Int.reduceBEq,Int.reduceBNe,Int.reduceEq,Int.reduceNe,Int.reduceNeg,l1,l2,l3,e1,e2,e3,hyi,hld,eC,hlen,g0,cA,cB]
   exact ⟨_,_,_,rfl,o13,⟨y,_,rfl,rfl,w⟩,f1⟩
 | false=>
 by_cases cC:qt<1
 ·have hR:refuse s.shards[i] ⟨qe,4,qi,qa,qt⟩=11:=by simp[refuse,inR,Request.ends,Request.fin,cA',cB,cC]
  rw[hR]
  simp only[show ((11:Int)==0)=false from rfl,cond_false]
  simp only[rn,RO.dst,lk,drop,Nat.reduceBEq,Nat.reduceAdd,Nat.reduceLeDiff,↓reduceIte,reduceCtorEq,Int.reduceLT,Int.reduceLE,Int.reduceGT,Int.reduceGE,Int.reduceBEq,Int.reduceBNe,Int.reduceEq,Int.reduceNe,Int.reduceNeg,l1,l2,l3,e1,e2,e3,hyi,hld,eC,hlen,g0,cA,cB,cC]
  exact ⟨_,_,_,rfl,o13,⟨y,_,rfl,rfl,w⟩,f1⟩
 cases cD:decide ((⟨qt,qi⟩:Fin)∈s.shards[i].finished) with
 | true=>
   have cD':(⟨qt,qi⟩:Fin)∈s.shards[i].finished:=of_decide_eq_true cD
   have hR:refuse s.shards[i] ⟨qe,4,qi,qa,qt⟩=12:=by simp[refuse,inR,Request.ends,Request.fin,cA',cB,cC,cD']
   rw[hR]
   simp only[show ((12:Int)==0)=false from rfl,cond_false]
   simp only[rn,RO.dst,lk,drop,Nat.reduceBEq,Nat.reduceAdd,Nat.reduceLeDiff,↓reduceIte,reduceCtorEq,Int.reduceLT,Int.reduceLE,Int.reduceGT,Int.reduceGE,Int.reduceBEq,Int.reduceBNe,Int.reduceEq,Int.reduceNe,Int.reduceNeg,l1,l2,l3,e1,e2,e3,hyi,hld,eC,hlen,g0,cA,cB,cC,cD]
   exact ⟨_,_,_,rfl,o13,⟨y,_,rfl,rfl,w⟩,f1⟩
 | false=>
 have cD': ¬(⟨qt,qi⟩:Fin)∈s.shards[i].finished:=of_decide_eq_false cD
 have hR:refuse s.shards[i] ⟨qe,4,qi,qa,qt⟩=0:=by simp[refuse,inR,Request.ends,Request.fin,cA',cB,cC,cD']
 rw[hR]
 simp only[beq_self_eq_true,cond_true]
 have hS:doShard s.shards[i] ⟨qe,4,qi,qa,qt⟩={s.shards[i] with book:=⟨(doBook s.shards[i].book.list ⟨qe,4,qi,qa,qt⟩).1⟩}:=by simp[doShard,Request.ends,Request.fin,cA',cB,cC,cD']
 rw[hS]
 have eA:=accountOf_run (Z:=Z) k.i10 u2 qi
 rcases val_cases (a:=qi) (doBook_srt hbk ⟨qe,4,qi,qa,qt⟩) with ⟨v1,v2⟩ | ⟨v1,v2,v3,v4⟩ | ⟨v1,j,v2,v3,v4,v5,v6⟩
 ·have v1':((doBook s.shards[i].book.list ⟨qe,4,qi,qa,qt⟩).2==0)=false:=by simpa using v1
  rw[v2]
  simp only[rn,RO.dst,lk,drop,Nat.reduceBEq,Nat.reduceAdd,Nat.reduceLeDiff,↓reduceIte,reduceCtorEq,Int.reduceLT,Int.reduceLE,Int.reduceGT,Int.reduceGE,Int.reduceBEq,Int.reduceBNe,Int.reduceEq,Int.reduceNe,Int.reduceNeg,l1,l2,l3,e1,e2,e3,hyi,hld,eC,hlen,g0,cA,cB,cC,cD,eB,hg1,st,eA,v1']
  exact ⟨_,_,_,rfl,og2,⟨y,_,rfl,rfl,w2⟩,fq2⟩
 ·have v1':((doBook s.shards[i].book.list ⟨qe,4,qi,qa,qt⟩).2==0)=true:=by simpa using v1
  rw[v4]
  rw[v2] at eA
  simp only[rn,RO.dst,lk,drop,Nat.reduceBEq,Nat.reduceAdd,Nat.reduceLeDiff,↓reduceIte,reduceCtorEq,Int.reduceLT,Int.reduceLE,Int.reduceGT,Int.reduceGE,Int.reduceBEq,Int.reduceBNe,Int.reduceEq,Int.reduceNe,Int.reduceNeg,l1,l2,l3,e1,e2,e3,hyi,hld,eC,hlen,g0,cA,cB,cC,cD,eB,hg1,st,eA,v1']
  exact ⟨_,_,_,rfl,og2,⟨y,_,rfl,rfl,w2⟩,fq2⟩
 ·have v1':((doBook s.shards[i].book.list ⟨qe,4,qi,qa,qt⟩).2==0)=true:=by simpa using v1
  rw[v6,Account.at_get v5]
  rw[v2,v3] at eA
  have hx:=u2.idx v5
  have hl:=u2.load v5
  simp only[Account.enc] at hl
  simp only[rn,RO.dst,lk,drop,Nat.reduceBEq,Nat.reduceAdd,Nat.reduceLeDiff,↓reduceIte,reduceCtorEq,Int.reduceLT,Int.reduceLE,Int.reduceGT,Int.reduceGE,Int.reduceBEq,Int.reduceBNe,Int.reduceEq,Int.reduceNe,Int.reduceNeg,l1,l2,l3,e1,e2,e3,hyi,hld,eC,hlen,g0,cA,cB,cC,cD,eB,hg1,st,eA,v1',hx,hl]
  exact ⟨_,_,_,rfl,og2,⟨y,_,rfl,rfl,w2⟩,fq2⟩
set_option maxHeartbeats 4000000 in
set_option maxRecDepth 8000 in
theorem do_op5 (k:KI F) (hL:Has F tLibslicesIndexFuncimplShardimplShard) (pri:PrimAt F Z 343 (insF 11 40)) (prd:PrimAt F Z 348 (delF 11)) (prs:PrimAt F Z 375 (sortF 9 267)) (hf:h.floor≤h.next) (v:Store.RI h cs s fp) (qe qi qa qt:Int) (okq:(⟨qe,5,qi,qa,qt⟩:Request).Ok) (ok:s.Ok) (sm:s.Small):
 DoStoreAt F Z h cs s ⟨qe,5,qi,qa,qt⟩:=by
 unfold DoStoreAt
 obtain ⟨l1,l2,l3⟩:=Store.lenI v
 obtain ⟨cs1,h1,fr,e1,o1,v1,f1⟩:=copyStore_c (Z:=Z) k hf v sm
 obtain ⟨h2,e2,o2⟩:=isStore_run (Z:=Z) k (Store.okI.on v o1) ok
 obtain ⟨h3,e3,o3⟩:=shardWith_on (Z:=Z) k.i13 hL (Store.okI.on (Store.okI.on v o1) o2) qi
 have o12:=o1.trans o2
 have o13:=o12.trans o3
 obtain ⟨y,p,rfl,hp,w12⟩:=Store.okI.on v1 o2
 subst hp
 have w:=w12.on Shard.okI o3
 rw[call_run F Z (k.i13.lk (g:=387) rfl) _ _ rfl]
 simp only[Request.enc]
 cases hg:s.good with
 | false=>
   rw[hg] at e2
   rw[dost_bad (by simp[hg])]
   simp only[rn,RO.dst,lk,drop,Nat.reduceBEq,Nat.reduceAdd,Nat.reduceLeDiff,↓reduceIte,reduceCtorEq,Int.reduceLT,Int.reduceLE,Int.reduceGT,Int.reduceGE,Int.reduceBEq,Int.reduceBNe,Int.reduceEq,Int.reduceNe,Int.reduceNeg,l1,l2,l3,e1,e2]
   exact ⟨_,_,_,rfl,o12,⟨y,_,rfl,rfl,w12⟩,f1⟩
 | true=>
 rw[hg] at e2
 have hin:(s.good&&inR (⟨qe,5,qi,qa,qt⟩:Request).op 0 8)=true:=by rw[hg];rfl
 have v3:=Store.okI.on v o13
 obtain ⟨x,p,rfl,hp,wx⟩:=v3
 subst hp
 rcases wx.found (fun t=>decide (t.lo≤qi)&&decide (qi≤t.hi)) with q | ⟨i,q,hi,hpi,_⟩
 ·change findId s.shards qi= -1 at q
  rw[dost_away hin q]
  rw[q] at e3
  simp only[rn,RO.dst,lk,drop,Nat.reduceBEq,Nat.reduceAdd,Nat.reduceLeDiff,↓reduceIte,reduceCtorEq,Int.reduceLT,Int.reduceLE,Int.reduceGT,Int.reduceGE,Int.reduceBEq,Int.reduceBNe,Int.reduceEq,Int.reduceNe,Int.reduceNeg,l1,l2,l3,e1,e2,e3]
  exact ⟨_,_,_,rfl,o13,⟨y,_,rfl,rfl,w⟩,f1⟩
 change findId s.shards qi=(i:Int) at q
 rw[q] at e3
 rw[dost_at hin q,Shard.at_get hi]
 have g0: ¬(i:Int)<0:=by omega
 have hyi:=w.idx hi
 have okX:=ok.shards _ (List.getElem_mem hi)
 have smX:=sm.2 _ (List.getElem_mem hi)
 have smf:s.shards[i].finished.length≤1048576:=smX.2
 have smb:s.shards[i].book.list.length≤1048576:=smX.1
 have hbk:bookOk s.shards[i].book.list=true:=by
  have:=Store.fit_at hg hi
  simp only[Store.fits,Bool.and_eq_true,Shard.at_get hi,Shard.good,Shard.head] at this
  exact this.1.1.2.2.2.1
 obtain ⟨xb,xf,pb,pf,rows,hgr,hrr,wb,wf,fin⟩:=row_book o13 hf w f1 hi
 have hld:=fun j n=>loadP_row hgr hrr j n
 have eC:=containsFin_run (F:=F) (Z:=Z) k.li k.lc (wf.up (Fl.ok _) h3.next) ⟨qt,qi⟩
 simp only[Fin.enc] at eC
 have hlen:=wf.len
 obtain ⟨yb,hq,fb,eB,oB,uB,dB⟩:=doBook_c (Z:=Z) (h:=⟨h3.next,h3.next,h3.get⟩) k.i10 k.i13 pri prd (Nat.le_refl _) (wb.up (Fl.ok _) h3.next) ⟨qe,5,qi,qa,qt⟩ okq okX.book.list smb hbk
 simp only[Request.enc] at eB
 obtain ⟨g1,hg1⟩: ∃g1,Heap.mk hq.next h3.floor hq.get=g1:=⟨_,rfl⟩
 have oB1:On h3 g1:=by rw[←hg1];exact ⟨⟨oB.ext.1,oB.ext.2⟩,rfl⟩
 have uB1:SlR 11 (Fl Account.enc) g1 yb (doBook s.shards[i].book.list ⟨qe,5,qi,qa,qt⟩).1 fb:=by rw[←hg1];exact uB.up (Fl.ok _) h3.floor
 have ndB:fb.Nodup:=by
  rcases dB with d | ⟨_,d⟩
  ·exact d.nd
  ·rw[d];exact wb.nodup
 obtain ⟨g2,fqs,rows2,st,og2,fq2,w2,u2,hg2,hr2⟩:=fin g1 yb _ fb oB1 uB1 ndB (by
  rcases dB with d | ⟨_,d⟩
  ·exact .inl ⟨d.lo,d.nd⟩
  ·exact .inr d)
 cases cA:(s.shards[i].epoch !=qe) with
 | true=>
   have cA':(s.shards[i].epoch==qe)=false:=by simpa using cA
   have hR:refuse s.shards[i] ⟨qe,5,qi,qa,qt⟩=9:=by simp[refuse,inR,Request.ends,Request.fin,cA']
   rw[hR]
   simp only[show ((9:Int)==0)=false from rfl,cond_false]
   simp only[rn,RO.dst,lk,drop,Nat.reduceBEq,Nat.reduceAdd,Nat.reduceLeDiff,↓reduceIte,reduceCtorEq,Int.reduceLT,Int.reduceLE,Int.reduceGT,Int.reduceGE,Int.reduceBEq,Int.reduceBNe,Int.reduceEq,Int.reduceNe,Int.reduceNeg,l1,l2,l3,e1,e2,e3,hyi,hld,eC,hlen,g0,cA]
   exact ⟨_,_,_,rfl,o13,⟨y,_,rfl,rfl,w⟩,f1⟩
 | false=>
 have cA':(s.shards[i].epoch==qe)=true:=by simpa using cA
 cases cB:(s.shards[i].state==1) with
 | true=>
   have hR:refuse s.shards[i] ⟨qe,5,qi,qa,qt⟩=10:=by simp[refuse,inR,Request.ends,Request.fin,cA',cB]
   rw[hR]
   simp only[show ((10:Int)==0)=false from rfl,cond_false]
   simp only[rn,RO.dst,lk,drop,Nat.reduceBEq,Nat.reduceAdd,Nat.reduceLeDiff,↓reduceIte,reduceCtorEq,Int.reduceLT,Int.reduceLE,Int.reduceGT,Int.reduceGE,Int.reduceBEq,Int.reduceBNe,Int.reduceEq,Int.reduceNe,Int.reduceNeg,l1,l2,l3,e1,e2,e3,hyi,hld,eC,hlen,g0,cA,cB]
   exact ⟨_,_,_,rfl,o13,⟨y,_,rfl,rfl,w⟩,f1⟩
 | false=>
 by_cases cC:qt<1
 ·have hR:refuse s.shards[i] ⟨qe,5,qi,qa,qt⟩=11:=by simp[refuse,inR,Request.ends,Request.fin,cA',cB,cC]
  rw[hR]
  simp only[show ((11:Int)==0)=false from rfl,cond_false]
  simp only[rn,RO.dst,lk,drop,Nat.reduceBEq,Nat.reduceAdd,Nat.reduceLeDiff,↓reduceIte,reduceCtorEq,Int.reduceLT,Int.reduceLE,Int.reduceGT,Int.reduceGE,Int.reduceBEq,Int.reduceBNe,Int.reduceEq,Int.reduceNe,Int.reduceNeg,l1,l2,l3,e1,e2,e3,hyi,hld,eC,hlen,g0,cA,cB,cC]
  exact ⟨_,_,_,rfl,o13,⟨y,_,rfl,rfl,w⟩,f1⟩
 cases cD:decide ((⟨qt,qi⟩:Fin)∈s.shards[i].finished) with
 | true=>
   have cD':(⟨qt,qi⟩:Fin)∈s.shards[i].finished:=of_decide_eq_true cD
   have hR:refuse s.shards[i] ⟨qe,5,qi,qa,qt⟩=12:=by simp[refuse,inR,Request.ends,Request.fin,cA',cB,cC,cD']
   rw[hR]
   simp only[show ((12:Int)==0)=false from rfl,cond_false]
   simp only[rn,RO.dst,lk,drop,Nat.reduceBEq,Nat.reduceAdd,Nat.reduceLeDiff,↓reduceIte,reduceCtorEq,Int.reduceLT,Int.reduceLE,Int.reduceGT,Int.reduceGE,Int.reduceBEq,Int.reduceBNe,Int.reduceEq,Int.reduceNe,Int.reduceNeg,l1,l2,l3,e1,e2,e3,hyi,hld,eC,hlen,g0,cA,cB,cC,cD]
   exact ⟨_,_,_,rfl,o13,⟨y,_,rfl,rfl,w⟩,f1⟩
 | false=>
 have cD': ¬(⟨qt,qi⟩:Fin)∈s.shards[i].finished:=of_decide_eq_false cD
 have hR:refuse s.shards[i] ⟨qe,5,qi,qa,qt⟩=0:=by simp[refuse,inR,Request.ends,Request.fin,cA',cB,cC,cD']
 rw[hR]
 simp only[beq_self_eq_true,cond_true]
 have hS:doShard s.shards[i] ⟨qe,5,qi,qa,qt⟩={s.shards[i] with book:=⟨(doBook s.shards[i].book.list ⟨qe,5,qi,qa,qt⟩).1⟩}:=by simp[doShard,Request.ends,Request.fin,cA',cB,cC,cD']
 rw[hS]
 have eA:=accountOf_run (Z:=Z) k.i10 u2 qi
 rcases val_cases (a:=qi) (doBook_srt hbk ⟨qe,5,qi,qa,qt⟩) with ⟨v1,v2⟩ | ⟨v1,v2,v3,v4⟩ | ⟨v1,j,v2,v3,v4,v5,v6⟩
 ·have v1':((doBook s.shards[i].book.list ⟨qe,5,qi,qa,qt⟩).2==0)=false:=by simpa using v1
  rw[v2]
  simp only[rn,RO.dst,lk,drop,Nat.reduceBEq,Nat.reduceAdd,Nat.reduceLeDiff,↓reduceIte,reduceCtorEq,Int.reduceLT,Int.reduceLE,Int.reduceGT,Int.reduceGE,Int.reduceBEq,Int.reduceBNe,Int.reduceEq,Int.reduceNe,Int.reduceNeg,l1,l2,l3,e1,e2,e3,hyi,hld,eC,hlen,g0,cA,cB,cC,cD,eB,hg1,st,eA,v1']
  exact ⟨_,_,_,rfl,og2,⟨y,_,rfl,rfl,w2⟩,fq2⟩
 ·have v1':((doBook s.shards[i].book.list ⟨qe,5,qi,qa,qt⟩).2==0)=true:=by simpa using v1
  rw[v4]
  rw[v2] at eA
  simp only[rn,RO.dst,lk,drop,Nat.reduceBEq,Nat.reduceAdd,Nat.reduceLeDiff,↓reduceIte,reduceCtorEq,Int.reduceLT,Int.reduceLE,Int.reduceGT,Int.reduceGE,Int.reduceBEq,Int.reduceBNe,Int.reduceEq,Int.reduceNe,Int.reduceNeg,l1,l2,l3,e1,e2,e3,hyi,hld,eC,hlen,g0,cA,cB,cC,cD,eB,hg1,st,eA,v1']
  exact ⟨_,_,_,rfl,og2,⟨y,_,rfl,rfl,w2⟩,fq2⟩
 ·have v1':((doBook s.shards[i].book.list ⟨qe,5,qi,qa,qt⟩).2==0)=true:=by simpa using v1
  rw[v6,Account.at_get v5]
  rw[v2,v3] at eA
  have hx:=u2.idx v5
  have hl:=u2.load v5
  simp only[Account.enc] at hl
  simp only[rn,RO.dst,lk,drop,Nat.reduceBEq,Nat.reduceAdd,Nat.reduceLeDiff,↓reduceIte,reduceCtorEq,Int.reduceLT,Int.reduceLE,Int.reduceGT,Int.reduceGE,Int.reduceBEq,Int.reduceBNe,Int.reduceEq,Int.reduceNe,Int.reduceNeg,l1,l2,l3,e1,e2,e3,hyi,hld,eC,hlen,g0,cA,cB,cC,cD,eB,hg1,st,eA,v1',hx,hl]
  exact ⟨_,_,_,rfl,og2,⟨y,_,rfl,rfl,w2⟩,fq2⟩
end
end Go.Proofs.YthofpopafchelaaGreat.A
namespace Go.Proofs.YthofpopafchelaaGreat.A
open Go
set_option linter.unusedSimpArgs false
set_option linter.unusedVariables false
section
variable {F:Nat→Option RF} {Z:CallF} {h:Heap} {cs:List Cell} {fp:List Nat} {s:Store}
set_option maxHeartbeats 4000000 in
set_option maxRecDepth 8000 in
theorem do_op6 (k:KI F) (hL:Has F tLibslicesIndexFuncimplShardimplShard) (pri:PrimAt F Z 343 (insF 11 40)) (prd:PrimAt F Z 348 (delF 11)) (prs:PrimAt F Z 375 (sortF 9 267)) (hf:h.floor≤h.next) (v:Store.RI h cs s fp) (qe qi qa qt:Int) (okq:(⟨qe,6,qi,qa,qt⟩:Request).Ok) (ok:s.Ok) (sm:s.Small):
 DoStoreAt F Z h cs s ⟨qe,6,qi,qa,qt⟩:=by
 unfold DoStoreAt
 obtain ⟨l1,l2,l3⟩:=Store.lenI v
 obtain ⟨cs1,h1,fr,e1,o1,v1,f1⟩:=copyStore_c (Z:=Z) k hf v sm
 obtain ⟨h2,e2,o2⟩:=isStore_run (Z:=Z) k (Store.okI.on v o1) ok
 obtain ⟨h3,e3,o3⟩:=shardWith_on (Z:=Z) k.i13 hL (Store.okI.on (Store.okI.on v o1) o2) qi
 have o12:=o1.trans o2
 have o13:=o12.trans o3
 obtain ⟨y,p,rfl,hp,w12⟩:=Store.okI.on v1 o2
 subst hp
 have w:=w12.on Shard.okI o3
 rw[call_run F Z (k.i13.lk (g:=387) rfl) _ _ rfl]
 simp only[Request.enc]
 cases hg:s.good with
 | false=>
   rw[hg] at e2
   rw[dost_bad (by simp[hg])]
   simp only[rn,RO.dst,lk,drop,Nat.reduceBEq,Nat.reduceAdd,Nat.reduceLeDiff,↓reduceIte,reduceCtorEq,Int.reduceLT,Int.reduceLE,Int.reduceGT,Int.reduceGE,Int.reduceBEq,Int.reduceBNe,Int.reduceEq,Int.reduceNe,Int.reduceNeg,l1,l2,l3,e1,e2]
   exact ⟨_,_,_,rfl,o12,⟨y,_,rfl,rfl,w12⟩,f1⟩
 | true=>
 rw[hg] at e2
 have hin:(s.good&&inR (⟨qe,6,qi,qa,qt⟩:Request).op 0 8)=true:=by rw[hg];rfl
 have v3:=Store.okI.on v o13
 obtain ⟨x,p,rfl,hp,wx⟩:=v3
 subst hp
 rcases wx.found (fun t=>decide (t.lo≤qi)&&decide (qi≤t.hi)) with q | ⟨i,q,hi,hpi,_⟩
 ·change findId s.shards qi= -1 at q
  rw[dost_away hin q]
  rw[q] at e3
  simp only[rn,RO.dst,lk,drop,Nat.reduceBEq,Nat.reduceAdd,Nat.reduceLeDiff,↓reduceIte,reduceCtorEq,Int.reduceLT,Int.reduceLE,Int.reduceGT,Int.reduceGE,Int.reduceBEq,Int.reduceBNe,Int.reduceEq,Int.reduceNe,Int.reduceNeg,l1,l2,l3,e1,e2,e3]
  exact ⟨_,_,_,rfl,o13,⟨y,_,rfl,rfl,w⟩,f1⟩
 change findId s.shards qi=(i:Int) at q
 rw[q] at e3
 rw[dost_at hin q,Shard.at_get hi]
 have g0: ¬(i:Int)<0:=by omega
 have hyi:=w.idx hi
 have okX:=ok.shards _ (List.getElem_mem hi)
 have smX:=sm.2 _ (List.getElem_mem hi)
 have smf:s.shards[i].finished.length≤1048576:=smX.2
 have smb:s.shards[i].book.list.length≤1048576:=smX.1
 have hbk:bookOk s.shards[i].book.list=true:=by
  have:=Store.fit_at hg hi
  simp only[Store.fits,Bool.and_eq_true,Shard.at_get hi,Shard.good,Shard.head] at this
  exact this.1.1.2.2.2.1
 obtain ⟨xb,xf,pb,pf,rows,hgr,hrr,wb,wf,fin⟩:=row_book o13 hf w f1 hi
 have hld:=fun j n=>loadP_row hgr hrr j n
 have eC:=containsFin_run (F:=F) (Z:=Z) k.li k.lc (wf.up (Fl.ok _) h3.next) ⟨qt,qi⟩
 simp only[Fin.enc] at eC
 have hlen:=wf.len
 obtain ⟨yb,hq,fb,eB,oB,uB,dB⟩:=doBook_c (Z:=Z) (h:=⟨h3.next,h3.next,h3.get⟩) k.i10 k.i13 pri prd (Nat.le_refl _) (wb.up (Fl.ok _) h3.next) ⟨qe,6,qi,qa,qt⟩ okq okX.book.list smb hbk
 simp only[Request.enc] at eB
 obtain ⟨g1,hg1⟩: ∃g1,Heap.mk hq.next h3.floor hq.get=g1:=⟨_,rfl⟩
 have oB1:On h3 g1:=by rw[←hg1];exact ⟨⟨oB.ext.1,oB.ext.2⟩,rfl⟩
 have uB1:SlR 11 (Fl Account.enc) g1 yb (doBook s.shards[i].book.list ⟨qe,6,qi,qa,qt⟩).1 fb:=by rw[←hg1];exact uB.up (Fl.ok _) h3.floor
 have ndB:fb.Nodup:=by
  rcases dB with d | ⟨_,d⟩
  ·exact d.nd
  ·rw[d];exact wb.nodup
 obtain ⟨g2,fqs,rows2,st,og2,fq2,w2,u2,hg2,hr2⟩:=fin g1 yb _ fb oB1 uB1 ndB (by
  rcases dB with d | ⟨_,d⟩
  ·exact .inl ⟨d.lo,d.nd⟩
  ·exact .inr d)
 cases cA:(s.shards[i].epoch !=qe) with
 | true=>
   have cA':(s.shards[i].epoch==qe)=false:=by simpa using cA
   have hR:refuse s.shards[i] ⟨qe,6,qi,qa,qt⟩=9:=by simp[refuse,inR,Request.ends,Request.fin,cA']
   rw[hR]
   simp only[show ((9:Int)==0)=false from rfl,cond_false]
   simp only[rn,RO.dst,lk,drop,Nat.reduceBEq,Nat.reduceAdd,Nat.reduceLeDiff,↓reduceIte,reduceCtorEq,Int.reduceLT,Int.reduceLE,Int.reduceGT,Int.reduceGE,Int.reduceBEq,Int.reduceBNe,Int.reduceEq,Int.reduceNe,Int.reduceNeg,l1,l2,l3,e1,e2,e3,hyi,hld,eC,hlen,g0,cA]
   exact ⟨_,_,_,rfl,o13,⟨y,_,rfl,rfl,w⟩,f1⟩
 | false=>
 have cA':(s.shards[i].epoch==qe)=true:=by simpa using cA
 cases cB:(s.shards[i].state==1) with
 | true=>
   have hR:refuse s.shards[i] ⟨qe,6,qi,qa,qt⟩=10:=by simp[refuse,inR,Request.ends,Request.fin,cA',cB]
   rw[hR]
   simp only[show ((10:Int)==0)=false from rfl,cond_false]
   simp only[rn,RO.dst,lk,drop,Nat.reduceBEq,Nat.reduceAdd,Nat.reduceLeDiff,↓reduceIte,reduceCtorEq,Int.reduceLT,Int.reduceLE,Int.reduceGT,Int.reduceGE,Int.reduceBEq,Int.reduceBNe,Int.reduceEq,Int.reduceNe,Int.reduceNeg,l1,l2,l3,e1,e2,e3,hyi,hld,eC,hlen,g0,cA,cB]
   exact ⟨_,_,_,rfl,o13,⟨y,_,rfl,rfl,w⟩,f1⟩
 | false=>
 by_cases cC:qt<1
 ·have hR:refuse s.shards[i] ⟨qe,6,qi,qa,qt⟩=11:=by simp[refuse,inR,Request.ends,Request.fin,cA',cB,cC]
  rw[hR]
  simp only[show ((11:Int)==0)=false from rfl,cond_false]
  simp only[rn,RO.dst,lk,drop,Nat.reduceBEq,Nat.reduceAdd,Nat.reduceLeDiff,↓reduceIte,reduceCtorEq,Int.reduceLT,Int.reduceLE,Int.reduceGT,Int.reduceGE,Int.reduceBEq,Int.reduceBNe,Int.reduceEq,Int.reduceNe,Int.reduceNeg,l1,l2,l3,e1,e2,e3,hyi,hld,eC,hlen,g0,cA,cB,cC]
  exact ⟨_,_,_,rfl,o13,⟨y,_,rfl,rfl,w⟩,f1⟩
 cases cD:decide ((⟨qt,qi⟩:Fin)∈s.shards[i].finished) with
 | true=>
   have cD':(⟨qt,qi⟩:Fin)∈s.shards[i].finished:=of_decide_eq_true cD
   have hR:refuse s.shards[i] ⟨qe,6,qi,qa,qt⟩=0:=by simp[refuse,inR,Request.ends,Request.fin,cA',cB,cC,cD']
   rw[hR]
   simp only[beq_self_eq_true,cond_true]
   have hS:doShard s.shards[i] ⟨qe,6,qi,qa,qt⟩={s.shards[i] with book:=⟨(doBook s.shards[i].book.list ⟨qe,6,qi,qa,qt⟩).1⟩}:=by simp[doShard,Request.ends,Request.fin,cA',cB,cC,cD']
   rw[hS]
   have eA:=accountOf_run (Z:=Z) k.i10 u2 qi
   rcases val_cases (a:=qi) (doBook_srt hbk ⟨qe,6,qi,qa,qt⟩) with ⟨v1,v2⟩ | ⟨v1,v2,v3,v4⟩ | ⟨v1,j,v2,v3,v4,v5,v6⟩
   ·have v1':((doBook s.shards[i].book.list ⟨qe,6,qi,qa,qt⟩).2==0)=false:=by simpa using v1
    rw[v2]
    simp only[rn,RO.dst,lk,drop,Nat.reduceBEq,Nat.reduceAdd,Nat.reduceLeDiff,↓reduceIte,reduceCtorEq,Int.reduceLT,Int.reduceLE,Int.reduceGT,Int.reduceGE,Int.reduceBEq,Int.reduceBNe,Int.reduceEq,Int.reduceNe,Int.reduceNeg,l1,l2,l3,e1,e2,e3,hyi,hld,eC,hlen,g0,cA,cB,cC,cD,eB,hg1,st,eA,v1']
    exact ⟨_,_,_,rfl,og2,⟨y,_,rfl,rfl,w2⟩,fq2⟩
   ·have v1':((doBook s.shards[i].book.list ⟨qe,6,qi,qa,qt⟩).2==0)=true:=by simpa using v1
    rw[v4]
    rw[v2] at eA
    simp only[rn,RO.dst,lk,drop,Nat.reduceBEq,Nat.reduceAdd,Nat.reduceLeDiff,↓reduceIte,reduceCtorEq,Int.reduceLT,Int.reduceLE,Int.reduceGT,Int.reduceGE,Int.reduceBEq,Int.reduceBNe,Int.reduceEq,Int.reduceNe,Int.reduceNeg,l1,l2,l3,e1,e2,e3,hyi,hld,eC,hlen,g0,cA,cB,cC,cD,eB,hg1,st,eA,v1']
    exact ⟨_,_,_,rfl,og2,⟨y,_,rfl,rfl,w2⟩,fq2⟩
   ·have v1':((doBook s.shards[i].book.list ⟨qe,6,qi,qa,qt⟩).2==0)=true:=by simpa using v1
    rw[v6,Account.at_get v5]
    rw[v2,v3] at eA
    have hx:=u2.idx v5
    have hl:=u2.load v5
    simp only[Account.enc] at hl
    simp only[rn,RO.dst,lk,drop,Nat.reduceBEq,Nat.reduceAdd,Nat.reduceLeDiff,↓reduceIte,reduceCtorEq,Int.reduceLT,Int.reduceLE,Int.reduceGT,Int.reduceGE,Int.reduceBEq,Int.reduceBNe,Int.reduceEq,Int.reduceNe,Int.reduceNeg,l1,l2,l3,e1,e2,e3,hyi,hld,eC,hlen,g0,cA,cB,cC,cD,eB,hg1,st,eA,v1',hx,hl]
    exact ⟨_,_,_,rfl,og2,⟨y,_,rfl,rfl,w2⟩,fq2⟩
 | false=>
 have cD': ¬(⟨qt,qi⟩:Fin)∈s.shards[i].finished:=of_decide_eq_false cD
 cases cE:((s.shards[i].finished.length:Int)==60) with
 | true=>
   have cE':(s.shards[i].finished.length:Int)=60:=by simpa using cE
   have hR:refuse s.shards[i] ⟨qe,6,qi,qa,qt⟩=13:=by simp[refuse,inR,Request.ends,Request.fin,cA',cB,cC,cD',cE]
   rw[hR]
   simp only[show ((13:Int)==0)=false from rfl,cond_false]
   simp only[rn,RO.dst,lk,drop,Nat.reduceBEq,Nat.reduceAdd,Nat.reduceLeDiff,↓reduceIte,reduceCtorEq,Int.reduceLT,Int.reduceLE,Int.reduceGT,Int.reduceGE,Int.reduceBEq,Int.reduceBNe,Int.reduceEq,Int.reduceNe,Int.reduceNeg,l1,l2,l3,e1,e2,e3,hyi,hld,eC,hlen,g0,cA,cB,cC,cD,cE]
   exact ⟨_,_,_,rfl,o13,⟨y,_,rfl,rfl,w⟩,f1⟩
 | false=>
 have cE': ¬(s.shards[i].finished.length:Int)=60:=by simpa using cE
 have hR:refuse s.shards[i] ⟨qe,6,qi,qa,qt⟩=0:=by simp[refuse,inR,Request.ends,Request.fin,cA',cB,cC,cD',cE]
 rw[hR]
 simp only[beq_self_eq_true,cond_true]
 have hS:doShard s.shards[i] ⟨qe,6,qi,qa,qt⟩={s.shards[i] with book:=⟨(doBook s.shards[i].book.list ⟨qe,6,qi,qa,qt⟩).1⟩,finished:=sortFins (s.shards[i].finished++[⟨qt,qi⟩])}:=by simp[doShard,Request.ends,Request.fin,cA',cB,cC,cD',cE]
 rw[hS]
 have hi2:i<(s.shards.set i {s.shards[i] with book:=⟨(doBook s.shards[i].book.list ⟨qe,6,qi,qa,qt⟩).1⟩}).length:=by rw[List.length_set];exact hi
 obtain ⟨xf',g3,g4,g5,fq3,fb3,a1,a2,a3,a4,og5,ff5,w5,u5⟩:=row_fin og2 hf w2 fq2 hi2 (by rw[List.getElem_set_self];exact smf) hg2 (by rw[List.getElem_set_self];exact hr2) ⟨qt,qi⟩
 simp only[List.getElem_set_self,List.set_set,Fin.enc] at a1 a3 w5 u5
 have hl2:=fun j n=>loadP_row hg2 hr2 j n
 have eA:=accountOf_run (Z:=Z) k.i10 u5 qi
 rcases val_cases (a:=qi) (doBook_srt hbk ⟨qe,6,qi,qa,qt⟩) with ⟨v1,v2⟩ | ⟨v1,v2,v3,v4⟩ | ⟨v1,j,v2,v3,v4,v5,v6⟩
 ·have v1':((doBook s.shards[i].book.list ⟨qe,6,qi,qa,qt⟩).2==0)=false:=by simpa using v1
  rw[v2]
  simp only[rn,RO.dst,lk,drop,Nat.reduceBEq,Nat.reduceAdd,Nat.reduceLeDiff,↓reduceIte,reduceCtorEq,Int.reduceLT,Int.reduceLE,Int.reduceGT,Int.reduceGE,Int.reduceBEq,Int.reduceBNe,Int.reduceEq,Int.reduceNe,Int.reduceNeg,l1,l2,l3,e1,e2,e3,hyi,hld,eC,hlen,g0,cA,cB,cC,cD,cE,eB,hg1,st,hl2,List.replicate_succ,List.replicate_zero,fills,and_self,Nat.zero_lt_one,List.set_cons_zero,a1,a2,a3,prs _ _,a4,eA,v1']
  exact ⟨_,_,_,rfl,og5,⟨y,_,rfl,rfl,w5⟩,ff5⟩
 ·have v1':((doBook s.shards[i].book.list ⟨qe,6,qi,qa,qt⟩).2==0)=true:=by simpa using v1
  rw[v4]
  rw[v2] at eA
  simp only[rn,RO.dst,lk,drop,Nat.reduceBEq,Nat.reduceAdd,Nat.reduceLeDiff,↓reduceIte,reduceCtorEq,Int.reduceLT,Int.reduceLE,Int.reduceGT,Int.reduceGE,Int.reduceBEq,Int.reduceBNe,Int.reduceEq,Int.reduceNe,Int.reduceNeg,l1,l2,l3,e1,e2,e3,hyi,hld,eC,hlen,g0,cA,cB,cC,cD,cE,eB,hg1,st,hl2,List.replicate_succ,List.replicate_zero,fills,and_self,Nat.zero_lt_one,List.set_cons_zero,a1,a2,a3,prs _ _,a4,eA,v1']
  exact ⟨_,_,_,rfl,og5,⟨y,_,rfl,rfl,w5⟩,ff5⟩
 ·have v1':((doBook s.shards[i].book.list ⟨qe,6,qi,qa,qt⟩).2==0)=true:=by simpa using v1
  rw[v6,Account.at_get v5]
  rw[v2,v3] at eA
  have hx:=u5.idx v5
  have hl:=u5.load v5
  simp only[Account.enc] at hl
  simp only[rn,RO.dst,lk,drop,Nat.reduceBEq,Nat.reduceAdd,Nat.reduceLeDiff,↓reduceIte,reduceCtorEq,Int.reduceLT,Int.reduceLE,Int.reduceGT,Int.reduceGE,Int.reduceBEq,Int.reduceBNe,Int.reduceEq,Int.reduceNe,Int.reduceNeg,l1,l2,l3,e1,e2,e3,hyi,hld,eC,hlen,g0,cA,cB,cC,cD,cE,eB,hg1,st,hl2,List.replicate_succ,List.replicate_zero,fills,and_self,Nat.zero_lt_one,List.set_cons_zero,a1,a2,a3,prs _ _,a4,eA,v1',hx,hl]
  exact ⟨_,_,_,rfl,og5,⟨y,_,rfl,rfl,w5⟩,ff5⟩
end
end Go.Proofs.YthofpopafchelaaGreat.A
namespace Go.Proofs.YthofpopafchelaaGreat.A
open Go
set_option linter.unusedSimpArgs false
set_option linter.unusedVariables false
section
variable {F:Nat→Option RF} {Z:CallF} {h:Heap} {cs:List Cell} {fp:List Nat} {s:Store}
set_option maxHeartbeats 4000000 in
set_option maxRecDepth 8000 in
theorem do_op7 (k:KI F) (hL:Has F tLibslicesIndexFuncimplShardimplShard) (pri:PrimAt F Z 343 (insF 11 40)) (prd:PrimAt F Z 348 (delF 11)) (prs:PrimAt F Z 375 (sortF 9 267)) (hf:h.floor≤h.next) (v:Store.RI h cs s fp) (qe qi qa qt:Int) (okq:(⟨qe,7,qi,qa,qt⟩:Request).Ok) (ok:s.Ok) (sm:s.Small):
 DoStoreAt F Z h cs s ⟨qe,7,qi,qa,qt⟩:=by
 unfold DoStoreAt
 obtain ⟨l1,l2,l3⟩:=Store.lenI v
 obtain ⟨cs1,h1,fr,e1,o1,v1,f1⟩:=copyStore_c (Z:=Z) k hf v sm
 obtain ⟨h2,e2,o2⟩:=isStore_run (Z:=Z) k (Store.okI.on v o1) ok
 obtain ⟨h3,e3,o3⟩:=shardWith_on (Z:=Z) k.i13 hL (Store.okI.on (Store.okI.on v o1) o2) qi
 have o12:=o1.trans o2
 have o13:=o12.trans o3
 obtain ⟨y,p,rfl,hp,w12⟩:=Store.okI.on v1 o2
 subst hp
 have w:=w12.on Shard.okI o3
 rw[call_run F Z (k.i13.lk (g:=387) rfl) _ _ rfl]
 simp only[Request.enc]
 cases hg:s.good with
 | false=>
   rw[hg] at e2
   rw[dost_bad (by simp[hg])]
   simp only[rn,RO.dst,lk,drop,Nat.reduceBEq,Nat.reduceAdd,Nat.reduceLeDiff,↓reduceIte,reduceCtorEq,Int.reduceLT,Int.reduceLE,Int.reduceGT,Int.reduceGE,Int.reduceBEq,Int.reduceBNe,Int.reduceEq,Int.reduceNe,Int.reduceNeg,l1,l2,l3,e1,e2]
   exact ⟨_,_,_,rfl,o12,⟨y,_,rfl,rfl,w12⟩,f1⟩
 | true=>
 rw[hg] at e2
 have hin:(s.good&&inR (⟨qe,7,qi,qa,qt⟩:Request).op 0 8)=true:=by rw[hg];rfl
 have v3:=Store.okI.on v o13
 obtain ⟨x,p,rfl,hp,wx⟩:=v3
 subst hp
 rcases wx.found (fun t=>decide (t.lo≤qi)&&decide (qi≤t.hi)) with q | ⟨i,q,hi,hpi,_⟩
 ·change findId s.shards qi= -1 at q
  rw[dost_away hin q]
  rw[q] at e3
  simp only[rn,RO.dst,lk,drop,Nat.reduceBEq,Nat.reduceAdd,Nat.reduceLeDiff,↓reduceIte,reduceCtorEq,Int.reduceLT,Int.reduceLE,Int.reduceGT,Int.reduceGE,Int.reduceBEq,Int.reduceBNe,Int.reduceEq,Int.reduceNe,Int.reduceNeg,l1,l2,l3,e1,e2,e3]
  exact ⟨_,_,_,rfl,o13,⟨y,_,rfl,rfl,w⟩,f1⟩
 change findId s.shards qi=(i:Int) at q
 rw[q] at e3
 rw[dost_at hin q,Shard.at_get hi]
 have g0: ¬(i:Int)<0:=by omega
 have hyi:=w.idx hi
 have okX:=ok.shards _ (List.getElem_mem hi)
 have smX:=sm.2 _ (List.getElem_mem hi)
 have smf:s.shards[i].finished.length≤1048576:=smX.2
 have smb:s.shards[i].book.list.length≤1048576:=smX.1
 have hbk:bookOk s.shards[i].book.list=true:=by
  have:=Store.fit_at hg hi
  simp only[Store.fits,Bool.and_eq_true,Shard.at_get hi,Shard.good,Shard.head] at this
  exact this.1.1.2.2.2.1
 obtain ⟨xb,xf,pb,pf,rows,hgr,hrr,wb,wf,fin⟩:=row_book o13 hf w f1 hi
 have hld:=fun j n=>loadP_row hgr hrr j n
 have eC:=containsFin_run (F:=F) (Z:=Z) k.li k.lc (wf.up (Fl.ok _) h3.next) ⟨qt,qi⟩
 simp only[Fin.enc] at eC
 have hlen:=wf.len
 obtain ⟨yb,hq,fb,eB,oB,uB,dB⟩:=doBook_c (Z:=Z) (h:=⟨h3.next,h3.next,h3.get⟩) k.i10 k.i13 pri prd (Nat.le_refl _) (wb.up (Fl.ok _) h3.next) ⟨qe,7,qi,qa,qt⟩ okq okX.book.list smb hbk
 simp only[Request.enc] at eB
 obtain ⟨g1,hg1⟩: ∃g1,Heap.mk hq.next h3.floor hq.get=g1:=⟨_,rfl⟩
 have oB1:On h3 g1:=by rw[←hg1];exact ⟨⟨oB.ext.1,oB.ext.2⟩,rfl⟩
 have uB1:SlR 11 (Fl Account.enc) g1 yb (doBook s.shards[i].book.list ⟨qe,7,qi,qa,qt⟩).1 fb:=by rw[←hg1];exact uB.up (Fl.ok _) h3.floor
 have ndB:fb.Nodup:=by
  rcases dB with d | ⟨_,d⟩
  ·exact d.nd
  ·rw[d];exact wb.nodup
 obtain ⟨g2,fqs,rows2,st,og2,fq2,w2,u2,hg2,hr2⟩:=fin g1 yb _ fb oB1 uB1 ndB (by
  rcases dB with d | ⟨_,d⟩
  ·exact .inl ⟨d.lo,d.nd⟩
  ·exact .inr d)
 cases cA:(s.shards[i].epoch !=qe) with
 | true=>
   have cA':(s.shards[i].epoch==qe)=false:=by simpa using cA
   have hR:refuse s.shards[i] ⟨qe,7,qi,qa,qt⟩=9:=by simp[refuse,inR,Request.ends,Request.fin,cA']
   rw[hR]
   simp only[show ((9:Int)==0)=false from rfl,cond_false]
   simp only[rn,RO.dst,lk,drop,Nat.reduceBEq,Nat.reduceAdd,Nat.reduceLeDiff,↓reduceIte,reduceCtorEq,Int.reduceLT,Int.reduceLE,Int.reduceGT,Int.reduceGE,Int.reduceBEq,Int.reduceBNe,Int.reduceEq,Int.reduceNe,Int.reduceNeg,l1,l2,l3,e1,e2,e3,hyi,hld,eC,hlen,g0,cA]
   exact ⟨_,_,_,rfl,o13,⟨y,_,rfl,rfl,w⟩,f1⟩
 | false=>
 have cA':(s.shards[i].epoch==qe)=true:=by simpa using cA
 cases cB:(s.shards[i].state==1) with
 | true=>
   have hR:refuse s.shards[i] ⟨qe,7,qi,qa,qt⟩=10:=by simp[refuse,inR,Request.ends,Request.fin,cA',cB]
   rw[hR]
   simp only[show ((10:Int)==0)=false from rfl,cond_false]
   simp only[rn,RO.dst,lk,drop,Nat.reduceBEq,Nat.reduceAdd,Nat.reduceLeDiff,↓reduceIte,reduceCtorEq,Int.reduceLT,Int.reduceLE,Int.reduceGT,Int.reduceGE,Int.reduceBEq,Int.reduceBNe,Int.reduceEq,Int.reduceNe,Int.reduceNeg,l1,l2,l3,e1,e2,e3,hyi,hld,eC,hlen,g0,cA,cB]
   exact ⟨_,_,_,rfl,o13,⟨y,_,rfl,rfl,w⟩,f1⟩
 | false=>
 by_cases cC:qt<1
 ·have hR:refuse s.shards[i] ⟨qe,7,qi,qa,qt⟩=11:=by simp[refuse,inR,Request.ends,Request.fin,cA',cB,cC]
  rw[hR]
  simp only[show ((11:Int)==0)=false from rfl,cond_false]
  simp only[rn,RO.dst,lk,drop,Nat.reduceBEq,Nat.reduceAdd,Nat.reduceLeDiff,↓reduceIte,reduceCtorEq,Int.reduceLT,Int.reduceLE,Int.reduceGT,Int.reduceGE,Int.reduceBEq,Int.reduceBNe,Int.reduceEq,Int.reduceNe,Int.reduceNeg,l1,l2,l3,e1,e2,e3,hyi,hld,eC,hlen,g0,cA,cB,cC]
  exact ⟨_,_,_,rfl,o13,⟨y,_,rfl,rfl,w⟩,f1⟩
 cases cD:decide ((⟨qt,qi⟩:Fin)∈s.shards[i].finished) with
 | true=>
   have cD':(⟨qt,qi⟩:Fin)∈s.shards[i].finished:=of_decide_eq_true cD
   have hR:refuse s.shards[i] ⟨qe,7,qi,qa,qt⟩=0:=by simp[refuse,inR,Request.ends,Request.fin,cA',cB,cC,cD']
   rw[hR]
   simp only[beq_self_eq_true,cond_true]
   have hS:doShard s.shards[i] ⟨qe,7,qi,qa,qt⟩={s.shards[i] with book:=⟨(doBook s.shards[i].book.list ⟨qe,7,qi,qa,qt⟩).1⟩}:=by simp[doShard,Request.ends,Request.fin,cA',cB,cC,cD']
   rw[hS]
   have eA:=accountOf_run (Z:=Z) k.i10 u2 qi
   rcases val_cases (a:=qi) (doBook_srt hbk ⟨qe,7,qi,qa,qt⟩) with ⟨v1,v2⟩ | ⟨v1,v2,v3,v4⟩ | ⟨v1,j,v2,v3,v4,v5,v6⟩
   ·have v1':((doBook s.shards[i].book.list ⟨qe,7,qi,qa,qt⟩).2==0)=false:=by simpa using v1
    rw[v2]
    simp only[rn,RO.dst,lk,drop,Nat.reduceBEq,Nat.reduceAdd,Nat.reduceLeDiff,↓reduceIte,reduceCtorEq,Int.reduceLT,Int.reduceLE,Int.reduceGT,Int.reduceGE,Int.reduceBEq,Int.reduceBNe,Int.reduceEq,Int.reduceNe,Int.reduceNeg,l1,l2,l3,e1,e2,e3,hyi,hld,eC,hlen,g0,cA,cB,cC,cD,eB,hg1,st,eA,v1']
    exact ⟨_,_,_,rfl,og2,⟨y,_,rfl,rfl,w2⟩,fq2⟩
   ·have v1':((doBook s.shards[i].book.list ⟨qe,7,qi,qa,qt⟩).2==0)=true:=by simpa using v1
    rw[v4]
    rw[v2] at eA
    simp only[rn,RO.dst,lk,drop,Nat.reduceBEq,Nat.reduceAdd,Nat.reduceLeDiff,↓reduceIte,reduceCtorEq,Int.reduceLT,Int.reduceLE,Int.reduceGT,Int.reduceGE,Int.reduceBEq,Int.reduceBNe,Int.reduceEq,Int.reduceNe,Int.reduceNeg,l1,l2,l3,e1,e2,e3,hyi,hld,eC,hlen,g0,cA,cB,cC,cD,eB,hg1,st,eA,v1']
    exact ⟨_,_,_,rfl,og2,⟨y,_,rfl,rfl,w2⟩,fq2⟩
   ·have v1':((doBook s.shards[i].book.list ⟨qe,7,qi,qa,qt⟩).2==0)=true:=by simpa using v1
    rw[v6,Account.at_get v5]
    rw[v2,v3] at eA
    have hx:=u2.idx v5
    have hl:=u2.load v5
    simp only[Account.enc] at hl
    simp only[rn,RO.dst,lk,drop,Nat.reduceBEq,Nat.reduceAdd,Nat.reduceLeDiff,↓reduceIte,reduceCtorEq,Int.reduceLT,Int.reduceLE,Int.reduceGT,Int.reduceGE,Int.reduceBEq,Int.reduceBNe,Int.reduceEq,Int.reduceNe,Int.reduceNeg,l1,l2,l3,e1,e2,e3,hyi,hld,eC,hlen,g0,cA,cB,cC,cD,eB,hg1,st,eA,v1',hx,hl]
    exact ⟨_,_,_,rfl,og2,⟨y,_,rfl,rfl,w2⟩,fq2⟩
 | false=>
 have cD': ¬(⟨qt,qi⟩:Fin)∈s.shards[i].finished:=of_decide_eq_false cD
 cases cE:((s.shards[i].finished.length:Int)==60) with
 | true=>
   have cE':(s.shards[i].finished.length:Int)=60:=by simpa using cE
   have hR:refuse s.shards[i] ⟨qe,7,qi,qa,qt⟩=13:=by simp[refuse,inR,Request.ends,Request.fin,cA',cB,cC,cD',cE]
   rw[hR]
   simp only[show ((13:Int)==0)=false from rfl,cond_false]
   simp only[rn,RO.dst,lk,drop,Nat.reduceBEq,Nat.reduceAdd,Nat.reduceLeDiff,↓reduceIte,reduceCtorEq,Int.reduceLT,Int.reduceLE,Int.reduceGT,Int.reduceGE,Int.reduceBEq,Int.reduceBNe,Int.reduceEq,Int.reduceNe,Int.reduceNeg,l1,l2,l3,e1,e2,e3,hyi,hld,eC,hlen,g0,cA,cB,cC,cD,cE]
   exact ⟨_,_,_,rfl,o13,⟨y,_,rfl,rfl,w⟩,f1⟩
 | false=>
 have cE': ¬(s.shards[i].finished.length:Int)=60:=by simpa using cE
 have hR:refuse s.shards[i] ⟨qe,7,qi,qa,qt⟩=0:=by simp[refuse,inR,Request.ends,Request.fin,cA',cB,cC,cD',cE]
 rw[hR]
 simp only[beq_self_eq_true,cond_true]
 have hS:doShard s.shards[i] ⟨qe,7,qi,qa,qt⟩={s.shards[i] with book:=⟨(doBook s.shards[i].book.list ⟨qe,7,qi,qa,qt⟩).1⟩,finished:=sortFins (s.shards[i].finished++[⟨qt,qi⟩])}:=by simp[doShard,Request.ends,Request.fin,cA',cB,cC,cD',cE]
 rw[hS]
 have hi2:i<(s.shards.set i {s.shards[i] with book:=⟨(doBook s.shards[i].book.list ⟨qe,7,qi,qa,qt⟩).1⟩}).length:=by rw[List.length_set];exact hi
 obtain ⟨xf',g3,g4,g5,fq3,fb3,a1,a2,a3,a4,og5,ff5,w5,u5⟩:=row_fin og2 hf w2 fq2 hi2 (by rw[List.getElem_set_self];exact smf) hg2 (by rw[List.getElem_set_self];exact hr2) ⟨qt,qi⟩
 simp only[List.getElem_set_self,List.set_set,Fin.enc] at a1 a3 w5 u5
 have hl2:=fun j n=>loadP_row hg2 hr2 j n
 have eA:=accountOf_run (Z:=Z) k.i10 u5 qi
 rcases val_cases (a:=qi) (doBook_srt hbk ⟨qe,7,qi,qa,qt⟩) with ⟨v1,v2⟩ | ⟨v1,v2,v3,v4⟩ | ⟨v1,j,v2,v3,v4,v5,v6⟩
 ·have v1':((doBook s.shards[i].book.list ⟨qe,7,qi,qa,qt⟩).2==0)=false:=by simpa using v1
  rw[v2]
  simp only[rn,RO.dst,lk,drop,Nat.reduceBEq,Nat.reduceAdd,Nat.reduceLeDiff,↓reduceIte,reduceCtorEq,Int.reduceLT,Int.reduceLE,Int.reduceGT,Int.reduceGE,Int.reduceBEq,Int.reduceBNe,Int.reduceEq,Int.reduceNe,Int.reduceNeg,l1,l2,l3,e1,e2,e3,hyi,hld,eC,hlen,g0,cA,cB,cC,cD,cE,eB,hg1,st,hl2,List.replicate_succ,List.replicate_zero,fills,and_self,Nat.zero_lt_one,List.set_cons_zero,a1,a2,a3,prs _ _,a4,eA,v1']
  exact ⟨_,_,_,rfl,og5,⟨y,_,rfl,rfl,w5⟩,ff5⟩
 ·have v1':((doBook s.shards[i].book.list ⟨qe,7,qi,qa,qt⟩).2==0)=true:=by simpa using v1
  rw[v4]
  rw[v2] at eA
  simp only[rn,RO.dst,lk,drop,Nat.reduceBEq,Nat.reduceAdd,Nat.reduceLeDiff,↓reduceIte,reduceCtorEq,Int.reduceLT,Int.reduceLE,Int.reduceGT,Int.reduceGE,Int.reduceBEq,Int.reduceBNe,Int.reduceEq,Int.reduceNe,Int.reduceNeg,l1,l2,l3,e1,e2,e3,hyi,hld,eC,hlen,g0,cA,cB,cC,cD,cE,eB,hg1,st,hl2,List.replicate_succ,List.replicate_zero,fills,and_self,Nat.zero_lt_one,List.set_cons_zero,a1,a2,a3,prs _ _,a4,eA,v1']
  exact ⟨_,_,_,rfl,og5,⟨y,_,rfl,rfl,w5⟩,ff5⟩
 ·have v1':((doBook s.shards[i].book.list ⟨qe,7,qi,qa,qt⟩).2==0)=true:=by simpa using v1
  rw[v6,Account.at_get v5]
  rw[v2,v3] at eA
  have hx:=u5.idx v5
  have hl:=u5.load v5
  simp only[Account.enc] at hl
  simp only[rn,RO.dst,lk,drop,Nat.reduceBEq,Nat.reduceAdd,Nat.reduceLeDiff,↓reduceIte,reduceCtorEq,Int.reduceLT,Int.reduceLE,Int.reduceGT,Int.reduceGE,Int.reduceBEq,Int.reduceBNe,Int.reduceEq,Int.reduceNe,Int.reduceNeg,l1,l2,l3,e1,e2,e3,hyi,hld,eC,hlen,g0,cA,cB,cC,cD,cE,eB,hg1,st,hl2,List.replicate_succ,List.replicate_zero,fills,and_self,Nat.zero_lt_one,List.set_cons_zero,a1,a2,a3,prs _ _,a4,eA,v1',hx,hl]
  exact ⟨_,_,_,rfl,og5,⟨y,_,rfl,rfl,w5⟩,ff5⟩
set_option maxHeartbeats 4000000 in
set_option maxRecDepth 8000 in
theorem do_op8 (k:KI F) (hL:Has F tLibslicesIndexFuncimplShardimplShard) (pri:PrimAt F Z 343 (insF 11 40)) (prd:PrimAt F Z 348 (delF 11)) (prs:PrimAt F Z 375 (sortF 9 267)) (hf:h.floor≤h.next) (v:Store.RI h cs s fp) (qe qi qa qt:Int) (okq:(⟨qe,8,qi,qa,qt⟩:Request).Ok) (ok:s.Ok) (sm:s.Small):
 DoStoreAt F Z h cs s ⟨qe,8,qi,qa,qt⟩:=by
 unfold DoStoreAt
 obtain ⟨l1,l2,l3⟩:=Store.lenI v
 obtain ⟨cs1,h1,fr,e1,o1,v1,f1⟩:=copyStore_c (Z:=Z) k hf v sm
 obtain ⟨h2,e2,o2⟩:=isStore_run (Z:=Z) k (Store.okI.on v o1) ok
 obtain ⟨h3,e3,o3⟩:=shardWith_on (Z:=Z) k.i13 hL (Store.okI.on (Store.okI.on v o1) o2) qi
 have o12:=o1.trans o2
 have o13:=o12.trans o3
 obtain ⟨y,p,rfl,hp,w12⟩:=Store.okI.on v1 o2
 subst hp
 have w:=w12.on Shard.okI o3
 rw[call_run F Z (k.i13.lk (g:=387) rfl) _ _ rfl]
 simp only[Request.enc]
 cases hg:s.good with
 | false=>
   rw[hg] at e2
   rw[dost_bad (by simp[hg])]
   simp only[rn,RO.dst,lk,drop,Nat.reduceBEq,Nat.reduceAdd,Nat.reduceLeDiff,↓reduceIte,reduceCtorEq,Int.reduceLT,Int.reduceLE,Int.reduceGT,Int.reduceGE,Int.reduceBEq,Int.reduceBNe,Int.reduceEq,Int.reduceNe,Int.reduceNeg,l1,l2,l3,e1,e2]
   exact ⟨_,_,_,rfl,o12,⟨y,_,rfl,rfl,w12⟩,f1⟩
 | true=>
 rw[hg] at e2
 have hin:(s.good&&inR (⟨qe,8,qi,qa,qt⟩:Request).op 0 8)=true:=by rw[hg];rfl
 have v3:=Store.okI.on v o13
 obtain ⟨x,p,rfl,hp,wx⟩:=v3
 subst hp
 rcases wx.found (fun t=>decide (t.lo≤qi)&&decide (qi≤t.hi)) with q | ⟨i,q,hi,hpi,_⟩
 ·change findId s.shards qi= -1 at q
  rw[dost_away hin q]
  rw[q] at e3
  simp only[rn,RO.dst,lk,drop,Nat.reduceBEq,Nat.reduceAdd,Nat.reduceLeDiff,↓reduceIte,reduceCtorEq,Int.reduceLT,Int.reduceLE,Int.reduceGT,Int.reduceGE,Int.reduceBEq,Int.reduceBNe,Int.reduceEq,Int.reduceNe,Int.reduceNeg,l1,l2,l3,e1,e2,e3]
  exact ⟨_,_,_,rfl,o13,⟨y,_,rfl,rfl,w⟩,f1⟩
 change findId s.shards qi=(i:Int) at q
 rw[q] at e3
 rw[dost_at hin q,Shard.at_get hi]
 have g0: ¬(i:Int)<0:=by omega
 have hyi:=w.idx hi
 have okX:=ok.shards _ (List.getElem_mem hi)
 have smX:=sm.2 _ (List.getElem_mem hi)
 have smf:s.shards[i].finished.length≤1048576:=smX.2
 have smb:s.shards[i].book.list.length≤1048576:=smX.1
 have hbk:bookOk s.shards[i].book.list=true:=by
  have:=Store.fit_at hg hi
  simp only[Store.fits,Bool.and_eq_true,Shard.at_get hi,Shard.good,Shard.head] at this
  exact this.1.1.2.2.2.1
 obtain ⟨xb,xf,pb,pf,rows,hgr,hrr,wb,wf,fin⟩:=row_book o13 hf w f1 hi
 have hld:=fun j n=>loadP_row hgr hrr j n
 have eC:=containsFin_run (F:=F) (Z:=Z) k.li k.lc (wf.up (Fl.ok _) h3.next) ⟨qt,qi⟩
 simp only[Fin.enc] at eC
 have hlen:=wf.len
 obtain ⟨yb,hq,fb,eB,oB,uB,dB⟩:=doBook_c (Z:=Z) (h:=⟨h3.next,h3.next,h3.get⟩) k.i10 k.i13 pri prd (Nat.le_refl _) (wb.up (Fl.ok _) h3.next) ⟨qe,8,qi,qa,qt⟩ okq okX.book.list smb hbk
 simp only[Request.enc] at eB
 obtain ⟨g1,hg1⟩: ∃g1,Heap.mk hq.next h3.floor hq.get=g1:=⟨_,rfl⟩
 have oB1:On h3 g1:=by rw[←hg1];exact ⟨⟨oB.ext.1,oB.ext.2⟩,rfl⟩
 have uB1:SlR 11 (Fl Account.enc) g1 yb (doBook s.shards[i].book.list ⟨qe,8,qi,qa,qt⟩).1 fb:=by rw[←hg1];exact uB.up (Fl.ok _) h3.floor
 have ndB:fb.Nodup:=by
  rcases dB with d | ⟨_,d⟩
  ·exact d.nd
  ·rw[d];exact wb.nodup
 obtain ⟨g2,fqs,rows2,st,og2,fq2,w2,u2,hg2,hr2⟩:=fin g1 yb _ fb oB1 uB1 ndB (by
  rcases dB with d | ⟨_,d⟩
  ·exact .inl ⟨d.lo,d.nd⟩
  ·exact .inr d)
 cases cA:(s.shards[i].epoch !=qe) with
 | true=>
   have cA':(s.shards[i].epoch==qe)=false:=by simpa using cA
   have hR:refuse s.shards[i] ⟨qe,8,qi,qa,qt⟩=9:=by simp[refuse,inR,Request.ends,Request.fin,cA']
   rw[hR]
   simp only[show ((9:Int)==0)=false from rfl,cond_false]
   simp only[rn,RO.dst,lk,drop,Nat.reduceBEq,Nat.reduceAdd,Nat.reduceLeDiff,↓reduceIte,reduceCtorEq,Int.reduceLT,Int.reduceLE,Int.reduceGT,Int.reduceGE,Int.reduceBEq,Int.reduceBNe,Int.reduceEq,Int.reduceNe,Int.reduceNeg,l1,l2,l3,e1,e2,e3,hyi,hld,eC,hlen,g0,cA]
   exact ⟨_,_,_,rfl,o13,⟨y,_,rfl,rfl,w⟩,f1⟩
 | false=>
 have cA':(s.shards[i].epoch==qe)=true:=by simpa using cA
 cases cB:(s.shards[i].state==1) with
 | true=>
   have hR:refuse s.shards[i] ⟨qe,8,qi,qa,qt⟩=0:=by simp[refuse,inR,Request.ends,Request.fin,cA',cB]
   rw[hR]
   simp only[beq_self_eq_true,cond_true]
   have hS:doShard s.shards[i] ⟨qe,8,qi,qa,qt⟩={s.shards[i] with book:=⟨(doBook s.shards[i].book.list ⟨qe,8,qi,qa,qt⟩).1⟩}:=by simp[doShard,Request.ends,Request.fin,cA',cB]
   rw[hS]
   have eA:=accountOf_run (Z:=Z) k.i10 u2 qi
   rcases val_cases (a:=qi) (doBook_srt hbk ⟨qe,8,qi,qa,qt⟩) with ⟨v1,v2⟩ | ⟨v1,v2,v3,v4⟩ | ⟨v1,j,v2,v3,v4,v5,v6⟩
   ·have v1':((doBook s.shards[i].book.list ⟨qe,8,qi,qa,qt⟩).2==0)=false:=by simpa using v1
    rw[v2]
    simp only[rn,RO.dst,lk,drop,Nat.reduceBEq,Nat.reduceAdd,Nat.reduceLeDiff,↓reduceIte,reduceCtorEq,Int.reduceLT,Int.reduceLE,Int.reduceGT,Int.reduceGE,Int.reduceBEq,Int.reduceBNe,Int.reduceEq,Int.reduceNe,Int.reduceNeg,l1,l2,l3,e1,e2,e3,hyi,hld,eC,hlen,g0,cA,cB,eB,hg1,st,eA,v1']
    exact ⟨_,_,_,rfl,og2,⟨y,_,rfl,rfl,w2⟩,fq2⟩
   ·have v1':((doBook s.shards[i].book.list ⟨qe,8,qi,qa,qt⟩).2==0)=true:=by simpa using v1
    rw[v4]
    rw[v2] at eA
    simp only[rn,RO.dst,lk,drop,Nat.reduceBEq,Nat.reduceAdd,Nat.reduceLeDiff,↓reduceIte,reduceCtorEq,Int.reduceLT,Int.reduceLE,Int.reduceGT,Int.reduceGE,Int.reduceBEq,Int.reduceBNe,Int.reduceEq,Int.reduceNe,Int.reduceNeg,l1,l2,l3,e1,e2,e3,hyi,hld,eC,hlen,g0,cA,cB,eB,hg1,st,eA,v1']
    exact ⟨_,_,_,rfl,og2,⟨y,_,rfl,rfl,w2⟩,fq2⟩
   ·have v1':((doBook s.shards[i].book.list ⟨qe,8,qi,qa,qt⟩).2==0)=true:=by simpa using v1
    rw[v6,Account.at_get v5]
    rw[v2,v3] at eA
    have hx:=u2.idx v5
    have hl:=u2.load v5
    simp only[Account.enc] at hl
    simp only[rn,RO.dst,lk,drop,Nat.reduceBEq,Nat.reduceAdd,Nat.reduceLeDiff,↓reduceIte,reduceCtorEq,Int.reduceLT,Int.reduceLE,Int.reduceGT,Int.reduceGE,Int.reduceBEq,Int.reduceBNe,Int.reduceEq,Int.reduceNe,Int.reduceNeg,l1,l2,l3,e1,e2,e3,hyi,hld,eC,hlen,g0,cA,cB,eB,hg1,st,eA,v1',hx,hl]
    exact ⟨_,_,_,rfl,og2,⟨y,_,rfl,rfl,w2⟩,fq2⟩
 | false=>
 have hR:refuse s.shards[i] ⟨qe,8,qi,qa,qt⟩=0:=by simp[refuse,inR,Request.ends,Request.fin,cA',cB]
 rw[hR]
 simp only[beq_self_eq_true,cond_true]
 have hS:doShard s.shards[i] ⟨qe,8,qi,qa,qt⟩={s.shards[i] with book:=⟨(doBook s.shards[i].book.list ⟨qe,8,qi,qa,qt⟩).1⟩}:=by simp[doShard,Request.ends,Request.fin,cA',cB]
 rw[hS]
 have eA:=accountOf_run (Z:=Z) k.i10 u2 qi
 rcases val_cases (a:=qi) (doBook_srt hbk ⟨qe,8,qi,qa,qt⟩) with ⟨v1,v2⟩ | ⟨v1,v2,v3,v4⟩ | ⟨v1,j,v2,v3,v4,v5,v6⟩
 ·have v1':((doBook s.shards[i].book.list ⟨qe,8,qi,qa,qt⟩).2==0)=false:=by simpa using v1
  rw[v2]
  simp only[rn,RO.dst,lk,drop,Nat.reduceBEq,Nat.reduceAdd,Nat.reduceLeDiff,↓reduceIte,reduceCtorEq,Int.reduceLT,Int.reduceLE,Int.reduceGT,Int.reduceGE,Int.reduceBEq,Int.reduceBNe,Int.reduceEq,Int.reduceNe,Int.reduceNeg,l1,l2,l3,e1,e2,e3,hyi,hld,eC,hlen,g0,cA,cB,eB,hg1,st,eA,v1']
  exact ⟨_,_,_,rfl,og2,⟨y,_,rfl,rfl,w2⟩,fq2⟩
 ·have v1':((doBook s.shards[i].book.list ⟨qe,8,qi,qa,qt⟩).2==0)=true:=by simpa using v1
  rw[v4]
  rw[v2] at eA
  simp only[rn,RO.dst,lk,drop,Nat.reduceBEq,Nat.reduceAdd,Nat.reduceLeDiff,↓reduceIte,reduceCtorEq,Int.reduceLT,Int.reduceLE,Int.reduceGT,Int.reduceGE,Int.reduceBEq,Int.reduceBNe,Int.reduceEq,Int.reduceNe,Int.reduceNeg,l1,l2,l3,e1,e2,e3,hyi,hld,eC,hlen,g0,cA,cB,eB,hg1,st,eA,v1']
  exact ⟨_,_,_,rfl,og2,⟨y,_,rfl,rfl,w2⟩,fq2⟩
 ·have v1':((doBook s.shards[i].book.list ⟨qe,8,qi,qa,qt⟩).2==0)=true:=by simpa using v1
  rw[v6,Account.at_get v5]
  rw[v2,v3] at eA
  have hx:=u2.idx v5
  have hl:=u2.load v5
  simp only[Account.enc] at hl
  simp only[rn,RO.dst,lk,drop,Nat.reduceBEq,Nat.reduceAdd,Nat.reduceLeDiff,↓reduceIte,reduceCtorEq,Int.reduceLT,Int.reduceLE,Int.reduceGT,Int.reduceGE,Int.reduceBEq,Int.reduceBNe,Int.reduceEq,Int.reduceNe,Int.reduceNeg,l1,l2,l3,e1,e2,e3,hyi,hld,eC,hlen,g0,cA,cB,eB,hg1,st,eA,v1',hx,hl]
  exact ⟨_,_,_,rfl,og2,⟨y,_,rfl,rfl,w2⟩,fq2⟩
end
end Go.Proofs.YthofpopafchelaaGreat.A
namespace Go.Proofs.YthofpopafchelaaGreat.A
open Go
set_option linter.unusedSimpArgs false
set_option linter.unusedVariables false
theorem op_cases {o:Int} (h:inR o 0 8=true):o=0∨o=1∨o=2∨o=3∨o=4∨o=5∨o=6∨o=7∨o=8:=by
 simp only[inR,Bool.and_eq_true,decide_eq_true_eq] at h
 omega
section
variable {F:Nat→Option RF} {Z:CallF} {h:Heap} {cs:List Cell} {fp:List Nat} {s:Store}
theorem do_out (k:KI F) (hf:h.floor≤h.next) (v:Store.RI h cs s fp) {q:Request} (hin:inR q.op 0 8=false) (ok:s.Ok) (sm:s.Small):DoStoreAt F Z h cs s q:=by
 unfold DoStoreAt
 obtain ⟨l1,l2,l3⟩:=Store.lenI v
 obtain ⟨cs1,h1,fr,e1,o1,v1,f1⟩:=copyStore_c (Z:=Z) k hf v sm
 obtain ⟨h2,e2,o2⟩:=isStore_run (Z:=Z) k (Store.okI.on v o1) ok
 obtain ⟨m1,m2,m3⟩:=Store.lenI v1
 rw[call_run F Z (k.i13.lk (g:=387) rfl) _ _ rfl,dost_bad (by simp[hin])]
 obtain ⟨qe,qo,qi,qa,qt⟩:=q
 simp only[Request.enc]
 cases hg:s.good with
 | false=>
   rw[hg] at e2
   simp only[rn,RO.dst,lk,drop,Nat.reduceBEq,Nat.reduceAdd,Nat.reduceLeDiff,↓reduceIte,reduceCtorEq,l1,l2,l3,m1,m2,m3,e1,e2]
   exact ⟨_,_,_,rfl,o1.trans o2,Store.okI.on v1 o2,f1⟩
 | true=>
   rw[hg] at e2
   by_cases c1:qo<0
   ·simp only[rn,RO.dst,lk,drop,Nat.reduceBEq,Nat.reduceAdd,Nat.reduceLeDiff,↓reduceIte,reduceCtorEq,l1,l2,l3,m1,m2,m3,e1,e2,c1]
    exact ⟨_,_,_,rfl,o1.trans o2,Store.okI.on v1 o2,f1⟩
   ·have c2:qo>8:=by
     simp only[inR,Bool.and_eq_false_iff,decide_eq_false_iff_not] at hin
     omega
    simp only[rn,RO.dst,lk,drop,Nat.reduceBEq,Nat.reduceAdd,Nat.reduceLeDiff,↓reduceIte,reduceCtorEq,l1,l2,l3,m1,m2,m3,e1,e2,c1,c2]
    exact ⟨_,_,_,rfl,o1.trans o2,Store.okI.on v1 o2,f1⟩
theorem doStore_c (k:KI F) (hL:Has F tLibslicesIndexFuncimplShardimplShard) (pri:PrimAt F Z 343 (insF 11 40)) (prd:PrimAt F Z 348 (delF 11)) (prs:PrimAt F Z 375 (sortF 9 267)) (hf:h.floor≤h.next) (v:Store.RI h cs s fp) (q:Request) (okq:q.Ok) (ok:s.Ok) (sm:s.Small):DoStoreAt F Z h cs s q:=by
 cases hin:inR q.op 0 8 with
 | false=>exact do_out k hf v hin ok sm
 | true=>
   obtain ⟨qe,qo,qi,qa,qt⟩:=q
   rcases op_cases hin with h | h | h | h | h | h | h | h | h<;>(simp only at h;subst h)
   ·exact do_op0 k hL pri prd prs hf v qe qi qa qt okq ok sm
   ·exact do_op1 k hL pri prd prs hf v qe qi qa qt okq ok sm
   ·exact do_op2 k hL pri prd prs hf v qe qi qa qt okq ok sm
   ·exact do_op3 k hL pri prd prs hf v qe qi qa qt okq ok sm
   ·exact do_op4 k hL pri prd prs hf v qe qi qa qt okq ok sm
   ·exact do_op5 k hL pri prd prs hf v qe qi qa qt okq ok sm
   ·exact do_op6 k hL pri prd prs hf v qe qi qa qt okq ok sm
   ·exact do_op7 k hL pri prd prs hf v qe qi qa qt okq ok sm
   ·exact do_op8 k hL pri prd prs hf v qe qi qa qt okq ok sm
theorem DoStore_c (k:KI F) (hL:Has F tLibslicesIndexFuncimplShardimplShard) (pri:PrimAt F Z 343 (insF 11 40)) (prd:PrimAt F Z 348 (delF 11)) (prs:PrimAt F Z 375 (sortF 9 267)) (hf:h.floor≤h.next) (v:Store.RI h cs s fp) (q:Request) (okq:q.Ok) (ok:s.Ok) (sm:s.Small):
 ∃cs' h' fq,call F Z 382 [.agg cs,.agg q.enc] h=some (.tup [.agg cs',.c (.int .i64 (doStore s q).2.1),.c (.int .u64 (doStore s q).2.2)],h')∧On h h'∧Store.RI h' cs' (doStore s q).1 fq∧Fre h fq:=by
 obtain ⟨l1,l2,l3⟩:=Store.lenI v
 obtain ⟨cs',h',fq,e,o,v',f⟩:=doStore_c (Z:=Z) k hL pri prd prs hf v q okq ok sm
 obtain ⟨m1,m2,m3⟩:=Store.lenI v'
 rw[call_run F Z (k.i13.lk (g:=382) rfl) _ _ rfl]
 simp only[rn,RO.dst,lk,drop,Nat.reduceBEq,Nat.reduceAdd,Nat.reduceLeDiff,↓reduceIte,reduceCtorEq,l1,l2,l3,Request.len,Request.tak,e,m1,m2,m3]
 exact ⟨_,_,_,rfl,o,v',f⟩
end
end Go.Proofs.YthofpopafchelaaGreat.A
namespace Go.Proofs.YthofpopafchelaaGreat.A
open Go
set_option linter.unusedSimpArgs false
set_option linter.unusedVariables false
section
variable {F:Nat→Option RF} {Z:CallF} {h:Heap} {x:Cell} {code:List Int}
theorem big_run (hL:Has F tLaws) (w:Vw 19 byte_enc h x code):call F Z 144 [.c x] h=some (.c (.bool (decide ((code.length:Int)>1048576))),h):=by
 rw[call_run F Z (hL.lk (g:=144) rfl) _ _ rfl]
 simp only[rn,RO.dst,lk,drop,Nat.reduceBEq,Nat.reduceAdd,Nat.reduceLeDiff,↓reduceIte,reduceCtorEq,w.len]
end
end Go.Proofs.YthofpopafchelaaGreat.A
namespace Go.Proofs.YthofpopafchelaaGreat.A
open Go
set_option linter.unusedSimpArgs false
set_option linter.unusedVariables false
def Byte (b:Int):Prop:=0≤b∧b≤255
theorem Wf.areBytes {h:Heap} {n:Nat} {x:Cell} (w:Wf h (n+2) shUint8S [x]): ∃code:List Int,Vw 19 byte_enc h x code∧ ∀b,b∈code→Byte b:=by
 obtain ⟨xs,fp,v,q⟩:=SlR.ofWf (R:=Fl byte_enc) (A:=Byte) (fun r hr=>by
  obtain ⟨hl,z,rfl,hz⟩:=hr
  refine ⟨z,[],⟨rfl,rfl⟩,?_⟩
  simp only[Lit.wf,Bool.and_eq_true,decide_eq_true_eq] at hz
  exact hz) w
 exact ⟨xs,v.vw,q⟩
section
variable {F:Nat→Option RF} {Z:CallF} {h:Heap} {x:Cell} {code:List Int}
theorem at_byte (hL:Has F tLaws) (hb: ∀b,b∈code→Byte b) (hc:code.length≤1048576) {i:Int} (hi:0≤i∧i≤1000000): ∃r,Byte r∧ ∀h,Vw 19 byte_enc h x code→call F Z 177 [.c x,.c (.int .i64 i)] h=some (.c (.int .i64 r),h):=by
 obtain ⟨j,rfl⟩: ∃j:Nat,i=(j:Int):=⟨i.toNat,by omega⟩
 by_cases hlt:(j:Int)<code.length
 ·have hj:j<code.length:=by omega
  have hr:=hb _ (List.getElem_mem hj)
  refine ⟨code[j],hr,fun h w=> ?_⟩
  rw[call_run F Z (hL.lk (g:=177) rfl) _ _ rfl]
  simp only[rn,RO.dst,lk,drop,Nat.reduceBEq,Nat.reduceAdd,Nat.reduceLeDiff,↓reduceIte,reduceCtorEq,w.len,hlt,w.idx hj,w.load hj,byte_enc]
  rw[wrapI _ (by have:=hr.1;omega) (by have:=hr.2;omega)]
 ·refine ⟨((j:Int)*13+(code.length:Int)*5)%256,⟨by omega,by omega⟩,fun h w=> ?_⟩
  rw[call_run F Z (hL.lk (g:=177) rfl) _ _ rfl]
  simp only[rn,RO.dst,lk,drop,Nat.reduceBEq,Nat.reduceAdd,Nat.reduceLeDiff,↓reduceIte,reduceCtorEq,w.len,hlt,b_rem _ _ _ (show (256:Int)≠0 from by omega)]
  rw[wrapI ((j:Int)*13) (by omega) (by omega),wrapI ((code.length:Int)*5) (by omega) (by omega),wrapI _ (by omega) (by omega),Int.tmod_eq_emod_of_nonneg (by omega)]
end
end Go.Proofs.YthofpopafchelaaGreat.A
