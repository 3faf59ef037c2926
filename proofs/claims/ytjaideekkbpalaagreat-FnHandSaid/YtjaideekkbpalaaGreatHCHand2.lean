/- The functions that the statement reaches, part 2: bodies and what they compute. No condition. -/
import Derived.Test.YtjaideekkbpalaaGreatHCHand1
import Derived.Test.YtjaideekkbpalaaGreatD
import Derived.Test.YtjaideekkbpalaaGreatA1
import Derived.Test.YtjaideekkbpalaaGreatZ9
import Derived.Test.YtjaideekkbpalaaGreatZ6
import Derived.Test.YtjaideekkbpalaaGreatB9
namespace Go.Proofs.YtjaideekkbpalaaGreat.A
open _root_.Bool renaming and_eq_true→Qa,not_eq_true→Qc,or_eq_true→Qu,not_eq_true'→QB,false_and→QP,true_and→QY,and_false→Jm,not_false→Jy,false_eq_true→JD,and_self→JI,not_true→JL
open _root_.Int renaming toNat_natCast→QT,le_refl→Jx,le_of_lt→JM
open _root_.List renaming getElem?_eq_getElem→Qb,getElem_mem→Qd,replicate_zero→Qe,mem_append→Qf,length_take→Qg,set_cons_zero→Qh,replicate_succ→Qi,length_append→Ql,take_length→Qm,take_add_one→Qn,pairwise_iff_getElem→Qo,flatten_append→Qp,nodup_append→Qq,eraseIdx_eq_take_drop_succ→Qr,pairwise_append→Qs,mem_cons→Qt,all_eq_true→Qv,length_drop→Qw,length_map→Qx,length_cons→Qz,findIdx?_eq_some_iff_getElem→QA,drop_eq_getElem_cons→QC,mem_iff_getElem→QF,mem_of_mem_drop→QG,mem_cons_of_mem→QH,length_nil→QI,pairwise_cons→QJ,length_filter_le→QK,nodup_cons→QL,append_nil→QM,append_assoc→QN,mem_of_mem_take→QO,length_eraseIdx_le→QQ,drop_append_of_le_length→QR,mem_range→QU,eraseIdx_of_length_le→QV,findIdx?_eq_none_iff→QW,mem_or_eq_of_mem_set→QX,nil_append→Ja,mem_singleton→Jb,mem_cons_self→Jc,pairwise_map→Jd,drop_eq_nil_of_le→Je,takeWhile_append_dropWhile→Jf,take_append_drop→Jg,not_mem_nil→Jh,drop_length→Jj,mem_filter→Jk,takeWhile_cons→Jl,pairwise_mergeSort→Jo,getElem_set→Jp,getElem?_set_self→Jq,takeWhile_sublist→Jr,getElem_cons_succ→Js,map_append→Jt,foldl_cons→Ju,length_set→Jv,countP_le_length→Jw,filter_sublist→Jz,filter_eq_self→JA,set_cons_succ→JB,filter_append→JC,all_eq_false→JE,cons_append→JH,take_nil→JJ,drop_nil→JK,mem_map→JO
open _root_.Nat renaming le_trans→Qj,zero_lt_one→Qk,le_refl→Qy,add_sub_cancel→QE,lt_of_lt_of_le→QS,not_lt_zero→QZ,lt_trichotomy→JF,zero_lt_succ→JG,lt_or_ge→JN,add_zero→JP
open _root_.Option renaming bind_some→QD,getD_some→Ji
open Go
set_option linter.unusedSimpArgs false
set_option linter.unusedVariables false
def byte_enc (b:Int):List Cell:=[.int .u8 b]
structure Cur (h:Heap) (k:Nat) (x:Cell) (code:List Int):Prop where
 fl:h.floor≤k∧k<h.next
 vw:Vw 19 byte_enc h x code
 ne:x= .nil∨x.sid≠k
 row: ∃i hh:Int,h.get k=some [[x,.int .i64 i,.int .i64 hh]]∧0≤i∧i≤code.length
structure Dr (k:Nat) (h h':Heap):Prop where
 next:h.next≤h'.next
 fl:h'.floor=h.floor
 get: ∀id,id<h.next→id≠k→h'.get id=h.get id
section
variable {h h' h2:Heap} {k:Nat} {x:Cell} {code:List Int}
theorem Dr.refl (k:Nat) (h:Heap):Dr k h h:=⟨Qy _,rfl,fun _ _ _=>rfl⟩
theorem Dr.trans (a:Dr k h h') (b:Dr k h' h2):Dr k h h2:=⟨Qj a.next b.next,b.fl.trans a.fl,fun id h1 hn=>(b.get id (QS h1 a.next) hn).trans (a.get id h1 hn)⟩
theorem On.dr (o:On h h') (k:Nat):Dr k h h':=⟨o.ext.1,o.fl,fun id h1 _=>o.ext.2 id h1⟩
theorem Mk.dr (m:Mk h h' [k]):Dr k h h':=⟨by rw[m.next];exact Qy _,m.fl,fun id _ hn=>m.get id (by simpa using hn)⟩
theorem Dr.le (d:Dr k h h') (hf:h.floor≤h.next):h'.floor≤h'.next:=by have:=d.next;have:=d.fl;omega
theorem RelOk.dr {α:Type} {R:Rel α} (ok:RelOk R) {cs:List Cell} {a:α} {fp:List Nat} (w:R h cs a fp) (d:Dr k h h') (hk:k∉fp):R h' cs a fp:=
 ok.mv w d.next fun id hid=>d.get id (ok.lt w id hid) fun he=>hk (he▸hid)
theorem SlR.dr {α:Type} {R:Rel α} {tag:Nat} {y:Cell} {xs:List α} {fp:List Nat} (w:SlR tag R h y xs fp) (ok:RelOk R) (d:Dr k h h') (hk:k∉fp):SlR tag R h' y xs fp:=
 w.mv ok d.next fun id hid=>d.get id (w.lt ok id hid) fun he=>hk (he▸hid)
theorem Vw.dr {α:Type} {enc:α→List Cell} {tag:Nat} {y:Cell} {xs:List α} (w:Vw tag enc h y xs) (d:Dr k h h') (hk:y= .nil∨y.sid≠k):Vw tag enc h' y xs:=by
 rcases w with ⟨hl,h0 | ⟨id,off,rows,rfl,h2,h3,h4⟩⟩
 ·exact ⟨hl,.inl h0⟩
 ·have hk:id≠k:=hk.elim (fun h=>(nomatch h)) fun h=>h
  exact ⟨hl,.inr ⟨id,off,rows,rfl,(d.get id h3 hk).trans h2,QS h3 d.next,h4⟩⟩
theorem Cur.on (c:Cur h k x code) (o:On h h'):Cur h' k x code:=by
 obtain ⟨i,hh,h1,h2⟩:=c.row
 exact ⟨⟨by rw[o.fl];exact c.fl.1,QS c.fl.2 o.ext.1⟩,c.vw.on o,c.ne,i,hh,(o.ext.2 k c.fl.2).trans h1,h2⟩
theorem Cur.far (c:Cur h k x code) {fp:List Nat} (f:Fre h fp):k∉fp:=fun hk=>by have:=f.lo k hk;have:=c.fl.2;omega
theorem Cur.put (c:Cur h k x code) (i hh:Int) (h0:0≤i) (h1:i≤code.length):Cur (h.put k [[x,.int .i64 i,.int .i64 hh]]) k x code:=
 ⟨c.fl,c.vw.dr (Mk.put h k _).dr c.ne,c.ne,i,hh,by simp[Heap.put],h0,h1⟩
def put1 (h:Heap) (k:Nat):Option (List Cell)→Option Heap
 | some r=>some (h.put k [r])
 | none=>none
theorem put1_s (h:Heap) (k:Nat) (r:List Cell):put1 h k (some r)=some (h.put k [r]):=rfl
theorem sto1 (hf:h.floor≤k) (r:List Cell) (j:Nat) (new:List Cell):storeP (h.put k [r]) k 0 j new=put1 h k (splice? r j new):=by
 have hf':(h.put k [r]).floor≤k:=hf
 have hg:(h.put k [r]).get k=some [r]:=by simp[Heap.put]
 simp only[storeP]
 rw[if_pos hf',hg]
 simp only[QD,List.getElem?_cons_zero]
 cases splice? r j new with
 | none=>rfl
 | some r'=>simp only[QD,Qh,put_put,put1]
theorem loa1 (h:Heap) (k:Nat) (r:List Cell) (j n:Nat):WaC (h.put k [r]) k 0 j n=cut? r j n:=by simp[WaC,WbL,Heap.put]
theorem loa2 (h:Heap) {k id:Nat} (hn:id≠k) (rows:List (List Cell)) (i j n:Nat):WaC (h.put k rows) id i j n=WaC h id i j n:=by simp[WaC,WbL,Heap.put,hn]
theorem b_and (k:IntKind) (a b:Int):binF .and (.int k a) (.int k b)=some (.int k (k.wrap ((BitVec.ofInt k.bits a&&& BitVec.ofInt k.bits b).toNat:Nat))):=by simp[binF,Op.intBits,pureCell,valCell?];rfl
theorem b_xor (k:IntKind) (a b:Int):binF .xor (.int k a) (.int k b)=some (.int k (k.wrap ((BitVec.ofInt k.bits a ^^^ BitVec.ofInt k.bits b).toNat:Nat))):=by simp[binF,Op.intBits,pureCell,valCell?];rfl
def shrI (k:IntKind) (a b:Int):Int:=a.fdiv (2 ^ (min b.toNat k.bits))
def shlI (k:IntKind) (a b:Int):Int:=k.wrap (a*2 ^ (min b.toNat k.bits))
theorem b_shr (k yk:IntKind) (a b:Int) (h:0≤b):binF .shr (.int k a) (.int yk b)=some (.int k (shrI k a b)):=by
 have: ¬b<0:=by omega
 simp only[binF,Op.shift,if_neg this];rfl
theorem b_shl (k yk:IntKind) (a b:Int) (h:0≤b):binF .shl (.int k a) (.int yk b)=some (.int k (shlI k a b)):=by
 have: ¬b<0:=by omega
 simp only[binF,Op.shift,if_neg this];rfl
theorem and255 (a:Int):0≤IntKind.i64.wrap ((BitVec.ofInt IntKind.i64.bits a&&& BitVec.ofInt IntKind.i64.bits 255).toNat:Nat)∧IntKind.i64.wrap ((BitVec.ofInt IntKind.i64.bits a&&& BitVec.ofInt IntKind.i64.bits 255).toNat:Nat)≤255:=by
 have h1:(BitVec.ofInt IntKind.i64.bits a&&& BitVec.ofInt IntKind.i64.bits 255).toNat≤255:=by
  rw[BitVec.toNat_and]
  exact Qj Nat.and_le_right (by decide)
 generalize (BitVec.ofInt IntKind.i64.bits a&&& BitVec.ofInt IntKind.i64.bits 255).toNat=n at *
 rw[Wbr _ (by omega) (by omega)]
 omega
end
section
variable {F:Nat→Option RF} {Z:Waf} {h:Heap} {k:Nat} {x:Cell} {code:List Int}
set_option maxHeartbeats 1000000 in
theorem l01Byte_c (hS:Has F tS01d) (c:Cur h k x code): ∃r h',call F Z 263 [.c (.ptr k 0 0)] h=some (.c (.int .i64 r),h')∧(0≤r∧r≤255)∧Mk h h' [k]∧Cur h' k x code:=by
 obtain ⟨i,hh,hg,h0,h1⟩:=c.row
 have hle:=c.vw.le
 unfold maxLen at hle
 have hput:h.put k [[x,.int .i64 i,.int .i64 hh]]=h:=put_same hg
 obtain ⟨i,rfl⟩: ∃j:Nat,i=(j:Int):=⟨i.toNat,by omega⟩
 have hl0: ∀j n,WaC h k 0 j n=cut? [x,.int .i64 i,.int .i64 hh] j n:=fun j n=>by rw[←hput];exact loa1 _ _ _ _ _
 have hst: ∀j new,storeP h k 0 j new=put1 h k (splice? [x,.int .i64 i,.int .i64 hh] j new):=fun j new=>by
  have:=sto1 c.fl.1 [x,.int .i64 i,.int .i64 hh] j new
  rwa [hput] at this
 have hl1:=loa1 h k
 have hs1:=fun r=>sto1 c.fl.1 (r:=r)
 rw[Wac F Z (hS.lk (g:=263) rfl) _ _ rfl]
 by_cases hlt:i<code.length
 ·have hlt':(i:Int)<code.length:=by omega
  have hws:=WaS i (by omega)
  have hid:=c.vw.idx hlt
  have hld:=c.vw.load hlt
  have hne:x.sid≠k:=c.ne.elim (fun hx=>by subst hx;rcases c.vw with ⟨_,⟨_,h0⟩ | ⟨_,_,_,h0,_⟩⟩<;>simp_all) fun h=>h
  have hl2:=fun rows=>loa2 h hne rows
  simp only[rn,RO.dst,lk,drop,Nat.reduceBEq,Nat.reduceAdd,Nat.reduceLeDiff,↓reduceIte,reduceCtorEq,hl0,hst,put1_s,hl1,hs1,b_and,b_xor,b_shr _ _ _ _ (show (0:Int)≤33 from by omega),b_shr _ _ _ _ (show (0:Int)≤45 from by omega),c.vw.len,hlt',hid,hl2,hld,byte_enc,hws]
  exact ⟨_,_,rfl,and255 _,Mk.put _ _ _,c.put _ _ (by omega) (by omega)⟩
 ·have hlt': ¬(i:Int)<code.length:=by omega
  simp only[rn,RO.dst,lk,drop,Nat.reduceBEq,Nat.reduceAdd,Nat.reduceLeDiff,↓reduceIte,reduceCtorEq,hl0,hst,put1_s,hl1,hs1,b_and,b_xor,b_shr _ _ _ _ (show (0:Int)≤33 from by omega),b_shr _ _ _ _ (show (0:Int)≤45 from by omega),c.vw.len,hlt']
  exact ⟨_,_,rfl,and255 _,Mk.put _ _ _,c.put _ _ (by omega) (by omega)⟩
theorem tmod_in {a n:Int} (ha:0≤a) (hn:0<n):0≤a.tmod n∧a.tmod n<n:=⟨Int.tmod_nonneg _ ha,Int.tmod_lt_of_pos _ hn⟩
set_option maxHeartbeats 1000000 in
theorem Wak (hS:Has F tS01d) (c:Cur h k x code) (n:Int): ∃r h',call F Z 236 [.c (.ptr k 0 0),.c (.int .i64 n)] h=some (.c (.int .i64 r),h')∧0≤r∧(0<n→r<n)∧(n≤0→r=0)∧Mk h h' [k]∧Cur h' k x code:=by
 rw[Wac F Z (hS.lk (g:=236) rfl) _ _ rfl]
 by_cases hn:n≤0
 ·simp only[rn,RO.dst,lk,drop,Nat.reduceBEq,Nat.reduceAdd,Nat.reduceLeDiff,↓reduceIte,reduceCtorEq,hn]
  exact ⟨_,_,rfl,by omega,fun h'=>absurd hn (by omega),fun _=>rfl,Mk.refl _ _,c⟩
 by_cases hm:n≤256
 ·obtain ⟨r,h1,e1,b1,m1,c1⟩:=l01Byte_c (Z:=Z) hS c
  have ht:=tmod_in b1.1 (show 0<n from by omega)
  simp only[rn,RO.dst,lk,drop,Nat.reduceBEq,Nat.reduceAdd,Nat.reduceLeDiff,↓reduceIte,reduceCtorEq,hn,hm,e1,b_rem _ _ _ (show n≠0 from by omega)]
  exact ⟨_,_,rfl,ht.1,fun _=>ht.2,fun h'=>h'.elim,m1,c1⟩
 ·obtain ⟨r1,h1,e1,b1,m1,c1⟩:=l01Byte_c (Z:=Z) hS c
  obtain ⟨r2,h2,e2,b2,m2,c2⟩:=l01Byte_c (Z:=Z) hS c1
  obtain ⟨r3,h3,e3,b3,m3,c3⟩:=l01Byte_c (Z:=Z) hS c2
  have w1:IntKind.i64.wrap (r1*65536)=r1*65536:=Wbr _ (by omega) (by omega)
  have w2:IntKind.i64.wrap (r2*256)=r2*256:=Wbr _ (by omega) (by omega)
  have w3:IntKind.i64.wrap (r1*65536+r2*256)=r1*65536+r2*256:=Wbr _ (by omega) (by omega)
  have w4:IntKind.i64.wrap (r1*65536+r2*256+r3)=r1*65536+r2*256+r3:=Wbr _ (by omega) (by omega)
  have ht:=tmod_in (show 0≤r1*65536+r2*256+r3 from by omega) (show 0<n from by omega)
  simp only[rn,RO.dst,lk,drop,Nat.reduceBEq,Nat.reduceAdd,Nat.reduceLeDiff,↓reduceIte,reduceCtorEq,hn,hm,e1,e2,e3,w1,w2,w3,w4,b_rem _ _ _ (show n≠0 from by omega)]
  exact ⟨_,_,rfl,ht.1,fun _=>ht.2,fun h'=>h'.elim,(m1.then m2).then m3,c3⟩
end
section
variable {F:Nat→Option RF} {Z:Waf} {h:Heap} {k:Nat} {x y:Cell} {code:List Int} {xs:List Int} {fp:List Nat}
theorem l01Once_c (hS:Has F tS01d) (c:Cur h k x code) (n:Int): ∃b h',call F Z 240 [.c (.ptr k 0 0),.c (.int .i64 n)] h=some (.c (.bool b),h')∧Mk h h' [k]∧Cur h' k x code:=by
 obtain ⟨r,h1,e1,_,_,_,m1,c1⟩:=Wak (Z:=Z) hS c n
 rw[Wac F Z (hS.lk (g:=240) rfl) _ _ rfl]
 simp only[rn,RO.dst,lk,drop,Nat.reduceBEq,Nat.reduceAdd,Nat.reduceLeDiff,↓reduceIte,reduceCtorEq,e1]
 exact ⟨_,_,rfl,m1,c1⟩
theorem l01PickInt_c (hS:Has F tS01d) (c:Cur h k x code) (w:SlR 15 (Fl Wai) h y xs fp) (hk:k∉fp) (hx:0<xs.length):
 ∃r h',call F Z 239 [.c (.ptr k 0 0),.c y] h=some (.c (.int .i64 r),h')∧r∈xs∧Mk h h' [k]∧Cur h' k x code:=by
 obtain ⟨r,h1,e1,r0,rnn,_,m1,c1⟩:=Wak (Z:=Z) hS c (xs.length:Int)
 have hlt:=rnn (by omega)
 obtain ⟨j,rfl⟩: ∃j:Nat,r=(j:Int):=⟨r.toNat,by omega⟩
 have hj:j<xs.length:=by omega
 have w1:=w.dr (Fl.ok _) m1.dr hk
 have hi:=w.idx hj
 have hl:=w1.load hj
 rw[Wac F Z (hS.lk (g:=239) rfl) _ _ rfl]
 simp only[rn,RO.dst,lk,drop,Nat.reduceBEq,Nat.reduceAdd,Nat.reduceLeDiff,↓reduceIte,reduceCtorEq,w.len,e1,hi,hl,Wai]
 exact ⟨_,_,rfl,Qd hj,m1,c1⟩
theorem l01Size_c (hS:Has F tS01d) (w:Vw 19 byte_enc h x code) (most:Int) (hm:2≤most): ∃r,call F Z 238 [.c x,.c (.int .i64 most)] h=some (.c (.int .i64 r),h)∧2≤r∧r≤most:=by
 have hle:=w.le2
 have hq:(code.length:Int).tdiv 16=((code.length / 16:Nat):Int):=by rw[Int.tdiv_eq_ediv_of_nonneg (by omega)];omega
 have h1:IntKind.i64.wrap ((code.length / 16:Nat):Int)=((code.length / 16:Nat):Int):=Wbr _ (by omega) (by omega)
 have h2:IntKind.i64.wrap (2+((code.length / 16:Nat):Int))=2+((code.length / 16:Nat):Int):=Wbr _ (by omega) (by omega)
 have hb:=b_quo .i64 (code.length:Int) 16 (by omega)
 rw[hq,h1] at hb
 rw[Wac F Z (hS.lk (g:=238) rfl) _ _ rfl]
 by_cases hgt:2+((code.length / 16:Nat):Int)>most
 ·simp only[rn,RO.dst,lk,drop,Nat.reduceBEq,Nat.reduceAdd,Nat.reduceLeDiff,↓reduceIte,reduceCtorEq,w.len,hb,h2,hgt]
  exact ⟨_,rfl,hm,by omega⟩
 ·simp only[rn,RO.dst,lk,drop,Nat.reduceBEq,Nat.reduceAdd,Nat.reduceLeDiff,↓reduceIte,reduceCtorEq,w.len,hb,h2,hgt]
  exact ⟨_,rfl,by omega,by omega⟩
theorem l01New_c (hS:Has F tS01d) (hf:h.floor≤h.next) (w:Vw 19 byte_enc h x code): ∃h',call F Z 194 [.c x] h=some (.c (.ptr h.next 0 0),h')∧On h h'∧Cur h' h.next x code:=by
 have hle:=w.le2
 rw[Wac F Z (hS.lk (g:=194) rfl) _ _ rfl]
 simp only[rn,RO.dst,lk,drop,Nat.reduceBEq,Nat.reduceAdd,Nat.reduceLeDiff,↓reduceIte,reduceCtorEq,w.len]
 have key:=WaB (F:=F) (Z:=Z) (live:=[0,3,4]) (b:=r194L0) (min code.length 4000) (fun i s=> ∃hh:Int,s=⟨[(0,.c x),(3,.c (.int .i64 hh)),(4,.c (.int .i64 (i:Nat)))],[],[],h⟩) (fun i s hi ⟨hh,hs⟩=>by
  subst hs
  have hlt:(i:Int)<code.length:=by omega
  have h4:(i:Int)<4000:=by omega
  have hid:=w.idx (i:=i) (by omega)
  have hld:=w.load (i:=i) (by omega)
  have hws:=WaS i (by omega)
  refine ⟨?aa,?pp,?ee⟩
  case ee=>
   rw[Wab]
   conv in (Wad _ _ r194L0 _)=>unfold r194L0
   simp only[rn,RO.dst,lk,drop,Nat.reduceBEq,Nat.reduceAdd,Nat.reduceLeDiff,↓reduceIte,reduceCtorEq,w.len,hlt,h4,hid,hld,byte_enc,b_and,hws]
   rfl
  case pp=>exact ⟨_,rfl⟩) (s:=⟨[(0,.c x),(3,.c (.int .i64 (IntKind.i64.wrap (138138+(code.length:Nat))))),(4,.c (.int .i64 ((0:Nat):Int)))],[],[],h⟩) ⟨_,rfl⟩
 obtain ⟨s',⟨hh,rfl⟩,e⟩:=key
 simp only[show ((0:Nat):Int)=0 from rfl] at e
 rw[e,Wab]
 conv in (Wad _ _ r194L0 _)=>unfold r194L0
 have hcur:Cur (h.push [[x,.int .i64 0,.int .i64 hh]]) h.next x code:=by
  refine ⟨⟨hf,by simp[Heap.push]⟩,w.on (On.push _ _),?_,0,hh,by simp[Heap.push],by omega,by omega⟩
  rcases w with ⟨_,⟨rfl,_⟩ | ⟨id,off,rows,rfl,_,h3,_⟩⟩
  ·exact .inl rfl
  ·exact .inr (by simp[Cell.sid];omega)
 by_cases hc:code.length≤4000
 ·have hlt: ¬((min code.length 4000:Nat):Int)<code.length:=by omega
  simp only[rn,RO.dst,lk,drop,Nat.reduceBEq,Nat.reduceAdd,Nat.reduceLeDiff,↓reduceIte,reduceCtorEq,w.len,hlt]
  exact ⟨_,rfl,On.push _ _,hcur⟩
 ·have hlt:((min code.length 4000:Nat):Int)<code.length:=by omega
  have h4: ¬((min code.length 4000:Nat):Int)<4000:=by omega
  simp only[rn,RO.dst,lk,drop,Nat.reduceBEq,Nat.reduceAdd,Nat.reduceLeDiff,↓reduceIte,reduceCtorEq,w.len,hlt,h4]
  exact ⟨_,rfl,On.push _ _,hcur⟩
theorem wrapU_in (z:Int):0≤IntKind.u64.wrap z∧IntKind.u64.wrap z≤18446744073709551615:=by
 show 0≤(if (false&&decide (z%18446744073709551616≥9223372036854775808))=true then z%18446744073709551616-18446744073709551616 else z%18446744073709551616)∧(if (false&&decide (z%18446744073709551616≥9223372036854775808))=true then z%18446744073709551616-18446744073709551616 else z%18446744073709551616)≤_
 rw[if_neg (by simp)]
 omega
theorem shr_in {a:Int} (ha:0≤a∧a≤18446744073709551615) (b:Int):0≤shrI .u64 a b∧shrI .u64 a b≤18446744073709551615:=by
 unfold shrI
 generalize min b.toNat IntKind.u64.bits=n
 have hp:(0:Int)<2 ^ n:=Int.pow_pos (by omega)
 rw[Int.fdiv_eq_ediv_of_nonneg _ (JM hp)]
 exact ⟨Int.ediv_nonneg ha.1 (JM hp),Int.le_trans (Int.ediv_le_self _ ha.1) ha.2⟩
set_option maxHeartbeats 1000000 in
theorem l01Big_c (hS:Has F tS01d) (c:Cur h k x code): ∃r h',call F Z 264 [.c (.ptr k 0 0)] h=some (.c (.int .u64 r),h')∧(0≤r∧r≤18446744073709551615)∧Mk h h' [k]∧Cur h' k x code:=by
 obtain ⟨r1,h1,e1,r0,rnn,_,m1,c1⟩:=Wak (Z:=Z) hS c 8
 rw[Wac F Z (hS.lk (g:=264) rfl) _ _ rfl]
 by_cases a0:r1=0
 ·simp only[rn,RO.dst,lk,drop,Nat.reduceBEq,Nat.reduceAdd,Nat.reduceLeDiff,↓reduceIte,reduceCtorEq,e1,show (r1==0)=true by simpa using a0]
  exact ⟨_,_,rfl,by omega,m1,c1⟩
 have b0:(r1==0)=false:=by simpa using a0
 by_cases a1:r1=1
 ·simp only[rn,RO.dst,lk,drop,Nat.reduceBEq,Nat.reduceAdd,Nat.reduceLeDiff,↓reduceIte,reduceCtorEq,e1,b0,show (r1==1)=true by simpa using a1]
  exact ⟨_,_,rfl,by omega,m1,c1⟩
 have b1:(r1==1)=false:=by simpa using a1
 by_cases a2:r1=2
 ·obtain ⟨r2,h2,e2,s0,sn,_,m2,c2⟩:=Wak (Z:=Z) hS c1 300
  simp only[rn,RO.dst,lk,drop,Nat.reduceBEq,Nat.reduceAdd,Nat.reduceLeDiff,↓reduceIte,reduceCtorEq,e1,b0,b1,show (r1==2)=true by simpa using a2,e2]
  exact ⟨_,_,rfl,wrapU_in _,m1.then m2,c2⟩
 have b2:(r1==2)=false:=by simpa using a2
 by_cases a3:r1=3
 ·obtain ⟨r2,h2,e2,s0,sn,_,m2,c2⟩:=Wak (Z:=Z) hS c1 300
  simp only[rn,RO.dst,lk,drop,Nat.reduceBEq,Nat.reduceAdd,Nat.reduceLeDiff,↓reduceIte,reduceCtorEq,e1,b0,b1,b2,show (r1==3)=true by simpa using a3,e2]
  exact ⟨_,_,rfl,wrapU_in _,m1.then m2,c2⟩
 have b3:(r1==3)=false:=by simpa using a3
 by_cases a4:r1=4
 ·obtain ⟨r2,h2,e2,s0,sn,_,m2,c2⟩:=Wak (Z:=Z) hS c1 64
  have hw:IntKind.u64.wrap r2=r2:=wrapU _ s0 (by have:=sn (by omega);omega)
  simp only[rn,RO.dst,lk,drop,Nat.reduceBEq,Nat.reduceAdd,Nat.reduceLeDiff,↓reduceIte,reduceCtorEq,e1,b0,b1,b2,b3,show (r1==4)=true by simpa using a4,e2,hw,b_shl _ _ _ _ s0]
  exact ⟨_,_,rfl,wrapU_in _,m1.then m2,c2⟩
 have b4:(r1==4)=false:=by simpa using a4
 simp only[rn,RO.dst,lk,drop,Nat.reduceBEq,Nat.reduceAdd,Nat.reduceLeDiff,↓reduceIte,reduceCtorEq,e1,b0,b1,b2,b3,b4]
 have key:=WaB (F:=F) (Z:=Z) (live:=[0,3,4]) (b:=r264L0) 8 (fun i s=> ∃(z:Int) (g:Heap),s=⟨[(0,.c (.ptr k 0 0)),(3,.c (.int .u64 z)),(4,.c (.int .i64 (i:Nat)))],[],[],g⟩∧(0≤z∧z≤18446744073709551615)∧Mk h g [k]∧Cur g k x code) (fun i s hi ⟨z,g,hs,hz,m,cg⟩=>by
  subst hs
  obtain ⟨r2,g2,e2,s0,sn,_,m2,c2⟩:=Wak (Z:=Z) hS cg 256
  have hlt:(i:Int)<8:=by omega
  have hws:=WaS i (by omega)
  refine ⟨?aa,?pp,?ee⟩
  case ee=>
   rw[Wab]
   conv in (Wad _ _ r264L0 _)=>unfold r264L0
   simp only[rn,RO.dst,lk,drop,Nat.reduceBEq,Nat.reduceAdd,Nat.reduceLeDiff,↓reduceIte,reduceCtorEq,hlt,e2,hws]
   rfl
  case pp=>exact ⟨_,g2,rfl,wrapU_in _,m.then m2,c2⟩) (s:=⟨[(0,.c (.ptr k 0 0)),(3,.c (.int .u64 0)),(4,.c (.int .i64 ((0:Nat):Int)))],[],[],h1⟩) ⟨_,_,rfl,by omega,m1,c1⟩
 obtain ⟨s',⟨z,g,rfl,hz,m,cg⟩,e⟩:=key
 obtain ⟨r2,g2,e2,s0,sn,_,m2,c2⟩:=Wak (Z:=Z) hS cg 64
 have hw:IntKind.u64.wrap r2=r2:=wrapU _ s0 (by have:=sn (by omega);omega)
 simp only[show ((0:Nat):Int)=0 from rfl] at e
 rw[e,Wab]
 conv in (Wad _ _ r264L0 _)=>unfold r264L0
 simp only[rn,RO.dst,lk,drop,Nat.reduceBEq,Nat.reduceAdd,Nat.reduceLeDiff,↓reduceIte,reduceCtorEq,show ¬(((8:Nat):Int)<8) by omega,e2,hw,b_shr _ _ _ _ s0]
 exact ⟨_,_,rfl,shr_in hz _,m.then m2,c2⟩
theorem l10DrawId_c (hS:Has F tS01d) (hS10:Has F tS10) (c:Cur h k x code): ∃r h',call F Z 235 [.c (.ptr k 0 0)] h=some (.c (.int .u64 r),h')∧(0≤r∧r≤18446744073709551615)∧Dr k h h'∧Cur h' k x code:=by
 have o:=On.push h [[.int .u64 0],[.int .u64 1],[.int .u64 2],[.int .u64 5],[.int .u64 9],[.int .u64 100],[.int .u64 9223372036854775808],[.int .u64 18446744073709551615]]
 obtain ⟨r1,h1,e1,r0,rnn,_,m1,c1⟩:=Wak (Z:=Z) hS (c.on o) 8
 have hlt:=rnn (by omega)
 obtain ⟨j,rfl⟩: ∃j:Nat,r1=(j:Int):=⟨r1.toNat,by omega⟩
 have hj:j<8:=by omega
 have hg:h1.get h.next=some [[.int .u64 0],[.int .u64 1],[.int .u64 2],[.int .u64 5],[.int .u64 9],[.int .u64 100],[.int .u64 9223372036854775808],[.int .u64 18446744073709551615]]:=by
  rw[m1.get _ (by have:=c.fl.2;simp;omega)];simp[Heap.push]
 have hid:idxR 13 (some (.sl 13 h.next 0 8)) (some (j:Int))=some (.ptr h.next j 0):=by rw[idxR_s,if_pos (by omega)];simp
 obtain ⟨v,hv,hvr⟩: ∃v:Int,WaC h1 h.next j 0 1=some [.int .u64 v]∧(0≤v∧v≤18446744073709551615):=by
  match j,hj with
  | 0,_=>exact ⟨0,by simp[WaC,WbL,hg,cut?],by omega⟩
  | 1,_=>exact ⟨1,by simp[WaC,WbL,hg,cut?],by omega⟩
  | 2,_=>exact ⟨2,by simp[WaC,WbL,hg,cut?],by omega⟩
  | 3,_=>exact ⟨5,by simp[WaC,WbL,hg,cut?],by omega⟩
  | 4,_=>exact ⟨9,by simp[WaC,WbL,hg,cut?],by omega⟩
  | 5,_=>exact ⟨100,by simp[WaC,WbL,hg,cut?],by omega⟩
  | 6,_=>exact ⟨9223372036854775808,by simp[WaC,WbL,hg,cut?],by omega⟩
  | 7,_=>exact ⟨18446744073709551615,by simp[WaC,WbL,hg,cut?],by omega⟩
 rw[Wac F Z (hS10.lk (g:=235) rfl) _ _ rfl]
 simp only[rn,RO.dst,lk,drop,Nat.reduceBEq,Nat.reduceAdd,Nat.reduceLeDiff,↓reduceIte,reduceCtorEq,Qi,Qe,Wav,and_self,Qh,JB,Nat.reduceLT,JG,e1,hid,hv]
 exact ⟨_,_,rfl,hvr,(o.dr k).trans m1.dr,c1⟩
theorem l10DrawAmount_c (hS:Has F tS01d) (hS10:Has F tS10) (c:Cur h k x code): ∃r h',call F Z 237 [.c (.ptr k 0 0)] h=some (.c (.int .u64 r),h')∧(0≤r∧r≤18446744073709551615)∧Mk h h' [k]∧Cur h' k x code:=by
 obtain ⟨b,h1,e1,m1,c1⟩:=l01Once_c (Z:=Z) hS c 5
 rw[Wac F Z (hS10.lk (g:=237) rfl) _ _ rfl]
 cases b with
 | true=>
   obtain ⟨r,h2,e2,hr,m2,c2⟩:=l01Big_c (Z:=Z) hS c1
   simp only[rn,RO.dst,lk,drop,Nat.reduceBEq,Nat.reduceAdd,Nat.reduceLeDiff,↓reduceIte,reduceCtorEq,e1,e2]
   exact ⟨_,_,rfl,hr,m1.then m2,c2⟩
 | false=>
   obtain ⟨r,h2,e2,_,_,_,m2,c2⟩:=Wak (Z:=Z) hS c1 60
   simp only[rn,RO.dst,lk,drop,Nat.reduceBEq,Nat.reduceAdd,Nat.reduceLeDiff,↓reduceIte,reduceCtorEq,e1,e2]
   exact ⟨_,_,rfl,wrapU_in _,m1.then m2,c2⟩
end
section
variable {α:Type} {R:Rel α} {h:Heap} {tag tag':Nat} {x:Cell} {xs:List α} {fp:List Nat}
theorem catH_keep (w:SlR tag R h x xs fp) (new:List (List Cell)) {id:Nat} (hid:id<h.next) (hn:id∉fp):(catH h x new).get id=h.get id:=by
 rcases w with ⟨_,⟨rfl,_,_⟩ | ⟨k,rows,fps,rfl,_,_,rfl,_⟩⟩
 ·simp only[catH]
  split
  ·rfl
  ·simp only[Heap.push];rw[if_neg (by omega)]
 ·have hk:id≠k:=fun he=>hn (by simp[he])
  show (if id=h.next then some (((h.get k).getD [])++new) else (if id=k then none else h.get id))=h.get id
  rw[if_neg (by omega),if_neg hk]
theorem catH_next (h:Heap) (x:Cell) (new:List (List Cell)):h.next≤(catH h x new).next:=by
 unfold catH
 split
 ·simp[Heap.push,Heap.kill]
 ·split
  ·exact Qy _
  ·simp[Heap.push]
theorem catX_sid (tag:Nat) (h:Heap) (x:Cell):(catX tag h x 1).sid=h.next:=by cases x<;>rfl
structure Beside {β:Type} (P:Rel β) (tag:Nat) (h0 g:Heap) (y:Cell) (rows:List (List Cell)) (cs:List Cell) (b:β) (fq:List Nat):Prop where
 acc:Acc tag h0 g y rows
 v:P g cs b fq
 fr:Fre h0 fq
 dj: ∃fy,SlR tag (Fl fun r=>r) g y rows fy∧Fre h0 fy∧ ∀id,id∈fq→id∉fy
theorem Beside.step {β:Type} {P:Rel β} (okP:RelOk P) {h0 g g1:Heap} {y:Cell} {rows:List (List Cell)} {cs cs1:List Cell} {b b1:β} {fq fq1:List Nat} (w:Beside P tag h0 g y rows cs b fq) (hf:h0.floor≤h0.next) (hl:rows.length+1≤140737488355328)
 (o:On g g1) (v1:P g1 cs1 b1 fq1) (f1:Fre g fq1) (row:List Cell):
 Beside P tag h0 (catH (g1.push [row]) y [row]) (catX tag (g1.push [row]) y 1) (rows++[row]) cs1 b1 fq1:=by
 have a1:=w.acc.go o
 have a2:=a1.one hf hl row
 obtain ⟨fy,hy,fry,dj⟩:=w.dj
 have hy1:=hy.on (Fl.ok _) o
 have hyp:=hy1.on (Fl.ok _) (On.push g1 [row])
 have hlt:=okP.lt v1
 have hoff: ∀id,id∈fq1→id∉fy:=fun id h1 h2=>by
  have:=f1.lo id h1
  have:=hy.lt (Fl.ok _) id h2
  omega
 refine ⟨a2,okP.mv v1 ?_ fun id hid=> ?_,⟨fun id hid=> ?_,f1.nd⟩,?_⟩
 ·exact Qj (by simp[Heap.push]) (catH_next (g1.push [row]) y [row])
 ·have h1:=hlt id hid
  rw[catH_keep hyp [row] (by simp only[Heap.push];omega) (hoff id hid)]
  simp only[Heap.push];rw[if_neg (by omega)]
 ·have:=f1.lo id hid
  have:=w.acc.on.ext.1
  omega
 ·obtain ⟨fy2,q1,q2⟩:=a2.sh
  refine ⟨fy2,q1,q2,fun id h1 h2=> ?_⟩
  have h3:id∈[(catX tag (g1.push [row]) y 1).sid]:=by
   rcases q1.flat with ⟨_,h4,_⟩ | ⟨_,_,_,h4⟩
   ·simp at h4
   ·rw[←h4];exact h2
  rw[catX_sid] at h3
  have:=hlt id h1
  simp only[Heap.push,Qt,Jh,or_false] at h3
  omega
end
structure Cux (h0 h:Heap) (k:Nat) (x:Cell) (code:List Int):Prop where
 dr:Dr k h0 h
 cur:Cur h k x code
 src:x= .nil∨x.sid<h0.next
def patch (h0:Heap) (k:Nat) (h:Heap):Heap:=⟨h0.next,h0.floor,fun i=>if i=k then h.get k else h0.get i⟩
structure Draw (tag:Nat) (h0 h:Heap) (k:Nat) (x:Cell) (code:List Int) (y:Cell) (rows:List (List Cell)):Prop where
 cux:Cux h0 h k x code
 sep: ∃fp,SlR tag (Fl fun r=>r) h y rows fp∧Fre h0 fp∧k∉fp
section
variable {h0 h h':Heap} {k tag:Nat} {x y:Cell} {code:List Int} {rows:List (List Cell)}
theorem Dr.base (d:Dr k h h') (o:On h0 h) (lo:h0.next≤k):On h0 h':=⟨⟨Qj o.ext.1 d.next,fun id hid=>(d.get id (QS hid o.ext.1) (by omega)).trans (o.ext.2 id hid)⟩,d.fl.trans o.fl⟩
theorem Dr.on (d:Dr k h0 h):On (patch h0 k h) h:=⟨⟨d.next,fun id hid=>by
 show h.get id=if id=k then h.get k else h0.get id
 split
 ·rename_i he;rw[he]
 ·rename_i hn;exact d.get id hid hn⟩,d.fl⟩
theorem Cux.on (w:Cux h0 h k x code) (lo:h0.next≤k):On h0 h:=w.dr.base (On.refl h0) lo
theorem Cux.go_ (w:Cux h0 h k x code) (d:Dr k h h') (c:Cur h' k x code):Cux h0 h' k x code:=⟨w.dr.trans d,c,w.src⟩
theorem Cux.go (w:Cux h0 h k x code) (o:On h h'):Cux h0 h' k x code:=⟨w.dr.trans (o.dr k),w.cur.on o,w.src⟩
theorem Cux.self (c:Cur h k x code):Cux h h k x code:=⟨Dr.refl k h,c,by
 rcases c.vw with ⟨_,⟨rfl,_⟩ | ⟨id,off,rows,rfl,_,h3,_⟩⟩
 ·exact .inl rfl
 ·exact .inr h3⟩
theorem Cur.le (c:Cur h k x code):h.floor≤h.next:=by have:=c.fl;omega
theorem Cux.le (w:Cux h0 h k x code):h.floor≤h.next:=w.cur.le
theorem Draw.acc (w:Draw tag h0 h k x code y rows):Acc tag (patch h0 k h) h y rows:=by
 obtain ⟨fp,h1,h2,_⟩:=w.sep
 exact ⟨w.cux.dr.on,fp,h1,⟨h2.lo,h2.nd⟩⟩
theorem Draw.dr (w:Draw tag h0 h k x code y rows) (d:Dr k h h') (c:Cur h' k x code):Draw tag h0 h' k x code y rows:=by
 obtain ⟨fp,h1,h2,h3⟩:=w.sep
 exact ⟨w.cux.go_ d c,fp,h1.dr (Fl.ok _) d h3,h2,h3⟩
theorem Draw.go (w:Draw tag h0 h k x code y rows) (o:On h h'):Draw tag h0 h' k x code y rows:=w.dr (o.dr k) (w.cux.cur.on o)
theorem Draw.start (w:Cux h0 h k x code):Draw tag h0 (h.push []) k x code (.sl tag h.next 0 0) []:=by
 have hk:=w.cur.fl.2
 refine ⟨w.go (On.push h []),?_⟩
 obtain ⟨fy,h1,h2⟩:=(Acc.lit0 (tag:=tag) w.dr.on).sh
 refine ⟨fy,h1,⟨h2.lo,h2.nd⟩,fun hy=> ?_⟩
 rcases h1.flat with ⟨_,_,h3⟩ | ⟨_,_,_,h3⟩
 ·rw[h3] at hy;cases hy
 ·rw[h3] at hy
  simp[Cell.sid] at hy;omega
theorem Draw.one (w:Draw tag h0 h k x code y rows) (hf:h0.floor≤h0.next) (hl:rows.length+1≤140737488355328) (row:List Cell):
 Draw tag h0 (catH (h.push [row]) y [row]) k x code (catX tag (h.push [row]) y 1) (rows++[row]):=by
 have a2:=w.acc.one (h0:=patch h0 k h) hf hl row
 obtain ⟨fp,h1,h2,h3⟩:=w.sep
 have hp:=h1.on (Fl.ok _) (On.push h [row])
 have hk:=w.cux.cur.fl.2
 have hn:h.next≤(catH (h.push [row]) y [row]).next:=Qj (by simp[Heap.push]) (catH_next (h.push [row]) y [row])
 have keep: ∀id,id<h.next→id∉fp→(catH (h.push [row]) y [row]).get id=h.get id:=fun id hid hnf=>by
  rw[catH_keep hp [row] (by simp only[Heap.push];omega) hnf]
  simp only[Heap.push];rw[if_neg (by omega)]
 obtain ⟨i,hh,r1,r2⟩:=w.cux.cur.row
 have hfl:(catH (h.push [row]) y [row]).floor=h.floor:=by rw[a2.on.fl,w.cux.dr.on.fl]
 have dd:Dr k h0 (catH (h.push [row]) y [row]):=⟨Qj w.cux.dr.next hn,hfl.trans w.cux.dr.fl,fun id hid hne=>by
  have:=w.cux.dr.next
  rw[keep id (by omega) fun hm=>by have:=h2.lo id hm;omega]
  exact w.cux.dr.get id hid hne⟩
 refine ⟨⟨dd,⟨⟨by rw[hfl];exact w.cux.cur.fl.1,by omega⟩,?_,w.cux.cur.ne,i,hh,by rw[keep k hk h3];exact r1,r2⟩,w.cux.src⟩,?_⟩
 ·rcases w.cux.cur.vw with ⟨q0,q1 | ⟨id,off,rs,rfl,q2,q3,q4⟩⟩
  ·exact ⟨q0,.inl q1⟩
  ·refine ⟨q0,.inr ⟨id,off,rs,rfl,?_,by omega,q4⟩⟩
   have hs:id<h0.next:=w.cux.src.elim (fun h=>(nomatch h)) fun h=>h
   rw[keep id q3 fun hid=>by have:=h2.lo id hid;omega];exact q2
 ·obtain ⟨fp2,q1,q2⟩:=a2.sh
  refine ⟨fp2,q1,⟨q2.lo,q2.nd⟩,fun hm=> ?_⟩
  have h4:k∈[(catX tag (h.push [row]) y 1).sid]:=by
   rcases q1.flat with ⟨_,h4,_⟩ | ⟨_,_,_,h4⟩
   ·simp at h4
   ·rw[←h4];exact hm
  rw[catX_sid] at h4
  simp only[Heap.push,Qt,Jh,or_false] at h4
  omega
theorem Draw.one_eq (w:Draw tag h0 h k x code y rows) (hf:h0.floor≤h0.next) {bytes:Nat} (hb:(rows.length+1)*bytes≤140737488355328) (row:List Cell):
 appF (h.push [row]) tag bytes y (.sl tag h.next 0 1)=some (catX tag (h.push [row]) y 1,catH (h.push [row]) y [row]):=w.acc.one_eq (h0:=patch h0 k h) hf hb row
end
section
variable {F:Nat→Option RF} {Z:Waf} {h:Heap} {k:Nat} {x:Cell} {code:List Int}
theorem pick_lit (hS:Has F tS01d) (c:Cur h k x code) (xs:List Int) (h1:0<xs.length) (h2:xs.length≤1048576):
 ∃r h',call F Z 239 [.c (.ptr k 0 0),.c (.sl 15 h.next 0 xs.length)] (h.push (xs.map Wai))=some (.c (.int .i64 r),h')∧r∈xs∧Dr k h h'∧Cur h' k x code:=by
 have o:=On.push h (xs.map Wai)
 have w:SlR 15 (Fl Wai) (h.push (xs.map Wai)) (.sl 15 h.next 0 xs.length) xs [h.next]:=SlR.ofFlat (by unfold maxLen;omega) (Wbm _ _) (by rw[Wbu];omega)
 obtain ⟨r,h',e,hr,m,c1⟩:=l01PickInt_c (Z:=Z) hS (c.on o) w (by have:=c.fl.2;simp;omega) h1
 exact ⟨r,h',e,hr,(o.dr k).trans m.dr,c1⟩
end
section
structure Fin where
 tx:Int
 id:Int
 deriving DecidableEq
namespace Fin
def enc (t:Fin):List Cell:=[.int .i64 t.tx,.int .u64 t.id]
theorem len (t:Fin):t.enc.length=2:=rfl
theorem tak (t:Fin):t.enc.take 2=t.enc:=rfl
def none_:Fin:=⟨0,0⟩
structure Ok (t:Fin):Prop where
 tx: -9223372036854775808≤t.tx∧t.tx≤9223372036854775807
 id:0≤t.id∧t.id≤18446744073709551615
end Fin
end
def tLFin:List (Nat×RF):=[]
section
variable {F:Nat→Option RF} {Z:Waf} {h:Heap} {x y:Cell} {xs ys:List Fin} {fp fq:List Nat}
def Fin.zero:List Cell:=[.int .i64 0,.int .u64 0]
end
def cmpI (a b:Int):Int:=if a<b then -1 else if b<a then 1 else 0
def orI (a b:Int):Int:=if a=0 then b else a
def cmpFin (f g:Fin):Int:=orI (cmpI f.tx g.tx) (cmpI f.id g.id)
theorem fin_eqs (a b c d:Int):eqsR false [.i .i64,.i .u64] (some (.agg [.int .i64 a,.int .u64 b])) (some (.agg [.int .i64 c,.int .u64 d]))=some (.bool (decide ((⟨a,b⟩:Fin)=⟨c,d⟩))):=by
 have hc:Wbb [.i .i64,.i .u64] [.int .i64 a,.int .u64 b] [.int .i64 c,.int .u64 d]=some (decide ((⟨a,b⟩:Fin)=⟨c,d⟩)):=by
  simp only[Wbb,eqK,and_self,if_true,QD]
  cases h1:(a==c)<;>cases h2:(b==d)<;>simp_all
 simp only[eqsR,Qz,QI,and_self,if_true,hc,QD,Bool.false_xor]
section
variable {F:Nat→Option RF} {Z:Waf} {h:Heap} {x:Cell} {xs:List Fin} {fp:List Nat}
theorem Compare_int_run (h1:Has F WaV) (h2:Has F Wbf) (a b:Int) (h:Heap):call F Z 273 [.c (.int .i64 a),.c (.int .i64 b)] h=some (.c (.int .i64 (cmpI a b)),h):=by
 have hn: ∀(a:Int) (h:Heap),call F Z 276 [.c (.int .i64 a)] h=some (.c (.bool false),h):=by
  intro a h
  rw[Wac F Z (h2.lk (g:=276) rfl) _ _ rfl]
  simp only[rn,RO.dst,lk,drop,Nat.reduceBEq,Nat.reduceAdd,Nat.reduceLeDiff,↓reduceIte,reduceCtorEq]
 rw[Wac F Z (h1.lk (g:=273) rfl) _ _ rfl]
 simp only[rn,RO.dst,lk,drop,Nat.reduceBEq,Nat.reduceAdd,Nat.reduceLeDiff,↓reduceIte,reduceCtorEq,hn]
 (repeat' ((first | (rw[WbI];split) | (rw[Was];split) | (rw[Way];split))<;>(rename_i hh;(try simp only[Qc,decide_eq_true_eq] at hh);simp only[hh,rn,RO.dst,lk,drop,Nat.reduceBEq,Nat.reduceAdd,Nat.reduceLeDiff,↓reduceIte,reduceCtorEq,hn])))<;>simp_all[cmpI]<;>omega
theorem Compare_u64_run (h1:Has F WaH) (h2:Has F WaQ) (a b:Int) (h:Heap):call F Z 274 [.c (.int .u64 a),.c (.int .u64 b)] h=some (.c (.int .i64 (cmpI a b)),h):=by
 have hn: ∀(a:Int) (h:Heap),call F Z 277 [.c (.int .u64 a)] h=some (.c (.bool false),h):=by
  intro a h
  rw[Wac F Z (h2.lk (g:=277) rfl) _ _ rfl]
  simp only[rn,RO.dst,lk,drop,Nat.reduceBEq,Nat.reduceAdd,Nat.reduceLeDiff,↓reduceIte,reduceCtorEq]
 rw[Wac F Z (h1.lk (g:=274) rfl) _ _ rfl]
 simp only[rn,RO.dst,lk,drop,Nat.reduceBEq,Nat.reduceAdd,Nat.reduceLeDiff,↓reduceIte,reduceCtorEq,hn]
 (repeat' ((first | (rw[WbI];split) | (rw[Was];split) | (rw[Way];split))<;>(rename_i hh;(try simp only[Qc,decide_eq_true_eq] at hh);simp only[hh,rn,RO.dst,lk,drop,Nat.reduceBEq,Nat.reduceAdd,Nat.reduceLeDiff,↓reduceIte,reduceCtorEq,hn])))<;>simp_all[cmpI]<;>omega
theorem indexFin_run (hL:Has F Wam) (w:SlR 9 (Fl Fin.enc) h x xs fp) (f:Fin):call F Z 272 [.c x,.agg f.enc] h=some (.c (.int .i64 (Wbt (fun a=>decide (f=a)) xs)),h):=by
 have hle:=w.le2
 rw[Wac F Z (hL.lk (g:=272) rfl) _ _ rfl]
 simp only[rn,RO.dst,lk,drop,Nat.reduceBEq,Nat.reduceAdd,Nat.reduceLeDiff,↓reduceIte,reduceCtorEq,w.len]
 have key:=loop_find (F:=F) (Z:=Z) (live:=[0,3,7,8]) (b:=r272L0) xs (fun a=>decide (f=a)) (fun i=>⟨[(0,.c x),(7,.c (.int .i64 (xs.length:Nat))),(8,.c (.int .i64 (i:Nat)))],[(3,3,0)],[(3,f.enc)],h⟩) (fun i s=>lk s.env 4=some (.c (.int .i64 (i:Nat)))∧s.hp=h) fun i hi=>by
  have hlt:(i:Int)<xs.length:=by omega
  have hws:=WaS i (by omega)
  have hxi:=w.idx hi
  have hld:=w.load hi
  generalize xs[i]=a at *
  obtain ⟨t,d⟩:=a
  obtain ⟨t',d'⟩:=f
  rw[Wab]
  conv in (Wad _ _ r272L0 _)=>unfold r272L0
  have fe:=fin_eqs t' d' t d
  simp only[rn,RO.dst,lk,drop,Nat.reduceBEq,Nat.reduceAdd,Nat.reduceLeDiff,↓reduceIte,reduceCtorEq,hlt,hxi,hld,Fin.enc,fe]
  clear hxi hld fe w
  (repeat' ((first | (rw[WbI];split) | (rw[Was];split) | (rw[Way];split))<;>(rename_i hh;(try simp only[Qc,decide_eq_true_eq] at hh);simp only[hh,rn,RO.dst,lk,drop,Nat.reduceBEq,Nat.reduceAdd,Nat.reduceLeDiff,↓reduceIte,reduceCtorEq,hws])))<;>first
   | exact .inl ⟨by simp_all,rfl⟩
   | exact .inr ⟨by simp_all,_,rfl,rfl,rfl⟩
 have hlt: ¬(xs.length:Int)<xs.length:=by omega
 simp only[show ((0:Nat):Int)=0 from rfl] at key
 rcases key with ⟨k1,k2⟩ | ⟨i,k1,hi,s,k2,k3,k4⟩
 ·rw[k2,Wab]
  conv in (Wad _ _ r272L0 _)=>unfold r272L0
  simp only[rn,RO.dst,lk,drop,Nat.reduceBEq,Nat.reduceAdd,Nat.reduceLeDiff,↓reduceIte,reduceCtorEq,hlt,Wbt,k1]
 ·rw[k2]
  simp only[rn,RO.dst,lk,drop,Nat.reduceBEq,Nat.reduceAdd,Nat.reduceLeDiff,↓reduceIte,reduceCtorEq,k3,k4,Wbt,k1]
theorem containsFin_run (hL:Has F Wam) (hC:Has F Wan) (w:SlR 9 (Fl Fin.enc) h x xs fp) (f:Fin):call F Z 266 [.c x,.agg f.enc] h=some (.c (.bool (decide (f∈xs))),h):=by
 rw[Wac F Z (hC.lk (g:=266) rfl) _ _ rfl]
 simp only[rn,RO.dst,lk,drop,Nat.reduceBEq,Nat.reduceAdd,Nat.reduceLeDiff,↓reduceIte,reduceCtorEq,Fin.len,Fin.tak,indexFin_run hL w f]
 congr 4
 unfold Wbt
 cases hf:xs.findIdx? (fun a=>decide (f=a)) with
 | none=>
   rw[QW] at hf
   have: ¬f∈xs:=fun hm=>by simpa using hf f hm
   simp[this]
 | some i=>
   rw[QA] at hf
   obtain ⟨hi,h2,_⟩:=hf
   have:f∈xs:=by
    have:f=xs[i]:=by simpa using h2
    rw[this];exact Qd hi
   simp[this]
theorem Or2_run (hO:Has F WbE) {o:Nat} (a b:Int) (hg:h.get o=some [[.int .i64 a],[.int .i64 b]]):call F Z 275 [.c (.sl 15 o 0 2)] h=some (.c (.int .i64 (orI a b)),h):=by
 have l0: ∀j n,WaC h o 0 j n=cut? [.int .i64 a] j n:=fun j n=>by simp[WaC,WbL,hg]
 have l1: ∀j n,WaC h o 1 j n=cut? [.int .i64 b] j n:=fun j n=>by simp[WaC,WbL,hg]
 have i0:idxR 15 (some (.sl 15 o 0 2)) (some 0)=some (.ptr o 0 0):=rfl
 have i1:idxR 15 (some (.sl 15 o 0 2)) (some 1)=some (.ptr o 1 0):=rfl
 have w1:IntKind.i64.wrap (0+1)=1:=Wbr _ (by omega) (by omega)
 have w2:IntKind.i64.wrap (1+1)=2:=Wbr _ (by omega) (by omega)
 have c0:(0:Int)<((2:Nat):Int):=by omega
 have c1:(1:Int)<((2:Nat):Int):=by omega
 have c2: ¬(2:Int)<((2:Nat):Int):=by omega
 rw[Wac F Z (hO.lk (g:=275) rfl) _ _ rfl]
 simp only[rn,RO.dst,lk,drop,Nat.reduceBEq,Nat.reduceAdd,Nat.reduceLeDiff,↓reduceIte,reduceCtorEq]
 rw[Wab]
 conv in (Wad _ _ r275L0 _)=>unfold r275L0
 by_cases ha:a=0
 ·subst ha
  simp only[rn,RO.dst,lk,drop,Nat.reduceBEq,Nat.reduceAdd,Nat.reduceLeDiff,↓reduceIte,reduceCtorEq,c0,i0,l0,w1]
  rw[Wab]
  conv in (Wad _ _ r275L0 _)=>unfold r275L0
  by_cases hb:b=0
  ·subst hb
   simp only[rn,RO.dst,lk,drop,Nat.reduceBEq,Nat.reduceAdd,Nat.reduceLeDiff,↓reduceIte,reduceCtorEq,c1,i1,l1,w2]
   rw[Wab]
   conv in (Wad _ _ r275L0 _)=>unfold r275L0
   simp only[rn,RO.dst,lk,drop,Nat.reduceBEq,Nat.reduceAdd,Nat.reduceLeDiff,↓reduceIte,reduceCtorEq,c2,orI]
  ·have hb':(b !=0)=true:=by simpa using hb
   simp only[rn,RO.dst,lk,drop,Nat.reduceBEq,Nat.reduceAdd,Nat.reduceLeDiff,↓reduceIte,reduceCtorEq,c1,i1,l1,hb',orI]
 ·have ha':(a !=0)=true:=by simpa using ha
  simp only[rn,RO.dst,lk,drop,Nat.reduceBEq,Nat.reduceAdd,Nat.reduceLeDiff,↓reduceIte,reduceCtorEq,c0,i0,l0,ha',orI,ha]
end
section
structure Account where
 id:Int
 bal:Int
 hold:Int
 due:Int
 tx:Int
 deriving DecidableEq
namespace Account
def enc (t:Account):List Cell:=[.int .u64 t.id,.int .u64 t.bal,.int .u64 t.hold,.int .u64 t.due,.int .i64 t.tx]
theorem len (t:Account):t.enc.length=5:=rfl
theorem tak (t:Account):t.enc.take 5=t.enc:=rfl
def none_:Account:=⟨0,0,0,0,0⟩
structure Ok (t:Account):Prop where
 id:0≤t.id∧t.id≤18446744073709551615
 bal:0≤t.bal∧t.bal≤18446744073709551615
 hold:0≤t.hold∧t.hold≤18446744073709551615
 due:0≤t.due∧t.due≤18446744073709551615
 tx: -9223372036854775808≤t.tx∧t.tx≤9223372036854775807
end Account
end
def tLAccount:List (Nat×RF):=[]
section
variable {F:Nat→Option RF} {Z:Waf} {h:Heap} {x y:Cell} {xs ys:List Account} {fp fq:List Nat}
def Account.zero:List Cell:=[.int .u64 0,.int .u64 0,.int .u64 0,.int .u64 0,.int .i64 0]
end
section
structure Book where
 list:List Account
 deriving DecidableEq
def Book.RI:Rel Book:=fun h cs t fp=> ∃x1 p1,cs=[x1]∧fp=p1∧SlR 11 (Fl Account.enc) h x1 t.list p1
theorem Book.okI:RelOk Book.RI where
 lt:=by
  rintro h cs t fp ⟨x1,p1,rfl,rfl,w1⟩ id hid
  exact w1.lt (Fl.ok _) id hid
 mv:=by
  rintro h h' cs t fp ⟨x1,p1,rfl,rfl,w1⟩ hn hg
  exact ⟨x1,_,rfl,rfl,w1.mv (Fl.ok _) hn hg⟩
theorem Book.lenI {h:Heap} {cs:List Cell} {t:Book} {fp:List Nat} (v:Book.RI h cs t fp):cs.length=1∧cs.take 1=cs∧cs.drop 1=[]:=by
 obtain ⟨x1,p1,rfl,_⟩:=v
 exact ⟨rfl,rfl,rfl⟩
namespace Book
structure Ok (t:Book):Prop where
 list: ∀a,a∈t.list→a.Ok
def Small (t:Book):Prop:=t.list.length≤1048576
end Book
section
variable {F:Nat→Option RF} {Z:Waf} {h:Heap} {cs cs':List Cell} {t u:Book} {fp fq:List Nat}
end
end
def Account.at_ (xs:List Account) (i:Nat):Account:=xs[i]?.getD Account.none_
def Account.fine (a:Account):Bool:=decide (a.bal+a.hold+a.due≤18446744073709551615)&&(decide (0≤a.tx)&&(a.tx !=0||(a.hold==0&&a.due==0)))
def Account.fits (xs:List Account) (i:Nat):Bool:=(Account.at_ xs i).fine&&(i==0||decide ((Account.at_ xs (i-1)).id<(Account.at_ xs i).id))
def Wap (xs:List Account):Bool:=(List.range xs.length).all (Account.fits xs)&&decide ((xs.length:Int)≤40)
section
variable {F:Nat→Option RF} {Z:Waf} {h:Heap} {x:Cell} {xs:List Account} {fp:List Nat}
set_option maxHeartbeats 4000000 in
theorem isBook_turn (w:SlR 11 (Fl Account.enc) h x xs fp) (hok: ∀t,t∈xs→t.Ok) (i:Nat) (hi:i<xs.length):
 Turn (loop F Z [1,10,11,12] r265L0 ⟨[(10,.c x),(11,.c (.int .i64 (xs.length:Nat))),(12,.c (.int .i64 (i:Nat)))],[(1,1,0)],[(1,[x])],h⟩)
  (loop F Z [1,10,11,12] r265L0 ⟨[(10,.c x),(11,.c (.int .i64 (xs.length:Nat))),(12,.c (.int .i64 ((i+1:Nat):Int)))],[(1,1,0)],[(1,[x])],h⟩) (Account.fits xs i) (fun s=>lk s.env 2=some (.c (.bool false))∧s.hp=h):=by
 have hle:=w.le2
 have hlt:(i:Int)<xs.length:=by omega
 have hws:=WaS i (by omega)
 have o1:=hok _ (Qd hi)
 have e1:Account.at_ xs i=xs[i]:=by simp[Account.at_,Qb hi]
 have hfit:Account.fits xs i=(xs[i].fine&&(i==0||decide ((Account.at_ xs (i-1)).id<xs[i].id))):=by simp only[Account.fits,e1]
 have hpre:0<i→IntKind.i64.wrap ((i:Int)-1)=((i-1:Nat):Int):=fun hp=>by rw[Wbr _ (by omega) (by omega)];omega
 rw[hfit]
 have hxi:=w.idx hi
 have hld:=w.load hi
 have hpi:0<i→idxR 11 (some x) (some ((i-1:Nat):Int))=some (.ptr x.sid (i-1) 0):=fun hp=>w.idx (by omega)
 have hpl:0<i→ ∀j n,WaC h x.sid (i-1) j n=cut? (Account.at_ xs (i-1)).enc j n:=fun hp=>w.loadD Account.none_ (by omega)
 clear w hfit e1 hok
 generalize Account.at_ xs (i-1)=pa at *
 generalize xs[i]=a at *
 obtain ⟨id,bal,hold,due,tx⟩:=a
 obtain ⟨a1,a2,a3,a4,a5⟩:=o1
 dsimp only at a1 a2 a3 a4 a5
 obtain ⟨b1,_⟩:=a2
 obtain ⟨b2,_⟩:=a3
 obtain ⟨b3,_⟩:=a4
 have hwb:IntKind.u64.wrap (bal+hold)=(bal+hold)%18446744073709551616:=rfl
 have b4:0≤(bal+hold)%18446744073709551616:=by omega
 have b5:(0:Int)≤0:=by omega
 have b6:(0:Int)≤1:=by omega
 have hwc:IntKind.u64.wrap ((bal+hold+0) / 18446744073709551616+((bal+hold)%18446744073709551616+due+0) / 18446744073709551616)=(bal+hold+0) / 18446744073709551616+((bal+hold)%18446744073709551616+due+0) / 18446744073709551616:=wrapU _ (by omega) (by omega)
 rw[Wab]
 conv in (Wad _ _ r265L0 _)=>unfold r265L0
 simp only[rn,RO.dst,lk,drop,Nat.reduceBEq,Nat.reduceAdd,Nat.reduceLeDiff,↓reduceIte,reduceCtorEq,hlt,hxi,hld,Account.enc,b1,b2,b3,b4,b5,b6,and_self,hwb,hwc]
 by_cases hp:0<i
 ·have g1:(i:Int)>0:=by omega
  have hi0:(i==0)=false:=by simp;omega
  have q1:=hpre hp
  have q2:=hpi hp
  have q3:=hpl hp
  clear hxi hld hpre hpi hpl
  (repeat' ((first | (rw[WbI];split) | (rw[Was];split) | (rw[Way];split))<;>(rename_i hh;(try simp only[Qc,decide_eq_true_eq] at hh);simp only[hh,rn,RO.dst,lk,drop,Nat.reduceBEq,Nat.reduceAdd,Nat.reduceLeDiff,↓reduceIte,reduceCtorEq,hws,g1,q1,q2,q3,Account.enc])))
  all_goals clear q2 q3
  all_goals first
   | (exfalso;omega)
   | exact .inl ⟨by simp_all[Account.fine]<;>omega,rfl⟩
   | exact .inr ⟨by simp_all[Account.fine]<;>omega,_,rfl,rfl,rfl⟩
 ·have g1: ¬(i:Int)>0:=by omega
  have hi0:(i==0)=true:=by simp;omega
  clear hxi hld hpre hpi hpl
  (repeat' ((first | (rw[WbI];split) | (rw[Was];split) | (rw[Way];split))<;>(rename_i hh;(try simp only[Qc,decide_eq_true_eq] at hh);simp only[hh,rn,RO.dst,lk,drop,Nat.reduceBEq,Nat.reduceAdd,Nat.reduceLeDiff,↓reduceIte,reduceCtorEq,hws,g1,Account.enc])))
  all_goals first
   | (exfalso;omega)
   | exact .inl ⟨by simp_all[Account.fine]<;>omega,rfl⟩
   | exact .inr ⟨by simp_all[Account.fine]<;>omega,_,rfl,rfl,rfl⟩
theorem isBook_run (hI10:Has F tI10) (w:SlR 11 (Fl Account.enc) h x xs fp) (hok: ∀t,t∈xs→t.Ok):call F Z 265 [.agg [x]] h=some (.c (.bool (Wap xs)),h):=by
 have key:=loop_allN (F:=F) (Z:=Z) (live:=[1,10,11,12]) (b:=r265L0) xs.length (fun i=>⟨[(10,.c x),(11,.c (.int .i64 (xs.length:Nat))),(12,.c (.int .i64 (i:Nat)))],[(1,1,0)],[(1,[x])],h⟩) (Account.fits xs) (fun s=>lk s.env 2=some (.c (.bool false))∧s.hp=h) fun i hi=>isBook_turn w hok i hi
 rw[Wac F Z (hI10.lk (g:=265) rfl) _ _ rfl]
 simp only[rn,RO.dst,lk,drop,Nat.reduceBEq,Nat.reduceAdd,Nat.reduceLeDiff,↓reduceIte,reduceCtorEq,w.len]
 simp only[show ((0:Nat):Int)=0 from rfl] at key
 have hlt: ¬(xs.length:Int)<xs.length:=by omega
 rcases key with ⟨k1,k2⟩ | ⟨k1,s,k2,k3,k4⟩
 ·rw[k2,Wab]
  conv in (Wad _ _ r265L0 _)=>unfold r265L0
  simp only[rn,RO.dst,lk,drop,Nat.reduceBEq,Nat.reduceAdd,Nat.reduceLeDiff,↓reduceIte,reduceCtorEq,w.len,hlt,Wap,k1,QY]
 ·rw[k2]
  simp only[rn,RO.dst,lk,drop,Nat.reduceBEq,Nat.reduceAdd,Nat.reduceLeDiff,↓reduceIte,reduceCtorEq,k3,k4,Wap,k1,QP]
set_option maxHeartbeats 4000000 in
theorem sBookOk_turn (w:SlR 11 (Fl Account.enc) h x xs fp) (hok: ∀t,t∈xs→t.Ok) (i:Nat) (hi:i<xs.length):
 Turn (loop F Z [1,3] r241L0 ⟨[(3,.c (.int .i64 (i:Nat)))],[(1,1,0)],[(1,[x])],h⟩)
  (loop F Z [1,3] r241L0 ⟨[(3,.c (.int .i64 ((i+1:Nat):Int)))],[(1,1,0)],[(1,[x])],h⟩) (Account.fits xs i) (fun s=>lk s.env 2=some (.c (.bool false))∧s.hp=h):=by
 have hle:=w.le2
 have w0:=w.len
 have hlt:(i:Int)<xs.length:=by omega
 have hws:=WaS i (by omega)
 have o1:=hok _ (Qd hi)
 have e1:Account.at_ xs i=xs[i]:=by simp[Account.at_,Qb hi]
 have hfit:Account.fits xs i=(xs[i].fine&&(i==0||decide ((Account.at_ xs (i-1)).id<xs[i].id))):=by simp only[Account.fits,e1]
 have hpre:0<i→IntKind.i64.wrap ((i:Int)-1)=((i-1:Nat):Int):=fun hp=>by rw[Wbr _ (by omega) (by omega)];omega
 rw[hfit]
 have hxi:=w.idx hi
 have hld:=w.load hi
 have hpi:0<i→idxR 11 (some x) (some ((i-1:Nat):Int))=some (.ptr x.sid (i-1) 0):=fun hp=>w.idx (by omega)
 have hpl:0<i→ ∀j n,WaC h x.sid (i-1) j n=cut? (Account.at_ xs (i-1)).enc j n:=fun hp=>w.loadD Account.none_ (by omega)
 clear w hfit e1 hok
 generalize Account.at_ xs (i-1)=pa at *
 generalize xs[i]=a at *
 obtain ⟨id,bal,hold,due,tx⟩:=a
 obtain ⟨a1,a2,a3,a4,a5⟩:=o1
 dsimp only at a1 a2 a3 a4 a5
 obtain ⟨b1,b1'⟩:=a2
 obtain ⟨b2,_⟩:=a3
 obtain ⟨b3,_⟩:=a4
 have hwb:IntKind.u64.wrap (18446744073709551615-bal)=18446744073709551615-bal:=wrapU _ (by omega) (by omega)
 have hwc:hold≤18446744073709551615-bal→IntKind.u64.wrap (18446744073709551615-bal-hold)=18446744073709551615-bal-hold:=fun hh=>wrapU _ (by omega) (by omega)
 have hwl:=w0
 rw[Wab]
 conv in (Wad _ _ r241L0 _)=>unfold r241L0
 simp only[rn,RO.dst,lk,drop,Nat.reduceBEq,Nat.reduceAdd,Nat.reduceLeDiff,↓reduceIte,reduceCtorEq,hwl,hlt,hxi,hld,Account.enc,hwb]
 by_cases hp:0<i
 ·have g1:(i:Int)>0:=by omega
  have hi0:(i==0)=false:=by simp;omega
  have q1:=hpre hp
  have q2:=hpi hp
  have q3:=hpl hp
  clear hxi hld hpre hpi hpl
  (repeat' ((first | (rw[WbI];split) | (rw[Was];split) | (rw[Way];split))<;>(rename_i hh;(try simp only[Qc,decide_eq_true_eq] at hh);simp only[hh,rn,RO.dst,lk,drop,Nat.reduceBEq,Nat.reduceAdd,Nat.reduceLeDiff,↓reduceIte,reduceCtorEq,hws,g1,q1,q2,q3,Account.enc,hwb])))
  all_goals clear q2 q3
  all_goals first
   | (exfalso;omega)
   | exact .inl ⟨by simp_all[Account.fine]<;>omega,rfl⟩
   | exact .inr ⟨by simp_all[Account.fine]<;>omega,_,rfl,rfl,rfl⟩
 ·have g1: ¬(i:Int)>0:=by omega
  have hi0:(i==0)=true:=by simp;omega
  clear hxi hld hpre hpi hpl
  (repeat' ((first | (rw[WbI];split) | (rw[Was];split) | (rw[Way];split))<;>(rename_i hh;(try simp only[Qc,decide_eq_true_eq] at hh);simp only[hh,rn,RO.dst,lk,drop,Nat.reduceBEq,Nat.reduceAdd,Nat.reduceLeDiff,↓reduceIte,reduceCtorEq,hws,g1,Account.enc,hwb])))
  all_goals first
   | (exfalso;omega)
   | exact .inl ⟨by simp_all[Account.fine]<;>omega,rfl⟩
   | exact .inr ⟨by simp_all[Account.fine]<;>omega,_,rfl,rfl,rfl⟩
theorem sBookOk_run (hS10:Has F tS10) (w:SlR 11 (Fl Account.enc) h x xs fp) (hok: ∀t,t∈xs→t.Ok):call F Z 241 [.agg [x]] h=some (.c (.bool (Wap xs)),h):=by
 have key:=loop_allN (F:=F) (Z:=Z) (live:=[1,3]) (b:=r241L0) xs.length (fun i=>⟨[(3,.c (.int .i64 (i:Nat)))],[(1,1,0)],[(1,[x])],h⟩) (Account.fits xs) (fun s=>lk s.env 2=some (.c (.bool false))∧s.hp=h) fun i hi=>sBookOk_turn w hok i hi
 rw[Wac F Z (hS10.lk (g:=241) rfl) _ _ rfl]
 simp only[rn,RO.dst,lk,drop,Nat.reduceBEq,Nat.reduceAdd,Nat.reduceLeDiff,↓reduceIte,reduceCtorEq,w.len]
 simp only[show ((0:Nat):Int)=0 from rfl] at key
 have hlt: ¬(xs.length:Int)<xs.length:=by omega
 by_cases hn:(xs.length:Int)>40
 ·have: ¬(xs.length:Int)≤40:=by omega
  simp only[rn,RO.dst,lk,drop,Nat.reduceBEq,Nat.reduceAdd,Nat.reduceLeDiff,↓reduceIte,reduceCtorEq,hn,Wap,this,Jm]
 ·have h40:(xs.length:Int)≤40:=by omega
  simp only[rn,RO.dst,lk,drop,Nat.reduceBEq,Nat.reduceAdd,Nat.reduceLeDiff,↓reduceIte,reduceCtorEq,hn]
  rcases key with ⟨k1,k2⟩ | ⟨k1,s,k2,k3,k4⟩
  ·rw[k2,Wab]
   conv in (Wad _ _ r241L0 _)=>unfold r241L0
   simp only[rn,RO.dst,lk,drop,Nat.reduceBEq,Nat.reduceAdd,Nat.reduceLeDiff,↓reduceIte,reduceCtorEq,w.len,hlt,Wap,k1,QY,h40]
  ·rw[k2]
   simp only[rn,RO.dst,lk,drop,Nat.reduceBEq,Nat.reduceAdd,Nat.reduceLeDiff,↓reduceIte,reduceCtorEq,k3,k4,Wap,k1,QP]
end
section
structure Shard where
 lo:Int
 hi:Int
 state:Int
 epoch:Int
 book:Book
 finished:List Fin
 deriving DecidableEq
def Shard.RI:Rel Shard:=fun h cs t fp=> ∃x1 p1 x2 p2,cs=[.int .u64 t.lo,.int .u64 t.hi,.int .i64 t.state,.int .i64 t.epoch,x1,x2]∧fp=p1++p2∧SlR 11 (Fl Account.enc) h x1 t.book.list p1∧SlR 9 (Fl Fin.enc) h x2 t.finished p2
theorem Shard.okI:RelOk Shard.RI where
 lt:=by
  rintro h cs t fp ⟨x1,p1,x2,p2,rfl,rfl,w1,w2⟩ id hid
  simp only[Qf] at hid
  rcases hid with hid | hid
  ·exact w1.lt (Fl.ok _) id hid
  ·exact w2.lt (Fl.ok _) id hid
 mv:=by
  rintro h h' cs t fp ⟨x1,p1,x2,p2,rfl,rfl,w1,w2⟩ hn hg
  exact ⟨x1,_,x2,_,rfl,rfl,w1.mv (Fl.ok _) hn fun id hid=>hg id (by simp[hid]),w2.mv (Fl.ok _) hn fun id hid=>hg id (by simp[hid])⟩
theorem Shard.lenI {h:Heap} {cs:List Cell} {t:Shard} {fp:List Nat} (v:Shard.RI h cs t fp):cs.length=6∧cs.take 6=cs∧cs.drop 6=[]:=by
 obtain ⟨x1,p1,x2,p2,rfl,_⟩:=v
 exact ⟨rfl,rfl,rfl⟩
namespace Shard
structure Ok (t:Shard):Prop where
 lo:0≤t.lo∧t.lo≤18446744073709551615
 hi:0≤t.hi∧t.hi≤18446744073709551615
 state: -9223372036854775808≤t.state∧t.state≤9223372036854775807
 epoch: -9223372036854775808≤t.epoch∧t.epoch≤9223372036854775807
 book:t.book.Ok
 finished: ∀a,a∈t.finished→a.Ok
def Small (t:Shard):Prop:=t.book.Small∧t.finished.length≤1048576
end Shard
section
variable {F:Nat→Option RF} {Z:Waf} {h:Heap} {cs cs':List Cell} {t u:Shard} {fp fq:List Nat}
end
end
def Fin.at_ (xs:List Fin) (i:Nat):Fin:=xs[i]?.getD Fin.none_
def Shard.acc (s:Shard) (a:Account):Bool:=decide (s.lo≤a.id)&&(decide (a.id≤s.hi)&& !decide ((⟨a.tx,a.id⟩:Fin)∈s.finished))
def Shard.finAt (s:Shard) (i:Nat):Bool:=decide (1≤(Fin.at_ s.finished i).tx)&&(decide (s.lo≤(Fin.at_ s.finished i).id)&&(decide ((Fin.at_ s.finished i).id≤s.hi)&&(i==0||decide (cmpFin (Fin.at_ s.finished (i-1)) (Fin.at_ s.finished i)<0))))
section
variable {F:Nat→Option RF} {Z:Waf} {h:Heap} {x:Cell} {xs:List Fin} {fp:List Nat}
theorem compareFins_run (hI13:Has F tI13) (h1:Has F WaV) (h2:Has F WaH) (h3:Has F WbE) (h4:Has F Wbf) (h5:Has F WaQ) (f g:Fin) (h:Heap):
 call F Z 267 [.agg f.enc,.agg g.enc] h=some (.c (.int .i64 (cmpFin f g)),h.push [[.int .i64 (cmpI f.tx g.tx)],[.int .i64 (cmpI f.id g.id)]]):=by
 obtain ⟨t,d⟩:=f
 obtain ⟨t',d'⟩:=g
 have ho:=Or2_run (Z:=Z) (h:=⟨(h.push [[.int .i64 (cmpI t t')],[.int .i64 (cmpI d d')]]).next,(h.push [[.int .i64 (cmpI t t')],[.int .i64 (cmpI d d')]]).next,(h.push [[.int .i64 (cmpI t t')],[.int .i64 (cmpI d d')]]).get⟩) h3 (o:=h.next) (cmpI t t') (cmpI d d') (Wbm _ _)
 rw[Wac F Z (hI13.lk (g:=267) rfl) _ _ rfl]
 simp only[rn,RO.dst,lk,drop,Nat.reduceBEq,Nat.reduceAdd,Nat.reduceLeDiff,↓reduceIte,reduceCtorEq,Fin.enc,Compare_int_run h1 h4,Compare_u64_run h2 h5,Qi,Qe,Wav,and_self,JG,Nat.reduceLT,Qh,JB,ho]
 rfl
variable {s:Shard} {y:Cell} {fq:List Nat}
set_option maxHeartbeats 2000000 in
theorem isShard_accs (hL:Has F Wam) (hC:Has F Wan) (w:SlR 11 (Fl Account.enc) h x s.book.list fp) (v:SlR 9 (Fl Fin.enc) h y s.finished fq):
 Turn (loop F Z [1,46,47,48] r244L1 ⟨[(46,.c x),(47,.c (.int .i64 (s.book.list.length:Nat))),(48,.c (.int .i64 (0:Nat)))],[(1,1,0)],[(1,[.int .u64 s.lo,.int .u64 s.hi,.int .i64 s.state,.int .i64 s.epoch,x,y])],h⟩)
  (loop F Z [1,46,47,48] r244L1 ⟨[(46,.c x),(47,.c (.int .i64 (s.book.list.length:Nat))),(48,.c (.int .i64 (s.book.list.length:Nat)))],[(1,1,0)],[(1,[.int .u64 s.lo,.int .u64 s.hi,.int .i64 s.state,.int .i64 s.epoch,x,y])],h⟩) (s.book.list.all s.acc) (fun s=>lk s.env 2=some (.c (.bool false))∧s.hp=h):=by
 have hle:=w.le2
 refine loop_all (F:=F) (Z:=Z) (live:=[1,46,47,48]) (b:=r244L1) s.book.list (fun i=>⟨[(46,.c x),(47,.c (.int .i64 (s.book.list.length:Nat))),(48,.c (.int .i64 (i:Nat)))],[(1,1,0)],[(1,[.int .u64 s.lo,.int .u64 s.hi,.int .i64 s.state,.int .i64 s.epoch,x,y])],h⟩) s.acc _ fun i hi=> ?_
 have hlt:(i:Int)<s.book.list.length:=by omega
 have hws:=WaS i (by omega)
 have hxi:=w.idx hi
 have hld:=w.load hi
 have hc: ∀t d,call F Z 266 [.c y,.agg [.int .i64 t,.int .u64 d]] h=some (.c (.bool (decide ((⟨t,d⟩:Fin)∈s.finished))),h):=fun t d=>containsFin_run hL hC v ⟨t,d⟩
 rw[Wab]
 conv in (Wad _ _ r244L1 _)=>unfold r244L1
 simp only[rn,RO.dst,lk,drop,Nat.reduceBEq,Nat.reduceAdd,Nat.reduceLeDiff,↓reduceIte,reduceCtorEq,hlt,hxi,hld,Account.enc,hc]
 generalize s.book.list[i]=a
 clear hxi hld w v
 (repeat' ((first | (rw[WbI];split) | (rw[Was];split) | (rw[Way];split))<;>(rename_i hh;(try simp only[Qc,decide_eq_true_eq] at hh);simp only[hh,rn,RO.dst,lk,drop,Nat.reduceBEq,Nat.reduceAdd,Nat.reduceLeDiff,↓reduceIte,reduceCtorEq,hws,hc])))<;>clear hc<;>first
  | exact .inl ⟨by simp_all[Shard.acc]<;>omega,rfl⟩
  | exact .inr ⟨by simp_all[Shard.acc]<;>omega,_,rfl,rfl,rfl⟩
set_option maxHeartbeats 4000000 in
theorem isShard_fins (hI13:Has F tI13) (h1:Has F WaV) (h2:Has F WaH) (h3:Has F WbE) (h4:Has F Wbf) (h5:Has F WaQ) (v:SlR 9 (Fl Fin.enc) h y s.finished fq):
 (∃s',(∃g,s'=⟨[(76,.c y),(77,.c (.int .i64 (s.finished.length:Nat))),(78,.c (.int .i64 (s.finished.length:Nat)))],[(1,1,0)],[(1,[.int .u64 s.lo,.int .u64 s.hi,.int .i64 s.state,.int .i64 s.epoch,x,y])],g⟩∧On h g∧ ∀j,j<s.finished.length→s.finAt j=true)∧
  loop F Z [1,76,77,78] r244L0 ⟨[(76,.c y),(77,.c (.int .i64 (s.finished.length:Nat))),(78,.c (.int .i64 (0:Nat)))],[(1,1,0)],[(1,[.int .u64 s.lo,.int .u64 s.hi,.int .i64 s.state,.int .i64 s.epoch,x,y])],h⟩=loop F Z [1,76,77,78] r244L0 s')∨
  ∃s',loop F Z [1,76,77,78] r244L0 ⟨[(76,.c y),(77,.c (.int .i64 (s.finished.length:Nat))),(78,.c (.int .i64 (0:Nat)))],[(1,1,0)],[(1,[.int .u64 s.lo,.int .u64 s.hi,.int .i64 s.state,.int .i64 s.epoch,x,y])],h⟩=some (.ret,s')∧(lk s'.env 2=some (.c (.bool false))∧On h s'.hp∧ ∃j,j<s.finished.length∧s.finAt j=false):=by
 have hle:=v.le2
 refine loop_rel (F:=F) (Z:=Z) (live:=[1,76,77,78]) (b:=r244L0) s.finished.length (fun i s'=> ∃g,s'=⟨[(76,.c y),(77,.c (.int .i64 (s.finished.length:Nat))),(78,.c (.int .i64 (i:Nat)))],[(1,1,0)],[(1,[.int .u64 s.lo,.int .u64 s.hi,.int .i64 s.state,.int .i64 s.epoch,x,y])],g⟩∧On h g∧ ∀j,j<i→s.finAt j=true) _ (fun i s' hi ⟨g,hs,og,hall⟩=> ?_) ⟨h,rfl,On.refl h,fun j hj=>absurd hj (QZ _)⟩
 subst hs
 have hlt:(i:Int)<s.finished.length:=by omega
 have hws:=WaS i (by omega)
 have hxi:=v.idx hi
 have vg:=v.on (Fl.ok _) og
 have hld: ∀j n,WaC g y.sid i j n=cut? (Fin.at_ s.finished i).enc j n:=vg.loadD Fin.none_ hi
 have hfin:s.finAt i=(decide (1≤(Fin.at_ s.finished i).tx)&&(decide (s.lo≤(Fin.at_ s.finished i).id)&&(decide ((Fin.at_ s.finished i).id≤s.hi)&&(i==0||decide (cmpFin (Fin.at_ s.finished (i-1)) (Fin.at_ s.finished i)<0))))):=rfl
 have good:s.finAt i=true→ ∀j,j<i+1→s.finAt j=true:=fun hg j hj=>by
  by_cases he:j=i
  ·rw[he];exact hg
  ·exact hall j (by omega)
 have bad:s.finAt i=false→ ∃j,j<s.finished.length∧s.finAt j=false:=fun hb=>⟨i,hi,hb⟩
 have hpre:0<i→IntKind.i64.wrap ((i:Int)-1)=((i-1:Nat):Int):=fun hp=>by rw[Wbr _ (by omega) (by omega)];omega
 have hpi:0<i→idxR 9 (some y) (some ((i-1:Nat):Int))=some (.ptr y.sid (i-1) 0):=fun hp=>v.idx (by omega)
 have hpl:0<i→ ∀j n,WaC g y.sid (i-1) j n=cut? (Fin.at_ s.finished (i-1)).enc j n:=fun hp=>vg.loadD Fin.none_ (by omega)
 clear v vg hall
 generalize s.finAt i=fa at *
 generalize Fin.at_ s.finished (i-1)=pf at *
 generalize Fin.at_ s.finished i=f at *
 have cf:=compareFins_run (Z:=Z) hI13 h1 h2 h3 h4 h5 pf f ⟨g.next,g.next,g.get⟩
 have og':=og.trans (On.push g [[.int .i64 (cmpI pf.tx f.tx)],[.int .i64 (cmpI pf.id f.id)]])
 obtain ⟨k,hk⟩: ∃k,Heap.mk ((Heap.mk g.next g.next g.get).push [[.int .i64 (cmpI pf.tx f.tx)],[.int .i64 (cmpI pf.id f.id)]]).next g.floor ((Heap.mk g.next g.next g.get).push [[.int .i64 (cmpI pf.tx f.tx)],[.int .i64 (cmpI pf.id f.id)]]).get=k:=⟨_,rfl⟩
 have ok':On h k:=by rw[←hk];exact og'
 obtain ⟨t,d⟩:=f
 obtain ⟨t',d'⟩:=pf
 simp only[Fin.enc] at cf hld hpl
 rw[Wab]
 conv in (Wad _ _ r244L0 _)=>unfold r244L0
 simp only[rn,RO.dst,lk,drop,Nat.reduceBEq,Nat.reduceAdd,Nat.reduceLeDiff,↓reduceIte,reduceCtorEq,hlt,hxi,hld]
 by_cases hp:0<i
 ·have g1:(i:Int)>0:=by omega
  have hi0:(i==0)=false:=by simp;omega
  have q1:=hpre hp
  have q2:=hpi hp
  have q3:=hpl hp
  clear hxi hpre hpi hpl
  (repeat' ((first | (rw[WbI];split) | (rw[Was];split) | (rw[Way];split))<;>(rename_i hh;(try simp only[Qc,decide_eq_true_eq] at hh);simp only[hh,rn,RO.dst,lk,drop,Nat.reduceBEq,Nat.reduceAdd,Nat.reduceLeDiff,↓reduceIte,reduceCtorEq,hws,g1,q1,q2,q3,cf,hk,hld])))
  all_goals clear q2 q3 cf hk hld og'
  all_goals first
   | (exfalso;omega)
   | exact Or.inl ⟨_,⟨_,rfl,og,good (by simp_all<;>omega)⟩,rfl⟩
   | exact Or.inl ⟨_,⟨_,rfl,ok',good (by simp_all<;>omega)⟩,rfl⟩
   | exact Or.inr ⟨_,rfl,rfl,og,bad (by simp_all<;>omega)⟩
   | exact Or.inr ⟨_,rfl,rfl,ok',bad (by simp_all<;>omega)⟩
 ·have g1: ¬(i:Int)>0:=by omega
  have hi0:(i==0)=true:=by simp;omega
  clear hxi hpre hpi hpl cf hk
  (repeat' ((first | (rw[WbI];split) | (rw[Was];split) | (rw[Way];split))<;>(rename_i hh;(try simp only[Qc,decide_eq_true_eq] at hh);simp only[hh,rn,RO.dst,lk,drop,Nat.reduceBEq,Nat.reduceAdd,Nat.reduceLeDiff,↓reduceIte,reduceCtorEq,hws,g1,hld])))
  all_goals clear hld og'
  all_goals first
   | (exfalso;omega)
   | exact Or.inl ⟨_,⟨_,rfl,og,good (by simp_all<;>omega)⟩,rfl⟩
   | exact Or.inr ⟨_,rfl,rfl,og,bad (by simp_all<;>omega)⟩
end
def Shard.head (s:Shard):Bool:=decide (s.lo≤s.hi)&&((s.state==0||s.state==1)&&(inR s.epoch 1 1000000&&(Wap s.book.list&&decide ((s.finished.length:Int)≤60))))
def Shard.good (s:Shard):Bool:=s.head&&(s.book.list.all s.acc&&(List.range s.finished.length).all s.finAt)
section
variable {F:Nat→Option RF} {Z:Waf} {h:Heap} {cs:List Cell} {s:Shard} {fp:List Nat}
set_option maxHeartbeats 4000000 in
theorem isShard_run (hI10:Has F tI10) (hI13:Has F tI13) (h1:Has F WaV) (h2:Has F WaH) (h3:Has F WbE) (h4:Has F Wbf) (h5:Has F WaQ) (hL:Has F Wam) (hC:Has F Wan)
 (v:Shard.RI h cs s fp) (ok:s.Ok): ∃h',call F Z 244 [.agg cs] h=some (.c (.bool s.good),h')∧On h h':=by
 obtain ⟨x,p,y,q,rfl,rfl,w,u⟩:=v
 have hB:=isBook_run (Z:=Z) hI10 w ok.book.list
 have ka:=isShard_accs (Z:=Z) (s:=s) hL hC w u
 have kf:=isShard_fins (Z:=Z) (s:=s) (x:=x) hI13 h1 h2 h3 h4 h5 u
 have l1:=w.len
 have l2:=u.len
 have n1: ¬(s.book.list.length:Int)<s.book.list.length:=by omega
 have n2: ¬(s.finished.length:Int)<s.finished.length:=by omega
 clear w u
 rw[Wac F Z (hI13.lk (g:=244) rfl) _ _ rfl]
 simp only[show ((0:Nat):Int)=0 from rfl] at ka kf
 cases hd:s.head with
 | false=>
   have hg:s.good=false:=by simp[Shard.good,hd]
   rw[hg]
   simp only[rn,RO.dst,lk,drop,Nat.reduceBEq,Nat.reduceAdd,Nat.reduceLeDiff,↓reduceIte,reduceCtorEq,hB,l2]
   clear ka kf
   (repeat' ((first | (rw[WbI];split) | (rw[Was];split) | (rw[Way];split))<;>(rename_i hh;(try simp only[Qc,decide_eq_true_eq] at hh);simp only[hh,rn,RO.dst,lk,drop,Nat.reduceBEq,Nat.reduceAdd,Nat.reduceLeDiff,↓reduceIte,reduceCtorEq,hB,l2,l1])))
   all_goals clear hB l1 l2
   all_goals first
    | exact ⟨_,rfl,On.refl h⟩
    | (exfalso;simp_all[Shard.head,inR];done)
    | (exfalso;simp_all[Shard.head,inR];omega)
 | true=>
   have hg:s.good=(s.book.list.all s.acc&&(List.range s.finished.length).all s.finAt):=by simp[Shard.good,hd]
   rw[hg]
   simp only[Shard.head,Qa,decide_eq_true_eq,Qu,beq_iff_eq,inR] at hd
   obtain ⟨d1,d2,⟨d3,d4⟩,d5,d6⟩:=hd
   rw[d5] at hB
   have c1: ¬s.lo>s.hi:=by omega
   have c3: ¬s.epoch<1:=by omega
   have c4: ¬s.epoch>1000000:=by omega
   have c6: ¬(s.finished.length:Int)>60:=by omega
   have c2:(s.state !=0)=false∨((s.state !=0)=true∧(s.state !=1)=false):=by
    rcases d2 with d2 | d2<;>simp[d2]
   rcases c2 with c2 | ⟨c2,c2'⟩
   ·simp only[rn,RO.dst,lk,drop,Nat.reduceBEq,Nat.reduceAdd,Nat.reduceLeDiff,↓reduceIte,reduceCtorEq,hB,l1,l2,c1,c2,c3,c4,c6]
    rcases ka with ⟨a1,a2⟩ | ⟨a1,s',a2,a3,a4⟩
    ·rw[a2,Wab]
     conv in (Wad _ _ r244L1 _)=>unfold r244L1
     simp only[rn,RO.dst,lk,drop,Nat.reduceBEq,Nat.reduceAdd,Nat.reduceLeDiff,↓reduceIte,reduceCtorEq,n1,l2]
     rcases kf with ⟨s'',⟨g,hs,og,hall⟩,e⟩ | ⟨s'',e,b1,b2,j,hj,b3⟩
     ·subst hs
      rw[e,Wab]
      conv in (Wad _ _ r244L0 _)=>unfold r244L0
      simp only[rn,RO.dst,lk,drop,Nat.reduceBEq,Nat.reduceAdd,Nat.reduceLeDiff,↓reduceIte,reduceCtorEq,n2]
      have ha:(List.range s.finished.length).all s.finAt=true:=Qv.2 fun j hj=>hall j (by simpa using hj)
      exact ⟨_,by rw[a1,ha];rfl,og⟩
     ·rw[e]
      simp only[rn,RO.dst,lk,drop,Nat.reduceBEq,Nat.reduceAdd,Nat.reduceLeDiff,↓reduceIte,reduceCtorEq,b1]
      have ha:(List.range s.finished.length).all s.finAt=false:=by
       rw[JE]
       exact ⟨j,by simpa using hj,by simp[b3]⟩
      exact ⟨_,by rw[a1,ha];rfl,b2⟩
    ·rw[a2]
     simp only[rn,RO.dst,lk,drop,Nat.reduceBEq,Nat.reduceAdd,Nat.reduceLeDiff,↓reduceIte,reduceCtorEq,a3,a4]
     exact ⟨_,by rw[a1];rfl,On.refl h⟩
   ·simp only[rn,RO.dst,lk,drop,Nat.reduceBEq,Nat.reduceAdd,Nat.reduceLeDiff,↓reduceIte,reduceCtorEq,hB,l1,l2,c1,c2,c2',c3,c4,c6]
    rcases ka with ⟨a1,a2⟩ | ⟨a1,s',a2,a3,a4⟩
    ·rw[a2,Wab]
     conv in (Wad _ _ r244L1 _)=>unfold r244L1
     simp only[rn,RO.dst,lk,drop,Nat.reduceBEq,Nat.reduceAdd,Nat.reduceLeDiff,↓reduceIte,reduceCtorEq,n1,l2]
     rcases kf with ⟨s'',⟨g,hs,og,hall⟩,e⟩ | ⟨s'',e,b1,b2,j,hj,b3⟩
     ·subst hs
      rw[e,Wab]
      conv in (Wad _ _ r244L0 _)=>unfold r244L0
      simp only[rn,RO.dst,lk,drop,Nat.reduceBEq,Nat.reduceAdd,Nat.reduceLeDiff,↓reduceIte,reduceCtorEq,n2]
      have ha:(List.range s.finished.length).all s.finAt=true:=Qv.2 fun j hj=>hall j (by simpa using hj)
      exact ⟨_,by rw[a1,ha];rfl,og⟩
     ·rw[e]
      simp only[rn,RO.dst,lk,drop,Nat.reduceBEq,Nat.reduceAdd,Nat.reduceLeDiff,↓reduceIte,reduceCtorEq,b1]
      have ha:(List.range s.finished.length).all s.finAt=false:=by
       rw[JE]
       exact ⟨j,by simpa using hj,by simp[b3]⟩
      exact ⟨_,by rw[a1,ha];rfl,b2⟩
    ·rw[a2]
     simp only[rn,RO.dst,lk,drop,Nat.reduceBEq,Nat.reduceAdd,Nat.reduceLeDiff,↓reduceIte,reduceCtorEq,a3,a4]
     exact ⟨_,by rw[a1];rfl,On.refl h⟩
end
theorem cmpFin_lt (f g:Fin):decide (cmpFin f g<0)=(decide (f.tx<g.tx)||(f.tx==g.tx&&decide (f.id<g.id))):=by
 unfold cmpFin orI
 by_cases h1:f.tx<g.tx
 ·have e:cmpI f.tx g.tx= -1:=by simp[cmpI,h1]
  rw[if_neg (by rw[e];decide),e]
  simp[h1]
 ·by_cases h2:g.tx<f.tx
  ·have e:cmpI f.tx g.tx=1:=by simp[cmpI,h1,h2]
   rw[if_neg (by rw[e];decide),e]
   have:(f.tx==g.tx)=false:=by simp;omega
   simp[h1,this]
  ·have e:cmpI f.tx g.tx=0:=by simp[cmpI,h1,h2]
   rw[if_pos e]
   have ht:(f.tx==g.tx)=true:=by simp;omega
   by_cases h3:f.id<g.id
   ·have e3:cmpI f.id g.id= -1:=by simp[cmpI,h3]
    rw[e3];simp[h1,ht,h3]
   ·have e3: ¬cmpI f.id g.id<0:=by
     unfold cmpI
     rw[if_neg h3]
     split<;>omega
    simp[e3,h1,h3]
section
variable {F:Nat→Option RF} {Z:Waf} {h:Heap} {x:Cell} {xs:List Fin} {fp:List Nat}
theorem l13Before_run (hS13:Has F tS13) (f g:Fin) (h:Heap):call F Z 242 [.agg f.enc,.agg g.enc] h=some (.c (.bool (decide (cmpFin f g<0))),h):=by
 rw[cmpFin_lt]
 obtain ⟨t,d⟩:=f
 obtain ⟨t',d'⟩:=g
 rw[Wac F Z (hS13.lk (g:=242) rfl) _ _ rfl]
 simp only[Fin.enc,rn,RO.dst,lk,drop,Nat.reduceBEq,Nat.reduceAdd,Nat.reduceLeDiff,↓reduceIte,reduceCtorEq]
 (repeat' ((first | (rw[WbI];split) | (rw[Was];split) | (rw[Way];split))<;>(rename_i hh;(try simp only[Qc,decide_eq_true_eq] at hh);simp only[hh,rn,RO.dst,lk,drop,Nat.reduceBEq,Nat.reduceAdd,Nat.reduceLeDiff,↓reduceIte,reduceCtorEq])))<;>refine fin_bool ?_<;>simp_all<;>omega
theorem WbA (hS13:Has F tS13) (w:SlR 9 (Fl Fin.enc) h x xs fp) (f:Fin):call F Z 243 [.c x,.agg f.enc] h=some (.c (.bool (decide (f∈xs))),h):=by
 have hle:=w.le2
 have hwl:=w.len
 rw[Wac F Z (hS13.lk (g:=243) rfl) _ _ rfl]
 simp only[rn,RO.dst,lk,drop,Nat.reduceBEq,Nat.reduceAdd,Nat.reduceLeDiff,↓reduceIte,reduceCtorEq]
 have key:=loop_find (F:=F) (Z:=Z) (live:=[0,3,5]) (b:=r243L0) xs (fun a=>decide (a=f)) (fun i=>⟨[(0,.c x),(5,.c (.int .i64 (i:Nat)))],[(3,3,0)],[(3,f.enc)],h⟩) (fun i s=>lk s.env 4=some (.c (.bool true))∧s.hp=h) fun i hi=>by
  have hlt:(i:Int)<xs.length:=by omega
  have hws:=WaS i (by omega)
  have hxi:=w.idx hi
  have hld:=w.load hi
  generalize xs[i]=a at *
  obtain ⟨t,d⟩:=a
  obtain ⟨t',d'⟩:=f
  rw[Wab]
  conv in (Wad _ _ r243L0 _)=>unfold r243L0
  have fe:=fin_eqs t d t' d'
  simp only[rn,RO.dst,lk,drop,Nat.reduceBEq,Nat.reduceAdd,Nat.reduceLeDiff,↓reduceIte,reduceCtorEq,hwl,hlt,hxi,hld,Fin.enc,fe]
  clear hxi hld fe w
  (repeat' ((first | (rw[WbI];split) | (rw[Was];split) | (rw[Way];split))<;>(rename_i hh;(try simp only[Qc,decide_eq_true_eq] at hh);simp only[hh,rn,RO.dst,lk,drop,Nat.reduceBEq,Nat.reduceAdd,Nat.reduceLeDiff,↓reduceIte,reduceCtorEq,hws])))<;>first
   | exact .inl ⟨by simp_all,rfl⟩
   | exact .inr ⟨by simp_all,_,rfl,rfl,rfl⟩
 have hlt: ¬(xs.length:Int)<xs.length:=by omega
 simp only[show ((0:Nat):Int)=0 from rfl] at key
 rcases key with ⟨k1,k2⟩ | ⟨i,k1,hi,s,k2,k3,k4⟩
 ·rw[k2,Wab]
  conv in (Wad _ _ r243L0 _)=>unfold r243L0
  rw[QW] at k1
  have: ¬f∈xs:=fun hm=>by simpa using k1 f hm
  simp only[rn,RO.dst,lk,drop,Nat.reduceBEq,Nat.reduceAdd,Nat.reduceLeDiff,↓reduceIte,reduceCtorEq,hwl,hlt,this]
 ·rw[k2]
  rw[QA] at k1
  obtain ⟨hi,h2,_⟩:=k1
  have:f∈xs:=by
   have:xs[i]=f:=by simpa using h2
   rw[←this];exact Qd hi
  simp only[rn,RO.dst,lk,drop,Nat.reduceBEq,Nat.reduceAdd,Nat.reduceLeDiff,↓reduceIte,reduceCtorEq,k3,k4,this]
end
section
variable {F:Nat→Option RF} {Z:Waf} {h:Heap} {cs:List Cell} {s:Shard} {fp fq:List Nat} {x y:Cell}
set_option maxHeartbeats 2000000 in
theorem l13Shard_accs (hS13:Has F tS13) (w:SlR 11 (Fl Account.enc) h x s.book.list fp) (v:SlR 9 (Fl Fin.enc) h y s.finished fq):
 Turn (loop F Z [1,5] r204L0 ⟨[(5,.c (.int .i64 (0:Nat)))],[(1,1,0)],[(1,[.int .u64 s.lo,.int .u64 s.hi,.int .i64 s.state,.int .i64 s.epoch,x,y])],h⟩)
  (loop F Z [1,5] r204L0 ⟨[(5,.c (.int .i64 (s.book.list.length:Nat)))],[(1,1,0)],[(1,[.int .u64 s.lo,.int .u64 s.hi,.int .i64 s.state,.int .i64 s.epoch,x,y])],h⟩) (s.book.list.all s.acc) (fun s=>lk s.env 2=some (.c (.bool false))∧s.hp=h):=by
 have hle:=w.le2
 refine loop_all (F:=F) (Z:=Z) (live:=[1,5]) (b:=r204L0) s.book.list (fun i=>⟨[(5,.c (.int .i64 (i:Nat)))],[(1,1,0)],[(1,[.int .u64 s.lo,.int .u64 s.hi,.int .i64 s.state,.int .i64 s.epoch,x,y])],h⟩) s.acc _ fun i hi=> ?_
 have hlt:(i:Int)<s.book.list.length:=by omega
 have hws:=WaS i (by omega)
 have hwl:=w.len
 have hxi:=w.idx hi
 have hld:=w.load hi
 have hc: ∀t d,call F Z 243 [.c y,.agg [.int .i64 t,.int .u64 d]] h=some (.c (.bool (decide ((⟨t,d⟩:Fin)∈s.finished))),h):=fun t d=>WbA hS13 v ⟨t,d⟩
 rw[Wab]
 conv in (Wad _ _ r204L0 _)=>unfold r204L0
 simp only[rn,RO.dst,lk,drop,Nat.reduceBEq,Nat.reduceAdd,Nat.reduceLeDiff,↓reduceIte,reduceCtorEq,hwl,hlt,hxi,hld,Account.enc,hc]
 generalize s.book.list[i]=a
 clear hxi hld w v
 (repeat' ((first | (rw[WbI];split) | (rw[Was];split) | (rw[Way];split))<;>(rename_i hh;(try simp only[Qc,decide_eq_true_eq] at hh);simp only[hh,rn,RO.dst,lk,drop,Nat.reduceBEq,Nat.reduceAdd,Nat.reduceLeDiff,↓reduceIte,reduceCtorEq,hws,hc])))<;>clear hc<;>first
  | exact .inl ⟨by simp_all[Shard.acc]<;>omega,rfl⟩
  | exact .inr ⟨by simp_all[Shard.acc]<;>omega,_,rfl,rfl,rfl⟩
set_option maxHeartbeats 4000000 in
theorem l13Shard_fins (hS13:Has F tS13) (v:SlR 9 (Fl Fin.enc) h y s.finished fq):
 Turn (loop F Z [1,3] r204L1 ⟨[(3,.c (.int .i64 (0:Nat)))],[(1,1,0)],[(1,[.int .u64 s.lo,.int .u64 s.hi,.int .i64 s.state,.int .i64 s.epoch,x,y])],h⟩)
  (loop F Z [1,3] r204L1 ⟨[(3,.c (.int .i64 (s.finished.length:Nat)))],[(1,1,0)],[(1,[.int .u64 s.lo,.int .u64 s.hi,.int .i64 s.state,.int .i64 s.epoch,x,y])],h⟩) ((List.range s.finished.length).all s.finAt) (fun s=>lk s.env 2=some (.c (.bool false))∧s.hp=h):=by
 have hle:=v.le2
 refine loop_allN (F:=F) (Z:=Z) (live:=[1,3]) (b:=r204L1) s.finished.length (fun i=>⟨[(3,.c (.int .i64 (i:Nat)))],[(1,1,0)],[(1,[.int .u64 s.lo,.int .u64 s.hi,.int .i64 s.state,.int .i64 s.epoch,x,y])],h⟩) s.finAt _ fun i hi=> ?_
 have hlt:(i:Int)<s.finished.length:=by omega
 have hws:=WaS i (by omega)
 have hwl:=v.len
 have hxi:=v.idx hi
 have hld: ∀j n,WaC h y.sid i j n=cut? (Fin.at_ s.finished i).enc j n:=v.loadD Fin.none_ hi
 have hfin:s.finAt i=(decide (1≤(Fin.at_ s.finished i).tx)&&(decide (s.lo≤(Fin.at_ s.finished i).id)&&(decide ((Fin.at_ s.finished i).id≤s.hi)&&(i==0||decide (cmpFin (Fin.at_ s.finished (i-1)) (Fin.at_ s.finished i)<0))))):=rfl
 have hpre:0<i→IntKind.i64.wrap ((i:Int)-1)=((i-1:Nat):Int):=fun hp=>by rw[Wbr _ (by omega) (by omega)];omega
 have hpi:0<i→idxR 9 (some y) (some ((i-1:Nat):Int))=some (.ptr y.sid (i-1) 0):=fun hp=>v.idx (by omega)
 have hpl:0<i→ ∀j n,WaC h y.sid (i-1) j n=cut? (Fin.at_ s.finished (i-1)).enc j n:=fun hp=>v.loadD Fin.none_ (by omega)
 clear v
 generalize s.finAt i=fa at *
 generalize Fin.at_ s.finished (i-1)=pf at *
 generalize Fin.at_ s.finished i=f at *
 have cf:=fun g=>l13Before_run (Z:=Z) hS13 pf f g
 obtain ⟨t,d⟩:=f
 obtain ⟨t',d'⟩:=pf
 simp only[Fin.enc] at cf hld hpl
 rw[Wab]
 conv in (Wad _ _ r204L1 _)=>unfold r204L1
 simp only[rn,RO.dst,lk,drop,Nat.reduceBEq,Nat.reduceAdd,Nat.reduceLeDiff,↓reduceIte,reduceCtorEq,hwl,hlt,hxi,hld]
 by_cases hp:0<i
 ·have g1:(i:Int)>0:=by omega
  have hi0:(i==0)=false:=by simp;omega
  have q1:=hpre hp
  have q2:=hpi hp
  have q3:=hpl hp
  clear hxi hpre hpi hpl
  (repeat' ((first | (rw[WbI];split) | (rw[Was];split) | (rw[Way];split))<;>(rename_i hh;(try simp only[Qc,decide_eq_true_eq] at hh);simp only[hh,rn,RO.dst,lk,drop,Nat.reduceBEq,Nat.reduceAdd,Nat.reduceLeDiff,↓reduceIte,reduceCtorEq,hws,g1,q1,q2,q3,cf,hld])))
  all_goals clear q2 q3 cf hld
  all_goals first
   | (exfalso;omega)
   | exact .inl ⟨by simp_all<;>omega,rfl⟩
   | exact .inr ⟨by simp_all<;>omega,_,rfl,rfl,rfl⟩
 ·have g1: ¬(i:Int)>0:=by omega
  have hi0:(i==0)=true:=by simp;omega
  clear hxi hpre hpi hpl cf
  (repeat' ((first | (rw[WbI];split) | (rw[Was];split) | (rw[Way];split))<;>(rename_i hh;(try simp only[Qc,decide_eq_true_eq] at hh);simp only[hh,rn,RO.dst,lk,drop,Nat.reduceBEq,Nat.reduceAdd,Nat.reduceLeDiff,↓reduceIte,reduceCtorEq,hws,g1,hld])))
  all_goals clear hld
  all_goals first
   | (exfalso;omega)
   | exact .inl ⟨by simp_all<;>omega,rfl⟩
   | exact .inr ⟨by simp_all<;>omega,_,rfl,rfl,rfl⟩
set_option maxHeartbeats 4000000 in
theorem l13Shard_run (hS:Has F tS01d) (hS10:Has F tS10) (hS13:Has F tS13) (v:Shard.RI h cs s fp) (ok:s.Ok):call F Z 204 [.agg cs] h=some (.c (.bool s.good),h):=by
 obtain ⟨x,p,y,q,rfl,rfl,w,u⟩:=v
 have hB:=sBookOk_run (Z:=Z) hS10 w ok.book.list
 have ka:=l13Shard_accs (Z:=Z) (s:=s) hS13 w u
 have kf:=l13Shard_fins (Z:=Z) (s:=s) (x:=x) hS13 u
 have l1:=w.len
 have l2:=u.len
 have n1: ¬(s.book.list.length:Int)<s.book.list.length:=by omega
 have n2: ¬(s.finished.length:Int)<s.finished.length:=by omega
 clear w u
 rw[Wac F Z (hS13.lk (g:=204) rfl) _ _ rfl]
 simp only[show ((0:Nat):Int)=0 from rfl] at ka kf
 cases hd:s.head with
 | false=>
   have hg:s.good=false:=by simp[Shard.good,hd]
   rw[hg]
   simp only[rn,RO.dst,lk,drop,Nat.reduceBEq,Nat.reduceAdd,Nat.reduceLeDiff,↓reduceIte,reduceCtorEq,hB,l2,Wbd hS]
   clear ka kf
   (repeat' ((first | (rw[WbI];split) | (rw[Was];split) | (rw[Way];split))<;>(rename_i hh;(try simp only[Qc,decide_eq_true_eq] at hh);simp only[hh,rn,RO.dst,lk,drop,Nat.reduceBEq,Nat.reduceAdd,Nat.reduceLeDiff,↓reduceIte,reduceCtorEq,hB,l2,l1,Wbd hS])))
   all_goals clear hB l1 l2
   all_goals first
    | rfl
    | (exfalso;simp_all[Shard.head,inR];done)
    | (exfalso;simp_all[Shard.head,inR];omega)
 | true=>
   have hg:s.good=(s.book.list.all s.acc&&(List.range s.finished.length).all s.finAt):=by simp[Shard.good,hd]
   rw[hg]
   simp only[Shard.head,Qa,decide_eq_true_eq,Qu,beq_iff_eq] at hd
   obtain ⟨d1,d2,d3,d5,d6⟩:=hd
   rw[d5] at hB
   have c1: ¬s.lo>s.hi:=by omega
   have c2:inR s.state 0 1=true:=by rcases d2 with d2 | d2<;>simp[inR,d2]
   have c6: ¬(s.finished.length:Int)>60:=by omega
   ·simp only[rn,RO.dst,lk,drop,Nat.reduceBEq,Nat.reduceAdd,Nat.reduceLeDiff,↓reduceIte,reduceCtorEq,hB,l1,l2,c1,c2,d3,c6,Wbd hS]
    rcases kf with ⟨a1,a2⟩ | ⟨a1,s',a2,a3,a4⟩
    ·rw[a2,Wab]
     conv in (Wad _ _ r204L1 _)=>unfold r204L1
     simp only[rn,RO.dst,lk,drop,Nat.reduceBEq,Nat.reduceAdd,Nat.reduceLeDiff,↓reduceIte,reduceCtorEq,l2,n2]
     rcases ka with ⟨b1,b2⟩ | ⟨b1,s',b2,b3,b4⟩
     ·rw[b2,Wab]
      conv in (Wad _ _ r204L0 _)=>unfold r204L0
      simp only[rn,RO.dst,lk,drop,Nat.reduceBEq,Nat.reduceAdd,Nat.reduceLeDiff,↓reduceIte,reduceCtorEq,l1,n1,a1,b1,JI]
     ·rw[b2]
      simp only[rn,RO.dst,lk,drop,Nat.reduceBEq,Nat.reduceAdd,Nat.reduceLeDiff,↓reduceIte,reduceCtorEq,b3,b4,b1,QP]
    ·rw[a2]
     simp only[rn,RO.dst,lk,drop,Nat.reduceBEq,Nat.reduceAdd,Nat.reduceLeDiff,↓reduceIte,reduceCtorEq,a3,a4,a1,Jm]
end
section
variable {F:Nat→Option RF} {Z:Waf} {h:Heap} {x y:Cell} {xs ys:List Shard} {fp fq:List Nat}
end
section
structure Store where
 group:Int
 seen:Int
 shards:List Shard
 deriving DecidableEq
def Store.RI:Rel Store:=fun h cs t fp=> ∃x1 p1,cs=[.int .i64 t.group,.int .i64 t.seen,x1]∧fp=p1∧SlR 16 (Shard.RI) h x1 t.shards p1
theorem Store.okI:RelOk Store.RI where
 lt:=by
  rintro h cs t fp ⟨x1,p1,rfl,rfl,w1⟩ id hid
  exact w1.lt (Shard.okI) id hid
 mv:=by
  rintro h h' cs t fp ⟨x1,p1,rfl,rfl,w1⟩ hn hg
  exact ⟨x1,_,rfl,rfl,w1.mv (Shard.okI) hn hg⟩
theorem Store.lenI {h:Heap} {cs:List Cell} {t:Store} {fp:List Nat} (v:Store.RI h cs t fp):cs.length=3∧cs.take 3=cs∧cs.drop 3=[]:=by
 obtain ⟨x1,p1,rfl,_⟩:=v
 exact ⟨rfl,rfl,rfl⟩
namespace Store
structure Ok (t:Store):Prop where
 group: -9223372036854775808≤t.group∧t.group≤9223372036854775807
 seen: -9223372036854775808≤t.seen∧t.seen≤9223372036854775807
 shards: ∀a,a∈t.shards→a.Ok
def Small (t:Store):Prop:=(t.shards.length≤1048576∧ ∀a,a∈t.shards→a.Small)
end Store
section
variable {F:Nat→Option RF} {Z:Waf} {h:Heap} {cs cs':List Cell} {t u:Store} {fp fq:List Nat}
end
end
structure KI (F:Nat→Option RF):Prop where
 i10:Has F tI10
 i11:Has F tI11
 i13:Has F tI13
 c1:Has F WaV
 c2:Has F WaH
 c3:Has F WbE
 c4:Has F Wbf
 c5:Has F WaQ
 li:Has F Wam
 lc:Has F Wan
structure KS (F:Nat→Option RF):Prop where
 s01:Has F tS01d
 s10:Has F tS10
 s13:Has F tS13
def Shard.none_:Shard:=⟨0,0,0,0,⟨[]⟩,[]⟩
def Shard.at_ (xs:List Shard) (i:Nat):Shard:=xs[i]?.getD Shard.none_
theorem Shard.at_get {xs:List Shard} {i:Nat} (hi:i<xs.length):Shard.at_ xs i=xs[i]:=by simp[Shard.at_,Qb hi]
def Store.fits (s:Store) (i:Nat):Bool:=(Shard.at_ s.shards i).good&&(decide ((Shard.at_ s.shards i).epoch≤s.seen)&&(i==0||decide ((Shard.at_ s.shards (i-1)).hi<(Shard.at_ s.shards i).lo)))
def Store.good (s:Store):Bool:=inR s.group 0 99&&(inR s.seen 0 1000000&&(decide ((s.shards.length:Int)≤8)&&(List.range s.shards.length).all s.fits))
section
variable {F:Nat→Option RF} {Z:Waf} {h:Heap} {cs:List Cell} {s:Store} {fp:List Nat} {x:Cell}
theorem isShard_q (k:KI F) {t:Shard} {cs:List Cell} {fp:List Nat} (v:Shard.RI h cs t fp) (ok:t.Ok):
 ∃h' g,call F Z 244 [.agg cs] ⟨h.next,h.next,h.get⟩=some (.c (.bool t.good),h')∧Heap.mk h'.next h.floor h'.get=g∧On h g:=by
 obtain ⟨h',e,o⟩:=isShard_run (Z:=Z) k.i10 k.i13 k.c1 k.c2 k.c3 k.c4 k.c5 k.li k.lc (Shard.okI.up v h.next) ok
 exact quietly e o
set_option maxHeartbeats 4000000 in
theorem isStore_turn (k:KI F) (w:SlR 16 Shard.RI h x s.shards fp) (ok: ∀a,a∈s.shards→a.Ok) (i:Nat) (hi:i<s.shards.length):
 TurnO (loop F Z [1,26,27,28] r206L0 ⟨[(26,.c x),(27,.c (.int .i64 (s.shards.length:Nat))),(28,.c (.int .i64 (i:Nat)))],[(1,1,0)],[(1,[.int .i64 s.group,.int .i64 s.seen,x])],h⟩)
  (fun g=>loop F Z [1,26,27,28] r206L0 ⟨[(26,.c x),(27,.c (.int .i64 (s.shards.length:Nat))),(28,.c (.int .i64 ((i+1:Nat):Int)))],[(1,1,0)],[(1,[.int .i64 s.group,.int .i64 s.seen,x])],g⟩)
  h (s.fits i) (fun s'=>lk s'.env 2=some (.c (.bool false))):=by
 have hle:=w.le2
 have hlt:(i:Int)<s.shards.length:=by omega
 have hws:=WaS i (by omega)
 have hxi:=w.idx hi
 obtain ⟨r,f,hld,hR,_⟩:=w.one hi
 rw[←Shard.at_get hi] at hR
 have aok:=ok _ (Qd hi)
 rw[←Shard.at_get hi] at aok
 obtain ⟨h',g,hc,hg,og⟩:=isShard_q (Z:=Z) k hR aok
 have hpre:0<i→IntKind.i64.wrap ((i:Int)-1)=((i-1:Nat):Int):=fun hp=>by rw[Wbr _ (by omega) (by omega)];omega
 have hpi:0<i→idxR 16 (some x) (some ((i-1:Nat):Int))=some (.ptr x.sid (i-1) 0):=fun hp=>w.idx (by omega)
 have hpl:0<i→ ∃r',(∀j n,WaC g x.sid (i-1) j n=cut? r' j n)∧ ∃f',Shard.RI g r' (Shard.at_ s.shards (i-1)) f':=fun hp=>by
  obtain ⟨r',f',h1,h2,_⟩:=(w.on Shard.okI og).one (show i-1<s.shards.length by omega)
  rw[←Shard.at_get] at h2
  exact ⟨r',h1,f',h2⟩
 have hfit:s.fits i=((Shard.at_ s.shards i).good&&(decide ((Shard.at_ s.shards i).epoch≤s.seen)&&(i==0||decide ((Shard.at_ s.shards (i-1)).hi<(Shard.at_ s.shards i).lo)))):=rfl
 obtain ⟨x1,p1,x2,p2,rfl,_⟩:=hR
 clear w ok aok
 generalize s.fits i=fa at *
 generalize (Shard.at_ s.shards i).good=gd at *
 generalize Shard.at_ s.shards (i-1)=pa at *
 generalize Shard.at_ s.shards i=a at *
 rw[Wab]
 conv in (Wad _ _ r206L0 _)=>unfold r206L0
 simp only[rn,RO.dst,lk,drop,Nat.reduceBEq,Nat.reduceAdd,Nat.reduceLeDiff,↓reduceIte,reduceCtorEq,hlt,hxi,hld]
 cases gd with
 | false=>
   simp only[rn,RO.dst,lk,drop,Nat.reduceBEq,Nat.reduceAdd,Nat.reduceLeDiff,↓reduceIte,reduceCtorEq,hc,hg]
   exact .inr ⟨by simp_all,_,rfl,og,rfl⟩
 | true=>
   by_cases hp:0<i
   ·have g1:(i:Int)>0:=by omega
    have hi0:(i==0)=false:=by simp;omega
    have q1:=hpre hp
    have q2:=hpi hp
    obtain ⟨r',q3,f',y1,y2,y3,y4,rfl,_⟩:=hpl hp
    clear hxi hpre hpi hpl hld
    simp only[rn,RO.dst,lk,drop,Nat.reduceBEq,Nat.reduceAdd,Nat.reduceLeDiff,↓reduceIte,reduceCtorEq,hws,g1,q1,q2,q3,hc,hg]
    (repeat' ((first | (rw[WbI];split) | (rw[Was];split) | (rw[Way];split))<;>(rename_i hh;(try simp only[Qc,decide_eq_true_eq] at hh);simp only[hh,rn,RO.dst,lk,drop,Nat.reduceBEq,Nat.reduceAdd,Nat.reduceLeDiff,↓reduceIte,reduceCtorEq,hws,g1,q1,q2,q3,hc,hg])))
    all_goals clear q2 q3 hc hg
    all_goals first
     | exact .inl ⟨by simp_all<;>omega,_,og,rfl⟩
     | exact .inr ⟨by simp_all<;>omega,_,rfl,og,rfl⟩
   ·have g1: ¬(i:Int)>0:=by omega
    have hi0:(i==0)=true:=by simp;omega
    clear hxi hpre hpi hpl hld
    simp only[rn,RO.dst,lk,drop,Nat.reduceBEq,Nat.reduceAdd,Nat.reduceLeDiff,↓reduceIte,reduceCtorEq,hws,g1,hc,hg]
    (repeat' ((first | (rw[WbI];split) | (rw[Was];split) | (rw[Way];split))<;>(rename_i hh;(try simp only[Qc,decide_eq_true_eq] at hh);simp only[hh,rn,RO.dst,lk,drop,Nat.reduceBEq,Nat.reduceAdd,Nat.reduceLeDiff,↓reduceIte,reduceCtorEq,hws,g1,hc,hg])))
    all_goals clear hc hg
    all_goals first
     | exact .inl ⟨by simp_all<;>omega,_,og,rfl⟩
     | exact .inr ⟨by simp_all<;>omega,_,rfl,og,rfl⟩
set_option maxHeartbeats 4000000 in
theorem WbQ (k:KI F) (v:Store.RI h cs s fp) (ok:s.Ok): ∃h',call F Z 206 [.agg cs] h=some (.c (.bool s.good),h')∧On h h':=by
 obtain ⟨x,p,rfl,rfl,w⟩:=v
 have key:=loop_on (F:=F) (Z:=Z) (live:=[1,26,27,28]) (b:=r206L0) s.shards.length (fun i g=>⟨[(26,.c x),(27,.c (.int .i64 (s.shards.length:Nat))),(28,.c (.int .i64 (i:Nat)))],[(1,1,0)],[(1,[.int .i64 s.group,.int .i64 s.seen,x])],g⟩) h s.fits (fun s'=>lk s'.env 2=some (.c (.bool false)))
  fun i g hi og=>isStore_turn k (w.on Shard.okI og) ok.shards i hi
 have l1:=w.len
 have n1: ¬(s.shards.length:Int)<s.shards.length:=by omega
 clear w ok
 simp only[show ((0:Nat):Int)=0 from rfl] at key
 have hg:=isGroupId_run (Z:=Z) k.i11
 have hgd:s.good=(inR s.group 0 99&&(inR s.seen 0 1000000&&(decide ((s.shards.length:Int)≤8)&&(List.range s.shards.length).all s.fits))):=rfl
 generalize s.good=sg at *
 generalize (List.range s.shards.length).all s.fits=al at *
 rw[Wac F Z (k.i13.lk (g:=206) rfl) _ _ rfl]
 simp only[rn,RO.dst,lk,drop,Nat.reduceBEq,Nat.reduceAdd,Nat.reduceLeDiff,↓reduceIte,reduceCtorEq,hg,l1]
 clear k
 (repeat' ((first | (rw[WbI];split) | (rw[Was];split) | (rw[Way];split))<;>(rename_i hh;(try simp only[Qc,decide_eq_true_eq] at hh);simp only[hh,rn,RO.dst,lk,drop,Nat.reduceBEq,Nat.reduceAdd,Nat.reduceLeDiff,↓reduceIte,reduceCtorEq,hg,l1])))
 all_goals clear hg l1
 all_goals first
  | (refine ⟨_,?_,On.refl h⟩;simp_all[inR];done)
  | (refine ⟨_,?_,On.refl h⟩;simp_all[inR];omega)
  | (rcases key with ⟨a1,g,og,a2⟩ | ⟨a1,s',a2,og,a3⟩
     ·dsimp only at a2
      rw[a2,Wab]
      conv in (Wad _ _ r206L0 _)=>unfold r206L0
      simp only[rn,RO.dst,lk,drop,Nat.reduceBEq,Nat.reduceAdd,Nat.reduceLeDiff,↓reduceIte,reduceCtorEq,n1]
      refine ⟨_,?_,og⟩
      simp_all[inR]<;>omega
     ·rw[a2]
      simp only[rn,RO.dst,lk,drop,Nat.reduceBEq,Nat.reduceAdd,Nat.reduceLeDiff,↓reduceIte,reduceCtorEq,a3]
      refine ⟨_,?_,og⟩
      simp_all[inR]<;>omega)
end
section
variable {F:Nat→Option RF} {Z:Waf} {h:Heap} {cs:List Cell} {s:Store} {fp:List Nat} {x:Cell}
theorem l13Shard_q (k:KS F) {t:Shard} {cs:List Cell} {fp:List Nat} (v:Shard.RI h cs t fp) (ok:t.Ok):
 call F Z 204 [.agg cs] ⟨h.next,h.next,h.get⟩=some (.c (.bool t.good),⟨h.next,h.next,h.get⟩):=l13Shard_run (Z:=Z) k.s01 k.s10 k.s13 (Shard.okI.up v h.next) ok
set_option maxHeartbeats 4000000 in
theorem sStoreOk_turn (k:KS F) (w:SlR 16 Shard.RI h x s.shards fp) (ok: ∀a,a∈s.shards→a.Ok) (i:Nat) (hi:i<s.shards.length):
 Turn (loop F Z [1,3] r156L0 ⟨[(3,.c (.int .i64 (i:Nat)))],[(1,1,0)],[(1,[.int .i64 s.group,.int .i64 s.seen,x])],h⟩)
  (loop F Z [1,3] r156L0 ⟨[(3,.c (.int .i64 ((i+1:Nat):Int)))],[(1,1,0)],[(1,[.int .i64 s.group,.int .i64 s.seen,x])],h⟩)
  (s.fits i) (fun s'=>lk s'.env 2=some (.c (.bool false))∧s'.hp=h):=by
 have hle:=w.le2
 have hlt:(i:Int)<s.shards.length:=by omega
 have hws:=WaS i (by omega)
 have hxi:=w.idx hi
 have hwl:=w.len
 obtain ⟨r,f,hld,hR,_⟩:=w.one hi
 rw[←Shard.at_get hi] at hR
 have aok:=ok _ (Qd hi)
 rw[←Shard.at_get hi] at aok
 have hc:=l13Shard_q (Z:=Z) k hR aok
 have hpre:0<i→IntKind.i64.wrap ((i:Int)-1)=((i-1:Nat):Int):=fun hp=>by rw[Wbr _ (by omega) (by omega)];omega
 have hpi:0<i→idxR 16 (some x) (some ((i-1:Nat):Int))=some (.ptr x.sid (i-1) 0):=fun hp=>w.idx (by omega)
 have hpl:0<i→ ∃r',(∀j n,WaC h x.sid (i-1) j n=cut? r' j n)∧ ∃f',Shard.RI h r' (Shard.at_ s.shards (i-1)) f':=fun hp=>by
  obtain ⟨r',f',h1,h2,_⟩:=w.one (show i-1<s.shards.length by omega)
  rw[←Shard.at_get] at h2
  exact ⟨r',h1,f',h2⟩
 have hfit:s.fits i=((Shard.at_ s.shards i).good&&(decide ((Shard.at_ s.shards i).epoch≤s.seen)&&(i==0||decide ((Shard.at_ s.shards (i-1)).hi<(Shard.at_ s.shards i).lo)))):=rfl
 obtain ⟨x1,p1,x2,p2,rfl,_⟩:=hR
 clear w ok aok
 generalize s.fits i=fa at *
 generalize (Shard.at_ s.shards i).good=gd at *
 generalize Shard.at_ s.shards (i-1)=pa at *
 generalize Shard.at_ s.shards i=a at *
 rw[Wab]
 conv in (Wad _ _ r156L0 _)=>unfold r156L0
 simp only[rn,RO.dst,lk,drop,Nat.reduceBEq,Nat.reduceAdd,Nat.reduceLeDiff,↓reduceIte,reduceCtorEq,hwl,hlt,hxi,hld]
 cases gd with
 | false=>
   simp only[rn,RO.dst,lk,drop,Nat.reduceBEq,Nat.reduceAdd,Nat.reduceLeDiff,↓reduceIte,reduceCtorEq,hc]
   exact .inr ⟨by simp_all,_,rfl,rfl,rfl⟩
 | true=>
   by_cases hp:0<i
   ·have g1:(i:Int)>0:=by omega
    have hi0:(i==0)=false:=by simp;omega
    have q1:=hpre hp
    have q2:=hpi hp
    obtain ⟨r',q3,f',y1,y2,y3,y4,rfl,_⟩:=hpl hp
    clear hxi hpre hpi hpl hld
    simp only[rn,RO.dst,lk,drop,Nat.reduceBEq,Nat.reduceAdd,Nat.reduceLeDiff,↓reduceIte,reduceCtorEq,hws,g1,q1,q2,q3,hc]
    (repeat' ((first | (rw[WbI];split) | (rw[Was];split) | (rw[Way];split))<;>(rename_i hh;(try simp only[Qc,decide_eq_true_eq] at hh);simp only[hh,rn,RO.dst,lk,drop,Nat.reduceBEq,Nat.reduceAdd,Nat.reduceLeDiff,↓reduceIte,reduceCtorEq,hws,g1,q1,q2,q3,hc])))
    all_goals clear q2 q3 hc
    all_goals first
     | exact .inl ⟨by simp_all<;>omega,rfl⟩
     | exact .inr ⟨by simp_all<;>omega,_,rfl,rfl,rfl⟩
   ·have g1: ¬(i:Int)>0:=by omega
    have hi0:(i==0)=true:=by simp;omega
    clear hxi hpre hpi hpl hld
    simp only[rn,RO.dst,lk,drop,Nat.reduceBEq,Nat.reduceAdd,Nat.reduceLeDiff,↓reduceIte,reduceCtorEq,hws,g1,hc]
    (repeat' ((first | (rw[WbI];split) | (rw[Was];split) | (rw[Way];split))<;>(rename_i hh;(try simp only[Qc,decide_eq_true_eq] at hh);simp only[hh,rn,RO.dst,lk,drop,Nat.reduceBEq,Nat.reduceAdd,Nat.reduceLeDiff,↓reduceIte,reduceCtorEq,hws,g1,hc])))
    all_goals clear hc
    all_goals first
     | exact .inl ⟨by simp_all<;>omega,rfl⟩
     | exact .inr ⟨by simp_all<;>omega,_,rfl,rfl,rfl⟩
set_option maxHeartbeats 4000000 in
theorem WaK (k:KS F) (v:Store.RI h cs s fp) (ok:s.Ok):call F Z 156 [.agg cs] h=some (.c (.bool s.good),h):=by
 obtain ⟨x,p,rfl,rfl,w⟩:=v
 have key:=loop_allN (F:=F) (Z:=Z) (live:=[1,3]) (b:=r156L0) s.shards.length (fun i=>⟨[(3,.c (.int .i64 (i:Nat)))],[(1,1,0)],[(1,[.int .i64 s.group,.int .i64 s.seen,x])],h⟩) s.fits (fun s'=>lk s'.env 2=some (.c (.bool false))∧s'.hp=h)
  fun i hi=>sStoreOk_turn k w ok.shards i hi
 have l1:=w.len
 have n1: ¬(s.shards.length:Int)<s.shards.length:=by omega
 clear w ok
 simp only[show ((0:Nat):Int)=0 from rfl] at key
 have hg:=fun n lo hi=>Wbd (Z:=Z) k.s01 n lo hi h
 have hgd:s.good=(inR s.group 0 99&&(inR s.seen 0 1000000&&(decide ((s.shards.length:Int)≤8)&&(List.range s.shards.length).all s.fits))):=rfl
 generalize s.good=sg at *
 generalize (List.range s.shards.length).all s.fits=al at *
 rw[Wac F Z (k.s13.lk (g:=156) rfl) _ _ rfl]
 simp only[rn,RO.dst,lk,drop,Nat.reduceBEq,Nat.reduceAdd,Nat.reduceLeDiff,↓reduceIte,reduceCtorEq,hg,l1]
 clear k
 (repeat' ((first | (rw[WbI];split) | (rw[Was];split) | (rw[Way];split))<;>(rename_i hh;(try simp only[Qc,decide_eq_true_eq] at hh);simp only[hh,rn,RO.dst,lk,drop,Nat.reduceBEq,Nat.reduceAdd,Nat.reduceLeDiff,↓reduceIte,reduceCtorEq,hg,l1])))
 all_goals clear hg
 all_goals first
  | (simp_all[inR]<;>omega)
  | (rcases key with ⟨a1,a2⟩ | ⟨a1,s',a2,a3,a4⟩
     ·rw[a2,Wab]
      conv in (Wad _ _ r156L0 _)=>unfold r156L0
      simp only[rn,RO.dst,lk,drop,Nat.reduceBEq,Nat.reduceAdd,Nat.reduceLeDiff,↓reduceIte,reduceCtorEq,l1,n1]
      simp_all[inR]<;>omega
     ·rw[a2]
      simp only[rn,RO.dst,lk,drop,Nat.reduceBEq,Nat.reduceAdd,Nat.reduceLeDiff,↓reduceIte,reduceCtorEq,a3,a4]
      simp_all[inR]<;>omega)
variable {c:Heap}
theorem StoreOk_c (k:KI F) (hf:h.floor≤h.next) (v:Store.RI h cs s fp) (ok:s.Ok): ∃h',call F Z 157 [.agg cs] h=some (.c (.bool s.good),h')∧On h h':=by
 obtain ⟨l1,l2,l3⟩:=Store.lenI v
 obtain ⟨h',e,o⟩:=WbQ (Z:=Z) k v ok
 refine ⟨h',?_,o⟩
 rw[Wac F Z (k.i13.lk (g:=157) rfl) _ _ rfl]
 simp only[rn,RO.dst,lk,drop,Nat.reduceBEq,Nat.reduceAdd,Nat.reduceLeDiff,↓reduceIte,reduceCtorEq,l1,l2,l3,e]
end
theorem findI_lt {α:Type} {p:α→Bool} {xs:List α}: -1≤Wbt p xs∧Wbt p xs<xs.length:=by
 unfold Wbt
 split
 ·rename_i i hi
  rw[QA] at hi
  obtain ⟨h,_⟩:=hi
  omega
 ·omega
theorem WbV {α:Type} {p:α→Bool} {xs:List α} (h:0≤Wbt p xs): ∃i:Nat,Wbt p xs=(i:Int)∧ ∃hi:i<xs.length,p xs[i]=true:=by
 unfold Wbt at h ⊢
 split at h
 ·rename_i i hi
  rw[QA] at hi
  obtain ⟨h1,h2,_⟩:=hi
  exact ⟨i,rfl,h1,h2⟩
 ·omega
theorem findI_no {α:Type} {p:α→Bool} {xs:List α} (h:Wbt p xs<0):Wbt p xs= -1:=by
 unfold Wbt at h ⊢
 split at h
 ·omega
 ·rfl
theorem mix_set {α:Type} (f:α→α) (xs:List α) {i:Nat} (hi:i<xs.length):((xs.take i).map f++xs.drop i).set i (f xs[i])=(xs.take (i+1)).map f++xs.drop (i+1):=by
 rw[List.set_append_right _ _ (by simp;omega),show i-((xs.take i).map f).length=0 from by simp;omega,QC hi,Qh,
  show xs.take (i+1)=xs.take i++[xs[i]] from by rw[Qn,Qb hi];rfl,Jt,QN]
 rfl
theorem mix_at {α:Type} (f:α→α) (xs:List α) {i:Nat} (hi:i<xs.length) (h:i<((xs.take i).map f++xs.drop i).length):((xs.take i).map f++xs.drop i)[i]=xs[i]:=by
 rw[List.getElem_append_right (by simp;omega)]
 simp
 congr 1
 omega
theorem set_same {α:Type} (xs:List α) {i:Nat} (hi:i<xs.length):xs.set i xs[i]=xs:=by
 apply List.ext_getElem?
 intro j
 by_cases e:i=j
 ·subst e;rw[Jq hi,Qb hi]
 ·rw[List.getElem?_set_ne e]
theorem filter_next {α:Type} (p:α→Bool) {xs:List α} {i:Nat} (hi:i<xs.length):(xs.take (i+1)).filter p=(xs.take i).filter p++if p xs[i] then [xs[i]] else []:=by
 rw[Qn,Qb hi,JC]
 cases h:p xs[i]<;>simp[h]
theorem filter_len {α:Type} (p:α→Bool) (xs:List α) (i:Nat):((xs.take i).filter p).length≤xs.length:=Qj (QK _ _) (by rw[Qg];omega)
section
variable {α:Type} {R:Rel α} {tag:Nat} {h0 h g:Heap} {x y:Cell} {xs ys:List α} {fp fq:List Nat}
theorem SlR.lit1 (ok:RelOk R) {cs:List Cell} {t:α} (v:R h cs t fp) (nd:fp.Nodup):SlR tag R (h.push [cs]) (.sl tag h.next 0 1) [t] (h.next::fp)∧(h.next::fp).Nodup:=
 ⟨⟨by simp[maxLen],.inr ⟨h.next,[cs],[fp],rfl,by simp[Heap.push],by simp[Heap.push],by simp,⟨ok.mv v (by simp[Heap.push]) fun id hid=>WbY _ (by have:=ok.lt v id hid;omega),trivial⟩⟩⟩,QL.2 ⟨fun hc=>by have:=ok.lt v _ hc;omega,nd⟩⟩
end
def Waz (xs:List Shard) (id:Int):Int:=Wbt (fun t=>decide (t.lo≤id)&&decide (id≤t.hi)) xs
def Waj (xs:List Shard) (lo st:Int):Int:=Wbt (fun t=>(t.lo==lo)&&(t.state==st)) xs
section
variable {F:Nat→Option RF} {Z:Waf} {h:Heap} {x:Cell} {xs:List Shard} {fp:List Nat} {cs:List Cell} {s:Store}
theorem indexShard_run (hL:Has F Waa) (w:SlR 16 Shard.RI h x xs fp) (f:Nat) (ps:List (Nat×Nat×Nat)) (p:Shard→Bool)
 (hc: ∀r t q,Shard.RI h r t q→call F Z f (.agg r::capV ps) h=some (.c (.bool (p t)),h)):call F Z 248 [.c x,.c (.fn f ps)] h=some (.c (.int .i64 (Wbt p xs)),h):=by
 have hle:=w.le2
 rw[Wac F Z (hL.lk (g:=248) rfl) _ _ rfl]
 simp only[rn,RO.dst,lk,drop,Nat.reduceBEq,Nat.reduceAdd,Nat.reduceLeDiff,↓reduceIte,reduceCtorEq,w.len]
 have key:=loop_find (F:=F) (Z:=Z) (live:=[0,1,7,8]) (b:=r248L0) xs p (fun i=>⟨[(0,.c x),(1,.c (.fn f ps)),(7,.c (.int .i64 (xs.length:Nat))),(8,.c (.int .i64 (i:Nat)))],[],[],h⟩) (fun i s=>lk s.env 4=some (.c (.int .i64 (i:Nat)))∧s.hp=h) fun i hi=>by
  have hlt:(i:Int)<xs.length:=by omega
  have hws:=WaS i (by omega)
  obtain ⟨r,q,hld,hR,_⟩:=w.one hi
  have hci:=hc _ _ _ hR
  obtain ⟨r1,r2,r3⟩:=Shard.lenI hR
  have hxi:=w.idx hi
  clear w hR
  rw[Wab]
  conv in (Wad _ _ r248L0 _)=>unfold r248L0
  simp only[rn,RO.dst,lk,drop,Nat.reduceBEq,Nat.reduceAdd,Nat.reduceLeDiff,↓reduceIte,reduceCtorEq,hlt,hxi,hld,r1,r2,r3]
  simp only[hci,rn,RO.dst,lk,drop,Nat.reduceBEq,Nat.reduceAdd,Nat.reduceLeDiff,↓reduceIte,reduceCtorEq]
  (repeat' ((first | (rw[WbI];split) | (rw[Was];split) | (rw[Way];split))<;>(rename_i hh;(try simp only[Qc,decide_eq_true_eq] at hh);simp only[hh,rn,RO.dst,lk,drop,Nat.reduceBEq,Nat.reduceAdd,Nat.reduceLeDiff,↓reduceIte,reduceCtorEq,hws])))<;>first
   | exact .inl ⟨by simp_all,rfl⟩
   | exact .inr ⟨by simp_all,_,rfl,rfl,rfl⟩
 have hlt: ¬(xs.length:Int)<xs.length:=by omega
 simp only[show ((0:Nat):Int)=0 from rfl] at key
 rcases key with ⟨k1,k2⟩ | ⟨i,k1,hi,s,k2,k3,k4⟩
 ·rw[k2,Wab]
  conv in (Wad _ _ r248L0 _)=>unfold r248L0
  simp only[rn,RO.dst,lk,drop,Nat.reduceBEq,Nat.reduceAdd,Nat.reduceLeDiff,↓reduceIte,reduceCtorEq,hlt,Wbt,k1]
 ·rw[k2]
  simp only[rn,RO.dst,lk,drop,Nat.reduceBEq,Nat.reduceAdd,Nat.reduceLeDiff,↓reduceIte,reduceCtorEq,k3,k4,Wbt,k1]
theorem shardWith_run (hI13:Has F tI13) (hL:Has F Waa) (v:Store.RI h cs s fp) (id:Int):
 call F Z 212 [.agg cs,.c (.int .u64 id)] h=some (.c (.int .i64 (Waz s.shards id)),h.push [[.int .u64 id]]):=by
 obtain ⟨x,p,rfl,rfl,w⟩:=v
 have w':=w.on Shard.okI (On.push h [[.int .u64 id]])
 have hr:=indexShard_run (Z:=Z) hL w' 247 [(h.next,0,0)] (fun t=>decide (t.lo≤id)&&decide (id≤t.hi)) fun r t q hR=>by
  obtain ⟨x1,p1,x2,p2,rfl,_⟩:=hR
  have hl:WaC (h.push [[.int .u64 id]]) h.next 0 0 1=some [.int .u64 id]:=by simp[WaC,WbL,Wbm,cut?]
  simp only[rn,RO.dst,lk,drop,Nat.reduceBEq,Nat.reduceAdd,Nat.reduceLeDiff,↓reduceIte,reduceCtorEq,capV_cons]
  rw[Wac F Z (hI13.lk (g:=247) rfl) _ _ rfl]
  simp only[rn,RO.dst,lk,drop,Nat.reduceBEq,Nat.reduceAdd,Nat.reduceLeDiff,↓reduceIte,reduceCtorEq,hl]
  (repeat' ((first | (rw[WbI];split) | (rw[Was];split) | (rw[Way];split))<;>(rename_i hh;(try simp only[Qc,decide_eq_true_eq] at hh);simp only[hh,rn,RO.dst,lk,drop,Nat.reduceBEq,Nat.reduceAdd,Nat.reduceLeDiff,↓reduceIte,reduceCtorEq,hl])))<;>simp_all
 rw[Wac F Z (hI13.lk (g:=212) rfl) _ _ rfl]
 simp only[rn,RO.dst,lk,drop,Nat.reduceBEq,Nat.reduceAdd,Nat.reduceLeDiff,↓reduceIte,reduceCtorEq,hr,evPtrs]
 rfl
theorem shardAt_run (hI13:Has F tI13) (hL:Has F Waa) (v:Store.RI h cs s fp) (lo st:Int):
 call F Z 213 [.agg cs,.c (.int .u64 lo),.c (.int .i64 st)] h=some (.c (.int .i64 (Waj s.shards lo st)),(h.push [[.int .u64 lo]]).push [[.int .i64 st]]):=by
 obtain ⟨x,p,rfl,rfl,w⟩:=v
 have w':=(w.on Shard.okI (On.push h [[.int .u64 lo]])).on Shard.okI (On.push _ [[.int .i64 st]])
 have hr:=indexShard_run (Z:=Z) hL w' 249 [(h.next,0,0),(h.next+1,0,0)] (fun t=>(t.lo==lo)&&(t.state==st)) fun r t q hR=>by
  obtain ⟨x1,p1,x2,p2,rfl,_⟩:=hR
  have hl:WaC ((h.push [[.int .u64 lo]]).push [[.int .i64 st]]) h.next 0 0 1=some [.int .u64 lo]:=by
   simp[WaC,WbL,Heap.push,cut?]
  have hl2:WaC ((h.push [[.int .u64 lo]]).push [[.int .i64 st]]) (h.next+1) 0 0 1=some [.int .i64 st]:=by
   simp[WaC,WbL,Heap.push,cut?]
  simp only[rn,RO.dst,lk,drop,Nat.reduceBEq,Nat.reduceAdd,Nat.reduceLeDiff,↓reduceIte,reduceCtorEq,capV_cons]
  rw[Wac F Z (hI13.lk (g:=249) rfl) _ _ rfl]
  simp only[rn,RO.dst,lk,drop,Nat.reduceBEq,Nat.reduceAdd,Nat.reduceLeDiff,↓reduceIte,reduceCtorEq,hl,hl2]
  (repeat' ((first | (rw[WbI];split) | (rw[Was];split) | (rw[Way];split))<;>(rename_i hh;(try simp only[Qc,decide_eq_true_eq] at hh);simp only[hh,rn,RO.dst,lk,drop,Nat.reduceBEq,Nat.reduceAdd,Nat.reduceLeDiff,↓reduceIte,reduceCtorEq,hl,hl2])))<;>simp_all
 rw[Wac F Z (hI13.lk (g:=213) rfl) _ _ rfl]
 simp only[rn,RO.dst,lk,drop,Nat.reduceBEq,Nat.reduceAdd,Nat.reduceLeDiff,↓reduceIte,reduceCtorEq,Wbu,hr,evPtrs]
 rfl
theorem shardWith_on (hI13:Has F tI13) (hL:Has F Waa) (v:Store.RI h cs s fp) (id:Int):
 ∃h',call F Z 212 [.agg cs,.c (.int .u64 id)] h=some (.c (.int .i64 (Waz s.shards id)),h')∧On h h':=⟨_,shardWith_run hI13 hL v id,On.push _ _⟩
theorem shardAt_on (hI13:Has F tI13) (hL:Has F Waa) (v:Store.RI h cs s fp) (lo st:Int):
 ∃h',call F Z 213 [.agg cs,.c (.int .u64 lo),.c (.int .i64 st)] h=some (.c (.int .i64 (Waj s.shards lo st)),h')∧On h h':=⟨_,shardAt_run hI13 hL v lo st,(On.push _ _).trans (On.push _ _)⟩
theorem Wbs (hS13:Has F tS13) (v:Store.RI h cs s fp) (id:Int):call F Z 211 [.agg cs,.c (.int .u64 id)] h=some (.c (.int .i64 (Waz s.shards id)),h):=by
 obtain ⟨x,p,rfl,rfl,w⟩:=v
 have hle:=w.le2
 have hwl:=w.len
 rw[Wac F Z (hS13.lk (g:=211) rfl) _ _ rfl]
 simp only[rn,RO.dst,lk,drop,Nat.reduceBEq,Nat.reduceAdd,Nat.reduceLeDiff,↓reduceIte,reduceCtorEq]
 have key:=loop_find (F:=F) (Z:=Z) (live:=[1,2,5]) (b:=r211L0) s.shards (fun t=>decide (t.lo≤id)&&decide (id≤t.hi)) (fun i=>⟨[(1,.c (.int .u64 id)),(5,.c (.int .i64 (i:Nat)))],[(2,2,0)],[(2,[.int .i64 s.group,.int .i64 s.seen,x])],h⟩) (fun i s=>lk s.env 4=some (.c (.int .i64 (i:Nat)))∧s.hp=h) fun i hi=>by
  have hlt:(i:Int)<s.shards.length:=by omega
  have hws:=WaS i (by omega)
  obtain ⟨r,q,hld,hR,_⟩:=w.one hi
  obtain ⟨x1,p1,x2,p2,rfl,_⟩:=hR
  have hxi:=w.idx hi
  clear w
  rw[Wab]
  conv in (Wad _ _ r211L0 _)=>unfold r211L0
  simp only[rn,RO.dst,lk,drop,Nat.reduceBEq,Nat.reduceAdd,Nat.reduceLeDiff,↓reduceIte,reduceCtorEq,hwl,hlt,hxi,hld]
  (repeat' ((first | (rw[WbI];split) | (rw[Was];split) | (rw[Way];split))<;>(rename_i hh;(try simp only[Qc,decide_eq_true_eq] at hh);simp only[hh,rn,RO.dst,lk,drop,Nat.reduceBEq,Nat.reduceAdd,Nat.reduceLeDiff,↓reduceIte,reduceCtorEq,hws,hxi,hld])))<;>first
   | exact .inl ⟨by simp_all,rfl⟩
   | exact .inr ⟨by simp_all,_,rfl,rfl,rfl⟩
 have hlt: ¬(s.shards.length:Int)<s.shards.length:=by omega
 simp only[show ((0:Nat):Int)=0 from rfl] at key
 rcases key with ⟨k1,k2⟩ | ⟨i,k1,hi,s,k2,k3,k4⟩
 ·rw[k2,Wab]
  conv in (Wad _ _ r211L0 _)=>unfold r211L0
  simp only[rn,RO.dst,lk,drop,Nat.reduceBEq,Nat.reduceAdd,Nat.reduceLeDiff,↓reduceIte,reduceCtorEq,hwl,hlt,Waz,Wbt,k1]
 ·rw[k2]
  simp only[rn,RO.dst,lk,drop,Nat.reduceBEq,Nat.reduceAdd,Nat.reduceLeDiff,↓reduceIte,reduceCtorEq,k3,k4,Waz,Wbt,k1]
theorem l13At_run (hS13:Has F tS13) (v:Store.RI h cs s fp) (lo st:Int):call F Z 210 [.agg cs,.c (.int .u64 lo),.c (.int .i64 st)] h=some (.c (.int .i64 (Waj s.shards lo st)),h):=by
 obtain ⟨x,p,rfl,rfl,w⟩:=v
 have hle:=w.le2
 have hwl:=w.len
 rw[Wac F Z (hS13.lk (g:=210) rfl) _ _ rfl]
 simp only[rn,RO.dst,lk,drop,Nat.reduceBEq,Nat.reduceAdd,Nat.reduceLeDiff,↓reduceIte,reduceCtorEq]
 have key:=loop_find (F:=F) (Z:=Z) (live:=[1,2,3,7]) (b:=r210L0) s.shards (fun t=>(t.lo==lo)&&(t.state==st)) (fun i=>⟨[(1,.c (.int .u64 lo)),(2,.c (.int .i64 st)),(7,.c (.int .i64 (i:Nat)))],[(3,3,0)],[(3,[.int .i64 s.group,.int .i64 s.seen,x])],h⟩) (fun i s=>lk s.env 6=some (.c (.int .i64 (i:Nat)))∧s.hp=h) fun i hi=>by
  have hlt:(i:Int)<s.shards.length:=by omega
  have hws:=WaS i (by omega)
  obtain ⟨r,q,hld,hR,_⟩:=w.one hi
  obtain ⟨x1,p1,x2,p2,rfl,_⟩:=hR
  have hxi:=w.idx hi
  clear w
  rw[Wab]
  conv in (Wad _ _ r210L0 _)=>unfold r210L0
  simp only[rn,RO.dst,lk,drop,Nat.reduceBEq,Nat.reduceAdd,Nat.reduceLeDiff,↓reduceIte,reduceCtorEq,hwl,hlt,hxi,hld]
  (repeat' ((first | (rw[WbI];split) | (rw[Was];split) | (rw[Way];split))<;>(rename_i hh;(try simp only[Qc,decide_eq_true_eq] at hh);simp only[hh,rn,RO.dst,lk,drop,Nat.reduceBEq,Nat.reduceAdd,Nat.reduceLeDiff,↓reduceIte,reduceCtorEq,hws,hxi,hld])))<;>first
   | exact .inl ⟨by simp_all,rfl⟩
   | exact .inr ⟨by simp_all,_,rfl,rfl,rfl⟩
 have hlt: ¬(s.shards.length:Int)<s.shards.length:=by omega
 simp only[show ((0:Nat):Int)=0 from rfl] at key
 rcases key with ⟨k1,k2⟩ | ⟨i,k1,hi,s,k2,k3,k4⟩
 ·rw[k2,Wab]
  conv in (Wad _ _ r210L0 _)=>unfold r210L0
  simp only[rn,RO.dst,lk,drop,Nat.reduceBEq,Nat.reduceAdd,Nat.reduceLeDiff,↓reduceIte,reduceCtorEq,hwl,hlt,Waj,Wbt,k1]
 ·rw[k2]
  simp only[rn,RO.dst,lk,drop,Nat.reduceBEq,Nat.reduceAdd,Nat.reduceLeDiff,↓reduceIte,reduceCtorEq,k3,k4,Waj,Wbt,k1]
end
theorem flatMap_one {α β:Type} (g:α→β) (xs:List α):xs.flatMap (fun r=>[g r])=xs.map g:=by
 induction xs with
 | nil=>rfl
 | cons a r ih=>rw[List.flatMap_cons,ih];rfl
section
variable {F:Nat→Option RF} {Z:Waf} {h:Heap} {x:Cell} {xs:List Account} {fp fq:List Nat}
theorem copyBook_c (hI10:Has F tI10) (hf:h.floor≤h.next) (w:SlR 11 (Fl Account.enc) h x xs fp) (sm:xs.length≤1048576): ∃y h' fq,call F Z 260 [.agg [x]] h=some (.agg [y],h')∧On h h'∧SlR 11 (Fl Account.enc) h' y xs fq∧Fre h fq:=by
 have a0:=Acc.lit0 (tag:=11) (On.refl h)
 have w':=w.on (Fl.ok _) (On.push h [])
 have ce:=a0.cat_eq (bytes:=40) (y:=x) (new:=xs.map Account.enc) hf w'.isTag w'.rows (by simp;omega)
 have ac:=a0.cat (new:=xs.map Account.enc) hf (by simp;omega)
 simp only[Ja] at ac
 obtain ⟨o,fq,u,f⟩:=ac.flat
 rw[Wac F Z (hI10.lk (g:=260) rfl) _ _ rfl]
 simp only[rn,RO.dst,lk,drop,Nat.reduceBEq,Nat.reduceAdd,Nat.reduceLeDiff,↓reduceIte,reduceCtorEq,Qe,Wav,ce]
 exact ⟨_,_,_,rfl,o,u,f⟩
theorem WbS (hS10:Has F tS10) (hf:h.floor≤h.next) (w:SlR 11 (Fl Account.enc) h x xs fp) (sm:xs.length≤1048576): ∃y h' fq,call F Z 259 [.agg [x]] h=some (.agg [y],h')∧On h h'∧SlR 11 (Fl Account.enc) h' y xs fq∧Fre h fq:=by
 rw[Wac F Z (hS10.lk (g:=259) rfl) _ _ rfl]
 simp only[rn,RO.dst,lk,drop,Nat.reduceBEq,Nat.reduceAdd,Nat.reduceLeDiff,↓reduceIte,reduceCtorEq]
 obtain ⟨y1,h1,a1,l1⟩:=loop_acc (F:=F) (Z:=Z) (live:=[1,2,3,4]) (b:=r259L0) xs (fun r=>[r.enc]) 11 h (fun i y g=>⟨[(4,.c (.int .i64 (i:Nat)))],[(1,1,0),(2,2,0),(3,3,0)],[(1,[x]),(2,[.nil]),(3,[y])],g⟩) (fun r=>by simp) (fun i hi y g rows a hr=>by
  have e1:=a.one_eq hf (bytes:=40) (by omega)
  have a1:=a.one hf (by omega)
  have hlt:(i:Int)<xs.length:=by omega
  have wg:=w.on (Fl.ok _) a.on
  rw[Wab]
  conv in (Wad _ _ r259L0 _)=>unfold r259L0
  simp only[rn,RO.dst,lk,drop,Nat.reduceBEq,Nat.reduceAdd,Nat.reduceLeDiff,↓reduceIte,reduceCtorEq,w.len,hlt,w.idx hi,wg.load hi,Account.len,Account.tak,WaS i (by omega),Qi,Qe,Wav,and_self,Qk,Qh,e1]
  exact ⟨_,_,a1 _,rfl⟩) (Acc.nil 11 h)
 simp only[show ((0:Nat):Int)=0 from rfl] at l1
 have hlt: ¬(xs.length:Int)<xs.length:=by omega
 rw[l1,Wab]
 conv in (Wad _ _ r259L0 _)=>unfold r259L0
 simp only[rn,RO.dst,lk,drop,Nat.reduceBEq,Nat.reduceAdd,Nat.reduceLeDiff,↓reduceIte,reduceCtorEq,w.len,hlt]
 rw[flatMap_one] at a1
 obtain ⟨o,fq,u,f⟩:=a1.flat
 exact ⟨_,_,_,rfl,o,u,f⟩
end
def Shard.cells (t:Shard) (x y:Cell):List Cell:=[.int .u64 t.lo,.int .u64 t.hi,.int .i64 t.state,.int .i64 t.epoch,x,y]
section
variable {F:Nat→Option RF} {Z:Waf} {h:Heap} {x:Cell} {xs:List Shard} {fp fq:List Nat}
theorem SlR.found (w:SlR 16 Shard.RI h x xs fp) (p:Shard→Bool):Wbt p xs= -1∨ ∃i:Nat,Wbt p xs=(i:Int)∧i<xs.length∧p (Shard.at_ xs i)=true∧idxR 16 (some x) (some (i:Int))=some (.ptr x.sid i 0)∧
 ∃y z,∀j n,WaC h x.sid i j n=cut? ((Shard.at_ xs i).cells y z) j n:=by
 by_cases h0:0≤Wbt p xs
 ·obtain ⟨i,e,hi,hp⟩:=WbV h0
  obtain ⟨r,f,hl,hR,_⟩:=w.one hi
  rw[←Shard.at_get hi] at hR hp
  obtain ⟨x1,p1,x2,p2,rfl,_⟩:=hR
  exact .inr ⟨i,e,hi,hp,w.idx hi,x1,x2,hl⟩
 ·exact .inl (findI_no (by omega))
end
section
variable {F:Nat→Option RF} {Z:Waf} {h:Heap} {x:Cell} {xs:List Account} {fp fq:List Nat} {cs:List Cell} {t:Shard}
theorem copyShard_c (hI10:Has F tI10) (hI13:Has F tI13) (hf:h.floor≤h.next) (v:Shard.RI h cs t fp) (sm:t.Small): ∃cs' h' fq,call F Z 229 [.agg cs] h=some (.agg cs',h')∧On h h'∧Shard.RI h' cs' t fq∧Fre h fq:=by
 obtain ⟨x,p,y,q,rfl,rfl,w,u⟩:=v
 obtain ⟨y1,h1,q1,e1,o1,u1,f1⟩:=copyBook_c (Z:=Z) hI10 hf w sm.1
 have sm2:t.finished.length≤1048576:=sm.2
 have hf1:=o1.le hf
 have a0:=Acc.lit0 (tag:=9) (On.refl h1)
 have w':=(u.on (Fl.ok _) o1).on (Fl.ok _) (On.push h1 [])
 have ce:=a0.cat_eq (bytes:=16) (y:=y) (new:=t.finished.map Fin.enc) hf1 w'.isTag w'.rows (by simp;omega)
 have ac:=a0.cat (new:=t.finished.map Fin.enc) hf1 (by simp;omega)
 simp only[Ja] at ac
 obtain ⟨o,fq,u2,f⟩:=ac.flat
 rw[Wac F Z (hI13.lk (g:=229) rfl) _ _ rfl]
 simp only[rn,RO.dst,lk,drop,Nat.reduceBEq,Nat.reduceAdd,Nat.reduceLeDiff,↓reduceIte,reduceCtorEq,e1,Qe,Wav,ce]
 exact ⟨_,_,_,rfl,o1.trans o,⟨_,_,_,_,rfl,rfl,u1.on (Fl.ok _) o,u2⟩,f1.app (u1.lt (Fl.ok _)) f o1.ext.1⟩
theorem WaF (hS10:Has F tS10) (hS13:Has F tS13) (hf:h.floor≤h.next) (v:Shard.RI h cs t fp) (sm:t.Small): ∃cs' h' fq,call F Z 228 [.agg cs] h=some (.agg cs',h')∧On h h'∧Shard.RI h' cs' t fq∧Fre h fq:=by
 obtain ⟨x,p,y,q,rfl,rfl,w,u⟩:=v
 obtain ⟨y1,h1,q1,e1,o1,u1,f1⟩:=WbS (Z:=Z) hS10 hf w sm.1
 have sm2:t.finished.length≤1048576:=sm.2
 have hf1:=o1.le hf
 rw[Wac F Z (hS13.lk (g:=228) rfl) _ _ rfl]
 simp only[rn,RO.dst,lk,drop,Nat.reduceBEq,Nat.reduceAdd,Nat.reduceLeDiff,↓reduceIte,reduceCtorEq,e1,Qe,Wav]
 obtain ⟨y2,h2,a2,l2⟩:=loop_acc (F:=F) (Z:=Z) (live:=[1,2,3,4]) (b:=r228L0) t.finished (fun r=>[r.enc]) 9 h1 (fun i z g=>⟨[(3,.c z),(4,.c (.int .i64 (i:Nat)))],[(1,1,0),(2,2,0)],[(1,[.int .u64 t.lo,.int .u64 t.hi,.int .i64 t.state,.int .i64 t.epoch,y1,y]),(2,[.int .u64 0,.int .u64 0,.int .i64 0,.int .i64 0,.nil,.nil])],g⟩) (fun r=>by simp) (fun i hi z g rows a hr=>by
  have e1:=a.one_eq hf1 (bytes:=16) (by omega)
  have a1:=a.one hf1 (by omega)
  have hlt:(i:Int)<t.finished.length:=by omega
  have wg:=(u.on (Fl.ok _) o1).on (Fl.ok _) a.on
  rw[Wab]
  conv in (Wad _ _ r228L0 _)=>unfold r228L0
  simp only[rn,RO.dst,lk,drop,Nat.reduceBEq,Nat.reduceAdd,Nat.reduceLeDiff,↓reduceIte,reduceCtorEq,u.len,hlt,u.idx hi,wg.load hi,Fin.len,Fin.tak,WaS i (by omega),Qi,Qe,Wav,and_self,Qk,Qh,e1]
  exact ⟨_,_,a1 _,rfl⟩) (Acc.lit0 (On.refl h1))
 simp only[show ((0:Nat):Int)=0 from rfl] at l2
 have hlt: ¬(t.finished.length:Int)<t.finished.length:=by omega
 rw[l2,Wab]
 conv in (Wad _ _ r228L0 _)=>unfold r228L0
 simp only[rn,RO.dst,lk,drop,Nat.reduceBEq,Nat.reduceAdd,Nat.reduceLeDiff,↓reduceIte,reduceCtorEq,u.len,hlt]
 rw[flatMap_one] at a2
 obtain ⟨o,fq,u2,f⟩:=a2.flat
 exact ⟨_,_,_,rfl,o1.trans o,⟨_,_,_,_,rfl,rfl,u1.on (Fl.ok _) o,u2⟩,f1.app (u1.lt (Fl.ok _)) f o1.ext.1⟩
theorem Shard.none_R (h:Heap):Shard.RI h [.int .u64 0,.int .u64 0,.int .i64 0,.int .i64 0,.nil,.nil] Shard.none_ []:=⟨.nil,[],.nil,[],rfl,rfl,SlR.nil _ _ _,SlR.nil _ _ _⟩
def Wag (s:Store) (lo:Int):Shard×Bool:=bif s.good&&decide (0≤Waj s.shards lo 1) then (Shard.at_ s.shards (Waj s.shards lo 1).toNat,true) else (Shard.none_,false)
variable {s:Store}
theorem Store.at_small (sm:s.Small) {i:Nat} (hi:i<s.shards.length):(Shard.at_ s.shards i).Small:=by
 rw[Shard.at_get hi]
 exact sm.2 _ (Qd hi)
theorem Store.at_ok (ok:s.Ok) {i:Nat} (hi:i<s.shards.length):(Shard.at_ s.shards i).Ok:=by
 rw[Shard.at_get hi]
 exact ok.shards _ (Qd hi)
theorem exportShard_small {lo:Int} (sm:s.Small):(Wag s lo).1.Small:=by
 unfold Wag
 cases h:(s.good&&decide (0≤Waj s.shards lo 1)) with
 | false=>exact ⟨show (0:Nat)≤1048576 by omega,show (0:Nat)≤1048576 by omega⟩
 | true=>
   simp only[Qa,decide_eq_true_eq] at h
   obtain ⟨i,e,hi,_⟩:=WbV h.2
   have e':Waj s.shards lo 1=(i:Int):=e
   simp only[cond_true,e',QT]
   exact Store.at_small sm hi
theorem SlR.atR {ys:List Shard} (w:SlR 16 Shard.RI h x ys fp) {i:Nat} (hi:i<ys.length): ∃r f,(∀j n,WaC h x.sid i j n=cut? r j n)∧Shard.RI h r (Shard.at_ ys i) f∧ ∀id,id∈f→id∈fp:=by
 rw[Shard.at_get hi]
 exact w.one hi
set_option maxHeartbeats 1000000 in
theorem ExportShard_c (k:KI F) (hL:Has F Waa) (hf:h.floor≤h.next) (v:Store.RI h cs s fp) (lo:Int) (ok:s.Ok) (sm:s.Small):
 ∃cs' h' fq,call F Z 190 [.agg cs,.c (.int .u64 lo)] h=some (.tup [.agg cs',.c (.bool (Wag s lo).2)],h')∧On h h'∧Shard.RI h' cs' (Wag s lo).1 fq∧Fre h fq:=by
 obtain ⟨h1,e1,o1⟩:=shardAt_on (Z:=Z) k.i13 hL v lo 1
 have v1:=Store.okI.on v o1
 obtain ⟨h2,e2,o2⟩:=WbQ (Z:=Z) k v1 ok
 have v2:=Store.okI.on v1 o2
 have hf2:=(o1.trans o2).le hf
 obtain ⟨x,p,rfl,rfl,w⟩:=v2
 rw[Wac F Z (k.i13.lk (g:=190) rfl) _ _ rfl]
 have hdef:Wag s lo=bif s.good&&decide (0≤Waj s.shards lo 1) then (Shard.at_ s.shards (Waj s.shards lo 1).toNat,true) else (Shard.none_,false):=rfl
 cases gd:s.good with
 | false=>
   rw[gd] at e2
   have hd:Wag s lo=(Shard.none_,false):=by rw[hdef,gd];rfl
   rw[hd]
   simp only[rn,RO.dst,lk,drop,Nat.reduceBEq,Nat.reduceAdd,Nat.reduceLeDiff,↓reduceIte,reduceCtorEq,e1,e2]
   exact ⟨_,_,_,rfl,o1.trans o2,Shard.none_R _,Fre.nil h⟩
 | true=>
   rw[gd] at e2
   rcases w.found (fun t=>(t.lo==lo)&&(t.state==1)) with e | ⟨i,e,hi,_,hx,_⟩
   ·change Waj s.shards lo 1= -1 at e
    have hd:Wag s lo=(Shard.none_,false):=by rw[hdef,gd,e];rfl
    rw[hd]
    rw[e] at e1
    simp only[rn,RO.dst,lk,drop,Nat.reduceBEq,Nat.reduceAdd,Nat.reduceLeDiff,↓reduceIte,reduceCtorEq,e1,e2,Int.reduceLT,Int.reduceNeg]
    exact ⟨_,_,_,rfl,o1.trans o2,Shard.none_R _,Fre.nil h⟩
   ·change Waj s.shards lo 1=(i:Int) at e
    have hd:Wag s lo=(Shard.at_ s.shards i,true):=by
     rw[hdef,gd,e]
     have:decide (0≤(i:Int))=true:=by simp
     rw[this];rfl
    rw[hd]
    rw[e] at e1
    obtain ⟨r,f,hl,hR,_⟩:=w.atR hi
    obtain ⟨cs',h3,fq,e3,o3,u3,f3⟩:=copyShard_c (Z:=Z) k.i10 k.i13 hf2 hR (Store.at_small sm hi)
    obtain ⟨r1,r2,r3⟩:=Shard.lenI hR
    obtain ⟨c1,c2,c3⟩:=Shard.lenI u3
    have g0: ¬(i:Int)<0:=by omega
    simp only[rn,RO.dst,lk,drop,Nat.reduceBEq,Nat.reduceAdd,Nat.reduceLeDiff,↓reduceIte,reduceCtorEq,e1,e2,g0,hx,hl,r1,r2,r3,e3,c1,c2,c3]
    exact ⟨_,_,_,rfl,(o1.trans o2).trans o3,u3,⟨fun id hid=>Qj (o1.trans o2).ext.1 (f3.lo id hid),f3.nd⟩⟩
set_option maxHeartbeats 1000000 in
theorem sExportShard_c (k:KS F) (hf:h.floor≤h.next) (v:Store.RI h cs s fp) (lo:Int) (ok:s.Ok) (sm:s.Small):
 ∃cs' h' fq,call F Z 189 [.agg cs,.c (.int .u64 lo)] h=some (.tup [.agg cs',.c (.bool (Wag s lo).2)],h')∧On h h'∧Shard.RI h' cs' (Wag s lo).1 fq∧Fre h fq:=by
 have e1:=l13At_run (Z:=Z) k.s13 v lo 1
 have e2:=WaK (Z:=Z) k v ok
 obtain ⟨x,p,rfl,rfl,w⟩:=v
 rw[Wac F Z (k.s13.lk (g:=189) rfl) _ _ rfl]
 have hdef:Wag s lo=bif s.good&&decide (0≤Waj s.shards lo 1) then (Shard.at_ s.shards (Waj s.shards lo 1).toNat,true) else (Shard.none_,false):=rfl
 cases gd:s.good with
 | false=>
   rw[gd] at e2
   have hd:Wag s lo=(Shard.none_,false):=by rw[hdef,gd];rfl
   rw[hd]
   simp only[rn,RO.dst,lk,drop,Nat.reduceBEq,Nat.reduceAdd,Nat.reduceLeDiff,↓reduceIte,reduceCtorEq,e1,e2]
   exact ⟨_,_,_,rfl,On.refl h,Shard.none_R _,Fre.nil h⟩
 | true=>
   rw[gd] at e2
   rcases w.found (fun t=>(t.lo==lo)&&(t.state==1)) with e | ⟨i,e,hi,_,hx,_⟩
   ·change Waj s.shards lo 1= -1 at e
    have hd:Wag s lo=(Shard.none_,false):=by rw[hdef,gd,e];rfl
    rw[hd]
    rw[e] at e1
    simp only[rn,RO.dst,lk,drop,Nat.reduceBEq,Nat.reduceAdd,Nat.reduceLeDiff,↓reduceIte,reduceCtorEq,e1,e2,Int.reduceLT,Int.reduceNeg]
    exact ⟨_,_,_,rfl,On.refl h,Shard.none_R _,Fre.nil h⟩
   ·change Waj s.shards lo 1=(i:Int) at e
    have hd:Wag s lo=(Shard.at_ s.shards i,true):=by
     rw[hdef,gd,e]
     have:decide (0≤(i:Int))=true:=by simp
     rw[this];rfl
    rw[hd]
    rw[e] at e1
    obtain ⟨r,f,hl,hR,_⟩:=w.atR hi
    obtain ⟨cs',h3,fq,e3,o3,u3,f3⟩:=WaF (Z:=Z) k.s10 k.s13 hf hR (Store.at_small sm hi)
    obtain ⟨r1,r2,r3⟩:=Shard.lenI hR
    obtain ⟨c1,c2,c3⟩:=Shard.lenI u3
    have g0: ¬(i:Int)<0:=by omega
    simp only[rn,RO.dst,lk,drop,Nat.reduceBEq,Nat.reduceAdd,Nat.reduceLeDiff,↓reduceIte,reduceCtorEq,e1,e2,g0,hx,hl,r1,r2,r3,e3,c1,c2,c3]
    exact ⟨_,_,_,rfl,o3,u3,f3⟩
end
def Fin.pr (f:Fin):Int×Int:=(f.tx,f.id)
def un2 (x:Int×Int):Fin:=⟨x.1,x.2⟩
def WaP (xs:List Fin):List Fin:=(sort2 (xs.map Fin.pr)).map un2
def flt (f g:Fin):Prop:=f.tx<g.tx∨(f.tx=g.tx∧f.id<g.id)
instance (f g:Fin):Decidable (flt f g):=inferInstanceAs (Decidable (_∨_))
theorem cmp_flt (f g:Fin):decide (cmpFin f g<0)=decide (flt f g):=by
 rw[cmpFin_lt]
 unfold flt
 by_cases h1:f.tx<g.tx<;>by_cases h2:f.tx=g.tx<;>by_cases h3:f.id<g.id<;>simp[h1,h2,h3]
theorem flt.trans {f g k:Fin} (h:flt f g) (h2:flt g k):flt f k:=by unfold flt at *;omega
theorem flt.irr {f:Fin} (h:flt f f):False:=by unfold flt at h;omega
theorem flt.tot {f g:Fin} (h: ¬flt f g) (h2:f≠g):flt g f:=by
 obtain ⟨a,b⟩:=f
 obtain ⟨c,d⟩:=g
 unfold flt at *
 simp only[ne_eq,Fin.mk.injEq] at *
 omega
theorem un2_pr (xs:List Fin):(xs.map Fin.pr).map un2=xs:=by
 rw[List.map_map]
 exact (List.map_congr_left (fun a _=>rfl)).trans (List.map_id xs)
theorem WaY (xs:List Fin):(WaP xs).Perm xs:=by
 have:=(sort2_perm (xs.map Fin.pr)).map un2
 rwa [un2_pr] at this
theorem sortFins_len (xs:List Fin):(WaP xs).length=xs.length:=(WaY xs).length_eq
theorem sortFins_eq {xs ys:List Fin} (p:ys.Perm xs) (s:ys.Pairwise flt):WaP xs=ys:=by
 have:sort2 (xs.map Fin.pr)=ys.map Fin.pr:=by
  unfold sort2
  refine List.Perm.eq_of_pairwise (le:=fun x y=>(!(ltOf cmp2) y x)=true) ?_ ?_ ?_ ((List.mergeSort_perm _ _).trans (p.symm.map _))
  ·intro a b _ _ h1 h2
   simp only[QB] at h1 h2
   exact tot2 a b h2 h1
  ·refine Jo ?_ ?_ _
   ·intro a b c h1 h2
    simp only[QB] at h1 h2 ⊢
    exact swo2.ntrans c b a h2 h1
   ·intro a b
    cases h:ltOf cmp2 b a with
    | false=>simp
    | true=>
      have:ltOf cmp2 a b=false:=by
       rw[lt2] at h ⊢
       simp at h ⊢
       omega
      simp[this]
  ·rw[Jd]
   refine s.imp ?_
   intro a b h
   rw[lt2]
   unfold flt at h
   have: ¬(b.tx<a.tx∨(b.tx=a.tx∧b.id<a.id)):=by omega
   rw[QB,decide_eq_false_iff_not]
   exact this
 unfold WaP
 rw[this,un2_pr]
theorem sortFins_id {xs:List Fin} (s:xs.Pairwise flt):WaP xs=xs:=sortFins_eq (List.Perm.refl _) s
theorem Wcf {xs:List Fin} (nd:xs.Nodup):(WaP xs).Pairwise flt:=by
 have hs:(sort2 (xs.map Fin.pr)).Pairwise (fun x y=>(!(ltOf cmp2) y x)=true):=by
  refine Jo ?_ ?_ _
  ·intro a b c h1 h2
   simp only[QB] at h1 h2 ⊢
   exact swo2.ntrans c b a h2 h1
  ·intro a b
   cases h:ltOf cmp2 b a with
   | false=>simp
   | true=>
     have:ltOf cmp2 a b=false:=by
      rw[lt2] at h ⊢
      simp at h ⊢
      omega
     simp[this]
 have hn:(WaP xs).Nodup:=(WaY xs).nodup_iff.2 nd
 unfold WaP at *
 rw[Jd]
 rw[List.Nodup,Jd] at hn
 refine (hs.and hn).imp ?_
 rintro a b ⟨h1,h2⟩
 rw[lt2] at h1
 simp only[QB,decide_eq_false_iff_not] at h1
 obtain ⟨a1,a2⟩:=a
 obtain ⟨b1,b2⟩:=b
 simp only[un2,ne_eq,Fin.mk.injEq] at h2
 unfold flt un2
 simp only at h1 ⊢
 omega
def Wbh (f:Fin) (s:List Fin×Bool) (t:Fin):List Fin×Bool:=bif !s.2&&decide (flt f t) then (s.1++[f]++[t],true) else (s.1++[t],s.2)
def WbZ (xs:List Fin) (f:Fin):List Fin:=bif (xs.foldl (Wbh f) ([],decide (f∈xs))).2 then (xs.foldl (Wbh f) ([],decide (f∈xs))).1 else (xs.foldl (Wbh f) ([],decide (f∈xs))).1++[f]
theorem addStep_t (f:Fin): ∀(xs pre:List Fin),xs.foldl (Wbh f) (pre,true)=(pre++xs,true)
 | [],pre=>by simp
 | x::xs,pre=>by
   rw[Ju,show Wbh f (pre,true) x=(pre++[x],true) from rfl,addStep_t f xs]
   simp
theorem addStep_f (f:Fin): ∀(xs pre:List Fin),(bif (xs.foldl (Wbh f) (pre,false)).2 then (xs.foldl (Wbh f) (pre,false)).1 else (xs.foldl (Wbh f) (pre,false)).1++[f])=pre++(xs.takeWhile (fun t=> !decide (flt f t))++[f]++xs.dropWhile (fun t=> !decide (flt f t)))
 | [],pre=>by simp
 | x::xs,pre=>by
   rw[Ju]
   by_cases h:flt f x
   ·rw[show Wbh f (pre,false) x=(pre++[f]++[x],true) from by simp[Wbh,h],addStep_t]
    simp[h]
   ·rw[show Wbh f (pre,false) x=(pre++[x],false) from by simp[Wbh,h],addStep_f f xs]
    simp[h]
theorem addFin_in {xs:List Fin} {f:Fin} (h:f∈xs):WbZ xs f=xs:=by
 unfold WbZ
 rw[decide_eq_true h,addStep_t]
 simp
theorem addFin_new {xs:List Fin} {f:Fin} (h:f∉xs):WbZ xs f=xs.takeWhile (fun t=> !decide (flt f t))++[f]++xs.dropWhile (fun t=> !decide (flt f t)):=by
 unfold WbZ
 rw[decide_eq_false h,addStep_f]
 simp
theorem drop_head {p:Fin→Bool}: ∀{xs:List Fin} {y:Fin} {ys:List Fin},xs.dropWhile p=y::ys→p y=false
 | x::xs,y,ys,h=>by
   rw[List.dropWhile_cons] at h
   split at h
   ·exact drop_head h
   ·rename_i hx
    injection h with h1 h2
    subst h1
    simpa using hx
theorem addFin_sort {xs:List Fin} {f:Fin} (s:xs.Pairwise flt) (h:f∉xs):WbZ xs f=WaP (xs++[f]):=by
 rw[addFin_new h]
 refine (sortFins_eq ?_ ?_).symm
 ·have e:xs.takeWhile (fun t=> !decide (flt f t))++xs.dropWhile (fun t=> !decide (flt f t))=xs:=Jf
  have h1:(xs.takeWhile (fun t=> !decide (flt f t))++[f]++xs.dropWhile (fun t=> !decide (flt f t))).Perm (f::(xs.takeWhile (fun t=> !decide (flt f t))++xs.dropWhile (fun t=> !decide (flt f t)))):=by
   rw[QN];exact List.perm_middle
  refine h1.trans ?_
  rw[e];exact (List.perm_append_singleton f xs).symm
 ·have hs:=s
  rw[←Jf (p:=fun t=> !decide (flt f t)) (l:=xs),Qs] at hs
  obtain ⟨s1,s2,s3⟩:=hs
  have ht: ∀t,t∈xs.takeWhile (fun t=> !decide (flt f t))→flt t f:=by
   intro t ht
   have h1:(!decide (flt f t))=true:=Qv.1 (List.all_takeWhile (p:=fun t=> !decide (flt f t)) (l:=xs)) t ht
   have h2:t∈xs:=(Jr _).subset ht
   have h3: ¬flt f t:=by simpa using h1
   exact flt.tot h3 fun e=>h (e▸h2)
  have hd: ∀t,t∈xs.dropWhile (fun t=> !decide (flt f t))→flt f t:=by
   intro t ht
   cases hx:xs.dropWhile (fun t=> !decide (flt f t)) with
   | nil=>rw[hx] at ht;cases ht
   | cons y ys=>
     have hy:flt f y:=by
      have:=drop_head hx
      simpa using this
     rw[hx] at ht s2
     rcases Qt.1 ht with rfl | ht
     ·exact hy
     ·exact hy.trans ((QJ.1 s2).1 t ht)
  rw[QN,Qs]
  refine ⟨s1,Qs.2 ⟨List.pairwise_singleton _ _,s2,fun a ha b hb=> ?_⟩,fun a ha b hb=> ?_⟩
  ·rw[Jb] at ha
   subst ha
   exact hd b hb
  ·rcases Qf.1 hb with hb | hb
   ·rw[Jb] at hb
    subst hb
    exact ht a ha
   ·exact s3 a ha b hb
theorem Shard.fins_sorted {s:Shard} (h: ∀i,i<s.finished.length→s.finAt i=true):s.finished.Pairwise flt:=by
 have step: ∀i (hi:i+1<s.finished.length),flt (s.finished[i]'(by omega)) (s.finished[i+1]'hi):=by
  intro i hi
  have:=h (i+1) hi
  simp only[Shard.finAt,Qa,Qu,beq_iff_eq,Nat.add_one_ne_zero,false_or,QE] at this
  have h2:=this.2.2.2
  rw[cmp_flt] at h2
  have h3:flt _ _:=of_decide_eq_true h2
  simp only[Fin.at_,Qb hi,Qb (show i<s.finished.length by omega),Ji] at h3
  exact h3
 rw[Qo]
 intro i j hi hj hij
 obtain ⟨d,rfl⟩: ∃d,j=i+1+d:=⟨j-i-1,by omega⟩
 clear hij
 induction d with
 | zero=>exact step i hj
 | succ d ih=>exact (ih (by omega)).trans (step (i+1+d) hj)
theorem Shard.good_fin {s:Shard} (h:s.good=true): ∀i,i<s.finished.length→s.finAt i=true:=by
 intro i hi
 simp only[Shard.good,Qa,Qv] at h
 exact h.2.2 i (QU.2 hi)
theorem Shard.good_in {s:Shard} (h:s.good=true) {f:Fin} (hf:f∈s.finished):1≤f.tx∧s.lo≤f.id∧f.id≤s.hi:=by
 obtain ⟨i,hi,rfl⟩:=QF.1 hf
 have:=Shard.good_fin h i hi
 simp only[Shard.finAt,Qa,decide_eq_true_eq,Fin.at_,Qb hi,Ji] at this
 exact ⟨this.1,this.2.1,this.2.2.1⟩
theorem Shard.good_sorted {s:Shard} (h:s.good=true):s.finished.Pairwise flt:=Shard.fins_sorted (Shard.good_fin h)
theorem flt_nodup {xs:List Fin} (s:xs.Pairwise flt):xs.Nodup:=s.imp fun h e=>by subst e;exact h.irr
theorem addFins {xs ys:List Fin} (sx:xs.Pairwise flt) (nd:(xs++ys).Nodup):ys.foldl WbZ xs=WaP (xs++ys):=by
 induction ys generalizing xs with
 | nil=>rw[QM,sortFins_id sx];rfl
 | cons y ys ih=>
   rw[Ju]
   have hn:y∉xs:=by
    intro h
    rw[Qq] at nd
    exact nd.2.2 y h y (Jc ..) rfl
   have nd1:(xs++[y]).Nodup:=by
    have:(xs++[y]++ys).Nodup:=by simpa using nd
    exact (Qq.1 this).1
   have nd2:(WaP (xs++[y])++ys).Nodup:=by
    have:(WaP (xs++[y])++ys).Perm (xs++y::ys):=by
     have:=(WaY (xs++[y])).append_right ys
     simpa using this
    exact this.nodup_iff.2 nd
   rw[addFin_sort sx hn,ih (Wcf nd1) nd2]
   refine sortFins_eq ?_ (Wcf nd)
   refine (WaY _).trans ?_
   have:=((WaY (xs++[y])).append_right ys).symm
   simpa using this
def Account.less (id:Int) (b:Account):Bool:=decide (b.id<id)
def WaT (xs:List Account) (id:Int):Int:=Wbt (fun b=>b.id==id) xs
def Wbk (xs:List Account) (id:Int):Nat:=(xs.takeWhile (Account.less id)).length
def accIs (xs:List Account) (id:Int):Bool:=decide (Wbk xs id<xs.length)&&((Account.at_ xs (Wbk xs id)).id==id)
theorem Account.at_get {xs:List Account} {i:Nat} (hi:i<xs.length):Account.at_ xs i=xs[i]:=by simp[Account.at_,Qb hi]
theorem accGo_le (xs:List Account) (id:Int):Wbk xs id≤xs.length:=(Jr _).length_le
theorem accGo_lt (id:Int): ∀(xs:List Account) (i:Nat) (hi:i<Wbk xs id) (h:i<xs.length),xs[i].id<id
 | [],i,hi,h=>by simp at h
 | a::r,i,hi,h=>by
   simp only[Wbk,Jl] at hi
   cases ha:Account.less id a with
   | false=>rw[ha] at hi;simp at hi
   | true=>
     rw[ha] at hi
     simp only[↓reduceIte,Qz] at hi
     cases i with
     | zero=>simpa[Account.less] using ha
     | succ i=>exact accGo_lt id r i (by simp only[Wbk];omega) (by simpa using h)
theorem accGo_end (id:Int): ∀(xs:List Account) (h:Wbk xs id<xs.length),¬(xs[Wbk xs id]).id<id
 | [],h=>by simp at h
 | a::r,h=>by
   cases ha:Account.less id a with
   | false=>
     have e:Wbk (a::r) id=0:=by simp[Wbk,Jl,ha]
     simp only[e,List.getElem_cons_zero]
     simpa[Account.less] using ha
   | true=>
     have e:Wbk (a::r) id=Wbk r id+1:=by simp[Wbk,Jl,ha]
     simp only[e,Js]
     exact accGo_end id r (by rw[e] at h;simpa using h)
theorem book_fit {xs:List Account} (g:Wap xs=true) {j:Nat} (hj:j<xs.length):Account.fits xs j=true:=by
 simp only[Wap,Qa,Qv,QU] at g
 exact g.1 j hj
theorem book_len {xs:List Account} (g:Wap xs=true):xs.length≤40:=by
 simp only[Wap,Qa,decide_eq_true_eq] at g
 omega
theorem book_fine {xs:List Account} (g:Wap xs=true) {j:Nat} (hj:j<xs.length):(Account.at_ xs j).fine=true:=by
 have:=book_fit g hj
 simp only[Account.fits,Qa] at this
 exact this.1
theorem book_gap {xs:List Account} (g:Wap xs=true) {j:Nat} (hj:j+1<xs.length):xs[j].id<xs[j+1].id:=by
 have:=book_fit g hj
 simp only[Account.fits,Qa,Qu,decide_eq_true_eq,beq_iff_eq] at this
 rcases this.2 with h | h
 ·omega
 ·simp only[QE] at h
  rw[Account.at_get hj,Account.at_get (by omega)] at h
  exact h
theorem book_sorted {xs:List Account} (g:Wap xs=true) (i:Nat): ∀(d:Nat) (hj:i+d+1<xs.length),xs[i].id<xs[i+d+1].id
 | 0,hj=>book_gap g hj
 | d+1,hj=>by
   have h1:=book_sorted g i d (by omega)
   have h2:=book_gap g (j:=i+d+1) hj
   have e:i+(d+1)+1=i+d+1+1:=by omega
   simp only[e]
   omega
theorem book_lt {xs:List Account} (g:Wap xs=true) {i j:Nat} (hj:j<xs.length) (hij:i<j):xs[i].id<xs[j].id:=by
 obtain ⟨d,rfl⟩: ∃d,j=i+d+1:=⟨j-i-1,by omega⟩
 exact book_sorted g i d hj
theorem book_inj {xs:List Account} (g:Wap xs=true) {i j:Nat} (hi:i<xs.length) (hj:j<xs.length) (e:xs[i].id=xs[j].id):i=j:=by
 rcases JF i j with h | h | h
 ·have:=book_lt g hj h;omega
 ·exact h
 ·have:=book_lt g hi h;omega
def Srt (xs:List Account):Prop:=xs.Pairwise (fun a b=>a.id<b.id)
theorem srt_lt {xs:List Account} (g:Srt xs) {i j:Nat} (hj:j<xs.length) (hij:i<j):xs[i].id<xs[j].id:=Qo.1 g i j (by omega) hj hij
theorem srt_inj {xs:List Account} (g:Srt xs) {i j:Nat} (hi:i<xs.length) (hj:j<xs.length) (e:xs[i].id=xs[j].id):i=j:=by
 rcases JF i j with h | h | h
 ·have:=srt_lt g hj h;omega
 ·exact h
 ·have:=srt_lt g hi h;omega
theorem book_srt {xs:List Account} (g:Wap xs=true):Srt xs:=Qo.2 fun i j _ hj hij=>book_lt g hj hij
theorem acc_foundS {xs:List Account} (g:Srt xs) (id:Int):(WaT xs id= -1∧accIs xs id=false)∨ ∃i:Nat,WaT xs id=(i:Int)∧accIs xs id=true∧Wbk xs id=i∧i<xs.length∧(Account.at_ xs i).id=id:=by
 cases hi:accIs xs id with
 | true=>
   right
   simp only[accIs,Qa,decide_eq_true_eq,beq_iff_eq] at hi
   refine ⟨Wbk xs id,?_,rfl,rfl,hi.1,hi.2⟩
   rw[Account.at_get hi.1] at hi
   have hn:WaT xs id≠ -1:=fun hc=>by
    simp only[WaT,Wbt] at hc
    split at hc
    ·omega
    ·rename_i hf
     rw[QW] at hf
     have:=hf _ (Qd hi.1)
     simp[hi.2] at this
   have h0:0≤WaT xs id:=by
    have:=(findI_lt (p:=fun b:Account=>b.id==id) (xs:=xs)).1
    unfold WaT at hn ⊢
    omega
   obtain ⟨i,e,hil,hp⟩:=WbV (p:=fun b:Account=>b.id==id) (xs:=xs) h0
   have hp':xs[i].id=id:=by simpa using hp
   rw[show WaT xs id=(i:Int) from e,srt_inj g hil hi.1 (hp'.trans hi.2.symm)]
 | false=>
   left
   refine ⟨?_,rfl⟩
   apply findI_no
   by_cases h0:0≤Wbt (fun b:Account=>b.id==id) xs
   ·obtain ⟨i,e,hil,hp⟩:=WbV h0
    have hp':xs[i].id=id:=by simpa using hp
    exfalso
    have hle:=accGo_le xs id
    have h1: ¬i<Wbk xs id:=fun hc=>by have:=accGo_lt id xs i hc hil;omega
    have h2:Wbk xs id<xs.length:=by omega
    have h3:=accGo_end id xs h2
    simp only[accIs,h2,decide_true,QY,Account.at_get h2,beq_eq_false_iff_ne,ne_eq] at hi
    rcases JN (Wbk xs id) i with h4 | h4
    ·have:=srt_lt g hil h4;omega
    ·have:i=Wbk xs id:=by omega
     subst this
     exact hi hp'
   ·omega
theorem Wbc {xs:List Account} (g:Wap xs=true) (id:Int):(WaT xs id= -1∧accIs xs id=false)∨ ∃i:Nat,WaT xs id=(i:Int)∧accIs xs id=true∧Wbk xs id=i∧i<xs.length∧(Account.at_ xs i).id=id:=acc_foundS (book_srt g) id
section
variable {F:Nat→Option RF} {Z:Waf} {h:Heap} {x:Cell} {xs:List Account} {fp:List Nat}
theorem WaO (hS10:Has F tS10) (w:SlR 11 (Fl Account.enc) h x xs fp) (id:Int):call F Z 328 [.agg [x],.c (.int .u64 id)] h=some (.c (.int .i64 (WaT xs id)),h):=by
 have hle:=w.le2
 have hwl:=w.len
 rw[Wac F Z (hS10.lk (g:=328) rfl) _ _ rfl]
 simp only[rn,RO.dst,lk,drop,Nat.reduceBEq,Nat.reduceAdd,Nat.reduceLeDiff,↓reduceIte,reduceCtorEq]
 have key:=loop_find (F:=F) (Z:=Z) (live:=[1,2,5]) (b:=r328L0) xs (fun b=>b.id==id) (fun i=>⟨[(1,.c (.int .u64 id)),(5,.c (.int .i64 (i:Nat)))],[(2,2,0)],[(2,[x])],h⟩) (fun i s=>lk s.env 4=some (.c (.int .i64 (i:Nat)))∧s.hp=h) fun i hi=>by
  have hlt:(i:Int)<xs.length:=by omega
  have hws:=WaS i (by omega)
  have hld:=w.load hi
  have hxi:=w.idx hi
  clear w
  rw[Wab]
  conv in (Wad _ _ r328L0 _)=>unfold r328L0
  simp only[Account.enc] at hld
  simp only[rn,RO.dst,lk,drop,Nat.reduceBEq,Nat.reduceAdd,Nat.reduceLeDiff,↓reduceIte,reduceCtorEq,hwl,hlt,hxi,hld]
  (repeat' ((first | (rw[WbI];split) | (rw[Was];split) | (rw[Way];split))<;>(rename_i hh;(try simp only[Qc,decide_eq_true_eq] at hh);simp only[hh,rn,RO.dst,lk,drop,Nat.reduceBEq,Nat.reduceAdd,Nat.reduceLeDiff,↓reduceIte,reduceCtorEq,hws,hxi,hld])))<;>first
   | exact .inl ⟨by simp_all,rfl⟩
   | exact .inr ⟨by simp_all,_,rfl,rfl,rfl⟩
 have hlt: ¬(xs.length:Int)<xs.length:=by omega
 simp only[show ((0:Nat):Int)=0 from rfl] at key
 rcases key with ⟨k1,k2⟩ | ⟨i,k1,hi,s,k2,k3,k4⟩
 ·rw[k2,Wab]
  conv in (Wad _ _ r328L0 _)=>unfold r328L0
  simp only[rn,RO.dst,lk,drop,Nat.reduceBEq,Nat.reduceAdd,Nat.reduceLeDiff,↓reduceIte,reduceCtorEq,hwl,hlt,WaT,Wbt,k1]
 ·rw[k2]
  simp only[rn,RO.dst,lk,drop,Nat.reduceBEq,Nat.reduceAdd,Nat.reduceLeDiff,↓reduceIte,reduceCtorEq,k3,k4,WaT,Wbt,k1]
end
section
variable {F:Nat→Option RF} {Z:Waf} {h:Heap} {x:Cell} {xs:List Shard} {fp fq:List Nat} {cs:List Cell} {s:Store} {t:Shard}
theorem copyShard_q (hI10:Has F tI10) (hI13:Has F tI13) (v:Shard.RI h cs t fp) (sm:t.Small):
 ∃cs' h' g fq,call F Z 229 [.agg cs] ⟨h.next,h.next,h.get⟩=some (.agg cs',h')∧Heap.mk h'.next h.floor h'.get=g∧On h g∧Shard.RI g cs' t fq∧Fre h fq∧cs'.length=6:=by
 obtain ⟨cs',h',fq,e,o,u,f⟩:=copyShard_c (Z:=Z) (h:=⟨h.next,h.next,h.get⟩) hI10 hI13 (Qy _) (Shard.okI.up v h.next) sm
 exact ⟨cs',h',_,fq,e,rfl,⟨⟨o.ext.1,o.ext.2⟩,rfl⟩,Shard.okI.up u h.floor,⟨f.lo,f.nd⟩,(Shard.lenI u).1⟩
theorem Wbv (hS10:Has F tS10) (hS13:Has F tS13) (v:Shard.RI h cs t fp) (sm:t.Small):
 ∃cs' h' g fq,call F Z 228 [.agg cs] ⟨h.next,h.next,h.get⟩=some (.agg cs',h')∧Heap.mk h'.next h.floor h'.get=g∧On h g∧Shard.RI g cs' t fq∧Fre h fq∧cs'.length=6:=by
 obtain ⟨cs',h',fq,e,o,u,f⟩:=WaF (Z:=Z) (h:=⟨h.next,h.next,h.get⟩) hS10 hS13 (Qy _) (Shard.okI.up v h.next) sm
 exact ⟨cs',h',_,fq,e,rfl,⟨⟨o.ext.1,o.ext.2⟩,rfl⟩,Shard.okI.up u h.floor,⟨f.lo,f.nd⟩,(Shard.lenI u).1⟩
theorem AccM.next {g k:Heap} {y:Cell} {ys:List Shard} (a:AccM Shard.RI 16 h g y ys fp) (hf:h.floor≤h.next) (hl:ys.length≤1048576) (o:On g k) {cs':List Cell} (u:Shard.RI k cs' t fq) (f:Fre g fq):
 ∃y' g' fp',appF (k.push [cs']) 16 80 y (.sl 16 k.next 0 1)=some (y',g')∧AccM Shard.RI 16 h g' y' (ys++[t]) fp':=by
 have hlt: ∀id,id∈fp→id<g.next:=a.sh.lt Shard.okI
 obtain ⟨y',g',fp',e,a',_⟩:=a.one Shard.okI hf (bytes:=80) (by omega) (by omega) o u ⟨fun id hid=>Qj a.on.ext.1 (f.lo id hid),f.nd⟩ (fun id h1 h2=>by
  have:=hlt id h2
  have:=f.lo id h1
  omega)
 exact ⟨y',g',fp',e,a'⟩
set_option maxHeartbeats 1000000 in
theorem copyStore_c (k:KI F) (hf:h.floor≤h.next) (v:Store.RI h cs s fp) (sm:s.Small):
 ∃cs' h' fq,call F Z 320 [.agg cs] h=some (.agg cs',h')∧On h h'∧Store.RI h' cs' s fq∧Fre h fq:=by
 obtain ⟨x,p,rfl,rfl,w⟩:=v
 have hle:=w.le2
 have hwl:=w.len
 rw[Wac F Z (k.i13.lk (g:=320) rfl) _ _ rfl]
 simp only[rn,RO.dst,lk,drop,Nat.reduceBEq,Nat.reduceAdd,Nat.reduceLeDiff,↓reduceIte,reduceCtorEq,hwl]
 obtain ⟨s',⟨y,g,fq,hs,a⟩,l1⟩:=WaB (F:=F) (Z:=Z) (live:=[2,3,12,13,14]) (b:=r320L0) s.shards.length (fun i st=> ∃y g fq,st=⟨[(12,.c x),(13,.c (.int .i64 (s.shards.length:Nat))),(14,.c (.int .i64 (i:Nat)))],[(2,2,0),(3,3,0)],[(2,[.int .i64 0,.int .i64 0,.nil]),(3,[.int .i64 s.group,.int .i64 s.seen,y])],g⟩∧AccM Shard.RI 16 h g y (s.shards.take i) fq) (fun i st hi ⟨y,g,fq,hs,a⟩=>by
  subst hs
  have hlt:(i:Int)<s.shards.length:=by omega
  have hws:=WaS i (by omega)
  have hxi:=w.idx hi
  obtain ⟨r,f,hld,hR,_⟩:=(w.on Shard.okI a.on).one hi
  obtain ⟨r1,r2,r3⟩:=Shard.lenI hR
  obtain ⟨cs',h',g1,fr,e1,hg1,o1,u1,f1,c1⟩:=copyShard_q (Z:=Z) k.i10 k.i13 hR (sm.2 _ (Qd hi))
  obtain ⟨y',g',fp',e2,a2⟩:=a.next hf (by rw[Qg];have:=sm.1;omega) o1 u1 f1
  have ht:s.shards.take (i+1)=s.shards.take i++[s.shards[i]]:=by rw[Qn,Qb hi];rfl
  rw[←ht] at a2
  rw[Wab]
  conv in (Wad _ _ r320L0 _)=>unfold r320L0
  simp only[rn,RO.dst,lk,drop,Nat.reduceBEq,Nat.reduceAdd,Nat.reduceLeDiff,↓reduceIte,reduceCtorEq,hlt,hxi,hld,r1,r2,r3,e1,hg1,Qi,Qe,Wav,and_self,Qk,c1,Qh,e2,hws]
  exact ⟨_,⟨_,_,_,rfl,a2⟩,rfl⟩) (s:=⟨[(12,.c x),(13,.c (.int .i64 (s.shards.length:Nat))),(14,.c (.int .i64 (0:Nat)))],[(2,2,0),(3,3,0)],[(2,[.int .i64 0,.int .i64 0,.nil]),(3,[.int .i64 s.group,.int .i64 s.seen,.nil])],h⟩) ⟨_,_,_,rfl,by simpa using AccM.nil Shard.RI 16 h⟩
 subst hs
 simp only[show ((0:Nat):Int)=0 from rfl] at l1
 rw[Qm] at a
 have hlt: ¬(s.shards.length:Int)<s.shards.length:=by omega
 rw[l1,Wab]
 conv in (Wad _ _ r320L0 _)=>unfold r320L0
 simp only[rn,RO.dst,lk,drop,Nat.reduceBEq,Nat.reduceAdd,Nat.reduceLeDiff,↓reduceIte,reduceCtorEq,hlt]
 exact ⟨_,_,_,rfl,a.on,⟨_,_,rfl,rfl,a.sh⟩,a.fr⟩
set_option maxHeartbeats 1000000 in
theorem WaZ (k:KS F) (hf:h.floor≤h.next) (v:Store.RI h cs s fp) (sm:s.Small):
 ∃cs' h' fq,call F Z 317 [.agg cs] h=some (.agg cs',h')∧On h h'∧Store.RI h' cs' s fq∧Fre h fq:=by
 obtain ⟨x,p,rfl,rfl,w⟩:=v
 have hle:=w.le2
 have hwl:=w.len
 rw[Wac F Z (k.s13.lk (g:=317) rfl) _ _ rfl]
 simp only[rn,RO.dst,lk,drop,Nat.reduceBEq,Nat.reduceAdd,Nat.reduceLeDiff,↓reduceIte,reduceCtorEq]
 obtain ⟨s',⟨y,g,fq,hs,a⟩,l1⟩:=WaB (F:=F) (Z:=Z) (live:=[1,2,3,4]) (b:=r317L0) s.shards.length (fun i st=> ∃y g fq,st=⟨[(4,.c (.int .i64 (i:Nat)))],[(1,1,0),(2,2,0),(3,3,0)],[(1,[.int .i64 s.group,.int .i64 s.seen,x]),(2,[.int .i64 0,.int .i64 0,.nil]),(3,[.int .i64 s.group,.int .i64 s.seen,y])],g⟩∧AccM Shard.RI 16 h g y (s.shards.take i) fq) (fun i st hi ⟨y,g,fq,hs,a⟩=>by
  subst hs
  have hlt:(i:Int)<s.shards.length:=by omega
  have hws:=WaS i (by omega)
  have hxi:=w.idx hi
  obtain ⟨r,f,hld,hR,_⟩:=(w.on Shard.okI a.on).one hi
  obtain ⟨r1,r2,r3⟩:=Shard.lenI hR
  obtain ⟨cs',h',g1,fr,e1,hg1,o1,u1,f1,c1⟩:=Wbv (Z:=Z) k.s10 k.s13 hR (sm.2 _ (Qd hi))
  obtain ⟨y',g',fp',e2,a2⟩:=a.next hf (by rw[Qg];have:=sm.1;omega) o1 u1 f1
  have ht:s.shards.take (i+1)=s.shards.take i++[s.shards[i]]:=by rw[Qn,Qb hi];rfl
  rw[←ht] at a2
  rw[Wab]
  conv in (Wad _ _ r317L0 _)=>unfold r317L0
  simp only[rn,RO.dst,lk,drop,Nat.reduceBEq,Nat.reduceAdd,Nat.reduceLeDiff,↓reduceIte,reduceCtorEq,hwl,hlt,hxi,hld,r1,r2,r3,e1,hg1,Qi,Qe,Wav,and_self,Qk,c1,Qh,e2,hws]
  exact ⟨_,⟨_,_,_,rfl,a2⟩,rfl⟩) (s:=⟨[(4,.c (.int .i64 (0:Nat)))],[(1,1,0),(2,2,0),(3,3,0)],[(1,[.int .i64 s.group,.int .i64 s.seen,x]),(2,[.int .i64 0,.int .i64 0,.nil]),(3,[.int .i64 s.group,.int .i64 s.seen,.nil])],h⟩) ⟨_,_,_,rfl,by simpa using AccM.nil Shard.RI 16 h⟩
 subst hs
 simp only[show ((0:Nat):Int)=0 from rfl] at l1
 rw[Qm] at a
 have hlt: ¬(s.shards.length:Int)<s.shards.length:=by omega
 rw[l1,Wab]
 conv in (Wad _ _ r317L0 _)=>unfold r317L0
 simp only[rn,RO.dst,lk,drop,Nat.reduceBEq,Nat.reduceAdd,Nat.reduceLeDiff,↓reduceIte,reduceCtorEq,hwl,hlt]
 exact ⟨_,_,_,rfl,a.on,⟨_,_,rfl,rfl,a.sh⟩,a.fr⟩
end
def Shard.renew (e:Int) (t:Shard):Shard:=bif t.state==0 then {t with epoch:=e} else t
def Store.renew (s:Store) (e:Int):Store:=⟨s.group,e,s.shards.map (Shard.renew e)⟩
def Store.next (s:Store) (e:Int):Bool:=s.good&&(decide (s.seen<e)&&decide (e≤1000000))
section
variable {F:Nat→Option RF} {Z:Waf} {h:Heap} {x:Cell} {xs:List Shard} {fp fq:List Nat} {cs:List Cell} {s:Store} {t:Shard}
set_option maxHeartbeats 1000000 in
theorem renewed_turn (e gr sn:Int) {n:Nat} (hn:xs.length=n) (w:SlR 16 Shard.RI h x xs fp) (nd:fp.Nodup) (hfl: ∀id,id∈fp→h.floor≤id) {i:Nat} (hi:i<xs.length):
 ∃g,loop F Z [1,2,4,10,11] r321L0 ⟨[(1,.c (.int .i64 e)),(10,.c (.int .i64 (n:Nat))),(11,.c (.int .i64 (i:Nat)))],[(2,2,0),(4,4,0)],[(2,[.int .i64 gr,.int .i64 sn,x]),(4,[.int .i64 0,.int .i64 0,.nil])],h⟩
  =loop F Z [1,2,4,10,11] r321L0 ⟨[(1,.c (.int .i64 e)),(10,.c (.int .i64 (n:Nat))),(11,.c (.int .i64 ((i+1:Nat):Int)))],[(2,2,0),(4,4,0)],[(2,[.int .i64 gr,.int .i64 sn,x]),(4,[.int .i64 0,.int .i64 0,.nil])],g⟩∧
  Mk h g fp∧SlR 16 Shard.RI g x (xs.set i (xs[i].renew e)) fp:=by
 have hle:=w.le2
 have hlt:(i:Int)<(n:Int):=by omega
 have hws:=WaS i (by omega)
 have hxi:=w.idx hi
 obtain ⟨r,f,rows,hR,hs,hld,hself,hst,hl2,fin⟩:=w.putRow Shard.okI nd hfl hi
 have hset:=set_same xs hi
 obtain ⟨x1,p1,x2,p2,rfl,rfl,w1,w2⟩:=hR
 have hd:xs[i].renew e=bif xs[i].state==0 then {xs[i] with epoch:=e} else xs[i]:=rfl
 rw[Wab]
 conv in (Wad _ _ r321L0 _)=>unfold r321L0
 by_cases c:xs[i].state=0
 ·have c':(xs[i].state==0)=true:=by simp[c]
  obtain ⟨f1,f2⟩:=fin [.int .u64 xs[i].lo,.int .u64 xs[i].hi,.int .i64 xs[i].state,.int .i64 e,x1,x2] {xs[i] with epoch:=e} ⟨x1,p1,x2,p2,rfl,rfl,w1,w2⟩
  rw[hd,c']
  clear hd fin w w1 w2 hset
  generalize xs[i]=a at *
  have hst':=hst [.int .u64 a.lo,.int .u64 a.hi,.int .i64 a.state,.int .i64 a.epoch,x1,x2]
  rw[hself] at hst'
  simp only[rn,RO.dst,lk,drop,Nat.reduceBEq,Nat.reduceAdd,Nat.reduceLeDiff,↓reduceIte,reduceCtorEq,hlt,hxi,hld,c',hst',putM_s,hws]
  exact ⟨_,rfl,f2,f1⟩
 ·have c':(xs[i].state==0)=false:=by simp[c]
  rw[hd,c']
  simp only[cond_false,hset]
  clear hd fin w1 w2 hset
  generalize xs[i]=a at *
  simp only[rn,RO.dst,lk,drop,Nat.reduceBEq,Nat.reduceAdd,Nat.reduceLeDiff,↓reduceIte,reduceCtorEq,hlt,hxi,hld,c',hws]
  exact ⟨_,rfl,Mk.refl _ _,w⟩
theorem renewed_c (k:KI F) (v:Store.RI h cs s fp) (nd:fp.Nodup) (hfl: ∀id,id∈fp→h.floor≤id) (e:Int):
 ∃cs' h',call F Z 321 [.agg cs,.c (.int .i64 e)] h=some (.agg cs',h')∧Mk h h' fp∧Store.RI h' cs' (s.renew e) fp:=by
 obtain ⟨x,p,rfl,rfl,w⟩:=v
 have hwl:=w.len
 rw[Wac F Z (k.i13.lk (g:=321) rfl) _ _ rfl]
 simp only[rn,RO.dst,lk,drop,Nat.reduceBEq,Nat.reduceAdd,Nat.reduceLeDiff,↓reduceIte,reduceCtorEq,hwl]
 obtain ⟨s',⟨g,hs,m,u⟩,l1⟩:=WaB (F:=F) (Z:=Z) (live:=[1,2,4,10,11]) (b:=r321L0) s.shards.length (fun i st=> ∃g,st=⟨[(1,.c (.int .i64 e)),(10,.c (.int .i64 (s.shards.length:Nat))),(11,.c (.int .i64 (i:Nat)))],[(2,2,0),(4,4,0)],[(2,[.int .i64 s.group,.int .i64 e,x]),(4,[.int .i64 0,.int .i64 0,.nil])],g⟩∧Mk h g fp∧SlR 16 Shard.RI g x ((s.shards.take i).map (Shard.renew e)++s.shards.drop i) fp) (fun i st hi ⟨g,hs,m,u⟩=>by
  subst hs
  have hl:((s.shards.take i).map (Shard.renew e)++s.shards.drop i).length=s.shards.length:=by simp;omega
  have hi':i<((s.shards.take i).map (Shard.renew e)++s.shards.drop i).length:=by omega
  obtain ⟨g',e1,m1,u1⟩:=renewed_turn (F:=F) (Z:=Z) e s.group e hl u nd (fun id hid=>by rw[m.fl];exact hfl id hid) hi'
  rw[mix_at _ _ hi hi',mix_set _ _ hi] at u1
  exact ⟨_,⟨g',rfl,m.then m1,u1⟩,e1⟩) (s:=⟨[(1,.c (.int .i64 e)),(10,.c (.int .i64 (s.shards.length:Nat))),(11,.c (.int .i64 (0:Nat)))],[(2,2,0),(4,4,0)],[(2,[.int .i64 s.group,.int .i64 e,x]),(4,[.int .i64 0,.int .i64 0,.nil])],h⟩) ⟨h,rfl,Mk.refl _ _,by simpa using w⟩
 subst hs
 simp only[show ((0:Nat):Int)=0 from rfl] at l1
 rw[Qm,Jj,QM] at u
 have hlt: ¬(s.shards.length:Int)<s.shards.length:=by omega
 rw[l1,Wab]
 conv in (Wad _ _ r321L0 _)=>unfold r321L0
 simp only[rn,RO.dst,lk,drop,Nat.reduceBEq,Nat.reduceAdd,Nat.reduceLeDiff,↓reduceIte,reduceCtorEq,hlt]
 exact ⟨_,_,rfl,m,⟨_,_,rfl,rfl,u⟩⟩
set_option maxHeartbeats 1000000 in
theorem l13Renew_turn (e gr sn:Int) (w:SlR 16 Shard.RI h x xs fp) (nd:fp.Nodup) (hfl: ∀id,id∈fp→h.floor≤id) {i:Nat} (hi:i<xs.length):
 ∃g,loop F Z [1,4,5,6] r318L0 ⟨[(1,.c (.int .i64 e)),(6,.c (.int .i64 (i:Nat)))],[(4,4,0),(5,5,0)],[(4,[.int .i64 0,.int .i64 0,.nil]),(5,[.int .i64 gr,.int .i64 sn,x])],h⟩
  =loop F Z [1,4,5,6] r318L0 ⟨[(1,.c (.int .i64 e)),(6,.c (.int .i64 ((i+1:Nat):Int)))],[(4,4,0),(5,5,0)],[(4,[.int .i64 0,.int .i64 0,.nil]),(5,[.int .i64 gr,.int .i64 sn,x])],g⟩∧
  Mk h g fp∧SlR 16 Shard.RI g x (xs.set i (xs[i].renew e)) fp:=by
 have hle:=w.le2
 have hwl:=w.len
 have hlt:(i:Int)<(xs.length:Int):=by omega
 have hws:=WaS i (by omega)
 have hxi:=w.idx hi
 obtain ⟨r,f,rows,hR,hs,hld,hself,hst,hl2,fin⟩:=w.putRow Shard.okI nd hfl hi
 have hset:=set_same xs hi
 obtain ⟨x1,p1,x2,p2,rfl,rfl,w1,w2⟩:=hR
 have hd:xs[i].renew e=bif xs[i].state==0 then {xs[i] with epoch:=e} else xs[i]:=rfl
 rw[Wab]
 conv in (Wad _ _ r318L0 _)=>unfold r318L0
 by_cases c:xs[i].state=0
 ·have c':(xs[i].state==0)=true:=by simp[c]
  obtain ⟨f1,f2⟩:=fin [.int .u64 xs[i].lo,.int .u64 xs[i].hi,.int .i64 xs[i].state,.int .i64 e,x1,x2] {xs[i] with epoch:=e} ⟨x1,p1,x2,p2,rfl,rfl,w1,w2⟩
  rw[hd,c']
  clear hd fin w w1 w2 hset
  generalize xs[i]=a at *
  have hst':=hst [.int .u64 a.lo,.int .u64 a.hi,.int .i64 a.state,.int .i64 a.epoch,x1,x2]
  rw[hself] at hst'
  simp only[rn,RO.dst,lk,drop,Nat.reduceBEq,Nat.reduceAdd,Nat.reduceLeDiff,↓reduceIte,reduceCtorEq,hwl,hlt,hxi,hld,c',hst',putM_s,hws]
  exact ⟨_,rfl,f2,f1⟩
 ·have c':(xs[i].state==0)=false:=by simp[c]
  rw[hd,c']
  simp only[cond_false,hset]
  clear hd fin w1 w2 hset
  generalize xs[i]=a at *
  simp only[rn,RO.dst,lk,drop,Nat.reduceBEq,Nat.reduceAdd,Nat.reduceLeDiff,↓reduceIte,reduceCtorEq,hwl,hlt,hxi,hld,c',hws]
  exact ⟨_,rfl,Mk.refl _ _,w⟩
theorem l13Renew_c (k:KS F) (hf:h.floor≤h.next) (v:Store.RI h cs s fp) (sm:s.Small) (e:Int):
 ∃cs' h' fq,call F Z 318 [.agg cs,.c (.int .i64 e)] h=some (.agg cs',h')∧On h h'∧Store.RI h' cs' (s.renew e) fq∧Fre h fq:=by
 obtain ⟨cs1,h1,fq,e1,o1,v1,f1⟩:=WaZ (Z:=Z) k hf v sm
 obtain ⟨l1,l2,l3⟩:=Store.lenI v
 obtain ⟨x,p,rfl,rfl,w⟩:=v1
 have hwl:=w.len
 rw[Wac F Z (k.s13.lk (g:=318) rfl) _ _ rfl]
 simp only[rn,RO.dst,lk,drop,Nat.reduceBEq,Nat.reduceAdd,Nat.reduceLeDiff,↓reduceIte,reduceCtorEq,l1,l2,l3,e1]
 obtain ⟨s',⟨g,hs,m,u⟩,lp⟩:=WaB (F:=F) (Z:=Z) (live:=[1,4,5,6]) (b:=r318L0) s.shards.length (fun i st=> ∃g,st=⟨[(1,.c (.int .i64 e)),(6,.c (.int .i64 (i:Nat)))],[(4,4,0),(5,5,0)],[(4,[.int .i64 0,.int .i64 0,.nil]),(5,[.int .i64 s.group,.int .i64 e,x])],g⟩∧Mk h1 g fq∧SlR 16 Shard.RI g x ((s.shards.take i).map (Shard.renew e)++s.shards.drop i) fq) (fun i st hi ⟨g,hs,m,u⟩=>by
  subst hs
  have hi':i<((s.shards.take i).map (Shard.renew e)++s.shards.drop i).length:=by simp;omega
  obtain ⟨g',e1,m1,u1⟩:=l13Renew_turn (F:=F) (Z:=Z) e s.group e u f1.nd (fun id hid=>by rw[m.fl];exact f1.own o1 hf id hid) hi'
  rw[mix_at _ _ hi hi',mix_set _ _ hi] at u1
  exact ⟨_,⟨g',rfl,m.then m1,u1⟩,e1⟩) (s:=⟨[(1,.c (.int .i64 e)),(6,.c (.int .i64 (0:Nat)))],[(4,4,0),(5,5,0)],[(4,[.int .i64 0,.int .i64 0,.nil]),(5,[.int .i64 s.group,.int .i64 e,x])],h1⟩) ⟨h1,rfl,Mk.refl _ _,by simpa using w⟩
 subst hs
 simp only[show ((0:Nat):Int)=0 from rfl] at lp
 rw[Qm,Jj,QM] at u
 have hul:=u.len
 rw[Qx] at hul
 have hlt: ¬(s.shards.length:Int)<s.shards.length:=by omega
 rw[lp,Wab]
 conv in (Wad _ _ r318L0 _)=>unfold r318L0
 simp only[rn,RO.dst,lk,drop,Nat.reduceBEq,Nat.reduceAdd,Nat.reduceLeDiff,↓reduceIte,reduceCtorEq,hul,hlt]
 exact ⟨_,_,_,rfl,o1.turned m f1,⟨_,_,rfl,rfl,u⟩,f1⟩
end
def Wba (s:Store) (e:Int):Store×Bool:=bif s.next e then (s.renew e,true) else (s,false)
def Store.frozen (s:Store) (i:Nat) (e:Int):Store:={s with shards:=s.shards.set i {Shard.at_ s.shards i with state:=1,epoch:=e}}
def Wae (s:Store) (lo e:Int):Store×Bool:=bif s.next e&&decide (0≤Waj s.shards lo 0) then ((s.frozen (Waj s.shards lo 0).toNat e).renew e,true) else (s,false)
theorem Store.renew_small {s:Store} (sm:s.Small) (e:Int):(s.renew e).Small:=by
 refine ⟨by simpa[Store.renew] using sm.1,fun a ha=> ?_⟩
 obtain ⟨t,ht,rfl⟩:=JO.1 (show a∈s.shards.map (Shard.renew e) from ha)
 unfold Shard.renew
 cases (t.state==0)<;>exact sm.2 t ht
theorem Store.frozen_small {s:Store} (sm:s.Small) {i:Nat} (hi:i<s.shards.length) (e:Int):(s.frozen i e).Small:=by
 refine ⟨by simpa[Store.frozen] using sm.1,fun a ha=> ?_⟩
 rcases QX (show a∈s.shards.set i _ from ha) with h | h
 ·exact sm.2 a h
 ·subst h;exact Store.at_small sm hi
theorem freezeShard_small {s:Store} (sm:s.Small) (lo e:Int):(Wae s lo e).1.Small:=by
 unfold Wae
 cases h:(s.next e&&decide (0≤Waj s.shards lo 0)) with
 | false=>exact sm
 | true=>
   simp only[Qa,decide_eq_true_eq] at h
   obtain ⟨i,e',hi,_⟩:=WbV h.2
   have e'':Waj s.shards lo 0=(i:Int):=e'
   simp only[cond_true,e'',QT]
   exact Store.renew_small (Store.frozen_small sm hi e) e
section
variable {F:Nat→Option RF} {Z:Waf} {h:Heap} {x:Cell} {xs:List Shard} {fp fq:List Nat} {cs:List Cell} {s:Store} {t:Shard}
theorem isNewEpoch_run (k:KI F) (v:Store.RI h cs s fp) (ok:s.Ok) (e:Int): ∃h',call F Z 319 [.agg cs,.c (.int .i64 e)] h=some (.c (.bool (s.next e)),h')∧On h h':=by
 obtain ⟨h1,e1,o1⟩:=WbQ (Z:=Z) k v ok
 obtain ⟨x,p,rfl,rfl,w⟩:=v
 refine ⟨h1,?_,o1⟩
 rw[Wac F Z (k.i13.lk (g:=319) rfl) _ _ rfl]
 have hd:s.next e=(s.good&&(decide (s.seen<e)&&decide (e≤1000000))):=rfl
 rw[hd]
 generalize s.good=gd at *
 simp only[rn,RO.dst,lk,drop,Nat.reduceBEq,Nat.reduceAdd,Nat.reduceLeDiff,↓reduceIte,reduceCtorEq,e1]
 cases gd with
 | false=>simp only[rn,RO.dst,lk,drop,Nat.reduceBEq,Nat.reduceAdd,Nat.reduceLeDiff,↓reduceIte,reduceCtorEq,QP]
 | true=>
   simp only[rn,RO.dst,lk,drop,Nat.reduceBEq,Nat.reduceAdd,Nat.reduceLeDiff,↓reduceIte,reduceCtorEq]
   (repeat' ((first | (rw[WbI];split) | (rw[Was];split) | (rw[Way];split))<;>(rename_i hh;(try simp only[Qc,decide_eq_true_eq] at hh);simp only[hh,rn,RO.dst,lk,drop,Nat.reduceBEq,Nat.reduceAdd,Nat.reduceLeDiff,↓reduceIte,reduceCtorEq,e1])))<;>simp_all
theorem l13Next_run (k:KS F) (v:Store.RI h cs s fp) (ok:s.Ok) (e:Int):call F Z 316 [.agg cs,.c (.int .i64 e)] h=some (.c (.bool (s.next e)),h):=by
 have e1:=WaK (Z:=Z) k v ok
 obtain ⟨x,p,rfl,rfl,w⟩:=v
 rw[Wac F Z (k.s13.lk (g:=316) rfl) _ _ rfl]
 have hd:s.next e=(s.good&&(decide (s.seen<e)&&decide (e≤1000000))):=rfl
 rw[hd]
 cases hg:s.good with
 | false=>
   rw[hg] at e1
   simp only[rn,RO.dst,lk,drop,Nat.reduceBEq,Nat.reduceAdd,Nat.reduceLeDiff,↓reduceIte,reduceCtorEq,e1,QP]
 | true=>
   rw[hg] at e1
   have hs:inR s.seen 0 1000000=true:=by simp only[Store.good,Qa] at hg;exact hg.2.1
   simp only[inR,Qa,decide_eq_true_eq] at hs
   have hw:IntKind.i64.wrap (s.seen+1)=s.seen+1:=Wbr _ (by omega) (by omega)
   simp only[rn,RO.dst,lk,drop,Nat.reduceBEq,Nat.reduceAdd,Nat.reduceLeDiff,↓reduceIte,reduceCtorEq,e1,hw,Wbd k.s01]
   have:inR e (s.seen+1) 1000000=(true&&(decide (s.seen<e)&&decide (e≤1000000))):=by
    simp only[inR,QY]
    congr 1
   rw[this]
theorem sRenewStore_c (k:KS F) (hf:h.floor≤h.next) (v:Store.RI h cs s fp) (e:Int) (ok:s.Ok) (sm:s.Small):
 ∃cs' h' fq,call F Z 290 [.agg cs,.c (.int .i64 e)] h=some (.tup [.agg cs',.c (.bool (Wba s e).2)],h')∧On h h'∧Store.RI h' cs' (Wba s e).1 fq∧Fre h fq:=by
 obtain ⟨l1,l2,l3⟩:=Store.lenI v
 have e1:=l13Next_run (Z:=Z) k v ok e
 obtain ⟨cs2,h2,fq,e2,o2,v2,f2⟩:=WaZ (Z:=Z) k hf v sm
 obtain ⟨m1,m2,m3⟩:=Store.lenI v2
 obtain ⟨cs3,h3,fr,e3,o3,v3,f3⟩:=l13Renew_c (Z:=Z) k hf v sm e
 obtain ⟨n1,n2,n3⟩:=Store.lenI v3
 rw[Wac F Z (k.s13.lk (g:=290) rfl) _ _ rfl]
 have hd:Wba s e=bif s.next e then (s.renew e,true) else (s,false):=rfl
 rw[hd]
 generalize s.next e=nx at *
 cases nx with
 | false=>
   simp only[rn,RO.dst,lk,drop,Nat.reduceBEq,Nat.reduceAdd,Nat.reduceLeDiff,↓reduceIte,reduceCtorEq,l1,l2,l3,e1,e2,m1,m2,m3]
   exact ⟨_,_,_,rfl,o2,v2,f2⟩
 | true=>
   simp only[rn,RO.dst,lk,drop,Nat.reduceBEq,Nat.reduceAdd,Nat.reduceLeDiff,↓reduceIte,reduceCtorEq,l1,l2,l3,e1,e3,n1,n2,n3]
   exact ⟨_,_,_,rfl,o3,v3,f3⟩
theorem SlR.freeze (w:SlR 16 Shard.RI h x s.shards fp) (nd:fp.Nodup) (hfl: ∀id,id∈fp→h.floor≤id) {i:Nat} (hi:i<s.shards.length) (e:Int):
 ∃g1 g2,storeP h x.sid i 2 [.int .i64 1]=some g1∧storeP g1 x.sid i 3 [.int .i64 e]=some g2∧Mk h g2 fp∧SlR 16 Shard.RI g2 x (s.frozen i e).shards fp:=by
 obtain ⟨r,f,rows,hR,hs,hld,hself,hst,hl2,fin⟩:=w.putRow Shard.okI nd hfl hi
 obtain ⟨x1,p1,x2,p2,rfl,rfl,w1,w2⟩:=hR
 obtain ⟨f1,f2⟩:=fin [.int .u64 s.shards[i].lo,.int .u64 s.shards[i].hi,.int .i64 1,.int .i64 e,x1,x2] {s.shards[i] with state:=1,epoch:=e} ⟨x1,p1,x2,p2,rfl,rfl,w1,w2⟩
 have h1:=hst [.int .u64 s.shards[i].lo,.int .u64 s.shards[i].hi,.int .i64 s.shards[i].state,.int .i64 s.shards[i].epoch,x1,x2] 2 [.int .i64 1]
 rw[hself] at h1
 have h2:=hst [.int .u64 s.shards[i].lo,.int .u64 s.shards[i].hi,.int .i64 1,.int .i64 s.shards[i].epoch,x1,x2] 3 [.int .i64 e]
 refine ⟨_,_,h1,h2,f2,?_⟩
 have:(s.frozen i e).shards=s.shards.set i {s.shards[i] with state:=1,epoch:=e}:=by simp only[Store.frozen,Shard.at_get hi]
 rw[this]
 exact f1
set_option maxHeartbeats 1000000 in
theorem FreezeShard_c (k:KI F) (hL:Has F Waa) (hf:h.floor≤h.next) (v:Store.RI h cs s fp) (lo e:Int) (ok:s.Ok) (sm:s.Small):
 ∃cs' h' fq,call F Z 301 [.agg cs,.c (.int .u64 lo),.c (.int .i64 e)] h=some (.tup [.agg cs',.c (.bool (Wae s lo e).2)],h')∧On h h'∧Store.RI h' cs' (Wae s lo e).1 fq∧Fre h fq:=by
 obtain ⟨l1,l2,l3⟩:=Store.lenI v
 obtain ⟨cs1,h1,fq,e1,o1,v1,f1⟩:=copyStore_c (Z:=Z) k hf v sm
 obtain ⟨h2,e2,o2⟩:=shardAt_on (Z:=Z) k.i13 hL (Store.okI.on v o1) lo 0
 obtain ⟨h3,e3,o3⟩:=isNewEpoch_run (Z:=Z) k (Store.okI.on (Store.okI.on v o1) o2) ok e
 have o13:=(o1.trans o2).trans o3
 have v3:=Store.okI.on (Store.okI.on v1 o2) o3
 rw[Wac F Z (k.i13.lk (g:=301) rfl) _ _ rfl]
 have hd:Wae s lo e=bif s.next e&&decide (0≤Waj s.shards lo 0) then ((s.frozen (Waj s.shards lo 0).toNat e).renew e,true) else (s,false):=rfl
 obtain ⟨x,p,rfl,hp,w⟩:=v3
 subst hp
 cases hn:s.next e with
 | false=>
   rw[hn] at e3
   have hd':Wae s lo e=(s,false):=by rw[hd,hn];rfl
   rw[hd']
   simp only[rn,RO.dst,lk,drop,Nat.reduceBEq,Nat.reduceAdd,Nat.reduceLeDiff,↓reduceIte,reduceCtorEq,l1,l2,l3,e1,e2,e3]
   exact ⟨_,_,_,rfl,o13,⟨x,_,rfl,rfl,w⟩,f1⟩
 | true=>
   rw[hn] at e3
   rcases w.found (fun t=>(t.lo==lo)&&(t.state==0)) with q | ⟨i,q,hi,_,hx,_⟩
   ·change Waj s.shards lo 0= -1 at q
    have hd':Wae s lo e=(s,false):=by rw[hd,hn,q];rfl
    rw[hd']
    rw[q] at e2
    simp only[rn,RO.dst,lk,drop,Nat.reduceBEq,Nat.reduceAdd,Nat.reduceLeDiff,↓reduceIte,reduceCtorEq,l1,l2,l3,e1,e2,e3,Int.reduceLT,Int.reduceNeg]
    exact ⟨_,_,_,rfl,o13,⟨x,_,rfl,rfl,w⟩,f1⟩
   ·change Waj s.shards lo 0=(i:Int) at q
    have hd':Wae s lo e=((s.frozen i e).renew e,true):=by
     rw[hd,hn,q]
     have:decide (0≤(i:Int))=true:=by simp
     rw[this];rfl
    rw[hd']
    rw[q] at e2
    obtain ⟨g1,g2,s1,s2,mk,w2⟩:=w.freeze f1.nd (f1.own o13 hf) hi e
    obtain ⟨cs5,h5,e5,mk5,v5⟩:=renewed_c (Z:=Z) k (s:=s.frozen i e) ⟨x,_,rfl,rfl,w2⟩ f1.nd (fun id hid=>by rw[mk.fl];exact f1.own o13 hf id hid) e
    obtain ⟨n1,n2,n3⟩:=Store.lenI v5
    have g0: ¬(i:Int)<0:=by omega
    change call F Z 321 [.agg [.int .i64 s.group,.int .i64 s.seen,x],_] g2=_ at e5
    simp only[rn,RO.dst,lk,drop,Nat.reduceBEq,Nat.reduceAdd,Nat.reduceLeDiff,↓reduceIte,reduceCtorEq,l1,l2,l3,e1,e2,e3,g0,hx,s1,s2,e5,n1,n2,n3]
    exact ⟨_,_,_,rfl,o13.turned (mk.then mk5) f1,v5,f1⟩
set_option maxHeartbeats 1000000 in
theorem sFreezeShard_c (k:KS F) (hf:h.floor≤h.next) (v:Store.RI h cs s fp) (lo e:Int) (ok:s.Ok) (sm:s.Small):
 ∃cs' h' fq,call F Z 300 [.agg cs,.c (.int .u64 lo),.c (.int .i64 e)] h=some (.tup [.agg cs',.c (.bool (Wae s lo e).2)],h')∧On h h'∧Store.RI h' cs' (Wae s lo e).1 fq∧Fre h fq:=by
 obtain ⟨l1,l2,l3⟩:=Store.lenI v
 obtain ⟨cs1,h1,fq,e1,o1,v1,f1⟩:=WaZ (Z:=Z) k hf v sm
 have e2:=l13At_run (Z:=Z) k.s13 (Store.okI.on v o1) lo 0
 have e3:=l13Next_run (Z:=Z) k (Store.okI.on v o1) ok e
 rw[Wac F Z (k.s13.lk (g:=300) rfl) _ _ rfl]
 have hd:Wae s lo e=bif s.next e&&decide (0≤Waj s.shards lo 0) then ((s.frozen (Waj s.shards lo 0).toNat e).renew e,true) else (s,false):=rfl
 obtain ⟨x,p,rfl,hp,w⟩:=v1
 subst hp
 cases hn:s.next e with
 | false=>
   rw[hn] at e3
   have hd':Wae s lo e=(s,false):=by rw[hd,hn];rfl
   rw[hd']
   simp only[rn,RO.dst,lk,drop,Nat.reduceBEq,Nat.reduceAdd,Nat.reduceLeDiff,↓reduceIte,reduceCtorEq,l1,l2,l3,e1,e2,e3]
   exact ⟨_,_,_,rfl,o1,⟨x,_,rfl,rfl,w⟩,f1⟩
 | true=>
   rw[hn] at e3
   rcases w.found (fun t=>(t.lo==lo)&&(t.state==0)) with q | ⟨i,q,hi,_,hx,_⟩
   ·change Waj s.shards lo 0= -1 at q
    have hd':Wae s lo e=(s,false):=by rw[hd,hn,q];rfl
    rw[hd']
    rw[q] at e2
    simp only[rn,RO.dst,lk,drop,Nat.reduceBEq,Nat.reduceAdd,Nat.reduceLeDiff,↓reduceIte,reduceCtorEq,l1,l2,l3,e1,e2,e3,Int.reduceLT,Int.reduceNeg]
    exact ⟨_,_,_,rfl,o1,⟨x,_,rfl,rfl,w⟩,f1⟩
   ·change Waj s.shards lo 0=(i:Int) at q
    have hd':Wae s lo e=((s.frozen i e).renew e,true):=by
     rw[hd,hn,q]
     have:decide (0≤(i:Int))=true:=by simp
     rw[this];rfl
    rw[hd']
    rw[q] at e2
    obtain ⟨g1,g2,s1,s2,mk,w2⟩:=w.freeze f1.nd (f1.own o1 hf) hi e
    have o2:=o1.turned mk f1
    obtain ⟨cs5,h5,f5,e5,o5,v5,r5⟩:=l13Renew_c (Z:=Z) k (s:=s.frozen i e) (o2.le hf) ⟨x,_,rfl,rfl,w2⟩ (Store.frozen_small sm hi e) e
    obtain ⟨n1,n2,n3⟩:=Store.lenI v5
    have g0: ¬(i:Int)<0:=by omega
    change call F Z 318 [.agg [.int .i64 s.group,.int .i64 s.seen,x],_] g2=_ at e5
    simp only[rn,RO.dst,lk,drop,Nat.reduceBEq,Nat.reduceAdd,Nat.reduceLeDiff,↓reduceIte,reduceCtorEq,l1,l2,l3,e1,e2,e3,g0,hx,s1,s2,e5,n1,n2,n3]
    exact ⟨_,_,_,rfl,o2.trans o5,v5,⟨fun id hid=>Qj o2.ext.1 (r5.lo id hid),r5.nd⟩⟩
end
theorem count_pre {α:Type} (p:α→Bool): ∀(xs:List α),(∀i j (hj:j<xs.length) (hij:i<j),p xs[j]=true→p (xs[i]'(by omega))=true)→ ∀i (hi:i<xs.length),(p xs[i]=true↔i<xs.countP p)
 | [],_,i,hi=>absurd hi (QZ _)
 | a::r,h,i,hi=>by
   have hr: ∀i j (hj:j<r.length) (hij:i<j),p r[j]=true→p (r[i]'(by omega))=true:=fun i j hj hij hp=>by
    have:=h (i+1) (j+1) (by simpa using hj) (by omega) (by simpa using hp)
    simpa using this
   cases ha:p a with
   | true=>
     rw[List.countP_cons_of_pos ha]
     cases i with
     | zero=>simp[ha]
     | succ i=>
       have:=count_pre p r hr i (by simpa using hi)
       simp only[Js,this];omega
   | false=>
     have h0: ∀j (hj:j<r.length),p r[j]=false:=fun j hj=>by
      cases hp:p r[j] with
      | false=>rfl
      | true=>
        have:=h 0 (j+1) (by simpa using hj) (by omega) (by simpa using hp)
        simp[ha] at this
     have hc:r.countP p=0:=List.countP_eq_zero.2 fun b hb=>by
      obtain ⟨j,hj,rfl⟩:=QF.1 hb
      simp[h0 j hj]
     rw[List.countP_cons_of_neg (by simp[ha]),hc]
     cases i with
     | zero=>simp[ha]
     | succ i=>simp[h0 i (by simpa using hi)]
theorem Store.fit_at {s:Store} (g:s.good=true) {j:Nat} (hj:j<s.shards.length):s.fits j=true:=by
 simp only[Store.good,Qa,Qv,QU] at g
 exact g.2.2.2 j hj
theorem Store.lo_hi {s:Store} (g:s.good=true) {j:Nat} (hj:j<s.shards.length):s.shards[j].lo≤s.shards[j].hi:=by
 have:=Store.fit_at g hj
 simp only[Store.fits,Shard.at_get hj,Shard.good,Shard.head,Qa,decide_eq_true_eq] at this
 omega
theorem Store.gap {s:Store} (g:s.good=true) {j:Nat} (hj:j+1<s.shards.length):s.shards[j].hi<s.shards[j+1].lo:=by
 have:=Store.fit_at g hj
 simp only[Store.fits,Qa,Qu,decide_eq_true_eq,beq_iff_eq] at this
 rcases this.2.2 with h | h
 ·omega
 ·simp only[QE] at h
  rw[Shard.at_get hj,Shard.at_get (by omega)] at h
  exact h
theorem Store.sorted {s:Store} (g:s.good=true) (i:Nat): ∀(d:Nat) (hj:i+d+1<s.shards.length),s.shards[i].hi<s.shards[i+d+1].lo
 | 0,hj=>Store.gap g hj
 | d+1,hj=>by
   have h1:=Store.sorted g i d (by omega)
   have h2:=Store.gap g (j:=i+d+1) hj
   have h3:=Store.lo_hi g (j:=i+d+1) (by omega)
   have e:i+(d+1)+1=i+d+1+1:=by omega
   simp only[e]
   omega
def Shard.over (x t:Shard):Bool:=decide (t.lo≤x.hi)&&decide (x.lo≤t.hi)
def Shard.left (x t:Shard):Bool:=decide (t.lo<x.lo)
def Store.spot (s:Store) (x:Shard):Nat:=s.shards.countP x.left
def Shard.awake (x:Shard):Shard:={x with state:=0}
def Store.plus (s:Store) (x:Shard):Store:={s with shards:=s.shards.take (s.spot x)++[x.awake]++s.shards.drop (s.spot x)}
def Wax (s:Store) (x:Shard) (e:Int):Bool:=s.next e&&(x.good&&((x.state==1)&&(decide (x.epoch<e)&& !((s.shards.length:Int)==8))))
def War (s:Store) (x:Shard) (e:Int):Store×Bool:=bif Wax s x e&& !(s.shards.any x.over) then ((s.plus x).renew e,true) else (s,false)
theorem Store.spot_le (s:Store) (x:Shard):s.spot x≤s.shards.length:=Jw
theorem Store.spot_iff {s:Store} (g:s.good=true) (x:Shard) {i:Nat} (hi:i<s.shards.length):s.shards[i].lo<x.lo↔i<s.spot x:=by
 have:=count_pre x.left s.shards (fun i j hj hij hp=>by
  obtain ⟨d,rfl⟩: ∃d,j=i+d+1:=⟨j-i-1,by omega⟩
  have h1:=Store.sorted g i d hj
  have h2:=Store.lo_hi g (j:=i) (by omega)
  simp only[Shard.left,decide_eq_true_eq] at hp ⊢
  omega) i hi
 simp only[Shard.left,decide_eq_true_eq] at this
 exact this
theorem Store.spot_gt {s:Store} (g:s.good=true) {x:Shard} (gx:x.good=true) (ho:s.shards.any x.over=false) {i:Nat} (hi:i<s.shards.length):x.lo<s.shards[i].lo↔s.spot x≤i:=by
 have h1:=Store.spot_iff g x hi
 have h2:=Store.lo_hi g hi
 have h3:x.lo≤x.hi:=by
  simp only[Shard.good,Shard.head,Qa,decide_eq_true_eq] at gx
  omega
 have h4:x.over s.shards[i]=false:=by
  rw[List.any_eq_false] at ho
  simpa using ho _ (Qd hi)
 simp only[Shard.over,Bool.and_eq_false_iff,decide_eq_false_iff_not] at h4
 omega
theorem Store.plus_small {s:Store} (sm:s.Small) {x:Shard} (sx:x.Small) (hl:s.shards.length≤8):(s.plus x).Small:=by
 refine ⟨?_,fun a ha=> ?_⟩
 ·simp only[Store.plus,Ql,Qg,Qw,Qz,QI];omega
 ·simp only[Store.plus,Qf,Jb] at ha
  rcases ha with (ha | ha) | ha
  ·exact sm.2 a (QO ha)
  ·subst ha;exact sx
  ·exact sm.2 a (QG ha)
theorem installShard_small {s:Store} (sm:s.Small) {x:Shard} (sx:x.Small) (e:Int):(War s x e).1.Small:=by
 unfold War
 cases h:(Wax s x e&& !(s.shards.any x.over)) with
 | false=>exact sm
 | true=>
   refine Store.renew_small (Store.plus_small sm sx ?_) e
   simp only[Wax,Store.next,Store.good,Qa,decide_eq_true_eq] at h
   omega
def Store.part (s:Store) (y:Shard) (k i:Nat):List Shard:=if k<i then s.shards.take k++[y]++(s.shards.take i).drop k else s.shards.take i
theorem Store.part_no {s:Store} {y:Shard} {k i:Nat} (hi:i<s.shards.length) (h: ¬k≤i):s.part y k (i+1)=s.part y k i++[s.shards[i]]:=by
 simp only[Store.part]
 rw[if_neg (by omega),if_neg (by omega),Qn,Qb hi];rfl
theorem Store.part_at {s:Store} {y:Shard} {i:Nat} (hi:i<s.shards.length):s.part y i (i+1)=s.part y i i++[y]++[s.shards[i]]:=by
 simp only[Store.part]
 rw[if_pos (by omega),if_neg (by omega),Qn,Qb hi,QR (by rw[Qg];omega),Je (by rw[Qg];omega)];rfl
theorem Store.part_yes {s:Store} {y:Shard} {k i:Nat} (hi:i<s.shards.length) (h:k<i):s.part y k (i+1)=s.part y k i++[s.shards[i]]:=by
 simp only[Store.part]
 rw[if_pos (by omega),if_pos h,Qn,Qb hi,QR (by rw[Qg];omega),←QN];rfl
theorem Store.part_end {s:Store} {y:Shard} {k:Nat} (h:k<s.shards.length):s.part y k s.shards.length=s.shards.take k++[y]++s.shards.drop k:=by
 simp only[Store.part];rw[if_pos h,Qm]
theorem Store.part_last {s:Store} {y:Shard} {k:Nat} (h:k=s.shards.length):s.part y k s.shards.length++[y]=s.shards.take k++[y]++s.shards.drop k:=by
 simp only[Store.part];subst h;rw[if_neg (by omega),Qm,Jj,QM]
theorem Store.part_len (s:Store) (y:Shard) (k i:Nat):(s.part y k i).length≤s.shards.length+1:=by
 simp only[Store.part]
 split<;>simp only[Ql,Qg,Qw,Qz,QI]<;>omega
theorem bookOk_iff (xs:List Account):Wap xs=true↔Srt xs∧(∀a,a∈xs→a.fine=true)∧xs.length≤40:=by
 constructor
 ·intro g
  refine ⟨book_srt g,fun a ha=> ?_,book_len g⟩
  obtain ⟨i,hi,rfl⟩:=QF.1 ha
  have:=book_fine g hi
  rwa [Account.at_get hi] at this
 ·rintro ⟨h1,h2,h3⟩
  simp only[Wap,Qa,Qv,QU,decide_eq_true_eq]
  refine ⟨fun i hi=> ?_,by omega⟩
  simp only[Account.fits,Qa,Qu,beq_iff_eq,decide_eq_true_eq]
  refine ⟨by rw[Account.at_get hi];exact h2 _ (Qd hi),?_⟩
  cases i with
  | zero=>exact .inl rfl
  | succ i=>
    right
    rw[QE,Account.at_get hi,Account.at_get (show i<xs.length by omega)]
    exact srt_lt h1 hi (by omega)
structure Shard.Good (x:Shard):Prop where
 lh:x.lo≤x.hi
 st:x.state=0∨x.state=1
 ep:1≤x.epoch∧x.epoch≤1000000
 srt:Srt x.book.list
 fine: ∀a,a∈x.book.list→a.fine=true
 bl:x.book.list.length≤40
 fl:x.finished.length≤60
 acc: ∀a,a∈x.book.list→x.lo≤a.id∧a.id≤x.hi∧(⟨a.tx,a.id⟩:Fin)∉x.finished
 fs:x.finished.Pairwise flt
 fin: ∀f,f∈x.finished→1≤f.tx∧x.lo≤f.id∧f.id≤x.hi
theorem Shard.good_iff (x:Shard):x.good=true↔x.Good:=by
 constructor
 ·intro g
  have gs:=Shard.good_sorted g
  have gi: ∀f,f∈x.finished→1≤f.tx∧x.lo≤f.id∧f.id≤x.hi:=fun f hf=>Shard.good_in g hf
  simp only[Shard.good,Shard.head,Shard.acc,inR,Qa,Qu,beq_iff_eq,decide_eq_true_eq,Qv,QB,decide_eq_false_iff_not] at g
  obtain ⟨⟨h1,h2,h3,h4,h5⟩,h6,_⟩:=g
  obtain ⟨b1,b2,b3⟩:=(bookOk_iff _).1 h4
  exact ⟨h1,h2,h3,b1,b2,b3,by omega,h6,gs,gi⟩
 ·intro g
  simp only[Shard.good,Shard.head,Shard.acc,inR,Qa,Qu,beq_iff_eq,decide_eq_true_eq,Qv,QB,decide_eq_false_iff_not]
  refine ⟨⟨g.lh,g.st,g.ep,(bookOk_iff _).2 ⟨g.srt,g.fine,g.bl⟩,by have:=g.fl;omega⟩,g.acc,fun i hi=> ?_⟩
  rw[QU] at hi
  have h1:=g.fin _ (Qd hi)
  simp only[Shard.finAt,Fin.at_,Qb hi,Ji,Qa,Qu,beq_iff_eq,decide_eq_true_eq]
  refine ⟨h1.1,h1.2.1,h1.2.2,?_⟩
  cases i with
  | zero=>exact .inl rfl
  | succ i=>
    right
    have h2:=Qo.1 g.fs i (i+1) (by omega) hi (by omega)
    rw[QE,Qb (show i<x.finished.length by omega),Ji]
    have:=cmp_flt x.finished[i] x.finished[i+1]
    rw[decide_eq_true h2] at this
    exact of_decide_eq_true this
structure Store.Good (s:Store):Prop where
 gr:0≤s.group∧s.group≤99
 sn:0≤s.seen∧s.seen≤1000000
 len:s.shards.length≤8
 sh: ∀x,x∈s.shards→x.Good∧x.epoch≤s.seen
 ord:s.shards.Pairwise fun x y=>x.hi<y.lo
theorem Store.good_iff (s:Store):s.good=true↔s.Good:=by
 constructor
 ·intro g
  have ho:s.shards.Pairwise fun x y=>x.hi<y.lo:=by
   rw[Qo]
   intro i j hi hj hij
   obtain ⟨d,rfl⟩: ∃d,j=i+d+1:=⟨j-i-1,by omega⟩
   exact Store.sorted g i d hj
  have hx: ∀x,x∈s.shards→x.Good∧x.epoch≤s.seen:=by
   intro x hx
   obtain ⟨i,hi,rfl⟩:=QF.1 hx
   have:=Store.fit_at g hi
   simp only[Store.fits,Qa,decide_eq_true_eq,Shard.at_get hi] at this
   exact ⟨(Shard.good_iff _).1 this.1,this.2.1⟩
  simp only[Store.good,inR,Qa,decide_eq_true_eq] at g
  exact ⟨g.1,g.2.1,by have:=g.2.2.1;omega,hx,ho⟩
 ·intro g
  simp only[Store.good,inR,Qa,decide_eq_true_eq,Qv,QU]
  refine ⟨g.gr,g.sn,by have:=g.len;omega,fun i hi=> ?_⟩
  simp only[Store.fits,Qa,Qu,beq_iff_eq,decide_eq_true_eq,Shard.at_get hi]
  have h1:=g.sh _ (Qd hi)
  refine ⟨(Shard.good_iff _).2 h1.1,h1.2,?_⟩
  cases i with
  | zero=>exact .inl rfl
  | succ i=>
    right
    rw[QE,Shard.at_get (show i<s.shards.length by omega)]
    exact Qo.1 g.ord i (i+1) (by omega) hi (by omega)
theorem Store.next_iff (s:Store) (e:Int):s.next e=true↔s.Good∧s.seen<e∧e≤1000000:=by
 simp only[Store.next,Qa,decide_eq_true_eq,Store.good_iff]
theorem Shard.renew_lo (e:Int) (x:Shard):(Shard.renew e x).lo=x.lo:=by unfold Shard.renew;cases x.state==0<;>rfl
theorem Shard.renew_hi (e:Int) (x:Shard):(Shard.renew e x).hi=x.hi:=by unfold Shard.renew;cases x.state==0<;>rfl
theorem Shard.renew_book (e:Int) (x:Shard):(Shard.renew e x).book=x.book:=by unfold Shard.renew;cases x.state==0<;>rfl
theorem Shard.renew_fin (e:Int) (x:Shard):(Shard.renew e x).finished=x.finished:=by unfold Shard.renew;cases x.state==0<;>rfl
structure Shard.Sound (x:Shard):Prop where
 lh:x.lo≤x.hi
 st:x.state=0∨x.state=1
 srt:Srt x.book.list
 fine: ∀a,a∈x.book.list→a.fine=true
 bl:x.book.list.length≤40
 fl:x.finished.length≤60
 acc: ∀a,a∈x.book.list→x.lo≤a.id∧a.id≤x.hi∧(⟨a.tx,a.id⟩:Fin)∉x.finished
 fs:x.finished.Pairwise flt
 fin: ∀f,f∈x.finished→1≤f.tx∧x.lo≤f.id∧f.id≤x.hi
theorem Shard.Good.sound {x:Shard} (g:x.Good):x.Sound:=⟨g.lh,g.st,g.srt,g.fine,g.bl,g.fl,g.acc,g.fs,g.fin⟩
theorem Shard.Sound.good {x:Shard} (g:x.Sound) (h:1≤x.epoch∧x.epoch≤1000000):x.Good:=⟨g.lh,g.st,h,g.srt,g.fine,g.bl,g.fl,g.acc,g.fs,g.fin⟩
theorem Shard.Sound.renew {x:Shard} (g:x.Sound) {e:Int} (he:1≤e∧e≤1000000) (hx:x.state=1→1≤x.epoch∧x.epoch≤e):(Shard.renew e x).Good∧(Shard.renew e x).epoch≤e:=by
 unfold Shard.renew
 rcases g.st with h | h
 ·rw[h]
  exact ⟨⟨g.lh,.inl rfl,he,g.srt,g.fine,g.bl,g.fl,g.acc,g.fs,g.fin⟩,Jx _⟩
 ·have h0:(x.state==0)=false:=by rw[h];rfl
  rw[h0]
  have:=hx h
  exact ⟨g.good ⟨this.1,by omega⟩,this.2⟩
theorem Store.renew_good {s:Store} {e:Int} (hg:0≤s.group∧s.group≤99) (he:1≤e∧e≤1000000) (hl:s.shards.length≤8) (hx: ∀x,x∈s.shards→x.Sound∧(x.state=1→1≤x.epoch∧x.epoch≤e)) (ho:s.shards.Pairwise fun x y=>x.hi<y.lo):(s.renew e).Good where
 gr:=hg
 sn:=⟨by show 0≤e;omega,he.2⟩
 len:=by show (s.shards.map _).length≤8;rw[Qx];exact hl
 sh:=fun x hxm=>by
  obtain ⟨y,hy,rfl⟩:=JO.1 hxm
  exact (hx y hy).1.renew he (hx y hy).2
 ord:=by
  show (s.shards.map (Shard.renew e)).Pairwise _
  rw[Jd]
  refine ho.imp fun {x y} h=> ?_
  rw[Shard.renew_hi,Shard.renew_lo];exact h
theorem Store.Good.old {s:Store} (g:s.Good) {e:Int} (he:s.seen<e): ∀x,x∈s.shards→x.Sound∧(x.state=1→1≤x.epoch∧x.epoch≤e):=fun x hx=>by
 have:=g.sh x hx
 have h2:=this.1.ep
 exact ⟨this.1.sound,fun _=>⟨h2.1,by omega⟩⟩
theorem Store.Good.one {s:Store} (g:s.Good) {e:Int} (he:s.seen<e):1≤e:=by have:=g.sn;omega
theorem renewStore_good {s:Store} {e:Int} (g:s.Good):(Wba s e).1.Good:=by
 unfold Wba
 cases hn:s.next e with
 | false=>exact g
 | true=>
   have h:=(Store.next_iff s e).1 hn
   exact Store.renew_good g.gr ⟨g.one h.2.1,h.2.2⟩ g.len (g.old h.2.1) g.ord
theorem set_pairwise {α:Type} {R:α→α→Prop} {xs:List α} (h:xs.Pairwise R) {i:Nat} (hi:i<xs.length) {y:α} (h1: ∀z,R z xs[i]→R z y) (h2: ∀z,R xs[i] z→R y z):(xs.set i y).Pairwise R:=by
 rw[Qo] at h ⊢
 intro a b ha hb hab
 rw[Jv] at ha hb
 rw[Jp,Jp]
 by_cases e1:i=a
 ·subst e1
  rw[if_pos rfl,if_neg (by omega)]
  exact h2 _ (h i b ha hb hab)
 ·rw[if_neg e1]
  by_cases e2:i=b
  ·subst e2
   rw[if_pos rfl]
   exact h1 _ (h a i ha hb hab)
  ·rw[if_neg e2]
   exact h a b ha hb hab
theorem mem_set {α:Type} {xs:List α} {i:Nat} {y z:α} (h:z∈xs.set i y):z∈xs∨z=y:=QX h
theorem freezeShard_good {s:Store} {lo e:Int} (g:s.Good):(Wae s lo e).1.Good:=by
 unfold Wae
 cases hn:s.next e with
 | false=>exact g
 | true=>
   by_cases h0:0≤Waj s.shards lo 0
   ·have h:=(Store.next_iff s e).1 hn
    rw[decide_eq_true h0]
    obtain ⟨i,e1,hi,_⟩:=WbV h0
    have e2:Waj s.shards lo 0=(i:Int):=e1
    have he:=g.one h.2.1
    have gx:=(g.sh _ (Qd hi)).1
    have hnew:({Shard.at_ s.shards i with state:=1,epoch:=e}:Shard).Sound:=by
     rw[Shard.at_get hi]
     exact ⟨gx.lh,.inr rfl,gx.srt,gx.fine,gx.bl,gx.fl,gx.acc,gx.fs,gx.fin⟩
    rw[e2]
    simp only[JI,cond_true,QT]
    refine Store.renew_good (s:=s.frozen i e) g.gr ⟨he,h.2.2⟩ (by show (s.shards.set _ _).length≤8;rw[Jv];exact g.len) (fun x hx=> ?_) ?_
    ·rcases mem_set hx with hx | rfl
     ·exact g.old h.2.1 x hx
     ·exact ⟨hnew,fun _=>⟨he,Jx _⟩⟩
    ·refine set_pairwise g.ord hi (fun z hz=> ?_) (fun z hz=> ?_)
     ·rw[Shard.at_get hi];exact hz
     ·rw[Shard.at_get hi];exact hz
   ·rw[decide_eq_false h0]
    exact g
section
variable {α:Type} {R:Rel α} {tag:Nat} {h0 h g:Heap} {x y:Cell} {xs ys:List α} {fp fq:List Nat}
theorem AllR.take: ∀{rows:List (List Cell)} {xs:List α} {fps:List (List Nat)},AllR R h rows xs fps→ ∀(i:Nat),AllR R h (rows.take i) (xs.take i) (fps.take i)
 | [],[],[],_,i=>by simp only[JJ];trivial
 | _::_,_::_,_::_,_,0=>trivial
 | _::_,_::_,_::_,⟨w0,w⟩,i+1=>⟨w0,AllR.take w i⟩
 | [],[],_::_,w,_=>w.elim
 | [],_::_,_,w,_=>w.elim
 | _::_,[],_,w,_=>w.elim
 | _::_,_::_,[],w,_=>w.elim
theorem AllR.drop: ∀{rows:List (List Cell)} {xs:List α} {fps:List (List Nat)},AllR R h rows xs fps→ ∀(i:Nat),AllR R h (rows.drop i) (xs.drop i) (fps.drop i)
 | [],[],[],_,i=>by simp only[JK];trivial
 | _::_,_::_,_::_,w,0=>w
 | _::_,_::_,_::_,⟨w0,w⟩,i+1=>AllR.drop w i
 | [],[],_::_,w,_=>w.elim
 | [],_::_,_,w,_=>w.elim
 | _::_,[],_,w,_=>w.elim
 | _::_,_::_,[],w,_=>w.elim
theorem Wcb {fps:List (List Nat)} (i:Nat):(fps.take i).flatten++(fps.drop i).flatten=fps.flatten:=by rw[←Qp,Jg]
structure Re (h g:Heap) (fp fq:List Nat):Prop where
 le:h.next≤g.next
 fl:g.floor=h.floor
 get: ∀id,id<h.next→id∉fp→g.get id=h.get id
 nd:fq.Nodup
 of: ∀id,id∈fq→id∈fp∨h.next≤id
theorem Re.on (r:Re h g fp fq) (o:On h0 h) (f:Fre h0 fp):On h0 g:=
 ⟨⟨Qj o.ext.1 r.le,fun id hid=>by rw[r.get id (QS hid o.ext.1) (f.gt id hid)];exact o.ext.2 id hid⟩,r.fl.trans o.fl⟩
theorem Re.fre (r:Re h g fp fq) (o:On h0 h) (f:Fre h0 fp):Fre h0 fq:=
 ⟨fun id hid=>by rcases r.of id hid with h1 | h1;exact f.lo id h1;exact Qj o.ext.1 h1,r.nd⟩
theorem SlR.del (ok:RelOk R) (w:SlR tag R h x xs fp) (nd:fp.Nodup) (hfl: ∀id,id∈fp→h.floor≤id) {i:Nat} (hi:i<xs.length):
 ∃y g fq,delF tag [.c x,.c (.int .i64 (i:Nat)),.c (.int .i64 ((i+1:Nat):Int))] h=some (.c y,g)∧SlR tag R g y (xs.eraseIdx i) fq∧Re h g fp fq:=by
 rcases w with ⟨hl,⟨rfl,rfl,rfl⟩ | ⟨id,rows,fps,rfl,q1,q2,rfl,q3⟩⟩
 ·exact absurd hi (QZ _)
 have hn:=QL.1 nd
 have hrl:=q3.len
 have hfid:=hfl id (by simp)
 have hlen:(rows.take i++rows.drop (i+1)).length=i+(xs.length-(i+1)):=by simp only[Ql,Qg,Qw,hrl];omega
 have he:xs.eraseIdx i=xs.take i++xs.drop (i+1):=Qr ..
 have hel:(xs.eraseIdx i).length=i+(xs.length-(i+1)):=by rw[List.length_eraseIdx_of_lt hi];omega
 have hflt:=q3.lt ok
 have hsub: ∀j,j∈(fps.take i++fps.drop (i+1)).flatten→j∈fps.flatten:=fun j hj=>by
  rw[Qp,Qf] at hj
  rw[←Wcb (fps:=fps) i,Qf]
  rcases hj with hj | hj
  ·exact .inl hj
  ·right
   rw[List.mem_flatten] at hj ⊢
   obtain ⟨l,hl1,hl2⟩:=hj
   exact ⟨l,QG (i:=1) (by rw[List.drop_drop];exact hl1),hl2⟩
 refine ⟨.sl tag h.next 0 (i+(xs.length-(i+1))),(h.kill id).push (rows.take i++rows.drop (i+1)),h.next::(fps.take i++fps.drop (i+1)).flatten,?_,?_,?_⟩
 ·simp only[delF,q1,QD,QT]
  rw[if_pos ⟨trivial,trivial,hfid,by omega,by omega,by omega,hrl⟩]
 ·refine ⟨by rw[hel];omega,.inr ⟨h.next,rows.take i++rows.drop (i+1),fps.take i++fps.drop (i+1),by rw[hel],by simp[Heap.push,Heap.kill],by simp[Heap.push,Heap.kill],rfl,?_⟩⟩
  rw[he]
  refine ((q3.take i).app (q3.drop (i+1))).mv ok (by simp[Heap.push,Heap.kill]) fun j hj=> ?_
  have hj':=hsub j hj
  have h1:=hflt j hj'
  rw[WbY _ (by rw[kill_next];omega),kill_ne (h:=h) (k:=id) (id:=j) fun e=>hn.1 (e▸hj')]
 ·refine ⟨by simp[Heap.push,Heap.kill],rfl,fun j hj hjn=> ?_,?_,?_⟩
  ·rw[WbY _ (by rw[kill_next];omega),kill_ne (h:=h) (k:=id) (id:=j) fun e=>hjn (by rw[e];exact Jc)]
  ·rw[QL]
   refine ⟨fun hc=> ?_,?_⟩
   ·have:=hflt _ (hsub _ hc);omega
   ·rw[Qp]
    have:=hn.2
    rw[←Wcb (fps:=fps) i] at this
    obtain ⟨n1,n2,n3⟩:=Qq.1 this
    have hs2:(fps.drop (i+1)).flatten.Sublist (fps.drop i).flatten:=by
     obtain ⟨_,f,_,e2,_⟩:=q3.at i hi
     rw[QC (List.getElem?_eq_some_iff.1 e2).1,List.flatten_cons]
     exact List.sublist_append_right _ _
    exact Qq.2 ⟨n1,n2.sublist hs2,fun a ha b hb=>n3 a ha b (hs2.subset hb)⟩
  ·intro j hj
   rcases Qt.1 hj with rfl | hj
   ·exact .inr (Qy _)
   ·exact .inl (QH _ (hsub j hj))
theorem SlR.ins (ok:RelOk R) (w:SlR tag R h x xs fp) (nd:fp.Nodup) (hfl: ∀id,id∈fp→h.floor≤id) (v:SlR tag R h y ys fq) (nq:fq.Nodup) (hfq: ∀id,id∈fq→h.floor≤id) (hd: ∀id,id∈fq→id∉fp) (hy:0<ys.length)
 {bytes:Nat} (hb:(xs.length+ys.length)*bytes≤140737488355328) (hm:xs.length+ys.length≤maxLen) {i:Nat} (hi:i≤xs.length):
 ∃z g fr,insF tag bytes [.c x,.c (.int .i64 (i:Nat)),.c y] h=some (.c z,g)∧SlR tag R g z (xs.take i++ys++xs.drop i) fr∧Re h g (fp++fq) fr:=by
 rcases v with ⟨hvl,⟨rfl,rfl,rfl⟩ | ⟨idv,new,fps2,rfl,v1,v2,rfl,v3⟩⟩
 ·exact absurd hy (QZ _)
 have hnv:=QL.1 nq
 have hvrl:=v3.len
 have hvlt:=v3.lt ok
 have hfv:=hfq idv (by simp)
 rcases w with ⟨hl,⟨rfl,rfl,rfl⟩ | ⟨id,rows,fps,rfl,q1,q2,rfl,q3⟩⟩
 ·have hi0:i=0:=by simpa using hi
  subst hi0
  simp only[QI,Nat.zero_add] at hb hm
  refine ⟨.sl tag h.next 0 ys.length,h.push new,h.next::fps2.flatten,?_,?_,?_⟩
  ·simp only[insF]
   rw[if_pos ⟨trivial,trivial,hfv,hy⟩]
   simp only[v1,QD]
   rw[if_pos hvrl,if_pos ⟨rfl,hb,hm⟩]
  ·refine ⟨by simpa using hm,.inr ⟨h.next,new,fps2,by simp,by simp[Heap.push],by simp[Heap.push],rfl,?_⟩⟩
   simp only[JJ,JK,Ja,QM]
   exact v3.mv ok (by simp[Heap.push]) fun j hj=>WbY _ (by have:=hvlt j hj;omega)
  ·refine ⟨by simp[Heap.push],rfl,fun j hj _=>WbY _ (by omega),QL.2 ⟨fun hc=>by have:=hvlt _ hc;omega,hnv.2⟩,fun j hj=> ?_⟩
   rcases Qt.1 hj with rfl | hj
   ·exact .inr (Qy _)
   ·exact .inl (by simp[hj])
 ·have hn:=QL.1 nd
  have hrl:=q3.len
  have hflt:=q3.lt ok
  have hfid:=hfl id (by simp)
  have hne:id≠idv:=fun e=>hd idv (by simp) (by simp[e])
  refine ⟨.sl tag h.next 0 (xs.length+ys.length),(h.kill id).push (rows.take i++new++rows.drop i),h.next::(fps.take i++fps2++fps.drop i).flatten,?_,?_,?_⟩
  ·simp only[insF]
   rw[if_pos ⟨trivial,trivial,hfv,hy⟩]
   simp only[v1,QD]
   rw[if_pos hvrl]
   simp only[q1,QD,QT]
   rw[if_pos ⟨trivial,trivial,hfid,hne,by omega,by omega,hb,hm,hrl⟩]
  ·have hlen:(xs.take i++ys++xs.drop i).length=xs.length+ys.length:=by simp only[Ql,Qg,Qw];omega
   refine ⟨by rw[hlen];exact hm,.inr ⟨h.next,rows.take i++new++rows.drop i,fps.take i++fps2++fps.drop i,by rw[hlen],by simp[Heap.push,Heap.kill],by simp[Heap.push,Heap.kill],rfl,?_⟩⟩
   refine (((q3.take i).app v3).app (q3.drop i)).mv ok (by simp[Heap.push,Heap.kill]) fun j hj=> ?_
   have:j∈fps.flatten∨j∈fps2.flatten:=by
    rw[Qp,Qp,Qf,Qf] at hj
    rw[←Wcb (fps:=fps) i,Qf]
    rcases hj with (hj | hj) | hj
    ·exact .inl (.inl hj)
    ·exact .inr hj
    ·exact .inl (.inr hj)
   rcases this with hj' | hj'
   ·have h1:=hflt j hj'
    rw[WbY _ (by rw[kill_next];omega),kill_ne (h:=h) (k:=id) (id:=j) fun e=>hn.1 (e▸hj')]
   ·have h1:=hvlt j hj'
    rw[WbY _ (by rw[kill_next];omega),kill_ne (h:=h) (k:=id) (id:=j) fun e=>hd j (by simp[hj']) (by rw[e];simp)]
  ·refine ⟨by simp[Heap.push,Heap.kill],rfl,fun j hj hjn=> ?_,?_,?_⟩
   ·rw[WbY _ (by rw[kill_next];omega),kill_ne (h:=h) (k:=id) (id:=j) fun e=>hjn (by rw[e];simp)]
   ·rw[QL]
    have hn2:=hn.2
    rw[←Wcb (fps:=fps) i] at hn2
    obtain ⟨n1,n2,n3⟩:=Qq.1 hn2
    have hd1: ∀a,a∈fps2.flatten→a∉fps.flatten:=fun a ha hb=>hd a (by simp[ha]) (by simp[hb])
    have hin1: ∀a,a∈(fps.take i).flatten→a∈fps.flatten:=fun a ha=>by rw[←Wcb (fps:=fps) i,Qf];exact .inl ha
    have hin2: ∀a,a∈(fps.drop i).flatten→a∈fps.flatten:=fun a ha=>by rw[←Wcb (fps:=fps) i,Qf];exact .inr ha
    rw[Qp,Qp]
    refine ⟨fun hc=> ?_,?_⟩
    ·rw[Qf,Qf] at hc
     rcases hc with (hc | hc) | hc
     ·have:=hflt _ (hin1 _ hc);omega
     ·have:=hvlt _ hc;omega
     ·have:=hflt _ (hin2 _ hc);omega
    ·refine Qq.2 ⟨Qq.2 ⟨n1,hnv.2,fun a ha b hb e=>hd1 b hb (e▸hin1 a ha)⟩,n2,fun a ha b hb e=> ?_⟩
     rcases Qf.1 ha with ha | ha
     ·exact n3 a ha b hb e
     ·exact hd1 a ha (e▸hin2 b hb)
   ·intro j hj
    rcases Qt.1 hj with rfl | hj
    ·exact .inr (Qy _)
    ·left
     rw[Qp,Qp,Qf,Qf] at hj
     rw[Qf]
     rcases hj with (hj | hj) | hj
     ·exact .inl (QH _ (by rw[←Wcb (fps:=fps) i,Qf];exact .inl hj))
     ·exact .inr (by simp[hj])
     ·exact .inl (QH _ (by rw[←Wcb (fps:=fps) i,Qf];exact .inr hj))
end
section
variable {F:Nat→Option RF} {Z:Waf} {h:Heap} {c:Cell} {xs:List Shard} {fp fq fr:List Nat} {cs ds:List Cell} {s:Store} {x t:Shard}
theorem count_take {α:Type} (p:α→Bool) {xs:List α} {i:Nat} (hi:i<xs.length):(xs.take (i+1)).countP p=(xs.take i).countP p+(if p xs[i] then 1 else 0):=by
 rw[Qn,Qb hi,List.countP_append]
 simp[List.countP_cons]
theorem inst_turn (w:SlR 16 Shard.RI h c s.shards fp) (e:Int) (b f y:Cell) {i:Nat} (hi:i<s.shards.length):
 Turn (loop F Z [2,4,6,8,9,42,43,44] r309L0 ⟨[(2,.c (.int .i64 e)),(9,.c (.int .i64 ((s.shards.take i).countP x.left:Nat))),(42,.c c),(43,.c (.int .i64 (s.shards.length:Nat))),(44,.c (.int .i64 (i:Nat)))],[(4,4,0),(6,6,0),(8,8,0)],[(4,x.cells b f),(6,[.int .i64 0,.int .i64 0,.nil]),(8,[.int .i64 s.group,.int .i64 s.seen,y])],h⟩)
  (loop F Z [2,4,6,8,9,42,43,44] r309L0 ⟨[(2,.c (.int .i64 e)),(9,.c (.int .i64 ((s.shards.take (i+1)).countP x.left:Nat))),(42,.c c),(43,.c (.int .i64 (s.shards.length:Nat))),(44,.c (.int .i64 ((i+1:Nat):Int)))],[(4,4,0),(6,6,0),(8,8,0)],[(4,x.cells b f),(6,[.int .i64 0,.int .i64 0,.nil]),(8,[.int .i64 s.group,.int .i64 s.seen,y])],h⟩)
  (!x.over s.shards[i]) (fun s'=>lk s'.env 7=some (.c (.bool false))∧lk s'.adr 6=some (6,0)∧lk s'.loc 6=some [.int .i64 s.group,.int .i64 s.seen,y]∧s'.hp=h):=by
 have hle:=w.le2
 have hlt:(i:Int)<s.shards.length:=by omega
 have hws:=WaS i (by omega)
 have hxi:=w.idx hi
 obtain ⟨r,q,hld,hR,_⟩:=w.one hi
 obtain ⟨x1,p1,x2,p2,rfl,_⟩:=hR
 have hct:=count_take x.left hi
 have hcl:(s.shards.take i).countP x.left≤i:=Qj Jw (by rw[Qg];omega)
 have hwc:=WaS ((s.shards.take i).countP x.left) (by omega)
 rw[hct]
 generalize (s.shards.take i).countP x.left=n at *
 clear w hct
 generalize s.shards[i]=a at *
 rw[Wab]
 conv in (Wad _ _ r309L0 _)=>unfold r309L0
 have ho:x.over a=(decide (a.lo≤x.hi)&&decide (x.lo≤a.hi)):=rfl
 have hl:x.left a=decide (a.lo<x.lo):=rfl
 simp only[Shard.cells]
 by_cases c1:a.lo≤x.hi
 ·by_cases c2:x.lo≤a.hi
  ·simp only[rn,RO.dst,lk,drop,Nat.reduceBEq,Nat.reduceAdd,Nat.reduceLeDiff,↓reduceIte,reduceCtorEq,hlt,hxi,hld,c1,c2]
   exact .inr ⟨by simp[ho,c1,c2],_,rfl,rfl,rfl,rfl,rfl⟩
  ·by_cases c3:a.lo<x.lo
   ·simp only[rn,RO.dst,lk,drop,Nat.reduceBEq,Nat.reduceAdd,Nat.reduceLeDiff,↓reduceIte,reduceCtorEq,hlt,hxi,hld,c1,c2,c3,hwc,hws,hl,if_pos]
    exact .inl ⟨by simp[ho,c2],rfl⟩
   ·simp only[rn,RO.dst,lk,drop,Nat.reduceBEq,Nat.reduceAdd,Nat.reduceLeDiff,↓reduceIte,reduceCtorEq,hlt,hxi,hld,c1,c2,c3,hwc,hws,hl,JD,if_false,JP]
    exact .inl ⟨by simp[ho,c2],rfl⟩
 ·by_cases c3:a.lo<x.lo
  ·simp only[rn,RO.dst,lk,drop,Nat.reduceBEq,Nat.reduceAdd,Nat.reduceLeDiff,↓reduceIte,reduceCtorEq,hlt,hxi,hld,c1,c3,hwc,hws,hl,if_pos]
   exact .inl ⟨by simp[ho,c1],rfl⟩
  ·simp only[rn,RO.dst,lk,drop,Nat.reduceBEq,Nat.reduceAdd,Nat.reduceLeDiff,↓reduceIte,reduceCtorEq,hlt,hxi,hld,c1,c3,hwc,hws,hl,JD,if_false,JP]
   exact .inl ⟨by simp[ho,c1],rfl⟩
theorem all_not {α:Type} (p:α→Bool) (xs:List α):xs.all (fun a=> !p a)= !xs.any p:=by
 induction xs with
 | nil=>rfl
 | cons a r ih=>simp[ih,Bool.not_or]
theorem WbM {e:Int} (h:Wax s x e=false):War s x e=(s,false):=by simp[War,h]
theorem install_over {e:Int} (h:s.shards.any x.over=true):War s x e=(s,false):=by simp[War,h]
theorem install_yes {e:Int} (h:Wax s x e=true) (h2:s.shards.any x.over=false):War s x e=((s.plus x).renew e,true):=by simp[War,h,h2]
set_option maxHeartbeats 2000000 in
theorem InstallShard_c (k:KI F) (pr:WbF F Z 332 (insF 16 80)) (hf:h.floor≤h.next) (v:Store.RI h cs s fp) (u:Shard.RI h ds x fq) (e:Int) (ok:s.Ok) (sm:s.Small) (okx:x.Ok) (smx:x.Small):
 ∃cs' h' fq,call F Z 309 [.agg cs,.agg ds,.c (.int .i64 e)] h=some (.tup [.agg cs',.c (.bool (War s x e).2)],h')∧On h h'∧Store.RI h' cs' (War s x e).1 fq∧Fre h fq:=by
 obtain ⟨l1,l2,l3⟩:=Store.lenI v
 obtain ⟨d1,d2,d3⟩:=Shard.lenI u
 obtain ⟨cs1,h1,fr,e1,o1,v1,f1⟩:=copyStore_c (Z:=Z) k hf v sm
 obtain ⟨h2,e2,o2⟩:=isNewEpoch_run (Z:=Z) k (Store.okI.on v o1) ok e
 obtain ⟨h3,e3,o3⟩:=isShard_run (Z:=Z) k.i10 k.i13 k.c1 k.c2 k.c3 k.c4 k.c5 k.li k.lc (Shard.okI.on (Shard.okI.on u o1) o2) okx
 rw[Wac F Z (k.i13.lk (g:=309) rfl) _ _ rfl]
 cases hn:s.next e with
 | false=>
   rw[hn] at e2
   rw[WbM (by simp[Wax,hn])]
   obtain ⟨y,p,rfl,hp,w⟩:=Store.okI.on v1 o2
   subst hp
   simp only[rn,RO.dst,lk,drop,Nat.reduceBEq,Nat.reduceAdd,Nat.reduceLeDiff,↓reduceIte,reduceCtorEq,l1,l2,l3,d1,d2,d3,e1,e2]
   exact ⟨_,_,_,rfl,o1.trans o2,⟨y,_,rfl,rfl,w⟩,f1⟩
 | true=>
   rw[hn] at e2
   have o13:=(o1.trans o2).trans o3
   obtain ⟨y,p,rfl,hp,w⟩:=Store.okI.on (Store.okI.on v1 o2) o3
   subst hp
   cases gd:x.good with
   | false=>
     rw[gd] at e3
     rw[WbM (by simp[Wax,gd])]
     simp only[rn,RO.dst,lk,drop,Nat.reduceBEq,Nat.reduceAdd,Nat.reduceLeDiff,↓reduceIte,reduceCtorEq,l1,l2,l3,d1,d2,d3,e1,e2,e3]
     exact ⟨_,_,_,rfl,o13,⟨y,_,rfl,rfl,w⟩,f1⟩
   | true=>
     rw[gd] at e3
     have v3:=Store.okI.on v o13
     have u3:=Shard.okI.on u o13
     obtain ⟨xc,p,rfl,hp,wx⟩:=v3
     subst hp
     obtain ⟨cs4,h4,ft,e4,o4,u4,f4⟩:=copyShard_c (Z:=Z) k.i10 k.i13 (o13.le hf) u3 smx
     obtain ⟨b,pb,f,pf,rfl,hq,_⟩:=u3
     have hwl:=wx.len
     by_cases c1:x.state=1
     case neg=>
      have hb:(x.state !=1)=true:=by simpa using c1
      rw[WbM (by simp[Wax,c1])]
      simp only[rn,RO.dst,lk,drop,Nat.reduceBEq,Nat.reduceAdd,Nat.reduceLeDiff,↓reduceIte,reduceCtorEq,l1,l2,l3,d1,d2,d3,e1,e2,e3,hb]
      exact ⟨_,_,_,rfl,o13,⟨y,_,rfl,rfl,w⟩,f1⟩
     have hb:(x.state !=1)=false:=by simpa using c1
     by_cases c2:e≤x.epoch
     case pos=>
      have c2': ¬x.epoch<e:=by omega
      rw[WbM (by simp[Wax,c2'])]
      simp only[rn,RO.dst,lk,drop,Nat.reduceBEq,Nat.reduceAdd,Nat.reduceLeDiff,↓reduceIte,reduceCtorEq,l1,l2,l3,d1,d2,d3,e1,e2,e3,hb,c2]
      exact ⟨_,_,_,rfl,o13,⟨y,_,rfl,rfl,w⟩,f1⟩
     by_cases c3:((s.shards.length:Int)==8)=true
     case pos=>
      rw[WbM (by simp[Wax,c3])]
      simp only[rn,RO.dst,lk,drop,Nat.reduceBEq,Nat.reduceAdd,Nat.reduceLeDiff,↓reduceIte,reduceCtorEq,l1,l2,l3,d1,d2,d3,e1,e2,e3,hb,c2,hwl,c3]
      exact ⟨_,_,_,rfl,o13,⟨y,_,rfl,rfl,w⟩,f1⟩
     have c3':((s.shards.length:Int)==8)=false:=by simpa using c3
     have hi:Wax s x e=true:=by
      have:x.epoch<e:=by omega
      simp only[Wax,hn,gd,c1,c3',this,decide_true,QY,Jy,beq_self_eq_true]
     simp only[rn,RO.dst,lk,drop,Nat.reduceBEq,Nat.reduceAdd,Nat.reduceLeDiff,↓reduceIte,reduceCtorEq,l1,l2,l3,d1,d2,d3,e1,e2,e3,hb,c2,hwl,c3']
     have key:=loop_all (F:=F) (Z:=Z) (live:=[2,4,6,8,9,42,43,44]) (b:=r309L0) s.shards (fun i=>⟨[(2,.c (.int .i64 e)),(9,.c (.int .i64 ((s.shards.take i).countP x.left:Nat))),(42,.c xc),(43,.c (.int .i64 (s.shards.length:Nat))),(44,.c (.int .i64 (i:Nat)))],[(4,4,0),(6,6,0),(8,8,0)],[(4,x.cells b f),(6,[.int .i64 0,.int .i64 0,.nil]),(8,[.int .i64 s.group,.int .i64 s.seen,y])],h3⟩) (fun a=> !x.over a) _ (fun i hi=>inst_turn wx e b f y hi)
     rw[all_not] at key
     simp only[List.take_zero,List.countP_nil,show ((0:Nat):Int)=0 from rfl,Shard.cells] at key
     rcases key with ⟨a1,a2⟩ | ⟨a1,s',a2,a3,a4,a5,a6⟩
     case inr=>
      rw[install_over (by simpa using a1),a2]
      simp only[rn,RO.dst,lk,drop,Nat.reduceBEq,Nat.reduceAdd,Nat.reduceLeDiff,↓reduceIte,reduceCtorEq,a3,a4,a5,a6]
      exact ⟨_,_,_,rfl,o13,⟨y,_,rfl,rfl,w⟩,f1⟩
     rw[install_yes hi (by simpa using a1),a2,Wab]
     conv in (Wad _ _ r309L0 _)=>unfold r309L0
     have hlt: ¬(s.shards.length:Int)<s.shards.length:=by omega
     obtain ⟨b4,pb4,f4c,pf4,rfl,hq4,wb4,wf4⟩:=u4
     subst hq4
     obtain ⟨L,ndL⟩:=SlR.lit1 (tag:=16) Shard.okI (h:=h4) (cs:=[.int .u64 x.lo,.int .u64 x.hi,.int .i64 0,.int .i64 x.epoch,b4,f4c]) (t:=x.awake) ⟨b4,pb4,f4c,pf4,rfl,rfl,wb4,wf4⟩ f4.nd
     have o5:=o4.trans (On.push h4 [[.int .u64 x.lo,.int .u64 x.hi,.int .i64 0,.int .i64 x.epoch,b4,f4c]])
     have w5:=w.on Shard.okI o5
     have hlt3: ∀id,id∈fr→id<h3.next:=w.lt Shard.okI
     have fL:Fre h3 (h4.next::(pb4++pf4)):=⟨fun id hid=>by rcases Qt.1 hid with rfl | hid;exact o4.ext.1;exact f4.lo id hid,ndL⟩
     have o0:=o13.trans o5
     have hs8:s.shards.length<9:=by
      simp only[Wax,Store.next,Store.good,Qa,decide_eq_true_eq] at hi
      omega
     obtain ⟨z,g6,fz,e6,w6,re⟩:=w5.ins Shard.okI f1.nd (f1.own o0 hf) L ndL (fun id hid=>by rw[o5.fl];exact Qj (o13.le hf) (fL.lo id hid)) (fun id h1 h2=>by have:=hlt3 id h2;have:=fL.lo id h1;omega) (by simp) (bytes:=80) (by simp;omega) (by simp[maxLen];omega) (s.spot_le x)
     have fA:Fre h (fr++h4.next::(pb4++pf4)):=⟨fun id hid=>by
      rcases Qf.1 hid with h1 | h1
      ·exact f1.lo id h1
      ·exact Qj o13.ext.1 (fL.lo id h1),Qq.2 ⟨f1.nd,ndL,fun a ha b hb eq=>by have:=hlt3 a ha;have:=fL.lo b hb;omega⟩⟩
     have o6:=re.on o0 fA
     have f6:=re.fre o0 fA
     obtain ⟨cs7,h7,e7,m7,v7⟩:=renewed_c (Z:=Z) k (s:=s.plus x) ⟨z,_,rfl,rfl,w6⟩ f6.nd (f6.own o6 hf) e
     obtain ⟨n1,n2,n3⟩:=Store.lenI v7
     simp only[Store.spot] at e6
     change call F Z 321 [.agg [.int .i64 s.group,.int .i64 s.seen,z],_] g6=_ at e7
     simp only[rn,RO.dst,lk,drop,Nat.reduceBEq,Nat.reduceAdd,Nat.reduceLeDiff,↓reduceIte,reduceCtorEq,hlt,Qm,e4,Shard.cells,Qi,Qe,Wav,and_self,Qk,Qh,pr _ _,e6,e7,n1,n2,n3]
     exact ⟨_,_,_,rfl,o6.turned m7 f6,v7,f6⟩
end
section
variable {F:Nat→Option RF} {Z:Waf} {h h1:Heap} {c:Cell} {xs:List Shard} {fp fq fr:List Nat} {cs ds:List Cell} {s:Store} {x t:Shard}
theorem AccM.base {α:Type} {R:Rel α} {tag:Nat} {h0 h1 g:Heap} {y:Cell} {xs:List α} {fp:List Nat} (a:AccM R tag h1 g y xs fp) (o:On h0 h1):AccM R tag h0 g y xs fp:=
 ⟨o.trans a.on,a.sh,⟨fun id hid=>Qj o.ext.1 (a.fr.lo id hid),a.fr.nd⟩⟩
theorem AccM.old {α:Type} {R:Rel α} {tag:Nat} {h0 h1 g:Heap} {y:Cell} {xs:List α} {fp:List Nat} (a:AccM R tag h1 g y xs fp) (h:On h0 h1) {fy:List Nat} (hy: ∀id,id∈fy→id<h1.next): ∀id,id∈fy→id∉fp:=fun id h1 h2=>by
 have:=hy id h1;have:=a.fr.lo id h2;omega
theorem sinst_turn (w:SlR 16 Shard.RI h c s.shards fp) (e1:call F Z 317 [.agg [.int .i64 s.group,.int .i64 s.seen,c]] h=some (.agg ds,h1)) (hd:ds.length=3) (e:Int) (b f:Cell) {i:Nat} (hi:i<s.shards.length):
 Turn (loop F Z [2,3,4,6,8] r308L1 ⟨[(2,.c (.int .i64 e)),(8,.c (.int .i64 (i:Nat)))],[(3,3,0),(4,4,0),(6,6,0)],[(3,[.int .i64 s.group,.int .i64 s.seen,c]),(4,x.cells b f),(6,[.int .i64 0,.int .i64 0,.nil])],h⟩)
  (loop F Z [2,3,4,6,8] r308L1 ⟨[(2,.c (.int .i64 e)),(8,.c (.int .i64 ((i+1:Nat):Int)))],[(3,3,0),(4,4,0),(6,6,0)],[(3,[.int .i64 s.group,.int .i64 s.seen,c]),(4,x.cells b f),(6,[.int .i64 0,.int .i64 0,.nil])],h⟩)
  (!x.over s.shards[i]) (fun s'=>lk s'.env 7=some (.c (.bool false))∧lk s'.adr 6=some (6,0)∧lk s'.loc 6=some ds∧s'.hp=h1):=by
 have hle:=w.le2
 have hwl:=w.len
 have hlt:(i:Int)<s.shards.length:=by omega
 have hws:=WaS i (by omega)
 have hxi:=w.idx hi
 obtain ⟨r,q,hld,hR,_⟩:=w.one hi
 obtain ⟨x1,p1,x2,p2,rfl,_⟩:=hR
 clear w
 generalize s.shards[i]=a at *
 obtain ⟨d0,d1,d2,rfl⟩: ∃a b c,ds=[a,b,c]:=by
  match ds,hd with
  | [a,b,c],_=>exact ⟨a,b,c,rfl⟩
 rw[Wab]
 conv in (Wad _ _ r308L1 _)=>unfold r308L1
 have ho:x.over a=(decide (a.lo≤x.hi)&&decide (x.lo≤a.hi)):=rfl
 simp only[Shard.cells]
 by_cases c1:a.lo≤x.hi
 ·by_cases c2:x.lo≤a.hi
  ·simp only[rn,RO.dst,lk,drop,Nat.reduceBEq,Nat.reduceAdd,Nat.reduceLeDiff,↓reduceIte,reduceCtorEq,hwl,hlt,hxi,hld,c1,c2,e1]
   exact .inr ⟨by simp[ho,c1,c2],_,rfl,rfl,rfl,rfl,rfl⟩
  ·simp only[rn,RO.dst,lk,drop,Nat.reduceBEq,Nat.reduceAdd,Nat.reduceLeDiff,↓reduceIte,reduceCtorEq,hwl,hlt,hxi,hld,c1,c2,hws]
   exact .inl ⟨by simp[ho,c2],rfl⟩
 ·simp only[rn,RO.dst,lk,drop,Nat.reduceBEq,Nat.reduceAdd,Nat.reduceLeDiff,↓reduceIte,reduceCtorEq,hwl,hlt,hxi,hld,c1,hws]
  exact .inl ⟨by simp[ho,c1],rfl⟩
theorem Shard.renew_awake (x:Shard) (e:Int):Shard.renew e {x with state:=0,epoch:=e}=Shard.renew e x.awake:=rfl
theorem Store.plus_renew (s:Store) (x:Shard) (e:Int):(⟨s.group,e,s.shards.take (s.spot x)++[{x with state:=0,epoch:=e}]++s.shards.drop (s.spot x)⟩:Store).renew e=(s.plus x).renew e:=by
 simp only[Store.renew,Store.plus,Jt,List.map_cons,List.map_nil,Shard.renew_awake]
set_option maxHeartbeats 2000000 in
theorem sInstallShard_c (k:KS F) (hf:h.floor≤h.next) (v:Store.RI h cs s fp) (u:Shard.RI h ds x fq) (e:Int) (ok:s.Ok) (sm:s.Small) (okx:x.Ok) (smx:x.Small):
 ∃cs' h' fq,call F Z 308 [.agg cs,.agg ds,.c (.int .i64 e)] h=some (.tup [.agg cs',.c (.bool (War s x e).2)],h')∧On h h'∧Store.RI h' cs' (War s x e).1 fq∧Fre h fq:=by
 obtain ⟨l1,l2,l3⟩:=Store.lenI v
 obtain ⟨d1,d2,d3⟩:=Shard.lenI u
 obtain ⟨cs1,h1,fr,e1,o1,v1,f1⟩:=WaZ (Z:=Z) k hf v sm
 obtain ⟨m1,m2,m3⟩:=Store.lenI v1
 have e2:=l13Next_run (Z:=Z) k v ok e
 have e3:=l13Shard_run (Z:=Z) k.s01 k.s10 k.s13 u okx
 rw[Wac F Z (k.s13.lk (g:=308) rfl) _ _ rfl]
 cases hn:s.next e with
 | false=>
   rw[hn] at e2
   rw[WbM (by simp[Wax,hn])]
   simp only[rn,RO.dst,lk,drop,Nat.reduceBEq,Nat.reduceAdd,Nat.reduceLeDiff,↓reduceIte,reduceCtorEq,l1,l2,l3,d1,d2,d3,m1,m2,m3,e1,e2]
   exact ⟨_,_,_,rfl,o1,v1,f1⟩
 | true=>
   rw[hn] at e2
   cases gd:x.good with
   | false=>
     rw[gd] at e3
     rw[WbM (by simp[Wax,gd])]
     simp only[rn,RO.dst,lk,drop,Nat.reduceBEq,Nat.reduceAdd,Nat.reduceLeDiff,↓reduceIte,reduceCtorEq,l1,l2,l3,d1,d2,d3,m1,m2,m3,e1,e2,e3]
     exact ⟨_,_,_,rfl,o1,v1,f1⟩
   | true=>
     rw[gd] at e3
     obtain ⟨xc,p,rfl,hp,wx⟩:=v
     subst hp
     obtain ⟨cs4,h4,ft,e4,o4,u4,f4⟩:=WaF (Z:=Z) k.s10 k.s13 hf u smx
     obtain ⟨b,pb,f,pf,rfl,hq,_⟩:=u
     have hwl:=wx.len
     by_cases c1:x.state=1
     case neg=>
      have hb:(x.state !=1)=true:=by simpa using c1
      rw[WbM (by simp[Wax,c1])]
      simp only[rn,RO.dst,lk,drop,Nat.reduceBEq,Nat.reduceAdd,Nat.reduceLeDiff,↓reduceIte,reduceCtorEq,l1,l2,l3,d1,d2,d3,m1,m2,m3,e1,e2,e3,hb]
      exact ⟨_,_,_,rfl,o1,v1,f1⟩
     have hb:(x.state !=1)=false:=by simpa using c1
     by_cases c2:e≤x.epoch
     case pos=>
      have c2': ¬x.epoch<e:=by omega
      rw[WbM (by simp[Wax,c2'])]
      simp only[rn,RO.dst,lk,drop,Nat.reduceBEq,Nat.reduceAdd,Nat.reduceLeDiff,↓reduceIte,reduceCtorEq,l1,l2,l3,d1,d2,d3,m1,m2,m3,e1,e2,e3,hb,c2]
      exact ⟨_,_,_,rfl,o1,v1,f1⟩
     by_cases c3:((s.shards.length:Int)==8)=true
     case pos=>
      rw[WbM (by simp[Wax,c3])]
      simp only[rn,RO.dst,lk,drop,Nat.reduceBEq,Nat.reduceAdd,Nat.reduceLeDiff,↓reduceIte,reduceCtorEq,l1,l2,l3,d1,d2,d3,m1,m2,m3,e1,e2,e3,hb,c2,hwl,c3]
      exact ⟨_,_,_,rfl,o1,v1,f1⟩
     have c3':((s.shards.length:Int)==8)=false:=by simpa using c3
     have hi:Wax s x e=true:=by
      have:x.epoch<e:=by omega
      simp only[Wax,hn,gd,c1,c3',this,decide_true,QY,Jy,beq_self_eq_true]
     simp only[rn,RO.dst,lk,drop,Nat.reduceBEq,Nat.reduceAdd,Nat.reduceLeDiff,↓reduceIte,reduceCtorEq,l1,l2,l3,d1,d2,d3,e2,e3,hb,c2,hwl,c3']
     have key:=loop_all (F:=F) (Z:=Z) (live:=[2,3,4,6,8]) (b:=r308L1) s.shards (fun i=>⟨[(2,.c (.int .i64 e)),(8,.c (.int .i64 (i:Nat)))],[(3,3,0),(4,4,0),(6,6,0)],[(3,[.int .i64 s.group,.int .i64 s.seen,xc]),(4,x.cells b f),(6,[.int .i64 0,.int .i64 0,.nil])],h⟩) (fun a=> !x.over a) _ (fun i hi=>sinst_turn wx e1 m1 e b f hi)
     rw[all_not] at key
     simp only[show ((0:Nat):Int)=0 from rfl,Shard.cells] at key
     rcases key with ⟨a1,a2⟩ | ⟨a1,s',a2,a3,a4,a5,a6⟩
     case inr=>
      rw[install_over (by simpa using a1),a2]
      simp only[rn,RO.dst,lk,drop,Nat.reduceBEq,Nat.reduceAdd,Nat.reduceLeDiff,↓reduceIte,reduceCtorEq,a3,a4,a5,a6,m1,m2,m3]
      exact ⟨_,_,_,rfl,o1,v1,f1⟩
     have ho:s.shards.any x.over=false:=by simpa using a1
     have hgood:s.good=true:=by
      simp only[Store.next,Qa] at hn
      exact hn.1
     rw[install_yes hi ho,a2,Wab]
     conv in (Wad _ _ r308L1 _)=>unfold r308L1
     have hlt: ¬(s.shards.length:Int)<s.shards.length:=by omega
     obtain ⟨b4,pb4,f4c,pf4,rfl,hq4,wb4,wf4⟩:=u4
     subst hq4
     have hs8:s.shards.length<9:=by
      simp only[Wax,Store.next,Store.good,Qa,decide_eq_true_eq] at hi
      omega
     have hy:Shard.RI h4 [.int .u64 x.lo,.int .u64 x.hi,.int .i64 0,.int .i64 e,b4,f4c] {x with state:=0,epoch:=e} (pb4++pf4):=⟨b4,pb4,f4c,pf4,rfl,rfl,wb4,wf4⟩
     have hylt: ∀id,id∈pb4++pf4→id<h4.next:=Shard.okI.lt hy
     simp only[rn,RO.dst,lk,drop,Nat.reduceBEq,Nat.reduceAdd,Nat.reduceLeDiff,↓reduceIte,reduceCtorEq,hwl,hlt,e4]
     clear a2 e2 e3 d1 d2 d3 l1 l2 l3 m1 m2 m3 e1 o1 v1 f1 e4
     obtain ⟨s',⟨y,g,fq,hs,a,ap⟩,lp⟩:=WaB (F:=F) (Z:=Z) (live:=[2,3,6,9,10,11,12]) (b:=r308L0) s.shards.length (fun i st=> ∃y g fq,st=⟨[(2,.c (.int .i64 e)),(11,.c (.bool (decide (s.spot x<i)))),(12,.c (.int .i64 (i:Nat)))],[(3,3,0),(6,6,0),(9,9,0),(10,10,0)],[(3,[.int .i64 s.group,.int .i64 s.seen,xc]),(6,[.int .i64 0,.int .i64 0,.nil]),(9,[.int .i64 s.group,.int .i64 e,y]),(10,[.int .u64 x.lo,.int .u64 x.hi,.int .i64 0,.int .i64 e,b4,f4c])],g⟩∧
      AccM Shard.RI 16 h g y (s.part {x with state:=0,epoch:=e} (s.spot x) i) fq∧(i≤s.spot x→AccM Shard.RI 16 h4 g y (s.part {x with state:=0,epoch:=e} (s.spot x) i) fq)) (fun i st hi ⟨y,g,fq,hs,a,ap⟩=>by
      subst hs
      have hlt:(i:Int)<s.shards.length:=by omega
      have hle:=wx.le2
      have hws:=WaS i (by omega)
      have hxi:=wx.idx hi
      have hgt:=Store.spot_gt hgood gd ho hi
      have hpl:=s.part_len {x with state:=0,epoch:=e} (s.spot x) i
      obtain ⟨q1,qf,hld0,hR0,_⟩:=(wx.on Shard.okI a.on).one hi
      rw[Wab]
      conv in (Wad _ _ r308L0 _)=>unfold r308L0
      by_cases hp:s.spot x<i
      ·obtain ⟨r1,r2,r3⟩:=Shard.lenI hR0
       obtain ⟨cs',h',g1,fr,e1,hg1,o1,u1,f1,c1⟩:=Wbv (Z:=Z) k.s10 k.s13 hR0 (sm.2 _ (Qd hi))
       obtain ⟨y',g',fp',e2,a2⟩:=a.next hf (by omega) o1 u1 f1
       rw[←Store.part_yes hi hp] at a2
       have hd1:decide (s.spot x<i)=true:=by simpa using hp
       have hd2:decide (s.spot x<i+1)=true:=by simp;omega
       simp only[rn,RO.dst,lk,drop,Nat.reduceBEq,Nat.reduceAdd,Nat.reduceLeDiff,↓reduceIte,reduceCtorEq,hwl,hlt,hxi,hd1,hd2,hld0,r1,r2,r3,e1,hg1,Qi,Qe,Wav,and_self,Qk,c1,Qh,e2,hws]
       exact ⟨_,⟨_,_,_,rfl,a2,fun hc=>by omega⟩,rfl⟩
      ·have hd1:decide (s.spot x<i)=false:=by simpa using hp
       have ap:=ap (by omega)
       have hR0':=hR0
       obtain ⟨z1,zp1,z2,zp2,rfl,_⟩:=hR0'
       by_cases hq:s.spot x=i
       ·subst hq
        have hgt':s.shards[s.spot x].lo>x.lo:=hgt.2 (Qy _)
        obtain ⟨y',g',fp',e2,a2,_⟩:=a.one (g:=g) Shard.okI hf (bytes:=80) (by omega) (by omega) (On.refl g) (Shard.okI.on hy ap.on) ⟨fun id hid=>f4.lo id hid,f4.nd⟩ (ap.old (On.refl h4) hylt)
        obtain ⟨q2,qf2,hld2,hR2,_⟩:=(wx.on Shard.okI a2.on).one hi
        obtain ⟨r1,r2,r3⟩:=Shard.lenI hR2
        obtain ⟨cs',h',g1,fr,e1,hg1,o1,u1,f1,c1⟩:=Wbv (Z:=Z) k.s10 k.s13 hR2 (sm.2 _ (Qd hi))
        obtain ⟨y3,g3,fp3,e3,a3⟩:=a2.next hf (by simp;omega) o1 u1 f1
        rw[←Store.part_at hi] at a3
        have hd2:decide (s.spot x<s.spot x+1)=true:=by simp
        simp only[rn,RO.dst,lk,drop,Nat.reduceBEq,Nat.reduceAdd,Nat.reduceLeDiff,↓reduceIte,reduceCtorEq,hwl,hlt,hxi,hd1,hd2,hld0,hgt',Qi,Qe,Wav,and_self,Qk,Qh,e2,hld2,r1,r2,r3,e1,hg1,c1,e3,hws]
        exact ⟨_,⟨_,_,_,rfl,a3,fun hc=>by omega⟩,rfl⟩
       ·have hgt': ¬s.shards[i].lo>x.lo:=fun hc=>by have:=hgt.1 hc;omega
        obtain ⟨r1,r2,r3⟩:=Shard.lenI hR0
        obtain ⟨cs',h',g1,fr,e1,hg1,o1,u1,f1,c1⟩:=Wbv (Z:=Z) k.s10 k.s13 hR0 (sm.2 _ (Qd hi))
        obtain ⟨y',g',fp',e2,a2⟩:=ap.next (o4.le hf) (by omega) o1 u1 f1
        rw[←Store.part_no hi (by omega)] at a2
        have hd2:decide (s.spot x<i+1)=false:=by simp;omega
        simp only[rn,RO.dst,lk,drop,Nat.reduceBEq,Nat.reduceAdd,Nat.reduceLeDiff,↓reduceIte,reduceCtorEq,hwl,hlt,hxi,hd1,hd2,hld0,hgt',r1,r2,r3,e1,hg1,Qi,Qe,Wav,and_self,Qk,c1,Qh,e2,hws]
        exact ⟨_,⟨_,_,_,rfl,a2.base o4,fun _=>a2⟩,rfl⟩) (s:=⟨[(2,.c (.int .i64 e)),(11,.c (.bool false)),(12,.c (.int .i64 (0:Nat)))],[(3,3,0),(6,6,0),(9,9,0),(10,10,0)],[(3,[.int .i64 s.group,.int .i64 s.seen,xc]),(6,[.int .i64 0,.int .i64 0,.nil]),(9,[.int .i64 s.group,.int .i64 e,.nil]),(10,[.int .u64 x.lo,.int .u64 x.hi,.int .i64 0,.int .i64 e,b4,f4c])],h4⟩) ⟨.nil,h4,[],by simp,by simpa[Store.part] using AccM.none Shard.RI 16 o4,fun _=>by simpa[Store.part] using AccM.nil Shard.RI 16 h4⟩
     subst hs
     simp only[show ((0:Nat):Int)=0 from rfl] at lp
     have hlt: ¬(s.shards.length:Int)<s.shards.length:=by omega
     rw[lp,Wab]
     conv in (Wad _ _ r308L0 _)=>unfold r308L0
     have hfin: ∀{z:Cell} {g':Heap} {fz:List Nat},AccM Shard.RI 16 h g' z (s.shards.take (s.spot x)++[{x with state:=0,epoch:=e}]++s.shards.drop (s.spot x)) fz→
      ∃cs5 h5 f5,call F Z 318 [.agg [.int .i64 s.group,.int .i64 e,z],.c (.int .i64 e)] g'=some (.agg cs5,h5)∧On h h5∧Store.RI h5 cs5 ((s.plus x).renew e) f5∧Fre h f5∧cs5.length=3∧cs5.take 3=cs5∧cs5.drop 3=[]:=fun {z g' fz} az=>by
      obtain ⟨cs5,h5,f5,e5,o5,v5,r5⟩:=l13Renew_c (Z:=Z) k (s:=⟨s.group,e,s.shards.take (s.spot x)++[{x with state:=0,epoch:=e}]++s.shards.drop (s.spot x)⟩) (az.on.le hf) ⟨z,_,rfl,rfl,az.sh⟩ (by
       refine ⟨?_,fun a ha=> ?_⟩
       ·simp only[Ql,Qg,Qw,Qz,QI];omega
       ·simp only[Qf,Jb] at ha
        rcases ha with (ha | ha) | ha
        ·exact sm.2 a (QO ha)
        ·subst ha;exact smx
        ·exact sm.2 a (QG ha)) e
      rw[Store.plus_renew] at v5
      obtain ⟨n1,n2,n3⟩:=Store.lenI v5
      exact ⟨cs5,h5,f5,e5,az.on.trans o5,v5,⟨fun id hid=>Qj az.on.ext.1 (r5.lo id hid),r5.nd⟩,n1,n2,n3⟩
     by_cases hp:s.spot x<s.shards.length
     ·rw[Store.part_end hp] at a
      obtain ⟨cs5,h5,f5,e5,o5,v5,r5,n1,n2,n3⟩:=hfin a
      have hd1:decide (s.spot x<s.shards.length)=true:=by simpa using hp
      simp only[rn,RO.dst,lk,drop,Nat.reduceBEq,Nat.reduceAdd,Nat.reduceLeDiff,↓reduceIte,reduceCtorEq,hwl,hlt,hd1,e5,n1,n2,n3]
      exact ⟨_,_,_,rfl,o5,v5,r5⟩
     ·have hp':s.spot x=s.shards.length:=by have:=s.spot_le x;omega
      have ap:=ap (by omega)
      have hpl:=s.part_len {x with state:=0,epoch:=e} (s.spot x) s.shards.length
      obtain ⟨y',g',fp',e2,a2,_⟩:=a.one (g:=g) Shard.okI hf (bytes:=80) (by omega) (by omega) (On.refl g) (Shard.okI.on hy ap.on) ⟨fun id hid=>f4.lo id hid,f4.nd⟩ (ap.old (On.refl h4) hylt)
      rw[Store.part_last hp'] at a2
      obtain ⟨cs5,h5,f5,e5,o5,v5,r5,n1,n2,n3⟩:=hfin a2
      have hd1:decide (s.spot x<s.shards.length)=false:=by simpa using hp
      simp only[rn,RO.dst,lk,drop,Nat.reduceBEq,Nat.reduceAdd,Nat.reduceLeDiff,↓reduceIte,reduceCtorEq,hwl,hlt,hd1,Qi,Qe,Wav,and_self,Qk,Qh,e2,e5,n1,n2,n3]
      exact ⟨_,_,_,rfl,o5,v5,r5⟩
end
def Account.inside (lo hi:Int) (a:Account):Bool:=decide (lo≤a.id)&&decide (a.id≤hi)
def Fin.inside (lo hi:Int) (a:Fin):Bool:=decide (lo≤a.id)&&decide (a.id≤hi)
def Shard.within (x:Shard) (lo hi e:Int):Shard:=⟨lo,hi,x.state,e,⟨x.book.list.filter (Account.inside lo hi)⟩,x.finished.filter (Fin.inside lo hi)⟩
theorem Shard.within_small {x:Shard} (sm:x.Small) (lo hi e:Int):(x.within lo hi e).Small:=
 ⟨Qj (QK _ _) sm.1,Qj (QK _ _) sm.2⟩
section
variable {F:Nat→Option RF} {Z:Waf} {h:Heap} {cs:List Cell} {fp:List Nat} {t:Shard}
set_option maxHeartbeats 1000000 in
theorem l13Within_c (hS13:Has F tS13) (hf:h.floor≤h.next) (v:Shard.RI h cs t fp) (sm:t.Small) (lo hi e:Int):
 ∃cs' h' fq,call F Z 333 [.agg cs,.c (.int .u64 lo),.c (.int .u64 hi),.c (.int .i64 e)] h=some (.agg cs',h')∧On h h'∧Shard.RI h' cs' (t.within lo hi e) fq∧Fre h fq:=by
 obtain ⟨x,p,z,q,rfl,rfl,w,u⟩:=v
 obtain ⟨sm1,sm2⟩:=sm
 have sm1:t.book.list.length≤1048576:=sm1
 have hwl:=w.len
 have hul:=u.len
 have hwe:=w.le2
 have hue:=u.le2
 rw[Wac F Z (hS13.lk (g:=333) rfl) _ _ rfl]
 simp only[rn,RO.dst,lk,drop,Nat.reduceBEq,Nat.reduceAdd,Nat.reduceLeDiff,↓reduceIte,reduceCtorEq]
 obtain ⟨s',⟨y,g,hs,a⟩,lp⟩:=WaB (F:=F) (Z:=Z) (live:=[1,2,4,8,9,10]) (b:=r333L1) t.book.list.length (fun i st=> ∃y g,st=⟨[(1,.c (.int .u64 lo)),(2,.c (.int .u64 hi)),(10,.c (.int .i64 (i:Nat)))],[(4,4,0),(8,8,0),(9,9,0)],[(4,[.int .u64 t.lo,.int .u64 t.hi,.int .i64 t.state,.int .i64 t.epoch,x,z]),(8,[.int .u64 0,.int .u64 0,.int .i64 0,.int .i64 0,.nil,.nil]),(9,[.int .u64 lo,.int .u64 hi,.int .i64 t.state,.int .i64 e,y,.nil])],g⟩∧Acc 11 h g y (((t.book.list.take i).filter (Account.inside lo hi)).map Account.enc)) (fun i st hi' ⟨y,g,hs,a⟩=>by
  subst hs
  have hlt:(i:Int)<t.book.list.length:=by omega
  have hws:=WaS i (by omega)
  have hxi:=w.idx hi'
  have hld:=(w.on (Fl.ok _) a.on).load hi'
  have hfn:=filter_next (Account.inside lo hi) hi'
  have hfl:=filter_len (Account.inside lo hi) t.book.list i
  rw[Wab]
  conv in (Wad _ _ r333L1 _)=>unfold r333L1
  have hd:Account.inside lo hi t.book.list[i]=(decide (lo≤t.book.list[i].id)&&decide (t.book.list[i].id≤hi)):=rfl
  generalize t.book.list[i]=b at *
  by_cases c1:b.id≥lo
  ·have c1':lo≤b.id:=c1
   by_cases c2:b.id≤hi
   ·have e3:=a.one_eq hf (bytes:=40) (by rw[Qx];omega) b.enc
    have a2:=a.one hf (by rw[Qx];omega) b.enc
    have hm:((t.book.list.take i).filter (Account.inside lo hi)).map Account.enc++[b.enc]=((t.book.list.take (i+1)).filter (Account.inside lo hi)).map Account.enc:=by
     rw[hfn,hd];simp[c1',c2]
    rw[hm] at a2
    simp only[Account.enc] at hld e3 a2
    simp only[rn,RO.dst,lk,drop,Nat.reduceBEq,Nat.reduceAdd,Nat.reduceLeDiff,↓reduceIte,reduceCtorEq,hwl,hlt,hxi,hld,c1,c2,Qi,Qe,Wav,and_self,Qk,Qh,e3,hws,Account.enc]
    exact ⟨_,⟨_,_,rfl,a2⟩,rfl⟩
   ·have hm:((t.book.list.take (i+1)).filter (Account.inside lo hi))=((t.book.list.take i).filter (Account.inside lo hi)):=by
     rw[hfn,hd];simp[c2]
    rw[←hm] at a
    simp only[Account.enc] at hld
    simp only[rn,RO.dst,lk,drop,Nat.reduceBEq,Nat.reduceAdd,Nat.reduceLeDiff,↓reduceIte,reduceCtorEq,hwl,hlt,hxi,hld,c1,c2,hws]
    exact ⟨_,⟨_,_,rfl,a⟩,rfl⟩
  ·have hm:((t.book.list.take (i+1)).filter (Account.inside lo hi))=((t.book.list.take i).filter (Account.inside lo hi)):=by
    have c1': ¬lo≤b.id:=c1
    rw[hfn,hd];simp[c1']
   rw[←hm] at a
   simp only[Account.enc] at hld
   simp only[rn,RO.dst,lk,drop,Nat.reduceBEq,Nat.reduceAdd,Nat.reduceLeDiff,↓reduceIte,reduceCtorEq,hwl,hlt,hxi,hld,c1,hws]
   exact ⟨_,⟨_,_,rfl,a⟩,rfl⟩) (s:=⟨[(1,.c (.int .u64 lo)),(2,.c (.int .u64 hi)),(10,.c (.int .i64 (0:Nat)))],[(4,4,0),(8,8,0),(9,9,0)],[(4,[.int .u64 t.lo,.int .u64 t.hi,.int .i64 t.state,.int .i64 t.epoch,x,z]),(8,[.int .u64 0,.int .u64 0,.int .i64 0,.int .i64 0,.nil,.nil]),(9,[.int .u64 lo,.int .u64 hi,.int .i64 t.state,.int .i64 e,.nil,.nil])],h⟩) ⟨_,_,rfl,by simpa using Acc.nil 11 h⟩
 subst hs
 rw[Qm] at a
 obtain ⟨o1,fy,wy,fyr⟩:=a.flat (enc:=Account.enc)
 simp only[show ((0:Nat):Int)=0 from rfl] at lp
 have hlt: ¬(t.book.list.length:Int)<t.book.list.length:=by omega
 rw[lp,Wab]
 conv in (Wad _ _ r333L1 _)=>unfold r333L1
 simp only[rn,RO.dst,lk,drop,Nat.reduceBEq,Nat.reduceAdd,Nat.reduceLeDiff,↓reduceIte,reduceCtorEq,hwl,hlt]
 clear lp a
 have u1:=u.on (Fl.ok _) o1
 obtain ⟨s',⟨z',g',hs,a⟩,lp⟩:=WaB (F:=F) (Z:=Z) (live:=[1,2,4,8,9,11]) (b:=r333L0) t.finished.length (fun i st=> ∃z' g',st=⟨[(1,.c (.int .u64 lo)),(2,.c (.int .u64 hi)),(11,.c (.int .i64 (i:Nat)))],[(4,4,0),(8,8,0),(9,9,0)],[(4,[.int .u64 t.lo,.int .u64 t.hi,.int .i64 t.state,.int .i64 t.epoch,x,z]),(8,[.int .u64 0,.int .u64 0,.int .i64 0,.int .i64 0,.nil,.nil]),(9,[.int .u64 lo,.int .u64 hi,.int .i64 t.state,.int .i64 e,y,z'])],g'⟩∧Acc 9 g g' z' (((t.finished.take i).filter (Fin.inside lo hi)).map Fin.enc)) (fun i st hi' ⟨z',g',hs,a⟩=>by
  subst hs
  have hlt:(i:Int)<t.finished.length:=by omega
  have hws:=WaS i (by omega)
  have hxi:=u.idx hi'
  have hld:=(u1.on (Fl.ok _) a.on).load hi'
  have hfn:=filter_next (Fin.inside lo hi) hi'
  have hfl:=filter_len (Fin.inside lo hi) t.finished i
  have hf1:=o1.le hf
  rw[Wab]
  conv in (Wad _ _ r333L0 _)=>unfold r333L0
  have hd:Fin.inside lo hi t.finished[i]=(decide (lo≤t.finished[i].id)&&decide (t.finished[i].id≤hi)):=rfl
  generalize t.finished[i]=b at *
  by_cases c1:b.id≥lo
  ·have c1':lo≤b.id:=c1
   by_cases c2:b.id≤hi
   ·have e3:=a.one_eq hf1 (bytes:=16) (by rw[Qx];omega) b.enc
    have a2:=a.one hf1 (by rw[Qx];omega) b.enc
    have hm:((t.finished.take i).filter (Fin.inside lo hi)).map Fin.enc++[b.enc]=((t.finished.take (i+1)).filter (Fin.inside lo hi)).map Fin.enc:=by
     rw[hfn,hd];simp[c1',c2]
    rw[hm] at a2
    simp only[Fin.enc] at hld e3 a2
    simp only[rn,RO.dst,lk,drop,Nat.reduceBEq,Nat.reduceAdd,Nat.reduceLeDiff,↓reduceIte,reduceCtorEq,hul,hlt,hxi,hld,c1,c2,Qi,Qe,Wav,and_self,Qk,Qh,e3,hws,Fin.enc]
    exact ⟨_,⟨_,_,rfl,a2⟩,rfl⟩
   ·have hm:((t.finished.take (i+1)).filter (Fin.inside lo hi))=((t.finished.take i).filter (Fin.inside lo hi)):=by
     rw[hfn,hd];simp[c2]
    rw[←hm] at a
    simp only[Fin.enc] at hld
    simp only[rn,RO.dst,lk,drop,Nat.reduceBEq,Nat.reduceAdd,Nat.reduceLeDiff,↓reduceIte,reduceCtorEq,hul,hlt,hxi,hld,c1,c2,hws]
    exact ⟨_,⟨_,_,rfl,a⟩,rfl⟩
  ·have hm:((t.finished.take (i+1)).filter (Fin.inside lo hi))=((t.finished.take i).filter (Fin.inside lo hi)):=by
    have c1': ¬lo≤b.id:=c1
    rw[hfn,hd];simp[c1']
   rw[←hm] at a
   simp only[Fin.enc] at hld
   simp only[rn,RO.dst,lk,drop,Nat.reduceBEq,Nat.reduceAdd,Nat.reduceLeDiff,↓reduceIte,reduceCtorEq,hul,hlt,hxi,hld,c1,hws]
   exact ⟨_,⟨_,_,rfl,a⟩,rfl⟩) (s:=⟨[(1,.c (.int .u64 lo)),(2,.c (.int .u64 hi)),(11,.c (.int .i64 (0:Nat)))],[(4,4,0),(8,8,0),(9,9,0)],[(4,[.int .u64 t.lo,.int .u64 t.hi,.int .i64 t.state,.int .i64 t.epoch,x,z]),(8,[.int .u64 0,.int .u64 0,.int .i64 0,.int .i64 0,.nil,.nil]),(9,[.int .u64 lo,.int .u64 hi,.int .i64 t.state,.int .i64 e,y,.nil])],g⟩) ⟨_,_,rfl,by simpa using Acc.nil 9 g⟩
 subst hs
 rw[Qm] at a
 obtain ⟨o2,fz,wz,fzr⟩:=a.flat (enc:=Fin.enc)
 simp only[show ((0:Nat):Int)=0 from rfl] at lp
 have hlt: ¬(t.finished.length:Int)<t.finished.length:=by omega
 rw[lp,Wab]
 conv in (Wad _ _ r333L0 _)=>unfold r333L0
 simp only[rn,RO.dst,lk,drop,Nat.reduceBEq,Nat.reduceAdd,Nat.reduceLeDiff,↓reduceIte,reduceCtorEq,hul,hlt]
 exact ⟨_,_,_,rfl,o1.trans o2,⟨y,fy,z',fz,rfl,rfl,wy.on (Fl.ok _) o2,wz⟩,Fre.app fyr (wy.lt (Fl.ok _)) fzr o1.ext.1⟩
theorem l13Within_q (hS13:Has F tS13) (v:Shard.RI h cs t fp) (sm:t.Small) (lo hi e:Int):
 ∃cs' h' g fq,call F Z 333 [.agg cs,.c (.int .u64 lo),.c (.int .u64 hi),.c (.int .i64 e)] ⟨h.next,h.next,h.get⟩=some (.agg cs',h')∧Heap.mk h'.next h.floor h'.get=g∧On h g∧Shard.RI g cs' (t.within lo hi e) fq∧Fre h fq∧cs'.length=6:=by
 obtain ⟨cs',h',fq,e1,o,u,f⟩:=l13Within_c (Z:=Z) (h:=⟨h.next,h.next,h.get⟩) hS13 (Qy _) (Shard.okI.up v h.next) sm lo hi e
 exact ⟨cs',h',_,fq,e1,rfl,⟨⟨o.ext.1,o.ext.2⟩,rfl⟩,Shard.okI.up u h.floor,⟨f.lo,f.nd⟩,(Shard.lenI u).1⟩
end
def Shard.one_ (x:Shard) (a e:Int):Shard:=x.within x.lo (a-1) e
def Shard.two_ (x:Shard) (a e:Int):Shard:=x.within a x.hi e
def Store.cutAt (s:Store) (k:Nat) (a e:Int):Store:={s with shards:=s.shards.take k++[(Shard.at_ s.shards k).one_ a e,(Shard.at_ s.shards k).two_ a e]++s.shards.drop (k+1)}
def WaI (s:Store) (a e:Int):Store×Bool:=
 bif s.next e&&(decide (0≤Waz s.shards a)&&(((Shard.at_ s.shards (Waz s.shards a).toNat).state==0)&&(!((Shard.at_ s.shards (Waz s.shards a).toNat).lo==a)&& !((s.shards.length:Int)==8)))) then ((s.cutAt (Waz s.shards a).toNat a e).renew e,true) else (s,false)
theorem cut_no {s:Store} {a e:Int} (h:s.next e=false):WaI s a e=(s,false):=by simp[WaI,h]
theorem cut_away {s:Store} {a e:Int} (h:Waz s.shards a= -1):WaI s a e=(s,false):=by simp[WaI,h]
theorem cut_if {s:Store} {a e:Int} {k:Nat} (h0:s.next e=true) (h:Waz s.shards a=(k:Int)):WaI s a e=bif ((Shard.at_ s.shards k).state==0)&&(!((Shard.at_ s.shards k).lo==a)&& !((s.shards.length:Int)==8)) then ((s.cutAt k a e).renew e,true) else (s,false):=by simp[WaI,h0,h]
theorem Store.cutAt_small {s:Store} (sm:s.Small) {k:Nat} (hk:k<s.shards.length) (a e:Int) (hl:s.shards.length≤8):(s.cutAt k a e).Small:=by
 refine ⟨?_,fun b hb=> ?_⟩
 ·simp only[Store.cutAt,Ql,Qg,Qw,Qz,QI];omega
 ·simp only[Store.cutAt,Qf,Qt,Jh,or_false] at hb
  rcases hb with (hb | hb | hb) | hb
  ·exact sm.2 b (QO hb)
  ·subst hb;exact Shard.within_small (Store.at_small sm hk) _ _ _
  ·subst hb;exact Shard.within_small (Store.at_small sm hk) _ _ _
  ·exact sm.2 b (QG hb)
theorem Store.next_len {s:Store} {e:Int} (h:s.next e=true):s.shards.length≤8:=by
 simp only[Store.next,Store.good,Qa,decide_eq_true_eq] at h
 omega
def Store.cpart (s:Store) (p q:Shard) (k i:Nat):List Shard:=if k<i then s.shards.take k++[p,q]++(s.shards.take i).drop (k+1) else s.shards.take i
theorem Store.cpart_no {s:Store} {p q:Shard} {k i:Nat} (hi:i<s.shards.length) (h:i<k):s.cpart p q k (i+1)=s.cpart p q k i++[s.shards[i]]:=by
 simp only[Store.cpart]
 rw[if_neg (by omega),if_neg (by omega),Qn,Qb hi];rfl
theorem Store.cpart_at {s:Store} {p q:Shard} {i:Nat} (hi:i<s.shards.length):s.cpart p q i (i+1)=s.cpart p q i i++[p]++[q]:=by
 simp only[Store.cpart]
 rw[if_pos (by omega),if_neg (by omega),Je (by rw[Qg];omega)]
 simp
theorem Store.cpart_yes {s:Store} {p q:Shard} {k i:Nat} (hi:i<s.shards.length) (h:k<i):s.cpart p q k (i+1)=s.cpart p q k i++[s.shards[i]]:=by
 simp only[Store.cpart]
 rw[if_pos (by omega),if_pos h,Qn,Qb hi,QR (by rw[Qg];omega),←QN];rfl
theorem Store.cpart_end {s:Store} {p q:Shard} {k:Nat} (h:k<s.shards.length):s.cpart p q k s.shards.length=s.shards.take k++[p,q]++s.shards.drop (k+1):=by
 simp only[Store.cpart];rw[if_pos h,Qm]
theorem Store.cpart_len (s:Store) (p q:Shard) (k i:Nat):(s.cpart p q k i).length≤s.shards.length+2:=by
 simp only[Store.cpart]
 split<;>simp only[Ql,Qg,Qw,Qz,QI]<;>omega
section
variable {F:Nat→Option RF} {Z:Waf} {h:Heap} {cs:List Cell} {fp:List Nat} {s:Store}
theorem SlR.oneOn {α:Type} {R:Rel α} {tag:Nat} {x:Cell} {xs:List α} (ok:RelOk R) (w:SlR tag R h x xs fp) {i:Nat} (hi:i<xs.length): ∃r f,R h r xs[i] f∧ ∀g,On h g→(∀j n,WaC g x.sid i j n=cut? r j n)∧R g r xs[i] f:=by
 rcases w with ⟨_,⟨rfl,rfl,_⟩ | ⟨id,rows,fps,rfl,h1,h3,rfl,h2⟩⟩
 ·exact absurd hi (QZ _)
 ·obtain ⟨r,f,q1,q2,q3⟩:=h2.at i hi
  exact ⟨r,f,q3,fun g o=>⟨fun j n=>by simp[WaC,WbL,Cell.sid,o.ext.2 id h3,h1,q1],ok.on q3 o⟩⟩
set_option maxHeartbeats 2000000 in
theorem sCutShard_c (k:KS F) (hf:h.floor≤h.next) (v:Store.RI h cs s fp) (a e:Int) (ha:0≤a∧a≤18446744073709551615) (ok:s.Ok) (sm:s.Small):
 ∃cs' h' fq,call F Z 311 [.agg cs,.c (.int .u64 a),.c (.int .i64 e)] h=some (.tup [.agg cs',.c (.bool (WaI s a e).2)],h')∧On h h'∧Store.RI h' cs' (WaI s a e).1 fq∧Fre h fq:=by
 obtain ⟨l1,l2,l3⟩:=Store.lenI v
 obtain ⟨cs1,h1,fr,e1,o1,v1,f1⟩:=WaZ (Z:=Z) k hf v sm
 obtain ⟨m1,m2,m3⟩:=Store.lenI v1
 have e2:=l13Next_run (Z:=Z) k v ok e
 have e3:=Wbs (Z:=Z) k.s13 v a
 rw[Wac F Z (k.s13.lk (g:=311) rfl) _ _ rfl]
 cases hn:s.next e with
 | false=>
   rw[hn] at e2
   rw[cut_no hn]
   simp only[rn,RO.dst,lk,drop,Nat.reduceBEq,Nat.reduceAdd,Nat.reduceLeDiff,↓reduceIte,reduceCtorEq,l1,l2,l3,m1,m2,m3,e1,e2,e3]
   exact ⟨_,_,_,rfl,o1,v1,f1⟩
 | true=>
   rw[hn] at e2
   obtain ⟨x,p,rfl,hp,w⟩:=v
   subst hp
   rcases w.found (fun t=>decide (t.lo≤a)&&decide (a≤t.hi)) with q | ⟨j,q,hj,hpj,hx,_,_,hld⟩
   ·change Waz s.shards a= -1 at q
    rw[cut_away q]
    rw[q] at e3
    simp only[rn,RO.dst,lk,drop,Nat.reduceBEq,Nat.reduceAdd,Nat.reduceLeDiff,↓reduceIte,reduceCtorEq,l1,l2,l3,m1,m2,m3,e1,e2,e3,Int.reduceLT,Int.reduceNeg]
    exact ⟨_,_,_,rfl,o1,v1,f1⟩
   change Waz s.shards a=(j:Int) at q
   rw[q] at e3
   rw[cut_if hn q]
   have g0: ¬(j:Int)<0:=by omega
   have hwl:=w.len
   have hl8:=Store.next_len hn
   by_cases c2:(Shard.at_ s.shards j).lo=a
   ·have c2':((Shard.at_ s.shards j).lo==a)=true:=by simpa using c2
    rw[c2']
    simp only[JL,QP,Jm,cond_false]
    simp only[rn,RO.dst,lk,drop,Nat.reduceBEq,Nat.reduceAdd,Nat.reduceLeDiff,↓reduceIte,reduceCtorEq,l1,l2,l3,m1,m2,m3,e1,e2,e3,g0,hx,hld,Shard.cells,c2']
    exact ⟨_,_,_,rfl,o1,v1,f1⟩
   have c2':((Shard.at_ s.shards j).lo==a)=false:=by simpa using c2
   by_cases c1:(Shard.at_ s.shards j).state=0
   case neg=>
    have c1':((Shard.at_ s.shards j).state==0)=false:=by simpa using c1
    have c1n:((Shard.at_ s.shards j).state !=0)=true:=by simpa using c1
    rw[c1']
    simp only[QP,cond_false]
    simp only[rn,RO.dst,lk,drop,Nat.reduceBEq,Nat.reduceAdd,Nat.reduceLeDiff,↓reduceIte,reduceCtorEq,l1,l2,l3,m1,m2,m3,e1,e2,e3,g0,hx,hld,Shard.cells,c2',c1n]
    exact ⟨_,_,_,rfl,o1,v1,f1⟩
   have c1':((Shard.at_ s.shards j).state==0)=true:=by simpa using c1
   have c1n:((Shard.at_ s.shards j).state !=0)=false:=by simpa using c1
   cases c3:((s.shards.length:Int)==8) with
   | true=>
     simp only[JL,Jm,cond_false]
     simp only[rn,RO.dst,lk,drop,Nat.reduceBEq,Nat.reduceAdd,Nat.reduceLeDiff,↓reduceIte,reduceCtorEq,l1,l2,l3,m1,m2,m3,e1,e2,e3,g0,hx,hld,Shard.cells,c2',c1n,hwl,c3]
     exact ⟨_,_,_,rfl,o1,v1,f1⟩
   | false=>
     rw[c1',c2']
     simp only[Jy,Bool.and_true,cond_true]
     have hpj':=hpj
     simp only[Qa,decide_eq_true_eq] at hpj'
     have hw:IntKind.u64.wrap (a-1)=a-1:=by
      have:=ok.shards _ (Qd hj)
      have h0:=this.lo
      rw[Shard.at_get hj] at hpj' c2
      exact wrapU _ (by omega) (by omega)
     clear hpj hpj' hld e1 o1 v1 f1 m1 m2 m3
     obtain ⟨r0,f0,hR0,hld0⟩:=w.oneOn Shard.okI hj
     have hcells: ∃x1 x2,r0=[.int .u64 (Shard.at_ s.shards j).lo,.int .u64 (Shard.at_ s.shards j).hi,.int .i64 (Shard.at_ s.shards j).state,.int .i64 (Shard.at_ s.shards j).epoch,x1,x2]:=by
      obtain ⟨x1,_,x2,_,hr,_⟩:=hR0
      exact ⟨x1,x2,by rw[hr,Shard.at_get hj]⟩
     rw[←Shard.at_get hj] at hR0 hld0
     obtain ⟨x1,x2,rfl⟩:=hcells
     have hl0:=(hld0 h (On.refl h)).1
     simp only[rn,RO.dst,lk,drop,Nat.reduceBEq,Nat.reduceAdd,Nat.reduceLeDiff,↓reduceIte,reduceCtorEq,l1,l2,l3,e2,e3,g0,hx,hl0,hwl,c1n,c2',c3]
     obtain ⟨s',⟨y,g,fq,hs,ac⟩,lp⟩:=WaB (F:=F) (Z:=Z) (live:=[1,2,3,6,8,9,10]) (b:=r311L0) s.shards.length (fun i st=> ∃y g fq,st=⟨[(1,.c (.int .u64 a)),(2,.c (.int .i64 e)),(8,.c (.int .i64 (j:Nat))),(10,.c (.int .i64 (i:Nat)))],[(3,3,0),(6,6,0),(9,9,0)],[(3,[.int .i64 s.group,.int .i64 s.seen,x]),(6,[.int .i64 0,.int .i64 0,.nil]),(9,[.int .i64 s.group,.int .i64 e,y])],g⟩∧AccM Shard.RI 16 h g y (s.cpart ((Shard.at_ s.shards j).one_ a e) ((Shard.at_ s.shards j).two_ a e) j i) fq) (fun i st hi ⟨y,g,fq,hs,ac⟩=>by
      subst hs
      have hlt:(i:Int)<s.shards.length:=by omega
      have hle:=w.le2
      have hws:=WaS i (by omega)
      have hxi:=w.idx hi
      have hcl:=s.cpart_len ((Shard.at_ s.shards j).one_ a e) ((Shard.at_ s.shards j).two_ a e) j i
      rw[Wab]
      conv in (Wad _ _ r311L0 _)=>unfold r311L0
      by_cases hij:i=j
      ·subst hij
       obtain ⟨hld1,hR1⟩:=hld0 g ac.on
       obtain ⟨cs',h',g1,fr,e1,hg1,o1,u1,f1,c1⟩:=l13Within_q (Z:=Z) k.s13 hR1 (Store.at_small sm hi) (Shard.at_ s.shards i).lo (a-1) e
       obtain ⟨y',g',fp',e2,a2⟩:=ac.next hf (by omega) o1 u1 f1
       obtain ⟨hld2,hR2⟩:=hld0 g' a2.on
       obtain ⟨cs3,h3,g3,fr3,e3,hg3,o3,u3,f3,c3⟩:=l13Within_q (Z:=Z) k.s13 hR2 (Store.at_small sm hi) a (Shard.at_ s.shards i).hi e
       obtain ⟨y4,g4,fp4,e4,a4⟩:=a2.next hf (by simp;omega) o3 u3 f3
       have:=Store.cpart_at (s:=s) (p:=(Shard.at_ s.shards i).one_ a e) (q:=(Shard.at_ s.shards i).two_ a e) hi
       change AccM Shard.RI 16 h g4 y4 (s.cpart ((Shard.at_ s.shards i).one_ a e) ((Shard.at_ s.shards i).two_ a e) i i++[(Shard.at_ s.shards i).one_ a e]++[(Shard.at_ s.shards i).two_ a e]) fp4 at a4
       rw[←this] at a4
       have hself:((i:Int)==(i:Int))=true:=by simp
       simp only[rn,RO.dst,lk,drop,Nat.reduceBEq,Nat.reduceAdd,Nat.reduceLeDiff,↓reduceIte,reduceCtorEq,hwl,hlt,hxi,hld1,hself,hw,e1,hg1,Qi,Qe,Wav,and_self,Qk,c1,Qh,e2,e3,hg3,c3,e4,hws]
       exact ⟨_,⟨_,_,_,rfl,a4⟩,rfl⟩
      ·have hne:((i:Int)==(j:Int))=false:=by
        have: ¬(i:Int)=(j:Int):=by omega
        simpa using this
       obtain ⟨r,f,hld,hR,_⟩:=(w.on Shard.okI ac.on).one hi
       obtain ⟨r1,r2,r3⟩:=Shard.lenI hR
       obtain ⟨cs',h',g1,fr,e1,hg1,o1,u1,f1,c1⟩:=Wbv (Z:=Z) k.s10 k.s13 hR (sm.2 _ (Qd hi))
       obtain ⟨y',g',fp',e2,a2⟩:=ac.next hf (by omega) o1 u1 f1
       have hnx:s.cpart ((Shard.at_ s.shards j).one_ a e) ((Shard.at_ s.shards j).two_ a e) j i++[s.shards[i]]=s.cpart ((Shard.at_ s.shards j).one_ a e) ((Shard.at_ s.shards j).two_ a e) j (i+1):=by
        rcases Nat.lt_or_gt_of_ne hij with h | h
        ·exact (Store.cpart_no hi h).symm
        ·exact (Store.cpart_yes hi h).symm
       rw[hnx] at a2
       simp only[rn,RO.dst,lk,drop,Nat.reduceBEq,Nat.reduceAdd,Nat.reduceLeDiff,↓reduceIte,reduceCtorEq,hwl,hlt,hxi,hne,hld,r1,r2,r3,e1,hg1,Qi,Qe,Wav,and_self,Qk,c1,Qh,e2,hws]
       exact ⟨_,⟨_,_,_,rfl,a2⟩,rfl⟩) (s:=⟨[(1,.c (.int .u64 a)),(2,.c (.int .i64 e)),(8,.c (.int .i64 (j:Nat))),(10,.c (.int .i64 (0:Nat)))],[(3,3,0),(6,6,0),(9,9,0)],[(3,[.int .i64 s.group,.int .i64 s.seen,x]),(6,[.int .i64 0,.int .i64 0,.nil]),(9,[.int .i64 s.group,.int .i64 e,.nil])],h⟩) ⟨_,_,_,rfl,by simpa[Store.cpart] using AccM.nil Shard.RI 16 h⟩
     subst hs
     simp only[show ((0:Nat):Int)=0 from rfl] at lp
     have hlt: ¬(s.shards.length:Int)<s.shards.length:=by omega
     rw[Store.cpart_end hj] at ac
     obtain ⟨cs5,h5,f5,e5,o5,v5,r5⟩:=l13Renew_c (Z:=Z) k (s:=⟨s.group,e,(s.cutAt j a e).shards⟩) (ac.on.le hf) ⟨y,_,rfl,rfl,ac.sh⟩ (Store.cutAt_small sm hj a e hl8) e
     have hre:(⟨s.group,e,(s.cutAt j a e).shards⟩:Store).renew e=(s.cutAt j a e).renew e:=rfl
     rw[hre] at v5
     obtain ⟨n1,n2,n3⟩:=Store.lenI v5
     rw[lp,Wab]
     conv in (Wad _ _ r311L0 _)=>unfold r311L0
     simp only[rn,RO.dst,lk,drop,Nat.reduceBEq,Nat.reduceAdd,Nat.reduceLeDiff,↓reduceIte,reduceCtorEq,hwl,hlt,e5,n1,n2,n3]
     exact ⟨_,_,_,rfl,ac.on.trans o5,v5,⟨fun id hid=>Qj ac.on.ext.1 (r5.lo id hid),r5.nd⟩⟩
end
def Store.without (s:Store) (i:Nat):Store:={s with shards:=s.shards.eraseIdx i}
def Wal (s:Store) (lo e:Int):Store×Bool:=bif s.good&&(decide (0≤Waj s.shards lo 1)&&decide ((Shard.at_ s.shards (Waj s.shards lo 1).toNat).epoch=e)) then (s.without (Waj s.shards lo 1).toNat,true) else (s,false)
theorem Store.without_small {s:Store} (sm:s.Small) (i:Nat):(s.without i).Small:=
 ⟨Qj (QQ _ _) sm.1,fun a ha=>sm.2 a (List.mem_of_mem_eraseIdx ha)⟩
theorem retireShard_small {s:Store} (sm:s.Small) (lo e:Int):(Wal s lo e).1.Small:=by
 unfold Wal
 cases (s.good&&(decide (0≤Waj s.shards lo 1)&&decide ((Shard.at_ s.shards (Waj s.shards lo 1).toNat).epoch=e)))
 ·exact sm
 ·exact Store.without_small sm _
theorem retire_no {s:Store} {lo e:Int} (h:s.good=false):Wal s lo e=(s,false):=by simp[Wal,h]
theorem retire_away {s:Store} {lo e:Int} (h:Waj s.shards lo 1= -1):Wal s lo e=(s,false):=by simp[Wal,h]
theorem retire_old {s:Store} {lo e:Int} {i:Nat} (h:Waj s.shards lo 1=(i:Int)) (h2: ¬(Shard.at_ s.shards i).epoch=e):Wal s lo e=(s,false):=by simp[Wal,h,h2]
theorem retire_yes {s:Store} {lo e:Int} {i:Nat} (h0:s.good=true) (h:Waj s.shards lo 1=(i:Int)) (h2:(Shard.at_ s.shards i).epoch=e):Wal s lo e=(s.without i,true):=by simp[Wal,h0,h,h2]
theorem erase_skip {α:Type} {xs:List α} {k:Nat} (hk:k<xs.length):(xs.take (k+1)).eraseIdx k=(xs.take k).eraseIdx k:=by
 rw[QV (k:=k) (l:=xs.take k) (by rw[Qg];omega),Qr,Je (by rw[Qg];omega),List.take_take,QM]
 congr 1
 omega
theorem erase_next {α:Type} {xs:List α} {i k:Nat} (hi:i<xs.length) (hne:i≠k):(xs.take (i+1)).eraseIdx k=(xs.take i).eraseIdx k++[xs[i]]:=by
 rw[Qn,Qb hi]
 rcases JN k i with h | h
 ·rw[List.eraseIdx_append_of_lt_length (by rw[Qg];omega)];rfl
 ·rw[QV (k:=k) (l:=xs.take i) (by rw[Qg];omega),QV (by simp;omega)];rfl
section
variable {F:Nat→Option RF} {Z:Waf} {h:Heap} {x:Cell} {xs:List Shard} {fp fq:List Nat} {cs:List Cell} {s:Store} {t:Shard}
set_option maxHeartbeats 1000000 in
theorem RetireShard_c (k:KI F) (hL:Has F Waa) (pr:WbF F Z 330 (delF 16)) (hf:h.floor≤h.next) (v:Store.RI h cs s fp) (lo e:Int) (ok:s.Ok) (sm:s.Small):
 ∃cs' h' fq,call F Z 298 [.agg cs,.c (.int .u64 lo),.c (.int .i64 e)] h=some (.tup [.agg cs',.c (.bool (Wal s lo e).2)],h')∧On h h'∧Store.RI h' cs' (Wal s lo e).1 fq∧Fre h fq:=by
 obtain ⟨l1,l2,l3⟩:=Store.lenI v
 obtain ⟨cs1,h1,fq,e1,o1,v1,f1⟩:=copyStore_c (Z:=Z) k hf v sm
 have v':=Store.okI.on v o1
 obtain ⟨h2,e2,o2⟩:=shardAt_on (Z:=Z) k.i13 hL v' lo 1
 have v'':=Store.okI.on v' o2
 obtain ⟨h3,e3,o3⟩:=WbQ (Z:=Z) k v'' ok
 have o13:=(o1.trans o2).trans o3
 have v3:=Store.okI.on (Store.okI.on v1 o2) o3
 have vs:=Store.okI.on v'' o3
 clear v v' v'' v1
 rw[Wac F Z (k.i13.lk (g:=298) rfl) _ _ rfl]
 obtain ⟨y,p,rfl,hp,w⟩:=v3
 subst hp
 obtain ⟨x,p,rfl,hp,u⟩:=vs
 subst hp
 cases hg:s.good with
 | false=>
   rw[hg] at e3
   rw[retire_no hg]
   simp only[rn,RO.dst,lk,drop,Nat.reduceBEq,Nat.reduceAdd,Nat.reduceLeDiff,↓reduceIte,reduceCtorEq,l1,l2,l3,e1,e2,e3]
   exact ⟨_,_,_,rfl,o13,⟨y,_,rfl,rfl,w⟩,f1⟩
 | true=>
   rw[hg] at e3
   rcases u.found (fun t=>(t.lo==lo)&&(t.state==1)) with q | ⟨i,q,hi,_,hx,_,_,hld⟩
   ·change Waj s.shards lo 1= -1 at q
    rw[retire_away q]
    rw[q] at e2
    simp only[rn,RO.dst,lk,drop,Nat.reduceBEq,Nat.reduceAdd,Nat.reduceLeDiff,↓reduceIte,reduceCtorEq,l1,l2,l3,e1,e2,e3,Int.reduceLT,Int.reduceNeg]
    exact ⟨_,_,_,rfl,o13,⟨y,_,rfl,rfl,w⟩,f1⟩
   ·change Waj s.shards lo 1=(i:Int) at q
    rw[q] at e2
    have g0: ¬(i:Int)<0:=by omega
    by_cases he:(Shard.at_ s.shards i).epoch=e
    ·rw[retire_yes hg q he]
     have hle:=u.le2
     obtain ⟨z,g,fr,e4,w4,re⟩:=w.del Shard.okI f1.nd (f1.own o13 hf) hi
     have hw:=WaS i (by omega)
     simp only[rn,RO.dst,lk,drop,Nat.reduceBEq,Nat.reduceAdd,Nat.reduceLeDiff,↓reduceIte,reduceCtorEq,l1,l2,l3,e1,e2,e3,g0,hx,hld,he,Shard.cells,hw,pr _ _,e4]
     exact ⟨_,_,_,rfl,re.on o13 f1,⟨z,_,rfl,rfl,w4⟩,re.fre o13 f1⟩
    ·have hb:((Shard.at_ s.shards i).epoch !=e)=true:=by simpa using he
     rw[retire_old q he]
     simp only[rn,RO.dst,lk,drop,Nat.reduceBEq,Nat.reduceAdd,Nat.reduceLeDiff,↓reduceIte,reduceCtorEq,l1,l2,l3,e1,e2,e3,g0,hx,hld,hb,Shard.cells]
     exact ⟨_,_,_,rfl,o13,⟨y,_,rfl,rfl,w⟩,f1⟩
set_option maxHeartbeats 1000000 in
theorem sRetireShard_c (k:KS F) (hf:h.floor≤h.next) (v:Store.RI h cs s fp) (lo e:Int) (ok:s.Ok) (sm:s.Small):
 ∃cs' h' fq,call F Z 297 [.agg cs,.c (.int .u64 lo),.c (.int .i64 e)] h=some (.tup [.agg cs',.c (.bool (Wal s lo e).2)],h')∧On h h'∧Store.RI h' cs' (Wal s lo e).1 fq∧Fre h fq:=by
 obtain ⟨l1,l2,l3⟩:=Store.lenI v
 obtain ⟨cs1,h1,fq,e1,o1,v1,f1⟩:=WaZ (Z:=Z) k hf v sm
 obtain ⟨m1,m2,m3⟩:=Store.lenI v1
 have e2:=l13At_run (Z:=Z) k.s13 v lo 1
 have e3:=WaK (Z:=Z) k v ok
 rw[Wac F Z (k.s13.lk (g:=297) rfl) _ _ rfl]
 cases hg:s.good with
 | false=>
   rw[hg] at e3
   rw[retire_no hg]
   simp only[rn,RO.dst,lk,drop,Nat.reduceBEq,Nat.reduceAdd,Nat.reduceLeDiff,↓reduceIte,reduceCtorEq,l1,l2,l3,e1,e2,e3,m1,m2,m3]
   exact ⟨_,_,_,rfl,o1,v1,f1⟩
 | true=>
   rw[hg] at e3
   obtain ⟨x,p,rfl,hp,u⟩:=v
   subst hp
   rcases u.found (fun t=>(t.lo==lo)&&(t.state==1)) with q | ⟨j,q,hj,_,hx,_,_,hld⟩
   ·change Waj s.shards lo 1= -1 at q
    rw[retire_away q]
    rw[q] at e2
    simp only[rn,RO.dst,lk,drop,Nat.reduceBEq,Nat.reduceAdd,Nat.reduceLeDiff,↓reduceIte,reduceCtorEq,l1,l2,l3,e1,e2,e3,m1,m2,m3,Int.reduceLT,Int.reduceNeg]
    exact ⟨_,_,_,rfl,o1,v1,f1⟩
   ·change Waj s.shards lo 1=(j:Int) at q
    rw[q] at e2
    have g0: ¬(j:Int)<0:=by omega
    by_cases he:(Shard.at_ s.shards j).epoch=e
    ·rw[retire_yes hg q he]
     have hle:=u.le2
     have hwl:=u.len
     clear e1 o1 v1 f1 m1 m2 m3
     simp only[rn,RO.dst,lk,drop,Nat.reduceBEq,Nat.reduceAdd,Nat.reduceLeDiff,↓reduceIte,reduceCtorEq,l1,l2,l3,e2,e3,g0,hx,hld,he,Shard.cells]
     obtain ⟨s',⟨y,g,fq,hs,a⟩,lp⟩:=WaB (F:=F) (Z:=Z) (live:=[3,6,8,9,10]) (b:=r297L0) s.shards.length (fun i st=> ∃y g fq,st=⟨[(8,.c (.int .i64 (j:Nat))),(10,.c (.int .i64 (i:Nat)))],[(3,3,0),(6,6,0),(9,9,0)],[(3,[.int .i64 s.group,.int .i64 s.seen,x]),(6,[.int .i64 0,.int .i64 0,.nil]),(9,[.int .i64 s.group,.int .i64 s.seen,y])],g⟩∧AccM Shard.RI 16 h g y ((s.shards.take i).eraseIdx j) fq) (fun i st hi ⟨y,g,fq,hs,a⟩=>by
      subst hs
      have hlt:(i:Int)<s.shards.length:=by omega
      have hws:=WaS i (by omega)
      rw[Wab]
      conv in (Wad _ _ r297L0 _)=>unfold r297L0
      by_cases hij:i=j
      ·subst hij
       rw[←erase_skip hi] at a
       simp only[rn,RO.dst,lk,drop,Nat.reduceBEq,Nat.reduceAdd,Nat.reduceLeDiff,↓reduceIte,reduceCtorEq,hwl,hlt,hws]
       exact ⟨_,⟨_,_,_,rfl,a⟩,rfl⟩
      have hne0: ¬(i:Int)=(j:Int):=by omega
      have hne:((i:Int) !=(j:Int))=true:=by simpa using hne0
      have hxi:=u.idx hi
      obtain ⟨r,f,hld,hR,_⟩:=(u.on Shard.okI a.on).one hi
      obtain ⟨r1,r2,r3⟩:=Shard.lenI hR
      obtain ⟨cs',h',g1,fr,e1,hg1,o1,u1,f1,c1⟩:=Wbv (Z:=Z) k.s10 k.s13 hR (sm.2 _ (Qd hi))
      obtain ⟨y',g',fp',e2,a2⟩:=a.next hf (by have:=QQ (s.shards.take i) j;have:=sm.1;rw[Qg] at *;omega) o1 u1 f1
      rw[←erase_next hi hij] at a2
      simp only[rn,RO.dst,lk,drop,Nat.reduceBEq,Nat.reduceAdd,Nat.reduceLeDiff,↓reduceIte,reduceCtorEq,hwl,hlt,hxi,hne,hld,r1,r2,r3,e1,hg1,Qi,Qe,Wav,and_self,Qk,c1,Qh,e2,hws]
      exact ⟨_,⟨_,_,_,rfl,a2⟩,rfl⟩) (s:=⟨[(8,.c (.int .i64 (j:Nat))),(10,.c (.int .i64 (0:Nat)))],[(3,3,0),(6,6,0),(9,9,0)],[(3,[.int .i64 s.group,.int .i64 s.seen,x]),(6,[.int .i64 0,.int .i64 0,.nil]),(9,[.int .i64 s.group,.int .i64 s.seen,.nil])],h⟩) ⟨_,_,_,rfl,by simpa using AccM.nil Shard.RI 16 h⟩
     subst hs
     simp only[show ((0:Nat):Int)=0 from rfl] at lp
     rw[Qm] at a
     have hlt: ¬(s.shards.length:Int)<s.shards.length:=by omega
     rw[lp,Wab]
     conv in (Wad _ _ r297L0 _)=>unfold r297L0
     simp only[rn,RO.dst,lk,drop,Nat.reduceBEq,Nat.reduceAdd,Nat.reduceLeDiff,↓reduceIte,reduceCtorEq,hwl,hlt]
     exact ⟨_,_,_,rfl,a.on,⟨_,_,rfl,rfl,a.sh⟩,a.fr⟩
    ·have hb:((Shard.at_ s.shards j).epoch !=e)=true:=by simpa using he
     rw[retire_old q he]
     simp only[rn,RO.dst,lk,drop,Nat.reduceBEq,Nat.reduceAdd,Nat.reduceLeDiff,↓reduceIte,reduceCtorEq,l1,l2,l3,e1,e2,e3,g0,hx,hld,hb,Shard.cells,m1,m2,m3]
     exact ⟨_,_,_,rfl,o1,v1,f1⟩
end
def Shard.join (p q:Shard):Shard:=⟨p.lo,q.hi,p.state,p.epoch,⟨p.book.list++q.book.list⟩,WaP (p.finished++q.finished)⟩
def Shard.joins (p q:Shard):Bool:=decide (((p.book.list++q.book.list).length:Int)≤40)&&decide (((p.finished++q.finished).length:Int)≤60)
def Store.joinWith (s:Store) (j:Nat) (y:Shard):Store:={s with shards:=(s.shards.set j y).eraseIdx (j+1)}
def WaD (s:Store) (a e:Int):Store×Bool:=
 bif s.next e&&(decide (1≤Waj s.shards a 0)&&(((Shard.at_ s.shards ((Waj s.shards a 0).toNat-1)).state==0)&&((Shard.at_ s.shards ((Waj s.shards a 0).toNat-1)).hi==a-1))) then
  bif Shard.joins (Shard.at_ s.shards ((Waj s.shards a 0).toNat-1)) (Shard.at_ s.shards (Waj s.shards a 0).toNat) then
   ((s.joinWith ((Waj s.shards a 0).toNat-1) (Shard.join (Shard.at_ s.shards ((Waj s.shards a 0).toNat-1)) (Shard.at_ s.shards (Waj s.shards a 0).toNat))).renew e,true) else (s,false)
 else (s,false)
theorem join_no {s:Store} {a e:Int} (h:s.next e=false):WaD s a e=(s,false):=by simp[WaD,h]
theorem join_away {s:Store} {a e:Int} (h:Waj s.shards a 0<1):WaD s a e=(s,false):=by
 have: ¬1≤Waj s.shards a 0:=by omega
 simp[WaD,this]
theorem join_if {s:Store} {a e:Int} {j:Nat} (h0:s.next e=true) (h:Waj s.shards a 0=((j+1:Nat):Int)):WaD s a e=bif ((Shard.at_ s.shards j).state==0)&&((Shard.at_ s.shards j).hi==a-1) then
 (bif Shard.joins (Shard.at_ s.shards j) (Shard.at_ s.shards (j+1)) then ((s.joinWith j (Shard.join (Shard.at_ s.shards j) (Shard.at_ s.shards (j+1)))).renew e,true) else (s,false)) else (s,false):=by
 have:(1:Int)≤(j:Int)+1:=by omega
 simp[WaD,h0,h,this]
theorem Shard.join_small {p q:Shard} (h:Shard.joins p q=true):(Shard.join p q).Small:=by
 simp only[Shard.joins,Qa,decide_eq_true_eq] at h
 refine ⟨?_,?_⟩
 ·show (p.book.list++q.book.list).length≤1048576;omega
 ·show (WaP (p.finished++q.finished)).length≤1048576
  rw[sortFins_len];omega
theorem Store.joinWith_small {s:Store} (sm:s.Small) (j:Nat) {y:Shard} (sy:y.Small):(s.joinWith j y).Small:=by
 refine ⟨Qj (QQ _ _) (by rw[Jv];exact sm.1),fun b hb=> ?_⟩
 have hb:=(List.eraseIdx_sublist _ _).subset hb
 rcases QX hb with hb | hb
 ·exact sm.2 b hb
 ·exact hb▸sy
theorem Store.side {s:Store} (g:s.good=true) {j:Nat} (hj:j+1<s.shards.length):(Shard.at_ s.shards j).good=true∧(Shard.at_ s.shards (j+1)).good=true∧(Shard.at_ s.shards j).hi<(Shard.at_ s.shards (j+1)).lo:=by
 have h1:=Store.fit_at g (show j<s.shards.length by omega)
 have h2:=Store.fit_at g hj
 simp only[Store.fits,Qa,Qu,decide_eq_true_eq,beq_iff_eq,QE] at h1 h2
 refine ⟨h1.1,h2.1,?_⟩
 rcases h2.2.2 with h | h
 ·omega
 ·exact h
theorem Shard.apart_fins {p q:Shard} (gp:p.good=true) (gq:q.good=true) (h:p.hi<q.lo):(p.finished++q.finished).Nodup:=by
 refine Qq.2 ⟨flt_nodup (Shard.good_sorted gp),flt_nodup (Shard.good_sorted gq),fun f hf f' hf' e=> ?_⟩
 subst e
 have h1:=Shard.good_in gp hf
 have h2:=Shard.good_in gq hf'
 omega
theorem Store.join_renew {s:Store} {j:Nat} {y y':Shard} {e:Int} (h:Shard.renew e y=Shard.renew e y'):(s.joinWith j y).renew e=(s.joinWith j y').renew e:=by
 simp only[Store.renew,Store.joinWith,Store.mk.injEq,true_and]
 simp only[Qr,Jt,List.map_take,List.map_drop,List.map_set,h]
theorem Shard.within_sound {x:Shard} (g:x.Good) {lo hi:Int} (h:lo≤hi) (e:Int):(x.within lo hi e).Sound where
 lh:=h
 st:=g.st
 srt:=List.Pairwise.sublist Jz g.srt
 fine:=fun a ha=>g.fine a (Jk.1 ha).1
 bl:=Qj (QK _ _) g.bl
 fl:=Qj (QK _ _) g.fl
 acc:=fun a ha=>by
  obtain ⟨h1,h2⟩:=Jk.1 ha
  simp only[Account.inside,Qa,decide_eq_true_eq] at h2
  exact ⟨h2.1,h2.2,fun hf=>(g.acc a h1).2.2 (Jk.1 hf).1⟩
 fs:=List.Pairwise.sublist Jz g.fs
 fin:=fun f hf=>by
  obtain ⟨h1,h2⟩:=Jk.1 hf
  simp only[Fin.inside,Qa,decide_eq_true_eq] at h2
  exact ⟨(g.fin f h1).1,h2.1,h2.2⟩
theorem cut_list {α:Type} {xs:List α} {i:Nat} (hi:i<xs.length):xs=xs.take i++xs[i]::xs.drop (i+1):=by
 rw[←QC hi,Jg]
theorem cut_when {s:Store} {a e:Int} (h:(WaI s a e).2=true):s.next e=true∧ ∃k:Nat,∃hk:k<s.shards.length,Waz s.shards a=(k:Int)∧s.shards[k].lo≤a∧a≤s.shards[k].hi∧s.shards[k].state=0∧s.shards[k].lo≠a∧s.shards.length≠8∧WaI s a e=((s.cutAt k a e).renew e,true):=by
 cases hn:s.next e with
 | false=>rw[cut_no hn] at h;cases h
 | true=>
   refine ⟨rfl,?_⟩
   by_cases h0:0≤Waz s.shards a
   ·obtain ⟨k,e1,hk,hp⟩:=WbV h0
    have e2:Waz s.shards a=(k:Int):=e1
    rw[cut_if hn e2] at h
    have hc:=cut_if hn e2
    simp only[Qa,decide_eq_true_eq] at hp
    cases hb:(((Shard.at_ s.shards k).state==0)&&(!((Shard.at_ s.shards k).lo==a)&& !((s.shards.length:Int)==8))) with
    | false=>rw[hb] at h;cases h
    | true=>
      rw[hb] at hc
      rw[Shard.at_get hk] at hb
      simp only[Qa,beq_iff_eq,QB,beq_eq_false_iff_ne,ne_eq] at hb
      exact ⟨k,hk,e2,hp.1,hp.2,hb.1,hb.2.1,by omega,hc⟩
   ·have:WaI s a e=(s,false):=by simp[WaI,h0]
    rw[this] at h;cases h
theorem condp {α:Type} {b:Bool} {u v:α} (h:(bif b then (u,true) else (v,false)).2=false):(bif b then (u,true) else (v,false))=(v,false):=by
 cases b
 ·rfl
 ·cases h
theorem condp2 {α:Type} {b c:Bool} {u v:α} (h:(bif b then (bif c then (u,true) else (v,false)) else (v,false)).2=false):(bif b then (bif c then (u,true) else (v,false)) else (v,false))=(v,false):=by
 cases b
 ·rfl
 ·exact condp h
theorem cut_same {s:Store} {a e:Int} (h:(WaI s a e).2=false):WaI s a e=(s,false):=by
 unfold WaI at h ⊢
 exact condp h
theorem cutShard_good {s:Store} {a e:Int} (g:s.Good):(WaI s a e).1.Good:=by
 cases h:(WaI s a e).2 with
 | false=>rw[cut_same h];exact g
 | true=>
   obtain ⟨hn,k,hk,e2,h1,h2,h3,h4,h5,hc⟩:=cut_when h
   rw[hc]
   have hx:=(Store.next_iff s e).1 hn
   have he:=g.one hx.2.1
   have gx:=(g.sh _ (Qd hk)).1
   have gl:=g.len
   refine Store.renew_good (s:=s.cutAt k a e) g.gr ⟨he,hx.2.2⟩ ?_ (fun x hxm=> ?_) ?_
   ·simp only[Store.cutAt,Ql,Qg,Qw,Qz,QI];omega
   ·simp only[Store.cutAt,Qf,Qt,Jh,or_false] at hxm
    rcases hxm with (hxm | hxm | hxm) | hxm
    ·exact g.old hx.2.1 x (QO hxm)
    ·rw[hxm,Shard.at_get hk]
     exact ⟨Shard.within_sound gx (by omega) e,fun _=>⟨he,Jx _⟩⟩
    ·rw[hxm,Shard.at_get hk]
     exact ⟨Shard.within_sound gx h2 e,fun _=>⟨he,Jx _⟩⟩
    ·exact g.old hx.2.1 x (QG hxm)
   ·have ho:=g.ord
    rw[cut_list hk,Qs,QJ] at ho
    obtain ⟨o1,⟨o2,o3⟩,o4⟩:=ho
    show (s.shards.take k++[(Shard.at_ s.shards k).one_ a e,(Shard.at_ s.shards k).two_ a e]++s.shards.drop (k+1)).Pairwise _
    rw[Shard.at_get hk,QN,Qs]
    refine ⟨o1,?_,fun z hz y hy=> ?_⟩
    ·simp only[JH,Ja,QJ,Qt]
     refine ⟨fun z hz=> ?_,fun z hz=>o2 z hz,o3⟩
     rcases hz with rfl | hz
     ·show a-1<a;omega
     ·have:=o2 z hz
      show a-1<z.lo;omega
    ·have hzx:=o4 z hz _ (Jc ..)
     simp only[JH,Ja,Qt] at hy
     rcases hy with rfl | rfl | hy
     ·exact hzx
     ·show z.hi<a;omega
     ·exact o4 z hz y (QH _ hy)
theorem joinWith_shards {s:Store} {j:Nat} (hj:j+1<s.shards.length) (y:Shard):(s.joinWith j y).shards=s.shards.take j++y::s.shards.drop (j+2):=by
 show (s.shards.set j y).eraseIdx (j+1)=_
 rw[Qr,Qn,List.take_set_of_le (Qy _),Jq (by omega),List.drop_set_of_lt (by omega)]
 simp
theorem join_when {s:Store} {a e:Int} (h:(WaD s a e).2=true):s.next e=true∧ ∃j:Nat,∃hj:j+1<s.shards.length,Waj s.shards a 0=((j+1:Nat):Int)∧s.shards[j+1].lo=a∧s.shards[j+1].state=0∧s.shards[j].state=0∧s.shards[j].hi=a-1∧Shard.joins s.shards[j] s.shards[j+1]=true∧
 WaD s a e=((s.joinWith j (Shard.join s.shards[j] s.shards[j+1])).renew e,true):=by
 cases hn:s.next e with
 | false=>rw[join_no hn] at h;cases h
 | true=>
   refine ⟨rfl,?_⟩
   by_cases h0:Waj s.shards a 0<1
   ·rw[join_away h0] at h;cases h
   ·obtain ⟨k,e1,hk,hp⟩:=WbV (p:=fun t:Shard=>(t.lo==a)&&(t.state==0)) (xs:=s.shards) (by unfold Waj at h0;omega)
    have e2:Waj s.shards a 0=(k:Int):=e1
    obtain ⟨j,rfl⟩: ∃j,k=j+1:=⟨k-1,by omega⟩
    have hc:=join_if hn e2
    rw[hc] at h
    have hj':j<s.shards.length:=by omega
    rw[Shard.at_get hk,Shard.at_get hj'] at h hc
    simp only[Qa,beq_iff_eq] at hp
    cases hb:((s.shards[j].state==0)&&(s.shards[j].hi==a-1)) with
    | false=>rw[hb] at h;cases h
    | true=>
      rw[hb] at h hc
      cases hq:Shard.joins s.shards[j] s.shards[j+1] with
      | false=>rw[hq] at h;cases h
      | true=>
        rw[hq] at hc
        simp only[Qa,beq_iff_eq] at hb
        exact ⟨j,hk,e2,hp.1,hp.2,hb.1,hb.2,hq,hc⟩
theorem join_same {s:Store} {a e:Int} (h:(WaD s a e).2=false):WaD s a e=(s,false):=by
 unfold WaD at h ⊢
 exact condp2 h
theorem Shard.join_sound {p q:Shard} (gp:p.Good) (gq:q.Good) (h:p.hi<q.lo) (hj:Shard.joins p q=true):(Shard.join p q).Sound:=by
 simp only[Shard.joins,Ql,Qa,decide_eq_true_eq] at hj
 have nd:(p.finished++q.finished).Nodup:=by
  refine Qq.2 ⟨flt_nodup gp.fs,flt_nodup gq.fs,fun f hf f' hf' e=> ?_⟩
  subst e
  have h1:=gp.fin f hf
  have h2:=gq.fin f hf'
  omega
 have hm: ∀f,f∈WaP (p.finished++q.finished)↔f∈p.finished∨f∈q.finished:=fun f=>by
  rw[(WaY _).mem_iff,Qf]
 have hpl:=gp.lh
 have hql:=gq.lh
 exact {
  lh:=by show p.lo≤q.hi;omega
  st:=gp.st
  srt:=by
   refine Qs.2 ⟨gp.srt,gq.srt,fun a ha b hb=> ?_⟩
   have h1:=gp.acc a ha
   have h2:=gq.acc b hb
   omega
  fine:=fun a ha=>by
   rcases Qf.1 ha with ha | ha
   ·exact gp.fine a ha
   ·exact gq.fine a ha
  bl:=by show (p.book.list++q.book.list).length≤40;rw[Ql];omega
  fl:=by show (WaP _).length≤60;rw[sortFins_len,Ql];omega
  acc:=fun a ha=>by
   have hn:(⟨a.tx,a.id⟩:Fin)∉WaP (p.finished++q.finished)∧p.lo≤a.id∧a.id≤q.hi:=by
    rw[hm]
    rcases Qf.1 ha with ha | ha
    ·have h1:=gp.acc a ha
     refine ⟨fun hf=> ?_,by omega,by omega⟩
     rcases hf with hf | hf
     ·exact h1.2.2 hf
     ·have:=gq.fin _ hf
      simp only at this
      omega
    ·have h1:=gq.acc a ha
     refine ⟨fun hf=> ?_,by omega,by omega⟩
     rcases hf with hf | hf
     ·have:=gp.fin _ hf
      simp only at this
      omega
     ·exact h1.2.2 hf
   exact ⟨hn.2.1,hn.2.2,hn.1⟩
  fs:=Wcf nd
  fin:=fun f hf=>by
   show 1≤f.tx∧p.lo≤f.id∧f.id≤q.hi
   rcases (hm f).1 hf with hf | hf
   ·have:=gp.fin f hf;omega
   ·have:=gq.fin f hf;omega}
theorem joinShard_good {s:Store} {a e:Int} (g:s.Good):(WaD s a e).1.Good:=by
 cases h:(WaD s a e).2 with
 | false=>rw[join_same h];exact g
 | true=>
   obtain ⟨hn,j,hj,e2,h1,h2,h3,h4,h5,hc⟩:=join_when h
   rw[hc]
   have hx:=(Store.next_iff s e).1 hn
   have he:=g.one hx.2.1
   have hj':j<s.shards.length:=by omega
   have gp:=(g.sh _ (Qd hj')).1
   have gq:=(g.sh _ (Qd hj)).1
   have gl:=g.len
   have hpq:s.shards[j].hi<s.shards[j+1].lo:=by omega
   have hsh:=joinWith_shards (s:=s) hj (Shard.join s.shards[j] s.shards[j+1])
   refine Store.renew_good (s:=s.joinWith j (Shard.join s.shards[j] s.shards[j+1])) g.gr ⟨he,hx.2.2⟩ ?_ (fun x hxm=> ?_) ?_
   ·rw[hsh]
    simp only[Ql,Qg,Qw,Qz];omega
   ·rw[hsh] at hxm
    simp only[Qf,Qt] at hxm
    rcases hxm with hxm | hxm | hxm
    ·exact g.old hx.2.1 x (QO hxm)
    ·rw[hxm]
     refine ⟨Shard.join_sound gp gq hpq h5,fun hs=> ?_⟩
     have:s.shards[j].state=1:=hs
     omega
    ·exact g.old hx.2.1 x (QG hxm)
   ·rw[hsh]
    have ho:=g.ord
    rw[cut_list hj',Qs,QJ] at ho
    obtain ⟨o1,⟨o2,o3⟩,o4⟩:=ho
    have hdr:s.shards.drop (j+1)=s.shards[j+1]::s.shards.drop (j+2):=QC hj
    rw[hdr] at o2 o3 o4
    rw[QJ] at o3
    rw[Qs,QJ]
    refine ⟨o1,⟨fun z hz=>o3.1 z hz,o3.2⟩,fun z hz y hy=> ?_⟩
    rcases Qt.1 hy with rfl | hy
    ·exact o4 z hz s.shards[j] (Jc ..)
    ·exact o4 z hz y (QH _ (QH _ hy))
abbrev Act:=Account→Int×Account
def WaX (xs:List Account) (id:Int) (f:Act):List Account×Int:=
 bif Wap xs then (bif decide (0≤WaT xs id) then (bif (f (Account.at_ xs (WaT xs id).toNat)).1==0 then (bif (f (Account.at_ xs (WaT xs id).toNat)).2.tx== -1 then (xs.eraseIdx (WaT xs id).toNat,0) else (xs.set (WaT xs id).toNat (f (Account.at_ xs (WaT xs id).toNat)).2,0)) else (xs,(f (Account.at_ xs (WaT xs id).toNat)).1)) else (xs,2)) else (xs,1)
section
variable {xs:List Account} {id:Int} {f:Act}
theorem do_bad (h:Wap xs=false):WaX xs id f=(xs,1):=by simp[WaX,h]
theorem do_none (h:Wap xs=true) (h2:WaT xs id= -1):WaX xs id f=(xs,2):=by simp[WaX,h,h2]
theorem do_at (h:Wap xs=true) {i:Nat} (h2:WaT xs id=(i:Int)):WaX xs id f=bif (f (Account.at_ xs i)).1==0 then (bif (f (Account.at_ xs i)).2.tx== -1 then (xs.eraseIdx i,0) else (xs.set i (f (Account.at_ xs i)).2,0)) else (xs,(f (Account.at_ xs i)).1):=by simp[WaX,h,h2]
theorem do_len:(WaX xs id f).1.length≤xs.length:=by
 unfold WaX
 cases Wap xs<;>simp only[cond_true,cond_false,Qy]
 cases decide (0≤WaT xs id)<;>simp only[cond_true,cond_false,Qy]
 cases ((f (Account.at_ xs (WaT xs id).toNat)).1==0)<;>simp only[cond_true,cond_false,Qy]
 cases ((f (Account.at_ xs (WaT xs id).toNat)).2.tx== -1)<;>simp only[cond_true,cond_false]
 ·simp
 ·exact QQ _ _
end
section
variable {F:Nat→Option RF} {Z:Waf} {h:Heap} {x:Cell} {xs:List Account} {fp:List Nat}
def accOf (xs:List Account) (id tx:Int):Account×Int:=bif Wap xs&& !decide (tx<1) then (bif decide (WaT xs id<0) then (Account.none_,2) else (Account.at_ xs (WaT xs id).toNat,0)) else (Account.none_,1)
theorem l10Of_run (hS10:Has F tS10) (w:SlR 11 (Fl Account.enc) h x xs fp) (id tx:Int) (hok: ∀t,t∈xs→t.Ok):
 call F Z 335 [.agg [x],.c (.int .u64 id),.c (.int .i64 tx)] h=some (.tup [.agg (accOf xs id tx).1.enc,.c (.int .i64 (accOf xs id tx).2)],h):=by
 have e1:=sBookOk_run (Z:=Z) hS10 w hok
 have e2:=WaO (Z:=Z) hS10 w id
 rw[Wac F Z (hS10.lk (g:=335) rfl) _ _ rfl]
 cases hb:Wap xs with
 | false=>
   rw[hb] at e1
   have hd:accOf xs id tx=(Account.none_,1):=by simp[accOf,hb]
   rw[hd]
   simp only[rn,RO.dst,lk,drop,Nat.reduceBEq,Nat.reduceAdd,Nat.reduceLeDiff,↓reduceIte,reduceCtorEq,e1,Account.enc,Account.none_]
 | true=>
   rw[hb] at e1
   by_cases ht:tx<1
   ·have hd:accOf xs id tx=(Account.none_,1):=by simp[accOf,ht]
    rw[hd]
    simp only[rn,RO.dst,lk,drop,Nat.reduceBEq,Nat.reduceAdd,Nat.reduceLeDiff,↓reduceIte,reduceCtorEq,e1,ht,Account.enc,Account.none_]
   ·rcases Wbc hb id with ⟨q1,_⟩ | ⟨i,q1,_,_,hi,_⟩
    ·have hd:accOf xs id tx=(Account.none_,2):=by simp[accOf,hb,ht,q1]
     rw[hd]
     rw[q1] at e2
     simp only[rn,RO.dst,lk,drop,Nat.reduceBEq,Nat.reduceAdd,Nat.reduceLeDiff,↓reduceIte,reduceCtorEq,e1,e2,ht,Int.reduceLT,Int.reduceNeg,Account.enc,Account.none_]
    ·have hd:accOf xs id tx=(Account.at_ xs i,0):=by
      have g0: ¬(i:Int)<0:=by omega
      simp[accOf,hb,ht,q1,g0]
     rw[hd]
     rw[q1] at e2
     have g0: ¬(i:Int)<0:=by omega
     have hxi:=w.idx hi
     have hld:=w.load hi
     rw[←Account.at_get hi] at hld
     simp only[Account.enc] at hld
     simp only[rn,RO.dst,lk,drop,Nat.reduceBEq,Nat.reduceAdd,Nat.reduceLeDiff,↓reduceIte,reduceCtorEq,e1,e2,ht,g0,hxi,hld,Account.enc]
theorem of_bad {id tx:Int} (h:Wap xs=false):accOf xs id tx=(Account.none_,1):=by simp[accOf,h]
theorem of_tx {id tx:Int} (h:tx<1):accOf xs id tx=(Account.none_,1):=by simp[accOf,h]
theorem of_none {id tx:Int} (h:Wap xs=true) (ht: ¬tx<1) (h2:WaT xs id= -1):accOf xs id tx=(Account.none_,2):=by simp[accOf,h,ht,h2]
theorem of_at {id tx:Int} (h:Wap xs=true) (ht: ¬tx<1) {i:Nat} (h2:WaT xs id=(i:Int)):accOf xs id tx=(Account.at_ xs i,0):=by
 have g0: ¬(i:Int)<0:=by omega
 simp[accOf,h,ht,h2,g0]
def Account.put (a b:Account):Account:=if b.id=a.id then a else b
set_option maxHeartbeats 1000000 in
theorem l10With_c (hS10:Has F tS10) (hf:h.floor≤h.next) (w:SlR 11 (Fl Account.enc) h x xs fp) (sm:xs.length≤1048576) (a:Account):
 ∃y h' fq,call F Z 336 [.agg [x],.agg a.enc] h=some (.agg [y],h')∧On h h'∧SlR 11 (Fl Account.enc) h' y (xs.map a.put) fq∧Fre h fq:=by
 obtain ⟨y,h1,fq,e1,o1,w1,f1⟩:=WbS (Z:=Z) hS10 hf w sm
 have hle:=w.le2
 rw[Wac F Z (hS10.lk (g:=336) rfl) _ _ rfl]
 simp only[rn,RO.dst,lk,drop,Nat.reduceBEq,Nat.reduceAdd,Nat.reduceLeDiff,↓reduceIte,reduceCtorEq,Account.len,Account.tak,e1]
 obtain ⟨s',⟨g,hs,m,u⟩,lp⟩:=WaB (F:=F) (Z:=Z) (live:=[3,4,5,6]) (b:=r336L0) xs.length (fun i st=> ∃g,st=⟨[(6,.c (.int .i64 (i:Nat)))],[(3,3,0),(4,4,0),(5,5,0)],[(3,a.enc),(4,[.nil]),(5,[y])],g⟩∧Mk h1 g fq∧SlR 11 (Fl Account.enc) g y ((xs.take i).map a.put++xs.drop i) fq) (fun i st hi ⟨g,hs,m,u⟩=>by
  subst hs
  have hll:((xs.take i).map a.put++xs.drop i).length=xs.length:=by simp;omega
  have hi':i<((xs.take i).map a.put++xs.drop i).length:=by omega
  have hlt:(i:Int)<xs.length:=by omega
  have hws:=WaS i (by omega)
  have hul:=u.len
  rw[hll] at hul
  have hxi:=u.idx hi'
  have hmx:=mix_set a.put xs hi
  have hat:=mix_at a.put xs hi hi'
  obtain ⟨r,f,rows,hR,hs,hld,hself,hst,hl2,fin⟩:=u.putRow (Fl.ok _) f1.nd (fun id hid=>by rw[m.fl];exact f1.own o1 hf id hid) hi'
  obtain ⟨rfl,rfl⟩:=hR
  rw[hat] at hld hself
  rw[Wab]
  conv in (Wad _ _ r336L0 _)=>unfold r336L0
  simp only[Account.enc] at hld hself ⊢
  by_cases c:xs[i].id=a.id
  ·have c':(xs[i].id==a.id)=true:=by simpa using c
   have hp:a.put xs[i]=a:=by simp[Account.put,c]
   rw[hp] at hmx
   obtain ⟨u2,m2⟩:=fin a.enc a ⟨rfl,rfl⟩
   rw[hmx] at u2
   have hst':=hst [.int .u64 xs[i].id,.int .u64 xs[i].bal,.int .u64 xs[i].hold,.int .u64 xs[i].due,.int .i64 xs[i].tx]
   rw[hself] at hst'
   simp only[rn,RO.dst,lk,drop,Nat.reduceBEq,Nat.reduceAdd,Nat.reduceLeDiff,↓reduceIte,reduceCtorEq,hul,hlt,hxi,hld,c',hst',putM_s,hws]
   exact ⟨_,⟨_,rfl,m.then m2,u2⟩,rfl⟩
  ·have c':(xs[i].id==a.id)=false:=by simpa using c
   have hp:a.put xs[i]=xs[i]:=by simp[Account.put,c]
   rw[hp] at hmx
   have hsm:=set_same _ hi'
   rw[hat,hmx] at hsm
   rw[←hsm] at u
   simp only[rn,RO.dst,lk,drop,Nat.reduceBEq,Nat.reduceAdd,Nat.reduceLeDiff,↓reduceIte,reduceCtorEq,hul,hlt,hxi,hld,c',hws]
   exact ⟨_,⟨_,rfl,m,u⟩,rfl⟩) (s:=⟨[(6,.c (.int .i64 (0:Nat)))],[(3,3,0),(4,4,0),(5,5,0)],[(3,a.enc),(4,[.nil]),(5,[y])],h1⟩) ⟨h1,rfl,Mk.refl _ _,by simpa using w1⟩
 subst hs
 simp only[show ((0:Nat):Int)=0 from rfl] at lp
 rw[Qm,Jj,QM] at u
 have hul:=u.len
 rw[Qx] at hul
 have hlt: ¬(xs.length:Int)<xs.length:=by omega
 rw[lp,Wab]
 conv in (Wad _ _ r336L0 _)=>unfold r336L0
 simp only[rn,RO.dst,lk,drop,Nat.reduceBEq,Nat.reduceAdd,Nat.reduceLeDiff,↓reduceIte,reduceCtorEq,hul,hlt]
 exact ⟨_,_,_,rfl,o1.turned m f1,u,f1⟩
theorem with_set (g:Wap xs=true) {i:Nat} (hi:i<xs.length) {a:Account} (ha:a.id=xs[i].id):xs.map a.put=xs.set i a:=by
 apply List.ext_getElem
 ·simp
 ·intro j h1 h2
  rw[List.getElem_map,Jp]
  rw[Qx] at h1
  by_cases e:i=j
  ·subst e;simp[Account.put,ha]
  ·rw[if_neg e]
   have: ¬xs[j].id=a.id:=fun hc=>e (book_inj g hi h1 (by rw[←ha];exact hc.symm))
   simp[Account.put,this]
end
def closeF:Act:=fun a=>if a.tx=0 then (if a.bal=0 then (0,{a with tx:= -1}) else (4,a)) else (6,a)
def depF (m:Int):Act:=fun a=>if a.tx=0 then (if a.bal+m≤18446744073709551615 then (0,{a with bal:=a.bal+m}) else (5,a)) else (6,a)
def witF (m:Int):Act:=fun a=>if a.tx=0 then (if m≤a.bal then (0,{a with bal:=a.bal-m}) else (4,a)) else (6,a)
section
variable {F:Nat→Option RF} {Z:Waf} {h:Heap} {x:Cell} {xs:List Account} {fp:List Nat}
set_option maxHeartbeats 1000000 in
theorem sDeposit_c (hS10:Has F tS10) (hf:h.floor≤h.next) (w:SlR 11 (Fl Account.enc) h x xs fp) (id m:Int) (hm:0≤m∧m≤18446744073709551615) (hok: ∀t,t∈xs→t.Ok) (sm:xs.length≤1048576):
 ∃y h' fq,call F Z 325 [.agg [x],.c (.int .u64 id),.c (.int .u64 m)] h=some (.tup [.agg [y],.c (.int .i64 (WaX xs id (depF m)).2)],h')∧On h h'∧SlR 11 (Fl Account.enc) h' y (WaX xs id (depF m)).1 fq∧Fre h fq:=by
 have e1:=l10Of_run (Z:=Z) hS10 w id 1 hok
 obtain ⟨y,h2,fq,e2,o2,w2,f2⟩:=WbS (Z:=Z) hS10 hf w sm
 have z0:((0:Int) !=0)=false:=rfl
 have z1:((1:Int) !=0)=true:=rfl
 have z2:((2:Int) !=0)=true:=rfl
 rw[Wac F Z (hS10.lk (g:=325) rfl) _ _ rfl]
 cases hb:Wap xs with
 | false=>
   rw[of_bad hb] at e1
   rw[do_bad hb]
   simp only[Account.enc,Account.none_] at e1
   simp only[rn,RO.dst,lk,drop,Nat.reduceBEq,Nat.reduceAdd,Nat.reduceLeDiff,↓reduceIte,reduceCtorEq,z0,z1,z2,e1,e2]
   exact ⟨_,_,_,rfl,o2,w2,f2⟩
 | true=>
   have ht: ¬(1:Int)<1:=by omega
   rcases Wbc hb id with ⟨q1,_⟩ | ⟨i,q1,_,_,hi,q5⟩
   ·rw[of_none hb ht q1] at e1
    rw[do_none hb q1]
    simp only[Account.enc,Account.none_] at e1
    simp only[rn,RO.dst,lk,drop,Nat.reduceBEq,Nat.reduceAdd,Nat.reduceLeDiff,↓reduceIte,reduceCtorEq,z0,z1,z2,e1,e2]
    exact ⟨_,_,_,rfl,o2,w2,f2⟩
   ·rw[of_at hb ht q1] at e1
    rw[do_at hb q1]
    have hbal:=(hok _ (Qd hi)).bal
    rw[Account.at_get hi] at e1 ⊢
    obtain ⟨z,h3,fr,e3,o3,w3,f3⟩:=l10With_c (Z:=Z) hS10 hf w sm ⟨xs[i].id,xs[i].bal+m,xs[i].hold,xs[i].due,xs[i].tx⟩
    rw[with_set hb hi (a:=⟨xs[i].id,xs[i].bal+m,xs[i].hold,xs[i].due,xs[i].tx⟩) rfl] at w3
    have hws:IntKind.u64.wrap (18446744073709551615-xs[i].bal)=18446744073709551615-xs[i].bal:=wrapU _ (by omega) (by omega)
    simp only[Account.enc] at e1 e3
    generalize xs[i]=a at *
    by_cases c1:a.tx=0
    ·have c1':(a.tx !=0)=false:=by simpa using c1
     by_cases c2:a.bal+m≤18446744073709551615
     ·have hd:depF m a=(0,{a with bal:=a.bal+m}):=by simp[depF,c1,c2]
      have htx:(a.tx== -1)=false:=by simp[c1]
      have hw:IntKind.u64.wrap (a.bal+m)=a.bal+m:=wrapU _ (by omega) (by omega)
      have c3: ¬m>18446744073709551615-a.bal:=by omega
      rw[hd]
      simp only[beq_self_eq_true,cond_true,htx,cond_false]
      simp only[rn,RO.dst,lk,drop,Nat.reduceBEq,Nat.reduceAdd,Nat.reduceLeDiff,↓reduceIte,reduceCtorEq,z0,z1,z2,e1,hws,hw,c1',c3,e3]
      exact ⟨_,_,_,rfl,o3,w3,f3⟩
     ·have hd:depF m a=(5,a):=by simp[depF,c1,c2]
      have c3:m>18446744073709551615-a.bal:=by omega
      rw[hd]
      have h0:((5:Int)==0)=false:=rfl
      simp only[h0,cond_false]
      simp only[rn,RO.dst,lk,drop,Nat.reduceBEq,Nat.reduceAdd,Nat.reduceLeDiff,↓reduceIte,reduceCtorEq,z0,z1,z2,e1,hws,c1',c3,e2]
      exact ⟨_,_,_,rfl,o2,w2,f2⟩
    ·have c1':(a.tx !=0)=true:=by simpa using c1
     have hd:depF m a=(6,a):=by simp[depF,c1]
     rw[hd]
     have h0:((6:Int)==0)=false:=rfl
     simp only[h0,cond_false]
     simp only[rn,RO.dst,lk,drop,Nat.reduceBEq,Nat.reduceAdd,Nat.reduceLeDiff,↓reduceIte,reduceCtorEq,z0,z1,z2,e1,c1',e2]
     exact ⟨_,_,_,rfl,o2,w2,f2⟩
set_option maxHeartbeats 1000000 in
theorem sWithdraw_c (hS10:Has F tS10) (hf:h.floor≤h.next) (w:SlR 11 (Fl Account.enc) h x xs fp) (id m:Int) (hm:0≤m∧m≤18446744073709551615) (hok: ∀t,t∈xs→t.Ok) (sm:xs.length≤1048576):
 ∃y h' fq,call F Z 326 [.agg [x],.c (.int .u64 id),.c (.int .u64 m)] h=some (.tup [.agg [y],.c (.int .i64 (WaX xs id (witF m)).2)],h')∧On h h'∧SlR 11 (Fl Account.enc) h' y (WaX xs id (witF m)).1 fq∧Fre h fq:=by
 have e1:=l10Of_run (Z:=Z) hS10 w id 1 hok
 obtain ⟨y,h2,fq,e2,o2,w2,f2⟩:=WbS (Z:=Z) hS10 hf w sm
 have z0:((0:Int) !=0)=false:=rfl
 have z1:((1:Int) !=0)=true:=rfl
 have z2:((2:Int) !=0)=true:=rfl
 rw[Wac F Z (hS10.lk (g:=326) rfl) _ _ rfl]
 cases hb:Wap xs with
 | false=>
   rw[of_bad hb] at e1
   rw[do_bad hb]
   simp only[Account.enc,Account.none_] at e1
   simp only[rn,RO.dst,lk,drop,Nat.reduceBEq,Nat.reduceAdd,Nat.reduceLeDiff,↓reduceIte,reduceCtorEq,z0,z1,z2,e1,e2]
   exact ⟨_,_,_,rfl,o2,w2,f2⟩
 | true=>
   have ht: ¬(1:Int)<1:=by omega
   rcases Wbc hb id with ⟨q1,_⟩ | ⟨i,q1,_,_,hi,q5⟩
   ·rw[of_none hb ht q1] at e1
    rw[do_none hb q1]
    simp only[Account.enc,Account.none_] at e1
    simp only[rn,RO.dst,lk,drop,Nat.reduceBEq,Nat.reduceAdd,Nat.reduceLeDiff,↓reduceIte,reduceCtorEq,z0,z1,z2,e1,e2]
    exact ⟨_,_,_,rfl,o2,w2,f2⟩
   ·rw[of_at hb ht q1] at e1
    rw[do_at hb q1]
    have hbal:=(hok _ (Qd hi)).bal
    rw[Account.at_get hi] at e1 ⊢
    obtain ⟨z,h3,fr,e3,o3,w3,f3⟩:=l10With_c (Z:=Z) hS10 hf w sm ⟨xs[i].id,xs[i].bal-m,xs[i].hold,xs[i].due,xs[i].tx⟩
    rw[with_set hb hi (a:=⟨xs[i].id,xs[i].bal-m,xs[i].hold,xs[i].due,xs[i].tx⟩) rfl] at w3
    have hws:IntKind.u64.wrap (18446744073709551615-xs[i].bal)=18446744073709551615-xs[i].bal:=wrapU _ (by omega) (by omega)
    simp only[Account.enc] at e1 e3
    generalize xs[i]=a at *
    by_cases c1:a.tx=0
    ·have c1':(a.tx !=0)=false:=by simpa using c1
     by_cases c2:m≤a.bal
     ·have hd:witF m a=(0,{a with bal:=a.bal-m}):=by simp[witF,c1,c2]
      have htx:(a.tx== -1)=false:=by simp[c1]
      have hw:IntKind.u64.wrap (a.bal-m)=a.bal-m:=wrapU _ (by omega) (by omega)
      have c3: ¬m>a.bal:=by omega
      rw[hd]
      simp only[beq_self_eq_true,cond_true,htx,cond_false]
      simp only[rn,RO.dst,lk,drop,Nat.reduceBEq,Nat.reduceAdd,Nat.reduceLeDiff,↓reduceIte,reduceCtorEq,z0,z1,z2,e1,hws,hw,c1',c3,e3]
      exact ⟨_,_,_,rfl,o3,w3,f3⟩
     ·have hd:witF m a=(4,a):=by simp[witF,c1,c2]
      have c3:m>a.bal:=by omega
      rw[hd]
      have h0:((4:Int)==0)=false:=rfl
      simp only[h0,cond_false]
      simp only[rn,RO.dst,lk,drop,Nat.reduceBEq,Nat.reduceAdd,Nat.reduceLeDiff,↓reduceIte,reduceCtorEq,z0,z1,z2,e1,hws,c1',c3,e2]
      exact ⟨_,_,_,rfl,o2,w2,f2⟩
    ·have c1':(a.tx !=0)=true:=by simpa using c1
     have hd:witF m a=(6,a):=by simp[witF,c1]
     rw[hd]
     have h0:((6:Int)==0)=false:=rfl
     simp only[h0,cond_false]
     simp only[rn,RO.dst,lk,drop,Nat.reduceBEq,Nat.reduceAdd,Nat.reduceLeDiff,↓reduceIte,reduceCtorEq,z0,z1,z2,e1,c1',e2]
     exact ⟨_,_,_,rfl,o2,w2,f2⟩
theorem filter_erase (g:Wap xs=true) {i:Nat} (hi:i<xs.length):xs.filter (fun b=>b.id !=xs[i].id)=xs.eraseIdx i:=by
 have e:xs=xs.take i++xs[i]::xs.drop (i+1):=by rw[←QC hi,Jg]
 rw[Qr]
 generalize hk:xs[i].id=k
 conv=>lhs;rw[e]
 rw[JC,List.filter_cons_of_neg (by simp[hk])]
 congr 1
 ·rw[JA]
  intro b hb
  obtain ⟨j,hj,rfl⟩:=QF.1 hb
  rw[Qg] at hj
  rw[List.getElem_take]
  have:=book_lt g hi (i:=j) (by omega)
  simp;omega
 ·rw[JA]
  intro b hb
  obtain ⟨j,hj,rfl⟩:=QF.1 hb
  rw[Qw] at hj
  rw[List.getElem_drop]
  have:=book_lt g (i:=i) (j:=i+1+j) (by omega) (by omega)
  simp;omega
set_option maxHeartbeats 2000000 in
theorem sCloseAccount_c (hS10:Has F tS10) (hf:h.floor≤h.next) (w:SlR 11 (Fl Account.enc) h x xs fp) (id:Int) (hok: ∀t,t∈xs→t.Ok) (sm:xs.length≤1048576):
 ∃y h' fq,call F Z 324 [.agg [x],.c (.int .u64 id)] h=some (.tup [.agg [y],.c (.int .i64 (WaX xs id closeF).2)],h')∧On h h'∧SlR 11 (Fl Account.enc) h' y (WaX xs id closeF).1 fq∧Fre h fq:=by
 have e1:=l10Of_run (Z:=Z) hS10 w id 1 hok
 obtain ⟨y,h2,fq,e2,o2,w2,f2⟩:=WbS (Z:=Z) hS10 hf w sm
 have z0:((0:Int) !=0)=false:=rfl
 have z1:((1:Int) !=0)=true:=rfl
 have z2:((2:Int) !=0)=true:=rfl
 have hle:=w.le2
 have hwl:=w.len
 rw[Wac F Z (hS10.lk (g:=324) rfl) _ _ rfl]
 cases hb:Wap xs with
 | false=>
   rw[of_bad hb] at e1
   rw[do_bad hb]
   simp only[Account.enc,Account.none_] at e1
   simp only[rn,RO.dst,lk,drop,Nat.reduceBEq,Nat.reduceAdd,Nat.reduceLeDiff,↓reduceIte,reduceCtorEq,z0,z1,z2,e1,e2]
   exact ⟨_,_,_,rfl,o2,w2,f2⟩
 | true=>
   have ht: ¬(1:Int)<1:=by omega
   rcases Wbc hb id with ⟨q1,_⟩ | ⟨i,q1,_,_,hi,q5⟩
   ·rw[of_none hb ht q1] at e1
    rw[do_none hb q1]
    simp only[Account.enc,Account.none_] at e1
    simp only[rn,RO.dst,lk,drop,Nat.reduceBEq,Nat.reduceAdd,Nat.reduceLeDiff,↓reduceIte,reduceCtorEq,z0,z1,z2,e1,e2]
    exact ⟨_,_,_,rfl,o2,w2,f2⟩
   ·rw[of_at hb ht q1] at e1
    rw[do_at hb q1]
    have hfe:=filter_erase hb hi
    rw[Account.at_get hi] at e1 q5 ⊢
    rw[q5] at hfe
    simp only[Account.enc] at e1
    generalize xs[i]=a at *
    by_cases c1:a.tx=0
    ·have c1':(a.tx !=0)=false:=by simpa using c1
     by_cases c2:a.bal=0
     ·have c2':(a.bal !=0)=false:=by simpa using c2
      have hd:closeF a=(0,{a with tx:= -1}):=by simp[closeF,c1,c2]
      rw[hd]
      simp only[beq_self_eq_true,cond_true]
      simp only[rn,RO.dst,lk,drop,Nat.reduceBEq,Nat.reduceAdd,Nat.reduceLeDiff,↓reduceIte,reduceCtorEq,z0,z1,z2,e1,c1',c2']
      obtain ⟨s',⟨y,g,hs,ac⟩,lp⟩:=WaB (F:=F) (Z:=Z) (live:=[1,2,4,8,9]) (b:=r324L0) xs.length (fun i st=> ∃y g,st=⟨[(1,.c (.int .u64 id)),(9,.c (.int .i64 (i:Nat)))],[(2,2,0),(4,4,0),(8,8,0)],[(2,[x]),(4,[.nil]),(8,[y])],g⟩∧Acc 11 h g y (((xs.take i).filter (fun b=>b.id !=id)).map Account.enc)) (fun i st hi' ⟨y,g,hs,ac⟩=>by
       subst hs
       have hlt:(i:Int)<xs.length:=by omega
       have hws:=WaS i (by omega)
       have hxi:=w.idx hi'
       have hld:=(w.on (Fl.ok _) ac.on).load hi'
       have hfn:=filter_next (fun b:Account=>b.id !=id) hi'
       have hfl:=filter_len (fun b:Account=>b.id !=id) xs i
       rw[Wab]
       conv in (Wad _ _ r324L0 _)=>unfold r324L0
       generalize xs[i]=b at *
       simp only[Account.enc] at hld
       cases c:(b.id !=id) with
       | true=>
         rw[c] at hfn
         have e3:=ac.one_eq hf (bytes:=40) (by rw[Qx];omega) b.enc
         have a2:=ac.one hf (by rw[Qx];omega) b.enc
         rw[show ((xs.take i).filter (fun b=>b.id !=id)).map Account.enc++[b.enc]=((xs.take (i+1)).filter (fun b=>b.id !=id)).map Account.enc from by rw[hfn];simp] at a2
         simp only[Account.enc] at e3 a2
         simp only[rn,RO.dst,lk,drop,Nat.reduceBEq,Nat.reduceAdd,Nat.reduceLeDiff,↓reduceIte,reduceCtorEq,hwl,hlt,hxi,hld,c,Qi,Qe,Wav,and_self,Qk,Qh,e3,hws,Account.enc]
         exact ⟨_,⟨_,_,rfl,a2⟩,rfl⟩
       | false=>
         rw[c] at hfn
         rw[show (xs.take i).filter (fun b=>b.id !=id)=(xs.take (i+1)).filter (fun b=>b.id !=id) from by rw[hfn];simp] at ac
         simp only[rn,RO.dst,lk,drop,Nat.reduceBEq,Nat.reduceAdd,Nat.reduceLeDiff,↓reduceIte,reduceCtorEq,hwl,hlt,hxi,hld,c,hws]
         exact ⟨_,⟨_,_,rfl,ac⟩,rfl⟩) (s:=⟨[(1,.c (.int .u64 id)),(9,.c (.int .i64 (0:Nat)))],[(2,2,0),(4,4,0),(8,8,0)],[(2,[x]),(4,[.nil]),(8,[.nil])],h⟩) ⟨_,_,rfl,by simpa using Acc.nil 11 h⟩
      subst hs
      rw[Qm,hfe] at ac
      obtain ⟨o3,fr,w3,f3⟩:=ac.flat (enc:=Account.enc)
      simp only[show ((0:Nat):Int)=0 from rfl] at lp
      have hlt: ¬(xs.length:Int)<xs.length:=by omega
      rw[lp,Wab]
      conv in (Wad _ _ r324L0 _)=>unfold r324L0
      simp only[rn,RO.dst,lk,drop,Nat.reduceBEq,Nat.reduceAdd,Nat.reduceLeDiff,↓reduceIte,reduceCtorEq,hwl,hlt]
      exact ⟨_,_,_,rfl,o3,w3,f3⟩
     ·have c2':(a.bal !=0)=true:=by simpa using c2
      have hd:closeF a=(4,a):=by simp[closeF,c1,c2]
      rw[hd]
      have h0:((4:Int)==0)=false:=rfl
      simp only[h0,cond_false]
      simp only[rn,RO.dst,lk,drop,Nat.reduceBEq,Nat.reduceAdd,Nat.reduceLeDiff,↓reduceIte,reduceCtorEq,z0,z1,z2,e1,c1',c2',e2]
      exact ⟨_,_,_,rfl,o2,w2,f2⟩
    ·have c1':(a.tx !=0)=true:=by simpa using c1
     have hd:closeF a=(6,a):=by simp[closeF,c1]
     rw[hd]
     have h0:((6:Int)==0)=false:=rfl
     simp only[h0,cond_false]
     simp only[rn,RO.dst,lk,drop,Nat.reduceBEq,Nat.reduceAdd,Nat.reduceLeDiff,↓reduceIte,reduceCtorEq,z0,z1,z2,e1,c1',e2]
     exact ⟨_,_,_,rfl,o2,w2,f2⟩
end
end Go.Proofs.YtjaideekkbpalaaGreat.A
