/- The functions that the statement reaches, part 2: bodies and what they compute. No condition. -/
import Derived.Test.YteagcdhkobeanaaHCExactHandTake1
import Derived.Test.YteagcdhkobeanaaZ6
import Derived.Test.YteagcdhkobeanaaB9
namespace Go.Proofs.Yteagcdhkobeanaa.A
open Go
set_option linter.unusedSimpArgs false
set_option linter.unusedVariables false
structure KI (F:Nat→Option RF):Prop where
 i10:Has F tI10
 i11:Has F tI11
 i13:Has F tI13
 c1:Has F tLibcmpCompareint
 c2:Has F tLibcmpCompareuint64
 c3:Has F tLibcmpOrint
 c4:Has F tLibcmpisNaNint
 c5:Has F tLibcmpisNaNuint64
 li:Has F tLibslicesIndeximplFinimplFin
 lc:Has F tLibslicesContainsimplFinimplFin
structure KS (F:Nat→Option RF):Prop where
 s01:Has F tS01d
 s10:Has F tS10
 s13:Has F tS13
def Shard.none_:Shard:=⟨0,0,0,0,⟨[]⟩,[]⟩
def Shard.at_ (xs:List Shard) (i:Nat):Shard:=xs[i]?.getD Shard.none_
theorem Shard.at_get {xs:List Shard} {i:Nat} (hi:i<xs.length):Shard.at_ xs i=xs[i]:=by simp[Shard.at_,List.getElem?_eq_getElem hi]
def Store.fits (s:Store) (i:Nat):Bool:=(Shard.at_ s.shards i).good&&(decide ((Shard.at_ s.shards i).epoch≤s.seen)&&(i==0||decide ((Shard.at_ s.shards (i-1)).hi<(Shard.at_ s.shards i).lo)))
def Store.good (s:Store):Bool:=inR s.group 0 99&&(inR s.seen 0 1000000&&(decide ((s.shards.length:Int)≤8)&&(List.range s.shards.length).all s.fits))
section
variable {F:Nat→Option RF} {Z:CallF} {h:Heap} {cs:List Cell} {s:Store} {fp:List Nat} {x:Cell}
theorem isShard_q (k:KI F) {t:Shard} {cs:List Cell} {fp:List Nat} (v:Shard.RI h cs t fp) (ok:t.Ok):
 ∃h' g,call F Z 244 [.agg cs] ⟨h.next,h.next,h.get⟩=some (.c (.bool t.good),h')∧Heap.mk h'.next h.floor h'.get=g∧On h g:=by
 obtain ⟨h',e,o⟩:=isShard_run (Z:=Z) k.i10 k.i13 k.c1 k.c2 k.c3 k.c4 k.c5 k.li k.lc (Shard.okI.up v h.next) ok
 exact quietly e o
set_option maxHeartbeats 4000000 in
theorem isStore_turn (k:KI F) (w:SlR 16 Shard.RI h x s.shards fp) (ok: ∀a,a∈s.shards→a.Ok) (i:Nat) (hi:i<s.shards.length):
 TurnO (loop F Z [1,26,27,28] r206L0 ⟨[(26,.c x),(27,.c (.int .i64 (s.shards.length:Nat))),(28,.c (.int .i64 (i:Nat)))],[(1,1,0)],[(1,[.int .i64 s.group,.int .i64 s.seen,x])],h⟩)
  (fun g=>loop F Z [1,26,27,28] r206L0 ⟨[(26,.c x),(27,.c (.int .i64 (s.shards.length:Nat))),(28,.c (.int .i64 ((i+1:Nat):Int)))],[(1,1,0)],[(1,[.int .i64 s.group,.int .i64 s.seen,x])],g⟩)
  h (s.fits i) (fun s'=>lk s'.env 2=some (.c (.bool false))):=by
 have hle:=w.le2
 have hlt:(i:Int)<s.shards.length:=by omega
 have hws:=wrapS i (by omega)
 have hxi:=w.idx hi
 obtain ⟨r,f,hld,hR,_⟩:=w.one hi
 rw[←Shard.at_get hi] at hR
 have aok:=ok _ (List.getElem_mem hi)
 rw[←Shard.at_get hi] at aok
 obtain ⟨h',g,hc,hg,og⟩:=isShard_q (Z:=Z) k hR aok
 have hpre:0<i→IntKind.i64.wrap ((i:Int)-1)=((i-1:Nat):Int):=fun hp=>by rw[wrapI _ (by omega) (by omega)];omega
 have hpi:0<i→idxR 16 (some x) (some ((i-1:Nat):Int))=some (.ptr x.sid (i-1) 0):=fun hp=>w.idx (by omega)
 have hpl:0<i→ ∃r',(∀j n,loadP g x.sid (i-1) j n=cut? r' j n)∧ ∃f',Shard.RI g r' (Shard.at_ s.shards (i-1)) f':=fun hp=>by
  obtain ⟨r',f',h1,h2,_⟩:=(w.on Shard.okI og).one (show i-1<s.shards.length by omega)
  rw[←Shard.at_get] at h2
  exact ⟨r',h1,f',h2⟩
 have hfit:s.fits i=((Shard.at_ s.shards i).good&&(decide ((Shard.at_ s.shards i).epoch≤s.seen)&&(i==0||decide ((Shard.at_ s.shards (i-1)).hi<(Shard.at_ s.shards i).lo)))):=rfl
 obtain ⟨x1,p1,x2,p2,rfl,_⟩:=hR
 clear w ok aok
 generalize s.fits i=fa at *
 generalize (Shard.at_ s.shards i).good=gd at *
 generalize Shard.at_ s.shards (i-1)=pa at *
 generalize Shard.at_ s.shards i=a at *
 rw[loop_run]
 conv in (codeF _ _ r206L0 _)=>unfold r206L0
 simp only[rn,RO.dst,lk,drop,Nat.reduceBEq,Nat.reduceAdd,Nat.reduceLeDiff,↓reduceIte,reduceCtorEq,hlt,hxi,hld]
 cases gd with
 | false=>
   simp only[rn,RO.dst,lk,drop,Nat.reduceBEq,Nat.reduceAdd,Nat.reduceLeDiff,↓reduceIte,reduceCtorEq,hc,hg]
   exact .inr ⟨by simp_all,_,rfl,og,rfl⟩
 | true=>
   by_cases hp:0<i
   ·have g1:(i:Int)>0:=by omega
    have hi0:(i==0)=false:=by simp;omega
    have q1:=hpre hp
    have q2:=hpi hp
    obtain ⟨r',q3,f',y1,y2,y3,y4,rfl,_⟩:=hpl hp
    clear hxi hpre hpi hpl hld
    simp only[rn,RO.dst,lk,drop,Nat.reduceBEq,Nat.reduceAdd,Nat.reduceLeDiff,↓reduceIte,reduceCtorEq,hws,g1,q1,q2,q3,hc,hg]
    (repeat' ((first | (rw[gF_if];split) | (rw[condC_if];split) | (rw[pickR_if];split))<;>(rename_i hh;(try simp only[Bool.not_eq_true,decide_eq_true_eq] at hh);simp only[hh,rn,RO.dst,lk,drop,Nat.reduceBEq,Nat.reduceAdd,Nat.reduceLeDiff,↓reduceIte,reduceCtorEq,hws,g1,q1,q2,q3,hc,hg])))
    all_goals clear q2 q3 hc hg
    all_goals first
     | exact .inl ⟨by simp_all<;>omega,_,og,rfl⟩
     | exact .inr ⟨by simp_all<;>omega,_,rfl,og,rfl⟩
   ·have g1: ¬(i:Int)>0:=by omega
    have hi0:(i==0)=true:=by simp;omega
    clear hxi hpre hpi hpl hld
    simp only[rn,RO.dst,lk,drop,Nat.reduceBEq,Nat.reduceAdd,Nat.reduceLeDiff,↓reduceIte,reduceCtorEq,hws,g1,hc,hg]
    (repeat' ((first | (rw[gF_if];split) | (rw[condC_if];split) | (rw[pickR_if];split))<;>(rename_i hh;(try simp only[Bool.not_eq_true,decide_eq_true_eq] at hh);simp only[hh,rn,RO.dst,lk,drop,Nat.reduceBEq,Nat.reduceAdd,Nat.reduceLeDiff,↓reduceIte,reduceCtorEq,hws,g1,hc,hg])))
    all_goals clear hc hg
    all_goals first
     | exact .inl ⟨by simp_all<;>omega,_,og,rfl⟩
     | exact .inr ⟨by simp_all<;>omega,_,rfl,og,rfl⟩
set_option maxHeartbeats 4000000 in
theorem isStore_run (k:KI F) (v:Store.RI h cs s fp) (ok:s.Ok): ∃h',call F Z 206 [.agg cs] h=some (.c (.bool s.good),h')∧On h h':=by
 obtain ⟨x,p,rfl,rfl,w⟩:=v
 have key:=loop_on (F:=F) (Z:=Z) (live:=[1,26,27,28]) (b:=r206L0) s.shards.length (fun i g=>⟨[(26,.c x),(27,.c (.int .i64 (s.shards.length:Nat))),(28,.c (.int .i64 (i:Nat)))],[(1,1,0)],[(1,[.int .i64 s.group,.int .i64 s.seen,x])],g⟩) h s.fits (fun s'=>lk s'.env 2=some (.c (.bool false)))
  fun i g hi og=>isStore_turn k (w.on Shard.okI og) ok.shards i hi
 have l1:=w.len
 have n1: ¬(s.shards.length:Int)<s.shards.length:=by omega
 clear w ok
 simp only[show ((0:Nat):Int)=0 from rfl] at key
 have hg:=isGroupId_run (Z:=Z) k.i11
 have hgd:s.good=(inR s.group 0 99&&(inR s.seen 0 1000000&&(decide ((s.shards.length:Int)≤8)&&(List.range s.shards.length).all s.fits))):=rfl
 generalize s.good=sg at *
 generalize (List.range s.shards.length).all s.fits=al at *
 rw[call_run F Z (k.i13.lk (g:=206) rfl) _ _ rfl]
 simp only[rn,RO.dst,lk,drop,Nat.reduceBEq,Nat.reduceAdd,Nat.reduceLeDiff,↓reduceIte,reduceCtorEq,hg,l1]
 clear k
 (repeat' ((first | (rw[gF_if];split) | (rw[condC_if];split) | (rw[pickR_if];split))<;>(rename_i hh;(try simp only[Bool.not_eq_true,decide_eq_true_eq] at hh);simp only[hh,rn,RO.dst,lk,drop,Nat.reduceBEq,Nat.reduceAdd,Nat.reduceLeDiff,↓reduceIte,reduceCtorEq,hg,l1])))
 all_goals clear hg l1
 all_goals first
  | (refine ⟨_,?_,On.refl h⟩;simp_all[inR];done)
  | (refine ⟨_,?_,On.refl h⟩;simp_all[inR];omega)
  | (rcases key with ⟨a1,g,og,a2⟩ | ⟨a1,s',a2,og,a3⟩
     ·dsimp only at a2
      rw[a2,loop_run]
      conv in (codeF _ _ r206L0 _)=>unfold r206L0
      simp only[rn,RO.dst,lk,drop,Nat.reduceBEq,Nat.reduceAdd,Nat.reduceLeDiff,↓reduceIte,reduceCtorEq,n1]
      refine ⟨_,?_,og⟩
      simp_all[inR]<;>omega
     ·rw[a2]
      simp only[rn,RO.dst,lk,drop,Nat.reduceBEq,Nat.reduceAdd,Nat.reduceLeDiff,↓reduceIte,reduceCtorEq,a3]
      refine ⟨_,?_,og⟩
      simp_all[inR]<;>omega)
end
end Go.Proofs.Yteagcdhkobeanaa.A
namespace Go.Proofs.Yteagcdhkobeanaa.A
open Go
set_option linter.unusedSimpArgs false
set_option linter.unusedVariables false
section
variable {F:Nat→Option RF} {Z:CallF} {h:Heap} {cs:List Cell} {s:Store} {fp:List Nat} {x:Cell}
theorem l13Shard_q (k:KS F) {t:Shard} {cs:List Cell} {fp:List Nat} (v:Shard.RI h cs t fp) (ok:t.Ok):
 call F Z 204 [.agg cs] ⟨h.next,h.next,h.get⟩=some (.c (.bool t.good),⟨h.next,h.next,h.get⟩):=l13Shard_run (Z:=Z) k.s01 k.s10 k.s13 (Shard.okI.up v h.next) ok
set_option maxHeartbeats 4000000 in
theorem sStoreOk_turn (k:KS F) (w:SlR 16 Shard.RI h x s.shards fp) (ok: ∀a,a∈s.shards→a.Ok) (i:Nat) (hi:i<s.shards.length):
 Turn (loop F Z [1,3] r156L0 ⟨[(3,.c (.int .i64 (i:Nat)))],[(1,1,0)],[(1,[.int .i64 s.group,.int .i64 s.seen,x])],h⟩)
  (loop F Z [1,3] r156L0 ⟨[(3,.c (.int .i64 ((i+1:Nat):Int)))],[(1,1,0)],[(1,[.int .i64 s.group,.int .i64 s.seen,x])],h⟩)
  (s.fits i) (fun s'=>lk s'.env 2=some (.c (.bool false))∧s'.hp=h):=by
 have hle:=w.le2
 have hlt:(i:Int)<s.shards.length:=by omega
 have hws:=wrapS i (by omega)
 have hxi:=w.idx hi
 have hwl:=w.len
 obtain ⟨r,f,hld,hR,_⟩:=w.one hi
 rw[←Shard.at_get hi] at hR
 have aok:=ok _ (List.getElem_mem hi)
 rw[←Shard.at_get hi] at aok
 have hc:=l13Shard_q (Z:=Z) k hR aok
 have hpre:0<i→IntKind.i64.wrap ((i:Int)-1)=((i-1:Nat):Int):=fun hp=>by rw[wrapI _ (by omega) (by omega)];omega
 have hpi:0<i→idxR 16 (some x) (some ((i-1:Nat):Int))=some (.ptr x.sid (i-1) 0):=fun hp=>w.idx (by omega)
 have hpl:0<i→ ∃r',(∀j n,loadP h x.sid (i-1) j n=cut? r' j n)∧ ∃f',Shard.RI h r' (Shard.at_ s.shards (i-1)) f':=fun hp=>by
  obtain ⟨r',f',h1,h2,_⟩:=w.one (show i-1<s.shards.length by omega)
  rw[←Shard.at_get] at h2
  exact ⟨r',h1,f',h2⟩
 have hfit:s.fits i=((Shard.at_ s.shards i).good&&(decide ((Shard.at_ s.shards i).epoch≤s.seen)&&(i==0||decide ((Shard.at_ s.shards (i-1)).hi<(Shard.at_ s.shards i).lo)))):=rfl
 obtain ⟨x1,p1,x2,p2,rfl,_⟩:=hR
 clear w ok aok
 generalize s.fits i=fa at *
 generalize (Shard.at_ s.shards i).good=gd at *
 generalize Shard.at_ s.shards (i-1)=pa at *
 generalize Shard.at_ s.shards i=a at *
 rw[loop_run]
 conv in (codeF _ _ r156L0 _)=>unfold r156L0
 simp only[rn,RO.dst,lk,drop,Nat.reduceBEq,Nat.reduceAdd,Nat.reduceLeDiff,↓reduceIte,reduceCtorEq,hwl,hlt,hxi,hld]
 cases gd with
 | false=>
   simp only[rn,RO.dst,lk,drop,Nat.reduceBEq,Nat.reduceAdd,Nat.reduceLeDiff,↓reduceIte,reduceCtorEq,hc]
   exact .inr ⟨by simp_all,_,rfl,rfl,rfl⟩
 | true=>
   by_cases hp:0<i
   ·have g1:(i:Int)>0:=by omega
    have hi0:(i==0)=false:=by simp;omega
    have q1:=hpre hp
    have q2:=hpi hp
    obtain ⟨r',q3,f',y1,y2,y3,y4,rfl,_⟩:=hpl hp
    clear hxi hpre hpi hpl hld
    simp only[rn,RO.dst,lk,drop,Nat.reduceBEq,Nat.reduceAdd,Nat.reduceLeDiff,↓reduceIte,reduceCtorEq,hws,g1,q1,q2,q3,hc]
    (repeat' ((first | (rw[gF_if];split) | (rw[condC_if];split) | (rw[pickR_if];split))<;>(rename_i hh;(try simp only[Bool.not_eq_true,decide_eq_true_eq] at hh);simp only[hh,rn,RO.dst,lk,drop,Nat.reduceBEq,Nat.reduceAdd,Nat.reduceLeDiff,↓reduceIte,reduceCtorEq,hws,g1,q1,q2,q3,hc])))
    all_goals clear q2 q3 hc
    all_goals first
     | exact .inl ⟨by simp_all<;>omega,rfl⟩
     | exact .inr ⟨by simp_all<;>omega,_,rfl,rfl,rfl⟩
   ·have g1: ¬(i:Int)>0:=by omega
    have hi0:(i==0)=true:=by simp;omega
    clear hxi hpre hpi hpl hld
    simp only[rn,RO.dst,lk,drop,Nat.reduceBEq,Nat.reduceAdd,Nat.reduceLeDiff,↓reduceIte,reduceCtorEq,hws,g1,hc]
    (repeat' ((first | (rw[gF_if];split) | (rw[condC_if];split) | (rw[pickR_if];split))<;>(rename_i hh;(try simp only[Bool.not_eq_true,decide_eq_true_eq] at hh);simp only[hh,rn,RO.dst,lk,drop,Nat.reduceBEq,Nat.reduceAdd,Nat.reduceLeDiff,↓reduceIte,reduceCtorEq,hws,g1,hc])))
    all_goals clear hc
    all_goals first
     | exact .inl ⟨by simp_all<;>omega,rfl⟩
     | exact .inr ⟨by simp_all<;>omega,_,rfl,rfl,rfl⟩
set_option maxHeartbeats 4000000 in
theorem sStoreOk_run (k:KS F) (v:Store.RI h cs s fp) (ok:s.Ok):call F Z 156 [.agg cs] h=some (.c (.bool s.good),h):=by
 obtain ⟨x,p,rfl,rfl,w⟩:=v
 have key:=loop_allN (F:=F) (Z:=Z) (live:=[1,3]) (b:=r156L0) s.shards.length (fun i=>⟨[(3,.c (.int .i64 (i:Nat)))],[(1,1,0)],[(1,[.int .i64 s.group,.int .i64 s.seen,x])],h⟩) s.fits (fun s'=>lk s'.env 2=some (.c (.bool false))∧s'.hp=h)
  fun i hi=>sStoreOk_turn k w ok.shards i hi
 have l1:=w.len
 have n1: ¬(s.shards.length:Int)<s.shards.length:=by omega
 clear w ok
 simp only[show ((0:Nat):Int)=0 from rfl] at key
 have hg:=fun n lo hi=>l01In_run (Z:=Z) k.s01 n lo hi h
 have hgd:s.good=(inR s.group 0 99&&(inR s.seen 0 1000000&&(decide ((s.shards.length:Int)≤8)&&(List.range s.shards.length).all s.fits))):=rfl
 generalize s.good=sg at *
 generalize (List.range s.shards.length).all s.fits=al at *
 rw[call_run F Z (k.s13.lk (g:=156) rfl) _ _ rfl]
 simp only[rn,RO.dst,lk,drop,Nat.reduceBEq,Nat.reduceAdd,Nat.reduceLeDiff,↓reduceIte,reduceCtorEq,hg,l1]
 clear k
 (repeat' ((first | (rw[gF_if];split) | (rw[condC_if];split) | (rw[pickR_if];split))<;>(rename_i hh;(try simp only[Bool.not_eq_true,decide_eq_true_eq] at hh);simp only[hh,rn,RO.dst,lk,drop,Nat.reduceBEq,Nat.reduceAdd,Nat.reduceLeDiff,↓reduceIte,reduceCtorEq,hg,l1])))
 all_goals clear hg
 all_goals first
  | (simp_all[inR]<;>omega)
  | (rcases key with ⟨a1,a2⟩ | ⟨a1,s',a2,a3,a4⟩
     ·rw[a2,loop_run]
      conv in (codeF _ _ r156L0 _)=>unfold r156L0
      simp only[rn,RO.dst,lk,drop,Nat.reduceBEq,Nat.reduceAdd,Nat.reduceLeDiff,↓reduceIte,reduceCtorEq,l1,n1]
      simp_all[inR]<;>omega
     ·rw[a2]
      simp only[rn,RO.dst,lk,drop,Nat.reduceBEq,Nat.reduceAdd,Nat.reduceLeDiff,↓reduceIte,reduceCtorEq,a3,a4]
      simp_all[inR]<;>omega)
variable {c:Heap}
end
end Go.Proofs.Yteagcdhkobeanaa.A
namespace Go.Proofs.Yteagcdhkobeanaa.A
open Go
set_option linter.unusedSimpArgs false
set_option linter.unusedVariables false
theorem push_ne {h:Heap} (r:List (List Cell)) {id:Nat} (hid:id≠h.next):(h.push r).get id=h.get id:=by simp only[Heap.push];rw[if_neg hid]
theorem kill_ne {h:Heap} {k id:Nat} (hid:id≠k):(h.kill k).get id=h.get id:=by simp only[Heap.kill];rw[if_neg hid]
theorem put_ne {h:Heap} {k id:Nat} (r:List (List Cell)) (hid:id≠k):(h.put k r).get id=h.get id:=by simp only[Heap.put];rw[if_neg hid]
theorem kill_next (h:Heap) (k:Nat):(h.kill k).next=h.next:=rfl
structure AccM {α:Type} (R:Rel α) (tag:Nat) (h0 h:Heap) (x:Cell) (xs:List α) (fp:List Nat):Prop where
 on:On h0 h
 sh:SlR tag R h x xs fp
 fr:Fre h0 fp
section
variable {α:Type} {R:Rel α} {tag:Nat} {h0 h g:Heap} {x:Cell} {xs:List α} {fp fq:List Nat}
theorem AccM.nil (R:Rel α) (tag:Nat) (h:Heap):AccM R tag h h .nil [] []:=⟨On.refl h,SlR.nil _ _ _,Fre.nil h⟩
theorem AccM.none (R:Rel α) (tag:Nat) (o:On h0 h):AccM R tag h0 h .nil [] []:=⟨o,SlR.nil _ _ _,Fre.nil h0⟩
theorem AccM.lit0 (R:Rel α) (tag:Nat) (o:On h0 h):AccM R tag h0 (h.push []) (.sl tag h.next 0 0) [] [h.next]:=
 ⟨o.trans (On.push h []),⟨by simp,.inr ⟨h.next,[],[],rfl,push_get _ _,by rw[push_next];omega,rfl,trivial⟩⟩,Fre.at o.ext.1⟩
theorem Fre.gt (f:Fre h0 fp): ∀id,id<h0.next→id∉fp:=fun id h1 h2=>by have:=f.lo id h2;omega
theorem flat_snoc {fps:List (List Nat)} {fq:List Nat}:(fps++[fq]).flatten=fps.flatten++fq:=by simp
theorem AccM.one (ok:RelOk R) (a:AccM R tag h0 h x xs fp) (hf:h0.floor≤h0.next) {bytes:Nat} (hb:(xs.length+1)*bytes≤140737488355328) (hl:xs.length+1≤140737488355328)
 (o:On h g) {cs:List Cell} {t:α} (v:R g cs t fq) (f:Fre h0 fq) (d: ∀id,id∈fq→id∉fp):
 ∃y' g' fp',appF (g.push [cs]) tag bytes x (.sl tag g.next 0 1)=some (y',g')∧AccM R tag h0 g' y' (xs++[t]) fp'∧h.next≤g'.next∧(∀id,id∈fp'→id∈fp∨id∈fq∨g.next≤id)∧(∀id,id<g.next→id∉fp→g'.get id=g.get id):=by
 have on':=a.on.trans o
 have hlt: ∀id,id∈fq→id<g.next:=ok.lt v
 have hp1: ∀id,id<g.next→(g.push [cs]).get id=g.get id:=fun id hid=>by simp only[Heap.push];rw[if_neg (by omega)]
 have hn:=o.ext.1
 rcases a.sh with ⟨_,⟨rfl,rfl,rfl⟩ | ⟨id,rows,fps,rfl,q1,q2,rfl,q3⟩⟩
 ·refine ⟨.sl tag (g.next+1) 0 1,(g.push [cs]).push [cs],(g.next+1)::([fq]:List (List Nat)).flatten,?_,⟨on'.trans ((On.push _ _).trans (On.push _ _)),⟨by simp[maxLen],.inr ⟨g.next+1,[cs],[fq],rfl,?_,?_,rfl,?_⟩⟩,⟨?_,?_⟩⟩,?_,?_,?_⟩
  ·simp only[List.length_nil,Nat.zero_add] at hb
   simp only[appF,isTag,beq_self_eq_true,↓reduceIte,rowsOf,push_get,Option.bind_some,List.length_singleton,Nat.zero_add,Nat.le_refl,List.drop_zero,List.take_one,List.head?_cons,Option.toList_some]
   rw[if_neg (by omega),if_pos (by omega)];rfl
  ·exact push_get _ _
  ·simp only[push_next];omega
  ·refine ⟨ok.mv v (by simp only[push_next];omega) fun id hid=> ?_,trivial⟩
   have:=hlt id hid
   rw[push_ne _ (by rw[push_next];omega),push_ne _ (by omega)]
  ·intro id hid
   simp only[List.flatten_cons,List.flatten_nil,List.append_nil,List.mem_cons] at hid
   rcases hid with rfl | hid
   ·have:=on'.ext.1;omega
   ·exact f.lo id hid
  ·simp only[List.flatten_cons,List.flatten_nil,List.append_nil,List.nodup_cons]
   exact ⟨fun hc=>by have:=hlt _ hc;omega,f.nd⟩
  ·simp only[push_next];omega
  ·intro id hid
   simp only[List.flatten_cons,List.flatten_nil,List.append_nil,List.mem_cons] at hid
   rcases hid with rfl | hid
   ·exact .inr (.inr (by omega))
   ·exact .inr (.inl hid)
  ·intro id h1 _
   rw[push_ne _ (by rw[push_next];omega),push_ne _ (by omega)]
 ·have hlo:h0.next≤id:=a.fr.lo id (by simp)
  have hnd:=List.nodup_cons.1 a.fr.nd
  have hrl:=q3.len
  have hg:(g.push [cs]).get id=some rows:=by rw[hp1 id (by omega),o.ext.2 id q2,q1]
  have hfl:g.floor≤id:=by rw[on'.fl];omega
  have hin: ∀j,j∈fps.flatten→j<h.next:=q3.lt ok
  have hgt: ∀j,j<g.next→j≠id→(((g.push [cs]).kill id).push (rows++[cs])).get j=g.get j:=fun j h1 h2=>by
   rw[push_ne _ (by rw[kill_next,push_next];omega),kill_ne h2,push_ne _ (by omega)]
  refine ⟨.sl tag (g.next+1) 0 (xs.length+1),((g.push [cs]).kill id).push (rows++[cs]),(g.next+1)::(fps++[fq]).flatten,?_,⟨⟨⟨?_,?_⟩,?_⟩,⟨by simp[maxLen];omega,.inr ⟨g.next+1,rows++[cs],fps++[fq],by simp,?_,?_,rfl,?_⟩⟩,⟨?_,?_⟩⟩,?_,?_,?_⟩
  ·simp only[appF,isTag,beq_self_eq_true,↓reduceIte,rowsOf,push_get,Option.bind_some,List.length_singleton,Nat.zero_add,Nat.le_refl,List.drop_zero,List.take_one,List.head?_cons,Option.toList_some,hg]
   simp only[hrl,push_floor,hfl,hb,and_self,↓reduceIte];rfl
  ·have:=on'.ext.1
   simp only[Heap.push,Heap.kill];omega
  ·intro j hj
   have:=on'.ext.1
   rw[hgt j (by omega) (by omega)]
   exact on'.ext.2 j hj
  ·exact on'.fl
  ·simp[Heap.push,Heap.kill]
  ·simp only[Heap.push,Heap.kill];omega
  ·refine AllR.snoc (q3.mv (h':=((g.push [cs]).kill id).push (rows++[cs])) ok (by simp only[Heap.push,Heap.kill];omega) fun j hj=> ?_) (ok.mv v (by simp only[Heap.push,Heap.kill];omega) fun j hj=> ?_)
   ·have h1:=hin j hj
    rw[hgt j (by omega) (fun e=>hnd.1 (e▸hj))]
    exact o.ext.2 j h1
   ·exact hgt j (hlt j hj) fun e=>d j hj (by rw[e];simp)
  ·intro j hj
   rw[flat_snoc] at hj
   rcases List.mem_cons.1 hj with rfl | hj
   ·have:=on'.ext.1;omega
   ·rcases List.mem_append.1 hj with hj | hj
    ·exact a.fr.lo j (by simp[hj])
    ·exact f.lo j hj
  ·rw[flat_snoc,List.nodup_cons]
   refine ⟨fun hc=> ?_,List.nodup_append.2 ⟨hnd.2,f.nd,fun p hp q hq e=>d q hq (by rw[←e];simp[hp])⟩⟩
   rcases List.mem_append.1 hc with hc | hc
   ·have:=hin _ hc;omega
   ·have:=hlt _ hc;omega
  ·simp only[Heap.push,Heap.kill];omega
  ·intro j hj
   rw[flat_snoc] at hj
   rcases List.mem_cons.1 hj with rfl | hj
   ·exact .inr (.inr (by omega))
   ·rcases List.mem_append.1 hj with hj | hj
    ·exact .inl (by simp[hj])
    ·exact .inr (.inl hj)
  ·intro j h1 h2
   exact hgt j h1 fun e=>h2 (by rw[e];simp)
end
end Go.Proofs.Yteagcdhkobeanaa.A
namespace Go.Proofs.Yteagcdhkobeanaa.A
open Go
set_option linter.unusedSimpArgs false
set_option linter.unusedVariables false
section
variable {α:Type} {R:Rel α} {tag:Nat} {h0 h g:Heap} {x:Cell} {xs:List α} {fp fq:List Nat}
theorem AllR.set {r:List Cell} {t:α} (w1:R h r t fq): ∀{rows:List (List Cell)} {xs:List α} {fps:List (List Nat)},AllR R h rows xs fps→ ∀(i:Nat),AllR R h (rows.set i r) (xs.set i t) (fps.set i fq)
 | [],[],[],_,_=>trivial
 | _::_,_::_,_::_,⟨_,w⟩,0=>⟨w1,w⟩
 | _::_,_::_,_::_,⟨w0,w⟩,i+1=>⟨w0,AllR.set w1 w i⟩
 | [],[],_::_,w,_=>w.elim
 | [],_::_,_,w,_=>w.elim
 | _::_,[],_,w,_=>w.elim
 | _::_,_::_,[],w,_=>w.elim
theorem AllR.turn (ok:RelOk R) {h':Heap} (hn:h.next≤h'.next) {r':List Cell} {t':α}: ∀{rows:List (List Cell)} {xs:List α} {fps:List (List Nat)},AllR R h rows xs fps→ ∀(i:Nat) (f:List Nat),fps[i]? =some f→fps.flatten.Nodup→
 (∀id,id∈fps.flatten→id∉f→h'.get id=h.get id)→R h' r' t' f→AllR R h' (rows.set i r') (xs.set i t') fps
 | [],[],[],_,i,f,e,_,_,_=>by simp at e
 | r::rs,a::bs,g::gs,⟨w0,w⟩,0,f,e,nd,hg,v=>by
   simp only[List.getElem?_cons_zero,Option.some.injEq] at e
   subst e
   rw[List.flatten_cons] at nd
   obtain ⟨n1,n2,n3⟩:=List.nodup_append.1 nd
   exact ⟨v,w.mv ok hn fun id hid=>hg id (by rw[List.flatten_cons,List.mem_append];exact .inr hid) fun hf=>n3 id hf id hid rfl⟩
 | r::rs,a::bs,g::gs,⟨w0,w⟩,i+1,f,e,nd,hg,v=>by
   simp only[List.getElem?_cons_succ] at e
   rw[List.flatten_cons] at nd
   obtain ⟨n1,n2,n3⟩:=List.nodup_append.1 nd
   exact ⟨ok.mv w0 hn fun id hid=>hg id (by rw[List.flatten_cons,List.mem_append];exact .inl hid) fun hf=>n3 id hid id (List.mem_flatten.2 ⟨f,List.mem_of_getElem? e,hf⟩) rfl,
    AllR.turn ok hn w i f e n2 (fun id hid hf=>hg id (by rw[List.flatten_cons,List.mem_append];exact .inr hid) hf) v⟩
 | [],[],_::_,w,_,_,_,_,_,_=>w.elim
 | [],_::_,_,w,_,_,_,_,_,_=>w.elim
 | _::_,[],_,w,_,_,_,_,_,_=>w.elim
 | _::_,_::_,[],w,_,_,_,_,_,_=>w.elim
theorem flat_at_nodup {f:List Nat}: ∀(fps:List (List Nat)) (i:Nat),fps[i]? =some f→fps.flatten.Nodup→f.Nodup
 | [],i,h,_=>by simp at h
 | g::r,i,h,nd=>by
   rw[List.flatten_cons] at nd
   obtain ⟨n1,n2,_⟩:=List.nodup_append.1 nd
   cases i with
   | zero=>simp only[List.getElem?_cons_zero,Option.some.injEq] at h;exact h▸n1
   | succ i=>exact flat_at_nodup r i (by simpa using h) n2
theorem SlR.turn (ok:RelOk R) (w:SlR tag R h x xs fp) (nd:fp.Nodup) {i:Nat} (hi:i<xs.length):
 ∃r f,∃rows:List (List Cell),R h r xs[i] f∧(∀id,id∈f→id∈fp)∧f.Nodup∧x.sid∈fp∧x.sid∉f∧x.sid<h.next∧h.get x.sid=some rows∧rows[i]? =some r∧i<rows.length∧
  ∀h' r' t',h.next≤h'.next→(∀id,id∈fp→id≠x.sid→id∉f→h'.get id=h.get id)→h'.get x.sid=some (rows.set i r')→R h' r' t' f→SlR tag R h' x (xs.set i t') fp:=by
 rcases w with ⟨hl,⟨rfl,rfl,rfl⟩ | ⟨id,rows,fps,rfl,q1,q2,rfl,q3⟩⟩
 ·exact absurd hi (Nat.not_lt_zero _)
 obtain ⟨r,f,e1,e2,v⟩:=q3.at i hi
 have hn:=List.nodup_cons.1 nd
 have hin: ∀j,j∈f→j∈fps.flatten:=fun j hj=>List.mem_flatten.2 ⟨f,List.mem_of_getElem? e2,hj⟩
 refine ⟨r,f,rows,v,fun j hj=>List.mem_cons_of_mem _ (hin j hj),flat_at_nodup fps i e2 hn.2,by simp[Cell.sid],fun hc=>hn.1 (hin _ hc),q2,q1,e1,by rw[q3.len];exact hi,fun h' r' t' hn' hg hg' v'=> ?_⟩
 refine ⟨by simpa using hl,.inr ⟨id,rows.set i r',fps,by simp,hg',Nat.lt_of_lt_of_le q2 hn',rfl,?_⟩⟩
 exact q3.turn ok hn' i f e2 hn.2 (fun j hj hf=>hg j (List.mem_cons_of_mem _ hj) (fun e=>hn.1 (by simp only[Cell.sid] at e;exact e▸hj)) hf) v'
theorem loadP_row {h:Heap} {id i:Nat} {rows:List (List Cell)} {r:List Cell} (hg:h.get id=some rows) (hi:rows[i]? =some r) (j n:Nat):loadP h id i j n=cut? r j n:=by simp[loadP,rowOf,hg,hi]
theorem loadP_put {h:Heap} {id i:Nat} {rows:List (List Cell)} (hi:i<rows.length) (r:List Cell) (j n:Nat):loadP (h.put id (rows.set i r)) id i j n=cut? r j n:=loadP_row (rows:=rows.set i r) (by simp[Heap.put]) (List.getElem?_set_self hi) j n
theorem put_row {h:Heap} {id i:Nat} {rows:List (List Cell)} {r:List Cell} (hg:h.get id=some rows) (hi:rows[i]? =some r):h.put id (rows.set i r)=h:=by
 have:rows.set i r=rows:=by
  apply List.ext_getElem?
  intro j
  by_cases e:i=j
  ·subst e
   have hlt:i<rows.length:=by
    rcases Nat.lt_or_ge i rows.length with hlt | hge
    ·exact hlt
    ·rw[List.getElem?_eq_none hge] at hi;cases hi
   rw[List.getElem?_set_self hlt,hi]
  ·rw[List.getElem?_set_ne e]
 rw[this];exact put_same hg
end
end Go.Proofs.Yteagcdhkobeanaa.A
namespace Go.Proofs.Yteagcdhkobeanaa.A
open Go
set_option linter.unusedSimpArgs false
set_option linter.unusedVariables false
section
variable {F:Nat→Option RF} {Z:CallF} {live:List Nat} {b:RC}
end
section
variable {α:Type} {R:Rel α} {tag:Nat} {h0 h g:Heap} {x:Cell} {xs ys:List α} {fp fq:List Nat}
theorem AllR.app: ∀{r1 r2:List (List Cell)} {xs ys:List α} {f1 f2:List (List Nat)},AllR R h r1 xs f1→AllR R h r2 ys f2→AllR R h (r1++r2) (xs++ys) (f1++f2)
 | [],_,[],_,[],_,_,w=>w
 | _::_,_,_::_,_,_::_,_,⟨w1,w⟩,u=>⟨w1,AllR.app w u⟩
 | [],_,[],_,_::_,_,w,_=>w.elim
 | [],_,_::_,_,_,_,w,_=>w.elim
 | _::_,_,[],_,_,_,w,_=>w.elim
 | _::_,_,_::_,_,[],_,w,_=>w.elim
end
end Go.Proofs.Yteagcdhkobeanaa.A
namespace Go.Proofs.Yteagcdhkobeanaa.A
open Go
set_option linter.unusedSimpArgs false
set_option linter.unusedVariables false
section
variable {α:Type} {R:Rel α} {tag:Nat} {h0 h g:Heap} {x:Cell} {xs:List α} {fp fq:List Nat}
theorem On.turned (o:On h0 h) (m:Mk h g fp) (f:Fre h0 fp):On h0 g:=
 ⟨⟨by rw[m.next];exact o.ext.1,fun id hid=>by rw[m.get id (f.gt id hid)];exact o.ext.2 id hid⟩,m.fl.trans o.fl⟩
theorem Fre.own (f:Fre h0 fp) (o:On h0 h) (hf:h0.floor≤h0.next): ∀id,id∈fp→h.floor≤id:=fun id hid=>by
 rw[o.fl];exact Nat.le_trans hf (f.lo id hid)
theorem Mk.then {a b c:Heap} (m:Mk a b fp) (n:Mk b c fp):Mk a c fp:=⟨n.next.trans m.next,n.fl.trans m.fl,fun id hid=>(n.get id hid).trans (m.get id hid)⟩
theorem SlR.putRow (ok:RelOk R) (w:SlR tag R h x xs fp) (nd:fp.Nodup) (hfl: ∀id,id∈fp→h.floor≤id) {i:Nat} (hi:i<xs.length):
 ∃r f,∃rows:List (List Cell),R h r xs[i] f∧x.sid∈fp∧(∀j n,loadP h x.sid i j n=cut? r j n)∧h.put x.sid (rows.set i r)=h∧
  (∀r1 j new,storeP (h.put x.sid (rows.set i r1)) x.sid i j new=putM h x.sid rows i (splice? r1 j new))∧(∀r1 j n,loadP (h.put x.sid (rows.set i r1)) x.sid i j n=cut? r1 j n)∧
  ∀r' t',R h r' t' f→SlR tag R (h.put x.sid (rows.set i r')) x (xs.set i t') fp∧Mk h (h.put x.sid (rows.set i r')) fp:=by
 obtain ⟨r,f,rows,hR,hin,nf,hs,hns,hsl,hg,hr,hir,fin⟩:=w.turn ok nd hi
 refine ⟨r,f,rows,hR,hs,loadP_row hg hr,put_row hg hr,fun r1 j new=>storeP_put (hfl _ hs) hir r1 new j,fun r1 j n=>loadP_put hir r1 j n,fun r' t' v=>⟨?_,rfl,rfl,fun id hid=>put_ne _ fun e=>hid (e▸hs)⟩⟩
 exact fin _ r' t' (Nat.le_refl _) (fun id _ h2 _=>put_ne _ h2) (by simp[Heap.put]) (ok.mv v (Nat.le_refl _) fun id hid=>put_ne _ fun e=>hns (e▸hid))
end
end Go.Proofs.Yteagcdhkobeanaa.A
namespace Go.Proofs.Yteagcdhkobeanaa.A
open Go
set_option linter.unusedSimpArgs false
set_option linter.unusedVariables false
theorem findI_at {α:Type} {p:α→Bool} {xs:List α} (h:0≤findI p xs): ∃i:Nat,findI p xs=(i:Int)∧ ∃hi:i<xs.length,p xs[i]=true:=by
 unfold findI at h ⊢
 split at h
 ·rename_i i hi
  rw[List.findIdx?_eq_some_iff_getElem] at hi
  obtain ⟨h1,h2,_⟩:=hi
  exact ⟨i,rfl,h1,h2⟩
 ·omega
theorem findI_no {α:Type} {p:α→Bool} {xs:List α} (h:findI p xs<0):findI p xs= -1:=by
 unfold findI at h ⊢
 split at h
 ·omega
 ·rfl
theorem mix_set {α:Type} (f:α→α) (xs:List α) {i:Nat} (hi:i<xs.length):((xs.take i).map f++xs.drop i).set i (f xs[i])=(xs.take (i+1)).map f++xs.drop (i+1):=by
 rw[List.set_append_right _ _ (by simp;omega),show i-((xs.take i).map f).length=0 from by simp;omega,List.drop_eq_getElem_cons hi,List.set_cons_zero,
  show xs.take (i+1)=xs.take i++[xs[i]] from by rw[List.take_add_one,List.getElem?_eq_getElem hi];rfl,List.map_append,List.append_assoc]
 rfl
theorem mix_at {α:Type} (f:α→α) (xs:List α) {i:Nat} (hi:i<xs.length) (h:i<((xs.take i).map f++xs.drop i).length):((xs.take i).map f++xs.drop i)[i]=xs[i]:=by
 rw[List.getElem_append_right (by simp;omega)]
 simp
 congr 1
 omega
theorem set_same {α:Type} (xs:List α) {i:Nat} (hi:i<xs.length):xs.set i xs[i]=xs:=by
 apply List.ext_getElem?
 intro j
 by_cases e:i=j
 ·subst e;rw[List.getElem?_set_self hi,List.getElem?_eq_getElem hi]
 ·rw[List.getElem?_set_ne e]
section
variable {α:Type} {R:Rel α} {tag:Nat} {h0 h g:Heap} {x y:Cell} {xs ys:List α} {fp fq:List Nat}
theorem SlR.lit1 (ok:RelOk R) {cs:List Cell} {t:α} (v:R h cs t fp) (nd:fp.Nodup):SlR tag R (h.push [cs]) (.sl tag h.next 0 1) [t] (h.next::fp)∧(h.next::fp).Nodup:=
 ⟨⟨by simp[maxLen],.inr ⟨h.next,[cs],[fp],rfl,by simp[Heap.push],by simp[Heap.push],by simp,⟨ok.mv v (by simp[Heap.push]) fun id hid=>push_ne _ (by have:=ok.lt v id hid;omega),trivial⟩⟩⟩,List.nodup_cons.2 ⟨fun hc=>by have:=ok.lt v _ hc;omega,nd⟩⟩
end
end Go.Proofs.Yteagcdhkobeanaa.A
namespace Go.Proofs.Yteagcdhkobeanaa.A
open Go
set_option linter.unusedSimpArgs false
set_option linter.unusedVariables false
def findAt (xs:List Shard) (lo st:Int):Int:=findI (fun t=>(t.lo==lo)&&(t.state==st)) xs
section
variable {F:Nat→Option RF} {Z:CallF} {h:Heap} {x:Cell} {xs:List Shard} {fp:List Nat} {cs:List Cell} {s:Store}
theorem indexShard_run (hL:Has F tLibslicesIndexFuncimplShardimplShard) (w:SlR 16 Shard.RI h x xs fp) (f:Nat) (ps:List (Nat×Nat×Nat)) (p:Shard→Bool)
 (hc: ∀r t q,Shard.RI h r t q→call F Z f (.agg r::capV ps) h=some (.c (.bool (p t)),h)):call F Z 248 [.c x,.c (.fn f ps)] h=some (.c (.int .i64 (findI p xs)),h):=by
 have hle:=w.le2
 rw[call_run F Z (hL.lk (g:=248) rfl) _ _ rfl]
 simp only[rn,RO.dst,lk,drop,Nat.reduceBEq,Nat.reduceAdd,Nat.reduceLeDiff,↓reduceIte,reduceCtorEq,w.len]
 have key:=loop_find (F:=F) (Z:=Z) (live:=[0,1,7,8]) (b:=r248L0) xs p (fun i=>⟨[(0,.c x),(1,.c (.fn f ps)),(7,.c (.int .i64 (xs.length:Nat))),(8,.c (.int .i64 (i:Nat)))],[],[],h⟩) (fun i s=>lk s.env 4=some (.c (.int .i64 (i:Nat)))∧s.hp=h) fun i hi=>by
  have hlt:(i:Int)<xs.length:=by omega
  have hws:=wrapS i (by omega)
  obtain ⟨r,q,hld,hR,_⟩:=w.one hi
  have hci:=hc _ _ _ hR
  obtain ⟨r1,r2,r3⟩:=Shard.lenI hR
  have hxi:=w.idx hi
  clear w hR
  rw[loop_run]
  conv in (codeF _ _ r248L0 _)=>unfold r248L0
  simp only[rn,RO.dst,lk,drop,Nat.reduceBEq,Nat.reduceAdd,Nat.reduceLeDiff,↓reduceIte,reduceCtorEq,hlt,hxi,hld,r1,r2,r3]
  simp only[hci,rn,RO.dst,lk,drop,Nat.reduceBEq,Nat.reduceAdd,Nat.reduceLeDiff,↓reduceIte,reduceCtorEq]
  (repeat' ((first | (rw[gF_if];split) | (rw[condC_if];split) | (rw[pickR_if];split))<;>(rename_i hh;(try simp only[Bool.not_eq_true,decide_eq_true_eq] at hh);simp only[hh,rn,RO.dst,lk,drop,Nat.reduceBEq,Nat.reduceAdd,Nat.reduceLeDiff,↓reduceIte,reduceCtorEq,hws])))<;>first
   | exact .inl ⟨by simp_all,rfl⟩
   | exact .inr ⟨by simp_all,_,rfl,rfl,rfl⟩
 have hlt: ¬(xs.length:Int)<xs.length:=by omega
 simp only[show ((0:Nat):Int)=0 from rfl] at key
 rcases key with ⟨k1,k2⟩ | ⟨i,k1,hi,s,k2,k3,k4⟩
 ·rw[k2,loop_run]
  conv in (codeF _ _ r248L0 _)=>unfold r248L0
  simp only[rn,RO.dst,lk,drop,Nat.reduceBEq,Nat.reduceAdd,Nat.reduceLeDiff,↓reduceIte,reduceCtorEq,hlt,findI,k1]
 ·rw[k2]
  simp only[rn,RO.dst,lk,drop,Nat.reduceBEq,Nat.reduceAdd,Nat.reduceLeDiff,↓reduceIte,reduceCtorEq,k3,k4,findI,k1]
theorem shardAt_run (hI13:Has F tI13) (hL:Has F tLibslicesIndexFuncimplShardimplShard) (v:Store.RI h cs s fp) (lo st:Int):
 call F Z 213 [.agg cs,.c (.int .u64 lo),.c (.int .i64 st)] h=some (.c (.int .i64 (findAt s.shards lo st)),(h.push [[.int .u64 lo]]).push [[.int .i64 st]]):=by
 obtain ⟨x,p,rfl,rfl,w⟩:=v
 have w':=(w.on Shard.okI (On.push h [[.int .u64 lo]])).on Shard.okI (On.push _ [[.int .i64 st]])
 have hr:=indexShard_run (Z:=Z) hL w' 249 [(h.next,0,0),(h.next+1,0,0)] (fun t=>(t.lo==lo)&&(t.state==st)) fun r t q hR=>by
  obtain ⟨x1,p1,x2,p2,rfl,_⟩:=hR
  have hl:loadP ((h.push [[.int .u64 lo]]).push [[.int .i64 st]]) h.next 0 0 1=some [.int .u64 lo]:=by
   simp[loadP,rowOf,Heap.push,cut?]
  have hl2:loadP ((h.push [[.int .u64 lo]]).push [[.int .i64 st]]) (h.next+1) 0 0 1=some [.int .i64 st]:=by
   simp[loadP,rowOf,Heap.push,cut?]
  simp only[rn,RO.dst,lk,drop,Nat.reduceBEq,Nat.reduceAdd,Nat.reduceLeDiff,↓reduceIte,reduceCtorEq,capV_cons]
  rw[call_run F Z (hI13.lk (g:=249) rfl) _ _ rfl]
  simp only[rn,RO.dst,lk,drop,Nat.reduceBEq,Nat.reduceAdd,Nat.reduceLeDiff,↓reduceIte,reduceCtorEq,hl,hl2]
  (repeat' ((first | (rw[gF_if];split) | (rw[condC_if];split) | (rw[pickR_if];split))<;>(rename_i hh;(try simp only[Bool.not_eq_true,decide_eq_true_eq] at hh);simp only[hh,rn,RO.dst,lk,drop,Nat.reduceBEq,Nat.reduceAdd,Nat.reduceLeDiff,↓reduceIte,reduceCtorEq,hl,hl2])))<;>simp_all
 rw[call_run F Z (hI13.lk (g:=213) rfl) _ _ rfl]
 simp only[rn,RO.dst,lk,drop,Nat.reduceBEq,Nat.reduceAdd,Nat.reduceLeDiff,↓reduceIte,reduceCtorEq,push_next,hr,evPtrs]
 rfl
theorem shardAt_on (hI13:Has F tI13) (hL:Has F tLibslicesIndexFuncimplShardimplShard) (v:Store.RI h cs s fp) (lo st:Int):
 ∃h',call F Z 213 [.agg cs,.c (.int .u64 lo),.c (.int .i64 st)] h=some (.c (.int .i64 (findAt s.shards lo st)),h')∧On h h':=⟨_,shardAt_run hI13 hL v lo st,(On.push _ _).trans (On.push _ _)⟩
theorem l13At_run (hS13:Has F tS13) (v:Store.RI h cs s fp) (lo st:Int):call F Z 210 [.agg cs,.c (.int .u64 lo),.c (.int .i64 st)] h=some (.c (.int .i64 (findAt s.shards lo st)),h):=by
 obtain ⟨x,p,rfl,rfl,w⟩:=v
 have hle:=w.le2
 have hwl:=w.len
 rw[call_run F Z (hS13.lk (g:=210) rfl) _ _ rfl]
 simp only[rn,RO.dst,lk,drop,Nat.reduceBEq,Nat.reduceAdd,Nat.reduceLeDiff,↓reduceIte,reduceCtorEq]
 have key:=loop_find (F:=F) (Z:=Z) (live:=[1,2,3,7]) (b:=r210L0) s.shards (fun t=>(t.lo==lo)&&(t.state==st)) (fun i=>⟨[(1,.c (.int .u64 lo)),(2,.c (.int .i64 st)),(7,.c (.int .i64 (i:Nat)))],[(3,3,0)],[(3,[.int .i64 s.group,.int .i64 s.seen,x])],h⟩) (fun i s=>lk s.env 6=some (.c (.int .i64 (i:Nat)))∧s.hp=h) fun i hi=>by
  have hlt:(i:Int)<s.shards.length:=by omega
  have hws:=wrapS i (by omega)
  obtain ⟨r,q,hld,hR,_⟩:=w.one hi
  obtain ⟨x1,p1,x2,p2,rfl,_⟩:=hR
  have hxi:=w.idx hi
  clear w
  rw[loop_run]
  conv in (codeF _ _ r210L0 _)=>unfold r210L0
  simp only[rn,RO.dst,lk,drop,Nat.reduceBEq,Nat.reduceAdd,Nat.reduceLeDiff,↓reduceIte,reduceCtorEq,hwl,hlt,hxi,hld]
  (repeat' ((first | (rw[gF_if];split) | (rw[condC_if];split) | (rw[pickR_if];split))<;>(rename_i hh;(try simp only[Bool.not_eq_true,decide_eq_true_eq] at hh);simp only[hh,rn,RO.dst,lk,drop,Nat.reduceBEq,Nat.reduceAdd,Nat.reduceLeDiff,↓reduceIte,reduceCtorEq,hws,hxi,hld])))<;>first
   | exact .inl ⟨by simp_all,rfl⟩
   | exact .inr ⟨by simp_all,_,rfl,rfl,rfl⟩
 have hlt: ¬(s.shards.length:Int)<s.shards.length:=by omega
 simp only[show ((0:Nat):Int)=0 from rfl] at key
 rcases key with ⟨k1,k2⟩ | ⟨i,k1,hi,s,k2,k3,k4⟩
 ·rw[k2,loop_run]
  conv in (codeF _ _ r210L0 _)=>unfold r210L0
  simp only[rn,RO.dst,lk,drop,Nat.reduceBEq,Nat.reduceAdd,Nat.reduceLeDiff,↓reduceIte,reduceCtorEq,hwl,hlt,findAt,findI,k1]
 ·rw[k2]
  simp only[rn,RO.dst,lk,drop,Nat.reduceBEq,Nat.reduceAdd,Nat.reduceLeDiff,↓reduceIte,reduceCtorEq,k3,k4,findAt,findI,k1]
end
end Go.Proofs.Yteagcdhkobeanaa.A
namespace Go.Proofs.Yteagcdhkobeanaa.A
open Go
set_option linter.unusedSimpArgs false
set_option linter.unusedVariables false
theorem flatMap_one {α β:Type} (g:α→β) (xs:List α):xs.flatMap (fun r=>[g r])=xs.map g:=by
 induction xs with
 | nil=>rfl
 | cons a r ih=>rw[List.flatMap_cons,ih];rfl
section
variable {F:Nat→Option RF} {Z:CallF} {h:Heap} {x:Cell} {xs:List Account} {fp fq:List Nat}
theorem copyBook_c (hI10:Has F tI10) (hf:h.floor≤h.next) (w:SlR 11 (Fl Account.enc) h x xs fp) (sm:xs.length≤1048576): ∃y h' fq,call F Z 260 [.agg [x]] h=some (.agg [y],h')∧On h h'∧SlR 11 (Fl Account.enc) h' y xs fq∧Fre h fq:=by
 have a0:=Acc.lit0 (tag:=11) (On.refl h)
 have w':=w.on (Fl.ok _) (On.push h [])
 have ce:=a0.cat_eq (bytes:=40) (y:=x) (new:=xs.map Account.enc) hf w'.isTag w'.rows (by simp;omega)
 have ac:=a0.cat (new:=xs.map Account.enc) hf (by simp;omega)
 simp only[List.nil_append] at ac
 obtain ⟨o,fq,u,f⟩:=ac.flat
 rw[call_run F Z (hI10.lk (g:=260) rfl) _ _ rfl]
 simp only[rn,RO.dst,lk,drop,Nat.reduceBEq,Nat.reduceAdd,Nat.reduceLeDiff,↓reduceIte,reduceCtorEq,List.replicate_zero,fills,ce]
 exact ⟨_,_,_,rfl,o,u,f⟩
theorem l10Copy_c (hS10:Has F tS10) (hf:h.floor≤h.next) (w:SlR 11 (Fl Account.enc) h x xs fp) (sm:xs.length≤1048576): ∃y h' fq,call F Z 259 [.agg [x]] h=some (.agg [y],h')∧On h h'∧SlR 11 (Fl Account.enc) h' y xs fq∧Fre h fq:=by
 rw[call_run F Z (hS10.lk (g:=259) rfl) _ _ rfl]
 simp only[rn,RO.dst,lk,drop,Nat.reduceBEq,Nat.reduceAdd,Nat.reduceLeDiff,↓reduceIte,reduceCtorEq]
 obtain ⟨y1,h1,a1,l1⟩:=loop_acc (F:=F) (Z:=Z) (live:=[1,2,3,4]) (b:=r259L0) xs (fun r=>[r.enc]) 11 h (fun i y g=>⟨[(4,.c (.int .i64 (i:Nat)))],[(1,1,0),(2,2,0),(3,3,0)],[(1,[x]),(2,[.nil]),(3,[y])],g⟩) (fun r=>by simp) (fun i hi y g rows a hr=>by
  have e1:=a.one_eq hf (bytes:=40) (by omega)
  have a1:=a.one hf (by omega)
  have hlt:(i:Int)<xs.length:=by omega
  have wg:=w.on (Fl.ok _) a.on
  rw[loop_run]
  conv in (codeF _ _ r259L0 _)=>unfold r259L0
  simp only[rn,RO.dst,lk,drop,Nat.reduceBEq,Nat.reduceAdd,Nat.reduceLeDiff,↓reduceIte,reduceCtorEq,w.len,hlt,w.idx hi,wg.load hi,Account.len,Account.tak,wrapS i (by omega),List.replicate_succ,List.replicate_zero,fills,and_self,Nat.zero_lt_one,List.set_cons_zero,e1]
  exact ⟨_,_,a1 _,rfl⟩) (Acc.nil 11 h)
 simp only[show ((0:Nat):Int)=0 from rfl] at l1
 have hlt: ¬(xs.length:Int)<xs.length:=by omega
 rw[l1,loop_run]
 conv in (codeF _ _ r259L0 _)=>unfold r259L0
 simp only[rn,RO.dst,lk,drop,Nat.reduceBEq,Nat.reduceAdd,Nat.reduceLeDiff,↓reduceIte,reduceCtorEq,w.len,hlt]
 rw[flatMap_one] at a1
 obtain ⟨o,fq,u,f⟩:=a1.flat
 exact ⟨_,_,_,rfl,o,u,f⟩
end
end Go.Proofs.Yteagcdhkobeanaa.A
namespace Go.Proofs.Yteagcdhkobeanaa.A
open Go
set_option linter.unusedSimpArgs false
set_option linter.unusedVariables false
def Shard.cells (t:Shard) (x y:Cell):List Cell:=[.int .u64 t.lo,.int .u64 t.hi,.int .i64 t.state,.int .i64 t.epoch,x,y]
section
variable {F:Nat→Option RF} {Z:CallF} {h:Heap} {x:Cell} {xs:List Shard} {fp fq:List Nat}
theorem SlR.found (w:SlR 16 Shard.RI h x xs fp) (p:Shard→Bool):findI p xs= -1∨ ∃i:Nat,findI p xs=(i:Int)∧i<xs.length∧p (Shard.at_ xs i)=true∧idxR 16 (some x) (some (i:Int))=some (.ptr x.sid i 0)∧
 ∃y z,∀j n,loadP h x.sid i j n=cut? ((Shard.at_ xs i).cells y z) j n:=by
 by_cases h0:0≤findI p xs
 ·obtain ⟨i,e,hi,hp⟩:=findI_at h0
  obtain ⟨r,f,hl,hR,_⟩:=w.one hi
  rw[←Shard.at_get hi] at hR hp
  obtain ⟨x1,p1,x2,p2,rfl,_⟩:=hR
  exact .inr ⟨i,e,hi,hp,w.idx hi,x1,x2,hl⟩
 ·exact .inl (findI_no (by omega))
end
end Go.Proofs.Yteagcdhkobeanaa.A
namespace Go.Proofs.Yteagcdhkobeanaa.A
open Go
set_option linter.unusedSimpArgs false
set_option linter.unusedVariables false
section
variable {F:Nat→Option RF} {Z:CallF} {h:Heap} {x:Cell} {xs:List Account} {fp fq:List Nat} {cs:List Cell} {t:Shard}
theorem copyShard_c (hI10:Has F tI10) (hI13:Has F tI13) (hf:h.floor≤h.next) (v:Shard.RI h cs t fp) (sm:t.Small): ∃cs' h' fq,call F Z 229 [.agg cs] h=some (.agg cs',h')∧On h h'∧Shard.RI h' cs' t fq∧Fre h fq:=by
 obtain ⟨x,p,y,q,rfl,rfl,w,u⟩:=v
 obtain ⟨y1,h1,q1,e1,o1,u1,f1⟩:=copyBook_c (Z:=Z) hI10 hf w sm.1
 have sm2:t.finished.length≤1048576:=sm.2
 have hf1:=o1.le hf
 have a0:=Acc.lit0 (tag:=9) (On.refl h1)
 have w':=(u.on (Fl.ok _) o1).on (Fl.ok _) (On.push h1 [])
 have ce:=a0.cat_eq (bytes:=16) (y:=y) (new:=t.finished.map Fin.enc) hf1 w'.isTag w'.rows (by simp;omega)
 have ac:=a0.cat (new:=t.finished.map Fin.enc) hf1 (by simp;omega)
 simp only[List.nil_append] at ac
 obtain ⟨o,fq,u2,f⟩:=ac.flat
 rw[call_run F Z (hI13.lk (g:=229) rfl) _ _ rfl]
 simp only[rn,RO.dst,lk,drop,Nat.reduceBEq,Nat.reduceAdd,Nat.reduceLeDiff,↓reduceIte,reduceCtorEq,e1,List.replicate_zero,fills,ce]
 exact ⟨_,_,_,rfl,o1.trans o,⟨_,_,_,_,rfl,rfl,u1.on (Fl.ok _) o,u2⟩,f1.app (u1.lt (Fl.ok _)) f o1.ext.1⟩
theorem l13CopyShard_c (hS10:Has F tS10) (hS13:Has F tS13) (hf:h.floor≤h.next) (v:Shard.RI h cs t fp) (sm:t.Small): ∃cs' h' fq,call F Z 228 [.agg cs] h=some (.agg cs',h')∧On h h'∧Shard.RI h' cs' t fq∧Fre h fq:=by
 obtain ⟨x,p,y,q,rfl,rfl,w,u⟩:=v
 obtain ⟨y1,h1,q1,e1,o1,u1,f1⟩:=l10Copy_c (Z:=Z) hS10 hf w sm.1
 have sm2:t.finished.length≤1048576:=sm.2
 have hf1:=o1.le hf
 rw[call_run F Z (hS13.lk (g:=228) rfl) _ _ rfl]
 simp only[rn,RO.dst,lk,drop,Nat.reduceBEq,Nat.reduceAdd,Nat.reduceLeDiff,↓reduceIte,reduceCtorEq,e1,List.replicate_zero,fills]
 obtain ⟨y2,h2,a2,l2⟩:=loop_acc (F:=F) (Z:=Z) (live:=[1,2,3,4]) (b:=r228L0) t.finished (fun r=>[r.enc]) 9 h1 (fun i z g=>⟨[(3,.c z),(4,.c (.int .i64 (i:Nat)))],[(1,1,0),(2,2,0)],[(1,[.int .u64 t.lo,.int .u64 t.hi,.int .i64 t.state,.int .i64 t.epoch,y1,y]),(2,[.int .u64 0,.int .u64 0,.int .i64 0,.int .i64 0,.nil,.nil])],g⟩) (fun r=>by simp) (fun i hi z g rows a hr=>by
  have e1:=a.one_eq hf1 (bytes:=16) (by omega)
  have a1:=a.one hf1 (by omega)
  have hlt:(i:Int)<t.finished.length:=by omega
  have wg:=(u.on (Fl.ok _) o1).on (Fl.ok _) a.on
  rw[loop_run]
  conv in (codeF _ _ r228L0 _)=>unfold r228L0
  simp only[rn,RO.dst,lk,drop,Nat.reduceBEq,Nat.reduceAdd,Nat.reduceLeDiff,↓reduceIte,reduceCtorEq,u.len,hlt,u.idx hi,wg.load hi,Fin.len,Fin.tak,wrapS i (by omega),List.replicate_succ,List.replicate_zero,fills,and_self,Nat.zero_lt_one,List.set_cons_zero,e1]
  exact ⟨_,_,a1 _,rfl⟩) (Acc.lit0 (On.refl h1))
 simp only[show ((0:Nat):Int)=0 from rfl] at l2
 have hlt: ¬(t.finished.length:Int)<t.finished.length:=by omega
 rw[l2,loop_run]
 conv in (codeF _ _ r228L0 _)=>unfold r228L0
 simp only[rn,RO.dst,lk,drop,Nat.reduceBEq,Nat.reduceAdd,Nat.reduceLeDiff,↓reduceIte,reduceCtorEq,u.len,hlt]
 rw[flatMap_one] at a2
 obtain ⟨o,fq,u2,f⟩:=a2.flat
 exact ⟨_,_,_,rfl,o1.trans o,⟨_,_,_,_,rfl,rfl,u1.on (Fl.ok _) o,u2⟩,f1.app (u1.lt (Fl.ok _)) f o1.ext.1⟩
variable {s:Store}
theorem Store.at_small (sm:s.Small) {i:Nat} (hi:i<s.shards.length):(Shard.at_ s.shards i).Small:=by
 rw[Shard.at_get hi]
 exact sm.2 _ (List.getElem_mem hi)
end
end Go.Proofs.Yteagcdhkobeanaa.A
namespace Go.Proofs.Yteagcdhkobeanaa.A
open Go
set_option linter.unusedSimpArgs false
set_option linter.unusedVariables false
section
variable {F:Nat→Option RF} {Z:CallF} {h:Heap} {x:Cell} {xs:List Shard} {fp fq:List Nat} {cs:List Cell} {s:Store} {t:Shard}
theorem copyShard_q (hI10:Has F tI10) (hI13:Has F tI13) (v:Shard.RI h cs t fp) (sm:t.Small):
 ∃cs' h' g fq,call F Z 229 [.agg cs] ⟨h.next,h.next,h.get⟩=some (.agg cs',h')∧Heap.mk h'.next h.floor h'.get=g∧On h g∧Shard.RI g cs' t fq∧Fre h fq∧cs'.length=6:=by
 obtain ⟨cs',h',fq,e,o,u,f⟩:=copyShard_c (Z:=Z) (h:=⟨h.next,h.next,h.get⟩) hI10 hI13 (Nat.le_refl _) (Shard.okI.up v h.next) sm
 exact ⟨cs',h',_,fq,e,rfl,⟨⟨o.ext.1,o.ext.2⟩,rfl⟩,Shard.okI.up u h.floor,⟨f.lo,f.nd⟩,(Shard.lenI u).1⟩
theorem l13CopyShard_q (hS10:Has F tS10) (hS13:Has F tS13) (v:Shard.RI h cs t fp) (sm:t.Small):
 ∃cs' h' g fq,call F Z 228 [.agg cs] ⟨h.next,h.next,h.get⟩=some (.agg cs',h')∧Heap.mk h'.next h.floor h'.get=g∧On h g∧Shard.RI g cs' t fq∧Fre h fq∧cs'.length=6:=by
 obtain ⟨cs',h',fq,e,o,u,f⟩:=l13CopyShard_c (Z:=Z) (h:=⟨h.next,h.next,h.get⟩) hS10 hS13 (Nat.le_refl _) (Shard.okI.up v h.next) sm
 exact ⟨cs',h',_,fq,e,rfl,⟨⟨o.ext.1,o.ext.2⟩,rfl⟩,Shard.okI.up u h.floor,⟨f.lo,f.nd⟩,(Shard.lenI u).1⟩
theorem AccM.next {g k:Heap} {y:Cell} {ys:List Shard} (a:AccM Shard.RI 16 h g y ys fp) (hf:h.floor≤h.next) (hl:ys.length≤1048576) (o:On g k) {cs':List Cell} (u:Shard.RI k cs' t fq) (f:Fre g fq):
 ∃y' g' fp',appF (k.push [cs']) 16 80 y (.sl 16 k.next 0 1)=some (y',g')∧AccM Shard.RI 16 h g' y' (ys++[t]) fp':=by
 have hlt: ∀id,id∈fp→id<g.next:=a.sh.lt Shard.okI
 obtain ⟨y',g',fp',e,a',_⟩:=a.one Shard.okI hf (bytes:=80) (by omega) (by omega) o u ⟨fun id hid=>Nat.le_trans a.on.ext.1 (f.lo id hid),f.nd⟩ (fun id h1 h2=>by
  have:=hlt id h2
  have:=f.lo id h1
  omega)
 exact ⟨y',g',fp',e,a'⟩
set_option maxHeartbeats 1000000 in
theorem copyStore_c (k:KI F) (hf:h.floor≤h.next) (v:Store.RI h cs s fp) (sm:s.Small):
 ∃cs' h' fq,call F Z 320 [.agg cs] h=some (.agg cs',h')∧On h h'∧Store.RI h' cs' s fq∧Fre h fq:=by
 obtain ⟨x,p,rfl,rfl,w⟩:=v
 have hle:=w.le2
 have hwl:=w.len
 rw[call_run F Z (k.i13.lk (g:=320) rfl) _ _ rfl]
 simp only[rn,RO.dst,lk,drop,Nat.reduceBEq,Nat.reduceAdd,Nat.reduceLeDiff,↓reduceIte,reduceCtorEq,hwl]
 obtain ⟨s',⟨y,g,fq,hs,a⟩,l1⟩:=loop_goes (F:=F) (Z:=Z) (live:=[2,3,12,13,14]) (b:=r320L0) s.shards.length (fun i st=> ∃y g fq,st=⟨[(12,.c x),(13,.c (.int .i64 (s.shards.length:Nat))),(14,.c (.int .i64 (i:Nat)))],[(2,2,0),(3,3,0)],[(2,[.int .i64 0,.int .i64 0,.nil]),(3,[.int .i64 s.group,.int .i64 s.seen,y])],g⟩∧AccM Shard.RI 16 h g y (s.shards.take i) fq) (fun i st hi ⟨y,g,fq,hs,a⟩=>by
  subst hs
  have hlt:(i:Int)<s.shards.length:=by omega
  have hws:=wrapS i (by omega)
  have hxi:=w.idx hi
  obtain ⟨r,f,hld,hR,_⟩:=(w.on Shard.okI a.on).one hi
  obtain ⟨r1,r2,r3⟩:=Shard.lenI hR
  obtain ⟨cs',h',g1,fr,e1,hg1,o1,u1,f1,c1⟩:=copyShard_q (Z:=Z) k.i10 k.i13 hR (sm.2 _ (List.getElem_mem hi))
  obtain ⟨y',g',fp',e2,a2⟩:=a.next hf (by rw[List.length_take];have:=sm.1;omega) o1 u1 f1
  have ht:s.shards.take (i+1)=s.shards.take i++[s.shards[i]]:=by rw[List.take_add_one,List.getElem?_eq_getElem hi];rfl
  rw[←ht] at a2
  rw[loop_run]
  conv in (codeF _ _ r320L0 _)=>unfold r320L0
  simp only[rn,RO.dst,lk,drop,Nat.reduceBEq,Nat.reduceAdd,Nat.reduceLeDiff,↓reduceIte,reduceCtorEq,hlt,hxi,hld,r1,r2,r3,e1,hg1,List.replicate_succ,List.replicate_zero,fills,and_self,Nat.zero_lt_one,c1,List.set_cons_zero,e2,hws]
  exact ⟨_,⟨_,_,_,rfl,a2⟩,rfl⟩) (s:=⟨[(12,.c x),(13,.c (.int .i64 (s.shards.length:Nat))),(14,.c (.int .i64 (0:Nat)))],[(2,2,0),(3,3,0)],[(2,[.int .i64 0,.int .i64 0,.nil]),(3,[.int .i64 s.group,.int .i64 s.seen,.nil])],h⟩) ⟨_,_,_,rfl,by simpa using AccM.nil Shard.RI 16 h⟩
 subst hs
 simp only[show ((0:Nat):Int)=0 from rfl] at l1
 rw[List.take_length] at a
 have hlt: ¬(s.shards.length:Int)<s.shards.length:=by omega
 rw[l1,loop_run]
 conv in (codeF _ _ r320L0 _)=>unfold r320L0
 simp only[rn,RO.dst,lk,drop,Nat.reduceBEq,Nat.reduceAdd,Nat.reduceLeDiff,↓reduceIte,reduceCtorEq,hlt]
 exact ⟨_,_,_,rfl,a.on,⟨_,_,rfl,rfl,a.sh⟩,a.fr⟩
set_option maxHeartbeats 1000000 in
theorem l13Copy_c (k:KS F) (hf:h.floor≤h.next) (v:Store.RI h cs s fp) (sm:s.Small):
 ∃cs' h' fq,call F Z 317 [.agg cs] h=some (.agg cs',h')∧On h h'∧Store.RI h' cs' s fq∧Fre h fq:=by
 obtain ⟨x,p,rfl,rfl,w⟩:=v
 have hle:=w.le2
 have hwl:=w.len
 rw[call_run F Z (k.s13.lk (g:=317) rfl) _ _ rfl]
 simp only[rn,RO.dst,lk,drop,Nat.reduceBEq,Nat.reduceAdd,Nat.reduceLeDiff,↓reduceIte,reduceCtorEq]
 obtain ⟨s',⟨y,g,fq,hs,a⟩,l1⟩:=loop_goes (F:=F) (Z:=Z) (live:=[1,2,3,4]) (b:=r317L0) s.shards.length (fun i st=> ∃y g fq,st=⟨[(4,.c (.int .i64 (i:Nat)))],[(1,1,0),(2,2,0),(3,3,0)],[(1,[.int .i64 s.group,.int .i64 s.seen,x]),(2,[.int .i64 0,.int .i64 0,.nil]),(3,[.int .i64 s.group,.int .i64 s.seen,y])],g⟩∧AccM Shard.RI 16 h g y (s.shards.take i) fq) (fun i st hi ⟨y,g,fq,hs,a⟩=>by
  subst hs
  have hlt:(i:Int)<s.shards.length:=by omega
  have hws:=wrapS i (by omega)
  have hxi:=w.idx hi
  obtain ⟨r,f,hld,hR,_⟩:=(w.on Shard.okI a.on).one hi
  obtain ⟨r1,r2,r3⟩:=Shard.lenI hR
  obtain ⟨cs',h',g1,fr,e1,hg1,o1,u1,f1,c1⟩:=l13CopyShard_q (Z:=Z) k.s10 k.s13 hR (sm.2 _ (List.getElem_mem hi))
  obtain ⟨y',g',fp',e2,a2⟩:=a.next hf (by rw[List.length_take];have:=sm.1;omega) o1 u1 f1
  have ht:s.shards.take (i+1)=s.shards.take i++[s.shards[i]]:=by rw[List.take_add_one,List.getElem?_eq_getElem hi];rfl
  rw[←ht] at a2
  rw[loop_run]
  conv in (codeF _ _ r317L0 _)=>unfold r317L0
  simp only[rn,RO.dst,lk,drop,Nat.reduceBEq,Nat.reduceAdd,Nat.reduceLeDiff,↓reduceIte,reduceCtorEq,hwl,hlt,hxi,hld,r1,r2,r3,e1,hg1,List.replicate_succ,List.replicate_zero,fills,and_self,Nat.zero_lt_one,c1,List.set_cons_zero,e2,hws]
  exact ⟨_,⟨_,_,_,rfl,a2⟩,rfl⟩) (s:=⟨[(4,.c (.int .i64 (0:Nat)))],[(1,1,0),(2,2,0),(3,3,0)],[(1,[.int .i64 s.group,.int .i64 s.seen,x]),(2,[.int .i64 0,.int .i64 0,.nil]),(3,[.int .i64 s.group,.int .i64 s.seen,.nil])],h⟩) ⟨_,_,_,rfl,by simpa using AccM.nil Shard.RI 16 h⟩
 subst hs
 simp only[show ((0:Nat):Int)=0 from rfl] at l1
 rw[List.take_length] at a
 have hlt: ¬(s.shards.length:Int)<s.shards.length:=by omega
 rw[l1,loop_run]
 conv in (codeF _ _ r317L0 _)=>unfold r317L0
 simp only[rn,RO.dst,lk,drop,Nat.reduceBEq,Nat.reduceAdd,Nat.reduceLeDiff,↓reduceIte,reduceCtorEq,hwl,hlt]
 exact ⟨_,_,_,rfl,a.on,⟨_,_,rfl,rfl,a.sh⟩,a.fr⟩
end
end Go.Proofs.Yteagcdhkobeanaa.A
namespace Go.Proofs.Yteagcdhkobeanaa.A
open Go
set_option linter.unusedSimpArgs false
set_option linter.unusedVariables false
def Shard.renew (e:Int) (t:Shard):Shard:=bif t.state==0 then {t with epoch:=e} else t
def Store.renew (s:Store) (e:Int):Store:=⟨s.group,e,s.shards.map (Shard.renew e)⟩
def Store.next (s:Store) (e:Int):Bool:=s.good&&(decide (s.seen<e)&&decide (e≤1000000))
section
variable {F:Nat→Option RF} {Z:CallF} {h:Heap} {x:Cell} {xs:List Shard} {fp fq:List Nat} {cs:List Cell} {s:Store} {t:Shard}
set_option maxHeartbeats 1000000 in
theorem renewed_turn (e gr sn:Int) {n:Nat} (hn:xs.length=n) (w:SlR 16 Shard.RI h x xs fp) (nd:fp.Nodup) (hfl: ∀id,id∈fp→h.floor≤id) {i:Nat} (hi:i<xs.length):
 ∃g,loop F Z [1,2,4,10,11] r321L0 ⟨[(1,.c (.int .i64 e)),(10,.c (.int .i64 (n:Nat))),(11,.c (.int .i64 (i:Nat)))],[(2,2,0),(4,4,0)],[(2,[.int .i64 gr,.int .i64 sn,x]),(4,[.int .i64 0,.int .i64 0,.nil])],h⟩
  =loop F Z [1,2,4,10,11] r321L0 ⟨[(1,.c (.int .i64 e)),(10,.c (.int .i64 (n:Nat))),(11,.c (.int .i64 ((i+1:Nat):Int)))],[(2,2,0),(4,4,0)],[(2,[.int .i64 gr,.int .i64 sn,x]),(4,[.int .i64 0,.int .i64 0,.nil])],g⟩∧
  Mk h g fp∧SlR 16 Shard.RI g x (xs.set i (xs[i].renew e)) fp:=by
 have hle:=w.le2
 have hlt:(i:Int)<(n:Int):=by omega
 have hws:=wrapS i (by omega)
 have hxi:=w.idx hi
 obtain ⟨r,f,rows,hR,hs,hld,hself,hst,hl2,fin⟩:=w.putRow Shard.okI nd hfl hi
 have hset:=set_same xs hi
 obtain ⟨x1,p1,x2,p2,rfl,rfl,w1,w2⟩:=hR
 have hd:xs[i].renew e=bif xs[i].state==0 then {xs[i] with epoch:=e} else xs[i]:=rfl
 rw[loop_run]
 conv in (codeF _ _ r321L0 _)=>unfold r321L0
 by_cases c:xs[i].state=0
 ·have c':(xs[i].state==0)=true:=by simp[c]
  obtain ⟨f1,f2⟩:=fin [.int .u64 xs[i].lo,.int .u64 xs[i].hi,.int .i64 xs[i].state,.int .i64 e,x1,x2] {xs[i] with epoch:=e} ⟨x1,p1,x2,p2,rfl,rfl,w1,w2⟩
  rw[hd,c']
  clear hd fin w w1 w2 hset
  generalize xs[i]=a at *
  have hst':=hst [.int .u64 a.lo,.int .u64 a.hi,.int .i64 a.state,.int .i64 a.epoch,x1,x2]
  rw[hself] at hst'
  simp only[rn,RO.dst,lk,drop,Nat.reduceBEq,Nat.reduceAdd,Nat.reduceLeDiff,↓reduceIte,reduceCtorEq,hlt,hxi,hld,c',hst',putM_s,hws]
  exact ⟨_,rfl,f2,f1⟩
 ·have c':(xs[i].state==0)=false:=by simp[c]
  rw[hd,c']
  simp only[cond_false,hset]
  clear hd fin w1 w2 hset
  generalize xs[i]=a at *
  simp only[rn,RO.dst,lk,drop,Nat.reduceBEq,Nat.reduceAdd,Nat.reduceLeDiff,↓reduceIte,reduceCtorEq,hlt,hxi,hld,c',hws]
  exact ⟨_,rfl,Mk.refl _ _,w⟩
theorem renewed_c (k:KI F) (v:Store.RI h cs s fp) (nd:fp.Nodup) (hfl: ∀id,id∈fp→h.floor≤id) (e:Int):
 ∃cs' h',call F Z 321 [.agg cs,.c (.int .i64 e)] h=some (.agg cs',h')∧Mk h h' fp∧Store.RI h' cs' (s.renew e) fp:=by
 obtain ⟨x,p,rfl,rfl,w⟩:=v
 have hwl:=w.len
 rw[call_run F Z (k.i13.lk (g:=321) rfl) _ _ rfl]
 simp only[rn,RO.dst,lk,drop,Nat.reduceBEq,Nat.reduceAdd,Nat.reduceLeDiff,↓reduceIte,reduceCtorEq,hwl]
 obtain ⟨s',⟨g,hs,m,u⟩,l1⟩:=loop_goes (F:=F) (Z:=Z) (live:=[1,2,4,10,11]) (b:=r321L0) s.shards.length (fun i st=> ∃g,st=⟨[(1,.c (.int .i64 e)),(10,.c (.int .i64 (s.shards.length:Nat))),(11,.c (.int .i64 (i:Nat)))],[(2,2,0),(4,4,0)],[(2,[.int .i64 s.group,.int .i64 e,x]),(4,[.int .i64 0,.int .i64 0,.nil])],g⟩∧Mk h g fp∧SlR 16 Shard.RI g x ((s.shards.take i).map (Shard.renew e)++s.shards.drop i) fp) (fun i st hi ⟨g,hs,m,u⟩=>by
  subst hs
  have hl:((s.shards.take i).map (Shard.renew e)++s.shards.drop i).length=s.shards.length:=by simp;omega
  have hi':i<((s.shards.take i).map (Shard.renew e)++s.shards.drop i).length:=by omega
  obtain ⟨g',e1,m1,u1⟩:=renewed_turn (F:=F) (Z:=Z) e s.group e hl u nd (fun id hid=>by rw[m.fl];exact hfl id hid) hi'
  rw[mix_at _ _ hi hi',mix_set _ _ hi] at u1
  exact ⟨_,⟨g',rfl,m.then m1,u1⟩,e1⟩) (s:=⟨[(1,.c (.int .i64 e)),(10,.c (.int .i64 (s.shards.length:Nat))),(11,.c (.int .i64 (0:Nat)))],[(2,2,0),(4,4,0)],[(2,[.int .i64 s.group,.int .i64 e,x]),(4,[.int .i64 0,.int .i64 0,.nil])],h⟩) ⟨h,rfl,Mk.refl _ _,by simpa using w⟩
 subst hs
 simp only[show ((0:Nat):Int)=0 from rfl] at l1
 rw[List.take_length,List.drop_length,List.append_nil] at u
 have hlt: ¬(s.shards.length:Int)<s.shards.length:=by omega
 rw[l1,loop_run]
 conv in (codeF _ _ r321L0 _)=>unfold r321L0
 simp only[rn,RO.dst,lk,drop,Nat.reduceBEq,Nat.reduceAdd,Nat.reduceLeDiff,↓reduceIte,reduceCtorEq,hlt]
 exact ⟨_,_,rfl,m,⟨_,_,rfl,rfl,u⟩⟩
set_option maxHeartbeats 1000000 in
theorem l13Renew_turn (e gr sn:Int) (w:SlR 16 Shard.RI h x xs fp) (nd:fp.Nodup) (hfl: ∀id,id∈fp→h.floor≤id) {i:Nat} (hi:i<xs.length):
 ∃g,loop F Z [1,4,5,6] r318L0 ⟨[(1,.c (.int .i64 e)),(6,.c (.int .i64 (i:Nat)))],[(4,4,0),(5,5,0)],[(4,[.int .i64 0,.int .i64 0,.nil]),(5,[.int .i64 gr,.int .i64 sn,x])],h⟩
  =loop F Z [1,4,5,6] r318L0 ⟨[(1,.c (.int .i64 e)),(6,.c (.int .i64 ((i+1:Nat):Int)))],[(4,4,0),(5,5,0)],[(4,[.int .i64 0,.int .i64 0,.nil]),(5,[.int .i64 gr,.int .i64 sn,x])],g⟩∧
  Mk h g fp∧SlR 16 Shard.RI g x (xs.set i (xs[i].renew e)) fp:=by
 have hle:=w.le2
 have hwl:=w.len
 have hlt:(i:Int)<(xs.length:Int):=by omega
 have hws:=wrapS i (by omega)
 have hxi:=w.idx hi
 obtain ⟨r,f,rows,hR,hs,hld,hself,hst,hl2,fin⟩:=w.putRow Shard.okI nd hfl hi
 have hset:=set_same xs hi
 obtain ⟨x1,p1,x2,p2,rfl,rfl,w1,w2⟩:=hR
 have hd:xs[i].renew e=bif xs[i].state==0 then {xs[i] with epoch:=e} else xs[i]:=rfl
 rw[loop_run]
 conv in (codeF _ _ r318L0 _)=>unfold r318L0
 by_cases c:xs[i].state=0
 ·have c':(xs[i].state==0)=true:=by simp[c]
  obtain ⟨f1,f2⟩:=fin [.int .u64 xs[i].lo,.int .u64 xs[i].hi,.int .i64 xs[i].state,.int .i64 e,x1,x2] {xs[i] with epoch:=e} ⟨x1,p1,x2,p2,rfl,rfl,w1,w2⟩
  rw[hd,c']
  clear hd fin w w1 w2 hset
  generalize xs[i]=a at *
  have hst':=hst [.int .u64 a.lo,.int .u64 a.hi,.int .i64 a.state,.int .i64 a.epoch,x1,x2]
  rw[hself] at hst'
  simp only[rn,RO.dst,lk,drop,Nat.reduceBEq,Nat.reduceAdd,Nat.reduceLeDiff,↓reduceIte,reduceCtorEq,hwl,hlt,hxi,hld,c',hst',putM_s,hws]
  exact ⟨_,rfl,f2,f1⟩
 ·have c':(xs[i].state==0)=false:=by simp[c]
  rw[hd,c']
  simp only[cond_false,hset]
  clear hd fin w1 w2 hset
  generalize xs[i]=a at *
  simp only[rn,RO.dst,lk,drop,Nat.reduceBEq,Nat.reduceAdd,Nat.reduceLeDiff,↓reduceIte,reduceCtorEq,hwl,hlt,hxi,hld,c',hws]
  exact ⟨_,rfl,Mk.refl _ _,w⟩
theorem l13Renew_c (k:KS F) (hf:h.floor≤h.next) (v:Store.RI h cs s fp) (sm:s.Small) (e:Int):
 ∃cs' h' fq,call F Z 318 [.agg cs,.c (.int .i64 e)] h=some (.agg cs',h')∧On h h'∧Store.RI h' cs' (s.renew e) fq∧Fre h fq:=by
 obtain ⟨cs1,h1,fq,e1,o1,v1,f1⟩:=l13Copy_c (Z:=Z) k hf v sm
 obtain ⟨l1,l2,l3⟩:=Store.lenI v
 obtain ⟨x,p,rfl,rfl,w⟩:=v1
 have hwl:=w.len
 rw[call_run F Z (k.s13.lk (g:=318) rfl) _ _ rfl]
 simp only[rn,RO.dst,lk,drop,Nat.reduceBEq,Nat.reduceAdd,Nat.reduceLeDiff,↓reduceIte,reduceCtorEq,l1,l2,l3,e1]
 obtain ⟨s',⟨g,hs,m,u⟩,lp⟩:=loop_goes (F:=F) (Z:=Z) (live:=[1,4,5,6]) (b:=r318L0) s.shards.length (fun i st=> ∃g,st=⟨[(1,.c (.int .i64 e)),(6,.c (.int .i64 (i:Nat)))],[(4,4,0),(5,5,0)],[(4,[.int .i64 0,.int .i64 0,.nil]),(5,[.int .i64 s.group,.int .i64 e,x])],g⟩∧Mk h1 g fq∧SlR 16 Shard.RI g x ((s.shards.take i).map (Shard.renew e)++s.shards.drop i) fq) (fun i st hi ⟨g,hs,m,u⟩=>by
  subst hs
  have hi':i<((s.shards.take i).map (Shard.renew e)++s.shards.drop i).length:=by simp;omega
  obtain ⟨g',e1,m1,u1⟩:=l13Renew_turn (F:=F) (Z:=Z) e s.group e u f1.nd (fun id hid=>by rw[m.fl];exact f1.own o1 hf id hid) hi'
  rw[mix_at _ _ hi hi',mix_set _ _ hi] at u1
  exact ⟨_,⟨g',rfl,m.then m1,u1⟩,e1⟩) (s:=⟨[(1,.c (.int .i64 e)),(6,.c (.int .i64 (0:Nat)))],[(4,4,0),(5,5,0)],[(4,[.int .i64 0,.int .i64 0,.nil]),(5,[.int .i64 s.group,.int .i64 e,x])],h1⟩) ⟨h1,rfl,Mk.refl _ _,by simpa using w⟩
 subst hs
 simp only[show ((0:Nat):Int)=0 from rfl] at lp
 rw[List.take_length,List.drop_length,List.append_nil] at u
 have hul:=u.len
 rw[List.length_map] at hul
 have hlt: ¬(s.shards.length:Int)<s.shards.length:=by omega
 rw[lp,loop_run]
 conv in (codeF _ _ r318L0 _)=>unfold r318L0
 simp only[rn,RO.dst,lk,drop,Nat.reduceBEq,Nat.reduceAdd,Nat.reduceLeDiff,↓reduceIte,reduceCtorEq,hul,hlt]
 exact ⟨_,_,_,rfl,o1.turned m f1,⟨_,_,rfl,rfl,u⟩,f1⟩
end
end Go.Proofs.Yteagcdhkobeanaa.A
namespace Go.Proofs.Yteagcdhkobeanaa.A
open Go
set_option linter.unusedSimpArgs false
set_option linter.unusedVariables false
def Store.frozen (s:Store) (i:Nat) (e:Int):Store:={s with shards:=s.shards.set i {Shard.at_ s.shards i with state:=1,epoch:=e}}
def freezeShard (s:Store) (lo e:Int):Store×Bool:=bif s.next e&&decide (0≤findAt s.shards lo 0) then ((s.frozen (findAt s.shards lo 0).toNat e).renew e,true) else (s,false)
theorem Store.renew_small {s:Store} (sm:s.Small) (e:Int):(s.renew e).Small:=by
 refine ⟨by simpa[Store.renew] using sm.1,fun a ha=> ?_⟩
 obtain ⟨t,ht,rfl⟩:=List.mem_map.1 (show a∈s.shards.map (Shard.renew e) from ha)
 unfold Shard.renew
 cases (t.state==0)<;>exact sm.2 t ht
theorem Store.frozen_small {s:Store} (sm:s.Small) {i:Nat} (hi:i<s.shards.length) (e:Int):(s.frozen i e).Small:=by
 refine ⟨by simpa[Store.frozen] using sm.1,fun a ha=> ?_⟩
 rcases List.mem_or_eq_of_mem_set (show a∈s.shards.set i _ from ha) with h | h
 ·exact sm.2 a h
 ·subst h;exact Store.at_small sm hi
theorem freezeShard_small {s:Store} (sm:s.Small) (lo e:Int):(freezeShard s lo e).1.Small:=by
 unfold freezeShard
 cases h:(s.next e&&decide (0≤findAt s.shards lo 0)) with
 | false=>exact sm
 | true=>
   simp only[Bool.and_eq_true,decide_eq_true_eq] at h
   obtain ⟨i,e',hi,_⟩:=findI_at h.2
   have e'':findAt s.shards lo 0=(i:Int):=e'
   simp only[cond_true,e'',Int.toNat_natCast]
   exact Store.renew_small (Store.frozen_small sm hi e) e
section
variable {F:Nat→Option RF} {Z:CallF} {h:Heap} {x:Cell} {xs:List Shard} {fp fq:List Nat} {cs:List Cell} {s:Store} {t:Shard}
theorem isNewEpoch_run (k:KI F) (v:Store.RI h cs s fp) (ok:s.Ok) (e:Int): ∃h',call F Z 319 [.agg cs,.c (.int .i64 e)] h=some (.c (.bool (s.next e)),h')∧On h h':=by
 obtain ⟨h1,e1,o1⟩:=isStore_run (Z:=Z) k v ok
 obtain ⟨x,p,rfl,rfl,w⟩:=v
 refine ⟨h1,?_,o1⟩
 rw[call_run F Z (k.i13.lk (g:=319) rfl) _ _ rfl]
 have hd:s.next e=(s.good&&(decide (s.seen<e)&&decide (e≤1000000))):=rfl
 rw[hd]
 generalize s.good=gd at *
 simp only[rn,RO.dst,lk,drop,Nat.reduceBEq,Nat.reduceAdd,Nat.reduceLeDiff,↓reduceIte,reduceCtorEq,e1]
 cases gd with
 | false=>simp only[rn,RO.dst,lk,drop,Nat.reduceBEq,Nat.reduceAdd,Nat.reduceLeDiff,↓reduceIte,reduceCtorEq,Bool.false_and]
 | true=>
   simp only[rn,RO.dst,lk,drop,Nat.reduceBEq,Nat.reduceAdd,Nat.reduceLeDiff,↓reduceIte,reduceCtorEq]
   (repeat' ((first | (rw[gF_if];split) | (rw[condC_if];split) | (rw[pickR_if];split))<;>(rename_i hh;(try simp only[Bool.not_eq_true,decide_eq_true_eq] at hh);simp only[hh,rn,RO.dst,lk,drop,Nat.reduceBEq,Nat.reduceAdd,Nat.reduceLeDiff,↓reduceIte,reduceCtorEq,e1])))<;>simp_all
theorem l13Next_run (k:KS F) (v:Store.RI h cs s fp) (ok:s.Ok) (e:Int):call F Z 316 [.agg cs,.c (.int .i64 e)] h=some (.c (.bool (s.next e)),h):=by
 have e1:=sStoreOk_run (Z:=Z) k v ok
 obtain ⟨x,p,rfl,rfl,w⟩:=v
 rw[call_run F Z (k.s13.lk (g:=316) rfl) _ _ rfl]
 have hd:s.next e=(s.good&&(decide (s.seen<e)&&decide (e≤1000000))):=rfl
 rw[hd]
 cases hg:s.good with
 | false=>
   rw[hg] at e1
   simp only[rn,RO.dst,lk,drop,Nat.reduceBEq,Nat.reduceAdd,Nat.reduceLeDiff,↓reduceIte,reduceCtorEq,e1,Bool.false_and]
 | true=>
   rw[hg] at e1
   have hs:inR s.seen 0 1000000=true:=by simp only[Store.good,Bool.and_eq_true] at hg;exact hg.2.1
   simp only[inR,Bool.and_eq_true,decide_eq_true_eq] at hs
   have hw:IntKind.i64.wrap (s.seen+1)=s.seen+1:=wrapI _ (by omega) (by omega)
   simp only[rn,RO.dst,lk,drop,Nat.reduceBEq,Nat.reduceAdd,Nat.reduceLeDiff,↓reduceIte,reduceCtorEq,e1,hw,l01In_run k.s01]
   have:inR e (s.seen+1) 1000000=(true&&(decide (s.seen<e)&&decide (e≤1000000))):=by
    simp only[inR,Bool.true_and]
    congr 1
   rw[this]
theorem SlR.freeze (w:SlR 16 Shard.RI h x s.shards fp) (nd:fp.Nodup) (hfl: ∀id,id∈fp→h.floor≤id) {i:Nat} (hi:i<s.shards.length) (e:Int):
 ∃g1 g2,storeP h x.sid i 2 [.int .i64 1]=some g1∧storeP g1 x.sid i 3 [.int .i64 e]=some g2∧Mk h g2 fp∧SlR 16 Shard.RI g2 x (s.frozen i e).shards fp:=by
 obtain ⟨r,f,rows,hR,hs,hld,hself,hst,hl2,fin⟩:=w.putRow Shard.okI nd hfl hi
 obtain ⟨x1,p1,x2,p2,rfl,rfl,w1,w2⟩:=hR
 obtain ⟨f1,f2⟩:=fin [.int .u64 s.shards[i].lo,.int .u64 s.shards[i].hi,.int .i64 1,.int .i64 e,x1,x2] {s.shards[i] with state:=1,epoch:=e} ⟨x1,p1,x2,p2,rfl,rfl,w1,w2⟩
 have h1:=hst [.int .u64 s.shards[i].lo,.int .u64 s.shards[i].hi,.int .i64 s.shards[i].state,.int .i64 s.shards[i].epoch,x1,x2] 2 [.int .i64 1]
 rw[hself] at h1
 have h2:=hst [.int .u64 s.shards[i].lo,.int .u64 s.shards[i].hi,.int .i64 1,.int .i64 s.shards[i].epoch,x1,x2] 3 [.int .i64 e]
 refine ⟨_,_,h1,h2,f2,?_⟩
 have:(s.frozen i e).shards=s.shards.set i {s.shards[i] with state:=1,epoch:=e}:=by simp only[Store.frozen,Shard.at_get hi]
 rw[this]
 exact f1
set_option maxHeartbeats 1000000 in
theorem FreezeShard_c (k:KI F) (hL:Has F tLibslicesIndexFuncimplShardimplShard) (hf:h.floor≤h.next) (v:Store.RI h cs s fp) (lo e:Int) (ok:s.Ok) (sm:s.Small):
 ∃cs' h' fq,call F Z 301 [.agg cs,.c (.int .u64 lo),.c (.int .i64 e)] h=some (.tup [.agg cs',.c (.bool (freezeShard s lo e).2)],h')∧On h h'∧Store.RI h' cs' (freezeShard s lo e).1 fq∧Fre h fq:=by
 obtain ⟨l1,l2,l3⟩:=Store.lenI v
 obtain ⟨cs1,h1,fq,e1,o1,v1,f1⟩:=copyStore_c (Z:=Z) k hf v sm
 obtain ⟨h2,e2,o2⟩:=shardAt_on (Z:=Z) k.i13 hL (Store.okI.on v o1) lo 0
 obtain ⟨h3,e3,o3⟩:=isNewEpoch_run (Z:=Z) k (Store.okI.on (Store.okI.on v o1) o2) ok e
 have o13:=(o1.trans o2).trans o3
 have v3:=Store.okI.on (Store.okI.on v1 o2) o3
 rw[call_run F Z (k.i13.lk (g:=301) rfl) _ _ rfl]
 have hd:freezeShard s lo e=bif s.next e&&decide (0≤findAt s.shards lo 0) then ((s.frozen (findAt s.shards lo 0).toNat e).renew e,true) else (s,false):=rfl
 obtain ⟨x,p,rfl,hp,w⟩:=v3
 subst hp
 cases hn:s.next e with
 | false=>
   rw[hn] at e3
   have hd':freezeShard s lo e=(s,false):=by rw[hd,hn];rfl
   rw[hd']
   simp only[rn,RO.dst,lk,drop,Nat.reduceBEq,Nat.reduceAdd,Nat.reduceLeDiff,↓reduceIte,reduceCtorEq,l1,l2,l3,e1,e2,e3]
   exact ⟨_,_,_,rfl,o13,⟨x,_,rfl,rfl,w⟩,f1⟩
 | true=>
   rw[hn] at e3
   rcases w.found (fun t=>(t.lo==lo)&&(t.state==0)) with q | ⟨i,q,hi,_,hx,_⟩
   ·change findAt s.shards lo 0= -1 at q
    have hd':freezeShard s lo e=(s,false):=by rw[hd,hn,q];rfl
    rw[hd']
    rw[q] at e2
    simp only[rn,RO.dst,lk,drop,Nat.reduceBEq,Nat.reduceAdd,Nat.reduceLeDiff,↓reduceIte,reduceCtorEq,l1,l2,l3,e1,e2,e3,Int.reduceLT,Int.reduceNeg]
    exact ⟨_,_,_,rfl,o13,⟨x,_,rfl,rfl,w⟩,f1⟩
   ·change findAt s.shards lo 0=(i:Int) at q
    have hd':freezeShard s lo e=((s.frozen i e).renew e,true):=by
     rw[hd,hn,q]
     have:decide (0≤(i:Int))=true:=by simp
     rw[this];rfl
    rw[hd']
    rw[q] at e2
    obtain ⟨g1,g2,s1,s2,mk,w2⟩:=w.freeze f1.nd (f1.own o13 hf) hi e
    obtain ⟨cs5,h5,e5,mk5,v5⟩:=renewed_c (Z:=Z) k (s:=s.frozen i e) ⟨x,_,rfl,rfl,w2⟩ f1.nd (fun id hid=>by rw[mk.fl];exact f1.own o13 hf id hid) e
    obtain ⟨n1,n2,n3⟩:=Store.lenI v5
    have g0: ¬(i:Int)<0:=by omega
    change call F Z 321 [.agg [.int .i64 s.group,.int .i64 s.seen,x],_] g2=_ at e5
    simp only[rn,RO.dst,lk,drop,Nat.reduceBEq,Nat.reduceAdd,Nat.reduceLeDiff,↓reduceIte,reduceCtorEq,l1,l2,l3,e1,e2,e3,g0,hx,s1,s2,e5,n1,n2,n3]
    exact ⟨_,_,_,rfl,o13.turned (mk.then mk5) f1,v5,f1⟩
set_option maxHeartbeats 1000000 in
theorem sFreezeShard_c (k:KS F) (hf:h.floor≤h.next) (v:Store.RI h cs s fp) (lo e:Int) (ok:s.Ok) (sm:s.Small):
 ∃cs' h' fq,call F Z 300 [.agg cs,.c (.int .u64 lo),.c (.int .i64 e)] h=some (.tup [.agg cs',.c (.bool (freezeShard s lo e).2)],h')∧On h h'∧Store.RI h' cs' (freezeShard s lo e).1 fq∧Fre h fq:=by
 obtain ⟨l1,l2,l3⟩:=Store.lenI v
 obtain ⟨cs1,h1,fq,e1,o1,v1,f1⟩:=l13Copy_c (Z:=Z) k hf v sm
 have e2:=l13At_run (Z:=Z) k.s13 (Store.okI.on v o1) lo 0
 have e3:=l13Next_run (Z:=Z) k (Store.okI.on v o1) ok e
 rw[call_run F Z (k.s13.lk (g:=300) rfl) _ _ rfl]
 have hd:freezeShard s lo e=bif s.next e&&decide (0≤findAt s.shards lo 0) then ((s.frozen (findAt s.shards lo 0).toNat e).renew e,true) else (s,false):=rfl
 obtain ⟨x,p,rfl,hp,w⟩:=v1
 subst hp
 cases hn:s.next e with
 | false=>
   rw[hn] at e3
   have hd':freezeShard s lo e=(s,false):=by rw[hd,hn];rfl
   rw[hd']
   simp only[rn,RO.dst,lk,drop,Nat.reduceBEq,Nat.reduceAdd,Nat.reduceLeDiff,↓reduceIte,reduceCtorEq,l1,l2,l3,e1,e2,e3]
   exact ⟨_,_,_,rfl,o1,⟨x,_,rfl,rfl,w⟩,f1⟩
 | true=>
   rw[hn] at e3
   rcases w.found (fun t=>(t.lo==lo)&&(t.state==0)) with q | ⟨i,q,hi,_,hx,_⟩
   ·change findAt s.shards lo 0= -1 at q
    have hd':freezeShard s lo e=(s,false):=by rw[hd,hn,q];rfl
    rw[hd']
    rw[q] at e2
    simp only[rn,RO.dst,lk,drop,Nat.reduceBEq,Nat.reduceAdd,Nat.reduceLeDiff,↓reduceIte,reduceCtorEq,l1,l2,l3,e1,e2,e3,Int.reduceLT,Int.reduceNeg]
    exact ⟨_,_,_,rfl,o1,⟨x,_,rfl,rfl,w⟩,f1⟩
   ·change findAt s.shards lo 0=(i:Int) at q
    have hd':freezeShard s lo e=((s.frozen i e).renew e,true):=by
     rw[hd,hn,q]
     have:decide (0≤(i:Int))=true:=by simp
     rw[this];rfl
    rw[hd']
    rw[q] at e2
    obtain ⟨g1,g2,s1,s2,mk,w2⟩:=w.freeze f1.nd (f1.own o1 hf) hi e
    have o2:=o1.turned mk f1
    obtain ⟨cs5,h5,f5,e5,o5,v5,r5⟩:=l13Renew_c (Z:=Z) k (s:=s.frozen i e) (o2.le hf) ⟨x,_,rfl,rfl,w2⟩ (Store.frozen_small sm hi e) e
    obtain ⟨n1,n2,n3⟩:=Store.lenI v5
    have g0: ¬(i:Int)<0:=by omega
    change call F Z 318 [.agg [.int .i64 s.group,.int .i64 s.seen,x],_] g2=_ at e5
    simp only[rn,RO.dst,lk,drop,Nat.reduceBEq,Nat.reduceAdd,Nat.reduceLeDiff,↓reduceIte,reduceCtorEq,l1,l2,l3,e1,e2,e3,g0,hx,s1,s2,e5,n1,n2,n3]
    exact ⟨_,_,_,rfl,o2.trans o5,v5,⟨fun id hid=>Nat.le_trans o2.ext.1 (r5.lo id hid),r5.nd⟩⟩
end
end Go.Proofs.Yteagcdhkobeanaa.A
namespace Go.Proofs.Yteagcdhkobeanaa.A
open Go
set_option linter.unusedSimpArgs false
set_option linter.unusedVariables false
theorem count_pre {α:Type} (p:α→Bool): ∀(xs:List α),(∀i j (hj:j<xs.length) (hij:i<j),p xs[j]=true→p (xs[i]'(by omega))=true)→ ∀i (hi:i<xs.length),(p xs[i]=true↔i<xs.countP p)
 | [],_,i,hi=>absurd hi (Nat.not_lt_zero _)
 | a::r,h,i,hi=>by
   have hr: ∀i j (hj:j<r.length) (hij:i<j),p r[j]=true→p (r[i]'(by omega))=true:=fun i j hj hij hp=>by
    have:=h (i+1) (j+1) (by simpa using hj) (by omega) (by simpa using hp)
    simpa using this
   cases ha:p a with
   | true=>
     rw[List.countP_cons_of_pos ha]
     cases i with
     | zero=>simp[ha]
     | succ i=>
       have:=count_pre p r hr i (by simpa using hi)
       simp only[List.getElem_cons_succ,this];omega
   | false=>
     have h0: ∀j (hj:j<r.length),p r[j]=false:=fun j hj=>by
      cases hp:p r[j] with
      | false=>rfl
      | true=>
        have:=h 0 (j+1) (by simpa using hj) (by omega) (by simpa using hp)
        simp[ha] at this
     have hc:r.countP p=0:=List.countP_eq_zero.2 fun b hb=>by
      obtain ⟨j,hj,rfl⟩:=List.mem_iff_getElem.1 hb
      simp[h0 j hj]
     rw[List.countP_cons_of_neg (by simp[ha]),hc]
     cases i with
     | zero=>simp[ha]
     | succ i=>simp[h0 i (by simpa using hi)]
theorem Store.fit_at {s:Store} (g:s.good=true) {j:Nat} (hj:j<s.shards.length):s.fits j=true:=by
 simp only[Store.good,Bool.and_eq_true,List.all_eq_true,List.mem_range] at g
 exact g.2.2.2 j hj
theorem Store.lo_hi {s:Store} (g:s.good=true) {j:Nat} (hj:j<s.shards.length):s.shards[j].lo≤s.shards[j].hi:=by
 have:=Store.fit_at g hj
 simp only[Store.fits,Shard.at_get hj,Shard.good,Shard.head,Bool.and_eq_true,decide_eq_true_eq] at this
 omega
theorem Store.gap {s:Store} (g:s.good=true) {j:Nat} (hj:j+1<s.shards.length):s.shards[j].hi<s.shards[j+1].lo:=by
 have:=Store.fit_at g hj
 simp only[Store.fits,Bool.and_eq_true,Bool.or_eq_true,decide_eq_true_eq,beq_iff_eq] at this
 rcases this.2.2 with h | h
 ·omega
 ·simp only[Nat.add_sub_cancel] at h
  rw[Shard.at_get hj,Shard.at_get (by omega)] at h
  exact h
theorem Store.sorted {s:Store} (g:s.good=true) (i:Nat): ∀(d:Nat) (hj:i+d+1<s.shards.length),s.shards[i].hi<s.shards[i+d+1].lo
 | 0,hj=>Store.gap g hj
 | d+1,hj=>by
   have h1:=Store.sorted g i d (by omega)
   have h2:=Store.gap g (j:=i+d+1) hj
   have h3:=Store.lo_hi g (j:=i+d+1) (by omega)
   have e:i+(d+1)+1=i+d+1+1:=by omega
   simp only[e]
   omega
def Shard.over (x t:Shard):Bool:=decide (t.lo≤x.hi)&&decide (x.lo≤t.hi)
def Shard.left (x t:Shard):Bool:=decide (t.lo<x.lo)
def Store.spot (s:Store) (x:Shard):Nat:=s.shards.countP x.left
def Shard.awake (x:Shard):Shard:={x with state:=0}
def Store.plus (s:Store) (x:Shard):Store:={s with shards:=s.shards.take (s.spot x)++[x.awake]++s.shards.drop (s.spot x)}
def installable (s:Store) (x:Shard) (e:Int):Bool:=s.next e&&(x.good&&((x.state==1)&&(decide (x.epoch<e)&& !((s.shards.length:Int)==8))))
def installShard (s:Store) (x:Shard) (e:Int):Store×Bool:=bif installable s x e&& !(s.shards.any x.over) then ((s.plus x).renew e,true) else (s,false)
theorem Store.spot_le (s:Store) (x:Shard):s.spot x≤s.shards.length:=List.countP_le_length
theorem Store.spot_iff {s:Store} (g:s.good=true) (x:Shard) {i:Nat} (hi:i<s.shards.length):s.shards[i].lo<x.lo↔i<s.spot x:=by
 have:=count_pre x.left s.shards (fun i j hj hij hp=>by
  obtain ⟨d,rfl⟩: ∃d,j=i+d+1:=⟨j-i-1,by omega⟩
  have h1:=Store.sorted g i d hj
  have h2:=Store.lo_hi g (j:=i) (by omega)
  simp only[Shard.left,decide_eq_true_eq] at hp ⊢
  omega) i hi
 simp only[Shard.left,decide_eq_true_eq] at this
 exact this
theorem Store.spot_gt {s:Store} (g:s.good=true) {x:Shard} (gx:x.good=true) (ho:s.shards.any x.over=false) {i:Nat} (hi:i<s.shards.length):x.lo<s.shards[i].lo↔s.spot x≤i:=by
 have h1:=Store.spot_iff g x hi
 have h2:=Store.lo_hi g hi
 have h3:x.lo≤x.hi:=by
  simp only[Shard.good,Shard.head,Bool.and_eq_true,decide_eq_true_eq] at gx
  omega
 have h4:x.over s.shards[i]=false:=by
  rw[List.any_eq_false] at ho
  simpa using ho _ (List.getElem_mem hi)
 simp only[Shard.over,Bool.and_eq_false_iff,decide_eq_false_iff_not] at h4
 omega
theorem Store.plus_small {s:Store} (sm:s.Small) {x:Shard} (sx:x.Small) (hl:s.shards.length≤8):(s.plus x).Small:=by
 refine ⟨?_,fun a ha=> ?_⟩
 ·simp only[Store.plus,List.length_append,List.length_take,List.length_drop,List.length_cons,List.length_nil];omega
 ·simp only[Store.plus,List.mem_append,List.mem_singleton] at ha
  rcases ha with (ha | ha) | ha
  ·exact sm.2 a (List.mem_of_mem_take ha)
  ·subst ha;exact sx
  ·exact sm.2 a (List.mem_of_mem_drop ha)
theorem installShard_small {s:Store} (sm:s.Small) {x:Shard} (sx:x.Small) (e:Int):(installShard s x e).1.Small:=by
 unfold installShard
 cases h:(installable s x e&& !(s.shards.any x.over)) with
 | false=>exact sm
 | true=>
   refine Store.renew_small (Store.plus_small sm sx ?_) e
   simp only[installable,Store.next,Store.good,Bool.and_eq_true,decide_eq_true_eq] at h
   omega
def Store.part (s:Store) (y:Shard) (k i:Nat):List Shard:=if k<i then s.shards.take k++[y]++(s.shards.take i).drop k else s.shards.take i
theorem Store.part_no {s:Store} {y:Shard} {k i:Nat} (hi:i<s.shards.length) (h: ¬k≤i):s.part y k (i+1)=s.part y k i++[s.shards[i]]:=by
 simp only[Store.part]
 rw[if_neg (by omega),if_neg (by omega),List.take_add_one,List.getElem?_eq_getElem hi];rfl
theorem Store.part_at {s:Store} {y:Shard} {i:Nat} (hi:i<s.shards.length):s.part y i (i+1)=s.part y i i++[y]++[s.shards[i]]:=by
 simp only[Store.part]
 rw[if_pos (by omega),if_neg (by omega),List.take_add_one,List.getElem?_eq_getElem hi,List.drop_append_of_le_length (by rw[List.length_take];omega),List.drop_eq_nil_of_le (by rw[List.length_take];omega)];rfl
theorem Store.part_yes {s:Store} {y:Shard} {k i:Nat} (hi:i<s.shards.length) (h:k<i):s.part y k (i+1)=s.part y k i++[s.shards[i]]:=by
 simp only[Store.part]
 rw[if_pos (by omega),if_pos h,List.take_add_one,List.getElem?_eq_getElem hi,List.drop_append_of_le_length (by rw[List.length_take];omega),←List.append_assoc];rfl
theorem Store.part_end {s:Store} {y:Shard} {k:Nat} (h:k<s.shards.length):s.part y k s.shards.length=s.shards.take k++[y]++s.shards.drop k:=by
 simp only[Store.part];rw[if_pos h,List.take_length]
theorem Store.part_last {s:Store} {y:Shard} {k:Nat} (h:k=s.shards.length):s.part y k s.shards.length++[y]=s.shards.take k++[y]++s.shards.drop k:=by
 simp only[Store.part];subst h;rw[if_neg (by omega),List.take_length,List.drop_length,List.append_nil]
theorem Store.part_len (s:Store) (y:Shard) (k i:Nat):(s.part y k i).length≤s.shards.length+1:=by
 simp only[Store.part]
 split<;>simp only[List.length_append,List.length_take,List.length_drop,List.length_cons,List.length_nil]<;>omega
end Go.Proofs.Yteagcdhkobeanaa.A
namespace Go.Proofs.Yteagcdhkobeanaa.A
open Go
set_option linter.unusedSimpArgs false
set_option linter.unusedVariables false
section
variable {α:Type} {R:Rel α} {tag:Nat} {h0 h g:Heap} {x y:Cell} {xs ys:List α} {fp fq:List Nat}
theorem AllR.take: ∀{rows:List (List Cell)} {xs:List α} {fps:List (List Nat)},AllR R h rows xs fps→ ∀(i:Nat),AllR R h (rows.take i) (xs.take i) (fps.take i)
 | [],[],[],_,i=>by simp only[List.take_nil];trivial
 | _::_,_::_,_::_,_,0=>trivial
 | _::_,_::_,_::_,⟨w0,w⟩,i+1=>⟨w0,AllR.take w i⟩
 | [],[],_::_,w,_=>w.elim
 | [],_::_,_,w,_=>w.elim
 | _::_,[],_,w,_=>w.elim
 | _::_,_::_,[],w,_=>w.elim
theorem AllR.drop: ∀{rows:List (List Cell)} {xs:List α} {fps:List (List Nat)},AllR R h rows xs fps→ ∀(i:Nat),AllR R h (rows.drop i) (xs.drop i) (fps.drop i)
 | [],[],[],_,i=>by simp only[List.drop_nil];trivial
 | _::_,_::_,_::_,w,0=>w
 | _::_,_::_,_::_,⟨w0,w⟩,i+1=>AllR.drop w i
 | [],[],_::_,w,_=>w.elim
 | [],_::_,_,w,_=>w.elim
 | _::_,[],_,w,_=>w.elim
 | _::_,_::_,[],w,_=>w.elim
theorem flat_parts {fps:List (List Nat)} (i:Nat):(fps.take i).flatten++(fps.drop i).flatten=fps.flatten:=by rw[←List.flatten_append,List.take_append_drop]
structure Re (h g:Heap) (fp fq:List Nat):Prop where
 le:h.next≤g.next
 fl:g.floor=h.floor
 get: ∀id,id<h.next→id∉fp→g.get id=h.get id
 nd:fq.Nodup
 of: ∀id,id∈fq→id∈fp∨h.next≤id
theorem Re.on (r:Re h g fp fq) (o:On h0 h) (f:Fre h0 fp):On h0 g:=
 ⟨⟨Nat.le_trans o.ext.1 r.le,fun id hid=>by rw[r.get id (Nat.lt_of_lt_of_le hid o.ext.1) (f.gt id hid)];exact o.ext.2 id hid⟩,r.fl.trans o.fl⟩
theorem Re.fre (r:Re h g fp fq) (o:On h0 h) (f:Fre h0 fp):Fre h0 fq:=
 ⟨fun id hid=>by rcases r.of id hid with h1 | h1;exact f.lo id h1;exact Nat.le_trans o.ext.1 h1,r.nd⟩
theorem SlR.del (ok:RelOk R) (w:SlR tag R h x xs fp) (nd:fp.Nodup) (hfl: ∀id,id∈fp→h.floor≤id) {i:Nat} (hi:i<xs.length):
 ∃y g fq,delF tag [.c x,.c (.int .i64 (i:Nat)),.c (.int .i64 ((i+1:Nat):Int))] h=some (.c y,g)∧SlR tag R g y (xs.eraseIdx i) fq∧Re h g fp fq:=by
 rcases w with ⟨hl,⟨rfl,rfl,rfl⟩ | ⟨id,rows,fps,rfl,q1,q2,rfl,q3⟩⟩
 ·exact absurd hi (Nat.not_lt_zero _)
 have hn:=List.nodup_cons.1 nd
 have hrl:=q3.len
 have hfid:=hfl id (by simp)
 have hlen:(rows.take i++rows.drop (i+1)).length=i+(xs.length-(i+1)):=by simp only[List.length_append,List.length_take,List.length_drop,hrl];omega
 have he:xs.eraseIdx i=xs.take i++xs.drop (i+1):=List.eraseIdx_eq_take_drop_succ ..
 have hel:(xs.eraseIdx i).length=i+(xs.length-(i+1)):=by rw[List.length_eraseIdx_of_lt hi];omega
 have hflt:=q3.lt ok
 have hsub: ∀j,j∈(fps.take i++fps.drop (i+1)).flatten→j∈fps.flatten:=fun j hj=>by
  rw[List.flatten_append,List.mem_append] at hj
  rw[←flat_parts (fps:=fps) i,List.mem_append]
  rcases hj with hj | hj
  ·exact .inl hj
  ·right
   rw[List.mem_flatten] at hj ⊢
   obtain ⟨l,hl1,hl2⟩:=hj
   exact ⟨l,List.mem_of_mem_drop (i:=1) (by rw[List.drop_drop];exact hl1),hl2⟩
 refine ⟨.sl tag h.next 0 (i+(xs.length-(i+1))),(h.kill id).push (rows.take i++rows.drop (i+1)),h.next::(fps.take i++fps.drop (i+1)).flatten,?_,?_,?_⟩
 ·simp only[delF,q1,Option.bind_some,Int.toNat_natCast]
  rw[if_pos ⟨trivial,trivial,hfid,by omega,by omega,by omega,hrl⟩]
 ·refine ⟨by rw[hel];omega,.inr ⟨h.next,rows.take i++rows.drop (i+1),fps.take i++fps.drop (i+1),by rw[hel],by simp[Heap.push,Heap.kill],by simp[Heap.push,Heap.kill],rfl,?_⟩⟩
  rw[he]
  refine ((q3.take i).app (q3.drop (i+1))).mv ok (by simp[Heap.push,Heap.kill]) fun j hj=> ?_
  have hj':=hsub j hj
  have h1:=hflt j hj'
  rw[push_ne _ (by rw[kill_next];omega),kill_ne (h:=h) (k:=id) (id:=j) fun e=>hn.1 (e▸hj')]
 ·refine ⟨by simp[Heap.push,Heap.kill],rfl,fun j hj hjn=> ?_,?_,?_⟩
  ·rw[push_ne _ (by rw[kill_next];omega),kill_ne (h:=h) (k:=id) (id:=j) fun e=>hjn (by rw[e];exact List.mem_cons_self)]
  ·rw[List.nodup_cons]
   refine ⟨fun hc=> ?_,?_⟩
   ·have:=hflt _ (hsub _ hc);omega
   ·rw[List.flatten_append]
    have:=hn.2
    rw[←flat_parts (fps:=fps) i] at this
    obtain ⟨n1,n2,n3⟩:=List.nodup_append.1 this
    have hs2:(fps.drop (i+1)).flatten.Sublist (fps.drop i).flatten:=by
     obtain ⟨_,f,_,e2,_⟩:=q3.at i hi
     rw[List.drop_eq_getElem_cons (List.getElem?_eq_some_iff.1 e2).1,List.flatten_cons]
     exact List.sublist_append_right _ _
    exact List.nodup_append.2 ⟨n1,n2.sublist hs2,fun a ha b hb=>n3 a ha b (hs2.subset hb)⟩
  ·intro j hj
   rcases List.mem_cons.1 hj with rfl | hj
   ·exact .inr (Nat.le_refl _)
   ·exact .inl (List.mem_cons_of_mem _ (hsub j hj))
theorem SlR.ins (ok:RelOk R) (w:SlR tag R h x xs fp) (nd:fp.Nodup) (hfl: ∀id,id∈fp→h.floor≤id) (v:SlR tag R h y ys fq) (nq:fq.Nodup) (hfq: ∀id,id∈fq→h.floor≤id) (hd: ∀id,id∈fq→id∉fp) (hy:0<ys.length)
 {bytes:Nat} (hb:(xs.length+ys.length)*bytes≤140737488355328) (hm:xs.length+ys.length≤maxLen) {i:Nat} (hi:i≤xs.length):
 ∃z g fr,insF tag bytes [.c x,.c (.int .i64 (i:Nat)),.c y] h=some (.c z,g)∧SlR tag R g z (xs.take i++ys++xs.drop i) fr∧Re h g (fp++fq) fr:=by
 rcases v with ⟨hvl,⟨rfl,rfl,rfl⟩ | ⟨idv,new,fps2,rfl,v1,v2,rfl,v3⟩⟩
 ·exact absurd hy (Nat.not_lt_zero _)
 have hnv:=List.nodup_cons.1 nq
 have hvrl:=v3.len
 have hvlt:=v3.lt ok
 have hfv:=hfq idv (by simp)
 rcases w with ⟨hl,⟨rfl,rfl,rfl⟩ | ⟨id,rows,fps,rfl,q1,q2,rfl,q3⟩⟩
 ·have hi0:i=0:=by simpa using hi
  subst hi0
  simp only[List.length_nil,Nat.zero_add] at hb hm
  refine ⟨.sl tag h.next 0 ys.length,h.push new,h.next::fps2.flatten,?_,?_,?_⟩
  ·simp only[insF]
   rw[if_pos ⟨trivial,trivial,hfv,hy⟩]
   simp only[v1,Option.bind_some]
   rw[if_pos hvrl,if_pos ⟨rfl,hb,hm⟩]
  ·refine ⟨by simpa using hm,.inr ⟨h.next,new,fps2,by simp,by simp[Heap.push],by simp[Heap.push],rfl,?_⟩⟩
   simp only[List.take_nil,List.drop_nil,List.nil_append,List.append_nil]
   exact v3.mv ok (by simp[Heap.push]) fun j hj=>push_ne _ (by have:=hvlt j hj;omega)
  ·refine ⟨by simp[Heap.push],rfl,fun j hj _=>push_ne _ (by omega),List.nodup_cons.2 ⟨fun hc=>by have:=hvlt _ hc;omega,hnv.2⟩,fun j hj=> ?_⟩
   rcases List.mem_cons.1 hj with rfl | hj
   ·exact .inr (Nat.le_refl _)
   ·exact .inl (by simp[hj])
 ·have hn:=List.nodup_cons.1 nd
  have hrl:=q3.len
  have hflt:=q3.lt ok
  have hfid:=hfl id (by simp)
  have hne:id≠idv:=fun e=>hd idv (by simp) (by simp[e])
  refine ⟨.sl tag h.next 0 (xs.length+ys.length),(h.kill id).push (rows.take i++new++rows.drop i),h.next::(fps.take i++fps2++fps.drop i).flatten,?_,?_,?_⟩
  ·simp only[insF]
   rw[if_pos ⟨trivial,trivial,hfv,hy⟩]
   simp only[v1,Option.bind_some]
   rw[if_pos hvrl]
   simp only[q1,Option.bind_some,Int.toNat_natCast]
   rw[if_pos ⟨trivial,trivial,hfid,hne,by omega,by omega,hb,hm,hrl⟩]
  ·have hlen:(xs.take i++ys++xs.drop i).length=xs.length+ys.length:=by simp only[List.length_append,List.length_take,List.length_drop];omega
   refine ⟨by rw[hlen];exact hm,.inr ⟨h.next,rows.take i++new++rows.drop i,fps.take i++fps2++fps.drop i,by rw[hlen],by simp[Heap.push,Heap.kill],by simp[Heap.push,Heap.kill],rfl,?_⟩⟩
   refine (((q3.take i).app v3).app (q3.drop i)).mv ok (by simp[Heap.push,Heap.kill]) fun j hj=> ?_
   have:j∈fps.flatten∨j∈fps2.flatten:=by
    rw[List.flatten_append,List.flatten_append,List.mem_append,List.mem_append] at hj
    rw[←flat_parts (fps:=fps) i,List.mem_append]
    rcases hj with (hj | hj) | hj
    ·exact .inl (.inl hj)
    ·exact .inr hj
    ·exact .inl (.inr hj)
   rcases this with hj' | hj'
   ·have h1:=hflt j hj'
    rw[push_ne _ (by rw[kill_next];omega),kill_ne (h:=h) (k:=id) (id:=j) fun e=>hn.1 (e▸hj')]
   ·have h1:=hvlt j hj'
    rw[push_ne _ (by rw[kill_next];omega),kill_ne (h:=h) (k:=id) (id:=j) fun e=>hd j (by simp[hj']) (by rw[e];simp)]
  ·refine ⟨by simp[Heap.push,Heap.kill],rfl,fun j hj hjn=> ?_,?_,?_⟩
   ·rw[push_ne _ (by rw[kill_next];omega),kill_ne (h:=h) (k:=id) (id:=j) fun e=>hjn (by rw[e];simp)]
   ·rw[List.nodup_cons]
    have hn2:=hn.2
    rw[←flat_parts (fps:=fps) i] at hn2
    obtain ⟨n1,n2,n3⟩:=List.nodup_append.1 hn2
    have hd1: ∀a,a∈fps2.flatten→a∉fps.flatten:=fun a ha hb=>hd a (by simp[ha]) (by simp[hb])
    have hin1: ∀a,a∈(fps.take i).flatten→a∈fps.flatten:=fun a ha=>by rw[←flat_parts (fps:=fps) i,List.mem_append];exact .inl ha
    have hin2: ∀a,a∈(fps.drop i).flatten→a∈fps.flatten:=fun a ha=>by rw[←flat_parts (fps:=fps) i,List.mem_append];exact .inr ha
    rw[List.flatten_append,List.flatten_append]
    refine ⟨fun hc=> ?_,?_⟩
    ·rw[List.mem_append,List.mem_append] at hc
     rcases hc with (hc | hc) | hc
     ·have:=hflt _ (hin1 _ hc);omega
     ·have:=hvlt _ hc;omega
     ·have:=hflt _ (hin2 _ hc);omega
    ·refine List.nodup_append.2 ⟨List.nodup_append.2 ⟨n1,hnv.2,fun a ha b hb e=>hd1 b hb (e▸hin1 a ha)⟩,n2,fun a ha b hb e=> ?_⟩
     rcases List.mem_append.1 ha with ha | ha
     ·exact n3 a ha b hb e
     ·exact hd1 a ha (e▸hin2 b hb)
   ·intro j hj
    rcases List.mem_cons.1 hj with rfl | hj
    ·exact .inr (Nat.le_refl _)
    ·left
     rw[List.flatten_append,List.flatten_append,List.mem_append,List.mem_append] at hj
     rw[List.mem_append]
     rcases hj with (hj | hj) | hj
     ·exact .inl (List.mem_cons_of_mem _ (by rw[←flat_parts (fps:=fps) i,List.mem_append];exact .inl hj))
     ·exact .inr (by simp[hj])
     ·exact .inl (List.mem_cons_of_mem _ (by rw[←flat_parts (fps:=fps) i,List.mem_append];exact .inr hj))
end
end Go.Proofs.Yteagcdhkobeanaa.A
namespace Go.Proofs.Yteagcdhkobeanaa.A
open Go
set_option linter.unusedSimpArgs false
set_option linter.unusedVariables false
section
variable {F:Nat→Option RF} {Z:CallF} {h:Heap} {c:Cell} {xs:List Shard} {fp fq fr:List Nat} {cs ds:List Cell} {s:Store} {x t:Shard}
theorem count_take {α:Type} (p:α→Bool) {xs:List α} {i:Nat} (hi:i<xs.length):(xs.take (i+1)).countP p=(xs.take i).countP p+(if p xs[i] then 1 else 0):=by
 rw[List.take_add_one,List.getElem?_eq_getElem hi,List.countP_append]
 simp[List.countP_cons]
theorem inst_turn (w:SlR 16 Shard.RI h c s.shards fp) (e:Int) (b f y:Cell) {i:Nat} (hi:i<s.shards.length):
 Turn (loop F Z [2,4,6,8,9,42,43,44] r309L0 ⟨[(2,.c (.int .i64 e)),(9,.c (.int .i64 ((s.shards.take i).countP x.left:Nat))),(42,.c c),(43,.c (.int .i64 (s.shards.length:Nat))),(44,.c (.int .i64 (i:Nat)))],[(4,4,0),(6,6,0),(8,8,0)],[(4,x.cells b f),(6,[.int .i64 0,.int .i64 0,.nil]),(8,[.int .i64 s.group,.int .i64 s.seen,y])],h⟩)
  (loop F Z [2,4,6,8,9,42,43,44] r309L0 ⟨[(2,.c (.int .i64 e)),(9,.c (.int .i64 ((s.shards.take (i+1)).countP x.left:Nat))),(42,.c c),(43,.c (.int .i64 (s.shards.length:Nat))),(44,.c (.int .i64 ((i+1:Nat):Int)))],[(4,4,0),(6,6,0),(8,8,0)],[(4,x.cells b f),(6,[.int .i64 0,.int .i64 0,.nil]),(8,[.int .i64 s.group,.int .i64 s.seen,y])],h⟩)
  (!x.over s.shards[i]) (fun s'=>lk s'.env 7=some (.c (.bool false))∧lk s'.adr 6=some (6,0)∧lk s'.loc 6=some [.int .i64 s.group,.int .i64 s.seen,y]∧s'.hp=h):=by
 have hle:=w.le2
 have hlt:(i:Int)<s.shards.length:=by omega
 have hws:=wrapS i (by omega)
 have hxi:=w.idx hi
 obtain ⟨r,q,hld,hR,_⟩:=w.one hi
 obtain ⟨x1,p1,x2,p2,rfl,_⟩:=hR
 have hct:=count_take x.left hi
 have hcl:(s.shards.take i).countP x.left≤i:=Nat.le_trans List.countP_le_length (by rw[List.length_take];omega)
 have hwc:=wrapS ((s.shards.take i).countP x.left) (by omega)
 rw[hct]
 generalize (s.shards.take i).countP x.left=n at *
 clear w hct
 generalize s.shards[i]=a at *
 rw[loop_run]
 conv in (codeF _ _ r309L0 _)=>unfold r309L0
 have ho:x.over a=(decide (a.lo≤x.hi)&&decide (x.lo≤a.hi)):=rfl
 have hl:x.left a=decide (a.lo<x.lo):=rfl
 simp only[Shard.cells]
 by_cases c1:a.lo≤x.hi
 ·by_cases c2:x.lo≤a.hi
  ·simp only[rn,RO.dst,lk,drop,Nat.reduceBEq,Nat.reduceAdd,Nat.reduceLeDiff,↓reduceIte,reduceCtorEq,hlt,hxi,hld,c1,c2]
   exact .inr ⟨by simp[ho,c1,c2],_,rfl,rfl,rfl,rfl,rfl⟩
  ·by_cases c3:a.lo<x.lo
   ·simp only[rn,RO.dst,lk,drop,Nat.reduceBEq,Nat.reduceAdd,Nat.reduceLeDiff,↓reduceIte,reduceCtorEq,hlt,hxi,hld,c1,c2,c3,hwc,hws,hl,if_pos]
    exact .inl ⟨by simp[ho,c2],rfl⟩
   ·simp only[rn,RO.dst,lk,drop,Nat.reduceBEq,Nat.reduceAdd,Nat.reduceLeDiff,↓reduceIte,reduceCtorEq,hlt,hxi,hld,c1,c2,c3,hwc,hws,hl,Bool.false_eq_true,if_false,Nat.add_zero]
    exact .inl ⟨by simp[ho,c2],rfl⟩
 ·by_cases c3:a.lo<x.lo
  ·simp only[rn,RO.dst,lk,drop,Nat.reduceBEq,Nat.reduceAdd,Nat.reduceLeDiff,↓reduceIte,reduceCtorEq,hlt,hxi,hld,c1,c3,hwc,hws,hl,if_pos]
   exact .inl ⟨by simp[ho,c1],rfl⟩
  ·simp only[rn,RO.dst,lk,drop,Nat.reduceBEq,Nat.reduceAdd,Nat.reduceLeDiff,↓reduceIte,reduceCtorEq,hlt,hxi,hld,c1,c3,hwc,hws,hl,Bool.false_eq_true,if_false,Nat.add_zero]
   exact .inl ⟨by simp[ho,c1],rfl⟩
theorem all_not {α:Type} (p:α→Bool) (xs:List α):xs.all (fun a=> !p a)= !xs.any p:=by
 induction xs with
 | nil=>rfl
 | cons a r ih=>simp[ih,Bool.not_or]
theorem install_no {e:Int} (h:installable s x e=false):installShard s x e=(s,false):=by simp[installShard,h]
theorem install_over {e:Int} (h:s.shards.any x.over=true):installShard s x e=(s,false):=by simp[installShard,h]
theorem install_yes {e:Int} (h:installable s x e=true) (h2:s.shards.any x.over=false):installShard s x e=((s.plus x).renew e,true):=by simp[installShard,h,h2]
set_option maxHeartbeats 2000000 in
theorem InstallShard_c (k:KI F) (pr:PrimAt F Z 332 (insF 16 80)) (hf:h.floor≤h.next) (v:Store.RI h cs s fp) (u:Shard.RI h ds x fq) (e:Int) (ok:s.Ok) (sm:s.Small) (okx:x.Ok) (smx:x.Small):
 ∃cs' h' fq,call F Z 309 [.agg cs,.agg ds,.c (.int .i64 e)] h=some (.tup [.agg cs',.c (.bool (installShard s x e).2)],h')∧On h h'∧Store.RI h' cs' (installShard s x e).1 fq∧Fre h fq:=by
 obtain ⟨l1,l2,l3⟩:=Store.lenI v
 obtain ⟨d1,d2,d3⟩:=Shard.lenI u
 obtain ⟨cs1,h1,fr,e1,o1,v1,f1⟩:=copyStore_c (Z:=Z) k hf v sm
 obtain ⟨h2,e2,o2⟩:=isNewEpoch_run (Z:=Z) k (Store.okI.on v o1) ok e
 obtain ⟨h3,e3,o3⟩:=isShard_run (Z:=Z) k.i10 k.i13 k.c1 k.c2 k.c3 k.c4 k.c5 k.li k.lc (Shard.okI.on (Shard.okI.on u o1) o2) okx
 rw[call_run F Z (k.i13.lk (g:=309) rfl) _ _ rfl]
 cases hn:s.next e with
 | false=>
   rw[hn] at e2
   rw[install_no (by simp[installable,hn])]
   obtain ⟨y,p,rfl,hp,w⟩:=Store.okI.on v1 o2
   subst hp
   simp only[rn,RO.dst,lk,drop,Nat.reduceBEq,Nat.reduceAdd,Nat.reduceLeDiff,↓reduceIte,reduceCtorEq,l1,l2,l3,d1,d2,d3,e1,e2]
   exact ⟨_,_,_,rfl,o1.trans o2,⟨y,_,rfl,rfl,w⟩,f1⟩
 | true=>
   rw[hn] at e2
   have o13:=(o1.trans o2).trans o3
   obtain ⟨y,p,rfl,hp,w⟩:=Store.okI.on (Store.okI.on v1 o2) o3
   subst hp
   cases gd:x.good with
   | false=>
     rw[gd] at e3
     rw[install_no (by simp[installable,gd])]
     simp only[rn,RO.dst,lk,drop,Nat.reduceBEq,Nat.reduceAdd,Nat.reduceLeDiff,↓reduceIte,reduceCtorEq,l1,l2,l3,d1,d2,d3,e1,e2,e3]
     exact ⟨_,_,_,rfl,o13,⟨y,_,rfl,rfl,w⟩,f1⟩
   | true=>
     rw[gd] at e3
     have v3:=Store.okI.on v o13
     have u3:=Shard.okI.on u o13
     obtain ⟨xc,p,rfl,hp,wx⟩:=v3
     subst hp
     obtain ⟨cs4,h4,ft,e4,o4,u4,f4⟩:=copyShard_c (Z:=Z) k.i10 k.i13 (o13.le hf) u3 smx
     obtain ⟨b,pb,f,pf,rfl,hq,_⟩:=u3
     have hwl:=wx.len
     by_cases c1:x.state=1
     case neg=>
      have hb:(x.state !=1)=true:=by simpa using c1
      rw[install_no (by simp[installable,c1])]
      simp only[rn,RO.dst,lk,drop,Nat.reduceBEq,Nat.reduceAdd,Nat.reduceLeDiff,↓reduceIte,reduceCtorEq,l1,l2,l3,d1,d2,d3,e1,e2,e3,hb]
      exact ⟨_,_,_,rfl,o13,⟨y,_,rfl,rfl,w⟩,f1⟩
     have hb:(x.state !=1)=false:=by simpa using c1
     by_cases c2:e≤x.epoch
     case pos=>
      have c2': ¬x.epoch<e:=by omega
      rw[install_no (by simp[installable,c2'])]
      simp only[rn,RO.dst,lk,drop,Nat.reduceBEq,Nat.reduceAdd,Nat.reduceLeDiff,↓reduceIte,reduceCtorEq,l1,l2,l3,d1,d2,d3,e1,e2,e3,hb,c2]
      exact ⟨_,_,_,rfl,o13,⟨y,_,rfl,rfl,w⟩,f1⟩
     by_cases c3:((s.shards.length:Int)==8)=true
     case pos=>
      rw[install_no (by simp[installable,c3])]
      simp only[rn,RO.dst,lk,drop,Nat.reduceBEq,Nat.reduceAdd,Nat.reduceLeDiff,↓reduceIte,reduceCtorEq,l1,l2,l3,d1,d2,d3,e1,e2,e3,hb,c2,hwl,c3]
      exact ⟨_,_,_,rfl,o13,⟨y,_,rfl,rfl,w⟩,f1⟩
     have c3':((s.shards.length:Int)==8)=false:=by simpa using c3
     have hi:installable s x e=true:=by
      have:x.epoch<e:=by omega
      simp only[installable,hn,gd,c1,c3',this,decide_true,Bool.true_and,Bool.not_false,beq_self_eq_true]
     simp only[rn,RO.dst,lk,drop,Nat.reduceBEq,Nat.reduceAdd,Nat.reduceLeDiff,↓reduceIte,reduceCtorEq,l1,l2,l3,d1,d2,d3,e1,e2,e3,hb,c2,hwl,c3']
     have key:=loop_all (F:=F) (Z:=Z) (live:=[2,4,6,8,9,42,43,44]) (b:=r309L0) s.shards (fun i=>⟨[(2,.c (.int .i64 e)),(9,.c (.int .i64 ((s.shards.take i).countP x.left:Nat))),(42,.c xc),(43,.c (.int .i64 (s.shards.length:Nat))),(44,.c (.int .i64 (i:Nat)))],[(4,4,0),(6,6,0),(8,8,0)],[(4,x.cells b f),(6,[.int .i64 0,.int .i64 0,.nil]),(8,[.int .i64 s.group,.int .i64 s.seen,y])],h3⟩) (fun a=> !x.over a) _ (fun i hi=>inst_turn wx e b f y hi)
     rw[all_not] at key
     simp only[List.take_zero,List.countP_nil,show ((0:Nat):Int)=0 from rfl,Shard.cells] at key
     rcases key with ⟨a1,a2⟩ | ⟨a1,s',a2,a3,a4,a5,a6⟩
     case inr=>
      rw[install_over (by simpa using a1),a2]
      simp only[rn,RO.dst,lk,drop,Nat.reduceBEq,Nat.reduceAdd,Nat.reduceLeDiff,↓reduceIte,reduceCtorEq,a3,a4,a5,a6]
      exact ⟨_,_,_,rfl,o13,⟨y,_,rfl,rfl,w⟩,f1⟩
     rw[install_yes hi (by simpa using a1),a2,loop_run]
     conv in (codeF _ _ r309L0 _)=>unfold r309L0
     have hlt: ¬(s.shards.length:Int)<s.shards.length:=by omega
     obtain ⟨b4,pb4,f4c,pf4,rfl,hq4,wb4,wf4⟩:=u4
     subst hq4
     obtain ⟨L,ndL⟩:=SlR.lit1 (tag:=16) Shard.okI (h:=h4) (cs:=[.int .u64 x.lo,.int .u64 x.hi,.int .i64 0,.int .i64 x.epoch,b4,f4c]) (t:=x.awake) ⟨b4,pb4,f4c,pf4,rfl,rfl,wb4,wf4⟩ f4.nd
     have o5:=o4.trans (On.push h4 [[.int .u64 x.lo,.int .u64 x.hi,.int .i64 0,.int .i64 x.epoch,b4,f4c]])
     have w5:=w.on Shard.okI o5
     have hlt3: ∀id,id∈fr→id<h3.next:=w.lt Shard.okI
     have fL:Fre h3 (h4.next::(pb4++pf4)):=⟨fun id hid=>by rcases List.mem_cons.1 hid with rfl | hid;exact o4.ext.1;exact f4.lo id hid,ndL⟩
     have o0:=o13.trans o5
     have hs8:s.shards.length<9:=by
      simp only[installable,Store.next,Store.good,Bool.and_eq_true,decide_eq_true_eq] at hi
      omega
     obtain ⟨z,g6,fz,e6,w6,re⟩:=w5.ins Shard.okI f1.nd (f1.own o0 hf) L ndL (fun id hid=>by rw[o5.fl];exact Nat.le_trans (o13.le hf) (fL.lo id hid)) (fun id h1 h2=>by have:=hlt3 id h2;have:=fL.lo id h1;omega) (by simp) (bytes:=80) (by simp;omega) (by simp[maxLen];omega) (s.spot_le x)
     have fA:Fre h (fr++h4.next::(pb4++pf4)):=⟨fun id hid=>by
      rcases List.mem_append.1 hid with h1 | h1
      ·exact f1.lo id h1
      ·exact Nat.le_trans o13.ext.1 (fL.lo id h1),List.nodup_append.2 ⟨f1.nd,ndL,fun a ha b hb eq=>by have:=hlt3 a ha;have:=fL.lo b hb;omega⟩⟩
     have o6:=re.on o0 fA
     have f6:=re.fre o0 fA
     obtain ⟨cs7,h7,e7,m7,v7⟩:=renewed_c (Z:=Z) k (s:=s.plus x) ⟨z,_,rfl,rfl,w6⟩ f6.nd (f6.own o6 hf) e
     obtain ⟨n1,n2,n3⟩:=Store.lenI v7
     simp only[Store.spot] at e6
     change call F Z 321 [.agg [.int .i64 s.group,.int .i64 s.seen,z],_] g6=_ at e7
     simp only[rn,RO.dst,lk,drop,Nat.reduceBEq,Nat.reduceAdd,Nat.reduceLeDiff,↓reduceIte,reduceCtorEq,hlt,List.take_length,e4,Shard.cells,List.replicate_succ,List.replicate_zero,fills,and_self,Nat.zero_lt_one,List.set_cons_zero,pr _ _,e6,e7,n1,n2,n3]
     exact ⟨_,_,_,rfl,o6.turned m7 f6,v7,f6⟩
end
end Go.Proofs.Yteagcdhkobeanaa.A
namespace Go.Proofs.Yteagcdhkobeanaa.A
open Go
set_option linter.unusedSimpArgs false
set_option linter.unusedVariables false
section
variable {F:Nat→Option RF} {Z:CallF} {h h1:Heap} {c:Cell} {xs:List Shard} {fp fq fr:List Nat} {cs ds:List Cell} {s:Store} {x t:Shard}
theorem AccM.base {α:Type} {R:Rel α} {tag:Nat} {h0 h1 g:Heap} {y:Cell} {xs:List α} {fp:List Nat} (a:AccM R tag h1 g y xs fp) (o:On h0 h1):AccM R tag h0 g y xs fp:=
 ⟨o.trans a.on,a.sh,⟨fun id hid=>Nat.le_trans o.ext.1 (a.fr.lo id hid),a.fr.nd⟩⟩
theorem AccM.old {α:Type} {R:Rel α} {tag:Nat} {h0 h1 g:Heap} {y:Cell} {xs:List α} {fp:List Nat} (a:AccM R tag h1 g y xs fp) (h:On h0 h1) {fy:List Nat} (hy: ∀id,id∈fy→id<h1.next): ∀id,id∈fy→id∉fp:=fun id h1 h2=>by
 have:=hy id h1;have:=a.fr.lo id h2;omega
theorem sinst_turn (w:SlR 16 Shard.RI h c s.shards fp) (e1:call F Z 317 [.agg [.int .i64 s.group,.int .i64 s.seen,c]] h=some (.agg ds,h1)) (hd:ds.length=3) (e:Int) (b f:Cell) {i:Nat} (hi:i<s.shards.length):
 Turn (loop F Z [2,3,4,6,8] r308L1 ⟨[(2,.c (.int .i64 e)),(8,.c (.int .i64 (i:Nat)))],[(3,3,0),(4,4,0),(6,6,0)],[(3,[.int .i64 s.group,.int .i64 s.seen,c]),(4,x.cells b f),(6,[.int .i64 0,.int .i64 0,.nil])],h⟩)
  (loop F Z [2,3,4,6,8] r308L1 ⟨[(2,.c (.int .i64 e)),(8,.c (.int .i64 ((i+1:Nat):Int)))],[(3,3,0),(4,4,0),(6,6,0)],[(3,[.int .i64 s.group,.int .i64 s.seen,c]),(4,x.cells b f),(6,[.int .i64 0,.int .i64 0,.nil])],h⟩)
  (!x.over s.shards[i]) (fun s'=>lk s'.env 7=some (.c (.bool false))∧lk s'.adr 6=some (6,0)∧lk s'.loc 6=some ds∧s'.hp=h1):=by
 have hle:=w.le2
 have hwl:=w.len
 have hlt:(i:Int)<s.shards.length:=by omega
 have hws:=wrapS i (by omega)
 have hxi:=w.idx hi
 obtain ⟨r,q,hld,hR,_⟩:=w.one hi
 obtain ⟨x1,p1,x2,p2,rfl,_⟩:=hR
 clear w
 generalize s.shards[i]=a at *
 obtain ⟨d0,d1,d2,rfl⟩: ∃a b c,ds=[a,b,c]:=by
  match ds,hd with
  | [a,b,c],_=>exact ⟨a,b,c,rfl⟩
 rw[loop_run]
 conv in (codeF _ _ r308L1 _)=>unfold r308L1
 have ho:x.over a=(decide (a.lo≤x.hi)&&decide (x.lo≤a.hi)):=rfl
 simp only[Shard.cells]
 by_cases c1:a.lo≤x.hi
 ·by_cases c2:x.lo≤a.hi
  ·simp only[rn,RO.dst,lk,drop,Nat.reduceBEq,Nat.reduceAdd,Nat.reduceLeDiff,↓reduceIte,reduceCtorEq,hwl,hlt,hxi,hld,c1,c2,e1]
   exact .inr ⟨by simp[ho,c1,c2],_,rfl,rfl,rfl,rfl,rfl⟩
  ·simp only[rn,RO.dst,lk,drop,Nat.reduceBEq,Nat.reduceAdd,Nat.reduceLeDiff,↓reduceIte,reduceCtorEq,hwl,hlt,hxi,hld,c1,c2,hws]
   exact .inl ⟨by simp[ho,c2],rfl⟩
 ·simp only[rn,RO.dst,lk,drop,Nat.reduceBEq,Nat.reduceAdd,Nat.reduceLeDiff,↓reduceIte,reduceCtorEq,hwl,hlt,hxi,hld,c1,hws]
  exact .inl ⟨by simp[ho,c1],rfl⟩
theorem Shard.renew_awake (x:Shard) (e:Int):Shard.renew e {x with state:=0,epoch:=e}=Shard.renew e x.awake:=rfl
theorem Store.plus_renew (s:Store) (x:Shard) (e:Int):(⟨s.group,e,s.shards.take (s.spot x)++[{x with state:=0,epoch:=e}]++s.shards.drop (s.spot x)⟩:Store).renew e=(s.plus x).renew e:=by
 simp only[Store.renew,Store.plus,List.map_append,List.map_cons,List.map_nil,Shard.renew_awake]
set_option maxHeartbeats 2000000 in
theorem sInstallShard_c (k:KS F) (hf:h.floor≤h.next) (v:Store.RI h cs s fp) (u:Shard.RI h ds x fq) (e:Int) (ok:s.Ok) (sm:s.Small) (okx:x.Ok) (smx:x.Small):
 ∃cs' h' fq,call F Z 308 [.agg cs,.agg ds,.c (.int .i64 e)] h=some (.tup [.agg cs',.c (.bool (installShard s x e).2)],h')∧On h h'∧Store.RI h' cs' (installShard s x e).1 fq∧Fre h fq:=by
 obtain ⟨l1,l2,l3⟩:=Store.lenI v
 obtain ⟨d1,d2,d3⟩:=Shard.lenI u
 obtain ⟨cs1,h1,fr,e1,o1,v1,f1⟩:=l13Copy_c (Z:=Z) k hf v sm
 obtain ⟨m1,m2,m3⟩:=Store.lenI v1
 have e2:=l13Next_run (Z:=Z) k v ok e
 have e3:=l13Shard_run (Z:=Z) k.s01 k.s10 k.s13 u okx
 rw[call_run F Z (k.s13.lk (g:=308) rfl) _ _ rfl]
 cases hn:s.next e with
 | false=>
   rw[hn] at e2
   rw[install_no (by simp[installable,hn])]
   simp only[rn,RO.dst,lk,drop,Nat.reduceBEq,Nat.reduceAdd,Nat.reduceLeDiff,↓reduceIte,reduceCtorEq,l1,l2,l3,d1,d2,d3,m1,m2,m3,e1,e2]
   exact ⟨_,_,_,rfl,o1,v1,f1⟩
 | true=>
   rw[hn] at e2
   cases gd:x.good with
   | false=>
     rw[gd] at e3
     rw[install_no (by simp[installable,gd])]
     simp only[rn,RO.dst,lk,drop,Nat.reduceBEq,Nat.reduceAdd,Nat.reduceLeDiff,↓reduceIte,reduceCtorEq,l1,l2,l3,d1,d2,d3,m1,m2,m3,e1,e2,e3]
     exact ⟨_,_,_,rfl,o1,v1,f1⟩
   | true=>
     rw[gd] at e3
     obtain ⟨xc,p,rfl,hp,wx⟩:=v
     subst hp
     obtain ⟨cs4,h4,ft,e4,o4,u4,f4⟩:=l13CopyShard_c (Z:=Z) k.s10 k.s13 hf u smx
     obtain ⟨b,pb,f,pf,rfl,hq,_⟩:=u
     have hwl:=wx.len
     by_cases c1:x.state=1
     case neg=>
      have hb:(x.state !=1)=true:=by simpa using c1
      rw[install_no (by simp[installable,c1])]
      simp only[rn,RO.dst,lk,drop,Nat.reduceBEq,Nat.reduceAdd,Nat.reduceLeDiff,↓reduceIte,reduceCtorEq,l1,l2,l3,d1,d2,d3,m1,m2,m3,e1,e2,e3,hb]
      exact ⟨_,_,_,rfl,o1,v1,f1⟩
     have hb:(x.state !=1)=false:=by simpa using c1
     by_cases c2:e≤x.epoch
     case pos=>
      have c2': ¬x.epoch<e:=by omega
      rw[install_no (by simp[installable,c2'])]
      simp only[rn,RO.dst,lk,drop,Nat.reduceBEq,Nat.reduceAdd,Nat.reduceLeDiff,↓reduceIte,reduceCtorEq,l1,l2,l3,d1,d2,d3,m1,m2,m3,e1,e2,e3,hb,c2]
      exact ⟨_,_,_,rfl,o1,v1,f1⟩
     by_cases c3:((s.shards.length:Int)==8)=true
     case pos=>
      rw[install_no (by simp[installable,c3])]
      simp only[rn,RO.dst,lk,drop,Nat.reduceBEq,Nat.reduceAdd,Nat.reduceLeDiff,↓reduceIte,reduceCtorEq,l1,l2,l3,d1,d2,d3,m1,m2,m3,e1,e2,e3,hb,c2,hwl,c3]
      exact ⟨_,_,_,rfl,o1,v1,f1⟩
     have c3':((s.shards.length:Int)==8)=false:=by simpa using c3
     have hi:installable s x e=true:=by
      have:x.epoch<e:=by omega
      simp only[installable,hn,gd,c1,c3',this,decide_true,Bool.true_and,Bool.not_false,beq_self_eq_true]
     simp only[rn,RO.dst,lk,drop,Nat.reduceBEq,Nat.reduceAdd,Nat.reduceLeDiff,↓reduceIte,reduceCtorEq,l1,l2,l3,d1,d2,d3,e2,e3,hb,c2,hwl,c3']
     have key:=loop_all (F:=F) (Z:=Z) (live:=[2,3,4,6,8]) (b:=r308L1) s.shards (fun i=>⟨[(2,.c (.int .i64 e)),(8,.c (.int .i64 (i:Nat)))],[(3,3,0),(4,4,0),(6,6,0)],[(3,[.int .i64 s.group,.int .i64 s.seen,xc]),(4,x.cells b f),(6,[.int .i64 0,.int .i64 0,.nil])],h⟩) (fun a=> !x.over a) _ (fun i hi=>sinst_turn wx e1 m1 e b f hi)
     rw[all_not] at key
     simp only[show ((0:Nat):Int)=0 from rfl,Shard.cells] at key
     rcases key with ⟨a1,a2⟩ | ⟨a1,s',a2,a3,a4,a5,a6⟩
     case inr=>
      rw[install_over (by simpa using a1),a2]
      simp only[rn,RO.dst,lk,drop,Nat.reduceBEq,Nat.reduceAdd,Nat.reduceLeDiff,↓reduceIte,reduceCtorEq,a3,a4,a5,a6,m1,m2,m3]
      exact ⟨_,_,_,rfl,o1,v1,f1⟩
     have ho:s.shards.any x.over=false:=by simpa using a1
     have hgood:s.good=true:=by
      simp only[Store.next,Bool.and_eq_true] at hn
      exact hn.1
     rw[install_yes hi ho,a2,loop_run]
     conv in (codeF _ _ r308L1 _)=>unfold r308L1
     have hlt: ¬(s.shards.length:Int)<s.shards.length:=by omega
     obtain ⟨b4,pb4,f4c,pf4,rfl,hq4,wb4,wf4⟩:=u4
     subst hq4
     have hs8:s.shards.length<9:=by
      simp only[installable,Store.next,Store.good,Bool.and_eq_true,decide_eq_true_eq] at hi
      omega
     have hy:Shard.RI h4 [.int .u64 x.lo,.int .u64 x.hi,.int .i64 0,.int .i64 e,b4,f4c] {x with state:=0,epoch:=e} (pb4++pf4):=⟨b4,pb4,f4c,pf4,rfl,rfl,wb4,wf4⟩
     have hylt: ∀id,id∈pb4++pf4→id<h4.next:=Shard.okI.lt hy
     simp only[rn,RO.dst,lk,drop,Nat.reduceBEq,Nat.reduceAdd,Nat.reduceLeDiff,↓reduceIte,reduceCtorEq,hwl,hlt,e4]
     clear a2 e2 e3 d1 d2 d3 l1 l2 l3 m1 m2 m3 e1 o1 v1 f1 e4
     obtain ⟨s',⟨y,g,fq,hs,a,ap⟩,lp⟩:=loop_goes (F:=F) (Z:=Z) (live:=[2,3,6,9,10,11,12]) (b:=r308L0) s.shards.length (fun i st=> ∃y g fq,st=⟨[(2,.c (.int .i64 e)),(11,.c (.bool (decide (s.spot x<i)))),(12,.c (.int .i64 (i:Nat)))],[(3,3,0),(6,6,0),(9,9,0),(10,10,0)],[(3,[.int .i64 s.group,.int .i64 s.seen,xc]),(6,[.int .i64 0,.int .i64 0,.nil]),(9,[.int .i64 s.group,.int .i64 e,y]),(10,[.int .u64 x.lo,.int .u64 x.hi,.int .i64 0,.int .i64 e,b4,f4c])],g⟩∧
      AccM Shard.RI 16 h g y (s.part {x with state:=0,epoch:=e} (s.spot x) i) fq∧(i≤s.spot x→AccM Shard.RI 16 h4 g y (s.part {x with state:=0,epoch:=e} (s.spot x) i) fq)) (fun i st hi ⟨y,g,fq,hs,a,ap⟩=>by
      subst hs
      have hlt:(i:Int)<s.shards.length:=by omega
      have hle:=wx.le2
      have hws:=wrapS i (by omega)
      have hxi:=wx.idx hi
      have hgt:=Store.spot_gt hgood gd ho hi
      have hpl:=s.part_len {x with state:=0,epoch:=e} (s.spot x) i
      obtain ⟨q1,qf,hld0,hR0,_⟩:=(wx.on Shard.okI a.on).one hi
      rw[loop_run]
      conv in (codeF _ _ r308L0 _)=>unfold r308L0
      by_cases hp:s.spot x<i
      ·obtain ⟨r1,r2,r3⟩:=Shard.lenI hR0
       obtain ⟨cs',h',g1,fr,e1,hg1,o1,u1,f1,c1⟩:=l13CopyShard_q (Z:=Z) k.s10 k.s13 hR0 (sm.2 _ (List.getElem_mem hi))
       obtain ⟨y',g',fp',e2,a2⟩:=a.next hf (by omega) o1 u1 f1
       rw[←Store.part_yes hi hp] at a2
       have hd1:decide (s.spot x<i)=true:=by simpa using hp
       have hd2:decide (s.spot x<i+1)=true:=by simp;omega
       simp only[rn,RO.dst,lk,drop,Nat.reduceBEq,Nat.reduceAdd,Nat.reduceLeDiff,↓reduceIte,reduceCtorEq,hwl,hlt,hxi,hd1,hd2,hld0,r1,r2,r3,e1,hg1,List.replicate_succ,List.replicate_zero,fills,and_self,Nat.zero_lt_one,c1,List.set_cons_zero,e2,hws]
       exact ⟨_,⟨_,_,_,rfl,a2,fun hc=>by omega⟩,rfl⟩
      ·have hd1:decide (s.spot x<i)=false:=by simpa using hp
       have ap:=ap (by omega)
       have hR0':=hR0
       obtain ⟨z1,zp1,z2,zp2,rfl,_⟩:=hR0'
       by_cases hq:s.spot x=i
       ·subst hq
        have hgt':s.shards[s.spot x].lo>x.lo:=hgt.2 (Nat.le_refl _)
        obtain ⟨y',g',fp',e2,a2,_⟩:=a.one (g:=g) Shard.okI hf (bytes:=80) (by omega) (by omega) (On.refl g) (Shard.okI.on hy ap.on) ⟨fun id hid=>f4.lo id hid,f4.nd⟩ (ap.old (On.refl h4) hylt)
        obtain ⟨q2,qf2,hld2,hR2,_⟩:=(wx.on Shard.okI a2.on).one hi
        obtain ⟨r1,r2,r3⟩:=Shard.lenI hR2
        obtain ⟨cs',h',g1,fr,e1,hg1,o1,u1,f1,c1⟩:=l13CopyShard_q (Z:=Z) k.s10 k.s13 hR2 (sm.2 _ (List.getElem_mem hi))
        obtain ⟨y3,g3,fp3,e3,a3⟩:=a2.next hf (by simp;omega) o1 u1 f1
        rw[←Store.part_at hi] at a3
        have hd2:decide (s.spot x<s.spot x+1)=true:=by simp
        simp only[rn,RO.dst,lk,drop,Nat.reduceBEq,Nat.reduceAdd,Nat.reduceLeDiff,↓reduceIte,reduceCtorEq,hwl,hlt,hxi,hd1,hd2,hld0,hgt',List.replicate_succ,List.replicate_zero,fills,and_self,Nat.zero_lt_one,List.set_cons_zero,e2,hld2,r1,r2,r3,e1,hg1,c1,e3,hws]
        exact ⟨_,⟨_,_,_,rfl,a3,fun hc=>by omega⟩,rfl⟩
       ·have hgt': ¬s.shards[i].lo>x.lo:=fun hc=>by have:=hgt.1 hc;omega
        obtain ⟨r1,r2,r3⟩:=Shard.lenI hR0
        obtain ⟨cs',h',g1,fr,e1,hg1,o1,u1,f1,c1⟩:=l13CopyShard_q (Z:=Z) k.s10 k.s13 hR0 (sm.2 _ (List.getElem_mem hi))
        obtain ⟨y',g',fp',e2,a2⟩:=ap.next (o4.le hf) (by omega) o1 u1 f1
        rw[←Store.part_no hi (by omega)] at a2
        have hd2:decide (s.spot x<i+1)=false:=by simp;omega
        simp only[rn,RO.dst,lk,drop,Nat.reduceBEq,Nat.reduceAdd,Nat.reduceLeDiff,↓reduceIte,reduceCtorEq,hwl,hlt,hxi,hd1,hd2,hld0,hgt',r1,r2,r3,e1,hg1,List.replicate_succ,List.replicate_zero,fills,and_self,Nat.zero_lt_one,c1,List.set_cons_zero,e2,hws]
        exact ⟨_,⟨_,_,_,rfl,a2.base o4,fun _=>a2⟩,rfl⟩) (s:=⟨[(2,.c (.int .i64 e)),(11,.c (.bool false)),(12,.c (.int .i64 (0:Nat)))],[(3,3,0),(6,6,0),(9,9,0),(10,10,0)],[(3,[.int .i64 s.group,.int .i64 s.seen,xc]),(6,[.int .i64 0,.int .i64 0,.nil]),(9,[.int .i64 s.group,.int .i64 e,.nil]),(10,[.int .u64 x.lo,.int .u64 x.hi,.int .i64 0,.int .i64 e,b4,f4c])],h4⟩) ⟨.nil,h4,[],by simp,by simpa[Store.part] using AccM.none Shard.RI 16 o4,fun _=>by simpa[Store.part] using AccM.nil Shard.RI 16 h4⟩
     subst hs
     simp only[show ((0:Nat):Int)=0 from rfl] at lp
     have hlt: ¬(s.shards.length:Int)<s.shards.length:=by omega
     rw[lp,loop_run]
     conv in (codeF _ _ r308L0 _)=>unfold r308L0
     have hfin: ∀{z:Cell} {g':Heap} {fz:List Nat},AccM Shard.RI 16 h g' z (s.shards.take (s.spot x)++[{x with state:=0,epoch:=e}]++s.shards.drop (s.spot x)) fz→
      ∃cs5 h5 f5,call F Z 318 [.agg [.int .i64 s.group,.int .i64 e,z],.c (.int .i64 e)] g'=some (.agg cs5,h5)∧On h h5∧Store.RI h5 cs5 ((s.plus x).renew e) f5∧Fre h f5∧cs5.length=3∧cs5.take 3=cs5∧cs5.drop 3=[]:=fun {z g' fz} az=>by
      obtain ⟨cs5,h5,f5,e5,o5,v5,r5⟩:=l13Renew_c (Z:=Z) k (s:=⟨s.group,e,s.shards.take (s.spot x)++[{x with state:=0,epoch:=e}]++s.shards.drop (s.spot x)⟩) (az.on.le hf) ⟨z,_,rfl,rfl,az.sh⟩ (by
       refine ⟨?_,fun a ha=> ?_⟩
       ·simp only[List.length_append,List.length_take,List.length_drop,List.length_cons,List.length_nil];omega
       ·simp only[List.mem_append,List.mem_singleton] at ha
        rcases ha with (ha | ha) | ha
        ·exact sm.2 a (List.mem_of_mem_take ha)
        ·subst ha;exact smx
        ·exact sm.2 a (List.mem_of_mem_drop ha)) e
      rw[Store.plus_renew] at v5
      obtain ⟨n1,n2,n3⟩:=Store.lenI v5
      exact ⟨cs5,h5,f5,e5,az.on.trans o5,v5,⟨fun id hid=>Nat.le_trans az.on.ext.1 (r5.lo id hid),r5.nd⟩,n1,n2,n3⟩
     by_cases hp:s.spot x<s.shards.length
     ·rw[Store.part_end hp] at a
      obtain ⟨cs5,h5,f5,e5,o5,v5,r5,n1,n2,n3⟩:=hfin a
      have hd1:decide (s.spot x<s.shards.length)=true:=by simpa using hp
      simp only[rn,RO.dst,lk,drop,Nat.reduceBEq,Nat.reduceAdd,Nat.reduceLeDiff,↓reduceIte,reduceCtorEq,hwl,hlt,hd1,e5,n1,n2,n3]
      exact ⟨_,_,_,rfl,o5,v5,r5⟩
     ·have hp':s.spot x=s.shards.length:=by have:=s.spot_le x;omega
      have ap:=ap (by omega)
      have hpl:=s.part_len {x with state:=0,epoch:=e} (s.spot x) s.shards.length
      obtain ⟨y',g',fp',e2,a2,_⟩:=a.one (g:=g) Shard.okI hf (bytes:=80) (by omega) (by omega) (On.refl g) (Shard.okI.on hy ap.on) ⟨fun id hid=>f4.lo id hid,f4.nd⟩ (ap.old (On.refl h4) hylt)
      rw[Store.part_last hp'] at a2
      obtain ⟨cs5,h5,f5,e5,o5,v5,r5,n1,n2,n3⟩:=hfin a2
      have hd1:decide (s.spot x<s.shards.length)=false:=by simpa using hp
      simp only[rn,RO.dst,lk,drop,Nat.reduceBEq,Nat.reduceAdd,Nat.reduceLeDiff,↓reduceIte,reduceCtorEq,hwl,hlt,hd1,List.replicate_succ,List.replicate_zero,fills,and_self,Nat.zero_lt_one,List.set_cons_zero,e2,e5,n1,n2,n3]
      exact ⟨_,_,_,rfl,o5,v5,r5⟩
end
end Go.Proofs.Yteagcdhkobeanaa.A
namespace Go.Proofs.Yteagcdhkobeanaa.A
open Go
set_option linter.unusedSimpArgs false
set_option linter.unusedVariables false
def Store.without (s:Store) (i:Nat):Store:={s with shards:=s.shards.eraseIdx i}
def retireShard (s:Store) (lo e:Int):Store×Bool:=bif s.good&&(decide (0≤findAt s.shards lo 1)&&decide ((Shard.at_ s.shards (findAt s.shards lo 1).toNat).epoch=e)) then (s.without (findAt s.shards lo 1).toNat,true) else (s,false)
theorem Store.without_small {s:Store} (sm:s.Small) (i:Nat):(s.without i).Small:=
 ⟨Nat.le_trans (List.length_eraseIdx_le _ _) sm.1,fun a ha=>sm.2 a (List.mem_of_mem_eraseIdx ha)⟩
theorem retireShard_small {s:Store} (sm:s.Small) (lo e:Int):(retireShard s lo e).1.Small:=by
 unfold retireShard
 cases (s.good&&(decide (0≤findAt s.shards lo 1)&&decide ((Shard.at_ s.shards (findAt s.shards lo 1).toNat).epoch=e)))
 ·exact sm
 ·exact Store.without_small sm _
theorem retire_no {s:Store} {lo e:Int} (h:s.good=false):retireShard s lo e=(s,false):=by simp[retireShard,h]
theorem retire_away {s:Store} {lo e:Int} (h:findAt s.shards lo 1= -1):retireShard s lo e=(s,false):=by simp[retireShard,h]
theorem retire_old {s:Store} {lo e:Int} {i:Nat} (h:findAt s.shards lo 1=(i:Int)) (h2: ¬(Shard.at_ s.shards i).epoch=e):retireShard s lo e=(s,false):=by simp[retireShard,h,h2]
theorem retire_yes {s:Store} {lo e:Int} {i:Nat} (h0:s.good=true) (h:findAt s.shards lo 1=(i:Int)) (h2:(Shard.at_ s.shards i).epoch=e):retireShard s lo e=(s.without i,true):=by simp[retireShard,h0,h,h2]
theorem erase_skip {α:Type} {xs:List α} {k:Nat} (hk:k<xs.length):(xs.take (k+1)).eraseIdx k=(xs.take k).eraseIdx k:=by
 rw[List.eraseIdx_of_length_le (k:=k) (l:=xs.take k) (by rw[List.length_take];omega),List.eraseIdx_eq_take_drop_succ,List.drop_eq_nil_of_le (by rw[List.length_take];omega),List.take_take,List.append_nil]
 congr 1
 omega
theorem erase_next {α:Type} {xs:List α} {i k:Nat} (hi:i<xs.length) (hne:i≠k):(xs.take (i+1)).eraseIdx k=(xs.take i).eraseIdx k++[xs[i]]:=by
 rw[List.take_add_one,List.getElem?_eq_getElem hi]
 rcases Nat.lt_or_ge k i with h | h
 ·rw[List.eraseIdx_append_of_lt_length (by rw[List.length_take];omega)];rfl
 ·rw[List.eraseIdx_of_length_le (k:=k) (l:=xs.take i) (by rw[List.length_take];omega),List.eraseIdx_of_length_le (by simp;omega)];rfl
section
variable {F:Nat→Option RF} {Z:CallF} {h:Heap} {x:Cell} {xs:List Shard} {fp fq:List Nat} {cs:List Cell} {s:Store} {t:Shard}
set_option maxHeartbeats 1000000 in
theorem RetireShard_c (k:KI F) (hL:Has F tLibslicesIndexFuncimplShardimplShard) (pr:PrimAt F Z 330 (delF 16)) (hf:h.floor≤h.next) (v:Store.RI h cs s fp) (lo e:Int) (ok:s.Ok) (sm:s.Small):
 ∃cs' h' fq,call F Z 298 [.agg cs,.c (.int .u64 lo),.c (.int .i64 e)] h=some (.tup [.agg cs',.c (.bool (retireShard s lo e).2)],h')∧On h h'∧Store.RI h' cs' (retireShard s lo e).1 fq∧Fre h fq:=by
 obtain ⟨l1,l2,l3⟩:=Store.lenI v
 obtain ⟨cs1,h1,fq,e1,o1,v1,f1⟩:=copyStore_c (Z:=Z) k hf v sm
 have v':=Store.okI.on v o1
 obtain ⟨h2,e2,o2⟩:=shardAt_on (Z:=Z) k.i13 hL v' lo 1
 have v'':=Store.okI.on v' o2
 obtain ⟨h3,e3,o3⟩:=isStore_run (Z:=Z) k v'' ok
 have o13:=(o1.trans o2).trans o3
 have v3:=Store.okI.on (Store.okI.on v1 o2) o3
 have vs:=Store.okI.on v'' o3
 clear v v' v'' v1
 rw[call_run F Z (k.i13.lk (g:=298) rfl) _ _ rfl]
 obtain ⟨y,p,rfl,hp,w⟩:=v3
 subst hp
 obtain ⟨x,p,rfl,hp,u⟩:=vs
 subst hp
 cases hg:s.good with
 | false=>
   rw[hg] at e3
   rw[retire_no hg]
   simp only[rn,RO.dst,lk,drop,Nat.reduceBEq,Nat.reduceAdd,Nat.reduceLeDiff,↓reduceIte,reduceCtorEq,l1,l2,l3,e1,e2,e3]
   exact ⟨_,_,_,rfl,o13,⟨y,_,rfl,rfl,w⟩,f1⟩
 | true=>
   rw[hg] at e3
   rcases u.found (fun t=>(t.lo==lo)&&(t.state==1)) with q | ⟨i,q,hi,_,hx,_,_,hld⟩
   ·change findAt s.shards lo 1= -1 at q
    rw[retire_away q]
    rw[q] at e2
    simp only[rn,RO.dst,lk,drop,Nat.reduceBEq,Nat.reduceAdd,Nat.reduceLeDiff,↓reduceIte,reduceCtorEq,l1,l2,l3,e1,e2,e3,Int.reduceLT,Int.reduceNeg]
    exact ⟨_,_,_,rfl,o13,⟨y,_,rfl,rfl,w⟩,f1⟩
   ·change findAt s.shards lo 1=(i:Int) at q
    rw[q] at e2
    have g0: ¬(i:Int)<0:=by omega
    by_cases he:(Shard.at_ s.shards i).epoch=e
    ·rw[retire_yes hg q he]
     have hle:=u.le2
     obtain ⟨z,g,fr,e4,w4,re⟩:=w.del Shard.okI f1.nd (f1.own o13 hf) hi
     have hw:=wrapS i (by omega)
     simp only[rn,RO.dst,lk,drop,Nat.reduceBEq,Nat.reduceAdd,Nat.reduceLeDiff,↓reduceIte,reduceCtorEq,l1,l2,l3,e1,e2,e3,g0,hx,hld,he,Shard.cells,hw,pr _ _,e4]
     exact ⟨_,_,_,rfl,re.on o13 f1,⟨z,_,rfl,rfl,w4⟩,re.fre o13 f1⟩
    ·have hb:((Shard.at_ s.shards i).epoch !=e)=true:=by simpa using he
     rw[retire_old q he]
     simp only[rn,RO.dst,lk,drop,Nat.reduceBEq,Nat.reduceAdd,Nat.reduceLeDiff,↓reduceIte,reduceCtorEq,l1,l2,l3,e1,e2,e3,g0,hx,hld,hb,Shard.cells]
     exact ⟨_,_,_,rfl,o13,⟨y,_,rfl,rfl,w⟩,f1⟩
set_option maxHeartbeats 1000000 in
theorem sRetireShard_c (k:KS F) (hf:h.floor≤h.next) (v:Store.RI h cs s fp) (lo e:Int) (ok:s.Ok) (sm:s.Small):
 ∃cs' h' fq,call F Z 297 [.agg cs,.c (.int .u64 lo),.c (.int .i64 e)] h=some (.tup [.agg cs',.c (.bool (retireShard s lo e).2)],h')∧On h h'∧Store.RI h' cs' (retireShard s lo e).1 fq∧Fre h fq:=by
 obtain ⟨l1,l2,l3⟩:=Store.lenI v
 obtain ⟨cs1,h1,fq,e1,o1,v1,f1⟩:=l13Copy_c (Z:=Z) k hf v sm
 obtain ⟨m1,m2,m3⟩:=Store.lenI v1
 have e2:=l13At_run (Z:=Z) k.s13 v lo 1
 have e3:=sStoreOk_run (Z:=Z) k v ok
 rw[call_run F Z (k.s13.lk (g:=297) rfl) _ _ rfl]
 cases hg:s.good with
 | false=>
   rw[hg] at e3
   rw[retire_no hg]
   simp only[rn,RO.dst,lk,drop,Nat.reduceBEq,Nat.reduceAdd,Nat.reduceLeDiff,↓reduceIte,reduceCtorEq,l1,l2,l3,e1,e2,e3,m1,m2,m3]
   exact ⟨_,_,_,rfl,o1,v1,f1⟩
 | true=>
   rw[hg] at e3
   obtain ⟨x,p,rfl,hp,u⟩:=v
   subst hp
   rcases u.found (fun t=>(t.lo==lo)&&(t.state==1)) with q | ⟨j,q,hj,_,hx,_,_,hld⟩
   ·change findAt s.shards lo 1= -1 at q
    rw[retire_away q]
    rw[q] at e2
    simp only[rn,RO.dst,lk,drop,Nat.reduceBEq,Nat.reduceAdd,Nat.reduceLeDiff,↓reduceIte,reduceCtorEq,l1,l2,l3,e1,e2,e3,m1,m2,m3,Int.reduceLT,Int.reduceNeg]
    exact ⟨_,_,_,rfl,o1,v1,f1⟩
   ·change findAt s.shards lo 1=(j:Int) at q
    rw[q] at e2
    have g0: ¬(j:Int)<0:=by omega
    by_cases he:(Shard.at_ s.shards j).epoch=e
    ·rw[retire_yes hg q he]
     have hle:=u.le2
     have hwl:=u.len
     clear e1 o1 v1 f1 m1 m2 m3
     simp only[rn,RO.dst,lk,drop,Nat.reduceBEq,Nat.reduceAdd,Nat.reduceLeDiff,↓reduceIte,reduceCtorEq,l1,l2,l3,e2,e3,g0,hx,hld,he,Shard.cells]
     obtain ⟨s',⟨y,g,fq,hs,a⟩,lp⟩:=loop_goes (F:=F) (Z:=Z) (live:=[3,6,8,9,10]) (b:=r297L0) s.shards.length (fun i st=> ∃y g fq,st=⟨[(8,.c (.int .i64 (j:Nat))),(10,.c (.int .i64 (i:Nat)))],[(3,3,0),(6,6,0),(9,9,0)],[(3,[.int .i64 s.group,.int .i64 s.seen,x]),(6,[.int .i64 0,.int .i64 0,.nil]),(9,[.int .i64 s.group,.int .i64 s.seen,y])],g⟩∧AccM Shard.RI 16 h g y ((s.shards.take i).eraseIdx j) fq) (fun i st hi ⟨y,g,fq,hs,a⟩=>by
      subst hs
      have hlt:(i:Int)<s.shards.length:=by omega
      have hws:=wrapS i (by omega)
      rw[loop_run]
      conv in (codeF _ _ r297L0 _)=>unfold r297L0
      by_cases hij:i=j
      ·subst hij
       rw[←erase_skip hi] at a
       simp only[rn,RO.dst,lk,drop,Nat.reduceBEq,Nat.reduceAdd,Nat.reduceLeDiff,↓reduceIte,reduceCtorEq,hwl,hlt,hws]
       exact ⟨_,⟨_,_,_,rfl,a⟩,rfl⟩
      have hne0: ¬(i:Int)=(j:Int):=by omega
      have hne:((i:Int) !=(j:Int))=true:=by simpa using hne0
      have hxi:=u.idx hi
      obtain ⟨r,f,hld,hR,_⟩:=(u.on Shard.okI a.on).one hi
      obtain ⟨r1,r2,r3⟩:=Shard.lenI hR
      obtain ⟨cs',h',g1,fr,e1,hg1,o1,u1,f1,c1⟩:=l13CopyShard_q (Z:=Z) k.s10 k.s13 hR (sm.2 _ (List.getElem_mem hi))
      obtain ⟨y',g',fp',e2,a2⟩:=a.next hf (by have:=List.length_eraseIdx_le (s.shards.take i) j;have:=sm.1;rw[List.length_take] at *;omega) o1 u1 f1
      rw[←erase_next hi hij] at a2
      simp only[rn,RO.dst,lk,drop,Nat.reduceBEq,Nat.reduceAdd,Nat.reduceLeDiff,↓reduceIte,reduceCtorEq,hwl,hlt,hxi,hne,hld,r1,r2,r3,e1,hg1,List.replicate_succ,List.replicate_zero,fills,and_self,Nat.zero_lt_one,c1,List.set_cons_zero,e2,hws]
      exact ⟨_,⟨_,_,_,rfl,a2⟩,rfl⟩) (s:=⟨[(8,.c (.int .i64 (j:Nat))),(10,.c (.int .i64 (0:Nat)))],[(3,3,0),(6,6,0),(9,9,0)],[(3,[.int .i64 s.group,.int .i64 s.seen,x]),(6,[.int .i64 0,.int .i64 0,.nil]),(9,[.int .i64 s.group,.int .i64 s.seen,.nil])],h⟩) ⟨_,_,_,rfl,by simpa using AccM.nil Shard.RI 16 h⟩
     subst hs
     simp only[show ((0:Nat):Int)=0 from rfl] at lp
     rw[List.take_length] at a
     have hlt: ¬(s.shards.length:Int)<s.shards.length:=by omega
     rw[lp,loop_run]
     conv in (codeF _ _ r297L0 _)=>unfold r297L0
     simp only[rn,RO.dst,lk,drop,Nat.reduceBEq,Nat.reduceAdd,Nat.reduceLeDiff,↓reduceIte,reduceCtorEq,hwl,hlt]
     exact ⟨_,_,_,rfl,a.on,⟨_,_,rfl,rfl,a.sh⟩,a.fr⟩
    ·have hb:((Shard.at_ s.shards j).epoch !=e)=true:=by simpa using he
     rw[retire_old q he]
     simp only[rn,RO.dst,lk,drop,Nat.reduceBEq,Nat.reduceAdd,Nat.reduceLeDiff,↓reduceIte,reduceCtorEq,l1,l2,l3,e1,e2,e3,g0,hx,hld,hb,Shard.cells,m1,m2,m3]
     exact ⟨_,_,_,rfl,o1,v1,f1⟩
end
end Go.Proofs.Yteagcdhkobeanaa.A
namespace Go.Proofs.Yteagcdhkobeanaa.A
open Go
set_option linter.unusedSimpArgs false
set_option linter.unusedVariables false
section
variable {F:Nat→Option RF} {Z:CallF} {h:Heap} {cs:List Cell} {t:HandMsg} {fp:List Nat}
theorem markHandMsg_r (hLHandMsg:Has F tLHandMsg) (hLShard:Has F tLShard) (hLBook:Has F tLBook) (hLAccount:Has F tLAccount) (hLFin:Has F tLFin) (v:HandMsg.RI h cs t fp) (nd:fp.Nodup) (hlo: ∀id,id∈fp→h.floor≤id) (k:Int) (h1:0≤k) (h2:k+t.wt≤9200000000000000000):
 ∃h',call F Z 305 [.agg cs,.c (.int .i64 k)] h=some (.c (.int .i64 (k+t.wt)),h')∧Mk h h' fp∧HandMsg.RI h' cs (t.marked k) fp:=by
 obtain ⟨x1,p1,x2,p2,rfl,hp,w1,w2⟩:=v
 have v:Shard.RI h [.int .u64 t.shard.lo,.int .u64 t.shard.hi,.int .i64 t.shard.state,.int .i64 t.shard.epoch,x1,x2] t.shard fp:=⟨x1,p1,x2,p2,rfl,hp,w1,w2⟩
 obtain ⟨g,e,m,u⟩:=markShard_r (Z:=Z) hLShard hLBook hLAccount hLFin v nd hlo k h1 h2
 obtain ⟨y1,q1,y2,q2,hc,hq,u1,u2⟩:=u
 have hx:x1=y1∧x2=y2:=by
  simp only[List.cons.injEq] at hc
  exact ⟨hc.2.2.2.2.1,hc.2.2.2.2.2.1⟩
 obtain ⟨rfl,rfl⟩:=hx
 rw[call_run F Z (hLHandMsg.lk (g:=305) rfl) _ _ rfl]
 simp only[rn,RO.dst,lk,drop,Nat.reduceBEq,Nat.reduceAdd,Nat.reduceLeDiff,↓reduceIte,reduceCtorEq,e]
 exact ⟨g,rfl,m,⟨x1,q1,x2,q2,rfl,hq,u1,u2⟩⟩
end
end Go.Proofs.Yteagcdhkobeanaa.A
namespace Go.Proofs.Yteagcdhkobeanaa.A
open Go
set_option linter.unusedSimpArgs false
set_option linter.unusedVariables false
def HandMsg.none_:HandMsg:=⟨0,0,0,0,Shard.none_⟩
def handTake (s:Store) (m:HandMsg):Store×Bool:=bif m.to==s.group then (bif m.step==0 then freezeShard s m.lo m.epoch else bif m.step==1 then installShard s m.shard m.epoch else bif m.step==2 then retireShard s m.lo m.epoch else (s,false)) else (s,false)
theorem handTake_small {s:Store} (sm:s.Small) {m:HandMsg} (smm:m.Small):(handTake s m).1.Small:=by
 unfold handTake
 cases (m.to==s.group)<;>simp only[cond_true,cond_false]
 ·exact sm
 cases (m.step==0)<;>simp only[cond_true,cond_false]
 ·cases (m.step==1)<;>simp only[cond_true,cond_false]
  ·cases (m.step==2)<;>simp only[cond_true,cond_false]
   ·exact sm
   ·exact retireShard_small sm _ _
  ·exact installShard_small sm smm _
 ·exact freezeShard_small sm _ _
section
variable {F:Nat→Option RF} {Z:CallF} {h:Heap} {cs ds:List Cell} {fp fq:List Nat} {s:Store} {m:HandMsg}
theorem HandMsg.shardI (u:HandMsg.RI h ds m fq): ∃x1 x2,ds=[.int .i64 m.step,.int .u64 m.lo,.int .i64 m.to,.int .i64 m.epoch,.int .u64 m.shard.lo,.int .u64 m.shard.hi,.int .i64 m.shard.state,.int .i64 m.shard.epoch,x1,x2]∧Shard.RI h [.int .u64 m.shard.lo,.int .u64 m.shard.hi,.int .i64 m.shard.state,.int .i64 m.shard.epoch,x1,x2] m.shard fq:=by
 obtain ⟨x1,p1,x2,p2,rfl,hq,w1,w2⟩:=u
 exact ⟨x1,x2,rfl,⟨x1,p1,x2,p2,rfl,hq,w1,w2⟩⟩
set_option maxHeartbeats 1000000 in
theorem handTake_c (k:KI F) (hI15:Has F tI15) (hL:Has F tLibslicesIndexFuncimplShardimplShard) (prd:PrimAt F Z 330 (delF 16)) (pri:PrimAt F Z 332 (insF 16 80)) (hf:h.floor≤h.next) (v:Store.RI h cs s fp) (u:HandMsg.RI h ds m fq) (ok:s.Ok) (sm:s.Small) (okm:m.Ok) (smm:m.Small):
 ∃cs' h' fq,call F Z 334 [.agg cs,.agg ds] h=some (.tup [.agg cs',.c (.bool (handTake s m).2)],h')∧On h h'∧Store.RI h' cs' (handTake s m).1 fq∧Fre h fq:=by
 obtain ⟨x1,x2,rfl,ux⟩:=HandMsg.shardI u
 obtain ⟨cs0,h0,f0,e0,o0,v0,r0⟩:=copyStore_c (Z:=Z) k hf v sm
 obtain ⟨cs1,h1,f1,e1,o1,v1,r1⟩:=FreezeShard_c (Z:=Z) k hL hf v m.lo m.epoch ok sm
 obtain ⟨cs2,h2,f2,e2,o2,v2,r2⟩:=InstallShard_c (Z:=Z) k pri hf v ux m.epoch ok sm okm.shard smm
 obtain ⟨cs3,h3,f3,e3,o3,v3,r3⟩:=RetireShard_c (Z:=Z) k hL prd hf v m.lo m.epoch ok sm
 obtain ⟨a01,a02,a03⟩:=Store.lenI v0
 obtain ⟨a11,a12,a13⟩:=Store.lenI v1
 obtain ⟨a21,a22,a23⟩:=Store.lenI v2
 obtain ⟨a31,a32,a33⟩:=Store.lenI v3
 rw[call_run F Z (hI15.lk (g:=334) rfl) _ _ rfl]
 obtain ⟨y,p,rfl,_⟩:=v
 by_cases c0:m.to=s.group
 ·have c0':(m.to !=s.group)=false:=by simpa using c0
  by_cases c1:m.step=0
  ·have c1':(m.step==0)=true:=by simpa using c1
   have hd:handTake s m=freezeShard s m.lo m.epoch:=by simp[handTake,c0,c1]
   rw[hd]
   simp only[rn,RO.dst,lk,drop,Nat.reduceBEq,Nat.reduceAdd,Nat.reduceLeDiff,↓reduceIte,reduceCtorEq,c0',c1',e1,a11,a12,a13]
   exact ⟨_,_,_,rfl,o1,v1,r1⟩
  have c1':(m.step==0)=false:=by simpa using c1
  by_cases c2:m.step=1
  ·have c2':(m.step==1)=true:=by simpa using c2
   have hd:handTake s m=installShard s m.shard m.epoch:=by simp[handTake,c0,c2]
   rw[hd]
   simp only[rn,RO.dst,lk,drop,Nat.reduceBEq,Nat.reduceAdd,Nat.reduceLeDiff,↓reduceIte,reduceCtorEq,c0',c1',c2',e2,a21,a22,a23]
   exact ⟨_,_,_,rfl,o2,v2,r2⟩
  have c2':(m.step==1)=false:=by simpa using c2
  by_cases c3:m.step=2
  ·have c3':(m.step==2)=true:=by simpa using c3
   have hd:handTake s m=retireShard s m.lo m.epoch:=by simp[handTake,c0,c3]
   rw[hd]
   simp only[rn,RO.dst,lk,drop,Nat.reduceBEq,Nat.reduceAdd,Nat.reduceLeDiff,↓reduceIte,reduceCtorEq,c0',c1',c2',c3',e3,a31,a32,a33]
   exact ⟨_,_,_,rfl,o3,v3,r3⟩
  have c3':(m.step==2)=false:=by simpa using c3
  have hd:handTake s m=(s,false):=by simp[handTake,c0,c1',c2',c3']
  rw[hd]
  simp only[rn,RO.dst,lk,drop,Nat.reduceBEq,Nat.reduceAdd,Nat.reduceLeDiff,↓reduceIte,reduceCtorEq,c0',c1',c2',c3',e0,a01,a02,a03]
  exact ⟨_,_,_,rfl,o0,v0,r0⟩
 ·have c0':(m.to !=s.group)=true:=by simpa using c0
  have hd:handTake s m=(s,false):=by
   have:(m.to==s.group)=false:=by simpa using c0
   simp[handTake,this]
  rw[hd]
  simp only[rn,RO.dst,lk,drop,Nat.reduceBEq,Nat.reduceAdd,Nat.reduceLeDiff,↓reduceIte,reduceCtorEq,c0',e0,a01,a02,a03]
  exact ⟨_,_,_,rfl,o0,v0,r0⟩
theorem HandTake_c (k:KI F) (hI15:Has F tI15) (hL:Has F tLibslicesIndexFuncimplShardimplShard) (prd:PrimAt F Z 330 (delF 16)) (pri:PrimAt F Z 332 (insF 16 80)) (hf:h.floor≤h.next) (v:Store.RI h cs s fp) (u:HandMsg.RI h ds m fq) (ok:s.Ok) (sm:s.Small) (okm:m.Ok) (smm:m.Small):
 ∃cs' h' fq,call F Z 315 [.agg cs,.agg ds] h=some (.tup [.agg cs',.c (.bool (handTake s m).2)],h')∧On h h'∧Store.RI h' cs' (handTake s m).1 fq∧Fre h fq:=by
 obtain ⟨l1,l2,l3⟩:=Store.lenI v
 obtain ⟨d1,d2,d3⟩:=HandMsg.lenI u
 obtain ⟨cs1,h1,fr,e,o,w,f⟩:=handTake_c (Z:=Z) k hI15 hL prd pri hf v u ok sm okm smm
 obtain ⟨m1,m2,m3⟩:=Store.lenI w
 rw[call_run F Z (hI15.lk (g:=315) rfl) _ _ rfl]
 simp only[rn,RO.dst,lk,drop,Nat.reduceBEq,Nat.reduceAdd,Nat.reduceLeDiff,↓reduceIte,reduceCtorEq,l1,l2,l3,d1,d2,d3,e,m1,m2,m3]
 exact ⟨_,_,_,rfl,o,w,f⟩
set_option maxHeartbeats 1000000 in
theorem sHandTake_c (k:KS F) (hS15:Has F tS15) (hf:h.floor≤h.next) (v:Store.RI h cs s fp) (u:HandMsg.RI h ds m fq) (ok:s.Ok) (sm:s.Small) (okm:m.Ok) (smm:m.Small):
 ∃cs' h' fq,call F Z 314 [.agg cs,.agg ds] h=some (.tup [.agg cs',.c (.bool (handTake s m).2)],h')∧On h h'∧Store.RI h' cs' (handTake s m).1 fq∧Fre h fq:=by
 obtain ⟨x1,x2,rfl,ux⟩:=HandMsg.shardI u
 have cp: ∀{cs1:List Cell} {h1:Heap} {t:Store} {f1:List Nat},On h h1→Store.RI h1 cs1 t f1→t.Small→ ∃cs2 h2 f2,call F Z 317 [.agg cs1] h1=some (.agg cs2,h2)∧On h h2∧Store.RI h2 cs2 t f2∧Fre h f2∧cs2.length=3∧cs2.take 3=cs2∧cs2.drop 3=[]:=fun {cs1 h1 t f1} o v sm=>by
  obtain ⟨cs2,h2,f2,e,o2,v2,r2⟩:=l13Copy_c (Z:=Z) k (o.le hf) v sm
  obtain ⟨a1,a2,a3⟩:=Store.lenI v2
  exact ⟨cs2,h2,f2,e,o.trans o2,v2,⟨fun id hid=>Nat.le_trans o.ext.1 (r2.lo id hid),r2.nd⟩,a1,a2,a3⟩
 obtain ⟨cs1,h1,f1,e1,o1,v1,r1⟩:=sFreezeShard_c (Z:=Z) k hf v m.lo m.epoch ok sm
 obtain ⟨cs2,h2,f2,e2,o2,v2,r2⟩:=sInstallShard_c (Z:=Z) k hf v ux m.epoch ok sm okm.shard smm
 obtain ⟨cs3,h3,f3,e3,o3,v3,r3⟩:=sRetireShard_c (Z:=Z) k hf v m.lo m.epoch ok sm
 obtain ⟨b11,b12,b13⟩:=Store.lenI v1
 obtain ⟨b21,b22,b23⟩:=Store.lenI v2
 obtain ⟨b31,b32,b33⟩:=Store.lenI v3
 obtain ⟨ds0,g0,q0,c0,p0,u0,s0,a01,a02,a03⟩:=cp (On.refl h) v sm
 obtain ⟨ds1,g1,q1,c1,p1,u1,s1,a11,a12,a13⟩:=cp o1 v1 (freezeShard_small sm _ _)
 obtain ⟨ds2,g2,q2,c2,p2,u2,s2,a21,a22,a23⟩:=cp o2 v2 (installShard_small sm smm _)
 obtain ⟨ds3,g3,q3,c3,p3,u3,s3,a31,a32,a33⟩:=cp o3 v3 (retireShard_small sm _ _)
 clear cp
 rw[call_run F Z (hS15.lk (g:=314) rfl) _ _ rfl]
 obtain ⟨y,p,rfl,_⟩:=v
 by_cases d0:m.to=s.group
 ·have d0':(s.group !=m.to)=false:=by simpa using d0.symm
  by_cases d1:m.step=0
  ·have d1':(m.step==0)=true:=by simpa using d1
   have hd:handTake s m=freezeShard s m.lo m.epoch:=by simp[handTake,d0,d1]
   rw[hd]
   simp only[rn,RO.dst,lk,drop,Nat.reduceBEq,Nat.reduceAdd,Nat.reduceLeDiff,↓reduceIte,reduceCtorEq,d0',d1',e1,b11,b12,b13,c1,a11,a12,a13]
   exact ⟨_,_,_,rfl,p1,u1,s1⟩
  have d1':(m.step==0)=false:=by simpa using d1
  by_cases d2:m.step=1
  ·have d2':(m.step==1)=true:=by simpa using d2
   have hd:handTake s m=installShard s m.shard m.epoch:=by simp[handTake,d0,d2]
   rw[hd]
   simp only[rn,RO.dst,lk,drop,Nat.reduceBEq,Nat.reduceAdd,Nat.reduceLeDiff,↓reduceIte,reduceCtorEq,d0',d1',d2',e2,b21,b22,b23,c2,a21,a22,a23]
   exact ⟨_,_,_,rfl,p2,u2,s2⟩
  have d2':(m.step==1)=false:=by simpa using d2
  by_cases d3:m.step=2
  ·have d3':(m.step==2)=true:=by simpa using d3
   have hd:handTake s m=retireShard s m.lo m.epoch:=by simp[handTake,d0,d3]
   rw[hd]
   simp only[rn,RO.dst,lk,drop,Nat.reduceBEq,Nat.reduceAdd,Nat.reduceLeDiff,↓reduceIte,reduceCtorEq,d0',d1',d2',d3',e3,b31,b32,b33,c3,a31,a32,a33]
   exact ⟨_,_,_,rfl,p3,u3,s3⟩
  have d3':(m.step==2)=false:=by simpa using d3
  have hd:handTake s m=(s,false):=by simp[handTake,d0,d1',d2',d3']
  rw[hd]
  simp only[rn,RO.dst,lk,drop,Nat.reduceBEq,Nat.reduceAdd,Nat.reduceLeDiff,↓reduceIte,reduceCtorEq,d0',d1',d2',d3',c0,a01,a02,a03]
  exact ⟨_,_,_,rfl,p0,u0,s0⟩
 ·have d0':(s.group !=m.to)=true:=by simpa using fun e=>d0 e.symm
  have hd:handTake s m=(s,false):=by
   have:(m.to==s.group)=false:=by simpa using d0
   simp[handTake,this]
  rw[hd]
  simp only[rn,RO.dst,lk,drop,Nat.reduceBEq,Nat.reduceAdd,Nat.reduceLeDiff,↓reduceIte,reduceCtorEq,d0',c0,a01,a02,a03]
  exact ⟨_,_,_,rfl,p0,u0,s0⟩
end
end Go.Proofs.Yteagcdhkobeanaa.A
namespace Go.Proofs.Yteagcdhkobeanaa.A
open Go
set_option linter.unusedSimpArgs false
set_option linter.unusedVariables false
def sumI {α:Type} (f:α→Int):List α→Int
 | []=>0
 | a::r=>f a+sumI f r
section
variable {α:Type} (f:α→Int)
theorem sumI_app: ∀(xs ys:List α),sumI f (xs++ys)=sumI f xs+sumI f ys
 | [],ys=>by simp[sumI]
 | a::r,ys=>by
   simp only[List.cons_append,sumI,sumI_app r ys];omega
theorem sumI_take (xs:List α) {i:Nat} (hi:i<xs.length):sumI f (xs.take (i+1))=sumI f (xs.take i)+f xs[i]:=by
 rw[List.take_add_one,List.getElem?_eq_getElem hi,sumI_app]
 simp[sumI]
theorem sumI_le {m:Int}: ∀(xs:List α),(∀a,a∈xs→0≤f a∧f a≤m)→0≤sumI f xs∧sumI f xs≤m*xs.length
 | [],_=>by simp[sumI]
 | a::r,h=>by
   have h1:=h a (by simp)
   have h2:=sumI_le r fun b hb=>h b (by simp[hb])
   simp only[sumI,List.length_cons]
   constructor
   ·omega
   ·rw[Int.natCast_add,Int.mul_add]
    simp only[Int.natCast_one,Int.mul_one]
    omega
end
section
variable {F:Nat→Option RF} {Z:CallF} {h:Heap} {x:Cell} {xs:List Account} {fp:List Nat}
end
end Go.Proofs.Yteagcdhkobeanaa.A
namespace Go.Proofs.Yteagcdhkobeanaa.A
open Go
set_option linter.unusedSimpArgs false
set_option linter.unusedVariables false
def Shard.mark1 (t:Shard) (k:Int):Shard:=⟨k,k+1,k+2,k+3,⟨Account.marks t.book.list.length (k+4)⟩,Fin.marks t.finished.length (k+4+5*(t.book.list.length:Nat))⟩
def Shard.wt1 (t:Shard):Int:=4+5*((t.book.list.length:Nat):Int)+2*((t.finished.length:Nat):Int)
def Shard.marksS:List Shard→Int→List Shard
 | [],_=>[]
 | t::r,k=>t.mark1 k::Shard.marksS r (k+t.wt1)
theorem Shard.wt1_nn (t:Shard):0≤t.wt1:=by simp only[wt1];omega
theorem Shard.marksS_len: ∀(xs:List Shard) (k:Int),(Shard.marksS xs k).length=xs.length
 | [],_=>rfl
 | t::r,k=>by simp only[Shard.marksS,List.length_cons,Shard.marksS_len r]
theorem Shard.marksS_app: ∀(xs ys:List Shard) (k:Int),Shard.marksS (xs++ys) k=Shard.marksS xs k++Shard.marksS ys (k+sumI Shard.wt1 xs)
 | [],ys,k=>by simp[Shard.marksS,sumI]
 | t::r,ys,k=>by
   simp only[List.cons_append,Shard.marksS,Shard.marksS_app r ys,sumI,Int.add_assoc]
theorem Shard.mark_step {xs:List Shard} {i:Nat} (hi:i<xs.length) (k:Int):
 (Shard.marksS (xs.take i) k++xs.drop i).set i (xs[i].mark1 (k+sumI Shard.wt1 (xs.take i)))=Shard.marksS (xs.take (i+1)) k++xs.drop (i+1):=by
 have hl:(Shard.marksS (xs.take i) k).length=i:=by rw[Shard.marksS_len,List.length_take];omega
 rw[List.set_append_right _ _ (by omega),hl,Nat.sub_self,List.drop_eq_getElem_cons hi,List.set_cons_zero,List.take_add_one,List.getElem?_eq_getElem hi,Shard.marksS_app]
 simp[Shard.marksS]
theorem Shard.mark_at {xs:List Shard} {i:Nat} (hi:i<xs.length) (k:Int) (h:i<(Shard.marksS (xs.take i) k++xs.drop i).length):(Shard.marksS (xs.take i) k++xs.drop i)[i]=xs[i]:=by
 have hl:(Shard.marksS (xs.take i) k).length=i:=by rw[Shard.marksS_len,List.length_take];omega
 rw[List.getElem_append_right (by omega)]
 simp[hl]
section
variable {F:Nat→Option RF} {Z:CallF} {h:Heap} {x:Cell} {xs:List Shard} {fp:List Nat}
set_option maxHeartbeats 2000000 in
theorem markShardS_turn (hLShard:Has F tLShard) (hLAccount:Has F tLAccount) (hLFin:Has F tLFin) {ys:List Shard} {g:Heap} (w:SlR 16 Shard.RI g x ys fp) (nd:fp.Nodup) (hlo: ∀id,id∈fp→g.floor≤id) {i:Nat} (hi:i<ys.length) (k:Int) (h1:0≤k) (h2:k+ys[i].wt1≤9200000000000000000):
 ∃g',loop F Z [0,1,5] r230L0 ⟨[(0,.c x),(1,.c (.int .i64 k)),(5,.c (.int .i64 (i:Nat)))],[],[],g⟩=loop F Z [0,1,5] r230L0 ⟨[(0,.c x),(1,.c (.int .i64 (k+ys[i].wt1))),(5,.c (.int .i64 ((i+1:Nat):Int)))],[],[],g'⟩∧
  Mk g g' fp∧SlR 16 Shard.RI g' x (ys.set i (ys[i].mark1 k)) fp:=by
 have hle:=w.le2
 have hlt:(i:Int)<ys.length:=by omega
 have hws:=wrapS i (by omega)
 have hwl:=w.len
 have hxi:=w.idx hi
 obtain ⟨r,f,rows,hR,hin,nf,hs,hns,hsl,hg,hr,hir,fin⟩:=w.turn Shard.okI nd hi
 have hput:=storeP_put (h:=g) (hlo _ hs) hir
 have he:=put_row hg hr
 simp only[Shard.wt1] at h2 ⊢
 clear w
 generalize ys[i]=a at *
 obtain ⟨x1,p1,x2,p2,rfl,rfl,w1,w2⟩:=hR
 obtain ⟨nd1,nd2,nd3⟩:=List.nodup_append.1 nf
 generalize hg4:g.put x.sid (rows.set i [.int .u64 k,.int .u64 (k+1),.int .i64 (k+2),.int .i64 (k+3),x1,x2])=g4
 have m4:Mk g g4 [x.sid]:=by rw[←hg4];exact Mk.put _ _ _
 have l4: ∀j n,loadP g4 x.sid i j n=cut? [.int .u64 k,.int .u64 (k+1),.int .i64 (k+2),.int .i64 (k+3),x1,x2] j n:=by rw[←hg4];exact loadP_put hir _
 have s1: ∀id,id∈p1→id∉[x.sid]:=fun id hid hc=>hns (by rw[List.mem_singleton] at hc;rw[←hc];simp[hid])
 have s2: ∀id,id∈p2→id∉[x.sid]:=fun id hid hc=>hns (by rw[List.mem_singleton] at hc;rw[←hc];simp[hid])
 have w1':=w1.mk (Fl.ok _) m4 s1
 have w2':=w2.mk (Fl.ok _) m4 s2
 obtain ⟨g5,e5,m5,u1⟩:=markAccountS_run (Z:=Z) hLAccount w1' (fun id hid=>by rw[m4.fl];exact hlo id (hin id (by simp[hid]))) (k+4) (by omega) (by omega)
 have w2'':=w2'.mk (Fl.ok _) m5 (fun id h1 h2=>nd3 id h2 id h1 rfl)
 have get5:g5.get x.sid=g4.get x.sid:=m5.get _ fun hc=>hns (by simp[hc])
 have l5: ∀j n,loadP g5 x.sid i j n=cut? [.int .u64 k,.int .u64 (k+1),.int .i64 (k+2),.int .i64 (k+3),x1,x2] j n:=fun j n=>by rw[←l4];simp only[loadP,rowOf,get5]
 obtain ⟨g6,e6,m6,u2⟩:=markFinS_run (Z:=Z) hLFin w2'' (fun id hid=>by rw[m5.fl,m4.fl];exact hlo id (hin id (by simp[hid]))) (k+4+5*(a.book.list.length:Nat)) (by omega) (by omega)
 have u1':=u1.mk (Fl.ok _) m6 (fun id h1 h2=>nd3 id h1 id h2 rfl)
 have get6:g6.get x.sid=g4.get x.sid:=(m6.get _ fun hc=>hns (by simp[hc])).trans get5
 refine ⟨g6,?_,⟨by rw[m6.next,m5.next,m4.next],by rw[m6.fl,m5.fl,m4.fl],fun id hid=> ?_⟩,?_⟩
 ·rw[loop_run]
  conv in (codeF _ _ r230L0 _)=>unfold r230L0
  rw[←he]
  have hw1:=wrapI1 k (by omega) (by omega)
  have hw2:IntKind.i64.wrap (k+1+1)=k+2:=by rw[wrapI _ (by omega) (by omega)];omega
  have hw3:IntKind.i64.wrap (k+2+1)=k+3:=by rw[wrapI _ (by omega) (by omega)];omega
  have hw4:IntKind.i64.wrap (k+3+1)=k+4:=by rw[wrapI _ (by omega) (by omega)];omega
  have hu1:=wrapU1 k (by omega) (by omega)
  have hu2:=wrapU1 (k+1) (by omega) (by omega)
  simp only[rn,RO.dst,lk,drop,Nat.reduceBEq,Nat.reduceAdd,Nat.reduceLeDiff,↓reduceIte,reduceCtorEq,hwl,hlt,hxi,hput,putM_s,hw1,hw2,hw3,hw4,hu1,hu2,hg4,l4,e5,l5,e6,hws]
  rw[show k+(4+5*((a.book.list.length:Nat):Int)+2*((a.finished.length:Nat):Int))=k+4+5*(a.book.list.length:Nat)+2*(a.finished.length:Nat) from by omega]
 ·rw[m6.get id (fun hc=>hid (hin id (by simp[hc]))),m5.get id (fun hc=>hid (hin id (by simp[hc]))),m4.get id (fun hc=>hid (by rw[List.mem_singleton] at hc;rw[hc];exact hs))]
 ·refine fin g6 [.int .u64 k,.int .u64 (k+1),.int .i64 (k+2),.int .i64 (k+3),x1,x2] _ (by rw[m6.next,m5.next,m4.next];exact Nat.le_refl _) (fun id hid h3 h4=> ?_) (by rw[get6,←hg4];simp[Heap.put]) ⟨x1,p1,x2,p2,rfl,rfl,u1',u2⟩
  rw[m6.get id (fun hc=>h4 (by simp[hc])),m5.get id (fun hc=>h4 (by simp[hc])),m4.get id (by simpa using h3)]
theorem markShardS_r (hLShard:Has F tLShard) (hLAccount:Has F tLAccount) (hLFin:Has F tLFin) (w:SlR 16 Shard.RI h x xs fp) (nd:fp.Nodup) (hlo: ∀id,id∈fp→h.floor≤id) (k:Int) (h1:0≤k) (h2:k+sumI Shard.wt1 xs≤9200000000000000000):
 ∃h',call F Z 230 [.c x,.c (.int .i64 k)] h=some (.c (.int .i64 (k+sumI Shard.wt1 xs)),h')∧Mk h h' fp∧SlR 16 Shard.RI h' x (Shard.marksS xs k) fp:=by
 have hle:=w.le2
 have hnn: ∀i,0≤sumI Shard.wt1 (xs.take i):=fun i=>by
  have: ∀ys:List Shard,0≤sumI Shard.wt1 ys:=fun ys=>by
   induction ys with
   | nil=>simp[sumI]
   | cons a r ih=>have:=a.wt1_nn;simp only[sumI];omega
  exact this _
 have hpre: ∀i,sumI Shard.wt1 (xs.take i)≤sumI Shard.wt1 xs:=fun i=>by
  have e:=sumI_app Shard.wt1 (xs.take i) (xs.drop i)
  rw[List.take_append_drop] at e
  have: ∀ys:List Shard,0≤sumI Shard.wt1 ys:=fun ys=>by
   induction ys with
   | nil=>simp[sumI]
   | cons a r ih=>have:=a.wt1_nn;simp only[sumI];omega
  have:=this (xs.drop i)
  omega
 rw[call_run F Z (hLShard.lk (g:=230) rfl) _ _ rfl]
 simp only[rn,RO.dst,lk,drop,Nat.reduceBEq,Nat.reduceAdd,Nat.reduceLeDiff,↓reduceIte,reduceCtorEq]
 obtain ⟨s',⟨g,hs,m,u⟩,l1⟩:=loop_goes (F:=F) (Z:=Z) (live:=[0,1,5]) (b:=r230L0) xs.length (fun i s=> ∃g,s=⟨[(0,.c x),(1,.c (.int .i64 (k+sumI Shard.wt1 (xs.take i)))),(5,.c (.int .i64 (i:Nat)))],[],[],g⟩∧Mk h g fp∧SlR 16 Shard.RI g x (Shard.marksS (xs.take i) k++xs.drop i) fp) (fun i s hi ⟨g,hs,m,u⟩=>by
  subst hs
  have hi':i<(Shard.marksS (xs.take i) k++xs.drop i).length:=by rw[List.length_append,Shard.marksS_len,List.length_take,List.length_drop];omega
  have e:=Shard.mark_at hi k hi'
  have hst:=sumI_take Shard.wt1 xs hi
  have hp:=hpre (i+1)
  have h0:=hnn i
  obtain ⟨g',e1,m1,u1⟩:=markShardS_turn (Z:=Z) hLShard hLAccount hLFin u nd (fun id hid=>by rw[m.fl];exact hlo id hid) hi' (k+sumI Shard.wt1 (xs.take i)) (by omega) (by rw[e];omega)
  rw[e,Shard.mark_step hi] at u1
  rw[e] at e1
  refine ⟨_,⟨g',rfl,⟨m1.next.trans m.next,m1.fl.trans m.fl,fun id hid=>(m1.get id hid).trans (m.get id hid)⟩,u1⟩,?_⟩
  rw[e1,hst,Int.add_assoc]) (s:=⟨[(0,.c x),(1,.c (.int .i64 k)),(5,.c (.int .i64 (0:Nat)))],[],[],h⟩) ⟨h,by simp[sumI],Mk.refl _ _,by simpa[Shard.marksS] using w⟩
 subst hs
 simp only[show ((0:Nat):Int)=0 from rfl,List.take_length] at l1
 simp only[List.take_length,List.drop_length,List.append_nil] at u
 rw[l1,loop_run]
 conv in (codeF _ _ r230L0 _)=>unfold r230L0
 have hlt: ¬(xs.length:Int)<xs.length:=by omega
 have hl:=u.len
 rw[Shard.marksS_len] at hl
 simp only[rn,RO.dst,lk,drop,Nat.reduceBEq,Nat.reduceAdd,Nat.reduceLeDiff,↓reduceIte,reduceCtorEq,hl,hlt]
 exact ⟨g,rfl,m,u⟩
end
namespace Store
def wt (s:Store):Int:=sumI Shard.wt1 s.shards
def marked (s:Store) (k:Int):Store:={s with shards:=Shard.marksS s.shards k}
end Store
theorem Store.wt_nn (s:Store):0≤s.wt:=by
 have: ∀ys:List Shard,0≤sumI Shard.wt1 ys:=fun ys=>by
  induction ys with
  | nil=>simp[sumI]
  | cons a r ih=>have:=a.wt1_nn;simp only[sumI];omega
 exact this _
theorem Store.wt_le {s:Store} (sm:s.Small):s.wt≤8000000000000:=by
 obtain ⟨h1,h2⟩:=sm
 have h3:=sumI_le Shard.wt1 (m:=7340036) s.shards fun a ha=>by
  obtain ⟨b1,b2⟩:=h2 a ha
  have b1':a.book.list.length≤1048576:=b1
  have:=a.wt1_nn
  refine ⟨this,?_⟩
  simp only[Shard.wt1];omega
 have:s.wt=sumI Shard.wt1 s.shards:=rfl
 omega
section
variable {F:Nat→Option RF} {Z:CallF} {h:Heap} {cs:List Cell} {t:Store} {fp:List Nat}
theorem markStore_r (hLStore:Has F tLStore) (hLShard:Has F tLShard) (hLBook:Has F tLBook) (hLAccount:Has F tLAccount) (hLFin:Has F tLFin) (v:Store.RI h cs t fp) (nd:fp.Nodup) (hlo: ∀id,id∈fp→h.floor≤id) (k:Int) (h1:0≤k) (h2:k+t.wt≤9200000000000000000):
 ∃h',call F Z 191 [.agg cs,.c (.int .i64 k)] h=some (.c (.int .i64 (k+t.wt)),h')∧Mk h h' fp∧Store.RI h' cs (t.marked k) fp:=by
 obtain ⟨x,p,rfl,rfl,w⟩:=v
 obtain ⟨g,e,m,u⟩:=markShardS_r (Z:=Z) hLShard hLAccount hLFin w nd hlo k h1 h2
 rw[call_run F Z (hLStore.lk (g:=191) rfl) _ _ rfl]
 simp only[rn,RO.dst,lk,drop,Nat.reduceBEq,Nat.reduceAdd,Nat.reduceLeDiff,↓reduceIte,reduceCtorEq,e]
 exact ⟨g,rfl,m,⟨x,_,rfl,rfl,u⟩⟩
end
end Go.Proofs.Yteagcdhkobeanaa.A
namespace Go.Proofs.Yteagcdhkobeanaa.A
open Go
set_option linter.unusedSimpArgs false
set_option linter.unusedVariables false
def Store.zeroC:List Cell:=[.int .i64 0,.int .i64 0,.nil]
section
variable {F:Nat→Option RF} {Z:CallF} {h:Heap} {x y:Cell} {xs ys:List Store} {fp fq:List Nat}
end
end Go.Proofs.Yteagcdhkobeanaa.A
namespace Go.Proofs.Yteagcdhkobeanaa.A
open Go
set_option linter.unusedSimpArgs false
set_option linter.unusedVariables false
theorem Shard.marksS_at: ∀(xs:List Shard) (k:Int) (i:Nat) (hi:i<xs.length) (h:i<(Shard.marksS xs k).length),(Shard.marksS xs k)[i]=xs[i].mark1 (k+sumI Shard.wt1 (xs.take i))
 | [],k,i,hi,h=>by simp at hi
 | t::r,k,0,hi,h=>by simp[Shard.marksS,sumI]
 | t::r,k,i+1,hi,h=>by
   simp only[Shard.marksS,List.getElem_cons_succ,List.take_succ_cons,sumI]
   rw[Shard.marksS_at r _ i (by simpa using hi)]
   simp[Int.add_assoc]
theorem Shard.sum_nn: ∀xs:List Shard,0≤sumI Shard.wt1 xs
 | []=>by simp[sumI]
 | a::r=>by have:=a.wt1_nn;have:=Shard.sum_nn r;simp only[sumI];omega
theorem Shard.sum_pre (xs:List Shard) (i:Nat):sumI Shard.wt1 (xs.take i)≤sumI Shard.wt1 xs:=by
 have e:=sumI_app Shard.wt1 (xs.take i) (xs.drop i)
 rw[List.take_append_drop] at e
 have:=Shard.sum_nn (xs.drop i)
 omega
section
variable {F:Nat→Option RF} {Z:CallF} {h:Heap} {x:Cell} {xs:List Shard} {fp:List Nat}
set_option maxHeartbeats 2000000 in
theorem heldShardS_r (hLShard:Has F tLShard) (hLAccount:Has F tLAccount) (hLFin:Has F tLFin) {k:Int} (w:SlR 16 Shard.RI h x (Shard.marksS xs k) fp) (h1:0≤k) (h2:k+sumI Shard.wt1 xs≤9200000000000000000):
 call F Z 322 [.c x,.c (.int .i64 k)] h=some (.c (.int .i64 (k+sumI Shard.wt1 xs)),h):=by
 have hle:=w.le2
 have hl:=w.len
 rw[Shard.marksS_len] at hl hle
 rw[call_run F Z (hLShard.lk (g:=322) rfl) _ _ rfl]
 simp only[rn,RO.dst,lk,drop,Nat.reduceBEq,Nat.reduceAdd,Nat.reduceLeDiff,↓reduceIte,reduceCtorEq]
 obtain ⟨s',hs,l1⟩:=loop_goes (F:=F) (Z:=Z) (live:=[0,1,5]) (b:=r322L0) xs.length (fun i s=>s=⟨[(0,.c x),(1,.c (.int .i64 (k+sumI Shard.wt1 (xs.take i)))),(5,.c (.int .i64 (i:Nat)))],[],[],h⟩) (fun i s hi hs=>by
  subst hs
  refine ⟨_,rfl,?_⟩
  have hi':i<(Shard.marksS xs k).length:=by rw[Shard.marksS_len];exact hi
  have hst:=sumI_take Shard.wt1 xs hi
  have hp:=Shard.sum_pre xs (i+1)
  have h0:=Shard.sum_nn (xs.take i)
  have hlt:(i:Int)<xs.length:=by omega
  have hws:=wrapS i (by omega)
  have hxi:=w.idx hi'
  obtain ⟨r,f,l4,hR,_⟩:=w.one hi'
  rw[Shard.marksS_at xs k i hi] at hR
  rw[hst]
  generalize xs[i]=a at *
  generalize hkk:k+sumI Shard.wt1 (xs.take i)=q at *
  rw[show k+(sumI Shard.wt1 (xs.take i)+a.wt1)=q+a.wt1 from by omega]
  have hq0:0≤q:=by omega
  have hq1:q+a.wt1≤9200000000000000000:=by omega
  simp only[Shard.wt1] at hq1 ⊢
  obtain ⟨x1,p1,x2,p2,rfl,rfl,w1,w2⟩:=hR
  have e5:=heldAccountS_run (Z:=Z) hLAccount (n:=a.book.list.length) (k:=q+4) w1 (by omega) (by omega)
  have e6:=heldFinS_run (Z:=Z) hLFin (n:=a.finished.length) (k:=q+4+5*(a.book.list.length:Nat)) w2 (by omega) (by omega)
  have hw1:=wrapI1 q (by omega) (by omega)
  have hw2:IntKind.i64.wrap (q+1+1)=q+2:=by rw[wrapI _ (by omega) (by omega)];omega
  have hw3:IntKind.i64.wrap (q+2+1)=q+3:=by rw[wrapI _ (by omega) (by omega)];omega
  have hw4:IntKind.i64.wrap (q+3+1)=q+4:=by rw[wrapI _ (by omega) (by omega)];omega
  have hu1:=wrapU1 q (by omega) (by omega)
  have hu2:=wrapU1 (q+1) (by omega) (by omega)
  have n0: ¬q+4+5*((a.book.list.length:Nat):Int)<0:=by omega
  have n1: ¬q+4+5*((a.book.list.length:Nat):Int)+2*((a.finished.length:Nat):Int)<0:=by omega
  rw[loop_run]
  conv in (codeF _ _ r322L0 _)=>unfold r322L0
  simp only[Shard.mark1] at l4
  simp only[rn,RO.dst,lk,drop,Nat.reduceBEq,Nat.reduceAdd,Nat.reduceLeDiff,↓reduceIte,reduceCtorEq,hl,hlt,hxi,l4,hw1,hw2,hw3,hw4,hu1,hu2,e5,e6,n0,n1,hws]
  rw[show q+(4+5*((a.book.list.length:Nat):Int)+2*((a.finished.length:Nat):Int))=q+4+5*(a.book.list.length:Nat)+2*(a.finished.length:Nat) from by omega]) (s:=⟨[(0,.c x),(1,.c (.int .i64 k)),(5,.c (.int .i64 (0:Nat)))],[],[],h⟩) (by simp[sumI])
 subst hs
 simp only[show ((0:Nat):Int)=0 from rfl,List.take_length] at l1
 rw[l1,loop_run]
 conv in (codeF _ _ r322L0 _)=>unfold r322L0
 have hlt: ¬(xs.length:Int)<xs.length:=by omega
 simp only[rn,RO.dst,lk,drop,Nat.reduceBEq,Nat.reduceAdd,Nat.reduceLeDiff,↓reduceIte,reduceCtorEq,hl,hlt]
end
section
variable {F:Nat→Option RF} {Z:CallF} {h:Heap} {cs:List Cell} {t:Store} {fp:List Nat}
theorem heldStore_r (hLStore:Has F tLStore) (hLShard:Has F tLShard) (hLBook:Has F tLBook) (hLAccount:Has F tLAccount) (hLFin:Has F tLFin) {k:Int} (v:Store.RI h cs (t.marked k) fp) (h1:0≤k) (h2:k+t.wt≤9200000000000000000):
 call F Z 292 [.agg cs,.c (.int .i64 k)] h=some (.c (.int .i64 (k+t.wt)),h):=by
 obtain ⟨x,p,rfl,rfl,w⟩:=v
 have e:=heldShardS_r (Z:=Z) hLShard hLAccount hLFin (xs:=t.shards) w h1 h2
 have hn:=t.wt_nn
 rw[call_run F Z (hLStore.lk (g:=292) rfl) _ _ rfl]
 have he:sumI Shard.wt1 t.shards=t.wt:=rfl
 rw[he] at e
 have hk: ¬k+t.wt<0:=by omega
 simp only[rn,RO.dst,lk,drop,Nat.reduceBEq,Nat.reduceAdd,Nat.reduceLeDiff,↓reduceIte,reduceCtorEq,e,hk]
end
def Store.mark1 (t:Store) (k:Int):Store:=⟨k,k+1,Shard.marksS t.shards (k+2)⟩
def Store.wt1 (t:Store):Int:=2+sumI Shard.wt1 t.shards
def Store.marksS:List Store→Int→List Store
 | [],_=>[]
 | t::r,k=>t.mark1 k::Store.marksS r (k+t.wt1)
theorem Store.wt1_nn (t:Store):0≤t.wt1:=by have:=Shard.sum_nn t.shards;simp only[wt1];omega
theorem Store.sum_nn: ∀xs:List Store,0≤sumI Store.wt1 xs
 | []=>by simp[sumI]
 | a::r=>by have:=a.wt1_nn;have:=Store.sum_nn r;simp only[sumI];omega
theorem Store.sum_pre (xs:List Store) (i:Nat):sumI Store.wt1 (xs.take i)≤sumI Store.wt1 xs:=by
 have e:=sumI_app Store.wt1 (xs.take i) (xs.drop i)
 rw[List.take_append_drop] at e
 have:=Store.sum_nn (xs.drop i)
 omega
theorem Store.marksS_len: ∀(xs:List Store) (k:Int),(Store.marksS xs k).length=xs.length
 | [],_=>rfl
 | t::r,k=>by simp only[Store.marksS,List.length_cons,Store.marksS_len r]
theorem Store.marksS_app: ∀(xs ys:List Store) (k:Int),Store.marksS (xs++ys) k=Store.marksS xs k++Store.marksS ys (k+sumI Store.wt1 xs)
 | [],ys,k=>by simp[Store.marksS,sumI]
 | t::r,ys,k=>by
   simp only[List.cons_append,Store.marksS,Store.marksS_app r ys,sumI,Int.add_assoc]
theorem Store.mark_step {xs:List Store} {i:Nat} (hi:i<xs.length) (k:Int):
 (Store.marksS (xs.take i) k++xs.drop i).set i (xs[i].mark1 (k+sumI Store.wt1 (xs.take i)))=Store.marksS (xs.take (i+1)) k++xs.drop (i+1):=by
 have hl:(Store.marksS (xs.take i) k).length=i:=by rw[Store.marksS_len,List.length_take];omega
 rw[List.set_append_right _ _ (by omega),hl,Nat.sub_self,List.drop_eq_getElem_cons hi,List.set_cons_zero,List.take_add_one,List.getElem?_eq_getElem hi,Store.marksS_app]
 simp[Store.marksS]
theorem Store.mark_at {xs:List Store} {i:Nat} (hi:i<xs.length) (k:Int) (h:i<(Store.marksS (xs.take i) k++xs.drop i).length):(Store.marksS (xs.take i) k++xs.drop i)[i]=xs[i]:=by
 have hl:(Store.marksS (xs.take i) k).length=i:=by rw[Store.marksS_len,List.length_take];omega
 rw[List.getElem_append_right (by omega)]
 simp[hl]
section
variable {F:Nat→Option RF} {Z:CallF} {h:Heap} {x:Cell} {xs:List Store} {fp:List Nat}
end
end Go.Proofs.Yteagcdhkobeanaa.A
