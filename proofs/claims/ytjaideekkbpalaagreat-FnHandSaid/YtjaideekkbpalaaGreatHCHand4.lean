/- The functions that the statement reaches, part 4: bodies and what they compute. No condition. -/
import Derived.Test.YtjaideekkbpalaaGreatHCHand3
import Derived.Test.YtjaideekkbpalaaGreatD
namespace Go.Proofs.YtjaideekkbpalaaGreat.A
open _root_.Bool renaming and_eq_true→Qn,not_false→QB,not_true→QG,eq_iff_iff→QJ,not_eq_true→QO,true_and→QR,true_xor→QS
open _root_.Int renaming tdiv_eq_ediv_of_nonneg→Qs,tmod_eq_emod_of_nonneg→QC,toNat_natCast→QF,le_refl→QK,le_of_eq→QU
open _root_.List renaming replicate_zero→Qa,replicate_succ→Qb,getElem?_eq_getElem→Qc,set_cons_zero→Qd,set_cons_succ→Qe,getElem_mem→Qh,mem_singleton→Qi,mem_of_mem_eraseIdx→Qk,mem_append→Ql,not_mem_nil→Qm,mem_cons→Qo,mem_iff_getElem→Qp,length_eraseIdx→Qq,getElem?_eraseIdx→Qr,length_cons→Qt,length_take→Qu,take_length→Qv,length_eraseIdx_le→Qw,take_add_one→Qy,mem_of_mem_take→Qz,length_nil→QA,eraseIdx_of_length_le→QD,getElem?_append_left→QE,append_nil→QI,any_eq_false→QM,foldl_append→QN,length_map→QQ,map_nil→QT
open _root_.Nat renaming zero_lt_succ→Qf,zero_lt_one→Qg,le_refl→Qj,lt_trichotomy→Qx,le_trans→QH,lt_of_lt_of_le→QL
open _root_.Option renaming bind_some→QP
open Go
set_option linter.unusedSimpArgs false
set_option linter.unusedVariables false
def HandMsg.none_:HandMsg:=⟨0,0,0,0,Shard.none_⟩
def Wat (a:Hand) (s:Store):HandMsg×Bool:=
 bif a.ok&& !(a.phase==3) then (bif a.phase==1 then (bif (Wag s a.lo).2&&((Wag s a.lo).1.epoch==a.epoch) then (⟨1,a.lo,a.to,a.epoch+1,(Wag s a.lo).1⟩,true) else (HandMsg.none_,false)) else (⟨a.phase,a.lo,a.from_,a.epoch,Shard.none_⟩,true)) else (HandMsg.none_,false)
def Wah (s:Store) (m:HandMsg):Store×Bool:=bif m.to==s.group then (bif m.step==0 then Wae s m.lo m.epoch else bif m.step==1 then War s m.shard m.epoch else bif m.step==2 then Wal s m.lo m.epoch else (s,false)) else (s,false)
theorem Shard.none_small:Shard.none_.Small:=by simp[Shard.none_,Shard.Small,Book.Small]
theorem handSend_small {s:Store} (sm:s.Small) (a:Hand):(Wat a s).1.Small:=by
 unfold Wat
 cases (a.ok&& !(a.phase==3))<;>simp only[cond_true,cond_false]
 ·exact Shard.none_small
 cases (a.phase==1)<;>simp only[cond_true,cond_false]
 ·exact Shard.none_small
 cases ((Wag s a.lo).2&&((Wag s a.lo).1.epoch==a.epoch))<;>simp only[cond_true,cond_false]
 ·exact Shard.none_small
 ·exact exportShard_small sm
theorem Wbw {s:Store} (sm:s.Small) {m:HandMsg} (smm:m.Small):(Wah s m).1.Small:=by
 unfold Wah
 cases (m.to==s.group)<;>simp only[cond_true,cond_false]
 ·exact sm
 cases (m.step==0)<;>simp only[cond_true,cond_false]
 ·cases (m.step==1)<;>simp only[cond_true,cond_false]
  ·cases (m.step==2)<;>simp only[cond_true,cond_false]
   ·exact sm
   ·exact retireShard_small sm _ _
  ·exact installShard_small sm smm _
 ·exact freezeShard_small sm _ _
theorem Hand.ok_epoch {a:Hand} (h:a.ok=true):IntKind.i64.wrap (a.epoch+1)=a.epoch+1:=by
 simp only[Hand.ok,Wcc,inR,Qn,decide_eq_true_eq] at h
 exact Wbr _ (by omega) (by omega)
section
variable {F:Nat→Option RF} {Z:Waf} {h:Heap} {cs ds:List Cell} {fp fq:List Nat} {s:Store} {m:HandMsg}
theorem HandMsg.none_R (h:Heap):HandMsg.RI h [.int .i64 0,.int .u64 0,.int .i64 0,.int .i64 0,.int .u64 0,.int .u64 0,.int .i64 0,.int .i64 0,.nil,.nil] HandMsg.none_ []:=⟨.nil,[],.nil,[],rfl,rfl,SlR.nil _ _ _,SlR.nil _ _ _⟩
theorem send_bad {a:Hand} (h:a.ok=false):Wat a s=(HandMsg.none_,false):=by simp[Wat,h]
theorem send_over {a:Hand} (h:a.phase=3):Wat a s=(HandMsg.none_,false):=by simp[Wat,h]
theorem send_other {a:Hand} (h:a.ok=true) (h3: ¬a.phase=3) (h1: ¬a.phase=1):Wat a s=(⟨a.phase,a.lo,a.from_,a.epoch,Shard.none_⟩,true):=by
 have h3':(a.phase==3)=false:=by simpa using h3
 have h1':(a.phase==1)=false:=by simpa using h1
 simp[Wat,h,h1',h3']
theorem send_none {a:Hand} (h1:a.phase=1) (h2:(Wag s a.lo).2=false):Wat a s=(HandMsg.none_,false):=by simp[Wat,h1,h2]
theorem send_old {a:Hand} (h1:a.phase=1) (h2: ¬(Wag s a.lo).1.epoch=a.epoch):Wat a s=(HandMsg.none_,false):=by
 have h2':((Wag s a.lo).1.epoch==a.epoch)=false:=by simpa using h2
 simp[Wat,h1,h2']
theorem send_yes {a:Hand} (h:a.ok=true) (h1:a.phase=1) (h2:(Wag s a.lo).2=true) (h3:(Wag s a.lo).1.epoch=a.epoch):Wat a s=(⟨1,a.lo,a.to,a.epoch+1,(Wag s a.lo).1⟩,true):=by simp[Wat,h,h1,h2,h3]
set_option maxHeartbeats 1000000 in
theorem handSend_c (k:KI F) (hI15:Has F tI15) (hL:Has F Waa) (hf:h.floor≤h.next) (a:Hand) (v:Store.RI h cs s fp) (ok:s.Ok) (sm:s.Small):
 ∃cs' h' fq,call F Z 331 [.agg a.enc,.agg cs] h=some (.tup [.agg cs',.c (.bool (Wat a s).2)],h')∧On h h'∧HandMsg.RI h' cs' (Wat a s).1 fq∧Fre h fq:=by
 obtain ⟨l1,l2,l3⟩:=Store.lenI v
 have e1:=isHand_run (Z:=Z) k.i11 hI15 a.lo a.from_ a.to a.epoch a.phase h
 obtain ⟨cs1,h1,fq,e2,o2,v2,f2⟩:=ExportShard_c (Z:=Z) k hL hf v a.lo ok sm
 have e3:=fun h=>handEpoch_run (Z:=Z) hI15 a.lo a.from_ a.to a.epoch a.phase h
 have hw:=fun (hh:a.ok=true)=>Hand.ok_epoch hh
 rw[Wac F Z (hI15.lk (g:=331) rfl) _ _ rfl]
 simp only[Hand.enc]
 cases ha:a.ok with
 | false=>
   rw[show Wcc a.lo a.from_ a.to a.epoch a.phase=false from ha] at e1
   rw[send_bad ha]
   simp only[rn,RO.dst,lk,drop,Nat.reduceBEq,Nat.reduceAdd,Nat.reduceLeDiff,↓reduceIte,reduceCtorEq,l1,l2,l3,e1]
   exact ⟨_,_,_,rfl,On.refl h,HandMsg.none_R h,Fre.nil h⟩
 | true=>
   rw[show Wcc a.lo a.from_ a.to a.epoch a.phase=true from ha] at e1
   by_cases h3:a.phase=3
   ·rw[send_over h3]
    have h3t:(a.phase==3)=true:=by simpa using h3
    simp only[rn,RO.dst,lk,drop,Nat.reduceBEq,Nat.reduceAdd,Nat.reduceLeDiff,↓reduceIte,reduceCtorEq,l1,l2,l3,e1,h3t]
    exact ⟨_,_,_,rfl,On.refl h,HandMsg.none_R h,Fre.nil h⟩
   have h3':(a.phase==3)=false:=by simpa using h3
   by_cases h1:a.phase=1
   ·have h1':(a.phase==1)=true:=by simpa using h1
    obtain ⟨m1,m2,m3⟩:=Shard.lenI v2
    have e3': ∀h,call F Z 132 [.agg [.int .u64 a.lo,.int .i64 a.from_,.int .i64 a.to,.int .i64 a.epoch,.int .i64 a.phase]] h=some (.c (.int .i64 (a.epoch+1)),h):=fun h=>by rw[e3 h];simp only[handEp];rw[if_pos h1,hw ha]
    cases hx:(Wag s a.lo).2 with
    | false=>
      rw[hx] at e2
      rw[send_none h1 hx]
      simp only[rn,RO.dst,lk,drop,Nat.reduceBEq,Nat.reduceAdd,Nat.reduceLeDiff,↓reduceIte,reduceCtorEq,l1,l2,l3,e1,h3',h1',e3',e2,m1,m2,m3]
      exact ⟨_,_,_,rfl,o2,HandMsg.none_R _,Fre.nil h⟩
    | true=>
      rw[hx] at e2
      have v2':=v2
      obtain ⟨x1,p1,x2,p2,rfl,hq,w1,w2⟩:=v2'
      by_cases h4:(Wag s a.lo).1.epoch=a.epoch
      ·have h4':((Wag s a.lo).1.epoch !=a.epoch)=false:=by simpa using h4
       rw[send_yes ha h1 hx h4]
       simp only[rn,RO.dst,lk,drop,Nat.reduceBEq,Nat.reduceAdd,Nat.reduceLeDiff,↓reduceIte,reduceCtorEq,l1,l2,l3,e1,h3',h1',e3',e2,h4']
       rw[h1]
       exact ⟨_,_,_,rfl,o2,⟨x1,p1,x2,p2,rfl,hq,w1,w2⟩,f2⟩
      ·have h4':((Wag s a.lo).1.epoch !=a.epoch)=true:=by simpa using h4
       rw[send_old h1 h4]
       simp only[rn,RO.dst,lk,drop,Nat.reduceBEq,Nat.reduceAdd,Nat.reduceLeDiff,↓reduceIte,reduceCtorEq,l1,l2,l3,e1,h3',h1',e3',e2,h4']
       exact ⟨_,_,_,rfl,o2,HandMsg.none_R _,Fre.nil h⟩
   ·have h1':(a.phase==1)=false:=by simpa using h1
    have e3': ∀h,call F Z 132 [.agg [.int .u64 a.lo,.int .i64 a.from_,.int .i64 a.to,.int .i64 a.epoch,.int .i64 a.phase]] h=some (.c (.int .i64 a.epoch),h):=fun h=>by rw[e3 h];simp only[handEp];rw[if_neg h1]
    rw[send_other ha h3 h1]
    simp only[rn,RO.dst,lk,drop,Nat.reduceBEq,Nat.reduceAdd,Nat.reduceLeDiff,↓reduceIte,reduceCtorEq,l1,l2,l3,e1,h3',h1',e3']
    exact ⟨_,_,_,rfl,On.refl h,⟨.nil,[],.nil,[],rfl,rfl,SlR.nil _ _ _,SlR.nil _ _ _⟩,Fre.nil h⟩
theorem HandSend_c (k:KI F) (hI15:Has F tI15) (hL:Has F Waa) (hf:h.floor≤h.next) (a:Hand) (v:Store.RI h cs s fp) (ok:s.Ok) (sm:s.Small):
 ∃cs' h' fq,call F Z 304 [.agg a.enc,.agg cs] h=some (.tup [.agg cs',.c (.bool (Wat a s).2)],h')∧On h h'∧HandMsg.RI h' cs' (Wat a s).1 fq∧Fre h fq:=by
 obtain ⟨l1,l2,l3⟩:=Store.lenI v
 obtain ⟨cs1,h1,fq,e,o,u,f⟩:=handSend_c (Z:=Z) k hI15 hL hf a v ok sm
 obtain ⟨m1,m2,m3⟩:=HandMsg.lenI u
 rw[Wac F Z (hI15.lk (g:=304) rfl) _ _ rfl]
 simp only[Hand.enc] at e ⊢
 simp only[rn,RO.dst,lk,drop,Nat.reduceBEq,Nat.reduceAdd,Nat.reduceLeDiff,↓reduceIte,reduceCtorEq,l1,l2,l3,e,m1,m2,m3]
 exact ⟨_,_,_,rfl,o,u,f⟩
set_option maxHeartbeats 1000000 in
theorem sHandSend_c (k:KS F) (hS15:Has F tS15) (hf:h.floor≤h.next) (a:Hand) (v:Store.RI h cs s fp) (ok:s.Ok) (sm:s.Small):
 ∃cs' h' fq,call F Z 303 [.agg a.enc,.agg cs] h=some (.tup [.agg cs',.c (.bool (Wat a s).2)],h')∧On h h'∧HandMsg.RI h' cs' (Wat a s).1 fq∧Fre h fq:=by
 obtain ⟨l1,l2,l3⟩:=Store.lenI v
 have e1:=sHandOk_run (Z:=Z) k.s01 hS15 a.lo a.from_ a.to a.epoch a.phase h
 obtain ⟨cs1,h1,fq,e2,o2,v2,f2⟩:=sExportShard_c (Z:=Z) k hf v a.lo ok sm
 have hw:=fun (hh:a.ok=true)=>Hand.ok_epoch hh
 rw[Wac F Z (hS15.lk (g:=303) rfl) _ _ rfl]
 simp only[Hand.enc]
 cases ha:a.ok with
 | false=>
   rw[show Wcc a.lo a.from_ a.to a.epoch a.phase=false from ha] at e1
   rw[send_bad ha]
   simp only[rn,RO.dst,lk,drop,Nat.reduceBEq,Nat.reduceAdd,Nat.reduceLeDiff,↓reduceIte,reduceCtorEq,l1,l2,l3,e1]
   exact ⟨_,_,_,rfl,On.refl h,HandMsg.none_R h,Fre.nil h⟩
 | true=>
   rw[show Wcc a.lo a.from_ a.to a.epoch a.phase=true from ha] at e1
   by_cases h3:a.phase=3
   ·rw[send_over h3]
    have h3t:(a.phase==3)=true:=by simpa using h3
    simp only[rn,RO.dst,lk,drop,Nat.reduceBEq,Nat.reduceAdd,Nat.reduceLeDiff,↓reduceIte,reduceCtorEq,l1,l2,l3,e1,h3t]
    exact ⟨_,_,_,rfl,On.refl h,HandMsg.none_R h,Fre.nil h⟩
   have h3':(a.phase==3)=false:=by simpa using h3
   by_cases h1:a.phase=1
   ·have h1':(a.phase==1)=true:=by simpa using h1
    obtain ⟨m1,m2,m3⟩:=Shard.lenI v2
    cases hx:(Wag s a.lo).2 with
    | false=>
      rw[hx] at e2
      rw[send_none h1 hx]
      simp only[rn,RO.dst,lk,drop,Nat.reduceBEq,Nat.reduceAdd,Nat.reduceLeDiff,↓reduceIte,reduceCtorEq,l1,l2,l3,e1,h3',h1',e2,m1,m2,m3]
      exact ⟨_,_,_,rfl,o2,HandMsg.none_R _,Fre.nil h⟩
    | true=>
      rw[hx] at e2
      have v2':=v2
      obtain ⟨x1,p1,x2,p2,rfl,hq,w1,w2⟩:=v2'
      by_cases h4:(Wag s a.lo).1.epoch=a.epoch
      ·have h4':((Wag s a.lo).1.epoch !=a.epoch)=false:=by simpa using h4
       rw[send_yes ha h1 hx h4]
       simp only[rn,RO.dst,lk,drop,Nat.reduceBEq,Nat.reduceAdd,Nat.reduceLeDiff,↓reduceIte,reduceCtorEq,l1,l2,l3,e1,h3',h1',e2,h4',hw ha]
       rw[h1]
       exact ⟨_,_,_,rfl,o2,⟨x1,p1,x2,p2,rfl,hq,w1,w2⟩,f2⟩
      ·have h4':((Wag s a.lo).1.epoch !=a.epoch)=true:=by simpa using h4
       rw[send_old h1 h4]
       simp only[rn,RO.dst,lk,drop,Nat.reduceBEq,Nat.reduceAdd,Nat.reduceLeDiff,↓reduceIte,reduceCtorEq,l1,l2,l3,e1,h3',h1',e2,h4']
       exact ⟨_,_,_,rfl,o2,HandMsg.none_R _,Fre.nil h⟩
   ·have h1':(a.phase==1)=false:=by simpa using h1
    rw[send_other ha h3 h1]
    simp only[rn,RO.dst,lk,drop,Nat.reduceBEq,Nat.reduceAdd,Nat.reduceLeDiff,↓reduceIte,reduceCtorEq,l1,l2,l3,e1,h3',h1']
    exact ⟨_,_,_,rfl,On.refl h,⟨.nil,[],.nil,[],rfl,rfl,SlR.nil _ _ _,SlR.nil _ _ _⟩,Fre.nil h⟩
theorem HandMsg.shardI (u:HandMsg.RI h ds m fq): ∃x1 x2,ds=[.int .i64 m.step,.int .u64 m.lo,.int .i64 m.to,.int .i64 m.epoch,.int .u64 m.shard.lo,.int .u64 m.shard.hi,.int .i64 m.shard.state,.int .i64 m.shard.epoch,x1,x2]∧Shard.RI h [.int .u64 m.shard.lo,.int .u64 m.shard.hi,.int .i64 m.shard.state,.int .i64 m.shard.epoch,x1,x2] m.shard fq:=by
 obtain ⟨x1,p1,x2,p2,rfl,hq,w1,w2⟩:=u
 exact ⟨x1,x2,rfl,⟨x1,p1,x2,p2,rfl,hq,w1,w2⟩⟩
set_option maxHeartbeats 1000000 in
theorem handTake_c (k:KI F) (hI15:Has F tI15) (hL:Has F Waa) (prd:WbF F Z 330 (delF 16)) (pri:WbF F Z 332 (insF 16 80)) (hf:h.floor≤h.next) (v:Store.RI h cs s fp) (u:HandMsg.RI h ds m fq) (ok:s.Ok) (sm:s.Small) (okm:m.Ok) (smm:m.Small):
 ∃cs' h' fq,call F Z 334 [.agg cs,.agg ds] h=some (.tup [.agg cs',.c (.bool (Wah s m).2)],h')∧On h h'∧Store.RI h' cs' (Wah s m).1 fq∧Fre h fq:=by
 obtain ⟨x1,x2,rfl,ux⟩:=HandMsg.shardI u
 obtain ⟨cs0,h0,f0,e0,o0,v0,r0⟩:=copyStore_c (Z:=Z) k hf v sm
 obtain ⟨cs1,h1,f1,e1,o1,v1,r1⟩:=FreezeShard_c (Z:=Z) k hL hf v m.lo m.epoch ok sm
 obtain ⟨cs2,h2,f2,e2,o2,v2,r2⟩:=InstallShard_c (Z:=Z) k pri hf v ux m.epoch ok sm okm.shard smm
 obtain ⟨cs3,h3,f3,e3,o3,v3,r3⟩:=RetireShard_c (Z:=Z) k hL prd hf v m.lo m.epoch ok sm
 obtain ⟨a01,a02,a03⟩:=Store.lenI v0
 obtain ⟨a11,a12,a13⟩:=Store.lenI v1
 obtain ⟨a21,a22,a23⟩:=Store.lenI v2
 obtain ⟨a31,a32,a33⟩:=Store.lenI v3
 rw[Wac F Z (hI15.lk (g:=334) rfl) _ _ rfl]
 obtain ⟨y,p,rfl,_⟩:=v
 by_cases c0:m.to=s.group
 ·have c0':(m.to !=s.group)=false:=by simpa using c0
  by_cases c1:m.step=0
  ·have c1':(m.step==0)=true:=by simpa using c1
   have hd:Wah s m=Wae s m.lo m.epoch:=by simp[Wah,c0,c1]
   rw[hd]
   simp only[rn,RO.dst,lk,drop,Nat.reduceBEq,Nat.reduceAdd,Nat.reduceLeDiff,↓reduceIte,reduceCtorEq,c0',c1',e1,a11,a12,a13]
   exact ⟨_,_,_,rfl,o1,v1,r1⟩
  have c1':(m.step==0)=false:=by simpa using c1
  by_cases c2:m.step=1
  ·have c2':(m.step==1)=true:=by simpa using c2
   have hd:Wah s m=War s m.shard m.epoch:=by simp[Wah,c0,c2]
   rw[hd]
   simp only[rn,RO.dst,lk,drop,Nat.reduceBEq,Nat.reduceAdd,Nat.reduceLeDiff,↓reduceIte,reduceCtorEq,c0',c1',c2',e2,a21,a22,a23]
   exact ⟨_,_,_,rfl,o2,v2,r2⟩
  have c2':(m.step==1)=false:=by simpa using c2
  by_cases c3:m.step=2
  ·have c3':(m.step==2)=true:=by simpa using c3
   have hd:Wah s m=Wal s m.lo m.epoch:=by simp[Wah,c0,c3]
   rw[hd]
   simp only[rn,RO.dst,lk,drop,Nat.reduceBEq,Nat.reduceAdd,Nat.reduceLeDiff,↓reduceIte,reduceCtorEq,c0',c1',c2',c3',e3,a31,a32,a33]
   exact ⟨_,_,_,rfl,o3,v3,r3⟩
  have c3':(m.step==2)=false:=by simpa using c3
  have hd:Wah s m=(s,false):=by simp[Wah,c0,c1',c2',c3']
  rw[hd]
  simp only[rn,RO.dst,lk,drop,Nat.reduceBEq,Nat.reduceAdd,Nat.reduceLeDiff,↓reduceIte,reduceCtorEq,c0',c1',c2',c3',e0,a01,a02,a03]
  exact ⟨_,_,_,rfl,o0,v0,r0⟩
 ·have c0':(m.to !=s.group)=true:=by simpa using c0
  have hd:Wah s m=(s,false):=by
   have:(m.to==s.group)=false:=by simpa using c0
   simp[Wah,this]
  rw[hd]
  simp only[rn,RO.dst,lk,drop,Nat.reduceBEq,Nat.reduceAdd,Nat.reduceLeDiff,↓reduceIte,reduceCtorEq,c0',e0,a01,a02,a03]
  exact ⟨_,_,_,rfl,o0,v0,r0⟩
theorem HandTake_c (k:KI F) (hI15:Has F tI15) (hL:Has F Waa) (prd:WbF F Z 330 (delF 16)) (pri:WbF F Z 332 (insF 16 80)) (hf:h.floor≤h.next) (v:Store.RI h cs s fp) (u:HandMsg.RI h ds m fq) (ok:s.Ok) (sm:s.Small) (okm:m.Ok) (smm:m.Small):
 ∃cs' h' fq,call F Z 315 [.agg cs,.agg ds] h=some (.tup [.agg cs',.c (.bool (Wah s m).2)],h')∧On h h'∧Store.RI h' cs' (Wah s m).1 fq∧Fre h fq:=by
 obtain ⟨l1,l2,l3⟩:=Store.lenI v
 obtain ⟨d1,d2,d3⟩:=HandMsg.lenI u
 obtain ⟨cs1,h1,fr,e,o,w,f⟩:=handTake_c (Z:=Z) k hI15 hL prd pri hf v u ok sm okm smm
 obtain ⟨m1,m2,m3⟩:=Store.lenI w
 rw[Wac F Z (hI15.lk (g:=315) rfl) _ _ rfl]
 simp only[rn,RO.dst,lk,drop,Nat.reduceBEq,Nat.reduceAdd,Nat.reduceLeDiff,↓reduceIte,reduceCtorEq,l1,l2,l3,d1,d2,d3,e,m1,m2,m3]
 exact ⟨_,_,_,rfl,o,w,f⟩
set_option maxHeartbeats 1000000 in
theorem sHandTake_c (k:KS F) (hS15:Has F tS15) (hf:h.floor≤h.next) (v:Store.RI h cs s fp) (u:HandMsg.RI h ds m fq) (ok:s.Ok) (sm:s.Small) (okm:m.Ok) (smm:m.Small):
 ∃cs' h' fq,call F Z 314 [.agg cs,.agg ds] h=some (.tup [.agg cs',.c (.bool (Wah s m).2)],h')∧On h h'∧Store.RI h' cs' (Wah s m).1 fq∧Fre h fq:=by
 obtain ⟨x1,x2,rfl,ux⟩:=HandMsg.shardI u
 have cp: ∀{cs1:List Cell} {h1:Heap} {t:Store} {f1:List Nat},On h h1→Store.RI h1 cs1 t f1→t.Small→ ∃cs2 h2 f2,call F Z 317 [.agg cs1] h1=some (.agg cs2,h2)∧On h h2∧Store.RI h2 cs2 t f2∧Fre h f2∧cs2.length=3∧cs2.take 3=cs2∧cs2.drop 3=[]:=fun {cs1 h1 t f1} o v sm=>by
  obtain ⟨cs2,h2,f2,e,o2,v2,r2⟩:=WaZ (Z:=Z) k (o.le hf) v sm
  obtain ⟨a1,a2,a3⟩:=Store.lenI v2
  exact ⟨cs2,h2,f2,e,o.trans o2,v2,⟨fun id hid=>QH o.ext.1 (r2.lo id hid),r2.nd⟩,a1,a2,a3⟩
 obtain ⟨cs1,h1,f1,e1,o1,v1,r1⟩:=sFreezeShard_c (Z:=Z) k hf v m.lo m.epoch ok sm
 obtain ⟨cs2,h2,f2,e2,o2,v2,r2⟩:=sInstallShard_c (Z:=Z) k hf v ux m.epoch ok sm okm.shard smm
 obtain ⟨cs3,h3,f3,e3,o3,v3,r3⟩:=sRetireShard_c (Z:=Z) k hf v m.lo m.epoch ok sm
 obtain ⟨b11,b12,b13⟩:=Store.lenI v1
 obtain ⟨b21,b22,b23⟩:=Store.lenI v2
 obtain ⟨b31,b32,b33⟩:=Store.lenI v3
 obtain ⟨ds0,g0,q0,c0,p0,u0,s0,a01,a02,a03⟩:=cp (On.refl h) v sm
 obtain ⟨ds1,g1,q1,c1,p1,u1,s1,a11,a12,a13⟩:=cp o1 v1 (freezeShard_small sm _ _)
 obtain ⟨ds2,g2,q2,c2,p2,u2,s2,a21,a22,a23⟩:=cp o2 v2 (installShard_small sm smm _)
 obtain ⟨ds3,g3,q3,c3,p3,u3,s3,a31,a32,a33⟩:=cp o3 v3 (retireShard_small sm _ _)
 clear cp
 rw[Wac F Z (hS15.lk (g:=314) rfl) _ _ rfl]
 obtain ⟨y,p,rfl,_⟩:=v
 by_cases d0:m.to=s.group
 ·have d0':(s.group !=m.to)=false:=by simpa using d0.symm
  by_cases d1:m.step=0
  ·have d1':(m.step==0)=true:=by simpa using d1
   have hd:Wah s m=Wae s m.lo m.epoch:=by simp[Wah,d0,d1]
   rw[hd]
   simp only[rn,RO.dst,lk,drop,Nat.reduceBEq,Nat.reduceAdd,Nat.reduceLeDiff,↓reduceIte,reduceCtorEq,d0',d1',e1,b11,b12,b13,c1,a11,a12,a13]
   exact ⟨_,_,_,rfl,p1,u1,s1⟩
  have d1':(m.step==0)=false:=by simpa using d1
  by_cases d2:m.step=1
  ·have d2':(m.step==1)=true:=by simpa using d2
   have hd:Wah s m=War s m.shard m.epoch:=by simp[Wah,d0,d2]
   rw[hd]
   simp only[rn,RO.dst,lk,drop,Nat.reduceBEq,Nat.reduceAdd,Nat.reduceLeDiff,↓reduceIte,reduceCtorEq,d0',d1',d2',e2,b21,b22,b23,c2,a21,a22,a23]
   exact ⟨_,_,_,rfl,p2,u2,s2⟩
  have d2':(m.step==1)=false:=by simpa using d2
  by_cases d3:m.step=2
  ·have d3':(m.step==2)=true:=by simpa using d3
   have hd:Wah s m=Wal s m.lo m.epoch:=by simp[Wah,d0,d3]
   rw[hd]
   simp only[rn,RO.dst,lk,drop,Nat.reduceBEq,Nat.reduceAdd,Nat.reduceLeDiff,↓reduceIte,reduceCtorEq,d0',d1',d2',d3',e3,b31,b32,b33,c3,a31,a32,a33]
   exact ⟨_,_,_,rfl,p3,u3,s3⟩
  have d3':(m.step==2)=false:=by simpa using d3
  have hd:Wah s m=(s,false):=by simp[Wah,d0,d1',d2',d3']
  rw[hd]
  simp only[rn,RO.dst,lk,drop,Nat.reduceBEq,Nat.reduceAdd,Nat.reduceLeDiff,↓reduceIte,reduceCtorEq,d0',d1',d2',d3',c0,a01,a02,a03]
  exact ⟨_,_,_,rfl,p0,u0,s0⟩
 ·have d0':(s.group !=m.to)=true:=by simpa using fun e=>d0 e.symm
  have hd:Wah s m=(s,false):=by
   have:(m.to==s.group)=false:=by simpa using d0
   simp[Wah,this]
  rw[hd]
  simp only[rn,RO.dst,lk,drop,Nat.reduceBEq,Nat.reduceAdd,Nat.reduceLeDiff,↓reduceIte,reduceCtorEq,d0',c0,a01,a02,a03]
  exact ⟨_,_,_,rfl,p0,u0,s0⟩
end
theorem Shard.none_ok:Shard.none_.Ok:=by constructor<;>simp[Shard.none_];exact ⟨fun _ h=>(nomatch h)⟩
theorem Store.at_ok' {s:Store} (ok:s.Ok) (i:Nat):(Shard.at_ s.shards i).Ok:=by
 by_cases hi:i<s.shards.length
 ·exact Store.at_ok ok hi
 ·rw[Shard.at_,List.getElem?_eq_none (by omega)];exact Shard.none_ok
theorem Store.renewed_ok {s:Store} (ok:s.Ok) {e:Int} (he: -9223372036854775808≤e∧e≤9223372036854775807):(s.renew e).Ok:=by
 refine ⟨ok.group,he,fun a ha=> ?_⟩
 obtain ⟨t,ht,rfl⟩:=List.mem_map.1 (show a∈s.shards.map (Shard.renew e) from ha)
 have h:=ok.shards t ht
 unfold Shard.renew
 cases (t.state==0)
 ·exact h
 ·exact ⟨h.lo,h.hi,h.state,he,h.book,h.finished⟩
theorem freezeShard_ok {s:Store} (ok:s.Ok) (lo:Int) {e:Int} (he: -9223372036854775808≤e∧e≤9223372036854775807):(Wae s lo e).1.Ok:=by
 unfold Wae
 cases (s.next e&&decide (0≤Waj s.shards lo 0)) with
 | false=>exact ok
 | true=>
   refine Store.renewed_ok (s:=s.frozen (Waj s.shards lo 0).toNat e) ⟨ok.group,ok.seen,fun a ha=> ?_⟩ he
   rcases List.mem_or_eq_of_mem_set (show a∈s.shards.set _ _ from ha) with h | h
   ·exact ok.shards a h
   ·subst h
    have h:=Store.at_ok' ok (Waj s.shards lo 0).toNat
    exact ⟨h.lo,h.hi,by simp,he,h.book,h.finished⟩
theorem installShard_ok {s:Store} (ok:s.Ok) {x:Shard} (okx:x.Ok) {e:Int} (he: -9223372036854775808≤e∧e≤9223372036854775807):(War s x e).1.Ok:=by
 unfold War
 cases (Wax s x e&& !(s.shards.any x.over)) with
 | false=>exact ok
 | true=>
   refine Store.renewed_ok (s:=s.plus x) ⟨ok.group,ok.seen,fun a ha=> ?_⟩ he
   simp only[Store.plus,Ql,Qi] at ha
   rcases ha with (ha | ha) | ha
   ·exact ok.shards a (Qz ha)
   ·subst ha;exact ⟨okx.lo,okx.hi,by simp[Shard.awake],okx.epoch,okx.book,okx.finished⟩
   ·exact ok.shards a (List.mem_of_mem_drop ha)
theorem retireShard_ok {s:Store} (ok:s.Ok) (lo e:Int):(Wal s lo e).1.Ok:=by
 unfold Wal
 cases (s.good&&(decide (0≤Waj s.shards lo 1)&&decide ((Shard.at_ s.shards (Waj s.shards lo 1).toNat).epoch=e))) with
 | false=>exact ok
 | true=>exact ⟨ok.group,ok.seen,fun a ha=>ok.shards a (Qk (show a∈s.shards.eraseIdx _ from ha))⟩
theorem exportShard_ok {s:Store} (ok:s.Ok) (lo:Int):(Wag s lo).1.Ok:=by
 unfold Wag
 cases (s.good&&decide (0≤Waj s.shards lo 1)) with
 | false=>exact Shard.none_ok
 | true=>exact Store.at_ok' ok _
theorem HandMsg.none_ok:HandMsg.none_.Ok:=by
 refine ⟨by simp[HandMsg.none_],by simp[HandMsg.none_],by simp[HandMsg.none_],by simp[HandMsg.none_],Shard.none_ok⟩
theorem HandMsg.none_small:HandMsg.none_.Small:=Shard.none_small
theorem Hand.ok_in {a:Hand} (h:a.ok=true):(1≤a.epoch∧a.epoch≤999999)∧(0≤a.phase∧a.phase≤3):=by
 simp only[Hand.ok,Wcc,inR,Qn,decide_eq_true_eq] at h
 omega
theorem handSend_ok {a:Hand} (oka:a.Ok) {s:Store} (ok:s.Ok):(Wat a s).1.Ok:=by
 unfold Wat
 cases h0:(a.ok&& !(a.phase==3))<;>simp only[cond_true,cond_false]
 ·exact HandMsg.none_ok
 simp only[Qn] at h0
 obtain ⟨h1,h2⟩:=Hand.ok_in h0.1
 cases (a.phase==1)<;>simp only[cond_true,cond_false]
 ·exact ⟨oka.phase,oka.lo,oka.from_,oka.epoch,Shard.none_ok⟩
 cases ((Wag s a.lo).2&&((Wag s a.lo).1.epoch==a.epoch))<;>simp only[cond_true,cond_false]
 ·exact HandMsg.none_ok
 ·exact ⟨by simp,oka.lo,oka.to,by show -9223372036854775808≤a.epoch+1∧a.epoch+1≤9223372036854775807;omega,exportShard_ok ok _⟩
theorem WbX {s:Store} (ok:s.Ok) {m:HandMsg} (okm:m.Ok):(Wah s m).1.Ok:=by
 unfold Wah
 cases (m.to==s.group)<;>simp only[cond_true,cond_false]
 ·exact ok
 cases (m.step==0)<;>simp only[cond_true,cond_false]
 ·cases (m.step==1)<;>simp only[cond_true,cond_false]
  ·cases (m.step==2)<;>simp only[cond_true,cond_false]
   ·exact ok
   ·exact retireShard_ok ok _ _
  ·exact installShard_ok ok okm.shard okm.epoch
 ·exact freezeShard_ok ok _ okm.epoch
theorem Hand.done_ok {a:Hand} (oka:a.Ok) (st lo ep:Int):(a.done st lo ep).1.Ok:=by
 unfold Hand.done
 split
 ·rename_i h
  have h2:=(Hand.ok_in h.1).2
  exact ⟨oka.lo,oka.from_,oka.to,oka.epoch,by show -9223372036854775808≤a.phase+1∧a.phase+1≤9223372036854775807;omega⟩
 ·exact oka
structure Play where
 hd:Hand
 a:Store
 b:Store
 net:List HandMsg
def HandMsg.at_ (xs:List HandMsg) (i:Nat):HandMsg:=xs[i]?.getD HandMsg.none_
theorem HandMsg.at_get {xs:List HandMsg} {i:Nat} (hi:i<xs.length):HandMsg.at_ xs i=xs[i]:=by simp[HandMsg.at_,Qc hi]
def Play.puts (p:Play) (m:HandMsg):Play:=bif decide (p.net.length<40) then {p with net:=p.net++[m]} else p
def Play.sends (p:Play):Play:=bif (Wat p.hd p.a).2 then p.puts (Wat p.hd p.a).1 else p
def Play.loses (p:Play) (k:Nat):Play:={p with net:=p.net.eraseIdx k}
def Play.goes (p:Play) (x:Bool) (m:HandMsg):Play:=bif x then {p with hd:=(p.hd.done m.step m.lo m.epoch).1} else p
def Play.takes (p:Play) (m:HandMsg):Play:=
 bif m.to==p.hd.from_ then ({p with a:=(Wah p.a m).1}:Play).goes (Wah p.a m).2 m else ({p with b:=(Wah p.b m).1}:Play).goes (Wah p.b m).2 m
def WaN (o:Int):Nat:=((o-1).tdiv 3).toNat
def Play.step (p:Play) (o:Int):Play:=
 if o=0 then p.sends
 else if o<0∨p.net.length≤WaN o then p
 else if o.tmod 3=0 then p.puts (HandMsg.at_ p.net (WaN o))
 else if o.tmod 3=2 then p.loses (WaN o)
 else (p.loses (WaN o)).takes (HandMsg.at_ p.net (WaN o))
def WaM (h:Hand) (s t:Store) (ops:List Int):Hand×Store×Store:=
 bif h.ok&&(s.good&&(t.good&&(s.group==h.from_&&(t.group==h.to&&decide (ops.length≤200))))) then
  ((ops.foldl Play.step ⟨h,s,t,[]⟩).hd,(ops.foldl Play.step ⟨h,s,t,[]⟩).a,(ops.foldl Play.step ⟨h,s,t,[]⟩).b)
 else (h,s,t)
structure Play.Ok (p:Play):Prop where
 hd:p.hd.Ok
 a:p.a.Ok∧p.a.Small
 b:p.b.Ok∧p.b.Small
 net:p.net.length≤40∧ ∀m,m∈p.net→m.Ok∧m.Small
theorem Play.Ok.puts {p:Play} (w:p.Ok) {m:HandMsg} (hm:m.Ok∧m.Small):(p.puts m).Ok:=by
 unfold Play.puts
 by_cases hl:p.net.length<40
 ·simp only[hl,decide_true,cond_true]
  refine ⟨w.hd,w.a,w.b,by simp;omega,fun x hx=> ?_⟩
  rcases Ql.1 hx with hx | hx
  ·exact w.net.2 x hx
  ·simp at hx;subst hx;exact hm
 ·simp only[hl,decide_false,cond_false];exact w
theorem Play.Ok.loses {p:Play} (w:p.Ok) (k:Nat):(p.loses k).Ok:=
 ⟨w.hd,w.a,w.b,QH (Qw _ _) w.net.1,fun m hm=>w.net.2 m (Qk hm)⟩
theorem Play.Ok.goes {p:Play} (w:p.Ok) (x:Bool) (m:HandMsg):(p.goes x m).Ok:=by
 unfold Play.goes
 cases x
 ·exact w
 ·exact ⟨Hand.done_ok w.hd _ _ _,w.a,w.b,w.net⟩
theorem Play.Ok.takes {p:Play} (w:p.Ok) {m:HandMsg} (hm:m.Ok∧m.Small):(p.takes m).Ok:=by
 have wa:({p with a:=(Wah p.a m).1}:Play).Ok:=⟨w.hd,⟨WbX w.a.1 hm.1,Wbw w.a.2 hm.2⟩,w.b,w.net⟩
 have wb:({p with b:=(Wah p.b m).1}:Play).Ok:=⟨w.hd,w.a,⟨WbX w.b.1 hm.1,Wbw w.b.2 hm.2⟩,w.net⟩
 unfold Play.takes
 cases (m.to==p.hd.from_) with
 | true=>exact wa.goes _ _
 | false=>exact wb.goes _ _
theorem Play.Ok.at_ {p:Play} (w:p.Ok) {k:Nat} (hk:k<p.net.length):(HandMsg.at_ p.net k).Ok∧(HandMsg.at_ p.net k).Small:=by
 rw[HandMsg.at_get hk];exact w.net.2 _ (Qh hk)
theorem Play.Ok.step {p:Play} (w:p.Ok) (o:Int):(p.step o).Ok:=by
 unfold Play.step
 split
 ·unfold Play.sends
  cases (Wat p.hd p.a).2
  ·exact w
  ·exact w.puts ⟨handSend_ok w.hd w.a.1,handSend_small w.a.2 _⟩
 split
 ·exact w
 rename_i hk
 have hk:WaN o<p.net.length:=by omega
 split
 ·exact w.puts (w.at_ hk)
 split
 ·exact w.loses _
 ·exact (w.loses _).takes (w.at_ hk)
theorem findI_is {α:Type} {p:α→Bool} {xs:List α} {i:Nat} (hi:i<xs.length) (hp:p xs[i]=true) (h: ∀j,(hj:j<xs.length)→p xs[j]=true→j=i):Wbt p xs=(i:Nat):=by
 have:xs.findIdx? p=some i:=by
  rw[List.findIdx?_eq_some_iff_getElem]
  refine ⟨hi,hp,fun j hj hc=> ?_⟩
  have:=h j (by omega) hc
  omega
 unfold Wbt
 rw[this]
theorem Store.Good.lt {s:Store} (g:s.Good) {i j:Nat} (hj:j<s.shards.length) (hij:i<j):s.shards[i].hi<s.shards[j].lo:=List.pairwise_iff_getElem.1 g.ord i j (by omega) hj hij
theorem Store.Good.lh {s:Store} (g:s.Good) {i:Nat} (hi:i<s.shards.length):s.shards[i].lo≤s.shards[i].hi:=(g.sh _ (Qh hi)).1.lh
theorem Store.Good.one_of {s:Store} (g:s.Good) {i j:Nat} (hi:i<s.shards.length) (hj:j<s.shards.length) {a:Int} (h1:s.shards[i].lo≤a∧a≤s.shards[i].hi) (h2:s.shards[j].lo≤a∧a≤s.shards[j].hi):i=j:=by
 rcases Qx i j with h | h | h
 ·have:=g.lt hj h;omega
 ·exact h
 ·have:=g.lt hi h;omega
theorem Store.Good.findAt_is {s:Store} (g:s.Good) {k:Nat} (hk:k<s.shards.length) {lo st:Int} (hl:s.shards[k].lo=lo) (h:s.shards[k].state=st):Waj s.shards lo st=(k:Nat):=by
 refine findI_is hk (by simp[hl,h]) fun j hj hp=> ?_
 simp only[Qn,beq_iff_eq] at hp
 have h1:=g.lh hk
 have h2:=g.lh hj
 exact g.one_of (a:=lo) hj hk (by omega) (by omega)
theorem Store.Good.findAt_not {s:Store} (g:s.Good) {k:Nat} (hk:k<s.shards.length) {lo st:Int} (hl:s.shards[k].lo=lo) (h:s.shards[k].state≠st):Waj s.shards lo st= -1:=by
 refine findI_none fun a ha=> ?_
 obtain ⟨j,hj,rfl⟩:=Qp.1 ha
 by_cases hc:s.shards[j].lo=lo
 ·have h1:=g.lh hk
  have h2:=g.lh hj
  have:=g.one_of (a:=lo) hj hk (by omega) (by omega)
  subst this
  simp[h]
 ·simp[hc]
theorem Store.Good.findId_is {s:Store} (g:s.Good) {k:Nat} (hk:k<s.shards.length) {a:Int} (h:s.shards[k].lo≤a∧a≤s.shards[k].hi):Waz s.shards a=(k:Nat):=by
 refine findI_is hk (by simp[h]) fun j hj hp=> ?_
 simp only[Qn,decide_eq_true_eq] at hp
 exact g.one_of hj hk hp h
theorem retireShard_good {s:Store} (g:s.Good) (lo e:Int):(Wal s lo e).1.Good:=by
 unfold Wal
 cases (s.good&&(decide (0≤Waj s.shards lo 1)&&decide ((Shard.at_ s.shards (Waj s.shards lo 1).toNat).epoch=e)))
 ·exact g
 ·exact ⟨g.gr,g.sn,QH (Qw _ _) g.len,fun x hx=>g.sh x (Qk hx),g.ord.sublist (List.eraseIdx_sublist ..)⟩
theorem Shard.Good.awake {x:Shard} (g:x.Good):x.awake.Good:=⟨g.lh,.inl rfl,g.ep,g.srt,g.fine,g.bl,g.fl,g.acc,g.fs,g.fin⟩
theorem SGood.retire {s:Store} (w:SGood s) (lo e:Int):SGood (Wal s lo e).1:=⟨retireShard_good w.good lo e,retireShard_ok w.ok lo e⟩
def Store.void (gr sn:Int):Store:=⟨gr,sn,[]⟩
theorem Store.void_good {gr sn:Int} (h:0≤gr∧gr≤99) (h2:0≤sn∧sn≤1000000):SGood (Store.void gr sn):=
 ⟨⟨h,h2,by simp[Store.void],fun x hx=>by simp[Store.void] at hx,by simp[Store.void]⟩,⟨by show _≤gr∧gr≤_;omega,by show _≤sn∧sn≤_;omega,fun x hx=>by simp[Store.void] at hx⟩⟩
theorem freeze_not {s:Store} (g:s.Good) {k:Nat} (hk:k<s.shards.length) (h:s.shards[k].state≠0) (e:Int):Wae s s.shards[k].lo e=(s,false):=by
 unfold Wae
 rw[g.findAt_not hk rfl h]
 simp
def Shard.cold (x:Shard) (e:Int):Shard:={x with state:=1,epoch:=e}
structure Froze (s f:Store) (k:Nat) (hk:k<s.shards.length) (e:Int):Prop where
 ok:Wae s s.shards[k].lo e=(f,true)
 good:f.Good
 seen:f.seen=e
 len:f.shards.length=s.shards.length
 hk:k<f.shards.length
 at_:f.shards[k]=s.shards[k].cold e
theorem freeze_is {s:Store} (g:s.Good) {k:Nat} (hk:k<s.shards.length) (h:s.shards[k].state=0) {e:Int} (he:s.seen<e∧e≤1000000):Froze s (Wae s s.shards[k].lo e).1 k hk e:=by
 have hn:s.next e=true:=(Store.next_iff s e).2 ⟨g,he⟩
 have hc:Wae s s.shards[k].lo e=((s.frozen k e).renew e,true):=by
  unfold Wae
  rw[g.findAt_is hk rfl h,hn]
  simp
 have hg:=freezeShard_good (lo:=s.shards[k].lo) (e:=e) g
 rw[hc] at hg ⊢
 have hl:((s.frozen k e).renew e).shards.length=s.shards.length:=by simp[Store.renew,Store.frozen]
 refine ⟨hc,hg,rfl,hl,by simp only;omega,?_⟩
 simp only[Store.renew,Store.frozen,List.getElem_map,List.getElem_set_self,Shard.at_get hk]
 rfl
theorem Froze.exports {s f:Store} {k:Nat} {hk:k<s.shards.length} {e:Int} (w:Froze s f k hk e):Wag f s.shards[k].lo=(s.shards[k].cold e,true):=by
 unfold Wag
 rw[w.good.findAt_is w.hk (lo:=s.shards[k].lo) (st:=1) (by rw[w.at_];rfl) (by rw[w.at_];rfl),(Store.good_iff _).2 w.good]
 simp only[QF,Shard.at_get w.hk,w.at_]
 simp
theorem Froze.retire {s f:Store} {k:Nat} {hk:k<s.shards.length} {e:Int} (w:Froze s f k hk e):Wal f s.shards[k].lo e=(f.without k,true):=by
 unfold Wal
 rw[w.good.findAt_is w.hk (lo:=s.shards[k].lo) (st:=1) (by rw[w.at_];rfl) (by rw[w.at_];rfl),(Store.good_iff _).2 w.good]
 simp only[QF,Shard.at_get w.hk,w.at_]
 simp[Shard.cold]
theorem erase_at {α:Type}: ∀(xs:List α) (k:Nat) (hk:k<xs.length) {x:α},x∈xs.eraseIdx k→ ∃j,∃hj:j<xs.length,j≠k∧xs[j]=x
 | a::r,0,_,x,h=>by
   obtain ⟨j,hj,rfl⟩:=Qp.1 (show x∈r from h)
   exact ⟨j+1,by simp;omega,by omega,rfl⟩
 | a::r,k+1,hk,x,h=>by
   rcases Qo.1 (show x∈a::r.eraseIdx k from h) with rfl | h
   ·exact ⟨0,by simp,by omega,rfl⟩
   ·obtain ⟨j,hj,hn,he⟩:=erase_at r k (by simp at hk;omega) h
    exact ⟨j+1,by simp;omega,by omega,he⟩
theorem Store.Good.gone {s:Store} (g:s.Good) {k:Nat} (hk:k<s.shards.length) (st:Int):Waj (s.without k).shards s.shards[k].lo st= -1:=by
 refine findI_none fun t ht=> ?_
 obtain ⟨j,hj,hn,rfl⟩:=erase_at s.shards k hk ht
 have:s.shards[j].lo≠s.shards[k].lo:=fun hc=>by
  have h1:=g.lh hj
  have h2:=g.lh hk
  exact hn (g.one_of (a:=s.shards[k].lo) hj hk (by omega) (by omega))
 simp[this]
theorem retire_gone {s:Store} {lo e:Int} (h:Waj s.shards lo 1= -1):Wal s lo e=(s,false):=by
 unfold Wal
 rw[h]
 simp
theorem Froze.twice {s f:Store} {k:Nat} {hk:k<s.shards.length} {e:Int} (w:Froze s f k hk e) (e':Int):Wal (f.without k) s.shards[k].lo e'=(f.without k,false):=by
 have hkf:=w.hk
 have h:=w.good.gone w.hk 1
 have hl:f.shards[k].lo=s.shards[k].lo:=by rw[w.at_];rfl
 rw[hl] at h
 exact retire_gone h
theorem Froze.left {s f:Store} {k:Nat} {hk:k<s.shards.length} {e:Int} (w:Froze s f k hk e):(f.without k).shards.length=s.shards.length-1∧(f.without k).Good:=by
 refine ⟨?_,?_⟩
 ·simp only[Store.without,Qq,w.hk,if_true]
  have:=w.len
  omega
 ·have:=retireShard_good w.good s.shards[k].lo e
  rw[w.retire] at this
  exact this
theorem Froze.cold {s f:Store} {k:Nat} {hk:k<s.shards.length} {e:Int} (w:Froze s f k hk e) {q:Request} (hq:q.epoch=e) (hid:s.shards[k].lo≤q.id∧q.id≤s.shards[k].hi) (ho:0≤q.op∧q.op<8):(Wbl f q).2.1=10:=by
 unfold Wbl
 have hkf:=w.hk
 have hf:=w.good.findId_is w.hk (a:=q.id) (by rw[w.at_];exact hid)
 have hop:inR q.op 0 8=true:=by simp[inR];omega
 have h8:(q.op==8)=false:=by simp;omega
 have hr:refuse f.shards[k] q=10:=by
  rw[w.at_]
  unfold refuse Shard.cold
  simp[hq,h8]
 rw[(Store.good_iff _).2 w.good,hop,hf]
 simp[Shard.at_get w.hk,hr]
theorem Shard.cold_good {x:Shard} (g:x.Good) {e:Int} (he:1≤e∧e≤1000000):(x.cold e).Good:=⟨g.lh,.inr rfl,he,g.srt,g.fine,g.bl,g.fl,g.acc,g.fs,g.fin⟩
theorem install_void {gr sn:Int} (hg:0≤gr∧gr≤99) {x:Shard} (gx:x.Good) {e:Int} (hs:0≤sn∧sn≤e) (he:1≤e∧e<1000000):War (Store.void gr sn) (x.cold e) (e+1)=(⟨gr,e+1,[{x with state:=0,epoch:=e+1}]⟩,true):=by
 have hn:(Store.void gr sn).next (e+1)=true:=(Store.next_iff _ _).2 ⟨(Store.void_good hg (by omega)).good,by show sn<e+1;omega,by omega⟩
 have hx:=(Shard.good_iff _).2 (Shard.cold_good gx (e:=e) (by omega))
 have hlt:e<e+1:=by omega
 unfold War Wax
 rw[hn,hx]
 simp[Store.void,Shard.cold,hlt,Store.plus,Store.spot,Store.renew,Shard.renew,Shard.awake]
theorem install_again {s:Store} {x:Shard} {e:Int} (h:e≤s.seen):War s x e=(s,false):=by
 have hn:s.next e=false:=by
  cases hc:s.next e with
  | false=>rfl
  | true=>have:=(Store.next_iff s e).1 hc;omega
 unfold War Wax
 rw[hn]
 simp
def Hand.at_ (h:Hand) (p:Int):Hand:={h with phase:=p}
structure Rail (h:Hand) (a0 a1 a3 b0 b2:Store) (m0 m1 m2:HandMsg):Prop where
 s0:Wat (h.at_ 0) a0=(m0,true)
 s1:Wat (h.at_ 1) a1=(m1,true)
 s2:Wat (h.at_ 2) a1=(m2,true)
 s3: ∀a,(Wat (h.at_ 3) a).2=false
 t0:Wah a0 m0=(a1,true)
 t01:Wah a1 m0=(a1,false)
 t03:Wah a3 m0=(a3,false)
 t1:Wah b0 m1=(b2,true)
 t12:Wah b2 m1=(b2,false)
 t2:Wah a1 m2=(a3,true)
 t23:Wah a3 m2=(a3,false)
 to0:(m0.to==h.from_)=true
 to1:(m1.to==h.from_)=false
 to2:(m2.to==h.from_)=true
 d0:(h.at_ 0).done m0.step m0.lo m0.epoch=(h.at_ 1,true)
 d1:(h.at_ 1).done m1.step m1.lo m1.epoch=(h.at_ 2,true)
 d2:(h.at_ 2).done m2.step m2.lo m2.epoch=(h.at_ 3,true)
inductive Stage (h:Hand) (a0 a1 a3 b0 b2:Store) (m0 m1 m2:HandMsg):Play→Prop
 | p0 (net):(∀m,m∈net→m=m0)→Stage h a0 a1 a3 b0 b2 m0 m1 m2 ⟨h.at_ 0,a0,b0,net⟩
 | p1 (net):(∀m,m∈net→m=m0∨m=m1)→Stage h a0 a1 a3 b0 b2 m0 m1 m2 ⟨h.at_ 1,a1,b0,net⟩
 | p2 (net):(∀m,m∈net→m=m0∨m=m1∨m=m2)→Stage h a0 a1 a3 b0 b2 m0 m1 m2 ⟨h.at_ 2,a1,b2,net⟩
 | p3 (net):(∀m,m∈net→m=m0∨m=m1∨m=m2)→Stage h a0 a1 a3 b0 b2 m0 m1 m2 ⟨h.at_ 3,a3,b2,net⟩
section
variable {h:Hand} {a0 a1 a3 b0 b2:Store} {m0 m1 m2:HandMsg}
theorem Stage.takes (r:Rail h a0 a1 a3 b0 b2 m0 m1 m2) {p:Play} (w:Stage h a0 a1 a3 b0 b2 m0 m1 m2 p) {m:HandMsg} (hm:m∈p.net) {net:List HandMsg} (hn: ∀x,x∈net→x∈p.net):
 Stage h a0 a1 a3 b0 b2 m0 m1 m2 (({p with net:=net}:Play).takes m):=by
 have f0: ∀q,(h.at_ q).from_=h.from_:=fun _=>rfl
 cases w with
 | p0 n hp=>
   rw[hp m hm]
   simp only[Play.takes,Play.goes,f0,r.to0,r.t0,cond_true,r.d0]
   exact .p1 _ fun x hx=> .inl (hp x (hn x hx))
 | p1 n hp=>
   rcases hp m hm with rfl | rfl
   ·simp only[Play.takes,Play.goes,f0,r.to0,r.t01,cond_true,cond_false]
    exact .p1 _ fun x hx=>hp x (hn x hx)
   ·simp only[Play.takes,Play.goes,f0,r.to1,r.t1,cond_true,cond_false,r.d1]
    exact .p2 _ fun x hx=>(hp x (hn x hx)).elim .inl fun h=> .inr (.inl h)
 | p2 n hp=>
   rcases hp m hm with rfl | rfl | rfl
   ·simp only[Play.takes,Play.goes,f0,r.to0,r.t01,cond_true,cond_false]
    exact .p2 _ fun x hx=>hp x (hn x hx)
   ·simp only[Play.takes,Play.goes,f0,r.to1,r.t12,cond_true,cond_false]
    exact .p2 _ fun x hx=>hp x (hn x hx)
   ·simp only[Play.takes,Play.goes,f0,r.to2,r.t2,cond_true,cond_false,r.d2]
    exact .p3 _ fun x hx=>hp x (hn x hx)
 | p3 n hp=>
   rcases hp m hm with rfl | rfl | rfl
   ·simp only[Play.takes,Play.goes,f0,r.to0,r.t03,cond_true,cond_false]
    exact .p3 _ fun x hx=>hp x (hn x hx)
   ·simp only[Play.takes,Play.goes,f0,r.to1,r.t12,cond_true,cond_false]
    exact .p3 _ fun x hx=>hp x (hn x hx)
   ·simp only[Play.takes,Play.goes,f0,r.to2,r.t23,cond_true,cond_false]
    exact .p3 _ fun x hx=>hp x (hn x hx)
theorem Stage.nets {p:Play} (w:Stage h a0 a1 a3 b0 b2 m0 m1 m2 p) {net:List HandMsg} (hn: ∀x,x∈net→x∈p.net):Stage h a0 a1 a3 b0 b2 m0 m1 m2 {p with net:=net}:=by
 cases w with
 | p0 n hp=>exact .p0 _ fun x hx=>hp x (hn x hx)
 | p1 n hp=>exact .p1 _ fun x hx=>hp x (hn x hx)
 | p2 n hp=>exact .p2 _ fun x hx=>hp x (hn x hx)
 | p3 n hp=>exact .p3 _ fun x hx=>hp x (hn x hx)
theorem Stage.puts {p:Play} (w:Stage h a0 a1 a3 b0 b2 m0 m1 m2 p) {m:HandMsg} (hm:m∈p.net):Stage h a0 a1 a3 b0 b2 m0 m1 m2 (p.puts m):=by
 unfold Play.puts
 cases decide (p.net.length<40)
 ·exact w
 ·exact w.nets fun x hx=>by
   rcases Ql.1 hx with hx | hx
   ·exact hx
   ·rw[Qi] at hx;rw[hx];exact hm
theorem Stage.sends (r:Rail h a0 a1 a3 b0 b2 m0 m1 m2) {p:Play} (w:Stage h a0 a1 a3 b0 b2 m0 m1 m2 p):Stage h a0 a1 a3 b0 b2 m0 m1 m2 p.sends:=by
 unfold Play.sends
 cases w with
 | p0 n hp=>
   simp only[r.s0,cond_true]
   unfold Play.puts
   cases decide (n.length<40)
   ·exact .p0 _ hp
   ·refine .p0 _ fun x hx=> ?_
    rcases Ql.1 hx with hx | hx
    ·exact hp x hx
    ·exact Qi.1 hx
 | p1 n hp=>
   simp only[r.s1,cond_true]
   unfold Play.puts
   cases decide (n.length<40)
   ·exact .p1 _ hp
   ·refine .p1 _ fun x hx=> ?_
    rcases Ql.1 hx with hx | hx
    ·exact hp x hx
    ·exact .inr (Qi.1 hx)
 | p2 n hp=>
   simp only[r.s2,cond_true]
   unfold Play.puts
   cases decide (n.length<40)
   ·exact .p2 _ hp
   ·refine .p2 _ fun x hx=> ?_
    rcases Ql.1 hx with hx | hx
    ·exact hp x hx
    ·exact .inr (.inr (Qi.1 hx))
 | p3 n hp=>
   simp only[r.s3,cond_false]
   exact .p3 _ hp
theorem Stage.step (r:Rail h a0 a1 a3 b0 b2 m0 m1 m2) {p:Play} (w:Stage h a0 a1 a3 b0 b2 m0 m1 m2 p) (o:Int):Stage h a0 a1 a3 b0 b2 m0 m1 m2 (p.step o):=by
 unfold Play.step
 split
 ·exact w.sends r
 ·split
  ·exact w
  ·rename_i hk
   have hl:WaN o<p.net.length:=by omega
   have hm:HandMsg.at_ p.net (WaN o)∈p.net:=by rw[HandMsg.at_get hl];exact Qh hl
   have hs: ∀x,x∈p.net.eraseIdx (WaN o)→x∈p.net:=fun x hx=>Qk hx
   split
   ·exact w.puts hm
   ·split
    ·exact w.nets hs
    ·exact w.takes r hm hs
theorem Stage.plays (r:Rail h a0 a1 a3 b0 b2 m0 m1 m2): ∀(ops:List Int) {p:Play},Stage h a0 a1 a3 b0 b2 m0 m1 m2 p→Stage h a0 a1 a3 b0 b2 m0 m1 m2 (ops.foldl Play.step p)
 | [],_,w=>w
 | o::ops,_,w=>Stage.plays r ops (w.step r o)
end
theorem stay_step {h:Hand} {a b:Store} {m0:HandMsg} (hs:Wat h a=(m0,true)) (to:(m0.to==h.from_)=true) (t:Wah a m0=(a,false)) {net:List HandMsg} (hn: ∀m,m∈net→m=m0) (o:Int):
 ∃net',(⟨h,a,b,net⟩:Play).step o=⟨h,a,b,net'⟩∧ ∀m,m∈net'→m=m0:=by
 unfold Play.step
 split
 ·simp only[Play.sends,hs,cond_true,Play.puts]
  cases decide (net.length<40)
  ·exact ⟨_,rfl,hn⟩
  ·exact ⟨_,rfl,fun m hm=>by
    rcases Ql.1 hm with hm | hm
    ·exact hn m hm
    ·exact Qi.1 hm⟩
 ·split
  ·exact ⟨_,rfl,hn⟩
  ·rename_i hk
   have hl:WaN o<net.length:=by simp only at hk;omega
   have hm:HandMsg.at_ net (WaN o)=m0:=by rw[HandMsg.at_get hl];exact hn _ (Qh hl)
   have hs': ∀x,x∈net.eraseIdx (WaN o)→x=m0:=fun x hx=>hn x (Qk hx)
   simp only[hm]
   split
   ·simp only[Play.puts]
    cases decide (net.length<40)
    ·exact ⟨_,rfl,hn⟩
    ·exact ⟨_,rfl,fun m hm=>by
      rcases Ql.1 hm with hm | hm
      ·exact hn m hm
      ·exact Qi.1 hm⟩
   ·split
    ·exact ⟨_,rfl,hs'⟩
    ·simp only[Play.takes,Play.goes,Play.loses,to,t,cond_true,cond_false]
     exact ⟨_,rfl,hs'⟩
theorem stay_plays {h:Hand} {a b:Store} {m0:HandMsg} (hs:Wat h a=(m0,true)) (to:(m0.to==h.from_)=true) (t:Wah a m0=(a,false)): ∀(ops:List Int) {net:List HandMsg},(∀m,m∈net→m=m0)→
 ∃net',ops.foldl Play.step ⟨h,a,b,net⟩=⟨h,a,b,net'⟩
 | [],net,_=>⟨net,rfl⟩
 | o::ops,net,hn=>by
   obtain ⟨n1,e1,h1⟩:=stay_step (b:=b) hs to t hn o
   obtain ⟨n2,e2⟩:=stay_plays hs to t ops h1
   exact ⟨n2,by rw[List.foldl_cons,e1,e2]⟩
def Store.atE (s:Store) (lo st epoch:Int):Bool:=decide (0≤Waj s.shards lo st)&&((Shard.at_ s.shards (Waj s.shards lo st).toNat).epoch==epoch)
def handHas (s:Store) (m:HandMsg):Bool:=s.good&&((m.to==s.group)&&(bif m.step==1 then s.atE m.lo 0 m.epoch else bif m.step==2 then decide (Waz s.shards m.lo<0)&&decide (m.epoch≤s.seen) else bif m.step==0 then s.atE m.lo 1 m.epoch else false))
section
variable {F:Nat→Option RF} {Z:Waf} {h:Heap} {x:Cell} {xs:List Shard} {fp fq:List Nat} {cs ms:List Cell} {s:Store} {m:HandMsg}
set_option maxHeartbeats 4000000 in
theorem HandHas_run (k:KI F) (hI15:Has F tI15) (hL:Has F Waa) (v:Store.RI h cs s fp) (u:HandMsg.RI h ms m fq) (ok:s.Ok):
 ∃h',call F Z 167 [.agg cs,.agg ms] h=some (.c (.bool (handHas s m)),h')∧On h h':=by
 obtain ⟨h1,e1,o1⟩:=WbQ (Z:=Z) k v ok
 have v1:=Store.okI.on v o1
 have e2:=shardWith_run (Z:=Z) k.i13 hL v1 m.lo
 have e3:=fun st=>shardAt_run (Z:=Z) k.i13 hL v1 m.lo st
 have hdef:handHas s m=(s.good&&((m.to==s.group)&&(bif m.step==1 then s.atE m.lo 0 m.epoch else bif m.step==2 then decide (Waz s.shards m.lo<0)&&decide (m.epoch≤s.seen) else bif m.step==0 then s.atE m.lo 1 m.epoch else false))):=rfl
 obtain ⟨y1,q1,y2,q2,rfl,rfl,_,_⟩:=u
 obtain ⟨x,p,rfl,rfl,w⟩:=v1
 have fd:=fun st=>(w.on Shard.okI ((On.push h1 [[.int .u64 m.lo]]).trans (On.push _ [[.int .i64 st]]))).found (fun t=>(t.lo==m.lo)&&(t.state==st))
 change ∀st,Waj s.shards m.lo st= -1∨ ∃i:Nat,Waj s.shards m.lo st=(i:Int)∧_ at fd
 clear v w
 rw[Wac F Z (hI15.lk (g:=167) rfl) _ _ rfl]
 generalize s.good=gd at *
 cases gd with
 | false=>
   simp only[rn,RO.dst,lk,drop,Nat.reduceBEq,Nat.reduceAdd,Nat.reduceLeDiff,↓reduceIte,reduceCtorEq,e1]
   exact ⟨_,by rw[hdef];rfl,o1⟩
 | true=>
   by_cases ht:m.to=s.group
   ·have ht': ¬(m.to !=s.group)=true:=by simp[ht]
    by_cases c1:m.step=1
    ·simp only[rn,RO.dst,lk,drop,Nat.reduceBEq,Nat.reduceAdd,Nat.reduceLeDiff,↓reduceIte,reduceCtorEq,e1,ht,bne_self_eq_false,c1,e3,Int.reduceBEq,beq_self_eq_true]
     have hd:handHas s m=s.atE m.lo 0 m.epoch:=by rw[hdef];simp[ht,c1]
     rw[hd]
     rcases fd 0 with e | ⟨i,e,hi,_,hx,z1,z2,hl⟩
     ·rw[e]
      have g0: ¬(-1:Int)≥0:=by omega
      simp only[rn,RO.dst,lk,drop,Nat.reduceBEq,Nat.reduceAdd,Nat.reduceLeDiff,↓reduceIte,reduceCtorEq,g0]
      refine ⟨_,?_,o1.trans ((On.push h1 [[.int .u64 m.lo]]).trans (On.push _ [[.int .i64 0]]))⟩;simp[Store.atE,e]
     ·rw[e]
      have g0:(i:Int)≥0:=by omega
      simp only[rn,RO.dst,lk,drop,Nat.reduceBEq,Nat.reduceAdd,Nat.reduceLeDiff,↓reduceIte,reduceCtorEq,g0,hx,hl,Shard.cells]
      refine ⟨_,?_,o1.trans ((On.push h1 [[.int .u64 m.lo]]).trans (On.push _ [[.int .i64 0]]))⟩;simp[Store.atE,e]
    ·by_cases c2:m.step=2
     ·have hd:handHas s m=(decide (Waz s.shards m.lo<0)&&decide (m.epoch≤s.seen)):=by rw[hdef];simp[ht,c2]
      rw[hd]
      simp only[rn,RO.dst,lk,drop,Nat.reduceBEq,Nat.reduceAdd,Nat.reduceLeDiff,↓reduceIte,reduceCtorEq,e1,ht,bne_self_eq_false,c2,e2,Int.reduceBEq,beq_self_eq_true]
      (repeat' ((first | (rw[WbI];split) | (rw[Was];split) | (rw[Way];split))<;>(rename_i hh;(try simp only[QO,decide_eq_true_eq] at hh);simp only[hh,rn,RO.dst,lk,drop,Nat.reduceBEq,Nat.reduceAdd,Nat.reduceLeDiff,↓reduceIte,reduceCtorEq,e1])))<;>(refine ⟨_,?_,o1.trans (On.push h1 [[.int .u64 m.lo]])⟩;clear fd;simp_all)
     ·by_cases c3:m.step=0
      ·simp only[rn,RO.dst,lk,drop,Nat.reduceBEq,Nat.reduceAdd,Nat.reduceLeDiff,↓reduceIte,reduceCtorEq,e1,ht,bne_self_eq_false,c3,e3,Int.reduceBEq,beq_self_eq_true]
       have hd:handHas s m=s.atE m.lo 1 m.epoch:=by rw[hdef];simp[ht,c3]
       rw[hd]
       rcases fd 1 with e | ⟨i,e,hi,_,hx,z1,z2,hl⟩
       ·rw[e]
        have g0: ¬(-1:Int)≥0:=by omega
        simp only[rn,RO.dst,lk,drop,Nat.reduceBEq,Nat.reduceAdd,Nat.reduceLeDiff,↓reduceIte,reduceCtorEq,g0]
        refine ⟨_,?_,o1.trans ((On.push h1 [[.int .u64 m.lo]]).trans (On.push _ [[.int .i64 1]]))⟩;simp[Store.atE,e]
       ·rw[e]
        have g0:(i:Int)≥0:=by omega
        simp only[rn,RO.dst,lk,drop,Nat.reduceBEq,Nat.reduceAdd,Nat.reduceLeDiff,↓reduceIte,reduceCtorEq,g0,hx,hl,Shard.cells]
        refine ⟨_,?_,o1.trans ((On.push h1 [[.int .u64 m.lo]]).trans (On.push _ [[.int .i64 1]]))⟩;simp[Store.atE,e]
      ·have hd:handHas s m=false:=by rw[hdef];simp[ht,c1,c2,c3]
       have d1:(m.step==1)=false:=by simpa using c1
       have d2:(m.step==2)=false:=by simpa using c2
       have d3:(m.step==0)=false:=by simpa using c3
       rw[hd]
       simp only[rn,RO.dst,lk,drop,Nat.reduceBEq,Nat.reduceAdd,Nat.reduceLeDiff,↓reduceIte,reduceCtorEq,e1,ht,bne_self_eq_false,d1,d2,d3]
       exact ⟨_,rfl,o1⟩
   ·have ht':(m.to !=s.group)=true:=by simp[ht]
    simp only[rn,RO.dst,lk,drop,Nat.reduceBEq,Nat.reduceAdd,Nat.reduceLeDiff,↓reduceIte,reduceCtorEq,e1,ht']
    exact ⟨_,by rw[hdef];simp[ht],o1⟩
theorem HandHas_c (k:KI F) (hI15:Has F tI15) (hL:Has F Waa) (hf:h.floor≤h.next) (v:Store.RI h cs s fp) (u:HandMsg.RI h ms m fq) (ok:s.Ok):
 ∃h',call F Z 167 [.agg cs,.agg ms] h=some (.c (.bool (handHas s m)),h')∧On h h':=HandHas_run k hI15 hL v u ok
end
section
variable {F:Nat→Option RF} {Z:Waf} {h:Heap} {x y:Cell} {xs ys:List Store} {fp fq:List Nat}
end
structure KA (F:Nat→Option RF):Prop where
 i15:Has F tI15
 lt:Has F Waw
 lct:Has F Wao
structure KH (F:Nat→Option RF):Prop where
 i15:Has F tI15
 ls:Has F Waa
 lcs:Has F WaA
 lt:Has F Waw
 lct:Has F Wao
theorem KH.a {F:Nat→Option RF} (q:KH F):KA F:=⟨q.i15,q.lt,q.lct⟩
def Wbi (l:List Store):Bool:=decide ((l.length:Int)≤40)&&l.all Store.good
def Shard.newer (x y:Shard):Bool:=decide (y.epoch>x.epoch)&&(decide (y.lo≤x.hi)&&decide (x.lo≤y.hi))
def Wby (all:List Shard) (x:Shard):Int:=bif all.any x.newer then 0 else x.money
def liveTotal (l:List Store):Int×Int:=bif Wbi l then (wHi (sumI (Wby (l.flatMap Store.shards)) (l.flatMap Store.shards)),wLo (sumI (Wby (l.flatMap Store.shards)) (l.flatMap Store.shards))) else (0,0)
section
variable {F:Nat→Option RF} {Z:Waf} {h:Heap} {x y:Cell} {l:List Store} {xs:List Shard} {fp fq:List Nat} {cs:List Cell}
theorem indexStore_run (k:KI F) (q:KA F) (w:SlR 18 Store.RI h x l fp) (ok: ∀a,a∈l→a.Ok): ∃h',call F Z 268 [.c x,.c (.fn 250 [])] h=some (.c (.int .i64 (Wbt (fun s=> !s.good) l)),h')∧On h h':=by
 have hle:=w.le2
 rw[Wac F Z (q.lt.lk (g:=268) rfl) _ _ rfl]
 simp only[rn,RO.dst,lk,drop,Nat.reduceBEq,Nat.reduceAdd,Nat.reduceLeDiff,↓reduceIte,reduceCtorEq,w.len]
 have key:=loop_findO (F:=F) (Z:=Z) (live:=[0,1,7,8]) (b:=r268L0) l (fun s=> !s.good) (fun i g=>⟨[(0,.c x),(1,.c (.fn 250 [])),(7,.c (.int .i64 (l.length:Nat))),(8,.c (.int .i64 (i:Nat)))],[],[],g⟩) h (fun i s=>lk s.env 4=some (.c (.int .i64 (i:Nat)))) fun i hi g og=>by
  have hlt:(i:Int)<l.length:=by omega
  have hws:=WaS i (by omega)
  have wg:=w.on Store.okI og
  obtain ⟨r,f,hld,hR,_⟩:=wg.one hi
  obtain ⟨r1,r2,r3⟩:=Store.lenI hR
  have hxi:=w.idx hi
  obtain ⟨g',e,o'⟩:=WbQ (Z:=Z) k hR (ok _ (Qh hi))
  have hc:call F Z 250 [.agg r] g=some (.c (.bool (!l[i].good)),g'):=by
   rw[Wac F Z (q.i15.lk (g:=250) rfl) _ _ rfl]
   simp only[rn,RO.dst,lk,drop,Nat.reduceBEq,Nat.reduceAdd,Nat.reduceLeDiff,↓reduceIte,reduceCtorEq,r1,r2,e]
  clear wg hR w e
  rw[Wab]
  conv in (Wad _ _ r268L0 _)=>unfold r268L0
  simp only[rn,RO.dst,lk,drop,Nat.reduceBEq,Nat.reduceAdd,Nat.reduceLeDiff,↓reduceIte,reduceCtorEq,hlt,hxi,hld,r1,r2,r3,capV,QT,hc]
  generalize l[i].good=gd at *
  cases gd with
  | false=>exact .inr ⟨rfl,_,rfl,o',rfl⟩
  | true=>
    simp only[rn,RO.dst,lk,drop,Nat.reduceBEq,Nat.reduceAdd,Nat.reduceLeDiff,↓reduceIte,reduceCtorEq,hws]
    exact .inl ⟨rfl,_,o',rfl⟩
 have hlt: ¬(l.length:Int)<l.length:=by omega
 simp only[show ((0:Nat):Int)=0 from rfl] at key
 rcases key with ⟨k1,g,og,k2⟩ | ⟨i,k1,hi,s,k2,os,k3⟩
 ·rw[k2,Wab]
  conv in (Wad _ _ r268L0 _)=>unfold r268L0
  simp only[rn,RO.dst,lk,drop,Nat.reduceBEq,Nat.reduceAdd,Nat.reduceLeDiff,↓reduceIte,reduceCtorEq,hlt,Wbt,k1]
  exact ⟨_,rfl,og⟩
 ·rw[k2]
  simp only[rn,RO.dst,lk,drop,Nat.reduceBEq,Nat.reduceAdd,Nat.reduceLeDiff,↓reduceIte,reduceCtorEq,k3,Wbt,k1]
  exact ⟨_,rfl,os⟩
theorem areStores_run (k:KI F) (q:KA F) (w:SlR 18 Store.RI h x l fp) (ok: ∀a,a∈l→a.Ok): ∃h',call F Z 216 [.c x] h=some (.c (.bool (Wbi l)),h')∧On h h':=by
 have hwl:=w.len
 rw[Wac F Z (q.i15.lk (g:=216) rfl) _ _ rfl]
 by_cases hl:(l.length:Int)≤40
 ·obtain ⟨h',e,o⟩:=indexStore_run (Z:=Z) k q w ok
  have hc:call F Z 251 [.c x,.c (.fn 250 [])] h=some (.c (.bool (l.any fun s=> !s.good)),h'):=by
   rw[Wac F Z (q.lct.lk (g:=251) rfl) _ _ rfl]
   simp only[rn,RO.dst,lk,drop,Nat.reduceBEq,Nat.reduceAdd,Nat.reduceLeDiff,↓reduceIte,reduceCtorEq,e,findI_any]
  have ha:Wbi l= !(l.any fun s=> !s.good):=by
   simp only[Wbi,hl,decide_true,QR,List.not_any_eq_all_not,Bool.not_not]
  simp only[rn,RO.dst,lk,drop,Nat.reduceBEq,Nat.reduceAdd,Nat.reduceLeDiff,↓reduceIte,reduceCtorEq,hwl,hl,hc]
  exact ⟨_,by rw[ha],o⟩
 ·have ha:Wbi l=false:=by simp[Wbi,hl]
  simp only[rn,RO.dst,lk,drop,Nat.reduceBEq,Nat.reduceAdd,Nat.reduceLeDiff,↓reduceIte,reduceCtorEq,hwl,hl]
  exact ⟨_,by rw[ha],On.refl h⟩
theorem areStores_all (h:Wbi l=true):l.length≤40∧ ∀s,s∈l→s.good=true:=by
 simp only[Wbi,Qn,decide_eq_true_eq,List.all_eq_true] at h
 exact ⟨by omega,h.2⟩
theorem flatMap_take {α β:Type} (f:α→List β) (l:List α) {i:Nat} (hi:i<l.length):(l.take (i+1)).flatMap f=(l.take i).flatMap f++f l[i]:=by
 rw[Qy,Qc hi,List.flatMap_append];simp
theorem flatMap_len {α β:Type} (f:α→List β) (m:Nat): ∀(l:List α),(∀a,a∈l→(f a).length≤m)→(l.flatMap f).length≤m*l.length
 | [],_=>by simp
 | a::r,h=>by
   have h1:=h a (by simp)
   have h2:=flatMap_len f m r fun b hb=>h b (by simp[hb])
   rw[List.flatMap_cons,List.length_append,Qt,Nat.mul_succ]
   omega
theorem allShards_ok (ha:Wbi l=true) (ok: ∀a,a∈l→a.Ok):(l.flatMap Store.shards).length≤320∧(∀t,t∈l.flatMap Store.shards→t.Ok∧t.good=true):=by
 obtain ⟨h1,h2⟩:=areStores_all ha
 have h3:=flatMap_len Store.shards 8 l fun a ha=>(Store.good_all (h2 a ha)).1
 refine ⟨by omega,fun t ht=> ?_⟩
 obtain ⟨s,hs,hts⟩:=List.mem_flatMap.1 ht
 exact ⟨(ok s hs).shards t hts,(Store.good_all (h2 s hs)).2 t hts⟩
theorem liveOf_le {all:List Shard} {t:Shard} (ok:t.Ok) (gd:t.good=true):0≤Wby all t∧Wby all t≤737869762948382064600:=by
 have:=Shard.money_le ok gd
 unfold Wby
 cases all.any t.newer<;>simp<;>omega
set_option maxHeartbeats 1000000 in
theorem LiveTotal_all (hf:h.floor≤h.next) (w:SlR 18 Store.RI h x l fp) (hl:l.length≤40) (hg: ∀s,s∈l→s.good=true) {h':Heap} {y0:Cell} (a0:Acc 16 h h' y0 []):
 ∃y g rows fps,loop F Z [4,19,20,21] r172L1 ⟨[(4,.c y0),(19,.c x),(20,.c (.int .i64 (l.length:Nat))),(21,.c (.int .i64 (0:Nat)))],[],[],h'⟩=loop F Z [4,19,20,21] r172L1 ⟨[(4,.c y),(19,.c x),(20,.c (.int .i64 (l.length:Nat))),(21,.c (.int .i64 (l.length:Nat)))],[],[],g⟩∧
  Acc 16 h g y rows∧AllR Shard.RI h rows (l.flatMap Store.shards) fps:=by
 obtain ⟨s',⟨y,g,rows,fps,hs,a,v⟩,l1⟩:=WaB (F:=F) (Z:=Z) (live:=[4,19,20,21]) (b:=r172L1) l.length (fun i s=> ∃y g rows fps,s=⟨[(4,.c y),(19,.c x),(20,.c (.int .i64 (l.length:Nat))),(21,.c (.int .i64 (i:Nat)))],[],[],g⟩∧Acc 16 h g y rows∧AllR Shard.RI h rows ((l.take i).flatMap Store.shards) fps) (fun i s hi ⟨y,g,rows,fps,hs,a,v⟩=>by
  subst hs
  have hle:=w.le2
  have hlt:(i:Int)<l.length:=by omega
  have hws:=WaS i (by omega)
  obtain ⟨r,f,hld,hR,_⟩:=w.one hi
  have hldg: ∀j n,WaC g x.sid i j n=cut? r j n:=fun j n=>by
   rw[←hld]
   have:=a.on.ext.2 x.sid (by rcases w with ⟨_,⟨_,h2,_⟩ | ⟨id,_,_,rfl,_,q,_⟩⟩;(rw[h2] at hi;exact absurd hi (Nat.not_lt_zero _));exact q)
   simp only[WaC,WbL,this]
  obtain ⟨z,q,rfl,rfl,u⟩:=hR
  obtain ⟨rz,fz,h1,h2⟩:=u.rowsM
  have ug:=u.on Shard.okI a.on
  obtain ⟨rz',fz',h1',h2'⟩:=ug.rowsM
  have hrr:rowsOf g z=some rz:=by
   rcases u with ⟨_,⟨rfl,_,_⟩ | ⟨id,rr,ff,rfl,q1,q2,_,_⟩⟩
   ·rw[←h1];rfl
   ·rw[←h1];simp only[rowsOf,a.on.ext.2 id q2]
  have b1:=flatMap_len Store.shards 8 (l.take i) fun s hs=>(Store.good_all (hg s (Qz hs))).1
  have b2:=(Store.good_all (hg _ (Qh hi))).1
  have b3:=v.len
  have b4:=h2.len
  have b5:(l.take i).length≤40:=by rw[Qu];omega
  have ce:=a.cat_eq (bytes:=80) (y:=z) (new:=rz) hf u.isTag hrr (by omega)
  have ac:=a.cat (new:=rz) hf (by omega)
  have hxi:=w.idx hi
  rw[Wab]
  conv in (Wad _ _ r172L1 _)=>unfold r172L1
  simp only[rn,RO.dst,lk,drop,Nat.reduceBEq,Nat.reduceAdd,Nat.reduceLeDiff,↓reduceIte,reduceCtorEq,hlt,hxi,hldg,ce,hws]
  exact ⟨_,⟨_,_,_,_,rfl,ac,by rw[flatMap_take _ _ hi];exact v.app h2⟩,rfl⟩) (s:=⟨[(4,.c y0),(19,.c x),(20,.c (.int .i64 (l.length:Nat))),(21,.c (.int .i64 (0:Nat)))],[],[],h'⟩) ⟨y0,h',[],[],rfl,a0,by simp;trivial⟩
 subst hs
 rw[Qv] at v
 exact ⟨y,g,rows,fps,l1,a,v⟩
end
section
variable {F:Nat→Option RF} {Z:Waf} {h:Heap} {x y:Cell} {l:List Store} {xs:List Shard} {fp fq:List Nat} {cs:List Cell}
set_option maxHeartbeats 1000000 in
theorem newer_run (q:KH F) (w:SlR 16 Shard.RI h x xs fp) (hf:h.floor≤h.next) (a:Shard) (u z:Cell):
 call F Z 218 [.c x,.c (.fn 217 [(h.next,0,0)])] (h.push [a.cells u z])=some (.c (.bool (xs.any a.newer)),h.push [a.cells u z]):=by
 have w':=w.on Shard.okI (On.push h [a.cells u z])
 have hl: ∀j n,WaC (h.push [a.cells u z]) h.next 0 j n=cut? (a.cells u z) j n:=fun j n=>by simp[WaC,WbL,Wbm]
 generalize h.push [a.cells u z]=g at *
 simp only[Shard.cells] at hl
 have hr:=indexShard_run (Z:=Z) q.ls w' 217 [(h.next,0,0)] a.newer fun r t q' hR=>by
  obtain ⟨x1,p1,x2,p2,rfl,_⟩:=hR
  simp only[rn,RO.dst,lk,drop,Nat.reduceBEq,Nat.reduceAdd,Nat.reduceLeDiff,↓reduceIte,reduceCtorEq,capV_cons]
  rw[Wac F Z (q.i15.lk (g:=217) rfl) _ _ rfl]
  simp only[rn,RO.dst,lk,drop,Nat.reduceBEq,Nat.reduceAdd,Nat.reduceLeDiff,↓reduceIte,reduceCtorEq,hl]
  have hd:a.newer t=(decide (t.epoch>a.epoch)&&(decide (t.lo≤a.hi)&&decide (a.lo≤t.hi))):=rfl
  (repeat' ((first | (rw[WbI];split) | (rw[Was];split) | (rw[Way];split))<;>(rename_i hh;(try simp only[QO,decide_eq_true_eq] at hh);simp only[hh,rn,RO.dst,lk,drop,Nat.reduceBEq,Nat.reduceAdd,Nat.reduceLeDiff,↓reduceIte,reduceCtorEq,hl])))<;>(clear hl w w';simp_all)
 rw[Wac F Z (q.lcs.lk (g:=218) rfl) _ _ rfl]
 simp only[rn,RO.dst,lk,drop,Nat.reduceBEq,Nat.reduceAdd,Nat.reduceLeDiff,↓reduceIte,reduceCtorEq,hr,findI_any]
set_option maxHeartbeats 2000000 in
theorem LiveTotal_turn (k:KI F) (q:KH F) (w:SlR 16 Shard.RI h y xs fp) (hf:h.floor≤h.next) (ok: ∀t,t∈xs→t.Ok∧t.good=true) (hn:xs.length≤320) (i:Nat) (hi:i<xs.length):
 ∃g,loop F Z [4,7,8,30,31,32] r172L0 ⟨[(4,.c y),(7,.c (.int .u64 (wHi (sumI (Wby xs) (xs.take i))))),(8,.c (.int .u64 (wLo (sumI (Wby xs) (xs.take i))))),(30,.c y),(31,.c (.int .i64 (xs.length:Nat))),(32,.c (.int .i64 (i:Nat)))],[],[],h⟩
  =loop F Z [4,7,8,30,31,32] r172L0 ⟨[(4,.c y),(7,.c (.int .u64 (wHi (sumI (Wby xs) (xs.take (i+1)))))),(8,.c (.int .u64 (wLo (sumI (Wby xs) (xs.take (i+1)))))),(30,.c y),(31,.c (.int .i64 (xs.length:Nat))),(32,.c (.int .i64 ((i+1:Nat):Int)))],[],[],g⟩∧On h g:=by
 have hle:=w.le2
 have hlt:(i:Int)<xs.length:=by omega
 have hws:=WaS i (by omega)
 have hxi:=w.idx hi
 obtain ⟨aok,agd⟩:=ok _ (Qh hi)
 obtain ⟨r,f,hld,hR,_⟩:=w.one hi
 obtain ⟨x1,p1,x2,p2,rfl,rfl,w1,w2⟩:=hR
 have hnw:=newer_run (Z:=Z) q w hf xs[i] x1 x2
 have st:storeP (h.push [[.int .u64 0,.int .u64 0,.int .i64 0,.int .i64 0,.nil,.nil]]) h.next 0 0 (xs[i].cells x1 x2)=some (h.push [xs[i].cells x1 x2]):=storeP_push (rows:=[[.int .u64 0,.int .u64 0,.int .i64 0,.int .i64 0,.nil,.nil]]) (i:=0) hf rfl rfl
 have hl: ∀j n,WaC (h.push [xs[i].cells x1 x2]) h.next 0 j n=cut? (xs[i].cells x1 x2) j n:=fun j n=>by simp[WaC,WbL,Wbm]
 have ht:sumI (Wby xs) (xs.take (i+1))=sumI (Wby xs) (xs.take i)+Wby xs xs[i]:=sumI_take _ xs hi
 have hT:=sumI_take_le (Wby xs) (m:=737869762948382064600) (by omega) xs (fun a ha=>liveOf_le (ok a ha).1 (ok a ha).2) i
 refine ⟨h.push [xs[i].cells x1 x2],?_,On.push _ _⟩
 rw[ht]
 have hdef:Wby xs xs[i]=bif xs.any xs[i].newer then 0 else xs[i].money:=rfl
 generalize hnn:xs.any xs[i].newer=nn at *
 cases nn with
 | true=>
   have h0:Wby xs xs[i]=0:=hdef
   rw[h0,Int.add_zero]
   simp only[Shard.cells] at hnw st hl
   clear w w1 w2 aok agd ok ht hT h0 hdef
   generalize xs[i]=a at *
   rw[Wab]
   conv in (Wad _ _ r172L0 _)=>unfold r172L0
   simp only[rn,RO.dst,lk,drop,Nat.reduceBEq,Nat.reduceAdd,Nat.reduceLeDiff,↓reduceIte,reduceCtorEq,hlt,hxi,hld,st,hnw,hws,evPtrs,Shard.cells]
 | false=>
   have h0:Wby xs xs[i]=xs[i].money:=hdef
   rw[h0]
   have ml:=Shard.money_le aok agd
   obtain ⟨b1,b2⟩:=Account.money_ok aok.book.list (Shard.good_book agd)
   have hc:=totalOf_run (Z:=Z) k.i10 (w1.on (Fl.ok _) (On.push h [xs[i].cells x1 x2])) aok.book.list b1 b2
   change _=some (V.tup [.c (.int .u64 (wHi xs[i].money)),.c (.int .u64 (wLo xs[i].money))],_) at hc
   simp only[Shard.cells] at hnw st hl hc
   clear w w1 w2 b1 b2 agd aok ok ht h0 hdef
   generalize sumI (Wby xs) (xs.take i)=T at *
   generalize xs[i]=a at *
   generalize a.money=M at *
   have e1:(wLo T+wLo M+0)%18446744073709551616=wLo (T+M):=by simp only[wLo];omega
   have e2:IntKind.u64.wrap (wHi T+IntKind.u64.wrap (wHi M+(wLo T+wLo M+0) / 18446744073709551616))=wHi (T+M):=by
    simp only[wHi,wLo]
    rw[wrapU (M / 18446744073709551616+_) (by omega) (by omega),wrapU _ (by omega) (by omega)];omega
   have c1:0≤wLo T:=by simp only[wLo];omega
   have c2:0≤wLo M:=by simp only[wLo];omega
   have c3:(0:Int)≤1:=by omega
   rw[Wab]
   conv in (Wad _ _ r172L0 _)=>unfold r172L0
   simp only[rn,RO.dst,lk,drop,Nat.reduceBEq,Nat.reduceAdd,Nat.reduceLeDiff,↓reduceIte,reduceCtorEq,hlt,hxi,hld,st,hnw,evPtrs,hl,hc,e1,e2,c1,c2,c3,QK,and_self,hws,Shard.cells]
theorem LiveTotal_c (k:KI F) (q:KH F) (hf:h.floor≤h.next) (w:SlR 18 Store.RI h x l fp) (ok: ∀a,a∈l→a.Ok):
 ∃h',call F Z 172 [.c x] h=some (.tup [.c (.int .u64 (liveTotal l).1),.c (.int .u64 (liveTotal l).2)],h')∧On h h':=by
 obtain ⟨h1,e1,o1⟩:=areStores_run (Z:=Z) k q.a w ok
 have hf1:=o1.le hf
 have w1:=w.on Store.okI o1
 rw[Wac F Z (q.i15.lk (g:=172) rfl) _ _ rfl]
 have hdef:liveTotal l=bif Wbi l then (wHi (sumI (Wby (l.flatMap Store.shards)) (l.flatMap Store.shards)),wLo (sumI (Wby (l.flatMap Store.shards)) (l.flatMap Store.shards))) else (0,0):=rfl
 cases ha:Wbi l with
 | false=>
   rw[ha] at e1
   simp only[rn,RO.dst,lk,drop,Nat.reduceBEq,Nat.reduceAdd,Nat.reduceLeDiff,↓reduceIte,reduceCtorEq,e1]
   exact ⟨_,by rw[hdef,ha];rfl,o1⟩
 | true=>
   rw[ha] at e1
   obtain ⟨hl,hg⟩:=areStores_all ha
   obtain ⟨hn,hok⟩:=allShards_ok ha ok
   obtain ⟨y,g,rows,fps,lp,a,v⟩:=LiveTotal_all (F:=F) (Z:=Z) hf1 w1 hl hg (Acc.lit0 (tag:=16) (On.refl h1))
   obtain ⟨fy,wy⟩:=a.shows Shard.okI v
   have hfg:=a.on.le hf1
   rw[hdef,ha]
   generalize l.flatMap Store.shards=xs at *
   obtain ⟨s',⟨g',hs,og⟩,l2⟩:=WaB (F:=F) (Z:=Z) (live:=[4,7,8,30,31,32]) (b:=r172L0) xs.length (fun i s=> ∃g',s=⟨[(4,.c y),(7,.c (.int .u64 (wHi (sumI (Wby xs) (xs.take i))))),(8,.c (.int .u64 (wLo (sumI (Wby xs) (xs.take i))))),(30,.c y),(31,.c (.int .i64 (xs.length:Nat))),(32,.c (.int .i64 (i:Nat)))],[],[],g'⟩∧On g g') (fun i s hi ⟨g',hs,og⟩=>by
    subst hs
    obtain ⟨g2,e2,o2⟩:=LiveTotal_turn (Z:=Z) k q (wy.on Shard.okI og) (og.le hfg) hok hn i hi
    exact ⟨_,⟨g2,rfl,og.trans o2⟩,e2⟩) (s:=⟨[(4,.c y),(7,.c (.int .u64 0)),(8,.c (.int .u64 0)),(30,.c y),(31,.c (.int .i64 (xs.length:Nat))),(32,.c (.int .i64 (0:Nat)))],[],[],g⟩) ⟨g,rfl,On.refl g⟩
   subst hs
   simp only[show ((0:Nat):Int)=0 from rfl,Qv] at l2 lp
   have hlt: ¬(l.length:Int)<l.length:=by omega
   have hlt2: ¬(xs.length:Int)<xs.length:=by omega
   have hwl:=w.len
   have hyl:=wy.len
   simp only[rn,RO.dst,lk,drop,Nat.reduceBEq,Nat.reduceAdd,Nat.reduceLeDiff,↓reduceIte,reduceCtorEq,e1,Qa,Wav,hwl,lp]
   rw[Wab]
   conv in (Wad _ _ r172L1 _)=>unfold r172L1
   simp only[rn,RO.dst,lk,drop,Nat.reduceBEq,Nat.reduceAdd,Nat.reduceLeDiff,↓reduceIte,reduceCtorEq,hlt,hyl,l2]
   rw[Wab]
   conv in (Wad _ _ r172L0 _)=>unfold r172L0
   simp only[rn,RO.dst,lk,drop,Nat.reduceBEq,Nat.reduceAdd,Nat.reduceLeDiff,↓reduceIte,reduceCtorEq,hlt2]
   exact ⟨_,rfl,(o1.trans a.on).trans og⟩
end
section
variable {F:Nat→Option RF} {Z:Waf} {h:Heap} {x y:Cell} {l:List Store} {xs:List Shard} {fp fq:List Nat} {cs:List Cell}
theorem SlR.storeAt (w:SlR 18 Store.RI h x l fp) {i:Nat} (hi:i<l.length): ∃z fz,(∀j n,WaC h x.sid i j n=cut? [.int .i64 l[i].group,.int .i64 l[i].seen,z] j n)∧SlR 16 Shard.RI h z l[i].shards fz:=by
 obtain ⟨r,f,hld,hR,_⟩:=w.one hi
 obtain ⟨z,p,rfl,rfl,u⟩:=hR
 exact ⟨z,_,hld,u⟩
end
section
section
variable {F:Nat→Option RF} {Z:Waf} {h:Heap} {x:Cell} {xs:List Shard} {fp:List Nat}
end
namespace Store
end Store
section
variable {F:Nat→Option RF} {Z:Waf} {h:Heap} {cs:List Cell} {t:Store} {fp:List Nat}
end
end
section
variable {F:Nat→Option RF} {Z:Waf} {h:Heap} {x:Cell} {xs:List Shard} {fp:List Nat}
end
section
variable {F:Nat→Option RF} {Z:Waf} {h:Heap} {cs:List Cell} {t:Store} {fp:List Nat}
end
section
variable {F:Nat→Option RF} {Z:Waf} {h:Heap} {x:Cell} {xs:List Store} {fp:List Nat}
end
def Store.holds (s:Store) (id:Int):Bool:=decide (0≤Waz s.shards id)&&((Shard.at_ s.shards (Waz s.shards id).toNat).state==0)
def holdAt (l:List Store) (id:Int) (i:Nat):Bool:=match l[i]? with | some s=>s.holds id | none=>false
def Wbj (l:List Store) (id:Int):Nat→List Int
 | 0=>[]
 | n+1=>if holdAt l id n then Wbj l id n++[(n:Int)] else Wbj l id n
def holders (l:List Store) (id:Int):List Int:=bif Wbi l then Wbj l id l.length else []
theorem holdersUp_len (l:List Store) (id:Int): ∀n,(Wbj l id n).length≤n
 | 0=>Qj _
 | n+1=>by
   have:=holdersUp_len l id n
   simp only[Wbj]
   split<;>simp<;>omega
section
variable {F:Nat→Option RF} {Z:Waf} {h:Heap} {x:Cell} {l:List Store} {fp:List Nat} {id:Int}
theorem holdAt_at {i:Nat} (hi:i<l.length):holdAt l id i=l[i].holds id:=by simp[holdAt,Qc hi]
theorem holds_no {s:Store} (h:Waz s.shards id= -1):s.holds id=false:=by simp[Store.holds,h]
theorem holds_at {s:Store} {i:Nat} (h:Waz s.shards id=(i:Int)):s.holds id=((Shard.at_ s.shards i).state==0):=by simp[Store.holds,h]
theorem hold_yes {i:Nat} (h:holdAt l id i=true):Wbj l id (i+1)=Wbj l id i++[(i:Int)]:=by simp only[Wbj,h,if_true]
theorem hold_no {i:Nat} (h:holdAt l id i=false):Wbj l id (i+1)=Wbj l id i:=by simp only[Wbj,h,Bool.false_eq_true,if_false]
set_option maxHeartbeats 1000000 in
theorem Holders_c (k:KI F) (q:KA F) (hL:Has F Waa) (hf:h.floor≤h.next) (w:SlR 18 Store.RI h x l fp) (id:Int) (ok: ∀a,a∈l→a.Ok):
 ∃y h' fq,call F Z 284 [.c x,.c (.int .u64 id)] h=some (.c y,h')∧On h h'∧SlR 15 (Fl Wai) h' y (holders l id) fq∧Fre h fq:=by
 obtain ⟨h1,e1,o1⟩:=areStores_run (Z:=Z) k q w ok
 rw[Wac F Z (q.i15.lk (g:=284) rfl) _ _ rfl]
 cases ha:Wbi l with
 | false=>
   rw[ha] at e1
   have hd:holders l id=[]:=by simp[holders,ha]
   rw[hd]
   simp only[rn,RO.dst,lk,drop,Nat.reduceBEq,Nat.reduceAdd,Nat.reduceLeDiff,↓reduceIte,reduceCtorEq,e1]
   exact ⟨_,_,_,rfl,o1,SlR.nil _ _ _,Fre.nil h⟩
 | true=>
   rw[ha] at e1
   have hd:holders l id=Wbj l id l.length:=by simp[holders,ha]
   rw[hd]
   obtain ⟨hl,_⟩:=areStores_all ha
   have hwl:=w.len
   simp only[rn,RO.dst,lk,drop,Nat.reduceBEq,Nat.reduceAdd,Nat.reduceLeDiff,↓reduceIte,reduceCtorEq,Qa,Wav,e1,hwl]
   obtain ⟨s',⟨y,g,hs,a⟩,lp⟩:=WaB (F:=F) (Z:=Z) (live:=[1,5,13,14,15]) (b:=r284L0) l.length (fun i st=> ∃y g,st=⟨[(1,.c (.int .u64 id)),(5,.c y),(13,.c x),(14,.c (.int .i64 (l.length:Nat))),(15,.c (.int .i64 (i:Nat)))],[],[],g⟩∧Acc 15 h g y ((Wbj l id i).map Wai)) (fun i st hi ⟨y,g,hs,a⟩=>by
    subst hs
    have hlt:(i:Int)<l.length:=by omega
    have hws:=WaS i (by omega)
    have hxi:=w.idx hi
    obtain ⟨r,f,hld,hR,_⟩:=(w.on Store.okI a.on).one hi
    obtain ⟨r1,r2,r3⟩:=Store.lenI hR
    obtain ⟨g1,e2,o2⟩:=shardWith_on (Z:=Z) k.i13 hL hR id
    have hR1:=Store.okI.on hR o2
    have a1:=a.go o2
    have hlen:=holdersUp_len l id i
    have hat:=holdAt_at (id:=id) hi
    obtain ⟨xc,p,rfl,_,u⟩:=hR1
    rw[Wab]
    conv in (Wad _ _ r284L0 _)=>unfold r284L0
    generalize l[i]=s at *
    rcases u.found (fun t=>decide (t.lo≤id)&&decide (id≤t.hi)) with e | ⟨j,e,hj,_,hx,_,_,hld2⟩
    ·change Waz s.shards id= -1 at e
     rw[holds_no e] at hat
     rw[←hold_no hat] at a1
     rw[e] at e2
     simp only[rn,RO.dst,lk,drop,Nat.reduceBEq,Nat.reduceAdd,Nat.reduceLeDiff,↓reduceIte,reduceCtorEq,hlt,hxi,hld,r1,r2,r3,e2,Int.reduceLE,Int.reduceNeg,ge_iff_le,hws]
     exact ⟨_,⟨_,_,rfl,a1⟩,rfl⟩
    ·change Waz s.shards id=(j:Int) at e
     rw[holds_at e] at hat
     rw[e] at e2
     have g0:(j:Int)≥0:=by omega
     cases hb:((Shard.at_ s.shards j).state==0) with
     | false=>
       rw[hb] at hat
       rw[←hold_no hat] at a1
       simp only[rn,RO.dst,lk,drop,Nat.reduceBEq,Nat.reduceAdd,Nat.reduceLeDiff,↓reduceIte,reduceCtorEq,hlt,hxi,hld,r1,r2,r3,e2,g0,hx,hld2,Shard.cells,hb,hws]
       exact ⟨_,⟨_,_,rfl,a1⟩,rfl⟩
     | true=>
       rw[hb] at hat
       have e3:=a1.one_eq hf (bytes:=8) (by rw[QQ];omega) [.int .i64 (i:Nat)]
       have a2:=a1.one hf (by rw[QQ];omega) [.int .i64 (i:Nat)]
       have hm:(Wbj l id i).map Wai++[[.int .i64 (i:Nat)]]=(Wbj l id (i+1)).map Wai:=by rw[hold_yes hat,List.map_append];rfl
       rw[hm] at a2
       simp only[rn,RO.dst,lk,drop,Nat.reduceBEq,Nat.reduceAdd,Nat.reduceLeDiff,↓reduceIte,reduceCtorEq,hlt,hxi,hld,r1,r2,r3,e2,g0,hx,hld2,Shard.cells,hb,Qb,Qa,Wav,and_self,Qg,Qd,e3,hws]
       exact ⟨_,⟨_,_,rfl,a2⟩,rfl⟩) (s:=⟨[(1,.c (.int .u64 id)),(5,.c (.sl 15 h1.next 0 0)),(13,.c x),(14,.c (.int .i64 (l.length:Nat))),(15,.c (.int .i64 (0:Nat)))],[],[],h1.push []⟩) ⟨_,_,rfl,by simpa[Wbj] using Acc.lit0 (tag:=15) o1⟩
   subst hs
   simp only[show ((0:Nat):Int)=0 from rfl] at lp
   have hlt: ¬(l.length:Int)<l.length:=by omega
   rw[lp,Wab]
   conv in (Wad _ _ r284L0 _)=>unfold r284L0
   simp only[rn,RO.dst,lk,drop,Nat.reduceBEq,Nat.reduceAdd,Nat.reduceLeDiff,↓reduceIte,reduceCtorEq,hlt]
   obtain ⟨o,fq,u,f⟩:=a.flat (enc:=Wai)
   exact ⟨_,_,_,rfl,o,u,f⟩
end
structure Ready (h:Hand) (s t:Store) (k:Nat) (hk:k<s.shards.length):Prop where
 g:SGood s
 gr:s.group=1
 tt:t=Store.void 2 t.seen
 ts:0≤t.seen
 lo:h.lo=s.shards[k].lo
 fr:h.from_=1
 to:h.to=2
 ph:h.phase=0
 e1:s.seen<h.epoch
 e2:t.seen≤h.epoch
 e3:h.epoch≤900000
def fz (h:Hand) (s:Store):Store:=(Wae s h.lo h.epoch).1
def Shard.moved (x:Shard) (e:Int):Shard:={x with state:=0,epoch:=e}
def tk (h:Hand) (x:Shard):Store:=⟨2,h.epoch+1,[x.moved (h.epoch+1)]⟩
def hm0 (h:Hand):HandMsg:=⟨0,h.lo,1,h.epoch,Shard.none_⟩
def hm1 (h:Hand) (x:Shard):HandMsg:=⟨1,h.lo,2,h.epoch+1,x.cold h.epoch⟩
def hm2 (h:Hand):HandMsg:=⟨2,h.lo,1,h.epoch,Shard.none_⟩
theorem freeze_again {s:Store} {lo e:Int} (h:e≤s.seen):Wae s lo e=(s,false):=by
 have hn:s.next e=false:=by
  cases hc:s.next e with
  | false=>rfl
  | true=>have:=(Store.next_iff s e).1 hc;omega
 unfold Wae
 rw[hn]
 simp
section
variable {h:Hand} {s t:Store} {k:Nat} {hk:k<s.shards.length}
theorem Ready.okp (r:Ready h s t k hk) {p:Int} (hp:0≤p∧p≤3):(h.at_ p).ok=true:=by
 have h1:=r.e1
 have h2:=r.e3
 have h3:=r.g.good.sn
 simp only[Hand.ok,Wcc,inR,Hand.at_,r.fr,r.to]
 simp only[Qn,decide_eq_true_eq]
 refine ⟨⟨⟨⟨?_,?_⟩,?_⟩,?_⟩,?_⟩
 all_goals first | decide | omega
theorem Ready.self (r:Ready h s t k hk):h.at_ 0=h:=by
 obtain ⟨l,f,o,e,p⟩:=h
 have:=r.ph
 simp only at this
 subst this
 rfl
theorem Ready.froze (r:Ready h s t k hk) (ha:s.shards[k].state=0):Froze s (fz h s) k hk h.epoch:=by
 unfold fz
 rw[r.lo]
 exact freeze_is r.g.good hk ha ⟨r.e1,by have:=r.e3;omega⟩
theorem Ready.fgr (r:Ready h s t k hk) (ha:s.shards[k].state=0):(fz h s).group=1:=by
 have hn:s.next h.epoch=true:=(Store.next_iff _ _).2 ⟨r.g.good,r.e1,by have:=r.e3;omega⟩
 unfold fz Wae
 rw[hn,r.lo,r.g.good.findAt_is hk rfl ha]
 simp[Store.frozen,Store.renew,r.gr]
theorem Ready.rail (r:Ready h s t k hk) (ha:s.shards[k].state=0):Rail h s (fz h s) ((fz h s).without k) t (tk h s.shards[k]) (hm0 h) (hm1 h s.shards[k]) (hm2 h):=by
 have w:=r.froze ha
 have wg:=r.fgr ha
 have gx:=(r.g.good.sh _ (Qh hk)).1
 have he1:=r.e1
 have he3:=r.e3
 have hsn:=r.g.good.sn
 have k0:=r.okp (p:=0) (by omega)
 have k1:=r.okp (p:=1) (by omega)
 have k2:=r.okp (p:=2) (by omega)
 have hwg:((fz h s).without k).group=1:=wg
 have hws:((fz h s).without k).seen=h.epoch:=w.seen
 have hfz:Wae s h.lo h.epoch=(fz h s,true):=by rw[r.lo];exact w.ok
 have hret:Wal (fz h s) h.lo h.epoch=((fz h s).without k,true):=by rw[r.lo];exact w.retire
 have hret2:Wal ((fz h s).without k) h.lo h.epoch=((fz h s).without k,false):=by rw[r.lo];exact w.twice _
 have hexp:Wag (fz h s) h.lo=(s.shards[k].cold h.epoch,true):=by rw[r.lo];exact w.exports
 have hep:(s.shards[k].cold h.epoch).epoch=h.epoch:=rfl
 have hti:War t (s.shards[k].cold h.epoch) (h.epoch+1)=(tk h s.shards[k],true):=by
  rw[r.tt]
  exact install_void (by omega) gx ⟨r.ts,r.e2⟩ (by omega)
 have htg:t.group=2:=by rw[r.tt];rfl
 exact {
  s0:=by
   simp only[Wat,k0]
   simp[Hand.at_,r.fr,hm0]
  s1:=by
   simp only[Wat,k1]
   simp only[Hand.at_,hexp,hep,r.to,hm1]
   simp
  s2:=by
   simp only[Wat,k2]
   simp[Hand.at_,r.fr,hm2]
  s3:=fun a=>by
   simp only[Wat,Hand.at_]
   simp
  t0:=by simp[Wah,hm0,r.gr,hfz]
  t01:=by simp[Wah,hm0,wg,freeze_again (QU w.seen.symm)]
  t03:=by simp[Wah,hm0,hwg,freeze_again (QU hws.symm)]
  t1:=by simp[Wah,hm1,htg,hti]
  t12:=by
   have hs:h.epoch+1≤(tk h s.shards[k]).seen:=QK _
   have hg:(tk h s.shards[k]).group=2:=rfl
   simp[Wah,hm1,hg,install_again hs]
  t2:=by simp[Wah,hm2,wg,hret]
  t23:=by simp[Wah,hm2,hwg,hret2]
  to0:=by simp[hm0,r.fr]
  to1:=by simp[hm1,r.fr]
  to2:=by simp[hm2,r.fr]
  d0:=by
   unfold Hand.done
   rw[k0]
   simp[Hand.at_,hm0,Hand.sends]
  d1:=by
   unfold Hand.done
   rw[k1]
   simp[Hand.at_,hm1,Hand.sends]
  d2:=by
   unfold Hand.done
   rw[k2]
   simp[Hand.at_,hm2,Hand.sends]}
theorem Ready.stay (r:Ready h s t k hk) (ha:s.shards[k].state≠0):Wat h s=(hm0 h,true)∧((hm0 h).to==h.from_)=true∧Wah s (hm0 h)=(s,false):=by
 have k0:=r.okp (p:=0) (by omega)
 rw[r.self] at k0
 refine ⟨?_,by simp[hm0,r.fr],?_⟩
 ·simp only[Wat,k0,r.ph]
  simp[hm0,r.fr]
 ·have hf:=freeze_not r.g.good hk ha h.epoch
  rw[←r.lo] at hf
  simp[Wah,hm0,r.gr,hf]
inductive Left (h:Hand) (s t:Store) (k:Nat) (hk:k<s.shards.length):Hand→Store→Store→Prop
 | l0:Left h s t k hk (h.at_ 0) s t
 | l1:s.shards[k].state=0→Left h s t k hk (h.at_ 1) (fz h s) t
 | l2:s.shards[k].state=0→Left h s t k hk (h.at_ 2) (fz h s) (tk h s.shards[k])
 | l3:s.shards[k].state=0→Left h s t k hk (h.at_ 3) ((fz h s).without k) (tk h s.shards[k])
theorem Ready.tgood (r:Ready h s t k hk):SGood t:=by rw[r.tt];exact Store.void_good (by omega) ⟨r.ts,by have:=r.e2;have:=r.e3;omega⟩
theorem Ready.play (r:Ready h s t k hk) (ops:List Int) (hl:ops.length≤200):WaM h s t ops=((ops.foldl Play.step ⟨h,s,t,[]⟩).hd,(ops.foldl Play.step ⟨h,s,t,[]⟩).a,(ops.foldl Play.step ⟨h,s,t,[]⟩).b):=by
 have k0:=r.okp (p:=0) (by omega)
 rw[r.self] at k0
 have g1:=(Store.good_iff _).2 r.g.good
 have g2:=(Store.good_iff _).2 r.tgood.good
 have htg:t.group=2:=by rw[r.tt];rfl
 unfold WaM
 rw[k0,g1,g2,r.gr,htg,r.fr,r.to,decide_eq_true hl]
 rfl
theorem Ready.left (r:Ready h s t k hk) (ops:List Int) (hl:ops.length≤200):Left h s t k hk (WaM h s t ops).1 (WaM h s t ops).2.1 (WaM h s t ops).2.2:=by
 rw[r.play ops hl]
 by_cases ha:s.shards[k].state=0
 ·have hw:=Stage.plays (r.rail ha) ops (p:=⟨h.at_ 0,s,t,[]⟩) (.p0 _ fun m hm=>by cases hm)
  rw[r.self] at hw
  generalize ops.foldl Play.step ⟨h,s,t,[]⟩=p at hw ⊢
  cases hw with
  | p0=>exact .l0
  | p1=>exact .l1 ha
  | p2=>exact .l2 ha
  | p3=>exact .l3 ha
 ·obtain ⟨h1,h2,h3⟩:=r.stay ha
  obtain ⟨net,hn⟩:=stay_plays (b:=t) h1 h2 h3 ops (net:=[]) (fun m hm=>by cases hm)
  rw[hn]
  simp only
  have:=Left.l0 (h:=h) (s:=s) (t:=t) (k:=k) (hk:=hk)
  rw[r.self] at this
  exact this
theorem Ready.xgood (r:Ready h s t k hk):(s.shards[k]).Good:=(r.g.good.sh _ (Qh hk)).1
theorem Ready.xok (r:Ready h s t k hk):(s.shards[k]).Ok:=r.g.ok.shards _ (Qh hk)
theorem Ready.tkgood (r:Ready h s t k hk):SGood (tk h s.shards[k]):=by
 have h1:=r.e1
 have h3:=r.e3
 have h4:=r.g.good.sn
 have gx:=r.xgood
 have ox:=r.xok
 refine ⟨⟨by show (0:Int)≤2∧(2:Int)≤99;omega,by show 0≤h.epoch+1∧h.epoch+1≤_;omega,by simp[tk],fun x hx=> ?_,by simp[tk]⟩,⟨by show _≤(2:Int)∧(2:Int)≤_;omega,by show _≤h.epoch+1∧h.epoch+1≤_;omega,fun x hx=> ?_⟩⟩
 ·simp only[tk,Qi] at hx
  subst hx
  exact ⟨⟨gx.lh,.inl rfl,by show 1≤h.epoch+1∧h.epoch+1≤_;omega,gx.srt,gx.fine,gx.bl,gx.fl,gx.acc,gx.fs,gx.fin⟩,QK _⟩
 ·simp only[tk,Qi] at hx
  subst hx
  exact ⟨ox.lo,ox.hi,by simp[Shard.moved],by show _≤h.epoch+1∧h.epoch+1≤_;omega,ox.book,ox.finished⟩
theorem Ready.fgood (r:Ready h s t k hk):SGood (fz h s):=r.g.freeze h.lo h.epoch
theorem Ready.regood (r:Ready h s t k hk) (ha:s.shards[k].state=0):SGood ((fz h s).without k):=by
 have w:=r.froze ha
 have h1:=r.fgood.retire h.lo h.epoch
 have h2:Wal (fz h s) h.lo h.epoch=((fz h s).without k,true):=by rw[r.lo];exact w.retire
 rw[h2] at h1
 exact h1
theorem Left.good (r:Ready h s t k hk) {h':Hand} {a b:Store} (w:Left h s t k hk h' a b):h'.ok=true∧0≤h'.phase∧SGood a∧SGood b:=by
 cases w with
 | l0=>exact ⟨r.okp (by omega),QK 0,r.g,r.tgood⟩
 | l1 ha=>exact ⟨r.okp (by omega),by show (0:Int)≤1;omega,r.fgood,r.tgood⟩
 | l2 ha=>exact ⟨r.okp (by omega),by show (0:Int)≤2;omega,r.fgood,r.tkgood⟩
 | l3 ha=>exact ⟨r.okp (by omega),by show (0:Int)≤3;omega,r.regood ha,r.tkgood⟩
theorem Store.findId_none {s:Store} {a:Int} (h: ∀x,x∈s.shards→ ¬(x.lo≤a∧a≤x.hi)):Waz s.shards a= -1:=by
 refine findI_none fun x hx=> ?_
 have:=h x hx
 simp only[Bool.and_eq_false_iff,decide_eq_false_iff_not]
 omega
theorem tk_holds (h:Hand) (x:Shard) (id:Int):(tk h x).holds id=decide (x.lo≤id∧id≤x.hi):=by
 by_cases hc:x.lo≤id∧id≤x.hi
 ·have:Waz (tk h x).shards id=((0:Nat):Int):=findI_is (i:=0) (by simp[tk]) (by simp[tk,Shard.moved,hc]) fun j hj _=>by simp[tk] at hj;omega
  rw[holds_at this,decide_eq_true hc]
  rfl
 ·have:Waz (tk h x).shards id= -1:=Store.findId_none fun y hy=>by
   simp only[tk,Qi] at hy
   subst hy
   exact hc
  rw[holds_no this,decide_eq_false hc]
theorem Froze.noth {s f:Store} {k:Nat} {hk:k<s.shards.length} {e:Int} (w:Froze s f k hk e) {id:Int} (h:s.shards[k].lo≤id∧id≤s.shards[k].hi):f.holds id=false:=by
 have:Waz f.shards id=(k:Nat):=w.good.findId_is w.hk (by rw[w.at_];exact h)
 rw[holds_at this,Shard.at_get w.hk,w.at_]
 rfl
theorem Froze.gonew {s f:Store} {k:Nat} {hk:k<s.shards.length} {e:Int} (w:Froze s f k hk e) {id:Int} (h:s.shards[k].lo≤id∧id≤s.shards[k].hi):Waz (f.without k).shards id= -1:=by
 refine Store.findId_none fun x hx hc=> ?_
 obtain ⟨j,hj,hn,rfl⟩:=erase_at f.shards k w.hk hx
 exact hn (w.good.one_of hj w.hk hc (by rw[w.at_];exact h))
theorem holders_two {a b:Store} (ga:a.good=true) (gb:b.good=true) (id:Int):holders [a,b] id=(bif a.holds id then [0] else [])++(bif b.holds id then [1] else []):=by
 have h0:Wbi [a,b]=true:=by simp[Wbi,ga,gb]
 unfold holders
 rw[h0]
 obtain ⟨u,hu⟩: ∃u,a.holds id=u:=⟨_,rfl⟩
 obtain ⟨v,hv⟩: ∃v,b.holds id=v:=⟨_,rfl⟩
 have e0:holdAt [a,b] id 0=u:=hu
 have e1:holdAt [a,b] id 1=v:=hv
 simp only[cond_true,Qt,QA,Wbj,e0,e1,hu,hv]
 cases u<;>cases v<;>rfl
theorem Left.one (r:Ready h s t k hk) {h':Hand} {a b:Store} (w:Left h s t k hk h' a b) (id:Int):((holders [a,b] id).length:Int)≤1:=by
 obtain ⟨_,_,ga,gb⟩:=w.good r
 rw[holders_two ((Store.good_iff _).2 ga.good) ((Store.good_iff _).2 gb.good)]
 have key:a.holds id=false∨b.holds id=false:=by
  cases w with
  | l0=>right;rw[r.tt];rfl
  | l1 ha=>right;rw[r.tt];rfl
  | l2 ha=>
    by_cases hc:s.shards[k].lo≤id∧id≤s.shards[k].hi
    ·left;exact (r.froze ha).noth hc
    ·right;rw[tk_holds,decide_eq_false hc]
  | l3 ha=>
    by_cases hc:s.shards[k].lo≤id∧id≤s.shards[k].hi
    ·left;exact holds_no ((r.froze ha).gonew hc)
    ·right;rw[tk_holds,decide_eq_false hc]
 rcases key with h | h<;>rw[h]<;>simp only[cond_false,List.nil_append,QI]
 ·cases b.holds id<;>simp
 ·cases a.holds id<;>simp
theorem Left.over (r:Ready h s t k hk) {h':Hand} {a b:Store} (w:Left h s t k hk h' a b) (hp:h'.phase=3):holders [a,b] h.lo=[1]:=by
 obtain ⟨_,_,ga,gb⟩:=w.good r
 rw[holders_two ((Store.good_iff _).2 ga.good) ((Store.good_iff _).2 gb.good)]
 have hx:=r.xgood.lh
 have hl:=r.lo
 have hc:s.shards[k].lo≤h.lo∧h.lo≤s.shards[k].hi:=by omega
 cases w with
 | l0=>simp[Hand.at_] at hp
 | l1 ha=>simp[Hand.at_] at hp
 | l2 ha=>simp[Hand.at_] at hp
 | l3 ha=>
   rw[holds_no ((r.froze ha).gonew hc),tk_holds,decide_eq_true hc]
   rfl
theorem sumI_congr {α:Type} {f g:α→Int}: ∀{xs:List α},(∀x,x∈xs→f x=g x)→sumI f xs=sumI g xs
 | [],_=>rfl
 | x::r,h=>by simp only[sumI,h x (List.mem_cons_self ..),sumI_congr fun y hy=>h y (List.mem_cons_of_mem _ hy)]
theorem live_of {all:List Shard} {x:Shard} (h: ∀y,y∈all→x.newer y=false):Wby all x=x.money:=by
 have:all.any x.newer=false:=QM.2 fun y hy=>by rw[h y hy];decide
 unfold Wby
 rw[this]
 rfl
theorem Store.Good.still {s:Store} (g:s.Good) {x y:Shard} (hx:x∈s.shards) (hy:y∈s.shards):x.newer y=false:=by
 obtain ⟨i,hi,rfl⟩:=Qp.1 hx
 obtain ⟨j,hj,rfl⟩:=Qp.1 hy
 unfold Shard.newer
 have h1:=g.lh hi
 have h2:=g.lh hj
 rcases Qx i j with h | h | h
 ·have:=g.lt hj h
  have: ¬s.shards[j].lo≤s.shards[i].hi:=by omega
  simp[this]
 ·subst h;simp
 ·have:=g.lt hi h
  have: ¬s.shards[i].lo≤s.shards[j].hi:=by omega
  simp[this]
theorem live_self {s:Store} (g:s.Good):sumI (Wby s.shards) s.shards=s.money:=
 sumI_congr fun x hx=>live_of fun y hy=>g.still hx hy
theorem renew_mon {xs:List Shard} {e:Int}:sumI Shard.money (xs.map (Shard.renew e))=sumI Shard.money xs:=by
 rw[sumI_map]
 exact sumI_congr fun x _=>by unfold Shard.money;rw[Shard.renew_book]
theorem Ready.fmoney (r:Ready h s t k hk) (ha:s.shards[k].state=0):(fz h s).money=s.money:=by
 have hn:s.next h.epoch=true:=(Store.next_iff _ _).2 ⟨r.g.good,r.e1,by have:=r.e3;omega⟩
 unfold fz Wae
 rw[hn,r.lo,r.g.good.findAt_is hk rfl ha]
 simp only[QR,Int.natCast_nonneg,decide_true,cond_true,QF,Store.money,Store.renew,Store.frozen,renew_mon]
 rw[sumI_set _ _ _ hk,Shard.at_get hk]
 unfold Shard.money
 simp only
 omega
theorem live_moved {L:List Shard} {x1:Shard} (h1: ∀x,x∈L→ ∀y,y∈L→x.newer y=false) (h2: ∀y,y∈L→x1.newer y=false):
 sumI (Wby (L++[x1])) (L++[x1])=sumI (fun x=>bif x.newer x1 then 0 else x.money) L+x1.money:=by
 rw[sumI_app]
 congr 1
 ·refine sumI_congr fun x hx=> ?_
  have ha:L.any x.newer=false:=QM.2 fun y hy=>by rw[h1 x hx y hy];decide
  unfold Wby
  rw[List.any_append,ha]
  simp
 ·have: ∀y,y∈L++[x1]→x1.newer y=false:=fun y hy=>by
   rcases Ql.1 hy with hy | hy
   ·exact h2 y hy
   ·rw[Qi] at hy
    subst hy
    simp[Shard.newer]
  simp only[sumI,live_of this]
  omega
theorem Left.live (r:Ready h s t k hk) {h':Hand} {a b:Store} (w:Left h s t k hk h' a b):liveTotal [a,b]=(wHi s.money,wLo s.money):=by
 obtain ⟨_,_,ga,gb⟩:=w.good r
 have h0:Wbi [a,b]=true:=by simp[Wbi,(Store.good_iff _).2 ga.good,(Store.good_iff _).2 gb.good]
 have hv:t.shards=[]:=by rw[r.tt];rfl
 have key:sumI (Wby ([a,b].flatMap Store.shards)) ([a,b].flatMap Store.shards)=s.money:=by
  have hfm:[a,b].flatMap Store.shards=a.shards++b.shards:=by simp
  rw[hfm]
  cases w with
  | l0=>rw[hv,QI];exact live_self r.g.good
  | l1 ha=>rw[hv,QI,live_self r.fgood.good];exact r.fmoney ha
  | l2 ha=>
    have w:=r.froze ha
    have hkf:=w.hk
    have gf:=r.fgood.good
    rw[show (tk h s.shards[k]).shards=[(s.shards[k].moved (h.epoch+1))] from rfl,live_moved (fun x hx y hy=>gf.still hx hy) (fun y hy=>by
     have:=(gf.sh y hy).2
     have hs:(fz h s).seen=h.epoch:=w.seen
     have: ¬y.epoch>h.epoch+1:=by omega
     simp[Shard.newer,Shard.moved,this])]
    rw[←r.fmoney ha]
    have hl:=cut_list w.hk
    unfold Store.money
    rw[hl]
    simp only[sumI_app,sumI]
    have hne: ∀j,(hj:j<(fz h s).shards.length)→j≠k→((fz h s).shards[j]).newer (s.shards[k].moved (h.epoch+1))=false:=fun j hj hjk=>by
     have h1:=gf.lh hj
     have h2:=gf.lh w.hk
     have ha:=w.at_
     have hlo:((fz h s).shards[k]).lo=s.shards[k].lo:=by rw[ha];rfl
     have hhi:((fz h s).shards[k]).hi=s.shards[k].hi:=by rw[ha];rfl
     unfold Shard.newer
     rcases Qx j k with h | h | h
     ·have:=gf.lt w.hk h
      have: ¬s.shards[k].lo≤((fz _ s).shards[j]).hi:=by omega
      simp[Shard.moved,this]
     ·exact absurd h hjk
     ·have:=gf.lt hj h
      have: ¬((fz _ s).shards[j]).lo≤s.shards[k].hi:=by omega
      simp[Shard.moved,this]
    have hyes:((fz h s).shards[k]).newer (s.shards[k].moved (h.epoch+1))=true:=by
     rw[w.at_]
     have:=r.xgood.lh
     simp[Shard.newer,Shard.cold,Shard.moved,this]
     omega
    have hmk:((fz h s).shards[k]).money=s.shards[k].money:=by rw[w.at_];rfl
    have hxm:(s.shards[k].moved (h.epoch+1)).money=s.shards[k].money:=rfl
    rw[hyes,hmk,hxm,sumI_congr (xs:=(fz h s).shards.take k) (g:=Shard.money) fun x hx=>by
     obtain ⟨j,hj,rfl⟩:=Qp.1 hx
     rw[Qu] at hj
     rw[List.getElem_take,hne j (by omega) (by omega)]
     rfl,sumI_congr (xs:=(fz h s).shards.drop (k+1)) (g:=Shard.money) fun x hx=>by
     obtain ⟨j,hj,rfl⟩:=Qp.1 hx
     rw[List.length_drop] at hj
     rw[List.getElem_drop,hne (k+1+j) (by omega) (by omega)]
     rfl]
    simp only[cond_true]
    omega
  | l3 ha=>
    have w:=r.froze ha
    have hkf:=w.hk
    have gf:=r.fgood.good
    have gr:=(r.regood ha).good
    rw[show (tk h s.shards[k]).shards=[(s.shards[k].moved (h.epoch+1))] from rfl,live_moved (fun x hx y hy=>gr.still hx hy) (fun y hy=>by
     have:=(gf.sh y (Qk hy)).2
     have hs:(fz h s).seen=h.epoch:=w.seen
     have: ¬y.epoch>h.epoch+1:=by omega
     simp[Shard.newer,Shard.moved,this])]
    rw[←r.fmoney ha]
    unfold Store.money Store.without
    simp only
    rw[sumI_congr (g:=Shard.money) fun x hx=> ?_,sumI_erase _ _ _ w.hk]
    ·have hmk:((fz h s).shards[k]).money=s.shards[k].money:=by rw[w.at_];rfl
     have hxm:(s.shards[k].moved (h.epoch+1)).money=s.shards[k].money:=rfl
     omega
    ·obtain ⟨j,hj,hn,rfl⟩:=erase_at _ k w.hk hx
     have h1:=gf.lh hj
     have h2:=gf.lh w.hk
     have ha:=w.at_
     have hlo:((fz h s).shards[k]).lo=s.shards[k].lo:=by rw[ha];rfl
     have hhi:((fz h s).shards[k]).hi=s.shards[k].hi:=by rw[ha];rfl
     have:((fz h s).shards[j]).newer (s.shards[k].moved (h.epoch+1))=false:=by
      unfold Shard.newer
      rcases Qx j k with h | h | h
      ·have:=gf.lt w.hk h
       have: ¬s.shards[k].lo≤((fz _ s).shards[j]).hi:=by omega
       simp[Shard.moved,this]
      ·exact absurd h hn
      ·have:=gf.lt hj h
       have: ¬((fz _ s).shards[j]).lo≤s.shards[k].hi:=by omega
       simp[Shard.moved,this]
     rw[this]
     rfl
 unfold liveTotal
 rw[h0,key]
 rfl
theorem Ready.first (r:Ready h s t k hk):Wat h s=(hm0 h,true)∧handHas s (hm0 h)=false∧(Wah (Wah s (hm0 h)).1 (hm0 h)).2=false∧(Wah s (hm0 h)).2=handHas (Wah s (hm0 h)).1 (hm0 h):=by
 have hno:handHas s (hm0 h)=false:=by
  have:s.atE h.lo 1 h.epoch=false:=by
   unfold Store.atE
   by_cases hc:0≤Waj s.shards h.lo 1
   ·obtain ⟨i,e1,hi,hp⟩:=WbV (p:=fun t:Shard=>(t.lo==h.lo)&&(t.state==1)) (xs:=s.shards) hc
    have e2:Waj s.shards h.lo 1=(i:Int):=e1
    have h1:=(r.g.good.sh _ (Qh hi)).2
    have h2:=r.e1
    have:s.shards[i].epoch≠h.epoch:=by omega
    rw[e2]
    simp[Shard.at_get hi,this]
   ·simp[hc]
  unfold handHas
  simp[hm0,this]
 by_cases ha:s.shards[k].state=0
 ·have l:=r.rail ha
  have w:=r.froze ha
  have h0:=l.s0
  rw[r.self] at h0
  refine ⟨h0,hno,?_,?_⟩
  ·rw[l.t0];simp only;rw[l.t01]
  ·rw[l.t0]
   simp only
   have:(fz h s).atE h.lo 1 h.epoch=true:=by
    unfold Store.atE
    rw[w.good.findAt_is w.hk (lo:=h.lo) (st:=1) (by rw[w.at_,r.lo];rfl) (by rw[w.at_];rfl)]
    simp[Shard.at_get w.hk,w.at_,Shard.cold]
   unfold handHas
   rw[(Store.good_iff _).2 w.good,r.fgr ha]
   simp[hm0,this]
 ·obtain ⟨h1,h2,h3⟩:=r.stay ha
  refine ⟨h1,hno,?_,?_⟩
  ·rw[h3];simp only;rw[h3]
  ·rw[h3];simp only;rw[hno]
end
section
variable {F:Nat→Option RF} {Z:Waf} {h0 h:Heap} {k:Nat} {x y:Cell} {code:List Int} {rows:List (List Cell)}
set_option maxHeartbeats 2000000 in
set_option maxRecDepth 8000 in
theorem l15DrawRight_c (K:KS F) (hS11:Has F tS11) (hS15:Has F tS15) (c:Cur h k x code):
 ∃(H:Hand) (s:Store) (n:Int) (i:Nat) (hi:i<s.shards.length) (cs:List Cell) (h':Heap) (fp:List Nat),
  call F Z 410 [.c (.ptr k 0 0),.c x] h=some (.tup [.agg H.enc,.agg cs,.agg [.int .i64 2,.int .i64 n,.nil]],h')∧Drawn h h' k cs s fp∧Ready H s (Store.void 2 n) i hi∧Dr k h h'∧Cur h' k x code:=by
 obtain ⟨s,cs,h1,fp,e1,w1,hg,s1,s2,d1,c1⟩:=l13DrawRight_c (Z:=Z) K hS11 c
 obtain ⟨l1,l2,l3⟩:=Store.lenI w1.ri
 obtain ⟨r,h2,e2,r0,rnn,_,m2,c2⟩:=Wak (Z:=Z) K.s01 c1 4
 have r4:=rnn (by omega)
 have hw1:IntKind.i64.wrap (1+r)=1+r:=Wbr _ (by omega) (by omega)
 have hw2:IntKind.i64.wrap (s.seen+1)=s.seen+1:=Wbr _ (by omega) (by omega)
 have hpos:=w1.pos
 have hl8:=w1.sg.good.len
 have W:=w1
 obtain ⟨z,q,rfl,rfl,wz⟩:=w1.ri
 have hwl:=wz.len
 rw[Wac F Z (hS15.lk (g:=410) rfl) _ _ rfl]
 by_cases hgt:1+r>s.seen+1
 ·obtain ⟨r2,h3,e3,r20,r2n,_,m3,c3⟩:=Wak (Z:=Z) K.s01 c2 2
  have r22:=r2n (by omega)
  have hw3:IntKind.i64.wrap (1+r+r2)=1+r+r2:=Wbr _ (by omega) (by omega)
  obtain ⟨r3,h4,e4,r30,r3n,_,m4,c4⟩:=Wak (Z:=Z) K.s01 c3 (s.shards.length:Int)
  have r33:=r3n (by omega)
  obtain ⟨i,rfl⟩: ∃i:Nat,r3=(i:Int):=⟨r3.toNat,by omega⟩
  have hi:i<s.shards.length:=by omega
  have dd:=(m2.dr.trans m3.dr).trans m4.dr
  have hix:=wz.idx hi
  obtain ⟨rr,ff,hld,hr,_⟩:=wz.oneDr w1.far hi
  have hld4:=hld h4 dd
  obtain ⟨a1,a2,a3,a4,rfl,_,_,_⟩:=hr
  refine ⟨⟨s.shards[i].lo,1,2,1+r+r2,0⟩,s,1+r,i,hi,_,h4,_,?_,W.dr dd,⟨w1.sg,hg,rfl,by show 0≤1+r;omega,rfl,rfl,rfl,rfl,by show s.seen<1+r+r2;omega,by show 1+r≤1+r+r2;omega,by show 1+r+r2≤900000;omega⟩,d1.trans dd,c4⟩
  simp only[rn,RO.dst,lk,drop,Nat.reduceBEq,Nat.reduceAdd,Nat.reduceLeDiff,↓reduceIte,reduceCtorEq,Qb,Qa,Wav,and_self,Qd,Qe,Nat.reduceLT,Qf,Qg,e1,l1,l2,l3,e2,hw1,hw2,hgt,e3,hw3,hwl,e4,hix,hld4,Hand.enc]
 ·obtain ⟨r3,h4,e4,r30,r3n,_,m4,c4⟩:=Wak (Z:=Z) K.s01 c2 (s.shards.length:Int)
  have r33:=r3n (by omega)
  obtain ⟨i,rfl⟩: ∃i:Nat,r3=(i:Int):=⟨r3.toNat,by omega⟩
  have hi:i<s.shards.length:=by omega
  have dd:=m2.dr.trans m4.dr
  have hix:=wz.idx hi
  obtain ⟨rr,ff,hld,hr,_⟩:=wz.oneDr w1.far hi
  have hld4:=hld h4 dd
  obtain ⟨a1,a2,a3,a4,rfl,_,_,_⟩:=hr
  refine ⟨⟨s.shards[i].lo,1,2,s.seen+1,0⟩,s,1+r,i,hi,_,h4,_,?_,W.dr dd,⟨w1.sg,hg,rfl,by show 0≤1+r;omega,rfl,rfl,rfl,rfl,by show s.seen<s.seen+1;omega,by show 1+r≤s.seen+1;omega,by show s.seen+1≤900000;omega⟩,d1.trans dd,c4⟩
  simp only[rn,RO.dst,lk,drop,Nat.reduceBEq,Nat.reduceAdd,Nat.reduceLeDiff,↓reduceIte,reduceCtorEq,Qb,Qa,Wav,and_self,Qd,Qe,Nat.reduceLT,Qf,Qg,e1,l1,l2,l3,e2,hw1,hw2,hgt,hwl,e4,hix,hld4,Hand.enc]
set_option maxHeartbeats 2000000 in
set_option maxRecDepth 8000 in
theorem drawOps_turn (K:KS F) (hS15:Has F tS15) (hf:h0.floor≤h0.next) (w:Draw 15 h0 h k x code y rows) (hl:rows.length≤1000) (i:Int) (hi:0<i∧i≤1000):
 ∃(o:Int) (y':Cell) (h':Heap),(-9223372036854775808≤o∧o≤9223372036854775807)∧Draw 15 h0 h' k x code y' (rows++[Wai o])∧loop F Z [0,5,6] r411L0 ⟨[(0,.c (.ptr k 0 0)),(5,.c y),(6,.c (.int .i64 i))],[],[],h⟩=loop F Z [0,5,6] r411L0 ⟨[(0,.c (.ptr k 0 0)),(5,.c y'),(6,.c (.int .i64 (i-1)))],[],[],h'⟩:=by
 have hws:IntKind.i64.wrap (i-1)=i-1:=Wbr _ (by omega) (by omega)
 obtain ⟨r1,h1,e1,r10,r1n,_,m1,c1⟩:=Wak (Z:=Z) K.s01 w.cux.cur 12
 have r1l:=r1n (by omega)
 obtain ⟨o,h2,e2,ho,d2,c2⟩:=pick_lit (Z:=Z) K.s01 c1 [0,0,0,1,1,1,1,4,2,3,7,r1,-1] (by simp) (by simp)
 simp only[List.map_cons,QT,Wai,Qt,QA,Nat.zero_add,Nat.reduceAdd] at e2
 have w1:=w.dr (m1.dr.trans d2) c2
 have eo:=w1.one_eq hf (bytes:=8) (by omega) (Wai o)
 have wo:=w1.one hf (by omega) (Wai o)
 have hpos:i>0:=hi.1
 simp only[Wai] at eo
 refine ⟨o,_,_,?_,wo,?_⟩
 ·simp only[Qo,Qm,or_false] at ho
  omega
 rw[Wab]
 conv in (Wad _ _ r411L0 _)=>unfold r411L0
 simp only[rn,RO.dst,lk,drop,Nat.reduceBEq,Nat.reduceAdd,Nat.reduceLeDiff,↓reduceIte,reduceCtorEq,hpos,e1,Qb,Qa,Wav,and_self,Qd,Qe,Nat.reduceLT,Qf,Qg,e2,eo,hws]
 rfl
theorem l15DrawOps_c (K:KS F) (hS15:Has F tS15) (hf:h0.floor≤h0.next) (w:Cux h0 h k x code):
 ∃(y:Cell) (h':Heap) (ops:List Int),call F Z 411 [.c (.ptr k 0 0),.c x] h=some (.c y,h')∧Draw 15 h0 h' k x code y (ops.map Wai)∧ops.length≤100∧ ∀o,o∈ops→ -9223372036854775808≤o∧o≤9223372036854775807:=by
 have wp:=w.go (On.push h [])
 obtain ⟨r1,e1,r1a,r1b⟩:=l01Size_c (Z:=Z) K.s01 wp.cur.vw 24 (by omega)
 have hw1:IntKind.i64.wrap (6+r1)=6+r1:=Wbr _ (by omega) (by omega)
 obtain ⟨n,h2,e2,n0,nn,_,m2,c2⟩:=Wak (Z:=Z) K.s01 wp.cur (6+r1)
 have hn:=nn (by omega)
 obtain ⟨m,rfl⟩: ∃m:Nat,n=(m:Int):=⟨n.toNat,by omega⟩
 rw[Wac F Z (hS15.lk (g:=411) rfl) _ _ rfl]
 simp only[rn,RO.dst,lk,drop,Nat.reduceBEq,Nat.reduceAdd,Nat.reduceLeDiff,↓reduceIte,reduceCtorEq,Qb,Qa,Wav,and_self,Qd,Qe,Nat.reduceLT,Qf,Qg,e1,hw1,e2]
 have key:=WaB (F:=F) (Z:=Z) (live:=[0,5,6]) (b:=r411L0) m (fun i s=> ∃(y:Cell) (g:Heap) (es:List Int),s=⟨[(0,.c (.ptr k 0 0)),(5,.c y),(6,.c (.int .i64 ((m:Int)-(i:Nat))))],[],[],g⟩∧Draw 15 h0 g k x code y (es.map Wai)∧es.length=i∧ ∀o,o∈es→ -9223372036854775808≤o∧o≤9223372036854775807) (fun i s hi ⟨y,g,es,hs,wd,hle,hok⟩=>by
  subst hs
  obtain ⟨e,y',g',oke,wd',eq⟩:=drawOps_turn (F:=F) (Z:=Z) K hS15 hf wd (by simp;omega) ((m:Int)-(i:Nat)) (by omega)
  refine ⟨_,⟨y',g',es++[e],rfl,by simpa using wd',by simp[hle],fun q hq=> ?_⟩,?_⟩
  ·rcases Ql.1 hq with hq | hq
   ·exact hok q hq
   ·simp at hq;subst hq;exact oke
  ·rw[eq,show (m:Int)-(i:Nat)-1=(m:Int)-((i+1:Nat):Int) by omega]) (s:=⟨[(0,.c (.ptr k 0 0)),(5,.c (.sl 15 h.next 0 0)),(6,.c (.int .i64 ((m:Int)-((0:Nat):Int))))],[],[],h2⟩) ⟨_,_,[],rfl,by simpa using (Draw.start w).dr m2.dr c2,rfl,fun _ h=>(nomatch h)⟩
 obtain ⟨s',⟨y,g,es,rfl,wd,hle,hok⟩,e⟩:=key
 rw[show (m:Int)-((0:Nat):Int)=(m:Int) by omega] at e
 rw[e,Wab]
 conv in (Wad _ _ r411L0 _)=>unfold r411L0
 simp only[rn,RO.dst,lk,drop,Nat.reduceBEq,Nat.reduceAdd,Nat.reduceLeDiff,↓reduceIte,reduceCtorEq,show ¬((m:Int)-(m:Int)>0) by omega]
 exact ⟨_,_,es,rfl,wd,by omega,hok⟩
set_option maxHeartbeats 2000000 in
set_option maxRecDepth 8000 in
theorem DrawRightHand_c (K:KS F) (hS11:Has F tS11) (hS15:Has F tS15) (hf:h.floor≤h.next) (w:Vw 19 byte_enc h x code):
 ∃(H:Hand) (s:Store) (n:Int) (i:Nat) (hi:i<s.shards.length) (cs:List Cell) (g:Heap) (fp fy:List Nat) (ops:List Int) (y:Cell),
  call F Z 409 [.c x] h=some (.tup [.agg H.enc,.agg cs,.agg [.int .i64 2,.int .i64 n,.nil],.c y],g)∧On h g∧Store.RI g cs s fp∧Ready H s (Store.void 2 n) i hi∧s.seen≤900000∧SlR 15 (Fl Wai) g y ops fy∧ops.length≤100∧ ∀o,o∈ops→ -9223372036854775808≤o∧o≤9223372036854775807:=by
 obtain ⟨h1,e1,o1,c1⟩:=l01New_c (Z:=Z) K.s01 hf w
 obtain ⟨H,s,n,i,hi,cs,h2,fp,e2,w2,rd,d2,c2⟩:=l15DrawRight_c (Z:=Z) K hS11 hS15 c1
 obtain ⟨l1,l2,l3⟩:=Store.lenI w2.ri
 obtain ⟨y,g,ops,e3,wd,hl,hok⟩:=l15DrawOps_c (Z:=Z) K hS15 c2.le (Cux.self c2)
 obtain ⟨fy,y1,y2,y3⟩:=wd.sep
 have dl:=wd.cux.dr
 have hse:=rd.e1
 have hse3:=rd.e3
 refine ⟨H,s,n,i,hi,cs,g,fp,fy,ops,y,?_,(d2.trans dl).base o1 (Qj _),Store.okI.dr w2.ri dl w2.far,rd,by omega,SlR.ofRaw y1,hl,hok⟩
 rw[Wac F Z (hS15.lk (g:=409) rfl) _ _ rfl]
 simp only[Hand.enc] at e2 ⊢
 simp only[rn,RO.dst,lk,drop,Nat.reduceBEq,Nat.reduceAdd,Nat.reduceLeDiff,↓reduceIte,reduceCtorEq,Qb,Qa,Wav,and_self,Qd,Qe,Nat.reduceLT,Qf,Qg,e1,e2,l1,l2,l3,e3]
end
theorem same_dec (x y:Int):(x==y)=decide (x=y):=by rw[QJ];simp
theorem sameA_eqs (a b:Account):eqsR true [.i .u64,.i .u64,.i .u64,.i .u64,.i .i64] (some (.agg a.enc)) (some (.agg b.enc))=some (.bool (!decide (a=b))):=by
 obtain ⟨a1,a2,a3,a4,a5⟩:=a
 obtain ⟨b1,b2,b3,b4,b5⟩:=b
 have hc:Wbb [.i .u64,.i .u64,.i .u64,.i .u64,.i .i64] (Account.enc ⟨a1,a2,a3,a4,a5⟩) (Account.enc ⟨b1,b2,b3,b4,b5⟩)=some (decide ((⟨a1,a2,a3,a4,a5⟩:Account)=⟨b1,b2,b3,b4,b5⟩)):=by
  simp only[Wbb,eqK,Account.enc,same_dec]
  by_cases h1:a1=b1<;>by_cases h2:a2=b2<;>by_cases h3:a3=b3<;>by_cases h4:a4=b4<;>by_cases h5:a5=b5<;>simp[h1,h2,h3,h4,h5]
 simp only[eqsR,hc,Account.len,Qt,QA,and_self,if_true,QP,QS]
theorem sameF_eqs (a b:Fin):eqsR true [.i .i64,.i .u64] (some (.agg a.enc)) (some (.agg b.enc))=some (.bool (!decide (a=b))):=by
 obtain ⟨a1,a2⟩:=a
 obtain ⟨b1,b2⟩:=b
 have hc:Wbb [.i .i64,.i .u64] (Fin.enc ⟨a1,a2⟩) (Fin.enc ⟨b1,b2⟩)=some (decide ((⟨a1,a2⟩:Fin)=⟨b1,b2⟩)):=by
  simp only[Wbb,eqK,Fin.enc,same_dec]
  by_cases h1:a1=b1<;>by_cases h2:a2=b2<;>simp[h1,h2]
 simp only[eqsR,hc,Fin.len,Qt,QA,and_self,if_true,QP,QS]
section
variable {F:Nat→Option RF} {Z:Waf} {h:Heap} {cs cs':List Cell} {fp fq:List Nat}
theorem sameBook_r {t u:Book} (hLBook:Has F tLBook) (v:Book.RI h cs t fp) (v':Book.RI h cs' u fq):call F Z 397 [.agg cs,.agg cs'] h=some (.c (.bool (decide (t=u))),h):=by
 obtain ⟨x,p1,rfl,rfl,w⟩:=v
 obtain ⟨y,p1',rfl,rfl,v⟩:=v'
 obtain ⟨xs⟩:=t
 obtain ⟨ys⟩:=u
 simp only at w v
 have hw:=w.le2
 have hv:=v.le2
 have hq:decide ((⟨xs⟩:Book)=⟨ys⟩)=decide (xs=ys):=by simp
 rw[hq,Wac F Z (hLBook.lk (g:=397) rfl) _ _ rfl]
 simp only[rn,RO.dst,lk,drop,Nat.reduceBEq,Nat.reduceAdd,Nat.reduceLeDiff,↓reduceIte,reduceCtorEq,w.len,v.len]
 rw[Was]
 split
 ·rename_i hne
  have:xs≠ys:=by rintro rfl;simp at hne
  simp only[rn,RO.dst,lk,drop,Nat.reduceBEq,Nat.reduceAdd,Nat.reduceLeDiff,↓reduceIte,reduceCtorEq,this]
 ·rename_i he
  have he:xs.length=ys.length:=by simp at he;omega
  simp only[rn,RO.dst,lk,drop,Nat.reduceBEq,Nat.reduceAdd,Nat.reduceLeDiff,↓reduceIte,reduceCtorEq]
  have key:=loop_allN (F:=F) (Z:=Z) (live:=[2,3,5]) (b:=r397L0) xs.length (fun i=>⟨[(5,.c (.int .i64 (i:Nat)))],[(2,2,0),(3,3,0)],[(2,[x]),(3,[y])],h⟩) (fun i=>decide (xs[i]? =ys[i]?)) (fun s=>lk s.env 4=some (.c (.bool false))∧s.hp=h) fun i hi=>by
   have hi':i<ys.length:=by omega
   have hlt:(i:Int)<xs.length:=by omega
   have hl1:=w.load hi
   have hl2:=v.load hi'
   rw[Wab]
   conv in (Wad _ _ r397L0 _)=>unfold r397L0
   simp only[rn,RO.dst,lk,drop,Nat.reduceBEq,Nat.reduceAdd,Nat.reduceLeDiff,↓reduceIte,reduceCtorEq,w.len,hlt,w.idx hi,v.idx hi',hl1,hl2,Account.len,Account.tak,sameA_eqs,WaS i (by omega)]
   rw[Qc hi,Qc hi']
   by_cases hq:xs[i]=ys[i]
   ·simp only[rn,RO.dst,lk,drop,Nat.reduceBEq,Nat.reduceAdd,Nat.reduceLeDiff,↓reduceIte,reduceCtorEq,hq,WaS i (by omega)]
    exact .inl ⟨by simp,rfl⟩
   ·simp only[rn,RO.dst,lk,drop,Nat.reduceBEq,Nat.reduceAdd,Nat.reduceLeDiff,↓reduceIte,reduceCtorEq,hq]
    exact .inr ⟨by simp[hq],_,rfl,rfl,rfl⟩
  rw[all_same he] at key
  rcases key with ⟨k1,k2⟩ | ⟨k1,s,k2,k3,k4⟩
  ·simp only[show ((0:Nat):Int)=0 from rfl] at k2
   rw[k2,Wab]
   conv in (Wad _ _ r397L0 _)=>unfold r397L0
   have hlt: ¬(xs.length:Int)<xs.length:=by omega
   simp only[rn,RO.dst,lk,drop,Nat.reduceBEq,Nat.reduceAdd,Nat.reduceLeDiff,↓reduceIte,reduceCtorEq,w.len,hlt,k1]
  ·simp only[show ((0:Nat):Int)=0 from rfl] at k2
   rw[k2]
   simp only[rn,RO.dst,lk,drop,Nat.reduceBEq,Nat.reduceAdd,Nat.reduceLeDiff,↓reduceIte,reduceCtorEq,k3,k4,k1]
set_option maxHeartbeats 2000000 in
theorem sameShard_r {t u:Shard} (hLShard:Has F tLShard) (hLBook:Has F tLBook) (v:Shard.RI h cs t fp) (v':Shard.RI h cs' u fq):call F Z 394 [.agg cs,.agg cs'] h=some (.c (.bool (decide (t=u))),h):=by
 obtain ⟨x1,p1,x,p2,rfl,rfl,w1,w⟩:=v
 obtain ⟨y1,p1',y,p2',rfl,rfl,v1,v⟩:=v'
 obtain ⟨lo1,hi1,state1,epoch1,book1,xs⟩:=t
 obtain ⟨lo2,hi2,state2,epoch2,book2,ys⟩:=u
 simp only at w v w1 v1
 have hw:=w.le2
 have hv:=v.le2
 have e0:=sameBook_r (Z:=Z) hLBook (⟨x1,_,rfl,rfl,w1⟩:Book.RI h _ book1 _) (⟨y1,_,rfl,rfl,v1⟩:Book.RI h _ book2 _)
 rw[Wac F Z (hLShard.lk (g:=394) rfl) _ _ rfl]
 cases q1:(lo1 !=lo2) with
 | true=>
   have hne:lo1≠lo2:=by simpa using q1
   simp only[rn,RO.dst,lk,drop,Nat.reduceBEq,Nat.reduceAdd,Nat.reduceLeDiff,↓reduceIte,reduceCtorEq,q1]
   simp[hne]
 | false=>
 cases q2:(hi1 !=hi2) with
 | true=>
   have hne:hi1≠hi2:=by simpa using q2
   simp only[rn,RO.dst,lk,drop,Nat.reduceBEq,Nat.reduceAdd,Nat.reduceLeDiff,↓reduceIte,reduceCtorEq,q1,q2]
   simp[hne]
 | false=>
 cases q3:(state1 !=state2) with
 | true=>
   have hne:state1≠state2:=by simpa using q3
   simp only[rn,RO.dst,lk,drop,Nat.reduceBEq,Nat.reduceAdd,Nat.reduceLeDiff,↓reduceIte,reduceCtorEq,q1,q2,q3]
   simp[hne]
 | false=>
 cases q4:(epoch1 !=epoch2) with
 | true=>
   have hne:epoch1≠epoch2:=by simpa using q4
   simp only[rn,RO.dst,lk,drop,Nat.reduceBEq,Nat.reduceAdd,Nat.reduceLeDiff,↓reduceIte,reduceCtorEq,q1,q2,q3,q4]
   simp[hne]
 | false=>
 by_cases q5:book1=book2
 case neg=>
  simp only[q5,decide_false] at e0
  simp only[rn,RO.dst,lk,drop,Nat.reduceBEq,Nat.reduceAdd,Nat.reduceLeDiff,↓reduceIte,reduceCtorEq,q1,q2,q3,q4,e0]
  simp[q5]
 simp only[q5,decide_true] at e0
 cases q6:(((xs.length:Nat):Int) !=((ys.length:Nat):Int)) with
 | true=>
   have hne:xs≠ys:=by rintro rfl;simp at q6
   simp only[rn,RO.dst,lk,drop,Nat.reduceBEq,Nat.reduceAdd,Nat.reduceLeDiff,↓reduceIte,reduceCtorEq,q1,q2,q3,q4,e0,w.len,v.len,q6]
   simp[hne]
 | false=>
 have he:xs.length=ys.length:=by simp at q6;omega
 have t1:lo1=lo2:=by simpa using q1
 have t2:hi1=hi2:=by simpa using q2
 have t3:state1=state2:=by simpa using q3
 have t4:epoch1=epoch2:=by simpa using q4
 have hq:decide ((⟨lo1,hi1,state1,epoch1,book1,xs⟩:Shard)=⟨lo2,hi2,state2,epoch2,book2,ys⟩)=decide (xs=ys):=by simp[t1,t2,t3,t4,q5]
 rw[hq]
 have key:=loop_allN (F:=F) (Z:=Z) (live:=[2,3,5]) (b:=r394L0) xs.length (fun i=>⟨[(5,.c (.int .i64 (i:Nat)))],[(2,2,0),(3,3,0)],[(2,[.int .u64 lo1,.int .u64 hi1,.int .i64 state1,.int .i64 epoch1,x1,x]),(3,[.int .u64 lo2,.int .u64 hi2,.int .i64 state2,.int .i64 epoch2,y1,y])],h⟩) (fun i=>decide (xs[i]? =ys[i]?)) (fun s=>lk s.env 4=some (.c (.bool false))∧s.hp=h) fun i hi=>by
  have hi':i<ys.length:=by omega
  have hlt:(i:Int)<xs.length:=by omega
  have hl1:=w.load hi
  have hl2:=v.load hi'
  rw[Wab]
  conv in (Wad _ _ r394L0 _)=>unfold r394L0
  simp only[rn,RO.dst,lk,drop,Nat.reduceBEq,Nat.reduceAdd,Nat.reduceLeDiff,↓reduceIte,reduceCtorEq,w.len,hlt,w.idx hi,v.idx hi',hl1,hl2,Fin.len,Fin.tak,sameF_eqs,WaS i (by omega)]
  rw[Qc hi,Qc hi']
  by_cases hq:xs[i]=ys[i]
  ·simp only[rn,RO.dst,lk,drop,Nat.reduceBEq,Nat.reduceAdd,Nat.reduceLeDiff,↓reduceIte,reduceCtorEq,hq,WaS i (by omega)]
   exact .inl ⟨by simp,rfl⟩
  ·simp only[rn,RO.dst,lk,drop,Nat.reduceBEq,Nat.reduceAdd,Nat.reduceLeDiff,↓reduceIte,reduceCtorEq,hq]
   exact .inr ⟨by simp[hq],_,rfl,rfl,rfl⟩
 rw[all_same he] at key
 simp only[rn,RO.dst,lk,drop,Nat.reduceBEq,Nat.reduceAdd,Nat.reduceLeDiff,↓reduceIte,reduceCtorEq,q1,q2,q3,q4,e0,w.len,v.len,q6]
 rcases key with ⟨k1,k2⟩ | ⟨k1,s,k2,k3,k4⟩
 ·simp only[show ((0:Nat):Int)=0 from rfl] at k2
  rw[k2,Wab]
  conv in (Wad _ _ r394L0 _)=>unfold r394L0
  have hlt: ¬(xs.length:Int)<xs.length:=by omega
  simp only[rn,RO.dst,lk,drop,Nat.reduceBEq,Nat.reduceAdd,Nat.reduceLeDiff,↓reduceIte,reduceCtorEq,w.len,hlt,k1]
 ·simp only[show ((0:Nat):Int)=0 from rfl] at k2
  rw[k2]
  simp only[rn,RO.dst,lk,drop,Nat.reduceBEq,Nat.reduceAdd,Nat.reduceLeDiff,↓reduceIte,reduceCtorEq,k3,k4,k1]
set_option maxHeartbeats 2000000 in
theorem sameStore_r {t u:Store} (hLStore:Has F tLStore) (hLShard:Has F tLShard) (hLBook:Has F tLBook) (v:Store.RI h cs t fp) (v':Store.RI h cs' u fq):call F Z 385 [.agg cs,.agg cs'] h=some (.c (.bool (decide (t=u))),h):=by
 obtain ⟨x,p2,rfl,rfl,w⟩:=v
 obtain ⟨y,p2',rfl,rfl,v⟩:=v'
 obtain ⟨g1,s1,xs⟩:=t
 obtain ⟨g2,s2,ys⟩:=u
 simp only at w v
 have hw:=w.le2
 have hv:=v.le2
 rw[Wac F Z (hLStore.lk (g:=385) rfl) _ _ rfl]
 cases q1:(g1 !=g2) with
 | true=>
   have hne:g1≠g2:=by simpa using q1
   simp only[rn,RO.dst,lk,drop,Nat.reduceBEq,Nat.reduceAdd,Nat.reduceLeDiff,↓reduceIte,reduceCtorEq,q1]
   simp[hne]
 | false=>
 cases q2:(s1 !=s2) with
 | true=>
   have hne:s1≠s2:=by simpa using q2
   simp only[rn,RO.dst,lk,drop,Nat.reduceBEq,Nat.reduceAdd,Nat.reduceLeDiff,↓reduceIte,reduceCtorEq,q1,q2]
   simp[hne]
 | false=>
 cases q6:(((xs.length:Nat):Int) !=((ys.length:Nat):Int)) with
 | true=>
   have hne:xs≠ys:=by rintro rfl;simp at q6
   simp only[rn,RO.dst,lk,drop,Nat.reduceBEq,Nat.reduceAdd,Nat.reduceLeDiff,↓reduceIte,reduceCtorEq,q1,q2,w.len,v.len,q6]
   simp[hne]
 | false=>
 have he:xs.length=ys.length:=by simp at q6;omega
 have t1:g1=g2:=by simpa using q1
 have t2:s1=s2:=by simpa using q2
 have hq:decide ((⟨g1,s1,xs⟩:Store)=⟨g2,s2,ys⟩)=decide (xs=ys):=by simp[t1,t2]
 rw[hq]
 have key:=loop_allN (F:=F) (Z:=Z) (live:=[2,3,5]) (b:=r385L0) xs.length (fun i=>⟨[(5,.c (.int .i64 (i:Nat)))],[(2,2,0),(3,3,0)],[(2,[.int .i64 g1,.int .i64 s1,x]),(3,[.int .i64 g2,.int .i64 s2,y])],h⟩) (fun i=>decide (xs[i]? =ys[i]?)) (fun s=>lk s.env 4=some (.c (.bool false))∧s.hp=h) fun i hi=>by
  have hi':i<ys.length:=by omega
  have hlt:(i:Int)<xs.length:=by omega
  obtain ⟨r,f,hld,hr,_⟩:=w.one hi
  obtain ⟨r',f',hld',hr',_⟩:=v.one hi'
  obtain ⟨l1,l2,l3⟩:=Shard.lenI hr
  obtain ⟨l1',l2',l3'⟩:=Shard.lenI hr'
  have e:=sameShard_r (Z:=Z) (h:=⟨h.next,h.next,h.get⟩) hLShard hLBook (Shard.okI.up hr _) (Shard.okI.up hr' _)
  rw[Wab]
  conv in (Wad _ _ r385L0 _)=>unfold r385L0
  simp only[rn,RO.dst,lk,drop,Nat.reduceBEq,Nat.reduceAdd,Nat.reduceLeDiff,↓reduceIte,reduceCtorEq,w.len,hlt,w.idx hi,v.idx hi',hld,hld',l1,l2,l1',l2',e,WaS i (by omega)]
  rw[Qc hi,Qc hi']
  by_cases hq:xs[i]=ys[i]
  ·simp only[rn,RO.dst,lk,drop,Nat.reduceBEq,Nat.reduceAdd,Nat.reduceLeDiff,↓reduceIte,reduceCtorEq,hq,WaS i (by omega)]
   exact .inl ⟨by simp,rfl⟩
  ·simp only[rn,RO.dst,lk,drop,Nat.reduceBEq,Nat.reduceAdd,Nat.reduceLeDiff,↓reduceIte,reduceCtorEq,hq]
   exact .inr ⟨by simp[hq],_,rfl,rfl,rfl⟩
 rw[all_same he] at key
 simp only[rn,RO.dst,lk,drop,Nat.reduceBEq,Nat.reduceAdd,Nat.reduceLeDiff,↓reduceIte,reduceCtorEq,q1,q2,w.len,v.len,q6]
 rcases key with ⟨k1,k2⟩ | ⟨k1,s,k2,k3,k4⟩
 ·simp only[show ((0:Nat):Int)=0 from rfl] at k2
  rw[k2,Wab]
  conv in (Wad _ _ r385L0 _)=>unfold r385L0
  have hlt: ¬(xs.length:Int)<xs.length:=by omega
  simp only[rn,RO.dst,lk,drop,Nat.reduceBEq,Nat.reduceAdd,Nat.reduceLeDiff,↓reduceIte,reduceCtorEq,w.len,hlt,k1]
 ·simp only[show ((0:Nat):Int)=0 from rfl] at k2
  rw[k2]
  simp only[rn,RO.dst,lk,drop,Nat.reduceBEq,Nat.reduceAdd,Nat.reduceLeDiff,↓reduceIte,reduceCtorEq,k3,k4,k1]
end
theorem On.put_ {h g:Heap} (o:On h g) {k:Nat} (hk:h.next≤k) (rows:List (List Cell)):On h (g.put k rows):=⟨⟨o.ext.1,fun id hid=>by
 rw[WbO _ (by omega)];exact o.ext.2 id hid⟩,o.fl⟩
structure Net {β:Type} (P:Rel β) (tag:Nat) (h0 g:Heap) (ks:List Nat) (y:Cell) (rows:List (List Cell)) (bs:List β) (fy:List Nat):Prop where
 sl:SlR tag (Fl fun r=>r) g y rows fy
 fre:Fre h0 fy
 on:On h0 g
 len:rows.length=bs.length
 ky: ∀k,k∈ks→k∉fy∧k<g.next
 el: ∀(i:Nat) (b:β),bs[i]? =some b→ ∃r f,rows[i]? =some r∧P g r b f∧ ∀id,id∈f→h0.next≤id∧id∉fy∧id∉ks
section
variable {β:Type} {P:Rel β} {tag:Nat} {h0 g g':Heap} {ks:List Nat} {y z:Cell} {rows:List (List Cell)} {bs:List β} {fy fz:List Nat}
theorem Net.go (w:Net P tag h0 g ks y rows bs fy) (ok:RelOk P) (o:On g g'):Net P tag h0 g' ks y rows bs fy where
 sl:=w.sl.on (Fl.ok _) o
 fre:=w.fre
 on:=w.on.trans o
 len:=w.len
 ky:=fun k hk=>⟨(w.ky k hk).1,QL (w.ky k hk).2 o.ext.1⟩
 el:=fun i b hb=>by
  obtain ⟨r,f,q1,q2,q3⟩:=w.el i b hb
  exact ⟨r,f,q1,ok.on q2 o,q3⟩
theorem Net.of_re (w:Net P tag h0 g ks y rows bs fy) (ok:RelOk P) (re:Re g g' fy fz) {rows':List (List Cell)} {bs':List β} (s:SlR tag (Fl fun r=>r) g' z rows' fz) (hl:rows'.length=bs'.length)
 (he: ∀(i:Nat) (b:β),bs'[i]? =some b→(∃j:Nat,bs[j]? =some b∧rows'[i]? =rows[j]?)∨ ∃r f,rows'[i]? =some r∧P g r b f∧ ∀id,id∈f→h0.next≤id∧id∉fy∧id∉ks):Net P tag h0 g' ks z rows' bs' fz where
 sl:=s
 fre:=re.fre w.on w.fre
 on:=re.on w.on w.fre
 len:=hl
 ky:=fun k hk=>⟨fun hz=>by
  obtain ⟨q1,q2⟩:=w.ky k hk
  rcases re.of k hz with h | h
  ·exact q1 h
  ·omega,QL (w.ky k hk).2 re.le⟩
 el:=fun i b hb=>by
  have key: ∃r f,rows'[i]? =some r∧P g r b f∧ ∀id,id∈f→h0.next≤id∧id∉fy∧id∉ks:=by
   rcases he i b hb with ⟨j,h1,h2⟩ | h
   ·obtain ⟨r,f,q1,q2,q3⟩:=w.el j b h1
    exact ⟨r,f,h2.trans q1,q2,q3⟩
   ·exact h
  obtain ⟨r,f,q1,q2,q3⟩:=key
  refine ⟨r,f,q1,ok.mv q2 re.le fun id hid=>re.get id (ok.lt q2 id hid) (q3 id hid).2.1,fun id hid=>⟨(q3 id hid).1,fun hz=> ?_,(q3 id hid).2.2⟩⟩
  have:=ok.lt q2 id hid
  rcases re.of id hz with h | h
  ·exact (q3 id hid).2.1 h
  ·omega
theorem Net.push_ (w:Net P tag h0 g ks y rows bs fy) (ok:RelOk P) (hf:h0.floor≤h0.next) (hl:rows.length+1≤140737488355328) {cs:List Cell} {b:β} {f:List Nat} (v:P g cs b f) (hv: ∀id,id∈f→h0.next≤id∧id∉fy∧id∉ks):
 ∃fz,Net P tag h0 (catH (g.push [cs]) y [cs]) ks (catX tag (g.push [cs]) y 1) (rows++[cs]) (bs++[b]) fz∧Re g (catH (g.push [cs]) y [cs]) fy fz:=by
 have a0:Acc tag h0 g y rows:=⟨w.on,fy,w.sl,w.fre⟩
 have a:=a0.one hf hl cs
 obtain ⟨fz,q1,q2⟩:=a.sh
 have hyp:=w.sl.on (Fl.ok _) (On.push g [cs])
 have hz: ∀id,id∈fz→id=g.next+1:=fun id hid=>by
  have h3:id∈[(catX tag (g.push [cs]) y 1).sid]:=by
   rcases q1.flat with ⟨_,h4,_⟩ | ⟨_,_,_,h4⟩
   ·simp at h4
   ·rw[←h4];exact hid
  rw[catX_sid] at h3
  simpa[Heap.push] using h3
 have re:Re g (catH (g.push [cs]) y [cs]) fy fz:=⟨QH (by simp[Heap.push]) (catH_next (g.push [cs]) y [cs]),a.on.fl.trans w.on.fl.symm,fun id hid hn=>by
  rw[catH_keep hyp [cs] (by simp only[Heap.push];omega) hn]
  simp only[Heap.push];rw[if_neg (by omega)],q2.nd,fun id hid=> .inr (by have:=hz id hid;omega)⟩
 refine ⟨fz,w.of_re ok re q1 (by simp[w.len]) fun i b' hb=> ?_,re⟩
 by_cases hi:i<bs.length
 ·rw[QE hi] at hb
  exact .inl ⟨i,hb,by rw[QE (by rw[w.len];exact hi)]⟩
 ·have hie:i=bs.length:=by
   have:=(List.getElem?_eq_some_iff.1 hb).1
   simp at this;omega
  subst hie
  right
  have hb':b=b':=by simpa using hb
  subst hb'
  exact ⟨cs,f,by rw[←w.len];simp,v,hv⟩
theorem Net.del (w:Net P tag h0 g ks y rows bs fy) (ok:RelOk P) (hf:h0.floor≤h0.next) {i:Nat} (hi:i<bs.length):
 ∃z g' fz,delF tag [.c y,.c (.int .i64 (i:Nat)),.c (.int .i64 ((i+1:Nat):Int))] g=some (.c z,g')∧Net P tag h0 g' ks z (rows.eraseIdx i) (bs.eraseIdx i) fz∧Re g g' fy fz:=by
 obtain ⟨z,g',fz,e,s,re⟩:=w.sl.del (Fl.ok _) w.fre.nd (fun id hid=>by have:=w.fre.lo id hid;have:=w.on.fl;omega) (i:=i) (by rw[w.len];exact hi)
 refine ⟨z,g',fz,e,w.of_re ok re s (by rw[Qq,Qq,w.len]) fun j b hb=> .inl ?_,re⟩
 rw[Qr] at hb
 rw[Qr]
 split at hb
 ·rename_i h;rw[if_pos h];exact ⟨j,hb,rfl⟩
 ·rename_i h;rw[if_neg h];exact ⟨j+1,hb,rfl⟩
theorem Net.put (w:Net P tag h0 g ks y rows bs fy) (ok:RelOk P) {k:Nat} (hk:k∈ks) (h0k:h0.next≤k) (r:List (List Cell)):Net P tag h0 (g.put k r) ks y rows bs fy where
 sl:=w.sl.mv (Fl.ok _) (Qj _) fun id hid=>WbO _ fun e=>(w.ky k hk).1 (e▸hid)
 fre:=w.fre
 on:=w.on.put_ h0k r
 len:=w.len
 ky:=w.ky
 el:=fun i b hb=>by
  obtain ⟨r',f,q1,q2,q3⟩:=w.el i b hb
  exact ⟨r',f,q1,ok.mv q2 (Qj _) fun id hid=>WbO _ fun e=>(q3 id hid).2.2 (e▸hk),q3⟩
end
structure IP (h0 g:Heap) (k5 k6:Nat) (y:Cell) (ca cb:List Cell) (p:Play) (rows:List (List Cell)) (fy fa fb:List Nat):Prop where
 net:Net HandMsg.RI 22 h0 g [k5,k6] y rows p.net fy
 ra:g.get k5=some [ca]
 rb:g.get k6=some [cb]
 va:Store.RI g ca p.a fa
 vb:Store.RI g cb p.b fb
 fra:Fre h0 fa
 frb:Fre h0 fb
 sa: ∀id,id∈fa→id∉fy∧id∉[k5,k6]
 sb: ∀id,id∈fb→id∉fy∧id∉[k5,k6]
 dj: ∀id,id∈fa→id∉fb
 ne:k5≠k6
 lo:h0.next≤k5∧h0.next≤k6
 ok:p.Ok
section
variable {h0 g g' g1:Heap} {k5 k6:Nat} {y z:Cell} {ca cb cs:List Cell} {p:Play} {rows rows':List (List Cell)} {fy fz fa fb fq:List Nat}
theorem IP.far5 (J:IP h0 g k5 k6 y ca cb p rows fy fa fb):k5∉fy∧k5<g.next:=J.net.ky k5 (by simp)
theorem IP.far6 (J:IP h0 g k5 k6 y ca cb p rows fy fa fb):k6∉fy∧k6<g.next:=J.net.ky k6 (by simp)
theorem IP.go (J:IP h0 g k5 k6 y ca cb p rows fy fa fb) (o:On g g'):IP h0 g' k5 k6 y ca cb p rows fy fa fb:=
 {J with
  net:=J.net.go HandMsg.okI o
  ra:=(o.ext.2 _ J.far5.2).trans J.ra
  rb:=(o.ext.2 _ J.far6.2).trans J.rb
  va:=Store.okI.on J.va o
  vb:=Store.okI.on J.vb o}
theorem IP.re {l:List HandMsg} (J:IP h0 g k5 k6 y ca cb p rows fy fa fb) (re:Re g g' fy fz) (net:Net HandMsg.RI 22 h0 g' [k5,k6] z rows' l fz) (ok:({p with net:=l}:Play).Ok):IP h0 g' k5 k6 z ca cb {p with net:=l} rows' fz fa fb:=
 {net:=net
  ra:=(re.get _ J.far5.2 J.far5.1).trans J.ra
  rb:=(re.get _ J.far6.2 J.far6.1).trans J.rb
  va:=Store.okI.mv J.va re.le fun id hid=>re.get id (Store.okI.lt J.va id hid) (J.sa id hid).1
  vb:=Store.okI.mv J.vb re.le fun id hid=>re.get id (Store.okI.lt J.vb id hid) (J.sb id hid).1
  fra:=J.fra
  frb:=J.frb
  sa:=fun id hid=>⟨fun hz=>by
   have:=Store.okI.lt J.va id hid
   rcases re.of id hz with h | h
   ·exact (J.sa id hid).1 h
   ·omega,(J.sa id hid).2⟩
  sb:=fun id hid=>⟨fun hz=>by
   have:=Store.okI.lt J.vb id hid
   rcases re.of id hz with h | h
   ·exact (J.sb id hid).1 h
   ·omega,(J.sb id hid).2⟩
  dj:=J.dj
  ne:=J.ne
  lo:=J.lo
  ok:=ok}
theorem IP.setA {A:Store} (J:IP h0 g k5 k6 y ca cb p rows fy fa fb) (o:On g g1) (v:Store.RI g1 cs A fq) (f:Fre g fq) (ok:({p with a:=A}:Play).Ok):IP h0 (g1.put k5 [cs]) k5 k6 y cs cb {p with a:=A} rows fy fq fb:=by
 have W:=J.go o
 have h5:=J.far5
 have h6:=J.far6
 have hn:=J.net.on.ext.1
 exact
 {net:=W.net.put HandMsg.okI (by simp) J.lo.1 _
  ra:=by simp[Heap.put]
  rb:=(WbO _ (Ne.symm J.ne)).trans W.rb
  va:=Store.okI.mv v (Qj _) fun id hid=>WbO _ (by have:=f.lo id hid;omega)
  vb:=Store.okI.mv W.vb (Qj _) fun id hid=>WbO _ fun e=>(J.sb id hid).2 (by simp[e])
  fra:=⟨fun id hid=>by have:=f.lo id hid;omega,f.nd⟩
  frb:=J.frb
  sa:=fun id hid=>⟨fun hz=>by have:=f.lo id hid;have:=J.net.sl.lt (Fl.ok _) id hz;omega,fun hz=>by
   have:=f.lo id hid
   simp only[Qo,Qm,or_false] at hz
   omega⟩
  sb:=J.sb
  dj:=fun id hid hb=>by have:=f.lo id hid;have:=Store.okI.lt J.vb id hb;omega
  ne:=J.ne
  lo:=J.lo
  ok:=ok}
theorem IP.setB {B:Store} (J:IP h0 g k5 k6 y ca cb p rows fy fa fb) (o:On g g1) (v:Store.RI g1 cs B fq) (f:Fre g fq) (ok:({p with b:=B}:Play).Ok):IP h0 (g1.put k6 [cs]) k5 k6 y ca cs {p with b:=B} rows fy fa fq:=by
 have W:=J.go o
 have h5:=J.far5
 have h6:=J.far6
 have hn:=J.net.on.ext.1
 exact
 {net:=W.net.put HandMsg.okI (by simp) J.lo.2 _
  ra:=(WbO _ J.ne).trans W.ra
  rb:=by simp[Heap.put]
  va:=Store.okI.mv W.va (Qj _) fun id hid=>WbO _ fun e=>(J.sa id hid).2 (by simp[e])
  vb:=Store.okI.mv v (Qj _) fun id hid=>WbO _ (by have:=f.lo id hid;omega)
  fra:=J.fra
  frb:=⟨fun id hid=>by have:=f.lo id hid;omega,f.nd⟩
  sa:=J.sa
  sb:=fun id hid=>⟨fun hz=>by have:=f.lo id hid;have:=J.net.sl.lt (Fl.ok _) id hz;omega,fun hz=>by
   have:=f.lo id hid
   simp only[Qo,Qm,or_false] at hz
   omega⟩
  dj:=fun id hid hb=>by have:=f.lo id hb;have:=Store.okI.lt J.va id hid;omega
  ne:=J.ne
  lo:=J.lo
  ok:=ok}
theorem IP.setH {H:Hand} (J:IP h0 g k5 k6 y ca cb p rows fy fa fb) (ok:({p with hd:=H}:Play).Ok):IP h0 g k5 k6 y ca cb {p with hd:=H} rows fy fa fb:={J with ok:=ok}
end
theorem store_row {h:Heap} {k:Nat} {old new:List Cell} (hf:h.floor≤k) (hg:h.get k=some [old]) (hl:new.length=old.length):storeP h k 0 0 new=some (h.put k [new]):=by
 have:=storeP_at (rows:=[old]) (i:=0) (j:=0) (old:=old) (new:=new) (r:=new) hf hg rfl (by simp[splice?,hl])
 simpa using this
theorem quiet_go {a hq:Heap} (o:On ⟨a.next,a.next,a.get⟩ hq):On a (Heap.mk hq.next a.floor hq.get):=⟨⟨o.ext.1,o.ext.2⟩,rfl⟩
def pst (x y:Cell) (k5 k6 n:Nat) (hd:Hand) (i:Nat) (g:Heap):St:=
 ⟨[(5,.c (.ptr k5 0 0)),(6,.c (.ptr k6 0 0)),(11,.c y),(61,.c x),(62,.c (.int .i64 (n:Nat))),(63,.c (.int .i64 (i:Nat)))],[(4,4,0),(8,8,0),(9,9,0),(10,10,0)],
   [(4,hd.enc),(8,[.int .u64 0,.int .i64 0,.int .i64 0,.int .i64 0,.int .i64 0]),(9,[.int .i64 0,.int .i64 0,.nil]),(10,[.int .i64 0,.int .i64 0,.nil])],g⟩
section
variable {F:Nat→Option RF} {Z:Waf} {h0 g:Heap} {k5 k6:Nat} {x y:Cell} {ca cb:List Cell} {p:Play} {rows:List (List Cell)} {fy fa fb fo:List Nat} {ops:List Int}
set_option maxHeartbeats 4000000 in
theorem play_send (k:KI F) (hI15:Has F tI15) (hL:Has F Waa) (hf:h0.floor≤h0.next) (J:IP h0 g k5 k6 y ca cb p rows fy fa fb) (w:Vw 15 Wai h0 x ops) {i:Nat} (hi:i<ops.length) (hl:ops.length≤200) (ho:ops[i]=0):
 ∃g' y' rows' fy',IP h0 g' k5 k6 y' ca cb p.sends rows' fy' fa fb∧loop F Z [4,5,6,8,9,10,11,61,62,63] Wbp (pst x y k5 k6 ops.length p.hd i g)=loop F Z [4,5,6,8,9,10,11,61,62,63] Wbp (pst x y' k5 k6 ops.length p.sends.hd (i+1) g'):=by
 have wg:=w.on J.net.on
 have hlt:(i:Int)<ops.length:=by omega
 have hws:=WaS i (by omega)
 have hix:=wg.idx hi
 have hld:=wg.load hi
 rw[ho] at hld
 obtain ⟨l1,l2,l3⟩:=Store.lenI J.va
 have ld5:=fun j n=>Wbq J.ra (i:=0) rfl j n
 obtain ⟨cs,g1,fq,e1,o1,v1,f1⟩:=handSend_c (Z:=Z) k hI15 hL (J.net.on.le hf) p.hd J.va J.ok.a.1 J.ok.a.2
 obtain ⟨a1,a2,a3⟩:=HandMsg.lenI v1
 have J1:=J.go o1
 have hlen:=J1.net.sl.len
 have hrl:=J.net.len
 have hcap:=J.ok.net.1
 simp only[pst,Hand.enc] at *
 rw[Wab]
 conv in (Wad _ _ Wbp _)=>unfold Wbp
 unfold Play.sends Play.puts
 cases hs:(Wat p.hd p.a).2 with
 | false=>
   simp only[hs] at e1
   refine ⟨g1,y,rows,fy,J1,?_⟩
   simp only[rn,RO.dst,lk,drop,Nat.reduceBEq,Nat.reduceAdd,Nat.reduceLeDiff,↓reduceIte,reduceCtorEq,hlt,hix,hld,Wai,show ((0:Int)==0)=true from rfl,ld5,l1,l2,l3,e1,a1,a2,a3,hws]
 | true=>
   simp only[hs] at e1
   by_cases h40:p.net.length<40
   ·have h40':(rows.length:Int)<40:=by omega
    have eo:=(show Acc 22 h0 g1 y rows from ⟨J1.net.on,fy,J1.net.sl,J1.net.fre⟩).one_eq hf (bytes:=112) (by omega) cs
    obtain ⟨fz,net',re⟩:=J1.net.push_ HandMsg.okI hf (by omega) v1 fun id hid=>⟨by have:=f1.lo id hid;have:=J.net.on.ext.1;omega,fun hz=>by have:=f1.lo id hid;have:=J.net.sl.lt (Fl.ok _) id hz;omega,fun hz=>by
     have:=f1.lo id hid
     have:=J.far5
     have:=J.far6
     simp only[Qo,Qm,or_false] at hz
     omega⟩
    have ok':=J.ok.puts ⟨handSend_ok J.ok.hd J.ok.a.1,handSend_small J.ok.a.2 p.hd⟩
    unfold Play.puts at ok'
    simp only[h40,decide_true,cond_true] at ok' ⊢
    refine ⟨_,_,_,fz,J1.re re net' ok',?_⟩
    simp only[rn,RO.dst,lk,drop,Nat.reduceBEq,Nat.reduceAdd,Nat.reduceLeDiff,↓reduceIte,reduceCtorEq,Qb,Qa,Wav,and_self,Qd,Qe,Nat.reduceLT,Qf,Qg,hlt,hix,hld,Wai,show ((0:Int)==0)=true from rfl,ld5,l1,l2,l3,e1,a1,a2,a3,hlen,h40',eo,hws]
   ·have h40': ¬(rows.length:Int)<40:=by omega
    simp only[h40,decide_false,cond_false,cond_true]
    refine ⟨g1,y,rows,fy,J1,?_⟩
    simp only[rn,RO.dst,lk,drop,Nat.reduceBEq,Nat.reduceAdd,Nat.reduceLeDiff,↓reduceIte,reduceCtorEq,Qb,Qa,Wav,and_self,Qd,Qe,Nat.reduceLT,Qf,Qg,hlt,hix,hld,Wai,show ((0:Int)==0)=true from rfl,ld5,l1,l2,l3,e1,a1,a2,a3,hlen,h40',hws]
end
theorem place_eq {o:Int} (h0: ¬o<0) (h1:o≠0) (hb:o≤9223372036854775807):IntKind.i64.wrap (o-1)=o-1∧IntKind.i64.wrap ((o-1).tdiv 3)=((WaN o:Nat):Int):=by
 have e:(o-1).tdiv 3=(o-1) / 3:=Qs (by omega)
 refine ⟨Wbr _ (by omega) (by omega),?_⟩
 unfold WaN
 rw[e,Wbr _ (by omega) (by omega)]
 omega
section
variable {F:Nat→Option RF} {Z:Waf} {h0 g:Heap} {k5 k6:Nat} {x y:Cell} {ca cb:List Cell} {p:Play} {rows:List (List Cell)} {fy fa fb fo:List Nat} {ops:List Int}
set_option maxHeartbeats 4000000 in
theorem play_pass (J:IP h0 g k5 k6 y ca cb p rows fy fa fb) (w:Vw 15 Wai h0 x ops) {i:Nat} (hi:i<ops.length) (hl:ops.length≤200) (ho:ops[i]≠0) (hb:ops[i]≤9223372036854775807) (hp:ops[i]<0∨p.net.length≤WaN ops[i]):
 loop F Z [4,5,6,8,9,10,11,61,62,63] Wbp (pst x y k5 k6 ops.length p.hd i g)=loop F Z [4,5,6,8,9,10,11,61,62,63] Wbp (pst x y k5 k6 ops.length p.hd (i+1) g):=by
 have wg:=w.on J.net.on
 have hlt:(i:Int)<ops.length:=by omega
 have hws:=WaS i (by omega)
 have hix:=wg.idx hi
 have hld:=wg.load hi
 have hlen:=J.net.sl.len
 have hrl:=J.net.len
 generalize ops[i]=o at *
 have hn0:(o==0)=false:=by simpa using ho
 have bq:=fun a=>b_quo .i64 a 3 (by omega)
 simp only[pst,Hand.enc]
 rw[Wab]
 conv in (Wad _ _ Wbp _)=>unfold Wbp
 by_cases hneg:o<0
 ·simp only[rn,RO.dst,lk,drop,Nat.reduceBEq,Nat.reduceAdd,Nat.reduceLeDiff,↓reduceIte,reduceCtorEq,hlt,hix,hld,Wai,hn0,bq,hneg,hws]
 ·obtain ⟨q1,q2⟩:=place_eq hneg ho hb
  have hge:(rows.length:Int)≤((WaN o:Nat):Int):=by omega
  have hge':((WaN o:Nat):Int)≥(rows.length:Int):=hge
  simp only[rn,RO.dst,lk,drop,Nat.reduceBEq,Nat.reduceAdd,Nat.reduceLeDiff,↓reduceIte,reduceCtorEq,hlt,hix,hld,Wai,hn0,bq,hneg,q1,q2,hlen,hge,hge',hws]
set_option maxHeartbeats 4000000 in
theorem play_copy (hf:h0.floor≤h0.next) (J:IP h0 g k5 k6 y ca cb p rows fy fa fb) (w:Vw 15 Wai h0 x ops) {i:Nat} (hi:i<ops.length) (hl:ops.length≤200) (ho:ops[i]≠0) (hb:ops[i]≤9223372036854775807) (hneg: ¬ops[i]<0) (hk:WaN ops[i]<p.net.length) (h3:ops[i].tmod 3=0):
 ∃g' y' rows' fy',IP h0 g' k5 k6 y' ca cb (p.puts (HandMsg.at_ p.net (WaN ops[i]))) rows' fy' fa fb∧
  loop F Z [4,5,6,8,9,10,11,61,62,63] Wbp (pst x y k5 k6 ops.length p.hd i g)=loop F Z [4,5,6,8,9,10,11,61,62,63] Wbp (pst x y' k5 k6 ops.length (p.puts (HandMsg.at_ p.net (WaN ops[i]))).hd (i+1) g'):=by
 have wg:=w.on J.net.on
 have hlt:(i:Int)<ops.length:=by omega
 have hws:=WaS i (by omega)
 have hix:=wg.idx hi
 have hld:=wg.load hi
 have hlen:=J.net.sl.len
 have hrl:=J.net.len
 have hcap:=J.ok.net.1
 generalize ops[i]=o at *
 have hn0:(o==0)=false:=by simpa using ho
 have bq:=fun a=>b_quo .i64 a 3 (by omega)
 have br:=fun a=>b_rem .i64 a 3 (by omega)
 obtain ⟨q1,q2⟩:=place_eq hneg ho hb
 have hge: ¬(rows.length:Int)≤((WaN o:Nat):Int):=by omega
 have hge': ¬((WaN o:Nat):Int)≥(rows.length:Int):=hge
 have h30:(o.tmod 3==0)=true:=by simp[h3]
 have hokm:=J.ok.at_ hk
 generalize WaN o=kk at *
 obtain ⟨r,f,hr,vr,hfr⟩:=J.net.el kk p.net[kk] (Qc hk)
 obtain ⟨b1,b2,b3⟩:=HandMsg.lenI vr
 have hkr:kk<rows.length:=by omega
 have hrk:rows[kk]=r:=by
  rw[Qc hkr] at hr;injection hr
 have hmx:=J.net.sl.idx hkr
 have hml:=J.net.sl.load hkr
 simp only[hrk] at hml
 rw[HandMsg.at_get hk] at hokm ⊢
 simp only[pst,Hand.enc]
 rw[Wab]
 conv in (Wad _ _ Wbp _)=>unfold Wbp
 unfold Play.puts
 by_cases h40:p.net.length<40
 ·have h40':(rows.length:Int)<40:=by omega
  have eo:=(show Acc 22 h0 g y rows from ⟨J.net.on,fy,J.net.sl,J.net.fre⟩).one_eq hf (bytes:=112) (by omega) r
  obtain ⟨fz,net',re⟩:=J.net.push_ HandMsg.okI hf (by omega) vr hfr
  have ok':=J.ok.puts hokm
  unfold Play.puts at ok'
  simp only[h40,decide_true,cond_true] at ok' ⊢
  refine ⟨_,_,_,fz,J.re re net' ok',?_⟩
  simp only[rn,RO.dst,lk,drop,Nat.reduceBEq,Nat.reduceAdd,Nat.reduceLeDiff,↓reduceIte,reduceCtorEq,Qb,Qa,Wav,and_self,Qd,Qe,Nat.reduceLT,Qf,Qg,hlt,hix,hld,Wai,hn0,bq,br,hneg,q1,q2,hlen,hge,hge',hmx,hml,b1,b2,b3,h30,h40',eo,hws]
 ·have h40': ¬(rows.length:Int)<40:=by omega
  simp only[h40,decide_false,cond_false]
  refine ⟨g,y,rows,fy,J,?_⟩
  simp only[rn,RO.dst,lk,drop,Nat.reduceBEq,Nat.reduceAdd,Nat.reduceLeDiff,↓reduceIte,reduceCtorEq,Qb,Qa,Wav,and_self,Qd,Qe,Nat.reduceLT,Qf,Qg,hlt,hix,hld,Wai,hn0,bq,br,hneg,q1,q2,hlen,hge,hge',hmx,hml,b1,b2,b3,h30,h40',hws]
set_option maxHeartbeats 4000000 in
theorem play_lose (prm:WbF F Z 376 (delF 22)) (hf:h0.floor≤h0.next) (J:IP h0 g k5 k6 y ca cb p rows fy fa fb) (w:Vw 15 Wai h0 x ops) {i:Nat} (hi:i<ops.length) (hl:ops.length≤200) (ho:ops[i]≠0) (hb:ops[i]≤9223372036854775807) (hneg: ¬ops[i]<0) (hk:WaN ops[i]<p.net.length) (h3:ops[i].tmod 3=2):
 ∃g' y' rows' fy',IP h0 g' k5 k6 y' ca cb (p.loses (WaN ops[i])) rows' fy' fa fb∧
  loop F Z [4,5,6,8,9,10,11,61,62,63] Wbp (pst x y k5 k6 ops.length p.hd i g)=loop F Z [4,5,6,8,9,10,11,61,62,63] Wbp (pst x y' k5 k6 ops.length (p.loses (WaN ops[i])).hd (i+1) g'):=by
 have wg:=w.on J.net.on
 have hlt:(i:Int)<ops.length:=by omega
 have hws:=WaS i (by omega)
 have hix:=wg.idx hi
 have hld:=wg.load hi
 have hlen:=J.net.sl.len
 have hrl:=J.net.len
 have hcap:=J.ok.net.1
 generalize ops[i]=o at *
 have hn0:(o==0)=false:=by simpa using ho
 have bq:=fun a=>b_quo .i64 a 3 (by omega)
 have br:=fun a=>b_rem .i64 a 3 (by omega)
 obtain ⟨q1,q2⟩:=place_eq hneg ho hb
 have hge: ¬(rows.length:Int)≤((WaN o:Nat):Int):=by omega
 have hge': ¬((WaN o:Nat):Int)≥(rows.length:Int):=hge
 have h30:(o.tmod 3==0)=false:=by simp[h3]
 have h32:(o.tmod 3==2)=true:=by simp[h3]
 generalize WaN o=kk at *
 have hwk:=WaS kk (by omega)
 obtain ⟨r,f,hr,vr,hfr⟩:=J.net.el kk p.net[kk] (Qc hk)
 obtain ⟨b1,b2,b3⟩:=HandMsg.lenI vr
 have hkr:kk<rows.length:=by omega
 have hrk:rows[kk]=r:=by
  rw[Qc hkr] at hr;injection hr
 have hmx:=J.net.sl.idx hkr
 have hml:=J.net.sl.load hkr
 simp only[hrk] at hml
 obtain ⟨z,g1,fz,ed,net',re⟩:=J.net.del HandMsg.okI hf hk
 have ec:=(prm _ _).trans ed
 refine ⟨_,_,_,fz,J.re re net' (J.ok.loses kk),?_⟩
 simp only[pst,Hand.enc,Play.loses]
 rw[Wab]
 conv in (Wad _ _ Wbp _)=>unfold Wbp
 simp only[rn,RO.dst,lk,drop,Nat.reduceBEq,Nat.reduceAdd,Nat.reduceLeDiff,↓reduceIte,reduceCtorEq,Qb,Qa,Wav,and_self,Qd,Qe,Nat.reduceLT,Qf,Qg,hlt,hix,hld,Wai,hn0,bq,br,hneg,q1,q2,hlen,hge,hge',hmx,hml,b1,b2,b3,h30,h32,hwk,ec,hws]
end
section
variable {F:Nat→Option RF} {Z:Waf} {h0 g:Heap} {k5 k6:Nat} {x y:Cell} {ca cb:List Cell} {p:Play} {rows:List (List Cell)} {fy fa fb fo:List Nat} {ops:List Int}
set_option maxHeartbeats 8000000 in
theorem play_take (k:KI F) (hI15:Has F tI15) (hL:Has F Waa) (prd:WbF F Z 330 (delF 16)) (pri:WbF F Z 332 (insF 16 80)) (prm:WbF F Z 376 (delF 22)) (hf:h0.floor≤h0.next) (J:IP h0 g k5 k6 y ca cb p rows fy fa fb) (w:Vw 15 Wai h0 x ops) {i:Nat} (hi:i<ops.length) (hl:ops.length≤200) (ho:ops[i]≠0) (hb:ops[i]≤9223372036854775807) (hneg: ¬ops[i]<0) (hk:WaN ops[i]<p.net.length) (h3:ops[i].tmod 3≠0) (h4:ops[i].tmod 3≠2):
 ∃g' y' ca' cb' rows' fy' fa' fb',IP h0 g' k5 k6 y' ca' cb' ((p.loses (WaN ops[i])).takes (HandMsg.at_ p.net (WaN ops[i]))) rows' fy' fa' fb'∧
  loop F Z [4,5,6,8,9,10,11,61,62,63] Wbp (pst x y k5 k6 ops.length p.hd i g)=loop F Z [4,5,6,8,9,10,11,61,62,63] Wbp (pst x y' k5 k6 ops.length ((p.loses (WaN ops[i])).takes (HandMsg.at_ p.net (WaN ops[i]))).hd (i+1) g'):=by
 have wg:=w.on J.net.on
 have hlt:(i:Int)<ops.length:=by omega
 have hws:=WaS i (by omega)
 have hix:=wg.idx hi
 have hld:=wg.load hi
 have hlen:=J.net.sl.len
 have hrl:=J.net.len
 have hcap:=J.ok.net.1
 generalize ops[i]=o at *
 have hn0:(o==0)=false:=by simpa using ho
 have bq:=fun a=>b_quo .i64 a 3 (by omega)
 have br:=fun a=>b_rem .i64 a 3 (by omega)
 obtain ⟨q1,q2⟩:=place_eq hneg ho hb
 have hge: ¬(rows.length:Int)≤((WaN o:Nat):Int):=by omega
 have hge': ¬((WaN o:Nat):Int)≥(rows.length:Int):=hge
 have h30:(o.tmod 3==0)=false:=by simpa using h3
 have h32:(o.tmod 3==2)=false:=by simpa using h4
 have hokm:=J.ok.at_ hk
 generalize WaN o=kk at *
 have hwk:=WaS kk (by omega)
 obtain ⟨r,f,hr,vr,hfr⟩:=J.net.el kk p.net[kk] (Qc hk)
 have hkr:kk<rows.length:=by omega
 have hrk:rows[kk]=r:=by
  rw[Qc hkr] at hr;injection hr
 have hmx:=J.net.sl.idx hkr
 have hml:=J.net.sl.load hkr
 simp only[hrk] at hml
 rw[HandMsg.at_get hk] at hokm ⊢
 obtain ⟨z,g1,fz,ed,net',re⟩:=J.net.del HandMsg.okI hf hk
 have ec:=(prm _ _).trans ed
 have J1:IP h0 g1 k5 k6 z ca cb (p.loses kk) (rows.eraseIdx kk) fz fa fb:=J.re re net' (J.ok.loses kk)
 have v1:HandMsg.RI g1 r p.net[kk] f:=HandMsg.okI.mv vr re.le fun id hid=>re.get id (HandMsg.okI.lt vr id hid) (hfr id hid).2.1
 have hks: ∀id,id∈f→id≠k5∧id≠k6:=fun id hid=>by
  have:=(hfr id hid).2.2
  simpa using this
 generalize p.net[kk]=m at *
 have hhd:(p.loses kk).hd=p.hd:=rfl
 rw[←hhd]
 generalize p.loses kk=P at *
 clear re net' J wg
 obtain ⟨b1,b2,b3⟩:=HandMsg.lenI v1
 have hg1:=J1.net.on.le hf
 obtain ⟨mx1,mx2,hmr⟩: ∃c1 c2,r=[.int .i64 m.step,.int .u64 m.lo,.int .i64 m.to,.int .i64 m.epoch,.int .u64 m.shard.lo,.int .u64 m.shard.hi,.int .i64 m.shard.state,.int .i64 m.shard.epoch,c1,c2]:=by
  obtain ⟨c1,_,c2,_,e,_⟩:=v1
  exact ⟨c1,c2,e⟩
 subst hmr
 clear b1 b2 b3
 unfold Play.takes Play.goes
 by_cases hto:m.to=P.hd.from_
 ·have hto':(m.to==P.hd.from_)=true:=by simpa using hto
  obtain ⟨l1,l2,l3⟩:=Store.lenI J1.va
  obtain ⟨cs,hq,fq,e2,o2,v2,f2⟩:=handTake_c (Z:=Z) (h:=⟨g1.next,g1.next,g1.get⟩) k hI15 hL prd pri (Qj _) (Store.okI.up J1.va _) (HandMsg.okI.up v1 _) J1.ok.a.1 J1.ok.a.2 hokm.1 hokm.2
  have p2:=quiet_go o2
  have w2:=Store.okI.up v2 g1.floor
  obtain ⟨g2,m2⟩: ∃g',Heap.mk hq.next g1.floor hq.get=g':=⟨_,rfl⟩
  rw[m2] at p2 w2
  obtain ⟨a1,a2,a3⟩:=Store.lenI w2
  have J2:=J1.go p2
  have J3:=J1.setA p2 w2 ⟨f2.lo,f2.nd⟩ ⟨J1.ok.hd,⟨WbX J1.ok.a.1 hokm.1,Wbw J1.ok.a.2 hokm.2⟩,J1.ok.b,J1.ok.net⟩
  have ld:=fun j n=>Wbq J1.ra (i:=0) rfl j n
  have st:=store_row (new:=cs) (by have:=J2.net.on.fl;have:=J2.lo;omega) J2.ra (by rw[l1,a1])
  have v3:=HandMsg.okI.mv (HandMsg.okI.on v1 p2) (h':=g2.put k5 [cs]) (Qj _) fun id hid=>WbO _ (hks id hid).1
  have e3:=handDone_run (Z:=Z) k.i11 hI15 P.hd v3
  simp only[Hand.enc] at e3
  cases ht:(Wah P.a m).2 with
  | false=>
    simp only[ht] at e2
    simp only[hto',cond_true,cond_false]
    refine ⟨_,_,_,_,_,_,_,_,J3,?_⟩
    simp only[pst,Hand.enc]
    rw[Wab]
    conv in (Wad _ _ Wbp _)=>unfold Wbp
    simp only[rn,RO.dst,lk,drop,Nat.reduceBEq,Nat.reduceAdd,Nat.reduceLeDiff,↓reduceIte,reduceCtorEq,Qb,Qa,Wav,and_self,Qd,Qe,Nat.reduceLT,Qf,Qg,hlt,hix,hld,Wai,hn0,bq,br,hneg,q1,q2,hlen,hge,hge',hmx,hml,h30,h32,hwk,ec,hto',ld,l1,l2,l3,e2,m2,a1,a2,a3,st,hws]
  | true=>
    simp only[ht] at e2
    simp only[hto',cond_true,cond_false]
    refine ⟨_,_,_,_,_,_,_,_,J3.setH ⟨Hand.done_ok J3.ok.hd _ _ _,J3.ok.a,J3.ok.b,J3.ok.net⟩,?_⟩
    simp only[pst,Hand.enc]
    rw[Wab]
    conv in (Wad _ _ Wbp _)=>unfold Wbp
    simp only[rn,RO.dst,lk,drop,Nat.reduceBEq,Nat.reduceAdd,Nat.reduceLeDiff,↓reduceIte,reduceCtorEq,Qb,Qa,Wav,and_self,Qd,Qe,Nat.reduceLT,Qf,Qg,hlt,hix,hld,Wai,hn0,bq,br,hneg,q1,q2,hlen,hge,hge',hmx,hml,h30,h32,hwk,ec,hto',ld,l1,l2,l3,e2,m2,a1,a2,a3,st,e3,hws]
 ·have hto':(m.to==P.hd.from_)=false:=by simpa using hto
  obtain ⟨l1,l2,l3⟩:=Store.lenI J1.vb
  obtain ⟨cs,hq,fq,e2,o2,v2,f2⟩:=handTake_c (Z:=Z) (h:=⟨g1.next,g1.next,g1.get⟩) k hI15 hL prd pri (Qj _) (Store.okI.up J1.vb _) (HandMsg.okI.up v1 _) J1.ok.b.1 J1.ok.b.2 hokm.1 hokm.2
  have p2:=quiet_go o2
  have w2:=Store.okI.up v2 g1.floor
  obtain ⟨g2,m2⟩: ∃g',Heap.mk hq.next g1.floor hq.get=g':=⟨_,rfl⟩
  rw[m2] at p2 w2
  obtain ⟨a1,a2,a3⟩:=Store.lenI w2
  have J2:=J1.go p2
  have J3:=J1.setB p2 w2 ⟨f2.lo,f2.nd⟩ ⟨J1.ok.hd,J1.ok.a,⟨WbX J1.ok.b.1 hokm.1,Wbw J1.ok.b.2 hokm.2⟩,J1.ok.net⟩
  have ld:=fun j n=>Wbq J1.rb (i:=0) rfl j n
  have st:=store_row (new:=cs) (by have:=J2.net.on.fl;have:=J2.lo;omega) J2.rb (by rw[l1,a1])
  have v3:=HandMsg.okI.mv (HandMsg.okI.on v1 p2) (h':=g2.put k6 [cs]) (Qj _) fun id hid=>WbO _ (hks id hid).2
  have e3:=handDone_run (Z:=Z) k.i11 hI15 P.hd v3
  simp only[Hand.enc] at e3
  cases ht:(Wah P.b m).2 with
  | false=>
    simp only[ht] at e2
    simp only[hto',cond_true,cond_false]
    refine ⟨_,_,_,_,_,_,_,_,J3,?_⟩
    simp only[pst,Hand.enc]
    rw[Wab]
    conv in (Wad _ _ Wbp _)=>unfold Wbp
    simp only[rn,RO.dst,lk,drop,Nat.reduceBEq,Nat.reduceAdd,Nat.reduceLeDiff,↓reduceIte,reduceCtorEq,Qb,Qa,Wav,and_self,Qd,Qe,Nat.reduceLT,Qf,Qg,hlt,hix,hld,Wai,hn0,bq,br,hneg,q1,q2,hlen,hge,hge',hmx,hml,h30,h32,hwk,ec,hto',ld,l1,l2,l3,e2,m2,a1,a2,a3,st,hws]
  | true=>
    simp only[ht] at e2
    simp only[hto',cond_true,cond_false]
    refine ⟨_,_,_,_,_,_,_,_,J3.setH ⟨Hand.done_ok J3.ok.hd _ _ _,J3.ok.a,J3.ok.b,J3.ok.net⟩,?_⟩
    simp only[pst,Hand.enc]
    rw[Wab]
    conv in (Wad _ _ Wbp _)=>unfold Wbp
    simp only[rn,RO.dst,lk,drop,Nat.reduceBEq,Nat.reduceAdd,Nat.reduceLeDiff,↓reduceIte,reduceCtorEq,Qb,Qa,Wav,and_self,Qd,Qe,Nat.reduceLT,Qf,Qg,hlt,hix,hld,Wai,hn0,bq,br,hneg,q1,q2,hlen,hge,hge',hmx,hml,h30,h32,hwk,ec,hto',ld,l1,l2,l3,e2,m2,a1,a2,a3,st,e3,hws]
end
section
variable {F:Nat→Option RF} {Z:Waf} {h h0 g:Heap} {k5 k6:Nat} {x y:Cell} {ca cb:List Cell} {p:Play} {rows:List (List Cell)} {fy fa fb fo:List Nat} {ops:List Int} {A B:Store}
theorem play_turn (k:KI F) (hI15:Has F tI15) (hL:Has F Waa) (prd:WbF F Z 330 (delF 16)) (pri:WbF F Z 332 (insF 16 80)) (prm:WbF F Z 376 (delF 22)) (hf:h0.floor≤h0.next) (J:IP h0 g k5 k6 y ca cb p rows fy fa fb) (w:Vw 15 Wai h0 x ops) {i:Nat} (hi:i<ops.length) (hl:ops.length≤200) (hb:ops[i]≤9223372036854775807):
 ∃g' y' ca' cb' rows' fy' fa' fb',IP h0 g' k5 k6 y' ca' cb' (p.step ops[i]) rows' fy' fa' fb'∧
  loop F Z [4,5,6,8,9,10,11,61,62,63] Wbp (pst x y k5 k6 ops.length p.hd i g)=loop F Z [4,5,6,8,9,10,11,61,62,63] Wbp (pst x y' k5 k6 ops.length (p.step ops[i]).hd (i+1) g'):=by
 unfold Play.step
 split
 ·rename_i ho
  obtain ⟨g',y',rows',fy',J',e⟩:=play_send (F:=F) (Z:=Z) k hI15 hL hf J w hi hl ho
  exact ⟨g',y',ca,cb,rows',fy',fa,fb,J',e⟩
 rename_i ho
 split
 ·rename_i hp
  exact ⟨g,y,ca,cb,rows,fy,fa,fb,J,play_pass (F:=F) (Z:=Z) J w hi hl ho hb hp⟩
 rename_i hp
 have hneg: ¬ops[i]<0:=fun h=>hp (.inl h)
 have hk:WaN ops[i]<p.net.length:=by omega
 split
 ·rename_i h3
  obtain ⟨g',y',rows',fy',J',e⟩:=play_copy (F:=F) (Z:=Z) hf J w hi hl ho hb hneg hk h3
  exact ⟨g',y',ca,cb,rows',fy',fa,fb,J',e⟩
 rename_i h3
 split
 ·rename_i h4
  obtain ⟨g',y',rows',fy',J',e⟩:=play_lose (F:=F) (Z:=Z) prm hf J w hi hl ho hb hneg hk h4
  exact ⟨g',y',ca,cb,rows',fy',fa,fb,J',e⟩
 ·rename_i h4
  exact play_take (F:=F) (Z:=Z) k hI15 hL prd pri prm hf J w hi hl ho hb hneg hk h3 h4
set_option maxHeartbeats 8000000 in
theorem PlayHand_c (k:KI F) (hI15:Has F tI15) (hL:Has F Waa) (prd:WbF F Z 330 (delF 16)) (pri:WbF F Z 332 (insF 16 80)) (prm:WbF F Z 376 (delF 22)) (hf:h.floor≤h.next) (H:Hand) (okH:H.Ok) (va:Store.RI h ca A fa) (vb:Store.RI h cb B fb) (w:Vw 15 Wai h x ops) (okA:A.Ok) (smA:A.Small) (okB:B.Ok) (smB:B.Small) (hb: ∀z,z∈ops→z≤9223372036854775807):
 ∃ca' cb' h' f1 f2,call F Z 368 [.agg H.enc,.agg ca,.agg cb,.c x] h=some (.tup [.agg (WaM H A B ops).1.enc,.agg ca',.agg cb'],h')∧On h h'∧Store.RI h' ca' (WaM H A B ops).2.1 f1∧Store.RI h' cb' (WaM H A B ops).2.2 f2∧Fre h f1∧Fre h f2∧ ∀id,id∈f1→id∉f2:=by
 obtain ⟨l1,l2,l3⟩:=Store.lenI va
 obtain ⟨n1,n2,n3⟩:=Store.lenI vb
 obtain ⟨k5,hk5⟩: ∃k,h.next=k:=⟨_,rfl⟩
 have o1:=On.push h [ca]
 have ga:(h.push [ca]).get k5=some [ca]:=by rw[←hk5];exact Wbm _ _
 have hn1:(h.push [ca]).next=k5+1:=by rw[←hk5];rfl
 obtain ⟨h1,m1⟩: ∃h1,h.push [ca]=h1:=⟨_,rfl⟩
 rw[m1] at o1 ga hn1
 have o2:=On.push h1 [cb]
 have gb:(h1.push [cb]).get (k5+1)=some [cb]:=by rw[←hn1];exact Wbm _ _
 obtain ⟨h2,m2⟩: ∃h2,h1.push [cb]=h2:=⟨_,rfl⟩
 have hn2:h2.next=k5+1+1:=by rw[←m2,←hn1];rfl
 rw[m2] at o2 gb
 have ga2:=(o2.ext.2 k5 (by omega)).trans ga
 have o12:=o1.trans o2
 obtain ⟨c1,h3,f3,e3,o3,v3,r3⟩:=copyStore_c (Z:=Z) k (o12.le hf) (Store.okI.on va o12) smA
 obtain ⟨a1,a2,a3⟩:=Store.lenI v3
 have ga3:=(o3.ext.2 k5 (by omega)).trans ga2
 have gb3:=(o3.ext.2 (k5+1) (by omega)).trans gb
 have on3:=o12.trans o3
 have st5:=store_row (new:=c1) (by have:=on3.fl;omega) ga3 (by rw[l1,a1])
 obtain ⟨h4,m4⟩: ∃h4,h3.put k5 [c1]=h4:=⟨_,rfl⟩
 have on4:On h h4:=by rw[←m4];exact on3.put_ (by omega) _
 have nx3:=o3.ext.1
 have nx4:h4.next=h3.next:=by rw[←m4];rfl
 have lt3: ∀id,id∈f3→id<h3.next:=Store.okI.lt v3
 have ga4:h4.get k5=some [c1]:=by rw[←m4];simp[Heap.put]
 have gb4:h4.get (k5+1)=some [cb]:=by rw[←m4,WbO _ (by omega)];exact gb3
 have v4:Store.RI h4 c1 A f3:=by rw[←m4];exact Store.okI.mv v3 (Qj _) fun id hid=>WbO _ (by have:=r3.lo id hid;omega)
 rw[m4] at st5
 obtain ⟨c2,h5,f5,e5,o5,v5,r5⟩:=copyStore_c (Z:=Z) k (on4.le hf) (Store.okI.on vb on4) smB
 obtain ⟨b1,b2,b3⟩:=Store.lenI v5
 have ga5:=(o5.ext.2 k5 (by omega)).trans ga4
 have gb5:=(o5.ext.2 (k5+1) (by omega)).trans gb4
 have on5:=on4.trans o5
 have st6:=store_row (new:=c2) (by have:=on5.fl;omega) gb5 (by rw[n1,b1])
 obtain ⟨h6,m6⟩: ∃h6,h5.put (k5+1) [c2]=h6:=⟨_,rfl⟩
 have on6:On h h6:=by rw[←m6];exact on5.put_ (by omega) _
 have nx5:=o5.ext.1
 have nx6:h6.next=h5.next:=by rw[←m6];rfl
 have ga6:h6.get k5=some [c1]:=by rw[←m6,WbO _ (by omega)];exact ga5
 have gb6:h6.get (k5+1)=some [c2]:=by rw[←m6];simp[Heap.put]
 have v6:Store.RI h6 c1 A f3:=by rw[←m6];exact Store.okI.mv (Store.okI.on v4 o5) (Qj _) fun id hid=>WbO _ (by have:=r3.lo id hid;omega)
 have w6:Store.RI h6 c2 B f5:=by rw[←m6];exact Store.okI.mv v5 (Qj _) fun id hid=>WbO _ (by have:=r5.lo id hid;omega)
 rw[m6] at st6
 obtain ⟨z1,hz1⟩: ∃z1,c1=[.int .i64 A.group,.int .i64 A.seen,z1]:=by obtain ⟨z1,_,e1,_⟩:=v3;exact ⟨z1,e1⟩
 obtain ⟨z2,hz2⟩: ∃z2,c2=[.int .i64 B.group,.int .i64 B.seen,z2]:=by obtain ⟨z2,_,e2,_⟩:=v5;exact ⟨z2,e2⟩
 subst hz1 hz2
 have e6:=isHand_run (Z:=Z) k.i11 hI15 H.lo H.from_ H.to H.epoch H.phase h6
 rw[show Wcc H.lo H.from_ H.to H.epoch H.phase=H.ok from rfl] at e6
 obtain ⟨h7,e7,o7⟩:=WbQ (Z:=Z) k v6 okA
 obtain ⟨h8,e8,o8⟩:=WbQ (Z:=Z) k (Store.okI.on w6 o7) okB
 have o68:=o7.trans o8
 have lt: ∀{gx:Heap},On h6 gx→gx.get k5=some [[.int .i64 A.group,.int .i64 A.seen,z1]]∧gx.get (k5+1)=some [[.int .i64 B.group,.int .i64 B.seen,z2]]:=fun o=>⟨(o.ext.2 k5 (by omega)).trans ga6,(o.ext.2 (k5+1) (by omega)).trans gb6⟩
 have ld2:=fun j n=>Wbq ga2 (i:=0) rfl j n
 have ld4:=fun j n=>Wbq gb4 (i:=0) rfl j n
 have ld6a:=fun j n=>Wbq ga6 (i:=0) rfl j n
 have ld6b:=fun j n=>Wbq gb6 (i:=0) rfl j n
 have ld7a:=fun j n=>Wbq (lt o7).1 (i:=0) rfl j n
 have ld7b:=fun j n=>Wbq (lt o7).2 (i:=0) rfl j n
 have ld8a:=fun j n=>Wbq (lt o68).1 (i:=0) rfl j n
 have ld8b:=fun j n=>Wbq (lt o68).2 (i:=0) rfl j n
 have fr3:Fre h f3:=⟨fun id hid=>by have:=r3.lo id hid;omega,r3.nd⟩
 have fr5:Fre h f5:=⟨fun id hid=>by have:=r5.lo id hid;omega,r5.nd⟩
 have dj: ∀id,id∈f3→id∉f5:=fun id h1 h2=>by have:=lt3 id h1;have:=r5.lo id h2;omega
 have bad: ∀{gx:Heap},On h6 gx→WaM H A B ops=(H,A,B)→ ∃ca' cb' h' f1 f2,some (V.tup [V.agg H.enc,V.agg [.int .i64 A.group,.int .i64 A.seen,z1],V.agg [.int .i64 B.group,.int .i64 B.seen,z2]],gx)=some (.tup [.agg (WaM H A B ops).1.enc,.agg ca',.agg cb'],h')∧On h h'∧Store.RI h' ca' (WaM H A B ops).2.1 f1∧Store.RI h' cb' (WaM H A B ops).2.2 f2∧Fre h f1∧Fre h f2∧ ∀id,id∈f1→id∉f2:=fun {gx} o e=>by
  rw[e];exact ⟨_,_,_,f3,f5,rfl,on6.trans o,Store.okI.on v6 o,Store.okI.on w6 o,fr3,fr5,dj⟩
 have hdef:WaM H A B ops=bif H.ok&&(A.good&&(B.good&&(A.group==H.from_&&(B.group==H.to&&decide (ops.length≤200))))) then ((ops.foldl Play.step ⟨H,A,B,[]⟩).hd,(ops.foldl Play.step ⟨H,A,B,[]⟩).a,(ops.foldl Play.step ⟨H,A,B,[]⟩).b) else (H,A,B):=rfl
 have hwl:=w.len
 simp only[Hand.enc] at bad e6
 rw[Wac F Z (hI15.lk (g:=368) rfl) _ _ rfl]
 simp only[Hand.enc]
 cases q1:H.ok with
 | false=>
   rw[q1] at e6
   simp only[rn,RO.dst,lk,drop,Nat.reduceBEq,Nat.reduceAdd,Nat.reduceLeDiff,↓reduceIte,reduceCtorEq,hk5,m1,hn1,m2,ld2,l1,l2,l3,e3,st5,ld4,n1,n2,n3,e5,st6,e6,ld6a,ld6b]
   exact bad (On.refl _) (by rw[hdef,q1];rfl)
 | true=>
 rw[q1] at e6
 cases q2:A.good with
 | false=>
   rw[q2] at e7
   simp only[rn,RO.dst,lk,drop,Nat.reduceBEq,Nat.reduceAdd,Nat.reduceLeDiff,↓reduceIte,reduceCtorEq,hk5,m1,hn1,m2,ld2,l1,l2,l3,e3,st5,ld4,n1,n2,n3,e5,st6,e6,ld6a,e7,ld7a,ld7b]
   exact bad o7 (by rw[hdef,q1,q2];rfl)
 | true=>
 rw[q2] at e7
 cases q3:(A.group==H.from_) with
 | false=>
   have q3':(A.group !=H.from_)=true:=by simp only[bne,q3,QB]
   simp only[rn,RO.dst,lk,drop,Nat.reduceBEq,Nat.reduceAdd,Nat.reduceLeDiff,↓reduceIte,reduceCtorEq,hk5,m1,hn1,m2,ld2,l1,l2,l3,e3,st5,ld4,n1,n2,n3,e5,st6,e6,ld6a,e7,ld7a,ld7b,q3']
   exact bad o7 (by rw[hdef,q1,q2,q3];simp)
 | true=>
 have q3':(A.group !=H.from_)=false:=by simp only[bne,q3,QG]
 cases q4:B.good with
 | false=>
   rw[q4] at e8
   simp only[rn,RO.dst,lk,drop,Nat.reduceBEq,Nat.reduceAdd,Nat.reduceLeDiff,↓reduceIte,reduceCtorEq,hk5,m1,hn1,m2,ld2,l1,l2,l3,e3,st5,ld4,n1,n2,n3,e5,st6,e6,ld6a,e7,ld7a,ld7b,q3',e8,ld8a,ld8b]
   exact bad o68 (by rw[hdef,q1,q2,q4];simp)
 | true=>
 rw[q4] at e8
 cases q5:(B.group==H.to) with
 | false=>
   have q5':(B.group !=H.to)=true:=by simp only[bne,q5,QB]
   simp only[rn,RO.dst,lk,drop,Nat.reduceBEq,Nat.reduceAdd,Nat.reduceLeDiff,↓reduceIte,reduceCtorEq,hk5,m1,hn1,m2,ld2,l1,l2,l3,e3,st5,ld4,n1,n2,n3,e5,st6,e6,ld6a,e7,ld7a,ld7b,q3',e8,ld8a,ld8b,q5']
   exact bad o68 (by rw[hdef,q1,q2,q4,q5];simp)
 | true=>
 have q5':(B.group !=H.to)=false:=by simp only[bne,q5,QG]
 by_cases q6:ops.length≤200
 rotate_left
 ·have q6':(ops.length:Int)>200:=by omega
  simp only[rn,RO.dst,lk,drop,Nat.reduceBEq,Nat.reduceAdd,Nat.reduceLeDiff,↓reduceIte,reduceCtorEq,hk5,m1,hn1,m2,ld2,l1,l2,l3,e3,st5,ld4,n1,n2,n3,e5,st6,e6,ld6a,e7,ld7a,ld7b,q3',e8,ld8a,ld8b,q5',hwl,q6']
  exact bad o68 (by rw[hdef,decide_eq_false q6];simp)
 have q6': ¬(ops.length:Int)>200:=by omega
 have hyes:WaM H A B ops=((ops.foldl Play.step ⟨H,A,B,[]⟩).hd,(ops.foldl Play.step ⟨H,A,B,[]⟩).a,(ops.foldl Play.step ⟨H,A,B,[]⟩).b):=by
  rw[hdef,q1,q2,q3,q4,q5,decide_eq_true q6];rfl
 rw[hyes]
 clear bad
 have on8:=on6.trans o68
 obtain ⟨on0,fy0,s0,fr0⟩:=Acc.lit0 (tag:=22) on8
 have hy0: ∀id,id∈fy0→id=h8.next:=fun id hid=>by
  rcases s0.flat with ⟨e,_⟩ | ⟨_,_,_,e⟩
  ·cases e
  ·rw[e] at hid;simpa[Cell.sid] using hid
 have nx8:=o68.ext.1
 have op:=On.push h8 []
 have J0:IP h (h8.push []) k5 (k5+1) (.sl 22 h8.next 0 0) [.int .i64 A.group,.int .i64 A.seen,z1] [.int .i64 B.group,.int .i64 B.seen,z2] ⟨H,A,B,[]⟩ [] fy0 f3 f5:=
  {net:={sl:=s0,fre:=fr0,on:=on0,len:=rfl,ky:=fun kk hkk=>by simp only[Qo,Qm,or_false] at hkk;exact ⟨fun hh=>by have:=hy0 kk hh;omega,by show kk<h8.next+1;omega⟩,el:=fun i b hh=>by simp at hh}
   ra:=(op.ext.2 k5 (by omega)).trans (lt o68).1
   rb:=(op.ext.2 (k5+1) (by omega)).trans (lt o68).2
   va:=Store.okI.on v6 (o68.trans op)
   vb:=Store.okI.on w6 (o68.trans op)
   fra:=fr3
   frb:=fr5
   sa:=fun id hid=>⟨fun hh=>by have:=hy0 id hh;have:=lt3 id hid;omega,fun hh=>by
    have:=r3.lo id hid
    simp only[Qo,Qm,or_false] at hh
    omega⟩
   sb:=fun id hid=>⟨fun hh=>by have:=hy0 id hh;have:=Store.okI.lt v5 id hid;omega,fun hh=>by
    have:=r5.lo id hid
    simp only[Qo,Qm,or_false] at hh
    omega⟩
   dj:=dj
   ne:=by omega
   lo:=by omega
   ok:=⟨okH,⟨okA,smA⟩,⟨okB,smB⟩,by simp,fun m hm=>nomatch hm⟩}
 obtain ⟨s',⟨gn,yn,can,cbn,rnn,fyn,fan,fbn,rfl,Jn⟩,key⟩:=WaB (F:=F) (Z:=Z) (live:=[4,5,6,8,9,10,11,61,62,63]) (b:=Wbp) ops.length (fun i s=> ∃g y ca cb rows fy fa fb,s=pst x y k5 (k5+1) ops.length ((ops.take i).foldl Play.step ⟨H,A,B,[]⟩).hd i g∧IP h g k5 (k5+1) y ca cb ((ops.take i).foldl Play.step ⟨H,A,B,[]⟩) rows fy fa fb) (fun i s hi ⟨g,y,ca,cb,rows,fy,fa,fb,hs,J⟩=>by
  subst hs
  obtain ⟨g',y',ca',cb',rows',fy',fa',fb',J',e⟩:=play_turn (F:=F) (Z:=Z) k hI15 hL prd pri prm hf J w hi q6 (hb _ (Qh hi))
  have ht:(ops.take (i+1)).foldl Play.step ⟨H,A,B,[]⟩=((ops.take i).foldl Play.step ⟨H,A,B,[]⟩).step ops[i]:=by
   rw[Qy,Qc hi,QN];rfl
  rw[←ht] at J' e
  exact ⟨_,⟨g',y',ca',cb',rows',fy',fa',fb',rfl,J'⟩,e⟩) (s:=pst x (.sl 22 h8.next 0 0) k5 (k5+1) ops.length H 0 (h8.push [])) ⟨_,_,_,_,_,_,_,_,rfl,J0⟩
 rw[Qv] at Jn key
 generalize ops.foldl Play.step ⟨H,A,B,[]⟩=P at *
 obtain ⟨t1,t2,t3⟩:=Store.lenI Jn.va
 obtain ⟨u1,u2,u3⟩:=Store.lenI Jn.vb
 have lda:=fun j n=>Wbq Jn.ra (i:=0) rfl j n
 have ldb:=fun j n=>Wbq Jn.rb (i:=0) rfl j n
 have hlt: ¬(ops.length:Int)<ops.length:=by omega
 simp only[pst,Hand.enc,show ((0:Nat):Int)=0 from rfl] at key
 simp only[rn,RO.dst,lk,drop,Nat.reduceBEq,Nat.reduceAdd,Nat.reduceLeDiff,↓reduceIte,reduceCtorEq,Qb,Qa,Wav,and_self,Qd,Qe,Nat.reduceLT,Qf,Qg,hk5,m1,hn1,m2,ld2,l1,l2,l3,e3,st5,ld4,n1,n2,n3,e5,st6,e6,ld6a,e7,ld7a,ld7b,q3',e8,ld8a,ld8b,q5',hwl,q6',key]
 rw[Wab]
 conv in (Wad _ _ Wbp _)=>unfold Wbp
 simp only[rn,RO.dst,lk,drop,Nat.reduceBEq,Nat.reduceAdd,Nat.reduceLeDiff,↓reduceIte,reduceCtorEq,hlt,lda,ldb,t1,t2,t3,u1,u2,u3]
 exact ⟨_,_,_,_,_,rfl,Jn.net.on,Jn.va,Jn.vb,Jn.fra,Jn.frb,Jn.dj⟩
end
def idc (b:Int):List Cell:=[.int .u64 b]
section
variable {F:Nat→Option RF} {Z:Waf} {g h:Heap}
theorem pair_lit {A B:Store} {ca cb:List Cell} {fa fb:List Nat} (va:Store.RI h ca A fa) (vb:Store.RI h cb B fb):SlR 18 Store.RI (h.push [ca,cb]) (.sl 18 h.next 0 2) [A,B] (h.next::(fa++(fb++[]))):=
 ⟨by simp[maxLen],.inr ⟨h.next,[ca,cb],[fa,fb],rfl,Wbm _ _,by rw[Wbu];omega,by simp,⟨Store.okI.on va (On.push _ _),Store.okI.on vb (On.push _ _),trivial⟩⟩⟩
set_option maxHeartbeats 4000000 in
set_option maxRecDepth 8000 in
theorem holder_turn (k:KI F) (q:KH F) {A B:Store} {ca cb c3 c4 c5:List Cell} {fa fb fi:List Nat} {y yi:Cell} {ids:List Int} {hi lo:Int} {m:Int} (va:Store.RI h ca A fa) (vb:Store.RI h cb B fb) (okA:A.Ok) (okB:B.Ok)
 (wi:SlR 13 (Fl idc) h yi ids fi) (hone: ∀id,((holders [A,B] id).length:Int)≤1) {i:Nat} (hi':i<ids.length) (hil:ids.length≤100):
 ∃h',On h h'∧loop F Z [3,4,5,6,7,8,9,10,12,13,16] r412L0 ⟨[(6,.c y),(7,.c (.int .u64 hi)),(8,.c (.int .u64 lo)),(9,.c yi),(10,.c (.int .i64 m)),(16,.c (.int .i64 (i:Nat)))],[(3,3,0),(4,4,0),(5,5,0),(12,12,0),(13,13,0)],[(3,c3),(4,c4),(5,c5),(12,ca),(13,cb)],h⟩=
  loop F Z [3,4,5,6,7,8,9,10,12,13,16] r412L0 ⟨[(6,.c y),(7,.c (.int .u64 hi)),(8,.c (.int .u64 lo)),(9,.c yi),(10,.c (.int .i64 m)),(16,.c (.int .i64 ((i+1:Nat):Int)))],[(3,3,0),(4,4,0),(5,5,0),(12,12,0),(13,13,0)],[(3,c3),(4,c4),(5,c5),(12,ca),(13,cb)],h'⟩:=by
 have hlt:(i:Int)<ids.length:=by omega
 have hws:=WaS i (by omega)
 have hli:=wi.idx hi'
 have hll:=wi.load hi'
 have hlen:=wi.len
 obtain ⟨a1,a2,a3⟩:=Store.lenI va
 obtain ⟨b1,b2,b3⟩:=Store.lenI vb
 have wp:=pair_lit va vb
 have op:=On.push h [ca,cb]
 obtain ⟨gp,hgp⟩: ∃g,h.push [ca,cb]=g:=⟨_,rfl⟩
 rw[hgp] at wp op
 obtain ⟨yr,hr,fr,er,or,wr,_⟩:=Holders_c (Z:=Z) k q.a q.ls (Qj _:(⟨gp.next,gp.next,gp.get⟩:Heap).floor≤gp.next) (wp.up Store.okI gp.next) ids[i] (fun a ha=>by
  simp only[Qo,Qm,or_false] at ha
  rcases ha with rfl | rfl
  ·exact okA
  ·exact okB)
 have hlr:=wr.len
 have h1: ¬((holders [A,B] ids[i]).length:Int)>1:=by have:=hone ids[i];omega
 obtain ⟨hx,g1,e1,hg1,o1⟩:=quietly er or
 refine ⟨g1,op.trans o1,?_⟩
 simp only[idc] at hll
 rw[Wab]
 conv in (Wad _ _ r412L0 _)=>unfold r412L0
 simp only[rn,RO.dst,lk,drop,Nat.reduceBEq,Nat.reduceAdd,Nat.reduceLeDiff,↓reduceIte,reduceCtorEq,Qb,Qa,Wav,and_self,Qd,Qe,Nat.reduceLT,Qf,Qg,hlen,hlt,hli,hll,a1,a2,a3,b1,b2,b3,hgp,e1,hg1,hlr,h1,hws]
set_option maxHeartbeats 4000000 in
set_option maxRecDepth 8000 in
theorem hand_turn (k:KI F) (q:KH F) (hI15:Has F tI15) (pr330:WbF F Z 330 (delF 16)) (pr332:WbF F Z 332 (insF 16 80)) (pr376:WbF F Z 376 (delF 22)) (hf:h.floor≤h.next) {H:Hand} {s t:Store} {K:Nat} {hK:K<s.shards.length} (rd:Ready H s t K hK) (okH:H.Ok)
 {cs ct:List Cell} {fs ft fi:List Nat} {y yi:Cell} {ops ids:List Int} (vs:Store.RI h cs s fs) (vt:Store.RI h ct t ft) (v:Vw 15 Wai h y ops) (hl:ops.length≤100) (hok: ∀o,o∈ops→ -9223372036854775808≤o∧o≤9223372036854775807) (wi:SlR 13 (Fl idc) h yi ids fi) (hil:ids.length≤100) {m:Nat} (hm:m≤ops.length):
 ∃h',On h h'∧loop F Z [3,4,5,6,7,8,9,10] r412L1 ⟨[(6,.c y),(7,.c (.int .u64 (wHi s.money))),(8,.c (.int .u64 (wLo s.money))),(9,.c yi),(10,.c (.int .i64 (m:Nat)))],[(3,3,0),(4,4,0),(5,5,0)],[(3,[.int .u64 H.lo,.int .i64 H.from_,.int .i64 H.to,.int .i64 H.epoch,.int .i64 H.phase]),(4,cs),(5,ct)],h⟩=
  loop F Z [3,4,5,6,7,8,9,10] r412L1 ⟨[(6,.c y),(7,.c (.int .u64 (wHi s.money))),(8,.c (.int .u64 (wLo s.money))),(9,.c yi),(10,.c (.int .i64 ((m+1+ops.length / 6:Nat):Int)))],[(3,3,0),(4,4,0),(5,5,0)],[(3,[.int .u64 H.lo,.int .i64 H.from_,.int .i64 H.to,.int .i64 H.epoch,.int .i64 H.phase]),(4,cs),(5,ct)],h'⟩:=by
 have hle:(m:Int)≤ops.length:=by omega
 have hvl:=v.len
 obtain ⟨yc,hyc,vc⟩:=v.pre hm
 obtain ⟨s1,s2,s3⟩:=Store.lenI vs
 obtain ⟨t1,t2,t3⟩:=Store.lenI vt
 obtain ⟨ca,cb,h1,fa,fb,e1q,o1q,vaq,vbq,_,_,_⟩:=PlayHand_c (Z:=Z) k hI15 q.ls pr330 pr332 pr376 (Qj _:(⟨h.next,h.next,h.get⟩:Heap).floor≤h.next) H okH (Store.okI.up vs h.next) (Store.okI.up vt h.next) (vc.up h.next) rd.g.ok rd.g.small rd.tgood.ok rd.tgood.small (fun z hz=>(hok z (Qz hz)).2)
 have L:=rd.left (ops.take m) (by rw[Qu];omega)
 obtain ⟨r,hr⟩: ∃r,WaM H s t (ops.take m)=r:=⟨_,rfl⟩
 rw[hr] at e1q vaq vbq L
 obtain ⟨h',A,B⟩:=r
 simp only at e1q vaq vbq L
 obtain ⟨k1,k2,gA,gB⟩:=L.good rd
 obtain ⟨hx,g1,e1,hg1,o1⟩:=quietly e1q o1q
 have hxx:hx=h1:=by rw[e1] at e1q;injection e1q with e1q;injection e1q
 subst hxx
 have va:Store.RI g1 ca A fa:=by rw[←hg1];exact Store.okI.up vaq _
 have vb:Store.RI g1 cb B fb:=by rw[←hg1];exact Store.okI.up vbq _
 obtain ⟨a1,a2,a3⟩:=Store.lenI va
 obtain ⟨b1,b2,b3⟩:=Store.lenI vb
 have wp:=pair_lit va vb
 have op:=On.push g1 [ca,cb]
 obtain ⟨gp,hgp⟩: ∃g,g1.push [ca,cb]=g:=⟨_,rfl⟩
 rw[hgp] at wp op
 have p1:=o1.trans op
 obtain ⟨g2,e2,o2⟩:=LiveTotal_c (Z:=Z) k q (p1.le hf) wp (fun a ha=>by
  simp only[Qo,Qm,or_false] at ha
  rcases ha with rfl | rfl
  ·exact gA.ok
  ·exact gB.ok)
 rw[L.live rd] at e2
 have p2:=p1.trans o2
 have e3:=HandOk_run (Z:=Z) k.i11 hI15 h'.lo h'.from_ h'.to h'.epoch h'.phase g2
 rw[show Wcc h'.lo h'.from_ h'.to h'.epoch h'.phase=h'.ok from rfl,k1] at e3
 obtain ⟨g3,e4,o3⟩:=StoreOk_c (Z:=Z) k (p2.le hf) (Store.okI.on (Store.okI.on va op) o2) gA.ok
 rw[(Store.good_iff _).2 gA.good] at e4
 have p3:=p2.trans o3
 obtain ⟨g4,e5,o4⟩:=StoreOk_c (Z:=Z) k (p3.le hf) (Store.okI.on (Store.okI.on (Store.okI.on vb op) o2) o3) gB.ok
 rw[(Store.good_iff _).2 gB.good] at e5
 have p4:=p3.trans o4
 have va4:=Store.okI.on (Store.okI.on (Store.okI.on (Store.okI.on va op) o2) o3) o4
 have vb4:=Store.okI.on (Store.okI.on (Store.okI.on (Store.okI.on vb op) o2) o3) o4
 have wi4:=wi.on (Fl.ok _) p4
 have hph: ¬h'.phase<H.phase:=by have:=rd.ph;omega
 obtain ⟨sL,⟨gL,hsL,oL⟩,lp⟩:=WaB (F:=F) (Z:=Z) (live:=[3,4,5,6,7,8,9,10,12,13,16]) (b:=r412L0) ids.length (fun i st=> ∃g':Heap,st=⟨[(6,.c y),(7,.c (.int .u64 (wHi s.money))),(8,.c (.int .u64 (wLo s.money))),(9,.c yi),(10,.c (.int .i64 (m:Nat))),(16,.c (.int .i64 (i:Nat)))],[(3,3,0),(4,4,0),(5,5,0),(12,12,0),(13,13,0)],[(3,[.int .u64 H.lo,.int .i64 H.from_,.int .i64 H.to,.int .i64 H.epoch,.int .i64 H.phase]),(4,cs),(5,ct),(12,ca),(13,cb)],g'⟩∧On g4 g') (fun i st hi ⟨g',hst,o'⟩=>by
  subst hst
  obtain ⟨g'',o'',eq⟩:=holder_turn (F:=F) (Z:=Z) k q (Store.okI.on va4 o') (Store.okI.on vb4 o') gA.ok gB.ok (wi4.on (Fl.ok _) o') (fun id=>L.one rd id) hi hil
  exact ⟨_,⟨g'',rfl,o'.trans o''⟩,eq⟩) (s:=⟨[(6,.c y),(7,.c (.int .u64 (wHi s.money))),(8,.c (.int .u64 (wLo s.money))),(9,.c yi),(10,.c (.int .i64 (m:Nat))),(16,.c (.int .i64 ((0:Nat):Int)))],[(3,3,0),(4,4,0),(5,5,0),(12,12,0),(13,13,0)],[(3,[.int .u64 H.lo,.int .i64 H.from_,.int .i64 H.to,.int .i64 H.epoch,.int .i64 H.phase]),(4,cs),(5,ct),(12,ca),(13,cb)],g4⟩) ⟨g4,rfl,On.refl g4⟩
 subst hsL
 simp only[show ((0:Nat):Int)=0 from rfl] at lp
 have hil2:=(wi4.on (Fl.ok _) oL).len
 have hend: ¬((ids.length:Nat):Int)<ids.length:=by omega
 have hq6:=b_quo .i64 (ops.length:Int) 6 (by omega)
 have hq7:IntKind.i64.wrap ((ops.length:Int).tdiv 6)=((ops.length / 6:Nat):Int):=by
  rw[Qs (by omega),Wbr _ (by omega) (by omega)]
  omega
 rw[hq7] at hq6
 have hw1:IntKind.i64.wrap ((m:Int)+1)=(m:Int)+1:=Wbr _ (by omega) (by omega)
 have hw2:IntKind.i64.wrap ((m:Int)+1+((ops.length / 6:Nat):Int))=((m+1+ops.length / 6:Nat):Int):=by
  rw[Wbr _ (by omega) (by omega)]
  omega
 refine ⟨gL,p4.trans oL,?_⟩
 simp only[Hand.enc] at e1
 rw[Wab]
 conv in (Wad _ _ r412L1 _)=>unfold r412L1
 simp only[rn,RO.dst,lk,drop,Nat.reduceBEq,Nat.reduceAdd,Nat.reduceLeDiff,↓reduceIte,reduceCtorEq,Qb,Qa,Wav,and_self,Qd,Qe,Nat.reduceLT,Qf,Qg,hvl,hle,hyc,s1,s2,s3,t1,t2,t3,e1,hg1,a1,a2,a3,b1,b2,b3,hgp,e2,e3,e4,e5,bne_self_eq_false,hph,lp]
 rw[Wab]
 conv in (Wad _ _ r412L0 _)=>unfold r412L0
 simp only[rn,RO.dst,lk,drop,Nat.reduceBEq,Nat.reduceAdd,Nat.reduceLeDiff,↓reduceIte,reduceCtorEq,hil2,hend,hvl,hq6,hw1,hw2]
end
structure SP (h0 g:Heap) (y:Cell) (ca cb:List Cell) (p:Play) (rows:List (List Cell)) (fy fa fb:List Nat):Prop where
 net:Net HandMsg.RI 22 h0 g [] y rows p.net fy
 va:Store.RI g ca p.a fa
 vb:Store.RI g cb p.b fb
 fra:Fre h0 fa
 frb:Fre h0 fb
 sa: ∀id,id∈fa→id∉fy
 sb: ∀id,id∈fb→id∉fy
 dj: ∀id,id∈fa→id∉fb
 ok:p.Ok
section
variable {h0 g g' g1:Heap} {y z:Cell} {ca cb cs:List Cell} {p:Play} {rows rows':List (List Cell)} {fy fz fa fb fq:List Nat}
theorem SP.go (J:SP h0 g y ca cb p rows fy fa fb) (o:On g g'):SP h0 g' y ca cb p rows fy fa fb:=
 {J with
  net:=J.net.go HandMsg.okI o
  va:=Store.okI.on J.va o
  vb:=Store.okI.on J.vb o}
theorem SP.re {l:List HandMsg} (J:SP h0 g y ca cb p rows fy fa fb) (re:Re g g' fy fz) (net:Net HandMsg.RI 22 h0 g' [] z rows' l fz) (ok:({p with net:=l}:Play).Ok):SP h0 g' z ca cb {p with net:=l} rows' fz fa fb:=
 {net:=net
  va:=Store.okI.mv J.va re.le fun id hid=>re.get id (Store.okI.lt J.va id hid) (J.sa id hid)
  vb:=Store.okI.mv J.vb re.le fun id hid=>re.get id (Store.okI.lt J.vb id hid) (J.sb id hid)
  fra:=J.fra
  frb:=J.frb
  sa:=fun id hid hz=>by
   have:=Store.okI.lt J.va id hid
   rcases re.of id hz with h | h
   ·exact J.sa id hid h
   ·omega
  sb:=fun id hid hz=>by
   have:=Store.okI.lt J.vb id hid
   rcases re.of id hz with h | h
   ·exact J.sb id hid h
   ·omega
  dj:=J.dj
  ok:=ok}
theorem SP.setA {A:Store} (J:SP h0 g y ca cb p rows fy fa fb) (o:On g g1) (v:Store.RI g1 cs A fq) (f:Fre g fq) (ok:({p with a:=A}:Play).Ok):SP h0 g1 y cs cb {p with a:=A} rows fy fq fb:=by
 have W:=J.go o
 have hn:=J.net.on.ext.1
 exact
 {net:=W.net
  va:=v
  vb:=W.vb
  fra:=⟨fun id hid=>by have:=f.lo id hid;omega,f.nd⟩
  frb:=J.frb
  sa:=fun id hid hz=>by have:=f.lo id hid;have:=J.net.sl.lt (Fl.ok _) id hz;omega
  sb:=J.sb
  dj:=fun id hid hb=>by have:=f.lo id hid;have:=Store.okI.lt J.vb id hb;omega
  ok:=ok}
theorem SP.setB {B:Store} (J:SP h0 g y ca cb p rows fy fa fb) (o:On g g1) (v:Store.RI g1 cs B fq) (f:Fre g fq) (ok:({p with b:=B}:Play).Ok):SP h0 g1 y ca cs {p with b:=B} rows fy fa fq:=by
 have W:=J.go o
 have hn:=J.net.on.ext.1
 exact
 {net:=W.net
  va:=W.va
  vb:=v
  fra:=J.fra
  frb:=⟨fun id hid=>by have:=f.lo id hid;omega,f.nd⟩
  sa:=J.sa
  sb:=fun id hid hz=>by have:=f.lo id hid;have:=J.net.sl.lt (Fl.ok _) id hz;omega
  dj:=fun id hid hb=>by have:=f.lo id hb;have:=Store.okI.lt J.va id hid;omega
  ok:=ok}
theorem SP.setH {H:Hand} (J:SP h0 g y ca cb p rows fy fa fb) (ok:({p with hd:=H}:Play).Ok):SP h0 g y ca cb {p with hd:=H} rows fy fa fb:={J with ok:=ok}
end
theorem place_eqS {o:Int} (h0: ¬o<0) (h1:o≠0) (hb:o≤9223372036854775807):IntKind.i64.wrap (o-1)=o-1∧IntKind.i64.wrap ((o-1).tdiv 3)=((WaN o:Nat):Int)∧(((o-1).tmod 3==2)=(o.tmod 3==0))∧(((o-1).tmod 3==1)=(o.tmod 3==2)):=by
 have e:(o-1).tdiv 3=(o-1) / 3:=Qs (by omega)
 have e2:(o-1).tmod 3=(o-1)%3:=QC (by omega)
 have e3:o.tmod 3=o%3:=QC (by omega)
 refine ⟨Wbr _ (by omega) (by omega),?_,?_,?_⟩
 ·unfold WaN
  rw[e,Wbr _ (by omega) (by omega)]
  omega
 ·rw[e2,e3,QJ];simp only[beq_iff_eq];omega
 ·rw[e2,e3,QJ];simp only[beq_iff_eq];omega
def sst (x y:Cell) (hd:Hand) (ca cb:List Cell) (i:Nat) (g:Heap):St:=
 ⟨[(3,.c x),(11,.c y),(14,.c (.int .i64 (i:Nat)))],[(4,4,0),(8,8,0),(9,9,0),(10,10,0),(12,12,0),(13,13,0)],
   [(4,hd.enc),(8,[.int .u64 0,.int .i64 0,.int .i64 0,.int .i64 0,.int .i64 0]),(9,[.int .i64 0,.int .i64 0,.nil]),(10,[.int .i64 0,.int .i64 0,.nil]),(12,ca),(13,cb)],g⟩
section
variable {F:Nat→Option RF} {Z:Waf} {h0 g:Heap} {x y:Cell} {ca cb:List Cell} {p:Play} {rows:List (List Cell)} {fy fa fb fo:List Nat} {ops:List Int}
set_option maxHeartbeats 4000000 in
theorem s_send (k:KS F) (hS15:Has F tS15) (hf:h0.floor≤h0.next) (J:SP h0 g y ca cb p rows fy fa fb) (w:Vw 15 Wai h0 x ops) {i:Nat} (hi:i<ops.length) (hl:ops.length≤200) (ho:ops[i]=0):
 ∃g' y' rows' fy',SP h0 g' y' ca cb p.sends rows' fy' fa fb∧loop F Z [3,4,8,9,10,11,12,13,14] Wbo (sst x y p.hd ca cb i g)=loop F Z [3,4,8,9,10,11,12,13,14] Wbo (sst x y' p.sends.hd ca cb (i+1) g'):=by
 have wg:=w.on J.net.on
 have hlt:(i:Int)<ops.length:=by omega
 have hws:=WaS i (by omega)
 have hix:=wg.idx hi
 have hwl:=wg.len
 have hld:=wg.load hi
 rw[ho] at hld
 obtain ⟨l1,l2,l3⟩:=Store.lenI J.va
 obtain ⟨cs,g1,fq,e1,o1,v1,f1⟩:=sHandSend_c (Z:=Z) k hS15 (J.net.on.le hf) p.hd J.va J.ok.a.1 J.ok.a.2
 obtain ⟨a1,a2,a3⟩:=HandMsg.lenI v1
 have J1:=J.go o1
 have hlen:=J1.net.sl.len
 have hrl:=J.net.len
 have hcap:=J.ok.net.1
 simp only[sst,Hand.enc] at *
 rw[Wab]
 conv in (Wad _ _ Wbo _)=>unfold Wbo
 unfold Play.sends Play.puts
 cases hs:(Wat p.hd p.a).2 with
 | false=>
   simp only[hs] at e1
   refine ⟨g1,y,rows,fy,J1,?_⟩
   simp only[rn,RO.dst,lk,drop,Nat.reduceBEq,Nat.reduceAdd,Nat.reduceLeDiff,↓reduceIte,reduceCtorEq,hlt,hwl,hix,hld,Wai,show ((0:Int)==0)=true from rfl,l1,l2,l3,e1,a1,a2,a3,hws]
 | true=>
   simp only[hs] at e1
   by_cases h40:p.net.length<40
   ·have h40':(rows.length:Int)<40:=by omega
    have eo:=(show Acc 22 h0 g1 y rows from ⟨J1.net.on,fy,J1.net.sl,J1.net.fre⟩).one_eq hf (bytes:=112) (by omega) cs
    obtain ⟨fz,net',re⟩:=J1.net.push_ HandMsg.okI hf (by omega) v1 fun id hid=>⟨by have:=f1.lo id hid;have:=J.net.on.ext.1;omega,fun hz=>by have:=f1.lo id hid;have:=J.net.sl.lt (Fl.ok _) id hz;omega,fun hz=>nomatch hz⟩
    have ok':=J.ok.puts ⟨handSend_ok J.ok.hd J.ok.a.1,handSend_small J.ok.a.2 p.hd⟩
    unfold Play.puts at ok'
    simp only[h40,decide_true,cond_true] at ok' ⊢
    refine ⟨_,_,_,fz,J1.re re net' ok',?_⟩
    simp only[rn,RO.dst,lk,drop,Nat.reduceBEq,Nat.reduceAdd,Nat.reduceLeDiff,↓reduceIte,reduceCtorEq,Qb,Qa,Wav,and_self,Qd,Qe,Nat.reduceLT,Qf,Qg,hlt,hwl,hix,hld,Wai,show ((0:Int)==0)=true from rfl,l1,l2,l3,e1,a1,a2,a3,hlen,h40',eo,hws]
   ·have h40': ¬(rows.length:Int)<40:=by omega
    simp only[h40,decide_false,cond_false,cond_true]
    refine ⟨g1,y,rows,fy,J1,?_⟩
    simp only[rn,RO.dst,lk,drop,Nat.reduceBEq,Nat.reduceAdd,Nat.reduceLeDiff,↓reduceIte,reduceCtorEq,Qb,Qa,Wav,and_self,Qd,Qe,Nat.reduceLT,Qf,Qg,hlt,hwl,hix,hld,Wai,show ((0:Int)==0)=true from rfl,l1,l2,l3,e1,a1,a2,a3,hlen,h40',hws]
set_option maxHeartbeats 4000000 in
theorem s_pass (J:SP h0 g y ca cb p rows fy fa fb) (w:Vw 15 Wai h0 x ops) {i:Nat} (hi:i<ops.length) (hl:ops.length≤200) (ho:ops[i]≠0) (hb:ops[i]≤9223372036854775807) (hp:ops[i]<0∨p.net.length≤WaN ops[i]):
 loop F Z [3,4,8,9,10,11,12,13,14] Wbo (sst x y p.hd ca cb i g)=loop F Z [3,4,8,9,10,11,12,13,14] Wbo (sst x y p.hd ca cb (i+1) g):=by
 have wg:=w.on J.net.on
 have hlt:(i:Int)<ops.length:=by omega
 have hws:=WaS i (by omega)
 have hix:=wg.idx hi
 have hwl:=wg.len
 have hld:=wg.load hi
 have hlen:=J.net.sl.len
 have hrl:=J.net.len
 generalize ops[i]=o at *
 have hn0:(o==0)=false:=by simpa using ho
 have bq:=fun a=>b_quo .i64 a 3 (by omega)
 simp only[sst,Hand.enc]
 rw[Wab]
 conv in (Wad _ _ Wbo _)=>unfold Wbo
 by_cases hneg:o<0
 ·simp only[rn,RO.dst,lk,drop,Nat.reduceBEq,Nat.reduceAdd,Nat.reduceLeDiff,↓reduceIte,reduceCtorEq,hlt,hwl,hix,hld,Wai,hn0,bq,hneg,hws]
 ·obtain ⟨q1,q2,_,_⟩:=place_eqS hneg ho hb
  have hge:(rows.length:Int)≤((WaN o:Nat):Int):=by omega
  have hge':((WaN o:Nat):Int)≥(rows.length:Int):=hge
  simp only[rn,RO.dst,lk,drop,Nat.reduceBEq,Nat.reduceAdd,Nat.reduceLeDiff,↓reduceIte,reduceCtorEq,hlt,hwl,hix,hld,Wai,hn0,bq,hneg,q1,q2,hlen,hge,hge',hws]
set_option maxHeartbeats 4000000 in
theorem s_copy (hf:h0.floor≤h0.next) (J:SP h0 g y ca cb p rows fy fa fb) (w:Vw 15 Wai h0 x ops) {i:Nat} (hi:i<ops.length) (hl:ops.length≤200) (ho:ops[i]≠0) (hb:ops[i]≤9223372036854775807) (hneg: ¬ops[i]<0) (hk:WaN ops[i]<p.net.length) (h3:ops[i].tmod 3=0):
 ∃g' y' rows' fy',SP h0 g' y' ca cb (p.puts (HandMsg.at_ p.net (WaN ops[i]))) rows' fy' fa fb∧
  loop F Z [3,4,8,9,10,11,12,13,14] Wbo (sst x y p.hd ca cb i g)=loop F Z [3,4,8,9,10,11,12,13,14] Wbo (sst x y' (p.puts (HandMsg.at_ p.net (WaN ops[i]))).hd ca cb (i+1) g'):=by
 have wg:=w.on J.net.on
 have hlt:(i:Int)<ops.length:=by omega
 have hws:=WaS i (by omega)
 have hix:=wg.idx hi
 have hwl:=wg.len
 have hld:=wg.load hi
 have hlen:=J.net.sl.len
 have hrl:=J.net.len
 have hcap:=J.ok.net.1
 generalize ops[i]=o at *
 have hn0:(o==0)=false:=by simpa using ho
 have bq:=fun a=>b_quo .i64 a 3 (by omega)
 have br:=fun a=>b_rem .i64 a 3 (by omega)
 obtain ⟨q1,q2,q3,_⟩:=place_eqS hneg ho hb
 have hge: ¬(rows.length:Int)≤((WaN o:Nat):Int):=by omega
 have hge': ¬((WaN o:Nat):Int)≥(rows.length:Int):=hge
 have h30:(o.tmod 3==0)=true:=by simp[h3]
 rw[h30] at q3
 have hokm:=J.ok.at_ hk
 generalize WaN o=kk at *
 obtain ⟨r,f,hr,vr,hfr⟩:=J.net.el kk p.net[kk] (Qc hk)
 obtain ⟨b1,b2,b3⟩:=HandMsg.lenI vr
 have hkr:kk<rows.length:=by omega
 have hrk:rows[kk]=r:=by
  rw[Qc hkr] at hr;injection hr
 have hmx:=J.net.sl.idx hkr
 have hml:=J.net.sl.load hkr
 simp only[hrk] at hml
 rw[HandMsg.at_get hk] at hokm ⊢
 simp only[sst,Hand.enc]
 rw[Wab]
 conv in (Wad _ _ Wbo _)=>unfold Wbo
 unfold Play.puts
 by_cases h40:p.net.length<40
 ·have h40':(rows.length:Int)<40:=by omega
  have eo:=(show Acc 22 h0 g y rows from ⟨J.net.on,fy,J.net.sl,J.net.fre⟩).one_eq hf (bytes:=112) (by omega) r
  obtain ⟨fz,net',re⟩:=J.net.push_ HandMsg.okI hf (by omega) vr hfr
  have ok':=J.ok.puts hokm
  unfold Play.puts at ok'
  simp only[h40,decide_true,cond_true] at ok' ⊢
  refine ⟨_,_,_,fz,J.re re net' ok',?_⟩
  simp only[rn,RO.dst,lk,drop,Nat.reduceBEq,Nat.reduceAdd,Nat.reduceLeDiff,↓reduceIte,reduceCtorEq,Qb,Qa,Wav,and_self,Qd,Qe,Nat.reduceLT,Qf,Qg,hlt,hwl,hix,hld,Wai,hn0,bq,br,hneg,q1,q2,q3,hlen,hge,hge',hmx,hml,b1,b2,b3,h40',eo,hws]
 ·have h40': ¬(rows.length:Int)<40:=by omega
  simp only[h40,decide_false,cond_false]
  refine ⟨g,y,rows,fy,J,?_⟩
  simp only[rn,RO.dst,lk,drop,Nat.reduceBEq,Nat.reduceAdd,Nat.reduceLeDiff,↓reduceIte,reduceCtorEq,Qb,Qa,Wav,and_self,Qd,Qe,Nat.reduceLT,Qf,Qg,hlt,hwl,hix,hld,Wai,hn0,bq,br,hneg,q1,q2,q3,hlen,hge,hge',hmx,hml,b1,b2,b3,h40',hws]
end
theorem rest_step {α:Type} {xs:List α} {j k:Nat} (hj:j<xs.length):(xs.take (j+1)).eraseIdx k=if j=k then (xs.take j).eraseIdx k else (xs.take j).eraseIdx k++[xs[j]]:=by
 have ht:xs.take (j+1)=xs.take j++[xs[j]]:=by rw[Qy,Qc hj];rfl
 have hl:(xs.take j).length=j:=by rw[Qu];omega
 rw[ht]
 by_cases h1:k<j
 ·rw[if_neg (by omega),List.eraseIdx_append_of_lt_length (by omega)]
 ·rw[QD (l:=xs.take j) (by omega),List.eraseIdx_append_of_length_le (by omega),hl]
  by_cases h2:j=k
  ·subst h2;simp
  ·rw[if_neg h2,QD (l:=[xs[j]]) (by simp;omega)]
section
variable {F:Nat→Option RF} {Z:Waf} {h0 g:Heap} {x y:Cell} {ca cb:List Cell} {p:Play} {rows:List (List Cell)} {fy fa fb fo:List Nat} {ops:List Int}
set_option maxHeartbeats 4000000 in
theorem rest_run (hf:g.floor≤g.next) (s:SlR 22 (Fl fun r=>r) g y rows fy) (hrl:rows.length≤40) (h10: ∀(j:Nat) (hj:j<rows.length),rows[j].length=10∧rows[j].take 10=rows[j]∧rows[j].drop 10=[]) (kk i:Nat) (A4 A8 A9 A10 A12 A13 A18:List Cell):
 ∃z g',Acc 22 g g' z (rows.eraseIdx kk)∧loop F Z [3,4,8,9,10,11,12,13,14,17,18,19,20] WbT ⟨[(3,.c x),(11,.c y),(14,.c (.int .i64 (i:Nat))),(17,.c (.int .i64 (kk:Nat))),(19,.c (.sl 22 g.next 0 0)),(20,.c (.int .i64 0))],[(4,4,0),(8,8,0),(9,9,0),(10,10,0),(12,12,0),(13,13,0),(18,18,0)],[(4,A4),(8,A8),(9,A9),(10,A10),(12,A12),(13,A13),(18,A18)],g.push []⟩=
  loop F Z [3,4,8,9,10,11,12,13,14,17,18,19,20] WbT ⟨[(3,.c x),(11,.c y),(14,.c (.int .i64 (i:Nat))),(17,.c (.int .i64 (kk:Nat))),(19,.c z),(20,.c (.int .i64 (rows.length:Nat)))],[(4,4,0),(8,8,0),(9,9,0),(10,10,0),(12,12,0),(13,13,0),(18,18,0)],[(4,A4),(8,A8),(9,A9),(10,A10),(12,A12),(13,A13),(18,A18)],g'⟩:=by
 obtain ⟨s',⟨z,g',rfl,acc⟩,key⟩:=WaB (F:=F) (Z:=Z) (live:=[3,4,8,9,10,11,12,13,14,17,18,19,20]) (b:=WbT) rows.length (fun j st=> ∃z g',st=⟨[(3,.c x),(11,.c y),(14,.c (.int .i64 (i:Nat))),(17,.c (.int .i64 (kk:Nat))),(19,.c z),(20,.c (.int .i64 (j:Nat)))],[(4,4,0),(8,8,0),(9,9,0),(10,10,0),(12,12,0),(13,13,0),(18,18,0)],[(4,A4),(8,A8),(9,A9),(10,A10),(12,A12),(13,A13),(18,A18)],g'⟩∧Acc 22 g g' z ((rows.take j).eraseIdx kk)) (fun j st hj ⟨z,g',hs,acc⟩=>by
  subst hs
  have sg:=s.on (Fl.ok _) acc.on
  have hlt:(j:Int)<rows.length:=by omega
  have hws:=WaS j (by omega)
  have hlen:=sg.len
  have hix:=sg.idx hj
  have hld:=sg.load hj
  obtain ⟨b1,b2,b3⟩:=h10 j hj
  have hrs:=rest_step (k:=kk) hj
  have hle:((rows.take j).eraseIdx kk).length≤40:=by
   have:=Qw (rows.take j) kk
   rw[Qu] at this;omega
  rw[Wab]
  conv in (Wad _ _ WbT _)=>unfold WbT
  by_cases hjk:j=kk
  ·rw[if_pos hjk] at hrs
   have hne:(((j:Nat):Int) !=((kk:Nat):Int))=false:=by simp[hjk]
   exact ⟨_,⟨z,g',rfl,by rw[hrs];exact acc⟩,by simp only[rn,RO.dst,lk,drop,Nat.reduceBEq,Nat.reduceAdd,Nat.reduceLeDiff,↓reduceIte,reduceCtorEq,hlen,hlt,hne,hws]⟩
  ·rw[if_neg hjk] at hrs
   have hne:(((j:Nat):Int) !=((kk:Nat):Int))=true:=by simp;omega
   have eo:=acc.one_eq hf (bytes:=112) (by omega) rows[j]
   have ao:=acc.one hf (by omega) rows[j]
   rw[←hrs] at ao
   exact ⟨_,⟨_,_,rfl,ao⟩,by simp only[rn,RO.dst,lk,drop,Nat.reduceBEq,Nat.reduceAdd,Nat.reduceLeDiff,↓reduceIte,reduceCtorEq,Qb,Qa,Wav,and_self,Qd,Qe,Nat.reduceLT,Qf,Qg,hlen,hlt,hne,hix,hld,b1,b2,b3,eo,hws]⟩) (s:=⟨[(3,.c x),(11,.c y),(14,.c (.int .i64 (i:Nat))),(17,.c (.int .i64 (kk:Nat))),(19,.c (.sl 22 g.next 0 0)),(20,.c (.int .i64 ((0:Nat):Int)))],[(4,4,0),(8,8,0),(9,9,0),(10,10,0),(12,12,0),(13,13,0),(18,18,0)],[(4,A4),(8,A8),(9,A9),(10,A10),(12,A12),(13,A13),(18,A18)],g.push []⟩) ⟨_,_,rfl,by simpa using Acc.lit0 (On.refl g)⟩
 rw[Qv] at acc
 exact ⟨z,g',acc,key⟩
end
section
variable {F:Nat→Option RF} {Z:Waf} {h0 g g1:Heap} {x y z:Cell} {ca cb:List Cell} {p:Play} {rows:List (List Cell)} {fy fa fb fo:List Nat} {ops:List Int}
theorem SP.rest (J:SP h0 g y ca cb p rows fy fa fb) {kk:Nat} (hk:kk<p.net.length) (a:Acc 22 g g1 z (rows.eraseIdx kk)): ∃fz,SP h0 g1 z ca cb (p.loses kk) (rows.eraseIdx kk) fz fa fb:=by
 obtain ⟨o,fz,s,f⟩:=a
 have re:Re g g1 fy fz:=⟨o.ext.1,o.fl,fun id hid _=>o.ext.2 id hid,f.nd,fun id hid=> .inr (f.lo id hid)⟩
 have net':Net HandMsg.RI 22 h0 g1 [] z (rows.eraseIdx kk) (p.net.eraseIdx kk) fz:=J.net.of_re HandMsg.okI re s (by rw[Qq,Qq,J.net.len]) fun j b hb=> .inl (by
  rw[Qr] at hb
  rw[Qr]
  split at hb
  ·rename_i h;rw[if_pos h];exact ⟨j,hb,rfl⟩
  ·rename_i h;rw[if_neg h];exact ⟨j+1,hb,rfl⟩)
 exact ⟨fz,J.re re net' (J.ok.loses kk)⟩
theorem SP.ten (J:SP h0 g y ca cb p rows fy fa fb) (j:Nat) (hj:j<rows.length):rows[j].length=10∧rows[j].take 10=rows[j]∧rows[j].drop 10=[]:=by
 have hl:=J.net.len
 obtain ⟨r,f,q1,q2,_⟩:=J.net.el j p.net[j] (Qc (by omega))
 rw[Qc hj] at q1
 injection q1 with q1
 rw[q1];exact HandMsg.lenI q2
set_option maxHeartbeats 8000000 in
theorem s_lose (hf:h0.floor≤h0.next) (J:SP h0 g y ca cb p rows fy fa fb) (w:Vw 15 Wai h0 x ops) {i:Nat} (hi:i<ops.length) (hl:ops.length≤200) (ho:ops[i]≠0) (hb:ops[i]≤9223372036854775807) (hneg: ¬ops[i]<0) (hk:WaN ops[i]<p.net.length) (h3:ops[i].tmod 3=2):
 ∃g' y' rows' fy',SP h0 g' y' ca cb (p.loses (WaN ops[i])) rows' fy' fa fb∧
  loop F Z [3,4,8,9,10,11,12,13,14] Wbo (sst x y p.hd ca cb i g)=loop F Z [3,4,8,9,10,11,12,13,14] Wbo (sst x y' (p.loses (WaN ops[i])).hd ca cb (i+1) g'):=by
 have wg:=w.on J.net.on
 have hlt:(i:Int)<ops.length:=by omega
 have hws:=WaS i (by omega)
 have hix:=wg.idx hi
 have hwl:=wg.len
 have hld:=wg.load hi
 have hlen:=J.net.sl.len
 have hrl:=J.net.len
 have hcap:=J.ok.net.1
 generalize hoi:ops[i]=o at *
 have hn0:(o==0)=false:=by simpa using ho
 have bq:=fun a=>b_quo .i64 a 3 (by omega)
 have br:=fun a=>b_rem .i64 a 3 (by omega)
 obtain ⟨q1,q2,q3,q4⟩:=place_eqS hneg ho hb
 have hge: ¬(rows.length:Int)≤((WaN o:Nat):Int):=by omega
 have hge': ¬((WaN o:Nat):Int)≥(rows.length:Int):=hge
 have hokm:=J.ok.at_ hk
 generalize WaN o=kk at *
 obtain ⟨r,f,hr,vr,hfr⟩:=J.net.el kk p.net[kk] (Qc hk)
 obtain ⟨b1,b2,b3⟩:=HandMsg.lenI vr
 have hkr:kk<rows.length:=by omega
 have hrk:rows[kk]=r:=by
  rw[Qc hkr] at hr;injection hr
 have hmx:=J.net.sl.idx hkr
 have hml:=J.net.sl.load hkr
 simp only[hrk] at hml
 have hgl:=J.net.on.le hf
 have hl0: ¬(rows.length:Int)<rows.length:=by omega
 have h30:(o.tmod 3==0)=false:=by simp[h3]
 have h32:(o.tmod 3==2)=true:=by simp[h3]
 rw[h30] at q3
 rw[h32] at q4
 obtain ⟨z,g1,acc,key⟩:=rest_run (F:=F) (Z:=Z) (x:=x) hgl J.net.sl (by omega) J.ten kk i [.int .u64 p.hd.lo,.int .i64 p.hd.from_,.int .i64 p.hd.to,.int .i64 p.hd.epoch,.int .i64 p.hd.phase] [.int .u64 0,.int .i64 0,.int .i64 0,.int .i64 0,.int .i64 0] [.int .i64 0,.int .i64 0,.nil] [.int .i64 0,.int .i64 0,.nil] ca cb r
 obtain ⟨fz,J1⟩:=J.rest hk acc
 have hld1:=(wg.on acc.on).load hi
 rw[hoi] at hld1
 refine ⟨_,_,_,fz,J1,?_⟩
 simp only[sst,Hand.enc,Play.loses]
 rw[Wab]
 conv in (Wad _ _ Wbo _)=>unfold Wbo
 simp only[rn,RO.dst,lk,drop,Nat.reduceBEq,Nat.reduceAdd,Nat.reduceLeDiff,↓reduceIte,reduceCtorEq,Qb,Qa,Wav,and_self,Qd,Qe,Nat.reduceLT,Qf,Qg,hlt,hwl,hix,hld,Wai,hn0,bq,br,hneg,q1,q2,q3,q4,hlen,hge,hge',hmx,hml,b1,b2,b3,key]
 rw[Wab (b:=WbT)]
 conv in (Wad _ _ WbT _)=>unfold WbT
 simp only[rn,RO.dst,lk,drop,Nat.reduceBEq,Nat.reduceAdd,Nat.reduceLeDiff,↓reduceIte,reduceCtorEq,Qb,Qa,Wav,and_self,Qd,Qe,Nat.reduceLT,Qf,Qg,hl0,hlt,hwl,hix,hld,hld1,Wai,hn0,bq,br,hneg,q1,q2,q3,q4,hlen,hge,hge',hmx,hml,b1,b2,b3,hws]
set_option maxHeartbeats 8000000 in
theorem s_take (k:KS F) (hS:Has F tS01d) (hS15:Has F tS15) (hf:h0.floor≤h0.next) (J:SP h0 g y ca cb p rows fy fa fb) (w:Vw 15 Wai h0 x ops) {i:Nat} (hi:i<ops.length) (hl:ops.length≤200) (ho:ops[i]≠0) (hb:ops[i]≤9223372036854775807) (hneg: ¬ops[i]<0) (hk:WaN ops[i]<p.net.length) (h3:ops[i].tmod 3≠0) (h4:ops[i].tmod 3≠2):
 ∃g' y' ca' cb' rows' fy' fa' fb',SP h0 g' y' ca' cb' ((p.loses (WaN ops[i])).takes (HandMsg.at_ p.net (WaN ops[i]))) rows' fy' fa' fb'∧
  loop F Z [3,4,8,9,10,11,12,13,14] Wbo (sst x y p.hd ca cb i g)=loop F Z [3,4,8,9,10,11,12,13,14] Wbo (sst x y' ((p.loses (WaN ops[i])).takes (HandMsg.at_ p.net (WaN ops[i]))).hd ca' cb' (i+1) g'):=by
 have wg:=w.on J.net.on
 have hlt:(i:Int)<ops.length:=by omega
 have hws:=WaS i (by omega)
 have hix:=wg.idx hi
 have hwl:=wg.len
 have hld:=wg.load hi
 have hlen:=J.net.sl.len
 have hrl:=J.net.len
 have hcap:=J.ok.net.1
 generalize hoi:ops[i]=o at *
 have hn0:(o==0)=false:=by simpa using ho
 have bq:=fun a=>b_quo .i64 a 3 (by omega)
 have br:=fun a=>b_rem .i64 a 3 (by omega)
 obtain ⟨q1,q2,q3,q4⟩:=place_eqS hneg ho hb
 have hge: ¬(rows.length:Int)≤((WaN o:Nat):Int):=by omega
 have hge': ¬((WaN o:Nat):Int)≥(rows.length:Int):=hge
 have hokm:=J.ok.at_ hk
 generalize WaN o=kk at *
 obtain ⟨r,f,hr,vr,hfr⟩:=J.net.el kk p.net[kk] (Qc hk)
 obtain ⟨b1,b2,b3⟩:=HandMsg.lenI vr
 have hkr:kk<rows.length:=by omega
 have hrk:rows[kk]=r:=by
  rw[Qc hkr] at hr;injection hr
 have hmx:=J.net.sl.idx hkr
 have hml:=J.net.sl.load hkr
 simp only[hrk] at hml
 have hgl:=J.net.on.le hf
 have hl0: ¬(rows.length:Int)<rows.length:=by omega
 have h30:(o.tmod 3==0)=false:=by simpa using h3
 have h32:(o.tmod 3==2)=false:=by simpa using h4
 rw[h30] at q3
 rw[h32] at q4
 have hten:=J.ten
 obtain ⟨mx1,mx2,hmr⟩: ∃c1 c2,r=[.int .i64 p.net[kk].step,.int .u64 p.net[kk].lo,.int .i64 p.net[kk].to,.int .i64 p.net[kk].epoch,.int .u64 p.net[kk].shard.lo,.int .u64 p.net[kk].shard.hi,.int .i64 p.net[kk].shard.state,.int .i64 p.net[kk].shard.epoch,c1,c2]:=by
  obtain ⟨c1,_,c2,_,e,_⟩:=vr
  exact ⟨c1,c2,e⟩
 obtain ⟨z,g1,acc,key⟩:=rest_run (F:=F) (Z:=Z) (x:=x) hgl J.net.sl (by omega) hten kk i [.int .u64 p.hd.lo,.int .i64 p.hd.from_,.int .i64 p.hd.to,.int .i64 p.hd.epoch,.int .i64 p.hd.phase] [.int .u64 0,.int .i64 0,.int .i64 0,.int .i64 0,.int .i64 0] [.int .i64 0,.int .i64 0,.nil] [.int .i64 0,.int .i64 0,.nil] ca cb r
 obtain ⟨fz,J1⟩:=J.rest hk acc
 have hld1:=(wg.on acc.on).load hi
 rw[hoi] at hld1
 have v1:=HandMsg.okI.on vr acc.on
 rw[HandMsg.at_get hk] at hokm ⊢
 generalize p.net[kk]=m at *
 have hhd:(p.loses kk).hd=p.hd:=rfl
 rw[←hhd] at key ⊢
 generalize p.loses kk=P at *
 subst hmr
 clear J wg hten acc
 have hg1:=J1.net.on.le hf
 unfold Play.takes Play.goes
 by_cases hto:m.to=P.hd.from_
 ·have hto':(m.to==P.hd.from_)=true:=by simpa using hto
  obtain ⟨l1,l2,l3⟩:=Store.lenI J1.va
  obtain ⟨cs,g2,fq,e2,o2,v2,f2⟩:=sHandTake_c (Z:=Z) k hS15 hg1 J1.va v1 J1.ok.a.1 J1.ok.a.2 hokm.1 hokm.2
  obtain ⟨a1,a2,a3⟩:=Store.lenI v2
  have J3:=J1.setA o2 v2 f2 ⟨J1.ok.hd,⟨WbX J1.ok.a.1 hokm.1,Wbw J1.ok.a.2 hokm.2⟩,J1.ok.b,J1.ok.net⟩
  obtain ⟨g3,e3,o3⟩:=sHandDone_c (Z:=Z) hS hS15 (o2.le hg1) P.hd (HandMsg.okI.on v1 o2)
  simp only[Hand.enc] at e3
  cases ht:(Wah P.a m).2 with
  | false=>
    simp only[ht] at e2
    simp only[hto',cond_true,cond_false]
    refine ⟨_,_,_,_,_,_,_,_,J3,?_⟩
    simp only[sst,Hand.enc]
    rw[Wab]
    conv in (Wad _ _ Wbo _)=>unfold Wbo
    simp only[rn,RO.dst,lk,drop,Nat.reduceBEq,Nat.reduceAdd,Nat.reduceLeDiff,↓reduceIte,reduceCtorEq,Qb,Qa,Wav,and_self,Qd,Qe,Nat.reduceLT,Qf,Qg,hlt,hwl,hix,hld,Wai,hn0,bq,br,hneg,q1,q2,q3,q4,hlen,hge,hge',hmx,hml,b1,b2,b3,key]
    rw[Wab (b:=WbT)]
    conv in (Wad _ _ WbT _)=>unfold WbT
    simp only[rn,RO.dst,lk,drop,Nat.reduceBEq,Nat.reduceAdd,Nat.reduceLeDiff,↓reduceIte,reduceCtorEq,Qb,Qa,Wav,and_self,Qd,Qe,Nat.reduceLT,Qf,Qg,hl0,hlt,hwl,hix,hld,hld1,Wai,hn0,bq,br,hneg,q1,q2,q3,q4,hlen,hge,hge',hmx,hml,b1,b2,b3,hto',l1,l2,l3,e2,a1,a2,a3,hws]
  | true=>
    simp only[ht] at e2
    simp only[hto',cond_true,cond_false]
    refine ⟨_,_,_,_,_,_,_,_,(J3.setH ⟨Hand.done_ok J3.ok.hd _ _ _,J3.ok.a,J3.ok.b,J3.ok.net⟩).go o3,?_⟩
    simp only[sst,Hand.enc]
    rw[Wab]
    conv in (Wad _ _ Wbo _)=>unfold Wbo
    simp only[rn,RO.dst,lk,drop,Nat.reduceBEq,Nat.reduceAdd,Nat.reduceLeDiff,↓reduceIte,reduceCtorEq,Qb,Qa,Wav,and_self,Qd,Qe,Nat.reduceLT,Qf,Qg,hlt,hwl,hix,hld,Wai,hn0,bq,br,hneg,q1,q2,q3,q4,hlen,hge,hge',hmx,hml,b1,b2,b3,key]
    rw[Wab (b:=WbT)]
    conv in (Wad _ _ WbT _)=>unfold WbT
    simp only[rn,RO.dst,lk,drop,Nat.reduceBEq,Nat.reduceAdd,Nat.reduceLeDiff,↓reduceIte,reduceCtorEq,Qb,Qa,Wav,and_self,Qd,Qe,Nat.reduceLT,Qf,Qg,hl0,hlt,hwl,hix,hld,hld1,Wai,hn0,bq,br,hneg,q1,q2,q3,q4,hlen,hge,hge',hmx,hml,b1,b2,b3,hto',l1,l2,l3,e2,a1,a2,a3,e3,hws]
 ·have hto':(m.to==P.hd.from_)=false:=by simpa using hto
  obtain ⟨l1,l2,l3⟩:=Store.lenI J1.vb
  obtain ⟨cs,g2,fq,e2,o2,v2,f2⟩:=sHandTake_c (Z:=Z) k hS15 hg1 J1.vb v1 J1.ok.b.1 J1.ok.b.2 hokm.1 hokm.2
  obtain ⟨a1,a2,a3⟩:=Store.lenI v2
  have J3:=J1.setB o2 v2 f2 ⟨J1.ok.hd,J1.ok.a,⟨WbX J1.ok.b.1 hokm.1,Wbw J1.ok.b.2 hokm.2⟩,J1.ok.net⟩
  obtain ⟨g3,e3,o3⟩:=sHandDone_c (Z:=Z) hS hS15 (o2.le hg1) P.hd (HandMsg.okI.on v1 o2)
  simp only[Hand.enc] at e3
  cases ht:(Wah P.b m).2 with
  | false=>
    simp only[ht] at e2
    simp only[hto',cond_true,cond_false]
    refine ⟨_,_,_,_,_,_,_,_,J3,?_⟩
    simp only[sst,Hand.enc]
    rw[Wab]
    conv in (Wad _ _ Wbo _)=>unfold Wbo
    simp only[rn,RO.dst,lk,drop,Nat.reduceBEq,Nat.reduceAdd,Nat.reduceLeDiff,↓reduceIte,reduceCtorEq,Qb,Qa,Wav,and_self,Qd,Qe,Nat.reduceLT,Qf,Qg,hlt,hwl,hix,hld,Wai,hn0,bq,br,hneg,q1,q2,q3,q4,hlen,hge,hge',hmx,hml,b1,b2,b3,key]
    rw[Wab (b:=WbT)]
    conv in (Wad _ _ WbT _)=>unfold WbT
    simp only[rn,RO.dst,lk,drop,Nat.reduceBEq,Nat.reduceAdd,Nat.reduceLeDiff,↓reduceIte,reduceCtorEq,Qb,Qa,Wav,and_self,Qd,Qe,Nat.reduceLT,Qf,Qg,hl0,hlt,hwl,hix,hld,hld1,Wai,hn0,bq,br,hneg,q1,q2,q3,q4,hlen,hge,hge',hmx,hml,b1,b2,b3,hto',l1,l2,l3,e2,a1,a2,a3,hws]
  | true=>
    simp only[ht] at e2
    simp only[hto',cond_true,cond_false]
    refine ⟨_,_,_,_,_,_,_,_,(J3.setH ⟨Hand.done_ok J3.ok.hd _ _ _,J3.ok.a,J3.ok.b,J3.ok.net⟩).go o3,?_⟩
    simp only[sst,Hand.enc]
    rw[Wab]
    conv in (Wad _ _ Wbo _)=>unfold Wbo
    simp only[rn,RO.dst,lk,drop,Nat.reduceBEq,Nat.reduceAdd,Nat.reduceLeDiff,↓reduceIte,reduceCtorEq,Qb,Qa,Wav,and_self,Qd,Qe,Nat.reduceLT,Qf,Qg,hlt,hwl,hix,hld,Wai,hn0,bq,br,hneg,q1,q2,q3,q4,hlen,hge,hge',hmx,hml,b1,b2,b3,key]
    rw[Wab (b:=WbT)]
    conv in (Wad _ _ WbT _)=>unfold WbT
    simp only[rn,RO.dst,lk,drop,Nat.reduceBEq,Nat.reduceAdd,Nat.reduceLeDiff,↓reduceIte,reduceCtorEq,Qb,Qa,Wav,and_self,Qd,Qe,Nat.reduceLT,Qf,Qg,hl0,hlt,hwl,hix,hld,hld1,Wai,hn0,bq,br,hneg,q1,q2,q3,q4,hlen,hge,hge',hmx,hml,b1,b2,b3,hto',l1,l2,l3,e2,a1,a2,a3,e3,hws]
theorem s_turn (k:KS F) (hS:Has F tS01d) (hS15:Has F tS15) (hf:h0.floor≤h0.next) (J:SP h0 g y ca cb p rows fy fa fb) (w:Vw 15 Wai h0 x ops) {i:Nat} (hi:i<ops.length) (hl:ops.length≤200) (hb:ops[i]≤9223372036854775807):
 ∃g' y' ca' cb' rows' fy' fa' fb',SP h0 g' y' ca' cb' (p.step ops[i]) rows' fy' fa' fb'∧
  loop F Z [3,4,8,9,10,11,12,13,14] Wbo (sst x y p.hd ca cb i g)=loop F Z [3,4,8,9,10,11,12,13,14] Wbo (sst x y' (p.step ops[i]).hd ca' cb' (i+1) g'):=by
 unfold Play.step
 split
 ·rename_i ho
  obtain ⟨g',y',rows',fy',J',e⟩:=s_send (F:=F) (Z:=Z) k hS15 hf J w hi hl ho
  exact ⟨g',y',ca,cb,rows',fy',fa,fb,J',e⟩
 rename_i ho
 split
 ·rename_i hp
  exact ⟨g,y,ca,cb,rows,fy,fa,fb,J,s_pass (F:=F) (Z:=Z) J w hi hl ho hb hp⟩
 rename_i hp
 have hneg: ¬ops[i]<0:=fun h=>hp (.inl h)
 have hk:WaN ops[i]<p.net.length:=by omega
 split
 ·rename_i h3
  obtain ⟨g',y',rows',fy',J',e⟩:=s_copy (F:=F) (Z:=Z) hf J w hi hl ho hb hneg hk h3
  exact ⟨g',y',ca,cb,rows',fy',fa,fb,J',e⟩
 rename_i h3
 split
 ·rename_i h4
  obtain ⟨g',y',rows',fy',J',e⟩:=s_lose (F:=F) (Z:=Z) hf J w hi hl ho hb hneg hk h4
  exact ⟨g',y',ca,cb,rows',fy',fa,fb,J',e⟩
 ·rename_i h4
  exact s_take (F:=F) (Z:=Z) k hS hS15 hf J w hi hl ho hb hneg hk h3 h4
end
section
variable {F:Nat→Option RF} {Z:Waf} {h:Heap} {x:Cell} {ca cb:List Cell} {fa fb fo:List Nat} {ops:List Int} {A B:Store}
theorem copy_q (k:KS F) {g:Heap} {cs:List Cell} {s:Store} {fp:List Nat} (v:Store.RI g cs s fp) (sm:s.Small):
 ∃cs' hq g' fq,call F Z 317 [.agg cs] ⟨g.next,g.next,g.get⟩=some (.agg cs',hq)∧Heap.mk hq.next g.floor hq.get=g'∧On g g'∧Store.RI g' cs' s fq∧Fre g fq:=by
 obtain ⟨cs',hq,fq,e,o,v',f⟩:=WaZ (Z:=Z) (h:=⟨g.next,g.next,g.get⟩) k (Qj _) (Store.okI.up v _) sm
 exact ⟨cs',hq,_,fq,e,rfl,⟨⟨o.ext.1,o.ext.2⟩,rfl⟩,Store.okI.up v' g.floor,⟨f.lo,f.nd⟩⟩
set_option maxHeartbeats 8000000 in
theorem sPlayHand_c (k:KS F) (hS:Has F tS01d) (hS15:Has F tS15) (hf:h.floor≤h.next) (H:Hand) (okH:H.Ok) (va:Store.RI h ca A fa) (vb:Store.RI h cb B fb) (w:Vw 15 Wai h x ops) (okA:A.Ok) (smA:A.Small) (okB:B.Ok) (smB:B.Small) (hb: ∀z,z∈ops→z≤9223372036854775807):
 ∃ca' cb' h' f1 f2,call F Z 367 [.agg H.enc,.agg ca,.agg cb,.c x] h=some (.tup [.agg (WaM H A B ops).1.enc,.agg ca',.agg cb'],h')∧On h h'∧Store.RI h' ca' (WaM H A B ops).2.1 f1∧Store.RI h' cb' (WaM H A B ops).2.2 f2∧Fre h f1∧Fre h f2∧ ∀id,id∈f1→id∉f2:=by
 have e1:=sHandOk_run (Z:=Z) hS hS15 H.lo H.from_ H.to H.epoch H.phase h
 rw[show Wcc H.lo H.from_ H.to H.epoch H.phase=H.ok from rfl] at e1
 have e2:=WaK (Z:=Z) k va okA
 have e3:=WaK (Z:=Z) k vb okB
 obtain ⟨za,hza⟩: ∃z1,ca=[.int .i64 A.group,.int .i64 A.seen,z1]:=by obtain ⟨z1,_,e1,_⟩:=va;exact ⟨z1,e1⟩
 obtain ⟨zb,hzb⟩: ∃z1,cb=[.int .i64 B.group,.int .i64 B.seen,z1]:=by obtain ⟨z1,_,e1,_⟩:=vb;exact ⟨z1,e1⟩
 have hdef:WaM H A B ops=bif H.ok&&(A.good&&(B.good&&(A.group==H.from_&&(B.group==H.to&&decide (ops.length≤200))))) then ((ops.foldl Play.step ⟨H,A,B,[]⟩).hd,(ops.foldl Play.step ⟨H,A,B,[]⟩).a,(ops.foldl Play.step ⟨H,A,B,[]⟩).b) else (H,A,B):=rfl
 have hwl:=w.len
 subst hza hzb
 have dis: ∀{g g1 g2:Heap} {f1 f2:List Nat} {c1 c2:List Cell},On h g→On g g1→Store.RI g1 c1 A f1→Fre g f1→On g1 g2→Store.RI g2 c2 B f2→Fre g1 f2→On h g2∧Store.RI g2 c1 A f1∧Fre h f1∧Fre h f2∧ ∀id,id∈f1→id∉f2:=fun o o1 v1 r1 o2 v2 r2=>⟨(o.trans o1).trans o2,Store.okI.on v1 o2,⟨fun id hid=>by have:=r1.lo id hid;have:=o.ext.1;omega,r1.nd⟩,⟨fun id hid=>by have:=r2.lo id hid;have:=o.ext.1;have:=o1.ext.1;omega,r2.nd⟩,fun id h1 h2=>by have:=Store.okI.lt v1 id h1;have:=r2.lo id h2;omega⟩
 obtain ⟨c1,q1,g1,f1,ec1,mc1,oc1,vc1,rc1⟩:=copy_q (Z:=Z) k va smA
 obtain ⟨c2,q2,g2,f2,ec2,mc2,oc2,vc2,rc2⟩:=copy_q (Z:=Z) k (Store.okI.on vb oc1) smB
 obtain ⟨d1,d2,d3,d4,d5⟩:=dis (On.refl h) oc1 vc1 rc1 oc2 vc2 rc2
 obtain ⟨a1,a2,a3⟩:=Store.lenI vc1
 obtain ⟨b1,b2,b3⟩:=Store.lenI vc2
 have bad:WaM H A B ops=(H,A,B)→ ∃ca' cb' h' f1 f2,some (V.tup [V.agg H.enc,V.agg c1,V.agg c2],g2)=some (.tup [.agg (WaM H A B ops).1.enc,.agg ca',.agg cb'],h')∧On h h'∧Store.RI h' ca' (WaM H A B ops).2.1 f1∧Store.RI h' cb' (WaM H A B ops).2.2 f2∧Fre h f1∧Fre h f2∧ ∀id,id∈f1→id∉f2:=fun e=>by
  rw[e];exact ⟨_,_,_,f1,f2,rfl,d1,d2,vc2,d3,d4,d5⟩
 simp only[Hand.enc] at bad e1
 rw[Wac F Z (hS15.lk (g:=367) rfl) _ _ rfl]
 simp only[Hand.enc]
 cases t1:H.ok with
 | false=>
   rw[t1] at e1
   simp only[rn,RO.dst,lk,drop,Nat.reduceBEq,Nat.reduceAdd,Nat.reduceLeDiff,↓reduceIte,reduceCtorEq,e1,ec1,mc1,ec2,mc2,a1,a2,a3,b1,b2,b3]
   exact bad (by rw[hdef,t1];rfl)
 | true=>
 rw[t1] at e1
 cases t2:A.good with
 | false=>
   rw[t2] at e2
   simp only[rn,RO.dst,lk,drop,Nat.reduceBEq,Nat.reduceAdd,Nat.reduceLeDiff,↓reduceIte,reduceCtorEq,e1,e2,ec1,mc1,ec2,mc2,a1,a2,a3,b1,b2,b3]
   exact bad (by rw[hdef,t1,t2];rfl)
 | true=>
 rw[t2] at e2
 cases t3:B.good with
 | false=>
   rw[t3] at e3
   simp only[rn,RO.dst,lk,drop,Nat.reduceBEq,Nat.reduceAdd,Nat.reduceLeDiff,↓reduceIte,reduceCtorEq,e1,e2,e3,ec1,mc1,ec2,mc2,a1,a2,a3,b1,b2,b3]
   exact bad (by rw[hdef,t1,t2,t3];rfl)
 | true=>
 rw[t3] at e3
 cases t4:(A.group==H.from_) with
 | false=>
   have t4':(A.group !=H.from_)=true:=by simp only[bne,t4,QB]
   simp only[rn,RO.dst,lk,drop,Nat.reduceBEq,Nat.reduceAdd,Nat.reduceLeDiff,↓reduceIte,reduceCtorEq,e1,e2,e3,t4',ec1,mc1,ec2,mc2,a1,a2,a3,b1,b2,b3]
   exact bad (by rw[hdef,t1,t2,t3,t4];rfl)
 | true=>
 have t4':(A.group !=H.from_)=false:=by simp only[bne,t4,QG]
 cases t5:(B.group==H.to) with
 | false=>
   have t5':(B.group !=H.to)=true:=by simp only[bne,t5,QB]
   simp only[rn,RO.dst,lk,drop,Nat.reduceBEq,Nat.reduceAdd,Nat.reduceLeDiff,↓reduceIte,reduceCtorEq,e1,e2,e3,t4',t5',ec1,mc1,ec2,mc2,a1,a2,a3,b1,b2,b3]
   exact bad (by rw[hdef,t1,t2,t3,t4,t5];rfl)
 | true=>
 have t5':(B.group !=H.to)=false:=by simp only[bne,t5,QG]
 by_cases t6:ops.length≤200
 rotate_left
 ·have t6':(ops.length:Int)>200:=by omega
  simp only[rn,RO.dst,lk,drop,Nat.reduceBEq,Nat.reduceAdd,Nat.reduceLeDiff,↓reduceIte,reduceCtorEq,e1,e2,e3,t4',t5',hwl,t6',ec1,mc1,ec2,mc2,a1,a2,a3,b1,b2,b3]
  exact bad (by rw[hdef,decide_eq_false t6];simp)
 have t6': ¬(ops.length:Int)>200:=by omega
 have hyes:WaM H A B ops=((ops.foldl Play.step ⟨H,A,B,[]⟩).hd,(ops.foldl Play.step ⟨H,A,B,[]⟩).a,(ops.foldl Play.step ⟨H,A,B,[]⟩).b):=by
  rw[hdef,t1,t2,t3,t4,t5,decide_eq_true t6];rfl
 rw[hyes]
 clear bad d1 d2 d3 d4 d5 ec1 mc1 oc1 vc1 rc1 ec2 mc2 oc2 vc2 rc2 a1 a2 a3 b1 b2 b3
 have op:=On.push h []
 obtain ⟨on0,fy0,s0,fr0⟩:=Acc.lit0 (tag:=22) (On.refl h)
 have hy0: ∀id,id∈fy0→id=h.next:=fun id hid=>by
  rcases s0.flat with ⟨e,_⟩ | ⟨_,_,_,e⟩
  ·cases e
  ·rw[e] at hid;simpa[Cell.sid] using hid
 obtain ⟨c1,q1,g1,f1,ec1,mc1,oc1,vc1,rc1⟩:=copy_q (Z:=Z) k (Store.okI.on va op) smA
 obtain ⟨c2,q2,g2,f2,ec2,mc2,oc2,vc2,rc2⟩:=copy_q (Z:=Z) k (Store.okI.on vb (op.trans oc1)) smB
 obtain ⟨d1,d2,d3,d4,d5⟩:=dis op oc1 vc1 rc1 oc2 vc2 rc2
 obtain ⟨a1,a2,a3⟩:=Store.lenI vc1
 obtain ⟨b1,b2,b3⟩:=Store.lenI vc2
 have o2:=oc1.trans oc2
 have hpn:(h.push []).next=h.next+1:=rfl
 have J0:SP h g2 (.sl 22 h.next 0 0) c1 c2 ⟨H,A,B,[]⟩ [] fy0 f1 f2:=
  {net:=Net.go {sl:=s0,fre:=fr0,on:=on0,len:=rfl,ky:=fun kk hkk=>(nomatch hkk),el:=fun i b hh=>by simp at hh} HandMsg.okI o2
   va:=d2
   vb:=vc2
   fra:=d3
   frb:=d4
   sa:=fun id hid hh=>by have:=hy0 id hh;have:=rc1.lo id hid;omega
   sb:=fun id hid hh=>by have:=hy0 id hh;have:=rc2.lo id hid;have:=oc1.ext.1;omega
   dj:=d5
   ok:=⟨okH,⟨okA,smA⟩,⟨okB,smB⟩,by simp,fun m hm=>nomatch hm⟩}
 obtain ⟨s',⟨gn,yn,can,cbn,rnn,fyn,fan,fbn,rfl,Jn⟩,key⟩:=WaB (F:=F) (Z:=Z) (live:=[3,4,8,9,10,11,12,13,14]) (b:=Wbo) ops.length (fun i s=> ∃g y ca cb rows fy fa fb,s=sst x y ((ops.take i).foldl Play.step ⟨H,A,B,[]⟩).hd ca cb i g∧SP h g y ca cb ((ops.take i).foldl Play.step ⟨H,A,B,[]⟩) rows fy fa fb) (fun i s hi ⟨g,y,ca,cb,rows,fy,fa,fb,hs,J⟩=>by
  subst hs
  obtain ⟨g',y',ca',cb',rows',fy',fa',fb',J',e⟩:=s_turn (F:=F) (Z:=Z) k hS hS15 hf J w hi t6 (hb _ (Qh hi))
  have ht:(ops.take (i+1)).foldl Play.step ⟨H,A,B,[]⟩=((ops.take i).foldl Play.step ⟨H,A,B,[]⟩).step ops[i]:=by
   rw[Qy,Qc hi,QN];rfl
  rw[←ht] at J' e
  exact ⟨_,⟨g',y',ca',cb',rows',fy',fa',fb',rfl,J'⟩,e⟩) (s:=sst x (.sl 22 h.next 0 0) H c1 c2 0 g2) ⟨_,_,_,_,_,_,_,_,rfl,J0⟩
 rw[Qv] at Jn key
 generalize ops.foldl Play.step ⟨H,A,B,[]⟩=P at *
 obtain ⟨u1,u2,u3⟩:=Store.lenI Jn.va
 obtain ⟨w1,w2,w3⟩:=Store.lenI Jn.vb
 have hlt: ¬(ops.length:Int)<ops.length:=by omega
 simp only[sst,Hand.enc,show ((0:Nat):Int)=0 from rfl] at key
 simp only[rn,RO.dst,lk,drop,Nat.reduceBEq,Nat.reduceAdd,Nat.reduceLeDiff,↓reduceIte,reduceCtorEq,Qb,Qa,Wav,and_self,Qd,Qe,Nat.reduceLT,Qf,Qg,e1,e2,e3,t4',t5',hwl,t6',ec1,mc1,ec2,mc2,a1,a2,a3,b1,b2,b3,key]
 rw[Wab]
 conv in (Wad _ _ Wbo _)=>unfold Wbo
 simp only[rn,RO.dst,lk,drop,Nat.reduceBEq,Nat.reduceAdd,Nat.reduceLeDiff,↓reduceIte,reduceCtorEq,hlt,hwl,u1,u2,u3,w1,w2,w3]
 exact ⟨_,_,_,_,_,rfl,Jn.net.on,Jn.va,Jn.vb,Jn.fra,Jn.frb,Jn.dj⟩
end
section
variable {F:Nat→Option RF} {Z:Waf} {h:Heap} {x:Cell} {code:List Int}
theorem big_run (hL:Has F tLaws) (w:Vw 19 byte_enc h x code):call F Z 144 [.c x] h=some (.c (.bool (decide ((code.length:Int)>1048576))),h):=by
 rw[Wac F Z (hL.lk (g:=144) rfl) _ _ rfl]
 simp only[rn,RO.dst,lk,drop,Nat.reduceBEq,Nat.reduceAdd,Nat.reduceLeDiff,↓reduceIte,reduceCtorEq,w.len]
end
def Byte (b:Int):Prop:=0≤b∧b≤255
theorem Wf.areBytes {h:Heap} {n:Nat} {x:Cell} (w:Wf h (n+2) shUint8S [x]): ∃code:List Int,Vw 19 byte_enc h x code∧ ∀b,b∈code→Byte b:=by
 obtain ⟨xs,fp,v,q⟩:=SlR.ofWf (R:=Fl byte_enc) (A:=Byte) (fun r hr=>by
  obtain ⟨hl,z,rfl,hz⟩:=hr
  refine ⟨z,[],⟨rfl,rfl⟩,?_⟩
  simp only[Lit.wf,Qn,decide_eq_true_eq] at hz
  exact hz) w
 exact ⟨xs,v.vw,q⟩
section
variable {F:Nat→Option RF} {Z:Waf} {h:Heap} {x:Cell} {code:List Int}
end
end Go.Proofs.YtjaideekkbpalaaGreat.A
