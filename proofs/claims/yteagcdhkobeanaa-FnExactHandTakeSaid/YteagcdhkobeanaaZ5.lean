/- The machine does slices.Insert as the abstract run tells. -/
import Derived.Test.YteagcdhkobeanaaZ4
namespace Go.Proofs.Yteagcdhkobeanaa.A
open Go Go.Shelf
set_option linter.unusedSimpArgs false
set_option linter.unusedVariables false
section
variable {K:Cfg} {μ:Mu} {h h':Heap} {w w':World} {ρ:Ren}
theorem setRow_grown (w:World) (b:Nat) (C1 C2:Array Value):w.grownBy ((w.drew.setRow b C1).setRow b C2) (some b):=
 ⟨rfl,rfl,rfl,by simp[World.setRow],fun j _ hj=>by
  have hne:j≠b:=fun e=>hj (by rw[e])
  rw[setRow_other _ b j _ hne,setRow_other _ b j _ hne];rfl⟩
theorem ins_sound {z:Value} {tag bytes:Nat} (T:Z.InsT K.P ρ (K.SZ tag) bytes z) (hE:K.ET tag=ρ.t 9) {vs:List V} {r:V} (e:insF tag bytes vs h=some (r,h')) {args:Array Value} (H:HR K μ h w) (hO:K.O≤h.floor) (hfl:h.floor≤h.next) (ha:All2 (V.R K μ) vs args.toList):
 Calls K.P (ρ.f 22) args w (CallOut K μ h h' w r):=by
 have hk0:0<K.SZ tag:=by obtain ⟨i0,_,_,_,_,_,q⟩:=T.i9;exact q
 unfold insF at e
 split at e
 ·rename_i s i z' idv offv m
  split at e
  ·rename_i hc
   obtain ⟨rfl,rfl,hv1,hm⟩:=hc
   obtain ⟨new,e1,e5⟩:=Option.bind_eq_some_iff.1 e
   clear e
   split at e5
   ·rename_i hnl
    obtain ⟨a0,a1,a2,hargs,r0,r1,r2⟩:=all3 ha
    have hargs':args= #[a0,a1,a2]:=by apply Array.ext';simpa using hargs
    subst hargs'
    have hi:a1= .int .i64 i:=r1
    subst hi
    obtain ⟨lv,capv,curv,m1,rfl,m2,m3,m4,m5,htag,m6,m7,m8,_⟩:=own_slice H hO (show (Cell.sl z' idv 0 m).R K μ a2 from r2) hv1 e1 hnl hk0
    obtain ⟨vals,hvals⟩: ∃vals,vals=curv.toList.take (m*K.SZ z'):=⟨_,rfl⟩
    rw[←hvals] at m6 m7
    have hvs: ∀j u,vals[j]? =some u→w.cell? ⟨lv.blk,0+j,none⟩=some u:=fun j u hj=>by
     rw[Nat.zero_add,Z.cell_of m4]
     rw[hvals,List.getElem?_take] at hj
     split at hj
     ·simpa using hj
     ·cases hj
    have h1v: ∀u∈vals,u.oneCell'=true:=fun u hu=>by
     obtain ⟨j,hj⟩:=List.mem_iff_getElem?.1 hu
     rw[hvals,List.getElem?_take] at hj
     split at hj
     ·rename_i hjl
      exact m8 j u hjl (by simpa using hj)
     ·cases hj
    cases s with
    | nil=>
      simp only at e5
      split at e5
      ·rename_i hc
       obtain ⟨rfl,hb,h63⟩:=hc
       simp only[Option.some.injEq,Prod.mk.injEq] at e5
       obtain ⟨e2,e3⟩:=e5
       subst e2;subst e3
       have h0:a0= .slice none 0 0:=r0
       subst h0
       have hown:w.ownsRow 0 (ρ.t 9) (K.SZ z') (.slice none 0 0) 0 []:=World.ownsRow_nil w 0 (ρ.t 9) (K.SZ z')
       refine (Z.ins_end T 0 (.slice none 0 0) 0 lv.blk 0 m capv [] vals w hown (Nat.zero_le _) hm m7 hvs h1v (by omega) (by simpa using hb)).mono fun e w' hq=> ?_
       obtain ⟨v',rfl,q1,q2,q3,q4,q6⟩:=hq
       rw[←hE] at q1
       have hout:=rowOut (k:=h.next) (tag:=z') (rows':=new) (vals:=vals) H hO hfl htag (.inl ⟨rfl,rfl⟩) m6 (by rw[hnl];simpa using q1) q3 (by simpa[Value.ownBlock] using q2) q6 (.inr ⟨w.heap.size,by
        rcases q4 with q4 | q4
        ·rcases q1.2 with ⟨q5,_⟩ | ⟨g,c',cu,q5,_⟩
         ·exact absurd q5 q3
         ·rw[q5] at q4;simp[Value.ownBlock] at q4
        ·exact q4,Nat.le_refl _⟩)
       rw[Heap.push_kill_next,hnl] at hout
       exact hout
      ·cases e5
    | sl z2 id off len=>
      simp only at e5
      obtain ⟨rows,e2,e6⟩:=Option.bind_eq_some_iff.1 e5
      clear e5
      split at e6
      ·rename_i hc
       obtain ⟨rfl,rfl,hf,hne,hi0,hi1,hb,h63,hrl⟩:=hc
       simp only[Option.some.injEq,Prod.mk.injEq] at e6
       obtain ⟨e3,e4⟩:=e6
       subst e3;subst e4
       obtain ⟨l,cap,cur,n1,rfl,n2,n3,n4,n5,_,n6,n7,n8,_⟩:=own_slice H hO (show (Cell.sl z2 id 0 len).R K μ a0 from r0) hf e2 hrl hk0
       obtain ⟨p,rfl⟩: ∃p:Nat,i=(p:Int):=⟨i.toNat,by omega⟩
       simp only[Int.toNat_natCast]
       have hbb:lv.blk≠l.blk:=Ne.symm (H.inj id idv l lv rows new (Nat.le_trans hO hf) hne n1 m1 e2 e1 (.inl (Nat.le_trans hO hv1)))
       have hlen:(rows.take p++new++rows.drop p).length=len+m:=by simp only[List.length_append,List.length_take,List.length_drop,hnl,hrl];omega
       obtain ⟨xs,hxs⟩: ∃xs,xs=cur.toList.take (len*K.SZ z2):=⟨_,rfl⟩
       rw[←hxs] at n6 n7
       have kp:p*K.SZ z2≤len*K.SZ z2:=Nat.mul_le_mul_right _ (by omega)
       have kq:(len+m)*K.SZ z2=len*K.SZ z2+m*K.SZ z2:=Nat.add_mul ..
       have kr:(len-p)*K.SZ z2=len*K.SZ z2-p*K.SZ z2:=Nat.sub_mul ..
       have kc:len*K.SZ z2≤cap*K.SZ z2:=Nat.mul_le_mul_right _ n2
       have hflat:FlatR K μ (K.SZ z2) (rows.take p++new++rows.drop p) (xs.take (p*K.SZ z2)++vals++xs.drop (p*K.SZ z2)):=by
        refine FlatR.app (FlatR.app (n6.take p) ?_ m6) ?_ (n6.drop p)
        ·rw[List.length_take,List.length_take,n7,hrl,Nat.min_eq_left kp,Nat.min_eq_left (by omega)]
        ·rw[List.length_append,List.length_append,List.length_take,List.length_take,n7,hrl,m7,hnl,Nat.min_eq_left kp,Nat.min_eq_left (by omega),Nat.add_mul]
       have hvl:(xs.take (p*K.SZ z2)++vals++xs.drop (p*K.SZ z2)).length=(len+m)*K.SZ z2:=by
        simp only[List.length_append,List.length_take,List.length_drop,n7,m7];omega
       have e1x:xs.take (p*K.SZ z2)=cur.toList.take (p*K.SZ z2):=by rw[hxs,List.take_take,Nat.min_eq_left kp]
       have e2x:xs.drop (p*K.SZ z2)=(cur.toList.drop (p*K.SZ z2)).take ((len-p)*K.SZ z2):=by rw[hxs,List.drop_take,kr]
       have out: ∀{v':Value} {w':World},w'.ownsRow 0 (K.ET z2) (K.SZ z2) v' (len+m) (xs.take (p*K.SZ z2)++vals++xs.drop (p*K.SZ z2))→v'≠ .slice none 0 0→w.grownBy w' (some l.blk)→(v'.ownBlock=some l.blk∨v'.ownBlock=some w.heap.size)→
        w.drawn≤w'.drawn→CallOut K μ h ((h.kill id).push (rows.take p++new++rows.drop p)) w (.c (.sl z2 h.next 0 (len+m))) (.returned v') w':=fun {v' w'} o1 o2 o3 o4 o5=>by
        have:=rowOut (k:=id) (tag:=z2) (rows':=rows.take p++new++rows.drop p) H hO hfl htag (.inr ⟨l,rows,hf,n1,e2,rfl⟩) hflat (by rw[hlen];exact o1) o2 o3 o5 (by
         rcases o4 with o4 | o4
         ·exact .inl ⟨o4,by simp⟩
         ·exact .inr ⟨_,o4,Nat.le_refl _⟩)
        rw[hlen] at this
        exact this
       by_cases hpl:p=len
       ·subst hpl
        have hown:w.ownsRow 0 (ρ.t 9) (K.SZ z2) (.slice (some ⟨l.blk,0,none⟩) p cap) p xs:=by
         rw[←hE]
         exact ⟨n7,.inr ⟨l.blk,cap,cur,rfl,Nat.zero_le _,n4,n2,n3,n5,hxs.symm⟩⟩
        refine (Z.ins_end T 0 _ p lv.blk 0 m capv xs vals w hown (Nat.zero_le _) hm m7 hvs h1v h63 hb).mono fun e w' hq=> ?_
        obtain ⟨v',rfl,q1,q2,q3,q4,q6⟩:=hq
        rw[←hE] at q1
        refine out ?_ q3 (by simpa[Value.ownBlock] using q2) (by simpa[Value.ownBlock] using q4) q6
        have t1:xs.take (p*K.SZ z2)=xs:=List.take_of_length_le (by omega)
        have t2:xs.drop (p*K.SZ z2)=[]:=List.drop_of_length_le (by omega)
        rw[t1,t2,List.append_nil]
        exact q1
       ·have hpn:p<len:=by omega
        by_cases hroom:len+m≤cap
        ·have kz:(len+m)*K.SZ z2≤cap*K.SZ z2:=Nat.mul_le_mul_right _ hroom
         refine (Z.ins_shift T l.blk len cap p lv.blk 0 m capv cur (K.ET z2) vals w hpn hm hroom (by unfold maxLen at n3;omega) hbb n4 n5 m7 hvs n8 h1v (K.ET z2) (K.ET z2) curv.size cur.size (by simp[World.shape?,m4]) (by simp[World.shape?,n4]) (by rw[n5];have:=Nat.mul_pos (show 0<cap by omega) hk0;omega) (by simp[World.frozen?,m4]) (by simp[World.frozen?,m4])).mono fun e w' hq=> ?_
         obtain ⟨rfl,C1,C2,hC1,hC2,rfl⟩:=hq
         have kw:(p+m)*K.SZ z2=p*K.SZ z2+m*K.SZ z2:=Nat.add_mul ..
         have c1:C1.toList.take (p*K.SZ z2)=cur.toList.take (p*K.SZ z2):=by
          rw[hC1,List.append_assoc,List.take_append_of_le_length (by rw[List.length_take,Array.length_toList,n5];omega),List.take_take,Nat.min_eq_left (by omega)]
         have c2:C1.toList.drop (p*K.SZ z2+m*K.SZ z2)=(cur.toList.drop (p*K.SZ z2)).take ((len-p)*K.SZ z2)++cur.toList.drop ((p+m)*K.SZ z2+(len-p)*K.SZ z2):=by
          rw[hC1,List.append_assoc,←kw]
          exact List.drop_left' (by rw[List.length_take,Array.length_toList,n5];omega)
         have hC2':C2.toList=(xs.take (p*K.SZ z2)++vals++xs.drop (p*K.SZ z2))++cur.toList.drop ((p+m)*K.SZ z2+(len-p)*K.SZ z2):=by
          rw[hC2,c1,c2,e1x,e2x,List.append_assoc,List.append_assoc,List.append_assoc]
         refine out ⟨hvl,.inr ⟨l.blk,cap,C2,rfl,Nat.zero_le _,Z.setRow_at (Z.setRow_at n4),hroom,n3,?_,?_⟩⟩ (by simp) (setRow_grown w l.blk C1 C2) (.inl rfl) (Nat.le_succ _)
         ·rw[←Array.length_toList,hC2',List.length_append,hvl,List.length_drop,Array.length_toList,n5];omega
         ·rw[hC2',←hvl];exact List.take_left
        ·refine (Z.ins_grow T l.blk len cap p lv.blk 0 m capv cur vals w hpn hm n2 (by omega) h63 hb (by rw[←hE];exact n4) n5 m7 hvs (Array.getElem?_eq_some_iff.1 m4).1 n8 h1v).mono fun e w' hq=> ?_
         obtain ⟨rfl,ROW,C1,C2,hR,hC1,hC2,hRs,rfl⟩:=hq
         have kw:(p+m)*K.SZ z2=p*K.SZ z2+m*K.SZ z2:=Nat.add_mul ..
         have kg:(len+m)*K.SZ z2≤grownCap w (len+m) cap (ρ.t 9)*K.SZ z2:=Nat.mul_le_mul_right _ (grownCap_ge w _ _ _)
         have c0:ROW.toList.take (p*K.SZ z2)=cur.toList.take (p*K.SZ z2):=by
          rw[hR]
          simp only[Array.toList_append,List.append_assoc]
          exact List.take_left' (by rw[List.length_take,Array.length_toList,n5];omega)
         have c1:C1.toList.take ((p+m)*K.SZ z2)=cur.toList.take (p*K.SZ z2)++vals:=by
          rw[hC1,c0]
          exact List.take_left' (by rw[List.length_append,List.length_take,Array.length_toList,n5,m7];omega)
         have hC1l:C1.toList.length=grownCap w (len+m) cap (ρ.t 9)*K.SZ z2:=by
          rw[hC1]
          simp only[List.length_append,List.length_take,List.length_drop,Array.length_toList,hRs,m7];omega
         have hC2':C2.toList=(xs.take (p*K.SZ z2)++vals++xs.drop (p*K.SZ z2))++C1.toList.drop ((p+m)*K.SZ z2+(len-p)*K.SZ z2):=by
          rw[hC2,c1,e1x,e2x]
         refine out (v':= .slice (some ⟨w.heap.size,0,none⟩) (len+m) (grownCap w (len+m) cap (ρ.t 9))) ⟨hvl,.inr ⟨w.heap.size,grownCap w (len+m) cap (ρ.t 9),C2,rfl,Nat.zero_le _,?_,grownCap_ge w _ _ _,grownCap_le_maxLen w _ _ _ h63,?_,?_⟩⟩ (by simp) ⟨rfl,rfl,rfl,?_,fun j hj _=> ?_⟩ (.inr rfl) (by show w.drawn≤w.drawn+1+1;omega)
         ·rw[hE]
          exact Z.setRow_at (cur:=C1) (Z.setRow_at (cur:=ROW) (w:=(w.alloc (.cells ROW (ρ.t 9))).drew) (heap_alloc_new w _))
         ·rw[←Array.length_toList,hC2',List.length_append,hvl,List.length_drop,hC1l];omega
         ·rw[hC2',←hvl];exact List.take_left
         ·simp[World.setRow]
         ·rw[setRow_other _ _ j _ (by omega)]
          show ((w.alloc (.cells ROW (ρ.t 9))).drew.setRow w.heap.size C1).heap[j]? =_
          rw[setRow_other _ _ j _ (by omega)]
          exact heap_alloc_old w _ hj
      ·cases e6
    | _=>simp only at e5;cases e5
   ·cases e5
  ·cases e
 ·cases e
end
end Go.Proofs.Yteagcdhkobeanaa.A
