/- slices.Delete as a primitive of the abstract run, and that the machine does it. -/
import Derived.Test.YteagcdhkobeanaaZ5
import Derived.Test.YteagcdhkobeanaaZD
namespace Go.Proofs.Yteagcdhkobeanaa.A
open Go Go.Shelf
set_option linter.unusedSimpArgs false
set_option linter.unusedVariables false
/-- slices.Delete: the row that it was is no more. -/
def delF (tag:Nat) (vs:List V) (h:Heap):Option (V×Heap):=match vs with
 | [.c (.sl z id off len),.c (.int .i64 i),.c (.int .i64 j)]=>(h.get id).bind fun rows=>
   if z=tag∧off=0∧h.floor≤id∧0≤i∧i≤j∧j≤len∧rows.length=len then
    some (.c (.sl tag h.next 0 (i.toNat+(len-j.toNat))),(h.kill id).push (rows.take i.toNat++rows.drop j.toNat)) else none
 | _=>none
section
variable {K:Cfg} {μ:Mu} {h h':Heap} {w w':World} {ρ:Ren}
theorem del_sound {z:Value} {tag:Nat} (T:Z.DelT K.P ρ (K.SZ tag) z) (hE:K.ET tag=ρ.t 23) {vs:List V} {r:V} (e:delF tag vs h=some (r,h')) {args:Array Value} (H:HR K μ h w) (hO:K.O≤h.floor) (hfl:h.floor≤h.next) (ha:All2 (V.R K μ) vs args.toList):
 Calls K.P (ρ.f 45) args w (CallOut K μ h h' w r):=by
 have hk0:0<K.SZ tag:=by obtain ⟨i0,_,_,_,q,_⟩:=T.i23;exact q
 unfold delF at e
 split at e
 ·rename_i z' id off len i j
  obtain ⟨rows,e1,e5⟩:=Option.bind_eq_some_iff.1 e
  clear e
  split at e5
  ·rename_i hc
   obtain ⟨rfl,rfl,hf,hi0,hij,hjl,hrl⟩:=hc
   simp only[Option.some.injEq,Prod.mk.injEq] at e5
   obtain ⟨e2,e3⟩:=e5
   subst e2;subst e3
   obtain ⟨a0,a1,a2,hargs,r0,r1,r2⟩:=all3 ha
   have hargs':args= #[a0,a1,a2]:=by apply Array.ext';simpa using hargs
   subst hargs'
   have hi:a1= .int .i64 i:=r1
   subst hi
   have hj:a2= .int .i64 j:=r2
   subst hj
   obtain ⟨l,cap,cur,n1,rfl,n2,n3,n4,n5,htag,n6,n7,n8,_⟩:=own_slice H hO (show (Cell.sl z' id 0 len).R K μ a0 from r0) hf e1 hrl hk0
   obtain ⟨p,rfl⟩: ∃p:Nat,i=(p:Int):=⟨i.toNat,by omega⟩
   obtain ⟨q,rfl⟩: ∃q:Nat,j=(q:Int):=⟨j.toNat,by omega⟩
   simp only[Int.toNat_natCast]
   have n3':cap≤9223372036854775807:=by unfold maxLen at n3;omega
   have hlen:(rows.take p++rows.drop q).length=p+(len-q):=by simp only[List.length_append,List.length_take,List.length_drop,hrl];omega
   obtain ⟨xs,hxs⟩: ∃xs,xs=cur.toList.take (len*K.SZ z'):=⟨_,rfl⟩
   rw[←hxs] at n6 n7
   have kp:p*K.SZ z'≤q*K.SZ z':=Nat.mul_le_mul_right _ (by omega)
   have kq:q*K.SZ z'≤len*K.SZ z':=Nat.mul_le_mul_right _ (by omega)
   have kr:(len-q)*K.SZ z'=len*K.SZ z'-q*K.SZ z':=Nat.sub_mul ..
   have ks:(p+(len-q))*K.SZ z'=p*K.SZ z'+(len-q)*K.SZ z':=Nat.add_mul ..
   have kc:len*K.SZ z'≤cap*K.SZ z':=Nat.mul_le_mul_right _ n2
   have hflat:FlatR K μ (K.SZ z') (rows.take p++rows.drop q) (xs.take (p*K.SZ z')++xs.drop (q*K.SZ z')):=by
    refine FlatR.app (n6.take p) ?_ (n6.drop q)
    rw[List.length_take,List.length_take,n7,hrl,Nat.min_eq_left (by omega),Nat.min_eq_left (by omega)]
   have hvl:(xs.take (p*K.SZ z')++xs.drop (q*K.SZ z')).length=(p+(len-q))*K.SZ z':=by
    simp only[List.length_append,List.length_take,List.length_drop,n7];omega
   have out: ∀{v':Value} {w':World},w'.ownsRow 0 (K.ET z') (K.SZ z') v' (p+(len-q)) (xs.take (p*K.SZ z')++xs.drop (q*K.SZ z'))→v'≠ .slice none 0 0→w.grownBy w' (some l.blk)→v'.ownBlock=some l.blk→w.drawn≤w'.drawn→
    CallOut K μ h ((h.kill id).push (rows.take p++rows.drop q)) w (.c (.sl z' h.next 0 (p+(len-q)))) (.returned v') w':=fun {v' w'} o1 o2 o3 o4 o5=>by
    have:=rowOut (k:=id) (tag:=z') (rows':=rows.take p++rows.drop q) H hO hfl htag (.inr ⟨l,rows,hf,n1,e1,rfl⟩) hflat (by rw[hlen];exact o1) o2 o3 o5 (.inl ⟨o4,by simp⟩)
    rw[hlen] at this
    exact this
   by_cases hpq:p=q
   ·subst hpq
    refine (Z.del_none T l.blk len cap p w n2 n3' (by omega)).mono fun e w' hq=> ?_
    obtain ⟨rfl,rfl⟩:=hq
    have hpl:p+(len-p)=len:=by omega
    rw[hpl]
    rw[List.take_append_drop,hpl] at out
    exact out ⟨n7,.inr ⟨l.blk,cap,cur,rfl,Nat.zero_le _,n4,n2,n3,n5,hxs.symm⟩⟩ (by simp) ⟨rfl,rfl,rfl,Nat.le_refl _,fun _ _ _=>rfl⟩ rfl (Nat.le_refl _)
   ·refine (Z.del_some T l.blk len cap p q cur w n2 n3' (by omega) (by omega) (by rw[←hE];exact n4) n5 n8).mono fun e w' hq=> ?_
    obtain ⟨rfl,C1,C2,hC1,hC2,rfl⟩:=hq
    have kt:(p+(len-q))*K.SZ z'≤cap*K.SZ z':=Nat.mul_le_mul_right _ (by omega)
    have ku:(len-(p+(len-q)))*K.SZ z'+(p+(len-q))*K.SZ z'=len*K.SZ z':=by rw[←Nat.add_mul,show len-(p+(len-q))+(p+(len-q))=len from by omega]
    have e1x:xs.take (p*K.SZ z')=cur.toList.take (p*K.SZ z'):=by rw[hxs,List.take_take,Nat.min_eq_left (by omega)]
    have e2x:xs.drop (q*K.SZ z')=(cur.toList.drop (q*K.SZ z')).take ((len-q)*K.SZ z'):=by rw[hxs,List.drop_take,kr]
    have c1:C1.toList.take ((p+(len-q))*K.SZ z')=xs.take (p*K.SZ z')++xs.drop (q*K.SZ z'):=by
     rw[hC1,←e1x,←e2x,←hvl]
     exact List.take_left
    have hC1l:C1.toList.length=cap*K.SZ z':=by
     rw[hC1]
     simp only[List.length_append,List.length_take,List.length_drop,Array.length_toList,n5];omega
    obtain ⟨i0,_,_,hzk,_⟩:=T.i23
    have hC2':C2.toList=(xs.take (p*K.SZ z')++xs.drop (q*K.SZ z'))++((Builtin.zeroCells z.cells (len-(p+(len-q)))).toList++C1.toList.drop ((p+(len-q))*K.SZ z'+(len-(p+(len-q)))*K.SZ z')):=by
     rw[hC2,c1,List.append_assoc]
    refine out ⟨hvl,.inr ⟨l.blk,cap,C2,rfl,Nat.zero_le _,Z.setRow_at (Z.setRow_at n4),by omega,n3,?_,?_⟩⟩ (by simp) (setRow_grown w l.blk C1 C2) rfl (Nat.le_succ _)
    ·rw[←Array.length_toList,hC2',List.length_append,hvl,List.length_append,List.length_drop,hC1l,Array.length_toList,size_zeroCells,hzk];omega
    ·rw[hC2',←hvl];exact List.take_left
  ·cases e5
 ·cases e
end
end Go.Proofs.Yteagcdhkobeanaa.A
