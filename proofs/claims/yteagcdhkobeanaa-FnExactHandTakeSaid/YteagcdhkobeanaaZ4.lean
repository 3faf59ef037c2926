/- slices.Insert as a primitive of the abstract run, and that the machine does it. -/
import Derived.Test.YteagcdhkobeanaaZ3
namespace Go.Proofs.Yteagcdhkobeanaa.A
open Go
set_option linter.unusedSimpArgs false
set_option linter.unusedVariables false
/-- slices.Insert: the row that it was is no more. -/
def insF (tag bytes:Nat) (vs:List V) (h:Heap):Option (V×Heap):=match vs with
 | [.c s,.c (.int .i64 i),.c (.sl z idv offv m)]=>
   if z=tag∧offv=0∧h.floor≤idv∧0<m then
    (h.get idv).bind fun new=>
      if new.length=m then
       match s with
       | .nil=>if i=0∧m*bytes≤140737488355328∧m≤maxLen then some (.c (.sl tag h.next 0 m),h.push new) else none
       | .sl z' id off len=>(h.get id).bind fun rows=>
         if z'=tag∧off=0∧h.floor≤id∧id≠idv∧0≤i∧i≤len∧(len+m)*bytes≤140737488355328∧len+m≤maxLen∧rows.length=len then
          some (.c (.sl tag h.next 0 (len+m)),(h.kill id).push (rows.take i.toNat++new++rows.drop i.toNat)) else none
       | _=>none
      else none
   else none
 | _=>none
/-- Values that lie behind each other show rows. -/
def FlatR (K:Cfg) (μ:Mu) (k:Nat) (rows:List (List Cell)) (vals:List Value):Prop:=
 ∀(i:Nat) r,rows[i]? =some r→r.length=k∧ ∀(j:Nat) x,r[j]? =some x→ ∃u,vals[i*k+j]? =some u∧x.R K μ u
section
variable {K:Cfg} {μ:Mu} {h h':Heap} {w w':World} {k:Nat} {rows rows2:List (List Cell)} {vals vals2:List Value}
theorem FlatR.app (f:FlatR K μ k rows vals) (hl:vals.length=rows.length*k) (g:FlatR K μ k rows2 vals2):FlatR K μ k (rows++rows2) (vals++vals2):=by
 intro i r hi
 rw[List.getElem?_append] at hi
 split at hi
 ·obtain ⟨p1,p2⟩:=f i r hi
  refine ⟨p1,fun j x hj=> ?_⟩
  obtain ⟨u,p3,p4⟩:=p2 j x hj
  exact ⟨u,by rw[List.getElem?_append_left (List.getElem?_eq_some_iff.1 p3).1];exact p3,p4⟩
 ·obtain ⟨p1,p2⟩:=g _ r hi
  refine ⟨p1,fun j x hj=> ?_⟩
  obtain ⟨u,p3,p4⟩:=p2 j x hj
  refine ⟨u,?_,p4⟩
  have hm:rows.length*k≤i*k:=Nat.mul_le_mul_right _ (by omega)
  rw[List.getElem?_append_right (by omega),←p3]
  congr 1
  rw[hl,Nat.sub_mul];omega
theorem FlatR.take (f:FlatR K μ k rows vals) (n:Nat):FlatR K μ k (rows.take n) (vals.take (n*k)):=by
 intro i r hi
 rw[List.getElem?_take] at hi
 split at hi
 ·rename_i hin
  obtain ⟨p1,p2⟩:=f i r hi
  refine ⟨p1,fun j x hj=> ?_⟩
  obtain ⟨u,p3,p4⟩:=p2 j x hj
  have hjl:=(List.getElem?_eq_some_iff.1 hj).1
  have hm:(i+1)*k≤n*k:=Nat.mul_le_mul_right _ hin
  rw[Nat.add_mul,Nat.one_mul] at hm
  exact ⟨u,by rw[List.getElem?_take,if_pos (by omega)];exact p3,p4⟩
 ·cases hi
theorem FlatR.drop (f:FlatR K μ k rows vals) (n:Nat):FlatR K μ k (rows.drop n) (vals.drop (n*k)):=by
 intro i r hi
 rw[List.getElem?_drop] at hi
 obtain ⟨p1,p2⟩:=f _ r hi
 refine ⟨p1,fun j x hj=> ?_⟩
 obtain ⟨u,p3,p4⟩:=p2 j x hj
 refine ⟨u,?_,p4⟩
 rw[List.getElem?_drop,←p3]
 congr 1
 rw[Nat.add_mul];omega
/-- A slice that shows all of a row of one's own: where it lies. -/
theorem own_slice (H:HR K μ h w) (hO:K.O≤h.floor) {tag id len:Nat} {v:Value} (hv:(Cell.sl tag id 0 len).R K μ v) (hf:h.floor≤id) (hg:h.get id=some rows) (hl:rows.length=len) (hs:0<K.SZ tag):
 ∃l cap cur,μ id=some l∧v= .slice (some ⟨l.blk,0,none⟩) len cap∧len≤cap∧cap≤maxLen∧w.heap[l.blk]? =some (.cells cur (K.ET tag) (0,0))∧cur.size=cap*K.SZ tag∧tag≠0∧
  FlatR K μ (K.SZ tag) rows (cur.toList.take (len*K.SZ tag))∧(cur.toList.take (len*K.SZ tag)).length=len*K.SZ tag∧(∀j u,j<len*K.SZ tag→cur[j]? =some u→u.oneCell'=true)∧ ∀cs,(∀r,r∈rows→r.length=cs)→True:=by
 obtain ⟨l,a,cap,q1,q2,q3,q4,q5,q6,q7⟩:=hv
 have hid:K.O≤id:=Nat.le_trans hO hf
 obtain ⟨o1,⟨cur,el,o2,o3,o4⟩,o5⟩:=H.own id l rows hid q1 hg
 have hel:el=K.ET tag:=by rw[o4 (by rw[q2];exact q3),q2]
 subst hel
 have hlz:l.sz=K.SZ tag:=by rw[←q2];exact (H.dom _ _ q1).2 (by rw[q2];exact q3)
 rcases q7 with ⟨q8,q9,q10⟩ | ⟨_,q8⟩
 ·have q8:a=⟨l.blk,0,none⟩:=by rw[q8,o1];simp
  have hcap:=q10 rfl
  have hm:len*K.SZ tag≤cap*K.SZ tag:=Nat.mul_le_mul_right _ q5
  have hsz:cur.size=cap*K.SZ tag:=by rw[o3,hcap,hlz]
  have hfl:FlatR K μ (K.SZ tag) rows (cur.toList.take (len*K.SZ tag)):=by
   intro i r hi
   obtain ⟨p1,c',e',fr',p2,p3⟩:=H.cells id l rows q1 hg i r hi
   rw[o2] at p2;injection p2 with p2;injection p2 with p2 _ _;subst p2
   refine ⟨by omega,fun j x hj=> ?_⟩
   obtain ⟨u,p4,p5⟩:=p3 j x hj
   refine ⟨u,?_,p5⟩
   have hjl:j<r.length:=(List.getElem?_eq_some_iff.1 hj).1
   have hil:i<rows.length:=(List.getElem?_eq_some_iff.1 hi).1
   have hm:(i+1)*K.SZ tag≤len*K.SZ tag:=Nat.mul_le_mul_right _ (by omega)
   rw[Nat.add_mul,Nat.one_mul] at hm
   rw[List.getElem?_take,if_pos (by omega),Array.getElem?_toList,←p4,o1,hlz,Nat.zero_add]
  refine ⟨l,cap,cur,q1,by rw[q4,q8],q5,q6,o2,hsz,q3,hfl,by rw[List.length_take,Array.length_toList,hsz];omega,fun j u hj hu=> ?_,fun _ _=>trivial⟩
  have hd:j / K.SZ tag<len:=Nat.div_lt_of_lt_mul (by rw[Nat.mul_comm];exact hj)
  have hmm:j%K.SZ tag<K.SZ tag:=Nat.mod_lt _ hs
  obtain ⟨r,hr⟩: ∃r,rows[j / K.SZ tag]? =some r:=⟨rows[j / K.SZ tag]'(by omega),by simp⟩
  obtain ⟨p1,p2⟩:=hfl _ r hr
  obtain ⟨x,hx⟩: ∃x,r[j%K.SZ tag]? =some x:=⟨r[j%K.SZ tag]'(by omega),by simp⟩
  obtain ⟨u',p3,p4⟩:=p2 _ x hx
  have he:j / K.SZ tag*K.SZ tag+j%K.SZ tag=j:=by
   have:=Nat.div_add_mod j (K.SZ tag)
   rw[Nat.mul_comm] at this
   exact this
  rw[he,List.getElem?_take,if_pos hj,Array.getElem?_toList,hu] at p3
  injection p3 with p3
  rw[p3];exact p4.one
 ·rcases q8 with q8 | q8
  ·exact absurd rfl q8
  ·omega
theorem all3 {R:V→Value→Prop} {a b c:V} {l:List Value} (h:All2 R [a,b,c] l): ∃x y z,l=[x,y,z]∧R a x∧R b y∧R c z:=by
 match l,h with
 | [x,y,z],⟨h1,h2,h3,_⟩=>exact ⟨x,y,z,rfl,h1,h2,h3⟩
 | [],h=>exact h.elim
 | [_],h=>exact h.2.elim
 | [_,_],h=>exact h.2.2.elim
 | _::_::_::_::_,h=>exact h.2.2.2.elim
theorem cut_mid {α:Type} (a vs:List α) (p q s:Nat) (hv:vs.length=q) (h:p+s≤a.length): ∀rest:List α,((a.take p++vs++(a.drop p).take s)++rest).take (p+q+s)=a.take p++vs++(a.drop p).take s:=by
 intro rest
 have hl:(a.take p++vs++(a.drop p).take s).length=p+q+s:=by simp only[List.length_append,List.length_take,List.length_drop,hv];omega
 rw[←hl];exact List.take_left
end
end Go.Proofs.Yteagcdhkobeanaa.A
