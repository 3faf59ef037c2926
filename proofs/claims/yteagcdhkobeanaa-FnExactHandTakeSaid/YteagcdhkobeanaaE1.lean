/- What one operation of the compact code does to a state: an effect, the same wherever what it reads is the same. -/
import Derived.Test.YteagcdhkobeanaaE0
import Derived.Test.YteagcdhkobeanaaB7
namespace Go.Proofs.Yteagcdhkobeanaa.A
open Go

theorem ev_agree {e e':List (Nat×V)} {x:Opd} (h: ∀y,y∈opdT x→lk e y=lk e' y):ev e' x=ev e x:=by
 cases x with
 | t n=>exact (h n (by simp[opdT])).symm
 | k c=>rfl
theorem evs_agree {e e':List (Nat×V)}: ∀(xs:List Opd),(∀y,y∈xs.flatMap opdT→lk e y=lk e' y)→evs e' xs=evs e xs
 | [],_=>rfl
 | x::r,h=>by
   rw[evs_cons,evs_cons,ev_agree fun y hy=>h y (by simp[List.flatMap_cons,hy]),evs_agree r fun y hy=>h y (by rw[List.flatMap_cons];exact List.mem_append_right _ hy)]
theorem evParts_agree {e e':List (Nat×V)}: ∀(xs:List (Nat×Opd)),(∀y,y∈(xs.flatMap fun p=>opdT p.2)→lk e y=lk e' y)→evParts e' xs=evParts e xs
 | [],_=>rfl
 | (i,x)::r,h=>by
   rw[evParts_cons,evParts_cons,ev_agree fun y hy=>h y (by rw[List.flatMap_cons];exact List.mem_append_left _ hy),evParts_agree r fun y hy=>h y (by rw[List.flatMap_cons];exact List.mem_append_right _ hy)]
theorem evParts3_agree {e e':List (Nat×V)}: ∀(xs:List (Nat×Nat×Opd)),(∀y,y∈(xs.flatMap fun p=>opdT p.2.2)→lk e y=lk e' y)→evParts3 e' xs=evParts3 e xs
 | [],_=>rfl
 | (i,n,x)::r,h=>by
   rw[evParts3_cons,evParts3_cons,ev_agree fun y hy=>h y (by rw[List.flatMap_cons];exact List.mem_append_left _ hy),evParts3_agree r fun y hy=>h y (by rw[List.flatMap_cons];exact List.mem_append_right _ hy)]
theorem evPtrs_agree {e e':List (Nat×V)}: ∀(xs:List Nat),(∀y,y∈xs→lk e y=lk e' y)→evPtrs e' xs=evPtrs e xs
 | [],_=>rfl
 | x::r,h=>by
   rw[evPtrs,evPtrs,←h x (by simp),evPtrs_agree r fun y hy=>h y (by simp[hy])]
theorem bndO_agree {e e':List (Nat×V)} {x:Option Opd} (h: ∀y,y∈(x.map opdT).getD []→lk e y=lk e' y):bndO e' x=bndO e x:=by
 cases x with
 | none=>rfl
 | some x=>rw[bndO_s,bndO_s,ev_agree fun y hy=>h y (by simpa using hy)]

section
variable {C:CallF} {s s1:St}
theorem setR_map (s:St) (d:Nat) (q:Option V):setR s d q=q.map (s.set d):=by cases q<;>rfl
theorem cellR_map (s:St) (d:Nat) (q:Option Cell):cellR s d q=(q.map V.c).map (s.set d):=by cases q<;>rfl
theorem eff0_of {o:RO} {d:Nat} (hd:o.dst=some d) (q:Option V) (h: ∀t:St,(∀x,x∈o.uses→lk s.env x=lk t.env x)→opF C t o=q.map (t.set d)) (e:opF C s o=some s1):
 ∃d v,o.dst=some d∧s1=s.set d v∧ ∀t:St,(∀x,x∈o.uses→lk s.env x=lk t.env x)→opF C t o=some (t.set d v):=by
 rw[h s fun _ _=>rfl] at e
 cases q with
 | none=>cases e
 | some v=>
   injection e with e
   exact ⟨d,v,hd,e.symm,fun t ht=>h t ht⟩
theorem eff0 {o:RO} (hn:o.cls=0) (e:opF C s o=some s1):
 ∃d v,o.dst=some d∧s1=s.set d v∧ ∀t:St,(∀x,x∈o.uses→lk s.env x=lk t.env x)→opF C t o=some (t.set d v):=by
 cases o with
 | mov d x=>exact eff0_of rfl (ev s.env x) (fun t ht=>by rw[op_mov,setR_map,ev_agree ht]) e
 | pick d a x y=>
   refine eff0_of rfl (match ev s.env a with | some (.c (.bool b))=>ev s.env (bif b then x else y) | _=>none) (fun t ht=> ?_) e
   have h1:ev t.env a=ev s.env a:=ev_agree fun z hz=>ht z (by simp[RO.uses,hz])
   have h2:ev t.env x=ev s.env x:=ev_agree fun z hz=>ht z (by simp[RO.uses,hz])
   have h3:ev t.env y=ev s.env y:=ev_agree fun z hz=>ht z (by simp[RO.uses,hz])
   rw[op_pick,h1]
   unfold pickR
   split
   ·rename_i b hb
    rw[setR_map,hb]
    cases b with
    | true=>simp only[cond_true];rw[h2]
    | false=>simp only[cond_false];rw[h3]
   ·rename_i hb
    split
    ·rename_i b hc;exact absurd hc (hb b)
    ·rfl
 | build d z ps=>
   refine eff0_of rfl ((buildsO z (evParts3 s.env ps)).map V.agg) (fun t ht=> ?_) e
   rw[op_build,evParts3_agree ps ht]
   cases buildsO z (evParts3 s.env ps)<;>rfl
 | fld d x off n g=>
   refine eff0_of rfl (match ev s.env x with | some (.agg cs)=>mkR g (cut? cs off n) | _=>none) (fun t ht=> ?_) e
   rw[op_fld,ev_agree ht]
   unfold fldR
   split
   ·rename_i hb;rw[setR_map,hb]
   ·rename_i hb
    split
    ·rename_i b hc;exact absurd hc (hb b)
    ·rfl
 | idx d tag x i=>
   refine eff0_of rfl ((idxR tag (cellOf (ev s.env x)) (intOf (ev s.env i))).map V.c) (fun t ht=> ?_) e
   rw[op_idx,cellR_map,ev_agree fun z hz=>ht z (by simp[RO.uses,hz]),ev_agree (x:=i) fun z hz=>ht z (by simp[RO.uses,hz])]
 | sidx d x i=>
   refine eff0_of rfl ((sidxR (cellOf (ev s.env x)) (intOf (ev s.env i))).map V.c) (fun t ht=> ?_) e
   rw[op_sidx,cellR_map,ev_agree fun z hz=>ht z (by simp[RO.uses,hz]),ev_agree (x:=i) fun z hz=>ht z (by simp[RO.uses,hz])]
 | bin d b x i=>
   refine eff0_of rfl ((bin2 b (cellOf (ev s.env x)) (cellOf (ev s.env i))).map V.c) (fun t ht=> ?_) e
   rw[op_bin,cellR_map,ev_agree fun z hz=>ht z (by simp[RO.uses,hz]),ev_agree (x:=i) fun z hz=>ht z (by simp[RO.uses,hz])]
 | beq d b x i=>
   refine eff0_of rfl ((beqR b (cellOf (ev s.env x)) (cellOf (ev s.env i))).map V.c) (fun t ht=> ?_) e
   rw[op_beq,cellR_map,ev_agree fun z hz=>ht z (by simp[RO.uses,hz]),ev_agree (x:=i) fun z hz=>ht z (by simp[RO.uses,hz])]
 | eqs d b ks x i=>
   refine eff0_of rfl ((eqsR b ks (ev s.env x) (ev s.env i)).map V.c) (fun t ht=> ?_) e
   rw[op_eqs,cellR_map,ev_agree fun z hz=>ht z (by simp[RO.uses,hz]),ev_agree (x:=i) fun z hz=>ht z (by simp[RO.uses,hz])]
 | not d x=>exact eff0_of rfl ((notR (cellOf (ev s.env x))).map V.c) (fun t ht=>by rw[op_not,cellR_map,ev_agree ht]) e
 | conv d k x=>exact eff0_of rfl ((convR k (intOf (ev s.env x))).map V.c) (fun t ht=>by rw[op_conv,cellR_map,ev_agree ht]) e
 | mkf d f l=>
   refine eff0_of rfl ((evPtrs s.env l).map fun ps=>V.c (.fn f ps)) (fun t ht=> ?_) e
   rw[op_mkf,evPtrs_agree l ht]
   cases evPtrs s.env l<;>rfl
 | cut d tag x lo hi=>
   refine eff0_of rfl ((cutR tag (cellOf (ev s.env x)) (bndO s.env lo) (bndO s.env hi)).map V.c) (fun t ht=> ?_) e
   rw[op_cut,cellR_map,ev_agree fun z hz=>ht z (by simp[RO.uses,hz]),bndO_agree (x:=lo) fun z hz=>ht z (by simp only[RO.uses,List.mem_append];exact .inl (.inr hz)),bndO_agree (x:=hi) fun z hz=>ht z (by simp only[RO.uses,List.mem_append];exact .inr hz)]
 | scut d x lo hi=>
   refine eff0_of rfl ((scutR (cellOf (ev s.env x)) (bndO s.env lo) (bndO s.env hi)).map V.c) (fun t ht=> ?_) e
   rw[op_scut,cellR_map,ev_agree fun z hz=>ht z (by simp[RO.uses,hz]),bndO_agree (x:=lo) fun z hz=>ht z (by simp only[RO.uses,List.mem_append];exact .inl (.inr hz)),bndO_agree (x:=hi) fun z hz=>ht z (by simp only[RO.uses,List.mem_append];exact .inr hz)]
 | ext d x i=>
   refine eff0_of rfl (match ev s.env x with | some (.tup vs)=>vs[i]? | _=>none) (fun t ht=> ?_) e
   rw[op_ext,ev_agree ht]
   unfold extR
   split
   ·rename_i hb;rw[setR_map,hb]
   ·rename_i hb
    split
    ·rename_i b hc;exact absurd hc (hb b)
    ·rfl
 | len d x=>exact eff0_of rfl ((lenR (cellOf (ev s.env x))).map V.c) (fun t ht=>by rw[op_len,cellR_map,ev_agree ht]) e
 | slen d x=>exact eff0_of rfl ((slenR (cellOf (ev s.env x))).map V.c) (fun t ht=>by rw[op_slen,cellR_map,ev_agree ht]) e
 | nilc d x=>exact eff0_of rfl ((nilcR (cellOf (ev s.env x))).map V.c) (fun t ht=>by rw[op_nilc,cellR_map,ev_agree ht]) e
 | add d x y z=>
   refine eff0_of rfl (addR (cellOf (ev s.env x)) (cellOf (ev s.env y)) (cellOf (ev s.env z))) (fun t ht=> ?_) e
   rw[op_add,setR_map,ev_agree fun u hu=>ht u (by simp[RO.uses,hu]),ev_agree (x:=y) fun u hu=>ht u (by simp[RO.uses,hu]),ev_agree (x:=z) fun u hu=>ht u (by simp[RO.uses,hu])]
 | call d f xs q=>cases q<;>cases hn
 | calv d x xs q=>cases q<;>cases hn
 | _=>cases hn
end
end Go.Proofs.Yteagcdhkobeanaa.A
