/- What one operation of the compact code does to a state: an effect, the same wherever what it reads is the same. -/
import Derived.Test.YtjaideekkbpalaaGreatE0
import Derived.Test.YtjaideekkbpalaaGreatB7
namespace Go.Proofs.YtjaideekkbpalaaGreat.A
open _root_.List renaming flatMap_cons→Qa,mem_append_right→Qb,mem_append→Qc,mem_append_left→Qd
open Go
theorem Wau {e e':List (Nat×V)} {x:Opd} (h: ∀y,y∈opdT x→lk e y=lk e' y):ev e' x=ev e x:=by
 cases x with
 | t n=>exact (h n (by simp[opdT])).symm
 | k c=>rfl
theorem evs_agree {e e':List (Nat×V)}: ∀(xs:List Opd),(∀y,y∈xs.flatMap opdT→lk e y=lk e' y)→evs e' xs=evs e xs
 | [],_=>rfl
 | x::r,h=>by
   rw[evs_cons,evs_cons,Wau fun y hy=>h y (by simp[Qa,hy]),evs_agree r fun y hy=>h y (by rw[Qa];exact Qb _ hy)]
theorem evParts_agree {e e':List (Nat×V)}: ∀(xs:List (Nat×Opd)),(∀y,y∈(xs.flatMap fun p=>opdT p.2)→lk e y=lk e' y)→Wcg e' xs=Wcg e xs
 | [],_=>rfl
 | (i,x)::r,h=>by
   rw[evParts_cons,evParts_cons,Wau fun y hy=>h y (by rw[Qa];exact Qd _ hy),evParts_agree r fun y hy=>h y (by rw[Qa];exact Qb _ hy)]
theorem evParts3_agree {e e':List (Nat×V)}: ∀(xs:List (Nat×Nat×Opd)),(∀y,y∈(xs.flatMap fun p=>opdT p.2.2)→lk e y=lk e' y)→Wbx e' xs=Wbx e xs
 | [],_=>rfl
 | (i,n,x)::r,h=>by
   rw[evParts3_cons,evParts3_cons,Wau fun y hy=>h y (by rw[Qa];exact Qd _ hy),evParts3_agree r fun y hy=>h y (by rw[Qa];exact Qb _ hy)]
theorem evPtrs_agree {e e':List (Nat×V)}: ∀(xs:List Nat),(∀y,y∈xs→lk e y=lk e' y)→evPtrs e' xs=evPtrs e xs
 | [],_=>rfl
 | x::r,h=>by
   rw[evPtrs,evPtrs,←h x (by simp),evPtrs_agree r fun y hy=>h y (by simp[hy])]
theorem bndO_agree {e e':List (Nat×V)} {x:Option Opd} (h: ∀y,y∈(x.map opdT).getD []→lk e y=lk e' y):bndO e' x=bndO e x:=by
 cases x with
 | none=>rfl
 | some x=>rw[bndO_s,bndO_s,Wau fun y hy=>h y (by simpa using hy)]
section
variable {C:Waf} {s s1:St}
theorem setR_map (s:St) (d:Nat) (q:Option V):setR s d q=q.map (s.set d):=by cases q<;>rfl
theorem WbK (s:St) (d:Nat) (q:Option Cell):cellR s d q=(q.map V.c).map (s.set d):=by cases q<;>rfl
theorem WbH {o:RO} {d:Nat} (hd:o.dst=some d) (q:Option V) (h: ∀t:St,(∀x,x∈o.uses→lk s.env x=lk t.env x)→opF C t o=q.map (t.set d)) (e:opF C s o=some s1):
 ∃d v,o.dst=some d∧s1=s.set d v∧ ∀t:St,(∀x,x∈o.uses→lk s.env x=lk t.env x)→opF C t o=some (t.set d v):=by
 rw[h s fun _ _=>rfl] at e
 cases q with
 | none=>cases e
 | some v=>
   injection e with e
   exact ⟨d,v,hd,e.symm,fun t ht=>h t ht⟩
theorem eff0 {o:RO} (hn:o.cls=0) (e:opF C s o=some s1):
 ∃d v,o.dst=some d∧s1=s.set d v∧ ∀t:St,(∀x,x∈o.uses→lk s.env x=lk t.env x)→opF C t o=some (t.set d v):=by
 cases o with
 | mov d x=>exact WbH rfl (ev s.env x) (fun t ht=>by rw[op_mov,setR_map,Wau ht]) e
 | pick d a x y=>
   refine WbH rfl (match ev s.env a with | some (.c (.bool b))=>ev s.env (bif b then x else y) | _=>none) (fun t ht=> ?_) e
   have h1:ev t.env a=ev s.env a:=Wau fun z hz=>ht z (by simp[RO.uses,hz])
   have h2:ev t.env x=ev s.env x:=Wau fun z hz=>ht z (by simp[RO.uses,hz])
   have h3:ev t.env y=ev s.env y:=Wau fun z hz=>ht z (by simp[RO.uses,hz])
   rw[op_pick,h1]
   unfold pickR
   split
   ·rename_i b hb
    rw[setR_map,hb]
    cases b with
    | true=>simp only[cond_true];rw[h2]
    | false=>simp only[cond_false];rw[h3]
   ·rename_i hb
    split
    ·rename_i b hc;exact absurd hc (hb b)
    ·rfl
 | build d z ps=>
   refine WbH rfl ((buildsO z (Wbx s.env ps)).map V.agg) (fun t ht=> ?_) e
   rw[op_build,evParts3_agree ps ht]
   cases buildsO z (Wbx s.env ps)<;>rfl
 | fld d x off n g=>
   refine WbH rfl (match ev s.env x with | some (.agg cs)=>mkR g (cut? cs off n) | _=>none) (fun t ht=> ?_) e
   rw[op_fld,Wau ht]
   unfold fldR
   split
   ·rename_i hb;rw[setR_map,hb]
   ·rename_i hb
    split
    ·rename_i b hc;exact absurd hc (hb b)
    ·rfl
 | idx d tag x i=>
   refine WbH rfl ((idxR tag (WaE (ev s.env x)) (intOf (ev s.env i))).map V.c) (fun t ht=> ?_) e
   rw[op_idx,WbK,Wau fun z hz=>ht z (by simp[RO.uses,hz]),Wau (x:=i) fun z hz=>ht z (by simp[RO.uses,hz])]
 | sidx d x i=>
   refine WbH rfl ((sidxR (WaE (ev s.env x)) (intOf (ev s.env i))).map V.c) (fun t ht=> ?_) e
   rw[op_sidx,WbK,Wau fun z hz=>ht z (by simp[RO.uses,hz]),Wau (x:=i) fun z hz=>ht z (by simp[RO.uses,hz])]
 | bin d b x i=>
   refine WbH rfl ((bin2 b (WaE (ev s.env x)) (WaE (ev s.env i))).map V.c) (fun t ht=> ?_) e
   rw[op_bin,WbK,Wau fun z hz=>ht z (by simp[RO.uses,hz]),Wau (x:=i) fun z hz=>ht z (by simp[RO.uses,hz])]
 | beq d b x i=>
   refine WbH rfl ((beqR b (WaE (ev s.env x)) (WaE (ev s.env i))).map V.c) (fun t ht=> ?_) e
   rw[op_beq,WbK,Wau fun z hz=>ht z (by simp[RO.uses,hz]),Wau (x:=i) fun z hz=>ht z (by simp[RO.uses,hz])]
 | eqs d b ks x i=>
   refine WbH rfl ((eqsR b ks (ev s.env x) (ev s.env i)).map V.c) (fun t ht=> ?_) e
   rw[op_eqs,WbK,Wau fun z hz=>ht z (by simp[RO.uses,hz]),Wau (x:=i) fun z hz=>ht z (by simp[RO.uses,hz])]
 | not d x=>exact WbH rfl ((notR (WaE (ev s.env x))).map V.c) (fun t ht=>by rw[op_not,WbK,Wau ht]) e
 | conv d k x=>exact WbH rfl ((convR k (intOf (ev s.env x))).map V.c) (fun t ht=>by rw[op_conv,WbK,Wau ht]) e
 | mkf d f l=>
   refine WbH rfl ((evPtrs s.env l).map fun ps=>V.c (.fn f ps)) (fun t ht=> ?_) e
   rw[op_mkf,evPtrs_agree l ht]
   cases evPtrs s.env l<;>rfl
 | cut d tag x lo hi=>
   refine WbH rfl ((cutR tag (WaE (ev s.env x)) (bndO s.env lo) (bndO s.env hi)).map V.c) (fun t ht=> ?_) e
   rw[op_cut,WbK,Wau fun z hz=>ht z (by simp[RO.uses,hz]),bndO_agree (x:=lo) fun z hz=>ht z (by simp only[RO.uses,Qc];exact .inl (.inr hz)),bndO_agree (x:=hi) fun z hz=>ht z (by simp only[RO.uses,Qc];exact .inr hz)]
 | scut d x lo hi=>
   refine WbH rfl ((scutR (WaE (ev s.env x)) (bndO s.env lo) (bndO s.env hi)).map V.c) (fun t ht=> ?_) e
   rw[op_scut,WbK,Wau fun z hz=>ht z (by simp[RO.uses,hz]),bndO_agree (x:=lo) fun z hz=>ht z (by simp only[RO.uses,Qc];exact .inl (.inr hz)),bndO_agree (x:=hi) fun z hz=>ht z (by simp only[RO.uses,Qc];exact .inr hz)]
 | ext d x i=>
   refine WbH rfl (match ev s.env x with | some (.tup vs)=>vs[i]? | _=>none) (fun t ht=> ?_) e
   rw[op_ext,Wau ht]
   unfold extR
   split
   ·rename_i hb;rw[setR_map,hb]
   ·rename_i hb
    split
    ·rename_i b hc;exact absurd hc (hb b)
    ·rfl
 | len d x=>exact WbH rfl ((lenR (WaE (ev s.env x))).map V.c) (fun t ht=>by rw[op_len,WbK,Wau ht]) e
 | slen d x=>exact WbH rfl ((slenR (WaE (ev s.env x))).map V.c) (fun t ht=>by rw[op_slen,WbK,Wau ht]) e
 | nilc d x=>exact WbH rfl ((nilcR (WaE (ev s.env x))).map V.c) (fun t ht=>by rw[op_nilc,WbK,Wau ht]) e
 | add d x y z=>
   refine WbH rfl (addR (WaE (ev s.env x)) (WaE (ev s.env y)) (WaE (ev s.env z))) (fun t ht=> ?_) e
   rw[op_add,setR_map,Wau fun u hu=>ht u (by simp[RO.uses,hu]),Wau (x:=y) fun u hu=>ht u (by simp[RO.uses,hu]),Wau (x:=z) fun u hu=>ht u (by simp[RO.uses,hu])]
 | call d f xs q=>cases q<;>cases hn
 | calv d x xs q=>cases q<;>cases hn
 | _=>cases hn
end
end Go.Proofs.YtjaideekkbpalaaGreat.A
