/- One operation taken ahead of many: the state is the same but for the order of its lists. -/
import Derived.Test.YteagcdhkobeanaaE2
namespace Go.Proofs.Yteagcdhkobeanaa.A
open Go

structure Eqv (s t:St):Prop where
 env: ∀x,lk s.env x=lk t.env x
 adr: ∀x,lk s.adr x=lk t.adr x
 loc: ∀x,lk s.loc x=lk t.loc x
 hp:s.hp=t.hp
theorem Eqv.refl (s:St):Eqv s s:=⟨fun _=>rfl,fun _=>rfl,fun _=>rfl,rfl⟩
theorem Eqv.symm {s t:St} (h:Eqv s t):Eqv t s:=⟨fun x=>(h.env x).symm,fun x=>(h.adr x).symm,fun x=>(h.loc x).symm,h.hp.symm⟩
theorem Eqv.trans {s t u:St} (h:Eqv s t) (k:Eqv t u):Eqv s u:=⟨fun x=>(h.env x).trans (k.env x),fun x=>(h.adr x).trans (k.adr x),fun x=>(h.loc x).trans (k.loc x),h.hp.trans k.hp⟩
theorem Eqv.rd {s t:St} (h:Eqv s t) (n:Nat) (U:List Nat):Rd n U s t where
 env:=fun x _=>h.env x
 adr:=fun _ x _=>h.adr x
 loc2:=fun _ _ _ _ _ _=>h.loc _
 rows:=fun _ id rows hg=>by rw[←h.hp];exact hg
 hp:=fun _=>h.hp
 loc4:=fun _ k=>h.loc k

/-- One guarded operation. -/
def stepG (C:CallF) (g:RG) (s:St):Option St:=match g.guard with
 | none=>opF C s g.op
 | some (t,want)=>match lk s.env t with
   | some (.c (.bool b))=>bif b==want then opF C s g.op else some (s.skipO g.op.dst)
   | some (.tup [])=>some (s.skipO g.op.dst)
   | _=>none
theorem regF_step1 (C:CallF) (g:RG) (r:List RG) (s:St):regF C (g::r) s=(stepG C g s).bind (regF C r):=by
 obtain ⟨gd,op⟩:=g
 cases gd with
 | none=>rfl
 | some p=>
   obtain ⟨t,want⟩:=p
   simp only[regF,stepG]
   cases lk s.env t with
   | none=>rfl
   | some v=>cases v with
     | agg _=>rfl
     | tup vs=>cases vs<;>rfl
     | c x=>cases x with
       | bool b=>cases hb:(b==want)<;>simp only[hb]<;>rfl
       | _=>rfl
theorem cls1_dst {o:RO} (h:o.cls=1): ∃d,o.dst=some d:=by
 cases o with
 | call d f xs q=>cases q<;>cases h
 | calv d x xs q=>cases q<;>cases h
 | loc d _=>exact ⟨d,rfl⟩
 | locb d _=>exact ⟨d,rfl⟩
 | _=>cases h
def GEff (C:CallF) (s s1:St) (g:RG):Prop:= ∃e:Eff,e.d.map Prod.fst=g.op.dst∧EffOk g.op.cls g.uses e s∧s1=e.app s∧ ∀t,Rd g.op.cls g.uses s t→stepG C g t=some (e.app t)
theorem EffOk.weak {n:Nat} {U U':List Nat} {e:Eff} {s:St} (h:EffOk n U e s) (hu: ∀x,x∈U→x∈U'):EffOk n U' e s:=
 ⟨h.hp,h.sl,h.loc,fun d k o hd=>by obtain ⟨h0,x,h1,h2⟩:=h.adr d k o hd;exact ⟨h0,x,hu x h1,h2⟩,h.rows,fun hn k cs hs=>by obtain ⟨x,h1,h2⟩:=h.sl5 hn k cs hs;exact ⟨x,hu x h1,h2⟩⟩
theorem Rd.weak {n:Nat} {U U':List Nat} {s t:St} (h:Rd n U' s t) (hu: ∀x,x∈U→x∈U'):Rd n U s t:=
 ⟨fun x hx=>h.env x (hu x hx),fun hn x hx=>h.adr hn x (hu x hx),fun hn x hx=>h.loc2 hn x (hu x hx),h.rows,h.hp,h.loc4⟩
theorem skip_eff (C:CallF) {s:St} {g:RG} (h: ∀t:St,Rd g.op.cls g.uses s t→stepG C g t=some (t.skipO g.op.dst)):GEff C s (s.skipO g.op.dst) g:=by
 refine ⟨⟨g.op.dst.map fun d=>(d,.val (.tup [])),none,none⟩,?_,⟨fun _=>rfl,fun _=>rfl,fun _ _ h=> ?_,fun _ _ _ h=> ?_,fun _ h=>(nomatch h),fun _ _ _ h=>(nomatch h)⟩,?_,fun t ht=> ?_⟩
 ·cases g.op.dst<;>rfl
 ·cases hd:g.op.dst<;>rw[hd] at h<;>simp at h
 ·cases hd:g.op.dst<;>rw[hd] at h<;>simp at h
 ·cases g.op.dst<;>rfl
 ·rw[h t ht];cases g.op.dst<;>rfl
theorem geff {C:CallF} (hC:StepC C) {s s1:St} {g:RG} (hk:isChk g.op=false) (e:stepG C g s=some s1):GEff C s s1 g:=by
 have hu: ∀x,x∈g.op.uses→x∈g.uses:=fun x hx=>by unfold RG.uses;exact List.mem_append_right _ hx
 cases hg:g.guard with
 | none=>
   have hs: ∀t,stepG C g t=opF C t g.op:=fun t=>by unfold stepG;rw[hg]
   rw[hs] at e
   obtain ⟨ef,h1,h2,h3,h4⟩:=eff_op hC hk e
   exact ⟨ef,h1,h2.weak hu,h3,fun t ht=>(hs t).trans (h4 t (ht.weak hu))⟩
 | some p=>
   obtain ⟨t0,want⟩:=p
   have ht0:t0∈g.uses:=by unfold RG.uses;rw[hg];simp
   have hs: ∀t:St,lk s.env t0=lk t.env t0→stepG C g t=match lk s.env t0 with
    | some (.c (.bool b))=>bif b==want then opF C t g.op else some (t.skipO g.op.dst)
    | some (.tup [])=>some (t.skipO g.op.dst)
    | _=>none:=fun t ht=>by unfold stepG;rw[hg];simp only;rw[←ht]
   have e0:=e
   rw[hs s rfl] at e
   split at e
   ·rename_i b hb
    cases hw:(b==want) with
    | true=>
      rw[hw,cond_true] at e
      obtain ⟨ef,h1,h2,h3,h4⟩:=eff_op hC hk e
      refine ⟨ef,h1,h2.weak hu,h3,fun t ht=> ?_⟩
      rw[hs t (ht.env t0 ht0),hb]
      simp only[hw,cond_true]
      exact h4 t (ht.weak hu)
    | false=>
      rw[hw,cond_false] at e
      injection e with e
      rw[←e]
      refine skip_eff C fun t ht=> ?_
      rw[hs t (ht.env t0 ht0),hb]
      simp only[hw,cond_false]
   ·rename_i hb
    injection e with e
    rw[←e]
    refine skip_eff C fun t ht=> ?_
    rw[hs t (ht.env t0 ht0),hb]
   ·cases e

/-- No address is held of the variables that these operations make. -/
def Lone (a:Nat) (s:St):Prop:= ∀k o,lk s.adr a=some (k,o)→ ∀y,y∈s.adr→y.2.1=k→y.1=a
structure NoSlot (ow:List Nat) (l:List RG) (s:St):Prop where
 ns: ∀y,y∈s.adr→ ∀g,g∈l→g.op.cls=1→g.op.dst≠some y.2.1
 lone: ∀a,a∈ow→Lone a s
theorem NoSlot.mono {ow:List Nat} {l l':List RG} {s:St} (h:NoSlot ow l s) (hl: ∀g,g∈l'→g∈l):NoSlot ow l' s:=⟨fun y hy g hg=>h.ns y hy g (hl g hg),h.lone⟩
/-- An operation that leaves these addresses alone; it is none that checks. -/
structure Plain (ow:List Nat) (g:RG):Prop where
 chk:isChk g.op=false
 dst: ∀a,a∈ow→g.op.dst=some a→g.op.cls=1
 use: ∀a,a∈ow→a∈g.uses→lsAt g.op=some a
theorem lsAt_dst {o:RO} {a:Nat} (h:lsAt o=some a):o.dst=none:=by
 cases o with
 | lst _ _ _=>rfl
 | _=>cases h
theorem cls_le (o:RO):o.cls≤7:=by
 cases o with
 | call d f xs q=>cases q<;>simp[RO.cls]
 | calv d x xs q=>cases q<;>simp[RO.cls]
 | _=>simp[RO.cls]
theorem lsAt_cls {o:RO} {a:Nat} (h:lsAt o=some a):o.cls=5:=by
 cases o with
 | lst _ _ _=>rfl
 | _=>cases h
theorem GEff.free {s:St} {g:RG} {e:Eff} {l:List RG} (h1:e.d.map Prod.fst=g.op.dst) (h2:EffOk g.op.cls g.uses e s) {s':St} {ow:List Nat} (hn:NoSlot ow l s') (hg:g∈l):e.Free s':=fun d cs hd y hy he=>by
 refine hn.ns y hy g hg (h2.loc d cs hd) ?_
 rw[←h1,hd,he];rfl
theorem lk_memI {α:Type}: ∀(l:List (Nat×α)) (t:Nat) (x:α),lk l t=some x→(t,x)∈l
 | [],_,_,h=>by simp[lk] at h
 | (s,v)::r,t,x,h=>by
   rw[lk_cons] at h
   split at h
   ·rename_i he;injection h with h;subst h;subst he;simp
   ·exact List.mem_cons_of_mem _ (lk_memI r t x h)
theorem NoSlot.app {s:St} {g:RG} {e:Eff} {l:List RG} (h1:e.d.map Prod.fst=g.op.dst) (h2:EffOk g.op.cls g.uses e s) {ow:List Nat} (fr:e.Free s) (pl:Plain ow g) (hn:NoSlot ow l s) (hd: ∀g',g'∈l→g.op.cls=1→g'.op.cls=1→g.op.dst≠g'.op.dst):NoSlot ow l (e.app s):=by
 have base: ∀y,y∈(slE e.sl (hpE e.hp s)).adr→y∈s.adr:=fun y hy=>by rwa [slE_adr,hpE_adr] at hy
 refine ⟨?_,fun a ha k o hk y hy hyk=> ?_⟩
 rotate_left
 ·rw[Eff.app_adr _ _ fr] at hk
  unfold Eff.adrF at hk
  unfold Eff.app dE at hy
  split at hy
  ·rename_i he
   rw[he] at hk
   exact hn.lone a ha k o hk y (base y hy) hyk
  ·rename_i d v he
   rw[he] at hk
   simp only at hk
   by_cases had:a=d
   ·rw[if_pos had] at hk;cases hk
   ·rw[if_neg had] at hk
    exact hn.lone a ha k o hk y (base y (mem_dropI _ _ _ hy)) hyk
  ·rename_i d k' o' he
   obtain ⟨hn1,x,hxu,o'',hx⟩:=h2.adr d k' o' he
   rw[he] at hk
   simp only at hk
   by_cases had:a=d
   ·exact absurd (pl.dst a ha (by rw[←h1,he,had];rfl)) hn1
   ·rw[if_neg had] at hk
    rcases List.mem_cons.1 hy with hy | hy
    ·subst hy
     have hxa:x=a:=hn.lone a ha k o hk _ (lk_memI _ _ _ hx) hyk
     have hnone:=lsAt_dst (pl.use a ha (hxa▸hxu))
     rw[←h1,he] at hnone;cases hnone
    ·exact hn.lone a ha k o hk y (base y (mem_dropI _ _ _ hy)) hyk
  ·rename_i d cs he
   rw[he] at hk
   simp only at hk
   by_cases had:a=d
   ·rw[if_pos had] at hk
    simp only[Wh.adrO,Option.some.injEq,Prod.mk.injEq] at hk
    rcases List.mem_cons.1 hy with hy | hy
    ·rw[hy];exact had.symm
    ·exact absurd (hyk.trans hk.1.symm) (fr d cs he y (base y (mem_dropI _ _ _ (mem_forgetI _ _ _ hy))))
   ·rw[if_neg had] at hk
    rcases List.mem_cons.1 hy with hy | hy
    ·subst hy
     exact absurd hyk.symm (fr d cs he _ (lk_memI _ _ _ hk))
    ·exact hn.lone a ha k o hk y (base y (mem_dropI _ _ _ (mem_forgetI _ _ _ hy))) hyk
 intro y hy g' hg' hc hne
 unfold Eff.app dE at hy
 split at hy
 ·exact hn.ns y (base y hy) g' hg' hc hne
 ·exact hn.ns y (base y (mem_dropI _ _ _ hy)) g' hg' hc hne
 ·rename_i d k o he
  rcases List.mem_cons.1 hy with hy | hy
  ·obtain ⟨_,x,_,o',hx⟩:=h2.adr d k o he
   subst hy
   exact hn.ns _ (lk_memI _ _ _ hx) g' hg' hc hne
  ·exact hn.ns y (base y (mem_dropI _ _ _ hy)) g' hg' hc hne
 ·rename_i d cs he
  rcases List.mem_cons.1 hy with hy | hy
  ·subst hy
   refine hd g' hg' (h2.loc d cs he) hc ?_
   rw[←h1,he,hne];rfl
  ·exact hn.ns y (base y (mem_dropI _ _ _ (mem_forgetI _ _ _ hy))) g' hg' hc hne

theorem congrG {C:CallF} (hC:StepC C) {g:RG} (hk:isChk g.op=false) {s t s1:St} (h:Eqv s t) {ow:List Nat} {l:List RG} (hg:g∈l) (hs:NoSlot ow l s) (ht:NoSlot ow l t) (e:stepG C g s=some s1):
 ∃t1,stepG C g t=some t1∧Eqv s1 t1∧ ∃ef:Eff,ef.d.map Prod.fst=g.op.dst∧EffOk g.op.cls g.uses ef s∧EffOk g.op.cls g.uses ef t∧s1=ef.app s∧t1=ef.app t:=by
 obtain ⟨ef,h1,h2,h3,h4⟩:=geff hC hk e
 have h2':EffOk g.op.cls g.uses ef t:=⟨h2.hp,h2.sl,h2.loc,fun d k o hd=>by obtain ⟨q0,x,q1,o',q2⟩:=h2.adr d k o hd;exact ⟨q0,x,q1,o',by rw[←h.adr];exact q2⟩,by rw[←h.hp];exact h2.rows,fun hn k cs hs=>by obtain ⟨x,q1,o',q2⟩:=h2.sl5 hn k cs hs;exact ⟨x,q1,o',by rw[←h.adr];exact q2⟩⟩
 refine ⟨ef.app t,h4 t (h.rd _ _),?_,ef,h1,h2,h2',h3,rfl⟩
 rw[h3]
 refine ⟨fun x=> ?_,fun x=> ?_,fun x=> ?_,?_⟩
 ·rw[Eff.app_env,Eff.app_env,h.env]
 ·rw[Eff.app_adr _ _ (GEff.free h1 h2 hs hg),Eff.app_adr _ _ (GEff.free h1 h2 ht hg),h.adr]
 ·rw[Eff.app_loc,Eff.app_loc,h.loc]
 ·rw[Eff.app_hp,Eff.app_hp,h.hp]

abbrev Apart (l:List RG):Prop:=l.Pairwise fun g g'=>g.op.cls=1→g'.op.cls=1→g.op.dst≠g'.op.dst
theorem congrL {C:CallF} (hC:StepC C) {ow:List Nat}: ∀(l:List RG) {s t s':St},(∀g,g∈l→Plain ow g)→Apart l→Eqv s t→NoSlot ow l s→NoSlot ow l t→regF C l s=some s'→ ∃t',regF C l t=some t'∧Eqv s' t'
 | [],s,t,s',_,_,h,_,_,e=>by injection e with e;subst e;exact ⟨t,rfl,h⟩
 | g::r,s,t,s',hk,ha,h,hs,ht,e=>by
   rw[regF_step1] at e
   obtain ⟨s1,e1,e2⟩:=Option.bind_eq_some_iff.1 e
   obtain ⟨t1,f1,h1,ef,q1,q2,q3,q4,q5⟩:=congrG hC (hk g (by simp)).chk h (l:=g::r) (by simp) hs ht e1
   have ha':=List.pairwise_cons.1 ha
   obtain ⟨t',f2,h2⟩:=congrL hC r (fun g' hg'=>hk g' (by simp[hg'])) ha'.2 h1 (by rw[q4];exact NoSlot.app q1 q2 (GEff.free q1 q2 hs (by simp)) (hk g (by simp)) (hs.mono fun g' hg'=>by simp[hg']) fun g' hg'=>ha'.1 g' hg')
    (by rw[q5];exact NoSlot.app q1 q3 (GEff.free q1 q3 ht (by simp)) (hk g (by simp)) (ht.mono fun g' hg'=>by simp[hg']) fun g' hg'=>ha'.1 g' hg') e2
   exact ⟨t',by rw[regF_step1,f1];exact f2,h2⟩

/-- A store to a variable of one's own: what it does. -/
theorem lst_eff {C:CallF} {s s2:St} {o:RG} {a:Nat} (ha:lsAt o.op=some a) (e:stepG C o s=some s2):
 ∃eo:Eff,eo.d=none∧eo.hp=none∧(∀j cs,eo.sl=some (j,cs)→ ∃off,lk s.adr a=some (j,off))∧s2=eo.app s∧
  ∀t:St,(∀x,x∈o.uses→lk s.env x=lk t.env x)→lk t.adr a=lk s.adr a→(∀j cs,eo.sl=some (j,cs)→lk t.loc j=lk s.loc j)→stepG C o t=some (eo.app t):=by
 obtain ⟨g,op⟩:=o
 cases op with
 | lst a' n x=>
   injection ha with ha;subst ha
   have core: ∀{u1:St},opF C s (.lst a' n x)=some u1→ ∃eo:Eff,eo.d=none∧eo.hp=none∧(∀j cs,eo.sl=some (j,cs)→ ∃off,lk s.adr a'=some (j,off))∧u1=eo.app s∧
    ∀t:St,(∀y,y∈(RO.lst a' n x).uses→lk s.env y=lk t.env y)→lk t.adr a'=lk s.adr a'→(∀j cs,eo.sl=some (j,cs)→lk t.loc j=lk s.loc j)→opF C t (.lst a' n x)=some (eo.app t):=fun {u1} e=>by
    simp only[opF] at e
    obtain ⟨v,e1,e⟩:=Option.bind_eq_some_iff.1 e
    obtain ⟨new,e2,e⟩:=Option.bind_eq_some_iff.1 e
    split at e
    ·rename_i hln
     split at e
     ·rename_i k off hl
      obtain ⟨cs,e4,e⟩:=Option.bind_eq_some_iff.1 e
      obtain ⟨cs',e5,e⟩:=Option.bind_eq_some_iff.1 e
      injection e with e
      refine ⟨⟨none,none,some (k,cs')⟩,rfl,rfl,fun j c h=>by injection h with h;injection h with h _;subst h;exact ⟨off,hl⟩,e.symm,fun t ht hta htl=> ?_⟩
      have hx:ev t.env x=ev s.env x:=ev_agree fun z hz=>ht z (by simp[RO.uses,hz])
      simp only[opF]
      rw[hx,e1,Option.bind_some,e2,Option.bind_some,if_pos hln,hta,hl]
      simp only
      rw[htl k cs' rfl,e4,Option.bind_some,e5];rfl
     ·cases e
    ·cases e
   have skip: ∃eo:Eff,eo.d=none∧eo.hp=none∧(∀j cs,eo.sl=some (j,cs)→ ∃off,lk s.adr a'=some (j,off))∧s=eo.app s∧ ∀t:St,some t=some (eo.app t):=⟨⟨none,none,none⟩,rfl,rfl,fun _ _ h=>(nomatch h),rfl,fun _=>rfl⟩
   cases g with
   | none=>
     obtain ⟨eo,h1,h2,h3,h4,h5⟩:=core (u1:=s2) e
     exact ⟨eo,h1,h2,h3,h4,fun t ht=>h5 t fun y hy=>ht y (by unfold RG.uses;exact List.mem_append_right _ hy)⟩
   | some p=>
     obtain ⟨t0,want⟩:=p
     have ht0:t0∈(⟨some (t0,want),.lst a' n x⟩:RG).uses:=by unfold RG.uses;simp
     have e0:=e
     simp only[stepG] at e
     split at e
     ·rename_i b hb
      cases hw:(b==want) with
      | true=>
        rw[hw,cond_true] at e
        obtain ⟨eo,h1,h2,h3,h4,h5⟩:=core e
        refine ⟨eo,h1,h2,h3,h4,fun t ht=> ?_⟩
        simp only[stepG]
        rw[←ht t0 ht0,hb]
        simp only[hw,cond_true]
        exact h5 t fun y hy=>ht y (by unfold RG.uses;exact List.mem_append_right _ hy)
      | false=>
        rw[hw,cond_false] at e
        injection e with e
        obtain ⟨eo,h1,h2,h3,h4,h5⟩:=skip
        refine ⟨eo,h1,h2,h3,e.symm.trans h4,fun t ht _ _=> ?_⟩
        simp only[stepG]
        rw[←ht t0 ht0,hb]
        simp only[hw,cond_false]
        exact h5 t
     ·rename_i hb
      injection e with e
      obtain ⟨eo,h1,h2,h3,h4,h5⟩:=skip
      refine ⟨eo,h1,h2,h3,e.symm.trans h4,fun t ht _ _=> ?_⟩
      simp only[stepG]
      rw[←ht t0 ht0,hb]
      exact h5 t
     ·cases e
 | _=>cases ha
theorem Eff.adrN {e:Eff} (h:e.d=none) (s:St):(e.app s).adr=s.adr:=by
 unfold Eff.app dE;rw[h];simp only[slE_adr,hpE_adr]
/-- A store to a variable of one's own is done ahead of its neighbour. -/
theorem swapS {C:CallF} (hC:StepC C) {p o:RG} {ow:List Nat} (hp:Plain ow p) (hm:mayFirst ow p o=true) (h5:o.op.cls=5) {l:List RG} (hpl:p∈l) {s s1 s2:St} (hn:NoSlot ow l s)
 (e1:stepG C p s=some s1) (e2:stepG C o s1=some s2): ∃t1 t2,stepG C o s=some t1∧stepG C p t1=some t2∧Eqv t2 s2∧
  ∃eo:Eff,eo.d.map Prod.fst=o.op.dst∧EffOk o.op.cls o.uses eo s∧t1=eo.app s:=by
 obtain ⟨ep,p1,p2,p3,p4⟩:=geff hC hp.chk e1
 simp only[mayFirst,Bool.and_eq_true] at hm
 obtain ⟨⟨hm1,_⟩,hm3⟩:=hm
 have fp:ep.Free s:=GEff.free p1 p2 hn hpl
 obtain ⟨a,q1,q2,q3,q4⟩: ∃a,lsAt o.op=some a∧a∈ow∧a∉p.uses∧p.op.cls≠4:=by
  rw[h5] at hm3
  simp only[lsOk] at hm3
  split at hm3
  ·rename_i a ha
   simp only[Bool.and_eq_true,Bool.not_eq_true',List.contains_eq_mem,decide_eq_true_eq,decide_eq_false_iff_not,beq_eq_false_iff_ne] at hm3
   exact ⟨a,ha,hm3.1,hm3.2.1,hm3.2.2⟩
  ·cases hm3
 have hau:a∈o.uses:=by
  unfold RG.uses
  refine List.mem_append_right _ ?_
  cases hop:o.op with
  | lst a' n x=>rw[hop] at q1;injection q1 with q1;subst q1;simp[RO.uses]
  | _=>rw[hop] at q1;cases q1
 have hpd: ∀d w,ep.d=some (d,w)→p.op.dst=some d:=fun d w h=>by rw[←p1,h];rfl
 have hpo: ∀d w,ep.d=some (d,w)→ ∀x,x∈o.uses→x≠d:=fun d w h x hx he=>by
  rw[hpd d w h] at hm1
  simp only[Bool.and_eq_true,Bool.not_eq_true'] at hm1
  have:=hm1.1
  subst he
  simp at this;exact this hx
 have envP: ∀x,x∈o.uses→lk s1.env x=lk s.env x:=fun x hx=>by
  rw[p3,Eff.app_env];unfold Eff.envF
  split
  ·rename_i d w h;rw[if_neg (hpo d w h x hx)]
  ·rfl
 have adrP:lk s1.adr a=lk s.adr a:=by
  rw[p3,Eff.app_adr _ _ fp];unfold Eff.adrF
  split
  ·rename_i d w h;rw[if_neg (hpo d w h a hau)]
  ·rfl
 obtain ⟨eo,o1,o2,o3,o4,o6⟩:=lst_eff q1 e2
 have slot: ∀j cs,eo.sl=some (j,cs)→ ∃off,lk s.adr a=some (j,off):=fun j cs h=>by rw[←adrP];exact o3 j cs h
 have far: ∀j cs,eo.sl=some (j,cs)→ ∀x,x∈p.uses→ ∀k off,lk s.adr x=some (k,off)→k≠j:=fun j cs h x hx k off hk he=>by
  obtain ⟨off',h1⟩:=slot j cs h
  exact q3 (hn.lone a q2 j off' h1 _ (lk_memI _ _ _ hk) he▸hx)
 have keepL: ∀j cs,eo.sl=some (j,cs)→ ∀old,ep.locF j old=old:=fun j cs h old=>by
  have hsl: ∀old,ep.slF j old=old:=fun old=>by
   unfold Eff.slF
   split
   ·rename_i k' c hk
    by_cases q5:p.op.cls=5
    ·obtain ⟨x,r1,off,r2⟩:=p2.sl5 q5 k' c hk
     rw[if_neg (Ne.symm (far j cs h x r1 k' off r2))]
    ·have hle:p.op.cls≤7:=cls_le _
     rw[p2.sl (by omega)] at hk;cases hk
   ·rfl
  unfold Eff.locF
  split
  ·rename_i d c hd
   obtain ⟨off',h1⟩:=slot j cs h
   rw[if_neg (fp d c hd _ (lk_memI _ _ _ h1)),hsl]
  ·exact hsl old
 have t1:=o6 s envP adrP.symm fun j cs h=>by rw[p3,Eff.app_loc,keepL j cs h]
 have envF: ∀x old,eo.envF x old=old:=fun x old=>by unfold Eff.envF;rw[o1]
 have adrF: ∀x old,eo.adrF x old=old:=fun x old=>by unfold Eff.adrF;rw[o1]
 have locF: ∀x old,eo.locF x old=eo.slF x old:=fun x old=>by unfold Eff.locF;rw[o1]
 have fo: ∀u:St,eo.Free u:=fun u d cs h=>by rw[o1] at h;cases h
 have fp':ep.Free (eo.app s):=fun d cs h y hy=>fp d cs h y (by rwa [Eff.adrN o1] at hy)
 have rd:Rd p.op.cls p.uses s (eo.app s):=by
  refine ⟨fun x _=> ?_,fun _ x _=> ?_,fun _ x hx k off hk=> ?_,fun _ id rows hg=> ?_,fun _=> ?_,fun hc k=> ?_⟩
  ·rw[Eff.app_env,envF]
  ·rw[Eff.app_adr _ _ (fo s),adrF]
  ·rw[Eff.app_loc,locF]
   unfold Eff.slF
   split
   ·rename_i j cs h;rw[if_neg (far j cs h x hx k off hk)]
   ·rfl
  ·rw[Eff.app_hp,o2];exact hg
  ·rw[Eff.app_hp,o2];rfl
  ·omega
 refine ⟨eo.app s,ep.app (eo.app s),t1,p4 _ rd,?_,eo,?_,?_,rfl⟩
 ·rw[o4,p3]
  refine ⟨fun x=> ?_,fun x=> ?_,fun x=> ?_,?_⟩
  ·rw[Eff.app_env,Eff.app_env,Eff.app_env,Eff.app_env,envF,envF]
  ·rw[Eff.app_adr _ _ fp',Eff.app_adr _ _ (fo _),Eff.app_adr _ _ (fo _),Eff.app_adr _ _ fp,adrF,adrF]
  ·rw[Eff.app_loc,Eff.app_loc,Eff.app_loc,Eff.app_loc,locF,locF]
   unfold Eff.slF
   split
   ·rename_i j cs h
    by_cases hx:x=j
    ·subst hx;rw[if_pos rfl,if_pos rfl,keepL x cs h]
    ·rw[if_neg hx,if_neg hx]
   ·rfl
  ·rw[Eff.app_hp,Eff.app_hp,Eff.app_hp,Eff.app_hp,o2];rfl
 ·rw[o1,lsAt_dst q1];rfl
 ·refine ⟨fun _=>o2,fun h=>(by omega),fun d cs h=> ?_,fun d k off h=> ?_,fun h' h=> ?_,fun _ k cs h=> ?_⟩
  ·rw[o1] at h;cases h
  ·rw[o1] at h;cases h
  ·rw[o2] at h;cases h
  ·obtain ⟨off,h1⟩:=slot k cs h
   exact ⟨a,hau,off,h1⟩
/-- Two neighbours are turned. -/
theorem swapG {C:CallF} (hC:StepC C) {p o:RG} {ow:List Nat} (hp:Plain ow p) (ho:Plain ow o) (hm:mayFirst ow p o=true) {l:List RG} (hpl:p∈l) (hol:o∈l) {s s1 s2:St} (ht:Top s.hp) (hn:NoSlot ow l s)
 (e1:stepG C p s=some s1) (e2:stepG C o s1=some s2): ∃t1 t2,stepG C o s=some t1∧stepG C p t1=some t2∧Eqv t2 s2∧
  ∃eo:Eff,eo.d.map Prod.fst=o.op.dst∧EffOk o.op.cls o.uses eo s∧t1=eo.app s:=by
 by_cases h5:o.op.cls=5
 ·exact swapS hC hp hm h5 hpl hn e1 e2
 obtain ⟨ep,p1,p2,p3,p4⟩:=geff hC hp.chk e1
 simp only[mayFirst,Bool.and_eq_true] at hm
 obtain ⟨⟨hm1,hm2⟩,hm3⟩:=hm
 have fp:ep.Free s:=GEff.free p1 p2 hn hpl
 obtain ⟨eo,o1,o2,o3,o4⟩:=geff hC ho.chk e2
 -- what the two write
 have hpd: ∀d w,ep.d=some (d,w)→p.op.dst=some d:=fun d w h=>by rw[←p1,h];rfl
 have hod: ∀d w,eo.d=some (d,w)→o.op.dst=some d:=fun d w h=>by rw[←o1,h];rfl
 have hpo: ∀d w,ep.d=some (d,w)→ ∀x,x∈o.uses→x≠d:=fun d w h x hx he=>by
  rw[hpd d w h] at hm1
  simp only[Bool.and_eq_true,Bool.not_eq_true'] at hm1
  have:=hm1.1
  subst he
  simp at this;exact this hx
 have hop: ∀d w,eo.d=some (d,w)→ ∀x,x∈p.uses→x≠d:=fun d w h x hx he=>by
  rw[hod d w h] at hm2
  simp only[Bool.not_eq_true'] at hm2
  subst he
  simp at hm2;exact hm2 hx
 have hne: ∀d w d' w',ep.d=some (d,w)→eo.d=some (d',w')→d≠d':=fun d w d' w' h h' he=>by
  rw[hpd d w h,hod d' w' h'] at hm1
  simp only[Bool.and_eq_true,Bool.not_eq_true',beq_eq_false_iff_ne,ne_eq,Option.some.injEq] at hm1
  exact hm1.2 he.symm
 have fo:eo.Free s:=GEff.free o1 o2 hn hol
 -- the classes
 have hcls:p.op.cls=0∨o.op.cls=0∨(p.op.cls=1∧o.op.cls=1)∨(p.op.cls=1∧o.op.cls=2)∨(p.op.cls=1∧o.op.cls=3)∨(p.op.cls=2∧o.op.cls=2)∨(p.op.cls=2∧o.op.cls=3)∨(p.op.cls=3∧o.op.cls=1)∨(p.op.cls=1∧o.op.cls=6)∨(p.op.cls=2∧o.op.cls=6)∨(p.op.cls=6∧o.op.cls=2)∨(p.op.cls=6∧o.op.cls=6)∨(p.op.cls=6∧o.op.cls=3)∨(p.op.cls=6∧o.op.cls=7)∨(p.op.cls=1∧o.op.cls=7):=by
  clear o4 p4 hn ht
  split at hm3<;>simp_all
 have envP: ∀x,x∈o.uses→lk s1.env x=lk s.env x:=fun x hx=>by
  rw[p3,Eff.app_env];unfold Eff.envF
  split
  ·rename_i d w h;rw[if_neg (hpo d w h x hx)]
  ·rfl
 have adrP: ∀x,x∈o.uses→lk s1.adr x=lk s.adr x:=fun x hx=>by
  rw[p3,Eff.app_adr _ _ fp];unfold Eff.adrF
  split
  ·rename_i d w h;rw[if_neg (hpo d w h x hx)]
  ·rfl
 have envO: ∀x,x∈p.uses→lk s.env x=lk (eo.app s).env x:=fun x hx=>by
  rw[Eff.app_env];unfold Eff.envF
  split
  ·rename_i d w h;rw[if_neg (hop d w h x hx)]
  ·rfl
 have adrO: ∀x,x∈p.uses→lk s.adr x=lk (eo.app s).adr x:=fun x hx=>by
  rw[Eff.app_adr _ _ fo];unfold Eff.adrF
  split
  ·rename_i d w h;rw[if_neg (hop d w h x hx)]
  ·rfl
 have noloc: ∀{e:Eff} {g:RG} {u:St},EffOk g.op.cls g.uses e u→g.op.cls≠1→(g.op.cls≤3∨g.op.cls=6∨g.op.cls=7)→ ∀k old,e.locF k old=old:=fun {e g u} h hc hle k old=>by
  have hsl: ∀k old,e.slF k old=old:=fun k old=>by unfold Eff.slF;rw[h.sl hle]
  unfold Eff.locF
  split
  ·rename_i d cs hd;exact absurd (h.loc d cs hd) hc
  ·exact hsl k old
 have h1:Rd o.op.cls o.uses s1 s:=by
  refine ⟨envP,fun _=>adrP,fun hc x hx k off hk=> ?_,fun hc id rows hg=> ?_,fun hc=> ?_,fun hc k=> ?_⟩
  ·rw[adrP x hx] at hk
   rw[p3,Eff.app_loc]
   unfold Eff.locF
   have hsl: ∀k old,ep.slF k old=old:=fun k old=>by unfold Eff.slF;rw[p2.sl (by omega)]
   split
   ·rename_i d cs hd
    rw[if_neg (fun he=>fp d cs hd _ (lk_memI _ _ _ hk) he),hsl]
   ·exact hsl _ _
  ·rw[p3,Eff.app_hp,p2.hp (by omega)] at hg;exact hg
  ·rw[p3,Eff.app_hp,p2.hp (by omega)];rfl
  ·rw[p3,Eff.app_loc];exact noloc p2 (by omega) (by omega) _ _
 have hs1hp:p.op.cls≤2∨p.op.cls=6→s1.hp=s.hp:=fun h=>by rw[p3,Eff.app_hp,p2.hp (by omega)];rfl
 have h2:Rd p.op.cls p.uses s (eo.app s):=by
  refine ⟨envO,fun _=>adrO,fun hc x hx k off hk=> ?_,fun hc id rows hg=> ?_,fun hc=> ?_,fun hc k=> ?_⟩
  ·rw[Eff.app_loc];exact (noloc o2 (by omega) (by omega) _ _).symm
  ·rw[Eff.app_hp]
   cases hh:eo.hp with
   | none=>exact hg
   | some h'=>
     have hc3:o.op.cls=3:=by
      have h6: ¬(o.op.cls≤2∨o.op.cls=6):=fun hle=>by rw[o2.hp (by omega)] at hh;cases hh
      omega
     exact o2.rows h' hh hc3 (by rw[hs1hp (by omega)];exact ht) id rows (by rw[hs1hp (by omega)];exact hg)
  ·rw[Eff.app_hp,o2.hp (by omega)];rfl
  ·rw[Eff.app_loc];exact (noloc o2 (by omega) (by omega) _ _).symm
 have o2':EffOk o.op.cls o.uses eo s:=by
  refine ⟨o2.hp,o2.sl,o2.loc,fun d k off hd=> ?_,fun h' hh hc=> ?_,fun hc=>absurd hc h5⟩
  ·obtain ⟨q0,x,q1,off',q2⟩:=o2.adr d k off hd
   exact ⟨q0,x,q1,off',by rw[←adrP x q1];exact q2⟩
  ·by_cases hple:p.op.cls≤2∨p.op.cls=6
   ·rw[←hs1hp hple];exact o2.rows h' hh hc
   ·omega
 refine ⟨eo.app s,ep.app (eo.app s),o4 s h1,p4 _ h2,?_,eo,o1,o2',rfl⟩
 -- the order does not matter
 have np:NoSlot ow [p] (eo.app s):=by
  refine NoSlot.app o1 o2' fo ho (hn.mono fun g hg=>by simp at hg;subst hg;exact hpl) fun g' hg' c1 c2 he=> ?_
  simp at hg';subst hg'
  obtain ⟨d,hd⟩:=cls1_dst c1
  rw[←he,hd] at hm1
  simp at hm1
 have no:NoSlot ow [o] s1:=by
  rw[p3]
  refine NoSlot.app p1 p2 fp hp (hn.mono fun g hg=>by simp at hg;subst hg;exact hol) fun g' hg' c1 c2 he=> ?_
  simp at hg';subst hg'
  obtain ⟨d,hd⟩:=cls1_dst c1
  rw[hd] at he
  rw[hd,←he] at hm1
  simp at hm1
 have fp':ep.Free (eo.app s):=GEff.free p1 p2 np (by simp)
 have fo':eo.Free s1:=GEff.free o1 o2 no (by simp)
 rw[o3]
 refine ⟨fun x=> ?_,fun x=> ?_,fun k=> ?_,?_⟩
 ·rw[Eff.app_env,Eff.app_env,Eff.app_env,p3,Eff.app_env]
  unfold Eff.envF
  cases hd:ep.d with
  | none=>rfl
  | some d=>cases hd':eo.d with
    | none=>rfl
    | some d'=>
      obtain ⟨d,w⟩:=d;obtain ⟨d',w'⟩:=d'
      have:=hne d w d' w' hd hd'
      simp only
      by_cases q:x=d
      ·subst q;rw[if_pos rfl,if_neg this,if_pos rfl]
      ·rw[if_neg q,if_neg q]
 ·rw[Eff.app_adr _ _ fp',Eff.app_adr _ _ fo,Eff.app_adr _ _ fo',p3,Eff.app_adr _ _ fp]
  unfold Eff.adrF
  cases hd:ep.d with
  | none=>rfl
  | some d=>cases hd':eo.d with
    | none=>rfl
    | some d'=>
      obtain ⟨d,w⟩:=d;obtain ⟨d',w'⟩:=d'
      have:=hne d w d' w' hd hd'
      simp only
      by_cases q:x=d
      ·subst q;rw[if_pos rfl,if_neg this,if_pos rfl]
      ·rw[if_neg q,if_neg q]
 ·rw[Eff.app_loc,Eff.app_loc,Eff.app_loc,p3,Eff.app_loc]
  by_cases c1:p.op.cls=0
  ·rw[noloc p2 (by omega) (by omega),noloc p2 (by omega) (by omega)]
  ·by_cases c2:o.op.cls=0
   ·rw[noloc o2 (by omega) (by omega),noloc o2 (by omega) (by omega)]
   ·have hsp: ∀k old,ep.slF k old=old:=fun k old=>by unfold Eff.slF;rw[p2.sl (by omega)]
    have hso: ∀k old,eo.slF k old=old:=fun k old=>by unfold Eff.slF;rw[o2.sl (by omega)]
    unfold Eff.locF
    simp only[hsp,hso]
    cases hd:ep.d with
    | none=>rfl
    | some d=>cases hd':eo.d with
      | none=>rfl
      | some d'=>
        obtain ⟨d,w⟩:=d;obtain ⟨d',w'⟩:=d'
        have:=hne d w d' w' hd hd'
        cases w<;>cases w'<;>simp only
        by_cases q:k=d
        ·subst q;rw[if_pos rfl,if_neg this,if_pos rfl]
        ·rw[if_neg q,if_neg q]
 ·rw[Eff.app_hp,Eff.app_hp,Eff.app_hp,p3,Eff.app_hp]
  by_cases c1:p.op.cls≤2∨p.op.cls=5∨p.op.cls=6
  ·rw[p2.hp c1];rfl
  ·rw[o2.hp (by omega)];rfl

/-- An operation is taken ahead of all that stand before it. -/
theorem ahead {C:CallF} (hC:StepC C) {o:RG} {post:List RG} {ow:List Nat}: ∀(pre:List RG) {s s':St},(∀g,g∈pre++o::post→Plain ow g)→(∀p,p∈pre→mayFirst ow p o=true)→Apart (pre++o::post)→NoSlot ow (pre++o::post) s→Top s.hp→s.hp.floor≤s.hp.next→
 regF C (pre++o::post) s=some s'→ ∃s1 s'',stepG C o s=some s1∧regF C (pre++post) s1=some s''∧Eqv s'' s'∧NoSlot ow (pre++post) s1
 | [],s,s',hk,hm,ha,hn,ht,hf,e=>by
   rw[List.nil_append,regF_step1] at e
   obtain ⟨s1,e1,e2⟩:=Option.bind_eq_some_iff.1 e
   obtain ⟨ef,q1,q2,q3,_⟩:=geff hC (hk o (by simp)).chk e1
   have ha':=List.pairwise_cons.1 ha
   exact ⟨s1,s',e1,e2,Eqv.refl _,by rw[q3];exact NoSlot.app q1 q2 (GEff.free q1 q2 hn (by simp)) (hk o (by simp)) (hn.mono fun g hg=>by simp at hg ⊢;exact .inr hg) fun g' hg'=>ha'.1 g' hg'⟩
 | p::pre,s,s',hk,hm,ha,hn,ht,hf,e=>by
   rw[List.cons_append,regF_step1] at e
   obtain ⟨sp,e1,e2⟩:=Option.bind_eq_some_iff.1 e
   have ha':=List.pairwise_cons.1 ha
   obtain ⟨ep,p1,p2,p3,_⟩:=geff hC (hk p (by simp)).chk e1
   have mid: ∀g,g∈pre++post→g∈pre++o::post:=fun g hg=>(List.mem_append.1 hg).elim (fun h=>List.mem_append_left _ h) fun h=>List.mem_append_right _ (List.mem_cons_of_mem o h)
   have hnp:NoSlot ow (pre++o::post) sp:=by rw[p3];exact NoSlot.app p1 p2 (GEff.free p1 p2 hn (by simp)) (hk p (by simp)) (hn.mono fun g hg=>List.mem_cons_of_mem p hg) fun g' hg'=>ha'.1 g' hg'
   have hstep:Step s.hp sp.hp:=by
    have e1':=e1
    unfold stepG at e1'
    split at e1'
    ·exact opF_step hC e1' hf
    ·split at e1'
     ·rename_i b _
      cases hb:(b==_) with
      | true=>rw[hb] at e1';exact opF_step hC e1' hf
      | false=>rw[hb] at e1';injection e1' with e1';subst e1';have:(s.skipO p.op.dst).hp=s.hp:=by cases p.op.dst<;>rfl
               rw[this];exact Step.refl _
     ·injection e1' with e1';subst e1';have:(s.skipO p.op.dst).hp=s.hp:=by cases p.op.dst<;>rfl
      rw[this];exact Step.refl _
     ·cases e1'
   obtain ⟨sq,sr,f1,f2,f3,f4⟩:=ahead hC pre (fun g hg=>hk g (List.mem_cons_of_mem p hg)) (fun g hg=>hm g (by simp[hg])) ha'.2 hnp (hstep.top ht) (hstep.fl hf) e2
   obtain ⟨t1,t2,g1,g2,g3,eo,o1,o2,o3⟩:=swapG hC (hk p (by simp)) (hk o (by simp)) (hm p (by simp)) (l:=p::(pre++o::post)) (by simp) (by simp) ht hn e1 f1
   have hn1:NoSlot ow (p::(pre++post)) t1:=by
    rw[o3]
    refine NoSlot.app o1 o2 (GEff.free o1 o2 hn (by simp)) (hk o (by simp)) (hn.mono fun g hg=>(List.mem_cons.1 hg).elim (fun h=>by rw[h];exact List.mem_cons_self) fun h=>List.mem_cons_of_mem p (mid g h)) fun g' hg' c1 c2 he=> ?_
    rcases List.mem_cons.1 hg' with hg' | hg'
    ·subst hg';exact ha'.1 o (by simp) c2 c1 he.symm
    ·have h3:=List.pairwise_append.1 ha'.2
     rcases List.mem_append.1 hg' with hg' | hg'
     ·exact h3.2.2 g' hg' o (by simp) c2 c1 he.symm
     ·exact (List.pairwise_cons.1 h3.2.1).1 g' hg' c1 c2 he
   have hap:Apart (pre++post):=List.Pairwise.sublist (List.Sublist.append_left (List.sublist_cons_self _ _) _) ha'.2
   have hn2:NoSlot ow (pre++post) t2:=by
    obtain ⟨ep2,r1,r2,r3,_⟩:=geff hC (hk p (by simp)).chk g2
    rw[r3]
    exact NoSlot.app r1 r2 (GEff.free r1 r2 hn1 (by simp)) (hk p (by simp)) (hn1.mono fun g hg=>List.mem_cons_of_mem p hg) fun g' hg'=>ha'.1 g' (mid g' hg')
   obtain ⟨t',k1,k2⟩:=congrL hC (pre++post) (fun g hg=>hk g (List.mem_cons_of_mem p (mid g hg))) hap g3.symm f4 hn2 f2
   exact ⟨t1,t',g1,by rw[List.cons_append,regF_step1,g2];exact k1,k2.symm.trans f3,hn1⟩
end Go.Proofs.Yteagcdhkobeanaa.A
