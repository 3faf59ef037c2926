/- Code, loops, functions: what the abstract run tells, the machine does. -/
import Derived.Test.YteagcdhkobeanaaE3
import Derived.Deep.LoopGhost
import Derived.Orders
namespace Go.Proofs.Yteagcdhkobeanaa.A
open Go
variable {K:Cfg} {c:CC}
section
variable {μ:Mu} {lam:Nat→Option Nat} {E:Nat} {A:Nat→Prop} {nt:Nat} {s s':St} {a:Act} {w:World} {esc:List Nat} {q:Bool} {o:Oper} {C:CallF} {Q:Exit→Act→World→Prop}

def DstIs (d:Option Nat) (x:Option RO):Prop:= ∀ro,x=some ro→ro.dst=d
theorem DstIs.none {d:Option Nat}:DstIs d none:=fun _ h=>by cases h
theorem DstIs.some {d:Option Nat} {u:RO} (h:u.dst=d):DstIs d (some u):=fun s' e=>by injection e with e;rw[←e];exact h
theorem DstIs.map {α:Type} {d:Option Nat} {x:Option α} {f:α→RO} (h: ∀v,(f v).dst=d):DstIs d (x.map f):=fun s' e=>by
 obtain ⟨v,_,e2⟩:=Option.map_eq_some_iff.1 e
 rw[←e2];exact h v
theorem DstIs.bind {α:Type} {d:Option Nat} {x:Option α} {f:α→Option RO} (h: ∀v,DstIs d (f v)):DstIs d (x.bind f):=fun s' e=>by
 obtain ⟨v,_,e2⟩:=Option.bind_eq_some_iff.1 e
 exact h v s' e2
theorem Post.next {s1:St} {μ1:Mu} {w1:World} {a2:Act} {w2:World} (hx:ExtN s.hp.next μ μ1) (hF:Fr A w w1) (T:Step s.hp s1.hp) (P:Post K μ1 E A nt s1 s' w1 a2 w2):Post K μ E A nt s s' w a2 w2:=by
 obtain ⟨μ2,lam2,h1,h2,h3⟩:=P
 exact ⟨μ2,lam2,h1,hx.trans h2 T.next,hF.trans h3⟩

theorem compOp_dst {ro:RO} {dst:Option Nat} {op:Op} (h:compOp c esc q dst op=some ro):ro.dst=dst:=by
 refine (?_:DstIs dst (compOp c esc q dst op)) ro h
 unfold compOp compCall
 repeat' first
  | exact DstIs.none
  | exact DstIs.some rfl
  | exact DstIs.map fun _=>rfl
  | refine DstIs.bind fun _=> ?_
  | split
theorem wp_op_mono {next next':Act→World→Prop} (h:o.wp K.P a w next Q) (hn: ∀a w,next a w→next' a w):o.wp K.P a w next' Q:=Oper.wp_mono hn h
/-- The operations of a region whose order is fixed. -/
theorem list_sound (hc:CCok K c) (hC:CallSound K C) (hT:StepC C) {ops:Array Oper}: ∀(l:List Oper) (g:List RG) {s s':St} {μ:Mu} {lam:Nat→Option Nat} {a:Act} {w:World},compOps c esc q nt ops l=some g→regF C g s=some s'→SE K μ lam E A nt s a w→E≤w.heap.size→
 (∀a' w',Post K μ E A nt s s' w a' w'→Q .normal a' w')→wpList K.P ops Q l a w
 | [],g,s,s',μ,lam,a,w,hg,e,S,hE,hQ=>by
   injection hg with hg;subst hg
   injection e with e;subst e
   exact hQ a w ⟨μ,lam,S,ExtN.refl _ _,Fr.refl _ _⟩
 | o::l,g,s,s',μ,lam,a,w,hg,e,S,hE,hQ=>by
   simp only[compOps] at hg
   split at hg
   ·rename_i hd
    obtain ⟨ro,h1,hg⟩:=Option.bind_eq_some_iff.1 hg
    obtain ⟨gd,h2,hg⟩:=Option.bind_eq_some_iff.1 hg
    obtain ⟨g',h3,hg⟩:=Option.bind_eq_some_iff.1 hg
    injection hg with hg;subst hg
    have hdst:ro.dst=o.dst:=compOp_dst h1
    have go: ∀{s1:St},opF C s ro=some s1→regF C g' s1=some s'→o.wp K.P a w (wpList K.P ops Q l) Q:=by
     intro s1 e1 e2
     refine wp_op_mono (op_sound hc hC h1 hd S hE e1) fun a1 w1 P1=> ?_
     obtain ⟨μ1,lam1,S1,hx,hF⟩:=P1
     have T:=opF_step hT e1 S.fl.2
     exact list_sound hc hC hT l g' h3 e2 S1 (Nat.le_trans hE hF.size) fun a2 w2 P2=>hQ a2 w2 (Post.next hx hF T P2)
    unfold wpList
    unfold regF at e
    cases hgo:o.guard with
    | none=>
      rw[hgo] at h2;injection h2 with h2;subst h2
      obtain ⟨s1,e1,e2⟩:=Option.bind_eq_some_iff.1 e
      rw[if_pos (by simp[Region.wanted,hgo])]
      exact .inl (go e1 e2)
    | some p=>
      obtain ⟨j,want⟩:=p
      rw[hgo] at h2
      simp only[compGuard,Option.map_eq_some_iff] at h2
      obtain ⟨t,h4,h5⟩:=h2
      subst h5
      simp only at e
      split at e
      ·rename_i b hb
       have hv:a.tmps.getD t undef= .bool b:=S.env _ _ hb
       have ht:a.tmps[t]? =some (.bool b):=by
        rw[Array.getD_eq_getD_getElem?] at hv
        cases hq:a.tmps[t]? with
        | none=>rw[hq] at hv;cases hv
        | some u=>rw[hq] at hv;simp at hv;rw[hv]
       have hy:yielded ops a.tmps j=some b:=by
        unfold yielded
        rw[h4]
        simp[ht]
       cases hbw:(b==want) with
       | true=>
         rw[hbw] at e
         obtain ⟨s1,e1,e2⟩:=Option.bind_eq_some_iff.1 e
         rw[if_pos (by simp[Region.wanted,hgo,hy];simpa using hbw)]
         exact .inl (go e1 e2)
       | false=>
         rw[hbw] at e
         rw[if_neg (by simp[Region.wanted,hgo,hy];simpa using hbw)]
         rw[←hdst]
         have hsk:(s.skipO ro.dst).hp=s.hp:=by cases ro.dst<;>rfl
         refine list_sound hc hC hT l g' h3 e (S.skipO ro.dst (by rw[hdst];exact hd)) hE fun a2 w2 P2=>hQ a2 w2 ?_
         obtain ⟨μ2,lam2,p1,p2,p3⟩:=P2
         rw[hsk] at p2
         exact ⟨μ2,lam2,p1,p2,p3⟩
      ·rename_i hb
       obtain ⟨arr,hv,harr⟩:=S.env _ _ hb
       have hv:a.tmps.getD t undef= .tuple arr:=hv
       have hy:yielded ops a.tmps j=none:=by
        unfold yielded
        rw[h4]
        rw[Array.getD_eq_getD_getElem?] at hv
        cases hq:a.tmps[t]? with
        | none=>simp[hq]
        | some u=>rw[hq] at hv;simp at hv;subst hv;simp[hq]
       rw[if_neg (by simp[Region.wanted,hgo,hy])]
       rw[←hdst]
       have hsk:(s.skipO ro.dst).hp=s.hp:=by cases ro.dst<;>rfl
       refine list_sound hc hC hT l g' h3 e (S.skipO ro.dst (by rw[hdst];exact hd)) hE fun a2 w2 P2=>hQ a2 w2 ?_
       obtain ⟨μ2,lam2,p1,p2,p3⟩:=P2
       rw[hsk] at p2
       exact ⟨μ2,lam2,p1,p2,p3⟩
      ·cases e
   ·cases hg

/-! ### regions whose order is drawn -/
theorem SE.eqv {s t:St} (S:SE K μ lam E A nt s a w) (h:Eqv s t):SE K μ lam E A nt t a w where
 nts:=S.nts
 dfr:=S.dfr
 env:=fun x v hx=>S.env x v (by rw[h.env];exact hx)
 adr:=fun x k o hx=>S.adr x k o (by rw[h.adr];exact hx)
 loc:=fun k cs hx=>S.loc k cs (by rw[h.loc];exact hx)
 lamE:=S.lamE
 lamInj:=S.lamInj
 lamOwn:=by rw[←h.hp];exact S.lamOwn
 hp:=by rw[←h.hp];exact S.hp
 wr:=by rw[←h.hp];exact S.wr
 fl:=by rw[←h.hp];exact S.fl
 big:=S.big
theorem Post.eqv {s s1 s2:St} {a':Act} {w':World} (P:Post K μ E A nt s s1 w a' w') (h:Eqv s1 s2):Post K μ E A nt s s2 w a' w':=by
 obtain ⟨μ2,lam2,h1,h2,h3⟩:=P
 exact ⟨μ2,lam2,h1.eqv h,h2,h3⟩
theorem skipO_hp (s:St) (d:Option Nat):(s.skipO d).hp=s.hp:=by cases d<;>rfl
theorem toLs_dst (ow:List Nat) (o:RO):(toLs ow o).dst=o.dst:=by
 cases o with
 | store a n x=>simp only[toLs];cases ow.contains a<;>rfl
 | _=>rfl
theorem toLs_op {ow:List Nat} {ro:RO} (e:opF C s (toLs ow ro)=some s'):opF C s ro=some s':=by
 cases ro with
 | store a n x=>
   simp only[toLs] at e
   cases hw:ow.contains a with
   | false=>rw[hw] at e;exact e
   | true=>
     rw[hw,cond_true] at e
     simp only[opF] at e ⊢
     obtain ⟨v,e1,e⟩:=Option.bind_eq_some_iff.1 e
     obtain ⟨new,e2,e⟩:=Option.bind_eq_some_iff.1 e
     rw[e1,Option.bind_some,e2,Option.bind_some]
     split at e
     ·rename_i hl
      rw[if_pos hl]
      split at e
      ·rename_i k off hk
       first | exact e | (rw[hk];exact e)
      ·cases e
     ·cases e
 | _=>exact e
theorem toLl_dst (o:RO):(toLl o).dst=o.dst:=by
 cases o with
 | load d a n g=>rfl
 | _=>rfl
theorem toLl_op {ro:RO} (e:opF C s (toLl ro)=some s'):opF C s ro=some s':=by
 cases ro with
 | load d a n g=>
   simp only[toLl,opF] at e ⊢
   split at e
   ·rename_i k off hk
    first | exact e | (rw[hk];exact e)
   ·cases e
 | _=>exact e
/-- One operation tells no more than another. -/
def Ref (x y:RO):Prop:=x.dst=y.dst∧ ∀(C:CallF) (s s':St),opF C s x=some s'→opF C s y=some s'
theorem ref_of (ow:List Nat) (b:Bool) (o:RO):Ref (toLs ow (bif b then toLl o else o)) o:=by
 cases b with
 | false=>exact ⟨toLs_dst ow o,fun C s s' e=>toLs_op e⟩
 | true=>exact ⟨(toLs_dst ow _).trans (toLl_dst o),fun C s s' e=>toLl_op (toLs_op e)⟩
theorem stepG_sound (hc:CCok K c) (hC:CallSound K C) (hT:StepC C) {ops:Array Oper} {i:Nat} {g:RG} {op0:RO} {s1:St} (hi:ops[i]? =some o) (hd:inB nt o.dst=true) (h1:compOp c esc q o.dst o.op=some op0) (hls:Ref g.op op0) (h2:compGuard ops o.guard=some g.guard)
 (e:stepG C g s=some s1) (S:SE K μ lam E A nt s a w) (hE:E≤w.heap.size) {Kk:Act→World→Prop} (hK: ∀a1 w1 μ1 lam1,SE K μ1 lam1 E A nt s1 a1 w1→ExtN s.hp.next μ μ1→Fr A w w1→Step s.hp s1.hp→Kk a1 w1):wpOp K.P ops Q i Kk a w:=by
 have hdst:g.op.dst=o.dst:=hls.1.trans (compOp_dst h1)
 have go:opF C s g.op=some s1→o.wp K.P a w Kk Q:=fun e1=>by
  have e1:=hls.2 _ _ _ e1
  refine wp_op_mono (op_sound hc hC h1 hd S hE e1) fun a1 w1 P1=> ?_
  obtain ⟨μ1,lam1,S1,hx,hF⟩:=P1
  exact hK a1 w1 μ1 lam1 S1 hx hF (opF_step hT e1 S.fl.2)
 have sk:s1=s.skipO g.op.dst→Kk (a.put o.dst undef) w:=fun he=>by
  rw[←hdst]
  refine hK _ _ μ lam (by rw[he];exact S.skipO g.op.dst (by rw[hdst];exact hd)) (ExtN.refl _ _) (Fr.refl _ _) (by rw[he,skipO_hp];exact Step.refl _)
 unfold wpOp
 rw[hi]
 simp only
 unfold stepG at e
 cases hgo:o.guard with
 | none=>
   rw[hgo] at h2;injection h2 with h2
   rw[←h2] at e
   rw[if_pos (by simp[Region.wanted,hgo])]
   exact .inl (go e)
 | some p=>
   obtain ⟨j,want⟩:=p
   rw[hgo] at h2
   simp only[compGuard,Option.map_eq_some_iff] at h2
   obtain ⟨t,h4,h5⟩:=h2
   rw[←h5] at e
   simp only at e
   split at e
   ·rename_i b hb
    have hv:a.tmps.getD t undef= .bool b:=S.env _ _ hb
    have hy:yielded ops a.tmps j=some b:=by
     unfold yielded
     rw[h4]
     rw[Array.getD_eq_getD_getElem?] at hv
     cases hq:a.tmps[t]? with
     | none=>rw[hq] at hv;cases hv
     | some u=>rw[hq] at hv;simp at hv;subst hv;simp[hq]
    cases hbw:(b==want) with
    | true=>
      rw[hbw] at e
      rw[if_pos (by simp[Region.wanted,hgo,hy];simpa using hbw)]
      exact .inl (go e)
    | false=>
      rw[hbw] at e
      injection e with e
      rw[if_neg (by simp[Region.wanted,hgo,hy];simpa using hbw)]
      exact sk e.symm
   ·rename_i hb
    obtain ⟨arr,hv,harr⟩:=S.env _ _ hb
    have hv:a.tmps.getD t undef= .tuple arr:=hv
    have hy:yielded ops a.tmps j=none:=by
     unfold yielded
     rw[h4]
     rw[Array.getD_eq_getD_getElem?] at hv
     cases hq:a.tmps[t]? with
     | none=>simp[hq]
     | some u=>rw[hq] at hv;simp at hv;subst hv;simp[hq]
    injection e with e
    rw[if_neg (by simp[Region.wanted,hgo,hy])]
    exact sk e.symm
   ·cases e
theorem pairB_pw {α:Type} {R:α→α→Bool}: ∀{l:List α},pairB R l=true→l.Pairwise fun x y=>R x y=true
 | [],_=> .nil
 | x::r,h=>by
   simp only[pairB,Bool.and_eq_true,List.all_eq_true] at h
   exact .cons h.1 (pairB_pw h.2)
/-- What is to be done next stands ready, while anything is left. -/
theorem progress {md:Region.Mode} {ops:Array Oper} {listed:Array Bool} (hsz:listed.size=ops.size) (hr:Region.ready md ops listed=[]): ∀(L seen:List Nat),(∀j,j∈seen→listed.getD j false=true)→topoB md ops seen L=true→ ∀i,i∈L→listed.getD i false=true
 | [],_,_,_,_,hi=>by cases hi
 | x::r,seen,hs,ht,i,hi=>by
   simp only[topoB,Bool.and_eq_true] at ht
   have hx:listed.getD x false=true:=by
    cases hop:ops[x]? with
    | none=>rw[hop] at ht;cases ht.1
    | some o=>
      rw[hop] at ht
      have hlt:x<ops.size:=(Array.getElem?_eq_some_iff.1 hop).1
      cases hl:listed.getD x false with
      | true=>rfl
      | false=>
        have hl':listed.getD x true=false:=by
         rw[Array.getD_eq_getD_getElem?] at hl ⊢
         have:x<listed.size:=by omega
         rw[Array.getElem?_eq_getElem this] at hl ⊢
         exact hl
        have hmem:x∈Region.ready md ops listed:=by
         unfold Region.ready
         rw[List.mem_filter]
         refine ⟨List.mem_range.2 hlt,?_⟩
         rw[hl',hop]
         have h1:=ht.1
         simp only[Array.all_eq_true'] at h1
         simp only[Bool.not_false,Bool.true_and,Option.map_some,Option.getD_some,Array.all_eq_true']
         intro e he
         have h2:=h1 e he
         rw[Bool.or_eq_true] at h2 ⊢
         rcases h2 with h2 | h2
         ·exact .inl h2
         ·exact .inr (hs e.on (by simpa using h2))
        rw[hr] at hmem;cases hmem
   rcases List.mem_cons.1 hi with hi | hi
   ·subst hi;exact hx
   ·exact progress hsz hr r (x::seen) (fun j hj=>(List.mem_cons.1 hj).elim (fun h=>by rw[h];exact hx) (hs j)) ht.2 i hi
theorem ownK_of {a k:Nat}: ∀{ad:List (Nat×Nat×Nat)},ownK a k ad=true→ ∀y,y∈ad→y.2.1=k→y.1=a
 | [],_,y,hy,_=>by cases hy
 | (x,j,o)::r,h,y,hy,hk=>by
   simp only[ownK] at h
   cases hj:(j==k) with
   | true=>
     rw[hj,cond_true] at h
     cases hx:(x==a) with
     | true=>
       rw[hx,cond_true] at h
       rcases List.mem_cons.1 hy with hy | hy
       ·subst hy;simpa using hx
       ·exact ownK_of h y hy hk
     | false=>rw[hx] at h;cases h
   | false=>
     rw[hj,cond_false] at h
     rcases List.mem_cons.1 hy with hy | hy
     ·subst hy;simp at hj;exact absurd hk hj
     ·exact ownK_of h y hy hk
theorem ownS_of {s:St}: ∀{ow:List Nat},ownS s.adr ow=true→ ∀a,a∈ow→Lone a s
 | [],_,a,ha=>by cases ha
 | b::r,h,a,ha=>by
   simp only[ownS] at h
   cases hp:ownP s.adr b (lk s.adr b) with
   | false=>rw[hp] at h;cases h
   | true=>
     rw[hp,cond_true] at h
     rcases List.mem_cons.1 ha with ha | ha
     ·subst ha
      intro k o hl
      rw[hl] at hp
      exact ownK_of hp
     ·exact ownS_of h a ha
theorem keeps_of {ow:List Nat} {g:RG} (h:keepsB ow g=true) (hk:isChk g.op=false):Plain ow g:=by
 simp only[keepsB,List.all_eq_true,Bool.and_eq_true,Bool.or_eq_true,Bool.not_eq_true',beq_eq_false_iff_ne,ne_eq,beq_iff_eq,List.contains_eq_mem,decide_eq_false_iff_not] at h
 exact ⟨hk,fun a ha hd=>(h a ha).1.elim (fun hn=>absurd hd hn) id,fun a ha hu=>(h a ha).2.elim (fun hc=>absurd hu hc) id⟩
theorem noSlot_of {l:List (Nat×RG)} {s:St} {ow:List Nat} (h:noSlot (slotsOf l) s.adr=true) (ho: ∀a,a∈ow→Lone a s):NoSlot ow (l.map (·.2)) s:=by
 have hmem: ∀{x:Nat} {l:List Nat},memN x l=false→x∉l:=by
  intro x l
  induction l with
  | nil=>intro _ h;cases h
  | cons y r ih=>
    intro h hm
    simp only[memN] at h
    cases hxy:(x==y) with
    | true=>rw[hxy] at h;cases h
    | false=>
      rw[hxy] at h
      rcases List.mem_cons.1 hm with hm | hm
      ·simp[hm] at hxy
      ·exact ih h hm
 have hslot: ∀{l:List (Nat×RG)} {g:RG} {d:Nat},g∈l.map (·.2)→g.op.cls=1→g.op.dst=some d→d∈slotsOf l:=by
  intro l
  induction l with
  | nil=>intro g d h;cases h
  | cons x r ih=>
    intro g d hg hc hd
    rw[List.map_cons] at hg
    simp only[slotsOf]
    rcases List.mem_cons.1 hg with hg | hg
    ·subst hg;rw[if_pos hc,hd];simp
    ·have:=ih hg hc hd
     split
     ·split
      ·exact List.mem_cons_of_mem _ this
      ·exact this
     ·exact this
 have hadr: ∀{L:List Nat} {ad:List (Nat×Nat×Nat)},noSlot L ad=true→ ∀y,y∈ad→y.2.1∉L:=by
  intro L ad
  induction ad with
  | nil=>intro _ y hy;cases hy
  | cons z r ih=>
    intro h y hy
    obtain ⟨z1,z2,z3⟩:=z
    simp only[noSlot] at h
    cases hm:memN z2 L with
    | true=>rw[hm] at h;cases h
    | false=>
      rw[hm] at h
      rcases List.mem_cons.1 hy with hy | hy
      ·subst hy;exact hmem hm
      ·exact ih h y hy
 exact ⟨fun y hy g hg hc hd=>hadr h y hy (hslot hg hc hd),ho⟩
/-- An operation of the text and its compact form. -/
def Pair (c:CC) (esc:List Nat) (nt:Nat) (ops:Array Oper) (x:Nat×RG):Prop:= ∃o op0 q,ops[x.1]? =some o∧inB nt o.dst=true∧compOp c esc q o.dst o.op=some op0∧Ref x.2.op op0∧compGuard ops o.guard=some x.2.guard
theorem compDraw_pairs {esc ow nq:List Nat} {nt:Nat} {ops:Array Oper}: ∀{od:List Nat} {l:List (Nat×RG)},compDraw c esc ow nq nt ops od=some l→l.map (·.1)=od∧ ∀x,x∈l→Pair c esc nt ops x
 | [],l,h=>by injection h with h;subst h;exact ⟨rfl,fun _ hx=>(nomatch hx)⟩
 | i::r,l,h=>by
   simp only[compDraw] at h
   obtain ⟨o,h1,h⟩:=Option.bind_eq_some_iff.1 h
   split at h
   ·rename_i hd
    obtain ⟨op,h2,h⟩:=Option.bind_eq_some_iff.1 h
    obtain ⟨g,h3,h⟩:=Option.bind_eq_some_iff.1 h
    obtain ⟨l',h4,h⟩:=Option.bind_eq_some_iff.1 h
    injection h with h;subst h
    obtain ⟨q1,q2⟩:=compDraw_pairs h4
    refine ⟨by rw[List.map_cons,q1],fun x hx=> ?_⟩
    rcases List.mem_cons.1 hx with hx | hx
    ·subst hx;exact ⟨o,op,_,h1,hd,h2,ref_of _ _ _,h3⟩
    ·exact q2 x hx
   ·cases h
theorem draw_sound (hc:CCok K c) (hC:CallSound K C) (hT:StepC C) {ops:Array Oper} {md:Region.Mode} {L:List Nat} (hL:topoA md ops L=true) {anc:List (Nat×List Nat)} (hanc: ∀i,i<ops.size→ancOk ops anc i=true) {ow:List Nat}:
 ∀(fuel:Nat) (l:List (Nat×RG)) (listed:Array Bool) {s s':St} {μ:Mu} {lam:Nat→Option Nat} {a:Act} {w:World},listed.size=ops.size→(∀i,i<ops.size→(listed.getD i false=false↔i∈l.map (·.1)))→(l.map (·.1)).Pairwise (fun i j=>(!(i==j))=true)→
  (∀x,x∈l→Pair c esc nt ops x)→l.Pairwise (fun x y=>((ancOf anc y.1).contains x.1||mayFirst ow x.2 y.2)=true)→Apart (l.map (·.2))→(∀x,x∈l→Plain ow x.2)→
  (∀i,i<ops.size→i∉l.map (·.1)→ ∀j,j∈ancOf anc i→j∉l.map (·.1))→NoSlot ow (l.map (·.2)) s→regF C (l.map (·.2)) s=some s'→SE K μ lam E A nt s a w→E≤w.heap.size→l.length≤fuel→
  (∀a' w',Post K μ E A nt s s' w a' w'→Q .normal a' w')→wpAny K.P md ops Q fuel listed a w:=by
 intro fuel
 simp only[topoA,Bool.and_eq_true,List.all_eq_true] at hL
 have fin: ∀(l:List (Nat×RG)) (listed:Array Bool),listed.size=ops.size→(∀i,i<ops.size→(listed.getD i false=false↔i∈l.map (·.1)))→(∀x,x∈l→Pair c esc nt ops x)→Region.ready md ops listed=[]→l=[]:=by
  intro l listed hsz hls hp hr
  cases l with
  | nil=>rfl
  | cons x r=>
    obtain ⟨o,_,_,ho,_⟩:=hp x (by simp)
    have hlt:x.1<ops.size:=(Array.getElem?_eq_some_iff.1 ho).1
    have h1:=progress hsz hr L [] (fun _ h=>(nomatch h)) hL.2 x.1 (by simpa using hL.1 x.1 (List.mem_range.2 hlt))
    have h2:=(hls x.1 hlt).2 (by simp)
    rw[h1] at h2;cases h2
 have done_: ∀{s s':St} {μ:Mu} {lam:Nat→Option Nat} {a:Act} {w:World},regF C [] s=some s'→SE K μ lam E A nt s a w→(∀a' w',Post K μ E A nt s s' w a' w'→Q .normal a' w')→Q .normal a w:=by
  intro s s' μ lam a w e S hQ
  injection e with e;subst e
  exact hQ a w ⟨μ,lam,S,ExtN.refl _ _,Fr.refl _ _⟩
 induction fuel with
 | zero=>
   intro l listed s s' μ lam a w hsz hls hnd hp hpw hap hk hdn hns e S hE hlen hQ
   have hl:l=[]:=List.eq_nil_of_length_eq_zero (by omega)
   subst hl
   refine ⟨?_,done_ e S hQ⟩
   unfold Region.ready
   rw[List.filter_eq_nil_iff]
   intro i hi
   have hi':=List.mem_range.1 hi
   have:listed.getD i false≠false:=fun h=>by simpa using (hls i hi').1 h
   have:listed.getD i true=true:=by
    rw[Array.getD_eq_getD_getElem?] at this ⊢
    have hlt:i<listed.size:=by omega
    rw[Array.getElem?_eq_getElem hlt] at this ⊢
    simpa using this
   simp[this]
 | succ fuel ih=>
   intro l listed s s' μ lam a w hsz hls hnd hp hpw hap hk hdn hns e S hE hlen hQ
   refine ⟨fun hr=> ?_,fun i hi=> ?_⟩
   ·have hl:=fin l listed hsz hls hp hr
    subst hl
    exact done_ e S hQ
   ·unfold Region.ready at hi
    rw[List.mem_filter] at hi
    obtain ⟨hi1,hi2⟩:=hi
    have hilt:=List.mem_range.1 hi1
    simp only[Bool.and_eq_true,Bool.not_eq_true'] at hi2
    have hunl:listed.getD i false=false:=by
     have:=hi2.1
     rw[Array.getD_eq_getD_getElem?] at this ⊢
     have hlt:i<listed.size:=by omega
     rw[Array.getElem?_eq_getElem hlt] at this ⊢
     exact this
    have him:=(hls i hilt).1 hunl
    obtain ⟨x,hx,hxi⟩:=List.mem_map.1 him
    obtain ⟨pre,post,hl⟩:=List.append_of_mem hx
    obtain ⟨o,op0,q0,ho,hd,hco,hlso,hcg⟩:=hp x hx
    subst hxi
    have hdir: ∀j,j∈directs ops x.1→listed.getD j false=true:=by
     intro j hj
     have h2:=hi2.2
     rw[ho] at h2
     simp only[Option.map_some,Option.getD_some,Array.all_eq_true'] at h2
     unfold directs at hj
     rw[ho] at hj
     simp only[List.mem_map,List.mem_filter] at hj
     obtain ⟨ed,⟨q1,q2⟩,q3⟩:=hj
     have h3:=h2 ed (by simpa using q1)
     rw[Bool.or_eq_true] at h3
     rcases h3 with h3 | h3
     ·exfalso
      unfold Region.binds at q2 h3
      split at h3<;>simp_all
     ·rw[←q3];exact h3
    have hout: ∀j,listed.getD j false=true→j∉l.map (·.1):=by
     intro j hj hm
     obtain ⟨y,hy,hyj⟩:=List.mem_map.1 hm
     obtain ⟨o',_,_,ho',_⟩:=hp y hy
     have:j<ops.size:=by rw[←hyj];exact (Array.getElem?_eq_some_iff.1 ho').1
     rw[(hls j this).2 hm] at hj;cases hj
    have hjlt: ∀j,listed.getD j false=true→j<ops.size:=by
     intro j hj
     rw[Array.getD_eq_getD_getElem?] at hj
     have:j<listed.size:=Nat.lt_of_not_le fun hle=>by rw[Array.getElem?_eq_none hle] at hj;cases hj
     omega
    have hance: ∀j,j∈ancOf anc x.1→j∉l.map (·.1):=by
     intro j hj
     have h2:=hanc x.1 hilt
     simp only[ancOk,List.all_eq_true] at h2
     have h3:=h2 j hj
     rw[Bool.or_eq_true] at h3
     rcases h3 with h3 | h3
     ·exact hout j (hdir j (by simpa using h3))
     ·rw[List.any_eq_true] at h3
      obtain ⟨d,q1,q2⟩:=h3
      have q3:=hdir d q1
      exact hdn d (hjlt d q3) (hout d q3) j (by simpa using q2)
    rw[hl] at e hap hns hpw hnd
    simp only[List.map_append,List.map_cons] at e hap hns hnd
    have hpre: ∀p,p∈pre.map (·.2)→mayFirst ow p x.2=true:=by
     intro p hpm
     obtain ⟨y,hy,hyp⟩:=List.mem_map.1 hpm
     have h1:=(List.pairwise_append.1 hpw).2.2 y hy x (by simp)
     rw[Bool.or_eq_true] at h1
     rcases h1 with h1 | h1
     ·exact absurd (List.mem_map.2 ⟨y,by rw[hl];simp[hy],rfl⟩) (hance y.1 (by simpa using h1))
     ·rw[←hyp];exact h1
    have hkk: ∀g,g∈pre.map (·.2)++x.2::post.map (·.2)→Plain ow g:=by
     intro g hg
     have:g∈l.map (·.2):=by rw[hl];simpa using hg
     obtain ⟨y,hy,hyg⟩:=List.mem_map.1 this
     rw[←hyg];exact hk y hy
    obtain ⟨s1,s'',e1,e2,hEq,hns1⟩:=ahead hT (pre.map (·.2)) hkk hpre hap hns S.hp.top S.fl.2 e
    have hsub: ∀y,y∈pre++post→y∈l:=fun y hy=>by
     rw[hl];exact (List.mem_append.1 hy).elim (fun h=>List.mem_append_left _ h) fun h=>List.mem_append_right _ (List.mem_cons_of_mem x h)
    have hsl:(pre++post).Sublist (pre++x::post):=List.Sublist.append_left (List.sublist_cons_self _ _) _
    have hxn:x.1∉(pre++post).map (·.1):=by
     intro hm
     have h3:=List.pairwise_append.1 hnd
     rw[List.map_append] at hm
     rcases List.mem_append.1 hm with hm | hm
     ·have:=h3.2.2 x.1 hm x.1 (by simp)
      simp at this
     ·have:=(List.pairwise_cons.1 h3.2.1).1 x.1 hm
      simp at this
    refine stepG_sound hc hC hT ho hd hco hlso hcg e1 S hE fun a1 w1 μ1 lam1 S1 hx1 hF1 T1=> ?_
    refine ih (pre++post) (listed.setIfInBounds x.1 true) (s':=s'') (by simpa using hsz) ?_ ?_ (fun y hy=>hp y (hsub y hy)) (List.Pairwise.sublist hsl hpw) ?_ (fun y hy=>hk y (hsub y hy)) ?_ (by rw[List.map_append];exact hns1) (by rw[List.map_append];exact e2) S1
     (Nat.le_trans hE hF1.size) (by rw[hl] at hlen;simp at hlen ⊢;omega) fun a2 w2 P2=>hQ a2 w2 (Post.next hx1 hF1 T1 (P2.eqv hEq))
    ·intro j hj
     by_cases hjx:j=x.1
     ·subst hjx
      rw[Array.getD_eq_getD_getElem?,Array.getElem?_setIfInBounds_self_of_lt (by omega)]
      exact ⟨fun h=>(by cases h),fun h=>absurd h hxn⟩
     ·rw[Array.getD_eq_getD_getElem?,Array.getElem?_setIfInBounds_ne (Ne.symm hjx),←Array.getD_eq_getD_getElem?,hls j hj,hl]
      simp only[List.map_append,List.map_cons,List.mem_append,List.mem_cons]
      exact ⟨fun h=>h.elim .inl fun h=>h.elim (fun h=>absurd h hjx) .inr,fun h=>h.elim .inl fun h=> .inr (.inr h)⟩
    ·rw[List.map_append]
     exact List.Pairwise.sublist (List.Sublist.append_left (List.sublist_cons_self _ _) _) hnd
    ·rw[List.map_append]
     exact List.Pairwise.sublist (List.Sublist.append_left (List.sublist_cons_self _ _) _) hap
    ·intro j hj hjn k hkm
     by_cases hjx:j=x.1
     ·subst hjx
      have:=hance k hkm
      intro hk'
      obtain ⟨y,hy,hyk⟩:=List.mem_map.1 hk'
      exact this (List.mem_map.2 ⟨y,hsub y hy,hyk⟩)
     ·have hjl:j∉l.map (·.1):=by
       rw[hl]
       simp only[List.map_append,List.map_cons,List.mem_append,List.mem_cons] at hjn ⊢
       exact fun h=>hjn (h.elim .inl fun h=>h.elim (fun h=>absurd h hjx) .inr)
      have:=hdn j hj hjl k hkm
      intro hk'
      obtain ⟨y,hy,hyk⟩:=List.mem_map.1 hk'
      exact this (List.mem_map.2 ⟨y,hsub y hy,hyk⟩)

theorem regF_app (C:CallF): ∀(l r:List RG) (s:St),regF C (l++r) s=(regF C l s).bind (regF C r)
 | [],r,s=>rfl
 | g::l,r,s=>by
   rw[List.cons_append,regF_step1,regF_step1]
   cases stepG C g s with
   | none=>rfl
   | some t=>exact regF_app C l r t
/-- A variable of one's own goes into the heap: nothing is done. -/
theorem esc_sound {d:Nat} (S:SE K μ lam E A nt s a w) (e:opF C s (.esc d)=some s'):Post K μ E A nt s s' w a w:=by
 simp only[opF] at e
 split at e
 ·rename_i k hk
  cases hb:ownK d k s.adr with
  | false=>rw[hb] at e;cases e
  | true=>
    rw[hb,cond_true] at e
    obtain ⟨cs,hcs,e⟩:=Option.bind_eq_some_iff.1 e
    injection e with e;subst e
    obtain ⟨b,h1,h2⟩:=S.adr d k 0 hk
    obtain ⟨b',c0,e0,h3,h4,h5⟩:=S.loc k cs hcs
    obtain rfl:b=b':=by rw[h1] at h3;injection h3
    have hl:=h5.length
    have S0:SE K μ (fun x=>if x=k then none else lam x) E A nt {s with adr:=drop s.adr d,loc:=drop s.loc k} a w:=by
     refine ⟨S.nts,S.dfr,S.env,fun t k' o hx=> ?_,fun k' cs' hx=> ?_,fun k' b' hx=> ?_,fun k1 k2 b' hx hy=> ?_,fun k' b' id l rows hx=> ?_,S.hp,S.wr,S.fl,S.big⟩
     ·replace hx:lk (drop s.adr d) t=some (k',o):=hx
      rw[lk_dropI] at hx
      split at hx
      ·cases hx
      ·rename_i hne
       obtain ⟨b',q1,q2⟩:=S.adr t k' o hx
       refine ⟨b',?_,q2⟩
       show (if k'=k then none else lam k')=some b'
       rw[if_neg]
       ·exact q1
       ·intro he
        exact hne (ownK_of hb _ (lk_memI _ _ _ hx) he)
     ·replace hx:lk (drop s.loc k) k'=some cs':=hx
      rw[lk_dropI] at hx
      split at hx
      ·cases hx
      ·rename_i hne
       obtain ⟨b',c',e',q1,q2⟩:=S.loc k' cs' hx
       exact ⟨b',c',e',by show (if k'=k then none else lam k')=some b';rw[if_neg hne];exact q1,q2⟩
     ·try simp only at hx
      split at hx
      ·cases hx
      ·exact S.lamE k' b' hx
     ·try simp only at hx hy
      split at hx
      ·cases hx
      ·split at hy
       ·cases hy
       ·exact S.lamInj k1 k2 b' hx hy
     ·try simp only at hx
      split at hx
      ·cases hx
      ·exact S.lamOwn k' b' id l rows hx
    have S1:=S0.pushK (k:=s.hp.next) (g:=b) (w':=w) (c:=c0) (e:=e0) (tag:=0) (sz:=c0.size) (rows:=[cs]) (fun h=>absurd rfl h) h4
     (fun id l rows _ hm hg hor=>⟨S.lamOwn k b id l rows h1 hm hg hor,rfl⟩) (Nat.le_refl _) (S.big b (S.lamE k b h1).1)
     (fun k' b' hx=>by
      try simp only at hx
      split at hx
      ·cases hx
      ·rename_i hne
       exact ⟨fun he=>hne (S.lamInj k' k b' hx (he▸h1)),rfl⟩)
     (fun i r hi=>by
      cases i with
      | zero=>
        simp only[List.getElem?_cons_zero,Option.some.injEq] at hi
        subst hi
        refine ⟨by simpa using hl,fun j x hj=> ?_⟩
        obtain ⟨v,q1,q2⟩:=h5.get j x hj
        exact ⟨v,by simpa using q1,q2⟩
      | succ i=>simp at hi)
     (by simp)
    have hkl:({s with adr:=drop s.adr d,loc:=drop s.loc k}:St).hp=s.hp:=rfl
    rw[hkl,Heap.push_kill_next] at S1
    refine ⟨_,_,⟨S1.nts,S1.dfr,fun t v ht=> ?_,S1.adr,S1.loc,S1.lamE,S1.lamInj,S1.lamOwn,S1.hp,S1.wr,S1.fl,S1.big⟩,Mu.push_new' (h:=Mu.push_ext S.hp _),Fr.refl _ _⟩
    replace ht:lk ((d,V.c (.ptr s.hp.next 0 0))::s.env) t=some v:=ht
    rw[lk_cons] at ht
    split at ht
    ·rename_i he
     injection ht with ht;subst ht;subst he
     exact ⟨_,Mu.push_new _ _ _,by rw[h2];simp⟩
    ·exact S1.env t v ht
 ·cases e
theorem escs_sound (hT:StepC C): ∀(L:List Nat) {s s':St} {μ:Mu} {lam:Nat→Option Nat},SE K μ lam E A nt s a w→regF C (escG L) s=some s'→Post K μ E A nt s s' w a w
 | [],s,s',μ,lam,S,e=>by
   injection e with e;subst e
   exact ⟨μ,lam,S,ExtN.refl _ _,Fr.refl _ _⟩
 | d::r,s,s',μ,lam,S,e=>by
   have e':regF C (⟨none,.esc d⟩::escG r) s=some s':=e
   rw[regF_one] at e'
   obtain ⟨s1,e1,e2⟩:=Option.bind_eq_some_iff.1 e'
   obtain ⟨μ1,lam1,S1,hx,hF⟩:=esc_sound S e1
   exact Post.next hx hF (opF_step hT e1 S.fl.2) (escs_sound hT r S1 e2)

/-! ### code -/
def exOf:Ex→Exit
 | .normal=> .normal
 | .exit i=> .exit i
 | .ret=> .ret
/-- What a piece of code leaves. -/
def Out (K:Cfg) (μ:Mu) (E:Nat) (A:Nat→Prop) (nt:Nat) (s:St) (w:World) (r:Ex×St) (x:Exit) (a':Act) (w':World):Prop:=x=exOf r.1∧Post K μ E A nt s r.2 w a' w'
def LoopSound (K:Cfg) (c:CC) (L:LoopF):Prop:= ∀(esc:List Nat) (nt:Nat) (b:Code) (an:List (List Nat)) (rb:RC) (an':List (List Nat)),compC c esc nt b an=some (rb,an')→
 ∀(live:List Nat) (s:St) (r:Ex×St),L live rb s=some r→ ∀(μ:Mu) (lam:Nat→Option Nat) (E:Nat) (A:Nat→Prop) (a:Act) (w:World),SE K μ lam E A nt s a w→E≤w.heap.size→
 (Code.loop b).wp K.P (Out K μ E A nt s w r) a w

theorem code_sound (hc:CCok K c) (hC:CallSound K C) {L:LoopF} (hL:LoopSound K c L) (hTC:StepC C) (hTL:StepL L): ∀(b:Code) (an:List (List Nat)) (rb:RC) (an':List (List Nat)),compC c esc nt b an=some (rb,an')→
 ∀(s:St) (r:Ex×St),codeF C L rb s=some r→ ∀(μ:Mu) (lam:Nat→Option Nat) (a:Act) (w:World),SE K μ lam E A nt s a w→E≤w.heap.size→b.wp K.P (Out K μ E A nt s w r) a w
 | .skip,an,rb,an',h,s,r,e,μ,lam,a,w,S,hE=>by
   injection h with h;injection h with h1 h2;subst h1
   injection e with e;subst e
   exact wp_skip ⟨rfl,μ,lam,S,ExtN.refl _ _,Fr.refl _ _⟩
 | .exit id,an,rb,an',h,s,r,e,μ,lam,a,w,S,hE=>by
   injection h with h;injection h with h1 h2;subst h1
   injection e with e;subst e
   exact wp_exit ⟨rfl,μ,lam,S,ExtN.refl _ _,Fr.refl _ _⟩
 | .ret,an,rb,an',h,s,r,e,μ,lam,a,w,S,hE=>by
   injection h with h;injection h with h1 h2;subst h1
   injection e with e;subst e
   exact wp_ret ⟨rfl,μ,lam,S,ExtN.refl _ _,Fr.refl _ _⟩
 | .region id ops false,an,rb,an',h,s,r,e,μ,lam,a,w,S,hE=>by
   simp only[compC] at h
   obtain ⟨l,h1,h2⟩:=Option.bind_eq_some_iff.1 h
   injection h2 with h2;injection h2 with h2 _;subst h2
   obtain ⟨s1,e1,e2⟩:=Option.bind_eq_some_iff.1 e
   injection e2 with e2;subst e2
   exact wp_region_list (list_sound hc hC hTC ops.toList l h1 e1 S hE fun a' w' P=>⟨rfl,P⟩)
 | .region id ops true,an,rb,an',h,s,r,e,μ,lam,a,w,S,hE=>by
   simp only[compC] at h
   split at h
   ·rename_i od og ow nq rest
    obtain ⟨l,h1,h⟩:=Option.bind_eq_some_iff.1 h
    split at h
    ·rename_i hok
     injection h with h;injection h with h _;subst h
     obtain ⟨s1,e1,e2⟩:=Option.bind_eq_some_iff.1 e
     injection e2 with e2;subst e2
     rw[regF_one] at e1
     obtain ⟨s0,e0,e1⟩:=Option.bind_eq_some_iff.1 e1
     simp only[opF] at e0
     simp only[drawOk,Bool.and_eq_true,List.all_eq_true] at hok
     obtain ⟨⟨⟨⟨⟨⟨⟨⟨⟨k1,k2⟩,k3⟩,k4⟩,k5⟩,k6⟩,k7⟩,k8⟩,k9⟩,k0⟩:=hok
     cases hns:noSlot (slotsOf l) s.adr with
     | false=>rw[hns] at e0;cases e0
     | true=>
       rw[hns] at e0;injection e0 with e0;subst e0
       have hlone: ∀(ow:List Nat) (R:List RG),regF C (ownG ow++R) s=some s1→(∀a,a∈ow→Lone a s)∧regF C R s=some s1:=by
        intro ow R e1
        cases ow with
        | nil=>exact ⟨fun a ha=>(nomatch ha),e1⟩
        | cons b r=>
          have e1':regF C (⟨none,.own (b::r)⟩::R) s=some s1:=e1
          rw[regF_one] at e1'
          obtain ⟨s2,e2,e3⟩:=Option.bind_eq_some_iff.1 e1'
          simp only[opF] at e2
          cases hos:ownS s.adr (b::r) with
          | false=>rw[hos] at e2;cases e2
          | true=>
            rw[hos] at e2;injection e2 with e2;subst e2
            exact ⟨ownS_of hos,e3⟩
       obtain ⟨hlone,e1⟩:=hlone _ _ e1
       rw[regF_app] at e1
       obtain ⟨sm,e1,eE⟩:=Option.bind_eq_some_iff.1 e1
       have T:=regF_step hTC _ e1 S.fl.2
       obtain ⟨q1,q2⟩:=compDraw_pairs h1
       have hall: ∀i,i<ops.size→i∈od:=fun i hi=>by
        simp only[topoA,Bool.and_eq_true,List.all_eq_true] at k2
        simpa using k2.1 i (List.mem_range.2 hi)
       have main: ∀(md:Region.Mode) (L:List Nat),topoA md ops L=true→ ∀t,wpOps K.P ops (Out K μ E A nt s w (.normal,s1)) (Region.linearise md ops t) a {w with drawn:=w.drawn+1}:=by
        intro md L hLt t
        refine wpAny_sound ops.size t _ a _ (draw_sound hc hC hTC hLt (fun i hi=>k6 i (hall i hi)) ops.size l (Array.replicate ops.size false) (by simp) ?_ ?_ q2 (pairB_pw k7) ?_ ?_ ?_ (noSlot_of hns hlone) e1 (S.drew _) hE ?_ ?_)
        ·intro i hi
         rw[Array.getD_eq_getD_getElem?,Array.getElem?_replicate,if_pos hi,q1]
         exact ⟨fun _=>hall i hi,fun _=>rfl⟩
        ·rw[q1];exact pairB_pw k1
        ·rw[Apart,List.pairwise_map]
         refine (pairB_pw k8).imp fun {x y} hxy c1 c2 he=> ?_
         simp[c1,c2,he] at hxy
        ·intro x hx
         have h9:=k9 x hx
         have hck:isChk x.2.op=false:=by simpa using h9.1
         exact keeps_of h9.2 hck
        ·intro i hi hn
         rw[q1] at hn
         exact absurd (hall i hi) hn
        ·have h2:l.length=od.length:=by rw[←q1];simp
         rw[h2]
         exact of_decide_eq_true k0
        ·intro a' w' P
         obtain ⟨μ1,lam1,S1,hx1,hF1⟩:=P
         obtain ⟨μ2,lam2,p1,p2,p3⟩:=Post.next hx1 hF1 T (escs_sound hTC _ S1 eE)
         exact ⟨rfl,μ2,lam2,p1,p2,(Fr.drew A w _ (Nat.le_add_right _ _)).trans p3⟩
       refine wp_region_draw fun t=> ?_
       unfold Region.schedule
       split
       ·exact main .any od k2 t
       ·split
        ·exact main .text _ k3 _
        ·exact main .gc og k4 _
    ·cases h
   ·cases h
 | .seq x y,an,rb,an',h,s,r,e,μ,lam,a,w,S,hE=>by
   simp only[compC] at h
   obtain ⟨x1,h1,h⟩:=Option.bind_eq_some_iff.1 h
   obtain ⟨y1,h2,h⟩:=Option.bind_eq_some_iff.1 h
   injection h with h;injection h with h3 h4;subst h3
   obtain ⟨r1,e1,e2⟩:=Option.bind_eq_some_iff.1 e
   have T:=codeF_step hTC hTL _ e1 S.fl.2
   refine wp_seq (wp_mono (code_sound hc hC hL hTC hTL x an x1.1 x1.2 h1 s r1 e1 μ lam a w S hE) ?_)
   rintro ex a1 w1 ⟨rfl,P1⟩
   split at e2
   ·rename_i hn
    rw[hn]
    obtain ⟨μ1,lam1,S1,hx,hF⟩:=P1
    refine wp_mono (code_sound hc hC hL hTC hTL y x1.2 y1.1 y1.2 h2 r1.2 r e2 μ1 lam1 a1 w1 S1 (Nat.le_trans hE hF.size)) ?_
    rintro ex a2 w2 ⟨rfl,P2⟩
    exact ⟨rfl,Post.next hx hF T P2⟩
   ·rename_i hn
    injection e2 with e2;subst e2
    have:Exit.then (y.wp K.P (Out K μ E A nt s w (r1.1,r1.2))) (Out K μ E A nt s w (r1.1,r1.2)) (exOf r1.1) a1 w1=Out K μ E A nt s w (r1.1,r1.2) (exOf r1.1) a1 w1:=by
     cases hq:r1.1 with
     | normal=>exact absurd hq hn
     | exit i=>rfl
     | ret=>rfl
    rw[this]
    exact ⟨rfl,P1⟩
 | .cond k x y,an,rb,an',h,s,r,e,μ,lam,a,w,S,hE=>by
   simp only[compC] at h
   obtain ⟨k1,h0,h⟩:=Option.bind_eq_some_iff.1 h
   obtain ⟨x1,h1,h⟩:=Option.bind_eq_some_iff.1 h
   obtain ⟨y1,h2,h⟩:=Option.bind_eq_some_iff.1 h
   injection h with h;injection h with h3 h4;subst h3
   simp only[codeF] at e
   split at e
   ·rename_i b hb
    have hv:a.eval k= .bool b:=evc_R hc S h0 hb
    refine wp_cond hv ?_
    cases b with
    | true=>exact code_sound hc hC hL hTC hTL x an x1.1 x1.2 h1 s r e μ lam a w S hE
    | false=>exact code_sound hc hC hL hTC hTL y x1.2 y1.1 y1.2 h2 s r e μ lam a w S hE
   ·cases e
 | .block id b,an,rb,an',h,s,r,e,μ,lam,a,w,S,hE=>by
   simp only[compC] at h
   obtain ⟨x1,h1,h⟩:=Option.bind_eq_some_iff.1 h
   injection h with h;injection h with h3 h4;subst h3
   obtain ⟨r1,e1,e2⟩:=Option.bind_eq_some_iff.1 e
   refine wp_block (wp_mono (code_sound hc hC hL hTC hTL b an x1.1 x1.2 h1 s r1 e1 μ lam a w S hE) ?_)
   rintro ex a1 w1 ⟨rfl,P1⟩
   split at e2
   ·rename_i i hn
    rw[hn]
    show (if i=id then _ else _)
    cases hi:(i==id) with
    | true=>
      rw[hi] at e2;injection e2 with e2;subst e2
      rw[if_pos (by simpa using hi)];exact ⟨rfl,P1⟩
    | false=>
      rw[hi] at e2;injection e2 with e2;subst e2
      rw[if_neg (by simpa using hi)];exact ⟨rfl,P1⟩
   ·rename_i hn
    injection e2 with e2;subst e2
    have:Exit.inBlock id (Out K μ E A nt s w (r1.1,r1.2)) (exOf r1.1) a1 w1=Out K μ E A nt s w (r1.1,r1.2) (exOf r1.1) a1 w1:=by
     cases hq:r1.1 with
     | normal=>rfl
     | exit i=>exact absurd hq (hn i)
     | ret=>rfl
    rw[this]
    exact ⟨rfl,P1⟩
 | .loop b,an,rb,an',h,s,r,e,μ,lam,a,w,S,hE=>by
   simp only[compC] at h
   split at h
   ·cases h
   ·rename_i live an1
    obtain ⟨x1,h1,h⟩:=Option.bind_eq_some_iff.1 h
    injection h with h;injection h with h3 h4;subst h3
    have:=hL esc nt b an1 x1.1 x1.2 h1 live (s.prune live) r e μ lam E A a w (S.prune live) hE
    exact this
 | .rangeFunc _ _ _ _,an,rb,an',h,s,r,e,μ,lam,a,w,S,hE=>by simp[compC] at h
 | .scope _,an,rb,an',h,s,r,e,μ,lam,a,w,S,hE=>by simp[compC] at h
 | .label _,an,rb,an',h,s,r,e,μ,lam,a,w,S,hE=>by simp[compC] at h
 | .goto _,an,rb,an',h,s,r,e,μ,lam,a,w,S,hE=>by simp[compC] at h
 | .refuse _,an,rb,an',h,s,r,e,μ,lam,a,w,S,hE=>by simp[compC] at h

/-! ### loops -/
theorem loop_sound (hc:CCok K c) {F:Nat→Option RF} {Z:CallF} (hZ:StepC Z) (n:Nat) (hC: ∀m,m<n→CallSound K (callN F Z m)) (hL: ∀m,m<n→LoopSound K c (loopN F Z m)):LoopSound K c (loopN F Z n):=by
 intro esc nt b an rb an' hb live s r e μ lam E A a w S hE
 -- at a round's head, m rounds at most are to come
 let I:Nat→Act→World→Prop:=fun m a1 w1=>m≤n∧ ∃s1 μ1 lam1,loopN F Z m live rb s1=some r∧SE K μ1 lam1 E A nt s1 a1 w1∧ExtN s.hp.next μ μ1∧Fr A w w1∧Step s.hp s1.hp
 refine wp_loop_ghost I n ⟨Nat.le_refl _,s,μ,lam,e,S,ExtN.refl _ _,Fr.refl _ _,Step.refl _⟩ ?_
 rintro m a1 w1 ⟨hm,s1,μ1,lam1,e1,S1,hx1,hF1,T1⟩
 cases m with
 | zero=>simp[loopN] at e1
 | succ m=>
   rw[loopN] at e1
   obtain ⟨r1,e2,e3⟩:=Option.bind_eq_some_iff.1 e1
   have hst:=fuel_step F Z hZ m
   have T:=codeF_step hst.1 hst.2 _ e2 S1.fl.2
   refine wp_mono (code_sound hc (hC m (by omega)) (hL m (by omega)) hst.1 hst.2 b an rb an' hb s1 r1 e2 μ1 lam1 a1 w1 S1 (Nat.le_trans hE hF1.size)) ?_
   rintro ex a2 w2 ⟨rfl,μ2,lam2,S2,hx2,hF2⟩
   split at e3
   ·rename_i hn
    rw[hn]
    exact ⟨m,by omega,by omega,r1.2.prune live,μ2,lam2,e3,S2.prune live,hx1.trans hx2 T1.next,hF1.trans hF2,T1.trans T⟩
   ·rename_i hn
    injection e3 with e3;subst e3
    have:Exit.then (fun a' w'=> ∃n',n'<m+1∧I n' a' w') (Out K μ E A nt s w (r1.1,r1.2)) (exOf r1.1) a2 w2=Out K μ E A nt s w (r1.1,r1.2) (exOf r1.1) a2 w2:=by
     cases hq:r1.1 with
     | normal=>exact absurd hq hn
     | exit i=>rfl
     | ret=>rfl
    rw[this]
    exact ⟨rfl,μ2,lam2,S2,hx1.trans hx2 T1.next,hF1.trans hF2⟩

/-! ### functions -/
theorem lk_number {vs:List V}: ∀{k t:Nat} {v:V},lk (number k vs) t=some v→k≤t∧vs[t-k]? =some v:=by
 induction vs with
 | nil=>intro k t v h;simp[number,lk] at h
 | cons u vs ih=>
   intro k t v h
   simp only[number,lk] at h
   cases hk:(k==t) with
   | true=>
     rw[hk] at h;injection h with h;subst h
     have:k=t:=by simpa using hk
     subst this;exact ⟨Nat.le_refl _,by simp⟩
   | false=>
     rw[hk] at h
     obtain ⟨h1,h2⟩:=ih h
     exact ⟨by omega,by rw[show t-k=(t-(k+1))+1 by omega];simpa using h2⟩
theorem mapM_run {α β:Type} {P:Program} {w:World} {f:α→Sem β} {R:α→β→Prop}: ∀(l:List α) (ys:List β),All2 (fun x y=>(f x).run P w= .ok y w) l ys→(l.mapM f).run P w= .ok ys w
 | [],[],_=>rfl
 | x::l,y::ys,⟨h1,h2⟩=>by simp[List.mapM_cons,h1,mapM_run (R:=R) l ys h2]
def resOp (tmps:Array Value):ResultVar→Sem Value
 | .tmp t=>pure (tmps.getD t undef)
 | .cell b t=>do loadVar t (←asAddr (tmps.getD b undef))
theorem res_sound (hc:CCok K c) (S:SE K μ lam E A nt s a w): ∀{rs:List ResultVar} {l:List RR} {vs:List V},compR c rs=some l→resF s l=some vs→
 ∃us,All2 (fun r u=>(resOp a.tmps r).run K.P w= .ok u w) rs us∧All2 (V.R1 K μ) vs us
 | [],l,vs,h,e=>by injection h with h;subst h;injection e with e;subst e;exact ⟨[],trivial,trivial⟩
 | .tmp t::rs,l,vs,h,e=>by
   simp only[compR] at h
   obtain ⟨l1,h1,h2⟩:=Option.bind_eq_some_iff.1 h
   injection h2 with h2;subst h2
   simp only[resF] at e
   split at e
   ·rename_i x hx
    obtain ⟨vs1,e1,e2⟩:=Option.bind_eq_some_iff.1 e
    injection e2 with e2;subst e2
    obtain ⟨us,q1,q2⟩:=res_sound hc S h1 e1
    exact ⟨_::us,⟨rfl,q1⟩,S.env _ _ hx,q2⟩
   ·rename_i x hx
    obtain ⟨vs1,e1,e2⟩:=Option.bind_eq_some_iff.1 e
    injection e2 with e2;subst e2
    obtain ⟨us,q1,q2⟩:=res_sound hc S h1 e1
    exact ⟨_::us,⟨rfl,q1⟩,S.env _ _ hx,q2⟩
   ·cases e
 | .cell b t::rs,l,vs,h,e=>by
   simp only[compR] at h
   obtain ⟨ti,ht,h⟩:=Option.bind_eq_some_iff.1 h
   obtain ⟨l1,h1,h2⟩:=Option.bind_eq_some_iff.1 h
   injection h2 with h2;subst h2
   simp only[resF] at e
   obtain ⟨v,e1,e2⟩:=Option.bind_eq_some_iff.1 e
   obtain ⟨vs1,e3,e4⟩:=Option.bind_eq_some_iff.1 e2
   injection e4 with e4;subst e4
   obtain ⟨us,q1,q2⟩:=res_sound hc S h1 e3
   split at e1
   ·rename_i k off hk
    obtain ⟨cs,f1,f2⟩:=Option.bind_eq_some_iff.1 e1
    obtain ⟨x,f3,f4⟩:=Option.bind_eq_some_iff.1 f2
    obtain ⟨bl,g1,g2⟩:=S.adr' hk
    obtain ⟨b',arr,el,g3,g4,g5⟩:=S.loc' f1
    rw[g1] at g3;injection g3 with g3;subst g3
    obtain ⟨g6,g7⟩:=cells_get g5 f3
    obtain ⟨u,g8,g9⟩:=run_loadAt (TI.ok_of (hc.T _ _ ht)) g4 g6 g7 f4
    refine ⟨u::us,⟨?_,q1⟩,?_,q2⟩
    ·simp only[resOp,g2,asAddr];simp[g8]
    ·cases v with
     | tup _=>unfold mkV at f4;split at f4<;>cases f4
     | _=>exact g9
   ·cases e1
end
end Go.Proofs.Yteagcdhkobeanaa.A
