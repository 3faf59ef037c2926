/- The steps of one operation keep the relation: variables, addresses, loads, stores, literals, slices. -/
import Derived.Test.YteagcdhkobeanaaA6
import Derived.Laws.MakeOwn
import Derived.Laws.Slices
namespace Go.Proofs.Yteagcdhkobeanaa.A
open Go
variable {K:Cfg} {c:CC}

theorem cut?_some {cs x:List Cell} {off n:Nat} (h:cut? cs off n=some x):off+n≤cs.length∧x=(cs.drop off).take n:=by
 unfold cut? at h
 split at h
 ·rename_i hl;injection h with h;exact ⟨hl,h.symm⟩
 ·cases h
theorem splice?_some {cs new x:List Cell} {off:Nat} (h:splice? cs off new=some x):off+new.length≤cs.length∧x=cs.take off++new++cs.drop (off+new.length):=by
 unfold splice? at h
 split at h
 ·rename_i hl;injection h with h;exact ⟨hl,h.symm⟩
 ·cases h
theorem splice_get {α:Type} (xs vs:List α) (o k:Nat) (h:o+vs.length≤xs.length):(xs.take o++vs++xs.drop (o+vs.length))[k]? =if k<o then xs[k]? else if k<o+vs.length then vs[k-o]? else xs[k]? :=by
 rw[List.append_assoc,List.getElem?_append,List.length_take,Nat.min_eq_left (by omega)]
 split
 ·rename_i hk;rw[List.getElem?_take,if_pos hk]
 ·rename_i hk
  rw[List.getElem?_append]
  split
  ·rename_i hk2;rw[if_pos (by omega)]
  ·rename_i hk2
   rw[if_neg (by omega),List.getElem?_drop]
   congr 1;omega
theorem addr_add (b o n:Nat):(⟨b,o,none⟩:Addr).add n=⟨b,o+n,none⟩:=by unfold Addr.add;split<;>simp_all

section
variable {μ:Mu} {lam:Nat→Option Nat} {E:Nat} {A:Nat→Prop} {nt:Nat} {s s':St} {a:Act} {w:World} {esc:List Nat} {q:Bool} {o:Oper} {C:CallF} {Q:Exit→Act→World→Prop}

/-- A load in a block. -/
theorem run_loadAt {t:TypeId} {ti:TI} (T:TI.Ok K t ti) {b off:Nat} {cs:Array Value} {e:TypeId} {fr:Nat×Nat} (hb:w.heap[b]? =some (.cells cs e fr)) {x:List Cell} {v:V} (hl:x.length=ti.sz)
 (hx: ∀(j:Nat) y,x[j]? =some y→ ∃u,cs[off+j]? =some u∧y.R K μ u) (hv:mkV ti.agg x=some v): ∃u,(loadVar t ⟨b,off,none⟩).run K.P w= .ok u w∧v.R K μ u:=by
 cases hag:ti.agg with
 | true=>
   rw[hag] at hv;injection hv with hv;subst hv
   have hcells: ∀(j:Nat) u,((cs.toList.drop off).take x.length)[j]? =some u→w.cell? ((⟨b,off,none⟩:Addr).add j)=some u:=by
    intro j u hu
    rw[addr_add,cell_of_row w b (off+j) cs e fr hb]
    rw[List.getElem?_take] at hu
    split at hu
    ·rw[List.getElem?_drop] at hu;simpa using hu
    ·cases hu
   have hlen:((cs.toList.drop off).take x.length).length=ti.sz:=by
    have hcs:cs.toList.length=cs.size:=Array.length_toList
    simp only[List.length_take,List.length_drop]
    rcases Nat.eq_zero_or_pos x.length with h0 | h0
    ·omega
    ·obtain ⟨u,h1,_⟩:=hx (x.length-1) x[x.length-1] (by rw[List.getElem?_eq_getElem])
     have:=(Array.getElem?_eq_some_iff.1 h1).1
     omega
   have hr:=run_loadCells_list (P:=K.P) w ⟨b,off,none⟩ _ hcells
   rw[hlen] at hr
   refine ⟨.agg ((cs.toList.drop off).take x.length).toArray,?_,_,rfl,?_⟩
   ·simp[loadVar,Sem.run_bind,T.isAgg w,hag,T.size w,hr]
   ·refine All2.of_get (by rw[List.toList_toArray,hlen,hl]) ?_
    intro j y hy
    obtain ⟨u,h1,h2⟩:=hx j y hy
    refine ⟨u,?_,h2⟩
    have:j<x.length:=(List.getElem?_eq_some_iff.1 hy).1
    rw[List.getElem?_take,if_pos this,List.getElem?_drop];simpa using h1
 | false=>
   rw[hag] at hv
   unfold mkV at hv
   split at hv
   ·rename_i q;cases q
   ·rename_i y _
    injection hv with hv;subst hv
    obtain ⟨u,h1,h2⟩:=hx 0 y rfl
    refine ⟨u,?_,h2⟩
    have hcell:w.cell? ⟨b,off,none⟩=some u:=by rw[cell_of_row w b off cs e fr hb];simpa using h1
    simp[loadVar,Sem.run_bind,T.isAgg w,hag,hcell]
   ·cases hv

theorem cells_get {x:List Cell} {off n:Nat} {cs:List Cell} {arr:Array Value} (h:All2 (Cell.R K μ) cs arr.toList) (hx:cut? cs off n=some x):x.length=n∧ ∀(j:Nat) y,x[j]? =some y→ ∃u,arr[off+j]? =some u∧y.R K μ u:=by
 obtain ⟨h1,rfl⟩:=cut?_some hx
 refine ⟨by simp;omega,fun j y hy=> ?_⟩
 rw[List.getElem?_take] at hy
 split at hy
 ·rw[List.getElem?_drop] at hy
  obtain ⟨u,h2,h3⟩:=h.get _ _ hy
  exact ⟨u,by simpa using h2,h3⟩
 ·cases hy

/-- What an address of the environment is: in a variable of one's own, or in a row. -/
theorem heap_get (S:SE K μ lam E A nt s a w) {ad id i j n:Nat} {x:List Cell} (hv:lk s.env ad=some (.c (.ptr id i j))) (hx:loadP s.hp id i j n=some x):
 ∃b off cs e fr,a.tmps.getD ad undef= .pointer (some ⟨b,off,none⟩)∧w.heap[b]? =some (.cells cs e fr)∧x.length=n∧ ∀(k:Nat) y,x[k]? =some y→ ∃u,cs[off+k]? =some u∧y.R K μ u:=by
 obtain ⟨l,h1,h2⟩:=S.env _ _ hv
 unfold loadP rowOf at hx
 obtain ⟨r,h3,h4⟩:=Option.bind_eq_some_iff.1 hx
 obtain ⟨rows,h5,h6⟩:=Option.bind_eq_some_iff.1 h3
 obtain ⟨h7,cs,e,fr,h8,h9⟩:=S.hp.cells id l rows h1 h5 i r h6
 obtain ⟨h10,rfl⟩:=cut?_some h4
 refine ⟨_,_,cs,e,fr,h2,h8,by simp;omega,fun k y hy=> ?_⟩
 rw[List.getElem?_take] at hy
 split at hy
 ·rw[List.getElem?_drop] at hy
  obtain ⟨u,h11,h12⟩:=h9 _ _ hy
  refine ⟨u,?_,h12⟩
  show cs[l.base+i*l.sz+j+k]? =some u
  rw[←h11];congr 1;omega
 ·cases hy

theorem load_sound (hc:CCok K c) (S:SE K μ lam E A nt s a w) {d:Nat} (hd:inB nt o.dst=true) (ho:o.dst=some d) {t:TypeId} {ti:TI} (ht:lk c.T t=some ti) {ad:Nat} (hop:o.op= .load t (.tmp ad))
 (e:opF C s (.load d ad ti.sz ti.agg)=some s'):o.wp K.P a w (Post K μ E A nt s s' w) Q:=by
 have T:=TI.ok_of (hc.T _ _ ht)
 have key: ∀{b off:Nat} {cs:Array Value} {el:TypeId} {fr:Nat×Nat} {x:List Cell} {v:V},a.tmps.getD ad undef= .pointer (some ⟨b,off,none⟩)→w.heap[b]? =some (.cells cs el fr)→x.length=ti.sz→
  (∀(k:Nat) y,x[k]? =some y→ ∃u,cs[off+k]? =some u∧y.R K μ u)→mkV ti.agg x=some v→s'=s.set d v→o.wp K.P a w (Post K μ E A nt s s' w) Q:=by
  intro b off cs el fr x v h1 h2 h3 h4 h5 h6
  obtain ⟨u,h7,h8⟩:=run_loadAt T h2 h3 h4 h5
  subst h6
  refine wp_val (v:=u) (w':=w) ?_ (post_set S hd ho h8)
  unfold execOp;rw[hop]
  have:a.eval (.tmp ad)= .pointer (some ⟨b,off,none⟩):=h1
  simp[this,Instr.loadAt,Instr.sureAddr,h7]
 simp only[opF] at e
 split at e
 ·rename_i k off hk
  obtain ⟨cs,e1,e2⟩:=Option.bind_eq_some_iff.1 e
  obtain ⟨x,e3,e4⟩:=Option.bind_eq_some_iff.1 e2
  obtain ⟨v,e5,e6⟩:=Option.bind_eq_some_iff.1 e4
  injection e6 with e6
  obtain ⟨b,h1,h2⟩:=S.adr' hk
  obtain ⟨b',arr,el,h3,h4,h5⟩:=S.loc' e1
  rw[h1] at h3;injection h3 with h3;subst h3
  obtain ⟨h6,h7⟩:=cells_get h5 e3
  exact key h2 h4 h6 h7 e5 e6.symm
 ·split at e
  ·rename_i id i j hv
   obtain ⟨x,e3,e4⟩:=Option.bind_eq_some_iff.1 e
   obtain ⟨v,e5,e6⟩:=Option.bind_eq_some_iff.1 e4
   injection e6 with e6
   obtain ⟨b,off,cs,el,fr,h1,h2,h3,h4⟩:=heap_get S hv e3
   exact key h1 h2 h3 h4 e5 e6.symm
  ·cases e

/-! #### variables -/
theorem run_newVar (t:TypeId) (v:Value) (w:World):(newVar t v).run K.P w= .ok ⟨w.heap.size,0,none⟩ (w.alloc (.cells v.cells t)):=rfl
theorem alloc_run (hc:CCok K c) {t:TypeId} {ti:TI} {z:List Cell} (ht:lk c.T t=some ti) (hz:ti.zero=some z) (hop:o.op= .alloc t):
 ∃v:Value,(execOp a.eval o).run K.P w= .ok (.value (.pointer (some ⟨w.heap.size,0,none⟩))) (w.alloc (.cells v.cells t))∧All2 (Cell.R K μ) z v.cells.toList∧z.length=ti.sz:=by
 have T:=TI.ok_of (hc.T _ _ ht)
 obtain ⟨i,h1,h2,h3,h4⟩:=T.info
 obtain ⟨v,h5,h6,h7⟩:=h4 z hz
 refine ⟨v,?_,valsAre_R h6,h7⟩
 unfold execOp;rw[hop]
 simp[Instr.alloc,zeroValue,typeInfo,h1,h5,run_newVar]
theorem loc_sound (hc:CCok K c) (S:SE K μ lam E A nt s a w) (hE:E≤w.heap.size) {d:Nat} (hd:inB nt o.dst=true) (ho:o.dst=some d) {t:TypeId} {ti:TI} {z:List Cell} (ht:lk c.T t=some ti) (hz:ti.zero=some z) (hop:o.op= .alloc t)
 (e:opF C s (.loc d z)=some s'):o.wp K.P a w (Post K μ E A nt s s' w) Q:=by
 obtain ⟨v,h1,h2,_⟩:=alloc_run (a:=a) (w:=w) (μ:=μ) hc ht hz hop
 injection e with e;subst e
 refine wp_val h1 ?_
 rw[ho] at hd ⊢
 exact ⟨μ,_,S.mkLoc (by simpa[inB] using hd) v.cells t z h2 hE,ExtN.refl _ _,Fr.alloc _ _ _⟩
theorem locb_sound (hc:CCok K c) (S:SE K μ lam E A nt s a w) (hE:E≤w.heap.size) {d:Nat} (hd:inB nt o.dst=true) (ho:o.dst=some d) {t:TypeId} {x:Operand} {x':Opd} (hx:compX c x=some x') (hop:o.op= .box t x)
 (e:opF C s (.locb d x')=some s'):o.wp K.P a w (Post K μ E A nt s s' w) Q:=by
 obtain ⟨v,e1,e2⟩:=Option.bind_eq_some_iff.1 e
 obtain ⟨cs,e3,e4⟩:=Option.bind_eq_some_iff.1 e2
 injection e4 with e4;subst e4
 have h2:=V.R.cells (compX_R hc S hx e1) e3
 refine wp_val (v:= .pointer (some ⟨w.heap.size,0,none⟩)) (w':=w.alloc (.cells (a.eval x).cells t)) ?_ ?_
 ·unfold execOp;rw[hop];simp[Instr.box,run_newVar]
 ·rw[ho] at hd ⊢
  exact ⟨μ,_,S.mkLoc (by simpa[inB] using hd) _ t cs h2 hE,ExtN.refl _ _,Fr.alloc _ _ _⟩
/-- A new row with one element, at a temporary. -/
theorem post_new (S:SE K μ lam E A nt s a w) (hE:E≤w.heap.size) {d:Nat} (hd:inB nt o.dst=true) (ho:o.dst=some d) {arr:Array Value} {t:TypeId} {z:List Cell} (hz:All2 (Cell.R K μ) z arr.toList):
 Post K μ E A nt s ({s with hp:=s.hp.push [z]}.set d (.c (.ptr s.hp.next 0 0))) w (a.put o.dst (.pointer (some ⟨w.heap.size,0,none⟩))) (w.alloc (.cells arr t)):=by
 rw[ho] at hd ⊢
 have hlen:=hz.length
 have S1:=S.push (E:=E) arr t 0 arr.size [z] (fun h=>absurd rfl h) (fun i r hi=>by
  cases i with
  | zero=>
    simp at hi;subst hi
    refine ⟨by simpa using hlen,fun j x hj=> ?_⟩
    obtain ⟨v,h1,h2⟩:=hz.get j x hj
    exact ⟨v,by simpa using h1,h2⟩
  | succ i=>simp at hi) (by simp) hE
 refine ⟨_,lam,S1.set (by simpa[inB] using hd) (v:= .c (.ptr s.hp.next 0 0)) ⟨_,Mu.push_new _ _ _,by simp⟩,?_,Fr.alloc _ _ _⟩
 exact Mu.push_new' (h:=Mu.push_ext S.hp _)
theorem new_sound (hc:CCok K c) (S:SE K μ lam E A nt s a w) (hE:E≤w.heap.size) {d:Nat} (hd:inB nt o.dst=true) (ho:o.dst=some d) {t:TypeId} {ti:TI} {z:List Cell} (ht:lk c.T t=some ti) (hz:ti.zero=some z) (hop:o.op= .alloc t)
 (e:opF C s (.new d z)=some s'):o.wp K.P a w (Post K μ E A nt s s' w) Q:=by
 obtain ⟨v,h1,h2,_⟩:=alloc_run (a:=a) (w:=w) (μ:=μ) hc ht hz hop
 injection e with e;subst e
 exact wp_val h1 (post_new S hE hd ho h2)
theorem newb_sound (hc:CCok K c) (S:SE K μ lam E A nt s a w) (hE:E≤w.heap.size) {d:Nat} (hd:inB nt o.dst=true) (ho:o.dst=some d) {t:TypeId} {x:Operand} {x':Opd} (hx:compX c x=some x') (hop:o.op= .box t x)
 (e:opF C s (.newb d x')=some s'):o.wp K.P a w (Post K μ E A nt s s' w) Q:=by
 obtain ⟨v,e1,e2⟩:=Option.bind_eq_some_iff.1 e
 obtain ⟨cs,e3,e4⟩:=Option.bind_eq_some_iff.1 e2
 injection e4 with e4;subst e4
 have h2:=V.R.cells (compX_R hc S hx e1) e3
 refine wp_val (v:= .pointer (some ⟨w.heap.size,0,none⟩)) (w':=w.alloc (.cells (a.eval x).cells t)) ?_ (post_new S hE hd ho h2)
 unfold execOp;rw[hop];simp[Instr.box,run_newVar]

/-! #### fields and elements -/
theorem fieldIs_get: ∀{fs:List (Nat×Nat×Bool)} {fields:List Field},fieldIs K.P fs fields=true→ ∀(i:Nat) x,fs[i]? =some x→ ∃f,fields[i]? =some f∧f.offset=x.1∧
 (∃it,K.P.info? f.type=some it∧it.size=x.2.1)∧x.2.1≠0∧ ∃d,K.P.underlying f.type=some d∧x.2.2=(match d with | .struct _ | .array _ _=>true | _=>false)
 | [],[],_,i,x,h=>by simp at h
 | (o,n,g)::r,f::fs,hf,0,x,h=>by
   simp at h;subst h
   simp only[fieldIs,Bool.and_eq_true,beq_iff_eq,Bool.not_eq_true',beq_eq_false_iff_ne] at hf
   obtain ⟨⟨⟨⟨⟨⟨h1,h2⟩,h3⟩,h4⟩,h5⟩,h6⟩,_⟩:=hf
   obtain ⟨it,hit⟩:=Option.isSome_iff_exists.1 h4
   obtain ⟨d,hd⟩:=Option.isSome_iff_exists.1 h6
   refine ⟨f,rfl,h1,⟨it,hit,?_⟩,h3,d,hd,?_⟩
   ·simpa[Program.cellsOf,hit] using h2
   ·rw[h5,hd];cases d<;>rfl
 | (o,n,g)::r,f::fs,hf,i+1,x,h=>by
   simp only[fieldIs,Bool.and_eq_true] at hf
   simpa using fieldIs_get hf.2 i x (by simpa using h)
theorem fad_sound (hc:CCok K c) (S:SE K μ lam E A nt s a w) {d:Nat} (hd:inB nt o.dst=true) (ho:o.dst=some d) {t:TypeId} {ti:TI} (ht:lk c.T t=some ti) {fs:List (Nat×Nat×Bool)} (hk:ti.k= .struct fs) {f:Nat} {x:Nat×Nat×Bool} (hf:fs[f]? =some x) {ad:Nat} (hop:o.op= .fieldAddr t (.tmp ad) f)
 (e:opF C s (.fad d ad x.1)=some s'):o.wp K.P a w (Post K μ E A nt s s' w) Q:=by
 obtain ⟨fields,h1,h2⟩:=(TI.ok_of (hc.T _ _ ht)).struct _ hk
 obtain ⟨fl,h3,h4,⟨it,h5,h6⟩,h7,_⟩:=fieldIs_get h2 f x hf
 have h3':fields[f]? =some fl:=by simpa using h3
 have hrun: ∀b off,a.tmps.getD ad undef= .pointer (some ⟨b,off,none⟩)→(execOp a.eval o).run K.P w= .ok (.value (.pointer (some ⟨b,off+x.1,none⟩))) w:=by
  intro b off hv
  have hv':a.eval (.tmp ad)= .pointer (some ⟨b,off,none⟩):=hv
  unfold execOp;rw[hop]
  have hne: ¬it.size=0:=by omega
  simp[hv',Instr.fieldAt,run_underlying h1,h3',Instr.sureAddr,fieldPlace,sizeOf,typeInfo,h5,hne,addr_add,h4]
 simp only[opF] at e
 split at e
 ·rename_i k off hk
  injection e with e;subst e
  obtain ⟨b,h8,h9⟩:=S.adr' hk
  refine wp_val (hrun b off h9) ?_
  rw[ho] at hd ⊢
  exact ⟨μ,lam,S.setAdr (by simpa[inB] using hd) h8,ExtN.refl _ _,Fr.refl _ _⟩
 ·split at e
  ·rename_i id i j hv
   injection e with e;subst e
   obtain ⟨l,h8,h9⟩:=S.env _ _ hv
   refine wp_val (hrun _ _ h9) (post_set S hd ho (v:= .c (.ptr id i (j+x.1))) ⟨l,h8,?_⟩)
   simp[Nat.add_assoc]
  ·cases e
theorem fld_sound (hc:CCok K c) (S:SE K μ lam E A nt s a w) {d:Nat} (hd:inB nt o.dst=true) (ho:o.dst=some d) {t:TypeId} {ti:TI} (ht:lk c.T t=some ti) {fs:List (Nat×Nat×Bool)} (hk:ti.k= .struct fs) {f:Nat} {y:Nat×Nat×Bool} (hf:fs[f]? =some y) {x:Operand} {x':Opd} (hx:compX c x=some x') (hop:o.op= .field t x f)
 (e:opF C s (.fld d x' y.1 y.2.1 y.2.2)=some s'):o.wp K.P a w (Post K μ E A nt s s' w) Q:=by
 obtain ⟨fields,h1,h2⟩:=(TI.ok_of (hc.T _ _ ht)).struct _ hk
 obtain ⟨fl,h3,h4,⟨it,h5,h6⟩,h7,dd,h8,h9⟩:=fieldIs_get h2 f y hf
 have h3':fields[f]? =some fl:=by simpa using h3
 simp only[opF] at e
 split at e
 ·rename_i cs hcs
  obtain ⟨z,e1,e2⟩:=Option.bind_eq_some_iff.1 e
  obtain ⟨v,e3,e4⟩:=Option.bind_eq_some_iff.1 e2
  injection e4 with e4;subst e4
  obtain ⟨arr,h10,h11⟩:=compX_R hc S hx hcs
  obtain ⟨h12,h13⟩:=cells_get h11 e1
  have hagg:(isAgg fl.type).run K.P w= .ok y.2.2 w:=by
   unfold isAgg
   rw[Sem.run_bind,run_underlying h8 w,h9]
   cases dd<;>rfl
  have hsz:(sizeOf fl.type).run K.P w= .ok y.2.1 w:=by simp[sizeOf,typeInfo,h5,h6]
  have hle:y.1+y.2.1≤arr.size:=by
   have:=(cut?_some e1).1
   have h:=h11.length
   simp at h;omega
  have hpart: ∃u,(part fl.type arr y.1).run K.P w= .ok u w∧v.R K μ u:=by
   cases hg:y.2.2 with
   | true=>
     rw[hg] at e3 hagg;injection e3 with e3;subst e3
     refine ⟨.agg (arr.extract y.1 (y.1+y.2.1)),by simp[part,hagg,hsz],_,rfl,?_⟩
     refine All2.of_get (by simp;omega) fun j u hj=> ?_
     obtain ⟨r,h14,h15⟩:=h13 j u hj
     have hjl:j<z.length:=(List.getElem?_eq_some_iff.1 hj).1
     refine ⟨r,?_,h15⟩
     rw[Array.getElem?_toList,Array.getElem?_extract,if_pos (by omega)];exact h14
   | false=>
     rw[hg] at e3 hagg
     unfold mkV at e3
     split at e3
     ·rename_i q;cases q
     ·rename_i u _
      injection e3 with e3;subst e3
      obtain ⟨r,h14,h15⟩:=h13 0 u rfl
      have h14':arr[y.1]? =some r:=by simpa using h14
      exact ⟨r,by simp[part,hagg,h14'],h15⟩
     ·cases e3
  obtain ⟨u,h14,h15⟩:=hpart
  refine wp_val (v:=u) (w':=w) ?_ (post_set S hd ho h15)
  unfold execOp;rw[hop]
  simp[h10,Instr.field,run_underlying h1,h3',h4,asAgg,h14]
 ·cases e
theorem idx_sound (hc:CCok K c) (S:SE K μ lam E A nt s a w) {d:Nat} (hd:inB nt o.dst=true) (ho:o.dst=some d) {t:TypeId} {ti:TI} (ht:lk c.T t=some ti) {e0 tag:Nat} (hk:ti.k= .slice e0 tag) {x i:Operand} {x' i':Opd} (hx:compX c x=some x') (hi:compX c i=some i') (hop:o.op= .indexAddr t x i)
 (e:opF C s (.idx d tag x' i')=some s'):o.wp K.P a w (Post K μ E A nt s s' w) Q:=by
 obtain ⟨h1,h2,h3,ie,z,h4,h5,h6,h7,h8,h9⟩:=(TI.ok_of (hc.T _ _ ht)).slice _ _ hk
 simp only[opF] at e
 split at e
 ·rename_i z' id off len n hv hn
  split at e
  ·rename_i hcond
   obtain ⟨rfl,hn0,hnl⟩:=hcond
   injection e with e;subst e
   obtain ⟨l,ad,cap,g1,g2,g3,g4,g5,g6,g7⟩:=evc_R hc S hx hv
   obtain ⟨k,g8⟩:=evi_R hc S hi hn
   have hlz:l.sz=K.SZ z':=by rw[←g2];exact (S.hp.dom _ _ g1).2 (by rw[g2];exact g3)
   rcases g7 with ⟨g7,_⟩ | ⟨g7,_⟩
   ·refine wp_val (v:= .pointer (some ⟨l.blk,l.base+off*l.sz+n.toNat*K.SZ z',none⟩)) (w':=w) ?_ (post_set S hd ho (v:= .c (.ptr id (off+n.toNat) 0)) ⟨l,g1,?_⟩)
    ·unfold execOp;rw[hop]
     have hsz:(sizeOf e0).run K.P w= .ok (K.SZ z') w:=by simp[sizeOf,typeInfo,h4,h5]
     simp[g4,g8,Instr.indexAt,asIntOf,run_underlying h1,g7,hn0,hnl,hsz,addr_add]
    ·rw[hlz];simp[Nat.add_mul,Nat.add_assoc]
   ·omega
  ·cases e
 ·cases e
end
end Go.Proofs.Yteagcdhkobeanaa.A
