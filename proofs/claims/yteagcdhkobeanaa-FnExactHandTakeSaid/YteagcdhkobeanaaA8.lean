/- The steps of one operation keep the relation: stores, literals, makes, cuts, append. -/
import Derived.Test.YteagcdhkobeanaaA7
namespace Go.Proofs.Yteagcdhkobeanaa.A
open Go
variable {K:Cfg} {c:CC}
section
variable {μ:Mu} {lam:Nat→Option Nat} {E:Nat} {A:Nat→Prop} {nt:Nat} {s s':St} {a:Act} {w:World} {esc:List Nat} {q:Bool} {o:Oper} {C:CallF} {Q:Exit→Act→World→Prop}

theorem wp_skip_val {next:Act→World→Prop} {w':World} (h:(execOp a.eval o).run K.P w= .ok .skip w') (ho:o.dst=none) (hn:next a w'):o.wp K.P a w next Q:=by
 unfold Oper.wp;rw[h]
 show next (a.put o.dst undef) w'
 rw[ho];exact hn
theorem all_one {cs:List Cell} {vs:List Value} (h:All2 (Cell.R K μ) cs vs): ∀v∈vs,v.oneCell'=true:=by
 intro v hv
 obtain ⟨i,hi,rfl⟩:=List.mem_iff_getElem.1 hv
 obtain ⟨x,hx⟩: ∃x,cs[i]? =some x:=⟨cs[i]'(by rw[h.length];exact hi),by simp⟩
 obtain ⟨y,h1,h2⟩:=h.get i x hx
 rw[List.getElem?_eq_getElem hi] at h1
 injection h1 with h1
 rw[h1];exact h2.one
/-- A store in a block. -/
theorem run_storeAt {t:TypeId} {ti:TI} (T:TI.Ok K t ti) {b off:Nat} {cur:Array Value} {e:TypeId} (hb:w.heap[b]? =some (.cells cur e (0,0))) {v:Value} {new:List Cell} (hn:All2 (Cell.R K μ) new v.cells.toList) (hl:new.length=ti.sz) (hsz:off+new.length≤cur.size):
 (storeVar t ⟨b,off,none⟩ v).run K.P w= .ok () (w.setRow b (cur.toList.take off++v.cells.toList++cur.toList.drop (off+v.cells.toList.length)).toArray):=by
 have hlen:=hn.length
 have hr:=run_storeCells_at (P:=K.P) b off e v.cells.toList 0 cur w hb (by omega) (all_one hn)
 simp only[Nat.add_zero] at hr
 have:v.cells.size=ti.sz:=by rw[←hl,hlen];simp
 simp[storeVar,T.size w,this,hr]

theorem splice_len {α:Type} (xs vs:List α) (o:Nat) (h:o+vs.length≤xs.length):(xs.take o++vs++xs.drop (o+vs.length)).length=xs.length:=by
 simp only[List.length_append,List.length_take,List.length_drop];omega
theorem store_sound (hc:CCok K c) (S:SE K μ lam E A nt s a w) (ho:o.dst=none) {t:TypeId} {ti:TI} (ht:lk c.T t=some ti) {ad:Nat} {x:Operand} {x':Opd} (hx:compX c x=some x') (hop:o.op= .store t (.tmp ad) x)
 (e:opF C s (.store ad ti.sz x')=some s'):o.wp K.P a w (Post K μ E A nt s s' w) Q:=by
 have T:=TI.ok_of (hc.T _ _ ht)
 simp only[opF] at e
 obtain ⟨v,e1,e2⟩:=Option.bind_eq_some_iff.1 e
 obtain ⟨new,e3,e4⟩:=Option.bind_eq_some_iff.1 e2
 have hn:=V.R.cells (compX_R hc S hx e1) e3
 have hrun: ∀{b off:Nat} {w':World},a.tmps.getD ad undef= .pointer (some ⟨b,off,none⟩)→(storeVar t ⟨b,off,none⟩ (a.eval x)).run K.P w= .ok () w'→(execOp a.eval o).run K.P w= .ok .skip w':=by
  intro b off w' h1 h2
  have h1':a.eval (.tmp ad)= .pointer (some ⟨b,off,none⟩):=h1
  unfold execOp;rw[hop]
  simp[h1',Instr.storeAt,Instr.sureAddr,h2]
 split at e4
 ·rename_i hlen
  split at e4
  ·rename_i k off hk
   obtain ⟨cs,e5,e6⟩:=Option.bind_eq_some_iff.1 e4
   obtain ⟨cs',e7,e8⟩:=Option.bind_eq_some_iff.1 e6
   injection e8 with e8;subst e8
   obtain ⟨b,h1,h2⟩:=S.adr' hk
   obtain ⟨b',arr,el,h3,h4,h5⟩:=S.loc' e5
   rw[h1] at h3;injection h3 with h3;subst h3
   obtain ⟨h6,rfl⟩:=splice?_some e7
   have hal:=h5.length
   have hnl:=hn.length
   have hr:=run_storeAt (w:=w) (off:=off) T h4 hn hlen (by simp at hal;omega)
   refine wp_skip_val (hrun h2 hr) ho ⟨μ,lam,S.setLoc h1 h4 _ ?_,ExtN.refl _ _,Fr.setRow A w b _ (S.big b (S.lamE _ _ h1).1)⟩
   rw[List.toList_toArray,←hnl]
   exact ((h5.take off).append hn).append (h5.drop _)
  ·split at e4
   ·rename_i id i j hv
    obtain ⟨h',e5,e6⟩:=Option.bind_eq_some_iff.1 e4
    injection e6 with e6;subst e6
    unfold storeP at e5
    split at e5
    ·rename_i hfl
     obtain ⟨rows,e7,e8⟩:=Option.bind_eq_some_iff.1 e5
     obtain ⟨r,e9,e10⟩:=Option.bind_eq_some_iff.1 e8
     obtain ⟨r',e11,e12⟩:=Option.bind_eq_some_iff.1 e10
     injection e12 with e12;subst e12
     obtain ⟨l,h1,h2⟩:=S.env _ _ hv
     have hO:K.O≤id:=Nat.le_trans S.fl.1 hfl
     obtain ⟨hbase,⟨cur,el,hb,hcs,_⟩,hfit⟩:=S.hp.own id l rows hO h1 e7
     obtain ⟨hrl,_⟩:=S.hp.cells id l rows h1 e7 i r e9
     obtain ⟨h6,rfl⟩:=splice?_some e11
     have hil:i<rows.length:=(List.getElem?_eq_some_iff.1 e9).1
     have hmul:(i+1)*l.sz≤rows.length*l.sz:=Nat.mul_le_mul_right _ hil
     rw[Nat.add_mul,Nat.one_mul] at hmul
     have hnl:=hn.length
     have hoff:l.base+i*l.sz+j=i*l.sz+j:=by rw[hbase,Nat.zero_add]
     have h2':a.tmps.getD ad undef= .pointer (some ⟨l.blk,i*l.sz+j,none⟩):=by rw[h2];show Value.pointer (some ⟨l.blk,l.base+i*l.sz+j,none⟩)=_;rw[hoff]
     have hsz:i*l.sz+j+new.length≤cur.size:=by omega
     have hr:=run_storeAt (w:=w) T hb hn hlen hsz
     have hcl:cur.toList.length=cur.size:=Array.length_toList
     have hget: ∀k,(cur.toList.take (i*l.sz+j)++(a.eval x).cells.toList++cur.toList.drop (i*l.sz+j+(a.eval x).cells.toList.length)).toArray[k]? =
      if k<i*l.sz+j then cur[k]? else if k<i*l.sz+j+(a.eval x).cells.toList.length then (a.eval x).cells.toList[k-(i*l.sz+j)]? else cur[k]? :=by
      intro k
      rw[List.getElem?_toArray,splice_get _ _ _ _ (by omega)]
      simp
     refine wp_skip_val (hrun h2' hr) ho ⟨μ,lam,S.storeP hfl h1 e7 hb ?_ hil ?_ ?_ ?_,ExtN.refl _ _,Fr.setRow A w l.blk _ (S.wr id l rows hfl h1 e7)⟩
     ·rw[List.size_toArray,splice_len _ _ _ (by omega)];omega
     ·rw[splice_len _ _ _ h6];exact hrl
     ·intro m y hy
      rw[splice_get _ _ _ _ h6] at hy
      have hml:m<l.sz:=by
       split at hy
       ·omega
       ·split at hy
        ·omega
        ·have:=(List.getElem?_eq_some_iff.1 hy).1;omega
      obtain ⟨_,c0,e0,fr0,g1,g2⟩:=S.hp.cells id l rows h1 e7 i r e9
      rw[hb] at g1;injection g1 with g1;injection g1 with g1 _ _;subst g1
      rw[hget]
      split at hy
      ·rename_i hmj
       obtain ⟨u,g3,g4⟩:=g2 m y hy
       refine ⟨u,?_,g4⟩
       rw[if_pos (by omega)]
       rw[←g3];congr 1;omega
      ·rename_i hmj
       split at hy
       ·rename_i hmj2
        obtain ⟨u,g3,g4⟩:=hn.get _ _ hy
        refine ⟨u,?_,g4⟩
        rw[if_neg (by omega),if_pos (by omega),←g3];congr 1;omega
       ·rename_i hmj2
        obtain ⟨u,g3,g4⟩:=g2 m y hy
        refine ⟨u,?_,g4⟩
        rw[if_neg (by omega),if_neg (by omega),←g3];congr 1;omega
     ·intro k hk
      rw[hget]
      rcases hk with hk | hk
      ·rw[if_pos (by omega)]
      ·rw[if_neg (by omega),if_neg (by omega)]
    ·cases e5
   ·cases e4
 ·cases e4

/-! #### literals -/
theorem fold_get (vs:List Value): ∀(off k:Nat) (cells:Array Value),off+k+vs.length≤cells.size→
 ((vs.zipIdx k).foldl (fun cs (x:Value×Nat)=>cs.setIfInBounds (off+x.2) x.1) cells).size=cells.size∧
 ∀i:Nat,((vs.zipIdx k).foldl (fun cs (x:Value×Nat)=>cs.setIfInBounds (off+x.2) x.1) cells)[i]? =if i<off+k then cells[i]? else if i<off+k+vs.length then vs[i-(off+k)]? else cells[i]? :=by
 induction vs with
 | nil=>
   intro off k cells h
   refine ⟨rfl,fun i=> ?_⟩
   show cells[i]? =_
   split
   ·rfl
   ·rw[if_neg (by simp;omega)]
 | cons v vs ih=>
   intro off k cells h
   simp only[List.length_cons] at h
   obtain ⟨h1,h2⟩:=ih off (k+1) (cells.setIfInBounds (off+k) v) (by simp;omega)
   simp only[List.zipIdx_cons,List.foldl_cons]
   refine ⟨by rw[h1];simp,fun i=> ?_⟩
   rw[h2 i]
   simp only[Array.getElem?_setIfInBounds,List.length_cons]
   by_cases c1:i<off+k
   ·rw[if_pos (by omega),if_pos c1,if_neg (by omega)]
   ·rw[if_neg c1]
    by_cases c2:i=off+k
    ·subst c2
     rw[if_pos (by omega),if_pos rfl,if_pos (by omega),if_pos (by omega)];simp
    ·by_cases c3:i<off+k+(vs.length+1)
     ·rw[if_neg (by omega),if_pos (by omega),if_pos c3]
      rw[show i-(off+k)=(i-(off+(k+1)))+1 by omega,List.getElem?_cons_succ]
     ·rw[if_neg (by omega),if_neg (by omega),if_neg c3,if_neg (by omega)]
theorem fold_eq (v:Value) (off:Nat) (cells:Array Value):v.cells.zipIdx.foldl (fun cs (x:Value×Nat)=>cs.setIfInBounds (off+x.2) x.1) cells=(v.cells.toList.zipIdx 0).foldl (fun cs (x:Value×Nat)=>cs.setIfInBounds (off+x.2) x.1) cells:=by
 rw[←Array.foldl_toList,Array.toList_zipIdx]
theorem fill_R {place:Nat→Option (Nat×Nat)}: ∀(parts:List (Nat×Value)) (aps:List (Nat×Nat×List Cell)) (cells:Array Value) (init out:List Cell),All2 (Cell.R K μ) init cells.toList→
 All2 (fun (ap:Nat×Nat×List Cell) (p:Nat×Value)=>place p.1=some (ap.1,ap.2.1)∧All2 (Cell.R K μ) ap.2.2 p.2.cells.toList) aps parts→builds init aps=some out→ ∃arr,Instr.fill place cells parts=some arr∧All2 (Cell.R K μ) out arr.toList
 | [],[],cells,init,out,h,_,e=>by injection e with e;subst e;exact ⟨cells,rfl,h⟩
 | (i,v)::ps,(off,n,new)::aps,cells,init,out,h,⟨⟨h1,h2⟩,h3⟩,e=>by
   simp only[builds] at e
   split at e
   ·rename_i hn
    obtain ⟨cs',e1,e2⟩:=Option.bind_eq_some_iff.1 e
    obtain ⟨e3,rfl⟩:=splice?_some e1
    have hl:=h.length
    have hl2:=h2.length
    simp only[Array.length_toList] at hl hl2
    have hcl:cells.toList.length=cells.size:=Array.length_toList
    obtain ⟨g1,g2⟩:=fold_get v.cells.toList off 0 cells (by simp;omega)
    have hnew:All2 (Cell.R K μ) (init.take off++new++init.drop (off+new.length)) ((v.cells.toList.zipIdx 0).foldl (fun cs (x:Value×Nat)=>cs.setIfInBounds (off+x.2) x.1) cells).toList:=by
     have:((v.cells.toList.zipIdx 0).foldl (fun cs (x:Value×Nat)=>cs.setIfInBounds (off+x.2) x.1) cells).toList=cells.toList.take off++v.cells.toList++cells.toList.drop (off+v.cells.toList.length):=by
      apply List.ext_getElem?
      intro k
      rw[Array.getElem?_toList,g2 k,splice_get _ _ _ _ (by simp;omega)]
      simp
     have hq:v.cells.toList.length=new.length:=by rw[Array.length_toList,hl2]
     rw[this,hq]
     exact ((h.take off).append h2).append (h.drop _)
    obtain ⟨arr,h4,h5⟩:=fill_R ps aps _ _ out hnew h3 e2
    refine ⟨arr,?_,h5⟩
    simp only[Instr.fill,h1]
    split
    ·rename_i hq;simp at hq;omega
    ·rw[fold_eq];exact h4
   ·cases e

theorem build_sound (hc:CCok K c) (S:SE K μ lam E A nt s a w) {d:Nat} (hd:inB nt o.dst=true) (ho:o.dst=some d) {t:TypeId} {ti:TI} (ht:lk c.T t=some ti) {z:List Cell} (hz:ti.zero=some z) {fs:List (Nat×Nat×Bool)} (hk:ti.k= .struct fs) {parts:Array (Nat×Operand)} {ps:List (Nat×Nat×Opd)} (hps:compFields c fs parts.toList=some ps)
 (hop:o.op= .build t parts) (e:opF C s (.build d z ps)=some s'):o.wp K.P a w (Post K μ E A nt s s' w) Q:=by
 have T:=TI.ok_of (hc.T _ _ ht)
 obtain ⟨fields,h1,h2⟩:=T.struct _ hk
 obtain ⟨i,h3,h4,h5,h6⟩:=T.info
 obtain ⟨zv,h7,h8,h9⟩:=h6 z hz
 obtain ⟨aps,e1,e2⟩:=Option.bind_eq_some_iff.1 e
 obtain ⟨cs,e3,e4⟩:=Option.bind_eq_some_iff.1 e2
 injection e4 with e4;subst e4
 -- the fields' places
 have hplaces: ∀(fs:List (Nat×Nat×Bool)) (fl:List Field),fieldIs K.P fs fl=true→fl.mapM (fun f=>(K.P.info? f.type).map fun i=>(f.offset,i.size))=some (fs.map fun x=>(x.1,x.2.1)):=by
  intro fs
  induction fs with
  | nil=>intro fl h;cases fl with
    | nil=>rfl
    | cons f fl=>cases h
  | cons x fs ih=>
    intro fl h
    cases fl with
    | nil=>cases h
    | cons f fl=>
      obtain ⟨g,q1,q2,⟨it,q3,q4⟩,_⟩:=fieldIs_get h 0 x rfl
      simp at q1;subst q1
      have hr:fieldIs K.P fs fl=true:=by
       obtain ⟨x1,x2,x3⟩:=x
       simp only[fieldIs,Bool.and_eq_true] at h;exact h.2
      simp[List.mapM_cons,q3,q4,ih fl hr,q2]
 have hpl:=hplaces fs fields.toList h2
 have hparts: ∀(pl:List (Nat×Operand)) (ps:List (Nat×Nat×Opd)) (aps:List (Nat×Nat×List Cell)),compFields c fs pl=some ps→evParts3 s.env ps=some aps→
  All2 (fun (ap:Nat×Nat×List Cell) (p:Nat×Value)=>(fs.map fun x=>(x.1,x.2.1)).toArray[p.1]? =some (ap.1,ap.2.1)∧All2 (Cell.R K μ) ap.2.2 p.2.cells.toList) aps (pl.map fun p=>(p.1,a.eval p.2)):=by
  intro pl
  induction pl with
  | nil=>intro ps aps q1 q2;injection q1 with q1;subst q1;injection q2 with q2;subst q2;trivial
  | cons p pl ih=>
    intro ps aps q1 q2
    obtain ⟨pi,px⟩:=p
    simp only[compFields] at q1
    obtain ⟨y,q3,q4⟩:=Option.bind_eq_some_iff.1 q1
    obtain ⟨f,q5,q6⟩:=Option.bind_eq_some_iff.1 q4
    obtain ⟨l,q7,q8⟩:=Option.bind_eq_some_iff.1 q6
    injection q8 with q8;subst q8
    simp only[evParts3] at q2
    obtain ⟨v,r1,r2⟩:=Option.bind_eq_some_iff.1 q2
    obtain ⟨cc,r3,r4⟩:=Option.bind_eq_some_iff.1 r2
    obtain ⟨rs,r5,r6⟩:=Option.bind_eq_some_iff.1 r4
    injection r6 with r6;subst r6
    exact ⟨⟨by simp[q5],V.R.cells (compX_R hc S q3 r1) r3⟩,ih l rs q7 r5⟩
 obtain ⟨arr,g1,g2⟩:=fill_R (K:=K) (μ:=μ) _ aps zv.cells z cs (valsAre_R h8) (hparts _ _ _ hps e1) e3
 have hbuilt:K.P.built t ((parts.map fun (i,x)=>(i,a.eval x)).toList)=some arr:=by
  unfold Program.built
  rw[h3,h1]
  simp only[h7,hpl]
  rw[show ((parts.map fun (i,x)=>(i,a.eval x)).toList)=parts.toList.map (fun p=>(p.1,a.eval p.2)) by simp];exact g1
 refine wp_val (v:= .agg arr) (w':=w) ?_ (post_set S hd ho (v:= .agg cs) ⟨arr,rfl,g2⟩)
 unfold execOp;rw[hop]
 simp[run_build w t _ arr hbuilt]
end
end Go.Proofs.Yteagcdhkobeanaa.A
