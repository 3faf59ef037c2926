/- The steps of one operation keep the relation: slices that are made, cut and appended to. -/
import Derived.Test.YteagcdhkobeanaaA0
import Derived.Test.YteagcdhkobeanaaA8
namespace Go.Proofs.Yteagcdhkobeanaa.A
open Go
variable {K:Cfg} {c:CC}
section
variable {μ:Mu} {lam:Nat→Option Nat} {E:Nat} {A:Nat→Prop} {nt:Nat} {s s':St} {a:Act} {w:World} {esc:List Nat} {q:Bool} {o:Oper} {C:CallF} {Q:Exit→Act→World→Prop}

theorem mk_get (z:Array Value) (n i:Nat) (h:i<n) (hz:0<z.size):((Array.range n).map (z[· %z.size]!))[i]? =z[i%z.size]? :=by
 have hlt:i%z.size<z.size:=Nat.mod_lt _ hz
 simp[h,hlt]
/-- Elements that are all the zero value. -/
theorem RowsR.replicate {z:List Cell} {zv:Array Value} (hz:All2 (Cell.R K μ) z zv.toList) (hs:0<z.length) (l n:Nat) (hl:l≤n):RowsR (K:=K) μ (List.replicate l z) z.length ((Array.range (n*z.length)).map (zv[· %zv.size]!)):=by
 intro i r hi
 rw[List.getElem?_replicate] at hi
 split at hi
 ·rename_i hil
  injection hi with hi;subst hi
  refine ⟨rfl,fun j x hj=> ?_⟩
  obtain ⟨v,h1,h2⟩:=hz.get j x hj
  have hjl:j<z.length:=(List.getElem?_eq_some_iff.1 hj).1
  have hzl:zv.size=z.length:=by have:=hz.length;simp at this;omega
  refine ⟨v,?_,h2⟩
  have hm:(i+1)*z.length≤n*z.length:=Nat.mul_le_mul_right _ (by omega)
  rw[Nat.add_mul,Nat.one_mul] at hm
  rw[mk_get _ _ _ (by omega) (by omega),hzl,Nat.mul_comm,Nat.mul_add_mod,Nat.mod_eq_of_lt hjl]
  simpa using h1
 ·cases hi
/-- A new row, as a slice at a temporary. -/
theorem post_row (S:SE K μ lam E A nt s a w) (hE:E≤w.heap.size) {d:Nat} (hd:inB nt o.dst=true) (ho:o.dst=some d) {tag sz:Nat} {arr:Array Value} {rows:List (List Cell)} {cap:Nat} (hg:tag≠0) (hs:sz=K.SZ tag) (hr:RowsR (K:=K) μ rows sz arr) (hc:arr.size=cap*sz) (hl:rows.length≤cap) (hm:cap≤maxLen)
 {w1:World} (hw:w1=w.alloc (.cells arr (K.ET tag))∨w.drawn≤w1.drawn∧w1={w.alloc (.cells arr (K.ET tag)) with drawn:=w1.drawn}):
 Post K μ E A nt s ({s with hp:=s.hp.push rows}.set d (.c (.sl tag s.hp.next 0 rows.length))) w (a.put o.dst (.slice (some ⟨w.heap.size,0,none⟩) rows.length cap)) w1:=by
 rw[ho] at hd ⊢
 have hmul:rows.length*sz≤cap*sz:=Nat.mul_le_mul_right _ hl
 have S1:=S.push (E:=E) arr (K.ET tag) tag sz rows (fun _=>⟨hs,rfl⟩) hr (by omega) hE
 have S2:=S1.set (d:=d) (by simpa[inB] using hd) (v:= .c (.sl tag s.hp.next 0 rows.length)) (u:= .slice (some ⟨w.heap.size,0,none⟩) rows.length cap) ⟨_,_,cap,Mu.push_new _ _ _,rfl,hg,rfl,hl,hm,.inl ⟨by simp,by simp[hc],fun _=>hc⟩⟩
 rcases hw with hw | ⟨hwd,hw⟩
 ·subst hw
  exact ⟨_,lam,S2,Mu.push_new' (h:=Mu.push_ext S.hp _),Fr.alloc _ _ _⟩
 ·rw[hw]
  exact ⟨_,lam,S2.drew _,Mu.push_new' (h:=Mu.push_ext S.hp _),(Fr.alloc A w _).trans (Fr.drew A _ _ hwd)⟩

theorem fills_R {sz:Nat} (hs:0<sz): ∀(parts:List (Nat×Value)) (aps:List (Nat×List Cell)) (cells:Array Value) (rows out:List (List Cell)),RowsR (K:=K) μ rows sz cells→cells.size=rows.length*sz→
 All2 (fun (ap:Nat×List Cell) (p:Nat×Value)=>ap.1=p.1∧All2 (Cell.R K μ) ap.2 p.2.cells.toList) aps parts→fills sz rows aps=some out→
 ∃arr,Instr.fill (fun i=>some (i*sz,sz)) cells parts=some arr∧RowsR (K:=K) μ out sz arr∧arr.size=out.length*sz∧out.length=rows.length
 | [],[],cells,rows,out,h,hz,_,e=>by injection e with e;subst e;exact ⟨cells,rfl,h,hz,rfl⟩
 | (i,v)::ps,(i',new)::aps,cells,rows,out,h,hz,⟨⟨h1,h2⟩,h3⟩,e=>by
   simp only at h1;subst h1
   simp only[fills] at e
   split at e
   ·rename_i hcond
    obtain ⟨hi,hn⟩:=hcond
    have hl2:=h2.length
    simp only[Array.length_toList] at hl2
    have hmul:(i'+1)*sz≤rows.length*sz:=Nat.mul_le_mul_right _ hi
    rw[Nat.add_mul,Nat.one_mul] at hmul
    obtain ⟨g1,g2⟩:=fold_get v.cells.toList (i'*sz) 0 cells (by simp;omega)
    have hnew:RowsR (K:=K) μ (rows.set i' new) sz ((v.cells.toList.zipIdx 0).foldl (fun cs (x:Value×Nat)=>cs.setIfInBounds (i'*sz+x.2) x.1) cells):=by
     intro k r hk
     rw[List.getElem?_set] at hk
     split at hk
     ·rename_i hik;subst hik
      injection hk with hk;subst hk
      refine ⟨hn,fun j x hj=> ?_⟩
      obtain ⟨u,h4,h5⟩:=h2.get j x hj
      refine ⟨u,?_,h5⟩
      have hjl:j<new.length:=(List.getElem?_eq_some_iff.1 hj).1
      rw[g2,if_neg (by omega),if_pos (by simp;omega),←h4];congr 1;omega
     ·rename_i hik
      obtain ⟨h6,h7⟩:=h k r hk
      refine ⟨h6,fun j x hj=> ?_⟩
      obtain ⟨u,h8,h9⟩:=h7 j x hj
      refine ⟨u,?_,h9⟩
      have hjl:j<r.length:=(List.getElem?_eq_some_iff.1 hj).1
      rw[g2]
      rcases Nat.lt_or_gt_of_ne hik with hlt | hlt
      ·have:(i'+1)*sz≤k*sz:=Nat.mul_le_mul_right _ hlt
       rw[Nat.add_mul,Nat.one_mul] at this
       rw[if_neg (by omega),if_neg (by simp;omega)];exact h8
      ·have:(k+1)*sz≤i'*sz:=Nat.mul_le_mul_right _ hlt
       rw[Nat.add_mul,Nat.one_mul] at this
       rw[if_pos (by omega)];exact h8
    obtain ⟨arr,h10,h11,h12,h13⟩:=fills_R hs ps aps _ _ out hnew (by rw[g1];simpa using hz) h3 e
    refine ⟨arr,?_,h11,h12,by simpa using h13⟩
    simp only[Instr.fill]
    split
    ·rename_i hq;simp at hq;omega
    ·rw[fold_eq];exact h10
   ·cases e

theorem lit_sound (hc:CCok K c) (S:SE K μ lam E A nt s a w) (hE:E≤w.heap.size) {d:Nat} (hd:inB nt o.dst=true) (ho:o.dst=some d) {t e0:TypeId} {ti te:TI} {tag len:Nat} (ht:lk c.T t=some ti) (hk:ti.k= .slice e0 tag) (hte:lk c.T e0=some te) {z:List Cell} (hz:te.zero=some z) (hlen:len*te.sz≤4096)
 {parts:Array (Nat×Operand)} {ps:List (Nat×Opd)} (hps:compParts c parts.toList=some ps) (hop:o.op= .buildSlice t len parts) (e:opF C s (.lit d tag len z ps)=some s'):o.wp K.P a w (Post K μ E A nt s s' w) Q:=by
 obtain ⟨h1,h2,h3,ie,zv0,h4,h5,h6,h7,h8,h9⟩:=(TI.ok_of (hc.T _ _ ht)).slice _ _ hk
 obtain ⟨i,g1,g2,g3,g4⟩:=(TI.ok_of (hc.T _ _ hte)).info
 obtain ⟨zv,g5,g6,g7⟩:=g4 z hz
 rw[h4] at g1;injection g1 with g1;subst g1
 rw[h8] at g5;injection g5 with g5;subst g5
 have hzl:z.length=K.SZ tag:=by omega
 have hR:=valsAre_R (K:=K) (μ:=μ) g6
 have hzs:zv0.cells.size=z.length:=by have:=hR.length;simp at this;omega
 obtain ⟨aps,e1,e2⟩:=Option.bind_eq_some_iff.1 e
 obtain ⟨rows,e3,e4⟩:=Option.bind_eq_some_iff.1 e2
 injection e4 with e4;subst e4
 have hparts: ∀(pl:List (Nat×Operand)) (ps:List (Nat×Opd)) (aps:List (Nat×List Cell)),compParts c pl=some ps→evParts s.env ps=some aps→
  All2 (fun (ap:Nat×List Cell) (p:Nat×Value)=>ap.1=p.1∧All2 (Cell.R K μ) ap.2 p.2.cells.toList) aps (pl.map fun p=>(p.1,a.eval p.2)):=by
  intro pl
  induction pl with
  | nil=>intro ps aps q1 q2;injection q1 with q1;subst q1;injection q2 with q2;subst q2;trivial
  | cons p pl ih=>
    intro ps aps q1 q2
    obtain ⟨pi,px⟩:=p
    simp only[compParts] at q1
    obtain ⟨y,q3,q4⟩:=Option.bind_eq_some_iff.1 q1
    obtain ⟨l,q7,q8⟩:=Option.bind_eq_some_iff.1 q4
    injection q8 with q8;subst q8
    simp only[evParts] at q2
    obtain ⟨v,r1,r2⟩:=Option.bind_eq_some_iff.1 q2
    obtain ⟨cc,r3,r4⟩:=Option.bind_eq_some_iff.1 r2
    obtain ⟨rs,r5,r6⟩:=Option.bind_eq_some_iff.1 r4
    injection r6 with r6;subst r6
    exact ⟨⟨rfl,V.R.cells (compX_R hc S q3 r1) r3⟩,ih l rs q7 r5⟩
 have hinit:RowsR (K:=K) μ (List.replicate len z) z.length ((Array.range (len*z.length)).map (zv0.cells[· %zv0.cells.size]!)):=RowsR.replicate hR (by omega) len len (Nat.le_refl _)
 obtain ⟨arr,f1,f2,f3,f4⟩:=fills_R (by omega) _ aps _ _ rows hinit (by simp) (hparts _ _ _ hps e1) e3
 simp only[List.length_replicate] at f4
 have hsz:(sizeOf e0).run K.P w= .ok z.length w:=by simp[sizeOf,typeInfo,h4];omega
 have hzr:(zeroValue e0).run K.P w= .ok zv0 w:=by simp[zeroValue,typeInfo,h4,h8]
 have hE0:K.ET tag=e0:=h3
 have hbig: ¬len*z.length>2 ^ 24:=by rw[hzl,←h5,g2];omega
 have hrun:(execOp a.eval o).run K.P w= .ok (.value (.slice (some ⟨w.heap.size,0,none⟩) len len)) (w.alloc (.cells arr (K.ET tag))):=by
  unfold execOp;rw[hop]
  have hpe:((parts.map fun (i,x)=>(i,a.eval x)).toList)=parts.toList.map (fun p=>(p.1,a.eval p.2)):=by simp
  by_cases hzero:len*z.length=0
  ·have hz0: ∀f:Nat→Value,(Array.range (len*z.length)).map f= #[]:=by intro f;rw[hzero];apply Array.ext';simp
   rw[hz0] at f1
   have hfe:Instr.fill (fun i=>some (i*z.length,z.length)) #[] ((parts.map fun (i,x)=>(i,a.eval x)).toList)=some arr:=by
    rw[hpe,←f1]
   simp only[Array.toList_map] at hfe
   simp only[Sem.run_bind,Instr.buildSlice,run_underlying h1,Result.andThen_ok,hsz,if_neg hbig,Sem.run_pure,if_pos hzero,hz0,hfe,Array.toList_map,newRow,hE0]
   rfl
  ·have hfe:Instr.fill (fun i=>some (i*z.length,z.length)) ((Array.range (len*z.length)).map (zv0.cells[· %zv0.cells.size]!)) ((parts.map fun (i,x)=>(i,a.eval x)).toList)=some arr:=by
    rw[hpe,←f1]
   simp only[Array.toList_map] at hfe
   simp only[Sem.run_bind,Instr.buildSlice,run_underlying h1,Result.andThen_ok,hsz,if_neg hbig,Sem.run_pure,if_neg hzero,hzr,hfe,Array.toList_map,newRow,hE0]
   rfl
 refine wp_val hrun ?_
 have:=post_row (o:=o) (w1:=w.alloc (.cells arr (K.ET tag))) S hE hd ho (tag:=tag) (sz:=z.length) (cap:=len) (rows:=rows) h2 hzl f2 (by rw[f3,f4]) (by omega) (by
  have:len*1≤len*te.sz:=Nat.mul_le_mul_left _ (by omega)
  unfold maxLen;omega) (.inl rfl)
 rw[f4] at this
 exact this
theorem mks_sound (hc:CCok K c) (S:SE K μ lam E A nt s a w) (hE:E≤w.heap.size) {d:Nat} (hd:inB nt o.dst=true) (ho:o.dst=some d) {t e0:TypeId} {ti te:TI} {tag:Nat} (ht:lk c.T t=some ti) (hk:ti.k= .slice e0 tag) (hte:lk c.T e0=some te) {z:List Cell} (hz:te.zero=some z)
 {x y:Operand} {x' y':Opd} (hx:compX c x=some x') (hy:compX c y=some y') (hop:o.op= .makeSlice t x y) (e:opF C s (.mks d tag te.bytes z x' y')=some s'):o.wp K.P a w (Post K μ E A nt s s' w) Q:=by
 obtain ⟨h1,h2,h3,ie,zv0,h4,h5,h6,h7,h8,h9⟩:=(TI.ok_of (hc.T _ _ ht)).slice _ _ hk
 obtain ⟨i,g1,g2,g3,g4⟩:=(TI.ok_of (hc.T _ _ hte)).info
 obtain ⟨zv,g5,g6,g7⟩:=g4 z hz
 rw[h4] at g1;injection g1 with g1;subst g1
 rw[h8] at g5;injection g5 with g5;subst g5
 have hzl:z.length=K.SZ tag:=by omega
 have hR:=valsAre_R (K:=K) (μ:=μ) g6
 have hzs:zv0.cells.size=z.length:=by have:=hR.length;simp at this;omega
 simp only[opF] at e
 split at e
 ·rename_i l m hl hm
  split at e
  ·rename_i hcond
   obtain ⟨c1,c2,c3,c4⟩:=hcond
   injection e with e;subst e
   obtain ⟨k1,q1⟩:=evi_R hc S hx hl
   obtain ⟨k2,q2⟩:=evi_R hc S hy hm
   have hr:=run_make (P:=K.P) w t e0 ie zv0 h1 h4 h8 k1 k2 l m c1 c2 (by rw[g3,Int.mul_comm];omega) (by omega)
   have hrun:(execOp a.eval o).run K.P w= .ok (.value (.slice (some ⟨w.heap.size,0,none⟩) l.toNat m.toNat)) (w.alloc (.cells (madeCells zv0.cells (m.toNat*z.length)) (K.ET tag))):=by
    unfold execOp;rw[hop]
    have:ie.size=z.length:=by omega
    rw[this] at hr
    simp[q1,q2,hr,h3]
   refine wp_val hrun ?_
   have hp:=post_row (o:=o) (w1:=w.alloc (.cells (madeCells zv0.cells (m.toNat*z.length)) (K.ET tag))) S hE hd ho (tag:=tag) (sz:=z.length) (cap:=m.toNat) (rows:=List.replicate l.toNat z) h2 hzl
    (RowsR.replicate hR (by omega) l.toNat m.toNat (by omega)) (size_madeCells _ _) (by simp;omega) (by unfold maxLen;omega) (.inl rfl)
   simp only[List.length_replicate] at hp
   exact hp
  ·cases e
 ·cases e

/-! #### cuts -/
theorem bnd_R (hc:CCok K c) (S:SE K μ lam E A nt s a w) {lo:Option Operand} {lo':Option Opd} (h:compO c lo=some lo') {n dflt:Int} (e:bndF s.env lo' dflt=some n):
 (lo=none∧n=dflt)∨ ∃k,lo.map a.eval=some (.int k n):=by
 cases lo with
 | none=>injection h with h;subst h;injection e with e;exact .inl ⟨rfl,e.symm⟩
 | some x=>
   simp only[compO,Option.map_eq_some_iff] at h
   obtain ⟨y,h1,h2⟩:=h
   subst h2
   obtain ⟨k,h3⟩:=evi_R hc S h1 e
   exact .inr ⟨k,by simp[h3]⟩
theorem run_cut {t e0:TypeId} (h1:K.P.underlying t=some (.slice e0)) {sz:Nat} (hsz: ∀w:World,(sizeOf e0).run K.P w= .ok sz w) {ad:Option Addr} {len cap:Nat} (hlc:len≤cap) {lo hi:Option Operand} {l h:Int}
 (hlo:(lo=none∧l=0)∨ ∃k,lo.map a.eval=some (.int k l)) (hhi:(hi=none∧h=len)∨ ∃k,hi.map a.eval=some (.int k h)) (c1:0≤l) (c2:l≤h) (c3:h≤len):
 (Instr.sliceAt t (.slice ad len cap) (lo.map a.eval) (hi.map a.eval) none).run K.P w= .ok (sliced ad l.toNat h.toNat cap sz) w:=by
 have he:K.P.elem t=e0:=by simp[Program.elem,h1]
 have h1':K.P.underlying t=some (.slice (K.P.elem t)):=by rw[he];exact h1
 rw[run_sliceAt_slice w t _ _ _ _ h1']
 rcases hlo with ⟨rfl,rfl⟩ | ⟨k,hlo⟩<;>rcases hhi with ⟨rfl,rfl⟩ | ⟨k',hhi⟩
 ·simp only[Option.map_none];rw[run_slice_all w t ad len cap h1',he,hsz];simp
 ·simp only[Option.map_none];rw[hhi,run_slice_h w t ad len cap h1' k' h (by omega) (by omega),he,hsz];rfl
 ·simp only[Option.map_none];rw[hlo,run_slice_l w t ad len cap h1' k l c1 (by omega),he,hsz];simp
 ·rw[hlo,hhi,run_slice_lh w t ad len cap h1' k k' l h c1 c2 (by omega),he,hsz];rfl
theorem cut_sound (hc:CCok K c) (S:SE K μ lam E A nt s a w) {d:Nat} (hd:inB nt o.dst=true) (ho:o.dst=some d) {t e0:TypeId} {ti:TI} {tag:Nat} (ht:lk c.T t=some ti) (hk:ti.k= .slice e0 tag) {x:Operand} {lo hi:Option Operand} {x':Opd} {lo' hi':Option Opd} (hx:compX c x=some x') (hlo:compO c lo=some lo') (hhi:compO c hi=some hi')
 (hop:o.op= .slice t x lo hi none) (e:opF C s (.cut d tag x' lo' hi')=some s'):o.wp K.P a w (Post K μ E A nt s s' w) Q:=by
 obtain ⟨h1,h2,h3,ie,zv0,h4,h5,h6,h7,h8,h9⟩:=(TI.ok_of (hc.T _ _ ht)).slice _ _ hk
 have hsz: ∀w:World,(sizeOf e0).run K.P w= .ok (K.SZ tag) w:=fun w=>by simp[sizeOf,typeInfo,h4,h5]
 simp only[opF] at e
 split at e
 ·rename_i z id off len hv
  split at e
  ·rename_i l h hl hh
   split at e
   ·rename_i hcond
    obtain ⟨rfl,c1,c2,c3⟩:=hcond
    injection e with e;subst e
    obtain ⟨loc,ad,cap,q1,q2,q3,q4,q5,q6,q7⟩:=evc_R hc S hx hv
    have hlz:loc.sz=K.SZ z:=by rw[←q2];exact (S.hp.dom _ _ q1).2 (by rw[q2];exact q3)
    have hr:=run_cut (a:=a) (w:=w) h1 hsz (ad:=some ad) q5 (bnd_R hc S hlo hl) (bnd_R hc S hhi hh) c1 c2 c3
    refine wp_val (v:=sliced (some ad) l.toNat h.toNat cap (K.SZ z)) (w':=w) ?_ (post_set S hd ho (v:= .c (.sl z id (off+l.toNat) (h.toNat-l.toNat))) ?_)
    ·unfold execOp;rw[hop]
     simp only[q4,Option.map_none,Sem.run_bind,hr,Result.andThen_ok,Sem.run_pure]
    ·unfold sliced
     by_cases hcl:cap=l.toNat
     ·rw[if_pos hcl]
      refine ⟨loc,ad,cap-l.toNat,q1,q2,q3,rfl,by omega,by omega,?_⟩
      rcases Nat.eq_zero_or_pos (off+l.toNat) with hz | hz
      ·rcases q7 with ⟨q8,q9,q10⟩ | ⟨q8,q9⟩
       ·left
        have hl0:l.toNat=0:=by omega
        have ho0:off=0:=by omega
        subst ho0
        rw[hl0] at *
        exact ⟨by simpa using q8,by simpa using q9,fun _=>by simpa using q10 rfl⟩
       ·right;exact ⟨by omega,.inr (q9.resolve_left (by omega))⟩
      ·right;exact ⟨by omega,.inl (by omega)⟩
     ·rw[if_neg hcl]
      rcases q7 with ⟨q8,q9,q10⟩ | ⟨q8,q9⟩
      ·refine ⟨loc,ad.add (l.toNat*K.SZ z),cap-l.toNat,q1,q2,q3,rfl,by omega,by omega,.inl ⟨?_,?_,?_⟩⟩
       ·rw[q8,addr_add,hlz,Nat.add_mul];simp[Nat.add_assoc]
       ·rw[show off+l.toNat+(cap-l.toNat)=off+cap by omega];exact q9
       ·intro hz
        have hl0:l.toNat=0:=by omega
        rw[hl0,Nat.sub_zero];exact q10 (by omega)
      ·refine ⟨loc,ad.add (l.toNat*K.SZ z),cap-l.toNat,q1,q2,q3,rfl,by omega,by omega,(.inr ⟨by omega,q9.imp (fun _=>by omega) (fun h=>h)⟩)⟩
   ·cases e
  ·cases e
 ·rename_i hv
  split at e
  ·rename_i l h hl hh
   split at e
   ·rename_i hcond
    obtain ⟨rfl,rfl⟩:=hcond
    injection e with e;subst e
    have q4:a.eval x= .slice none 0 0:=evc_R hc S hx hv
    have hr:=run_cut (a:=a) (w:=w) h1 hsz (ad:=none) (len:=0) (cap:=0) (Nat.le_refl _) (bnd_R hc S hlo hl) (bnd_R hc S hhi hh) (by omega) (by omega) (by omega)
    refine wp_val (v:= .slice none 0 0) (w':=w) ?_ (post_set S hd ho (v:= .c .nil) rfl)
    unfold execOp;rw[hop]
    simp only[q4,Option.map_none,Sem.run_bind,hr,Result.andThen_ok,Sem.run_pure]
    rfl
   ·cases e
  ·cases e
 ·cases e
theorem scut_sound (hc:CCok K c) (S:SE K μ lam E A nt s a w) {d:Nat} (hd:inB nt o.dst=true) (ho:o.dst=some d) {t:TypeId} {ti:TI} (ht:lk c.T t=some ti) (hk:ti.k= .str) {x:Operand} {lo hi:Option Operand} {x':Opd} {lo' hi':Option Opd} (hx:compX c x=some x') (hlo:compO c lo=some lo') (hhi:compO c hi=some hi')
 (hop:o.op= .slice t x lo hi none) (e:opF C s (.scut d x' lo' hi')=some s'):o.wp K.P a w (Post K μ E A nt s s' w) Q:=by
 have T:=(TI.ok_of (hc.T _ _ ht)).str hk
 simp only[opF] at e
 split at e
 ·rename_i b hb
  split at e
  ·rename_i l h hl hh
   split at e
   ·rename_i hcond
    obtain ⟨c1,c2,c3⟩:=hcond
    injection e with e;subst e
    have h1:a.eval x= .string b:=evc_R hc S hx hb
    refine wp_val (v:= .string (b.extract l.toNat h.toNat)) (w':=w) ?_ (post_set S hd ho rfl)
    have hh0:0≤h:=by omega
    have e1:(h.toNat:Int)=h:=Int.toNat_of_nonneg hh0
    unfold execOp;rw[hop]
    rcases bnd_R hc S hlo hl with ⟨rfl,rfl⟩ | ⟨k,hlo2⟩<;>rcases bnd_R hc S hhi hh with ⟨rfl,rfl⟩ | ⟨k',hhi2⟩
    ·simp[h1,Instr.sliceAt,Instr.slice,run_underlying T,Instr.sliceBounds]
    ·simp[h1,hhi2,Instr.sliceAt,Instr.slice,run_underlying T,Instr.sliceBounds,run_sliceBound,hh0,c3]
    ·simp[h1,hlo2,Instr.sliceAt,Instr.slice,run_underlying T,Instr.sliceBounds,run_sliceBound,c1,c2]
    ·simp[h1,hlo2,hhi2,Instr.sliceAt,Instr.slice,run_underlying T,Instr.sliceBounds,run_sliceBound,c1,c2,c3,hh0,e1]
   ·cases e
  ·cases e
 ·cases e
theorem sidx_sound (hc:CCok K c) (S:SE K μ lam E A nt s a w) {d:Nat} (hd:inB nt o.dst=true) (ho:o.dst=some d) {t:TypeId} {ti:TI} (ht:lk c.T t=some ti) (hk:ti.k= .str) {x i:Operand} {x' i':Opd} (hx:compX c x=some x') (hi:compX c i=some i') (hop:o.op= .index t x i)
 (e:opF C s (.sidx d x' i')=some s'):o.wp K.P a w (Post K μ E A nt s s' w) Q:=by
 have T:=(TI.ok_of (hc.T _ _ ht)).str hk
 simp only[opF] at e
 split at e
 ·rename_i b n hb hn
  split at e
  ·rename_i h0
   obtain ⟨ch,e1,e2⟩:=Option.bind_eq_some_iff.1 e
   injection e2 with e2;subst e2
   have h1:a.eval x= .string b:=evc_R hc S hx hb
   obtain ⟨k,h2⟩:=evi_R hc S hi hn
   refine wp_val (v:= .int .u8 ch.toNat) (w':=w) ?_ (post_set S hd ho rfl)
   unfold execOp;rw[hop]
   simp[h1,h2,Instr.index,asIntOf,run_underlying T,h0,e1]
  ·cases e
 ·cases e

/-! #### append -/
theorem rows_list {h:Heap} (H:HR K μ h w) {tag id off len:Nat} {v:Value} (hv:(Cell.sl tag id off len).R K μ v) {rows new:List (List Cell)} (hg:h.get id=some rows) (hn:off+len≤rows.length) (he:new=(rows.drop off).take len) (hs:0<K.SZ tag):
 ∃(ad:Addr) (cap:Nat) (vals:List Value),v= .slice (some ad) len cap∧vals.length=len*K.SZ tag∧(∀(j:Nat) u,vals[j]? =some u→w.cell? (ad.add j)=some u)∧(∀u∈vals,u.oneCell'=true)∧
  ∀(i:Nat) r,new[i]? =some r→r.length=K.SZ tag∧ ∀(j:Nat) x,r[j]? =some x→ ∃u,vals[i*K.SZ tag+j]? =some u∧x.R K μ u:=by
 obtain ⟨l,ad,cap,q1,q2,q3,q4,q5,q6,q7⟩:=hv
 have hlz:l.sz=K.SZ tag:=by rw[←q2];exact (H.dom _ _ q1).2 (by rw[q2];exact q3)
 rcases Nat.eq_zero_or_pos len with h0 | h0
 ·subst h0
  refine ⟨ad,cap,[],q4,by simp,fun j u hj=>by simp at hj,fun u hu=>by simp at hu,?_⟩
  intro i r hi
  rw[he] at hi;simp at hi
 ·rcases q7 with ⟨q8,q9,q10⟩ | ⟨q8,_⟩
  ·have hblk: ∃cs e fr,w.heap[l.blk]? =some (.cells cs e fr):=by
    obtain ⟨r,hr⟩: ∃r,rows[off]? =some r:=⟨rows[off]'(by omega),by simp⟩
    obtain ⟨_,cs,e,fr,h2,_⟩:=H.cells id l rows q1 hg off r hr
    exact ⟨cs,e,fr,h2⟩
   obtain ⟨cs,e,fr,hb⟩:=hblk
   -- each cell of the shown elements
   have hcell: ∀k,k<len*K.SZ tag→ ∃u x,cs[l.base+off*l.sz+k]? =some u∧(Cell.R K μ x u):=by
    intro k hk
    have hd:k / K.SZ tag<len:=Nat.div_lt_of_lt_mul (by rw[Nat.mul_comm];exact hk)
    have hm:k%K.SZ tag<K.SZ tag:=Nat.mod_lt _ hs
    obtain ⟨r,hr⟩: ∃r,rows[off+k / K.SZ tag]? =some r:=⟨rows[off+k / K.SZ tag]'(by omega),by simp⟩
    obtain ⟨hrl,cs',e',fr',h2,h3⟩:=H.cells id l rows q1 hg _ r hr
    rw[hb] at h2;injection h2 with h2;injection h2 with h2 _ _;subst h2
    obtain ⟨x,hx⟩: ∃x,r[k%K.SZ tag]? =some x:=⟨r[k%K.SZ tag]'(by omega),by simp⟩
    obtain ⟨u,h4,h5⟩:=h3 _ x hx
    refine ⟨u,x,?_,h5⟩
    rw[←h4]
    congr 1
    rw[hlz,Nat.add_mul]
    have:=Nat.div_add_mod k (K.SZ tag)
    rw[Nat.mul_comm] at this
    omega
   refine ⟨ad,cap,(cs.toList.drop (l.base+off*l.sz)).take (len*K.SZ tag),q4,?_,?_,?_,?_⟩
   ·obtain ⟨u,x,h1,_⟩:=hcell (len*K.SZ tag-1) (by have:0<len*K.SZ tag:=Nat.mul_pos h0 hs;omega)
    have:=(Array.getElem?_eq_some_iff.1 h1).1
    simp;omega
   ·intro j u hj
    rw[List.getElem?_take] at hj
    split at hj
    ·rw[List.getElem?_drop] at hj
     rw[q8,addr_add,cell_of_row w _ _ cs e fr hb];simpa using hj
    ·cases hj
   ·intro u hu
    obtain ⟨j,hj,rfl⟩:=List.mem_iff_getElem.1 hu
    have hjl:j<len*K.SZ tag:=by simp at hj;omega
    obtain ⟨u',x,h1,h2⟩:=hcell j hjl
    have h1:=(Array.getElem?_eq_some_iff.1 h1).2
    simp only[List.getElem_take,List.getElem_drop,Array.getElem_toList]
    rw[h1];exact h2.one
   ·intro i r hi
    rw[he,List.getElem?_take] at hi
    split at hi
    ·rename_i hil
     rw[List.getElem?_drop] at hi
     obtain ⟨hrl,cs',e',fr',h2,h3⟩:=H.cells id l rows q1 hg _ r hi
     rw[hb] at h2;injection h2 with h2;injection h2 with h2 _ _;subst h2
     refine ⟨by omega,fun j x hj=> ?_⟩
     obtain ⟨u,h4,h5⟩:=h3 j x hj
     refine ⟨u,?_,h5⟩
     have hjl:j<r.length:=(List.getElem?_eq_some_iff.1 hj).1
     have hmul:(i+1)*K.SZ tag≤len*K.SZ tag:=Nat.mul_le_mul_right _ hil
     rw[Nat.add_mul,Nat.one_mul] at hmul
     rw[List.getElem?_take,if_pos (by omega),List.getElem?_drop,Array.getElem?_toList,←h4]
     congr 1
     rw[hlz,Nat.add_mul];omega
    ·cases hi
  ·omega

/-- What append's own law tells, as a state. -/
theorem post_append (S:SE K μ lam E A nt s a w) (hE:E≤w.heap.size) {d:Nat} (hd:inB nt o.dst=true) (ho:o.dst=some d) {k tag n m:Nat} {e0:TypeId} {old new:List (List Cell)} {xs vals:List Value} {v':Value} {w':World} (h2:tag≠0) (hn:old.length=n) (hm:new.length=m)
 (hold: ∀(i:Nat) r,old[i]? =some r→r.length=K.SZ tag∧ ∀(j:Nat) x,r[j]? =some x→ ∃u,xs[i*K.SZ tag+j]? =some u∧x.R K μ u)
 (hnew: ∀(i:Nat) r,new[i]? =some r→r.length=K.SZ tag∧ ∀(j:Nat) x,r[j]? =some x→ ∃u,vals[i*K.SZ tag+j]? =some u∧x.R K μ u)
 {base:Nat} (hown:w'.ownsRow base e0 (K.SZ tag) v' (n+m) (xs++vals)) (hos:w'.os=w.os) (htape:w'.tape=w.tape) (hout:w'.output=w.output) (hsz:w.heap.size≤w'.heap.size) (hdr:w.drawn≤w'.drawn)
 (hfar: ∀id l rows,id≠k→μ id=some l→s.hp.get id=some rows→(K.O≤id∨rows≠[])→l.blk<w.heap.size∧(True→w'.heap[l.blk]? =w.heap[l.blk]?))
 (hlam: ∀k b,lam k=some b→b<w.heap.size∧w'.heap[b]? =w.heap[b]?) (hframe: ∀b,b<w.heap.size→ ¬A b→w'.heap[b]? =w.heap[b]?)
 (hblk: ∀g,v'.ownBlock=some g→g=w.heap.size∨(A g∧(∀(id:Nat) (l:Loc) (rows:List (List Cell)),id≠k→μ id=some l→s.hp.get id=some rows→(K.O≤id∨rows≠[])→l.blk≠g)∧ ∀k b,lam k=some b→b≠g))
 (h3:K.ET tag=e0) (hxl:xs.length=n*K.SZ tag) (hnz:n+m=0→v'≠ .slice none 0 0):
 Post K μ E A nt s ({s with hp:=(s.hp.kill k).push (old++new)}.set d (.c (.sl tag s.hp.next 0 (n+m)))) w (a.put o.dst v') w':=by
 rcases hown.2 with ⟨hv,hz⟩ | ⟨g,cap,cur,hv,hbg,hb,hc1,hc2,hc3,hc4⟩
 ·exact absurd hv (hnz hz)
 ·have hg:v'.ownBlock=some g:=by rw[hv];rfl
  have hrows:RowsR (K:=K) μ (old++new) (K.SZ tag) cur:=by
   have pre: ∀(i:Nat) u,(xs++vals)[i]? =some u→cur[i]? =some u:=by
    intro i u hi
    rw[←hc4,List.getElem?_take] at hi
    split at hi
    ·simpa using hi
    ·cases hi
   intro i r hi
   rw[List.getElem?_append] at hi
   split at hi
   ·obtain ⟨p1,p2⟩:=hold i r hi
    refine ⟨p1,fun j x hj=> ?_⟩
    obtain ⟨u,p3,p4⟩:=p2 j x hj
    exact ⟨u,pre _ _ (by rw[List.getElem?_append_left (List.getElem?_eq_some_iff.1 p3).1];exact p3),p4⟩
   ·rename_i hil
    obtain ⟨p1,p2⟩:=hnew _ r hi
    refine ⟨p1,fun j x hj=> ?_⟩
    obtain ⟨u,p3,p4⟩:=p2 j x hj
    have hmul:n*K.SZ tag≤i*K.SZ tag:=Nat.mul_le_mul_right _ (by omega)
    refine ⟨u,pre _ _ (by
     rw[List.getElem?_append_right (by omega),←p3]
     congr 1
     rw[hxl,hn,Nat.sub_mul];omega),p4⟩
  have hll:(old++new).length=n+m:=by simp[hn,hm]
  have hmul:(n+m)*K.SZ tag≤cap*K.SZ tag:=Nat.mul_le_mul_right _ hc1
  have hgA:A g:=by
   rcases hblk g hg with h | h
   ·exact S.big g (by omega)
   ·exact h.1
  rw[ho] at hd ⊢
  have S1:=S.pushK (k:=k) (g:=g) (e:=e0) (tag:=tag) (sz:=K.SZ tag) (rows:=old++new) (fun _=>⟨rfl,h3.symm⟩) hb
   (fun id l rows hne hm' hg' hor=>by
    obtain ⟨p1,p2⟩:=hfar id l rows hne hm' hg' hor
    refine ⟨?_,p2 trivial⟩
    rcases hblk g hg with h | h
    ·omega
    ·exact h.2.1 id l rows hne hm' hg' hor) hsz hgA
   (fun k b hk=>by
    obtain ⟨p1,p2⟩:=hlam k b hk
    refine ⟨?_,p2⟩
    rcases hblk g hg with h | h
    ·omega
    ·exact h.2.2 k b hk) hrows (by rw[hll,hc3];exact hmul)
  refine ⟨_,lam,S1.set (by simpa[inB] using hd) (v:= .c (.sl tag s.hp.next 0 (n+m))) (u:=v') ?_,Mu.push_new' (h:=Mu.push_ext S.hp _),⟨hos,htape,hout,hsz,hdr,hframe⟩⟩
  exact ⟨_,_,cap,Mu.push_new _ _ _,rfl,h2,hv,hc1,hc2,.inl ⟨by simp,by simp[hc3],fun _=>hc3⟩⟩
theorem app_sound (hc:CCok K c) (S:SE K μ lam E A nt s a w) (hE:E≤w.heap.size) {d:Nat} (hd:inB nt o.dst=true) (ho:o.dst=some d) {t e0:TypeId} {ti te:TI} {tag:Nat} (ht:lk c.T t=some ti) (hk:ti.k= .slice e0 tag) (hte:lk c.T e0=some te) {cl:Call} {x y:Operand} {x' y':Opd}
 (hx:compX c x=some x') (hy:compX c y=some y') (hop:o.op= .call cl) (hcl:cl.callee= .builtin .append) (hargs:cl.args.toList=[x,y]) (hts:cl.argTypes.toList=[t,t]) (e:opF C s (.app d tag te.bytes x' y')=some s'):o.wp K.P a w (Post K μ E A nt s s' w) Q:=by
 obtain ⟨h1,h2,h3,ie,zv0,h4,h5,h6,h7,h8,h9⟩:=(TI.ok_of (hc.T _ _ ht)).slice _ _ hk
 obtain ⟨i,g1,g2,g3,_⟩:=(TI.ok_of (hc.T _ _ hte)).info
 rw[h4] at g1;injection g1 with g1;subst g1
 have ha:cl.args= #[x,y]:=by apply Array.ext';simpa using hargs
 have hta:cl.argTypes= #[t,t]:=by apply Array.ext';simpa using hts
 have hrun: ∀{v:Value} {w':World},(Builtin.append_ #[t,t] o.type #[a.eval x,a.eval y]).run K.P w= .ok v w'→(execOp a.eval o).run K.P w= .ok (.value v) w':=by
  intro v w' hr
  obtain ⟨cs,hq⟩:=run_builtin (a:=a) hop hcl
  rw[hq,ha,hta]
  have:(#[x,y].map a.eval)= #[a.eval x,a.eval y]:=by simp
  rw[this]
  simp[builtin,hr]
 have hsz: ∀w:World,(sizeOf e0).run K.P w= .ok (K.SZ tag) w:=fun w=>by simp[sizeOf,typeInfo,h4,h5]
 have hndx:((TypeDesc.slice e0) matches .int _)=false:=rfl
 obtain ⟨p,e1,e2⟩:=Option.bind_eq_some_iff.1 e
 obtain ⟨r,e3,e4⟩:=Option.bind_eq_some_iff.1 e2
 obtain ⟨res,e5,e6⟩:=Option.bind_eq_some_iff.1 e4
 injection e6 with e6;subst e6
 have hp:=evc_R hc S hx e1
 have hr:=evc_R hc S hy e3
 unfold appF at e5
 split at e5
 ·rename_i htag
  obtain ⟨new,e7,e8⟩:=Option.bind_eq_some_iff.1 e5
  -- what is appended, as cells in memory
  have hnew:(r= .nil∧new=[])∨ ∃(ad:Addr) (m cap:Nat) (vals:List Value),a.eval y= .slice (some ad) m cap∧new.length=m∧vals.length=m*K.SZ tag∧(∀(j:Nat) u,vals[j]? =some u→w.cell? (ad.add j)=some u)∧(∀u∈vals,u.oneCell'=true)∧
   ∀(i:Nat) r,new[i]? =some r→r.length=K.SZ tag∧ ∀(j:Nat) x,r[j]? =some x→ ∃u,vals[i*K.SZ tag+j]? =some u∧x.R K μ u:=by
   cases r with
   | nil=>injection e7 with e7;exact .inl ⟨rfl,e7.symm⟩
   | sl z id off len=>
     have hz:z=tag:=by simpa[isTag] using htag
     subst hz
     simp only[rowsOf] at e7
     obtain ⟨rows,q1,q2⟩:=Option.bind_eq_some_iff.1 e7
     split at q2
     ·rename_i hfit
      injection q2 with q2
      obtain ⟨ad,cap,vals,f1,f2,f3,f4,f5⟩:=rows_list S.hp hr q1 hfit q2.symm h6
      exact .inr ⟨ad,len,cap,vals,f1,by rw[←q2];simp;omega,f2,f3,f4,f5⟩
     ·cases q2
   | _=>simp[isTag] at htag
  cases p with
  | nil=>
    have hpv:a.eval x= .slice none 0 0:=hp
    simp only at e8
    split at e8
    ·rename_i hn0
     injection e8 with e8;subst e8
     refine wp_val (v:= .slice none 0 0) (w':=w) (hrun ?_) (post_set S hd ho (v:= .c .nil) rfl)
     rcases hnew with ⟨rfl,_⟩ | ⟨ad,m,cap,vals,f1,f2,f3,f4,f5,f6⟩
     ·have hrv:a.eval y= .slice none 0 0:=hr
      rw[hpv,hrv]
      simp[Builtin.append_,run_underlying h1,hsz,Builtin.lenOf,Builtin.firstCells]
     ·rw[hpv,f1]
      have hm:m=0:=by omega
      subst hm
      have hl:=run_loadCells_list (P:=K.P) w ad [] (by simp)
      simp only[List.length_nil] at hl
      simp[Builtin.append_,run_underlying h1,hsz,Builtin.lenOf,Builtin.firstCells,hl]
    ·split at e8
     ·rename_i hn0 hb
      injection e8 with e8;subst e8
      rcases hnew with ⟨_,rfl⟩ | ⟨ad,m,cap,vals,f1,f2,f3,f4,f5,f6⟩
      ·simp at hn0
      ·obtain ⟨v',w',r1,r2,r3,r4,r5,r6⟩:=Z.run_append_own_d (P:=K.P) w w.heap.size t o.type e0 ie zv0 (K.SZ tag) te.bytes h1 h4 h8 h5 g3 (by rw[h9,h5]) h6 (.slice none 0 0) 0 [] ⟨by simp,.inl ⟨rfl,rfl⟩⟩ ad m cap vals f3 f4 f5
        (by rw[f2] at hb;have:m*1≤m*te.bytes:=Nat.mul_le_mul_left _ (by omega)
            unfold maxLen;omega) (by rw[f2] at hb;simpa using hb) (Nat.le_refl _)
       rw[←hpv,←f1] at r1
       refine wp_val (hrun r1) ?_
       simp only[Nat.zero_add,List.nil_append] at r2
       have:=post_append (o:=o) (k:=s.hp.next) S hE hd ho h2 (old:=[]) (new:=new) (n:=0) (m:=m) (xs:=[]) (vals:=vals) rfl f2 (fun i r hi=>by simp at hi) f6 (by simpa using r2) r3.os r3.tape r3.output r3.size r6
        (hfar:=fun id l rows hne hm hg hor=>by
         have hlt:=S.hp.lt hm hg hor
         exact ⟨hlt,fun _=>r3.block _ hlt (by simp[Value.ownBlock])⟩)
        (hlam:=fun k b hk=>⟨(S.lamE k b hk).2,r3.block _ (S.lamE k b hk).2 (by simp[Value.ownBlock])⟩)
        (hframe:=fun b hb hA=>r3.block b hb (by simp[Value.ownBlock]))
        (hblk:=fun g hg=>by
         rcases r5 with r5 | r5
         ·rw[r5] at hg;simp[Value.ownBlock] at hg
         ·rw[r5] at hg;injection hg with hg;exact .inl hg.symm)
        h3 (by simp) (fun hz=>by rw[f2] at hn0;omega)
       rw[Heap.push_kill_next] at this
       simpa[f2] using this
     ·cases e8
  | sl z id off len=>
    simp only at e8
    obtain ⟨rows,e9,e10⟩:=Option.bind_eq_some_iff.1 e8
    split at e10
    ·rename_i hcond
     obtain ⟨rfl,rfl,hlen,hfl,hb⟩:=hcond
     injection e10 with e10;subst e10
     obtain ⟨l,ad,cap,q1,q2,q3,q4,q5,q6,q7⟩:=hp
     have hO:K.O≤id:=Nat.le_trans S.fl.1 hfl
     obtain ⟨o1,⟨cur,el,o2,o3,o4⟩,o5⟩:=S.hp.own id l rows hO q1 e9
     have hel:el=e0:=by rw[o4 (by rw[q2];exact q3),q2,h3]
     subst hel
     have hlz:l.sz=K.SZ z:=by rw[←q2];exact (S.hp.dom _ _ q1).2 (by rw[q2];exact q3)
     rcases q7 with ⟨q8,q9,q10⟩ | ⟨_,q8⟩
     ·have q8:ad=⟨l.blk,0,none⟩:=by rw[q8,o1];simp
      have hcap:=q10 rfl
      have hblt:l.blk<w.heap.size:=S.hp.lt q1 e9 (.inl hO)
      have hown:w.ownsRow l.blk el (K.SZ z) (a.eval x) len (cur.toList.take (len*K.SZ z)):=by
       refine ⟨?_,.inr ⟨l.blk,cap,cur,by rw[q4,q8],Nat.le_refl _,o2,q5,q6,by rw[o3,hcap,hlz],rfl⟩⟩
       have hm:len*K.SZ z≤cap*K.SZ z:=Nat.mul_le_mul_right _ q5
       rw[List.length_take,Array.length_toList,o3,hcap,hlz];omega
      have hold: ∀(i:Nat) r,rows[i]? =some r→r.length=K.SZ z∧ ∀(j:Nat) x,r[j]? =some x→ ∃u,(cur.toList.take (len*K.SZ z))[i*K.SZ z+j]? =some u∧x.R K μ u:=by
       intro i r hi
       obtain ⟨p1,c',e',fr',p2,p3⟩:=S.hp.cells id l rows q1 e9 i r hi
       rw[o2] at p2;injection p2 with p2;injection p2 with p2 _ _;subst p2
       refine ⟨by omega,fun j x hj=> ?_⟩
       obtain ⟨u,p4,p5⟩:=p3 j x hj
       refine ⟨u,?_,p5⟩
       have hjl:j<r.length:=(List.getElem?_eq_some_iff.1 hj).1
       have hil:i<rows.length:=(List.getElem?_eq_some_iff.1 hi).1
       have hm:(i+1)*K.SZ z≤len*K.SZ z:=Nat.mul_le_mul_right _ (by omega)
       rw[Nat.add_mul,Nat.one_mul] at hm
       rw[List.getElem?_take,if_pos (by omega),Array.getElem?_toList,←p4,o1,hlz,Nat.zero_add]
      have hvb:(a.eval x).ownBlock=some l.blk:=by rw[q4,q8];rfl
      have hfar0: ∀(id':Nat) (l':Loc) (rows':List (List Cell)),id'≠id→μ id'=some l'→s.hp.get id'=some rows'→(K.O≤id'∨rows'≠[])→l'.blk≠l.blk:=fun id' l' rows' hne hm hg hor=>Ne.symm (S.hp.inj id id' l l' rows rows' hO (Ne.symm hne) q1 hm e9 hg hor)
      have hlam0: ∀k b,lam k=some b→b≠l.blk:=fun k b hk=>Ne.symm (S.lamOwn k b id l rows hk q1 e9 (.inl hO))
      have hA0:A l.blk:=S.wr id l rows hfl q1 e9
      rcases hnew with ⟨hrn,rfl⟩ | ⟨ad2,m,cap2,vals,f1,f2,f3,f4,f5,f6⟩
      · -- nothing is appended: the same slice
        have hrv:a.eval y= .slice none 0 0:=by rw[hrn] at hr;exact hr
        refine wp_val (v:=a.eval x) (w':=w) (hrun ?_) ?_
        ·rw[hrv,q4]
         have hlc:len≤cap:=q5
         simp[Builtin.append_,run_underlying h1,hsz,Builtin.lenOf,Builtin.firstCells,hlc,storeCells]
        ·have:=post_append (o:=o) (k:=id) (w':=w) S hE hd ho h2 (old:=rows) (new:=[]) (n:=len) (m:=0) (xs:=cur.toList.take (len*K.SZ z)) (vals:=[]) hlen.symm rfl hold (fun i r hi=>by simp at hi) (by simpa using hown) rfl rfl rfl (Nat.le_refl _) (Nat.le_refl _)
          (hfar:=fun id' l' rows' hne hm hg hor=>⟨S.hp.lt hm hg hor,fun _=>rfl⟩)
          (hlam:=fun k b hk=>⟨(S.lamE k b hk).2,rfl⟩)
          (hframe:=fun b hb hA=>rfl)
          (hblk:=fun g hg=>by rw[hvb] at hg;injection hg with hg;subst hg;exact .inr ⟨hA0,hfar0,hlam0⟩)
          h3 hown.1 (fun _=>by rw[q4];simp)
         simpa using this
      ·obtain ⟨v',w',r1,r2,r3,r4,r5,r6⟩:=Z.run_append_own_d (P:=K.P) w l.blk t o.type el ie zv0 (K.SZ z) te.bytes h1 h4 h8 h5 g3 (by rw[h9,h5]) h6 (a.eval x) len (cur.toList.take (len*K.SZ z)) hown ad2 m cap2 vals f3 f4 f5
        (by rw[f2] at hb;have:(len+m)*1≤(len+m)*te.bytes:=Nat.mul_le_mul_left _ (by omega)
            unfold maxLen;omega) (by rw[f2] at hb;simpa using hb) (Nat.le_of_lt hblt)
       rw[←f1] at r1
       refine wp_val (hrun r1) ?_
       have:=post_append (o:=o) (k:=id) S hE hd ho h2 (old:=rows) (new:=new) (n:=len) (m:=m) (xs:=cur.toList.take (len*K.SZ z)) (vals:=vals) hlen.symm f2 hold f6 r2 r3.os r3.tape r3.output r3.size r6
        (hfar:=fun id' l' rows' hne hm hg hor=>by
         have hlt:=S.hp.lt hm hg hor
         exact ⟨hlt,fun _=>r3.block _ hlt (by rw[hvb];intro hq;injection hq with hq;exact hfar0 id' l' rows' hne hm hg hor hq)⟩)
        (hlam:=fun k b hk=>⟨(S.lamE k b hk).2,r3.block _ (S.lamE k b hk).2 (by rw[hvb];intro hq;injection hq with hq;exact hlam0 k b hk hq)⟩)
        (hframe:=fun b hb hA=>r3.block b hb (by rw[hvb];intro hq;injection hq with hq;exact hA (hq▸hA0)))
        (hblk:=fun g hg=>by
         rcases r5 with r5 | r5
         ·rw[r5,hvb] at hg;injection hg with hg;subst hg;exact .inr ⟨hA0,hfar0,hlam0⟩
         ·rw[r5] at hg;injection hg with hg;exact .inl hg.symm)
        h3 hown.1 (fun _ hq=>by have:=(r4.1 hq).1;rw[q4] at this;simp at this)
       simpa[f2] using this
     ·rcases q8 with q8 | q8
      ·exact absurd rfl q8
      ·omega
    ·cases e10
  | _=>simp at e8
 ·cases e5
end
end Go.Proofs.Yteagcdhkobeanaa.A
