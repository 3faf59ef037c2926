/- A program's table, checked entry by entry; structs that are compared. -/
import Derived.Test.YteagcdhkobeanaaB5
import Derived.Laws.StructEq
namespace Go.Proofs.Yteagcdhkobeanaa.A
open Go Go.RowKit

/-! ### structs compared cell by cell -/
def isAggD:TypeDesc→Bool
 | .struct _ | .array _ _=>true
 | _=>false
def eqFlds (R:TypeId→Option (List EK)):Nat→List Field→Option (List EK)
 | _,[]=>some []
 | o, f :: fs => if f.name = "_" ∨ f.offset ≠ o then none else (R f.type).bind fun a => (eqFlds R (o + a.length) fs).bind fun b => some (a ++ b)
/-- The kinds of a type's cells, if it is compared cell by cell. -/
def eqKs (P:Program):Nat→TypeId→Option (List EK)
 | 0,_=>none
 | n+1,t=>match P.info? t,P.underlying t with
   | some i,some d=>(match d with
     | .bool=>some [EK.b]
     | .int k=>some [EK.i k]
     | .string=>some [EK.s]
     | .struct fs=>if P.stoodInHeld t then none else eqFlds (eqKs P n) 0 fs.toList
     | _=>none).bind fun ks=>if i.size=ks.length then some ks else none
   | _,_=>none
def ValR (K:Cfg) (μ:Mu) (agg:Bool) (cs:List Cell) (u:Value):Prop:=match agg with
 | true=> ∃xs,u= .agg xs∧All2 (Cell.R K μ) cs xs.toList
 | false=> ∃c,cs=[c]∧c.R K μ u
theorem cellsEq_append: ∀(ks ls:List EK) (a b c d:List Cell) (r:Bool),a.length=ks.length→c.length=ks.length→cellsEq? (ks++ls) (a++b) (c++d)=some r→ ∃r1,cellsEq? ks a c=some r1∧(r1=false∧r=false∨r1=true∧cellsEq? ls b d=some r)
 | [],ls,[],b,[],d,r,_,_,h=>⟨true,rfl,.inr ⟨rfl,h⟩⟩
 | k::ks,ls,x::a,b,y::c,d,r,h1,h2,h=>by
   simp only[List.cons_append,cellsEq?] at h ⊢
   obtain ⟨e,q1,q2⟩:=Option.bind_eq_some_iff.1 h
   cases e with
   | false=>injection q2 with q2;exact ⟨false,by rw[q1];rfl,.inl ⟨rfl,q2.symm⟩⟩
   | true=>
     obtain ⟨r1,h3,h4⟩:=cellsEq_append ks ls a b c d r (by simpa using h1) (by simpa using h2) q2
     exact ⟨r1,by rw[q1];exact h3,h4⟩
 | [],_,_::_,_,_,_,_,h,_,_=>by simp at h
 | [],_,_,_,_::_,_,_,_,h,_=>by simp at h
 | _::_,_,[],_,_,_,_,h,_,_=>by simp at h
 | _::_,_,_,_,[],_,_,_,h,_=>by simp at h
section
variable {K:Cfg} {μ:Mu}
theorem part_R {t:TypeId} {xs:Array Value} {cs:List Cell} {o n:Nat} (hx:All2 (Cell.R K μ) cs xs.toList) {d:TypeDesc} (hd:K.P.underlying t=some d) (hi: ∃i,K.P.info? t=some i∧i.size=n) (hl:o+n≤cs.length) (w:World)
 (h1:isAggD d=false→n=1): ∃u,(part t xs o).run K.P w= .ok u w∧ValR K μ (isAggD d) ((cs.drop o).take n) u:=by
 have hagg:(isAgg t).run K.P w= .ok (isAggD d) w:=by
  unfold isAgg
  rw[Sem.run_bind,run_underlying hd w]
  cases d<;>rfl
 obtain ⟨i,hi,hs⟩:=hi
 have hsz:(sizeOf t).run K.P w= .ok n w:=by simp[sizeOf,typeInfo,hi,hs]
 have hxl:=hx.length
 simp only[Array.length_toList] at hxl
 generalize isAggD d=g at *
 cases g with
 | true=>
   refine ⟨.agg (xs.extract o (o+n)),by simp[part,hagg,hsz],_,rfl,?_⟩
   have:=(hx.drop o).take n
   have he:(xs.extract o (o+n)).toList=(xs.toList.drop o).take n:=by
    apply List.ext_getElem?
    intro k
    rw[Array.getElem?_toList,Array.getElem?_extract,List.getElem?_take,List.getElem?_drop,Array.getElem?_toList]
    by_cases hk:k<n
    ·rw[if_pos (by omega),if_pos hk]
    ·rw[if_neg (by omega),if_neg hk]
   rw[he];exact this
 | false=>
   have hn:=h1 rfl
   subst hn
   obtain ⟨c,hc⟩: ∃c,cs[o]? =some c:=⟨cs[o]'(by omega),by simp⟩
   obtain ⟨u,q1,q2⟩:=hx.get o c hc
   have q1':xs[o]? =some u:=by simpa using q1
   refine ⟨u,by simp[part,hagg,q1'],c,?_,q2⟩
   apply List.ext_getElem?
   intro k
   rw[List.getElem?_take,List.getElem?_drop]
   cases k with
   | zero=>simpa using hc
   | succ k=>rw[if_neg (by omega)];simp
theorem eqK_run {k:EK} {x y:Cell} {r:Bool} (h:eqK k x y=some r) {u v:Value} (hx:x.R K μ u) (hy:y.R K μ v):
 (∃a b,k= .b∧u= .bool a∧v= .bool b∧r=(a==b))∨(∃j a b,k= .i j∧u= .int j a∧v= .int j b∧r=(a==b))∨(∃a b,k= .s∧u= .string a∧v= .string b∧r=(a==b)):=by
 unfold eqK at h
 split at h
 ·injection h with h;simp only[Cell.R] at hx hy;exact .inl ⟨_,_,rfl,hx,hy,h.symm⟩
 ·split at h
  ·rename_i hk;obtain ⟨rfl,rfl⟩:=hk;injection h with h;simp only[Cell.R] at hx hy;exact .inr (.inl ⟨_,_,_,rfl,hx,hy,h.symm⟩)
  ·cases h
 ·injection h with h;simp only[Cell.R] at hx hy;exact .inr (.inr ⟨_,_,rfl,hx,hy,h.symm⟩)
 ·cases h
theorem single_eq {k:EK} {x y:Cell} {r:Bool} (h:cellsEq? [k] [x] [y]=some r):eqK k x y=some r:=by
 simp only[cellsEq?] at h
 obtain ⟨b,e1,e2⟩:=Option.bind_eq_some_iff.1 h
 cases b<;>(injection e2 with e2;rw[←e2];exact e1)
theorem eqFields_R {R:TypeId→Option (List EK)} {d:Nat} {xs ys:Array Value} {cs ds:List Cell} (hx:All2 (Cell.R K μ) cs xs.toList) (hy:All2 (Cell.R K μ) ds ys.toList) (w:World)
 (hR: ∀t ks,R t=some ks→(∃i,K.P.info? t=some i∧i.size=ks.length)∧ ∃dsc,K.P.underlying t=some dsc∧(isAggD dsc=false→ks.length=1)∧
  ∀(as bs:List Cell) (r:Bool) (u v:Value),as.length=ks.length→bs.length=ks.length→cellsEq? ks as bs=some r→ValR K μ (isAggD dsc) as u→ValR K μ (isAggD dsc) bs v→(Op.equalIn d t u v).run K.P w= .ok r w):
 ∀(fs:List Field) (o:Nat) (ks:List EK) (r:Bool),eqFlds R o fs=some ks→o+ks.length=cs.length→o+ks.length=ds.length→cellsEq? ks (cs.drop o) (ds.drop o)=some r→(Op.eqFields d xs ys fs).run K.P w= .ok r w
 | [],o,ks,r,h,hc,hd,he=>by
   injection h with h;subst h
   rw[List.drop_of_length_le (by simp at hc;omega),List.drop_of_length_le (by simp at hd;omega)] at he
   injection he with he;subst he
   simp[Op.eqFields]
 | f::fs,o,ks,r,h,hc,hd,he=>by
   simp only[eqFlds] at h
   split at h
   ·cases h
   ·rename_i hn
    have hname : f.name ≠ "_" := fun q => hn (.inl q)
    have hoff:f.offset=o:=Decidable.not_not.1 fun q=>hn (.inr q)
    obtain ⟨a,h1,h⟩:=Option.bind_eq_some_iff.1 h
    obtain ⟨b,h2,h⟩:=Option.bind_eq_some_iff.1 h
    injection h with h;subst h
    obtain ⟨hi,dsc,hu,hone,heq⟩:=hR _ _ h1
    simp only[List.length_append] at hc hd
    obtain ⟨u,p1,p2⟩:=part_R hx hu hi (o:=o) (by omega) w hone
    obtain ⟨v,p3,p4⟩:=part_R hy hu hi (o:=o) (by omega) w hone
    have hsplit: ∀(l:List Cell),l.drop o=(l.drop o).take a.length++l.drop (o+a.length):=fun l=>by rw[←List.drop_drop,List.take_append_drop]
    rw[hsplit cs,hsplit ds] at he
    obtain ⟨r1,q1,q2⟩:=cellsEq_append a b _ _ _ _ r (by simp;omega) (by simp;omega) he
    have he1:=heq _ _ r1 u v (by simp;omega) (by simp;omega) q1 p2 p4
    rw[Op.eqFields]
    simp only[if_pos hname,Sem.run_bind,hoff,p1,p3,he1,Result.andThen_ok]
    rcases q2 with ⟨rfl,rfl⟩ | ⟨rfl,q2⟩
    ·simp
    ·simpa using eqFields_R hx hy w hR fs (o+a.length) b r h2 (by omega) (by omega) q2
theorem equal_R: ∀(n:Nat) (t:TypeId) (ks:List EK),eqKs K.P n t=some ks→(∃i,K.P.info? t=some i∧i.size=ks.length)∧ ∃dsc,K.P.underlying t=some dsc∧(isAggD dsc=false→ks.length=1)∧
 ∀(d:Nat),n≤d→ ∀(w:World) (cs ds:List Cell) (r:Bool) (u v:Value),cs.length=ks.length→ds.length=ks.length→cellsEq? ks cs ds=some r→ValR K μ (isAggD dsc) cs u→ValR K μ (isAggD dsc) ds v→(Op.equalIn d t u v).run K.P w= .ok r w:=by
 intro n
 induction n with
 | zero=>intro t ks h;cases h
 | succ n ih=>
   intro t ks h
   simp only[eqKs] at h
   split at h
   ·rename_i i dsc hi hu
    obtain ⟨ks',h1,h2⟩:=Option.bind_eq_some_iff.1 h
    split at h2
    ·rename_i hsz
     injection h2 with h2;subst h2
     refine ⟨⟨i,hi,hsz⟩,dsc,hu,?_,?_⟩
     ·intro hag
      split at h1
      ·injection h1 with h1;subst h1;rfl
      ·injection h1 with h1;subst h1;rfl
      ·injection h1 with h1;subst h1;rfl
      ·cases hag
      ·cases h1
     ·intro d hd w cs ds r u v hlc hld he hcu hdv
      obtain ⟨d,rfl⟩: ∃m,d=m+1:=⟨d-1,by omega⟩
      split at h1
      ·injection h1 with h1;subst h1
       obtain ⟨x,rfl,hx⟩:=hcu
       obtain ⟨y,rfl,hy⟩:=hdv
       rcases eqK_run (single_eq he) hx hy with ⟨a,b,_,rfl,rfl,rfl⟩ | ⟨j,a,b,q,_⟩ | ⟨a,b,q,_⟩
       ·exact run_equalIn_bool w d t a b hu
       ·cases q
       ·cases q
      ·injection h1 with h1;subst h1
       obtain ⟨x,rfl,hx⟩:=hcu
       obtain ⟨y,rfl,hy⟩:=hdv
       rcases eqK_run (single_eq he) hx hy with ⟨a,b,q,_⟩ | ⟨j,a,b,q,rfl,rfl,rfl⟩ | ⟨a,b,q,_⟩
       ·cases q
       ·exact run_equalIn_int w d t j _ a b hu
       ·cases q
      ·injection h1 with h1;subst h1
       obtain ⟨x,rfl,hx⟩:=hcu
       obtain ⟨y,rfl,hy⟩:=hdv
       rcases eqK_run (single_eq he) hx hy with ⟨a,b,q,_⟩ | ⟨j,a,b,q,_⟩ | ⟨a,b,_,rfl,rfl,rfl⟩
       ·cases q
       ·cases q
       ·rw[run_equalIn_string w d t a b hu,beq_toListBytes]
      ·rename_i fs
       split at h1
       ·cases h1
       ·rename_i hst
        obtain ⟨xs,rfl,hx⟩:=hcu
        obtain ⟨ys,rfl,hy⟩:=hdv
        have hf:K.P.fieldsOf t=fs:=by simp[Program.fieldsOf,hu]
        rw[run_equalIn_struct (P:=K.P) w d t xs ys (by rw[hf];exact hu) (by simpa using hst),hf]
        refine eqFields_R (μ:=μ) hx hy w (R:=eqKs K.P n) ?_ fs.toList 0 ks' r h1 (by omega) (by omega) (by simpa using he)
        intro t' ks2 h3
        obtain ⟨g1,dsc',g2,g3,g4⟩:=ih t' ks2 h3
        exact ⟨g1,dsc',g2,g3,fun as bs r u v=>g4 d (by omega) w as bs r u v⟩
      ·cases h1
    ·cases h2
   ·cases h
theorem eqOk_of {t:TypeId} {ks:List EK} (h:eqKs K.P 8 t=some ks) (hag:(match K.P.underlying t with | some d=>isAggD d | none=>false)=true) (hg:K.P.eqGuardType K.P.depth t=false):EqOk K t ks:=by
 intro cs ds r μ xs ys w hlc hld he hx hy
 have hguard: ∀op x y,(eqGuard op t x y (.agg xs) (.agg ys)).run K.P w= .ok () w:=by
  intro op x y
  unfold eqGuard
  have hprog:(program).run K.P w= .ok K.P w:=rfl
  split<;>first | rfl | simp[hprog,hg]
 refine ⟨hguard .eql,hguard .neq,?_⟩
 obtain ⟨_,dsc,hu,_,g⟩:=equal_R (K:=K) (μ:=μ) 8 t ks h
 rw[hu] at hag
 have hag:isAggD dsc=true:=hag
 exact g 10000 (by omega) w cs ds r (.agg xs) (.agg ys) hlc hld he (by rw[hag];exact ⟨xs,rfl,hx⟩) (by rw[hag];exact ⟨ys,rfl,hy⟩)

/-! ### the table -/
def AllT {α:Type} (Q:α→Prop):List α→Prop
 | []=>True
 | x::r=>Q x∧AllT Q r
theorem AllT.lk {α:Type} {Q:Nat×α→Prop}: ∀{l:List (Nat×α)},AllT Q l→ ∀{g:Nat} {x:α},lk l g=some x→Q (g,x)
 | (s,v)::r,⟨h1,h2⟩,g,x,h=>by
   simp only[A.lk] at h
   cases hs:(s==g) with
   | true=>rw[hs] at h;injection h with h;subst h;have:s=g:=by simpa using hs
           subst this;exact h1
   | false=>rw[hs] at h;exact h2.lk h
/-- One function: its number in the program, its compact code. -/
def FnOk (P : Program) (c : CC) (F : Nat → Option RF) (x : Nat × FuncId × RF) : Prop := ∃ fn esc an, P.funcs[x.2.1]? = some fn ∧ compF c esc an x.2.2.nargs fn = some x.2.2 ∧ (fn.name == "runtime.NumGoroutine") = false ∧ F x.1 = some x.2.2
def EqTy (P:Program) (x:TypeId×List EK):Prop:=eqKs P 8 x.1=some x.2∧(match P.underlying x.1 with | some d=>isAggD d | none=>false)=true∧P.eqGuardType P.depth x.1=false
def AddOk (P : Program) (f : FuncId) : Prop := ∃ fn, P.funcs[f]? = some fn ∧ fn.body.isNone = true ∧ (fn.name == "runtime.NumGoroutine") = false ∧ (Extern.findNext fn).isNone = true ∧ Extern.find fn = some add64Entry
def mkCfg (P:Program) (tab:List (Nat×FuncId×RF)) (tags:List (Nat×TypeId×Nat)):Cfg:=
 {P:=P,G:=fun g=>(lk tab g).map (·.1),ET:=fun t=>((lk tags t).map (·.1)).getD 0,SZ:=fun t=>((lk tags t).map (·.2)).getD 0,O:=0}
theorem mkProg {P:Program} {tab:List (Nat×FuncId×RF)} {tags:List (Nat×TypeId×Nat)} {c:CC} {F:Nat→Option RF}
 (hT:(c.T.all fun x=>x.2.okB P (mkCfg P tab tags).ET (mkCfg P tab tags).SZ x.1)=true) (hF:(c.F.all fun x=>decide ((lk tab x.2).map (·.1)=some x.1))=true) (htab:AllT (FnOk P c F) tab)
 (hadd:AllT (AddOk P) c.adds) (heq:AllT (EqTy P) c.eqT) (O:Nat):ProgOk ((mkCfg P tab tags).at O) c F (fun _ _ _=>none) where
 cc:={
  T:=fun t ti h=>by
   rw[List.all_eq_true] at hT
   exact hT (t,ti) (lk_mem _ _ _ h)
  F:=fun f g h=>by
   rw[List.all_eq_true] at hF
   exact of_decide_eq_true (hF (f,g) (lk_mem _ _ _ h))
  G:=fun g f h=>by
   obtain ⟨x,h1,h2⟩:=Option.map_eq_some_iff.1 (show (lk tab g).map (·.1)=some f from h)
   obtain ⟨fn,esc,an,q1,q2,q3,_⟩:=htab.lk h1
   subst h2
   refine ⟨fn,q1,?_,q3⟩
   unfold compF at q2
   split at q2
   ·cases q2
   ·rename_i b hb;simp[hb]
  adds:=fun f h=>by
   have: ∀(l:List FuncId),AllT (AddOk P) l→l.contains f=true→AddOk P f:=by
    intro l
    induction l with
    | nil=>intro _ h;simp at h
    | cons x r ih=>
      intro ha hc
      simp only[List.contains_cons,Bool.or_eq_true,beq_iff_eq] at hc
      rcases hc with rfl | hc
      ·exact ha.1
      ·exact ih ha.2 hc
   exact this _ hadd h
  eq:=fun t ks h=>by
   have:=heq.lk h
   exact eqOk_of (K:=(mkCfg P tab tags).at O) this.1 this.2.1 this.2.2}
 fn:=fun g fid rf h hf=>by
  obtain ⟨x,h1,h2⟩:=Option.map_eq_some_iff.1 (show (lk tab g).map (·.1)=some fid from h)
  obtain ⟨fn,esc,an,q1,q2,q3,q4⟩:=htab.lk h1
  subst h2
  have:rf=x.2:=by
   have q4':F g=some x.2:=q4
   rw[hf] at q4';injection q4'
  subst this
  exact ⟨fn,esc,an,q1,q2⟩
 prim:=fun f vs h r h' e=>by
  simp only at e
  split at e<;>cases e
 stepZ:=fun _ _ _ _ e=>by cases e
end
end Go.Proofs.Yteagcdhkobeanaa.A
