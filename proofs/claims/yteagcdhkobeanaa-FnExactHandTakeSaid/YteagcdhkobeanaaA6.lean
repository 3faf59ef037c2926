/- The steps of one operation keep the relation: the operations, but for append, stores and calls. -/
import Derived.Test.YteagcdhkobeanaaA5
import Derived.Laws.Externs
namespace Go.Proofs.Yteagcdhkobeanaa.A
open Go
variable {K:Cfg} {c:CC}

def EqOk (K:Cfg) (t:TypeId) (ks:List EK):Prop:= ∀(cs ds:List Cell) (r:Bool) (μ:Mu) (xs ys:Array Value) (w:World),cs.length=ks.length→ds.length=ks.length→cellsEq? ks cs ds=some r→
 All2 (Cell.R K μ) cs xs.toList→All2 (Cell.R K μ) ds ys.toList→
 (∀x y,(eqGuard .eql t x y (.agg xs) (.agg ys)).run K.P w= .ok () w)∧(∀x y,(eqGuard .neq t x y (.agg xs) (.agg ys)).run K.P w= .ok () w)∧(Op.equal t (.agg xs) (.agg ys)).run K.P w= .ok r w
structure CCok (K:Cfg) (c:CC):Prop where
 T: ∀t ti,lk c.T t=some ti→ti.okB K.P K.ET K.SZ t=true
 F: ∀f g,lk c.F f=some g→K.G g=some f
 G : ∀ g f, K.G g = some f → ∃ fn, K.P.funcs[f]? = some fn ∧ fn.body.isNone = false ∧ (fn.name == "runtime.NumGoroutine") = false
 adds : ∀ f, c.adds.contains f = true → ∃ fn, K.P.funcs[f]? = some fn ∧ fn.body.isNone = true ∧ (fn.name == "runtime.NumGoroutine") = false ∧ (Extern.findNext fn).isNone = true ∧ Extern.find fn = some add64Entry
 eq: ∀t ks,lk c.eqT t=some ks→EqOk K t ks

theorem valIs_R {μ:Mu}: ∀{x:Cell} {v:Value},valIs x v=true→x.R K μ v:=by
 intro x v h
 unfold valIs at h
 split at h
 ·exact congrArg Value.bool (by simpa using h:_=_).symm
 ·simp only[Bool.and_eq_true,decide_eq_true_eq] at h
  obtain ⟨rfl,h⟩:=h
  exact congrArg (Value.int _) (by simpa using h:_=_).symm
 ·rename_i a b
  have:a=b:=of_decide_eq_true h
  exact congrArg Value.string this.symm
 ·rfl
 ·rfl
 ·cases h
theorem valsAre_R {μ:Mu}: ∀{xs:List Cell} {vs:List Value},valsAre xs vs=true→All2 (Cell.R K μ) xs vs
 | [],[],_=>trivial
 | x::xs,v::vs,h=>by
   simp only[valsAre,Bool.and_eq_true] at h
   exact ⟨valIs_R h.1,valsAre_R h.2⟩

/-! ### what the table tells -/
structure TI.Ok (K:Cfg) (t:TypeId) (ti:TI):Prop where
 info: ∃i,K.P.info? t=some i∧i.size=ti.sz∧i.bytes=ti.bytes∧ ∀z,ti.zero=some z→ ∃v,i.zero=some v∧valsAre z v.cells.toList=true∧z.length=ti.sz
 und: ∃d,K.P.underlying t=some d∧ti.agg=(match d with | .struct _ | .array _ _=>true | _=>false)
 bool:ti.k= .bool→K.P.underlying t=some .bool
 int: ∀k,ti.k= .int k→K.P.underlying t=some (.int k)
 str:ti.k= .str→K.P.underlying t=some .string
 slice: ∀e tag,ti.k= .slice e tag→K.P.underlying t=some (.slice e)∧tag≠0∧K.ET tag=e∧ ∃i z,K.P.info? e=some i∧i.size=K.SZ tag∧0<K.SZ tag∧0<i.bytes∧i.zero=some z∧z.cells.size=i.size
 struct: ∀fs,ti.k= .struct fs→ ∃fields,K.P.underlying t=some (.struct fields)∧fieldIs K.P fs fields.toList=true
theorem TI.ok_of {t:TypeId} {ti:TI} (h:ti.okB K.P K.ET K.SZ t=true):TI.Ok K t ti:=by
 unfold TI.okB at h
 rw[Bool.and_eq_true] at h
 obtain ⟨h1,h2⟩:=h
 split at h1
 ·cases h1
 ·rename_i i hi
  simp only[Bool.and_eq_true,beq_iff_eq] at h1
  obtain ⟨⟨h3,h4⟩,h5⟩:=h1
  split at h2
  ·cases h2
  ·rename_i d hd
   simp only[Bool.and_eq_true,beq_iff_eq] at h2
   obtain ⟨h6,h7⟩:=h2
   refine ⟨⟨i,hi,h3,h4,?_⟩,⟨d,hd,h6⟩,?_,?_,?_,?_,?_⟩
   ·intro z hz
    rw[hz] at h5
    split at h5
    ·rename_i q;cases q
    ·rename_i z' v q1 q2
     injection q1 with q1;subst q1
     simp only[Bool.and_eq_true,beq_iff_eq] at h5
     exact ⟨v,q2,h5⟩
    ·cases h5
   ·intro hk;rw[hk] at h7;split at h7<;>simp_all
   ·intro k hk;rw[hk] at h7;split at h7<;>simp_all
   ·intro hk;rw[hk] at h7;split at h7<;>simp_all
   ·intro e tag hk
    rw[hk] at h7
    split at h7<;>try (simp_all;done)
    rename_i q1
    injection q1 with q1 q2
    subst q1;subst q2
    simp only[Bool.and_eq_true,beq_iff_eq,Bool.not_eq_true',beq_eq_false_iff_ne] at h7
    obtain ⟨⟨⟨h8,h9⟩,h10⟩,h11⟩:=h7
    split at h11
    ·rename_i ie hie
     simp only[Bool.and_eq_true,beq_iff_eq,Bool.not_eq_true',beq_eq_false_iff_ne] at h11
     obtain ⟨⟨⟨h12,h13⟩,h14⟩,h15⟩:=h11
     split at h15
     ·rename_i z hz
      exact ⟨by rw[h8];exact hd,h9,h10,ie,z,hie,h12,by omega,by omega,hz,by simpa using h15⟩
     ·cases h15
    ·cases h11
   ·intro fs hk
    rw[hk] at h7
    split at h7<;>simp_all

theorem run_typeInfo {t:TypeId} {i:TypeInfo} (h:K.P.info? t=some i) (w:World):(typeInfo t).run K.P w= .ok i w:=by
 simp[typeInfo,h]
theorem TI.Ok.size {t:TypeId} {ti:TI} (h:TI.Ok K t ti) (w:World):(sizeOf t).run K.P w= .ok ti.sz w:=by
 obtain ⟨i,hi,hs,_⟩:=h.info
 simp[sizeOf,typeInfo,hi,hs]
theorem TI.Ok.isAgg {t:TypeId} {ti:TI} (h:TI.Ok K t ti) (w:World):(isAgg t).run K.P w= .ok ti.agg w:=by
 obtain ⟨d,hd,he⟩:=h.und
 unfold Go.isAgg
 rw[Sem.run_bind,run_underlying hd w,he]
 cases d<;>rfl

section
variable {μ:Mu} {lam:Nat→Option Nat} {E:Nat} {A:Nat→Prop} {nt:Nat} {s s':St} {a:Act} {w:World} {esc:List Nat} {q:Bool} {o:Oper} {C:CallF} {Q:Exit→Act→World→Prop}

/-- What one operation leaves. -/
def Post (K:Cfg) (μ:Mu) (E:Nat) (A:Nat→Prop) (nt:Nat) (s s':St) (w:World) (a':Act) (w':World):Prop:=
 ∃μ' lam',SE K μ' lam' E A nt s' a' w'∧ExtN s.hp.next μ μ'∧Fr A w w'

theorem wp_val {next:Act→World→Prop} {v:Value} {w':World} (h:(execOp a.eval o).run K.P w= .ok (.value v) w') (hn:next (a.put o.dst v) w'):o.wp K.P a w next Q:=by
 unfold Oper.wp;rw[h];exact hn

theorem compX_R (hc:CCok K c) (S:SE K μ lam E A nt s a w) {x:Operand} {y:Opd} {v:V} (h:compX c x=some y) (e:ev s.env y=some v):v.R K μ (a.eval x):=by
 cases x with
 | tmp t=>injection h with h;subst h;exact S.env _ _ e
 | const u=>
   simp only[compX,Option.map_eq_some_iff] at h
   obtain ⟨cl,h1,h2⟩:=h
   subst h2;injection e with e;subst e
   show cl.R K μ u
   unfold constCell? at h1
   split at h1<;>first | (injection h1 with h1;subst h1;rfl) | cases h1
 | func f=>
   simp only[compX,Option.map_eq_some_iff] at h
   obtain ⟨g,h1,h2⟩:=h
   subst h2;injection e with e;subst e
   exact ⟨f,#[],hc.F _ _ h1,rfl,trivial⟩
 | global g=>cases h
theorem evc_R (hc:CCok K c) (S:SE K μ lam E A nt s a w) {x:Operand} {y:Opd} {v:Cell} (h:compX c x=some y) (e:evc s.env y=some v):v.R K μ (a.eval x):=by
 unfold evc at e
 split at e
 ·rename_i u hu;injection e with e;subst e;exact compX_R hc S h hu
 ·cases e
theorem evi_R (hc:CCok K c) (S:SE K μ lam E A nt s a w) {x:Operand} {y:Opd} {n:Int} (h:compX c x=some y) (e:evi s.env y=some n): ∃k,a.eval x= .int k n:=by
 unfold evi at e
 split at e
 ·rename_i k u hu;injection e with e;subst e;exact ⟨k,compX_R hc S h hu⟩
 ·cases e
theorem evs_R (hc:CCok K c) (S:SE K μ lam E A nt s a w): ∀{xs:List Operand} {ys:List Opd} {vs:List V},compXs c xs=some ys→evs s.env ys=some vs→All2 (V.R K μ) vs (xs.map a.eval)
 | [],ys,vs,h,e=>by injection h with h;subst h;injection e with e;subst e;trivial
 | x::xs,ys,vs,h,e=>by
   simp only[compXs] at h
   obtain ⟨y,h1,h2⟩:=Option.bind_eq_some_iff.1 h
   obtain ⟨l,h3,h4⟩:=Option.bind_eq_some_iff.1 h2
   injection h4 with h4;subst h4
   simp only[evs] at e
   obtain ⟨v,e1,e2⟩:=Option.bind_eq_some_iff.1 e
   obtain ⟨us,e3,e4⟩:=Option.bind_eq_some_iff.1 e2
   injection e4 with e4;subst e4
   exact ⟨compX_R hc S h1 e1,evs_R hc S h3 e3⟩

/-- A temporary takes a value, the world stays. -/
theorem post_set (S:SE K μ lam E A nt s a w) {d:Nat} (hd:inB nt o.dst=true) (ho:o.dst=some d) {v:V} {u:Value} (r:v.R K μ u):Post K μ E A nt s (s.set d v) w (a.put o.dst u) w:=by
 rw[ho] at hd ⊢
 exact ⟨μ,lam,S.set (by simpa[inB] using hd) r,ExtN.refl _ _,Fr.refl _ _⟩

theorem mov_sound (hc:CCok K c) (S:SE K μ lam E A nt s a w) {d:Nat} (hd:inB nt o.dst=true) (ho:o.dst=some d) {x:Operand} (hop:o.op= .move x∨o.op= .assign x) {y:Opd} (h:compX c x=some y)
 (e:opF C s (.mov d y)=some s'):o.wp K.P a w (Post K μ E A nt s s' w) Q:=by
 obtain ⟨v,e1,e2⟩:=Option.bind_eq_some_iff.1 e
 injection e2 with e2;subst e2
 refine wp_val (v:=a.eval x) (w':=w) ?_ (post_set S hd ho (compX_R hc S h e1))
 unfold execOp
 rcases hop with hop | hop<;>rw[hop]<;>rfl
theorem pick_sound (hc:CCok K c) (S:SE K μ lam E A nt s a w) {d:Nat} (hd:inB nt o.dst=true) (ho:o.dst=some d) {p x y:Operand} (hop:o.op= .pick p x y) {p' x' y':Opd} (hp:compX c p=some p') (hx:compX c x=some x') (hy:compX c y=some y')
 (e:opF C s (.pick d p' x' y')=some s'):o.wp K.P a w (Post K μ E A nt s s' w) Q:=by
 simp only[opF] at e
 split at e
 ·rename_i b hb
  have hpb:a.eval p= .bool b:=evc_R hc S hp hb
  obtain ⟨v,e1,e2⟩:=Option.bind_eq_some_iff.1 e
  injection e2 with e2;subst e2
  refine wp_val (v:=if b then a.eval x else a.eval y) (w':=w) ?_ ?_
  ·unfold execOp;rw[hop];simp[hpb,asBool]
  ·refine post_set S hd ho ?_
   cases b
   ·exact compX_R hc S hy e1
   ·exact compX_R hc S hx e1
 ·cases e
theorem ext_sound (hc:CCok K c) (S:SE K μ lam E A nt s a w) {d:Nat} (hd:inB nt o.dst=true) (ho:o.dst=some d) {x:Operand} {i:Nat} (hop:o.op= .extract x i) {x':Opd} (hx:compX c x=some x')
 (e:opF C s (.ext d x' i)=some s'):o.wp K.P a w (Post K μ E A nt s s' w) Q:=by
 simp only[opF] at e
 split at e
 ·rename_i vs hv
  obtain ⟨v,e1,e2⟩:=Option.bind_eq_some_iff.1 e
  injection e2 with e2;subst e2
  obtain ⟨arr,h1,h2⟩:=compX_R hc S hx hv
  obtain ⟨u,h3,h4⟩:=h2.get i v e1
  refine wp_val (v:=u) (w':=w) ?_ (post_set S hd ho h4.r)
  unfold execOp;rw[hop]
  have h3':arr[i]? =some u:=by simpa using h3
  simp[h1,Instr.extract,h3']
 ·cases e
theorem not_sound (hc:CCok K c) (S:SE K μ lam E A nt s a w) {d:Nat} (hd:inB nt o.dst=true) (ho:o.dst=some d) {x:Operand} {t:TypeId} (hop:o.op= .unOp .not t x) {x':Opd} (hx:compX c x=some x')
 (e:opF C s (.not d x')=some s'):o.wp K.P a w (Post K μ E A nt s s' w) Q:=by
 simp only[opF] at e
 split at e
 ·rename_i b hb
  injection e with e;subst e
  have hpb:a.eval x= .bool b:=evc_R hc S hx hb
  refine wp_val (v:= .bool (!b)) (w':=w) ?_ (post_set S hd ho rfl)
  unfold execOp;rw[hop];simp[hpb,Op.unary]
 ·cases e
theorem conv_sound (hc:CCok K c) (S:SE K μ lam E A nt s a w) {d:Nat} (hd:inB nt o.dst=true) (ho:o.dst=some d) {x:Operand} {t u:TypeId} {ts tu:TI} {k0 k:IntKind} (hop:o.op= .convert t u x) (ht:lk c.T t=some ts) (hu:lk c.T u=some tu) (hk0:ts.k= .int k0) (hk:tu.k= .int k) {x':Opd} (hx:compX c x=some x')
 (e:opF C s (.conv d k x')=some s'):o.wp K.P a w (Post K μ E A nt s s' w) Q:=by
 obtain ⟨n,e1,e2⟩:=Option.bind_eq_some_iff.1 e
 injection e2 with e2;subst e2
 obtain ⟨k',hn⟩:=evi_R hc S hx e1
 have h1:=(TI.ok_of (hc.T _ _ ht)).int _ hk0
 have h2:=(TI.ok_of (hc.T _ _ hu)).int _ hk
 refine wp_val (v:= .int k (k.wrap n)) (w':=w) ?_ (post_set S hd ho rfl)
 unfold execOp;rw[hop]
 simp[hn,convert,run_underlying h1,run_underlying h2,Conv.intToInt]
theorem run_builtin {b:Builtin} {cl:Call} (hop:o.op= .call cl) (hcl:cl.callee= .builtin b): ∃cs,execOp a.eval o=builtin b cl.argTypes o.type cs (cl.args.map a.eval):=by
 unfold execOp;rw[hop]
 show ∃cs,(do let d ←resolve a.eval cl o.type;invoke d.target d.args)=_
 unfold resolve;rw[hcl]
 exact ⟨_,rfl⟩
theorem len_sound (hc:CCok K c) (S:SE K μ lam E A nt s a w) {d:Nat} (hd:inB nt o.dst=true) (ho:o.dst=some d) {x:Operand} {t:TypeId} {ti:TI} {cl:Call} (hop:o.op= .call cl) (hcl:cl.callee= .builtin .len) (hargs:cl.args.toList=[x]) (hts:cl.argTypes.toList=[t]) (ht:lk c.T t=some ti)
 {e0 tag:Nat} (hk:ti.k= .slice e0 tag) {x':Opd} (hx:compX c x=some x')
 (e:opF C s (.len d x')=some s'):o.wp K.P a w (Post K μ E A nt s s' w) Q:=by
 have T:=TI.ok_of (hc.T _ _ ht)
 have hrun: ∀ad n cap,a.eval x= .slice ad n cap→(execOp a.eval o).run K.P w= .ok (.value (.int .i64 n)) w:=by
  intro ad n cap hv
  have ha:cl.args= #[x]:=by apply Array.ext';simpa using hargs
  have hta:cl.argTypes= #[t]:=by apply Array.ext';simpa using hts
  obtain ⟨cs,hr⟩:=run_builtin (a:=a) hop hcl
  rw[hr,ha,hta]
  simp[hv,builtin,Builtin.len_,run_underlying (T.slice _ _ hk).1,goInt]
 simp only[opF] at e
 split at e
 ·rename_i tag id off n hv
  injection e with e;subst e
  obtain ⟨l,ad,cap,h1,h2,h3,h4,_⟩:=evc_R hc S hx hv
  exact wp_val (hrun _ _ _ h4) (post_set S hd ho rfl)
 ·rename_i hv
  injection e with e;subst e
  have h4:a.eval x= .slice none 0 0:=evc_R hc S hx hv
  exact wp_val (hrun _ _ _ h4) (post_set S hd ho rfl)
 ·cases e
theorem slen_sound (hc:CCok K c) (S:SE K μ lam E A nt s a w) {d:Nat} (hd:inB nt o.dst=true) (ho:o.dst=some d) {x:Operand} {t:TypeId} {ti:TI} {cl:Call} (hop:o.op= .call cl) (hcl:cl.callee= .builtin .len) (hargs:cl.args.toList=[x]) (hts:cl.argTypes.toList=[t]) (ht:lk c.T t=some ti)
 (hk:ti.k= .str) {x':Opd} (hx:compX c x=some x')
 (e:opF C s (.slen d x')=some s'):o.wp K.P a w (Post K μ E A nt s s' w) Q:=by
 have T:=TI.ok_of (hc.T _ _ ht)
 simp only[opF] at e
 split at e
 ·rename_i b hv
  injection e with e;subst e
  have h4:a.eval x= .string b:=evc_R hc S hx hv
  refine wp_val (v:= .int .i64 b.size) (w':=w) ?_ (post_set S hd ho rfl)
  have ha:cl.args= #[x]:=by apply Array.ext';simpa using hargs
  have hta:cl.argTypes= #[t]:=by apply Array.ext';simpa using hts
  obtain ⟨cs,hr⟩:=run_builtin (a:=a) hop hcl
  rw[hr,ha,hta]
  simp[h4,builtin,Builtin.len_,run_underlying (T.str hk),goInt]
 ·cases e
theorem nilc_sound (hc:CCok K c) (S:SE K μ lam E A nt s a w) {d:Nat} (hd:inB nt o.dst=true) (ho:o.dst=some d) {x:Operand} (hop:o.op= .nilCheck x) {x':Opd} (hx:compX c x=some x')
 (e:opF C s (.nilc d x')=some s'):o.wp K.P a w (Post K μ E A nt s s' w) Q:=by
 simp only[opF] at e
 split at e
 ·rename_i id i j hv
  injection e with e;subst e
  have hr:=evc_R hc S hx hv
  obtain ⟨l,h1,h2⟩:=hr
  refine wp_val (v:=a.eval x) (w':=w) ?_ (post_set S hd ho (v:= .c (.ptr id i j)) ⟨l,h1,h2⟩)
  unfold execOp;rw[hop];simp[h2]
 ·rename_i f ps hv
  injection e with e;subst e
  obtain ⟨fid,ws,h1,h2,h3⟩:=evc_R hc S hx hv
  refine wp_val (v:=a.eval x) (w':=w) ?_ (post_set S hd ho (v:= .c (.fn f ps)) ⟨fid,ws,h1,h2,h3⟩)
  unfold execOp;rw[hop];simp[h2]
 ·cases e

/-! #### arithmetic -/
theorem pureCell_R {sv:Sem Value} {x:Cell} (h:pureCell sv=some x): ∃v,sv= .pure v∧x.R K μ v:=by
 unfold pureCell at h
 split at h
 ·rename_i v
  refine ⟨v,rfl,?_⟩
  unfold valCell? at h
  split at h<;>first | (injection h with h;subst h;rfl) | cases h
 ·cases h
theorem bin_run {b:BinOp} {t:TypeId} {x y z:Cell} {u v:Value} (hx:x.R K μ u) (hy:y.R K μ v) (h:binF b x y=some z): ∃r,(binOp b t u v).run K.P w= .ok r w∧z.R K μ r∧ ∀p q,(eqGuard b t p q u v).run K.P w= .ok () w:=by
 have hg: ∀p q,(eqGuard b t p q u v).run K.P w= .ok () w:=by
  intro p q
  unfold binF at h
  split at h<;>first | cases h | (simp only[Cell.R] at hx hy;subst hx;subst hy;unfold eqGuard;split<;>rfl)
 unfold binF at h
 split at h
 ·simp only[Cell.R] at hx hy;subst hx;subst hy
  obtain ⟨r,h1,h2⟩:=pureCell_R (K:=K) (μ:=μ) h
  exact ⟨r,by simp only[binOp,h1];rfl,h2,hg⟩
 ·simp only[Cell.R] at hx hy;subst hx;subst hy
  obtain ⟨r,h1,h2⟩:=pureCell_R (K:=K) (μ:=μ) h
  exact ⟨r,by simp only[binOp,h1];rfl,h2,hg⟩
 ·rename_i k m k' n hns1 hns2
  simp only[Cell.R] at hx hy;subst hx;subst hy
  split at h
  ·cases h
  ·rename_i hk
   have hk:k=k':=Decidable.not_not.1 hk
   subst hk
   split at h
   ·injection h with h;subst h;exact ⟨_,by simp[binOp,Op.intArith],rfl,hg⟩
   ·injection h with h;subst h;exact ⟨_,by simp[binOp,Op.intArith],rfl,hg⟩
   ·injection h with h;subst h;exact ⟨_,by simp[binOp,Op.intArith],rfl,hg⟩
   ·split at h
    ·cases h
    ·rename_i hz;injection h with h;subst h;exact ⟨_,by simp[binOp,Op.intDiv,hz],rfl,hg⟩
   ·split at h
    ·cases h
    ·rename_i hz;injection h with h;subst h;exact ⟨_,by simp[binOp,Op.intDiv,hz],rfl,hg⟩
   ·injection h with h;subst h;exact ⟨_,by simp[binOp,Op.intCmp],rfl,hg⟩
   ·injection h with h;subst h;exact ⟨_,by simp[binOp,Op.intCmp],rfl,hg⟩
   ·injection h with h;subst h;exact ⟨_,by simp[binOp,Op.intCmp],rfl,hg⟩
   ·injection h with h;subst h;exact ⟨_,by simp[binOp,Op.intCmp],rfl,hg⟩
   ·injection h with h;subst h;exact ⟨_,by simp[binOp,Op.intCmp],rfl,hg⟩
   ·injection h with h;subst h;exact ⟨_,by simp[binOp,Op.intCmp],rfl,hg⟩
   ·obtain ⟨r,h1,h2⟩:=pureCell_R (K:=K) (μ:=μ) h
    exact ⟨r,by simp only[binOp];rw[if_neg (by simp),h1];rfl,h2,hg⟩
   ·obtain ⟨r,h1,h2⟩:=pureCell_R (K:=K) (μ:=μ) h
    exact ⟨r,by simp only[binOp];rw[if_neg (by simp),h1];rfl,h2,hg⟩
   ·obtain ⟨r,h1,h2⟩:=pureCell_R (K:=K) (μ:=μ) h
    exact ⟨r,by simp only[binOp];rw[if_neg (by simp),h1];rfl,h2,hg⟩
   ·obtain ⟨r,h1,h2⟩:=pureCell_R (K:=K) (μ:=μ) h
    exact ⟨r,by simp only[binOp];rw[if_neg (by simp),h1];rfl,h2,hg⟩
   ·cases h
 ·simp only[Cell.R] at hx hy;subst hx;subst hy
  obtain ⟨r,h1,h2⟩:=pureCell_R (K:=K) (μ:=μ) h
  exact ⟨r,by simp only[binOp,h1];rfl,h2,hg⟩
 ·cases h
theorem bin_sound (hc:CCok K c) (S:SE K μ lam E A nt s a w) {d:Nat} (hd:inB nt o.dst=true) (ho:o.dst=some d) {b:BinOp} {t ty:TypeId} {x y:Operand} (hop:o.op= .binOp b t x y ty) {x' y':Opd} (hx:compX c x=some x') (hy:compX c y=some y')
 (e:opF C s (.bin d b x' y')=some s'):o.wp K.P a w (Post K μ E A nt s s' w) Q:=by
 obtain ⟨p,e1,e2⟩:=Option.bind_eq_some_iff.1 e
 obtain ⟨q,e3,e4⟩:=Option.bind_eq_some_iff.1 e2
 obtain ⟨r,e5,e6⟩:=Option.bind_eq_some_iff.1 e4
 injection e6 with e6;subst e6
 obtain ⟨u,h1,h2,h3⟩:=bin_run (K:=K) (μ:=μ) (w:=w) (t:=t) (evc_R hc S hx e1) (evc_R hc S hy e3) e5
 refine wp_val (v:=u) (w':=w) ?_ (post_set S hd ho (v:= .c r) h2)
 unfold execOp;rw[hop]
 simp[h3,h1]
theorem run_equal_bool {t:TypeId} (T:K.P.underlying t=some .bool) (p q:Bool) (w:World):(Op.equal t (.bool p) (.bool q)).run K.P w= .ok (p==q) w:=by
 show (Op.equalIn (9999+1) t (.bool p) (.bool q)).run K.P w=_
 rw[Op.equalIn]
 simp[run_underlying T]
theorem beq_sound (hc:CCok K c) (S:SE K μ lam E A nt s a w) {d:Nat} (hd:inB nt o.dst=true) (ho:o.dst=some d) {b:BinOp} {neg:Bool} (hb:(b= .eql∧neg=false)∨(b= .neq∧neg=true)) {t ty:TypeId} {ti:TI} (ht:lk c.T t=some ti) (hk:ti.k= .bool) {x y:Operand} (hop:o.op= .binOp b t x y ty) {x' y':Opd} (hx:compX c x=some x') (hy:compX c y=some y')
 (e:opF C s (.beq d neg x' y')=some s'):o.wp K.P a w (Post K μ E A nt s s' w) Q:=by
 have T:=(TI.ok_of (hc.T _ _ ht)).bool hk
 simp only[opF] at e
 split at e
 ·rename_i p q hp hq
  injection e with e;subst e
  have h1:a.eval x= .bool p:=evc_R hc S hx hp
  have h2:a.eval y= .bool q:=evc_R hc S hy hq
  refine wp_val (v:= .bool (neg ^^ (p==q))) (w':=w) ?_ (post_set S hd ho rfl)
  unfold execOp;rw[hop]
  rcases hb with ⟨rfl,rfl⟩ | ⟨rfl,rfl⟩<;>simp only[h1,h2,eqGuard,binOp]<;>simp[run_equal_bool T]
 ·cases e
theorem eqs_sound (hc:CCok K c) (S:SE K μ lam E A nt s a w) {d:Nat} (hd:inB nt o.dst=true) (ho:o.dst=some d) {b:BinOp} {neg:Bool} (hb:(b= .eql∧neg=false)∨(b= .neq∧neg=true)) {t ty:TypeId} {ks:List EK} (hk:lk c.eqT t=some ks) {x y:Operand} (hop:o.op= .binOp b t x y ty) {x' y':Opd} (hx:compX c x=some x') (hy:compX c y=some y')
 (e:opF C s (.eqs d neg ks x' y')=some s'):o.wp K.P a w (Post K μ E A nt s s' w) Q:=by
 have T:=hc.eq _ _ hk
 simp only[opF] at e
 split at e
 ·rename_i p q hp hq
  split at e
  ·rename_i hl
   obtain ⟨r,e1,e2⟩:=Option.bind_eq_some_iff.1 e
   injection e2 with e2;subst e2
   obtain ⟨xs,h1,h3⟩:=compX_R hc S hx hp
   obtain ⟨ys,h2,h4⟩:=compX_R hc S hy hq
   obtain ⟨g1,g2,g3⟩:=T p q r μ xs ys w hl.1 hl.2 e1 h3 h4
   refine wp_val (v:= .bool (neg ^^ r)) (w':=w) ?_ (post_set S hd ho rfl)
   unfold execOp;rw[hop]
   rcases hb with ⟨rfl,rfl⟩ | ⟨rfl,rfl⟩<;>simp[h1,h2,g1,g2,g3,binOp]
  ·cases e
 ·cases e
theorem mkf_sound (hc:CCok K c) (S:SE K μ lam E A nt s a w) {d:Nat} (hd:inB nt o.dst=true) (ho:o.dst=some d) {f:FuncId} {g:Nat} {first captured:Array Operand} (hop:o.op= .makeFunc (.func f) first captured) (hf:first.isEmpty=true) (hg:lk c.F f=some g) {l:List Nat} (hl:compCaps captured.toList=some l)
 (e:opF C s (.mkf d g l)=some s'):o.wp K.P a w (Post K μ E A nt s s' w) Q:=by
 obtain ⟨ps,e1,e2⟩:=Option.bind_eq_some_iff.1 e
 injection e2 with e2;subst e2
 have key: ∀(cs:List Operand) (l:List Nat) ps,compCaps cs=some l→evPtrs s.env l=some ps→All2 (ptrR μ) ps (cs.map a.eval):=by
  intro cs
  induction cs with
  | nil=>intro l ps h1 h2;injection h1 with h1;subst h1;injection h2 with h2;subst h2;trivial
  | cons x cs ih=>
    intro l ps h1 h2
    cases x with
    | tmp t=>
      simp only[compCaps] at h1
      obtain ⟨l',h3,h4⟩:=Option.bind_eq_some_iff.1 h1
      injection h4 with h4;subst h4
      simp only[evPtrs] at h2
      split at h2
      ·rename_i p1 p2 p3 hv
       obtain ⟨ps',h5,h6⟩:=Option.bind_eq_some_iff.1 h2
       injection h6 with h6;subst h6
       exact ⟨S.env _ _ hv,ih l' ps' h3 h5⟩
      ·cases h2
    | _=>cases h1
 have hfe:first= #[]:=by simpa using hf
 refine wp_val (v:= .func (.func f) #[] (captured.map a.eval)) (w':=w) ?_ (post_set S hd ho (v:= .c (.fn g ps)) ⟨f,captured.map a.eval,hc.F _ _ hg,rfl,?_⟩)
 ·unfold execOp;rw[hop];simp[Instr.makeFunc,hfe]
 ·simpa using key _ _ _ hl e1
end
end Go.Proofs.Yteagcdhkobeanaa.A
