/- The steps of one operation keep the relation: calls; all operations together. -/
import Derived.Test.YteagcdhkobeanaaA9
namespace Go.Proofs.Yteagcdhkobeanaa.A
open Go
variable {K:Cfg} {c:CC}
section
variable {μ:Mu} {lam:Nat→Option Nat} {E:Nat} {A:Nat→Prop} {nt:Nat} {s s':St} {a:Act} {w:World} {esc:List Nat} {q:Bool} {o:Oper} {C:CallF} {Q:Exit→Act→World→Prop}

theorem add_sound (hc:CCok K c) (S:SE K μ lam E A nt s a w) {d:Nat} (hd:inB nt o.dst=true) (ho:o.dst=some d) {cl:Call} (hop:o.op= .call cl) {f:FuncId} (hcl:cl.callee= .value (.func f)) (hf:c.adds.contains f=true) {x y z:Operand} (hargs:cl.args.toList=[x,y,z])
 {x' y' z':Opd} (hx:compX c x=some x') (hy:compX c y=some y') (hz:compX c z=some z') (e:opF C s (.add d x' y' z')=some s'):o.wp K.P a w (Post K μ E A nt s s' w) Q:=by
 have ha:cl.args= #[x,y,z]:=by apply Array.ext';simpa using hargs
 obtain ⟨fn,h1,h2,h3,h4,h5⟩:=hc.adds f hf
 simp only[opF] at e
 split at e
 ·rename_i p r k hp hr hk
  split at e
  ·rename_i hcond
   obtain ⟨c1,c2,c3,c4⟩:=hcond
   injection e with e;subst e
   have q1:a.eval x= .int .u64 p:=evc_R hc S hx hp
   have q2:a.eval y= .int .u64 r:=evc_R hc S hy hr
   have q3:a.eval z= .int .u64 k:=evc_R hc S hz hk
   refine wp_val (v:= .tuple #[.int .u64 ((p+r+k)%18446744073709551616),.int .u64 ((p+r+k) / 18446744073709551616)]) (w':=w) ?_ (post_set S hd ho (v:= .tup [.c (.int .u64 ((p+r+k)%18446744073709551616)),.c (.int .u64 ((p+r+k) / 18446744073709551616))]) ⟨_,rfl,rfl,rfl,trivial⟩)
   have hfn:a.eval (.func f)= .func (.func f) #[] #[]:=rfl
   unfold execOp;rw[hop]
   have hn:Extern.findNext fn=none:=by simpa using h4
   have hr:=run_add64 (P:=K.P) p r k c1 c2 c3 c4 w
   simp only[resolve,hcl,hfn,Deferred.ofValue,ha,Sem.run_bind,Sem.run_pure,Result.andThen_ok,invoke,callFunc,List.map_toArray,List.map_cons,List.map_nil,q1,q2,q3]
   have hmark: ∀(m:Mark) (w:World),(mark m).run K.P w= .ok () w:=fun _ _=>rfl
   have hprog:(program).run K.P w= .ok K.P w:=rfl
   simp only[hprog,Result.andThen_ok,h1,h3,h2,hn,h5,Bool.false_eq_true,if_false,if_true,Sem.run_bind,hmark,Sem.run_pure]
   have harr:(#[]++ #[Value.int .u64 p,.int .u64 r,.int .u64 k]++ #[])= #[Value.int .u64 p,.int .u64 r,.int .u64 k]:=by simp
   rw[harr,hr]
   rfl
  ·cases e
 ·cases e

/-- A call of a function that is known. -/
theorem enter_run {fid:FuncId} (hc:CCok K c) {g:Nat} (hg:K.G g=some fid) (args:Array Value):(callFunc fid args).run K.P w= .ok (.enter fid args) w:=by
 obtain ⟨fn,h1,h2,h3⟩:=hc.G g fid hg
 have hprog:(program).run K.P w= .ok K.P w:=rfl
 unfold callFunc
 simp only[Sem.run_bind,hprog,Result.andThen_ok,h1,h2,h3,Bool.false_eq_true,if_false,Sem.run_pure]
theorem post_call (hC:CallSound K C) (S:SE K μ lam E A nt s a w) (hE:E≤w.heap.size) (hd:inB nt o.dst=true) {g:Nat} {fid:FuncId} (hg:K.G g=some fid) {vs:List V} {args:Array Value} (hvs:All2 (V.R K μ) vs args.toList)
 (hrun:(execOp a.eval o).run K.P w= .ok (.enter fid args) w) {r:V×Heap} (e:doCall C g vs q s.hp=some r) (hs:s'={s with hp:=r.2}.setO o.dst r.1):o.wp K.P a w (Post K μ E A nt s s' w) Q:=by
 unfold Oper.wp
 rw[hrun]
 have fin: ∀{h h':Heap} {v:V},C g vs h=some (v,h')→h.next=s.hp.next→h.get=s.hp.get→s.hp.floor≤h.floor→h.floor≤h.next→K.O≤h.floor→HR K μ h w→(Step h h'→s'={s with hp:={h' with floor:=s.hp.floor}}.setO o.dst v)→
  Calls K.P fid args w fun | .returned v,w''=>Post K μ E A nt s s' w (a.put o.dst v) w'' | .panicked chain,w''=>Q (.panic chain) a w'' | .outgrown,_=>LetsOut Q:=by
  intro h h' v e1 e2 e3 e4 e5 e6 e7 e8
  refine (hC g vs h v h' e1 fid hg μ w args e7 e6 e5 hvs).mono ?_
  rintro en w' ⟨u,μ',rfl,h1,h2,h3,h4,h5,h6⟩
  show Post K μ E A nt s s' w (a.put o.dst u) w'
  have S1:=S.called ⟨e2,e3,e4⟩ h3 h2 h4 h5 h6 e5 hE
  have hFr:Fr A w w':=h4.mono fun b _ hb=>by
   rcases hb with hb | ⟨id,l,rows,q1,q2,q3,q4⟩
   ·exact S.big b (Nat.le_trans hE hb)
   ·rw[←q4];rw[e3] at q3;exact S.wr id l rows (Nat.le_trans e4 q1) q2 q3
  rw[e2] at h3
  have e8:=e8 h5
  subst e8
  cases hdst:o.dst with
  | none=>exact ⟨μ',lam,S1,h3,hFr⟩
  | some d=>
    rw[hdst] at hd
    exact ⟨μ',lam,S1.set (by simpa[inB] using hd) h1,h3,hFr⟩
 show Calls K.P fid args w _
 unfold doCall at e
 cases q with
 | true=>
   simp only[cond_true] at e
   obtain ⟨x,e1,e2⟩:=Option.bind_eq_some_iff.1 e
   injection e2 with e2;subst e2
   exact fin (h:={s.hp with floor:=s.hp.next}) e1 rfl rfl S.fl.2 (Nat.le_refl _) (Nat.le_trans S.fl.1 S.fl.2) (S.hp.floor _) (fun _=>hs)
 | false=>
   simp only[cond_false] at e
   refine (fin (h:=s.hp) (h':=r.2) (v:=r.1) e rfl rfl (Nat.le_refl _) S.fl.2 S.fl.1 S.hp (fun T=> ?_))
   rw[hs,←T.floor]
theorem call_sound (hc:CCok K c) (hC:CallSound K C) (S:SE K μ lam E A nt s a w) (hE:E≤w.heap.size) (hd:inB nt o.dst=true) {cl:Call} (hop:o.op= .call cl) {f:FuncId} (hcl:cl.callee= .value (.func f)) {g:Nat} (hg:lk c.F f=some g) {xs:List Opd} (hxs:compXs c cl.args.toList=some xs)
 (e:opF C s (.call o.dst g xs q)=some s'):o.wp K.P a w (Post K μ E A nt s s' w) Q:=by
 obtain ⟨vs,e1,e2⟩:=Option.bind_eq_some_iff.1 e
 obtain ⟨r,e3,e4⟩:=Option.bind_eq_some_iff.1 e2
 injection e4 with e4
 refine post_call (q:=q) (args:=cl.args.map a.eval) hC S hE hd (hc.F _ _ hg) (by simpa using evs_R hc S hxs e1) ?_ e3 e4.symm
 have hfn:a.eval (.func f)= .func (.func f) #[] #[]:=rfl
 unfold execOp;rw[hop]
 simp only[resolve,hcl,hfn,Deferred.ofValue,Sem.run_bind,Sem.run_pure,Result.andThen_ok,invoke]
 rw[show (#[]++cl.args.map a.eval++ #[])=cl.args.map a.eval by simp]
 exact enter_run hc (hc.F _ _ hg) _
theorem calv_sound (hc:CCok K c) (hC:CallSound K C) (S:SE K μ lam E A nt s a w) (hE:E≤w.heap.size) (hd:inB nt o.dst=true) {cl:Call} (hop:o.op= .call cl) {t:Nat} (hcl:cl.callee= .value (.tmp t)) {xs:List Opd} (hxs:compXs c cl.args.toList=some xs)
 (e:opF C s (.calv o.dst (.t t) xs q)=some s'):o.wp K.P a w (Post K μ E A nt s s' w) Q:=by
 simp only[opF] at e
 split at e
 ·rename_i f ps hv
  obtain ⟨vs,e1,e2⟩:=Option.bind_eq_some_iff.1 e
  obtain ⟨r,e3,e4⟩:=Option.bind_eq_some_iff.1 e2
  injection e4 with e4
  obtain ⟨fid,ws,h1,h2,h3⟩:=evc_R hc S (x:= .tmp t) rfl hv
  have hps: ∀(ps:List (Nat×Nat×Nat)) (ws:List Value),All2 (ptrR μ) ps ws→All2 (V.R K μ) (ps.map fun p=>V.c (.ptr p.1 p.2.1 p.2.2)) ws:=by
   intro ps
   induction ps with
   | nil=>intro ws h;cases ws with
     | nil=>trivial
     | cons x ws=>exact h.elim
   | cons p ps ih=>intro ws h;cases ws with
     | nil=>exact h.elim
     | cons x ws=>exact ⟨h.1,ih ws h.2⟩
  refine post_call (q:=q) (args:=cl.args.map a.eval++ws) hC S hE hd h1 (by simpa using (evs_R hc S hxs e1).append (hps _ _ h3)) ?_ e3 e4.symm
  unfold execOp;rw[hop]
  simp only[resolve,hcl,h2,Deferred.ofValue,Sem.run_bind,Sem.run_pure,Result.andThen_ok,invoke]
  rw[show (#[]++cl.args.map a.eval)=cl.args.map a.eval by simp]
  exact enter_run hc h1 _
 ·cases e

/-- Every operation that the compiler takes. -/
theorem op_sound (hc:CCok K c) (hC:CallSound K C) {ro:RO} (hco:compOp c esc q o.dst o.op=some ro) (hd:inB nt o.dst=true) (S:SE K μ lam E A nt s a w) (hE:E≤w.heap.size) (e:opF C s ro=some s'):o.wp K.P a w (Post K μ E A nt s s' w) Q:=by
 generalize hdst:o.dst=dst at hco
 generalize hop:o.op=op at hco
 unfold compOp at hco
 split at hco
 ·simp only[Option.map_eq_some_iff] at hco;obtain ⟨y,h1,rfl⟩:=hco;exact mov_sound hc S hd hdst (.inl hop) h1 e
 ·simp only[Option.map_eq_some_iff] at hco;obtain ⟨y,h1,rfl⟩:=hco;exact mov_sound hc S hd hdst (.inr hop) h1 e
 ·obtain ⟨y1,h1,hco⟩:=Option.bind_eq_some_iff.1 hco
  obtain ⟨y2,h2,hco⟩:=Option.bind_eq_some_iff.1 hco
  obtain ⟨y3,h3,hco⟩:=Option.bind_eq_some_iff.1 hco
  injection hco with hco;subst hco
  exact pick_sound hc S hd hdst hop h1 h2 h3 e
 ·obtain ⟨ti,h1,hco⟩:=Option.bind_eq_some_iff.1 hco
  obtain ⟨z,h2,hco⟩:=Option.bind_eq_some_iff.1 hco
  injection hco with hco
  split at hco
  ·subst hco;exact new_sound hc S hE hd hdst h1 h2 hop e
  ·subst hco;exact loc_sound hc S hE hd hdst h1 h2 hop e
 ·obtain ⟨y,h1,hco⟩:=Option.bind_eq_some_iff.1 hco
  injection hco with hco
  split at hco
  ·subst hco;exact newb_sound hc S hE hd hdst h1 hop e
  ·subst hco;exact locb_sound hc S hE hd hdst h1 hop e
 ·obtain ⟨ti,h1,hco⟩:=Option.bind_eq_some_iff.1 hco
  obtain ⟨z,h2,hco⟩:=Option.bind_eq_some_iff.1 hco
  split at hco
  ·rename_i fs hk
   obtain ⟨ps,h3,hco⟩:=Option.bind_eq_some_iff.1 hco
   injection hco with hco;subst hco
   exact build_sound hc S hd hdst h1 h2 hk h3 hop e
  ·cases hco
 ·obtain ⟨ti,h1,hco⟩:=Option.bind_eq_some_iff.1 hco
  split at hco
  ·rename_i e0 tag hk
   obtain ⟨te,h2,hco⟩:=Option.bind_eq_some_iff.1 hco
   obtain ⟨z,h3,hco⟩:=Option.bind_eq_some_iff.1 hco
   split at hco
   ·rename_i hlen
    obtain ⟨ps,h4,hco⟩:=Option.bind_eq_some_iff.1 hco
    injection hco with hco;subst hco
    exact lit_sound hc S hE hd hdst h1 hk h2 h3 hlen h4 hop e
   ·cases hco
  ·cases hco
 ·obtain ⟨ti,h1,hco⟩:=Option.bind_eq_some_iff.1 hco
  injection hco with hco;subst hco
  exact load_sound hc S hd hdst h1 hop e
 ·obtain ⟨ti,h1,hco⟩:=Option.bind_eq_some_iff.1 hco
  obtain ⟨x,h2,hco⟩:=Option.bind_eq_some_iff.1 hco
  injection hco with hco;subst hco
  exact store_sound hc S hdst h1 h2 hop e
 ·obtain ⟨ti,h1,hco⟩:=Option.bind_eq_some_iff.1 hco
  split at hco
  ·rename_i fs hk
   obtain ⟨x,h2,hco⟩:=Option.bind_eq_some_iff.1 hco
   injection hco with hco;subst hco
   exact fad_sound hc S hd hdst h1 hk h2 hop e
  ·cases hco
 ·obtain ⟨ti,h1,hco⟩:=Option.bind_eq_some_iff.1 hco
  split at hco
  ·rename_i fs hk
   obtain ⟨y,h2,hco⟩:=Option.bind_eq_some_iff.1 hco
   obtain ⟨x,h3,hco⟩:=Option.bind_eq_some_iff.1 hco
   injection hco with hco;subst hco
   exact fld_sound hc S hd hdst h1 hk h2 h3 hop e
  ·cases hco
 ·obtain ⟨ti,h1,hco⟩:=Option.bind_eq_some_iff.1 hco
  split at hco
  ·rename_i e0 tag hk
   obtain ⟨x,h2,hco⟩:=Option.bind_eq_some_iff.1 hco
   obtain ⟨i,h3,hco⟩:=Option.bind_eq_some_iff.1 hco
   injection hco with hco;subst hco
   exact idx_sound hc S hd hdst h1 hk h2 h3 hop e
  ·cases hco
 ·obtain ⟨ti,h1,hco⟩:=Option.bind_eq_some_iff.1 hco
  split at hco
  ·rename_i hk
   obtain ⟨x,h2,hco⟩:=Option.bind_eq_some_iff.1 hco
   obtain ⟨i,h3,hco⟩:=Option.bind_eq_some_iff.1 hco
   injection hco with hco;subst hco
   exact sidx_sound hc S hd hdst h1 hk h2 h3 hop e
  ·cases hco
 ·obtain ⟨ti,h1,hco⟩:=Option.bind_eq_some_iff.1 hco
  obtain ⟨x,h2,hco⟩:=Option.bind_eq_some_iff.1 hco
  obtain ⟨y,h3,hco⟩:=Option.bind_eq_some_iff.1 hco
  split at hco
  ·injection hco with hco;subst hco;exact bin_sound hc S hd hdst hop h2 h3 e
  ·injection hco with hco;subst hco;exact bin_sound hc S hd hdst hop h2 h3 e
  ·injection hco with hco;subst hco;exact beq_sound hc S hd hdst (.inl ⟨rfl,rfl⟩) h1 (by assumption) hop h2 h3 e
  ·injection hco with hco;subst hco;exact beq_sound hc S hd hdst (.inr ⟨rfl,rfl⟩) h1 (by assumption) hop h2 h3 e
  ·simp only[Option.map_eq_some_iff] at hco;obtain ⟨ks,hq,rfl⟩:=hco;exact eqs_sound hc S hd hdst (.inl ⟨rfl,rfl⟩) hq hop h2 h3 e
  ·simp only[Option.map_eq_some_iff] at hco;obtain ⟨ks,hq,rfl⟩:=hco;exact eqs_sound hc S hd hdst (.inr ⟨rfl,rfl⟩) hq hop h2 h3 e
  ·cases hco
 ·simp only[Option.map_eq_some_iff] at hco;obtain ⟨y,h1,rfl⟩:=hco;exact not_sound hc S hd hdst hop h1 e
 ·obtain ⟨ts,h1,hco⟩:=Option.bind_eq_some_iff.1 hco
  obtain ⟨tt,h2,hco⟩:=Option.bind_eq_some_iff.1 hco
  split at hco
  ·rename_i k0 k hk0 hk
   simp only[Option.map_eq_some_iff] at hco;obtain ⟨y,h3,rfl⟩:=hco
   exact conv_sound hc S hd hdst hop h1 h2 hk0 hk h3 e
  ·cases hco
 ·split at hco
  ·rename_i hf
   obtain ⟨g,h1,hco⟩:=Option.bind_eq_some_iff.1 hco
   obtain ⟨l,h2,hco⟩:=Option.bind_eq_some_iff.1 hco
   injection hco with hco;subst hco
   exact mkf_sound hc S hd hdst hop hf h1 h2 e
  ·cases hco
 ·obtain ⟨ti,h1,hco⟩:=Option.bind_eq_some_iff.1 hco
  split at hco
  ·rename_i e0 tag hk
   obtain ⟨te,h2,hco⟩:=Option.bind_eq_some_iff.1 hco
   obtain ⟨z,h3,hco⟩:=Option.bind_eq_some_iff.1 hco
   obtain ⟨x,h4,hco⟩:=Option.bind_eq_some_iff.1 hco
   obtain ⟨y,h5,hco⟩:=Option.bind_eq_some_iff.1 hco
   injection hco with hco;subst hco
   exact mks_sound hc S hE hd hdst h1 hk h2 h3 h4 h5 hop e
  ·cases hco
 ·obtain ⟨ti,h1,hco⟩:=Option.bind_eq_some_iff.1 hco
  obtain ⟨x,h2,hco⟩:=Option.bind_eq_some_iff.1 hco
  obtain ⟨lo,h3,hco⟩:=Option.bind_eq_some_iff.1 hco
  obtain ⟨hi,h4,hco⟩:=Option.bind_eq_some_iff.1 hco
  split at hco
  ·rename_i e0 tag hk;injection hco with hco;subst hco;exact cut_sound hc S hd hdst h1 hk h2 h3 h4 hop e
  ·rename_i hk;injection hco with hco;subst hco;exact scut_sound hc S hd hdst h1 hk h2 h3 h4 hop e
  ·cases hco
 ·simp only[Option.map_eq_some_iff] at hco;obtain ⟨y,h1,rfl⟩:=hco;exact ext_sound hc S hd hdst hop h1 e
 ·simp only[Option.map_eq_some_iff] at hco;obtain ⟨y,h1,rfl⟩:=hco;exact nilc_sound hc S hd hdst hop h1 e
 ·rename_i cl
  unfold compCall at hco
  split at hco
  ·rename_i f hcl
   split at hco
   ·rename_i hf
    split at hco
    ·rename_i d x y z hargs
     obtain ⟨x1,h2,hco⟩:=Option.bind_eq_some_iff.1 hco
     obtain ⟨y1,h3,hco⟩:=Option.bind_eq_some_iff.1 hco
     obtain ⟨z1,h4,hco⟩:=Option.bind_eq_some_iff.1 hco
     injection hco with hco;subst hco
     exact add_sound hc S hd hdst hop hcl hf hargs h2 h3 h4 e
    ·cases hco
   ·obtain ⟨g,h1,hco⟩:=Option.bind_eq_some_iff.1 hco
    obtain ⟨xs,h2,hco⟩:=Option.bind_eq_some_iff.1 hco
    injection hco with hco;subst hco
    subst hdst
    exact call_sound hc hC S hE hd hop hcl h1 h2 e
  ·rename_i t hcl
   obtain ⟨xs,h2,hco⟩:=Option.bind_eq_some_iff.1 hco
   injection hco with hco;subst hco
   subst hdst
   exact calv_sound hc hC S hE hd hop hcl h2 e
  ·rename_i hcl
   split at hco
   ·rename_i d x t hargs hts
    obtain ⟨ti,h1,hco⟩:=Option.bind_eq_some_iff.1 hco
    split at hco
    ·rename_i e0 tag hk
     simp only[Option.map_eq_some_iff] at hco;obtain ⟨y,h2,rfl⟩:=hco
     exact len_sound hc S hd hdst hop hcl hargs hts h1 hk h2 e
    ·rename_i hk
     simp only[Option.map_eq_some_iff] at hco;obtain ⟨y,h2,rfl⟩:=hco
     exact slen_sound hc S hd hdst hop hcl hargs hts h1 hk h2 e
    ·cases hco
   ·cases hco
  ·rename_i hcl
   split at hco
   ·rename_i d x y t t' hargs hts
    split at hco
    ·rename_i htt
     subst htt
     obtain ⟨ti,h1,hco⟩:=Option.bind_eq_some_iff.1 hco
     split at hco
     ·rename_i e0 tag hk
      obtain ⟨te,h2,hco⟩:=Option.bind_eq_some_iff.1 hco
      obtain ⟨x1,h3,hco⟩:=Option.bind_eq_some_iff.1 hco
      obtain ⟨y1,h4,hco⟩:=Option.bind_eq_some_iff.1 hco
      injection hco with hco;subst hco
      exact app_sound hc S hE hd hdst h1 hk h2 h3 h4 hop hcl hargs hts e
     ·cases hco
    ·cases hco
   ·cases hco
  ·cases hco
 ·cases hco
end
end Go.Proofs.Yteagcdhkobeanaa.A
