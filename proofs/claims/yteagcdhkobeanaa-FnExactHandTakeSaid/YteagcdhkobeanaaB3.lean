/- What the abstract run tells of a function, the machine does. -/
import Derived.Test.YteagcdhkobeanaaB2
namespace Go.Proofs.Yteagcdhkobeanaa.A
open Go

structure ProgOk (K:Cfg) (c:CC) (F:Nat→Option RF) (Z:CallF):Prop where
 cc:CCok K c
 fn: ∀g fid rf,K.G g=some fid→F g=some rf→ ∃fn esc an,K.P.funcs[fid]? =some fn∧compF c esc an rf.nargs fn=some rf
 prim:CallSound K (fun g vs h=>match F g with | none=>Z g vs h | some _=>none)
 stepZ:StepC Z

variable {K:Cfg} {c:CC} {F:Nat→Option RF} {Z:CallF}

theorem tup_R {μ:Mu}: ∀{vs:List V} {us:List Value},All2 (V.R1 K μ) vs us→(tupV vs).R K μ (if h:us.toArray.size=1 then us.toArray[0] else .tuple us.toArray)
 | [],[],_=>⟨#[],rfl,trivial⟩
 | [v],[u],h=>h.1.r
 | [_],[],h=>h.elim
 | [_],_::_::_,h=>h.2.elim
 | v::v'::vs,u::u'::us,h=>by
   rw[dif_neg (by simp)]
   exact ⟨_,rfl,by simpa using h⟩

theorem fun_sound (h:ProgOk K c F Z) {C:CallF} {L:LoopF} (hC:CallSound K C) (hL:LoopSound K c L) (hTC:StepC C) (hTL:StepL L) {rf:RF} {fid:FuncId} {fn:Func} {esc:List Nat} {an:List (List Nat)} (hfn:K.P.funcs[fid]? =some fn) (hcf:compF c esc an rf.nargs fn=some rf)
 {vs:List V} {hp h':Heap} {r:V} (e:funF C L rf vs hp=some (r,h')) {μ:Mu} {w:World} {args:Array Value} (H:HR K μ hp w) (hO:K.O≤hp.floor) (hfl:hp.floor≤hp.next) (hvs:All2 (V.R K μ) vs args.toList):
 Calls K.P fid args w (CallOut K μ hp h' w r):=by
 unfold compF at hcf
 split at hcf
 ·cases hcf
 ·rename_i b hb
  split at hcf
  ·rename_i hnt
   obtain ⟨x,h1,hcf⟩:=Option.bind_eq_some_iff.1 hcf
   obtain ⟨rs,h2,hcf⟩:=Option.bind_eq_some_iff.1 hcf
   injection hcf with hcf
   have hbody:rf.body=x.1:=by rw[←hcf]
   have hres:rf.res=rs:=by rw[←hcf]
   unfold funF at e
   split at e
   ·rename_i hlen
    obtain ⟨r1,e1,e2⟩:=Option.bind_eq_some_iff.1 e
    have hl:=hvs.length
    simp only[Array.length_toList] at hl
    have S:SE K μ (fun _=>none) w.heap.size (WA μ hp w) fn.ntmps {env:=number 0 vs,adr:=[],loc:=[],hp:=hp} {tmps:=args++Array.replicate (fn.ntmps-args.size) undef,defers:=[]} w:=by
     refine ⟨by simp;omega,rfl,?_,fun t k o hx=>(nomatch hx),fun k cs hx=>(nomatch hx),fun k b hk=>(nomatch hk),fun k k' b hk=>(nomatch hk),fun k b id l rows hk=>(nomatch hk),H,?_,⟨hO,hfl⟩,fun b hb=> .inl hb⟩
     ·intro t v ht
      obtain ⟨_,q1⟩:=lk_number ht
      obtain ⟨u,q2,q3⟩:=hvs.get _ _ q1
      have hlt:t<args.size:=by have:=(List.getElem?_eq_some_iff.1 q2).1;simpa using this
      rw[Array.getD_eq_getD_getElem?,Array.getElem?_append_left hlt]
      have:args[t]? =some u:=by simpa using q2
      rw[this];exact q3
     ·intro id l rows q1 q2 q3
      exact .inr ⟨id,l,rows,q1,q2,q3,rfl⟩
    rw[hbody] at e1
    have T:=codeF_step hTC hTL _ e1 hfl
    refine calls_of_wp hfn hb (wp_mono (code_sound h.cc hC hL hTC hTL b an x.1 x.2 h1 _ r1 e1 μ _ _ w S (Nat.le_refl _)) ?_)
    rintro ex a1 w1 ⟨rfl,μ1,lam1,S1,hx,hF⟩
    have fin: ∀vs',resF r1.2 rs=some vs'→tupV vs'=r→r1.2.hp=h'→a1.defers=[]∧ ∃v,(results fn a1.tmps).run K.P w1= .ok v w1∧CallOut K μ hp h' w r (.returned v) w1:=by
     intro vs' e3 e4 e5
     obtain ⟨us,q1,q2⟩:=res_sound h.cc S1 h2 e3
     refine ⟨S1.dfr,if h:us.toArray.size=1 then us.toArray[0] else .tuple us.toArray,?_,?_⟩
     ·have hm:=mapM_run (R:=fun _ _=>True) _ _ q1
      have hrs:results fn a1.tmps=(do let vs ←fn.results.mapM (resOp a1.tmps);pure (if h:vs.size=1 then vs[0] else .tuple vs)):=by
       unfold results
       congr 1
      rw[hrs,Array.mapM_eq_mapM_toList]
      simp only[bind_map_left,Sem.run_bind]
      rw[hm]
      rfl
     ·subst e4;subst e5
      exact ⟨_,μ1,rfl,tup_R q2,S1.hp,hx,hF,T,fun id l rows q3 q4 q5=>S1.wr id l rows (by rw[T.floor];exact q3) q4 q5⟩
    split at e2
    ·cases e2
    ·rename_i hne
     obtain ⟨vs',e3,e4⟩:=Option.bind_eq_some_iff.1 e2
     injection e4 with e4;injection e4 with e4 e5
     rw[hres] at e3
     have:=fin vs' e3 e4 e5
     cases hq:r1.1 with
     | normal=>exact this
     | ret=>exact this
     | exit i=>exact absurd hq (hne i)
   ·cases e
  ·cases hcf

theorem all_sound (h:ProgOk K c F Z): ∀n,CallSound K (callN F Z n)∧LoopSound K c (loopN F Z n):=by
 intro n
 induction n using Nat.strongRecOn with
 | _ n ih=>
   refine ⟨?_,loop_sound h.cc h.stepZ n (fun m hm=>(ih m hm).1) (fun m hm=>(ih m hm).2)⟩
   cases n with
   | zero=>intro f vs hp r h' e;simp[callN] at e
   | succ n=>
     intro f vs hp r h' e fid hfid μ w args H hO hfl hvs
     rw[callN] at e
     cases hF:F f with
     | none=>
       rw[hF] at e
       exact h.prim f vs hp r h' (by simp only[hF];exact e) fid hfid μ w args H hO hfl hvs
     | some rf=>
       rw[hF] at e
       obtain ⟨fn,esc,an,h1,h2⟩:=h.fn f fid rf hfid hF
       have hst:=fuel_step F Z h.stepZ n
       exact fun_sound h (ih n (by omega)).1 (ih n (by omega)).2 hst.1 hst.2 h1 h2 e H hO hfl hvs
/-- The main thing: what the abstract run tells, the machine does. -/
theorem sound (h:ProgOk K c F Z):CallSound K (call F Z):=by
 intro f vs hp r h' e
 obtain ⟨n,hn⟩:=(call_iff F Z).1 e
 exact (all_sound h n).1 f vs hp r h' hn
end Go.Proofs.Yteagcdhkobeanaa.A
