/- The abstract run without fuel: more fuel tells the same; the limit, and its equations. -/
import Derived.Test.YteagcdhkobeanaaA1
namespace Go.Proofs.Yteagcdhkobeanaa.A
open Go

abbrev LoopF:=List Nat→RC→St→Option (Ex×St)
def leC (C C':CallF):Prop:= ∀f vs h r,C f vs h=some r→C' f vs h=some r
def leL (L L':LoopF):Prop:= ∀l b s r,L l b s=some r→L' l b s=some r

theorem doCall_mono {C C':CallF} (hC:leC C C') {f:Nat} {vs:List V} {q:Bool} {h:Heap} {r:V×Heap} (e:doCall C f vs q h=some r):doCall C' f vs q h=some r:=by
 unfold doCall at e ⊢
 cases q with
 | false=>exact hC _ _ _ _ e
 | true=>
   simp only[cond_true] at e ⊢
   obtain ⟨x,h1,h2⟩:=Option.bind_eq_some_iff.1 e
   rw[hC _ _ _ _ h1];exact h2

theorem opF_mono {C C':CallF} (hC:leC C C') {s s':St} {o:RO} (e:opF C s o=some s'):opF C' s o=some s':=by
 cases o with
 | call d f xs q=>
   simp only[opF] at e ⊢
   obtain ⟨vs,h1,h2⟩:=Option.bind_eq_some_iff.1 e
   obtain ⟨x,h3,h4⟩:=Option.bind_eq_some_iff.1 h2
   rw[h1,Option.bind_some,doCall_mono hC h3,Option.bind_some,←h4]
 | calv d x xs q=>
   simp only[opF] at e ⊢
   split at e
   ·rename_i f ps heq
    obtain ⟨vs,h1,h2⟩:=Option.bind_eq_some_iff.1 e
    obtain ⟨y,h3,h4⟩:=Option.bind_eq_some_iff.1 h2
    rw[h1,Option.bind_some,doCall_mono hC h3,Option.bind_some,←h4]
   ·cases e
 | _=>exact e

theorem regF_mono {C C':CallF} (hC:leC C C'): ∀(g:List RG) {s s':St},regF C g s=some s'→regF C' g s=some s'
 | [],_,_,e=>e
 | g::r,s,s',e=>by
   unfold regF at e ⊢
   split at e
   ·obtain ⟨x,h1,h2⟩:=Option.bind_eq_some_iff.1 e
    rw[opF_mono hC h1];exact regF_mono hC r h2
   ·split at e
    ·rename_i b _
     cases hb:(b==_) with
     | true=>
       rw[hb] at e
       obtain ⟨x,h1,h2⟩:=Option.bind_eq_some_iff.1 e
       simp only[cond_true,opF_mono hC h1,Option.bind_some];exact regF_mono hC r h2
     | false=>rw[hb] at e;exact regF_mono hC r e
    ·exact regF_mono hC r e
    ·cases e

theorem codeF_mono {C C':CallF} {L L':LoopF} (hC:leC C C') (hL:leL L L'): ∀(c:RC) {s:St} {r:Ex×St},codeF C L c s=some r→codeF C' L' c s=some r
 | .skip,_,_,e=>e
 | .exit _,_,_,e=>e
 | .ret,_,_,e=>e
 | .reg ops,s,r,e=>by
   simp only[codeF] at e ⊢
   obtain ⟨x,h1,h2⟩:=Option.bind_eq_some_iff.1 e
   rw[regF_mono hC ops h1];exact h2
 | .seq a b,s,r,e=>by
   simp only[codeF] at e ⊢
   obtain ⟨x,h1,h2⟩:=Option.bind_eq_some_iff.1 e
   rw[codeF_mono hC hL a h1,Option.bind_some]
   split at h2
   ·exact codeF_mono hC hL b h2
   ·exact h2
 | .cond c x y,s,r,e=>by
   simp only[codeF] at e ⊢
   split at e
   ·rename_i b _
    cases b
    ·exact codeF_mono hC hL y e
    ·exact codeF_mono hC hL x e
   ·cases e
 | .block id b,s,r,e=>by
   simp only[codeF] at e ⊢
   obtain ⟨x,h1,h2⟩:=Option.bind_eq_some_iff.1 e
   rw[codeF_mono hC hL b h1];exact h2
 | .loop live b,s,r,e=>hL _ _ _ _ e

theorem funF_mono {C C':CallF} {L L':LoopF} (hC:leC C C') (hL:leL L L') {f:RF} {vs:List V} {h:Heap} {r:V×Heap} (e:funF C L f vs h=some r):funF C' L' f vs h=some r:=by
 unfold funF at e ⊢
 split at e
 ·rename_i hl
  rw[if_pos hl]
  obtain ⟨x,h1,h2⟩:=Option.bind_eq_some_iff.1 e
  rw[codeF_mono hC hL _ h1];exact h2
 ·cases e

variable (F:Nat→Option RF) (Z:CallF)

theorem fuel_mono: ∀n,leC (callN F Z n) (callN F Z (n+1))∧leL (loopN F Z n) (loopN F Z (n+1))
 | 0=>⟨fun _ _ _ _ h=>by simp[callN] at h,fun _ _ _ _ h=>by simp[loopN] at h⟩
 | n+1=>by
   obtain ⟨hc,hl⟩:=fuel_mono n
   constructor
   ·intro f vs h r e
    rw[callN] at e ⊢
    cases hf:F f with
    | none=>rw[hf] at e;exact e
    | some rf=>rw[hf] at e;exact funF_mono hc hl e
   ·intro l b s r e
    rw[loopN] at e ⊢
    obtain ⟨x,h1,h2⟩:=Option.bind_eq_some_iff.1 e
    rw[codeF_mono hc hl _ h1,Option.bind_some]
    split at h2
    ·exact hl _ _ _ _ h2
    ·exact h2

theorem callN_le {n m:Nat} (h:n≤m):leC (callN F Z n) (callN F Z m):=by
 induction h with
 | refl=>exact fun _ _ _ _ e=>e
 | step _ ih=>exact fun f vs h r e=>(fuel_mono F Z _).1 _ _ _ _ (ih _ _ _ _ e)
theorem loopN_le {n m:Nat} (h:n≤m):leL (loopN F Z n) (loopN F Z m):=by
 induction h with
 | refl=>exact fun _ _ _ _ e=>e
 | step _ ih=>exact fun l b s r e=>(fuel_mono F Z _).2 _ _ _ _ (ih _ _ _ _ e)

open Classical in
/-- A call's answer. -/
noncomputable def call:CallF:=fun f vs h=>if e: ∃n r,callN F Z n f vs h=some r then some e.choose_spec.choose else none
open Classical in
/-- A loop's answer. -/
noncomputable def loop:LoopF:=fun l b s=>if e: ∃n r,loopN F Z n l b s=some r then some e.choose_spec.choose else none

theorem call_iff {f:Nat} {vs:List V} {h:Heap} {r:V×Heap}:call F Z f vs h=some r↔ ∃n,callN F Z n f vs h=some r:=by
 unfold call
 split
 ·rename_i e
  have hs:=e.choose_spec.choose_spec
  constructor
  ·intro q;injection q with q;exact ⟨_,q▸hs⟩
  ·intro ⟨n,hn⟩
   have h1:=callN_le F Z (Nat.le_max_left n e.choose) _ _ _ _ hn
   have h2:=callN_le F Z (Nat.le_max_right n e.choose) _ _ _ _ hs
   rw[h1] at h2;exact h2.symm
 ·rename_i e
  exact ⟨fun q=>(nomatch q),fun ⟨n,hn⟩=>absurd ⟨n,r,hn⟩ e⟩
theorem loop_iff {l:List Nat} {b:RC} {s:St} {r:Ex×St}:loop F Z l b s=some r↔ ∃n,loopN F Z n l b s=some r:=by
 unfold loop
 split
 ·rename_i e
  have hs:=e.choose_spec.choose_spec
  constructor
  ·intro q;injection q with q;exact ⟨_,q▸hs⟩
  ·intro ⟨n,hn⟩
   have h1:=loopN_le F Z (Nat.le_max_left n e.choose) _ _ _ _ hn
   have h2:=loopN_le F Z (Nat.le_max_right n e.choose) _ _ _ _ hs
   rw[h1] at h2;exact h2.symm
 ·rename_i e
  exact ⟨fun q=>(nomatch q),fun ⟨n,hn⟩=>absurd ⟨n,r,hn⟩ e⟩

/-! ### what the limit tells, some fuel tells -/
theorem doCall_cont {f:Nat} {vs:List V} {q:Bool} {h:Heap} {r:V×Heap} (e:doCall (call F Z) f vs q h=some r): ∃n,doCall (callN F Z n) f vs q h=some r:=by
 unfold doCall at e
 cases q with
 | false=>obtain ⟨n,hn⟩:=(call_iff F Z).1 e;exact ⟨n,hn⟩
 | true=>
   obtain ⟨x,h1,h2⟩:=Option.bind_eq_some_iff.1 e
   obtain ⟨n,hn⟩:=(call_iff F Z).1 h1
   exact ⟨n,by simp only[doCall,cond_true,hn];exact h2⟩
theorem opF_cont {s s':St} {o:RO} (e:opF (call F Z) s o=some s'): ∃n,opF (callN F Z n) s o=some s':=by
 cases o with
 | call d f xs q=>
   simp only[opF] at e ⊢
   obtain ⟨vs,h1,h2⟩:=Option.bind_eq_some_iff.1 e
   obtain ⟨x,h3,h4⟩:=Option.bind_eq_some_iff.1 h2
   obtain ⟨n,hn⟩:=doCall_cont F Z h3
   exact ⟨n,by rw[h1,Option.bind_some,hn,Option.bind_some,←h4]⟩
 | calv d x xs q=>
   simp only[opF] at e ⊢
   split at e
   ·rename_i f ps heq
    obtain ⟨vs,h1,h2⟩:=Option.bind_eq_some_iff.1 e
    obtain ⟨y,h3,h4⟩:=Option.bind_eq_some_iff.1 h2
    obtain ⟨n,hn⟩:=doCall_cont F Z h3
    exact ⟨n,by rw[h1,Option.bind_some,hn,Option.bind_some,←h4]⟩
   ·cases e
 | _=>exact ⟨0,e⟩
theorem regF_cont: ∀(g:List RG) {s s':St},regF (call F Z) g s=some s'→ ∃n,regF (callN F Z n) g s=some s'
 | [],_,_,e=>⟨0,e⟩
 | g::r,s,s',e=>by
   unfold regF at e
   split at e
   ·rename_i hg
    obtain ⟨x,h1,h2⟩:=Option.bind_eq_some_iff.1 e
    obtain ⟨n,hn⟩:=opF_cont F Z h1
    obtain ⟨m,hm⟩:=regF_cont r h2
    refine ⟨max n m,?_⟩
    unfold regF
    rw[hg]
    simp only[opF_mono (callN_le F Z (Nat.le_max_left n m)) hn,Option.bind_some]
    exact regF_mono (callN_le F Z (Nat.le_max_right n m)) r hm
   ·rename_i t want hg
    split at e
    ·rename_i b hb
     cases hq:(b==want) with
     | true=>
       rw[hq] at e
       obtain ⟨x,h1,h2⟩:=Option.bind_eq_some_iff.1 e
       obtain ⟨n,hn⟩:=opF_cont F Z h1
       obtain ⟨m,hm⟩:=regF_cont r h2
       refine ⟨max n m,?_⟩
       unfold regF
       simp only[hg,hb,hq,cond_true,opF_mono (callN_le F Z (Nat.le_max_left n m)) hn,Option.bind_some]
       exact regF_mono (callN_le F Z (Nat.le_max_right n m)) r hm
     | false=>
       rw[hq] at e
       obtain ⟨m,hm⟩:=regF_cont r e
       refine ⟨m,?_⟩
       unfold regF
       simp only[hg,hb,hq,cond_false]
       exact hm
    ·rename_i hb
     obtain ⟨m,hm⟩:=regF_cont r e
     refine ⟨m,?_⟩
     unfold regF
     simp only[hg,hb]
     exact hm
    ·cases e
theorem codeF_cont: ∀(c:RC) {s:St} {r:Ex×St},codeF (call F Z) (loop F Z) c s=some r→ ∃n,codeF (callN F Z n) (loopN F Z n) c s=some r
 | .skip,_,_,e=>⟨0,e⟩
 | .exit _,_,_,e=>⟨0,e⟩
 | .ret,_,_,e=>⟨0,e⟩
 | .reg ops,s,r,e=>by
   simp only[codeF] at e
   obtain ⟨x,h1,h2⟩:=Option.bind_eq_some_iff.1 e
   obtain ⟨n,hn⟩:=regF_cont F Z ops h1
   exact ⟨n,by simp only[codeF,hn];exact h2⟩
 | .seq a b,s,r,e=>by
   simp only[codeF] at e
   obtain ⟨x,h1,h2⟩:=Option.bind_eq_some_iff.1 e
   obtain ⟨n,hn⟩:=codeF_cont a h1
   split at h2
   ·rename_i hx
    obtain ⟨m,hm⟩:=codeF_cont b h2
    refine ⟨max n m,?_⟩
    simp only[codeF,codeF_mono (callN_le F Z (Nat.le_max_left n m)) (loopN_le F Z (Nat.le_max_left n m)) a hn,Option.bind_some,hx]
    exact codeF_mono (callN_le F Z (Nat.le_max_right n m)) (loopN_le F Z (Nat.le_max_right n m)) b hm
   ·rename_i hx
    refine ⟨n,?_⟩
    simp only[codeF,hn,Option.bind_some]
    exact h2
 | .cond c x y,s,r,e=>by
   simp only[codeF] at e
   split at e
   ·rename_i b hb
    cases b
    ·obtain ⟨n,hn⟩:=codeF_cont y e;exact ⟨n,by simp only[codeF,hb];exact hn⟩
    ·obtain ⟨n,hn⟩:=codeF_cont x e;exact ⟨n,by simp only[codeF,hb];exact hn⟩
   ·cases e
 | .block id b,s,r,e=>by
   simp only[codeF] at e
   obtain ⟨x,h1,h2⟩:=Option.bind_eq_some_iff.1 e
   obtain ⟨n,hn⟩:=codeF_cont b h1
   exact ⟨n,by simp only[codeF,hn];exact h2⟩
 | .loop live b,s,r,e=>by
   simp only[codeF] at e
   exact (loop_iff F Z).1 e
theorem funF_cont {f:RF} {vs:List V} {h:Heap} {r:V×Heap} (e:funF (call F Z) (loop F Z) f vs h=some r): ∃n,funF (callN F Z n) (loopN F Z n) f vs h=some r:=by
 unfold funF at e
 split at e
 ·rename_i hl
  obtain ⟨x,h1,h2⟩:=Option.bind_eq_some_iff.1 e
  obtain ⟨n,hn⟩:=codeF_cont F Z _ h1
  exact ⟨n,by unfold funF;rw[if_pos hl,hn];exact h2⟩
 ·cases e
theorem callN_call (n:Nat):leC (callN F Z n) (call F Z):=fun _ _ _ _ e=>(call_iff F Z).2 ⟨n,e⟩
theorem loopN_loop (n:Nat):leL (loopN F Z n) (loop F Z):=fun _ _ _ _ e=>(loop_iff F Z).2 ⟨n,e⟩

/-! ### the equations -/
theorem call_fun {f:Nat} {rf:RF} (hf:F f=some rf) (vs:List V) (h:Heap):call F Z f vs h=funF (call F Z) (loop F Z) rf vs h:=by
 apply Option.ext
 intro r
 rw[call_iff]
 constructor
 ·intro ⟨n,hn⟩
  cases n with
  | zero=>simp[callN] at hn
  | succ n=>
    rw[callN,hf] at hn
    exact funF_mono (callN_call F Z n) (loopN_loop F Z n) hn
 ·intro e
  obtain ⟨n,hn⟩:=funF_cont F Z e
  exact ⟨n+1,by rw[callN,hf];exact hn⟩
theorem call_prim {f:Nat} (hf:F f=none) (vs:List V) (h:Heap):call F Z f vs h=Z f vs h:=by
 apply Option.ext
 intro r
 rw[call_iff]
 constructor
 ·intro ⟨n,hn⟩
  cases n with
  | zero=>simp[callN] at hn
  | succ n=>rw[callN,hf] at hn;exact hn
 ·intro e;exact ⟨1,by rw[callN,hf];exact e⟩
theorem loop_eq (l:List Nat) (b:RC) (s:St):loop F Z l b s=(codeF (call F Z) (loop F Z) b s).bind fun r=>match r.1 with
 | .normal=>loop F Z l b (r.2.prune l)
 | e=>some (e,r.2):=by
 apply Option.ext
 intro r
 rw[loop_iff]
 constructor
 ·intro ⟨n,hn⟩
  cases n with
  | zero=>simp[loopN] at hn
  | succ n=>
    rw[loopN] at hn
    obtain ⟨x,h1,h2⟩:=Option.bind_eq_some_iff.1 hn
    rw[codeF_mono (callN_call F Z n) (loopN_loop F Z n) _ h1,Option.bind_some]
    split at h2
    ·rename_i hx;simp only[hx];exact loopN_loop F Z n _ _ _ _ h2
    ·rename_i hx
     split
     ·rename_i hy;exact absurd hy hx
     ·exact h2
 ·intro e
  obtain ⟨x,h1,h2⟩:=Option.bind_eq_some_iff.1 e
  obtain ⟨n,hn⟩:=codeF_cont F Z _ h1
  split at h2
  ·rename_i hx
   obtain ⟨m,hm⟩:=(loop_iff F Z).1 h2
   refine ⟨max n m+1,?_⟩
   rw[loopN,codeF_mono (callN_le F Z (Nat.le_max_left n m)) (loopN_le F Z (Nat.le_max_left n m)) _ hn,Option.bind_some]
   simp only[hx]
   exact loopN_le F Z (Nat.le_max_right n m) _ _ _ _ hm
  ·rename_i hx
   refine ⟨n+1,?_⟩
   rw[loopN,hn,Option.bind_some]
   split
   ·rename_i hy;exact absurd hy (by simpa using hx)
   ·exact h2
end Go.Proofs.Yteagcdhkobeanaa.A
