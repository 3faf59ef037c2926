/- Programs with primitives: functions of the library of which it is known what they do. -/
import Derived.Test.YteagcdhkobeanaaB6
namespace Go.Proofs.Yteagcdhkobeanaa.A
open Go
set_option linter.unusedSimpArgs false
set_option linter.unusedVariables false
abbrev PrimF:=List V→Heap→Option (V×Heap)
/-- A number's function is a primitive. -/
def PrimAt (F:Nat→Option RF) (Z:CallF) (n:Nat) (p:PrimF):Prop:= ∀vs h,call F Z n vs h=p vs h
def StepP (p:PrimF):Prop:= ∀vs h r,p vs h=some r→h.floor≤h.next→Step h r.2
/-- The machine does what a primitive tells. -/
def PrimOk (K:Cfg) (fid:FuncId) (p:PrimF):Prop:= ∀vs h r h',p vs h=some (r,h')→ ∀μ w (args:Array Value),HR K μ h w→K.O≤h.floor→h.floor≤h.next→All2 (V.R K μ) vs args.toList→Calls K.P fid args w (CallOut K μ h h' w r)
def primZ (ptab:List (Nat×FuncId×PrimF)):CallF:=fun g vs h=>match lk ptab g with
 | some x=>x.2 vs h
 | none=>none
def mkCfgZ (P:Program) (tab:List (Nat×FuncId×RF)) (ptab:List (Nat×FuncId×PrimF)) (tags:List (Nat×TypeId×Nat)):Cfg:=
 {P:=P,G:=fun g=>match lk tab g with | some x=>some x.1 | none=>(lk ptab g).map (·.1),ET:=fun t=>((lk tags t).map (·.1)).getD 0,SZ:=fun t=>((lk tags t).map (·.2)).getD 0,O:=0}
/-- A primitive's number and text. -/
def PFn (P : Program) (F : Nat → Option RF) (x : Nat × FuncId × PrimF) : Prop := (∃ fn, P.funcs[x.2.1]? = some fn ∧ fn.body.isNone = false ∧ (fn.name == "runtime.NumGoroutine") = false) ∧ F x.1 = none ∧ StepP x.2.2
theorem mkProgZ {P:Program} {tab:List (Nat×FuncId×RF)} {ptab:List (Nat×FuncId×PrimF)} {tags:List (Nat×TypeId×Nat)} {c:CC} {F:Nat→Option RF}
 (hT:(c.T.all fun x=>x.2.okB P (mkCfgZ P tab ptab tags).ET (mkCfgZ P tab ptab tags).SZ x.1)=true) (hF:(c.F.all fun x=>decide ((mkCfgZ P tab ptab tags).G x.2=some x.1))=true) (htab:AllT (FnOk P c F) tab)
 (hp:AllT (PFn P F) ptab) (hadd:AllT (AddOk P) c.adds) (heq:AllT (EqTy P) c.eqT) (O:Nat) (hok:AllT (fun x=>PrimOk ((mkCfgZ P tab ptab tags).at O) x.2.1 x.2.2) ptab):ProgOk ((mkCfgZ P tab ptab tags).at O) c F (primZ ptab) where
 cc:={
  T:=fun t ti h=>by
   rw[List.all_eq_true] at hT
   exact hT (t,ti) (lk_mem _ _ _ h)
  F:=fun f g h=>by
   rw[List.all_eq_true] at hF
   exact of_decide_eq_true (hF (f,g) (lk_mem _ _ _ h))
  G:=fun g f h=>by
   have h':(match lk tab g with | some x=>some x.1 | none=>(lk ptab g).map (·.1))=some f:=h
   split at h'
   ·rename_i x h1
    injection h' with h2
    obtain ⟨fn,esc,an,q1,q2,q3,_⟩:=htab.lk h1
    subst h2
    refine ⟨fn,q1,?_,q3⟩
    unfold compF at q2
    split at q2
    ·cases q2
    ·rename_i b hb;simp[hb]
   ·obtain ⟨x,h1,h2⟩:=Option.map_eq_some_iff.1 h'
    obtain ⟨⟨fn,q1,q2,q3⟩,_⟩:=hp.lk h1
    subst h2
    exact ⟨fn,q1,q2,q3⟩
  adds:=fun f h=>by
   have: ∀(l:List FuncId),AllT (AddOk P) l→l.contains f=true→AddOk P f:=by
    intro l
    induction l with
    | nil=>intro _ h;simp at h
    | cons x r ih=>
      intro ha hc
      simp only[List.contains_cons,Bool.or_eq_true,beq_iff_eq] at hc
      rcases hc with rfl | hc
      ·exact ha.1
      ·exact ih ha.2 hc
   exact this _ hadd h
  eq:=fun t ks h=>by
   have:=heq.lk h
   exact eqOk_of (K:=(mkCfgZ P tab ptab tags).at O) this.1 this.2.1 this.2.2}
 fn:=fun g fid rf h hf=>by
  have h':(match lk tab g with | some x=>some x.1 | none=>(lk ptab g).map (·.1))=some fid:=h
  split at h'
  ·rename_i x h1
   injection h' with h2
   obtain ⟨fn,esc,an,q1,q2,q3,q4⟩:=htab.lk h1
   subst h2
   have:rf=x.2:=by
    have q4':F g=some x.2:=q4
    rw[hf] at q4';injection q4'
   subst this
   exact ⟨fn,esc,an,q1,q2⟩
  ·obtain ⟨x,h1,h2⟩:=Option.map_eq_some_iff.1 h'
   obtain ⟨_,q,_⟩:=hp.lk h1
   rw[hf] at q;cases q
 prim:=fun g vs h r h' e fid hfid μ w args H hO hfl ha=>by
  simp only at e
  split at e
  ·rename_i hFg
   unfold primZ at e
   split at e
   ·rename_i x h1
    have hG:(match lk tab g with | some x=>some x.1 | none=>(lk ptab g).map (·.1))=some fid:=hfid
    split at hG
    ·rename_i y h2
     obtain ⟨_,_,_,_,_,_,q⟩:=htab.lk h2
     have q':F g=some y.2:=q
     rw[hFg] at q';cases q'
    ·rw[h1] at hG
     injection hG with hG
     have hok':=hok.lk h1
     subst hG
     exact hok' vs h r h' e μ w args H hO hfl ha
   ·cases e
  ·cases e
 stepZ:=fun g vs h r e hf=>by
  unfold primZ at e
  split at e
  ·rename_i x h1
   exact (hp.lk h1).2.2 vs h r e hf
  ·cases e
theorem primAt {F:Nat→Option RF} {ptab:List (Nat×FuncId×PrimF)} {n:Nat} (hF:F n=none) {x:FuncId×PrimF} (hx:lk ptab n=some x):PrimAt F (primZ ptab) n x.2:=fun vs h=>by
 rw[call_prim F _ hF]
 unfold primZ
 rw[hx]
theorem step_kp {h:Heap} {id:Nat} {rows:List (List Cell)} (hf:h.floor≤id):Step h ((h.kill id).push rows) where
 next:=by simp only[Heap.push,Heap.kill];omega
 floor:=rfl
 below:=fun j h1 h2=>by rw[show ((h.kill id).push rows).get j=if j=h.next then some rows else if j=id then none else h.get j from rfl,if_neg (by omega),if_neg (by omega)]
 dead:=fun j h1 h2=>by
  rw[show ((h.kill id).push rows).get j=if j=h.next then some rows else if j=id then none else h.get j from rfl,if_neg (by omega)]
  split
  ·rfl
  ·exact h2
 top:=fun ht j hj=>by
  have hj':h.next+1≤j:=hj
  rw[show ((h.kill id).push rows).get j=if j=h.next then some rows else if j=id then none else h.get j from rfl,if_neg (by omega)]
  split
  ·rfl
  ·exact ht j (by omega)
end Go.Proofs.Yteagcdhkobeanaa.A
