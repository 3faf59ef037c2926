/- The heap only goes on: what each operation, code and function leaves of it. -/
import Derived.Test.YteagcdhkobeanaaB1
import Derived.Deep.LoopGhost
import Derived.Orders
namespace Go.Proofs.Yteagcdhkobeanaa.A
open Go
variable {K:Cfg} {c:CC}

/-! ### the heap only goes on -/
theorem Step.refl (h:Heap):Step h h:=⟨Nat.le_refl _,rfl,fun _ _ _=>rfl,fun _ _ h=>h,fun h=>h⟩
theorem Step.trans {a b c:Heap} (h:Step a b) (k:Step b c):Step a c:=
 ⟨Nat.le_trans h.next k.next,k.floor.trans h.floor,fun id h1 h2=>(k.below id (by rw[h.floor];exact h1) (Nat.lt_of_lt_of_le h2 h.next)).trans (h.below id h1 h2),
  fun id h1 h2=>k.dead id (Nat.lt_of_lt_of_le h1 h.next) (h.dead id h1 h2),fun t=>k.top (h.top t)⟩
theorem Step.push (h:Heap) (rows:List (List Cell)):Step h (h.push rows):=
 ⟨by simp[Heap.push],rfl,fun id _ h2=>by simp only[Heap.push];rw[if_neg (by omega)],fun id h1 h2=>by simp only[Heap.push];rw[if_neg (by omega)];exact h2,
  fun t id hid=>by simp only[Heap.push] at hid ⊢;rw[if_neg (by omega)];exact t id (by omega)⟩
theorem Step.kill (h:Heap) (k:Nat) (hk:h.floor≤k):Step h (h.kill k):=
 ⟨Nat.le_refl _,rfl,fun id h1 _=>by simp only[Heap.kill];rw[if_neg (by omega)],fun id _ h2=>by simp only[Heap.kill];split<;>first | rfl | exact h2,
  fun t id hid=>by simp only[Heap.kill];split<;>first | rfl | exact t id hid⟩
theorem Step.put (h:Heap) (k:Nat) (rows:List (List Cell)) {old:List (List Cell)} (hk:h.floor≤k) (ho:h.get k=some old):Step h (h.put k rows):=
 ⟨Nat.le_refl _,rfl,fun id h1 _=>by simp only[Heap.put];rw[if_neg (by omega)],fun id _ h2=>by
  simp only[Heap.put];split
  ·rename_i he;subst he;rw[h2] at ho;cases ho
  ·exact h2,
  fun t id hid=>by
   simp only[Heap.put];split
   ·rename_i he;subst he;rw[t _ hid] at ho;cases ho
   ·exact t id hid⟩
def StepC (C:CallF):Prop:= ∀f vs h r,C f vs h=some r→h.floor≤h.next→Step h r.2
def StepL (L:LoopF):Prop:= ∀l b s r,L l b s=some r→s.hp.floor≤s.hp.next→Step s.hp r.2.hp
theorem Step.fl {a b:Heap} (h:Step a b) (hf:a.floor≤a.next):b.floor≤b.next:=by rw[h.floor];exact Nat.le_trans hf h.next
theorem doCall_step {C:CallF} (hC:StepC C) {f:Nat} {vs:List V} {q:Bool} {h:Heap} {r:V×Heap} (e:doCall C f vs q h=some r) (hf:h.floor≤h.next):Step h r.2:=by
 unfold doCall at e
 cases q with
 | false=>exact hC _ _ _ _ e hf
 | true=>
   obtain ⟨x,h1,h2⟩:=Option.bind_eq_some_iff.1 e
   injection h2 with h2;subst h2
   have T:=hC _ _ _ _ h1 (Nat.le_refl _)
   exact ⟨T.next,rfl,fun id _ h2=>T.below id h2 h2,fun id h1 h2=>T.dead id h1 h2,T.top⟩
theorem appF_step {h:Heap} {tag bytes:Nat} {a b:Cell} {r:Cell×Heap} (e:appF h tag bytes a b=some r):Step h r.2:=by
 unfold appF at e
 split at e
 ·obtain ⟨new,_,e⟩:=Option.bind_eq_some_iff.1 e
  split at e
  ·split at e
   ·injection e with e;subst e;exact Step.refl _
   ·split at e
    ·injection e with e;subst e;exact Step.push _ _
    ·cases e
  ·obtain ⟨rows,_,e⟩:=Option.bind_eq_some_iff.1 e
   split at e
   ·rename_i hc;injection e with e;subst e;exact (Step.kill h _ hc.2.2.2.1).trans (Step.push _ _)
   ·cases e
  ·cases e
 ·cases e
def KeepHp (s:St) (x:Option St):Prop:= ∀s',x=some s'→s'.hp=s.hp
theorem KeepHp.none {s:St}:KeepHp s none:=fun _ h=>by cases h
theorem KeepHp.some {s u:St} (h:u.hp=s.hp):KeepHp s (some u):=fun s' e=>by injection e with e;rw[←e];exact h
theorem KeepHp.bind {α:Type} {s:St} {x:Option α} {f:α→Option St} (h: ∀v,KeepHp s (f v)):KeepHp s (x.bind f):=fun s' e=>by
 obtain ⟨v,_,e2⟩:=Option.bind_eq_some_iff.1 e
 exact h v s' e2
theorem opF_step {C:CallF} (hC:StepC C) {s s':St} {o:RO} (e:opF C s o=some s') (hf:s.hp.floor≤s.hp.next):Step s.hp s'.hp:=by
 cases o with
 | call d f xs q=>
   obtain ⟨vs,h1,h2⟩:=Option.bind_eq_some_iff.1 e
   obtain ⟨x,h3,h4⟩:=Option.bind_eq_some_iff.1 h2
   injection h4 with h4;subst h4
   have:=doCall_step hC h3 hf
   cases d<;>exact this
 | calv d x xs q=>
   simp only[opF] at e
   split at e
   ·obtain ⟨vs,h1,h2⟩:=Option.bind_eq_some_iff.1 e
    obtain ⟨x,h3,h4⟩:=Option.bind_eq_some_iff.1 h2
    injection h4 with h4;subst h4
    have:=doCall_step hC h3 hf
    cases d<;>exact this
   ·cases e
 | app d tag bytes x y=>
   obtain ⟨p,_,e⟩:=Option.bind_eq_some_iff.1 e
   obtain ⟨r,_,e⟩:=Option.bind_eq_some_iff.1 e
   obtain ⟨u,h3,e⟩:=Option.bind_eq_some_iff.1 e
   injection e with e;subst e
   exact appF_step h3
 | new d z=>injection e with e;subst e;exact Step.push _ _
 | newb d x=>
   obtain ⟨p,_,e⟩:=Option.bind_eq_some_iff.1 e
   obtain ⟨r,_,e⟩:=Option.bind_eq_some_iff.1 e
   injection e with e;subst e;exact Step.push _ _
 | lit d tag len z ps=>
   obtain ⟨p,_,e⟩:=Option.bind_eq_some_iff.1 e
   obtain ⟨r,_,e⟩:=Option.bind_eq_some_iff.1 e
   injection e with e;subst e;exact Step.push _ _
 | mks d tag bytes z x y=>
   simp only[opF] at e
   split at e
   ·split at e
    ·injection e with e;subst e;exact Step.push _ _
    ·cases e
   ·cases e
 | store a n x=>
   simp only[opF] at e
   obtain ⟨p,_,e⟩:=Option.bind_eq_some_iff.1 e
   obtain ⟨r,_,e⟩:=Option.bind_eq_some_iff.1 e
   split at e
   ·split at e
    ·obtain ⟨p,_,e⟩:=Option.bind_eq_some_iff.1 e
     obtain ⟨r,_,e⟩:=Option.bind_eq_some_iff.1 e
     injection e with e;subst e;exact Step.refl _
    ·split at e
     ·obtain ⟨h',h1,e⟩:=Option.bind_eq_some_iff.1 e
      injection e with e;subst e
      unfold storeP at h1
      split at h1
      ·rename_i hfl
       obtain ⟨rows,h2,h1⟩:=Option.bind_eq_some_iff.1 h1
       obtain ⟨r,_,h1⟩:=Option.bind_eq_some_iff.1 h1
       obtain ⟨r',_,h1⟩:=Option.bind_eq_some_iff.1 h1
       injection h1 with h1;subst h1
       exact Step.put _ _ _ hfl h2
      ·cases h1
     ·cases e
   ·cases e
 | own l=>
   simp only[opF] at e
   cases hb:ownS s.adr l with
   | true=>rw[hb] at e;injection e with e;subst e;exact Step.refl _
   | false=>rw[hb] at e;cases e
 | lst a n x=>
   simp only[opF] at e
   obtain ⟨p,_,e⟩:=Option.bind_eq_some_iff.1 e
   obtain ⟨r,_,e⟩:=Option.bind_eq_some_iff.1 e
   split at e
   ·split at e
    ·obtain ⟨p,_,e⟩:=Option.bind_eq_some_iff.1 e
     obtain ⟨r,_,e⟩:=Option.bind_eq_some_iff.1 e
     injection e with e;subst e;exact Step.refl _
    ·cases e
   ·cases e
 | esc d=>
   simp only[opF] at e
   split at e
   ·rename_i k hk
    cases hb:ownK d k s.adr with
    | false=>rw[hb] at e;cases e
    | true=>
      rw[hb,cond_true] at e
      obtain ⟨cs,_,e⟩:=Option.bind_eq_some_iff.1 e
      injection e with e;subst e;exact Step.push _ _
   ·cases e
 | chk l=>
   simp only[opF] at e
   cases hb:noSlot l s.adr with
   | true=>rw[hb] at e;injection e with e;subst e;exact Step.refl _
   | false=>rw[hb] at e;cases e
 | _=>
   have:s'.hp=s.hp:=by
    refine (?_:KeepHp s (opF C s _)) s' e
    simp only[opF]
    repeat' first
     | exact KeepHp.none
     | exact KeepHp.some rfl
     | refine KeepHp.bind fun _=> ?_
     | split
   rw[this];exact Step.refl _
theorem regF_step {C:CallF} (hC:StepC C): ∀(g:List RG) {s s':St},regF C g s=some s'→s.hp.floor≤s.hp.next→Step s.hp s'.hp
 | [],_,_,e,_=>by injection e with e;subst e;exact Step.refl _
 | g::r,s,s',e,hf=>by
   unfold regF at e
   split at e
   ·obtain ⟨x,h1,h2⟩:=Option.bind_eq_some_iff.1 e
    have T:=opF_step hC h1 hf
    exact T.trans (regF_step hC r h2 (T.fl hf))
   ·split at e
    ·rename_i b _
     cases hb:(b==_) with
     | true=>
       rw[hb] at e
       obtain ⟨x,h1,h2⟩:=Option.bind_eq_some_iff.1 e
       have T:=opF_step hC h1 hf
       exact T.trans (regF_step hC r h2 (T.fl hf))
     | false=>
       rw[hb] at e
       have hsk:(s.skipO g.op.dst).hp=s.hp:=by cases g.op.dst<;>rfl
       have:=regF_step hC r e (by rw[hsk];exact hf)
       rwa [hsk] at this
    ·have hsk:(s.skipO g.op.dst).hp=s.hp:=by cases g.op.dst<;>rfl
     have:=regF_step hC r e (by rw[hsk];exact hf)
     rwa [hsk] at this
    ·cases e
theorem codeF_step {C:CallF} {L:LoopF} (hC:StepC C) (hL:StepL L): ∀(c:RC) {s:St} {r:Ex×St},codeF C L c s=some r→s.hp.floor≤s.hp.next→Step s.hp r.2.hp
 | .skip,_,_,e,_=>by injection e with e;subst e;exact Step.refl _
 | .exit _,_,_,e,_=>by injection e with e;subst e;exact Step.refl _
 | .ret,_,_,e,_=>by injection e with e;subst e;exact Step.refl _
 | .reg ops,s,r,e,hf=>by
   obtain ⟨x,h1,h2⟩:=Option.bind_eq_some_iff.1 e
   injection h2 with h2;subst h2
   exact regF_step hC ops h1 hf
 | .seq a b,s,r,e,hf=>by
   obtain ⟨x,h1,h2⟩:=Option.bind_eq_some_iff.1 e
   have T:=codeF_step hC hL a h1 hf
   split at h2
   ·exact T.trans (codeF_step hC hL b h2 (T.fl hf))
   ·injection h2 with h2;subst h2;exact T
 | .cond k x y,s,r,e,hf=>by
   simp only[codeF] at e
   split at e
   ·rename_i b _
    cases b
    ·exact codeF_step hC hL y e hf
    ·exact codeF_step hC hL x e hf
   ·cases e
 | .block id b,s,r,e,hf=>by
   obtain ⟨x,h1,h2⟩:=Option.bind_eq_some_iff.1 e
   have T:=codeF_step hC hL b h1 hf
   split at h2
   ·rename_i i _
    cases hi:(i==id) with
    | true=>rw[hi] at h2;injection h2 with h2;subst h2;exact T
    | false=>rw[hi] at h2;injection h2 with h2;subst h2;exact T
   ·injection h2 with h2;subst h2;exact T
 | .loop live b,s,r,e,hf=>hL live b (s.prune live) r e hf
theorem fuel_step (F:Nat→Option RF) (Z:CallF) (hZ:StepC Z): ∀n,StepC (callN F Z n)∧StepL (loopN F Z n)
 | 0=>⟨fun _ _ _ _ h=>by simp[callN] at h,fun _ _ _ _ h=>by simp[loopN] at h⟩
 | n+1=>by
   obtain ⟨hc,hl⟩:=fuel_step F Z hZ n
   constructor
   ·intro f vs h r e hf
    rw[callN] at e
    cases hF:F f with
    | none=>rw[hF] at e;exact hZ _ _ _ _ e hf
    | some rf=>
      rw[hF] at e
      simp only[funF] at e
      split at e
      ·obtain ⟨x,h1,h2⟩:=Option.bind_eq_some_iff.1 e
       have T:=codeF_step hc hl _ h1 hf
       split at h2
       ·cases h2
       ·obtain ⟨vs',_,h3⟩:=Option.bind_eq_some_iff.1 h2
        injection h3 with h3;subst h3;exact T
      ·cases e
   ·intro l b s r e hf
    rw[loopN] at e
    obtain ⟨x,h1,h2⟩:=Option.bind_eq_some_iff.1 e
    have T:=codeF_step hc hl _ h1 hf
    split at h2
    ·exact T.trans (hl l b (x.2.prune l) r h2 (T.fl hf))
    ·injection h2 with h2;subst h2;exact T

end Go.Proofs.Yteagcdhkobeanaa.A
