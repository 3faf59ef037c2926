/- slices.Insert and slices.Delete as primitives of a program. -/
import Derived.Test.YteagcdhkobeanaaZ6
import Derived.Test.YteagcdhkobeanaaB9
namespace Go.Proofs.Yteagcdhkobeanaa.A
open Go Go.Shelf
set_option linter.unusedSimpArgs false
set_option linter.unusedVariables false
theorem step_ins (tag bytes:Nat):StepP (insF tag bytes):=by
 intro vs h r e hf
 unfold insF at e
 split at e
 ·split at e
  ·obtain ⟨new,e1,e5⟩:=Option.bind_eq_some_iff.1 e
   split at e5
   ·split at e5
    ·split at e5
     ·injection e5 with e5;subst e5
      have:=step_kp (h:=h) (id:=h.next) (rows:=new) hf
      rw[Heap.push_kill_next] at this
      exact this
     ·cases e5
    ·obtain ⟨rows,e2,e6⟩:=Option.bind_eq_some_iff.1 e5
     split at e6
     ·rename_i hc
      injection e6 with e6;subst e6
      exact step_kp hc.2.2.1
     ·cases e6
    ·cases e5
   ·cases e5
  ·cases e
 ·cases e
theorem step_del (tag:Nat):StepP (delF tag):=by
 intro vs h r e hf
 unfold delF at e
 split at e
 ·obtain ⟨rows,e1,e5⟩:=Option.bind_eq_some_iff.1 e
  split at e5
  ·rename_i hc
   injection e5 with e5;subst e5
   exact step_kp hc.2.2.1
  ·cases e5
 ·cases e
theorem ins_ok {K:Cfg} {ρ:Ren} {z:Value} {tag bytes k:Nat} (hk:K.SZ tag=k) (hE:K.ET tag=ρ.t 9) (T:Z.InsT K.P ρ k bytes z):PrimOk K (ρ.f 22) (insF tag bytes):=by
 subst hk
 exact fun vs h r h' e μ w args H hO hfl ha=>ins_sound T hE e H hO hfl ha
theorem del_ok {K:Cfg} {ρ:Ren} {z:Value} {tag k:Nat} (hk:K.SZ tag=k) (hE:K.ET tag=ρ.t 23) (T:Z.DelT K.P ρ k z):PrimOk K (ρ.f 45) (delF tag):=by
 subst hk
 exact fun vs h r h' e μ w args H hO hfl ha=>del_sound T hE e H hO hfl ha
/-- The numbers of slices.Insert's text. -/
def renI (fi fo fr ti tb te ts:Nat):Ren:=⟨fun n=>if n=22 then fi else if n=29 then fo else if n=30 then fr else 0,fun n=>if n=3 then ti else if n=4 then tb else if n=9 then te else if n=24 then ts else 0,fun _=>0⟩
/-- The numbers of slices.Delete's text. -/
def renD (fd ti tb te ts:Nat):Ren:=⟨fun n=>if n=45 then fd else 0,fun n=>if n=3 then ti else if n=4 then tb else if n=23 then te else if n=22 then ts else 0,fun _=>0⟩
end Go.Proofs.Yteagcdhkobeanaa.A
