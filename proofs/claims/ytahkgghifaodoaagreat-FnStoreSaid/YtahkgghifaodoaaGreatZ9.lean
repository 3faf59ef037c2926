/- What a function of no memory does in whatever world: a part of a program suffices; the numbers of slices.SortFunc's text. -/
import Derived.Test.YtahkgghifaodoaaGreatZ8
namespace Go.Proofs.YtahkgghifaodoaaGreat.A
open Go Go.Shelf
set_option linter.unusedVariables false
theorem HR.none (K:Cfg) (W:World):HR K (fun _=>none) ⟨K.O,K.O,fun _=>none⟩ W where
 dom:=fun _ _ h=>by cases h
 cells:=fun _ _ _ h=>by cases h
 own:=fun _ _ _ _ h=>by cases h
 inj:=fun _ _ _ _ _ _ _ _ h=>by cases h
 top:=fun _ _=>rfl
theorem calls_grow {K:Cfg} {c:CC} {F:Nat→Option RF} {Z:CallF} (hp:ProgOk K c F Z) {n:Nat} {fid:FuncId} (hG:K.G n=some fid) {vs:List V} {args:Array Value} {k:IntKind} {i:Int} {h':Heap}
 (e:call F Z n vs ⟨K.O,K.O,fun _=>none⟩=some (.c (.int k i),h')) (ha:All2 (V.R K fun _=>none) vs args.toList) (W:World):
 Calls K.P fid args W fun e w'=>e= .returned (.int k i)∧ ∃q os',w'=Sort.grow (W.drewN q) os':=by
 refine (sound hp n vs _ _ _ e fid hG _ W args (HR.none K W) (Nat.le_refl _) (Nat.le_refl _) ha).mono ?_
 rintro E w' ⟨v,μ',rfl,h1,_,_,h4,_,_⟩
 have hv:v= .int k i:=h1
 subst hv
 refine ⟨rfl,w'.drawn-W.drawn,w'.heap.extract W.heap.size w'.heap.size,?_⟩
 have hheap:W.heap++w'.heap.extract W.heap.size w'.heap.size=w'.heap:=by
  have hs:=h4.size
  apply Array.ext_getElem?
  intro j
  rw[Array.getElem?_append]
  split
  ·rename_i hj
   refine (h4.same j hj ?_).symm
   rintro (q | ⟨_,_,_,_,q,_⟩)
   ·omega
   ·cases q
  ·rename_i hj
   rw[Array.getElem?_extract]
   split
   ·congr 1;omega
   ·exact (Array.getElem?_eq_none (by omega)).symm
 have hd:=h4.drawn
 have h1':=h4.os;have h2':=h4.tape;have h3':=h4.output
 obtain ⟨hp1,tp,dr,o,ou⟩:=w'
 simp only[Sort.grow,World.drewN,World.mk.injEq]
 exact ⟨hheap.symm,h2',by simp only at hd ⊢;omega,h1',h3'⟩
def renS (fs ts:List (Nat×Nat)):Ren:=⟨fun n=>(lk fs n).getD 0,fun n=>(lk ts n).getD 0,fun _=>0⟩
end Go.Proofs.YtahkgghifaodoaaGreat.A
