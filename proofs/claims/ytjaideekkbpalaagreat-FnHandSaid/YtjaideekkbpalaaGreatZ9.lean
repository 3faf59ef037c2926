/- What a function of no memory does in whatever world: a part of a program suffices; the numbers of slices.SortFunc's text. -/
import Derived.Test.YtjaideekkbpalaaGreatZ8
namespace Go.Proofs.YtjaideekkbpalaaGreat.A
open Go Go.Shelf
set_option linter.unusedVariables false
theorem HR.none (K:Cfg) (W:World):HR K (fun _=>none) ⟨K.O,K.O,fun _=>none⟩ W where
 dom:=fun _ _ h=>by cases h
 cells:=fun _ _ _ h=>by cases h
 own:=fun _ _ _ _ h=>by cases h
 inj:=fun _ _ _ _ _ _ _ _ h=>by cases h
 top:=fun _ _=>rfl
end Go.Proofs.YtjaideekkbpalaaGreat.A
