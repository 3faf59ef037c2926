/- The compact code of some functions: spec.Ahead. -/
import Derived.Test.YtjpjiiecnffelaaA1
namespace Go.Proofs.Ytjpjiiecnffelaa.A
open Go
/-- spec.Ahead -/
def r10 : RF :=
 ⟨2, [.tmp 4],
 .seq (.reg [⟨none, .locb 2 (.t 0)⟩,
  ⟨none, .locb 3 (.t 1)⟩,
  ⟨none, .mov 4 (.k (.bool false))⟩])
 (.seq (.reg [⟨none, .fad 5 2 5⟩,
  ⟨none, .load 6 5 1 false⟩,
  ⟨none, .bin 7 .neq (.t 6) (.k (.int .i64 (-1)))⟩,
  ⟨none, .mov 8 (.t 7)⟩,
  ⟨some (8, true), .fad 9 2 5⟩,
  ⟨some (8, true), .load 10 9 1 false⟩,
  ⟨some (8, true), .fad 11 3 4⟩,
  ⟨some (8, true), .load 12 11 1 false⟩,
  ⟨some (8, true), .bin 13 .lss (.t 10) (.t 12)⟩,
  ⟨none, .pick 14 (.t 8) (.t 13) (.k (.bool false))⟩,
  ⟨none, .mov 4 (.t 14)⟩])
 (.ret))⟩
/-- The functions of this text, with their numbers. -/
def tS17 : List (Nat × RF) := [(10, r10)]
end Go.Proofs.Ytjpjiiecnffelaa.A
