/- The compact code of some functions: impl.Ahead, impl.ahead. -/
import Derived.Test.YtjpjiiecnffelaaA1
namespace Go.Proofs.Ytjpjiiecnffelaa.A
open Go
/-- impl.Ahead -/
def r11 : RF :=
 ⟨2, [.tmp 4],
 .seq (.reg [⟨none, .locb 2 (.t 0)⟩,
  ⟨none, .locb 3 (.t 1)⟩,
  ⟨none, .mov 4 (.k (.bool false))⟩])
 (.seq (.reg [⟨none, .load 5 2 8 true⟩,
  ⟨none, .load 6 3 8 true⟩,
  ⟨none, .call (some 7) 27 [(.t 5), (.t 6)] false⟩,
  ⟨none, .mov 4 (.t 7)⟩])
 (.ret))⟩
/-- impl.ahead -/
def r27 : RF :=
 ⟨2, [.tmp 4],
 .seq (.reg [⟨none, .locb 2 (.t 0)⟩,
  ⟨none, .locb 3 (.t 1)⟩,
  ⟨none, .mov 4 (.k (.bool false))⟩])
 (.seq (.reg [⟨none, .fad 5 2 5⟩,
  ⟨none, .load 6 5 1 false⟩,
  ⟨none, .bin 7 .neq (.t 6) (.k (.int .i64 (-1)))⟩,
  ⟨none, .mov 8 (.t 7)⟩,
  ⟨some (8, true), .fad 9 2 5⟩,
  ⟨some (8, true), .load 10 9 1 false⟩,
  ⟨some (8, true), .fad 11 3 4⟩,
  ⟨some (8, true), .load 12 11 1 false⟩,
  ⟨some (8, true), .bin 13 .lss (.t 10) (.t 12)⟩,
  ⟨none, .pick 14 (.t 8) (.t 13) (.k (.bool false))⟩,
  ⟨none, .mov 4 (.t 14)⟩])
 (.ret))⟩
/-- The functions of this text, with their numbers. -/
def tI17 : List (Nat × RF) := [(11, r11), (27, r27)]
end Go.Proofs.Ytjpjiiecnffelaa.A
