/- The compact code of some functions: spec.l01In. -/
import Derived.Test.YtgogajbfiocdbaaA1
namespace Go.Proofs.Ytgogajbfiocdbaa.A
open Go
/-- spec.l01In -/
def r5 : RF :=
 ⟨3, [.tmp 6],
 .seq (.reg [⟨none, .mov 6 (.k (.bool false))⟩])
 (.seq (.reg [⟨none, .mov 7 (.t 1)⟩,
  ⟨none, .mov 8 (.t 0)⟩,
  ⟨none, .bin 9 .leq (.t 7) (.t 8)⟩,
  ⟨none, .mov 10 (.t 9)⟩,
  ⟨some (10, true), .mov 11 (.t 0)⟩,
  ⟨some (10, true), .mov 12 (.t 2)⟩,
  ⟨some (10, true), .bin 13 .leq (.t 11) (.t 12)⟩,
  ⟨none, .pick 14 (.t 10) (.t 13) (.k (.bool false))⟩,
  ⟨none, .mov 6 (.t 14)⟩])
 (.ret))⟩
/-- The functions of this text, with their numbers. -/
def tS01d : List (Nat × RF) := [(5, r5)]
end Go.Proofs.Ytgogajbfiocdbaa.A
