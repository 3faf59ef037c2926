/- The compact code of some functions: impl.HandOk, impl.isHand. -/
import Derived.Test.YtjpjiiecnffelaaA1
namespace Go.Proofs.Ytjpjiiecnffelaa.A
open Go
/-- impl.HandOk -/
def r4 : RF :=
 ⟨1, [.tmp 2],
 .seq (.reg [⟨none, .locb 1 (.t 0)⟩,
  ⟨none, .mov 2 (.k (.bool false))⟩])
 (.seq (.reg [⟨none, .load 3 1 5 true⟩,
  ⟨none, .call (some 4) 6 [(.t 3)] false⟩,
  ⟨none, .mov 2 (.t 4)⟩])
 (.ret))⟩
/-- impl.isHand -/
def r6 : RF :=
 ⟨1, [.tmp 2],
 .seq (.reg [⟨none, .locb 1 (.t 0)⟩,
  ⟨none, .mov 2 (.k (.bool false))⟩])
 (.seq (.reg [⟨none, .fad 3 1 1⟩,
  ⟨none, .load 4 3 1 false⟩,
  ⟨none, .call (some 5) 7 [(.t 4)] false⟩,
  ⟨none, .mov 6 (.t 5)⟩,
  ⟨some (6, true), .fad 7 1 2⟩,
  ⟨some (6, true), .load 8 7 1 false⟩,
  ⟨some (6, true), .call (some 9) 7 [(.t 8)] false⟩,
  ⟨none, .pick 10 (.t 6) (.t 9) (.k (.bool false))⟩,
  ⟨none, .mov 11 (.t 10)⟩,
  ⟨some (11, true), .fad 12 1 1⟩,
  ⟨some (11, true), .load 13 12 1 false⟩,
  ⟨some (11, true), .fad 14 1 2⟩,
  ⟨some (11, true), .load 15 14 1 false⟩,
  ⟨some (11, true), .bin 16 .neq (.t 13) (.t 15)⟩,
  ⟨none, .pick 17 (.t 11) (.t 16) (.k (.bool false))⟩,
  ⟨none, .mov 18 (.t 17)⟩,
  ⟨some (18, true), .fad 19 1 3⟩,
  ⟨some (18, true), .load 20 19 1 false⟩,
  ⟨some (18, true), .bin 21 .geq (.t 20) (.k (.int .i64 1))⟩,
  ⟨none, .pick 22 (.t 18) (.t 21) (.k (.bool false))⟩,
  ⟨none, .mov 23 (.t 22)⟩,
  ⟨some (23, true), .fad 24 1 3⟩,
  ⟨some (23, true), .load 25 24 1 false⟩,
  ⟨some (23, true), .bin 26 .lss (.t 25) (.k (.int .i64 1000000))⟩,
  ⟨none, .pick 27 (.t 23) (.t 26) (.k (.bool false))⟩,
  ⟨none, .mov 28 (.t 27)⟩,
  ⟨some (28, true), .fad 29 1 4⟩,
  ⟨some (28, true), .load 30 29 1 false⟩,
  ⟨some (28, true), .bin 31 .geq (.t 30) (.k (.int .i64 0))⟩,
  ⟨none, .pick 32 (.t 28) (.t 31) (.k (.bool false))⟩,
  ⟨none, .mov 33 (.t 32)⟩,
  ⟨some (33, true), .fad 34 1 4⟩,
  ⟨some (33, true), .load 35 34 1 false⟩,
  ⟨some (33, true), .bin 36 .leq (.t 35) (.k (.int .i64 3))⟩,
  ⟨none, .pick 37 (.t 33) (.t 36) (.k (.bool false))⟩,
  ⟨none, .mov 2 (.t 37)⟩])
 (.ret))⟩
/-- The functions of this text, with their numbers. -/
def tI15 : List (Nat × RF) := [(4, r4), (6, r6)]
end Go.Proofs.Ytjpjiiecnffelaa.A
