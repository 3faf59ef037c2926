/- The compact code of some functions: spec.HandOk. -/
import Derived.Test.YtjpjiiecnffelaaA1
namespace Go.Proofs.Ytjpjiiecnffelaa.A
open Go
/-- spec.HandOk -/
def r3 : RF :=
 ⟨1, [.tmp 2],
 .seq (.reg [⟨none, .locb 1 (.t 0)⟩,
  ⟨none, .mov 2 (.k (.bool false))⟩])
 (.seq (.reg [⟨none, .fad 3 1 1⟩,
  ⟨none, .load 4 3 1 false⟩,
  ⟨none, .call (some 5) 5 [(.t 4), (.k (.int .i64 0)), (.k (.int .i64 99))] false⟩,
  ⟨none, .mov 6 (.t 5)⟩,
  ⟨some (6, true), .fad 7 1 2⟩,
  ⟨some (6, true), .load 8 7 1 false⟩,
  ⟨some (6, true), .call (some 9) 5 [(.t 8), (.k (.int .i64 0)), (.k (.int .i64 99))] false⟩,
  ⟨none, .pick 10 (.t 6) (.t 9) (.k (.bool false))⟩,
  ⟨none, .mov 11 (.t 10)⟩,
  ⟨some (11, true), .fad 12 1 1⟩,
  ⟨some (11, true), .load 13 12 1 false⟩,
  ⟨some (11, true), .fad 14 1 2⟩,
  ⟨some (11, true), .load 15 14 1 false⟩,
  ⟨some (11, true), .bin 16 .neq (.t 13) (.t 15)⟩,
  ⟨none, .pick 17 (.t 11) (.t 16) (.k (.bool false))⟩,
  ⟨none, .mov 18 (.t 17)⟩,
  ⟨some (18, true), .fad 19 1 3⟩,
  ⟨some (18, true), .load 20 19 1 false⟩,
  ⟨some (18, true), .call (some 21) 5 [(.t 20), (.k (.int .i64 1)), (.k (.int .i64 999999))] false⟩,
  ⟨none, .pick 22 (.t 18) (.t 21) (.k (.bool false))⟩,
  ⟨none, .mov 23 (.t 22)⟩,
  ⟨some (23, true), .fad 24 1 4⟩,
  ⟨some (23, true), .load 25 24 1 false⟩,
  ⟨some (23, true), .call (some 26) 5 [(.t 25), (.k (.int .i64 0)), (.k (.int .i64 3))] false⟩,
  ⟨none, .pick 27 (.t 23) (.t 26) (.k (.bool false))⟩,
  ⟨none, .mov 2 (.t 27)⟩])
 (.ret))⟩
/-- The functions of this text, with their numbers. -/
def tS15 : List (Nat × RF) := [(3, r3)]
end Go.Proofs.Ytjpjiiecnffelaa.A
