/- The compact code of some functions: laws.toPast. -/
import Derived.Test.YtjpjiiecnffelaaA1
namespace Go.Proofs.Ytjpjiiecnffelaa.A
open Go
/-- laws.toPast -/
def r9 : RF :=
 ⟨1, [.cell 2 8 true],
 .seq (.reg [⟨none, .locb 1 (.t 0)⟩,
  ⟨none, .loc 2 [.int .i64 0, .int .u64 0, .int .u64 0, .int .u64 0, .int .i64 0, .int .i64 0, .int .i64 0, .int .u64 0]⟩])
 (.seq (.reg [⟨none, .loc 3 [.int .i64 0, .int .u64 0, .int .u64 0, .int .u64 0, .int .i64 0, .int .i64 0, .int .i64 0, .int .u64 0]⟩])
 (.seq (.reg [⟨none, .fad 4 1 0⟩,
  ⟨none, .load 5 4 4 true⟩,
  ⟨none, .call (some 6) 26 [(.t 5)] false⟩,
  ⟨none, .fad 7 3 0⟩,
  ⟨none, .store 7 4 (.t 6)⟩])
 (.seq (.reg [⟨none, .fad 8 1 4⟩,
  ⟨none, .load 9 8 1 false⟩,
  ⟨none, .fad 10 3 4⟩,
  ⟨none, .store 10 1 (.t 9)⟩])
 (.seq (.reg [⟨none, .fad 11 1 5⟩,
  ⟨none, .load 12 11 1 false⟩,
  ⟨none, .fad 13 3 5⟩,
  ⟨none, .store 13 1 (.t 12)⟩])
 (.seq (.reg [⟨none, .fad 14 1 6⟩,
  ⟨none, .load 15 14 1 false⟩,
  ⟨none, .fad 16 3 6⟩,
  ⟨none, .store 16 1 (.t 15)⟩])
 (.seq (.reg [⟨none, .fad 17 1 7⟩,
  ⟨none, .load 18 17 1 false⟩,
  ⟨none, .fad 19 3 7⟩,
  ⟨none, .store 19 1 (.t 18)⟩])
 (.seq (.reg [⟨none, .load 20 3 8 true⟩,
  ⟨none, .store 2 8 (.t 20)⟩])
 (.ret))))))))⟩
/-- The functions of this text, with their numbers. -/
def tLPast : List (Nat × RF) := [(9, r9)]
end Go.Proofs.Ytjpjiiecnffelaa.A
