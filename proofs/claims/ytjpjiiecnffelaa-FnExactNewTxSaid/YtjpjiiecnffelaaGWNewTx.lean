/- The compact code of some functions: laws.FnExactNewTx. -/
import Derived.Test.YtjpjiiecnffelaaA1
namespace Go.Proofs.Ytjpjiiecnffelaa.A
open Go
/-- laws.FnExactNewTx -/
def r19 : RF :=
 ⟨4, [.tmp 8],
 .seq (.reg [⟨none, .mov 8 (.k (.bool false))⟩])
 (.seq (.reg [⟨none, .mov 14 (.t 0)⟩,
  ⟨none, .mov 15 (.t 1)⟩,
  ⟨none, .mov 16 (.t 2)⟩,
  ⟨none, .mov 17 (.t 3)⟩,
  ⟨none, .call (some 18) 20 [(.t 14), (.t 15), (.t 16), (.t 17)] false⟩,
  ⟨none, .mov 13 (.t 18)⟩,
  ⟨none, .ext 19 (.t 13) 0⟩,
  ⟨none, .ext 20 (.t 13) 1⟩,
  ⟨none, .loc 9 [.int .i64 0, .int .u64 0, .int .u64 0, .int .u64 0, .int .i64 0, .bool false, .bool false, .bool false, .bool false, .int .i64 0]⟩,
  ⟨none, .store 9 10 (.t 19)⟩,
  ⟨none, .mov 10 (.t 20)⟩])
 (.seq (.reg [⟨none, .mov 22 (.t 0)⟩,
  ⟨none, .mov 23 (.t 1)⟩,
  ⟨none, .mov 24 (.t 2)⟩,
  ⟨none, .mov 25 (.t 3)⟩,
  ⟨none, .call (some 26) 21 [(.t 22), (.t 23), (.t 24), (.t 25)] false⟩,
  ⟨none, .mov 21 (.t 26)⟩,
  ⟨none, .ext 27 (.t 21) 0⟩,
  ⟨none, .ext 28 (.t 21) 1⟩,
  ⟨none, .loc 11 [.int .i64 0, .int .u64 0, .int .u64 0, .int .u64 0, .int .i64 0, .bool false, .bool false, .bool false, .bool false, .int .i64 0]⟩,
  ⟨none, .store 11 10 (.t 27)⟩,
  ⟨none, .mov 12 (.t 28)⟩])
 (.seq (.seq (.reg [⟨none, .load 29 11 10 true⟩,
   ⟨none, .load 30 9 10 true⟩,
   ⟨none, .call (some 31) 22 [(.t 29), (.t 30)] false⟩,
   ⟨none, .not 32 (.t 31)⟩,
   ⟨none, .mov 33 (.t 32)⟩,
   ⟨some (33, false), .mov 34 (.t 12)⟩,
   ⟨some (33, false), .mov 35 (.t 10)⟩,
   ⟨some (33, false), .beq 36 true (.t 34) (.t 35)⟩,
   ⟨none, .pick 37 (.t 33) (.k (.bool true)) (.t 36)⟩])
  (.cond (.t 37)
  (.seq (.reg [⟨none, .mov 8 (.k (.bool false))⟩])
   (.ret))
  (.skip)))
 (.seq (.reg [⟨none, .mov 8 (.k (.bool true))⟩])
 (.ret)))))⟩
/-- The functions of this text, with their numbers. -/
def tWNewTx : List (Nat × RF) := [(19, r19)]
end Go.Proofs.Ytjpjiiecnffelaa.A
