/- The compact code of some functions: laws.FnExactTxVote. -/
import Derived.Test.YtgogajbfiocdbaaA1
namespace Go.Proofs.Ytgogajbfiocdbaa.A
open Go
/-- laws.FnExactTxVote -/
def r34 : RF :=
 ⟨3, [.tmp 6],
 .seq (.reg [⟨none, .locb 3 (.t 0)⟩,
  ⟨none, .mov 6 (.k (.bool false))⟩])
 (.seq (.reg [⟨none, .load 12 3 10 true⟩,
  ⟨none, .call (some 13) 13 [(.t 12)] false⟩,
  ⟨none, .mov 14 (.t 1)⟩,
  ⟨none, .mov 15 (.t 2)⟩,
  ⟨none, .call (some 16) 35 [(.t 13), (.t 14), (.t 15)] false⟩,
  ⟨none, .mov 11 (.t 16)⟩,
  ⟨none, .ext 17 (.t 11) 0⟩,
  ⟨none, .ext 18 (.t 11) 1⟩,
  ⟨none, .loc 7 [.int .i64 0, .int .u64 0, .int .u64 0, .int .u64 0, .int .i64 0, .bool false, .bool false, .bool false, .bool false, .int .i64 0]⟩,
  ⟨none, .store 7 10 (.t 17)⟩,
  ⟨none, .mov 8 (.t 18)⟩])
 (.seq (.reg [⟨none, .load 20 3 10 true⟩,
  ⟨none, .call (some 21) 13 [(.t 20)] false⟩,
  ⟨none, .mov 22 (.t 1)⟩,
  ⟨none, .mov 23 (.t 2)⟩,
  ⟨none, .call (some 24) 36 [(.t 21), (.t 22), (.t 23)] false⟩,
  ⟨none, .mov 19 (.t 24)⟩,
  ⟨none, .ext 25 (.t 19) 0⟩,
  ⟨none, .ext 26 (.t 19) 1⟩,
  ⟨none, .loc 9 [.int .i64 0, .int .u64 0, .int .u64 0, .int .u64 0, .int .i64 0, .bool false, .bool false, .bool false, .bool false, .int .i64 0]⟩,
  ⟨none, .store 9 10 (.t 25)⟩,
  ⟨none, .mov 10 (.t 26)⟩])
 (.seq (.seq (.reg [⟨none, .load 27 9 10 true⟩,
   ⟨none, .load 28 7 10 true⟩,
   ⟨none, .call (some 29) 22 [(.t 27), (.t 28)] false⟩,
   ⟨none, .not 30 (.t 29)⟩,
   ⟨none, .mov 31 (.t 30)⟩,
   ⟨some (31, false), .mov 32 (.t 10)⟩,
   ⟨some (31, false), .mov 33 (.t 8)⟩,
   ⟨some (31, false), .beq 34 true (.t 32) (.t 33)⟩,
   ⟨none, .pick 35 (.t 31) (.k (.bool true)) (.t 34)⟩])
  (.cond (.t 35)
  (.seq (.reg [⟨none, .mov 6 (.k (.bool false))⟩])
   (.ret))
  (.skip)))
 (.seq (.reg [⟨none, .mov 6 (.k (.bool true))⟩])
 (.ret)))))⟩
/-- The functions of this text, with their numbers. -/
def tWTxVote : List (Nat × RF) := [(34, r34)]
end Go.Proofs.Ytgogajbfiocdbaa.A
