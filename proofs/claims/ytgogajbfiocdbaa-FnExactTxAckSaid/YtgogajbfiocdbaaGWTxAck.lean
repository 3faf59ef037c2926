/- The compact code of some functions: laws.FnExactTxAck. -/
import Derived.Test.YtgogajbfiocdbaaA1
namespace Go.Proofs.Ytgogajbfiocdbaa.A
open Go
/-- laws.FnExactTxAck -/
def r31 : RF :=
 ⟨2, [.tmp 4],
 .seq (.reg [⟨none, .locb 2 (.t 0)⟩,
  ⟨none, .mov 4 (.k (.bool false))⟩])
 (.seq (.reg [⟨none, .load 10 2 10 true⟩,
  ⟨none, .call (some 11) 13 [(.t 10)] false⟩,
  ⟨none, .mov 12 (.t 1)⟩,
  ⟨none, .call (some 13) 32 [(.t 11), (.t 12)] false⟩,
  ⟨none, .mov 9 (.t 13)⟩,
  ⟨none, .ext 14 (.t 9) 0⟩,
  ⟨none, .ext 15 (.t 9) 1⟩,
  ⟨none, .loc 5 [.int .i64 0, .int .u64 0, .int .u64 0, .int .u64 0, .int .i64 0, .bool false, .bool false, .bool false, .bool false, .int .i64 0]⟩,
  ⟨none, .store 5 10 (.t 14)⟩,
  ⟨none, .mov 6 (.t 15)⟩])
 (.seq (.reg [⟨none, .load 17 2 10 true⟩,
  ⟨none, .call (some 18) 13 [(.t 17)] false⟩,
  ⟨none, .mov 19 (.t 1)⟩,
  ⟨none, .call (some 20) 33 [(.t 18), (.t 19)] false⟩,
  ⟨none, .mov 16 (.t 20)⟩,
  ⟨none, .ext 21 (.t 16) 0⟩,
  ⟨none, .ext 22 (.t 16) 1⟩,
  ⟨none, .loc 7 [.int .i64 0, .int .u64 0, .int .u64 0, .int .u64 0, .int .i64 0, .bool false, .bool false, .bool false, .bool false, .int .i64 0]⟩,
  ⟨none, .store 7 10 (.t 21)⟩,
  ⟨none, .mov 8 (.t 22)⟩])
 (.seq (.seq (.reg [⟨none, .load 23 7 10 true⟩,
   ⟨none, .load 24 5 10 true⟩,
   ⟨none, .call (some 25) 22 [(.t 23), (.t 24)] false⟩,
   ⟨none, .not 26 (.t 25)⟩,
   ⟨none, .mov 27 (.t 26)⟩,
   ⟨some (27, false), .mov 28 (.t 8)⟩,
   ⟨some (27, false), .mov 29 (.t 6)⟩,
   ⟨some (27, false), .beq 30 true (.t 28) (.t 29)⟩,
   ⟨none, .pick 31 (.t 27) (.k (.bool true)) (.t 30)⟩])
  (.cond (.t 31)
  (.seq (.reg [⟨none, .mov 4 (.k (.bool false))⟩])
   (.ret))
  (.skip)))
 (.seq (.reg [⟨none, .mov 4 (.k (.bool true))⟩])
 (.ret)))))⟩
/-- The functions of this text, with their numbers. -/
def tWTxAck : List (Nat × RF) := [(31, r31)]
end Go.Proofs.Ytgogajbfiocdbaa.A
