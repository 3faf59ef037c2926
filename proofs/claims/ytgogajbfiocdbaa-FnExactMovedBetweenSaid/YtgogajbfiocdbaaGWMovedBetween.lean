/- The compact code of some functions: laws.FnExactMovedBetween. -/
import Derived.Test.YtgogajbfiocdbaaA1
namespace Go.Proofs.Ytgogajbfiocdbaa.A
open Go
/-- laws.FnExactMovedBetween -/
def r72 : RF :=
 ⟨3, [.tmp 6],
 .seq (.reg [⟨none, .locb 3 (.t 0)⟩,
  ⟨none, .locb 4 (.t 1)⟩,
  ⟨none, .mov 6 (.k (.bool false))⟩])
 (.seq (.reg [⟨none, .mov 7 (.k (.int .i64 1048576))⟩])
 (.seq (.reg [⟨none, .load 12 3 5 true⟩,
  ⟨none, .mov 13 (.t 7)⟩,
  ⟨none, .call (some 14) 67 [(.t 12), (.t 13)] false⟩,
  ⟨none, .mov 7 (.t 14)⟩])
 (.seq (.seq (.reg [⟨none, .mov 15 (.t 7)⟩,
   ⟨none, .bin 16 .lss (.t 15) (.k (.int .i64 0))⟩])
  (.cond (.t 16)
  (.seq (.reg [⟨none, .mov 6 (.k (.bool true))⟩])
   (.ret))
  (.skip)))
 (.seq (.reg [⟨none, .load 17 4 5 true⟩,
  ⟨none, .mov 18 (.t 7)⟩,
  ⟨none, .call (some 19) 67 [(.t 17), (.t 18)] false⟩,
  ⟨none, .mov 7 (.t 19)⟩])
 (.seq (.seq (.reg [⟨none, .mov 20 (.t 7)⟩,
   ⟨none, .bin 21 .lss (.t 20) (.k (.int .i64 0))⟩])
  (.cond (.t 21)
  (.seq (.reg [⟨none, .mov 6 (.k (.bool true))⟩])
   (.ret))
  (.skip)))
 (.seq (.reg [⟨none, .chk []⟩,
  ⟨none, .mov 26 (.t 2)⟩,
  ⟨none, .load 22 3 5 true⟩,
  ⟨none, .load 24 4 5 true⟩,
  ⟨none, .call (some 23) 68 [(.t 22)] true⟩,
  ⟨none, .call (some 25) 68 [(.t 24)] true⟩,
  ⟨none, .call (some 27) 73 [(.t 23), (.t 25), (.t 26)] true⟩,
  ⟨none, .mov 8 (.t 27)⟩])
 (.seq (.reg [⟨none, .load 28 3 5 true⟩,
  ⟨none, .call (some 29) 68 [(.t 28)] false⟩,
  ⟨none, .loc 9 [.int .i64 0, .nil, .bool false, .int .u64 0, .int .i64 0]⟩,
  ⟨none, .store 9 5 (.t 29)⟩])
 (.seq (.reg [⟨none, .load 30 4 5 true⟩,
  ⟨none, .call (some 31) 68 [(.t 30)] false⟩,
  ⟨none, .loc 10 [.int .i64 0, .nil, .bool false, .int .u64 0, .int .i64 0]⟩,
  ⟨none, .store 10 5 (.t 31)⟩])
 (.seq (.reg [⟨none, .load 32 9 5 true⟩,
  ⟨none, .load 33 10 5 true⟩,
  ⟨none, .mov 34 (.t 2)⟩,
  ⟨none, .call (some 35) 74 [(.t 32), (.t 33), (.t 34)] false⟩,
  ⟨none, .mov 11 (.t 35)⟩])
 (.seq (.seq (.reg [⟨none, .mov 36 (.t 11)⟩,
   ⟨none, .mov 37 (.t 8)⟩,
   ⟨none, .beq 38 true (.t 36) (.t 37)⟩])
  (.cond (.t 38)
  (.seq (.reg [⟨none, .mov 6 (.k (.bool false))⟩])
   (.ret))
  (.skip)))
 (.seq (.seq (.reg [⟨none, .chk []⟩,
   ⟨none, .load 39 9 5 true⟩,
   ⟨none, .load 40 3 5 true⟩,
   ⟨none, .call (some 41) 68 [(.t 40)] true⟩,
   ⟨none, .call (some 42) 71 [(.t 39), (.t 41)] true⟩,
   ⟨none, .not 43 (.t 42)⟩])
  (.cond (.t 43)
  (.seq (.reg [⟨none, .mov 6 (.k (.bool false))⟩])
   (.ret))
  (.skip)))
 (.seq (.seq (.reg [⟨none, .chk []⟩,
   ⟨none, .load 44 10 5 true⟩,
   ⟨none, .load 45 4 5 true⟩,
   ⟨none, .call (some 46) 68 [(.t 45)] true⟩,
   ⟨none, .call (some 47) 71 [(.t 44), (.t 46)] true⟩,
   ⟨none, .not 48 (.t 47)⟩])
  (.cond (.t 48)
  (.seq (.reg [⟨none, .mov 6 (.k (.bool false))⟩])
   (.ret))
  (.skip)))
 (.seq (.reg [⟨none, .mov 6 (.k (.bool true))⟩])
 (.ret))))))))))))))⟩
/-- The functions of this text, with their numbers. -/
def tWMovedBetween : List (Nat × RF) := [(72, r72)]
end Go.Proofs.Ytgogajbfiocdbaa.A
