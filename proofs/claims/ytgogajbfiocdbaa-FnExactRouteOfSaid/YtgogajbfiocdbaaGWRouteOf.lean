/- The compact code of some functions: laws.FnExactRouteOf. -/
import Derived.Test.YtgogajbfiocdbaaA1
namespace Go.Proofs.Ytgogajbfiocdbaa.A
open Go
/-- laws.FnExactRouteOf -/
def r66 : RF :=
 ⟨2, [.tmp 4],
 .seq (.reg [⟨none, .locb 2 (.t 0)⟩,
  ⟨none, .mov 4 (.k (.bool false))⟩])
 (.seq (.reg [⟨none, .mov 5 (.k (.int .i64 1048576))⟩])
 (.seq (.reg [⟨none, .load 11 2 5 true⟩,
  ⟨none, .mov 12 (.t 5)⟩,
  ⟨none, .call (some 13) 67 [(.t 11), (.t 12)] false⟩,
  ⟨none, .mov 5 (.t 13)⟩])
 (.seq (.seq (.reg [⟨none, .mov 14 (.t 5)⟩,
   ⟨none, .bin 15 .lss (.t 14) (.k (.int .i64 0))⟩])
  (.cond (.t 15)
  (.seq (.reg [⟨none, .mov 4 (.k (.bool true))⟩])
   (.ret))
  (.skip)))
 (.seq (.reg [⟨none, .load 17 2 5 true⟩,
  ⟨none, .call (some 18) 68 [(.t 17)] false⟩,
  ⟨none, .mov 19 (.t 1)⟩,
  ⟨none, .call (some 20) 69 [(.t 18), (.t 19)] false⟩,
  ⟨none, .mov 16 (.t 20)⟩,
  ⟨none, .ext 21 (.t 16) 0⟩,
  ⟨none, .ext 22 (.t 16) 1⟩,
  ⟨none, .mov 6 (.t 21)⟩,
  ⟨none, .mov 7 (.t 22)⟩])
 (.seq (.reg [⟨none, .load 23 2 5 true⟩,
  ⟨none, .call (some 24) 68 [(.t 23)] false⟩,
  ⟨none, .loc 8 [.int .i64 0, .nil, .bool false, .int .u64 0, .int .i64 0]⟩,
  ⟨none, .store 8 5 (.t 24)⟩])
 (.seq (.reg [⟨none, .load 26 8 5 true⟩,
  ⟨none, .mov 27 (.t 1)⟩,
  ⟨none, .call (some 28) 70 [(.t 26), (.t 27)] false⟩,
  ⟨none, .mov 25 (.t 28)⟩,
  ⟨none, .ext 29 (.t 25) 0⟩,
  ⟨none, .ext 30 (.t 25) 1⟩,
  ⟨none, .mov 9 (.t 29)⟩,
  ⟨none, .mov 10 (.t 30)⟩])
 (.seq (.seq (.reg [⟨none, .mov 31 (.t 9)⟩,
   ⟨none, .mov 32 (.t 6)⟩,
   ⟨none, .bin 33 .neq (.t 31) (.t 32)⟩,
   ⟨none, .mov 34 (.t 33)⟩,
   ⟨some (34, false), .mov 35 (.t 10)⟩,
   ⟨some (34, false), .mov 36 (.t 7)⟩,
   ⟨some (34, false), .bin 37 .neq (.t 35) (.t 36)⟩,
   ⟨none, .pick 38 (.t 34) (.k (.bool true)) (.t 37)⟩])
  (.cond (.t 38)
  (.seq (.reg [⟨none, .mov 4 (.k (.bool false))⟩])
   (.ret))
  (.skip)))
 (.seq (.seq (.reg [⟨none, .chk []⟩,
   ⟨none, .load 39 8 5 true⟩,
   ⟨none, .load 40 2 5 true⟩,
   ⟨none, .call (some 41) 68 [(.t 40)] true⟩,
   ⟨none, .call (some 42) 71 [(.t 39), (.t 41)] true⟩,
   ⟨none, .not 43 (.t 42)⟩])
  (.cond (.t 43)
  (.seq (.reg [⟨none, .mov 4 (.k (.bool false))⟩])
   (.ret))
  (.skip)))
 (.seq (.reg [⟨none, .mov 4 (.k (.bool true))⟩])
 (.ret))))))))))⟩
/-- The functions of this text, with their numbers. -/
def tWRouteOf : List (Nat × RF) := [(66, r66)]
end Go.Proofs.Ytgogajbfiocdbaa.A
