/- The compact code of some functions: laws.FnExactHandDone. -/
import Derived.Test.YtgogajbfiocdbaaA1
namespace Go.Proofs.Ytgogajbfiocdbaa.A
open Go
/-- laws.FnExactHandDone -/
def r81 : RF :=
 ⟨2, [.tmp 4],
 .seq (.reg [⟨none, .locb 2 (.t 0)⟩,
  ⟨none, .locb 3 (.t 1)⟩,
  ⟨none, .mov 4 (.k (.bool false))⟩])
 (.seq (.reg [⟨none, .mov 5 (.k (.int .i64 1048576))⟩])
 (.seq (.reg [⟨none, .load 11 3 10 true⟩,
  ⟨none, .mov 12 (.t 5)⟩,
  ⟨none, .call (some 13) 82 [(.t 11), (.t 12)] false⟩,
  ⟨none, .mov 5 (.t 13)⟩])
 (.seq (.seq (.reg [⟨none, .mov 14 (.t 5)⟩,
   ⟨none, .bin 15 .lss (.t 14) (.k (.int .i64 0))⟩])
  (.cond (.t 15)
  (.seq (.reg [⟨none, .mov 4 (.k (.bool true))⟩])
   (.ret))
  (.skip)))
 (.seq (.reg [⟨none, .chk [6]⟩,
  ⟨none, .loc 6 [.int .u64 0, .int .i64 0, .int .i64 0, .int .i64 0, .int .i64 0]⟩,
  ⟨none, .load 17 2 5 true⟩,
  ⟨none, .load 19 3 10 true⟩,
  ⟨none, .call (some 18) 2 [(.t 17)] true⟩,
  ⟨none, .call (some 20) 83 [(.t 19)] true⟩,
  ⟨none, .call (some 21) 84 [(.t 18), (.t 20)] true⟩,
  ⟨none, .mov 16 (.t 21)⟩,
  ⟨none, .ext 22 (.t 16) 0⟩,
  ⟨none, .ext 23 (.t 16) 1⟩,
  ⟨none, .store 6 5 (.t 22)⟩,
  ⟨none, .mov 7 (.t 23)⟩])
 (.seq (.reg [⟨none, .load 24 3 10 true⟩,
  ⟨none, .call (some 25) 83 [(.t 24)] false⟩,
  ⟨none, .loc 8 [.int .i64 0, .int .u64 0, .int .i64 0, .int .i64 0, .int .u64 0, .int .u64 0, .int .i64 0, .int .i64 0, .nil, .nil]⟩,
  ⟨none, .store 8 10 (.t 25)⟩])
 (.seq (.reg [⟨none, .chk [9]⟩,
  ⟨none, .loc 9 [.int .u64 0, .int .i64 0, .int .i64 0, .int .i64 0, .int .i64 0]⟩,
  ⟨none, .load 27 2 5 true⟩,
  ⟨none, .load 29 8 10 true⟩,
  ⟨none, .call (some 28) 2 [(.t 27)] true⟩,
  ⟨none, .call (some 30) 85 [(.t 28), (.t 29)] true⟩,
  ⟨none, .mov 26 (.t 30)⟩,
  ⟨none, .ext 31 (.t 26) 0⟩,
  ⟨none, .ext 32 (.t 26) 1⟩,
  ⟨none, .store 9 5 (.t 31)⟩,
  ⟨none, .mov 10 (.t 32)⟩])
 (.seq (.seq (.reg [⟨none, .load 33 9 5 true⟩,
   ⟨none, .load 34 6 5 true⟩,
   ⟨none, .call (some 35) 86 [(.t 33), (.t 34)] false⟩,
   ⟨none, .not 36 (.t 35)⟩,
   ⟨none, .mov 37 (.t 36)⟩,
   ⟨some (37, false), .mov 38 (.t 10)⟩,
   ⟨some (37, false), .mov 39 (.t 7)⟩,
   ⟨some (37, false), .beq 40 true (.t 38) (.t 39)⟩,
   ⟨none, .pick 41 (.t 37) (.k (.bool true)) (.t 40)⟩])
  (.cond (.t 41)
  (.seq (.reg [⟨none, .mov 4 (.k (.bool false))⟩])
   (.ret))
  (.skip)))
 (.seq (.seq (.reg [⟨none, .chk []⟩,
   ⟨none, .load 42 8 10 true⟩,
   ⟨none, .load 43 3 10 true⟩,
   ⟨none, .call (some 44) 83 [(.t 43)] true⟩,
   ⟨none, .call (some 45) 87 [(.t 42), (.t 44)] true⟩,
   ⟨none, .not 46 (.t 45)⟩])
  (.cond (.t 46)
  (.seq (.reg [⟨none, .mov 4 (.k (.bool false))⟩])
   (.ret))
  (.skip)))
 (.seq (.reg [⟨none, .mov 4 (.k (.bool true))⟩])
 (.ret))))))))))⟩
/-- The functions of this text, with their numbers. -/
def tWHandDone : List (Nat × RF) := [(81, r81)]
end Go.Proofs.Ytgogajbfiocdbaa.A
