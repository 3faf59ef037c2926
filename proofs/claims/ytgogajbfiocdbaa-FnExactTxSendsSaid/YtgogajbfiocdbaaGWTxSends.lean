/- The compact code of some functions: laws.FnExactTxSends. -/
import Derived.Test.YtgogajbfiocdbaaA1
namespace Go.Proofs.Ytgogajbfiocdbaa.A
open Go
/-- laws.FnExactTxSends -/
def r45 : RF :=
 ⟨1, [.tmp 2],
 .seq (.reg [⟨none, .locb 1 (.t 0)⟩,
  ⟨none, .mov 2 (.k (.bool false))⟩])
 (.seq (.reg [⟨none, .load 8 1 10 true⟩,
  ⟨none, .call (some 9) 13 [(.t 8)] false⟩,
  ⟨none, .call (some 10) 46 [(.t 9)] false⟩,
  ⟨none, .mov 3 (.t 10)⟩])
 (.seq (.reg [⟨none, .load 11 1 10 true⟩,
  ⟨none, .call (some 12) 13 [(.t 11)] false⟩,
  ⟨none, .call (some 13) 47 [(.t 12)] false⟩,
  ⟨none, .mov 4 (.t 13)⟩])
 (.seq (.seq (.reg [⟨none, .mov 14 (.t 4)⟩,
   ⟨none, .mov 15 (.t 3)⟩,
   ⟨none, .call (some 16) 48 [(.t 14), (.t 15)] false⟩,
   ⟨none, .not 17 (.t 16)⟩])
  (.cond (.t 17)
  (.seq (.reg [⟨none, .mov 2 (.k (.bool false))⟩])
   (.ret))
  (.skip)))
 (.seq (.reg [⟨none, .mov 5 (.k (.int .i64 1))⟩])
 (.seq (.reg [⟨none, .mov 18 (.t 4)⟩,
  ⟨none, .mov 19 (.t 5)⟩,
  ⟨none, .call (some 20) 49 [(.t 18), (.t 19)] false⟩,
  ⟨none, .mov 5 (.t 20)⟩])
 (.seq (.reg [⟨none, .mov 6 (.k (.int .i64 1))⟩])
 (.seq (.reg [⟨none, .mov 21 (.t 4)⟩,
  ⟨none, .mov 22 (.t 6)⟩,
  ⟨none, .call (some 23) 50 [(.t 21), (.t 22)] false⟩,
  ⟨none, .mov 6 (.t 23)⟩])
 (.seq (.seq (.reg [⟨none, .mov 24 (.t 6)⟩,
   ⟨none, .bin 25 .lss (.t 24) (.k (.int .i64 0))⟩])
  (.cond (.t 25)
  (.seq (.reg [⟨none, .mov 2 (.k (.bool false))⟩])
   (.ret))
  (.skip)))
 (.seq (.seq (.reg [⟨none, .mov 26 (.t 6)⟩,
   ⟨none, .mov 27 (.t 5)⟩,
   ⟨none, .bin 28 .neq (.t 26) (.t 27)⟩])
  (.cond (.t 28)
  (.seq (.reg [⟨none, .mov 2 (.k (.bool false))⟩])
   (.ret))
  (.skip)))
 (.seq (.reg [⟨none, .load 29 1 10 true⟩,
  ⟨none, .call (some 30) 13 [(.t 29)] false⟩,
  ⟨none, .call (some 31) 47 [(.t 30)] false⟩,
  ⟨none, .mov 7 (.t 31)⟩])
 (.seq (.seq (.reg [⟨none, .mov 32 (.t 7)⟩,
   ⟨none, .mov 33 (.t 3)⟩,
   ⟨none, .call (some 34) 48 [(.t 32), (.t 33)] false⟩,
   ⟨none, .not 35 (.t 34)⟩])
  (.cond (.t 35)
  (.seq (.reg [⟨none, .mov 2 (.k (.bool false))⟩])
   (.ret))
  (.skip)))
 (.seq (.reg [⟨none, .mov 6 (.k (.int .i64 1))⟩])
 (.seq (.reg [⟨none, .mov 36 (.t 4)⟩,
  ⟨none, .mov 37 (.t 6)⟩,
  ⟨none, .call (some 38) 50 [(.t 36), (.t 37)] false⟩,
  ⟨none, .mov 6 (.t 38)⟩])
 (.seq (.seq (.reg [⟨none, .mov 39 (.t 6)⟩,
   ⟨none, .bin 40 .lss (.t 39) (.k (.int .i64 0))⟩])
  (.cond (.t 40)
  (.seq (.reg [⟨none, .mov 2 (.k (.bool false))⟩])
   (.ret))
  (.skip)))
 (.seq (.seq (.reg [⟨none, .mov 41 (.t 6)⟩,
   ⟨none, .mov 42 (.t 5)⟩,
   ⟨none, .bin 43 .neq (.t 41) (.t 42)⟩])
  (.cond (.t 43)
  (.seq (.reg [⟨none, .mov 2 (.k (.bool false))⟩])
   (.ret))
  (.skip)))
 (.seq (.reg [⟨none, .mov 2 (.k (.bool true))⟩])
 (.ret)))))))))))))))))⟩
/-- The functions of this text, with their numbers. -/
def tWTxSends : List (Nat × RF) := [(45, r45)]
end Go.Proofs.Ytgogajbfiocdbaa.A
