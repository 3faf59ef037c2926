/- The compact code of some functions: laws.FnExactPastOk. -/
import Derived.Test.YtgogajbfiocdbaaA1
namespace Go.Proofs.Ytgogajbfiocdbaa.A
open Go
/-- laws.FnExactPastOk -/
def r39 : RF :=
 ⟨1, [.tmp 2],
 .seq (.reg [⟨none, .mov 2 (.k (.bool false))⟩])
 (.seq (.reg [⟨none, .mov 3 (.k (.int .i64 1048576))⟩])
 (.seq (.reg [⟨none, .mov 7 (.t 0)⟩,
  ⟨none, .mov 8 (.t 3)⟩,
  ⟨none, .call (some 9) 40 [(.t 7), (.t 8)] false⟩,
  ⟨none, .mov 3 (.t 9)⟩])
 (.seq (.seq (.reg [⟨none, .mov 10 (.t 3)⟩,
   ⟨none, .bin 11 .lss (.t 10) (.k (.int .i64 0))⟩])
  (.cond (.t 11)
  (.seq (.reg [⟨none, .mov 2 (.k (.bool true))⟩])
   (.ret))
  (.skip)))
 (.seq (.reg [⟨none, .mov 12 (.t 0)⟩,
  ⟨none, .call (some 13) 41 [(.t 12)] false⟩,
  ⟨none, .call (some 14) 42 [(.t 13)] false⟩,
  ⟨none, .mov 4 (.t 14)⟩])
 (.seq (.reg [⟨none, .mov 15 (.t 0)⟩,
  ⟨none, .call (some 16) 41 [(.t 15)] false⟩,
  ⟨none, .mov 5 (.t 16)⟩])
 (.seq (.reg [⟨none, .mov 17 (.t 5)⟩,
  ⟨none, .call (some 18) 43 [(.t 17)] false⟩,
  ⟨none, .mov 6 (.t 18)⟩])
 (.seq (.seq (.reg [⟨none, .mov 19 (.t 6)⟩,
   ⟨none, .mov 20 (.t 4)⟩,
   ⟨none, .beq 21 true (.t 19) (.t 20)⟩])
  (.cond (.t 21)
  (.seq (.reg [⟨none, .mov 2 (.k (.bool false))⟩])
   (.ret))
  (.skip)))
 (.seq (.seq (.reg [⟨none, .mov 22 (.t 5)⟩,
   ⟨none, .mov 23 (.t 0)⟩,
   ⟨none, .call (some 24) 41 [(.t 23)] false⟩,
   ⟨none, .call (some 25) 44 [(.t 22), (.t 24)] false⟩,
   ⟨none, .not 26 (.t 25)⟩])
  (.cond (.t 26)
  (.seq (.reg [⟨none, .mov 2 (.k (.bool false))⟩])
   (.ret))
  (.skip)))
 (.seq (.reg [⟨none, .mov 2 (.k (.bool true))⟩])
 (.ret))))))))))⟩
/-- The functions of this text, with their numbers. -/
def tWPastOk : List (Nat × RF) := [(39, r39)]
end Go.Proofs.Ytgogajbfiocdbaa.A
